/-
  Facts of the tie.
-/
import Derived.Test.YtdincjlkfbeedaaGreatDoorTa
import Derived.LaidByTextLater
import Derived.SevenTiedAt
set_option linter.all false
namespace Go.Proofs.YtdincjlkfbeedaaGreatDoor
open Go
theorem tG (os : Os) (tape : Nat → Question → Nat) : varsDone Tryz.prog 400 (varsId Tryz.prog) os tape = true := by kernel_rfl
end Go.Proofs.YtdincjlkfbeedaaGreatDoor
namespace Go.Proofs.YtdincjlkfbeedaaGreatDoor
open Go
theorem tI (os : Os) (tape : Nat → Question → Nat) : (DataW.laidRun Tryz.prog (varsWorld Tryz.prog 400 (varsId Tryz.prog) os tape).memory 8 ((laidT.filter fun x => x.2.handleName?.isNone).map (·.1))).map (·.1) = some (laidT.filter fun x => x.2.handleName?.isNone) := by kernel_rfl
theorem tJ (os : Os) (tape : Nat → Question → Nat) : (DataW.laidRun Tryz.prog (varsWorld Tryz.prog 400 (varsId Tryz.prog) os tape).memory 8 ((laidT.filter fun x => x.2.handleName?.isNone).map (·.1))).map (fun x => decide x.2.Nodup && laidRowsB Tryz.prog (varsWorld Tryz.prog 400 (varsId Tryz.prog) os tape).memory x.2) = some true := by kernel_rfl
end Go.Proofs.YtdincjlkfbeedaaGreatDoor
