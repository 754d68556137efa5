/-
  A fact of the tie.
-/
import Derived.Test.YtdincjlkfbeedaaGreatDoorTa
import Derived.LaidByTextLater
import Derived.SevenTiedAt
set_option linter.all false
namespace Go.Proofs.YtdincjlkfbeedaaGreatDoor
open Go
theorem tH (os : Os) (tape : Nat → Question → Nat) : (laidT.filter fun x => x.2.handleName?.isSome).all (handleAtB Tryz.prog (varsWorld Tryz.prog 400 (varsId Tryz.prog) os tape).memory) = true := by kernel_rfl
end Go.Proofs.YtdincjlkfbeedaaGreatDoor
