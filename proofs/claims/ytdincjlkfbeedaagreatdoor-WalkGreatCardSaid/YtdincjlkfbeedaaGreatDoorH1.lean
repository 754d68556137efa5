/-
  Closed facts of the row.
-/
import Derived.Test.YtdincjlkfbeedaaGreatDoorRows
import Derived.JoinedOf
set_option linter.all false
namespace Go.Proofs.YtdincjlkfbeedaaGreatDoor
open Go.ChangeShapes Go.WideShapes
theorem j1 : (laidOutB Tryz.prog) = true := by kernel_rfl
end Go.Proofs.YtdincjlkfbeedaaGreatDoor
namespace Go.Proofs.YtdincjlkfbeedaaGreatDoor
open Go.ChangeShapes Go.WideShapes
theorem j24 : (Tryz.prog.stopsHeard) = true := by kernel_rfl
end Go.Proofs.YtdincjlkfbeedaaGreatDoor
namespace Go.Proofs.YtdincjlkfbeedaaGreatDoor
open Go.ChangeShapes Go.WideShapes
theorem j25 : (Tryz.prog.mayEnter) = true := by kernel_rfl
end Go.Proofs.YtdincjlkfbeedaaGreatDoor
