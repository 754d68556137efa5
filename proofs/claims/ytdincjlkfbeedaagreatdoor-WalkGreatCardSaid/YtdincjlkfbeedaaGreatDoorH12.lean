/-
  A closed fact of the row.
-/
import Derived.Test.YtdincjlkfbeedaaGreatDoorRows
import Derived.JoinedOf
set_option linter.all false
namespace Go.Proofs.YtdincjlkfbeedaaGreatDoor
open Go.ChangeShapes Go.WideShapes
theorem j12 : ((Rows.walkGreatRow.named == Tryz.prog.varsNamed 3)) = true := by kernel_rfl
end Go.Proofs.YtdincjlkfbeedaaGreatDoor
