/-
  A closed fact of the row.
-/
import Derived.Test.YtdincjlkfbeedaaGreatDoorRows
import Derived.JoinedOf
set_option linter.all false
namespace Go.Proofs.YtdincjlkfbeedaaGreatDoor
open Go.ChangeShapes Go.WideShapes
theorem j11 : ((Rows.walkGreatRow.recurses == Tryz.prog.recurses 3)) = true := by kernel_rfl
end Go.Proofs.YtdincjlkfbeedaaGreatDoor
