/-
  A closed fact of the row.
-/
import Derived.Test.YtdincjlkfbeedaaGreatDoorRows
import Derived.JoinedOf
set_option linter.all false
namespace Go.Proofs.YtdincjlkfbeedaaGreatDoor
open Go.ChangeShapes Go.WideShapes
theorem j10 : ((Rows.walkGreatRow.unfollowed == Tryz.prog.unfollowed 3)) = true := by kernel_rfl
end Go.Proofs.YtdincjlkfbeedaaGreatDoor
