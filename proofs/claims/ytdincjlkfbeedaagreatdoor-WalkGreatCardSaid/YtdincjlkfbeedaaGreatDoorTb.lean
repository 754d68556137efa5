/-
  A fact of the tie.
-/
import Derived.Test.YtdincjlkfbeedaaGreatDoorTa
import Derived.LaidByTextLater
import Derived.SevenTiedAt
set_option linter.all false
namespace Go.Proofs.YtdincjlkfbeedaaGreatDoor
open Go
theorem tF : varsNamedLaterB Tryz.prog (varsId Tryz.prog) laidT = true := by kernel_rfl
end Go.Proofs.YtdincjlkfbeedaaGreatDoor
