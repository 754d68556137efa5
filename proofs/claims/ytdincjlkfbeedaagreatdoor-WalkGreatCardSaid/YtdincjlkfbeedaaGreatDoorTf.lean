/-
  Facts of the card.
-/
import Derived.Test.YtdincjlkfbeedaaGreatDoorRows
import Derived.SevenTiedAt
set_option linter.all false
namespace Go.Proofs.YtdincjlkfbeedaaGreatDoor
open Go
theorem cB : Tryz.prog.funcs.any Func.goes = false := by kernel_rfl
theorem cA : ((Tryz.prog.closure 3).any fun g => (Tryz.prog.funcs[g]?).any Func.goes) = false := by kernel_rfl
end Go.Proofs.YtdincjlkfbeedaaGreatDoor
