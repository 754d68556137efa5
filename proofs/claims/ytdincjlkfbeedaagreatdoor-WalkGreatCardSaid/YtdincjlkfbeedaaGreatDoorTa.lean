/-
  Facts of the tie.
-/
import Derived.Test.YtdincjlkfbeedaaGreatDoorRows
import Derived.LaidByTextLater
import Derived.SevenTiedAt
set_option linter.all false
namespace Go.Proofs.YtdincjlkfbeedaaGreatDoor
open Go
abbrev laidT : List (String × DataW Unit) := [("errors.errorType", Rows.laid_errors_errorType)]
theorem tA : Tryz.prog.worded (varsWordLater true) = true := by kernel_rfl
theorem tB : Tryz.prog.worded (varsWordLater !true) = false := by kernel_rfl
theorem tC : Tryz.prog.worded rootWordLater = true := by kernel_rfl
theorem tD : laidT.map (fun x => Tryz.prog.kindOfLater x.1) = [LaidKind.handle].map some := by kernel_rfl
theorem tE : (Tryz.prog.funcNamed "gosem.cut.vars").isSome = true := by kernel_rfl
theorem noOwnUnsafe : Tryz.pinned.checked.prog.headLifts.contains "ownunsafe" = false := by kernel_rfl
end Go.Proofs.YtdincjlkfbeedaaGreatDoor
