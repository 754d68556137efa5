/-
  Closed runs.
-/
import Derived.Test.YtdincjlkfbeedaaGreatDoorT1
set_option linter.all false
namespace Go.Wg
open Go Go.Cv Go.Proofs

theorem ran0 : runPure Tryz.prog (envT [] kn0) 20000 102 [.lit (.string ⟨#[62, 58]⟩)] = some (.tup [.lit (.int .i64 13), .lit (.bool true)]) := by kernel_rfl
theorem ran4 : runPure Tryz.prog (envT [] kn0) 20000 168 [.lit (.int .i64 13)] = some (.tup [.agg [.lit (.string ⟨#[62, 58]⟩), .lit (.bool true), .lit (.bool true), .lit (.int .i64 0), .lit (.int .i64 0), .lit (.int .i64 0), .lit (.int .i64 1), .lit (.bool true), .lit (.bool false), .lit (.int .i64 13), .lit (.func (.func 299) #[] #[]), .lit (.func (.func 300) #[] #[])], .lit (.bool true)]) := by kernel_rfl
theorem ran8 : runPure Tryz.prog (envT [] kn0) 20000 67 [.lit (.string ⟨#[62, 58]⟩)] = some (.tup [.lit (.int .i64 13), .lit (.bool true)]) := by kernel_rfl
theorem ran12 : runPure Tryz.prog (envT [] kn0) 20000 68 [.lit (.int .i64 13)] = some (.tup [.agg [.lit (.string ⟨#[62, 58]⟩), .lit (.bool true), .lit (.bool true), .lit (.int .i64 0), .lit (.int .i64 0), .lit (.int .i64 0), .lit (.int .i64 1), .lit (.bool true), .lit (.bool false)], .lit (.int .i64 0)]) := by kernel_rfl
end Go.Wg
namespace Go.Wg
open Go Go.Cv Go.Proofs

theorem ran1 : runPure Tryz.prog (envT [] kn0) 20000 102 [.lit (.string ⟨#[43]⟩)] = some (.tup [.lit (.int .i64 1), .lit (.bool true)]) := by kernel_rfl
theorem ran5 : runPure Tryz.prog (envT [] kn0) 20000 168 [.lit (.int .i64 1)] = some (.tup [.agg [.lit (.string ⟨#[43]⟩), .lit (.bool true), .lit (.bool true), .lit (.int .i64 0), .lit (.int .i64 0), .lit (.int .i64 0), .lit (.int .i64 0), .lit (.bool true), .lit (.bool true), .lit (.int .i64 1), .lit (.func (.func 299) #[] #[]), .lit (.func (.func 300) #[] #[])], .lit (.bool true)]) := by kernel_rfl
theorem ran9 : runPure Tryz.prog (envT [] kn0) 20000 67 [.lit (.string ⟨#[43]⟩)] = some (.tup [.lit (.int .i64 1), .lit (.bool true)]) := by kernel_rfl
theorem ran13 : runPure Tryz.prog (envT [] kn0) 20000 68 [.lit (.int .i64 1)] = some (.tup [.agg [.lit (.string ⟨#[43]⟩), .lit (.bool true), .lit (.bool true), .lit (.int .i64 0), .lit (.int .i64 0), .lit (.int .i64 0), .lit (.int .i64 0), .lit (.bool true), .lit (.bool true)], .lit (.int .i64 0)]) := by kernel_rfl
end Go.Wg
