/-
  Closed runs.
-/
import Derived.Test.YtdincjlkfbeedaaGreatDoorT1
set_option linter.all false
namespace Go.Wg
open Go Go.Cv Go.Proofs

theorem ran2 : runPure Tryz.prog (envT [] kn0) 20000 102 [.lit (.string ⟨#[45]⟩)] = some (.tup [.lit (.int .i64 2), .lit (.bool true)]) := by kernel_rfl
theorem ran6 : runPure Tryz.prog (envT [] kn0) 20000 168 [.lit (.int .i64 2)] = some (.tup [.agg [.lit (.string ⟨#[45]⟩), .lit (.bool true), .lit (.bool true), .lit (.int .i64 0), .lit (.int .i64 0), .lit (.int .i64 0), .lit (.int .i64 0), .lit (.bool true), .lit (.bool false), .lit (.int .i64 2), .lit (.func (.func 299) #[] #[]), .lit (.func (.func 300) #[] #[])], .lit (.bool true)]) := by kernel_rfl
theorem ran10 : runPure Tryz.prog (envT [] kn0) 20000 67 [.lit (.string ⟨#[45]⟩)] = some (.tup [.lit (.int .i64 2), .lit (.bool true)]) := by kernel_rfl
theorem ran14 : runPure Tryz.prog (envT [] kn0) 20000 68 [.lit (.int .i64 2)] = some (.tup [.agg [.lit (.string ⟨#[45]⟩), .lit (.bool true), .lit (.bool true), .lit (.int .i64 0), .lit (.int .i64 0), .lit (.int .i64 0), .lit (.int .i64 0), .lit (.bool true), .lit (.bool false)], .lit (.int .i64 0)]) := by kernel_rfl
end Go.Wg
namespace Go.Wg
open Go Go.Cv Go.Proofs

theorem ran3 : runPure Tryz.prog (envT [] kn0) 20000 102 [.lit (.string ⟨#[124, 46]⟩)] = some (.tup [.lit (.int .i64 32), .lit (.bool true)]) := by kernel_rfl
theorem ran7 : runPure Tryz.prog (envT [] kn0) 20000 168 [.lit (.int .i64 32)] = some (.tup [.agg [.lit (.string ⟨#[124, 46]⟩), .lit (.bool true), .lit (.bool true), .lit (.int .i64 64), .lit (.int .i64 1), .lit (.int .i64 64), .lit (.int .i64 0), .lit (.bool false), .lit (.bool false), .lit (.int .i64 32), .lit (.func (.func 306) #[] #[]), .lit (.func (.func 307) #[] #[])], .lit (.bool true)]) := by kernel_rfl
theorem ran11 : runPure Tryz.prog (envT [] kn0) 20000 67 [.lit (.string ⟨#[124, 46]⟩)] = some (.tup [.lit (.int .i64 32), .lit (.bool true)]) := by kernel_rfl
end Go.Wg
