/-
  The row holds, if the law has its contract.
-/
import Derived.Test.YtdincjlkfbeedaaGreatDoorF1
import Derived.Test.YtdincjlkfbeedaaGreatDoorH1
import Derived.Test.YtdincjlkfbeedaaGreatDoorH9
import Derived.Test.YtdincjlkfbeedaaGreatDoorH10
import Derived.Test.YtdincjlkfbeedaaGreatDoorH11
import Derived.Test.YtdincjlkfbeedaaGreatDoorH12
import Derived.Test.YtdincjlkfbeedaaGreatDoorT4
import Derived.Test.YtdincjlkfbeedaaGreatDoorRows
import Derived.ChangeSame
import Derived.ChangeVars
import Derived.JoinedOf
import Derived.Carry
import Derived.Below
import Derived.RowKit
import Derived.RowKitTokens
import Derived.LaidLaws
import Derived.LaidHandle
import Derived.Stop.Joined
set_option linter.all false
namespace Go.Proofs.YtdincjlkfbeedaaGreatDoor
open Go.ChangeShapes Go.WideShapes
theorem ba {a b : Bool} (h : a = true) (k : b = true) : (a && b) = true := by rw [h, k]; rfl
set_option maxRecDepth 100000 in
theorem row_facts : joinedFacts Tryz.prog 3 Tryz.f3 Rows.walkGreatSpec Rows.walkGreatRow = true := by
  unfold joinedFacts
  exact ba (ba (ba (ba (ba (ba (ba (ba (ba (ba (ba (ba (ba (ba (ba (ba (ba (ba (ba (ba (ba (ba (ba (ba (ba (ba (ba (ba (ba (ba (ba (j0) j1) j2) j3) j4) j5) j6) j7) j8) j9) j10) j11) j12) j13) j14) j15) j16) j17) j18) j19) j20) j21) j22) j23) j24) j25) j26) j27) j28) j29) j30) j31
end Go.Proofs.YtdincjlkfbeedaaGreatDoor
namespace Go.Proofs.YtdincjlkfbeedaaGreatDoor
open Go.ChangeShapes Go.WideShapes Go.RowKit

theorem Tryz.own : ownKnob Tryz.prog.godebug = none := by kernel_rfl
theorem Tryz.et : Tryz.prog.globalNamed "errors.errorType" = some 0 := by kernel_rfl

/-- A world that meets the condition: the settled one, the variable's cell laid. -/
noncomputable def laidWorld (os : Os) : World :=
  let w0 := World.holding Tryz.prog os ⟨#[], #[], []⟩
  { w0 with heap := w0.heap.modify 0 fun
      | .cells _ t frozen => .cells #[.iface 275 (.agg #[.pointer (some ⟨3, 81, none⟩)])] t frozen
      | o => o }
abbrev laidL : List (String × DataW Unit) := [("errors.errorType", Rows.laid_errors_errorType)]
theorem laidWorld_met (os : Os) (args : Array Value) : laidMetH Tryz.prog laidL ((laidWorld os).forCall (fun _ _ => 0) ⟨#[], args, []⟩).memory :=
  laidMetH_of_parts (laidMet_nil _ _) (by kernel_rfl)

/-- The law's call, in any world. -/
def LawAny : Prop := ∀ (kd n F R : Int), -9223372036854775808 ≤ n → n ≤ 9223372036854775807 → ∃ nx, Cv.Good Tryz.prog 3 [.lit (.int .i64 kd), .lit (.int .i64 n), .lit (.int .i64 F), .lit (.int .i64 R)] 0 [] (.ret (.lit (.bool true))) nx []
theorem law_calls (hlaw : LawAny) (kd n F R : Int) (h0 : -9223372036854775808 ≤ n) (h1 : n ≤ 9223372036854775807) (W : World) :
    Calls Tryz.prog 3 #[.int .i64 kd, .int .i64 n, .int .i64 F, .int .i64 R] W fun e W' => e = .returned (.bool true) ∧ Below W.heap.size W W' := by
  obtain ⟨nx, _, _, hG⟩ := hlaw kd n F R h0 h1
  refine (hG (fun _ => False) (fun _ => none) (fun _ => False) W _ (fun _ h => h.elim) ⟨fun _ _ h => (by cases h), fun _ _ _ h => (by cases h), fun _ _ _ h => absurd rfl h, fun _ _ h => absurd rfl h, fun _ h => h.elim⟩ rfl (fun i c hi => ?_)).mono ?_
  · rcases i with _ | _ | _ | _ | i
    · cases hi; exact .lit _
    · cases hi; exact .lit _
    · cases hi; exact .lit _
    · cases hi; exact .lit _
    · simp at hi
  · rintro e W' ⟨β', I', _, ⟨v, rfl, hv⟩, ext⟩
    cases hv
    exact ⟨rfl, ext.os, ext.tape, ext.output, ext.size, fun k hk => ext.keep k hk fun _ hn => absurd rfl hn⟩

theorem wf_bounds {n : Int} (h : (Lit.int .i64 n).wf = true) : -9223372036854775808 ≤ n ∧ n ≤ 9223372036854775807 := by
  simp [Lit.wf, IntKind.min, IntKind.max, IntKind.signed, IntKind.bits] at h
  omega

set_option maxRecDepth 100000 in
theorem law_lifted (hlaw : LawAny) (os : Os) (started : os.Started) (H : Type) (enc : TypeId × Value → H) :
    ReturnsInHanded {} Tryz.checked os 3 .any (fun w args => (Rows.walkGreatSpec.pre enc Tryz.prog Tryz.f3 [] false w args ∧ laidMetH Tryz.prog laidL w) ∧ sizedMet enc Tryz.prog Tryz.f3 (OpenSpec.ofChange Rows.walkGreatSpec) false w args)
      (Rows.walkGreatSpec.post enc Tryz.prog Tryz.f3 false true false false) := by
  refine returnsInHanded_of_change_and (C := Tryz.checked) (X := fun w _ => laidMetH Tryz.prog laidL w) (fun _ _ _ hh h => h.of_heap hh) Tryz.own started (by kernel_rfl) Tryz.func3
    (ChangeSpec.witness_at (enc := enc) (C := Tryz.checked) (os := os) (X := fun w _ => laidMetH Tryz.prog laidL w) false (laidWorld os) #[.int .i64 0, .int .i64 0, .int .i64 0, .int .i64 0] 8 rfl (by kernel_rfl) (by kernel_rfl) (by kernel_rfl) (by kernel_rfl) (by kernel_rfl) (laidWorld_met os _)) ?_
  intro W base args ds gs before hval0 hW _ _ hL _
  have hval : ∀ (j : Nat) t v, Tryz.f3.params[j]? = some t → args[j]? = some v → Value.okWide Tryz.prog W .any base t v := hval0
  have hW' := hW
  obtain ⟨p, q, hA0, hV0, rfl, hfz, hnd⟩ := hW
  have hA : DataW.TrodAll enc Tryz.prog W 0 (fun _ => true) true Tryz.f3.params.toList args.toList ds p := hA0
  have hV : DataW.TrodVars enc Tryz.prog W (fun _ => true) [] gs q := hV0
  rw [Tryz.params3] at hA hval
  obtain ⟨v0, v1, v2, v3, d0, d1, d2, d3, p0, p1, p2, p3, rfl, rfl, rfl, h0, h1, h2, h3⟩ := trodAll_four hA
  obtain ⟨kd, rfl, rfl, rfl, wk⟩ := open_int Tryz.underlying3 (hval 0 3 v0 rfl rfl) h0
  obtain ⟨n, rfl, rfl, rfl, wn⟩ := open_int Tryz.underlying2 (hval 1 2 v1 rfl rfl) h1
  obtain ⟨F, rfl, rfl, rfl, wF⟩ := open_int Tryz.underlying2 (hval 2 2 v2 rfl rfl) h2
  obtain ⟨R, rfl, rfl, rfl, wR⟩ := open_int Tryz.underlying2 (hval 3 2 v3 rfl rfl) h3
  obtain ⟨rfl, rfl⟩ : gs = [] ∧ q = [] := by
    cases gs with
    | nil => exact ⟨rfl, hV⟩
    | cons g r => exact absurd hV (by intro h; cases h)
  have e1 : Rows.walkGreatSpec.fn H ([.lit (.int .i64 kd), .lit (.int .i64 n), .lit (.int .i64 F), .lit (.int .i64 R)] ++ []) = { results := [.lit (.bool true)], args := [.lit (.int .i64 kd), .lit (.int .i64 n), .lit (.int .i64 F), .lit (.int .i64 R)] } := by simp [Rows.walkGreatSpec]
  obtain ⟨b0, b1⟩ := wf_bounds wn
  refine (law_calls hlaw kd n F R b0 b1 W).mono fun e W' ⟨he, hw⟩ => ?_
  subst he
  refine ⟨_, rfl, _, _, _, [], [], [], hW', ?_, ?_, ?_, ?_, fun h => by cases h⟩
  · rw [e1]; exact trodAll_mk1 (shut_bool Tryz.underlying4 true)
  · rw [e1]; exact trodAll_mk4 (shut_int Tryz.underlying3 wk) (shut_int Tryz.underlying2 wn) (shut_int Tryz.underlying2 wF) (shut_int Tryz.underlying2 wR)
  · rw [e1]; rfl
  · exact World.keptBut_mono (fun p hp => by simp at hp) (hw.frame (fun _ => False))

theorem row_of (hlaw : LawAny) : Rows.WalkGreatSaid :=
  OpenClaim.holds_of_wide 3 Tryz.f3 rfl rfl rfl rfl rfl rfl rfl ⟨rfl, rfl, rfl, rfl, rfl⟩ rfl rfl rfl rfl rfl (by kernel_rfl) Tryz.func3 row_facts
    (of_decide_eq_true (by kernel_rfl)) (by unfold Func.isWrapper; rw [if_neg (of_decide_eq_false (by kernel_rfl))]; exact ⟨rfl, rfl⟩)
    (fun os started H enc _ => law_lifted hlaw os started H enc)
end Go.Proofs.YtdincjlkfbeedaaGreatDoor
