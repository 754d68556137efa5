/-
  The document's times, one more.
-/
import Derived.Test.YtdincjlkfbeedaaGreatDoorT4
set_option linter.all false
namespace Go.Wg
open Go Go.Cv Go.Proofs

def frb1 (c : Int) : Fr := [(0, .ptr 0 0 0), (2, .lit (.bool false)), (10, .ptr 6 0 0), (11, .ptr 7 0 0), (13, .ptr 8 0 0), (14, .ptr 9 0 0), (16, .ptr 15 0 0), (17, u64 c)]
def h0b1 (F R st ce jv c0 : Int) : Heap := [(0, ⟨0, [.ptr 1 0 0, int F, int R, int st, int ce, int 0, nilS, .lit (.bool false), nilS, int 0], none⟩), (1, ⟨0, [nilS, nilS], none⟩), (2, ⟨0, [int 20, .lit (.string ⟨#[62, 58]⟩), int 0, nilS, nilS, nilS, int 1, .lit (.string ⟨#[]⟩), int 0, nilS, .sl 3 0 0 1 1, nilS], none⟩), (3, ⟨0, [int c0], none⟩), (4, ⟨0, [int jv], none⟩)]
def hFb1 (F R st ce jv c0 : Int) : Heap := [(0, ⟨0, [.ptr 1 0 0, int F, int R, int st, int ce, int 0, nilS, .lit (.bool false), nilS, int 0], none⟩), (1, ⟨0, [nilS, nilS], none⟩), (2, ⟨0, [int 20, .lit (.string ⟨#[62, 58]⟩), int 0, nilS, nilS, nilS, int 1, .lit (.string ⟨#[]⟩), int 0, nilS, .sl 3 0 0 1 1, nilS], none⟩), (3, ⟨0, [int c0], none⟩), (4, ⟨0, [int jv], none⟩), (6, ⟨0, [nilS, nilS], none⟩), (7, ⟨0, [nilS, .sl 4 0 0 1 1], none⟩), (8, ⟨0, [nilS, nilS, nilS, nilS], none⟩), (9, ⟨0, [nilS, nilS], none⟩), (15, ⟨0, [int 20, .lit (.string ⟨#[62, 58]⟩), int 0, nilS, nilS, nilS], none⟩)]
def hTb1 (F R st ce v jv c0 : Int) : Heap := [(0, ⟨0, [.ptr 1 0 0, int F, int R, int st, int ce, int 0, nilS, .lit (.bool false), nilS, int 0], none⟩), (1, ⟨0, [nilS, nilS], none⟩), (2, ⟨0, [int 20, .lit (.string ⟨#[62, 58]⟩), int 0, nilS, nilS, nilS, int 1, .lit (.string ⟨#[]⟩), int 0, nilS, .sl 3 0 0 1 1, nilS], none⟩), (3, ⟨0, [int c0], none⟩), (4, ⟨0, [int jv], none⟩), (6, ⟨0, [nilS, nilS], none⟩), (7, ⟨0, [nilS, .sl 22 1 0 1 1], none⟩), (8, ⟨0, [nilS, nilS, nilS, nilS], none⟩), (9, ⟨0, [nilS, nilS], none⟩), (15, ⟨0, [int 20, .lit (.string ⟨#[62, 58]⟩), int 0, nilS, nilS, nilS], none⟩), (22, ⟨1, [int v], none⟩)]
def arb1 (c : Int) : List CV := [.ptr 0 0 0, .agg [int 41, .lit (.string ⟨#[]⟩), int 0, nilS, nilS, .sl 2 0 0 2 6], .lit (.bool false), .agg [nilS, nilS], .agg [nilS, .sl 4 0 0 1 1], int c, .agg [nilS, nilS, nilS, nilS]]
noncomputable def Kb1 : List Item :=
  match crun Tryz.prog (envS [29, 362, 72, 88] (some 2) kn1) 5000 100088 Tryz.f88.ntmps (.run [.code (Tryz.f88.body.getD .skip)] ⟨entryFr (arb1 0), 5, h0b1 0 0 0 0 0 0⟩) ⟨[false], [], []⟩ with
  | some (.at K _, _) => K
  | _ => []
theorem inb1 (F R st ce jv c0 c : Int) : headSel (crun Tryz.prog (envS [29, 362, 72, 88] (some 2) kn1) 5000 100088 Tryz.f88.ntmps (.run [.code (Tryz.f88.body.getD .skip)] ⟨entryFr (arb1 c), 5, h0b1 F R st ce jv c0⟩) ⟨[false], [], []⟩) [0, 2, 10, 11, 13, 14, 16, 17] [0, 1, 2, 3, 4, 6, 7, 8, 9, 15] =
    some (Kb1, frb1 (uw c), 22, hFb1 F R st ce jv c0, [(decide (c < 0), false)]) := by kernel_rfl
theorem itFb1 (F R st ce jv c0 c : Int) : iterSel 5 23 [0, 1, 2, 3, 4, 5, 6, 7, 8, 9, 10, 11, 12, 13, 14, 15, 16, 17, 18, 19, 20, 21, 856] (frb1 (uw (c - 1))) (hTb1 F R (w (st + 1)) (w (ce + 1)) (w (jv + 1)) jv c0) (crun Tryz.prog (envS [29, 362, 72, 88] (some 2) kn1) 20000 100088 Tryz.f88.ntmps (.run Kb1 ⟨frb1 c, 22, hFb1 F R st ce jv c0⟩) ⟨[true, false, false, false, false, false], [], []⟩) =
    some (Kb1, [(false, false), (decide (uw (c - 1) = uw (c - 1)), true), (decide (w (jv + 1) = w (jv + 1)), true), (decide ((20 : Int) = 20), true), (decide ((0 : Int) = 0), true), (decide (jv = jv), true), (decide (c0 = c0), true), (decide ((20 : Int) = 20), true), (decide ((0 : Int) = 0), true), (decide ((1 : Int) = 1), true), (decide ((0 : Int) = 0), true), (decide (F = F), true), (decide (R = R), true), (decide (w (st + 1) = w (st + 1)), true), (decide (w (ce + 1) = w (ce + 1)), true), (decide ((0 : Int) = 0), true), (false, false), (decide ((0 : Int) = 0), true), (false, false), (decide (R < w (ce + 1)), false), (false, false), (decide ((9223372036854775806 : Int) < jv), false), (decide (F ≤ st), false), (decide (0 < c), true)]) := by kernel_rfl
theorem rmFb1 (F R st ce jv c0 c : Int) : endLow Tryz.prog Tryz.f88 5 [0, 1, 2, 3, 4] (crun Tryz.prog (envS [29, 362, 72, 88] (some 2) kn1) 20000 100088 Tryz.f88.ntmps (.run Kb1 ⟨frb1 c, 22, hFb1 F R st ce jv c0⟩) ⟨[true, false, false, false, true, true], [], []⟩) =
    some (.ret (.tup [.agg [nilS, nilS], int 21]), h0b1 F R (w (st + 1)) (w (ce + 1)) jv c0, [(true, true), (decide (R < w (ce + 1)), true), (false, false), (decide ((9223372036854775806 : Int) < jv), false), (decide (F ≤ st), false), (decide (0 < c), true)]) := by kernel_rfl
theorem fuFb1 (F R st ce jv c0 c : Int) : endLow Tryz.prog Tryz.f88 5 [0, 1, 2, 3, 4] (crun Tryz.prog (envS [29, 362, 72, 88] (some 2) kn1) 20000 100088 Tryz.f88.ntmps (.run Kb1 ⟨frb1 c, 22, hFb1 F R st ce jv c0⟩) ⟨[true, true, true], [], []⟩) =
    some (.ret (.tup [.agg [nilS, nilS], int 20]), h0b1 F R st ce jv c0, [(true, true), (decide (F ≤ st), true), (decide (0 < c), true)]) := by kernel_rfl
theorem itTb1 (F R st ce v jv c0 c : Int) : iterSel 5 23 [0, 1, 2, 3, 4, 5, 6, 7, 8, 9, 10, 11, 12, 13, 14, 15, 16, 17, 18, 19, 20, 21, 857] (frb1 (uw (c - 1))) (hTb1 F R (w (st + 1)) (w (ce + 1)) (w (v + 1)) jv c0) (crun Tryz.prog (envS [29, 362, 72, 88] (some 2) kn1) 20000 100088 Tryz.f88.ntmps (.run Kb1 ⟨frb1 c, 23, hTb1 F R st ce v jv c0⟩) ⟨[true, false, false, false, false, false], [], []⟩) =
    some (Kb1, [(false, false), (decide (uw (c - 1) = uw (c - 1)), true), (decide (w (v + 1) = w (v + 1)), true), (decide ((20 : Int) = 20), true), (decide ((0 : Int) = 0), true), (decide (jv = jv), true), (decide (c0 = c0), true), (decide ((20 : Int) = 20), true), (decide ((0 : Int) = 0), true), (decide ((1 : Int) = 1), true), (decide ((0 : Int) = 0), true), (decide (F = F), true), (decide (R = R), true), (decide (w (st + 1) = w (st + 1)), true), (decide (w (ce + 1) = w (ce + 1)), true), (decide ((0 : Int) = 0), true), (false, false), (decide ((0 : Int) = 0), true), (false, false), (decide (R < w (ce + 1)), false), (false, false), (decide ((9223372036854775806 : Int) < v), false), (decide (F ≤ st), false), (decide (0 < c), true)]) := by kernel_rfl
theorem rmTb1 (F R st ce v jv c0 c : Int) : endLow Tryz.prog Tryz.f88 5 [0, 1, 2, 3, 4] (crun Tryz.prog (envS [29, 362, 72, 88] (some 2) kn1) 20000 100088 Tryz.f88.ntmps (.run Kb1 ⟨frb1 c, 23, hTb1 F R st ce v jv c0⟩) ⟨[true, false, false, false, true, true], [], []⟩) =
    some (.ret (.tup [.agg [nilS, nilS], int 21]), h0b1 F R (w (st + 1)) (w (ce + 1)) jv c0, [(true, true), (decide (R < w (ce + 1)), true), (false, false), (decide ((9223372036854775806 : Int) < v), false), (decide (F ≤ st), false), (decide (0 < c), true)]) := by kernel_rfl
theorem fuTb1 (F R st ce v jv c0 c : Int) : endLow Tryz.prog Tryz.f88 5 [0, 1, 2, 3, 4] (crun Tryz.prog (envS [29, 362, 72, 88] (some 2) kn1) 20000 100088 Tryz.f88.ntmps (.run Kb1 ⟨frb1 c, 23, hTb1 F R st ce v jv c0⟩) ⟨[true, true, true], [], []⟩) =
    some (.ret (.tup [.agg [nilS, nilS], int 20]), h0b1 F R st ce jv c0, [(true, true), (decide (F ≤ st), true), (decide (0 < c), true)]) := by kernel_rfl
theorem enTb1 (F R st ce v jv c0 c : Int) : endLow Tryz.prog Tryz.f88 5 [0, 1, 2, 3, 4] (crun Tryz.prog (envS [29, 362, 72, 88] (some 2) kn1) 20000 100088 Tryz.f88.ntmps (.run Kb1 ⟨frb1 c, 23, hTb1 F R st ce v jv c0⟩) ⟨[false], [], []⟩) =
    some (oR1 (.ok v 0 st ce), h0b1 F R st ce jv c0, [(decide (0 < c), false)]) := by kernel_rfl
theorem lowsb1 (F R jv c0 : Int) (r : LRes) : Lows 5 (oR1 r) (h0b1 F R r.st r.ce jv c0) := by
  refine lows_of (ids := [0, 1, 2, 3, 4]) ?_ (by kernel_rfl)
  cases r <;> kernel_rfl
abbrev RestFb1 (F R jv c0 c st ce : Int) (r : LRes) : Prop := GoodK Tryz.prog 88 Tryz.f88 Kb1 ⟨frb1 c, 22, hFb1 F R st ce jv c0⟩ (oR1 r) 22 (h0b1 F R r.st r.ce jv c0)
abbrev RestTb1 (F R jv c0 c v st ce : Int) (r : LRes) : Prop := GoodK Tryz.prog 88 Tryz.f88 Kb1 ⟨frb1 c, 23, hTb1 F R st ce v jv c0⟩ (oR1 r) 23 (h0b1 F R r.st r.ce jv c0)
theorem zerob1 {F R jv c0 : Int} (v st ce : Int) : RestTb1 F R jv c0 ((0 : Nat) : Int) v st ce (sI F R 0 v st ce) :=
  (endLow_ok (envS1_ok _ _) Tryz.func88 (enTb1 F R st ce v jv c0 ((0 : Nat) : Int)) (by simp) (Nat.le_of_ble_eq_true rfl)).1
theorem stepFb1 {F R jv c0 : Int} (hF : F ≤ 4611686018427387904) (hR : R ≤ 4611686018427387904) (n : Nat) (hn : ((n + 1 : Nat) : Int) ≤ 4611686018427387904) (st ce : Int) (h1 : 0 ≤ st) (h2 : st ≤ F) (h3 : 0 ≤ ce) (h4 : ce ≤ R) (h5 : 0 ≤ jv) (h6 : jv + ((n + 1 : Nat) : Int) ≤ 4611686018427387904)
    (ih : ∀ (v st ce : Int), 0 ≤ st → st ≤ F → 0 ≤ ce → ce ≤ R → 0 ≤ v → v + n ≤ 4611686018427387904 → RestTb1 F R jv c0 n v st ce (sI F R n v st ce)) :
    RestFb1 F R jv c0 ((n + 1 : Nat) : Int) st ce (sI F R (n + 1) jv st ce) := by
  have hpos : (0 : Int) < ((n + 1 : Nat) : Int) := by omega
  have wst : w (st + 1) = st + 1 := w_id (by omega) (by omega)
  have wce : w (ce + 1) = ce + 1 := w_id (by omega) (by omega)
  have wv : w (jv + 1) = jv + 1 := w_id (by omega) (by omega)
  have uc : uw (((n + 1 : Nat) : Int) - 1) = (n : Int) := by rw [uw_id (by omega) (by omega)]; omega
  have hv : ¬ (9223372036854775806 : Int) < jv := by omega
  by_cases e : st = F
  · rw [show sI F R (n + 1) jv st ce = .stop 20 st ce from by rw [sI, if_pos e]]
    exact (endLow_ok (envS1_ok _ _) Tryz.func88 (fuFb1 F R st ce jv c0 ((n + 1 : Nat) : Int)) (by simp [e, hpos]) (Nat.le_of_ble_eq_true rfl)).1
  have e' : ¬ F ≤ st := by omega
  by_cases e2 : R < ce + 1
  · rw [show sI F R (n + 1) jv st ce = .stop 21 (st + 1) (ce + 1) from by rw [sI, if_neg e, if_pos e2]]
    have := rmFb1 F R st ce jv c0 ((n + 1 : Nat) : Int)
    rw [wst, wce] at this
    exact (endLow_ok (envS1_ok _ _) Tryz.func88 this (by simp [e', hv, e2, hpos] <;> omega) (Nat.le_of_ble_eq_true rfl)).1
  · rw [show sI F R (n + 1) jv st ce = sI F R n (jv + 1) (st + 1) (ce + 1) from by rw [sI, if_neg e, if_neg e2]]
    have := itFb1 F R st ce jv c0 ((n + 1 : Nat) : Int)
    rw [uc, wst, wce, wv] at this
    exact iter_ok (envS1_ok _ _) this (by simp [e', hv, e2, hpos] <;> omega) (Nat.le_of_ble_eq_true rfl) (lowsb1 F R jv c0 _) (ih (jv + 1) (st + 1) (ce + 1) (by omega) (by omega) (by omega) (by omega) (by omega) (by omega))
theorem stepTb1 {F R jv c0 : Int} (hF : F ≤ 4611686018427387904) (hR : R ≤ 4611686018427387904) (n : Nat) (hn : ((n + 1 : Nat) : Int) ≤ 4611686018427387904) (v st ce : Int) (h1 : 0 ≤ st) (h2 : st ≤ F) (h3 : 0 ≤ ce) (h4 : ce ≤ R) (h5 : 0 ≤ v) (h6 : v + ((n + 1 : Nat) : Int) ≤ 4611686018427387904)
    (ih : ∀ (v st ce : Int), 0 ≤ st → st ≤ F → 0 ≤ ce → ce ≤ R → 0 ≤ v → v + n ≤ 4611686018427387904 → RestTb1 F R jv c0 n v st ce (sI F R n v st ce)) :
    RestTb1 F R jv c0 ((n + 1 : Nat) : Int) v st ce (sI F R (n + 1) v st ce) := by
  have hpos : (0 : Int) < ((n + 1 : Nat) : Int) := by omega
  have wst : w (st + 1) = st + 1 := w_id (by omega) (by omega)
  have wce : w (ce + 1) = ce + 1 := w_id (by omega) (by omega)
  have wv : w (v + 1) = v + 1 := w_id (by omega) (by omega)
  have uc : uw (((n + 1 : Nat) : Int) - 1) = (n : Int) := by rw [uw_id (by omega) (by omega)]; omega
  have hv : ¬ (9223372036854775806 : Int) < v := by omega
  by_cases e : st = F
  · rw [show sI F R (n + 1) v st ce = .stop 20 st ce from by rw [sI, if_pos e]]
    exact (endLow_ok (envS1_ok _ _) Tryz.func88 (fuTb1 F R st ce v jv c0 ((n + 1 : Nat) : Int)) (by simp [e, hpos]) (Nat.le_of_ble_eq_true rfl)).1
  have e' : ¬ F ≤ st := by omega
  by_cases e2 : R < ce + 1
  · rw [show sI F R (n + 1) v st ce = .stop 21 (st + 1) (ce + 1) from by rw [sI, if_neg e, if_pos e2]]
    have := rmTb1 F R st ce v jv c0 ((n + 1 : Nat) : Int)
    rw [wst, wce] at this
    exact (endLow_ok (envS1_ok _ _) Tryz.func88 this (by simp [e', hv, e2, hpos] <;> omega) (Nat.le_of_ble_eq_true rfl)).1
  · rw [show sI F R (n + 1) v st ce = sI F R n (v + 1) (st + 1) (ce + 1) from by rw [sI, if_neg e, if_neg e2]]
    have := itTb1 F R st ce v jv c0 ((n + 1 : Nat) : Int)
    rw [uc, wst, wce, wv] at this
    exact iter_ok (envS1_ok _ _) this (by simp [e', hv, e2, hpos] <;> omega) (Nat.le_of_ble_eq_true rfl) (lowsb1 F R jv c0 _) (ih (v + 1) (st + 1) (ce + 1) (by omega) (by omega) (by omega) (by omega) (by omega) (by omega))
theorem loopb1 {F R jv c0 : Int} (hF : F ≤ 4611686018427387904) (hR : R ≤ 4611686018427387904) (n : Nat) (hn : (n : Int) ≤ 4611686018427387904) : ∀ (v st ce : Int), 0 ≤ st → st ≤ F → 0 ≤ ce → ce ≤ R → 0 ≤ v → v + n ≤ 4611686018427387904 →
    RestTb1 F R jv c0 n v st ce (sI F R n v st ce) := by
  induction n with
  | zero => intro v st ce _ _ _ _ _ _; exact zerob1 v st ce
  | succ n ih => intro v st ce h1 h2 h3 h4 h5 h6; exact stepTb1 hF hR n hn v st ce h1 h2 h3 h4 h5 h6 (ih (by omega))
theorem goodb1 {F R st ce jv c0 : Int} (hF : F ≤ 4611686018427387904) (hR : R ≤ 4611686018427387904) (n : Nat) (hn : ((n + 1 : Nat) : Int) ≤ 4611686018427387904) (h1 : 0 ≤ st) (h2 : st ≤ F) (h3 : 0 ≤ ce) (h4 : ce ≤ R) (h5 : 0 ≤ jv) (h6 : jv + ((n + 1 : Nat) : Int) ≤ 4611686018427387904) :
    Cv.Good Tryz.prog 88 (arb1 ((n + 1 : Nat) : Int)) 5 (h0b1 F R st ce jv c0) (oR1 (sI F R (n + 1) jv st ce)) 5 (h0b1 F R (sI F R (n + 1) jv st ce).st (sI F R (n + 1) jv st ce).ce jv c0) := by
  have hrest := stepFb1 (F := F) (R := R) (jv := jv) (c0 := c0) hF hR n hn st ce h1 h2 h3 h4 h5 h6 (loopb1 hF hR n (by omega))
  have hin := inb1 F R st ce jv c0 ((n + 1 : Nat) : Int)
  rw [uw_id (by omega) (by omega)] at hin
  exact entry_ok (envS1_ok _ _) Tryz.func88 (by kernel_rfl) Tryz.call88 (Nat.le_of_ble_eq_true (by kernel_rfl)) hin (by simp <;> omega) (Nat.le_refl _) (lowsb1 F R jv c0 _) hrest
end Go.Wg
