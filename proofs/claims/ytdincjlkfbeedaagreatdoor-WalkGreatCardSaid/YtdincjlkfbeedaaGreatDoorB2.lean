/-
  The document's times, a sum.
-/
import Derived.Test.YtdincjlkfbeedaaGreatDoorT4
set_option linter.all false
namespace Go.Wg
open Go Go.Cv Go.Proofs

def frb2 (c : Int) : Fr := [(0, .ptr 0 0 0), (2, .lit (.bool false)), (10, .ptr 7 0 0), (11, .ptr 8 0 0), (13, .ptr 9 0 0), (14, .ptr 10 0 0), (16, .ptr 16 0 0), (17, u64 c)]
def h0b2 (F R st ce c0 : Int) : Heap := [(0, ⟨0, [.ptr 1 0 0, int F, int R, int st, int ce, int 0, nilS, .lit (.bool false), nilS, int 0], none⟩), (1, ⟨0, [nilS, nilS], none⟩), (2, ⟨0, [int 27, .lit (.string ⟨#[]⟩), int 0, nilS, nilS, .sl 4 0 0 1 6, int 1, .lit (.string ⟨#[]⟩), int 0, nilS, .sl 3 0 0 1 1, nilS], none⟩), (3, ⟨0, [int c0], none⟩), (4, ⟨0, [int 20, .lit (.string ⟨#[43]⟩), int 0, nilS, nilS, nilS], none⟩), (5, ⟨0, [int 0], none⟩)]
def hFb2 (F R st ce c0 : Int) : Heap := [(0, ⟨0, [.ptr 1 0 0, int F, int R, int st, int ce, int 0, nilS, .lit (.bool false), nilS, int 0], none⟩), (1, ⟨0, [nilS, nilS], none⟩), (2, ⟨0, [int 27, .lit (.string ⟨#[]⟩), int 0, nilS, nilS, .sl 4 0 0 1 6, int 1, .lit (.string ⟨#[]⟩), int 0, nilS, .sl 3 0 0 1 1, nilS], none⟩), (3, ⟨0, [int c0], none⟩), (4, ⟨0, [int 20, .lit (.string ⟨#[43]⟩), int 0, nilS, nilS, nilS], none⟩), (5, ⟨0, [int 0], none⟩), (7, ⟨0, [nilS, nilS], none⟩), (8, ⟨0, [nilS, .sl 5 0 0 1 1], none⟩), (9, ⟨0, [nilS, nilS, nilS, nilS], none⟩), (10, ⟨0, [nilS, nilS], none⟩), (16, ⟨0, [int 27, .lit (.string ⟨#[]⟩), int 0, nilS, nilS, .sl 4 0 0 1 6], none⟩)]
def hTb2 (F R st ce c0 : Int) : Heap := [(0, ⟨0, [.ptr 1 0 0, int F, int R, int st, int ce, int 0, nilS, .lit (.bool false), nilS, int 0], none⟩), (1, ⟨0, [nilS, nilS], none⟩), (2, ⟨0, [int 27, .lit (.string ⟨#[]⟩), int 0, nilS, nilS, .sl 4 0 0 1 6, int 1, .lit (.string ⟨#[]⟩), int 0, nilS, .sl 3 0 0 1 1, nilS], none⟩), (3, ⟨0, [int c0], none⟩), (4, ⟨0, [int 20, .lit (.string ⟨#[43]⟩), int 0, nilS, nilS, nilS], none⟩), (5, ⟨0, [int 0], none⟩), (7, ⟨0, [nilS, nilS], none⟩), (8, ⟨0, [nilS, .sl 23 1 0 1 1], none⟩), (9, ⟨0, [nilS, nilS, nilS, nilS], none⟩), (10, ⟨0, [nilS, nilS], none⟩), (16, ⟨0, [int 27, .lit (.string ⟨#[]⟩), int 0, nilS, nilS, .sl 4 0 0 1 6], none⟩), (23, ⟨1, [int 0], none⟩)]
def arb2 (c : Int) : List CV := [.ptr 0 0 0, .agg [int 41, .lit (.string ⟨#[]⟩), int 0, nilS, nilS, .sl 2 0 0 2 6], .lit (.bool false), .agg [nilS, nilS], .agg [nilS, .sl 5 0 0 1 1], int c, .agg [nilS, nilS, nilS, nilS]]
noncomputable def Kb2 : List Item :=
  match crun Tryz.prog (envS [29, 72, 88] (some 2) kn1) 5000 100088 Tryz.f88.ntmps (.run [.code (Tryz.f88.body.getD .skip)] ⟨entryFr (arb2 0), 6, h0b2 0 0 0 0 0⟩) ⟨[false], [], []⟩ with
  | some (.at K _, _) => K
  | _ => []
theorem inb2 (F R st ce c0 c : Int) : headSel (crun Tryz.prog (envS [29, 72, 88] (some 2) kn1) 5000 100088 Tryz.f88.ntmps (.run [.code (Tryz.f88.body.getD .skip)] ⟨entryFr (arb2 c), 6, h0b2 F R st ce c0⟩) ⟨[false], [], []⟩) [0, 2, 10, 11, 13, 14, 16, 17] [0, 1, 2, 3, 4, 5, 7, 8, 9, 10, 16] =
    some (Kb2, frb2 (uw c), 23, hFb2 F R st ce c0, [(decide (c < 0), false)]) := by kernel_rfl
theorem itFb2 (F R st ce c0 c : Int) : iterSel 6 24 [0, 1, 2, 3, 4, 5, 6, 7, 8, 9, 10, 11, 12, 13, 14, 15, 16, 17, 18, 19, 20, 21, 22, 1381] (frb2 (uw (c - 1))) (hTb2 F R (w (w (st + 1) + 1)) (w (ce + 1)) c0) (crun Tryz.prog (envS [29, 72, 88] (some 2) kn1) 20000 100088 Tryz.f88.ntmps (.run Kb2 ⟨frb2 c, 23, hFb2 F R st ce c0⟩) ⟨[true, false, false, false, false], [], []⟩) =
    some (Kb2, [(false, false), (decide (uw (c - 1) = uw (c - 1)), true), (decide ((0 : Int) = 0), true), (decide ((27 : Int) = 27), true), (decide ((0 : Int) = 0), true), (decide ((0 : Int) = 0), true), (decide ((20 : Int) = 20), true), (decide ((0 : Int) = 0), true), (decide (c0 = c0), true), (decide ((27 : Int) = 27), true), (decide ((0 : Int) = 0), true), (decide ((1 : Int) = 1), true), (decide ((0 : Int) = 0), true), (decide (F = F), true), (decide (R = R), true), (decide (w (w (st + 1) + 1) = w (w (st + 1) + 1)), true), (decide (w (ce + 1) = w (ce + 1)), true), (decide ((0 : Int) = 0), true), (false, false), (decide ((0 : Int) = 0), true), (false, false), (decide (R < w (ce + 1)), false), (decide (F ≤ w (st + 1)), false), (decide (F ≤ st), false), (decide (0 < c), true)]) := by kernel_rfl
theorem rmFb2 (F R st ce c0 c : Int) : endLow Tryz.prog Tryz.f88 6 [0, 1, 2, 3, 4, 5] (crun Tryz.prog (envS [29, 72, 88] (some 2) kn1) 20000 100088 Tryz.f88.ntmps (.run Kb2 ⟨frb2 c, 23, hFb2 F R st ce c0⟩) ⟨[true, false, false, true, true], [], []⟩) =
    some (.ret (.tup [.agg [nilS, nilS], int 21]), h0b2 F R (w (w (st + 1) + 1)) (w (ce + 1)) c0, [(true, true), (decide (R < w (ce + 1)), true), (decide (F ≤ w (st + 1)), false), (decide (F ≤ st), false), (decide (0 < c), true)]) := by kernel_rfl
theorem fuFb2 (F R st ce c0 c : Int) : endLow Tryz.prog Tryz.f88 6 [0, 1, 2, 3, 4, 5] (crun Tryz.prog (envS [29, 72, 88] (some 2) kn1) 20000 100088 Tryz.f88.ntmps (.run Kb2 ⟨frb2 c, 23, hFb2 F R st ce c0⟩) ⟨[true, true, true], [], []⟩) =
    some (.ret (.tup [.agg [nilS, nilS], int 20]), h0b2 F R st ce c0, [(true, true), (decide (F ≤ st), true), (decide (0 < c), true)]) := by kernel_rfl
theorem fbFb2 (F R st ce c0 c : Int) : endLow Tryz.prog Tryz.f88 6 [0, 1, 2, 3, 4, 5] (crun Tryz.prog (envS [29, 72, 88] (some 2) kn1) 20000 100088 Tryz.f88.ntmps (.run Kb2 ⟨frb2 c, 23, hFb2 F R st ce c0⟩) ⟨[true, false, true, true], [], []⟩) =
    some (.ret (.tup [.agg [nilS, nilS], int 20]), h0b2 F R (w (st + 1)) ce c0, [(true, true), (decide (F ≤ w (st + 1)), true), (decide (F ≤ st), false), (decide (0 < c), true)]) := by kernel_rfl
theorem itTb2 (F R st ce c0 c : Int) : iterSel 6 24 [0, 1, 2, 3, 4, 5, 6, 7, 8, 9, 10, 11, 12, 13, 14, 15, 16, 17, 18, 19, 20, 21, 22, 1382] (frb2 (uw (c - 1))) (hTb2 F R (w (w (st + 1) + 1)) (w (ce + 1)) c0) (crun Tryz.prog (envS [29, 72, 88] (some 2) kn1) 20000 100088 Tryz.f88.ntmps (.run Kb2 ⟨frb2 c, 24, hTb2 F R st ce c0⟩) ⟨[true, false, false, false, false], [], []⟩) =
    some (Kb2, [(false, false), (decide (uw (c - 1) = uw (c - 1)), true), (decide ((0 : Int) = 0), true), (decide ((27 : Int) = 27), true), (decide ((0 : Int) = 0), true), (decide ((0 : Int) = 0), true), (decide ((20 : Int) = 20), true), (decide ((0 : Int) = 0), true), (decide (c0 = c0), true), (decide ((27 : Int) = 27), true), (decide ((0 : Int) = 0), true), (decide ((1 : Int) = 1), true), (decide ((0 : Int) = 0), true), (decide (F = F), true), (decide (R = R), true), (decide (w (w (st + 1) + 1) = w (w (st + 1) + 1)), true), (decide (w (ce + 1) = w (ce + 1)), true), (decide ((0 : Int) = 0), true), (false, false), (decide ((0 : Int) = 0), true), (false, false), (decide (R < w (ce + 1)), false), (decide (F ≤ w (st + 1)), false), (decide (F ≤ st), false), (decide (0 < c), true)]) := by kernel_rfl
theorem rmTb2 (F R st ce c0 c : Int) : endLow Tryz.prog Tryz.f88 6 [0, 1, 2, 3, 4, 5] (crun Tryz.prog (envS [29, 72, 88] (some 2) kn1) 20000 100088 Tryz.f88.ntmps (.run Kb2 ⟨frb2 c, 24, hTb2 F R st ce c0⟩) ⟨[true, false, false, true, true], [], []⟩) =
    some (.ret (.tup [.agg [nilS, nilS], int 21]), h0b2 F R (w (w (st + 1) + 1)) (w (ce + 1)) c0, [(true, true), (decide (R < w (ce + 1)), true), (decide (F ≤ w (st + 1)), false), (decide (F ≤ st), false), (decide (0 < c), true)]) := by kernel_rfl
theorem fuTb2 (F R st ce c0 c : Int) : endLow Tryz.prog Tryz.f88 6 [0, 1, 2, 3, 4, 5] (crun Tryz.prog (envS [29, 72, 88] (some 2) kn1) 20000 100088 Tryz.f88.ntmps (.run Kb2 ⟨frb2 c, 24, hTb2 F R st ce c0⟩) ⟨[true, true, true], [], []⟩) =
    some (.ret (.tup [.agg [nilS, nilS], int 20]), h0b2 F R st ce c0, [(true, true), (decide (F ≤ st), true), (decide (0 < c), true)]) := by kernel_rfl
theorem fbTb2 (F R st ce c0 c : Int) : endLow Tryz.prog Tryz.f88 6 [0, 1, 2, 3, 4, 5] (crun Tryz.prog (envS [29, 72, 88] (some 2) kn1) 20000 100088 Tryz.f88.ntmps (.run Kb2 ⟨frb2 c, 24, hTb2 F R st ce c0⟩) ⟨[true, false, true, true], [], []⟩) =
    some (.ret (.tup [.agg [nilS, nilS], int 20]), h0b2 F R (w (st + 1)) ce c0, [(true, true), (decide (F ≤ w (st + 1)), true), (decide (F ≤ st), false), (decide (0 < c), true)]) := by kernel_rfl
theorem enTb2 (F R st ce c0 c : Int) : endLow Tryz.prog Tryz.f88 6 [0, 1, 2, 3, 4, 5] (crun Tryz.prog (envS [29, 72, 88] (some 2) kn1) 20000 100088 Tryz.f88.ntmps (.run Kb2 ⟨frb2 c, 24, hTb2 F R st ce c0⟩) ⟨[false], [], []⟩) =
    some (oR1 (.ok 0 0 st ce), h0b2 F R st ce c0, [(decide (0 < c), false)]) := by kernel_rfl
theorem lowsb2 (F R c0 : Int) (r : LRes) : Lows 6 (oR1 r) (h0b2 F R r.st r.ce c0) := by
  refine lows_of (ids := [0, 1, 2, 3, 4, 5]) ?_ (by kernel_rfl)
  cases r <;> kernel_rfl
abbrev RestFb2 (F R c0 c st ce : Int) (r : LRes) : Prop := GoodK Tryz.prog 88 Tryz.f88 Kb2 ⟨frb2 c, 23, hFb2 F R st ce c0⟩ (oR1 r) 23 (h0b2 F R r.st r.ce c0)
abbrev RestTb2 (F R c0 c st ce : Int) (r : LRes) : Prop := GoodK Tryz.prog 88 Tryz.f88 Kb2 ⟨frb2 c, 24, hTb2 F R st ce c0⟩ (oR1 r) 24 (h0b2 F R r.st r.ce c0)
theorem zerob2 {F R c0 : Int} (st ce : Int) : RestTb2 F R c0 ((0 : Nat) : Int) st ce (sS F R 0 st ce) :=
  (endLow_ok (envS1_ok _ _) Tryz.func88 (enTb2 F R st ce c0 ((0 : Nat) : Int)) (by simp) (Nat.le_of_ble_eq_true rfl)).1
theorem stepFb2 {F R c0 : Int} (hF : F ≤ 4611686018427387904) (hR : R ≤ 4611686018427387904) (n : Nat) (hn : ((n + 1 : Nat) : Int) ≤ 4611686018427387904) (st ce : Int) (h1 : 0 ≤ st) (h2 : st ≤ F) (h3 : 0 ≤ ce) (h4 : ce ≤ R)
    (ih : ∀ (st ce : Int), 0 ≤ st → st ≤ F → 0 ≤ ce → ce ≤ R → RestTb2 F R c0 n st ce (sS F R n st ce)) :
    RestFb2 F R c0 ((n + 1 : Nat) : Int) st ce (sS F R (n + 1) st ce) := by
  have hpos : (0 : Int) < ((n + 1 : Nat) : Int) := by omega
  have wst : w (st + 1) = st + 1 := w_id (by omega) (by omega)
  have wst2 : w (st + 1 + 1) = st + 2 := by rw [w_id (by omega) (by omega)]; omega
  have wce : w (ce + 1) = ce + 1 := w_id (by omega) (by omega)
  have uc : uw (((n + 1 : Nat) : Int) - 1) = (n : Int) := by rw [uw_id (by omega) (by omega)]; omega
  by_cases e : st = F
  · rw [show sS F R (n + 1) st ce = .stop 20 st ce from by rw [sS, if_pos e]]
    exact (endLow_ok (envS1_ok _ _) Tryz.func88 (fuFb2 F R st ce c0 ((n + 1 : Nat) : Int)) (by simp [e, hpos]) (Nat.le_of_ble_eq_true rfl)).1
  have e' : ¬ F ≤ st := by omega
  by_cases e1 : st + 1 = F
  · rw [show sS F R (n + 1) st ce = .stop 20 (st + 1) ce from by rw [sS, if_neg e, if_pos e1]]
    have := fbFb2 F R st ce c0 ((n + 1 : Nat) : Int)
    rw [wst] at this
    exact (endLow_ok (envS1_ok _ _) Tryz.func88 this (by simp [e', e1, hpos] <;> omega) (Nat.le_of_ble_eq_true rfl)).1
  have e1' : ¬ F ≤ st + 1 := by omega
  by_cases e2 : R < ce + 1
  · rw [show sS F R (n + 1) st ce = .stop 21 (st + 2) (ce + 1) from by rw [sS, if_neg e, if_neg e1, if_pos e2]]
    have := rmFb2 F R st ce c0 ((n + 1 : Nat) : Int)
    rw [wst, wst2, wce] at this
    exact (endLow_ok (envS1_ok _ _) Tryz.func88 this (by simp [e', e1', e2, hpos] <;> omega) (Nat.le_of_ble_eq_true rfl)).1
  · rw [show sS F R (n + 1) st ce = sS F R n (st + 2) (ce + 1) from by rw [sS, if_neg e, if_neg e1, if_neg e2]]
    have := itFb2 F R st ce c0 ((n + 1 : Nat) : Int)
    rw [uc, wst, wst2, wce] at this
    exact iter_ok (envS1_ok _ _) this (by simp [e', e1', e2, hpos] <;> omega) (Nat.le_of_ble_eq_true rfl) (lowsb2 F R c0 _) (ih (st + 2) (ce + 1) (by omega) (by omega) (by omega) (by omega))
theorem stepTb2 {F R c0 : Int} (hF : F ≤ 4611686018427387904) (hR : R ≤ 4611686018427387904) (n : Nat) (hn : ((n + 1 : Nat) : Int) ≤ 4611686018427387904) ( st ce : Int) (h1 : 0 ≤ st) (h2 : st ≤ F) (h3 : 0 ≤ ce) (h4 : ce ≤ R)
    (ih : ∀ (st ce : Int), 0 ≤ st → st ≤ F → 0 ≤ ce → ce ≤ R → RestTb2 F R c0 n st ce (sS F R n st ce)) :
    RestTb2 F R c0 ((n + 1 : Nat) : Int) st ce (sS F R (n + 1) st ce) := by
  have hpos : (0 : Int) < ((n + 1 : Nat) : Int) := by omega
  have wst : w (st + 1) = st + 1 := w_id (by omega) (by omega)
  have wst2 : w (st + 1 + 1) = st + 2 := by rw [w_id (by omega) (by omega)]; omega
  have wce : w (ce + 1) = ce + 1 := w_id (by omega) (by omega)
  have uc : uw (((n + 1 : Nat) : Int) - 1) = (n : Int) := by rw [uw_id (by omega) (by omega)]; omega
  by_cases e : st = F
  · rw [show sS F R (n + 1) st ce = .stop 20 st ce from by rw [sS, if_pos e]]
    exact (endLow_ok (envS1_ok _ _) Tryz.func88 (fuTb2 F R st ce c0 ((n + 1 : Nat) : Int)) (by simp [e, hpos]) (Nat.le_of_ble_eq_true rfl)).1
  have e' : ¬ F ≤ st := by omega
  by_cases e1 : st + 1 = F
  · rw [show sS F R (n + 1) st ce = .stop 20 (st + 1) ce from by rw [sS, if_neg e, if_pos e1]]
    have := fbTb2 F R st ce c0 ((n + 1 : Nat) : Int)
    rw [wst] at this
    exact (endLow_ok (envS1_ok _ _) Tryz.func88 this (by simp [e', e1, hpos] <;> omega) (Nat.le_of_ble_eq_true rfl)).1
  have e1' : ¬ F ≤ st + 1 := by omega
  by_cases e2 : R < ce + 1
  · rw [show sS F R (n + 1) st ce = .stop 21 (st + 2) (ce + 1) from by rw [sS, if_neg e, if_neg e1, if_pos e2]]
    have := rmTb2 F R st ce c0 ((n + 1 : Nat) : Int)
    rw [wst, wst2, wce] at this
    exact (endLow_ok (envS1_ok _ _) Tryz.func88 this (by simp [e', e1', e2, hpos] <;> omega) (Nat.le_of_ble_eq_true rfl)).1
  · rw [show sS F R (n + 1) st ce = sS F R n (st + 2) (ce + 1) from by rw [sS, if_neg e, if_neg e1, if_neg e2]]
    have := itTb2 F R st ce c0 ((n + 1 : Nat) : Int)
    rw [uc, wst, wst2, wce] at this
    exact iter_ok (envS1_ok _ _) this (by simp [e', e1', e2, hpos] <;> omega) (Nat.le_of_ble_eq_true rfl) (lowsb2 F R c0 _) (ih (st + 2) (ce + 1) (by omega) (by omega) (by omega) (by omega))
theorem loopb2 {F R c0 : Int} (hF : F ≤ 4611686018427387904) (hR : R ≤ 4611686018427387904) (n : Nat) (hn : (n : Int) ≤ 4611686018427387904) : ∀ (st ce : Int), 0 ≤ st → st ≤ F → 0 ≤ ce → ce ≤ R →
    RestTb2 F R c0 n st ce (sS F R n st ce) := by
  induction n with
  | zero => intro st ce _ _ _ _; exact zerob2 st ce
  | succ n ih => intro st ce h1 h2 h3 h4; exact stepTb2 hF hR n hn st ce h1 h2 h3 h4 (ih (by omega))
theorem goodb2 {F R st ce c0 : Int} (hF : F ≤ 4611686018427387904) (hR : R ≤ 4611686018427387904) (n : Nat) (hn : ((n + 1 : Nat) : Int) ≤ 4611686018427387904) (h1 : 0 ≤ st) (h2 : st ≤ F) (h3 : 0 ≤ ce) (h4 : ce ≤ R) :
    Cv.Good Tryz.prog 88 (arb2 ((n + 1 : Nat) : Int)) 6 (h0b2 F R st ce c0) (oR1 (sS F R (n + 1) st ce)) 6 (h0b2 F R (sS F R (n + 1) st ce).st (sS F R (n + 1) st ce).ce c0) := by
  have hrest := stepFb2 (F := F) (R := R) (c0 := c0) hF hR n hn st ce h1 h2 h3 h4 (loopb2 hF hR n (by omega))
  have hin := inb2 F R st ce c0 ((n + 1 : Nat) : Int)
  rw [uw_id (by omega) (by omega)] at hin
  exact entry_ok (envS1_ok _ _) Tryz.func88 (by kernel_rfl) Tryz.call88 (Nat.le_of_ble_eq_true (by kernel_rfl)) hin (by simp <;> omega) (Nat.le_refl _) (lowsb2 F R c0 _) hrest
end Go.Wg
