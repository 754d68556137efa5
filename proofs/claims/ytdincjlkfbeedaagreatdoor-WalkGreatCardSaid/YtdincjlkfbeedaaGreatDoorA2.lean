/-
  The walk's times, a sum.
-/
import Derived.Test.YtdincjlkfbeedaaGreatDoorT4
set_option linter.all false
namespace Go.Wg
open Go Go.Cv Go.Proofs

def fra2 (c : Int) : Fr := [(0, .ptr 0 0 0), (4, .ptr 1 0 0), (6, .ptr 8 0 0), (8, .ptr 9 0 0), (10, .ptr 10 0 0), (12, u64 c)]
def h0a2 (F R st ce : Int) : Heap := [(0, ⟨0, [.ptr 2 0 0, int F, int R, int st, int ce, nilS, .lit .nilFunc, .lit (.chan none)], none⟩), (1, ⟨0, [.lit (.map none), nilS, nilS], none⟩), (2, ⟨0, [.mp 3 0, .mp 4 0, .mp 5 0, int 0], none⟩), (3, ⟨0, [], some []⟩), (4, ⟨0, [], some []⟩), (5, ⟨0, [], some []⟩), (6, ⟨0, [int 20, .lit (.string ⟨#[43]⟩), int 0, nilS, nilS, nilS], none⟩), (7, ⟨0, [int 0], none⟩)]
def hFa2 (F R st ce : Int) : Heap := [(0, ⟨0, [.ptr 2 0 0, int F, int R, int st, int ce, nilS, .lit .nilFunc, .lit (.chan none)], none⟩), (1, ⟨0, [.lit (.map none), nilS, nilS], none⟩), (2, ⟨0, [.mp 3 0, .mp 4 0, .mp 5 0, int 0], none⟩), (3, ⟨0, [], some []⟩), (4, ⟨0, [], some []⟩), (5, ⟨0, [], some []⟩), (6, ⟨0, [int 20, .lit (.string ⟨#[43]⟩), int 0, nilS, nilS, nilS], none⟩), (7, ⟨0, [int 0], none⟩), (8, ⟨0, [int 27, .lit (.string ⟨#[]⟩), int 0, nilS, nilS, .sl 6 0 0 1 6], none⟩), (9, ⟨0, [.lit (.bool false), nilS, nilS, nilS, .sl 7 0 0 1 1], none⟩), (10, ⟨0, [nilS, nilS], none⟩)]
def hTa2 (F R st ce : Int) : Heap := [(0, ⟨0, [.ptr 2 0 0, int F, int R, int st, int ce, nilS, .lit .nilFunc, .lit (.chan none)], none⟩), (1, ⟨0, [.lit (.map none), nilS, nilS], none⟩), (2, ⟨0, [.mp 3 0, .mp 4 0, .mp 5 0, int 0], none⟩), (3, ⟨0, [], some []⟩), (4, ⟨0, [], some []⟩), (5, ⟨0, [], some []⟩), (6, ⟨0, [int 20, .lit (.string ⟨#[43]⟩), int 0, nilS, nilS, nilS], none⟩), (7, ⟨0, [int 0], none⟩), (8, ⟨0, [int 27, .lit (.string ⟨#[]⟩), int 0, nilS, nilS, .sl 6 0 0 1 6], none⟩), (9, ⟨0, [.lit (.bool false), nilS, nilS, nilS, .sl 17 0 0 1 1], none⟩), (10, ⟨0, [nilS, nilS], none⟩), (17, ⟨0, [int 0], none⟩)]
def ara2 (c : Int) : List CV := [.ptr 0 0 0, .agg [int 27, .lit (.string ⟨#[]⟩), int 0, nilS, nilS, .sl 6 0 0 1 6], int c, .agg [.lit (.bool false), nilS, nilS, nilS, .sl 7 0 0 1 1], .ptr 1 0 0]
noncomputable def Ka2 : List Item :=
  match crun Tryz.prog (envS [51, 106, 113] (some 2) kn1) 5000 100113 Tryz.f113.ntmps (.run [.code (Tryz.f113.body.getD .skip)] ⟨entryFr (ara2 0), 8, h0a2 0 0 0 0⟩) ⟨[false], [], []⟩ with
  | some (.at K _, _) => K
  | _ => []
theorem ina2 (F R st ce c : Int) : headSel (crun Tryz.prog (envS [51, 106, 113] (some 2) kn1) 5000 100113 Tryz.f113.ntmps (.run [.code (Tryz.f113.body.getD .skip)] ⟨entryFr (ara2 c), 8, h0a2 F R st ce⟩) ⟨[false], [], []⟩) [0, 4, 6, 8, 10, 12] [0, 1, 2, 3, 4, 5, 6, 7, 8, 9, 10] =
    some (Ka2, fra2 (uw c), 17, hFa2 F R st ce, [(decide (c < 0), false)]) := by kernel_rfl
theorem itFa2 (F R st ce c : Int) : iterSel 8 18 [0, 1, 2, 3, 4, 5, 6, 7, 8, 9, 10, 11, 12, 13, 14, 15, 16, 1677] (fra2 (uw (c - 1))) (hTa2 F R (w (w (st + 1) + 1)) (w (ce + 1))) (crun Tryz.prog (envS [51, 106, 113] (some 2) kn1) 20000 100113 Tryz.f113.ntmps (.run Ka2 ⟨fra2 c, 17, hFa2 F R st ce⟩) ⟨[true, false, false, false, false, false, false], [], []⟩) =
    some (Ka2, [(decide (uw (c - 1) = uw (c - 1)), true), (decide ((0 : Int) = 0), true), (false, false), (decide ((27 : Int) = 27), true), (decide ((0 : Int) = 0), true), (decide ((0 : Int) = 0), true), (decide ((20 : Int) = 20), true), (decide ((0 : Int) = 0), true), (decide ((0 : Int) = 0), true), (decide (F = F), true), (decide (R = R), true), (decide (w (w (st + 1) + 1) = w (w (st + 1) + 1)), true), (decide (w (ce + 1) = w (ce + 1)), true), (false, false), (decide (R < w (ce + 1)), false), (false, false), (decide (w (st + 1) = F), false), (false, false), (decide (st = F), false), (decide (0 < c), true)]) := by kernel_rfl
theorem rmFa2 (F R st ce c : Int) : endLow Tryz.prog Tryz.f113 8 [0, 1, 2, 3, 4, 5, 6, 7] (crun Tryz.prog (envS [51, 106, 113] (some 2) kn1) 20000 100113 Tryz.f113.ntmps (.run Ka2 ⟨fra2 c, 17, hFa2 F R st ce⟩) ⟨[true, false, false, false, false, true], [], []⟩) =
    some (.pan (spent 21), h0a2 F R (w (w (st + 1) + 1)) (w (ce + 1)), [(decide (R < w (ce + 1)), true), (false, false), (decide (w (st + 1) = F), false), (false, false), (decide (st = F), false), (decide (0 < c), true)]) := by kernel_rfl
theorem fuFa2 (F R st ce c : Int) : endLow Tryz.prog Tryz.f113 8 [0, 1, 2, 3, 4, 5, 6, 7] (crun Tryz.prog (envS [51, 106, 113] (some 2) kn1) 20000 100113 Tryz.f113.ntmps (.run Ka2 ⟨fra2 c, 17, hFa2 F R st ce⟩) ⟨[true, true], [], []⟩) =
    some (.pan (spent 20), h0a2 F R st ce, [(decide (st = F), true), (decide (0 < c), true)]) := by kernel_rfl
theorem fbFa2 (F R st ce c : Int) : endLow Tryz.prog Tryz.f113 8 [0, 1, 2, 3, 4, 5, 6, 7] (crun Tryz.prog (envS [51, 106, 113] (some 2) kn1) 20000 100113 Tryz.f113.ntmps (.run Ka2 ⟨fra2 c, 17, hFa2 F R st ce⟩) ⟨[true, false, false, true], [], []⟩) =
    some (.pan (spent 20), h0a2 F R (w (st + 1)) ce, [(decide (w (st + 1) = F), true), (false, false), (decide (st = F), false), (decide (0 < c), true)]) := by kernel_rfl
theorem itTa2 (F R st ce c : Int) : iterSel 8 18 [0, 1, 2, 3, 4, 5, 6, 7, 8, 9, 10, 11, 12, 13, 14, 15, 16, 1678] (fra2 (uw (c - 1))) (hTa2 F R (w (w (st + 1) + 1)) (w (ce + 1))) (crun Tryz.prog (envS [51, 106, 113] (some 2) kn1) 20000 100113 Tryz.f113.ntmps (.run Ka2 ⟨fra2 c, 18, hTa2 F R st ce⟩) ⟨[true, false, false, false, false, false, false], [], []⟩) =
    some (Ka2, [(decide (uw (c - 1) = uw (c - 1)), true), (decide ((0 : Int) = 0), true), (false, false), (decide ((27 : Int) = 27), true), (decide ((0 : Int) = 0), true), (decide ((0 : Int) = 0), true), (decide ((20 : Int) = 20), true), (decide ((0 : Int) = 0), true), (decide ((0 : Int) = 0), true), (decide (F = F), true), (decide (R = R), true), (decide (w (w (st + 1) + 1) = w (w (st + 1) + 1)), true), (decide (w (ce + 1) = w (ce + 1)), true), (false, false), (decide (R < w (ce + 1)), false), (false, false), (decide (w (st + 1) = F), false), (false, false), (decide (st = F), false), (decide (0 < c), true)]) := by kernel_rfl
theorem rmTa2 (F R st ce c : Int) : endLow Tryz.prog Tryz.f113 8 [0, 1, 2, 3, 4, 5, 6, 7] (crun Tryz.prog (envS [51, 106, 113] (some 2) kn1) 20000 100113 Tryz.f113.ntmps (.run Ka2 ⟨fra2 c, 18, hTa2 F R st ce⟩) ⟨[true, false, false, false, false, true], [], []⟩) =
    some (.pan (spent 21), h0a2 F R (w (w (st + 1) + 1)) (w (ce + 1)), [(decide (R < w (ce + 1)), true), (false, false), (decide (w (st + 1) = F), false), (false, false), (decide (st = F), false), (decide (0 < c), true)]) := by kernel_rfl
theorem fuTa2 (F R st ce c : Int) : endLow Tryz.prog Tryz.f113 8 [0, 1, 2, 3, 4, 5, 6, 7] (crun Tryz.prog (envS [51, 106, 113] (some 2) kn1) 20000 100113 Tryz.f113.ntmps (.run Ka2 ⟨fra2 c, 18, hTa2 F R st ce⟩) ⟨[true, true], [], []⟩) =
    some (.pan (spent 20), h0a2 F R st ce, [(decide (st = F), true), (decide (0 < c), true)]) := by kernel_rfl
theorem fbTa2 (F R st ce c : Int) : endLow Tryz.prog Tryz.f113 8 [0, 1, 2, 3, 4, 5, 6, 7] (crun Tryz.prog (envS [51, 106, 113] (some 2) kn1) 20000 100113 Tryz.f113.ntmps (.run Ka2 ⟨fra2 c, 18, hTa2 F R st ce⟩) ⟨[true, false, false, true], [], []⟩) =
    some (.pan (spent 20), h0a2 F R (w (st + 1)) ce, [(decide (w (st + 1) = F), true), (false, false), (decide (st = F), false), (decide (0 < c), true)]) := by kernel_rfl
theorem enTa2 (F R st ce c : Int) : endLow Tryz.prog Tryz.f113 8 [0, 1, 2, 3, 4, 5, 6, 7] (crun Tryz.prog (envS [51, 106, 113] (some 2) kn1) 20000 100113 Tryz.f113.ntmps (.run Ka2 ⟨fra2 c, 18, hTa2 F R st ce⟩) ⟨[false], [], []⟩) =
    some (oW1 (.ok 0 0 st ce), h0a2 F R st ce, [(decide (0 < c), false)]) := by kernel_rfl
theorem lowsa2 (F R : Int) (r : LRes) : Lows 8 (oW1 r) (h0a2 F R r.st r.ce) := by
  refine lows_of (ids := [0, 1, 2, 3, 4, 5, 6, 7]) ?_ (by kernel_rfl)
  cases r <;> kernel_rfl
abbrev RestFa2 (F R c st ce : Int) (r : LRes) : Prop := GoodK Tryz.prog 113 Tryz.f113 Ka2 ⟨fra2 c, 17, hFa2 F R st ce⟩ (oW1 r) 17 (h0a2 F R r.st r.ce)
abbrev RestTa2 (F R c st ce : Int) (r : LRes) : Prop := GoodK Tryz.prog 113 Tryz.f113 Ka2 ⟨fra2 c, 18, hTa2 F R st ce⟩ (oW1 r) 18 (h0a2 F R r.st r.ce)
theorem zeroa2 {F R : Int} (st ce : Int) : RestTa2 F R ((0 : Nat) : Int) st ce (sS F R 0 st ce) :=
  (endLow_ok (envS1_ok _ _) Tryz.func113 (enTa2 F R st ce ((0 : Nat) : Int)) (by simp) (Nat.le_of_ble_eq_true rfl)).1
theorem stepFa2 {F R : Int} (hF : F ≤ 4611686018427387904) (hR : R ≤ 4611686018427387904) (n : Nat) (hn : ((n + 1 : Nat) : Int) ≤ 4611686018427387904) (st ce : Int) (h1 : 0 ≤ st) (h2 : st ≤ F) (h3 : 0 ≤ ce) (h4 : ce ≤ R)
    (ih : ∀ (st ce : Int), 0 ≤ st → st ≤ F → 0 ≤ ce → ce ≤ R → RestTa2 F R n st ce (sS F R n st ce)) :
    RestFa2 F R ((n + 1 : Nat) : Int) st ce (sS F R (n + 1) st ce) := by
  have hpos : (0 : Int) < ((n + 1 : Nat) : Int) := by omega
  have wst : w (st + 1) = st + 1 := w_id (by omega) (by omega)
  have wst2 : w (st + 1 + 1) = st + 2 := by rw [w_id (by omega) (by omega)]; omega
  have wce : w (ce + 1) = ce + 1 := w_id (by omega) (by omega)
  have uc : uw (((n + 1 : Nat) : Int) - 1) = (n : Int) := by rw [uw_id (by omega) (by omega)]; omega
  by_cases e : st = F
  · rw [show sS F R (n + 1) st ce = .stop 20 st ce from by rw [sS, if_pos e]]
    exact (endLow_ok (envS1_ok _ _) Tryz.func113 (fuFa2 F R st ce ((n + 1 : Nat) : Int)) (by simp [e, hpos]) (Nat.le_of_ble_eq_true rfl)).1
  by_cases e1 : st + 1 = F
  · rw [show sS F R (n + 1) st ce = .stop 20 (st + 1) ce from by rw [sS, if_neg e, if_pos e1]]
    have := fbFa2 F R st ce ((n + 1 : Nat) : Int)
    rw [wst] at this
    exact (endLow_ok (envS1_ok _ _) Tryz.func113 this (by simp [e, e1, hpos] <;> omega) (Nat.le_of_ble_eq_true rfl)).1
  by_cases e2 : R < ce + 1
  · rw [show sS F R (n + 1) st ce = .stop 21 (st + 2) (ce + 1) from by rw [sS, if_neg e, if_neg e1, if_pos e2]]
    have := rmFa2 F R st ce ((n + 1 : Nat) : Int)
    rw [wst, wst2, wce] at this
    exact (endLow_ok (envS1_ok _ _) Tryz.func113 this (by simp [e, e1, e2, hpos] <;> omega) (Nat.le_of_ble_eq_true rfl)).1
  · rw [show sS F R (n + 1) st ce = sS F R n (st + 2) (ce + 1) from by rw [sS, if_neg e, if_neg e1, if_neg e2]]
    have := itFa2 F R st ce ((n + 1 : Nat) : Int)
    rw [uc, wst, wst2, wce] at this
    exact iter_ok (envS1_ok _ _) this (by simp [e, e1, e2, hpos] <;> omega) (Nat.le_of_ble_eq_true rfl) (lowsa2 F R _) (ih (st + 2) (ce + 1) (by omega) (by omega) (by omega) (by omega))
theorem stepTa2 {F R : Int} (hF : F ≤ 4611686018427387904) (hR : R ≤ 4611686018427387904) (n : Nat) (hn : ((n + 1 : Nat) : Int) ≤ 4611686018427387904) ( st ce : Int) (h1 : 0 ≤ st) (h2 : st ≤ F) (h3 : 0 ≤ ce) (h4 : ce ≤ R)
    (ih : ∀ (st ce : Int), 0 ≤ st → st ≤ F → 0 ≤ ce → ce ≤ R → RestTa2 F R n st ce (sS F R n st ce)) :
    RestTa2 F R ((n + 1 : Nat) : Int) st ce (sS F R (n + 1) st ce) := by
  have hpos : (0 : Int) < ((n + 1 : Nat) : Int) := by omega
  have wst : w (st + 1) = st + 1 := w_id (by omega) (by omega)
  have wst2 : w (st + 1 + 1) = st + 2 := by rw [w_id (by omega) (by omega)]; omega
  have wce : w (ce + 1) = ce + 1 := w_id (by omega) (by omega)
  have uc : uw (((n + 1 : Nat) : Int) - 1) = (n : Int) := by rw [uw_id (by omega) (by omega)]; omega
  by_cases e : st = F
  · rw [show sS F R (n + 1) st ce = .stop 20 st ce from by rw [sS, if_pos e]]
    exact (endLow_ok (envS1_ok _ _) Tryz.func113 (fuTa2 F R st ce ((n + 1 : Nat) : Int)) (by simp [e, hpos]) (Nat.le_of_ble_eq_true rfl)).1
  by_cases e1 : st + 1 = F
  · rw [show sS F R (n + 1) st ce = .stop 20 (st + 1) ce from by rw [sS, if_neg e, if_pos e1]]
    have := fbTa2 F R st ce ((n + 1 : Nat) : Int)
    rw [wst] at this
    exact (endLow_ok (envS1_ok _ _) Tryz.func113 this (by simp [e, e1, hpos] <;> omega) (Nat.le_of_ble_eq_true rfl)).1
  by_cases e2 : R < ce + 1
  · rw [show sS F R (n + 1) st ce = .stop 21 (st + 2) (ce + 1) from by rw [sS, if_neg e, if_neg e1, if_pos e2]]
    have := rmTa2 F R st ce ((n + 1 : Nat) : Int)
    rw [wst, wst2, wce] at this
    exact (endLow_ok (envS1_ok _ _) Tryz.func113 this (by simp [e, e1, e2, hpos] <;> omega) (Nat.le_of_ble_eq_true rfl)).1
  · rw [show sS F R (n + 1) st ce = sS F R n (st + 2) (ce + 1) from by rw [sS, if_neg e, if_neg e1, if_neg e2]]
    have := itTa2 F R st ce ((n + 1 : Nat) : Int)
    rw [uc, wst, wst2, wce] at this
    exact iter_ok (envS1_ok _ _) this (by simp [e, e1, e2, hpos] <;> omega) (Nat.le_of_ble_eq_true rfl) (lowsa2 F R _) (ih (st + 2) (ce + 1) (by omega) (by omega) (by omega) (by omega))
theorem loopa2 {F R : Int} (hF : F ≤ 4611686018427387904) (hR : R ≤ 4611686018427387904) (n : Nat) (hn : (n : Int) ≤ 4611686018427387904) : ∀ (st ce : Int), 0 ≤ st → st ≤ F → 0 ≤ ce → ce ≤ R →
    RestTa2 F R n st ce (sS F R n st ce) := by
  induction n with
  | zero => intro st ce _ _ _ _; exact zeroa2 st ce
  | succ n ih => intro st ce h1 h2 h3 h4; exact stepTa2 hF hR n hn st ce h1 h2 h3 h4 (ih (by omega))
theorem gooda2 {F R st ce : Int} (hF : F ≤ 4611686018427387904) (hR : R ≤ 4611686018427387904) (n : Nat) (hn : ((n + 1 : Nat) : Int) ≤ 4611686018427387904) (h1 : 0 ≤ st) (h2 : st ≤ F) (h3 : 0 ≤ ce) (h4 : ce ≤ R) :
    Cv.Good Tryz.prog 113 (ara2 ((n + 1 : Nat) : Int)) 8 (h0a2 F R st ce) (oW1 (sS F R (n + 1) st ce)) 8 (h0a2 F R (sS F R (n + 1) st ce).st (sS F R (n + 1) st ce).ce) := by
  have hrest := stepFa2 (F := F) (R := R) hF hR n hn st ce h1 h2 h3 h4 (loopa2 hF hR n (by omega))
  have hin := ina2 F R st ce ((n + 1 : Nat) : Int)
  rw [uw_id (by omega) (by omega)] at hin
  exact entry_ok (envS1_ok _ _) Tryz.func113 (by kernel_rfl) Tryz.call113 (Nat.le_of_ble_eq_true (by kernel_rfl)) hin (by simp <;> omega) (Nat.le_refl _) (lowsa2 F R _) hrest
end Go.Wg
