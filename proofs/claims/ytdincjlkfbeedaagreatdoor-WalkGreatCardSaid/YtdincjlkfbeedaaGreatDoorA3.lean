/-
  The walk's times, a list turned.
-/
import Derived.Test.YtdincjlkfbeedaaGreatDoorT4
set_option linter.all false
namespace Go.Wg
open Go Go.Cv Go.Proofs

def fra3 (c : Int) : Fr := [(0, .ptr 0 0 0), (4, .ptr 1 0 0), (6, .ptr 8 0 0), (8, .ptr 9 0 0), (10, .ptr 10 0 0), (12, u64 c)]
def h0a3 (F R st ce jx jy : Int) : Heap := [(0, ⟨0, [.ptr 2 0 0, int F, int R, int st, int ce, nilS, .lit .nilFunc, .lit (.chan none)], none⟩), (1, ⟨0, [.lit (.map none), nilS, nilS], none⟩), (2, ⟨0, [.mp 3 0, .mp 4 0, .mp 5 0, int 0], none⟩), (3, ⟨0, [], some []⟩), (4, ⟨0, [], some []⟩), (5, ⟨0, [], some []⟩), (6, ⟨0, [int 2], none⟩), (7, ⟨0, [int jx, int jy], none⟩)]
def hFa3 (F R st ce jx jy : Int) : Heap := [(0, ⟨0, [.ptr 2 0 0, int F, int R, int st, int ce, nilS, .lit .nilFunc, .lit (.chan none)], none⟩), (1, ⟨0, [.lit (.map none), nilS, nilS], none⟩), (2, ⟨0, [.mp 3 0, .mp 4 0, .mp 5 0, int 0], none⟩), (3, ⟨0, [], some []⟩), (4, ⟨0, [], some []⟩), (5, ⟨0, [], some []⟩), (6, ⟨0, [int 2], none⟩), (7, ⟨0, [int jx, int jy], none⟩), (8, ⟨0, [int 20, .lit (.string ⟨#[124, 46]⟩), int 0, nilS, nilS, nilS], none⟩), (9, ⟨0, [.lit (.bool false), nilS, nilS, .sl 6 0 0 1 1, .sl 7 0 0 2 1], none⟩), (10, ⟨0, [nilS, nilS], none⟩)]
def hTa3 (F R st ce x y jx jy : Int) : Heap := [(0, ⟨0, [.ptr 2 0 0, int F, int R, int st, int ce, nilS, .lit .nilFunc, .lit (.chan none)], none⟩), (1, ⟨0, [.lit (.map none), nilS, nilS], none⟩), (2, ⟨0, [.mp 3 0, .mp 4 0, .mp 5 0, int 0], none⟩), (3, ⟨0, [], some []⟩), (4, ⟨0, [], some []⟩), (5, ⟨0, [], some []⟩), (6, ⟨0, [int 2], none⟩), (7, ⟨0, [int jx, int jy], none⟩), (8, ⟨0, [int 20, .lit (.string ⟨#[124, 46]⟩), int 0, nilS, nilS, nilS], none⟩), (9, ⟨0, [.lit (.bool false), nilS, nilS, .sl 17 1 0 1 1, .sl 18 2 0 2 1], none⟩), (10, ⟨0, [nilS, nilS], none⟩), (17, ⟨1, [int 2], none⟩), (18, ⟨2, [int x, int y], none⟩)]
def ara3 (c : Int) : List CV := [.ptr 0 0 0, .agg [int 20, .lit (.string ⟨#[124, 46]⟩), int 0, nilS, nilS, nilS], int c, .agg [.lit (.bool false), nilS, nilS, .sl 6 0 0 1 1, .sl 7 0 0 2 1], .ptr 1 0 0]
noncomputable def Ka3 : List Item :=
  match crun Tryz.prog (envS [51, 106, 113] (some 2) kn1) 5000 100113 Tryz.f113.ntmps (.run [.code (Tryz.f113.body.getD .skip)] ⟨entryFr (ara3 0), 8, h0a3 0 0 0 0 0 0⟩) ⟨[false], [], []⟩ with
  | some (.at K _, _) => K
  | _ => []
theorem ina3 (F R st ce jx jy c : Int) : headSel (crun Tryz.prog (envS [51, 106, 113] (some 2) kn1) 5000 100113 Tryz.f113.ntmps (.run [.code (Tryz.f113.body.getD .skip)] ⟨entryFr (ara3 c), 8, h0a3 F R st ce jx jy⟩) ⟨[false], [], []⟩) [0, 4, 6, 8, 10, 12] [0, 1, 2, 3, 4, 5, 6, 7, 8, 9, 10] =
    some (Ka3, fra3 (uw c), 17, hFa3 F R st ce jx jy, [(decide (c < 0), false)]) := by kernel_rfl
theorem itFa3 (F R st ce jx jy c : Int) : iterSel 8 19 [0, 1, 2, 3, 4, 5, 6, 7, 8, 9, 10, 11, 12, 13, 14, 15, 16, 1188, 1538] (fra3 (uw (c - 1))) (hTa3 F R (w (st + 1)) (w (ce + 2)) jy jx jx jy) (crun Tryz.prog (envS [51, 106, 113] (some 2) kn1) 20000 100113 Tryz.f113.ntmps (.run Ka3 ⟨fra3 c, 17, hFa3 F R st ce jx jy⟩) ⟨[true, false, false, false, false], [], []⟩) =
    some (Ka3, [(decide (uw (c - 1) = uw (c - 1)), true), (decide (jy = jy), true), (decide (jx = jx), true), (decide ((2 : Int) = 2), true), (false, false), (decide ((20 : Int) = 20), true), (decide ((0 : Int) = 0), true), (decide (jx = jx), true), (decide (jy = jy), true), (decide ((2 : Int) = 2), true), (decide ((0 : Int) = 0), true), (decide (F = F), true), (decide (R = R), true), (decide (w (st + 1) = w (st + 1)), true), (decide (w (ce + 2) = w (ce + 2)), true), (false, false), (decide (R < w (ce + 2)), false), (false, false), (decide (st = F), false), (decide (0 < c), true)]) := by kernel_rfl
theorem rmFa3 (F R st ce jx jy c : Int) : endLow Tryz.prog Tryz.f113 8 [0, 1, 2, 3, 4, 5, 6, 7] (crun Tryz.prog (envS [51, 106, 113] (some 2) kn1) 20000 100113 Tryz.f113.ntmps (.run Ka3 ⟨fra3 c, 17, hFa3 F R st ce jx jy⟩) ⟨[true, false, false, true], [], []⟩) =
    some (.pan (spent 21), h0a3 F R (w (st + 1)) (w (ce + 2)) jx jy, [(decide (R < w (ce + 2)), true), (false, false), (decide (st = F), false), (decide (0 < c), true)]) := by kernel_rfl
theorem fuFa3 (F R st ce jx jy c : Int) : endLow Tryz.prog Tryz.f113 8 [0, 1, 2, 3, 4, 5, 6, 7] (crun Tryz.prog (envS [51, 106, 113] (some 2) kn1) 20000 100113 Tryz.f113.ntmps (.run Ka3 ⟨fra3 c, 17, hFa3 F R st ce jx jy⟩) ⟨[true, true], [], []⟩) =
    some (.pan (spent 20), h0a3 F R st ce jx jy, [(decide (st = F), true), (decide (0 < c), true)]) := by kernel_rfl
theorem itTa3 (F R st ce x y jx jy c : Int) : iterSel 8 19 [0, 1, 2, 3, 4, 5, 6, 7, 8, 9, 10, 11, 12, 13, 14, 15, 16, 1190, 1540] (fra3 (uw (c - 1))) (hTa3 F R (w (st + 1)) (w (ce + 2)) y x jx jy) (crun Tryz.prog (envS [51, 106, 113] (some 2) kn1) 20000 100113 Tryz.f113.ntmps (.run Ka3 ⟨fra3 c, 19, hTa3 F R st ce x y jx jy⟩) ⟨[true, false, false, false, false], [], []⟩) =
    some (Ka3, [(decide (uw (c - 1) = uw (c - 1)), true), (decide (y = y), true), (decide (x = x), true), (decide ((2 : Int) = 2), true), (false, false), (decide ((20 : Int) = 20), true), (decide ((0 : Int) = 0), true), (decide (jx = jx), true), (decide (jy = jy), true), (decide ((2 : Int) = 2), true), (decide ((0 : Int) = 0), true), (decide (F = F), true), (decide (R = R), true), (decide (w (st + 1) = w (st + 1)), true), (decide (w (ce + 2) = w (ce + 2)), true), (false, false), (decide (R < w (ce + 2)), false), (false, false), (decide (st = F), false), (decide (0 < c), true)]) := by kernel_rfl
theorem rmTa3 (F R st ce x y jx jy c : Int) : endLow Tryz.prog Tryz.f113 8 [0, 1, 2, 3, 4, 5, 6, 7] (crun Tryz.prog (envS [51, 106, 113] (some 2) kn1) 20000 100113 Tryz.f113.ntmps (.run Ka3 ⟨fra3 c, 19, hTa3 F R st ce x y jx jy⟩) ⟨[true, false, false, true], [], []⟩) =
    some (.pan (spent 21), h0a3 F R (w (st + 1)) (w (ce + 2)) jx jy, [(decide (R < w (ce + 2)), true), (false, false), (decide (st = F), false), (decide (0 < c), true)]) := by kernel_rfl
theorem fuTa3 (F R st ce x y jx jy c : Int) : endLow Tryz.prog Tryz.f113 8 [0, 1, 2, 3, 4, 5, 6, 7] (crun Tryz.prog (envS [51, 106, 113] (some 2) kn1) 20000 100113 Tryz.f113.ntmps (.run Ka3 ⟨fra3 c, 19, hTa3 F R st ce x y jx jy⟩) ⟨[true, true], [], []⟩) =
    some (.pan (spent 20), h0a3 F R st ce jx jy, [(decide (st = F), true), (decide (0 < c), true)]) := by kernel_rfl
theorem enTa3 (F R st ce x y jx jy c : Int) : endLow Tryz.prog Tryz.f113 8 [0, 1, 2, 3, 4, 5, 6, 7] (crun Tryz.prog (envS [51, 106, 113] (some 2) kn1) 20000 100113 Tryz.f113.ntmps (.run Ka3 ⟨fra3 c, 19, hTa3 F R st ce x y jx jy⟩) ⟨[false], [], []⟩) =
    some (oW2 (.ok x y st ce), h0a3 F R st ce jx jy, [(decide (0 < c), false)]) := by kernel_rfl
theorem lowsa3 (F R jx jy : Int) (r : LRes) : Lows 8 (oW2 r) (h0a3 F R r.st r.ce jx jy) := by
  refine lows_of (ids := [0, 1, 2, 3, 4, 5, 6, 7]) ?_ (by kernel_rfl)
  cases r <;> kernel_rfl
abbrev RestFa3 (F R jx jy c st ce : Int) (r : LRes) : Prop := GoodK Tryz.prog 113 Tryz.f113 Ka3 ⟨fra3 c, 17, hFa3 F R st ce jx jy⟩ (oW2 r) 17 (h0a3 F R r.st r.ce jx jy)
abbrev RestTa3 (F R jx jy c x y st ce : Int) (r : LRes) : Prop := GoodK Tryz.prog 113 Tryz.f113 Ka3 ⟨fra3 c, 19, hTa3 F R st ce x y jx jy⟩ (oW2 r) 19 (h0a3 F R r.st r.ce jx jy)
theorem zeroa3 {F R jx jy : Int} (x y st ce : Int) : RestTa3 F R jx jy ((0 : Nat) : Int) x y st ce (sV F R 0 x y st ce) :=
  (endLow_ok (envS1_ok _ _) Tryz.func113 (enTa3 F R st ce x y jx jy ((0 : Nat) : Int)) (by simp) (Nat.le_of_ble_eq_true rfl)).1
theorem stepFa3 {F R jx jy : Int} (hF : F ≤ 4611686018427387904) (hR : R ≤ 4611686018427387904) (n : Nat) (hn : ((n + 1 : Nat) : Int) ≤ 4611686018427387904) (st ce : Int) (h1 : 0 ≤ st) (h2 : st ≤ F) (h3 : 0 ≤ ce) (h4 : ce ≤ R)
    (ih : ∀ (x y st ce : Int), 0 ≤ st → st ≤ F → 0 ≤ ce → ce ≤ R → RestTa3 F R jx jy n x y st ce (sV F R n x y st ce)) :
    RestFa3 F R jx jy ((n + 1 : Nat) : Int) st ce (sV F R (n + 1) jx jy st ce) := by
  have hpos : (0 : Int) < ((n + 1 : Nat) : Int) := by omega
  have wst : w (st + 1) = st + 1 := w_id (by omega) (by omega)
  have wce : w (ce + 2) = ce + 2 := w_id (by omega) (by omega)
  have uc : uw (((n + 1 : Nat) : Int) - 1) = (n : Int) := by rw [uw_id (by omega) (by omega)]; omega
  by_cases e : st = F
  · rw [show sV F R (n + 1) jx jy st ce = .stop 20 st ce from by rw [sV, if_pos e]]
    exact (endLow_ok (envS1_ok _ _) Tryz.func113 (fuFa3 F R st ce jx jy ((n + 1 : Nat) : Int)) (by simp [e, hpos]) (Nat.le_of_ble_eq_true rfl)).1
  by_cases e2 : R < ce + 2
  · rw [show sV F R (n + 1) jx jy st ce = .stop 21 (st + 1) (ce + 2) from by rw [sV, if_neg e, if_pos e2]]
    have := rmFa3 F R st ce jx jy ((n + 1 : Nat) : Int)
    rw [wst, wce] at this
    exact (endLow_ok (envS1_ok _ _) Tryz.func113 this (by simp [e, e2, hpos] <;> omega) (Nat.le_of_ble_eq_true rfl)).1
  · rw [show sV F R (n + 1) jx jy st ce = sV F R n jy jx (st + 1) (ce + 2) from by rw [sV, if_neg e, if_neg e2]]
    have := itFa3 F R st ce jx jy ((n + 1 : Nat) : Int)
    rw [uc, wst, wce] at this
    exact iter_ok (envS1_ok _ _) this (by simp [e, e2, hpos] <;> omega) (Nat.le_of_ble_eq_true rfl) (lowsa3 F R jx jy _) (ih jy jx (st + 1) (ce + 2) (by omega) (by omega) (by omega) (by omega))
theorem stepTa3 {F R jx jy : Int} (hF : F ≤ 4611686018427387904) (hR : R ≤ 4611686018427387904) (n : Nat) (hn : ((n + 1 : Nat) : Int) ≤ 4611686018427387904) (x y st ce : Int) (h1 : 0 ≤ st) (h2 : st ≤ F) (h3 : 0 ≤ ce) (h4 : ce ≤ R)
    (ih : ∀ (x y st ce : Int), 0 ≤ st → st ≤ F → 0 ≤ ce → ce ≤ R → RestTa3 F R jx jy n x y st ce (sV F R n x y st ce)) :
    RestTa3 F R jx jy ((n + 1 : Nat) : Int) x y st ce (sV F R (n + 1) x y st ce) := by
  have hpos : (0 : Int) < ((n + 1 : Nat) : Int) := by omega
  have wst : w (st + 1) = st + 1 := w_id (by omega) (by omega)
  have wce : w (ce + 2) = ce + 2 := w_id (by omega) (by omega)
  have uc : uw (((n + 1 : Nat) : Int) - 1) = (n : Int) := by rw [uw_id (by omega) (by omega)]; omega
  by_cases e : st = F
  · rw [show sV F R (n + 1) x y st ce = .stop 20 st ce from by rw [sV, if_pos e]]
    exact (endLow_ok (envS1_ok _ _) Tryz.func113 (fuTa3 F R st ce x y jx jy ((n + 1 : Nat) : Int)) (by simp [e, hpos]) (Nat.le_of_ble_eq_true rfl)).1
  by_cases e2 : R < ce + 2
  · rw [show sV F R (n + 1) x y st ce = .stop 21 (st + 1) (ce + 2) from by rw [sV, if_neg e, if_pos e2]]
    have := rmTa3 F R st ce x y jx jy ((n + 1 : Nat) : Int)
    rw [wst, wce] at this
    exact (endLow_ok (envS1_ok _ _) Tryz.func113 this (by simp [e, e2, hpos] <;> omega) (Nat.le_of_ble_eq_true rfl)).1
  · rw [show sV F R (n + 1) x y st ce = sV F R n y x (st + 1) (ce + 2) from by rw [sV, if_neg e, if_neg e2]]
    have := itTa3 F R st ce x y jx jy ((n + 1 : Nat) : Int)
    rw [uc, wst, wce] at this
    exact iter_ok (envS1_ok _ _) this (by simp [e, e2, hpos] <;> omega) (Nat.le_of_ble_eq_true rfl) (lowsa3 F R jx jy _) (ih y x (st + 1) (ce + 2) (by omega) (by omega) (by omega) (by omega))
theorem loopa3 {F R jx jy : Int} (hF : F ≤ 4611686018427387904) (hR : R ≤ 4611686018427387904) (n : Nat) (hn : (n : Int) ≤ 4611686018427387904) : ∀ (x y st ce : Int), 0 ≤ st → st ≤ F → 0 ≤ ce → ce ≤ R →
    RestTa3 F R jx jy n x y st ce (sV F R n x y st ce) := by
  induction n with
  | zero => intro x y st ce _ _ _ _; exact zeroa3 x y st ce
  | succ n ih => intro x y st ce h1 h2 h3 h4; exact stepTa3 hF hR n hn x y st ce h1 h2 h3 h4 (ih (by omega))
theorem gooda3 {F R st ce jx jy : Int} (hF : F ≤ 4611686018427387904) (hR : R ≤ 4611686018427387904) (n : Nat) (hn : ((n + 1 : Nat) : Int) ≤ 4611686018427387904) (h1 : 0 ≤ st) (h2 : st ≤ F) (h3 : 0 ≤ ce) (h4 : ce ≤ R) :
    Cv.Good Tryz.prog 113 (ara3 ((n + 1 : Nat) : Int)) 8 (h0a3 F R st ce jx jy) (oW2 (sV F R (n + 1) jx jy st ce)) 8 (h0a3 F R (sV F R (n + 1) jx jy st ce).st (sV F R (n + 1) jx jy st ce).ce jx jy) := by
  have hrest := stepFa3 (F := F) (R := R) (jx := jx) (jy := jy) hF hR n hn st ce h1 h2 h3 h4 (loopa3 hF hR n (by omega))
  have hin := ina3 F R st ce jx jy ((n + 1 : Nat) : Int)
  rw [uw_id (by omega) (by omega)] at hin
  exact entry_ok (envS1_ok _ _) Tryz.func113 (by kernel_rfl) Tryz.call113 (Nat.le_of_ble_eq_true (by kernel_rfl)) hin (by simp <;> omega) (Nat.le_refl _) (lowsa3 F R jx jy _) hrest
end Go.Wg
