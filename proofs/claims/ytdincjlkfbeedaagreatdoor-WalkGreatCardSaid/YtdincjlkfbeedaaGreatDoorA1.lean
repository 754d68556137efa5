/-
  The walk's times, one more.
-/
import Derived.Test.YtdincjlkfbeedaaGreatDoorT4
set_option linter.all false
namespace Go.Wg
open Go Go.Cv Go.Proofs

def fra1 (c : Int) : Fr := [(0, .ptr 0 0 0), (4, .ptr 1 0 0), (6, .ptr 7 0 0), (8, .ptr 8 0 0), (10, .ptr 9 0 0), (12, u64 c)]
def h0a1 (F R st ce jv : Int) : Heap := [(0, ⟨0, [.ptr 2 0 0, int F, int R, int st, int ce, nilS, .lit .nilFunc, .lit (.chan none)], none⟩), (1, ⟨0, [.lit (.map none), nilS, nilS], none⟩), (2, ⟨0, [.mp 3 0, .mp 4 0, .mp 5 0, int 0], none⟩), (3, ⟨0, [], some []⟩), (4, ⟨0, [], some []⟩), (5, ⟨0, [], some []⟩), (6, ⟨0, [int jv], none⟩)]
def hFa1 (F R st ce jv : Int) : Heap := [(0, ⟨0, [.ptr 2 0 0, int F, int R, int st, int ce, nilS, .lit .nilFunc, .lit (.chan none)], none⟩), (1, ⟨0, [.lit (.map none), nilS, nilS], none⟩), (2, ⟨0, [.mp 3 0, .mp 4 0, .mp 5 0, int 0], none⟩), (3, ⟨0, [], some []⟩), (4, ⟨0, [], some []⟩), (5, ⟨0, [], some []⟩), (6, ⟨0, [int jv], none⟩), (7, ⟨0, [int 20, .lit (.string ⟨#[62, 58]⟩), int 0, nilS, nilS, nilS], none⟩), (8, ⟨0, [.lit (.bool false), nilS, nilS, nilS, .sl 6 0 0 1 1], none⟩), (9, ⟨0, [nilS, nilS], none⟩)]
def hTa1 (F R st ce v jv : Int) : Heap := [(0, ⟨0, [.ptr 2 0 0, int F, int R, int st, int ce, nilS, .lit .nilFunc, .lit (.chan none)], none⟩), (1, ⟨0, [.lit (.map none), nilS, nilS], none⟩), (2, ⟨0, [.mp 3 0, .mp 4 0, .mp 5 0, int 0], none⟩), (3, ⟨0, [], some []⟩), (4, ⟨0, [], some []⟩), (5, ⟨0, [], some []⟩), (6, ⟨0, [int jv], none⟩), (7, ⟨0, [int 20, .lit (.string ⟨#[62, 58]⟩), int 0, nilS, nilS, nilS], none⟩), (8, ⟨0, [.lit (.bool false), nilS, nilS, nilS, .sl 16 0 0 1 1], none⟩), (9, ⟨0, [nilS, nilS], none⟩), (16, ⟨0, [int v], none⟩)]
def ara1 (c : Int) : List CV := [.ptr 0 0 0, .agg [int 20, .lit (.string ⟨#[62, 58]⟩), int 0, nilS, nilS, nilS], int c, .agg [.lit (.bool false), nilS, nilS, nilS, .sl 6 0 0 1 1], .ptr 1 0 0]
noncomputable def Ka1 : List Item :=
  match crun Tryz.prog (envS [51, 381, 106, 113] (some 2) kn1) 5000 100113 Tryz.f113.ntmps (.run [.code (Tryz.f113.body.getD .skip)] ⟨entryFr (ara1 0), 7, h0a1 0 0 0 0 0⟩) ⟨[false], [], []⟩ with
  | some (.at K _, _) => K
  | _ => []
theorem ina1 (F R st ce jv c : Int) : headSel (crun Tryz.prog (envS [51, 381, 106, 113] (some 2) kn1) 5000 100113 Tryz.f113.ntmps (.run [.code (Tryz.f113.body.getD .skip)] ⟨entryFr (ara1 c), 7, h0a1 F R st ce jv⟩) ⟨[false], [], []⟩) [0, 4, 6, 8, 10, 12] [0, 1, 2, 3, 4, 5, 6, 7, 8, 9] =
    some (Ka1, fra1 (uw c), 16, hFa1 F R st ce jv, [(decide (c < 0), false)]) := by kernel_rfl
theorem itFa1 (F R st ce jv c : Int) : iterSel 7 17 [0, 1, 2, 3, 4, 5, 6, 7, 8, 9, 10, 11, 12, 13, 14, 15, 741] (fra1 (uw (c - 1))) (hTa1 F R (w (st + 1)) (w (ce + 1)) (w (jv + 1)) jv) (crun Tryz.prog (envS [51, 381, 106, 113] (some 2) kn1) 20000 100113 Tryz.f113.ntmps (.run Ka1 ⟨fra1 c, 16, hFa1 F R st ce jv⟩) ⟨[true, false, false, false, false, false, false], [], []⟩) =
    some (Ka1, [(decide (uw (c - 1) = uw (c - 1)), true), (decide (w (jv + 1) = w (jv + 1)), true), (false, false), (decide ((20 : Int) = 20), true), (decide ((0 : Int) = 0), true), (decide (jv = jv), true), (decide ((0 : Int) = 0), true), (decide (F = F), true), (decide (R = R), true), (decide (w (st + 1) = w (st + 1)), true), (decide (w (ce + 1) = w (ce + 1)), true), (false, false), (decide (R < w (ce + 1)), false), (!(decide (jv < w (jv + 1)) == decide ((0 : Int) < 1)), false), (false, false), (false, false), (decide (st = F), false), (decide (0 < c), true)]) := by kernel_rfl
theorem rmFa1 (F R st ce jv c : Int) : endLow Tryz.prog Tryz.f113 7 [0, 1, 2, 3, 4, 5, 6] (crun Tryz.prog (envS [51, 381, 106, 113] (some 2) kn1) 20000 100113 Tryz.f113.ntmps (.run Ka1 ⟨fra1 c, 16, hFa1 F R st ce jv⟩) ⟨[true, false, false, false, false, true], [], []⟩) =
    some (.pan (spent 21), h0a1 F R (w (st + 1)) (w (ce + 1)) jv, [(decide (R < w (ce + 1)), true), (!(decide (jv < w (jv + 1)) == decide ((0 : Int) < 1)), false), (false, false), (false, false), (decide (st = F), false), (decide (0 < c), true)]) := by kernel_rfl
theorem fuFa1 (F R st ce jv c : Int) : endLow Tryz.prog Tryz.f113 7 [0, 1, 2, 3, 4, 5, 6] (crun Tryz.prog (envS [51, 381, 106, 113] (some 2) kn1) 20000 100113 Tryz.f113.ntmps (.run Ka1 ⟨fra1 c, 16, hFa1 F R st ce jv⟩) ⟨[true, true], [], []⟩) =
    some (.pan (spent 20), h0a1 F R st ce jv, [(decide (st = F), true), (decide (0 < c), true)]) := by kernel_rfl
theorem itTa1 (F R st ce v jv c : Int) : iterSel 7 17 [0, 1, 2, 3, 4, 5, 6, 7, 8, 9, 10, 11, 12, 13, 14, 15, 742] (fra1 (uw (c - 1))) (hTa1 F R (w (st + 1)) (w (ce + 1)) (w (v + 1)) jv) (crun Tryz.prog (envS [51, 381, 106, 113] (some 2) kn1) 20000 100113 Tryz.f113.ntmps (.run Ka1 ⟨fra1 c, 17, hTa1 F R st ce v jv⟩) ⟨[true, false, false, false, false, false, false], [], []⟩) =
    some (Ka1, [(decide (uw (c - 1) = uw (c - 1)), true), (decide (w (v + 1) = w (v + 1)), true), (false, false), (decide ((20 : Int) = 20), true), (decide ((0 : Int) = 0), true), (decide (jv = jv), true), (decide ((0 : Int) = 0), true), (decide (F = F), true), (decide (R = R), true), (decide (w (st + 1) = w (st + 1)), true), (decide (w (ce + 1) = w (ce + 1)), true), (false, false), (decide (R < w (ce + 1)), false), (!(decide (v < w (v + 1)) == decide ((0 : Int) < 1)), false), (false, false), (false, false), (decide (st = F), false), (decide (0 < c), true)]) := by kernel_rfl
theorem rmTa1 (F R st ce v jv c : Int) : endLow Tryz.prog Tryz.f113 7 [0, 1, 2, 3, 4, 5, 6] (crun Tryz.prog (envS [51, 381, 106, 113] (some 2) kn1) 20000 100113 Tryz.f113.ntmps (.run Ka1 ⟨fra1 c, 17, hTa1 F R st ce v jv⟩) ⟨[true, false, false, false, false, true], [], []⟩) =
    some (.pan (spent 21), h0a1 F R (w (st + 1)) (w (ce + 1)) jv, [(decide (R < w (ce + 1)), true), (!(decide (v < w (v + 1)) == decide ((0 : Int) < 1)), false), (false, false), (false, false), (decide (st = F), false), (decide (0 < c), true)]) := by kernel_rfl
theorem fuTa1 (F R st ce v jv c : Int) : endLow Tryz.prog Tryz.f113 7 [0, 1, 2, 3, 4, 5, 6] (crun Tryz.prog (envS [51, 381, 106, 113] (some 2) kn1) 20000 100113 Tryz.f113.ntmps (.run Ka1 ⟨fra1 c, 17, hTa1 F R st ce v jv⟩) ⟨[true, true], [], []⟩) =
    some (.pan (spent 20), h0a1 F R st ce jv, [(decide (st = F), true), (decide (0 < c), true)]) := by kernel_rfl
theorem enTa1 (F R st ce v jv c : Int) : endLow Tryz.prog Tryz.f113 7 [0, 1, 2, 3, 4, 5, 6] (crun Tryz.prog (envS [51, 381, 106, 113] (some 2) kn1) 20000 100113 Tryz.f113.ntmps (.run Ka1 ⟨fra1 c, 17, hTa1 F R st ce v jv⟩) ⟨[false], [], []⟩) =
    some (oW1 (.ok v 0 st ce), h0a1 F R st ce jv, [(decide (0 < c), false)]) := by kernel_rfl
theorem lowsa1 (F R jv : Int) (r : LRes) : Lows 7 (oW1 r) (h0a1 F R r.st r.ce jv) := by
  refine lows_of (ids := [0, 1, 2, 3, 4, 5, 6]) ?_ (by kernel_rfl)
  cases r <;> kernel_rfl
abbrev RestFa1 (F R jv c st ce : Int) (r : LRes) : Prop := GoodK Tryz.prog 113 Tryz.f113 Ka1 ⟨fra1 c, 16, hFa1 F R st ce jv⟩ (oW1 r) 16 (h0a1 F R r.st r.ce jv)
abbrev RestTa1 (F R jv c v st ce : Int) (r : LRes) : Prop := GoodK Tryz.prog 113 Tryz.f113 Ka1 ⟨fra1 c, 17, hTa1 F R st ce v jv⟩ (oW1 r) 17 (h0a1 F R r.st r.ce jv)
theorem zeroa1 {F R jv : Int} (v st ce : Int) : RestTa1 F R jv ((0 : Nat) : Int) v st ce (sI F R 0 v st ce) :=
  (endLow_ok (envS1_ok _ _) Tryz.func113 (enTa1 F R st ce v jv ((0 : Nat) : Int)) (by simp) (Nat.le_of_ble_eq_true rfl)).1
theorem stepFa1 {F R jv : Int} (hF : F ≤ 4611686018427387904) (hR : R ≤ 4611686018427387904) (n : Nat) (hn : ((n + 1 : Nat) : Int) ≤ 4611686018427387904) (st ce : Int) (h1 : 0 ≤ st) (h2 : st ≤ F) (h3 : 0 ≤ ce) (h4 : ce ≤ R) (h5 : 0 ≤ jv) (h6 : jv + ((n + 1 : Nat) : Int) ≤ 4611686018427387904)
    (ih : ∀ (v st ce : Int), 0 ≤ st → st ≤ F → 0 ≤ ce → ce ≤ R → 0 ≤ v → v + n ≤ 4611686018427387904 → RestTa1 F R jv n v st ce (sI F R n v st ce)) :
    RestFa1 F R jv ((n + 1 : Nat) : Int) st ce (sI F R (n + 1) jv st ce) := by
  have hpos : (0 : Int) < ((n + 1 : Nat) : Int) := by omega
  have wst : w (st + 1) = st + 1 := w_id (by omega) (by omega)
  have wce : w (ce + 1) = ce + 1 := w_id (by omega) (by omega)
  have wv : w (jv + 1) = jv + 1 := w_id (by omega) (by omega)
  have uc : uw (((n + 1 : Nat) : Int) - 1) = (n : Int) := by rw [uw_id (by omega) (by omega)]; omega
  by_cases e : st = F
  · rw [show sI F R (n + 1) jv st ce = .stop 20 st ce from by rw [sI, if_pos e]]
    exact (endLow_ok (envS1_ok _ _) Tryz.func113 (fuFa1 F R st ce jv ((n + 1 : Nat) : Int)) (by simp [e, hpos]) (Nat.le_of_ble_eq_true rfl)).1
  by_cases e2 : R < ce + 1
  · rw [show sI F R (n + 1) jv st ce = .stop 21 (st + 1) (ce + 1) from by rw [sI, if_neg e, if_pos e2]]
    have := rmFa1 F R st ce jv ((n + 1 : Nat) : Int)
    rw [wst, wce, wv] at this
    exact (endLow_ok (envS1_ok _ _) Tryz.func113 this (by simp [e, e2, hpos] <;> omega) (Nat.le_of_ble_eq_true rfl)).1
  · rw [show sI F R (n + 1) jv st ce = sI F R n (jv + 1) (st + 1) (ce + 1) from by rw [sI, if_neg e, if_neg e2]]
    have := itFa1 F R st ce jv ((n + 1 : Nat) : Int)
    rw [uc, wst, wce, wv] at this
    exact iter_ok (envS1_ok _ _) this (by simp [e, e2, hpos] <;> omega) (Nat.le_of_ble_eq_true rfl) (lowsa1 F R jv _) (ih (jv + 1) (st + 1) (ce + 1) (by omega) (by omega) (by omega) (by omega) (by omega) (by omega))
theorem stepTa1 {F R jv : Int} (hF : F ≤ 4611686018427387904) (hR : R ≤ 4611686018427387904) (n : Nat) (hn : ((n + 1 : Nat) : Int) ≤ 4611686018427387904) (v st ce : Int) (h1 : 0 ≤ st) (h2 : st ≤ F) (h3 : 0 ≤ ce) (h4 : ce ≤ R) (h5 : 0 ≤ v) (h6 : v + ((n + 1 : Nat) : Int) ≤ 4611686018427387904)
    (ih : ∀ (v st ce : Int), 0 ≤ st → st ≤ F → 0 ≤ ce → ce ≤ R → 0 ≤ v → v + n ≤ 4611686018427387904 → RestTa1 F R jv n v st ce (sI F R n v st ce)) :
    RestTa1 F R jv ((n + 1 : Nat) : Int) v st ce (sI F R (n + 1) v st ce) := by
  have hpos : (0 : Int) < ((n + 1 : Nat) : Int) := by omega
  have wst : w (st + 1) = st + 1 := w_id (by omega) (by omega)
  have wce : w (ce + 1) = ce + 1 := w_id (by omega) (by omega)
  have wv : w (v + 1) = v + 1 := w_id (by omega) (by omega)
  have uc : uw (((n + 1 : Nat) : Int) - 1) = (n : Int) := by rw [uw_id (by omega) (by omega)]; omega
  by_cases e : st = F
  · rw [show sI F R (n + 1) v st ce = .stop 20 st ce from by rw [sI, if_pos e]]
    exact (endLow_ok (envS1_ok _ _) Tryz.func113 (fuTa1 F R st ce v jv ((n + 1 : Nat) : Int)) (by simp [e, hpos]) (Nat.le_of_ble_eq_true rfl)).1
  by_cases e2 : R < ce + 1
  · rw [show sI F R (n + 1) v st ce = .stop 21 (st + 1) (ce + 1) from by rw [sI, if_neg e, if_pos e2]]
    have := rmTa1 F R st ce v jv ((n + 1 : Nat) : Int)
    rw [wst, wce, wv] at this
    exact (endLow_ok (envS1_ok _ _) Tryz.func113 this (by simp [e, e2, hpos] <;> omega) (Nat.le_of_ble_eq_true rfl)).1
  · rw [show sI F R (n + 1) v st ce = sI F R n (v + 1) (st + 1) (ce + 1) from by rw [sI, if_neg e, if_neg e2]]
    have := itTa1 F R st ce v jv ((n + 1 : Nat) : Int)
    rw [uc, wst, wce, wv] at this
    exact iter_ok (envS1_ok _ _) this (by simp [e, e2, hpos] <;> omega) (Nat.le_of_ble_eq_true rfl) (lowsa1 F R jv _) (ih (v + 1) (st + 1) (ce + 1) (by omega) (by omega) (by omega) (by omega) (by omega) (by omega))
theorem loopa1 {F R jv : Int} (hF : F ≤ 4611686018427387904) (hR : R ≤ 4611686018427387904) (n : Nat) (hn : (n : Int) ≤ 4611686018427387904) : ∀ (v st ce : Int), 0 ≤ st → st ≤ F → 0 ≤ ce → ce ≤ R → 0 ≤ v → v + n ≤ 4611686018427387904 →
    RestTa1 F R jv n v st ce (sI F R n v st ce) := by
  induction n with
  | zero => intro v st ce _ _ _ _ _ _; exact zeroa1 v st ce
  | succ n ih => intro v st ce h1 h2 h3 h4 h5 h6; exact stepTa1 hF hR n hn v st ce h1 h2 h3 h4 h5 h6 (ih (by omega))
theorem gooda1 {F R st ce jv : Int} (hF : F ≤ 4611686018427387904) (hR : R ≤ 4611686018427387904) (n : Nat) (hn : ((n + 1 : Nat) : Int) ≤ 4611686018427387904) (h1 : 0 ≤ st) (h2 : st ≤ F) (h3 : 0 ≤ ce) (h4 : ce ≤ R) (h5 : 0 ≤ jv) (h6 : jv + ((n + 1 : Nat) : Int) ≤ 4611686018427387904) :
    Cv.Good Tryz.prog 113 (ara1 ((n + 1 : Nat) : Int)) 7 (h0a1 F R st ce jv) (oW1 (sI F R (n + 1) jv st ce)) 7 (h0a1 F R (sI F R (n + 1) jv st ce).st (sI F R (n + 1) jv st ce).ce jv) := by
  have hrest := stepFa1 (F := F) (R := R) (jv := jv) hF hR n hn st ce h1 h2 h3 h4 h5 h6 (loopa1 hF hR n (by omega))
  have hin := ina1 F R st ce jv ((n + 1 : Nat) : Int)
  rw [uw_id (by omega) (by omega)] at hin
  exact entry_ok (envS1_ok _ _) Tryz.func113 (by kernel_rfl) Tryz.call113 (Nat.le_of_ble_eq_true (by kernel_rfl)) hin (by simp <;> omega) (Nat.le_refl _) (lowsa1 F R jv _) hrest
end Go.Wg
