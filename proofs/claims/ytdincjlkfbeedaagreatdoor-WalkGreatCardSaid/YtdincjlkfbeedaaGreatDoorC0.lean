/-
  The loops of a while, whole: their contracts.
-/
import Derived.Test.YtdincjlkfbeedaaGreatDoorA0
import Derived.Test.YtdincjlkfbeedaaGreatDoorB0
set_option linter.all false
namespace Go.Wg
open Go Go.Cv Go.Proofs

theorem lowsa0 (F R jv : Int) (r : LRes) : Lows 10 (oW0 r) (hRa0 F R jv r) := by
  cases r with
  | ok v x st ce => exact lows_of (ids := [0, 1, 2, 3, 4, 5, 6, 7, 8, 9]) (by kernel_rfl) (by kernel_rfl)
  | stop code st ce => exact lows_of (ids := [0, 2, 3, 4, 5, 8, 9]) (by kernel_rfl) (by kernel_rfl)
abbrev RestFa0 (F R jv st ce : Int) (r : LRes) : Prop := GoodK Tryz.prog 176 Tryz.f176 Ka0 ⟨fra0, 47, hFa0 F R st ce jv⟩ (oW0 r) 47 (hRa0 F R jv r)
abbrev RestTa0 (F R jv v st ce : Int) (r : LRes) : Prop := GoodK Tryz.prog 176 Tryz.f176 Ka0 ⟨fra0, 48, hTa0 F R st ce v jv⟩ (oW0 r) 48 (hRa0 F R jv r)
theorem zeroa0 {F R jv : Int} (hF : F ≤ 4611686018427387904) (st ce : Int) (h1 : 0 ≤ st) (h2 : st ≤ F) : RestTa0 F R jv ((0 : Nat) : Int) st ce (tW F R 0 st ce) := by
  have w1 : w (st + 1) = st + 1 := w_id (by omega) (by omega)
  by_cases e : st = F
  · rw [show tW F R 0 st ce = .stop 20 st ce from by rw [tW, if_pos e]]
    exact (endLowF_ok (envS1_ok _ _) Tryz.func176 (fuT0a0 F R st ce ((0 : Nat) : Int) jv) (by simp [e] <;> omega) (Nat.le_of_ble_eq_true rfl)).1
  · rw [show tW F R 0 st ce = .ok 0 0 (st + 1) ce from by rw [tW, if_neg e, sW]]
    have := ena0 F R st ce jv
    rw [w1] at this
    exact (endLowF_ok (envS1_ok _ _) Tryz.func176 (this) (by simp [e] <;> omega) (Nat.le_of_ble_eq_true rfl)).1
theorem stepFa0 {F R jv : Int} (hF : F ≤ 4611686018427387904) (hR : R ≤ 4611686018427387904) (n : Nat) (hn : ((n + 1 : Nat) : Int) ≤ 4611686018427387904) (hj : jv = ((n + 1 : Nat) : Int)) (st ce : Int) (h1 : 0 ≤ st) (h2 : st ≤ F) (h3 : 0 ≤ ce) (h4 : ce ≤ R)
    (ih : ∀ (st ce : Int), 0 ≤ st → st ≤ F → 0 ≤ ce → ce ≤ R → RestTa0 F R jv n st ce (tW F R n st ce)) :
    RestFa0 F R jv st ce (tW F R (n + 1) st ce) := by
  have hv : ¬ jv = 0 := by omega
  have hv1 : w (jv - 1) = (n : Int) := by rw [w_id (by omega) (by omega)]; omega
  have hv2 : (n : Int) < jv := by omega
  have hv3 : ¬ jv < -9223372036854775807 := by omega
  have w1 : w (st + 1) = st + 1 := w_id (by omega) (by omega)
  have w2 : w (st + 1 + 1) = st + 2 := by rw [w_id (by omega) (by omega)]; omega
  have w3 : w (st + 2 + 1) = st + 3 := by rw [w_id (by omega) (by omega)]; omega
  have w4 : w (st + 3 + 1) = st + 4 := by rw [w_id (by omega) (by omega)]; omega
  have w5 : w (st + 4 + 1) = st + 5 := by rw [w_id (by omega) (by omega)]; omega
  have w6 : w (st + 5 + 1) = st + 6 := by rw [w_id (by omega) (by omega)]; omega
  have w7 : w (st + 6 + 1) = st + 7 := by rw [w_id (by omega) (by omega)]; omega
  have w8 : w (st + 7 + 1) = st + 8 := by rw [w_id (by omega) (by omega)]; omega
  have wce : w (ce + 1) = ce + 1 := w_id (by omega) (by omega)
  by_cases e0 : st = F
  · rw [show tW F R (n + 1) st ce = .stop 20 (st) (ce) from by rw [tW_succ, if_pos e0]]
    have := fuF0a0 F R st ce jv
    try simp only [w1, w2, w3, w4, w5, w6, w7, w8, wce, hv1] at this
    exact (endLowF_ok (envS1_ok _ _) Tryz.func176 (this) (by simp [e0, hv, hv2, hv3] <;> omega) (Nat.le_of_ble_eq_true rfl)).1
  by_cases e1 : st + 1 = F
  · rw [show tW F R (n + 1) st ce = .stop 20 (st + 1) (ce) from by rw [tW_succ, if_neg e0, if_pos e1]]
    have := fuF1a0 F R st ce jv
    try simp only [w1, w2, w3, w4, w5, w6, w7, w8, wce, hv1] at this
    exact (endLowF_ok (envS1_ok _ _) Tryz.func176 (this) (by simp [e0, e1, hv, hv2, hv3] <;> omega) (Nat.le_of_ble_eq_true rfl)).1
  by_cases e2 : st + 2 = F
  · rw [show tW F R (n + 1) st ce = .stop 20 (st + 2) (ce) from by rw [tW_succ, if_neg e0, if_neg e1, if_pos e2]]
    have := fuF2a0 F R st ce jv
    try simp only [w1, w2, w3, w4, w5, w6, w7, w8, wce, hv1] at this
    exact (endLowF_ok (envS1_ok _ _) Tryz.func176 (this) (by simp [e0, e1, e2, hv, hv2, hv3] <;> omega) (Nat.le_of_ble_eq_true rfl)).1
  by_cases e3 : st + 3 = F
  · rw [show tW F R (n + 1) st ce = .stop 20 (st + 3) (ce) from by rw [tW_succ, if_neg e0, if_neg e1, if_neg e2, if_pos e3]]
    have := fuF3a0 F R st ce jv
    try simp only [w1, w2, w3, w4, w5, w6, w7, w8, wce, hv1] at this
    exact (endLowF_ok (envS1_ok _ _) Tryz.func176 (this) (by simp [e0, e1, e2, e3, hv, hv2, hv3] <;> omega) (Nat.le_of_ble_eq_true rfl)).1
  by_cases e4 : st + 4 = F
  · rw [show tW F R (n + 1) st ce = .stop 20 (st + 4) (ce) from by rw [tW_succ, if_neg e0, if_neg e1, if_neg e2, if_neg e3, if_pos e4]]
    have := fuF4a0 F R st ce jv
    try simp only [w1, w2, w3, w4, w5, w6, w7, w8, wce, hv1] at this
    exact (endLowF_ok (envS1_ok _ _) Tryz.func176 (this) (by simp [e0, e1, e2, e3, e4, hv, hv2, hv3] <;> omega) (Nat.le_of_ble_eq_true rfl)).1
  by_cases e5 : st + 5 = F
  · rw [show tW F R (n + 1) st ce = .stop 20 (st + 5) (ce) from by rw [tW_succ, if_neg e0, if_neg e1, if_neg e2, if_neg e3, if_neg e4, if_pos e5]]
    have := fuF5a0 F R st ce jv
    try simp only [w1, w2, w3, w4, w5, w6, w7, w8, wce, hv1] at this
    exact (endLowF_ok (envS1_ok _ _) Tryz.func176 (this) (by simp [e0, e1, e2, e3, e4, e5, hv, hv2, hv3] <;> omega) (Nat.le_of_ble_eq_true rfl)).1
  by_cases e6 : st + 6 = F
  · rw [show tW F R (n + 1) st ce = .stop 20 (st + 6) (ce) from by rw [tW_succ, if_neg e0, if_neg e1, if_neg e2, if_neg e3, if_neg e4, if_neg e5, if_pos e6]]
    have := fuF6a0 F R st ce jv
    try simp only [w1, w2, w3, w4, w5, w6, w7, w8, wce, hv1] at this
    exact (endLowF_ok (envS1_ok _ _) Tryz.func176 (this) (by simp [e0, e1, e2, e3, e4, e5, e6, hv, hv2, hv3] <;> omega) (Nat.le_of_ble_eq_true rfl)).1
  by_cases er : R < ce + 1
  · rw [show tW F R (n + 1) st ce = .stop 21 (st + 7) (ce + 1) from by rw [tW_succ, if_neg e0, if_neg e1, if_neg e2, if_neg e3, if_neg e4, if_neg e5, if_neg e6, if_pos er]]
    have := rmFa0 F R st ce jv
    try simp only [w1, w2, w3, w4, w5, w6, w7, w8, wce, hv1] at this
    exact (endLowF_ok (envS1_ok _ _) Tryz.func176 (this) (by simp [e0, e1, e2, e3, e4, e5, e6, er, hv, hv2, hv3] <;> omega) (Nat.le_of_ble_eq_true rfl)).1
  by_cases e7 : st + 7 = F
  · rw [show tW F R (n + 1) st ce = .stop 20 (st + 7) (ce + 1) from by rw [tW_succ, if_neg e0, if_neg e1, if_neg e2, if_neg e3, if_neg e4, if_neg e5, if_neg e6, if_neg er, if_pos e7]]
    have := fuF7a0 F R st ce jv
    try simp only [w1, w2, w3, w4, w5, w6, w7, w8, wce, hv1] at this
    exact (endLowF_ok (envS1_ok _ _) Tryz.func176 (this) (by simp [e0, e1, e2, e3, e4, e5, e6, er, e7, hv, hv2, hv3] <;> omega) (Nat.le_of_ble_eq_true rfl)).1
  rw [show tW F R (n + 1) st ce = tW F R n (st + 8) (ce + 1) from by rw [tW_succ, if_neg e0, if_neg e1, if_neg e2, if_neg e3, if_neg e4, if_neg e5, if_neg e6, if_neg er, if_neg e7]]
  have := itFa0 F R st ce jv
  simp only [w1, w2, w3, w4, w5, w6, w7, w8, wce, hv1] at this
  exact iter_ok (envS1_ok _ _) this (by simp [e0, e1, e2, e3, e4, e5, e6, er, e7, hv, hv2, hv3] <;> omega) (Nat.le_of_ble_eq_true rfl) (lowsa0 F R jv _) (ih (st + 8) (ce + 1) (by omega) (by omega) (by omega) (by omega))
theorem stepTa0 {F R jv : Int} (hF : F ≤ 4611686018427387904) (hR : R ≤ 4611686018427387904) (n : Nat) (hn : ((n + 1 : Nat) : Int) ≤ 4611686018427387904) (st ce : Int) (h1 : 0 ≤ st) (h2 : st ≤ F) (h3 : 0 ≤ ce) (h4 : ce ≤ R)
    (ih : ∀ (st ce : Int), 0 ≤ st → st ≤ F → 0 ≤ ce → ce ≤ R → RestTa0 F R jv n st ce (tW F R n st ce)) :
    RestTa0 F R jv ((n + 1 : Nat) : Int) st ce (tW F R (n + 1) st ce) := by
  have hv : ¬ ((n + 1 : Nat) : Int) = 0 := by omega
  have hv1 : w (((n + 1 : Nat) : Int) - 1) = (n : Int) := by rw [w_id (by omega) (by omega)]; omega
  have hv2 : (n : Int) < ((n + 1 : Nat) : Int) := by omega
  have hv3 : ¬ ((n + 1 : Nat) : Int) < -9223372036854775807 := by omega
  have w1 : w (st + 1) = st + 1 := w_id (by omega) (by omega)
  have w2 : w (st + 1 + 1) = st + 2 := by rw [w_id (by omega) (by omega)]; omega
  have w3 : w (st + 2 + 1) = st + 3 := by rw [w_id (by omega) (by omega)]; omega
  have w4 : w (st + 3 + 1) = st + 4 := by rw [w_id (by omega) (by omega)]; omega
  have w5 : w (st + 4 + 1) = st + 5 := by rw [w_id (by omega) (by omega)]; omega
  have w6 : w (st + 5 + 1) = st + 6 := by rw [w_id (by omega) (by omega)]; omega
  have w7 : w (st + 6 + 1) = st + 7 := by rw [w_id (by omega) (by omega)]; omega
  have w8 : w (st + 7 + 1) = st + 8 := by rw [w_id (by omega) (by omega)]; omega
  have wce : w (ce + 1) = ce + 1 := w_id (by omega) (by omega)
  by_cases e0 : st = F
  · rw [show tW F R (n + 1) st ce = .stop 20 (st) (ce) from by rw [tW_succ, if_pos e0]]
    have := fuT0a0 F R st ce ((n + 1 : Nat) : Int) jv
    try simp only [w1, w2, w3, w4, w5, w6, w7, w8, wce, hv1] at this
    exact (endLowF_ok (envS1_ok _ _) Tryz.func176 (this) (by simp [e0, hv, hv2, hv3] <;> omega) (Nat.le_of_ble_eq_true rfl)).1
  by_cases e1 : st + 1 = F
  · rw [show tW F R (n + 1) st ce = .stop 20 (st + 1) (ce) from by rw [tW_succ, if_neg e0, if_pos e1]]
    have := fuT1a0 F R st ce ((n + 1 : Nat) : Int) jv
    try simp only [w1, w2, w3, w4, w5, w6, w7, w8, wce, hv1] at this
    exact (endLowF_ok (envS1_ok _ _) Tryz.func176 (this) (by simp [e0, e1, hv, hv2, hv3] <;> omega) (Nat.le_of_ble_eq_true rfl)).1
  by_cases e2 : st + 2 = F
  · rw [show tW F R (n + 1) st ce = .stop 20 (st + 2) (ce) from by rw [tW_succ, if_neg e0, if_neg e1, if_pos e2]]
    have := fuT2a0 F R st ce ((n + 1 : Nat) : Int) jv
    try simp only [w1, w2, w3, w4, w5, w6, w7, w8, wce, hv1] at this
    exact (endLowF_ok (envS1_ok _ _) Tryz.func176 (this) (by simp [e0, e1, e2, hv, hv2, hv3] <;> omega) (Nat.le_of_ble_eq_true rfl)).1
  by_cases e3 : st + 3 = F
  · rw [show tW F R (n + 1) st ce = .stop 20 (st + 3) (ce) from by rw [tW_succ, if_neg e0, if_neg e1, if_neg e2, if_pos e3]]
    have := fuT3a0 F R st ce ((n + 1 : Nat) : Int) jv
    try simp only [w1, w2, w3, w4, w5, w6, w7, w8, wce, hv1] at this
    exact (endLowF_ok (envS1_ok _ _) Tryz.func176 (this) (by simp [e0, e1, e2, e3, hv, hv2, hv3] <;> omega) (Nat.le_of_ble_eq_true rfl)).1
  by_cases e4 : st + 4 = F
  · rw [show tW F R (n + 1) st ce = .stop 20 (st + 4) (ce) from by rw [tW_succ, if_neg e0, if_neg e1, if_neg e2, if_neg e3, if_pos e4]]
    have := fuT4a0 F R st ce ((n + 1 : Nat) : Int) jv
    try simp only [w1, w2, w3, w4, w5, w6, w7, w8, wce, hv1] at this
    exact (endLowF_ok (envS1_ok _ _) Tryz.func176 (this) (by simp [e0, e1, e2, e3, e4, hv, hv2, hv3] <;> omega) (Nat.le_of_ble_eq_true rfl)).1
  by_cases e5 : st + 5 = F
  · rw [show tW F R (n + 1) st ce = .stop 20 (st + 5) (ce) from by rw [tW_succ, if_neg e0, if_neg e1, if_neg e2, if_neg e3, if_neg e4, if_pos e5]]
    have := fuT5a0 F R st ce ((n + 1 : Nat) : Int) jv
    try simp only [w1, w2, w3, w4, w5, w6, w7, w8, wce, hv1] at this
    exact (endLowF_ok (envS1_ok _ _) Tryz.func176 (this) (by simp [e0, e1, e2, e3, e4, e5, hv, hv2, hv3] <;> omega) (Nat.le_of_ble_eq_true rfl)).1
  by_cases e6 : st + 6 = F
  · rw [show tW F R (n + 1) st ce = .stop 20 (st + 6) (ce) from by rw [tW_succ, if_neg e0, if_neg e1, if_neg e2, if_neg e3, if_neg e4, if_neg e5, if_pos e6]]
    have := fuT6a0 F R st ce ((n + 1 : Nat) : Int) jv
    try simp only [w1, w2, w3, w4, w5, w6, w7, w8, wce, hv1] at this
    exact (endLowF_ok (envS1_ok _ _) Tryz.func176 (this) (by simp [e0, e1, e2, e3, e4, e5, e6, hv, hv2, hv3] <;> omega) (Nat.le_of_ble_eq_true rfl)).1
  by_cases er : R < ce + 1
  · rw [show tW F R (n + 1) st ce = .stop 21 (st + 7) (ce + 1) from by rw [tW_succ, if_neg e0, if_neg e1, if_neg e2, if_neg e3, if_neg e4, if_neg e5, if_neg e6, if_pos er]]
    have := rmTa0 F R st ce ((n + 1 : Nat) : Int) jv
    try simp only [w1, w2, w3, w4, w5, w6, w7, w8, wce, hv1] at this
    exact (endLowF_ok (envS1_ok _ _) Tryz.func176 (this) (by simp [e0, e1, e2, e3, e4, e5, e6, er, hv, hv2, hv3] <;> omega) (Nat.le_of_ble_eq_true rfl)).1
  by_cases e7 : st + 7 = F
  · rw [show tW F R (n + 1) st ce = .stop 20 (st + 7) (ce + 1) from by rw [tW_succ, if_neg e0, if_neg e1, if_neg e2, if_neg e3, if_neg e4, if_neg e5, if_neg e6, if_neg er, if_pos e7]]
    have := fuT7a0 F R st ce ((n + 1 : Nat) : Int) jv
    try simp only [w1, w2, w3, w4, w5, w6, w7, w8, wce, hv1] at this
    exact (endLowF_ok (envS1_ok _ _) Tryz.func176 (this) (by simp [e0, e1, e2, e3, e4, e5, e6, er, e7, hv, hv2, hv3] <;> omega) (Nat.le_of_ble_eq_true rfl)).1
  rw [show tW F R (n + 1) st ce = tW F R n (st + 8) (ce + 1) from by rw [tW_succ, if_neg e0, if_neg e1, if_neg e2, if_neg e3, if_neg e4, if_neg e5, if_neg e6, if_neg er, if_neg e7]]
  have := itTa0 F R st ce ((n + 1 : Nat) : Int) jv
  simp only [w1, w2, w3, w4, w5, w6, w7, w8, wce, hv1] at this
  exact iter_ok (envS1_ok _ _) this (by simp [e0, e1, e2, e3, e4, e5, e6, er, e7, hv, hv2, hv3] <;> omega) (Nat.le_of_ble_eq_true rfl) (lowsa0 F R jv _) (ih (st + 8) (ce + 1) (by omega) (by omega) (by omega) (by omega))
theorem loopa0 {F R jv : Int} (hF : F ≤ 4611686018427387904) (hR : R ≤ 4611686018427387904) (n : Nat) (hn : (n : Int) ≤ 4611686018427387904) : ∀ (st ce : Int), 0 ≤ st → st ≤ F → 0 ≤ ce → ce ≤ R → RestTa0 F R jv n st ce (tW F R n st ce) := by
  induction n with
  | zero => intro st ce h1 h2 _ _; exact zeroa0 hF st ce h1 h2
  | succ n ih => intro st ce h1 h2 h3 h4; exact stepTa0 hF hR n hn st ce h1 h2 h3 h4 (ih (by omega))
/-- The whole, from the sentence's beginning. -/
def uW (F R : Int) (n : Nat) (st ce : Int) : LRes := if st = F then .stop 20 st ce else tW F R n (st + 1) ce
theorem gooda0 {F R st ce jv : Int} (hF : F ≤ 4611686018427387904) (hR : R ≤ 4611686018427387904) (n : Nat) (hn : ((n + 1 : Nat) : Int) ≤ 4611686018427387904) (hj : jv = ((n + 1 : Nat) : Int)) (h1 : 0 ≤ st) (h2 : st ≤ F) (h3 : 0 ≤ ce) (h4 : ce ≤ R) :
    Cv.Good Tryz.prog 176 ara0 10 (h0a0 F R st ce jv) (oW0 (uW F R (n + 1) st ce)) 10 (hRa0 F R jv (uW F R (n + 1) st ce)) := by
  have w1 : w (st + 1) = st + 1 := w_id (by omega) (by omega)
  have w2 : w (st + 1 + 1) = st + 2 := by rw [w_id (by omega) (by omega)]; omega
  by_cases e0 : st = F
  · rw [show uW F R (n + 1) st ce = .stop 20 st ce from by rw [uW, if_pos e0]]
    exact good_of_K Tryz.func176 (by kernel_rfl) Tryz.call176 (Nat.le_of_ble_eq_true (by kernel_rfl)) ((endLowF_ok (envS1_ok _ _) Tryz.func176 (fe0a0 F R st ce jv) (by simp [e0] <;> omega) (Nat.le_of_ble_eq_true rfl)).1)
  rw [show uW F R (n + 1) st ce = tW F R (n + 1) (st + 1) ce from by rw [uW, if_neg e0]]
  have hrest := stepFa0 (F := F) (R := R) (jv := jv) hF hR n hn hj (st + 1) ce (by omega) (by omega) h3 h4 (loopa0 hF hR n (by omega))
  have hin := ina0 F R st ce jv
  simp only [w1, w2] at hin
  exact entry_ok (envS1_ok _ _) Tryz.func176 (by kernel_rfl) Tryz.call176 (Nat.le_of_ble_eq_true (by kernel_rfl)) hin (by simp [e0] <;> omega) (Nat.le_refl _) (lowsa0 F R jv _) hrest
end Go.Wg
namespace Go.Wg
open Go Go.Cv Go.Proofs

theorem lowsb0 (F R jv : Int) (lst : Option Int) (r : LRes) : Lows 7 (oR0 r) (hRb0 F R jv lst r) := by
  cases r with
  | ok v x st ce => exact lows_of (ids := [0, 1, 2, 3, 4, 5, 6]) (by kernel_rfl) (by kernel_rfl)
  | stop code st ce =>
    cases lst with
    | none => exact lows_of (ids := [0, 1, 2, 3, 4, 5, 6]) (by kernel_rfl) (by kernel_rfl)
    | some x => exact lows_of (ids := [0, 1, 2, 3, 4, 5, 6]) (by kernel_rfl) (by kernel_rfl)
abbrev RestFb0 (F R jv st ce : Int) (r : LRes) : Prop := ∃ lst : Option Int, GoodK Tryz.prog 74 Tryz.f74 Kb0 ⟨frb0, 130, hFb0 F R st ce jv⟩ (oR0 r) 130 (hRb0 F R jv lst r)
abbrev RestTb0 (F R jv v st ce : Int) (r : LRes) : Prop := ∃ x : Int, GoodK Tryz.prog 74 Tryz.f74 Kb0 ⟨frb0, 131, hTb0 F R st ce v jv⟩ (oR0 r) 131 (hRb0 F R jv (some x) r)
theorem zerob0 {F R jv : Int} (hF : F ≤ 4611686018427387904) (st ce : Int) (h1 : 0 ≤ st) (h2 : st ≤ F) : RestTb0 F R jv ((0 : Nat) : Int) st ce (sW F R 0 st ce) := by
  exact ⟨0, (endLowF_ok (envS1_ok _ _) Tryz.func74 (enb0 F R st ce jv) (by simp [] <;> omega) (Nat.le_of_ble_eq_true rfl)).1⟩
theorem stepFb0 {F R jv : Int} (hF : F ≤ 4611686018427387904) (hR : R ≤ 4611686018427387904) (n : Nat) (hn : ((n + 1 : Nat) : Int) ≤ 4611686018427387904) (hj : jv = ((n + 1 : Nat) : Int)) (st ce : Int) (h1 : 0 ≤ st) (h2 : st ≤ F) (h3 : 0 ≤ ce) (h4 : ce ≤ R)
    (ih : ∀ (st ce : Int), 0 ≤ st → st ≤ F → 0 ≤ ce → ce ≤ R → RestTb0 F R jv n st ce (sW F R n st ce)) :
    RestFb0 F R jv st ce (sW F R (n + 1) st ce) := by
  have hv : ¬ jv = 0 := by omega
  have hv1 : w (jv - 1) = (n : Int) := by rw [w_id (by omega) (by omega)]; omega
  have hv2 : (n : Int) < jv := by omega
  have hv3 : ¬ jv < -9223372036854775807 := by omega
  have w1 : w (st + 1) = st + 1 := w_id (by omega) (by omega)
  have w2 : w (st + 1 + 1) = st + 2 := by rw [w_id (by omega) (by omega)]; omega
  have w3 : w (st + 2 + 1) = st + 3 := by rw [w_id (by omega) (by omega)]; omega
  have w4 : w (st + 3 + 1) = st + 4 := by rw [w_id (by omega) (by omega)]; omega
  have w5 : w (st + 4 + 1) = st + 5 := by rw [w_id (by omega) (by omega)]; omega
  have w6 : w (st + 5 + 1) = st + 6 := by rw [w_id (by omega) (by omega)]; omega
  have w7 : w (st + 6 + 1) = st + 7 := by rw [w_id (by omega) (by omega)]; omega
  have w8 : w (st + 7 + 1) = st + 8 := by rw [w_id (by omega) (by omega)]; omega
  have wce : w (ce + 1) = ce + 1 := w_id (by omega) (by omega)
  by_cases e0 : st = F
  · rw [show sW F R (n + 1) st ce = .stop 20 (st) (ce) from by rw [sW, if_pos e0]]
    have := fuF0b0 F R st ce jv
    try simp only [w1, w2, w3, w4, w5, w6, w7, w8, wce, hv1] at this
    exact ⟨none, (endLowF_ok (envS1_ok _ _) Tryz.func74 (this) (by simp [e0, hv, hv2, hv3] <;> omega) (Nat.le_of_ble_eq_true rfl)).1⟩
  have f0 : ¬ F ≤ st := by omega
  by_cases e1 : st + 1 = F
  · rw [show sW F R (n + 1) st ce = .stop 20 (st + 1) (ce) from by rw [sW, if_neg e0, if_pos e1]]
    have := fuF1b0 F R st ce jv
    try simp only [w1, w2, w3, w4, w5, w6, w7, w8, wce, hv1] at this
    exact ⟨none, (endLowF_ok (envS1_ok _ _) Tryz.func74 (this) (by simp [f0, e1, hv, hv2, hv3] <;> omega) (Nat.le_of_ble_eq_true rfl)).1⟩
  have f1 : ¬ F ≤ st + 1 := by omega
  by_cases e2 : st + 2 = F
  · rw [show sW F R (n + 1) st ce = .stop 20 (st + 2) (ce) from by rw [sW, if_neg e0, if_neg e1, if_pos e2]]
    have := fuF2b0 F R st ce jv
    try simp only [w1, w2, w3, w4, w5, w6, w7, w8, wce, hv1] at this
    exact ⟨none, (endLowF_ok (envS1_ok _ _) Tryz.func74 (this) (by simp [f0, f1, e2, hv, hv2, hv3] <;> omega) (Nat.le_of_ble_eq_true rfl)).1⟩
  have f2 : ¬ F ≤ st + 2 := by omega
  by_cases e3 : st + 3 = F
  · rw [show sW F R (n + 1) st ce = .stop 20 (st + 3) (ce) from by rw [sW, if_neg e0, if_neg e1, if_neg e2, if_pos e3]]
    have := fuF3b0 F R st ce jv
    try simp only [w1, w2, w3, w4, w5, w6, w7, w8, wce, hv1] at this
    exact ⟨none, (endLowF_ok (envS1_ok _ _) Tryz.func74 (this) (by simp [f0, f1, f2, e3, hv, hv2, hv3] <;> omega) (Nat.le_of_ble_eq_true rfl)).1⟩
  have f3 : ¬ F ≤ st + 3 := by omega
  by_cases e4 : st + 4 = F
  · rw [show sW F R (n + 1) st ce = .stop 20 (st + 4) (ce) from by rw [sW, if_neg e0, if_neg e1, if_neg e2, if_neg e3, if_pos e4]]
    have := fuF4b0 F R st ce jv
    try simp only [w1, w2, w3, w4, w5, w6, w7, w8, wce, hv1] at this
    exact ⟨none, (endLowF_ok (envS1_ok _ _) Tryz.func74 (this) (by simp [f0, f1, f2, f3, e4, hv, hv2, hv3] <;> omega) (Nat.le_of_ble_eq_true rfl)).1⟩
  have f4 : ¬ F ≤ st + 4 := by omega
  by_cases e5 : st + 5 = F
  · rw [show sW F R (n + 1) st ce = .stop 20 (st + 5) (ce) from by rw [sW, if_neg e0, if_neg e1, if_neg e2, if_neg e3, if_neg e4, if_pos e5]]
    have := fuF5b0 F R st ce jv
    try simp only [w1, w2, w3, w4, w5, w6, w7, w8, wce, hv1] at this
    exact ⟨none, (endLowF_ok (envS1_ok _ _) Tryz.func74 (this) (by simp [f0, f1, f2, f3, f4, e5, hv, hv2, hv3] <;> omega) (Nat.le_of_ble_eq_true rfl)).1⟩
  have f5 : ¬ F ≤ st + 5 := by omega
  by_cases er : R < ce + 1
  · rw [show sW F R (n + 1) st ce = .stop 21 (st + 6) (ce + 1) from by rw [sW, if_neg e0, if_neg e1, if_neg e2, if_neg e3, if_neg e4, if_neg e5, if_pos er]]
    have := rmFb0 F R st ce jv
    try simp only [w1, w2, w3, w4, w5, w6, w7, w8, wce, hv1] at this
    exact ⟨none, (endLowF_ok (envS1_ok _ _) Tryz.func74 (this) (by simp [f0, f1, f2, f3, f4, f5, er, hv, hv2, hv3] <;> omega) (Nat.le_of_ble_eq_true rfl)).1⟩
  by_cases e6 : st + 6 = F
  · rw [show sW F R (n + 1) st ce = .stop 20 (st + 6) (ce + 1) from by rw [sW, if_neg e0, if_neg e1, if_neg e2, if_neg e3, if_neg e4, if_neg e5, if_neg er, if_pos e6]]
    have := fuF6b0 F R st ce jv
    try simp only [w1, w2, w3, w4, w5, w6, w7, w8, wce, hv1] at this
    exact ⟨some n, (endLowF_ok (envS1_ok _ _) Tryz.func74 (this) (by simp [f0, f1, f2, f3, f4, f5, er, e6, hv, hv2, hv3] <;> omega) (Nat.le_of_ble_eq_true rfl)).1⟩
  have f6 : ¬ F ≤ st + 6 := by omega
  by_cases e7 : st + 7 = F
  · rw [show sW F R (n + 1) st ce = .stop 20 (st + 7) (ce + 1) from by rw [sW, if_neg e0, if_neg e1, if_neg e2, if_neg e3, if_neg e4, if_neg e5, if_neg er, if_neg e6, if_pos e7]]
    have := fuF7b0 F R st ce jv
    try simp only [w1, w2, w3, w4, w5, w6, w7, w8, wce, hv1] at this
    exact ⟨some n, (endLowF_ok (envS1_ok _ _) Tryz.func74 (this) (by simp [f0, f1, f2, f3, f4, f5, er, f6, e7, hv, hv2, hv3] <;> omega) (Nat.le_of_ble_eq_true rfl)).1⟩
  have f7 : ¬ F ≤ st + 7 := by omega
  rw [show sW F R (n + 1) st ce = sW F R n (st + 8) (ce + 1) from by rw [sW, if_neg e0, if_neg e1, if_neg e2, if_neg e3, if_neg e4, if_neg e5, if_neg er, if_neg e6, if_neg e7]]
  have := itFb0 F R st ce jv
  simp only [w1, w2, w3, w4, w5, w6, w7, w8, wce, hv1] at this
  obtain ⟨x, hx⟩ := ih (st + 8) (ce + 1) (by omega) (by omega) (by omega) (by omega)
  exact ⟨some x, iter_ok (envS1_ok _ _) this (by simp [f0, f1, f2, f3, f4, f5, er, f6, f7, hv, hv2, hv3] <;> omega) (Nat.le_of_ble_eq_true rfl) (lowsb0 F R jv _ _) hx⟩
theorem stepTb0 {F R jv : Int} (hF : F ≤ 4611686018427387904) (hR : R ≤ 4611686018427387904) (n : Nat) (hn : ((n + 1 : Nat) : Int) ≤ 4611686018427387904) (st ce : Int) (h1 : 0 ≤ st) (h2 : st ≤ F) (h3 : 0 ≤ ce) (h4 : ce ≤ R)
    (ih : ∀ (st ce : Int), 0 ≤ st → st ≤ F → 0 ≤ ce → ce ≤ R → RestTb0 F R jv n st ce (sW F R n st ce)) :
    RestTb0 F R jv ((n + 1 : Nat) : Int) st ce (sW F R (n + 1) st ce) := by
  have hv : ¬ ((n + 1 : Nat) : Int) = 0 := by omega
  have hv1 : w (((n + 1 : Nat) : Int) - 1) = (n : Int) := by rw [w_id (by omega) (by omega)]; omega
  have hv2 : (n : Int) < ((n + 1 : Nat) : Int) := by omega
  have hv3 : ¬ ((n + 1 : Nat) : Int) < -9223372036854775807 := by omega
  have w1 : w (st + 1) = st + 1 := w_id (by omega) (by omega)
  have w2 : w (st + 1 + 1) = st + 2 := by rw [w_id (by omega) (by omega)]; omega
  have w3 : w (st + 2 + 1) = st + 3 := by rw [w_id (by omega) (by omega)]; omega
  have w4 : w (st + 3 + 1) = st + 4 := by rw [w_id (by omega) (by omega)]; omega
  have w5 : w (st + 4 + 1) = st + 5 := by rw [w_id (by omega) (by omega)]; omega
  have w6 : w (st + 5 + 1) = st + 6 := by rw [w_id (by omega) (by omega)]; omega
  have w7 : w (st + 6 + 1) = st + 7 := by rw [w_id (by omega) (by omega)]; omega
  have w8 : w (st + 7 + 1) = st + 8 := by rw [w_id (by omega) (by omega)]; omega
  have wce : w (ce + 1) = ce + 1 := w_id (by omega) (by omega)
  by_cases e0 : st = F
  · rw [show sW F R (n + 1) st ce = .stop 20 (st) (ce) from by rw [sW, if_pos e0]]
    have := fuT0b0 F R st ce ((n + 1 : Nat) : Int) jv
    try simp only [w1, w2, w3, w4, w5, w6, w7, w8, wce, hv1] at this
    exact ⟨((n + 1 : Nat) : Int), (endLowF_ok (envS1_ok _ _) Tryz.func74 (this) (by simp [e0, hv, hv2, hv3] <;> omega) (Nat.le_of_ble_eq_true rfl)).1⟩
  have f0 : ¬ F ≤ st := by omega
  by_cases e1 : st + 1 = F
  · rw [show sW F R (n + 1) st ce = .stop 20 (st + 1) (ce) from by rw [sW, if_neg e0, if_pos e1]]
    have := fuT1b0 F R st ce ((n + 1 : Nat) : Int) jv
    try simp only [w1, w2, w3, w4, w5, w6, w7, w8, wce, hv1] at this
    exact ⟨((n + 1 : Nat) : Int), (endLowF_ok (envS1_ok _ _) Tryz.func74 (this) (by simp [f0, e1, hv, hv2, hv3] <;> omega) (Nat.le_of_ble_eq_true rfl)).1⟩
  have f1 : ¬ F ≤ st + 1 := by omega
  by_cases e2 : st + 2 = F
  · rw [show sW F R (n + 1) st ce = .stop 20 (st + 2) (ce) from by rw [sW, if_neg e0, if_neg e1, if_pos e2]]
    have := fuT2b0 F R st ce ((n + 1 : Nat) : Int) jv
    try simp only [w1, w2, w3, w4, w5, w6, w7, w8, wce, hv1] at this
    exact ⟨((n + 1 : Nat) : Int), (endLowF_ok (envS1_ok _ _) Tryz.func74 (this) (by simp [f0, f1, e2, hv, hv2, hv3] <;> omega) (Nat.le_of_ble_eq_true rfl)).1⟩
  have f2 : ¬ F ≤ st + 2 := by omega
  by_cases e3 : st + 3 = F
  · rw [show sW F R (n + 1) st ce = .stop 20 (st + 3) (ce) from by rw [sW, if_neg e0, if_neg e1, if_neg e2, if_pos e3]]
    have := fuT3b0 F R st ce ((n + 1 : Nat) : Int) jv
    try simp only [w1, w2, w3, w4, w5, w6, w7, w8, wce, hv1] at this
    exact ⟨((n + 1 : Nat) : Int), (endLowF_ok (envS1_ok _ _) Tryz.func74 (this) (by simp [f0, f1, f2, e3, hv, hv2, hv3] <;> omega) (Nat.le_of_ble_eq_true rfl)).1⟩
  have f3 : ¬ F ≤ st + 3 := by omega
  by_cases e4 : st + 4 = F
  · rw [show sW F R (n + 1) st ce = .stop 20 (st + 4) (ce) from by rw [sW, if_neg e0, if_neg e1, if_neg e2, if_neg e3, if_pos e4]]
    have := fuT4b0 F R st ce ((n + 1 : Nat) : Int) jv
    try simp only [w1, w2, w3, w4, w5, w6, w7, w8, wce, hv1] at this
    exact ⟨((n + 1 : Nat) : Int), (endLowF_ok (envS1_ok _ _) Tryz.func74 (this) (by simp [f0, f1, f2, f3, e4, hv, hv2, hv3] <;> omega) (Nat.le_of_ble_eq_true rfl)).1⟩
  have f4 : ¬ F ≤ st + 4 := by omega
  by_cases e5 : st + 5 = F
  · rw [show sW F R (n + 1) st ce = .stop 20 (st + 5) (ce) from by rw [sW, if_neg e0, if_neg e1, if_neg e2, if_neg e3, if_neg e4, if_pos e5]]
    have := fuT5b0 F R st ce ((n + 1 : Nat) : Int) jv
    try simp only [w1, w2, w3, w4, w5, w6, w7, w8, wce, hv1] at this
    exact ⟨((n + 1 : Nat) : Int), (endLowF_ok (envS1_ok _ _) Tryz.func74 (this) (by simp [f0, f1, f2, f3, f4, e5, hv, hv2, hv3] <;> omega) (Nat.le_of_ble_eq_true rfl)).1⟩
  have f5 : ¬ F ≤ st + 5 := by omega
  by_cases er : R < ce + 1
  · rw [show sW F R (n + 1) st ce = .stop 21 (st + 6) (ce + 1) from by rw [sW, if_neg e0, if_neg e1, if_neg e2, if_neg e3, if_neg e4, if_neg e5, if_pos er]]
    have := rmTb0 F R st ce ((n + 1 : Nat) : Int) jv
    try simp only [w1, w2, w3, w4, w5, w6, w7, w8, wce, hv1] at this
    exact ⟨((n + 1 : Nat) : Int), (endLowF_ok (envS1_ok _ _) Tryz.func74 (this) (by simp [f0, f1, f2, f3, f4, f5, er, hv, hv2, hv3] <;> omega) (Nat.le_of_ble_eq_true rfl)).1⟩
  by_cases e6 : st + 6 = F
  · rw [show sW F R (n + 1) st ce = .stop 20 (st + 6) (ce + 1) from by rw [sW, if_neg e0, if_neg e1, if_neg e2, if_neg e3, if_neg e4, if_neg e5, if_neg er, if_pos e6]]
    have := fuT6b0 F R st ce ((n + 1 : Nat) : Int) jv
    try simp only [w1, w2, w3, w4, w5, w6, w7, w8, wce, hv1] at this
    exact ⟨n, (endLowF_ok (envS1_ok _ _) Tryz.func74 (this) (by simp [f0, f1, f2, f3, f4, f5, er, e6, hv, hv2, hv3] <;> omega) (Nat.le_of_ble_eq_true rfl)).1⟩
  have f6 : ¬ F ≤ st + 6 := by omega
  by_cases e7 : st + 7 = F
  · rw [show sW F R (n + 1) st ce = .stop 20 (st + 7) (ce + 1) from by rw [sW, if_neg e0, if_neg e1, if_neg e2, if_neg e3, if_neg e4, if_neg e5, if_neg er, if_neg e6, if_pos e7]]
    have := fuT7b0 F R st ce ((n + 1 : Nat) : Int) jv
    try simp only [w1, w2, w3, w4, w5, w6, w7, w8, wce, hv1] at this
    exact ⟨n, (endLowF_ok (envS1_ok _ _) Tryz.func74 (this) (by simp [f0, f1, f2, f3, f4, f5, er, f6, e7, hv, hv2, hv3] <;> omega) (Nat.le_of_ble_eq_true rfl)).1⟩
  have f7 : ¬ F ≤ st + 7 := by omega
  rw [show sW F R (n + 1) st ce = sW F R n (st + 8) (ce + 1) from by rw [sW, if_neg e0, if_neg e1, if_neg e2, if_neg e3, if_neg e4, if_neg e5, if_neg er, if_neg e6, if_neg e7]]
  have := itTb0 F R st ce ((n + 1 : Nat) : Int) jv
  simp only [w1, w2, w3, w4, w5, w6, w7, w8, wce, hv1] at this
  obtain ⟨x, hx⟩ := ih (st + 8) (ce + 1) (by omega) (by omega) (by omega) (by omega)
  exact ⟨x, iter_ok (envS1_ok _ _) this (by simp [f0, f1, f2, f3, f4, f5, er, f6, f7, hv, hv2, hv3] <;> omega) (Nat.le_of_ble_eq_true rfl) (lowsb0 F R jv _ _) hx⟩
theorem loopb0 {F R jv : Int} (hF : F ≤ 4611686018427387904) (hR : R ≤ 4611686018427387904) (n : Nat) (hn : (n : Int) ≤ 4611686018427387904) : ∀ (st ce : Int), 0 ≤ st → st ≤ F → 0 ≤ ce → ce ≤ R → RestTb0 F R jv n st ce (sW F R n st ce) := by
  induction n with
  | zero => intro st ce h1 h2 _ _; exact zerob0 hF st ce h1 h2
  | succ n ih => intro st ce h1 h2 h3 h4; exact stepTb0 hF hR n hn st ce h1 h2 h3 h4 (ih (by omega))
/-- The whole, from the sentence's beginning. -/
def uR (F R : Int) (n : Nat) (st ce : Int) : LRes := if st = F then .stop 20 st ce else if st + 1 = F then .stop 20 (st + 1) ce else sW F R n (st + 2) ce
theorem goodb0 {F R st ce jv : Int} (hF : F ≤ 4611686018427387904) (hR : R ≤ 4611686018427387904) (n : Nat) (hn : ((n + 1 : Nat) : Int) ≤ 4611686018427387904) (hj : jv = ((n + 1 : Nat) : Int)) (h1 : 0 ≤ st) (h2 : st ≤ F) (h3 : 0 ≤ ce) (h4 : ce ≤ R) :
    ∃ lst : Option Int, Cv.Good Tryz.prog 74 arb0 7 (h0b0 F R st ce jv) (oR0 (uR F R (n + 1) st ce)) 7 (hRb0 F R jv lst (uR F R (n + 1) st ce)) := by
  have w1 : w (st + 1) = st + 1 := w_id (by omega) (by omega)
  have w2 : w (st + 1 + 1) = st + 2 := by rw [w_id (by omega) (by omega)]; omega
  by_cases e0 : st = F
  · rw [show uR F R (n + 1) st ce = .stop 20 st ce from by rw [uR, if_pos e0]]
    exact ⟨none, good_of_K Tryz.func74 (by kernel_rfl) Tryz.call74 (Nat.le_of_ble_eq_true (by kernel_rfl)) ((endLowF_ok (envS1_ok _ _) Tryz.func74 (fe0b0 F R st ce jv) (by simp [e0] <;> omega) (Nat.le_of_ble_eq_true rfl)).1)⟩
  have f0 : ¬ F ≤ st := by omega
  by_cases e1 : st + 1 = F
  · rw [show uR F R (n + 1) st ce = .stop 20 (st + 1) ce from by rw [uR, if_neg e0, if_pos e1]]
    have := fe1b0 F R st ce jv
    simp only [w1] at this
    exact ⟨none, good_of_K Tryz.func74 (by kernel_rfl) Tryz.call74 (Nat.le_of_ble_eq_true (by kernel_rfl)) ((endLowF_ok (envS1_ok _ _) Tryz.func74 (this) (by simp [f0, e1] <;> omega) (Nat.le_of_ble_eq_true rfl)).1)⟩
  have f1 : ¬ F ≤ st + 1 := by omega
  rw [show uR F R (n + 1) st ce = sW F R (n + 1) (st + 2) ce from by rw [uR, if_neg e0, if_neg e1]]
  have hrest := stepFb0 (F := F) (R := R) (jv := jv) hF hR n hn hj (st + 2) ce (by omega) (by omega) h3 h4 (loopb0 hF hR n (by omega))
  have hin := inb0 F R st ce jv
  simp only [w1, w2] at hin
  obtain ⟨lst, hrest⟩ := hrest
  exact ⟨lst, entry_ok (envS1_ok _ _) Tryz.func74 (by kernel_rfl) Tryz.call74 (Nat.le_of_ble_eq_true (by kernel_rfl)) hin (by simp [f0, f1] <;> omega) (Nat.le_refl _) (lowsb0 F R jv _ _) hrest⟩
end Go.Wg
