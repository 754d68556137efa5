/-
  The document's times, a list turned.
-/
import Derived.Test.YtdincjlkfbeedaaGreatDoorT4
set_option linter.all false
namespace Go.Wg
open Go Go.Cv Go.Proofs

def frb3 (c : Int) : Fr := [(0, .ptr 0 0 0), (2, .lit (.bool false)), (10, .ptr 7 0 0), (11, .ptr 8 0 0), (13, .ptr 9 0 0), (14, .ptr 10 0 0), (16, .ptr 16 0 0), (17, u64 c)]
def h0b3 (F R st ce jx jy c0 : Int) : Heap := [(0, ⟨0, [.ptr 1 0 0, int F, int R, int st, int ce, int 0, nilS, .lit (.bool false), nilS, int 0], none⟩), (1, ⟨0, [nilS, nilS], none⟩), (2, ⟨0, [int 20, .lit (.string ⟨#[124, 46]⟩), int 0, nilS, nilS, nilS, int 1, .lit (.string ⟨#[]⟩), int 0, nilS, .sl 3 0 0 1 1, nilS], none⟩), (3, ⟨0, [int c0], none⟩), (4, ⟨0, [int 2], none⟩), (5, ⟨0, [int jx, int jy], none⟩)]
def hFb3 (F R st ce jx jy c0 : Int) : Heap := [(0, ⟨0, [.ptr 1 0 0, int F, int R, int st, int ce, int 0, nilS, .lit (.bool false), nilS, int 0], none⟩), (1, ⟨0, [nilS, nilS], none⟩), (2, ⟨0, [int 20, .lit (.string ⟨#[124, 46]⟩), int 0, nilS, nilS, nilS, int 1, .lit (.string ⟨#[]⟩), int 0, nilS, .sl 3 0 0 1 1, nilS], none⟩), (3, ⟨0, [int c0], none⟩), (4, ⟨0, [int 2], none⟩), (5, ⟨0, [int jx, int jy], none⟩), (7, ⟨0, [nilS, nilS], none⟩), (8, ⟨0, [.sl 4 0 0 1 1, .sl 5 0 0 2 1], none⟩), (9, ⟨0, [nilS, nilS, nilS, nilS], none⟩), (10, ⟨0, [nilS, nilS], none⟩), (16, ⟨0, [int 20, .lit (.string ⟨#[124, 46]⟩), int 0, nilS, nilS, nilS], none⟩)]
def hTb3 (F R st ce x y jx jy c0 : Int) : Heap := [(0, ⟨0, [.ptr 1 0 0, int F, int R, int st, int ce, int 0, nilS, .lit (.bool false), nilS, int 0], none⟩), (1, ⟨0, [nilS, nilS], none⟩), (2, ⟨0, [int 20, .lit (.string ⟨#[124, 46]⟩), int 0, nilS, nilS, nilS, int 1, .lit (.string ⟨#[]⟩), int 0, nilS, .sl 3 0 0 1 1, nilS], none⟩), (3, ⟨0, [int c0], none⟩), (4, ⟨0, [int 2], none⟩), (5, ⟨0, [int jx, int jy], none⟩), (7, ⟨0, [nilS, nilS], none⟩), (8, ⟨0, [.sl 23 1 0 1 1, .sl 24 0 0 2 1], none⟩), (9, ⟨0, [nilS, nilS, nilS, nilS], none⟩), (10, ⟨0, [nilS, nilS], none⟩), (16, ⟨0, [int 20, .lit (.string ⟨#[124, 46]⟩), int 0, nilS, nilS, nilS], none⟩), (23, ⟨1, [int 2], none⟩), (24, ⟨0, [int x, int y], none⟩)]
def arb3 (c : Int) : List CV := [.ptr 0 0 0, .agg [int 41, .lit (.string ⟨#[]⟩), int 0, nilS, nilS, .sl 2 0 0 2 6], .lit (.bool false), .agg [nilS, nilS], .agg [.sl 4 0 0 1 1, .sl 5 0 0 2 1], int c, .agg [nilS, nilS, nilS, nilS]]
noncomputable def Kb3 : List Item :=
  match crun Tryz.prog (envS [29, 72, 88] (some 2) kn1) 5000 100088 Tryz.f88.ntmps (.run [.code (Tryz.f88.body.getD .skip)] ⟨entryFr (arb3 0), 6, h0b3 0 0 0 0 0 0 0⟩) ⟨[false], [], []⟩ with
  | some (.at K _, _) => K
  | _ => []
theorem inb3 (F R st ce jx jy c0 c : Int) : headSel (crun Tryz.prog (envS [29, 72, 88] (some 2) kn1) 5000 100088 Tryz.f88.ntmps (.run [.code (Tryz.f88.body.getD .skip)] ⟨entryFr (arb3 c), 6, h0b3 F R st ce jx jy c0⟩) ⟨[false], [], []⟩) [0, 2, 10, 11, 13, 14, 16, 17] [0, 1, 2, 3, 4, 5, 7, 8, 9, 10, 16] =
    some (Kb3, frb3 (uw c), 23, hFb3 F R st ce jx jy c0, [(decide (c < 0), false)]) := by kernel_rfl
theorem itFb3 (F R st ce jx jy c0 c : Int) : iterSel 6 25 [0, 1, 2, 3, 4, 5, 6, 7, 8, 9, 10, 11, 12, 13, 14, 15, 16, 17, 18, 19, 20, 21, 22, 1160, 1163] (frb3 (uw (c - 1))) (hTb3 F R (w (st + 1)) (w (ce + 2)) jy jx jx jy c0) (crun Tryz.prog (envS [29, 72, 88] (some 2) kn1) 20000 100088 Tryz.f88.ntmps (.run Kb3 ⟨frb3 c, 23, hFb3 F R st ce jx jy c0⟩) ⟨[true, false, false, false], [], []⟩) =
    some (Kb3, [(false, false), (decide (uw (c - 1) = uw (c - 1)), true), (decide (jy = jy), true), (decide (jx = jx), true), (decide ((2 : Int) = 2), true), (decide ((20 : Int) = 20), true), (decide ((0 : Int) = 0), true), (decide (jx = jx), true), (decide (jy = jy), true), (decide ((2 : Int) = 2), true), (decide (c0 = c0), true), (decide ((20 : Int) = 20), true), (decide ((0 : Int) = 0), true), (decide ((1 : Int) = 1), true), (decide ((0 : Int) = 0), true), (decide (F = F), true), (decide (R = R), true), (decide (w (st + 1) = w (st + 1)), true), (decide (w (ce + 2) = w (ce + 2)), true), (decide ((0 : Int) = 0), true), (false, false), (decide ((0 : Int) = 0), true), (false, false), (decide (R < w (ce + 2)), false), (decide (F ≤ st), false), (decide (0 < c), true)]) := by kernel_rfl
theorem rmFb3 (F R st ce jx jy c0 c : Int) : endLow Tryz.prog Tryz.f88 6 [0, 1, 2, 3, 4, 5] (crun Tryz.prog (envS [29, 72, 88] (some 2) kn1) 20000 100088 Tryz.f88.ntmps (.run Kb3 ⟨frb3 c, 23, hFb3 F R st ce jx jy c0⟩) ⟨[true, false, true, true], [], []⟩) =
    some (.ret (.tup [.agg [nilS, nilS], int 21]), h0b3 F R (w (st + 1)) (w (ce + 2)) jx jy c0, [(true, true), (decide (R < w (ce + 2)), true), (decide (F ≤ st), false), (decide (0 < c), true)]) := by kernel_rfl
theorem fuFb3 (F R st ce jx jy c0 c : Int) : endLow Tryz.prog Tryz.f88 6 [0, 1, 2, 3, 4, 5] (crun Tryz.prog (envS [29, 72, 88] (some 2) kn1) 20000 100088 Tryz.f88.ntmps (.run Kb3 ⟨frb3 c, 23, hFb3 F R st ce jx jy c0⟩) ⟨[true, true, true], [], []⟩) =
    some (.ret (.tup [.agg [nilS, nilS], int 20]), h0b3 F R st ce jx jy c0, [(true, true), (decide (F ≤ st), true), (decide (0 < c), true)]) := by kernel_rfl
theorem itTb3 (F R st ce x y jx jy c0 c : Int) : iterSel 6 25 [0, 1, 2, 3, 4, 5, 6, 7, 8, 9, 10, 11, 12, 13, 14, 15, 16, 17, 18, 19, 20, 21, 22, 1162, 1165] (frb3 (uw (c - 1))) (hTb3 F R (w (st + 1)) (w (ce + 2)) y x jx jy c0) (crun Tryz.prog (envS [29, 72, 88] (some 2) kn1) 20000 100088 Tryz.f88.ntmps (.run Kb3 ⟨frb3 c, 25, hTb3 F R st ce x y jx jy c0⟩) ⟨[true, false, false, false], [], []⟩) =
    some (Kb3, [(false, false), (decide (uw (c - 1) = uw (c - 1)), true), (decide (y = y), true), (decide (x = x), true), (decide ((2 : Int) = 2), true), (decide ((20 : Int) = 20), true), (decide ((0 : Int) = 0), true), (decide (jx = jx), true), (decide (jy = jy), true), (decide ((2 : Int) = 2), true), (decide (c0 = c0), true), (decide ((20 : Int) = 20), true), (decide ((0 : Int) = 0), true), (decide ((1 : Int) = 1), true), (decide ((0 : Int) = 0), true), (decide (F = F), true), (decide (R = R), true), (decide (w (st + 1) = w (st + 1)), true), (decide (w (ce + 2) = w (ce + 2)), true), (decide ((0 : Int) = 0), true), (false, false), (decide ((0 : Int) = 0), true), (false, false), (decide (R < w (ce + 2)), false), (decide (F ≤ st), false), (decide (0 < c), true)]) := by kernel_rfl
theorem rmTb3 (F R st ce x y jx jy c0 c : Int) : endLow Tryz.prog Tryz.f88 6 [0, 1, 2, 3, 4, 5] (crun Tryz.prog (envS [29, 72, 88] (some 2) kn1) 20000 100088 Tryz.f88.ntmps (.run Kb3 ⟨frb3 c, 25, hTb3 F R st ce x y jx jy c0⟩) ⟨[true, false, true, true], [], []⟩) =
    some (.ret (.tup [.agg [nilS, nilS], int 21]), h0b3 F R (w (st + 1)) (w (ce + 2)) jx jy c0, [(true, true), (decide (R < w (ce + 2)), true), (decide (F ≤ st), false), (decide (0 < c), true)]) := by kernel_rfl
theorem fuTb3 (F R st ce x y jx jy c0 c : Int) : endLow Tryz.prog Tryz.f88 6 [0, 1, 2, 3, 4, 5] (crun Tryz.prog (envS [29, 72, 88] (some 2) kn1) 20000 100088 Tryz.f88.ntmps (.run Kb3 ⟨frb3 c, 25, hTb3 F R st ce x y jx jy c0⟩) ⟨[true, true, true], [], []⟩) =
    some (.ret (.tup [.agg [nilS, nilS], int 20]), h0b3 F R st ce jx jy c0, [(true, true), (decide (F ≤ st), true), (decide (0 < c), true)]) := by kernel_rfl
theorem enTb3 (F R st ce x y jx jy c0 c : Int) : endLow Tryz.prog Tryz.f88 6 [0, 1, 2, 3, 4, 5] (crun Tryz.prog (envS [29, 72, 88] (some 2) kn1) 20000 100088 Tryz.f88.ntmps (.run Kb3 ⟨frb3 c, 25, hTb3 F R st ce x y jx jy c0⟩) ⟨[false], [], []⟩) =
    some (oR2 (.ok x y st ce), h0b3 F R st ce jx jy c0, [(decide (0 < c), false)]) := by kernel_rfl
theorem lowsb3 (F R jx jy c0 : Int) (r : LRes) : Lows 6 (oR2 r) (h0b3 F R r.st r.ce jx jy c0) := by
  refine lows_of (ids := [0, 1, 2, 3, 4, 5]) ?_ (by kernel_rfl)
  cases r <;> kernel_rfl
abbrev RestFb3 (F R jx jy c0 c st ce : Int) (r : LRes) : Prop := GoodK Tryz.prog 88 Tryz.f88 Kb3 ⟨frb3 c, 23, hFb3 F R st ce jx jy c0⟩ (oR2 r) 23 (h0b3 F R r.st r.ce jx jy c0)
abbrev RestTb3 (F R jx jy c0 c x y st ce : Int) (r : LRes) : Prop := GoodK Tryz.prog 88 Tryz.f88 Kb3 ⟨frb3 c, 25, hTb3 F R st ce x y jx jy c0⟩ (oR2 r) 25 (h0b3 F R r.st r.ce jx jy c0)
theorem zerob3 {F R jx jy c0 : Int} (x y st ce : Int) : RestTb3 F R jx jy c0 ((0 : Nat) : Int) x y st ce (sV F R 0 x y st ce) :=
  (endLow_ok (envS1_ok _ _) Tryz.func88 (enTb3 F R st ce x y jx jy c0 ((0 : Nat) : Int)) (by simp) (Nat.le_of_ble_eq_true rfl)).1
theorem stepFb3 {F R jx jy c0 : Int} (hF : F ≤ 4611686018427387904) (hR : R ≤ 4611686018427387904) (n : Nat) (hn : ((n + 1 : Nat) : Int) ≤ 4611686018427387904) (st ce : Int) (h1 : 0 ≤ st) (h2 : st ≤ F) (h3 : 0 ≤ ce) (h4 : ce ≤ R)
    (ih : ∀ (x y st ce : Int), 0 ≤ st → st ≤ F → 0 ≤ ce → ce ≤ R → RestTb3 F R jx jy c0 n x y st ce (sV F R n x y st ce)) :
    RestFb3 F R jx jy c0 ((n + 1 : Nat) : Int) st ce (sV F R (n + 1) jx jy st ce) := by
  have hpos : (0 : Int) < ((n + 1 : Nat) : Int) := by omega
  have wst : w (st + 1) = st + 1 := w_id (by omega) (by omega)
  have wce : w (ce + 2) = ce + 2 := w_id (by omega) (by omega)
  have uc : uw (((n + 1 : Nat) : Int) - 1) = (n : Int) := by rw [uw_id (by omega) (by omega)]; omega
  by_cases e : st = F
  · rw [show sV F R (n + 1) jx jy st ce = .stop 20 st ce from by rw [sV, if_pos e]]
    exact (endLow_ok (envS1_ok _ _) Tryz.func88 (fuFb3 F R st ce jx jy c0 ((n + 1 : Nat) : Int)) (by simp [e, hpos]) (Nat.le_of_ble_eq_true rfl)).1
  have e' : ¬ F ≤ st := by omega
  by_cases e2 : R < ce + 2
  · rw [show sV F R (n + 1) jx jy st ce = .stop 21 (st + 1) (ce + 2) from by rw [sV, if_neg e, if_pos e2]]
    have := rmFb3 F R st ce jx jy c0 ((n + 1 : Nat) : Int)
    rw [wst, wce] at this
    exact (endLow_ok (envS1_ok _ _) Tryz.func88 this (by simp [e', e2, hpos] <;> omega) (Nat.le_of_ble_eq_true rfl)).1
  · rw [show sV F R (n + 1) jx jy st ce = sV F R n jy jx (st + 1) (ce + 2) from by rw [sV, if_neg e, if_neg e2]]
    have := itFb3 F R st ce jx jy c0 ((n + 1 : Nat) : Int)
    rw [uc, wst, wce] at this
    exact iter_ok (envS1_ok _ _) this (by simp [e', e2, hpos] <;> omega) (Nat.le_of_ble_eq_true rfl) (lowsb3 F R jx jy c0 _) (ih jy jx (st + 1) (ce + 2) (by omega) (by omega) (by omega) (by omega))
theorem stepTb3 {F R jx jy c0 : Int} (hF : F ≤ 4611686018427387904) (hR : R ≤ 4611686018427387904) (n : Nat) (hn : ((n + 1 : Nat) : Int) ≤ 4611686018427387904) (x y st ce : Int) (h1 : 0 ≤ st) (h2 : st ≤ F) (h3 : 0 ≤ ce) (h4 : ce ≤ R)
    (ih : ∀ (x y st ce : Int), 0 ≤ st → st ≤ F → 0 ≤ ce → ce ≤ R → RestTb3 F R jx jy c0 n x y st ce (sV F R n x y st ce)) :
    RestTb3 F R jx jy c0 ((n + 1 : Nat) : Int) x y st ce (sV F R (n + 1) x y st ce) := by
  have hpos : (0 : Int) < ((n + 1 : Nat) : Int) := by omega
  have wst : w (st + 1) = st + 1 := w_id (by omega) (by omega)
  have wce : w (ce + 2) = ce + 2 := w_id (by omega) (by omega)
  have uc : uw (((n + 1 : Nat) : Int) - 1) = (n : Int) := by rw [uw_id (by omega) (by omega)]; omega
  by_cases e : st = F
  · rw [show sV F R (n + 1) x y st ce = .stop 20 st ce from by rw [sV, if_pos e]]
    exact (endLow_ok (envS1_ok _ _) Tryz.func88 (fuTb3 F R st ce x y jx jy c0 ((n + 1 : Nat) : Int)) (by simp [e, hpos]) (Nat.le_of_ble_eq_true rfl)).1
  have e' : ¬ F ≤ st := by omega
  by_cases e2 : R < ce + 2
  · rw [show sV F R (n + 1) x y st ce = .stop 21 (st + 1) (ce + 2) from by rw [sV, if_neg e, if_pos e2]]
    have := rmTb3 F R st ce x y jx jy c0 ((n + 1 : Nat) : Int)
    rw [wst, wce] at this
    exact (endLow_ok (envS1_ok _ _) Tryz.func88 this (by simp [e', e2, hpos] <;> omega) (Nat.le_of_ble_eq_true rfl)).1
  · rw [show sV F R (n + 1) x y st ce = sV F R n y x (st + 1) (ce + 2) from by rw [sV, if_neg e, if_neg e2]]
    have := itTb3 F R st ce x y jx jy c0 ((n + 1 : Nat) : Int)
    rw [uc, wst, wce] at this
    exact iter_ok (envS1_ok _ _) this (by simp [e', e2, hpos] <;> omega) (Nat.le_of_ble_eq_true rfl) (lowsb3 F R jx jy c0 _) (ih y x (st + 1) (ce + 2) (by omega) (by omega) (by omega) (by omega))
theorem loopb3 {F R jx jy c0 : Int} (hF : F ≤ 4611686018427387904) (hR : R ≤ 4611686018427387904) (n : Nat) (hn : (n : Int) ≤ 4611686018427387904) : ∀ (x y st ce : Int), 0 ≤ st → st ≤ F → 0 ≤ ce → ce ≤ R →
    RestTb3 F R jx jy c0 n x y st ce (sV F R n x y st ce) := by
  induction n with
  | zero => intro x y st ce _ _ _ _; exact zerob3 x y st ce
  | succ n ih => intro x y st ce h1 h2 h3 h4; exact stepTb3 hF hR n hn x y st ce h1 h2 h3 h4 (ih (by omega))
theorem goodb3 {F R st ce jx jy c0 : Int} (hF : F ≤ 4611686018427387904) (hR : R ≤ 4611686018427387904) (n : Nat) (hn : ((n + 1 : Nat) : Int) ≤ 4611686018427387904) (h1 : 0 ≤ st) (h2 : st ≤ F) (h3 : 0 ≤ ce) (h4 : ce ≤ R) :
    Cv.Good Tryz.prog 88 (arb3 ((n + 1 : Nat) : Int)) 6 (h0b3 F R st ce jx jy c0) (oR2 (sV F R (n + 1) jx jy st ce)) 6 (h0b3 F R (sV F R (n + 1) jx jy st ce).st (sV F R (n + 1) jx jy st ce).ce jx jy c0) := by
  have hrest := stepFb3 (F := F) (R := R) (jx := jx) (jy := jy) (c0 := c0) hF hR n hn st ce h1 h2 h3 h4 (loopb3 hF hR n (by omega))
  have hin := inb3 F R st ce jx jy c0 ((n + 1 : Nat) : Int)
  rw [uw_id (by omega) (by omega)] at hin
  exact entry_ok (envS1_ok _ _) Tryz.func88 (by kernel_rfl) Tryz.call88 (Nat.le_of_ble_eq_true (by kernel_rfl)) hin (by simp <;> omega) (Nat.le_refl _) (lowsb3 F R jx jy c0 _) hrest
end Go.Wg
