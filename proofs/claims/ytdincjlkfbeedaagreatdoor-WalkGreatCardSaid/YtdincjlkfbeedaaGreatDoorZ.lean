/-
  The law returns true, whatever the numbers are.
-/
import Derived.Test.YtdincjlkfbeedaaGreatDoorAw
import Derived.Test.YtdincjlkfbeedaaGreatDoorG0
import Derived.Test.YtdincjlkfbeedaaGreatDoorG1
import Derived.Test.YtdincjlkfbeedaaGreatDoorG2
import Derived.Test.YtdincjlkfbeedaaGreatDoorG3
set_option linter.all false
namespace Go.Wg
open Go Go.Cv Go.Proofs

theorem nn_bounds {n : Int} (h0 : -9223372036854775808 ≤ n) (h1 : n ≤ 9223372036854775807) : 0 ≤ nn n ∧ nn n < 40000 := by
  have key : ∀ z : Int, 0 ≤ z → 0 ≤ z.tmod 40000 ∧ z.tmod 40000 < 40000 := fun z hz => ⟨Int.tmod_nonneg _ hz, Int.tmod_lt_of_pos z (by decide)⟩
  unfold nn
  by_cases e : n < 0
  · rw [if_pos e]
    apply key
    rw [w_id (x := n + 1) (by omega) (by omega), w_id (by omega) (by omega)]
    omega
  · rw [if_neg e]
    exact key n (by omega)
theorem nat_of {N : Int} (h : 0 ≤ N) (hz : ¬ N = 0) : ∃ m : Nat, N = ((m + 1 : Nat) : Int) := ⟨(N - 1).toNat, by omega⟩
theorem sI_stop {F R : Int} : ∀ {n : Nat} {v st ce c s e : Int}, sI F R n v st ce = .stop c s e → c = 20 ∨ c = 21
  | 0, v, st, ce, c, s, e, h => by simp [sI] at h
  | n + 1, v, st, ce, c, s, e, h => by
    rw [sI] at h
    split at h
    · cases h; exact .inl rfl
    · split at h
      · cases h; exact .inr rfl
      · exact sI_stop h
theorem sS_stop {F R : Int} : ∀ {n : Nat} {st ce c s e : Int}, sS F R n st ce = .stop c s e → c = 20 ∨ c = 21
  | 0, st, ce, c, s, e, h => by simp [sS] at h
  | n + 1, st, ce, c, s, e, h => by
    rw [sS] at h
    split at h
    · cases h; exact .inl rfl
    · split at h
      · cases h; exact .inl rfl
      · split at h
        · cases h; exact .inr rfl
        · exact sS_stop h
theorem sS_ok {F R : Int} : ∀ {n : Nat} {st ce v x s e : Int}, sS F R n st ce = .ok v x s e → v = 0
  | 0, st, ce, v, x, s, e, h => by simp [sS] at h; exact h.1.symm
  | n + 1, st, ce, v, x, s, e, h => by
    rw [sS] at h
    split at h
    · cases h
    · split at h
      · cases h
      · split at h
        · cases h
        · exact sS_ok h
theorem sV_stop {F R : Int} : ∀ {n : Nat} {x y st ce c s e : Int}, sV F R n x y st ce = .stop c s e → c = 20 ∨ c = 21
  | 0, x, y, st, ce, c, s, e, h => by simp [sV] at h
  | n + 1, x, y, st, ce, c, s, e, h => by
    rw [sV] at h
    split at h
    · cases h; exact .inl rfl
    · split at h
      · cases h; exact .inr rfl
      · exact sV_stop h
theorem sW_stop {F R : Int} : ∀ {n : Nat} {st ce c s e : Int}, sW F R n st ce = .stop c s e → c = 20 ∨ c = 21
  | 0, st, ce, c, s, e, h => by simp [sW] at h
  | n + 1, st, ce, c, s, e, h => by
    rw [sW] at h
    repeat' (split at h)
    all_goals first
      | (cases h; exact .inl rfl)
      | (cases h; exact .inr rfl)
      | exact sW_stop h
/-- So many turns count at least so many steps. -/
theorem sW_steps {F R : Int} : ∀ {n : Nat} {st ce v x s e : Int}, st ≤ F → sW F R n st ce = .ok v x s e → st ≤ s ∧ s ≤ F
  | 0, st, ce, v, x, s, e, hf, h => by simp [sW] at h; omega
  | n + 1, st, ce, v, x, s, e, hf, h => by
    rw [sW] at h
    split at h; · cases h
    split at h; · cases h
    split at h; · cases h
    split at h; · cases h
    split at h; · cases h
    split at h; · cases h
    split at h; · cases h
    split at h; · cases h
    split at h; · cases h
    have := sW_steps (by omega) h
    omega
theorem u_same (F R : Int) (n : Nat) (st ce : Int) : uR F R n st ce = uW F R n st ce := by
  unfold uR uW tW
  rw [show st + 2 = st + 1 + 1 from by omega]

theorem law_1 (kd n F R : Int) (hk : (nk kd).tmod 4 ≠ 0 ∧ (nk kd).tmod 4 ≠ 2 ∧ (nk kd).tmod 4 ≠ 3) (n0 : -9223372036854775808 ≤ n) (n1 : n ≤ 9223372036854775807) : ∃ nx, Cv.Good Tryz.prog 3 [int kd, int n, int F, int R] 0 [] (.ret (.lit (.bool true))) nx [] := by
  have hlong := long1 kd n hk
  obtain ⟨b0, b1⟩ := nn_bounds n0 n1
  revert hlong b0 b1
  generalize nn n = N
  intro hlong b0 b1
  by_cases o0 : 0 ≤ F
  rotate_left
  · exact lawSel_ok (envL_ok ⟨awake_good, hlong, (fun t h => by cases h), (fun t h => by cases h), (my1_ok N)⟩ _) (lw1o0 kd n F R N) (by simp <;> omega)
  by_cases o1 : F ≤ 4294967296
  rotate_left
  · exact lawSel_ok (envL_ok ⟨awake_good, hlong, (fun t h => by cases h), (fun t h => by cases h), (my1_ok N)⟩ _) (lw1o1 kd n F R N) (by simp <;> omega)
  by_cases o2 : 0 ≤ R
  rotate_left
  · exact lawSel_ok (envL_ok ⟨awake_good, hlong, (fun t h => by cases h), (fun t h => by cases h), (my1_ok N)⟩ _) (lw1o2 kd n F R N) (by simp <;> omega)
  by_cases o3 : R ≤ 4294967296
  rotate_left
  · exact lawSel_ok (envL_ok ⟨awake_good, hlong, (fun t h => by cases h), (fun t h => by cases h), (my1_ok N)⟩ _) (lw1o3 kd n F R N) (by simp <;> omega)
  by_cases f0 : F = 0
  · subst f0; exact lawSel_ok (envL_ok ⟨awake_good, hlong, (fun t h => by cases h), (fun t h => by cases h), (my1_ok N)⟩ _) (lw1f0 kd n R N) (by simp <;> omega)
  by_cases f1 : F = 1
  · subst f1; exact lawSel_ok (envL_ok ⟨awake_good, hlong, (fun t h => by cases h), (fun t h => by cases h), (my1_ok N)⟩ _) (lw1f1 kd n R N) (by simp <;> omega)
  by_cases z : N = 0
  · subst z; exact lawSel_ok (envL_ok ⟨awake_good, hlong, (fun t h => by cases h), (fun t h => by cases h), (my1_ok 0)⟩ _) (lw1z kd n F R) (by simp <;> omega)
  obtain ⟨m, hm⟩ := nat_of b0 z
  have gW := gooda1 (F := F) (R := R) (st := 2) (ce := 0) (jv := 0) (by omega) (by omega) m (by omega) (by omega) (by omega) (by omega) (by omega) (by omega) (by omega)
  have gR := goodb1 (F := F) (R := R) (st := 2) (ce := 0) (jv := 0) (c0 := N) (by omega) (by omega) m (by omega) (by omega) (by omega) (by omega) (by omega) (by omega) (by omega)
  rw [← hm] at gW gR
  cases e : sI F R (m + 1) 0 2 0 with
  | ok v x st ce =>
    rw [e] at gW gR
    exact lawSel_ok (envL_ok ⟨awake_good, hlong, (fun t h => by cases h; exact ⟨gW, lowsa1 F R 0 (.ok v x st ce), sk_of ⟨rfl, rfl, rfl, rfl, rfl, rfl, trivial⟩⟩), (fun t h => by cases h; exact ⟨gR, lowsb1 F R 0 N (.ok v x st ce), sk_of ⟨rfl, rfl, rfl, rfl, trivial⟩⟩), (my1_ok N)⟩ _) (lw1k kd n F R N v st ce) (by simp <;> omega)
  | stop c st ce =>
    rw [e] at gW gR
    rcases sI_stop e with rfl | rfl
    · exact lawSel_ok (envL_ok ⟨awake_good, hlong, (fun t h => by cases h; exact ⟨gW, lowsa1 F R 0 (.stop 20 st ce), sk_of ⟨rfl, rfl, rfl, rfl, rfl, rfl, trivial⟩⟩), (fun t h => by cases h; exact ⟨gR, lowsb1 F R 0 N (.stop 20 st ce), sk_of ⟨rfl, rfl, rfl, rfl, trivial⟩⟩), (my1_ok N)⟩ _) (lw1s20 kd n F R N st ce) (by simp <;> omega)
    · exact lawSel_ok (envL_ok ⟨awake_good, hlong, (fun t h => by cases h; exact ⟨gW, lowsa1 F R 0 (.stop 21 st ce), sk_of ⟨rfl, rfl, rfl, rfl, rfl, rfl, trivial⟩⟩), (fun t h => by cases h; exact ⟨gR, lowsb1 F R 0 N (.stop 21 st ce), sk_of ⟨rfl, rfl, rfl, rfl, trivial⟩⟩), (my1_ok N)⟩ _) (lw1s21 kd n F R N st ce) (by simp <;> omega)
theorem law_2 (kd n F R : Int) (hk : (nk kd).tmod 4 = 2) (n0 : -9223372036854775808 ≤ n) (n1 : n ≤ 9223372036854775807) : ∃ nx, Cv.Good Tryz.prog 3 [int kd, int n, int F, int R] 0 [] (.ret (.lit (.bool true))) nx [] := by
  have hlong := long2 kd n hk
  obtain ⟨b0, b1⟩ := nn_bounds n0 n1
  revert hlong b0 b1
  generalize nn n = N
  intro hlong b0 b1
  by_cases o0 : 0 ≤ F
  rotate_left
  · exact lawSel_ok (envL_ok ⟨awake_good, hlong, (fun t h => by cases h), (fun t h => by cases h), (my2_ok N)⟩ _) (lw2o0 kd n F R N) (by simp <;> omega)
  by_cases o1 : F ≤ 4294967296
  rotate_left
  · exact lawSel_ok (envL_ok ⟨awake_good, hlong, (fun t h => by cases h), (fun t h => by cases h), (my2_ok N)⟩ _) (lw2o1 kd n F R N) (by simp <;> omega)
  by_cases o2 : 0 ≤ R
  rotate_left
  · exact lawSel_ok (envL_ok ⟨awake_good, hlong, (fun t h => by cases h), (fun t h => by cases h), (my2_ok N)⟩ _) (lw2o2 kd n F R N) (by simp <;> omega)
  by_cases o3 : R ≤ 4294967296
  rotate_left
  · exact lawSel_ok (envL_ok ⟨awake_good, hlong, (fun t h => by cases h), (fun t h => by cases h), (my2_ok N)⟩ _) (lw2o3 kd n F R N) (by simp <;> omega)
  by_cases f0 : F = 0
  · subst f0; exact lawSel_ok (envL_ok ⟨awake_good, hlong, (fun t h => by cases h), (fun t h => by cases h), (my2_ok N)⟩ _) (lw2f0 kd n R N) (by simp <;> omega)
  by_cases f1 : F = 1
  · subst f1; exact lawSel_ok (envL_ok ⟨awake_good, hlong, (fun t h => by cases h), (fun t h => by cases h), (my2_ok N)⟩ _) (lw2f1 kd n R N) (by simp <;> omega)
  by_cases z : N = 0
  · subst z; exact lawSel_ok (envL_ok ⟨awake_good, hlong, (fun t h => by cases h), (fun t h => by cases h), (my2_ok 0)⟩ _) (lw2z kd n F R) (by simp <;> omega)
  obtain ⟨m, hm⟩ := nat_of b0 z
  have gW := gooda2 (F := F) (R := R) (st := 2) (ce := 0)  (by omega) (by omega) m (by omega) (by omega) (by omega) (by omega) (by omega)
  have gR := goodb2 (F := F) (R := R) (st := 2) (ce := 0)  (c0 := N) (by omega) (by omega) m (by omega) (by omega) (by omega) (by omega) (by omega)
  rw [← hm] at gW gR
  cases e : sS F R (m + 1) 2 0 with
  | ok v x st ce =>
    rw [e] at gW gR
    obtain rfl := sS_ok e
    exact lawSel_ok (envL_ok ⟨awake_good, hlong, (fun t h => by cases h; exact ⟨gW, lowsa2 F R (.ok 0 x st ce), sk_of ⟨rfl, rfl, rfl, rfl, rfl, rfl, rfl, trivial⟩⟩), (fun t h => by cases h; exact ⟨gR, lowsb2 F R N (.ok 0 x st ce), sk_of ⟨rfl, rfl, rfl, rfl, rfl, trivial⟩⟩), (my2_ok N)⟩ _) (lw2k kd n F R N  st ce) (by simp <;> omega)
  | stop c st ce =>
    rw [e] at gW gR
    rcases sS_stop e with rfl | rfl
    · exact lawSel_ok (envL_ok ⟨awake_good, hlong, (fun t h => by cases h; exact ⟨gW, lowsa2 F R (.stop 20 st ce), sk_of ⟨rfl, rfl, rfl, rfl, rfl, rfl, rfl, trivial⟩⟩), (fun t h => by cases h; exact ⟨gR, lowsb2 F R N (.stop 20 st ce), sk_of ⟨rfl, rfl, rfl, rfl, rfl, trivial⟩⟩), (my2_ok N)⟩ _) (lw2s20 kd n F R N st ce) (by simp <;> omega)
    · exact lawSel_ok (envL_ok ⟨awake_good, hlong, (fun t h => by cases h; exact ⟨gW, lowsa2 F R (.stop 21 st ce), sk_of ⟨rfl, rfl, rfl, rfl, rfl, rfl, rfl, trivial⟩⟩), (fun t h => by cases h; exact ⟨gR, lowsb2 F R N (.stop 21 st ce), sk_of ⟨rfl, rfl, rfl, rfl, rfl, trivial⟩⟩), (my2_ok N)⟩ _) (lw2s21 kd n F R N st ce) (by simp <;> omega)
theorem law_3 (kd n F R : Int) (hk : (nk kd).tmod 4 = 3) (n0 : -9223372036854775808 ≤ n) (n1 : n ≤ 9223372036854775807) : ∃ nx, Cv.Good Tryz.prog 3 [int kd, int n, int F, int R] 0 [] (.ret (.lit (.bool true))) nx [] := by
  have hlong := long3 kd n hk
  obtain ⟨b0, b1⟩ := nn_bounds n0 n1
  revert hlong b0 b1
  generalize nn n = N
  intro hlong b0 b1
  by_cases o0 : 0 ≤ F
  rotate_left
  · exact lawSel_ok (envL_ok ⟨awake_good, hlong, (fun t h => by cases h), (fun t h => by cases h), (my3_ok N)⟩ _) (lw3o0 kd n F R N) (by simp <;> omega)
  by_cases o1 : F ≤ 4294967296
  rotate_left
  · exact lawSel_ok (envL_ok ⟨awake_good, hlong, (fun t h => by cases h), (fun t h => by cases h), (my3_ok N)⟩ _) (lw3o1 kd n F R N) (by simp <;> omega)
  by_cases o2 : 0 ≤ R
  rotate_left
  · exact lawSel_ok (envL_ok ⟨awake_good, hlong, (fun t h => by cases h), (fun t h => by cases h), (my3_ok N)⟩ _) (lw3o2 kd n F R N) (by simp <;> omega)
  by_cases o3 : R ≤ 4294967296
  rotate_left
  · exact lawSel_ok (envL_ok ⟨awake_good, hlong, (fun t h => by cases h), (fun t h => by cases h), (my3_ok N)⟩ _) (lw3o3 kd n F R N) (by simp <;> omega)
  by_cases f0 : F = 0
  · subst f0; exact lawSel_ok (envL_ok ⟨awake_good, hlong, (fun t h => by cases h), (fun t h => by cases h), (my3_ok N)⟩ _) (lw3f0 kd n R N) (by simp <;> omega)
  by_cases f1 : F = 1
  · subst f1; exact lawSel_ok (envL_ok ⟨awake_good, hlong, (fun t h => by cases h), (fun t h => by cases h), (my3_ok N)⟩ _) (lw3f1 kd n R N) (by simp <;> omega)
  by_cases z : N = 0
  · subst z; exact lawSel_ok (envL_ok ⟨awake_good, hlong, (fun t h => by cases h), (fun t h => by cases h), (my3_ok 0)⟩ _) (lw3z kd n F R) (by simp <;> omega)
  obtain ⟨m, hm⟩ := nat_of b0 z
  have gW := gooda3 (F := F) (R := R) (st := 2) (ce := 0) (jx := 1) (jy := 2) (by omega) (by omega) m (by omega) (by omega) (by omega) (by omega) (by omega)
  have gR := goodb3 (F := F) (R := R) (st := 2) (ce := 0) (jx := 1) (jy := 2) (c0 := N) (by omega) (by omega) m (by omega) (by omega) (by omega) (by omega) (by omega)
  rw [← hm] at gW gR
  cases e : sV F R (m + 1) 1 2 2 0 with
  | ok v x st ce =>
    rw [e] at gW gR
    exact lawSel_ok (envL_ok ⟨awake_good, hlong, (fun t h => by cases h; exact ⟨gW, lowsa3 F R 1 2 (.ok v x st ce), sk_of ⟨rfl, rfl, rfl, rfl, rfl, rfl, rfl, trivial⟩⟩), (fun t h => by cases h; exact ⟨gR, lowsb3 F R 1 2 N (.ok v x st ce), sk_of ⟨rfl, rfl, rfl, rfl, rfl, trivial⟩⟩), (my3_ok N)⟩ _) (lw3k kd n F R N v x st ce) (by simp <;> omega)
  | stop c st ce =>
    rw [e] at gW gR
    rcases sV_stop e with rfl | rfl
    · exact lawSel_ok (envL_ok ⟨awake_good, hlong, (fun t h => by cases h; exact ⟨gW, lowsa3 F R 1 2 (.stop 20 st ce), sk_of ⟨rfl, rfl, rfl, rfl, rfl, rfl, rfl, trivial⟩⟩), (fun t h => by cases h; exact ⟨gR, lowsb3 F R 1 2 N (.stop 20 st ce), sk_of ⟨rfl, rfl, rfl, rfl, rfl, trivial⟩⟩), (my3_ok N)⟩ _) (lw3s20 kd n F R N st ce) (by simp <;> omega)
    · exact lawSel_ok (envL_ok ⟨awake_good, hlong, (fun t h => by cases h; exact ⟨gW, lowsa3 F R 1 2 (.stop 21 st ce), sk_of ⟨rfl, rfl, rfl, rfl, rfl, rfl, rfl, trivial⟩⟩), (fun t h => by cases h; exact ⟨gR, lowsb3 F R 1 2 N (.stop 21 st ce), sk_of ⟨rfl, rfl, rfl, rfl, rfl, trivial⟩⟩), (my3_ok N)⟩ _) (lw3s21 kd n F R N st ce) (by simp <;> omega)
theorem law_0 (kd n F R : Int) (hk : (nk kd).tmod 4 = 0) (n0 : -9223372036854775808 ≤ n) (n1 : n ≤ 9223372036854775807) : ∃ nx, Cv.Good Tryz.prog 3 [int kd, int n, int F, int R] 0 [] (.ret (.lit (.bool true))) nx [] := by
  have hlong := long0 kd n hk
  obtain ⟨b0, b1⟩ := nn_bounds n0 n1
  revert hlong b0 b1
  generalize nn n = N
  intro hlong b0 b1
  by_cases o0 : 0 ≤ F
  rotate_left
  · exact lawSel_ok (envL_ok ⟨awake_good, hlong, (fun t h => by cases h), (fun t h => by cases h), my0_ok⟩ _) (lw0o0 kd n F R N) (by simp <;> omega)
  by_cases o1 : F ≤ 4294967296
  rotate_left
  · exact lawSel_ok (envL_ok ⟨awake_good, hlong, (fun t h => by cases h), (fun t h => by cases h), my0_ok⟩ _) (lw0o1 kd n F R N) (by simp <;> omega)
  by_cases o2 : 0 ≤ R
  rotate_left
  · exact lawSel_ok (envL_ok ⟨awake_good, hlong, (fun t h => by cases h), (fun t h => by cases h), my0_ok⟩ _) (lw0o2 kd n F R N) (by simp <;> omega)
  by_cases o3 : R ≤ 4294967296
  rotate_left
  · exact lawSel_ok (envL_ok ⟨awake_good, hlong, (fun t h => by cases h), (fun t h => by cases h), my0_ok⟩ _) (lw0o3 kd n F R N) (by simp <;> omega)
  by_cases f0 : F = 0
  · subst f0; exact lawSel_ok (envL_ok ⟨awake_good, hlong, (fun t h => by cases h), (fun t h => by cases h), my0_ok⟩ _) (lw0f0 kd n R N) (by simp <;> omega)
  by_cases f1 : F = 1
  · subst f1; exact lawSel_ok (envL_ok ⟨awake_good, hlong, (fun t h => by cases h), (fun t h => by cases h), my0_ok⟩ _) (lw0f1 kd n R N) (by simp <;> omega)
  by_cases z : N = 0
  · subst z
    by_cases f2 : F = 2
    · subst f2; exact lawSel_ok (envL_ok ⟨awake_good, hlong, (fun t h => by cases h), (fun t h => by cases h), my0_ok⟩ _) (lw0z2 kd n R) (by simp <;> omega)
    by_cases f3 : F = 3
    · subst f3; exact lawSel_ok (envL_ok ⟨awake_good, hlong, (fun t h => by cases h), (fun t h => by cases h), my0_ok⟩ _) (lw0z3 kd n R) (by simp <;> omega)
    by_cases f4 : F = 4
    · subst f4; exact lawSel_ok (envL_ok ⟨awake_good, hlong, (fun t h => by cases h), (fun t h => by cases h), my0_ok⟩ _) (lw0z4 kd n R) (by simp <;> omega)
    by_cases f5 : F = 5
    · subst f5; exact lawSel_ok (envL_ok ⟨awake_good, hlong, (fun t h => by cases h), (fun t h => by cases h), my0_ok⟩ _) (lw0z5 kd n R) (by simp <;> omega)
    exact lawSel_ok (envL_ok ⟨awake_good, hlong, (fun t h => by cases h), (fun t h => by cases h), my0_ok⟩ _) (lw0z kd n F R) (by simp <;> omega)
  obtain ⟨m, hm⟩ := nat_of b0 z
  have gW := gooda0 (F := F) (R := R) (st := 2) (ce := 0) (jv := N) (by omega) (by omega) m (by omega) hm (by omega) (by omega) (by omega) (by omega)
  have gR := goodb0 (F := F) (R := R) (st := 2) (ce := 0) (jv := N) (by omega) (by omega) m (by omega) hm (by omega) (by omega) (by omega) (by omega)
  obtain ⟨lst, gR⟩ := gR
  rw [u_same] at gR
  cases e : uW F R (m + 1) 2 0 with
  | ok v x st ce =>
    have hs : st ≤ F ∧ 0 ≤ st := by
      unfold uW tW at e
      split at e
      · cases e
      · split at e
        · cases e
        · have := sW_steps (by omega) e
          omega
    obtain ⟨hs, hs0⟩ := hs
    rw [e] at gW gR
    have w1 : w (st + 1) = st + 1 := w_id (by omega) (by omega)
    by_cases g0 : st = F
    · exact lawSel_ok (envL_ok ⟨awake_good, hlong, (fun t h => by cases h; exact ⟨gW, lowsa0 F R N (.ok v x st ce), sk_of ⟨rfl, rfl, rfl, rfl, rfl, rfl, trivial⟩⟩), (fun t h => by cases h; exact ⟨gR, lowsb0 F R N none (.ok v x st ce), sk_of ⟨rfl, rfl, trivial⟩⟩), my0_ok⟩ _) (lw0a kd n F R N st ce) (by simp [g0] <;> omega)
    by_cases g1 : st + 1 = F
    · exact lawSel_ok (envL_ok ⟨awake_good, hlong, (fun t h => by cases h; exact ⟨gW, lowsa0 F R N (.ok v x st ce), sk_of ⟨rfl, rfl, rfl, rfl, rfl, rfl, trivial⟩⟩), (fun t h => by cases h; exact ⟨gR, lowsb0 F R N none (.ok v x st ce), sk_of ⟨rfl, rfl, trivial⟩⟩), my0_ok⟩ _) (lw0b kd n F R N st ce) (by simp [w1.trans g1] <;> omega)
    exact lawSel_ok (envL_ok ⟨awake_good, hlong, (fun t h => by cases h; exact ⟨gW, lowsa0 F R N (.ok v x st ce), sk_of ⟨rfl, rfl, rfl, rfl, rfl, rfl, trivial⟩⟩), (fun t h => by cases h; exact ⟨gR, lowsb0 F R N none (.ok v x st ce), sk_of ⟨rfl, rfl, trivial⟩⟩), my0_ok⟩ _) (lw0k kd n F R N st ce) (by simp [w1] <;> omega)
  | stop c st ce =>
    rw [e] at gW gR
    have hc : c = 20 ∨ c = 21 := by
      unfold uW tW at e
      split at e
      · cases e; exact .inl rfl
      · split at e
        · cases e; exact .inl rfl
        · exact sW_stop e
    cases lst with
    | none =>
      rcases hc with rfl | rfl
      · exact lawSel_ok (envL_ok ⟨awake_good, hlong, (fun t h => by cases h; exact ⟨gW, lowsa0 F R N (.stop 20 st ce), sk_of ⟨rfl, rfl, rfl, rfl, rfl, rfl, trivial⟩⟩), (fun t h => by cases h; exact ⟨gR, lowsb0 F R N none (.stop 20 st ce), sk_of ⟨rfl, rfl, trivial⟩⟩), my0_ok⟩ _) (lw0s20n kd n F R N st ce) (by simp <;> omega)
      · exact lawSel_ok (envL_ok ⟨awake_good, hlong, (fun t h => by cases h; exact ⟨gW, lowsa0 F R N (.stop 21 st ce), sk_of ⟨rfl, rfl, rfl, rfl, rfl, rfl, trivial⟩⟩), (fun t h => by cases h; exact ⟨gR, lowsb0 F R N none (.stop 21 st ce), sk_of ⟨rfl, rfl, trivial⟩⟩), my0_ok⟩ _) (lw0s21n kd n F R N st ce) (by simp <;> omega)
    | some x =>
      rcases hc with rfl | rfl
      · exact lawSel_ok (envL_ok ⟨awake_good, hlong, (fun t h => by cases h; exact ⟨gW, lowsa0 F R N (.stop 20 st ce), sk_of ⟨rfl, rfl, rfl, rfl, rfl, rfl, trivial⟩⟩), (fun t h => by cases h; exact ⟨gR, lowsb0 F R N (some x) (.stop 20 st ce), sk_of ⟨rfl, rfl, trivial⟩⟩), my0_ok⟩ _) (lw0s20x kd n F R N st ce x) (by simp <;> omega)
      · exact lawSel_ok (envL_ok ⟨awake_good, hlong, (fun t h => by cases h; exact ⟨gW, lowsa0 F R N (.stop 21 st ce), sk_of ⟨rfl, rfl, rfl, rfl, rfl, rfl, trivial⟩⟩), (fun t h => by cases h; exact ⟨gR, lowsb0 F R N (some x) (.stop 21 st ce), sk_of ⟨rfl, rfl, trivial⟩⟩), my0_ok⟩ _) (lw0s21x kd n F R N st ce x) (by simp <;> omega)
theorem law_any (kd n F R : Int) (n0 : -9223372036854775808 ≤ n) (n1 : n ≤ 9223372036854775807) : ∃ nx, Cv.Good Tryz.prog 3 [int kd, int n, int F, int R] 0 [] (.ret (.lit (.bool true))) nx [] := by
  by_cases h0 : (nk kd).tmod 4 = 0
  · exact law_0 kd n F R h0 n0 n1
  by_cases h2 : (nk kd).tmod 4 = 2
  · exact law_2 kd n F R h2 n0 n1
  by_cases h3 : (nk kd).tmod 4 = 3
  · exact law_3 kd n F R h3 n0 n1
  exact law_1 kd n F R ⟨h0, h2, h3⟩ n0 n1
end Go.Wg
