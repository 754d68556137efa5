/-
  The verbs may be: contracts of the two functions that look at them.
-/
import Derived.Test.YtdincjlkfbeedaaGreatDoorT4
set_option linter.all false
namespace Go.Wg
open Go Go.Cv Go.Proofs

theorem tm_of {t : Tm} {fn : Func} {c : Code} {n : Nat} {ids : List Nat} (hf : Tryz.prog.funcs[t.f]? = some fn) (hb : fn.body = some c) (hcf : ∀ (vs : Array Value) (w : World), (callFunc t.f vs).run Tryz.prog w = .ok (.enter t.f vs) w)
    (hn : t.args.length ≤ fn.ntmps) (he : endLow Tryz.prog fn t.lo ids (crun Tryz.prog (envS [] none kn1) n t.f fn.ntmps (.run [.code c] ⟨entryFr t.args, t.lo, t.h0⟩) ⟨[], [], []⟩) = some (t.o, t.h2, []))
    (hsk : ∀ a ∈ t.sk, hget t.h2 a = hget t.h0 a) : TmOk Tryz.prog t := by
  obtain ⟨h1, h2⟩ := endLow_ok (envS1_ok _ _) hf he (by simp) (Nat.le_refl _)
  exact ⟨good_of_K hf hb hcf hn h1, h2, hsk⟩
def skB (h2 h0 : Heap) : List Nat → Prop
  | [] => True
  | a :: l => hget h2 a = hget h0 a ∧ skB h2 h0 l
theorem sk_of {h2 h0 : Heap} : ∀ {l : List Nat}, skB h2 h0 l → ∀ a ∈ l, hget h2 a = hget h0 a
  | [], _, a, ha => by cases ha
  | b :: l, h, a, ha => by
    rcases List.mem_cons.1 ha with rfl | ha
    · exact h.1
    · exact sk_of h.2 a ha
def myA0 : List CV := [.agg [int 23, .lit (.string ⟨#[]⟩), int 1, nilS, nilS, .isl [int 14, .lit (.string ⟨#[]⟩), int 0, nilS, nilS, .isl [int 13, .lit (.string ⟨#[]⟩), int 0, nilS, nilS, .isl [int 2, .lit (.string ⟨#[121]⟩), int 0, nilS, nilS, nilS, int 14, .lit (.string ⟨#[]⟩), int 0, nilS, nilS, .isl [int 11, .lit (.string ⟨#[121]⟩), int 0, nilS, nilS, .isl [int 4, .lit (.string ⟨#[]⟩), int 0, nilS, nilS, .isl [int 20, .lit (.string ⟨#[45]⟩), int 0, nilS, nilS, nilS, int 2, .lit (.string ⟨#[121]⟩), int 0, nilS, nilS, nilS, int 1, .lit (.string ⟨#[]⟩), int 0, nilS, .isl [int 1] 1 1, nilS] 3 6] 1 6] 1 6] 2 6, int 10, .lit (.string ⟨#[]⟩), int 0, nilS, nilS, .isl [int 2, .lit (.string ⟨#[121]⟩), int 0, nilS, nilS, nilS] 1 6] 2 6] 1 6], int 3]
def myH0 : Heap := []
def my0w : Tm := ⟨43, 0, myA0, myH0, .ret (int 0), myH0, [], none, []⟩
theorem mr0w : endLow Tryz.prog Tryz.f43 0 [] (crun Tryz.prog (envS [] none kn1) 100000 43 Tryz.f43.ntmps (.run [.code (Tryz.f43.body.getD .skip)] ⟨entryFr myA0, 0, myH0⟩) ⟨[], [], []⟩) = some (.ret (int 0), myH0, []) := by kernel_rfl
theorem mo0w : TmOk Tryz.prog (my0w) := tm_of Tryz.func43 (by kernel_rfl) Tryz.call43 (Nat.le_of_ble_eq_true (by kernel_rfl)) (mr0w) (sk_of trivial)
def my0r : Tm := ⟨27, 0, myA0, myH0, .ret (int 0), myH0, [], none, []⟩
theorem mr0r : endLow Tryz.prog Tryz.f27 0 [] (crun Tryz.prog (envS [] none kn1) 100000 27 Tryz.f27.ntmps (.run [.code (Tryz.f27.body.getD .skip)] ⟨entryFr myA0, 0, myH0⟩) ⟨[], [], []⟩) = some (.ret (int 0), myH0, []) := by kernel_rfl
theorem mo0r : TmOk Tryz.prog (my0r) := tm_of Tryz.func27 (by kernel_rfl) Tryz.call27 (Nat.le_of_ble_eq_true (by kernel_rfl)) (mr0r) (sk_of trivial)
theorem my0_ok : ∀ t ∈ [my0w, my0r], TmOk Tryz.prog t := fun t ht => by
  rcases List.mem_cons.1 ht with rfl | ht
  · exact mo0w
  rcases List.mem_cons.1 ht with rfl | ht
  · exact mo0r
  · cases ht
def myA1 : List CV := [.agg [int 41, .lit (.string ⟨#[]⟩), int 0, nilS, nilS, .sl 0 0 0 2 6], int 3]
def myH1 (N : Int) : Heap := [(0, ⟨0, [int 20, .lit (.string ⟨#[62, 58]⟩), int 0, nilS, nilS, nilS, int 1, .lit (.string ⟨#[]⟩), int 0, nilS, .sl 1 0 0 1 1, nilS], none⟩), (1, ⟨0, [int N], none⟩)]
def my1w (N : Int) : Tm := ⟨43, 2, myA1, myH1 N, .ret (int 0), myH1 N, [8, 10], none, [0, 1]⟩
theorem mr1w (N : Int) : endLow Tryz.prog Tryz.f43 2 [0, 1] (crun Tryz.prog (envS [] none kn1) 100000 43 Tryz.f43.ntmps (.run [.code (Tryz.f43.body.getD .skip)] ⟨entryFr myA1, 2, myH1 N⟩) ⟨[], [], []⟩) = some (.ret (int 0), myH1 N, []) := by kernel_rfl
theorem mo1w (N : Int) : TmOk Tryz.prog (my1w N) := tm_of Tryz.func43 (by kernel_rfl) Tryz.call43 (Nat.le_of_ble_eq_true (by kernel_rfl)) (mr1w N) (sk_of ⟨rfl, rfl, trivial⟩)
def my1r (N : Int) : Tm := ⟨27, 2, myA1, myH1 N, .ret (int 0), myH1 N, [8, 10], none, [0, 1]⟩
theorem mr1r (N : Int) : endLow Tryz.prog Tryz.f27 2 [0, 1] (crun Tryz.prog (envS [] none kn1) 100000 27 Tryz.f27.ntmps (.run [.code (Tryz.f27.body.getD .skip)] ⟨entryFr myA1, 2, myH1 N⟩) ⟨[], [], []⟩) = some (.ret (int 0), myH1 N, []) := by kernel_rfl
theorem mo1r (N : Int) : TmOk Tryz.prog (my1r N) := tm_of Tryz.func27 (by kernel_rfl) Tryz.call27 (Nat.le_of_ble_eq_true (by kernel_rfl)) (mr1r N) (sk_of ⟨rfl, rfl, trivial⟩)
theorem my1_ok (N : Int) : ∀ t ∈ [my1w N, my1r N], TmOk Tryz.prog t := fun t ht => by
  rcases List.mem_cons.1 ht with rfl | ht
  · exact mo1w N
  rcases List.mem_cons.1 ht with rfl | ht
  · exact mo1r N
  · cases ht
def myA2 : List CV := [.agg [int 41, .lit (.string ⟨#[]⟩), int 0, nilS, nilS, .sl 0 0 0 2 6], int 3]
def myH2 (N : Int) : Heap := [(0, ⟨0, [int 27, .lit (.string ⟨#[]⟩), int 0, nilS, nilS, .sl 2 0 0 1 6, int 1, .lit (.string ⟨#[]⟩), int 0, nilS, .sl 1 0 0 1 1, nilS], none⟩), (1, ⟨0, [int N], none⟩), (2, ⟨0, [int 20, .lit (.string ⟨#[43]⟩), int 0, nilS, nilS, nilS], none⟩)]
def my2w (N : Int) : Tm := ⟨43, 3, myA2, myH2 N, .ret (int 0), myH2 N, [8, 11, 10], none, [0, 1, 2]⟩
theorem mr2w (N : Int) : endLow Tryz.prog Tryz.f43 3 [0, 1, 2] (crun Tryz.prog (envS [] none kn1) 100000 43 Tryz.f43.ntmps (.run [.code (Tryz.f43.body.getD .skip)] ⟨entryFr myA2, 3, myH2 N⟩) ⟨[], [], []⟩) = some (.ret (int 0), myH2 N, []) := by kernel_rfl
theorem mo2w (N : Int) : TmOk Tryz.prog (my2w N) := tm_of Tryz.func43 (by kernel_rfl) Tryz.call43 (Nat.le_of_ble_eq_true (by kernel_rfl)) (mr2w N) (sk_of ⟨rfl, rfl, rfl, trivial⟩)
def my2r (N : Int) : Tm := ⟨27, 3, myA2, myH2 N, .ret (int 0), myH2 N, [8, 11, 10], none, [0, 1, 2]⟩
theorem mr2r (N : Int) : endLow Tryz.prog Tryz.f27 3 [0, 1, 2] (crun Tryz.prog (envS [] none kn1) 100000 27 Tryz.f27.ntmps (.run [.code (Tryz.f27.body.getD .skip)] ⟨entryFr myA2, 3, myH2 N⟩) ⟨[], [], []⟩) = some (.ret (int 0), myH2 N, []) := by kernel_rfl
theorem mo2r (N : Int) : TmOk Tryz.prog (my2r N) := tm_of Tryz.func27 (by kernel_rfl) Tryz.call27 (Nat.le_of_ble_eq_true (by kernel_rfl)) (mr2r N) (sk_of ⟨rfl, rfl, rfl, trivial⟩)
theorem my2_ok (N : Int) : ∀ t ∈ [my2w N, my2r N], TmOk Tryz.prog t := fun t ht => by
  rcases List.mem_cons.1 ht with rfl | ht
  · exact mo2w N
  rcases List.mem_cons.1 ht with rfl | ht
  · exact mo2r N
  · cases ht
def myA3 : List CV := [.agg [int 41, .lit (.string ⟨#[]⟩), int 0, nilS, nilS, .sl 0 0 0 2 6], int 3]
def myH3 (N : Int) : Heap := [(0, ⟨0, [int 20, .lit (.string ⟨#[124, 46]⟩), int 0, nilS, nilS, nilS, int 1, .lit (.string ⟨#[]⟩), int 0, nilS, .sl 1 0 0 1 1, nilS], none⟩), (1, ⟨0, [int N], none⟩)]
def my3w (N : Int) : Tm := ⟨43, 2, myA3, myH3 N, .ret (int 0), myH3 N, [8, 11], none, [0, 1]⟩
theorem mr3w (N : Int) : endLow Tryz.prog Tryz.f43 2 [0, 1] (crun Tryz.prog (envS [] none kn1) 100000 43 Tryz.f43.ntmps (.run [.code (Tryz.f43.body.getD .skip)] ⟨entryFr myA3, 2, myH3 N⟩) ⟨[], [], []⟩) = some (.ret (int 0), myH3 N, []) := by kernel_rfl
theorem mo3w (N : Int) : TmOk Tryz.prog (my3w N) := tm_of Tryz.func43 (by kernel_rfl) Tryz.call43 (Nat.le_of_ble_eq_true (by kernel_rfl)) (mr3w N) (sk_of ⟨rfl, rfl, trivial⟩)
def my3r (N : Int) : Tm := ⟨27, 2, myA3, myH3 N, .ret (int 0), myH3 N, [8, 11], none, [0, 1]⟩
theorem mr3r (N : Int) : endLow Tryz.prog Tryz.f27 2 [0, 1] (crun Tryz.prog (envS [] none kn1) 100000 27 Tryz.f27.ntmps (.run [.code (Tryz.f27.body.getD .skip)] ⟨entryFr myA3, 2, myH3 N⟩) ⟨[], [], []⟩) = some (.ret (int 0), myH3 N, []) := by kernel_rfl
theorem mo3r (N : Int) : TmOk Tryz.prog (my3r N) := tm_of Tryz.func27 (by kernel_rfl) Tryz.call27 (Nat.le_of_ble_eq_true (by kernel_rfl)) (mr3r N) (sk_of ⟨rfl, rfl, trivial⟩)
theorem my3_ok (N : Int) : ∀ t ∈ [my3w N, my3r N], TmOk Tryz.prog t := fun t ht => by
  rcases List.mem_cons.1 ht with rfl | ht
  · exact mo3w N
  rcases List.mem_cons.1 ht with rfl | ht
  · exact mo3r N
  · cases ht
end Go.Wg
