/-
  One evaluation is told as the document says.
-/
import Derived.Test.YtdincjlkfbeedaaGreatDoorT4
import Derived.Test.YtdincjlkfbeedaaGreatDoorMy
set_option linter.all false
namespace Go.Wg
open Go Go.Cv Go.Proofs

def verbT (s : List UInt8) : List CV := [int 20, .lit (.string ⟨s.toArray⟩), int 0, nilS, nilS, nilS]
def awE (sp : Nat) (st ce : Int) : Blk := ⟨0, [.ptr sp 0 0, int 100, int 100, int st, int ce, nilS, .lit .nilFunc, .lit (.chan none)], none⟩
-- the sum
def awArgs : List CV := [.ptr 0 0 0, .agg [int 24, .lit (.string ⟨#[]⟩), int 0, nilS, nilS, .sl 4 0 0 1 6], .agg [.lit (.bool false), nilS, nilS, .sl 2 0 0 1 1, .sl 3 0 0 3 1], .ptr 1 0 0]
def awH (st ce : Int) : Heap := [(0, awE 5 st ce), (1, ⟨0, [.lit (.map none), nilS, nilS], none⟩), (2, ⟨0, [int 3], none⟩), (3, ⟨0, [int 2, int 4, int 9], none⟩),
  (4, ⟨0, verbT [43], none⟩), (5, ⟨0, [.mp 6 0, .mp 7 0, .mp 8 0, int 0], none⟩), (6, ⟨0, [], some []⟩), (7, ⟨0, [], some []⟩), (8, ⟨0, [], some []⟩)]
def awO : Out := .ret (.tup [.agg [.isl [] 0 1, .isl [int 15] 1 1], nilI])
def awT : Tm := ⟨26, 9, awArgs, awH 2 1, awO, awH 5 3, [207, 243, 8, 9, 2, 24, 20, 21, 22], some 24, [1, 2, 3, 4, 5, 6, 7, 8]⟩
-- the quotient
def pcArgs : List CV := [.ptr 0 0 0, .agg (verbT [37]), .agg [.lit (.bool true), .isl [] 0 1, .isl [int 15] 1 1, nilS, .sl 2 0 0 1 1], .ptr 1 0 0]
def pcH (st ce : Int) : Heap := [(0, awE 3 st ce), (1, ⟨0, [.lit (.map none), nilS, nilS], none⟩), (2, ⟨0, [int 3], none⟩), (3, ⟨0, [.mp 4 0, .mp 5 0, .mp 6 0, int 0], none⟩), (4, ⟨0, [], some []⟩), (5, ⟨0, [], some []⟩), (6, ⟨0, [], some []⟩)]
def pcO : Out := .ret (.tup [.agg [.isl [] 0 1, .isl [int 5] 1 1], nilI])
def pcT : Tm := ⟨26, 7, pcArgs, pcH 5 3, pcO, pcH 6 4, [207, 243, 2079, 24, 20, 21, 22], some 20, [1, 2, 3, 4, 5, 6]⟩
-- the verb is one
def mvArgs : List CV := [.agg [int 45, .lit (.string ⟨#[]⟩), int 0, nilS, nilS, .sl 0 0 0 3 6], int 3]
def mvH : Heap := [(0, ⟨0, [int 24, .lit (.string ⟨#[]⟩), int 0, nilS, nilS, .sl 1 0 0 1 6] ++ (verbT [37] ++ verbT [35]), none⟩), (1, ⟨0, verbT [43], none⟩)]
def mvT : Tm := ⟨43, 2, mvArgs, mvH, .ret (int 0), mvH, [6, 2], none, [0, 1]⟩

theorem env3_ok {ts : List Tm} (ht : ∀ t ∈ ts, TmOk Tryz.prog t) (sy : List Nat) (st : Option Nat) : EnvOk Tryz.prog (envS sy st (kn3 ts)) :=
  ⟨mixedT, fun _ _ h => fnT_ok h, fun _ _ _ _ _ _ _ _ _ he hL => kn3_good ht he hL, alT_ok⟩

def allSame : List (Bool × Bool) → Bool
  | [] => true
  | p :: l => (p.1 == p.2) && allSame l
theorem allSame_ok : ∀ {l : List (Bool × Bool)}, allSame l = true → ∀ p ∈ l, p.1 = p.2
  | [], _, p, hp => by cases hp
  | q :: l, h, p, hp => by
    simp only [allSame, Bool.and_eq_true, beq_iff_eq] at h
    rcases List.mem_cons.1 hp with rfl | hp
    · exact h.1
    · exact allSame_ok h.2 p hp
/-- A closed run that leans on contracts. -/
def runPureL (P : Program) (E : Env) (n : Nat) (f : FuncId) (args : List CV) : Option CV :=
  match allB (closedB 0 60) args with
  | true => match callRun P E (crun P E n) f args 0 [] ⟨[], [], []⟩ with
    | some (.ret r, _, h, _, A) => match allSame A.L with
      | true => match frzV 0 h 60 r with
        | some r' => match closedB 0 60 r' with
          | true => some r'
          | false => none
        | none => none
      | false => none
    | _ => none
  | false => none
theorem runPureL_ok {P : Program} {E : Env} (hE : EnvOk P E) {n : Nat} {f : FuncId} {args : List CV} {r : CV} (h : runPureL P E n f args = some r) (nx : Nat) (hp : Heap) : Cv.Good P f args nx hp (.ret r) nx hp := by
  unfold runPureL at h
  split at h
  · rename_i hc
    split at h
    · rename_i r0 nx' h' wr A hcall
      split at h
      · rename_i hL
        split at h
        · rename_i r' hf
          split at h
          · rename_i hcl
            cases h
            obtain ⟨_, _, h3⟩ := callRun_ok hE (crun_ok hE n) hcall
            obtain ⟨hG, _⟩ := h3 (allSame_ok hL)
            obtain ⟨f1, f2⟩ := frzV_ok _ _ _ hf
            exact (hG.pure (o := .ret r) (fun n hn => by omega) f1 f2).lift0 (fun c hm => closedB_ok _ _ (allB_spec hc c hm)) f2 nx hp
          · cases h
        · cases h
      · cases h
    · cases h
  · cases h
end Go.Wg
namespace Go.Wg
open Go Go.Cv Go.Proofs

theorem aw1 : endLow Tryz.prog Tryz.f26 9 [0, 1, 2, 3, 4, 5, 6, 7, 8] (crun Tryz.prog (envS [] none kn1) 100000 26 Tryz.f26.ntmps (.run [.code (Tryz.f26.body.getD .skip)] ⟨entryFr awArgs, 9, awH 2 1⟩) ⟨[], [], []⟩) = some (awO, awH 5 3, []) := by kernel_rfl
theorem aw2 : endLow Tryz.prog Tryz.f26 7 [0, 1, 2, 3, 4, 5, 6] (crun Tryz.prog (envS [] none kn1) 100000 26 Tryz.f26.ntmps (.run [.code (Tryz.f26.body.getD .skip)] ⟨entryFr pcArgs, 7, pcH 5 3⟩) ⟨[], [], []⟩) = some (pcO, pcH 6 4, []) := by kernel_rfl
theorem aw3 : endLow Tryz.prog Tryz.f43 2 [0, 1] (crun Tryz.prog (envS [] none kn1) 100000 43 Tryz.f43.ntmps (.run [.code (Tryz.f43.body.getD .skip)] ⟨entryFr mvArgs, 2, mvH⟩) ⟨[], [], []⟩) = some (.ret (int 0), mvH, []) := by kernel_rfl
theorem awT_ok : TmOk Tryz.prog awT := tm_of Tryz.func26 (by kernel_rfl) Tryz.call26 (Nat.le_of_ble_eq_true (by kernel_rfl)) aw1 (sk_of ⟨rfl, rfl, rfl, rfl, rfl, rfl, rfl, rfl, trivial⟩)
theorem pcT_ok : TmOk Tryz.prog pcT := tm_of Tryz.func26 (by kernel_rfl) Tryz.call26 (Nat.le_of_ble_eq_true (by kernel_rfl)) aw2 (sk_of ⟨rfl, rfl, rfl, rfl, rfl, rfl, trivial⟩)
theorem mvT_ok : TmOk Tryz.prog mvT := tm_of Tryz.func43 (by kernel_rfl) Tryz.call43 (Nat.le_of_ble_eq_true (by kernel_rfl)) aw3 (sk_of ⟨rfl, rfl, trivial⟩)
theorem awake_run : runPureL Tryz.prog (envS [] none (kn3 [mvT, awT, pcT])) 100000 4 [] = some (.lit (.bool true)) := by kernel_rfl
theorem awake_good (nx : Nat) (h : Heap) : Cv.Good Tryz.prog 4 [] nx h (.ret (.lit (.bool true))) nx h := runPureL_ok (env3_ok (fun t ht => by
  rcases List.mem_cons.1 ht with rfl | ht
  · exact mvT_ok
  rcases List.mem_cons.1 ht with rfl | ht
  · exact awT_ok
  rcases List.mem_cons.1 ht with rfl | ht
  · exact pcT_ok
  · cases ht) _ _) awake_run nx h
end Go.Wg
