/-
  What the loops come to; the contracts that a run of the law leans on; the job.
-/
import Derived.Test.YtdincjlkfbeedaaGreatDoorT2
import Derived.Test.YtdincjlkfbeedaaGreatDoorT3
import Derived.Test.YtdincjlkfbeedaaGreatDoorK4
import Derived.Test.YtdincjlkfbeedaaGreatDoorK5
set_option linter.all false
namespace Go.Wg
open Go Go.Cv Go.Proofs

def eqBytes : List UInt8 → List UInt8 → Bool
  | [], [] => true
  | a :: l, b :: m => match Nat.beq a.toNat b.toNat with
    | true => eqBytes l m
    | false => false
  | _, _ => false
theorem eqBytes_ok : ∀ {l m : List UInt8}, eqBytes l m = true → l = m
  | [], [], _ => rfl
  | a :: l, b :: m, h => by
    simp only [eqBytes] at h
    split at h
    · rename_i e
      have e1 : a = b := UInt8.toNat_inj.1 (Nat.eq_of_beq_eq_true e)
      rw [e1, eqBytes_ok h]
    · cases h
  | [], _ :: _, h => by cases h
  | _ :: _, [], h => by cases h
def lookS (s : List UInt8) : List (List UInt8 × CV) → Option CV
  | [] => none
  | p :: l => match eqBytes s p.1 with
    | true => some p.2
    | false => lookS s l
def lookI (n : Nat) : List (Nat × CV) → Option CV
  | [] => none
  | p :: l => match Nat.beq n p.1 with
    | true => some p.2
    | false => lookI n l
theorem lookS_ok {Q : List UInt8 → CV → Prop} {s : List UInt8} {r : CV} : ∀ {l : List (List UInt8 × CV)}, (∀ p ∈ l, Q p.1 p.2) → lookS s l = some r → Q s r
  | [], _, h => by cases h
  | p :: l, ha, h => by
    simp only [lookS] at h
    split at h
    · rename_i e
      cases h
      rw [eqBytes_ok e]; exact ha p (by simp)
    · exact lookS_ok (fun q hq => ha q (by simp [hq])) h
theorem lookI_ok {Q : Nat → CV → Prop} {n : Nat} {r : CV} : ∀ {l : List (Nat × CV)}, (∀ p ∈ l, Q p.1 p.2) → lookI n l = some r → Q n r
  | [], _, h => by cases h
  | p :: l, ha, h => by
    simp only [lookI] at h
    split at h
    · rename_i e
      cases h
      rw [Nat.eq_of_beq_eq_true e]; exact ha p (by simp)
    · exact lookI_ok (fun q hq => ha q (by simp [hq])) h

def ks102 : List (List UInt8 × CV) := [([62, 58], .tup [.lit (.int .i64 13), .lit (.bool true)]),
  ([43], .tup [.lit (.int .i64 1), .lit (.bool true)]),
  ([45], .tup [.lit (.int .i64 2), .lit (.bool true)]),
  ([124, 46], .tup [.lit (.int .i64 32), .lit (.bool true)])]
def ks67 : List (List UInt8 × CV) := [([62, 58], .tup [.lit (.int .i64 13), .lit (.bool true)]),
  ([43], .tup [.lit (.int .i64 1), .lit (.bool true)]),
  ([45], .tup [.lit (.int .i64 2), .lit (.bool true)]),
  ([124, 46], .tup [.lit (.int .i64 32), .lit (.bool true)])]
def ki168 : List (Nat × CV) := [(13, .tup [.agg [.lit (.string ⟨#[62, 58]⟩), .lit (.bool true), .lit (.bool true), .lit (.int .i64 0), .lit (.int .i64 0), .lit (.int .i64 0), .lit (.int .i64 1), .lit (.bool true), .lit (.bool false), .lit (.int .i64 13), .lit (.func (.func 299) #[] #[]), .lit (.func (.func 300) #[] #[])], .lit (.bool true)]),
  (1, .tup [.agg [.lit (.string ⟨#[43]⟩), .lit (.bool true), .lit (.bool true), .lit (.int .i64 0), .lit (.int .i64 0), .lit (.int .i64 0), .lit (.int .i64 0), .lit (.bool true), .lit (.bool true), .lit (.int .i64 1), .lit (.func (.func 299) #[] #[]), .lit (.func (.func 300) #[] #[])], .lit (.bool true)]),
  (2, .tup [.agg [.lit (.string ⟨#[45]⟩), .lit (.bool true), .lit (.bool true), .lit (.int .i64 0), .lit (.int .i64 0), .lit (.int .i64 0), .lit (.int .i64 0), .lit (.bool true), .lit (.bool false), .lit (.int .i64 2), .lit (.func (.func 299) #[] #[]), .lit (.func (.func 300) #[] #[])], .lit (.bool true)]),
  (32, .tup [.agg [.lit (.string ⟨#[124, 46]⟩), .lit (.bool true), .lit (.bool true), .lit (.int .i64 64), .lit (.int .i64 1), .lit (.int .i64 64), .lit (.int .i64 0), .lit (.bool false), .lit (.bool false), .lit (.int .i64 32), .lit (.func (.func 306) #[] #[]), .lit (.func (.func 307) #[] #[])], .lit (.bool true)])]
def ki68 : List (Nat × CV) := [(13, .tup [.agg [.lit (.string ⟨#[62, 58]⟩), .lit (.bool true), .lit (.bool true), .lit (.int .i64 0), .lit (.int .i64 0), .lit (.int .i64 0), .lit (.int .i64 1), .lit (.bool true), .lit (.bool false)], .lit (.int .i64 0)]),
  (1, .tup [.agg [.lit (.string ⟨#[43]⟩), .lit (.bool true), .lit (.bool true), .lit (.int .i64 0), .lit (.int .i64 0), .lit (.int .i64 0), .lit (.int .i64 0), .lit (.bool true), .lit (.bool true)], .lit (.int .i64 0)]),
  (2, .tup [.agg [.lit (.string ⟨#[45]⟩), .lit (.bool true), .lit (.bool true), .lit (.int .i64 0), .lit (.int .i64 0), .lit (.int .i64 0), .lit (.int .i64 0), .lit (.bool true), .lit (.bool false)], .lit (.int .i64 0)])]
def knV (f : Nat) (args : List CV) : Option CV :=
  match Nat.beq f 102 || Nat.beq f 67 with
  | true => match args with
    | [.lit (.string s)] => lookS s.data.toList (bif Nat.beq f 102 then ks102 else ks67)
    | _ => none
  | false => match Nat.beq f 168 || Nat.beq f 68 with
    | true => match args with
      | [.lit (.int .i64 (.ofNat n))] => lookI n (bif Nat.beq f 168 then ki168 else ki68)
      | _ => none
    | false => none
def kn1 (f : Nat) (args : List CV) (nx : Nat) (h : Heap) : Option (Out × Nat × Heap × List Nat × List (Bool × Bool)) :=
  match knV f args with
  | some r => some (.ret r, nx, h, [], [])
  | none => none
theorem bytes_eq {s : ByteArray} {l : List UInt8} (h : s.data.toList = l) : s = ⟨l.toArray⟩ := by
  obtain ⟨⟨d⟩⟩ := s
  simp only at h
  subst h; rfl

theorem ks102_ok : ∀ p ∈ ks102, ∀ (nx : Nat) (h : Heap), Cv.Good Tryz.prog 102 [.lit (.string ⟨p.1.toArray⟩)] nx h (.ret p.2) nx h := by
  intro p hp
  simp only [ks102, List.mem_cons, List.not_mem_nil, or_false] at hp
  rcases hp with rfl | rfl | rfl | rfl
  · exact runPure_ok (envT0_ok []) ran0
  · exact runPure_ok (envT0_ok []) ran1
  · exact runPure_ok (envT0_ok []) ran2
  · exact runPure_ok (envT0_ok []) ran3
theorem ks67_ok : ∀ p ∈ ks67, ∀ (nx : Nat) (h : Heap), Cv.Good Tryz.prog 67 [.lit (.string ⟨p.1.toArray⟩)] nx h (.ret p.2) nx h := by
  intro p hp
  simp only [ks67, List.mem_cons, List.not_mem_nil, or_false] at hp
  rcases hp with rfl | rfl | rfl | rfl
  · exact runPure_ok (envT0_ok []) ran8
  · exact runPure_ok (envT0_ok []) ran9
  · exact runPure_ok (envT0_ok []) ran10
  · exact runPure_ok (envT0_ok []) ran11
theorem ki168_ok : ∀ p ∈ ki168, ∀ (nx : Nat) (h : Heap), Cv.Good Tryz.prog 168 [.lit (.int .i64 (.ofNat p.1))] nx h (.ret p.2) nx h := by
  intro p hp
  simp only [ki168, List.mem_cons, List.not_mem_nil, or_false] at hp
  rcases hp with rfl | rfl | rfl | rfl
  · exact runPure_ok (envT0_ok []) ran4
  · exact runPure_ok (envT0_ok []) ran5
  · exact runPure_ok (envT0_ok []) ran6
  · exact runPure_ok (envT0_ok []) ran7
theorem ki68_ok : ∀ p ∈ ki68, ∀ (nx : Nat) (h : Heap), Cv.Good Tryz.prog 68 [.lit (.int .i64 (.ofNat p.1))] nx h (.ret p.2) nx h := by
  intro p hp
  simp only [ki68, List.mem_cons, List.not_mem_nil, or_false] at hp
  rcases hp with rfl | rfl | rfl
  · exact runPure_ok (envT0_ok []) ran12
  · exact runPure_ok (envT0_ok []) ran13
  · exact runPure_ok (envT0_ok []) ran14
theorem knV_ok {f : Nat} {args : List CV} {r : CV} (h : knV f args = some r) (nx : Nat) (hp : Heap) : Cv.Good Tryz.prog f args nx hp (.ret r) nx hp := by
  unfold knV at h
  split at h
  · rename_i e
    split at h
    · rename_i s
      rw [bytes_eq (s := s) rfl]
      simp only [Bool.or_eq_true] at e
      cases e1 : Nat.beq f 102 with
      | true =>
        have := Nat.eq_of_beq_eq_true e1
        subst this
        rw [e1] at h
        exact lookS_ok (Q := fun s r => ∀ (nx : Nat) (h : Heap), Cv.Good Tryz.prog 102 [.lit (.string ⟨s.toArray⟩)] nx h (.ret r) nx h) ks102_ok h nx hp
      | false =>
        rw [e1] at h
        have := Nat.eq_of_beq_eq_true (e.resolve_left (by rw [e1]; simp))
        subst this
        exact lookS_ok (Q := fun s r => ∀ (nx : Nat) (h : Heap), Cv.Good Tryz.prog 67 [.lit (.string ⟨s.toArray⟩)] nx h (.ret r) nx h) ks67_ok h nx hp
    · cases h
  · split at h
    · rename_i e
      split at h
      · rename_i n
        simp only [Bool.or_eq_true] at e
        cases e1 : Nat.beq f 168 with
        | true =>
          have := Nat.eq_of_beq_eq_true e1
          subst this
          rw [e1] at h
          exact lookI_ok (Q := fun n r => ∀ (nx : Nat) (h : Heap), Cv.Good Tryz.prog 168 [.lit (.int .i64 (.ofNat n))] nx h (.ret r) nx h) ki168_ok h nx hp
        | false =>
          rw [e1] at h
          have := Nat.eq_of_beq_eq_true (e.resolve_left (by rw [e1]; simp))
          subst this
          exact lookI_ok (Q := fun n r => ∀ (nx : Nat) (h : Heap), Cv.Good Tryz.prog 68 [.lit (.int .i64 (.ofNat n))] nx h (.ret r) nx h) ki68_ok h nx hp
      · cases h
    · cases h
theorem envS1_ok (sy : List Nat) (st : Option Nat) : EnvOk Tryz.prog (envS sy st kn1) := by
  refine ⟨mixedT, fun _ _ h => fnT_ok h, fun f args nx h o nx' h' wr L he _ => ?_, alT_ok⟩
  have he : kn1 f args nx h = some (o, nx', h', wr, L) := he
  unfold kn1 at he
  split at he
  · rename_i r e
    cases he
    exact ⟨knV_ok e _ _, fun _ _ _ => rfl⟩
  · cases he
end Go.Wg
namespace Go.Wg
open Go Go.Cv Go.Proofs

def int (n : Int) : CV := .lit (.int .i64 n)
def u64 (n : Int) : CV := .lit (.int .u64 n)
def nilS : CV := .lit (.slice none 0 0)
def nilI : CV := .lit .nilIface
def evalB (sp : CV) (F R st ce : Int) (path : CV) : Blk := ⟨0, [sp, int F, int R, int st, int ce, path, .lit .nilFunc, .lit (.chan none)], none⟩
def locB : Blk := ⟨0, [.lit (.map none), nilS, nilS], none⟩
def arrB (v : Int) : Blk := ⟨0, [int v], none⟩
def spcB : Blk := ⟨0, [.mp 4 0, .mp 5 0, .mp 6 0, int 0], none⟩
def mapB : Blk := ⟨0, [], some []⟩
def arr (b : Nat) : CV := .agg [nilS, .sl b 0 0 1 1]
def incC : List CV := [int 20, .lit (.string ⟨#[62, 58]⟩), int 0, nilS, nilS, nilS]
def incT : CV := .agg incC
def plusC : List CV := [int 20, .lit (.string ⟨#[43]⟩), int 0, nilS, nilS, nilS]
def swC : List CV := [int 27, .lit (.string ⟨#[]⟩), int 0, nilS, nilS, .sl 7 0 0 1 6]
def swT : CV := .agg swC
def w (n : Int) : Int := IntKind.i64.wrap n
def uw (n : Int) : Int := IntKind.u64.wrap n
def spent (n : Int) : CV := .lit (.iface 107 (.agg #[.int .i64 n]))

theorem w_id {x : Int} (h0 : -9223372036854775808 ≤ x) (h1 : x ≤ 9223372036854775807) : w x = x := by
  unfold w IntKind.wrap
  simp only [IntKind.bits, IntKind.signed]
  first
    | (simp; omega)
    | (split <;> omega)
    | omega
theorem uw_id {x : Int} (h0 : 0 ≤ x) (h1 : x ≤ 18446744073709551615) : uw x = x := by
  unfold uw IntKind.wrap
  simp only [IntKind.bits, IntKind.signed]
  first
    | (simp; omega)
    | (split <;> omega)
    | omega
end Go.Wg
namespace Go.Wg
open Go Go.Cv Go.Proofs

def evR (F R st ce : Int) : Blk := ⟨0, [.ptr 4 0 0, int F, int R, int st, int ce, int 0, nilS, .lit (.bool false), nilS, int 0], none⟩
def powT : CV := .agg [int 41, .lit (.string ⟨#[]⟩), int 0, nilS, nilS, .sl 2 0 0 2 6]
def numC : List CV := [int 1, .lit (.string ⟨#[]⟩), int 0, nilS, .sl 3 0 0 1 1, nilS]
def swR : List CV := [int 27, .lit (.string ⟨#[]⟩), int 0, nilS, nilS, .sl 5 0 0 1 6]
def arrBg (g : Nat) (v : Int) : Blk := ⟨g, [int v], none⟩
def arrG (b g : Nat) : CV := .agg [nilS, .sl b g 0 1 1]
end Go.Wg
namespace Go.Wg
open Go Go.Cv Go.Proofs

/-- How a loop ends: with a value (one number, or two), or at a limit. -/
inductive LRes where
  | ok (v x st ce : Int)
  | stop (code st ce : Int)
  deriving DecidableEq
def LRes.st : LRes → Int
  | .ok _ _ st _ => st
  | .stop _ st _ => st
def LRes.ce : LRes → Int
  | .ok _ _ _ ce => ce
  | .stop _ _ ce => ce

/-- One more, again and again. -/
def sI (F R : Int) : Nat → Int → Int → Int → LRes
  | 0, v, st, ce => .ok v 0 st ce
  | n + 1, v, st, ce => if st = F then .stop 20 st ce else if R < ce + 1 then .stop 21 (st + 1) (ce + 1) else sI F R n (v + 1) (st + 1) (ce + 1)
/-- A sum of nothing with itself, again and again. -/
def sS (F R : Int) : Nat → Int → Int → LRes
  | 0, st, ce => .ok 0 0 st ce
  | n + 1, st, ce => if st = F then .stop 20 st ce else if st + 1 = F then .stop 20 (st + 1) ce else if R < ce + 1 then .stop 21 (st + 2) (ce + 1) else sS F R n (st + 2) (ce + 1)
/-- Two numbers turned round, again and again. -/
def sV (F R : Int) : Nat → Int → Int → Int → Int → LRes
  | 0, x, y, st, ce => .ok x y st ce
  | n + 1, x, y, st, ce => if st = F then .stop 20 st ce else if R < ce + 2 then .stop 21 (st + 1) (ce + 2) else sV F R n y x (st + 1) (ce + 2)

def oW1 : LRes → Out
  | .ok v _ _ _ => .ret (.tup [.agg [nilS, .isl [int v] 1 1], nilI])
  | .stop code _ _ => .pan (spent code)
def oW2 : LRes → Out
  | .ok x y _ _ => .ret (.tup [.agg [.isl [int 2] 1 1, .isl [int x, int y] 2 1], nilI])
  | .stop code _ _ => .pan (spent code)
def oR1 : LRes → Out
  | .ok v _ _ _ => .ret (.tup [.agg [nilS, .isl [int v] 1 1], int 0])
  | .stop code _ _ => .ret (.tup [.agg [nilS, nilS], int code])
def oR2 : LRes → Out
  | .ok x y _ _ => .ret (.tup [.agg [.isl [int 2] 1 1, .isl [int x, int y] 2 1], int 0])
  | .stop code _ _ => .ret (.tup [.agg [nilS, nilS], int code])
end Go.Wg
namespace Go.Wg
open Go Go.Cv Go.Proofs

/-- Behind the value's look: so many turns. -/
def sW (F R : Int) : Nat → Int → Int → LRes
  | 0, st, ce => .ok 0 0 st ce
  | n + 1, st, ce => if st = F then .stop 20 st ce else if st + 1 = F then .stop 20 (st + 1) ce else if st + 2 = F then .stop 20 (st + 2) ce else if st + 3 = F then .stop 20 (st + 3) ce
    else if st + 4 = F then .stop 20 (st + 4) ce else if st + 5 = F then .stop 20 (st + 5) ce else if R < ce + 1 then .stop 21 (st + 6) (ce + 1) else if st + 6 = F then .stop 20 (st + 6) (ce + 1)
    else if st + 7 = F then .stop 20 (st + 7) (ce + 1) else sW F R n (st + 8) (ce + 1)
/-- Ahead of the value's look. -/
def tW (F R : Int) (n : Nat) (st ce : Int) : LRes := if st = F then .stop 20 st ce else sW F R n (st + 1) ce
theorem tW_succ (F R : Int) (n : Nat) (st ce : Int) : tW F R (n + 1) st ce = if st = F then .stop 20 st ce else if st + 1 = F then .stop 20 (st + 1) ce else if st + 2 = F then .stop 20 (st + 2) ce
    else if st + 3 = F then .stop 20 (st + 3) ce else if st + 4 = F then .stop 20 (st + 4) ce else if st + 5 = F then .stop 20 (st + 5) ce else if st + 6 = F then .stop 20 (st + 6) ce
    else if R < ce + 1 then .stop 21 (st + 7) (ce + 1) else if st + 7 = F then .stop 20 (st + 7) (ce + 1) else tW F R n (st + 8) (ce + 1) := by
  unfold tW
  rw [sW]
  simp only [Int.add_assoc]
  rfl

def oW0 : LRes → Out
  | .ok _ _ _ _ => .ret nilI
  | .stop code _ _ => .pan (spent code)
def oR0 : LRes → Out
  | .ok _ _ _ _ => .ret (int 0)
  | .stop code _ _ => .ret (int code)
end Go.Wg
namespace Go.Wg
open Go Go.Cv Go.Proofs

/-- The contracts that a run of the law leans on: of function 5 (the job), of the walk's loop, of the document's. -/
structure Cfg where
  la : List CV
  lo : Out
  ln : Nat
  lh : Heap
  tw : Option Tm
  tr : Option Tm
  ms : List Tm
def tmO (t : Option Tm) (f : Nat) (args : List CV) (nx : Nat) (h : Heap) : Option (Out × Nat × Heap × List Nat × List (Bool × Bool)) :=
  match t with
  | some t => tmSel t f args nx h
  | none => none

def kn3 (ts : List Tm) (f : Nat) (args : List CV) (nx : Nat) (h : Heap) : Option (Out × Nat × Heap × List Nat × List (Bool × Bool)) :=
  match ts with
  | [] => kn1 f args nx h
  | t :: ts => match tmSel t f args nx h with
    | some r => some r
    | none => kn3 ts f args nx h
def kn2 (c : Cfg) (f : Nat) (args : List CV) (nx : Nat) (h : Heap) : Option (Out × Nat × Heap × List Nat × List (Bool × Bool)) :=
  match Nat.beq f 4 with
  | true => match args with
    | [] => some (.ret (.lit (.bool true)), nx, h, [], [])
    | _ => none
  | false => match Nat.beq f 5 with
    | true => newSel c.la c.lo c.ln c.lh args nx h
    | false => match tmO c.tw f args nx h with
      | some r => some r
      | none => match tmO c.tr f args nx h with
        | some r => some r
        | none => kn3 c.ms f args nx h

def soL (f d : Nat) : Bool :=
  match Nat.beq f 45 with
  | true => memB d [6, 9, 13, 17]
  | false => match Nat.beq f 15 with
    | true => memB d [35, 40, 45, 50]
    | false => match Nat.beq f 10 with
      | true => memB d [33, 40]
      | false => false
noncomputable def envL (sy : List Nat) (kn : Nat → List CV → Nat → Heap → Option (Out × Nat × Heap × List Nat × List (Bool × Bool))) : Env :=
  ⟨fnT, fun f => memB (bas f) sy, fun f d => soL (bas f) d, fun f => hintT (bas f), fun f => xhT (bas f), purT, dfrT, fun f => match Nat.ble 100000 f with
  | true => match Nat.ble 200000 f with
    | true => some 0
    | false => none
  | false => none, kn, rgT, alT⟩

structure CfgOk (c : Cfg) : Prop where
  awk : ∀ (nx : Nat) (h : Heap), Cv.Good Tryz.prog 4 [] nx h (.ret (.lit (.bool true))) nx h
  long : Cv.Good Tryz.prog 5 c.la 0 [] c.lo c.ln c.lh
  tw : ∀ t, c.tw = some t → TmOk Tryz.prog t
  tr : ∀ t, c.tr = some t → TmOk Tryz.prog t
  ms : ∀ t ∈ c.ms, TmOk Tryz.prog t

theorem kn1_good {f : Nat} {args : List CV} {nx : Nat} {h : Heap} {o : Out} {nx' : Nat} {h' : Heap} {wr : List Nat} {L : List (Bool × Bool)} (he : kn1 f args nx h = some (o, nx', h', wr, L)) :
    Cv.Good Tryz.prog f args nx h o nx' h' ∧ ∀ b, b < nx → b ∉ wr → hget h' b = hget h b := by
  unfold kn1 at he
  split at he
  · rename_i r e
    cases he
    exact ⟨knV_ok e _ _, fun _ _ _ => rfl⟩
  · cases he

theorem kn3_good : ∀ {ts : List Tm}, (∀ t ∈ ts, TmOk Tryz.prog t) → ∀ {f : Nat} {args : List CV} {nx : Nat} {h : Heap} {o : Out} {nx' : Nat} {h' : Heap} {wr : List Nat} {L : List (Bool × Bool)}, kn3 ts f args nx h = some (o, nx', h', wr, L) → (∀ p ∈ L, p.1 = p.2) →
    Cv.Good Tryz.prog f args nx h o nx' h' ∧ ∀ b, b < nx → b ∉ wr → hget h' b = hget h b
  | [], _, _, _, _, _, _, _, _, _, _, he, _ => kn1_good he
  | t :: ts, ht, _, _, _, _, _, _, _, _, _, he, hL => by
    simp only [kn3] at he
    split at he
    · rename_i r er
      cases he
      exact tmSel_ok er hL (ht t (List.mem_cons_self ..))
    · exact kn3_good (fun t h => ht t (List.mem_cons_of_mem _ h)) he hL
theorem tmO_good {t : Option Tm} (ht : ∀ t0, t = some t0 → TmOk Tryz.prog t0) {f : Nat} {args : List CV} {nx : Nat} {h : Heap} {o : Out} {nx' : Nat} {h' : Heap} {wr : List Nat} {L : List (Bool × Bool)} (he : tmO t f args nx h = some (o, nx', h', wr, L)) (hL : ∀ p ∈ L, p.1 = p.2) :
    Cv.Good Tryz.prog f args nx h o nx' h' ∧ ∀ b, b < nx → b ∉ wr → hget h' b = hget h b := by
  cases t with
  | none => cases he
  | some t => exact tmSel_ok he hL (ht t rfl)
theorem kn2_good {c : Cfg} (hc : CfgOk c) {f : Nat} {args : List CV} {nx : Nat} {h : Heap} {o : Out} {nx' : Nat} {h' : Heap} {wr : List Nat} {L : List (Bool × Bool)} (he : kn2 c f args nx h = some (o, nx', h', wr, L)) (hL : ∀ p ∈ L, p.1 = p.2) :
    Cv.Good Tryz.prog f args nx h o nx' h' ∧ ∀ b, b < nx → b ∉ wr → hget h' b = hget h b := by
  unfold kn2 at he
  split at he
  · rename_i e
    have := Nat.eq_of_beq_eq_true e
    subst this
    split at he
    · cases he; exact ⟨hc.awk _ _, fun _ _ _ => rfl⟩
    · cases he
  · split at he
    · rename_i e
      have := Nat.eq_of_beq_eq_true e
      subst this
      exact newSel_ok he hL hc.long
    · split at he
      · rename_i r er
        cases he
        exact tmO_good hc.tw er hL
      · split at he
        · rename_i r er
          cases he
          exact tmO_good hc.tr er hL
        · exact kn3_good hc.ms he hL
theorem envL_ok {c : Cfg} (hc : CfgOk c) (sy : List Nat) : EnvOk Tryz.prog (envL sy (kn2 c)) :=
  ⟨mixedT, fun _ _ h => fnT_ok h, fun _ _ _ _ _ _ _ _ _ he hL => kn2_good hc he hL, alT_ok⟩
end Go.Wg
namespace Go.Wg
open Go Go.Cv Go.Proofs

def nk (k : Int) : Int := if k < 0 then w (0 - w (k + 1)) else k
def nn (n : Int) : Int := (if n < 0 then w (0 - w (n + 1)) else n).tmod 40000
def job0 : CV := .agg [int 23, .lit (.string ⟨#[]⟩), int 1, nilS, nilS, .isl [int 14, .lit (.string ⟨#[]⟩), int 0, nilS, nilS, .isl [int 13, .lit (.string ⟨#[]⟩), int 0, nilS, nilS, .isl [int 2, .lit (.string ⟨#[121]⟩), int 0, nilS, nilS, nilS, int 14, .lit (.string ⟨#[]⟩), int 0, nilS, nilS, .isl [int 11, .lit (.string ⟨#[121]⟩), int 0, nilS, nilS, .isl [int 4, .lit (.string ⟨#[]⟩), int 0, nilS, nilS, .isl [int 20, .lit (.string ⟨#[45]⟩), int 0, nilS, nilS, nilS, int 2, .lit (.string ⟨#[121]⟩), int 0, nilS, nilS, nilS, int 1, .lit (.string ⟨#[]⟩), int 0, nilS, .isl [int 1] 1 1, nilS] 3 6] 1 6] 1 6] 2 6, int 10, .lit (.string ⟨#[]⟩), int 0, nilS, nilS, .isl [int 2, .lit (.string ⟨#[121]⟩), int 0, nilS, nilS, nilS] 1 6] 2 6] 1 6, .lit (.bool false), nilS, nilS, nilS, .sl 0 0 0 1 1, int 0, int 0]
def jh0 (N : Int) : Heap := [(0, ⟨0, [int N], none⟩)]
theorem lo000 (k n : Int) : canSel Tryz.prog (envS [5] none kn1) 3000 5 [int k, int n] [false, false, true] [22] [10, 11, 12, 13, 14, 15, 16, 17, 18, 19, 20, 21, 22, 23, 24, 25, 26, 27, 28, 29, 30, 31, 0, 33, 34, 35] 80 =
    some (.ret job0, jh0 ((n).tmod 40000), [(decide ((k).tmod 4 = 0), true), (decide (n < 0), false), (decide (k < 0), false)]) := by kernel_rfl
theorem lo001 (k n : Int) : canSel Tryz.prog (envS [5] none kn1) 3000 5 [int k, int n] [false, true, true] [26] [10, 11, 12, 13, 14, 15, 16, 17, 18, 19, 20, 21, 22, 23, 24, 25, 26, 27, 28, 29, 30, 31, 32, 33, 34, 35, 0, 37, 38, 39] 80 =
    some (.ret job0, jh0 ((w (0 - w (n + 1))).tmod 40000), [(decide ((k).tmod 4 = 0), true), (decide (n < 0), true), (decide (k < 0), false)]) := by kernel_rfl
theorem lo010 (k n : Int) : canSel Tryz.prog (envS [5] none kn1) 3000 5 [int k, int n] [true, false, true] [26] [10, 11, 12, 13, 14, 15, 16, 17, 18, 19, 20, 21, 22, 23, 24, 25, 26, 27, 28, 29, 30, 31, 32, 33, 34, 35, 0, 37, 38, 39] 80 =
    some (.ret job0, jh0 ((n).tmod 40000), [(decide ((w (0 - w (k + 1))).tmod 4 = 0), true), (decide (n < 0), false), (decide (k < 0), true)]) := by kernel_rfl
theorem lo011 (k n : Int) : canSel Tryz.prog (envS [5] none kn1) 3000 5 [int k, int n] [true, true, true] [30] [10, 11, 12, 13, 14, 15, 16, 17, 18, 19, 20, 21, 22, 23, 24, 25, 26, 27, 28, 29, 30, 31, 32, 33, 34, 35, 36, 37, 38, 39, 0, 41, 42, 43] 80 =
    some (.ret job0, jh0 ((w (0 - w (n + 1))).tmod 40000), [(decide ((w (0 - w (k + 1))).tmod 4 = 0), true), (decide (n < 0), true), (decide (k < 0), true)]) := by kernel_rfl
theorem long0 (k n : Int) (hk : (nk k).tmod 4 = 0) : Cv.Good Tryz.prog 5 [int k, int n] 0 [] (.ret job0) 80 (jh0 (nn n)) := by
  unfold nk at hk
  unfold nn
  by_cases e1 : k < 0
  · simp only [if_pos e1] at hk
    by_cases e2 : n < 0
    · simp only [if_pos e2]; (generalize hz : (w (0 - w (k + 1))).tmod 4 = z at hk; have h := lo011 k n; rw [hz] at h; exact canSel_ok (envS1_ok _ _) h (by simp [hk, e1, e2] <;> omega))
    · simp only [if_neg e2]; (generalize hz : (w (0 - w (k + 1))).tmod 4 = z at hk; have h := lo010 k n; rw [hz] at h; exact canSel_ok (envS1_ok _ _) h (by simp [hk, e1, e2] <;> omega))
  · simp only [if_neg e1] at hk
    by_cases e2 : n < 0
    · simp only [if_pos e2]; (generalize hz : (k).tmod 4 = z at hk; have h := lo001 k n; rw [hz] at h; exact canSel_ok (envS1_ok _ _) h (by simp [hk, e1, e2] <;> omega))
    · simp only [if_neg e2]; (generalize hz : (k).tmod 4 = z at hk; have h := lo000 k n; rw [hz] at h; exact canSel_ok (envS1_ok _ _) h (by simp [hk, e1, e2] <;> omega))
def job1 : CV := .agg [int 41, .lit (.string ⟨#[]⟩), int 0, nilS, nilS, .sl 0 0 0 2 6, .lit (.bool false), nilS, nilS, nilS, .sl 1 0 0 1 1, int 0, int 0]
def jh1 (N : Int) : Heap := [(0, ⟨0, [int 20, .lit (.string ⟨#[62, 58]⟩), int 0, nilS, nilS, nilS, int 1, .lit (.string ⟨#[]⟩), int 0, nilS, .sl 2 0 0 1 1, nilS], none⟩), (1, ⟨0, [int 0], none⟩), (2, ⟨0, [int N], none⟩)]
theorem lo100 (k n : Int) : canSel Tryz.prog (envS [5] none kn1) 3000 5 [int k, int n] [false, false, false, false, false] [27, 8, 33] [10, 11, 12, 13, 14, 15, 16, 17, 1, 19, 20, 21, 22, 23, 24, 25, 26, 27, 28, 29, 30, 31, 32, 33, 34, 35, 36, 0, 38, 39, 40, 41, 42, 2, 44, 45, 46, 47, 48] 80 =
    some (.ret job1, jh1 ((n).tmod 40000), [(decide ((k).tmod 4 = 3), false), (decide ((k).tmod 4 = 2), false), (decide ((k).tmod 4 = 0), false), (decide (n < 0), false), (decide (k < 0), false)]) := by kernel_rfl
theorem lo101 (k n : Int) : canSel Tryz.prog (envS [5] none kn1) 3000 5 [int k, int n] [false, true, false, false, false] [31, 12, 37] [10, 11, 12, 13, 14, 15, 16, 17, 18, 19, 20, 21, 1, 23, 24, 25, 26, 27, 28, 29, 30, 31, 32, 33, 34, 35, 36, 37, 38, 39, 40, 0, 42, 43, 44, 45, 46, 2, 48, 49, 50, 51, 52] 80 =
    some (.ret job1, jh1 ((w (0 - w (n + 1))).tmod 40000), [(decide ((k).tmod 4 = 3), false), (decide ((k).tmod 4 = 2), false), (decide ((k).tmod 4 = 0), false), (decide (n < 0), true), (decide (k < 0), false)]) := by kernel_rfl
theorem lo110 (k n : Int) : canSel Tryz.prog (envS [5] none kn1) 3000 5 [int k, int n] [true, false, false, false, false] [31, 12, 37] [10, 11, 12, 13, 14, 15, 16, 17, 18, 19, 20, 21, 1, 23, 24, 25, 26, 27, 28, 29, 30, 31, 32, 33, 34, 35, 36, 37, 38, 39, 40, 0, 42, 43, 44, 45, 46, 2, 48, 49, 50, 51, 52] 80 =
    some (.ret job1, jh1 ((n).tmod 40000), [(decide ((w (0 - w (k + 1))).tmod 4 = 3), false), (decide ((w (0 - w (k + 1))).tmod 4 = 2), false), (decide ((w (0 - w (k + 1))).tmod 4 = 0), false), (decide (n < 0), false), (decide (k < 0), true)]) := by kernel_rfl
theorem lo111 (k n : Int) : canSel Tryz.prog (envS [5] none kn1) 3000 5 [int k, int n] [true, true, false, false, false] [35, 16, 41] [10, 11, 12, 13, 14, 15, 16, 17, 18, 19, 20, 21, 22, 23, 24, 25, 1, 27, 28, 29, 30, 31, 32, 33, 34, 35, 36, 37, 38, 39, 40, 41, 42, 43, 44, 0, 46, 47, 48, 49, 50, 2, 52, 53, 54, 55, 56] 80 =
    some (.ret job1, jh1 ((w (0 - w (n + 1))).tmod 40000), [(decide ((w (0 - w (k + 1))).tmod 4 = 3), false), (decide ((w (0 - w (k + 1))).tmod 4 = 2), false), (decide ((w (0 - w (k + 1))).tmod 4 = 0), false), (decide (n < 0), true), (decide (k < 0), true)]) := by kernel_rfl
theorem long1 (k n : Int) (hk : (nk k).tmod 4 ≠ 0 ∧ (nk k).tmod 4 ≠ 2 ∧ (nk k).tmod 4 ≠ 3) : Cv.Good Tryz.prog 5 [int k, int n] 0 [] (.ret job1) 80 (jh1 (nn n)) := by
  unfold nk at hk
  unfold nn
  by_cases e1 : k < 0
  · simp only [if_pos e1] at hk
    by_cases e2 : n < 0
    · simp only [if_pos e2]; (generalize hz : (w (0 - w (k + 1))).tmod 4 = z at hk; have h := lo111 k n; rw [hz] at h; exact canSel_ok (envS1_ok _ _) h (by simp [hk, e1, e2] <;> omega))
    · simp only [if_neg e2]; (generalize hz : (w (0 - w (k + 1))).tmod 4 = z at hk; have h := lo110 k n; rw [hz] at h; exact canSel_ok (envS1_ok _ _) h (by simp [hk, e1, e2] <;> omega))
  · simp only [if_neg e1] at hk
    by_cases e2 : n < 0
    · simp only [if_pos e2]; (generalize hz : (k).tmod 4 = z at hk; have h := lo101 k n; rw [hz] at h; exact canSel_ok (envS1_ok _ _) h (by simp [hk, e1, e2] <;> omega))
    · simp only [if_neg e2]; (generalize hz : (k).tmod 4 = z at hk; have h := lo100 k n; rw [hz] at h; exact canSel_ok (envS1_ok _ _) h (by simp [hk, e1, e2] <;> omega))
def job2 : CV := .agg [int 41, .lit (.string ⟨#[]⟩), int 0, nilS, nilS, .sl 0 0 0 2 6, .lit (.bool false), nilS, nilS, nilS, .sl 1 0 0 1 1, int 0, int 0]
def jh2 (N : Int) : Heap := [(0, ⟨0, [int 27, .lit (.string ⟨#[]⟩), int 0, nilS, nilS, .sl 2 0 0 1 6, int 1, .lit (.string ⟨#[]⟩), int 0, nilS, .sl 3 0 0 1 1, nilS], none⟩), (1, ⟨0, [int 0], none⟩), (2, ⟨0, [int 20, .lit (.string ⟨#[43]⟩), int 0, nilS, nilS, nilS], none⟩), (3, ⟨0, [int N], none⟩)]
theorem lo200 (k n : Int) : canSel Tryz.prog (envS [5] none kn1) 3000 5 [int k, int n] [false, false, false, true] [29, 8, 23, 35] [10, 11, 12, 13, 14, 15, 16, 17, 1, 19, 20, 21, 22, 23, 24, 25, 26, 27, 28, 29, 30, 31, 32, 2, 34, 35, 36, 37, 38, 0, 40, 41, 42, 43, 44, 3, 46, 47, 48, 49, 50] 80 =
    some (.ret job2, jh2 ((n).tmod 40000), [(decide ((k).tmod 4 = 2), true), (decide ((k).tmod 4 = 0), false), (decide (n < 0), false), (decide (k < 0), false)]) := by kernel_rfl
theorem lo201 (k n : Int) : canSel Tryz.prog (envS [5] none kn1) 3000 5 [int k, int n] [false, true, false, true] [33, 12, 27, 39] [10, 11, 12, 13, 14, 15, 16, 17, 18, 19, 20, 21, 1, 23, 24, 25, 26, 27, 28, 29, 30, 31, 32, 33, 34, 35, 36, 2, 38, 39, 40, 41, 42, 0, 44, 45, 46, 47, 48, 3, 50, 51, 52, 53, 54] 80 =
    some (.ret job2, jh2 ((w (0 - w (n + 1))).tmod 40000), [(decide ((k).tmod 4 = 2), true), (decide ((k).tmod 4 = 0), false), (decide (n < 0), true), (decide (k < 0), false)]) := by kernel_rfl
theorem lo210 (k n : Int) : canSel Tryz.prog (envS [5] none kn1) 3000 5 [int k, int n] [true, false, false, true] [33, 12, 27, 39] [10, 11, 12, 13, 14, 15, 16, 17, 18, 19, 20, 21, 1, 23, 24, 25, 26, 27, 28, 29, 30, 31, 32, 33, 34, 35, 36, 2, 38, 39, 40, 41, 42, 0, 44, 45, 46, 47, 48, 3, 50, 51, 52, 53, 54] 80 =
    some (.ret job2, jh2 ((n).tmod 40000), [(decide ((w (0 - w (k + 1))).tmod 4 = 2), true), (decide ((w (0 - w (k + 1))).tmod 4 = 0), false), (decide (n < 0), false), (decide (k < 0), true)]) := by kernel_rfl
theorem lo211 (k n : Int) : canSel Tryz.prog (envS [5] none kn1) 3000 5 [int k, int n] [true, true, false, true] [37, 16, 31, 43] [10, 11, 12, 13, 14, 15, 16, 17, 18, 19, 20, 21, 22, 23, 24, 25, 1, 27, 28, 29, 30, 31, 32, 33, 34, 35, 36, 37, 38, 39, 40, 2, 42, 43, 44, 45, 46, 0, 48, 49, 50, 51, 52, 3, 54, 55, 56, 57, 58] 80 =
    some (.ret job2, jh2 ((w (0 - w (n + 1))).tmod 40000), [(decide ((w (0 - w (k + 1))).tmod 4 = 2), true), (decide ((w (0 - w (k + 1))).tmod 4 = 0), false), (decide (n < 0), true), (decide (k < 0), true)]) := by kernel_rfl
theorem long2 (k n : Int) (hk : (nk k).tmod 4 = 2) : Cv.Good Tryz.prog 5 [int k, int n] 0 [] (.ret job2) 80 (jh2 (nn n)) := by
  unfold nk at hk
  unfold nn
  by_cases e1 : k < 0
  · simp only [if_pos e1] at hk
    by_cases e2 : n < 0
    · simp only [if_pos e2]; (generalize hz : (w (0 - w (k + 1))).tmod 4 = z at hk; have h := lo211 k n; rw [hz] at h; exact canSel_ok (envS1_ok _ _) h (by simp [hk, e1, e2] <;> omega))
    · simp only [if_neg e2]; (generalize hz : (w (0 - w (k + 1))).tmod 4 = z at hk; have h := lo210 k n; rw [hz] at h; exact canSel_ok (envS1_ok _ _) h (by simp [hk, e1, e2] <;> omega))
  · simp only [if_neg e1] at hk
    by_cases e2 : n < 0
    · simp only [if_pos e2]; (generalize hz : (k).tmod 4 = z at hk; have h := lo201 k n; rw [hz] at h; exact canSel_ok (envS1_ok _ _) h (by simp [hk, e1, e2] <;> omega))
    · simp only [if_neg e2]; (generalize hz : (k).tmod 4 = z at hk; have h := lo200 k n; rw [hz] at h; exact canSel_ok (envS1_ok _ _) h (by simp [hk, e1, e2] <;> omega))
def job3 : CV := .agg [int 41, .lit (.string ⟨#[]⟩), int 0, nilS, nilS, .sl 0 0 0 2 6, .lit (.bool false), nilS, nilS, .sl 1 0 0 1 1, .sl 2 0 0 2 1, int 0, int 0]
def jh3 (N : Int) : Heap := [(0, ⟨0, [int 20, .lit (.string ⟨#[124, 46]⟩), int 0, nilS, nilS, nilS, int 1, .lit (.string ⟨#[]⟩), int 0, nilS, .sl 3 0 0 1 1, nilS], none⟩), (1, ⟨0, [int 2], none⟩), (2, ⟨0, [int 1, int 2], none⟩), (3, ⟨0, [int N], none⟩)]
theorem lo300 (k n : Int) : canSel Tryz.prog (envS [5] none kn1) 3000 5 [int k, int n] [false, false, false, false, true] [34, 26, 27, 40] [10, 11, 12, 13, 14, 15, 16, 17, 18, 19, 20, 21, 22, 23, 24, 25, 26, 27, 28, 29, 30, 31, 32, 33, 34, 35, 1, 2, 38, 39, 40, 41, 42, 43, 0, 45, 46, 47, 48, 49, 3, 51, 52, 53, 54, 55] 80 =
    some (.ret job3, jh3 ((n).tmod 40000), [(decide ((k).tmod 4 = 3), true), (decide ((k).tmod 4 = 2), false), (decide ((k).tmod 4 = 0), false), (decide (n < 0), false), (decide (k < 0), false)]) := by kernel_rfl
theorem lo301 (k n : Int) : canSel Tryz.prog (envS [5] none kn1) 3000 5 [int k, int n] [false, true, false, false, true] [38, 30, 31, 44] [10, 11, 12, 13, 14, 15, 16, 17, 18, 19, 20, 21, 22, 23, 24, 25, 26, 27, 28, 29, 30, 31, 32, 33, 34, 35, 36, 37, 38, 39, 1, 2, 42, 43, 44, 45, 46, 47, 0, 49, 50, 51, 52, 53, 3, 55, 56, 57, 58, 59] 80 =
    some (.ret job3, jh3 ((w (0 - w (n + 1))).tmod 40000), [(decide ((k).tmod 4 = 3), true), (decide ((k).tmod 4 = 2), false), (decide ((k).tmod 4 = 0), false), (decide (n < 0), true), (decide (k < 0), false)]) := by kernel_rfl
theorem lo310 (k n : Int) : canSel Tryz.prog (envS [5] none kn1) 3000 5 [int k, int n] [true, false, false, false, true] [38, 30, 31, 44] [10, 11, 12, 13, 14, 15, 16, 17, 18, 19, 20, 21, 22, 23, 24, 25, 26, 27, 28, 29, 30, 31, 32, 33, 34, 35, 36, 37, 38, 39, 1, 2, 42, 43, 44, 45, 46, 47, 0, 49, 50, 51, 52, 53, 3, 55, 56, 57, 58, 59] 80 =
    some (.ret job3, jh3 ((n).tmod 40000), [(decide ((w (0 - w (k + 1))).tmod 4 = 3), true), (decide ((w (0 - w (k + 1))).tmod 4 = 2), false), (decide ((w (0 - w (k + 1))).tmod 4 = 0), false), (decide (n < 0), false), (decide (k < 0), true)]) := by kernel_rfl
theorem lo311 (k n : Int) : canSel Tryz.prog (envS [5] none kn1) 3000 5 [int k, int n] [true, true, false, false, true] [42, 34, 35, 48] [10, 11, 12, 13, 14, 15, 16, 17, 18, 19, 20, 21, 22, 23, 24, 25, 26, 27, 28, 29, 30, 31, 32, 33, 34, 35, 36, 37, 38, 39, 40, 41, 42, 43, 1, 2, 46, 47, 48, 49, 50, 51, 0, 53, 54, 55, 56, 57, 3, 59, 60, 61, 62, 63] 80 =
    some (.ret job3, jh3 ((w (0 - w (n + 1))).tmod 40000), [(decide ((w (0 - w (k + 1))).tmod 4 = 3), true), (decide ((w (0 - w (k + 1))).tmod 4 = 2), false), (decide ((w (0 - w (k + 1))).tmod 4 = 0), false), (decide (n < 0), true), (decide (k < 0), true)]) := by kernel_rfl
theorem long3 (k n : Int) (hk : (nk k).tmod 4 = 3) : Cv.Good Tryz.prog 5 [int k, int n] 0 [] (.ret job3) 80 (jh3 (nn n)) := by
  unfold nk at hk
  unfold nn
  by_cases e1 : k < 0
  · simp only [if_pos e1] at hk
    by_cases e2 : n < 0
    · simp only [if_pos e2]; (generalize hz : (w (0 - w (k + 1))).tmod 4 = z at hk; have h := lo311 k n; rw [hz] at h; exact canSel_ok (envS1_ok _ _) h (by simp [hk, e1, e2] <;> omega))
    · simp only [if_neg e2]; (generalize hz : (w (0 - w (k + 1))).tmod 4 = z at hk; have h := lo310 k n; rw [hz] at h; exact canSel_ok (envS1_ok _ _) h (by simp [hk, e1, e2] <;> omega))
  · simp only [if_neg e1] at hk
    by_cases e2 : n < 0
    · simp only [if_pos e2]; (generalize hz : (k).tmod 4 = z at hk; have h := lo301 k n; rw [hz] at h; exact canSel_ok (envS1_ok _ _) h (by simp [hk, e1, e2] <;> omega))
    · simp only [if_neg e2]; (generalize hz : (k).tmod 4 = z at hk; have h := lo300 k n; rw [hz] at h; exact canSel_ok (envS1_ok _ _) h (by simp [hk, e1, e2] <;> omega))
end Go.Wg
namespace Go.Wg
open Go Go.Cv Go.Proofs

noncomputable def lawSel (E : Env) (args : List CV) (orc : List Bool) : Option (List (Bool × Bool)) :=
  match callSel Tryz.prog E 100000 3 args 0 [] orc [] with
  | some (.ret (.lit (.bool true)), _, _, L) => some L
  | _ => none
theorem lawSel_ok {E : Env} (hE : EnvOk Tryz.prog E) {args : List CV} {orc : List Bool} {L : List (Bool × Bool)} (he : lawSel E args orc = some L) (hL : ∀ p ∈ L, p.1 = p.2) :
    ∃ nx, Cv.Good Tryz.prog 3 args 0 [] (.ret (.lit (.bool true))) nx [] := by
  unfold lawSel at he
  split at he
  · rename_i nx h L2 hc
    cases he
    exact ⟨nx, (callSel_ok hE hc hL).drop (fun n k hk => by cases hk) (Nat.le_refl _)⟩
  · cases he
end Go.Wg
