/-
  The functions that the law reaches, and the orders of their regions that draw.
-/
import Derived.Test.YtdincjlkfbeedaaGreatDoorK4
import Derived.Test.YtdincjlkfbeedaaGreatDoorProg
set_option linter.all false
namespace Go.Wg
open Go Go.Cv Go.Proofs

def cFst : Code → Code | .seq a _ => a | c => c
def cSnd : Code → Code | .seq _ b => b | c => c
def cIn : Code → Code | .block _ c => c | .loop c => c | c => c
def cOps : Code → Array Oper | .region _ o _ => o | _ => #[]
def oAt (a : Array Oper) (i : Nat) : Oper := a.toList.getD i default

noncomputable def aB : Code := Tryz.f359.body.getD .skip
noncomputable def aC : Code := cIn (cIn (cSnd aB))
noncomputable def aI : Code := cIn (cFst (cSnd (cSnd aC)))
noncomputable def a0 : Array Oper := cOps (cFst aB)
noncomputable def a1 : Array Oper := cOps (cFst aC)
noncomputable def a2 : Array Oper := cOps (cFst aI)
noncomputable def a3 : Array Oper := cOps (cFst (cSnd aI))
noncomputable def a4 : Array Oper := cOps (cSnd (cSnd (cSnd aC)))
theorem eB : aB = .seq (.region 0 a0 false) (.block 0 (.loop aC)) := by kernel_rfl
theorem eC : aC = .seq (.region 1 a1 false) (.seq (.cond (.tmp 7) .skip (.exit 0)) (.seq (.block 1 aI) (.region 4 a4 false))) := by kernel_rfl
theorem eI : aI = .seq (.region 2 a2 false) (.seq (.region 3 a3 false) (.cond (.tmp 15) .ret .skip)) := by kernel_rfl
noncomputable def aKH : List Item := [.code aC, .inLoop aC, .inBlock 0]
noncomputable def aK3 : List Item := [.code (.cond (.tmp 15) .ret .skip), .inBlock 1, .code (.region 4 a4 false), .inLoop aC, .inBlock 0]
def aH (l : Nat) (n i : Int) (ao : CV) : Fr := [(0, yv l), (2, ao), (5, cint n), (6, cint i)]
def aF1 (l : Nat) (n i : Int) (ao : CV) : Fr := [(0, yv l), (2, ao), (4, cint i), (5, cint n), (6, cint i), (7, .lit (.bool true)), (8, cint i)]
def aF2 (l : Nat) (n i : Int) (ao own ix : CV) : Fr := [(0, yv l), (2, ao), (4, cint i), (5, cint n), (6, cint i), (7, .lit (.bool true)), (8, cint i), (9, yv l), (10, cint i), (11, own), (12, cint i), (13, ix)]
def aF3 (l : Nat) (n i : Int) (ao own ix : CV) : Fr := [(0, yv l), (2, ao), (4, cint i), (5, cint n), (6, cint i), (7, .lit (.bool true)), (8, cint i), (9, yv l), (10, cint i), (11, own), (12, cint i), (13, ix), (14, .lit (.bool true)), (15, .lit (.bool false))]

theorem fget_mem : ∀ (fr : Fr) (t : Nat), fget fr t = .undef ∨ (t, fget fr t) ∈ fr
  | [], _ => .inl rfl
  | (m, v) :: fr, t => by
    rw [fget_cons]
    split
    · rename_i e; subst e; exact .inr (by simp)
    · rcases fget_mem fr t with h | h
      · exact .inl h
      · exact .inr (by simp [h])
theorem less_fr {fr fr' : Fr} (h : ∀ p ∈ fr', fget fr p.1 = p.2) (t : Nat) : fget fr' t = fget fr t ∨ fget fr' t = .undef := by
  rcases fget_mem fr' t with h1 | h1
  · exact .inr h1
  · exact .inl (h _ h1).symm

theorem opNext_load {P : Program} {N : Nat} {all : Array Oper} {base i : Nat} {o : Oper} {fr : Fr} {nx : Nat} {h : Heap} {t : TypeId} {x : Operand} {d : Tmp} {cv : CV} (ho : o.op = .load t x) (hg : o.guard = none) (hd : o.dst = some d) (hN : d < N) (hl : loadEval P h t (ev fr x) = some cv) :
    opNext P N all base i o ⟨fr, nx, h⟩ = some ⟨fset fr d cv, nx, h⟩ := by
  unfold opNext gval opEval
  rw [hg, ho]
  simp only [hl, Option.map_some, putc, hd, if_pos hN]

theorem seg0 (l : Nat) (n : Int) (an ao : CV) (nx : Nat) (h : Heap) (hl : loadEval Tryz.prog h 3 an = some (cint n)) :
    Wp Tryz.prog 17 (fun F => F = .at aKH ⟨aH l n 0 ao, nx + 2, h⟩) (.run [.code aB] ⟨entryFr [yv l, an, ao], nx, h⟩) := by
  have h1 : opNext Tryz.prog 17 a0 nx 0 (oAt a0 0) ⟨[(0, yv l), (1, an), (2, ao)], nx + 2, h⟩ = some ⟨[(0, yv l), (1, an), (2, ao), (5, cint n)], nx + 2, h⟩ :=
    opNext_load (t := 3) (x := .tmp 1) (d := 5) (by kernel_rfl) (by kernel_rfl) (by kernel_rfl) (by decide) hl
  have h2 : opNext Tryz.prog 17 a0 nx 1 (oAt a0 1) ⟨[(0, yv l), (1, an), (2, ao), (5, cint n)], nx + 2, h⟩ = some ⟨[(0, yv l), (1, an), (2, ao), (5, cint n), (6, cint 0)], nx + 2, h⟩ := by kernel_rfl
  have e1 : numb 0 a0.toList = [(0, oAt a0 0), (1, oAt a0 1)] := by kernel_rfl
  have e2 : a0.size = 2 := by kernel_rfl
  rw [eB]
  refine .seq (.region (by kernel_rfl) ?_)
  rw [e1, e2]
  refine .op h1 (fun _ => trivial) (.op h2 (fun _ => trivial) (.opsNil (.block (.loop (st' := ⟨aH l n 0 ao, nx + 2, h⟩) ⟨Nat.le_refl _, less_fr ?_, fun _ _ h => h⟩ (.stop rfl)))))
  intro p hp
  simp only [aH, List.mem_cons, List.not_mem_nil, or_false] at hp
  rcases hp with rfl | rfl | rfl | rfl <;> rfl

theorem seg1 (l : Nat) (n i : Int) (ao : CV) (nx : Nat) (h : Heap) (hi : i < n) :
    Wp Tryz.prog 17 (fun F => F = .at (.code (.region 3 a3 false) :: aK3) ⟨aF1 l n i ao, nx + 3, h⟩) (.run aKH ⟨aH l n i ao, nx, h⟩) := by
  have h1 : opNext Tryz.prog 17 a1 nx 0 (oAt a1 0) ⟨aH l n i ao, nx + 1, h⟩ = some ⟨[(0, yv l), (2, ao), (5, cint n), (6, cint i), (7, .lit (.bool (decide (i < n))))], nx + 1, h⟩ := by kernel_rfl
  rw [decide_eq_true hi] at h1
  have h2 : opNext Tryz.prog 17 a2 (nx + 1) 0 (oAt a2 0) ⟨[(0, yv l), (2, ao), (5, cint n), (6, cint i), (7, .lit (.bool true))], nx + 3, h⟩ = some ⟨[(0, yv l), (2, ao), (5, cint n), (6, cint i), (7, .lit (.bool true)), (8, cint i)], nx + 3, h⟩ := by kernel_rfl
  have h3 : opNext Tryz.prog 17 a2 (nx + 1) 1 (oAt a2 1) ⟨[(0, yv l), (2, ao), (5, cint n), (6, cint i), (7, .lit (.bool true)), (8, cint i)], nx + 3, h⟩ = some ⟨aF1 l n i ao, nx + 3, h⟩ := by kernel_rfl
  have e1 : numb 0 a1.toList = [(0, oAt a1 0)] := by kernel_rfl
  have e2 : a1.size = 1 := by kernel_rfl
  have e3 : numb 0 a2.toList = [(0, oAt a2 0), (1, oAt a2 1)] := by kernel_rfl
  have e4 : a2.size = 2 := by kernel_rfl
  unfold aKH aK3
  generalize hc : aC = c at *
  rw [show Item.code c = .code aC from by rw [hc], eC]
  refine .seq (.region (by kernel_rfl) ?_)
  rw [e1, e2]
  refine .op h1 (fun _ => trivial) (.opsNil (.seq (.cond (b := true) rfl (.skip (.seq (.block ?_))))))
  rw [eI]
  refine .seq (.region (by kernel_rfl) ?_)
  rw [e3, e4]
  exact .op h2 (fun _ => trivial) (.op h3 (fun _ => trivial) (.opsNil (.seq (.stop rfl))))

theorem segE (l : Nat) (n i : Int) (ao : CV) (nx : Nat) (h : Heap) (hi : ¬ i < n) :
    ∃ fr, Wp Tryz.prog 17 (fun F => F = .nor ⟨fr, nx + 1, h⟩) (.run aKH ⟨aH l n i ao, nx, h⟩) := by
  have h1 : opNext Tryz.prog 17 a1 nx 0 (oAt a1 0) ⟨aH l n i ao, nx + 1, h⟩ = some ⟨[(0, yv l), (2, ao), (5, cint n), (6, cint i), (7, .lit (.bool (decide (i < n))))], nx + 1, h⟩ := by kernel_rfl
  rw [decide_eq_false hi] at h1
  have e1 : numb 0 a1.toList = [(0, oAt a1 0)] := by kernel_rfl
  have e2 : a1.size = 1 := by kernel_rfl
  refine ⟨[(0, yv l), (2, ao), (5, cint n), (6, cint i), (7, .lit (.bool false))], ?_⟩
  unfold aKH
  generalize hc : aC = c at *
  rw [show Item.code c = .code aC from by rw [hc], eC]
  refine .seq (.region (by kernel_rfl) ?_)
  rw [e1, e2]
  exact .op h1 (fun _ => trivial) (.opsNil (.seq (.cond (b := false) rfl (.exit (K' := []) rfl (.nil rfl)))))

theorem segP (l : Nat) (n i : Int) (ao own ix : CV) (nx nx1 : Nat) (h h1 : Heap) (hl : loadEval Tryz.prog h 23 ao = some own) (hG : Cv.Good Tryz.prog 360 [own, cint i] (nx + a3.size) h (.ret ix) nx1 h1) :
    Tr Tryz.prog 17 none a3 nx [0, 1, 2, 3, 4] ⟨aF1 l n i ao, nx + a3.size, h⟩ (.nor ⟨aF2 l n i ao own ix, nx1, h1⟩) := by
  have e : a3.size = 7 := by kernel_rfl
  rw [e] at hG ⊢
  have g0 : opNext Tryz.prog 17 a3 nx 0 (oAt a3 0) ⟨aF1 l n i ao, nx + 7, h⟩ = some ⟨aF1 l n i ao ++ [(9, yv l)], nx + 7, h⟩ := by kernel_rfl
  have g1 : opNext Tryz.prog 17 a3 nx 1 (oAt a3 1) ⟨aF1 l n i ao ++ [(9, yv l)], nx + 7, h⟩ = some ⟨aF1 l n i ao ++ [(9, yv l), (10, cint i)], nx + 7, h⟩ := by kernel_rfl
  have g2 : opNext Tryz.prog 17 a3 nx 2 (oAt a3 2) ⟨aF1 l n i ao ++ [(9, yv l), (10, cint i)], nx + 7, h⟩ = some ⟨aF1 l n i ao ++ [(9, yv l), (10, cint i), (11, own)], nx + 7, h⟩ :=
    opNext_load (t := 23) (x := .tmp 2) (d := 11) (by kernel_rfl) (by kernel_rfl) (by kernel_rfl) (by decide) hl
  have g3 : opNext Tryz.prog 17 a3 nx 3 (oAt a3 3) ⟨aF1 l n i ao ++ [(9, yv l), (10, cint i), (11, own)], nx + 7, h⟩ = some ⟨aF1 l n i ao ++ [(9, yv l), (10, cint i), (11, own), (12, cint i)], nx + 7, h⟩ := by kernel_rfl
  have hc : CallAt (aF1 l n i ao ++ [(9, yv l), (10, cint i), (11, own), (12, cint i)]) a3 (oAt a3 4) 360 [own, cint i] :=
    ⟨by kernel_rfl, .func 360, #[.tmp 11, .tmp 12], #[23, 3], [], [], by kernel_rfl, by kernel_rfl, by kernel_rfl⟩
  refine .op (by kernel_rfl) g0 (fun _ => trivial) (.op (by kernel_rfl) g1 (fun _ => trivial) (.op (by kernel_rfl) g2 (fun _ => trivial) (.op (by kernel_rfl) g3 (fun _ => trivial) (.call (by kernel_rfl) hc hG (fr' := aF2 l n i ao own ix) (by kernel_rfl) trivial .nil))))

theorem segS (l : Nat) (n i : Int) (ao own ix : CV) (nx : Nat) (h : Heap) :
    Tr Tryz.prog 17 none a3 nx [6] ⟨fset (aF2 l n i ao own ix) 14 (.lit (.bool true)), nx + a3.size, h⟩ (.nor ⟨aF3 l n i ao own ix, nx + a3.size, h⟩) :=
  .op (o := oAt a3 6) (by kernel_rfl) (st1 := ⟨aF3 l n i ao own ix, nx + a3.size, h⟩) (by kernel_rfl) (fun _ => trivial) .nil

theorem wrap64 {x : Int} (h0 : -9223372036854775808 ≤ x) (h1 : x ≤ 9223372036854775807) : IntKind.i64.wrap x = x := by
  unfold IntKind.wrap
  simp only [IntKind.bits, IntKind.signed]
  first
    | (simp; omega)
    | (split <;> omega)
    | omega

theorem seg2 (l : Nat) (n i : Int) (ao own ix : CV) (nx : Nat) (h : Heap) (h0 : 0 ≤ i) (hi : i < 9223372036854775807) :
    Wp Tryz.prog 17 (fun F => F = .at aKH ⟨aH l n (i + 1) ao, nx + 2, h⟩) (.run aK3 ⟨aF3 l n i ao own ix, nx, h⟩) := by
  have h1 : opNext Tryz.prog 17 a4 nx 0 (oAt a4 0) ⟨aF3 l n i ao own ix, nx + 2, h⟩ = some ⟨aF3 l n i ao own ix ++ [(16, cint (IntKind.i64.wrap (i + 1)))], nx + 2, h⟩ := by kernel_rfl
  rw [wrap64 (by omega) (by omega)] at h1
  have h2 : opNext Tryz.prog 17 a4 nx 1 (oAt a4 1) ⟨aF3 l n i ao own ix ++ [(16, cint (i + 1))], nx + 2, h⟩ = some ⟨fset (aF3 l n i ao own ix ++ [(16, cint (i + 1))]) 6 (cint (i + 1)), nx + 2, h⟩ := by kernel_rfl
  have e1 : numb 0 a4.toList = [(0, oAt a4 0), (1, oAt a4 1)] := by kernel_rfl
  have e2 : a4.size = 2 := by kernel_rfl
  unfold aK3
  refine .cond (b := false) rfl (.skip (.inBlock (.region (by kernel_rfl) ?_)))
  rw [e1, e2]
  refine .op h1 (fun _ => trivial) (.op h2 (fun _ => trivial) (.opsNil (.inLoop (st' := ⟨aH l n (i + 1) ao, nx + 2, h⟩) ⟨Nat.le_refl _, less_fr ?_, fun _ _ h => h⟩ (.stop rfl))))
  intro p hp
  simp only [aH, List.mem_cons, List.not_mem_nil, or_false] at hp
  rcases hp with rfl | rfl | rfl | rfl <;> rfl

noncomputable def allT : AllC Tryz.prog 359 360 3 23 where
  fn := Tryz.f359
  body := aB
  KH := aKH
  K3 := aK3
  id := 3
  ops := a3
  pre := [0, 1, 2, 3, 4]
  suf := [6]
  iy := 5
  o := oAt a3 5
  x := .tmp 9
  y0 := .tmp 10
  y1 := .tmp 13
  ats := #[3, 23]
  d := 14
  frH := aH
  fr1 := aF1
  fr2 := aF2
  fr3 := aF3
  a0 := 2
  a1 := 3
  a2 := 2
  aE := 1
  hf := Tryz.func359
  hb := by kernel_rfl
  hres := by kernel_rfl
  hcf := Tryz.call359
  hN := Nat.le_of_ble_eq_true (by kernel_rfl)
  hnd := by kernel_rfl
  hsplit := by kernel_rfl
  ho := by kernel_rfl
  hg := by kernel_rfl
  hop := by kernel_rfl
  hd := by kernel_rfl
  hdN := Nat.le_of_ble_eq_true (by kernel_rfl)
  h0 := by decide
  h1 := Nat.le_of_ble_eq_true (by kernel_rfl)
  h2 := Nat.le_of_ble_eq_true (by kernel_rfl)
  hE := by decide
  seg0 := seg0
  segE := segE
  seg1 := seg1
  segP := segP
  ex := fun _ _ _ _ _ _ => by kernel_rfl
  ey0 := fun _ _ _ _ _ _ => by kernel_rfl
  ey1 := fun _ _ _ _ _ _ => by kernel_rfl
  segS := segS
  seg2 := seg2
end Go.Wg
namespace Go.Wg
open Go Go.Cv Go.Proofs

theorem mixedT : Tryz.prog.follows .mixedOrders = true := by kernel_rfl

def TabOk (P : Program) : List (Nat × Func) → Prop
  | [] => True
  | p :: l => (P.funcs[p.1]? = some p.2 ∧ ∀ (vs : Array Value) (w : World), (callFunc p.1 vs).run P w = .ok (.enter p.1 vs) w) ∧ TabOk P l
def look {α : Type} (f : Nat) : List (Nat × α) → Option α
  | [] => none
  | p :: l => match Nat.beq f p.1 with
    | true => some p.2
    | false => look f l
theorem look_ok {P : Program} {f : Nat} {fn : Func} : ∀ {l : List (Nat × Func)}, TabOk P l → look f l = some fn → P.funcs[f]? = some fn ∧ ∀ (vs : Array Value) (w : World), (callFunc f vs).run P w = .ok (.enter f vs) w
  | [], _, h => by cases h
  | p :: l, ht, h => by
    simp only [look] at h
    split at h
    · rename_i e
      have := Nat.eq_of_beq_eq_true e
      subst this
      cases h
      exact ht.1
    · exact look_ok ht.2 h
noncomputable def tab0 : List (Nat × Func) := [(3, Tryz.f3), (4, Tryz.f4), (5, Tryz.f5), (6, Tryz.f6), (7, Tryz.f7), (8, Tryz.f8), (9, Tryz.f9), (10, Tryz.f10), (11, Tryz.f11), (12, Tryz.f12), (13, Tryz.f13), (14, Tryz.f14), (15, Tryz.f15), (16, Tryz.f16), (17, Tryz.f17), (18, Tryz.f18), (19, Tryz.f19), (20, Tryz.f20), (21, Tryz.f21), (22, Tryz.f22), (23, Tryz.f23), (24, Tryz.f24), (25, Tryz.f25), (26, Tryz.f26), (27, Tryz.f27), (28, Tryz.f28), (29, Tryz.f29), (30, Tryz.f30), (31, Tryz.f31), (32, Tryz.f32)]
theorem tab0_ok : TabOk Tryz.prog tab0 := ⟨⟨Tryz.func3, Tryz.call3⟩, ⟨ ⟨Tryz.func4, Tryz.call4⟩, ⟨ ⟨Tryz.func5, Tryz.call5⟩, ⟨ ⟨Tryz.func6, Tryz.call6⟩, ⟨ ⟨Tryz.func7, Tryz.call7⟩, ⟨ ⟨Tryz.func8, Tryz.call8⟩, ⟨ ⟨Tryz.func9, Tryz.call9⟩, ⟨ ⟨Tryz.func10, Tryz.call10⟩, ⟨ ⟨Tryz.func11, Tryz.call11⟩, ⟨ ⟨Tryz.func12, Tryz.call12⟩, ⟨ ⟨Tryz.func13, Tryz.call13⟩, ⟨ ⟨Tryz.func14, Tryz.call14⟩, ⟨ ⟨Tryz.func15, Tryz.call15⟩, ⟨ ⟨Tryz.func16, Tryz.call16⟩, ⟨ ⟨Tryz.func17, Tryz.call17⟩, ⟨ ⟨Tryz.func18, Tryz.call18⟩, ⟨ ⟨Tryz.func19, Tryz.call19⟩, ⟨ ⟨Tryz.func20, Tryz.call20⟩, ⟨ ⟨Tryz.func21, Tryz.call21⟩, ⟨ ⟨Tryz.func22, Tryz.call22⟩, ⟨ ⟨Tryz.func23, Tryz.call23⟩, ⟨ ⟨Tryz.func24, Tryz.call24⟩, ⟨ ⟨Tryz.func25, Tryz.call25⟩, ⟨ ⟨Tryz.func26, Tryz.call26⟩, ⟨ ⟨Tryz.func27, Tryz.call27⟩, ⟨ ⟨Tryz.func28, Tryz.call28⟩, ⟨ ⟨Tryz.func29, Tryz.call29⟩, ⟨ ⟨Tryz.func30, Tryz.call30⟩, ⟨ ⟨Tryz.func31, Tryz.call31⟩, ⟨ ⟨Tryz.func32, Tryz.call32⟩, trivial⟩⟩⟩⟩⟩⟩⟩⟩⟩⟩⟩⟩⟩⟩⟩⟩⟩⟩⟩⟩⟩⟩⟩⟩⟩⟩⟩⟩⟩⟩
noncomputable def tab1 : List (Nat × Func) := [(38, Tryz.f38), (42, Tryz.f42), (43, Tryz.f43), (44, Tryz.f44), (45, Tryz.f45), (46, Tryz.f46), (47, Tryz.f47), (50, Tryz.f50), (51, Tryz.f51), (52, Tryz.f52), (53, Tryz.f53), (54, Tryz.f54), (55, Tryz.f55), (57, Tryz.f57), (59, Tryz.f59), (61, Tryz.f61), (62, Tryz.f62), (63, Tryz.f63), (64, Tryz.f64), (65, Tryz.f65), (66, Tryz.f66), (67, Tryz.f67), (68, Tryz.f68), (69, Tryz.f69), (70, Tryz.f70), (71, Tryz.f71), (72, Tryz.f72), (74, Tryz.f74), (75, Tryz.f75), (76, Tryz.f76)]
theorem tab1_ok : TabOk Tryz.prog tab1 := ⟨⟨Tryz.func38, Tryz.call38⟩, ⟨ ⟨Tryz.func42, Tryz.call42⟩, ⟨ ⟨Tryz.func43, Tryz.call43⟩, ⟨ ⟨Tryz.func44, Tryz.call44⟩, ⟨ ⟨Tryz.func45, Tryz.call45⟩, ⟨ ⟨Tryz.func46, Tryz.call46⟩, ⟨ ⟨Tryz.func47, Tryz.call47⟩, ⟨ ⟨Tryz.func50, Tryz.call50⟩, ⟨ ⟨Tryz.func51, Tryz.call51⟩, ⟨ ⟨Tryz.func52, Tryz.call52⟩, ⟨ ⟨Tryz.func53, Tryz.call53⟩, ⟨ ⟨Tryz.func54, Tryz.call54⟩, ⟨ ⟨Tryz.func55, Tryz.call55⟩, ⟨ ⟨Tryz.func57, Tryz.call57⟩, ⟨ ⟨Tryz.func59, Tryz.call59⟩, ⟨ ⟨Tryz.func61, Tryz.call61⟩, ⟨ ⟨Tryz.func62, Tryz.call62⟩, ⟨ ⟨Tryz.func63, Tryz.call63⟩, ⟨ ⟨Tryz.func64, Tryz.call64⟩, ⟨ ⟨Tryz.func65, Tryz.call65⟩, ⟨ ⟨Tryz.func66, Tryz.call66⟩, ⟨ ⟨Tryz.func67, Tryz.call67⟩, ⟨ ⟨Tryz.func68, Tryz.call68⟩, ⟨ ⟨Tryz.func69, Tryz.call69⟩, ⟨ ⟨Tryz.func70, Tryz.call70⟩, ⟨ ⟨Tryz.func71, Tryz.call71⟩, ⟨ ⟨Tryz.func72, Tryz.call72⟩, ⟨ ⟨Tryz.func74, Tryz.call74⟩, ⟨ ⟨Tryz.func75, Tryz.call75⟩, ⟨ ⟨Tryz.func76, Tryz.call76⟩, trivial⟩⟩⟩⟩⟩⟩⟩⟩⟩⟩⟩⟩⟩⟩⟩⟩⟩⟩⟩⟩⟩⟩⟩⟩⟩⟩⟩⟩⟩⟩
noncomputable def tab2 : List (Nat × Func) := [(85, Tryz.f85), (88, Tryz.f88), (92, Tryz.f92), (93, Tryz.f93), (94, Tryz.f94), (95, Tryz.f95), (96, Tryz.f96), (100, Tryz.f100), (101, Tryz.f101), (102, Tryz.f102), (103, Tryz.f103), (104, Tryz.f104), (106, Tryz.f106), (108, Tryz.f108), (113, Tryz.f113), (117, Tryz.f117), (127, Tryz.f127), (128, Tryz.f128), (129, Tryz.f129), (130, Tryz.f130), (131, Tryz.f131), (132, Tryz.f132), (133, Tryz.f133), (134, Tryz.f134), (135, Tryz.f135), (136, Tryz.f136), (137, Tryz.f137), (138, Tryz.f138), (140, Tryz.f140), (144, Tryz.f144)]
theorem tab2_ok : TabOk Tryz.prog tab2 := ⟨⟨Tryz.func85, Tryz.call85⟩, ⟨ ⟨Tryz.func88, Tryz.call88⟩, ⟨ ⟨Tryz.func92, Tryz.call92⟩, ⟨ ⟨Tryz.func93, Tryz.call93⟩, ⟨ ⟨Tryz.func94, Tryz.call94⟩, ⟨ ⟨Tryz.func95, Tryz.call95⟩, ⟨ ⟨Tryz.func96, Tryz.call96⟩, ⟨ ⟨Tryz.func100, Tryz.call100⟩, ⟨ ⟨Tryz.func101, Tryz.call101⟩, ⟨ ⟨Tryz.func102, Tryz.call102⟩, ⟨ ⟨Tryz.func103, Tryz.call103⟩, ⟨ ⟨Tryz.func104, Tryz.call104⟩, ⟨ ⟨Tryz.func106, Tryz.call106⟩, ⟨ ⟨Tryz.func108, Tryz.call108⟩, ⟨ ⟨Tryz.func113, Tryz.call113⟩, ⟨ ⟨Tryz.func117, Tryz.call117⟩, ⟨ ⟨Tryz.func127, Tryz.call127⟩, ⟨ ⟨Tryz.func128, Tryz.call128⟩, ⟨ ⟨Tryz.func129, Tryz.call129⟩, ⟨ ⟨Tryz.func130, Tryz.call130⟩, ⟨ ⟨Tryz.func131, Tryz.call131⟩, ⟨ ⟨Tryz.func132, Tryz.call132⟩, ⟨ ⟨Tryz.func133, Tryz.call133⟩, ⟨ ⟨Tryz.func134, Tryz.call134⟩, ⟨ ⟨Tryz.func135, Tryz.call135⟩, ⟨ ⟨Tryz.func136, Tryz.call136⟩, ⟨ ⟨Tryz.func137, Tryz.call137⟩, ⟨ ⟨Tryz.func138, Tryz.call138⟩, ⟨ ⟨Tryz.func140, Tryz.call140⟩, ⟨ ⟨Tryz.func144, Tryz.call144⟩, trivial⟩⟩⟩⟩⟩⟩⟩⟩⟩⟩⟩⟩⟩⟩⟩⟩⟩⟩⟩⟩⟩⟩⟩⟩⟩⟩⟩⟩⟩⟩
noncomputable def tab3 : List (Nat × Func) := [(145, Tryz.f145), (147, Tryz.f147), (148, Tryz.f148), (150, Tryz.f150), (151, Tryz.f151), (154, Tryz.f154), (155, Tryz.f155), (158, Tryz.f158), (159, Tryz.f159), (160, Tryz.f160), (161, Tryz.f161), (162, Tryz.f162), (167, Tryz.f167), (168, Tryz.f168), (169, Tryz.f169), (170, Tryz.f170), (171, Tryz.f171), (172, Tryz.f172), (173, Tryz.f173), (176, Tryz.f176), (184, Tryz.f184), (187, Tryz.f187), (201, Tryz.f201), (202, Tryz.f202), (203, Tryz.f203), (204, Tryz.f204), (207, Tryz.f207), (211, Tryz.f211), (212, Tryz.f212), (219, Tryz.f219)]
theorem tab3_ok : TabOk Tryz.prog tab3 := ⟨⟨Tryz.func145, Tryz.call145⟩, ⟨ ⟨Tryz.func147, Tryz.call147⟩, ⟨ ⟨Tryz.func148, Tryz.call148⟩, ⟨ ⟨Tryz.func150, Tryz.call150⟩, ⟨ ⟨Tryz.func151, Tryz.call151⟩, ⟨ ⟨Tryz.func154, Tryz.call154⟩, ⟨ ⟨Tryz.func155, Tryz.call155⟩, ⟨ ⟨Tryz.func158, Tryz.call158⟩, ⟨ ⟨Tryz.func159, Tryz.call159⟩, ⟨ ⟨Tryz.func160, Tryz.call160⟩, ⟨ ⟨Tryz.func161, Tryz.call161⟩, ⟨ ⟨Tryz.func162, Tryz.call162⟩, ⟨ ⟨Tryz.func167, Tryz.call167⟩, ⟨ ⟨Tryz.func168, Tryz.call168⟩, ⟨ ⟨Tryz.func169, Tryz.call169⟩, ⟨ ⟨Tryz.func170, Tryz.call170⟩, ⟨ ⟨Tryz.func171, Tryz.call171⟩, ⟨ ⟨Tryz.func172, Tryz.call172⟩, ⟨ ⟨Tryz.func173, Tryz.call173⟩, ⟨ ⟨Tryz.func176, Tryz.call176⟩, ⟨ ⟨Tryz.func184, Tryz.call184⟩, ⟨ ⟨Tryz.func187, Tryz.call187⟩, ⟨ ⟨Tryz.func201, Tryz.call201⟩, ⟨ ⟨Tryz.func202, Tryz.call202⟩, ⟨ ⟨Tryz.func203, Tryz.call203⟩, ⟨ ⟨Tryz.func204, Tryz.call204⟩, ⟨ ⟨Tryz.func207, Tryz.call207⟩, ⟨ ⟨Tryz.func211, Tryz.call211⟩, ⟨ ⟨Tryz.func212, Tryz.call212⟩, ⟨ ⟨Tryz.func219, Tryz.call219⟩, trivial⟩⟩⟩⟩⟩⟩⟩⟩⟩⟩⟩⟩⟩⟩⟩⟩⟩⟩⟩⟩⟩⟩⟩⟩⟩⟩⟩⟩⟩⟩
noncomputable def tab4 : List (Nat × Func) := [(220, Tryz.f220), (222, Tryz.f222), (223, Tryz.f223), (224, Tryz.f224), (226, Tryz.f226), (227, Tryz.f227), (228, Tryz.f228), (229, Tryz.f229), (233, Tryz.f233), (234, Tryz.f234), (235, Tryz.f235), (236, Tryz.f236), (237, Tryz.f237), (238, Tryz.f238), (240, Tryz.f240), (250, Tryz.f250), (251, Tryz.f251), (253, Tryz.f253), (254, Tryz.f254), (278, Tryz.f278), (279, Tryz.f279), (280, Tryz.f280), (283, Tryz.f283), (297, Tryz.f297), (298, Tryz.f298), (299, Tryz.f299), (300, Tryz.f300), (301, Tryz.f301), (302, Tryz.f302), (303, Tryz.f303)]
theorem tab4_ok : TabOk Tryz.prog tab4 := ⟨⟨Tryz.func220, Tryz.call220⟩, ⟨ ⟨Tryz.func222, Tryz.call222⟩, ⟨ ⟨Tryz.func223, Tryz.call223⟩, ⟨ ⟨Tryz.func224, Tryz.call224⟩, ⟨ ⟨Tryz.func226, Tryz.call226⟩, ⟨ ⟨Tryz.func227, Tryz.call227⟩, ⟨ ⟨Tryz.func228, Tryz.call228⟩, ⟨ ⟨Tryz.func229, Tryz.call229⟩, ⟨ ⟨Tryz.func233, Tryz.call233⟩, ⟨ ⟨Tryz.func234, Tryz.call234⟩, ⟨ ⟨Tryz.func235, Tryz.call235⟩, ⟨ ⟨Tryz.func236, Tryz.call236⟩, ⟨ ⟨Tryz.func237, Tryz.call237⟩, ⟨ ⟨Tryz.func238, Tryz.call238⟩, ⟨ ⟨Tryz.func240, Tryz.call240⟩, ⟨ ⟨Tryz.func250, Tryz.call250⟩, ⟨ ⟨Tryz.func251, Tryz.call251⟩, ⟨ ⟨Tryz.func253, Tryz.call253⟩, ⟨ ⟨Tryz.func254, Tryz.call254⟩, ⟨ ⟨Tryz.func278, Tryz.call278⟩, ⟨ ⟨Tryz.func279, Tryz.call279⟩, ⟨ ⟨Tryz.func280, Tryz.call280⟩, ⟨ ⟨Tryz.func283, Tryz.call283⟩, ⟨ ⟨Tryz.func297, Tryz.call297⟩, ⟨ ⟨Tryz.func298, Tryz.call298⟩, ⟨ ⟨Tryz.func299, Tryz.call299⟩, ⟨ ⟨Tryz.func300, Tryz.call300⟩, ⟨ ⟨Tryz.func301, Tryz.call301⟩, ⟨ ⟨Tryz.func302, Tryz.call302⟩, ⟨ ⟨Tryz.func303, Tryz.call303⟩, trivial⟩⟩⟩⟩⟩⟩⟩⟩⟩⟩⟩⟩⟩⟩⟩⟩⟩⟩⟩⟩⟩⟩⟩⟩⟩⟩⟩⟩⟩⟩
noncomputable def tab5 : List (Nat × Func) := [(306, Tryz.f306), (310, Tryz.f310), (322, Tryz.f322), (323, Tryz.f323), (326, Tryz.f326), (328, Tryz.f328), (339, Tryz.f339), (341, Tryz.f341), (342, Tryz.f342), (343, Tryz.f343), (344, Tryz.f344), (345, Tryz.f345), (347, Tryz.f347), (355, Tryz.f355), (359, Tryz.f359), (360, Tryz.f360), (362, Tryz.f362), (363, Tryz.f363), (376, Tryz.f376), (377, Tryz.f377), (378, Tryz.f378), (381, Tryz.f381), (385, Tryz.f385), (393, Tryz.f393), (394, Tryz.f394), (395, Tryz.f395), (423, Tryz.f423), (442, Tryz.f442), (465, Tryz.f465), (469, Tryz.f469)]
theorem tab5_ok : TabOk Tryz.prog tab5 := ⟨⟨Tryz.func306, Tryz.call306⟩, ⟨ ⟨Tryz.func310, Tryz.call310⟩, ⟨ ⟨Tryz.func322, Tryz.call322⟩, ⟨ ⟨Tryz.func323, Tryz.call323⟩, ⟨ ⟨Tryz.func326, Tryz.call326⟩, ⟨ ⟨Tryz.func328, Tryz.call328⟩, ⟨ ⟨Tryz.func339, Tryz.call339⟩, ⟨ ⟨Tryz.func341, Tryz.call341⟩, ⟨ ⟨Tryz.func342, Tryz.call342⟩, ⟨ ⟨Tryz.func343, Tryz.call343⟩, ⟨ ⟨Tryz.func344, Tryz.call344⟩, ⟨ ⟨Tryz.func345, Tryz.call345⟩, ⟨ ⟨Tryz.func347, Tryz.call347⟩, ⟨ ⟨Tryz.func355, Tryz.call355⟩, ⟨ ⟨Tryz.func359, Tryz.call359⟩, ⟨ ⟨Tryz.func360, Tryz.call360⟩, ⟨ ⟨Tryz.func362, Tryz.call362⟩, ⟨ ⟨Tryz.func363, Tryz.call363⟩, ⟨ ⟨Tryz.func376, Tryz.call376⟩, ⟨ ⟨Tryz.func377, Tryz.call377⟩, ⟨ ⟨Tryz.func378, Tryz.call378⟩, ⟨ ⟨Tryz.func381, Tryz.call381⟩, ⟨ ⟨Tryz.func385, Tryz.call385⟩, ⟨ ⟨Tryz.func393, Tryz.call393⟩, ⟨ ⟨Tryz.func394, Tryz.call394⟩, ⟨ ⟨Tryz.func395, Tryz.call395⟩, ⟨ ⟨Tryz.func423, Tryz.call423⟩, ⟨ ⟨Tryz.func442, Tryz.call442⟩, ⟨ ⟨Tryz.func465, Tryz.call465⟩, ⟨ ⟨Tryz.func469, Tryz.call469⟩, trivial⟩⟩⟩⟩⟩⟩⟩⟩⟩⟩⟩⟩⟩⟩⟩⟩⟩⟩⟩⟩⟩⟩⟩⟩⟩⟩⟩⟩⟩⟩
noncomputable def tab6 : List (Nat × Func) := [(472, Tryz.f472)]
theorem tab6_ok : TabOk Tryz.prog tab6 := ⟨⟨Tryz.func472, Tryz.call472⟩, trivial⟩
noncomputable def fnT (f : Nat) : Option Func :=
  match look f tab0 with
  | some x => some x
  | none =>
  match look f tab1 with
  | some x => some x
  | none =>
  match look f tab2 with
  | some x => some x
  | none =>
  match look f tab3 with
  | some x => some x
  | none =>
  match look f tab4 with
  | some x => some x
  | none =>
  match look f tab5 with
  | some x => some x
  | none =>
  match look f tab6 with
  | some x => some x
  | none => none
theorem fnT_ok {f : Nat} {fn : Func} (h : fnT f = some fn) : Tryz.prog.funcs[f]? = some fn ∧ ∀ (vs : Array Value) (w : World), (callFunc f vs).run Tryz.prog w = .ok (.enter f vs) w := by
  unfold fnT at h
  split at h
  · rename_i x e; cases h; exact look_ok tab0_ok e
  split at h
  · rename_i x e; cases h; exact look_ok tab1_ok e
  split at h
  · rename_i x e; cases h; exact look_ok tab2_ok e
  split at h
  · rename_i x e; cases h; exact look_ok tab3_ok e
  split at h
  · rename_i x e; cases h; exact look_ok tab4_ok e
  split at h
  · rename_i x e; cases h; exact look_ok tab5_ok e
  split at h
  · rename_i x e; cases h; exact look_ok tab6_ok e
  cases h
def hintL : List (Nat × List (Nat × Cv.Mode)) := [
  (3, [(5, ⟨[3, 1, 0, 2, 4], 1, [3], [0, 2], [(0, [3]), (2, [3])], [], [], [0, 2]⟩), (6, ⟨[7, 1, 0, 2, 3, 4, 5, 6, 8, 9, 10], 1, [7], [0, 2], [(0, [7]), (2, [7])], [], [], [0, 2]⟩)]),
  (4, [(2, ⟨[3, 1, 0, 2, 4], 1, [3], [0, 2], [(0, [3]), (2, [3])], [], [], [0, 2]⟩)]),
  (5, [(16, ⟨[0, 1, 2, 3, 4, 5, 6], 0, [], [2], [], [], [], [2]⟩)]),
  (8, [(6, ⟨[0, 1, 2, 4, 5, 6, 7, 8, 9, 10, 11, 3, 12, 13, 14], 0, [], [], [], [], [], []⟩)]),
  (12, [(2, ⟨[6, 1, 2, 0, 3, 4, 5, 7], 3, [6, 2], [], [], [], [], []⟩)]),
  (16, [(22, ⟨[0, 1, 2, 3, 4, 5, 6, 7, 8, 9, 10, 11, 12], 0, [], [8], [], [], [], []⟩)]),
  (17, [(1, ⟨[10, 0, 1, 2, 3, 4, 5, 6, 7, 8, 9, 11], 1, [10], [], [], [], [], []⟩)]),
  (18, [(6, ⟨[0, 1, 2, 3, 4, 5, 6, 7, 8, 9, 10], 0, [], [], [], [], [], []⟩), (11, ⟨[0, 1, 2, 3, 4, 5, 6, 7, 8, 9, 10], 0, [], [], [], [], [], []⟩)]),
  (19, [(6, ⟨[0, 1, 2, 3, 4, 5, 6, 7, 8], 0, [], [], [], [], [], []⟩)]),
  (20, [(1, ⟨[0, 2, 3, 1, 4, 5, 6], 0, [], [1], [], [], [], [1]⟩)]),
  (24, [(5, ⟨[0, 2, 3, 4, 5, 6, 7, 8, 9, 1, 10, 11, 12], 0, [], [1], [], [], [], [1]⟩)]),
  (26, [(14, ⟨[0, 1, 2, 3, 4, 5, 6, 7, 8, 9, 10, 11, 12, 13], 0, [], [9], [], [], [], []⟩)]),
  (29, [(1, ⟨[0, 1, 2, 3, 4, 5, 6, 7, 8], 0, [], [], [], [], [], []⟩)]),
  (32, [(15, ⟨[10, 0, 1, 2, 3, 4, 5, 6, 7, 8, 9, 11, 12], 1, [10], [6], [(6, [10])], [], [], []⟩), (18, ⟨[10, 0, 1, 2, 3, 4, 5, 6, 7, 8, 9, 11, 12], 1, [10], [6], [(6, [10])], [], [], []⟩), (21, ⟨[0, 1, 2, 3, 4, 5, 6, 7, 8, 9, 10, 11, 12], 0, [], [8], [], [], [], []⟩)]),
  (38, [(4, ⟨[0, 1, 2, 3, 4, 5, 6, 7, 8, 9, 10, 11], 0, [], [6], [], [], [], []⟩), (9, ⟨[0, 1, 2, 3, 4, 5, 6, 7, 8, 9, 10, 11, 12, 13, 14], 0, [], [10], [], [], [], []⟩)]),
  (42, [(1, ⟨[0, 1, 3, 4, 2, 5, 6, 7], 0, [], [], [], [], [], []⟩)]),
  (47, [(1, ⟨[10, 0, 1, 2, 3, 4, 5, 6, 7, 8, 9, 11], 1, [10], [], [], [], [], []⟩)]),
  (50, [(1, ⟨[0, 1, 3, 4, 2, 5, 6, 7], 0, [], [2, 5], [], [], [], [2, 5]⟩)]),
  (51, [(0, ⟨[0, 1, 2, 3, 4, 5, 6, 7, 8], 0, [], [], [], [], [], []⟩)]),
  (53, [(9, ⟨[0, 1, 2, 3, 4], 0, [], [3], [], [], [], [3]⟩), (19, ⟨[0, 1, 2, 3, 4, 5, 6, 7, 8, 9, 10, 11, 12, 13, 14], 0, [], [], [], [], [], []⟩)]),
  (54, [(7, ⟨[10, 0, 1, 2, 3, 4, 5, 6, 7, 8, 9, 11, 12], 1, [10], [], [], [], [], []⟩), (26, ⟨[0, 1, 2, 3, 4, 5, 6, 7, 8, 9, 10, 11, 12], 0, [], [8], [], [], [], []⟩)]),
  (59, [(11, ⟨[10, 0, 1, 2, 3, 4, 5, 6, 7, 8, 9, 11, 12], 1, [10], [6], [(6, [10])], [], [], []⟩), (14, ⟨[10, 0, 1, 2, 3, 4, 5, 6, 7, 8, 9, 11, 12], 1, [10], [6], [(6, [10])], [], [], []⟩), (17, ⟨[0, 1, 2, 3, 4, 5, 6, 7, 8, 9, 10, 11], 0, [], [7], [], [], [], []⟩)]),
  (61, [(4, ⟨[0, 1, 2, 3, 4, 5, 6, 7, 8, 9, 10, 11], 0, [], [6], [], [], [], []⟩), (10, ⟨[0, 1, 2, 3, 4, 5, 6, 7, 8, 9, 10, 11, 12], 0, [], [8], [], [], [], []⟩)]),
  (62, [(5, ⟨[0, 1, 2, 3, 4, 5, 6, 7, 8, 9, 10, 11], 0, [], [7], [], [], [], []⟩)]),
  (63, [(13, ⟨[0, 1, 2, 3, 4, 5, 6, 7, 8, 9, 10, 11, 12, 13, 14, 15, 16, 17, 18, 19, 20], 19, [18], [], [], [], [], []⟩)]),
  (68, [(3, ⟨[16, 1, 2, 5, 8, 11, 13, 0, 3, 4, 6, 7, 9, 10, 12, 14, 15, 17], 1, [16], [0, 6, 9, 12, 14], [(0, [16]), (6, [16]), (9, [16]), (12, [16]), (14, [16])], [], [], [0, 6, 9, 12, 14]⟩)]),
  (72, [(1, ⟨[0, 1, 2, 3, 4, 5, 6, 7, 8, 9, 10], 0, [], [], [], [], [], []⟩), (2, ⟨[0, 1, 2, 3, 4, 5, 6, 7, 8], 0, [], [], [], [], [], []⟩)]),
  (74, [(12, ⟨[12, 0, 1, 2, 3, 4, 5, 6, 7, 8, 9, 10, 11, 13, 14], 1, [12], [8], [(8, [12])], [], [], []⟩), (34, ⟨[12, 0, 1, 2, 3, 4, 5, 6, 7, 8, 9, 10, 11, 13, 14], 1, [12], [8], [(8, [12])], [], [], []⟩)]),
  (85, [(9, ⟨[0, 1, 2, 4, 5, 6, 7, 8, 9, 10, 11, 12, 13, 14, 3, 15, 16, 17, 18, 19, 20], 0, [], [], [], [], [], []⟩)]),
  (106, [(1, ⟨[0, 1, 2, 3, 4, 5, 6, 7, 8, 9, 10], 0, [], [], [], [], [], []⟩), (2, ⟨[0, 1, 2, 3, 4, 5, 6, 7, 8], 0, [], [], [], [], [], []⟩)]),
  (128, [(8, ⟨[0, 1, 2, 3, 4, 5, 6, 7], 0, [], [6], [], [], [], []⟩), (16, ⟨[0, 1, 2, 3, 4, 5, 6, 7, 8], 0, [], [7], [], [], [], []⟩)]),
  (144, [(5, ⟨[0, 1, 2, 3, 4, 5, 6, 7], 0, [], [], [], [], [], []⟩)]),
  (154, [(2, ⟨[0, 1, 2, 4, 5, 6, 3, 7, 8, 9], 0, [], [], [], [], [], []⟩)]),
  (158, [(4, ⟨[0, 1, 2, 3, 4, 5], 0, [], [], [], [], [], []⟩)]),
  (159, [(1, ⟨[0, 1, 2, 3, 4, 5, 6, 7, 8, 9, 10, 11, 12, 13, 14, 15, 16, 17, 18, 19, 20, 21, 22, 23, 24, 25, 26, 27, 28], 0, [], [], [], [], [], []⟩)]),
  (160, [(25, ⟨[0, 1, 2, 3, 4, 5], 0, [], [4], [], [], [], []⟩)]),
  (171, [(3, ⟨[0, 1, 2, 3, 4, 5, 6, 7, 8, 9, 10, 11, 12, 13, 14, 15, 16, 17, 18, 19, 20, 21, 22, 23, 24, 25, 26, 27, 28, 29], 0, [], [25], [], [], [], []⟩)]),
  (172, [(9, ⟨[0, 1, 2, 4, 5, 6, 7, 8, 9, 10, 11, 12, 13, 3, 14, 15, 16, 17, 18, 19], 0, [], [3, 14], [], [], [], [3, 14]⟩)]),
  (173, [(3, ⟨[0, 1, 2, 3, 4, 5, 6, 7, 8, 9, 10, 11, 12], 0, [], [8], [], [], [], []⟩)]),
  (176, [(19, ⟨[0, 1, 2, 3, 4, 5, 6, 7], 0, [], [], [], [], [], []⟩)]),
  (187, [(12, ⟨[0, 2, 3, 4, 5, 6, 7, 8, 9, 10, 11, 12, 1, 13, 14, 15, 16], 0, [], [1, 13], [], [], [], [1, 13]⟩)]),
  (207, [(12, ⟨[0, 1, 2, 3, 4, 5, 6, 7, 8, 9, 10, 11, 12, 13, 14, 15, 16, 17, 18, 19, 20, 21, 22, 23, 24, 25, 26, 27, 28], 0, [], [23], [], [], [], []⟩)]),
  (219, [(10, ⟨[0, 1, 2, 3, 4, 5, 6, 7, 8, 9, 10, 11, 12, 13, 14, 15], 0, [], [], [], [], [], []⟩), (12, ⟨[0, 1, 2, 3, 4, 5, 6, 7, 8, 9, 10, 11], 0, [], [], [], [], [], []⟩)]),
  (236, [(7, ⟨[0, 1, 2, 3, 4, 6, 7, 8, 9, 10, 5, 11, 12, 13], 0, [], [5, 11], [], [], [], [5, 11]⟩)]),
  (283, [(18, ⟨[0, 1, 2, 3, 4, 5, 6, 7, 8, 9, 10], 0, [], [], [], [], [], []⟩), (20, ⟨[0, 1, 2, 3, 4, 5, 6, 7, 8, 9], 0, [], [], [], [], [], []⟩)]),
  (299, [(7, ⟨[8, 0, 1, 3, 4, 5, 6, 2, 7, 9], 7, [8, 6], [], [], [], [], []⟩)]),
  (300, [(15, ⟨[0, 1, 2, 3, 4, 5, 6, 7, 8, 9, 10, 11, 12, 13, 14, 15, 16, 17, 18, 19, 20, 21, 22, 23, 24, 25, 26, 27, 28], 0, [], [23], [], [], [], []⟩)]),
  (385, [(4, ⟨[0, 1, 2, 3, 4, 5, 6, 7], 0, [], [], [], [], [], []⟩)]),
  (472, [(2, ⟨[0, 1, 2, 3, 4, 5, 6, 7, 8, 9, 10, 11], 0, [], [], [], [], [], []⟩)])]
def hintT (f id : Nat) : Option Cv.Mode := match look f hintL with
  | some l => look id l
  | none => none
def xhT (f id : Nat) : Option (List Nat × List (Nat × Nat)) := match Nat.beq f 8 && Nat.beq id 6 with
  | true => some ([4, 5, 6, 7, 8, 9, 10, 11], [(12, 6)])
  | false => none
def memB (f : Nat) : List Nat → Bool
  | [] => false
  | g :: l => match Nat.beq f g with
    | true => true
    | false => memB f l
def purT (f : Nat) : Bool := memB f [301, 302, 303, 167, 11, 12, 13, 20, 21, 22]
def dfrT (f : Nat) : Bool := Nat.beq f 24
/-- What the interpreter knows: 'sy': whose conditions are told; 'kn': contracts. -/
def bas (f : Nat) : Nat := match Nat.ble 100000 f with
  | true => match Nat.ble 200000 f with
    | true => Nat.sub f 200000
    | false => Nat.sub f 100000
  | false => f
def rgT (f : Nat) : Option Nat := match Nat.beq f 469 with
  | true => some 200469
  | false => match Nat.beq f 246 with
    | true => some 200246
    | false => none
def alT (f : Nat) : Option (FuncId × TypeId × TypeId) := match Nat.beq f 359 with
  | true => some (360, 3, 23)
  | false => none
theorem alT_ok : ∀ (fA : FuncId) (fI : FuncId) (tN tS : TypeId), alT fA = some (fI, tN, tS) → Nonempty (AllC Tryz.prog fA fI tN tS) := fun fA fI tN tS h => by
  unfold alT at h
  split at h
  · rename_i e
    have e1 := Nat.eq_of_beq_eq_true e
    subst e1
    simp only [Option.some.injEq, Prod.mk.injEq] at h
    obtain ⟨rfl, rfl, rfl⟩ := h
    exact ⟨allT⟩
  · cases h
noncomputable def envS (sy : List Nat) (st : Option Nat) (kn : Nat → List CV → Nat → Heap → Option (Out × Nat × Heap × List Nat × List (Bool × Bool))) : Env := ⟨fnT, fun f => memB (bas f) sy, fun f d => memB (bas f) sy && (memB (bas f) [362, 240, 145] && Nat.beq d 12), fun f => hintT (bas f), fun f => xhT (bas f), purT, dfrT, fun f => match Nat.ble 100000 f with
  | true => match Nat.ble 200000 f with
    | true => some 0
    | false => st
  | false => none, kn, rgT, alT⟩
noncomputable abbrev envT (sy : List Nat) (kn : Nat → List CV → Nat → Heap → Option (Out × Nat × Heap × List Nat × List (Bool × Bool))) : Env := envS sy none kn
def kn0 (_ : Nat) (_ : List CV) (_ : Nat) (_ : Heap) : Option (Out × Nat × Heap × List Nat × List (Bool × Bool)) := none
theorem envT0_ok (sy : List Nat) : EnvOk Tryz.prog (envT sy kn0) := ⟨mixedT, fun _ _ h => fnT_ok h, fun _ _ _ _ _ _ _ _ _ h => (nomatch h), alT_ok⟩
end Go.Wg
