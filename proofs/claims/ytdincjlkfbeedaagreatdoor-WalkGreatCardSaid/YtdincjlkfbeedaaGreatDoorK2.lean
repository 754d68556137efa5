/-
  The logic: contracts; regions that draw their order.
-/
import Derived.Test.YtdincjlkfbeedaaGreatDoorK1
set_option linter.all false
namespace Go.Cv
open Go

section
variable {D : Nat → Prop} {h : Heap} {β : Nat → Option Nat} {I : Nat → Prop} {w : World} {P : Program}

def makeSliceEval (P : Program) (n : Nat) (h : Heap) (t : TypeId) (l c : CV) : Option (CV × Heap) :=
  match P.underlying t with
  | some (.slice elem) => match tySize P elem, tyBytes P elem, tyZero P elem with
    | some s, some by_, some z => match litCells z, idx l, idx c with
      | some zl, some l, some c => if zl.length = s ∧ 0 < s ∧ by_ ≤ 4096 ∧ 0 ≤ l ∧ l ≤ c ∧ c ≤ 2147483648 then some (.sl n 0 0 l.toNat s, (n, ⟨0, zeroRow zl l.toNat, none⟩) :: h) else none
      | _, _, _ => none
    | _, _, _ => none
  | _ => none

theorem wrap_small {i : Int} (h0 : 0 ≤ i) (h1 : i ≤ 2147483648) : IntKind.i64.wrap i = i := by
  unfold IntKind.wrap
  simp only [IntKind.bits, IntKind.signed]
  first
    | (simp; omega)
    | (split <;> omega)
    | omega

theorem rowR_zero_le {z : Value} {zl : List CV} (hz : litCells z = some zl) (n m : Nat) (hm : n ≤ m) (hpos : 0 < zl.length) :
    (zeroRow zl n).length ≤ ((Array.range (m * zl.length)).map (fun i => z.cells[i % z.cells.size]!)).size ∧
    ∀ i cv, (zeroRow zl n)[i]? = some cv → (((Array.range (m * zl.length)).map (fun i => z.cells[i % z.cells.size]!)).getD i undef).oneCell' = true ∧
      SimV D h β I w cv (((Array.range (m * zl.length)).map (fun i => z.cells[i % z.cells.size]!)).getD i undef) := by
  have hr := rowR_zero (D := D) (h := h) (β := β) (I := I) (w := w) hz m hpos
  have hmul : n * zl.length ≤ m * zl.length := Nat.mul_le_mul_right _ hm
  refine ⟨by rw [hr.1, zeroRow_length, zeroRow_length]; exact hmul, fun i cv hi => hr.2 i cv ?_⟩
  have hlt : i < n * zl.length := by
    rcases Nat.lt_or_ge i (n * zl.length) with h3 | h3
    · exact h3
    · rw [List.getElem?_eq_none (by rw [zeroRow_length]; exact h3)] at hi; cases hi
  rw [zeroRow_get zl n i hlt] at hi
  rw [zeroRow_get zl m i (by omega)]
  exact hi

theorem makeSlice_sound {t : TypeId} {x y cv : CV} {v u : Value} {h' : Heap} (hS : Sim D h β I w) {n : Nat} (hn : ¬ D n) (he : makeSliceEval P n h t x y = some (cv, h')) (hx : SimV D h β I w x v) (hy : SimV D h β I w y u) :
    OpOk D n h β I w cv h' ((do pure (Next.value (← Instr.makeSlice t v u))).run P w) := by
  unfold makeSliceEval at he
  split at he
  · rename_i elem hu
    split at he
    · rename_i s by_ z hs hb hz
      split at he
      · rename_i zl l c hzl hl hc
        split at he
        · rename_i hcond
          obtain ⟨c1, c2, c3, c4, c5, c6⟩ := hcond
          cases he
          obtain ⟨k1, rfl⟩ := idx_real hl hx
          obtain ⟨k2, rfl⟩ := idx_real hc hy
          obtain ⟨q1, q2⟩ := rowR_zero_le (D := D) (h := h) (β := β) (I := I) (w := w) hzl l.toNat c.toNat (by omega) (by omega)
          obtain ⟨s1, s2, s3⟩ := newslice_ok hS hn (w0 := w) (w' := { w with heap := w.heap.push (.cells ((Array.range (c.toNat * zl.length)).map (fun i => z.cells[i % z.cells.size]!)) elem) }) (e := elem)
            (c := (Array.range (c.toNat * zl.length)).map (fun i => z.cells[i % z.cells.size]!)) (cs := zeroRow zl l.toNat) (len := l.toNat) (cap := c.toNat) (sz := s) rfl ⟨rfl, rfl, rfl⟩ rfl q1 q2 (by omega) (by simp [c1])
          refine ⟨_, _, _, .inl ?_, s1, s2, s3⟩
          have hbytes : (typeInfo elem).run P w = .ok ((P.info? elem).getD default) w ∧ ((P.info? elem).getD default).bytes = by_ := by
            unfold tyBytes at hb
            cases e : P.info? elem with
            | none => rw [e] at hb; cases hb
            | some i => rw [e] at hb; simp at hb; simp [typeInfo, e, hb]
          have w1 := wrap_small c4 (by omega)
          have w2 := wrap_small (i := c) (by omega) c6
          have hmul : (by_ : Int) * c ≤ 4096 * 2147483648 := Int.mul_le_mul (by omega) c6 (by omega) (by omega)
          simp only [Instr.makeSlice, Sem.run_bind, run_under hu, Result.andThen_ok, asInt, asIntOf, Sem.run_pure, hbytes.1, hbytes.2, w1, w2]
          have hno : (decide (c < 0) || decide ((by_ : Int) * c > 2 ^ 48) || (decide (l < 0) : Bool) || (decide (l > c) : Bool)) = false := by
            have a1 : ¬ c < 0 := by omega
            have a2 : ¬ (by_ : Int) * c > 2 ^ 48 := by omega
            have a3 : ¬ l < 0 := by omega
            have a4 : ¬ l > c := by omega
            simp only [decide_eq_false a1, decide_eq_false a2, decide_eq_false a3, decide_eq_false a4, Bool.or_false]
          rw [if_neg (by rw [hno]; simp)]
          by_cases hz0 : c.toNat * s = 0
          · have hc0 : c.toNat = 0 := by
              rcases Nat.mul_eq_zero.1 hz0 with h5 | h5
              · exact h5
              · omega
            have e0 : ∀ f : Nat → Value, Array.map f (Array.range 0) = #[] := fun f => Array.eq_empty_of_size_eq_zero (by rw [Array.size_map, Array.size_range])
            simp [run_tySize hs, hc0, newRow, c1]
            rw [e0, e0]
          · simp only [Sem.run_bind, run_askRoom, Result.andThen_ok, run_tySize hs, if_neg hz0, run_tyZero hz, Sem.run_pure, newRow, run_newObj, c1]
        · cases he
      · cases he
    · cases he
  · cases he

/-- Comparing with nil. -/
def someRef (h : Heap) : TypeDesc → CV → Bool
  | .pointer _, .ptr b g _ => live h b g
  | .pointer _, .iptr .. => true
  | .interface _, .ifc .. => true
  | .interface _, .lit (.iface ..) => true
  | .func .., .fn .. => true
  | .func .., .lit (.func ..) => true
  | .slice _, .sl b g _ _ _ => live h b g
  | .slice _, .isl .. => true
  | .map .., .mp b g => match hget h b with | some k => decide (k.gen ≤ g) | none => false
  | _, _ => false
def nilRef : TypeDesc → CV → Bool
  | .pointer _, .lit (.pointer none) => true
  | .interface _, .lit .nilIface => true
  | .func .., .lit .nilFunc => true
  | .slice _, .lit (.slice none _ _) => true
  | .map .., .lit (.map none) => true
  | _, _ => false
def nilEval (P : Program) (h : Heap) (op : BinOp) (t : TypeId) (x y : CV) : Option CV :=
  match P.underlying t with
  | some d => if (someRef h d x && nilRef d y) || (nilRef d x && someRef h d y) then
      match op with
      | .eql => some (.lit (.bool false))
      | .neq => some (.lit (.bool true))
      | _ => none
    else none
  | none => none

inductive SomeR : TypeDesc → Value → Prop
  | pointer {e : TypeId} {a : Addr} : SomeR (.pointer e) (.pointer (some a))
  | interface {ms : Array (String × TypeId)} {t : TypeId} {v : Value} : SomeR (.interface ms) (.iface t v)
  | func {ps rs : Array TypeId} {b : Bool} {f : Fn} {xs ys : Array Value} : SomeR (.func ps rs b) (.func f xs ys)
  | slice {e : TypeId} {a : Addr} {l c : Nat} : SomeR (.slice e) (.slice (some a) l c)
  | map {k e : TypeId} {r : Nat} : SomeR (.map k e) (.map (some r))
inductive NilR : TypeDesc → Value → Prop
  | pointer {e : TypeId} : NilR (.pointer e) (.pointer none)
  | interface {ms : Array (String × TypeId)} : NilR (.interface ms) .nilIface
  | func {ps rs : Array TypeId} {b : Bool} : NilR (.func ps rs b) .nilFunc
  | slice {e : TypeId} {l c : Nat} : NilR (.slice e) (.slice none l c)
  | map {k e : TypeId} : NilR (.map k e) (.map none)

theorem someRef_real {d : TypeDesc} {x : CV} {v : Value} (hl : someRef h d x = true) (hs : SimV D h β I w x v) : SomeR d v := by
  unfold someRef at hl
  split at hl
  · obtain ⟨rb, _, _, _, rfl⟩ := ptr_live hl hs; exact .pointer
  · cases hs with
    | iptr => exact .pointer
  · cases hs with
    | ifc => exact .interface
  · have := simv_lit hs; subst this; exact .interface
  · cases hs with
    | fn => exact .func
  · have := simv_lit hs; subst this; exact .func
  · obtain ⟨_, _, rb, cap, o, c, e, _, _, _, _, _, rfl⟩ := sl_live hl hs
    exact .slice
  · cases hs with
    | isl => exact .slice
  · split at hl
    · rename_i k hk
      obtain ⟨rb, _, _, rfl⟩ := mp_real hk (by simpa using hl) hs
      exact .map
    · cases hl
  · cases hl
theorem nilRef_real {d : TypeDesc} {x : CV} {v : Value} (hl : nilRef d x = true) (hs : SimV D h β I w x v) : NilR d v := by
  unfold nilRef at hl
  split at hl
  · have := simv_lit hs; subst this; exact .pointer
  · have := simv_lit hs; subst this; exact .interface
  · have := simv_lit hs; subst this; exact .func
  · have := simv_lit hs; subst this; exact .slice
  · have := simv_lit hs; subst this; exact .map
  · cases hl

theorem eq_some_nil {t : TypeId} {d : TypeDesc} (hu : P.underlying t = some d) (n : Nat) {v u : Value} (hv : SomeR d v) (hn : NilR d u) :
    (Op.equalIn (n + 1) t v u).run P w = .ok false w ∧ (Op.equalIn (n + 1) t u v).run P w = .ok false w := by
  cases hv <;> cases hn <;> (constructor <;> (simp only [Op.equalIn, Sem.run_bind, run_under hu, Result.andThen_ok]; rfl))
theorem maxDepth_succ : Op.maxDepth = 9999 + 1 := rfl
theorem guard_some_nil {d : TypeDesc} {v u : Value} (hv : SomeR d v) (hn : NilR d u) (op : BinOp) (t : TypeId) (ox oy : Operand) :
    (eqGuard op t ox oy v u).run P w = .ok () w ∧ (eqGuard op t ox oy u v).run P w = .ok () w := by
  cases op <;> cases hv <;> cases hn <;> exact ⟨rfl, rfl⟩

theorem bin_some_nil {d : TypeDesc} {v u : Value} (hv : SomeR d v) (hn : NilR d u) (t : TypeId) :
    (binOp .eql t v u = (do pure (.bool (← Op.equal t v u)))) ∧ (binOp .eql t u v = (do pure (.bool (← Op.equal t u v)))) ∧
    (binOp .neq t v u = (do pure (.bool !(← Op.equal t v u)))) ∧ (binOp .neq t u v = (do pure (.bool !(← Op.equal t u v)))) := by
  cases hv <;> cases hn <;> exact ⟨rfl, rfl, rfl, rfl⟩

theorem nil_sound {op : BinOp} {t : TypeId} {x y cv : CV} {v u : Value} {ox oy : Operand} (he : nilEval P h op t x y = some cv) (hx : SimV D h β I w x v) (hy : SimV D h β I w y u) :
    ∃ r, ((do eqGuard op t ox oy v u; binOp op t v u : Sem Value)).run P w = .ok r w ∧ SimV D h β I w cv r := by
  unfold nilEval at he
  split at he
  · rename_i d hu
    split at he
    · rename_i hc
      simp only [Bool.or_eq_true, Bool.and_eq_true] at hc
      have key : (Op.equalIn (9999 + 1) t v u).run P w = .ok false w ∧ (eqGuard op t ox oy v u).run P w = .ok () w ∧ (binOp .eql t v u = (do pure (.bool (← Op.equal t v u)))) ∧ (binOp .neq t v u = (do pure (.bool !(← Op.equal t v u)))) := by
        rcases hc with ⟨h1, h2⟩ | ⟨h1, h2⟩
        · have a1 := someRef_real h1 hx
          have a2 := nilRef_real h2 hy
          exact ⟨(eq_some_nil hu _ a1 a2).1, (guard_some_nil a1 a2 ..).1, (bin_some_nil a1 a2 t).1, (bin_some_nil a1 a2 t).2.2.1⟩
        · have a1 := someRef_real h2 hy
          have a2 := nilRef_real h1 hx
          exact ⟨(eq_some_nil hu _ a1 a2).2, (guard_some_nil a1 a2 ..).2, (bin_some_nil a1 a2 t).2.1, (bin_some_nil a1 a2 t).2.2.2⟩
      split at he
      · cases he
        refine ⟨.bool false, ?_, .lit _⟩
        simp only [Sem.run_bind, key.2.1, Result.andThen_ok, key.2.2.1, Op.equal, maxDepth_succ, key.1, Sem.run_pure]
      · cases he
        refine ⟨.bool true, ?_, .lit _⟩
        simp only [Sem.run_bind, key.2.1, Result.andThen_ok, key.2.2.2, Op.equal, maxDepth_succ, key.1, Sem.run_pure]
        rfl
      · cases he
    · cases he
  · cases he

/-- The evaluation function. -/
def opEval (P : Program) (n : Nat) (fr : Fr) (h : Heap) (o : Oper) : Option (CV × Heap) :=
  match o.op with
  | .move x => some (ev fr x, h)
  | .assign x => some (ev fr x, h)
  | .pick c a b => match ev fr c with
    | .lit (.bool t) => some (bif t then ev fr a else ev fr b, h)
    | _ => none
  | .alloc e => allocEval P n h e
  | .box _ x => boxEval n h (ev fr x)
  | .build t ps => (buildEval P h t (partsC fr ps)).map (·, h)
  | .buildSlice t len ps => buildSliceEval P n h t len (partsC fr ps)
  | .load t a => (loadEval P h t (ev fr a)).map (·, h)
  | .store t a x => (storeEval P h t (ev fr a) (ev fr x)).map (CV.lit undef, ·)
  | .nilCheck x => match ev fr x with
    | .ptr b g off => if live h b g then some (.ptr b g off, h) else none
    | .iptr cs off => some (.iptr cs off, h)
    | _ => (litEval P fr o).map (·, h)
  | .fieldAddr t x f => (fieldAddrEval P h t (ev fr x) f).map (·, h)
  | .field t x f => (fieldEval P t (ev fr x) f).map (·, h)
  | .indexAddr t x i => (indexAddrEval P h t (ev fr x) (ev fr i)).map (·, h)
  | .index t x i => match ev fr x with
    | .agg _ => (indexEval P t (ev fr x) (ev fr i)).map (·, h)
    | _ => (litEval P fr o).map (·, h)
  | .slice t x lo hi none => match ev fr x with
    | .sl .. => (sliceEval P h t (ev fr x) (lo.map (ev fr)) (hi.map (ev fr))).map (·, h)
    | .isl .. => (sliceEval P h t (ev fr x) (lo.map (ev fr)) (hi.map (ev fr))).map (·, h)
    | _ => (litEval P fr o).map (·, h)
  | .makeSlice t l c => makeSliceEval P n h t (ev fr l) (ev fr c)
  | .extract x i => match ev fr x with
    | .tup cs => cs[i]?.map (·, h)
    | _ => (litEval P fr o).map (·, h)
  | .binOp op t x y _ => match nilEval P h op t (ev fr x) (ev fr y) with
    | some cv => some (cv, h)
    | none => (litEval P fr o).map (·, h)
  | .makeInterface t x => match litEval P fr o with
    | some cv => some (cv, h)
    | none => (ifaceEval P t (ev fr x)).map (·, h)
  | .makeFunc f xs ys => match litEval P fr o with
    | some cv => some (cv, h)
    | none => some (.fn f (xs.toList.map (ev fr)) (ys.toList.map (ev fr)), h)
  | .typeAssert x _ t ok => match ev fr x with
    | .ifc .. => (assertEval P t ok (ev fr x)).map (·, h)
    | _ => (litEval P fr o).map (·, h)
  | .makeMap _ none => some (.mp n 0, (n, ⟨0, [], some []⟩) :: h)
  | .mapUpdate t m k x => (mapUpdateEval P h t (ev fr m) (ev fr k) (ev fr x)).map (CV.lit undef, ·)
  | .insert t m k x => (mapUpdateEval P h t (ev fr m) (ev fr k) (ev fr x)).map (CV.lit undef, ·)
  | .lookup t x i ok => match ev fr x with
    | .mp .. => (mapLookupEval P h t (ev fr x) (ev fr i) ok).map (·, h)
    | _ => (litEval P fr o).map (·, h)
  | .call ⟨.builtin .len, args, ts⟩ => match args.toList, ts[0]? with
    | [x], some t => match lenEval P h t (ev fr x) with
      | some cv => some (cv, h)
      | none => (litEval P fr o).map (·, h)
    | _, _ => none
  | .call ⟨.builtin .append, args, ts⟩ => match args.toList with
    | [s, x] => appendEval P n h ts (ev fr s) (ev fr x)
    | _ => none
  | _ => (litEval P fr o).map (·, h)

theorem opOk_run (hS : Sim D h β I w) (n : Nat) {cv : CV} {s : Sem Value} (hr : ∃ u, s.run P w = .ok u w ∧ SimV D h β I w cv u) :
    OpOk D n h β I w cv h ((do pure (Next.value (← s)) : Sem Next).run P w) := by
  obtain ⟨u, h1, h2⟩ := hr
  have : (do pure (Next.value (← s)) : Sem Next).run P w = .ok (.value u) w := by simp [h1]
  rw [this]
  exact opOk_same hS n h2

theorem args_one {args : Array Operand} {x : Operand} (he : args.toList = [x]) : args = #[x] := by
  apply Array.ext'; exact he
theorem args_two {args : Array Operand} {x y : Operand} (he : args.toList = [x, y]) : args = #[x, y] := by
  apply Array.ext'; exact he

theorem op_sound {N : Nat} {fr : Fr} {a : Act} {n : Nat} {o : Oper} {cv : CV} {h' : Heap} (hS : Sim D h β I w) (hF : SimF D h β I w N fr a) (hn : ¬ D n) (he : opEval P n fr h o = some (cv, h')) :
    OpOk D n h β I w cv h' ((execOp a.eval o).run P w) := by
  have lit : ∀ {cv h'}, (litEval P fr o).map (·, h) = some (cv, h') → OpOk D n h β I w cv h' ((execOp a.eval o).run P w) := by
    intro cv h' he
    cases e : litEval P fr o with
    | none => rw [e] at he; cases he
    | some c => rw [e] at he; cases he; exact lit_sound hS hF n e
  have mp : ∀ {x : Option CV} {cv h'}, x.map (·, h) = some (cv, h') → x = some cv ∧ h' = h := by
    intro x cv h' he
    cases x with
    | none => cases he
    | some c => cases he; exact ⟨rfl, rfl⟩
  obtain ⟨dst, op, ty, pos, after, guard⟩ := o
  cases op with
  | move x => simp only [opEval, Option.some.injEq, Prod.mk.injEq] at he; obtain ⟨rfl, rfl⟩ := he; exact opOk_same hS n (hF.ev x)
  | assign x => simp only [opEval, Option.some.injEq, Prod.mk.injEq] at he; obtain ⟨rfl, rfl⟩ := he; exact opOk_same hS n (hF.ev x)
  | pick c x y =>
    simp only [opEval] at he
    split at he
    · rename_i t hc
      simp only [Option.some.injEq, Prod.mk.injEq] at he
      obtain ⟨rfl, rfl⟩ := he
      have h1 := hF.ev c
      rw [hc] at h1
      have h2 := simv_lit h1
      have h3 : (execOp a.eval ⟨dst, .pick c x y, ty, pos, after, guard⟩).run P w = .ok (.value (if t then a.eval x else a.eval y)) w := by
        simp [execOp, h2, asBool]
      rw [h3]
      refine opOk_same hS n ?_
      cases t
      · exact hF.ev y
      · exact hF.ev x
    · cases he
  | alloc e => exact alloc_sound hS hn he
  | box e x => exact box_sound hS hn he (hF.ev x)
  | build t ps =>
    simp only [opEval] at he
    obtain ⟨h1, rfl⟩ := mp he
    exact opOk_run hS n (build_sound hF h1)
  | buildSlice t len ps => exact buildSlice_sound hS hn hF he
  | load t x =>
    simp only [opEval] at he
    obtain ⟨h1, rfl⟩ := mp he
    exact opOk_run hS n (load_sound hS h1 (hF.ev x))
  | store t x y =>
    simp only [opEval] at he
    cases e : storeEval P h t (ev fr x) (ev fr y) with
    | none => rw [e] at he; cases he
    | some h2 =>
      rw [e] at he
      simp only [Option.map_some, Option.some.injEq, Prod.mk.injEq] at he
      obtain ⟨rfl, rfl⟩ := he
      obtain ⟨w', hr, s1, s2⟩ := store_sound hS e (hF.ev x) (hF.ev y)
      refine ⟨undef, β, w', .inr ⟨by simp [execOp, hr], rfl⟩, s1.more fun _ h => .inl h, .lit _, s2⟩
  | nilCheck x =>
    simp only [opEval] at he
    have h1 := hF.ev x
    split at he
    · rename_i b g off hx
      split at he
      · rename_i hl
        cases he
        rw [hx] at h1
        obtain ⟨rb, hd, hg, hb, h2⟩ := ptr_live hl h1
        have h3 : (execOp a.eval ⟨dst, .nilCheck x, ty, pos, after, guard⟩).run P w = .ok (.value (a.eval x)) w := by
          simp [execOp, h2]
        rw [h3]
        exact opOk_same hS n h1
      · cases he
    · rename_i cs off hx
      cases he
      rw [hx] at h1
      have h3 : (execOp a.eval ⟨dst, .nilCheck x, ty, pos, after, guard⟩).run P w = .ok (.value (a.eval x)) w := by
        generalize hv : a.eval x = v at h1
        cases h1 with
        | iptr => simp [execOp, hv]
      rw [h3]
      exact opOk_same hS n h1
    · exact lit he
  | fieldAddr t x f =>
    simp only [opEval] at he
    obtain ⟨h1, rfl⟩ := mp he
    exact opOk_run hS n (fieldAddr_sound h1 (hF.ev x))
  | field t x f =>
    simp only [opEval] at he
    obtain ⟨h1, rfl⟩ := mp he
    exact opOk_run hS n (field_sound h1 (hF.ev x))
  | indexAddr t x i =>
    simp only [opEval] at he
    obtain ⟨h1, rfl⟩ := mp he
    exact opOk_run hS n (indexAddr_sound h1 (hF.ev x) (hF.ev i))
  | index t x i =>
    simp only [opEval] at he
    split at he
    · obtain ⟨h1, rfl⟩ := mp he
      exact opOk_run hS n (index_sound h1 (hF.ev x) (hF.ev i))
    · exact lit he
  | slice t x lo hi mx =>
    cases mx with
    | some _ => exact lit he
    | none =>
      have hrel : ∀ y : Option Operand, RelO D h β I w (y.map (ev fr)) (y.map a.eval) := fun y => by
        cases y with
        | none => trivial
        | some y => exact hF.ev y
      simp only [opEval] at he
      split at he
      · obtain ⟨h1, rfl⟩ := mp he
        exact opOk_run hS n (slice_sound h1 (hF.ev x) (hrel lo) (hrel hi))
      · obtain ⟨h1, rfl⟩ := mp he
        exact opOk_run hS n (slice_sound h1 (hF.ev x) (hrel lo) (hrel hi))
      · exact lit he
  | makeSlice t l c => exact makeSlice_sound hS hn he (hF.ev l) (hF.ev c)
  | extract x i =>
    simp only [opEval] at he
    split at he
    · rename_i cs hx
      cases e : cs[i]? with
      | none => rw [e] at he; cases he
      | some c =>
        rw [e] at he
        simp only [Option.map_some, Option.some.injEq, Prod.mk.injEq] at he
        obtain ⟨rfl, rfl⟩ := he
        have h1 := hF.ev x
        rw [hx] at h1
        generalize hv : a.eval x = v at h1
        cases h1 with
        | @tup _ vs hl hvv =>
          have hlt : i < vs.size := by
            rcases Nat.lt_or_ge i cs.length with h3 | h3
            · omega
            · rw [List.getElem?_eq_none h3] at e; cases e
          have h2 := hvv i c e
          have h3 : (execOp a.eval ⟨dst, .extract x i, ty, pos, after, guard⟩).run P w = .ok (.value (vs.getD i undef)) w := by
            simp [execOp, hv, Instr.extract, hlt]
          rw [h3]
          exact opOk_same hS n h2
    · exact lit he
  | binOp op t x y yt =>
    simp only [opEval] at he
    split at he
    · rename_i c hc
      simp only [Option.some.injEq, Prod.mk.injEq] at he
      obtain ⟨rfl, rfl⟩ := he
      exact opOk_run hS n (nil_sound (ox := x) (oy := y) hc (hF.ev x) (hF.ev y))
    · exact lit he
  | makeInterface t x =>
    simp only [opEval] at he
    split at he
    · rename_i c hc
      simp only [Option.some.injEq, Prod.mk.injEq] at he
      obtain ⟨rfl, rfl⟩ := he
      exact lit_sound hS hF n hc
    · obtain ⟨h1, rfl⟩ := mp he
      exact opOk_run hS n (iface_sound h1 (hF.ev x))
  | makeFunc f xs ys =>
    simp only [opEval] at he
    split at he
    · rename_i c hc
      simp only [Option.some.injEq, Prod.mk.injEq] at he
      obtain ⟨rfl, rfl⟩ := he
      exact lit_sound hS hF n hc
    · simp only [Option.some.injEq, Prod.mk.injEq] at he
      obtain ⟨rfl, rfl⟩ := he
      have h3 : (execOp a.eval ⟨dst, .makeFunc f xs ys, ty, pos, after, guard⟩).run P w = .ok (.value (.func f (xs.map a.eval) (ys.map a.eval))) w := by
        simp [execOp, Instr.makeFunc]
      rw [h3]
      exact opOk_same hS n (func_sound hF f xs ys)
  | typeAssert x xt t ok =>
    simp only [opEval] at he
    split at he
    · obtain ⟨h1, rfl⟩ := mp he
      exact opOk_run hS n (assert_sound h1 (hF.ev x))
    · exact lit he
  | makeMap t r =>
    cases r with
    | some _ => exact lit he
    | none =>
      simp only [opEval, Option.some.injEq, Prod.mk.injEq] at he
      obtain ⟨rfl, rfl⟩ := he
      obtain ⟨s1, s2⟩ := sim_newmap hS hn (w' := { w with heap := w.heap.push (.map #[] 0) }) rfl ⟨rfl, rfl, rfl⟩
      refine ⟨.map (some w.heap.size), _, _, .inl ?_, s1, ?_, s2⟩
      · simp [execOp, Instr.makeMap]
      · refine .mp (.inr rfl) (fun k hk => ?_) (by unfold upd; rw [if_pos rfl])
        rw [hget_cons, if_pos rfl] at hk
        cases hk; exact Nat.le_refl _
  | mapUpdate t m k x =>
    simp only [opEval] at he
    cases e : mapUpdateEval P h t (ev fr m) (ev fr k) (ev fr x) with
    | none => rw [e] at he; cases he
    | some h2 =>
      rw [e] at he
      simp only [Option.map_some, Option.some.injEq, Prod.mk.injEq] at he
      obtain ⟨rfl, rfl⟩ := he
      obtain ⟨w', hr, s1, s2⟩ := mapUpdate_sound hS e (hF.ev m) (hF.ev k) (hF.ev x)
      refine ⟨undef, β, w', .inr ⟨by simp [execOp, hr], rfl⟩, s1.more fun _ h => .inl h, .lit _, s2⟩
  | insert t m k x =>
    simp only [opEval] at he
    cases e : mapUpdateEval P h t (ev fr m) (ev fr k) (ev fr x) with
    | none => rw [e] at he; cases he
    | some h2 =>
      rw [e] at he
      simp only [Option.map_some, Option.some.injEq, Prod.mk.injEq] at he
      obtain ⟨rfl, rfl⟩ := he
      obtain ⟨w', hr, s1, s2⟩ := mapUpdate_sound hS e (hF.ev m) (hF.ev k) (hF.ev x)
      refine ⟨undef, β, w', .inr ⟨by simp [execOp, hr], rfl⟩, s1.more fun _ h => .inl h, .lit _, s2⟩
  | lookup t x i ok =>
    simp only [opEval] at he
    split at he
    · obtain ⟨h1, rfl⟩ := mp he
      exact opOk_run hS n (lookup_sound hS h1 (hF.ev x) (hF.ev i))
    · exact lit he
  | call c =>
    obtain ⟨callee, args, ts⟩ := c
    cases callee with
    | builtin b =>
      cases b with
      | len =>
        simp only [opEval] at he
        split at he
        · rename_i x t hx ht
          split at he
          · rename_i c hc
            simp only [Option.some.injEq, Prod.mk.injEq] at he
            obtain ⟨rfl, rfl⟩ := he
            obtain rfl := args_one hx
            have h1 := opOk_run (P := P) hS n (len_sound (ty := ty) ht hc (hF.ev x))
            have h2 : (execOp a.eval ⟨dst, .call ⟨.builtin .len, #[x], ts⟩, ty, pos, after, guard⟩) = (do pure (Next.value (← Builtin.len_ ts ty #[a.eval x]))) := by
              simp [execOp, resolve, invoke, builtin]
            rw [h2]; exact h1
          · exact lit he
        · cases he
      | append =>
        simp only [opEval] at he
        split at he
        · rename_i s x hx
          obtain rfl := args_two hx
          have h1 := append_sound (P := P) (ty := ty) hS hn he (hF.ev s) (hF.ev x)
          have h2 : (execOp a.eval ⟨dst, .call ⟨.builtin .append, #[s, x], ts⟩, ty, pos, after, guard⟩) = (do pure (Next.value (← Builtin.append_ ts ty #[a.eval s, a.eval x]))) := by
            simp [execOp, resolve, invoke, builtin]
          rw [h2]; exact h1
        · cases he
      | _ => exact lit he
    | _ => exact lit he
  | _ => exact lit he

end
end Go.Cv
namespace Go.Cv
open Go

structure St where
  fr : Fr
  nx : Nat
  h : Heap

inductive Out where
  | ret (r : CV)
  | pan (c : CV)

/-- How a run ends, canonically: it goes on, or it panics. -/
inductive Fin where
  | nor (st : St)
  | pan (c : CV) (nx : Nat) (h : Heap)
  | at (K : List Item) (st : St)
def Fin.nx : Fin → Nat
  | .nor st => st.nx
  | .pan _ nx _ => nx
  | .at _ st => st.nx
def Fin.h : Fin → Heap
  | .nor st => st.h
  | .pan _ _ h => h
  | .at _ st => st.h

def Dx (D : Nat → Prop) (a b : Nat) : Nat → Prop := fun n => D n ∨ (a ≤ n ∧ n < b)

def OutR (D : Nat → Prop) (h : Heap) (β : Nat → Option Nat) (I : Nat → Prop) (w : World) : Out → Ending → Prop
  | .ret r, e => ∃ v, e = .returned v ∧ SimV D h β I w r v
  | .pan c, e => ∃ v, e = .panicked [{ v, recovered := false }] ∧ SimV D h β I w c v

/-- THE CONTRACT OF A FUNCTION: called with values that are as 'args' say, in a world that is as 'h' says, it ends as 'o' says, and leaves 'h''. -/
def Good (P : Program) (f : FuncId) (args : List CV) (nx : Nat) (h : Heap) (o : Out) (nx' : Nat) (h' : Heap) : Prop :=
  nx ≤ nx' ∧ (∀ (vs : Array Value) (w : World), (callFunc f vs).run P w = .ok (.enter f vs) w) ∧
  ∀ (D : Nat → Prop) (β : Nat → Option Nat) (I : Nat → Prop) (w : World) (vs : Array Value), (∀ n, D n → n < nx) → Sim D h β I w → vs.size = args.length →
    (∀ i c, args[i]? = some c → SimV D h β I w c (vs.getD i undef)) →
    Calls P f vs w fun e w' => ∃ β' I', Sim (Dx D nx nx') h' β' I' w' ∧ OutR (Dx D nx nx') h' β' I' w' o e ∧ Ext D h β I w h' β' I' w'

def putc (N : Nat) (fr : Fr) (dst : Option Tmp) (cv : CV) : Option Fr :=
  match dst with
  | none => some fr
  | some d => if d < N then some (fset fr d cv) else none

/-- Is an operation wanted? none: nobody knows. -/
def gval (fr : Fr) (all : Array Oper) (o : Oper) : Option Bool :=
  match o.guard with
  | none => some true
  | some (j, want) => match (all[j]?).bind (·.dst) with
    | none => some false
    | some d => match fget fr d with
      | .lit (.bool b) => some (b == want)
      | .lit (.tuple _) => some false
      | _ => none

/-- The next state, of an operation that is no call of a function with a body. -/
def opNext (P : Program) (N : Nat) (all : Array Oper) (base i : Nat) (o : Oper) (st : St) : Option St :=
  match gval st.fr all o with
  | some true => match opEval P (base + i) st.fr st.h o with
    | some (cv, h') => (putc N st.fr o.dst cv).map fun fr => ⟨fr, st.nx, h'⟩
    | none => none
  | some false => (putc N st.fr o.dst (.lit undef)).map fun fr => ⟨fr, st.nx, st.h⟩
  | none => none

section
variable {D : Nat → Prop} {h : Heap} {β : Nat → Option Nat} {I : Nat → Prop} {w : World} {P : Program} {N : Nat}

theorem gval_real {fr : Fr} {a : Act} {all : Array Oper} {o : Oper} {b : Bool} (hF : SimF D h β I w N fr a) (hg : gval fr all o = some b) : Region.wanted o (yielded all a.tmps) = b := by
  unfold gval at hg
  unfold Region.wanted
  split at hg
  · rename_i e
    rw [e]
    simpa using hg
  · rename_i j want e
    rw [e]
    simp only
    unfold yielded
    split at hg
    · rename_i e2
      rw [e2]
      simpa using hg
    · rename_i d e2
      rw [e2]
      simp only [Option.bind_some]
      have h1 := hF.2 d
      split at hg
      · rename_i c hc
        rw [hc] at h1
        have h2 := simv_lit h1
        rw [Array.getD_eq_getD_getElem?] at h2
        cases e3 : a.tmps[d]? with
        | none => rw [e3] at h2; simp [undef] at h2
        | some x =>
          rw [e3] at h2
          simp only [Option.getD_some] at h2
          subst h2
          simp only [Option.some.injEq] at hg
          subst hg
          simp
      · rename_i c hc
        rw [hc] at h1
        have h2 := simv_lit h1
        rw [Array.getD_eq_getD_getElem?] at h2
        simp only [Option.some.injEq] at hg
        subst hg
        cases e3 : a.tmps[d]? with
        | none => simp
        | some x =>
          rw [e3] at h2
          simp only [Option.getD_some] at h2
          subst h2
          simp
      · cases hg

theorem put_real {fr fr' : Fr} {a : Act} {dst : Option Tmp} {cv : CV} {v : Value} (hF : SimF D h β I w N fr a) (hp : putc N fr dst cv = some fr') (hv : SimV D h β I w cv v) : SimF D h β I w N fr' (a.put dst v) := by
  unfold putc at hp
  split at hp
  · cases hp; exact hF
  · split at hp
    · rename_i hd
      cases hp
      exact hF.put hd hv
    · cases hp

theorem put_defers (a : Act) (dst : Option Tmp) (v : Value) : (a.put dst v).defers = a.defers := by cases dst <;> rfl

/-- One operation that opNext tells, really. -/
theorem next_sound {all : Array Oper} {base i : Nat} {o : Oper} {st st' : St} {a : Act} {K : Act → World → Prop} (Q : Exit → Act → World → Prop) (hi : all[i]? = some o) (hS : Sim D st.h β I w) (hF : SimF D st.h β I w N st.fr a) (hn : ¬ D (base + i))
    (hne : opNext P N all base i o st = some st')
    (hk : ∀ β' a' w', Sim (plus D (base + i)) st'.h β' I w' → SimF (plus D (base + i)) st'.h β' I w' N st'.fr a' → a'.defers = a.defers → Ext D st.h β I w st'.h β' I w' → K a' w') :
    wpOp P all Q i K a w := by
  unfold wpOp
  simp only [hi]
  unfold opNext at hne
  split at hne
  · rename_i hg
    rw [if_pos (gval_real hF hg)]
    split at hne
    · rename_i cv h' he
      cases e : putc N st.fr o.dst cv with
      | none => rw [e] at hne; cases hne
      | some fr =>
        rw [e] at hne
        simp only [Option.map_some, Option.some.injEq] at hne
        subst hne
        obtain ⟨v, β', w', hr, s1, s2, s3⟩ := op_sound (P := P) hS hF hn he
        have hF' : SimF (plus D (base + i)) h' β' I w' N st.fr a := hF.mono (fun _ h => .inl h) s3.pres
        refine .inl ?_
        unfold Oper.wp
        rcases hr with hr | ⟨hr, rfl⟩
        · rw [hr]
          exact hk β' _ w' s1 (put_real hF' e s2) (put_defers ..) s3
        · rw [hr]
          exact hk β' _ w' s1 (put_real hF' e s2) (put_defers ..) s3
    · cases hne
  · rename_i hg
    rw [if_neg (by rw [gval_real hF hg]; simp)]
    cases e : putc N st.fr o.dst (.lit undef) with
    | none => rw [e] at hne; cases hne
    | some fr =>
      rw [e] at hne
      simp only [Option.map_some, Option.some.injEq] at hne
      subst hne
      have hF' : SimF (plus D (base + i)) st.h β I w N st.fr a := hF.mono (fun _ h => .inl h) (Pres.refl ..)
      exact hk β _ w (hS.more fun _ h => .inl h) (put_real hF' e (.lit _)) (put_defers ..) (Ext.refl ..)
  · cases hne

/-- What a function value names: a function, what goes ahead of the arguments, what goes behind them. -/
def fnOf : CV → Option (FuncId × List CV × List CV)
  | .lit (.func (.func f) xs ys) => some (f, xs.toList.map .lit, ys.toList.map .lit)
  | .fn (.func f) xs ys => some (f, xs, ys)
  | _ => none

theorem getD_map_lit (l : List Value) (i : Nat) (c : CV) (hi : (l.map CV.lit)[i]? = some c) : SimV D h β I w c ((l[i]?).getD undef) := by
  rw [List.getElem?_map] at hi
  cases e : l[i]? with
  | none => rw [e] at hi; cases hi
  | some x => rw [e] at hi; simp at hi; subst hi; exact .lit _

theorem fnOf_real {c : CV} {v : Value} {f : FuncId} {xs ys : List CV} (hf : fnOf c = some (f, xs, ys)) (hs : SimV D h β I w c v) :
    ∃ us vs : Array Value, v = .func (.func f) us vs ∧ xs.length = us.size ∧ (∀ i c, xs[i]? = some c → SimV D h β I w c (us.getD i undef)) ∧ ys.length = vs.size ∧ (∀ i c, ys[i]? = some c → SimV D h β I w c (vs.getD i undef)) := by
  unfold fnOf at hf
  split at hf
  · rename_i f' us vs
    have := simv_lit hs
    subst this
    simp only [Option.some.injEq, Prod.mk.injEq] at hf
    obtain ⟨rfl, rfl, rfl⟩ := hf
    exact ⟨us, vs, rfl, by simp, fun i c hi => by rw [getD_toList]; exact getD_map_lit _ i c hi, by simp, fun i c hi => by rw [getD_toList]; exact getD_map_lit _ i c hi⟩
  · rename_i f' xs' ys'
    simp only [Option.some.injEq, Prod.mk.injEq] at hf
    obtain ⟨rfl, rfl, rfl⟩ := hf
    cases hs with
    | @fn _ _ _ us vs hl hx hm hy => exact ⟨us, vs, rfl, hl, hx, hm, hy⟩
  · cases hf

/-- A call of a function that the text names, or of a function value. -/
structure CallAt (fr : Fr) (all : Array Oper) (o : Oper) (f : FuncId) (args : List CV) : Prop where
  guard : gval fr all o = some true
  shape : ∃ (x : Operand) (xs : Array Operand) (ts : Array TypeId) (us vs : List CV), o.op = .call ⟨.value x, xs, ts⟩ ∧ fnOf (ev fr x) = some (f, us, vs) ∧ us ++ (xs.toList.map (ev fr) ++ vs) = args

theorem relL_append {xs ys : List CV} {us vs : List Value} (hl : xs.length = us.length) (hx : ∀ (i : Nat) (c : CV), xs[i]? = some c → SimV D h β I w c ((us[i]?).getD undef))
    (hy : ∀ (i : Nat) (c : CV), ys[i]? = some c → SimV D h β I w c ((vs[i]?).getD undef)) : ∀ (i : Nat) (c : CV), (xs ++ ys)[i]? = some c → SimV D h β I w c (((us ++ vs)[i]?).getD undef) := by
  intro i c hi
  by_cases h1 : i < xs.length
  · rw [List.getElem?_append_left h1] at hi
    rw [List.getElem?_append_left (by omega)]
    exact hx i c hi
  · rw [List.getElem?_append_right (by omega)] at hi
    rw [List.getElem?_append_right (by omega), ← hl]
    exact hy _ c hi

theorem call_real {all : Array Oper} {o : Oper} {fr : Fr} {a : Act} (hF : SimF D h β I w N fr a) {f : FuncId} {args : List CV} (hc : CallAt fr all o f args) (hcf : ∀ (vs : Array Value) (w : World), (callFunc f vs).run P w = .ok (.enter f vs) w) :
    Region.wanted o (yielded all a.tmps) = true ∧ ∃ vs : Array Value, (execOp a.eval o).run P w = .ok (.enter f vs) w ∧ vs.size = args.length ∧ ∀ i c, args[i]? = some c → SimV D h β I w c (vs.getD i undef) := by
  obtain ⟨hg, x, xs, ts, us0, vs0, hop, hx, hargs⟩ := hc
  refine ⟨gval_real hF hg, ?_⟩
  obtain ⟨us, vs, hfx, l1, r1, l2, r2⟩ := fnOf_real hx (hF.ev x)
  refine ⟨us ++ xs.map a.eval ++ vs, ?_, ?_, ?_⟩
  · obtain ⟨dst, op, ty, pos, after, guard⟩ := o
    simp only at hop
    subst hop
    simp only [execOp, resolve, Deferred.ofValue, hfx, Sem.run_bind, Sem.run_pure, Result.andThen_ok, invoke]
    exact hcf _ _
  · rw [← hargs]; simp; omega
  · intro i c hi
    rw [← hargs] at hi
    rw [getD_toList]
    have e : (us ++ xs.map a.eval ++ vs).toList = us.toList ++ ((xs.map a.eval).toList ++ vs.toList) := by simp
    rw [e]
    refine relL_append (by simpa using l1) (fun i c hi => by rw [← getD_toList]; exact r1 i c hi) (relL_append (by simp) (fun i c hi => ?_) (fun i c hi => by rw [← getD_toList]; exact r2 i c hi)) i c hi
    rw [List.getElem?_map] at hi
    rw [Array.toList_map, List.getElem?_map]
    cases e : xs.toList[i]? with
    | none => rw [e] at hi; cases hi
    | some y =>
      rw [e] at hi
      simp only [Option.map_some, Option.some.injEq] at hi
      subst hi
      exact hF.ev y

theorem call_sound {all : Array Oper} {i : Nat} {o : Oper} {st : St} {fr' : Fr} {a : Act} {K : Act → World → Prop} (Q : Exit → Act → World → Prop) (hi : all[i]? = some o) (hS : Sim D st.h β I w) (hF : SimF D st.h β I w N st.fr a) (hD : ∀ n, D n → n < st.nx)
    {f : FuncId} {args : List CV} {r : CV} {nx' : Nat} {h' : Heap} (hc : CallAt st.fr all o f args) (hG : Good P f args st.nx st.h (.ret r) nx' h') (hp : putc N st.fr o.dst r = some fr')
    (hk : ∀ β' I' a' w', Sim (Dx D st.nx nx') h' β' I' w' → SimF (Dx D st.nx nx') h' β' I' w' N fr' a' → a'.defers = a.defers → Ext D st.h β I w h' β' I' w' → K a' w') :
    wpOp P all Q i K a w := by
  obtain ⟨hle, hcf, hG⟩ := hG
  obtain ⟨hw, vs, hexec, hsz, hvs⟩ := call_real (P := P) hF hc hcf
  unfold wpOp
  simp only [hi]
  rw [if_pos hw]
  refine .inl ?_
  unfold Oper.wp
  rw [hexec]
  simp only [Oper.upon]
  refine (hG D β I w vs hD hS hsz hvs).mono ?_
  rintro e w' ⟨β', I', s1, ⟨v, rfl, s2⟩, s3⟩
  simp only
  exact hk β' I' _ w' s1 (put_real (hF.mono (fun _ h => .inl h) s3.pres) hp s2) (put_defers ..) s3

theorem call_pan {all : Array Oper} {i : Nat} {o : Oper} {st : St} {a : Act} {K : Act → World → Prop} (Q : Exit → Act → World → Prop) (hi : all[i]? = some o) (hS : Sim D st.h β I w) (hF : SimF D st.h β I w N st.fr a) (hD : ∀ n, D n → n < st.nx)
    {f : FuncId} {args : List CV} {r : CV} {nx' : Nat} {h' : Heap} (hc : CallAt st.fr all o f args) (hG : Good P f args st.nx st.h (.pan r) nx' h')
    (hk : ∀ β' I' v w', Sim (Dx D st.nx nx') h' β' I' w' → SimV (Dx D st.nx nx') h' β' I' w' r v → Ext D st.h β I w h' β' I' w' → Q (.panic [{ v, recovered := false }]) a w') :
    wpOp P all Q i K a w := by
  obtain ⟨hle, hcf, hG⟩ := hG
  obtain ⟨hw, vs, hexec, hsz, hvs⟩ := call_real (P := P) hF hc hcf
  unfold wpOp
  simp only [hi]
  rw [if_pos hw]
  refine .inl ?_
  unfold Oper.wp
  rw [hexec]
  simp only [Oper.upon]
  refine (hG D β I w vs hD hS hsz hvs).mono ?_
  rintro e w' ⟨β', I', s1, ⟨v, rfl, s2⟩, s3⟩
  simp only
  exact hk β' I' v w' s1 s2 s3

def isIface : CV → Bool
  | .ifc .. => true
  | .lit (.iface ..) => true
  | _ => false
theorem isIface_real {c : CV} {v : Value} (hc : isIface c = true) (hs : SimV D h β I w c v) : ∃ t u, v = .iface t u := by
  unfold isIface at hc
  split at hc
  · cases hs with
    | ifc => exact ⟨_, _, rfl⟩
  · have := simv_lit hs; subst this; exact ⟨_, _, rfl⟩
  · cases hc

theorem panic_sound {all : Array Oper} {i : Nat} {o : Oper} {fr : Fr} {a : Act} {x : Operand} {K : Act → World → Prop} (Q : Exit → Act → World → Prop) (hi : all[i]? = some o) (hF : SimF D h β I w N fr a)
    (hg : gval fr all o = some true) (hop : o.op = .panic x) (hx : isIface (ev fr x) = true) (hk : ∀ v, SimV D h β I w (ev fr x) v → Q (.panic [{ v, recovered := false }]) a w) : wpOp P all Q i K a w := by
  have h1 := hF.ev x
  obtain ⟨t, u, hv⟩ := isIface_real hx h1
  unfold wpOp
  simp only [hi]
  rw [if_pos (gval_real hF hg)]
  refine .inl ?_
  unfold Oper.wp
  have hexec : (execOp a.eval o).run P w = .halt (.panic (a.eval x)) w := by
    obtain ⟨dst, op, ty, pos, after, guard⟩ := o
    simp only at hop
    subst hop
    simp [execOp, Instr.panic, hv, goPanic]
  rw [hexec]
  exact hk _ h1

/-- How a region that draws is run: the canonical order, how many of it only look or make memory, which of these make it (the ahead part), which calls act, and what memory (of the ahead part) an acting operation may come ahead of. -/
structure Mode where
  perm : List Nat
  np : Nat
  ab : List Nat
  eff : List Nat
  free : List (Nat × List Nat)
  ov : List Nat
  wb : List (Nat × Nat)
  add : List Nat

def Mode.frees (m : Mode) (i : Nat) : List Nat := ((m.free.find? (fun p => p.1 == i)).map (·.2)).getD []

def isW : Op → Bool
  | .store .. | .mapUpdate .. | .insert .. | .call ⟨.builtin .append, _, _⟩ => true
  | _ => false

def keepOk (mode : Option Mode) (base i : Nat) (h h' : Heap) : Prop :=
  match mode with
  | none => True
  | some m => ∀ j ∈ m.frees i, hget h' (base + j) = hget h (base + j)
def callOk (mode : Option Mode) (base i : Nat) (nx : Nat) (h : Heap) (nx' : Nat) (h' : Heap) : Prop :=
  match mode with
  | none => True
  | some m => if i ∈ m.eff then (∀ j ∈ m.frees i, hget h' (base + j) = hget h (base + j)) ∧ (i ∈ m.add → ∀ n, n < nx → hget h' n = hget h n) else nx' = nx ∧ h' = h

/-- A region's text, canonically. -/
inductive Tr (P : Program) (N : Nat) (mode : Option Mode) (all : Array Oper) (base : Nat) : List Nat → St → Fin → Prop
  | nil {st : St} : Tr P N mode all base [] st (.nor st)
  | op {i : Nat} {o : Oper} {rest : List Nat} {st st1 : St} {F : Fin} (ho : all[i]? = some o) (hn : opNext P N all base i o st = some st1) (hm : isW o.op = true → keepOk mode base i st.h st1.h) (ht : Tr P N mode all base rest st1 F) :
      Tr P N mode all base (i :: rest) st F
  | call {i : Nat} {o : Oper} {rest : List Nat} {st : St} {F : Fin} {f : FuncId} {args : List CV} {r : CV} {nx' : Nat} {h' : Heap} {fr' : Fr} (ho : all[i]? = some o) (hc : CallAt st.fr all o f args) (hG : Good P f args st.nx st.h (.ret r) nx' h')
      (hp : putc N st.fr o.dst r = some fr') (hm : callOk mode base i st.nx st.h nx' h') (ht : Tr P N mode all base rest ⟨fr', nx', h'⟩ F) : Tr P N mode all base (i :: rest) st F
  | callPan {i : Nat} {o : Oper} {rest : List Nat} {st : St} {f : FuncId} {args : List CV} {r : CV} {nx' : Nat} {h' : Heap} (ho : all[i]? = some o) (hc : CallAt st.fr all o f args) (hG : Good P f args st.nx st.h (.pan r) nx' h')
      (hm : ∀ m, mode = some m → i ∈ m.eff) : Tr P N mode all base (i :: rest) st (.pan r nx' h')
  | panic {i : Nat} {o : Oper} {rest : List Nat} {st : St} {x : Operand} (ho : all[i]? = some o) (hg : gval st.fr all o = some true) (hop : o.op = .panic x) (hx : isIface (ev st.fr x) = true)
      (hm : ∀ m, mode = some m → i ∈ m.eff) : Tr P N mode all base (i :: rest) st (.pan (ev st.fr x) st.nx st.h)

theorem opNext_nx {all : Array Oper} {base i : Nat} {o : Oper} {st st' : St} (hn : opNext P N all base i o st = some st') : st'.nx = st.nx := by
  unfold opNext at hn
  split at hn
  · split at hn
    · rename_i cv h' _
      cases e : putc N st.fr o.dst cv with
      | none => rw [e] at hn; cases hn
      | some fr => rw [e] at hn; simp only [Option.map_some, Option.some.injEq] at hn; subst hn; rfl
    · cases hn
  · cases e : putc N st.fr o.dst (.lit undef) with
    | none => rw [e] at hn; cases hn
    | some fr => rw [e] at hn; simp only [Option.map_some, Option.some.injEq] at hn; subst hn; rfl
  · cases hn

theorem Tr.nx_le {mode : Option Mode} {all : Array Oper} {base : Nat} {l : List Nat} {st : St} {F : Fin} (ht : Tr P N mode all base l st F) : st.nx ≤ F.nx := by
  induction ht with
  | nil => exact Nat.le_refl _
  | op _ hn _ _ ih => rw [opNext_nx hn] at ih; exact ih
  | call _ _ hG _ _ _ ih => exact Nat.le_trans hG.1 ih
  | callPan _ _ hG _ => exact hG.1
  | panic => exact Nat.le_refl _

/-- What holds when a piece of text has run. -/
structure RanTo (D : Nat → Prop) (h : Heap) (β : Nat → Option Nat) (I : Nat → Prop) (w : World) (nx : Nat) (F : Fin) (D' : Nat → Prop) (β' : Nat → Option Nat) (I' : Nat → Prop) (w' : World) : Prop where
  mono : ∀ n, D n → D' n
  new : ∀ n, D' n → D n ∨ (nx ≤ n ∧ n < F.nx)
  sim : Sim D' F.h β' I' w'
  ext : Ext D h β I w F.h β' I' w'
/-- The frame, and how the region is left. -/
def Left (D : Nat → Prop) (h : Heap) (β : Nat → Option Nat) (I : Nat → Prop) (w : World) (N : Nat) (ds : List Deferred) : Fin → Exit → Act → Prop
  | .nor st, e, a => e = .normal ∧ SimF D h β I w N st.fr a ∧ a.defers = ds
  | .at _ st, e, a => e = .normal ∧ SimF D h β I w N st.fr a ∧ a.defers = ds
  | .pan c _ _, e, a => a.defers = ds ∧ ∃ v, e = .panic [{ v, recovered := false }] ∧ SimV D h β I w c v
def Ran (D : Nat → Prop) (h : Heap) (β : Nat → Option Nat) (I : Nat → Prop) (w : World) (N : Nat) (ds : List Deferred) (nx : Nat) (F : Fin) (e : Exit) (a' : Act) (w' : World) : Prop :=
  ∃ D' β' I', RanTo D h β I w nx F D' β' I' w' ∧ Left D' F.h β' I' w' N ds F e a'

theorem Ran.before {D2 : Nat → Prop} {h2 : Heap} {β2 : Nat → Option Nat} {I2 : Nat → Prop} {w2 : World} {ds : List Deferred} {nx nx2 : Nat} {F : Fin} {e : Exit} {a' : Act} {w' : World} (hD : ∀ n, D n → D2 n) (hD2 : ∀ n, D2 n → D n ∨ (nx ≤ n ∧ n < F.nx)) (hx : nx ≤ nx2) (he : Ext D h β I w h2 β2 I2 w2)
    (hr : Ran D2 h2 β2 I2 w2 N ds nx2 F e a' w') : Ran D h β I w N ds nx F e a' w' := by
  obtain ⟨D', β', I', ⟨q1, q2, q3, q4⟩, q5⟩ := hr
  refine ⟨D', β', I', ⟨fun n hn => q1 n (hD n hn), fun n hn => ?_, q3, he.trans hD q4⟩, q5⟩
  rcases q2 n hn with h1 | h1
  · exact hD2 n h1
  · right; omega

/-- A region in the order of its text. -/
theorem tr_sound {mode : Option Mode} {all : Array Oper} {base : Nat} {l : List Nat} {st : St} {F : Fin} {ds : List Deferred} (ht : Tr P N mode all base l st F) (hb : base + all.size ≤ st.nx) :
    ∀ (D : Nat → Prop) (β : Nat → Option Nat) (I : Nat → Prop) (a : Act) (w : World) (Q : Exit → Act → World → Prop), (∀ n, D n → n < st.nx) → l.Nodup → (∀ j ∈ l, j < all.size ∧ ¬ D (base + j)) → Sim D st.h β I w → SimF D st.h β I w N st.fr a → a.defers = ds →
      (∀ e a' w', Ran D st.h β I w N ds base F e a' w' → Q e a' w') → wpOps P all Q l a w := by
  have lt : ∀ {i : Nat} {o : Oper}, all[i]? = some o → i < all.size := fun {i o} ho => by
    rcases Nat.lt_or_ge i all.size with h1 | h1
    · exact h1
    · rw [Array.getElem?_eq_none h1] at ho; cases ho
  induction ht with
  | @nil st =>
    intro D β I a w Q hD hnd hf hS hF hd hQ
    simp only [wpOps]
    exact hQ _ a w ⟨D, β, I, ⟨fun _ h => h, fun _ h => .inl h, hS, Ext.refl ..⟩, rfl, hF, hd⟩
  | @op i o rest st st1 F ho hn hm ht ih =>
    intro D β I a w Q hD hnd hf hS hF hd hQ
    rw [wpOps_cons]
    rw [List.nodup_cons] at hnd
    refine next_sound (base := base) Q ho hS hF (hf i (by simp)).2 hn fun β' a' w' s1 s2 s3 s4 => ?_
    have hnx := opNext_nx hn
    have hisz := lt ho
    refine ih (by rw [hnx]; exact hb) (plus D (base + i)) β' I a' w' Q ?_ hnd.2 ?_ s1 s2 (s3.trans hd) ?_
    · rintro n (h1 | h1)
      · rw [hnx]; exact hD n h1
      · rw [hnx]; omega
    · intro j hj
      refine ⟨(hf j (by simp [hj])).1, ?_⟩
      rintro (h1 | h1)
      · exact (hf j (by simp [hj])).2 h1
      · exact hnd.1 (by rw [show i = j from by omega]; exact hj)
    · intro e a2 w2 hr
      refine hQ e a2 w2 (Ran.before (fun _ h => .inl h) (fun n hn2 => ?_) (Nat.le_refl _) s4 hr)
      rcases hn2 with h1 | h1
      · exact .inl h1
      · right
        have := ht.nx_le
        omega
  | @call i o rest st F f args r nx' h' fr' ho hc hG hp _ ht ih =>
    intro D β I a w Q hD hnd hf hS hF hd hQ
    have hle := hG.1
    rw [wpOps_cons]
    rw [List.nodup_cons] at hnd
    refine call_sound Q ho hS hF hD hc hG hp fun β' I' a' w' s1 s2 s3 s4 => ?_
    refine ih (by simp only; omega) (Dx D st.nx nx') β' I' a' w' Q ?_ hnd.2 ?_ s1 s2 (s3.trans hd) ?_
    · rintro n (h1 | h1)
      · have := hD n h1; simp only; omega
      · simp only; omega
    · intro j hj
      have h3 := hf j (by simp [hj])
      refine ⟨h3.1, ?_⟩
      rintro (h1 | h1)
      · exact h3.2 h1
      · omega
    · intro e a2 w2 hr
      refine hQ e a2 w2 (Ran.before (fun _ h => .inl h) (fun n hn2 => ?_) (Nat.le_refl _) s4 hr)
      rcases hn2 with h1 | h1
      · exact .inl h1
      · right
        have := ht.nx_le
        simp only at this
        omega
  | @callPan i o rest st f args r nx' h' ho hc hG _ =>
    intro D β I a w Q hD hnd hf hS hF hd hQ
    rw [wpOps_cons]
    refine call_pan Q ho hS hF hD hc hG fun β' I' v w' s1 s2 s3 => ?_
    refine hQ _ a w' ⟨Dx D st.nx nx', β', I', ⟨fun _ h => .inl h, fun n hn => ?_, s1, s3⟩, hd, v, rfl, s2⟩
    rcases hn with h1 | h1
    · exact .inl h1
    · right; simp only [Fin.nx]; omega
  | @panic i o rest st x ho hg hop hx _ =>
    intro D β I a w Q hD hnd hf hS hF hd hQ
    rw [wpOps_cons]
    refine panic_sound Q ho hF hg hop hx fun v hv => ?_
    exact hQ _ a w ⟨D, β, I, ⟨fun _ h => h, fun _ h => .inl h, hS, Ext.refl ..⟩, hd, v, rfl, hv⟩
end
end Go.Cv
namespace Go.Cv
open Go

def isAB : Op → Bool
  | .alloc _ | .box .. | .buildSlice .. | .makeSlice .. | .makeMap _ none => true
  | _ => false
def isFree : Op → Bool
  | .alloc _ | .makeSlice .. | .makeMap _ none => true
  | _ => false
def isPan : Op → Bool
  | .panic _ => true
  | _ => false
def isCallV : Op → Bool
  | .call ⟨.value _, _, _⟩ => true
  | _ => false

section
variable {P : Program} {N : Nat} {all : Array Oper}

theorem ev_congr {fr fr' : Fr} {o : Oper} (h : ∀ t ∈ o.looksAt all, fget fr t = fget fr' t) {x : Operand} (hx : x ∈ o.op.operands) : ev fr x = ev fr' x := by
  cases x with
  | tmp t =>
    refine h t ?_
    unfold Oper.looksAt
    simp only [List.mem_append, List.mem_filterMap]
    exact .inl ⟨.tmp t, by simpa using hx, rfl⟩
  | _ => rfl

theorem gval_congr {fr fr' : Fr} {o : Oper} (h : ∀ t ∈ o.looksAt all, fget fr t = fget fr' t) : gval fr all o = gval fr' all o := by
  unfold gval
  cases hg : o.guard with
  | none => rfl
  | some g =>
    obtain ⟨j, want⟩ := g
    simp only
    cases e : (all[j]?).bind (·.dst) with
    | none => rfl
    | some d =>
      simp only
      have : fget fr d = fget fr' d := h d (by
        unfold Oper.looksAt
        simp only [List.mem_append]
        right
        rw [hg]
        simp only
        rw [e]; simp)
      rw [this]

theorem litEval_congr {fr fr' : Fr} {o : Oper} (h : ∀ x ∈ o.op.operands, ev fr x = ev fr' x) : litEval P fr o = litEval P fr' o := by
  unfold litEval
  have h1 : (o.op.operands.all fun x => (toVal (ev fr x)).isSome) = (o.op.operands.all fun x => (toVal (ev fr' x)).isSome) := by
    rw [Bool.eq_iff_iff]
    simp only [Array.all_eq_true']
    exact ⟨fun hh x hx => by rw [← h x hx]; exact hh x hx, fun hh x hx => by rw [h x hx]; exact hh x hx⟩
  rw [h1]
  by_cases hs : noSel o.op = true
  · have h2 : execOp (litEnv fr) o = execOp (litEnv fr') o := by
      refine execOp_congr o (fun cs b e => by rw [e] at hs; simp [noSel] at hs) fun x hx => ?_
      unfold litEnv; rw [h x hx]
    rw [h2]
  · simp [hs]

theorem map_congr_op {fr fr' : Fr} {xs : Array Operand} (h : ∀ x ∈ xs, ev fr x = ev fr' x) : xs.toList.map (ev fr) = xs.toList.map (ev fr') :=
  List.map_congr_left fun x hx => h x (by simpa using hx)

theorem opEval_congr {fr fr' : Fr} {o : Oper} (h : ∀ x ∈ o.op.operands, ev fr x = ev fr' x) (n : Nat) (hp : Heap) : opEval P n fr hp o = opEval P n fr' hp o := by
  have hl := litEval_congr (P := P) h
  obtain ⟨dst, op, ty, pos, after, guard⟩ := o
  have parts : ∀ ps : Array (Nat × Operand), (∀ x ∈ (ps.toList.map (·.2)).toArray, ev fr x = ev fr' x) → partsC fr ps = partsC fr' ps := fun ps hh => by
    unfold partsC
    refine List.map_congr_left fun p hp => ?_
    rw [hh p.2 (by simp; exact ⟨p.1, by simpa using hp⟩)]
  cases op with
  | move x => simp only [opEval, h x (by simp [Op.operands])]
  | assign x => simp only [opEval, h x (by simp [Op.operands])]
  | pick c x y => simp only [opEval, h c (by simp [Op.operands]), h x (by simp [Op.operands]), h y (by simp [Op.operands])]
  | alloc e => rfl
  | box e x => simp only [opEval, h x (by simp [Op.operands])]
  | build t ps => simp only [opEval, parts ps h]
  | buildSlice t len ps => simp only [opEval, parts ps h]
  | load t x => simp only [opEval, h x (by simp [Op.operands])]
  | store t x y => simp only [opEval, h x (by simp [Op.operands]), h y (by simp [Op.operands])]
  | nilCheck x => simp only [opEval, h x (by simp [Op.operands]), hl]
  | fieldAddr t x f => simp only [opEval, h x (by simp [Op.operands])]
  | field t x f => simp only [opEval, h x (by simp [Op.operands])]
  | indexAddr t x i => simp only [opEval, h x (by simp [Op.operands]), h i (by simp [Op.operands])]
  | index t x i => simp only [opEval, h x (by simp [Op.operands]), h i (by simp [Op.operands]), hl]
  | slice t x lo hi mx =>
    have e1 := h x (by simp [Op.operands])
    have e2 : lo.map (ev fr) = lo.map (ev fr') := by
      cases lo with
      | none => rfl
      | some y => simp only [Option.map_some, h y (by simp [Op.operands])]
    have e3 : hi.map (ev fr) = hi.map (ev fr') := by
      cases hi with
      | none => rfl
      | some y => simp only [Option.map_some, h y (by simp [Op.operands])]
    cases mx <;> simp only [opEval, e1, e2, e3, hl]
  | makeSlice t l c => simp only [opEval, h l (by simp [Op.operands]), h c (by simp [Op.operands])]
  | extract x i => simp only [opEval, h x (by simp [Op.operands]), hl]
  | binOp op t x y yt => simp only [opEval, h x (by simp [Op.operands]), h y (by simp [Op.operands]), hl]
  | makeInterface t x => simp only [opEval, h x (by simp [Op.operands]), hl]
  | makeFunc f xs ys =>
    simp only [opEval, hl, map_congr_op (xs := xs) (fun x hx => h x (by simp [Op.operands, hx])), map_congr_op (xs := ys) (fun x hx => h x (by simp [Op.operands, hx]))]
  | typeAssert x xt t ok => simp only [opEval, h x (by simp [Op.operands]), hl]
  | makeMap t r =>
    cases r with
    | none => rfl
    | some y => simp only [opEval, hl]
  | mapUpdate t m k x => simp only [opEval, h m (by simp [Op.operands]), h k (by simp [Op.operands]), h x (by simp [Op.operands])]
  | insert t m k x => simp only [opEval, h m (by simp [Op.operands]), h k (by simp [Op.operands]), h x (by simp [Op.operands])]
  | lookup t x i ok => simp only [opEval, h x (by simp [Op.operands]), h i (by simp [Op.operands]), hl]
  | call c =>
    obtain ⟨callee, args, ts⟩ := c
    cases callee with
    | builtin b =>
      have ha : ∀ x ∈ args.toList, ev fr x = ev fr' x := fun x hx => h x (by simp [Op.operands, Call.operands]; simpa using hx)
      cases b with
      | len =>
        simp only [opEval]
        split
        · rename_i x t hx _
          rw [ha x (by rw [hx]; simp), hl]
        · rfl
      | append =>
        simp only [opEval]
        split
        · rename_i s x hx
          rw [ha s (by rw [hx]; simp), ha x (by rw [hx]; simp)]
        · rfl
      | _ => simp only [opEval, hl]
    | _ => simp only [opEval, hl]
  | _ => simp only [opEval, hl]

/-- What an operation gives, and the heap then. -/
def opVal (P : Program) (all : Array Oper) (n : Nat) (fr : Fr) (h : Heap) (o : Oper) : Option (CV × Heap) :=
  match gval fr all o with
  | some true => opEval P n fr h o
  | some false => some (.lit undef, h)
  | none => none

theorem opNext_eq (base i : Nat) (o : Oper) (st : St) : opNext P N all base i o st = (opVal P all (base + i) st.fr st.h o).bind fun p => (putc N st.fr o.dst p.1).map fun fr => ⟨fr, st.nx, p.2⟩ := by
  unfold opNext opVal
  cases gval st.fr all o with
  | none => rfl
  | some b =>
    cases b
    · rfl
    · simp only
      cases opEval P (base + i) st.fr st.h o with
      | none => rfl
      | some p => rfl

theorem opVal_congr {fr fr' : Fr} {o : Oper} (h : ∀ t ∈ o.looksAt all, fget fr t = fget fr' t) (n : Nat) (hp : Heap) : opVal P all n fr hp o = opVal P all n fr' hp o := by
  unfold opVal
  rw [gval_congr h, opEval_congr (fun x hx => ev_congr h hx)]

theorem opEval_L {n : Nat} {fr : Fr} {h h' : Heap} {o : Oper} {cv : CV} (hw : isW o.op = false) (ha : isAB o.op = false) (he : opEval P n fr h o = some (cv, h')) : h' = h := by
  have mp : ∀ {x : Option CV} {cv h'}, x.map (·, h) = some (cv, h') → h' = h := by
    intro x cv h' he
    cases x with
    | none => cases he
    | some c => cases he; rfl
  obtain ⟨dst, op, ty, pos, after, guard⟩ := o
  cases op with
  | alloc => simp [isAB] at ha
  | box => simp [isAB] at ha
  | buildSlice => simp [isAB] at ha
  | makeSlice => simp [isAB] at ha
  | store => simp [isW] at hw
  | mapUpdate => simp [isW] at hw
  | insert => simp [isW] at hw
  | makeMap t r =>
    cases r with
    | none => simp [isAB] at ha
    | some y => exact mp he
  | call c =>
    obtain ⟨callee, args, ts⟩ := c
    cases callee with
    | builtin b =>
      cases b with
      | append => simp [isW] at hw
      | len =>
        simp only [opEval] at he
        split at he
        · split at he
          · cases he; rfl
          · exact mp he
        · cases he
      | _ => exact mp he
    | _ => exact mp he
  | slice t x lo hi mx =>
    cases mx with
    | some _ => exact mp he
    | none =>
      simp only [opEval] at he
      split at he <;> exact mp he
  | _ =>
    first
      | exact mp he
      | (simp only [opEval] at he
         first
           | (cases he; rfl)
           | (repeat' split at he
              all_goals first | (cases he; done) | (cases he; rfl) | exact mp he))

theorem one_mono {h h2 : Heap} (hm : ∀ n k, hget h n = some k → hget h2 n = some k) {c : CV} (hc : one h c = true) : one h2 c = true := by
  cases c with
  | ptr b g off =>
    simp only [one] at hc ⊢
    split at hc
    · rename_i k hk; rw [hm _ _ hk]; exact hc
    · cases hc
  | sl b g off len sz =>
    simp only [one] at hc ⊢
    split at hc
    · rename_i k hk; rw [hm _ _ hk]; exact hc
    · cases hc
  | mp b g =>
    simp only [one] at hc ⊢
    split at hc
    · rename_i k hk; rw [hm _ _ hk]; exact hc
    · cases hc
  | _ => exact hc
theorem cellsOf_mono {h h2 : Heap} (hm : ∀ n k, hget h n = some k → hget h2 n = some k) {c : CV} {cs : List CV} (hc : cellsOf h c = some cs) : cellsOf h2 c = some cs := by
  cases c with
  | agg l =>
    simp only [cellsOf] at hc ⊢
    split at hc
    · rename_i hall
      cases hc
      rw [if_pos]
      exact List.all_eq_true.2 fun x hx => one_mono hm (List.all_eq_true.1 hall x hx)
    · cases hc
  | _ =>
    simp only [cellsOf] at hc ⊢
    split at hc
    · rename_i h1
      cases hc
      rw [if_pos (one_mono hm h1)]
    · cases hc
theorem fillC_mono {h h2 : Heap} (hm : ∀ n k, hget h n = some k → hget h2 n = some k) (place : Nat → Option (Nat × Nat)) : ∀ (ps : List (Nat × CV)) (cells cs : List CV), fillC h place cells ps = some cs → fillC h2 place cells ps = some cs
  | [], cells, cs, he => he
  | (i, v) :: ps, cells, cs, he => by
    simp only [fillC] at he ⊢
    split at he
    · cases he
    · rename_i off size hpl
      split at he
      · cases he
      · rename_i l hl
        rw [cellsOf_mono hm hl]
        simp only
        split at he
        · rename_i hc
          rw [if_pos hc]
          exact fillC_mono hm place ps _ cs he
        · cases he

/-- What makes memory, makes it ahead of the heap, and reads the heap only as to what is live. -/
theorem opEval_AB {n : Nat} {fr : Fr} {h h' : Heap} {o : Oper} {cv : CV} (ha : isAB o.op = true) (he : opEval P n fr h o = some (cv, h')) :
    ∃ k, h' = (n, k) :: h ∧ k.gen = 0 ∧ (∀ h2, (∀ m k, hget h m = some k → hget h2 m = some k) → opEval P n fr h2 o = some (cv, (n, k) :: h2)) ∧ (isFree o.op = true → ∀ h2, opEval P n fr h2 o = some (cv, (n, k) :: h2)) := by
  obtain ⟨dst, op, ty, pos, after, guard⟩ := o
  cases op with
  | alloc e =>
    simp only [opEval, allocEval] at he ⊢
    split at he
    · split at he
      · cases he
        rename_i hz cs hcs
        exact ⟨_, rfl, rfl, fun h2 _ => rfl, fun _ h2 => rfl⟩
      · cases he
    · cases he
  | box e x =>
    simp only [opEval, boxEval] at he ⊢
    split at he
    · rename_i cs hcs
      cases he
      exact ⟨_, rfl, rfl, fun h2 hm => by rw [cellsOf_mono hm hcs], fun hf => by simp [isFree] at hf⟩
    · cases he
  | buildSlice t len ps =>
    simp only [opEval, buildSliceEval] at he ⊢
    split at he
    · split at he
      · split at he
        · split at he
          · rename_i hc
            cases e : fillC h (fun i => some (i * _, _)) (zeroRow _ len) (partsC fr ps) with
            | none => rw [e] at he; cases he
            | some cs =>
              rw [e] at he
              cases he
              exact ⟨_, rfl, rfl, fun h2 hm => by rw [if_pos hc, fillC_mono hm _ _ _ _ e]; rfl, fun hf => by simp [isFree] at hf⟩
          · cases he
        · cases he
      · cases he
    · cases he
  | makeSlice t l c =>
    simp only [opEval, makeSliceEval] at he ⊢
    split at he
    · split at he
      · split at he
        · split at he
          · rename_i hc
            cases he
            refine ⟨_, rfl, rfl, fun h2 _ => ?_, fun _ h2 => ?_⟩ <;> simp only [hc] <;> rfl
          · cases he
        · cases he
      · cases he
    · cases he
  | makeMap t r =>
    cases r with
    | none =>
      simp only [opEval, Option.some.injEq, Prod.mk.injEq] at he ⊢
      obtain ⟨rfl, rfl⟩ := he
      exact ⟨_, rfl, rfl, fun h2 _ => ⟨rfl, rfl⟩, fun _ h2 => ⟨rfl, rfl⟩⟩
    | some y => simp [isAB] at ha
  | _ => simp [isAB] at ha
end
end Go.Cv
namespace Go.Cv
open Go

section
variable {P : Program}

def SubH (h h2 : Heap) : Prop := ∀ n k, hget h n = some k → hget h2 n = some k

theorem cget_mono {h h2 : Heap} (hm : SubH h h2) {b : Nat} {k : Blk} (hk : cget h b = some k) : cget h2 b = some k := by
  obtain ⟨h1, h3⟩ := cget_spec hk
  unfold cget
  rw [hm _ _ h1]
  simp [h3]
theorem live_mono {h h2 : Heap} (hm : SubH h h2) {b g : Nat} (hl : live h b g = true) : live h2 b g = true := by
  unfold live at hl ⊢
  split at hl
  · rename_i k hk; rw [cget_mono hm hk]; exact hl
  · cases hl
theorem cellsAt_mono {h h2 : Heap} (hm : SubH h h2) {a : CV} {cs : List CV} (hc : cellsAt h a = some cs) : cellsAt h2 a = some cs := by
  unfold cellsAt at hc ⊢
  split at hc
  · split at hc
    · rename_i k hk; rw [cget_mono hm hk]; exact hc
    · cases hc
  · exact hc
  · cases hc
theorem loadEval_mono {h h2 : Heap} (hm : SubH h h2) {t : TypeId} {a cv : CV} (hl : loadEval P h t a = some cv) : loadEval P h2 t a = some cv := by
  unfold loadEval at hl ⊢
  split at hl
  · cases hl
  · rename_i cs hcs; rw [cellsAt_mono hm hcs]; exact hl
theorem ptrAdd_mono {h h2 : Heap} (hm : SubH h h2) {x cv : CV} {n : Nat} (hl : ptrAdd h x n = some cv) : ptrAdd h2 x n = some cv := by
  unfold ptrAdd at hl ⊢
  split at hl
  · split at hl
    · rename_i h1; simp only [live_mono hm h1, if_true]; exact hl
    · cases hl
  · exact hl
  · cases hl
theorem fieldAddrEval_mono {h h2 : Heap} (hm : SubH h h2) {t : TypeId} {x cv : CV} {f : Nat} (hl : fieldAddrEval P h t x f = some cv) : fieldAddrEval P h2 t x f = some cv := by
  unfold fieldAddrEval at hl ⊢
  split at hl
  · split at hl
    · split at hl
      · exact ptrAdd_mono hm hl
      · cases hl
    · cases hl
  · cases hl
theorem indexAddrEval_mono {h h2 : Heap} (hm : SubH h h2) {t : TypeId} {x i cv : CV} (hl : indexAddrEval P h t x i = some cv) : indexAddrEval P h2 t x i = some cv := by
  unfold indexAddrEval at hl ⊢
  split at hl
  · split at hl
    · split at hl
      · rename_i hc; rw [if_pos hc]; exact ptrAdd_mono hm hl
      · cases hl
    · cases hl
  · split at hl
    · split at hl
      · split at hl
        · rename_i hc; rw [if_pos ⟨live_mono hm hc.1, hc.2⟩]; exact hl
        · cases hl
      · exact hl
      · cases hl
    · cases hl
  · cases hl
theorem sliceEval_mono {h h2 : Heap} (hm : SubH h h2) {t : TypeId} {x cv : CV} {lo hi : Option CV} (hl : sliceEval P h t x lo hi = some cv) : sliceEval P h2 t x lo hi = some cv := by
  unfold sliceEval at hl ⊢
  split at hl
  · split at hl
    · split at hl
      · split at hl
        · split at hl
          · rename_i hc; rw [if_pos ⟨live_mono hm hc.1, hc.2⟩]; exact hl
          · cases hl
        · cases hl
      · exact hl
      · cases hl
    · cases hl
  · cases hl
theorem lenEval_mono {h h2 : Heap} (hm : SubH h h2) {t : TypeId} {x cv : CV} (hl : lenEval P h t x = some cv) : lenEval P h2 t x = some cv := by
  unfold lenEval at hl ⊢
  split at hl
  · split at hl
    · split at hl
      · rename_i h1; simp only [live_mono hm h1, if_true]; exact hl
      · cases hl
    · exact hl
    · exact hl
    · cases hl
  · cases hl
theorem mapLookupEval_mono {h h2 : Heap} (hm : SubH h h2) {t : TypeId} {m kc cv : CV} {ok : Bool} (hl : mapLookupEval P h t m kc ok = some cv) : mapLookupEval P h2 t m kc ok = some cv := by
  unfold mapLookupEval at hl ⊢
  split at hl
  · split at hl
    · split at hl
      · rename_i k hk; rw [hm _ _ hk]; exact hl
      · cases hl
    · cases hl
  · cases hl
theorem buildEval_mono {h h2 : Heap} (hm : SubH h h2) {t : TypeId} {ps : List (Nat × CV)} {cv : CV} (hl : buildEval P h t ps = some cv) : buildEval P h2 t ps = some cv := by
  unfold buildEval at hl ⊢
  split at hl
  · cases hl
  · split at hl
    · split at hl
      · rw [Option.map_eq_some_iff] at hl
        obtain ⟨cs, h1, rfl⟩ := hl
        rw [fillC_mono hm _ _ _ _ h1]; rfl
      · cases hl
    · split at hl
      · rw [Option.map_eq_some_iff] at hl
        obtain ⟨cs, h1, rfl⟩ := hl
        rw [fillC_mono hm _ _ _ _ h1]; rfl
      · cases hl
    · cases hl
theorem someRef_mono {h h2 : Heap} (hm : SubH h h2) {d : TypeDesc} {c : CV} (hl : someRef h d c = true) : someRef h2 d c = true := by
  unfold someRef at hl ⊢
  split at hl
  · exact live_mono hm hl
  · rfl
  · rfl
  · rfl
  · rfl
  · rfl
  · exact live_mono hm hl
  · rfl
  · split at hl
    · rename_i k hk; simp only [hm _ _ hk]; exact hl
    · cases hl
  · cases hl
theorem someRef_lit (h h2 : Heap) (d : TypeDesc) {c : CV} {v : Value} (hv : toVal c = some v) : someRef h d c = someRef h2 d c := by
  cases c with
  | lit v => cases d <;> cases v <;> rfl
  | agg cs => cases d <;> rfl
  | _ => cases hv
theorem nilEval_mono {h h2 : Heap} (hm : SubH h h2) {op : BinOp} {t : TypeId} {x y cv : CV} (hl : nilEval P h op t x y = some cv) : nilEval P h2 op t x y = some cv := by
  unfold nilEval at hl ⊢
  split at hl
  · split at hl
    · rename_i hc
      simp only [Bool.or_eq_true, Bool.and_eq_true] at hc
      rw [if_pos (by
        simp only [Bool.or_eq_true, Bool.and_eq_true]
        exact hc.imp (fun a => ⟨someRef_mono hm a.1, a.2⟩) (fun a => ⟨a.1, someRef_mono hm a.2⟩))]
      exact hl
    · cases hl
  · cases hl
theorem nilEval_lit (h h2 : Heap) {op : BinOp} {t : TypeId} {x y : CV} {v u : Value} (hx : toVal x = some v) (hy : toVal y = some u) : nilEval P h op t x y = nilEval P h2 op t x y := by
  unfold nilEval
  split
  · rw [someRef_lit h h2 _ hx, someRef_lit h h2 _ hy]
  · rfl
theorem litEval_vals {fr : Fr} {o : Oper} {cv : CV} (hl : litEval P fr o = some cv) {x : Operand} (hx : x ∈ o.op.operands) : ∃ v, toVal (ev fr x) = some v := by
  unfold litEval at hl
  split at hl
  · rename_i hc
    simp only [Bool.and_eq_true, Array.all_eq_true'] at hc
    exact Option.isSome_iff_exists.1 (hc.1 x hx)
  · cases hl

/-- A reading operation sees the same in a larger heap. -/
theorem opEval_mono {n : Nat} {fr : Fr} {h h1 : Heap} {o : Oper} {cv : CV} (hw : isW o.op = false) (ha : isAB o.op = false) (he : opEval P n fr h o = some (cv, h1)) {h2 : Heap} (hm : SubH h h2) : opEval P n fr h2 o = some (cv, h2) := by
  have mp : ∀ {x y : Option CV}, x.map (·, h) = some (cv, h1) → (∀ c, x = some c → y = some c) → y.map (·, h2) = some (cv, h2) := by
    intro x y he hxy
    cases x with
    | none => cases he
    | some c => cases he; rw [hxy _ rfl]; rfl
  have lit : (litEval P fr o).map (·, h) = some (cv, h1) → (litEval P fr o).map (·, h2) = some (cv, h2) := fun he => mp he fun _ h => h
  obtain ⟨dst, op, ty, pos, after, guard⟩ := o
  cases op with
  | move x => simp only [opEval, Option.some.injEq, Prod.mk.injEq] at he ⊢; exact ⟨he.1, trivial⟩
  | assign x => simp only [opEval, Option.some.injEq, Prod.mk.injEq] at he ⊢; exact ⟨he.1, trivial⟩
  | pick c x y =>
    simp only [opEval] at he ⊢
    split at he
    · simp only [Option.some.injEq, Prod.mk.injEq] at he ⊢; exact ⟨he.1, trivial⟩
    · cases he
  | alloc => cases ha
  | box => cases ha
  | buildSlice => cases ha
  | makeSlice => cases ha
  | store => cases hw
  | mapUpdate => cases hw
  | insert => cases hw
  | makeMap t r =>
    cases r with
    | none => cases ha
    | some y => exact lit he
  | build t ps => exact mp he fun c => buildEval_mono hm
  | load t a => exact mp he fun c => loadEval_mono hm
  | nilCheck x =>
    simp only [opEval] at he ⊢
    split at he
    · split at he
      · rename_i hl
        rw [if_pos (live_mono hm hl)]
        simp only [Option.some.injEq, Prod.mk.injEq] at he ⊢; exact ⟨he.1, trivial⟩
      · cases he
    · simp only [Option.some.injEq, Prod.mk.injEq] at he ⊢; exact ⟨he.1, trivial⟩
    · exact lit he
  | fieldAddr t x f => exact mp he fun c => fieldAddrEval_mono hm
  | field t x f => exact mp he fun c h => h
  | indexAddr t x i => exact mp he fun c => indexAddrEval_mono hm
  | index t x i =>
    simp only [opEval] at he ⊢
    split at he
    · exact mp he fun c h => h
    · exact lit he
  | slice t x lo hi mx =>
    cases mx with
    | some _ => exact lit he
    | none =>
      simp only [opEval] at he ⊢
      split at he
      · exact mp he fun c => sliceEval_mono hm
      · exact mp he fun c => sliceEval_mono hm
      · exact lit he
  | extract x i =>
    simp only [opEval] at he ⊢
    split at he
    · exact mp he fun c h => h
    · exact lit he
  | binOp op t x y yt =>
    simp only [opEval] at he ⊢
    split at he
    · rename_i c hc
      rw [nilEval_mono hm hc]
      simp only [Option.some.injEq, Prod.mk.injEq] at he ⊢; exact ⟨he.1, trivial⟩
    · rename_i hc
      cases e : litEval P fr ⟨dst, .binOp op t x y yt, ty, pos, after, guard⟩ with
      | none => rw [e] at he; cases he
      | some c =>
        obtain ⟨v, hv⟩ := litEval_vals e (x := x) (by simp [Op.operands])
        obtain ⟨u, hu⟩ := litEval_vals e (x := y) (by simp [Op.operands])
        rw [nilEval_lit h2 h hv hu, hc]
        rw [e] at he
        cases he
        rfl
  | makeInterface t x =>
    simp only [opEval] at he ⊢
    split at he
    · simp only [Option.some.injEq, Prod.mk.injEq] at he ⊢; exact ⟨he.1, trivial⟩
    · exact mp he fun c h => h
  | makeFunc f xs ys =>
    simp only [opEval] at he ⊢
    split at he
    · simp only [Option.some.injEq, Prod.mk.injEq] at he ⊢; exact ⟨he.1, trivial⟩
    · simp only [Option.some.injEq, Prod.mk.injEq] at he ⊢; exact ⟨he.1, trivial⟩
  | typeAssert x xt t ok =>
    simp only [opEval] at he ⊢
    split at he
    · exact mp he fun c h => h
    · exact lit he
  | lookup t x i ok =>
    simp only [opEval] at he ⊢
    split at he
    · exact mp he fun c => mapLookupEval_mono hm
    · exact lit he
  | call c =>
    obtain ⟨callee, args, ts⟩ := c
    cases callee with
    | builtin b =>
      cases b with
      | append => cases hw
      | len =>
        simp only [opEval] at he ⊢
        split at he
        · rename_i x t hx ht
          split at he
          · rename_i c hc
            simp only [hc, lenEval_mono hm hc, Option.some.injEq, Prod.mk.injEq] at he ⊢; exact ⟨he.1, trivial⟩
          · rename_i hc
            cases e : litEval P fr ⟨dst, .call ⟨.builtin .len, args, ts⟩, ty, pos, after, guard⟩ with
            | none => rw [e] at he; cases he
            | some c =>
              obtain ⟨v, hv⟩ := litEval_vals e (x := x) (by simp [Op.operands, Call.operands, ← Array.mem_toList_iff, hx])
              have : lenEval P h2 t (ev fr x) = none := by
                rw [← hc]
                unfold lenEval
                split
                · cases ex : ev fr x with
                  | sl b g off len sz => rw [ex] at hv; cases hv
                  | lit v' =>
                    cases v' with
                    | slice a l c => cases a <;> cases l <;> cases c <;> rfl
                    | _ => rfl
                  | _ => rfl
                · rfl
              rw [this]
              rw [e] at he
              cases he
              rfl
        · cases he
      | _ => exact lit he
    | _ => exact lit he
  | _ => exact lit he

/-- Operations that only make memory. -/
def isNew : Op → Bool
  | .call ⟨.builtin .append, args, _⟩ => match args.toList with
    | [.const (.slice none 0 0), _] => true
    | _ => false
  | o => isAB o
theorem opEval_new {n : Nat} {fr : Fr} {h h' : Heap} {o : Oper} {cv : CV} (ha : isNew o.op = true) (he : opEval P n fr h o = some (cv, h')) : h' = h ∨ ∃ k, h' = (n, k) :: h := by
  by_cases hab : isAB o.op = true
  · obtain ⟨k, e, _⟩ := opEval_AB hab he
    exact .inr ⟨k, e⟩
  · obtain ⟨dst, op, ty, pos, after, guard⟩ := o
    unfold isNew at ha
    split at ha
    · rename_i args ts hop
      split at ha
      · rename_i x hargs
        simp only at hop
        subst hop
        have hs : ev fr (.const (.slice none 0 0)) = .lit (.slice none 0 0) := rfl
        simp only [opEval, hargs] at he
        rw [hs] at he
        unfold appendEval at he
        split at he
        · split at he
          · split at he
            · split at he
              · split at he
                · simp only at he
                  split at he
                  · cases he; exact .inl rfl
                  · split at he
                    · cases he; exact .inr ⟨_, rfl⟩
                    · cases he
                · cases he
              · cases he
            · cases he
          · cases he
        · cases he
      · cases ha
    · exact absurd ha hab
end
end Go.Cv
namespace Go.Cv
open Go

def agrees (fr fr' : Fr) : Prop := ∀ t, fget fr t = fget fr' t

def FEq : Fin → Fin → Prop
  | .nor s, .nor s' => agrees s.fr s'.fr ∧ s.nx = s'.nx ∧ s.h = s'.h
  | .pan c nx h, .pan c' nx' h' => c = c' ∧ nx = nx' ∧ h = h'
  | .at K s, .at K' s' => K = K' ∧ s = s'
  | _, _ => False
theorem FEq.refl : ∀ F : Fin, FEq F F
  | .nor _ => ⟨fun _ => rfl, rfl, rfl⟩
  | .pan .. => ⟨rfl, rfl, rfl⟩
  | .at .. => ⟨rfl, rfl⟩
theorem FEq.trans {F G H : Fin} (h : FEq F G) (k : FEq G H) : FEq F H := by
  cases F <;> cases G <;> cases H <;> first
    | exact h.elim
    | exact k.elim
    | exact ⟨fun t => (h.1 t).trans (k.1 t), h.2.1.trans k.2.1, h.2.2.trans k.2.2⟩
    | exact ⟨h.1.trans k.1, h.2.1.trans k.2.1, h.2.2.trans k.2.2⟩
    | exact ⟨h.1.trans k.1, h.2.trans k.2⟩

section
variable {P : Program} {N : Nat} {all : Array Oper} {m : Mode} {base : Nat}

def hdelAll : Heap → List Nat → Heap
  | h, [] => h
  | h, b :: bs => hdelAll (hdel h b) bs
theorem hget_hdelAll : ∀ (bs : List Nat) (h : Heap) (n : Nat), hget (hdelAll h bs) n = if n ∈ bs then none else hget h n
  | [], h, n => by simp [hdelAll]
  | b :: bs, h, n => by
    rw [hdelAll, hget_hdelAll bs, hget_hdel]
    by_cases e : n = b
    · subst e; simp
    · simp [e]
theorem hdelAll_sub {h h2 : Heap} (bs : List Nat) (hs : SubH h h2) : SubH (hdelAll h bs) (hdelAll h2 bs) := by
  intro n k hk
  rw [hget_hdelAll] at hk ⊢
  split at hk
  · cases hk
  · rename_i e; rw [if_neg e]; exact hs n k hk
/-- What is asked of operations that may come before or behind a write that they don't see. -/
structure XOk (P : Program) (all : Array Oper) (m : Mode) (base i : Nat) (o : Oper) (fr : Fr) (h : Heap) (cv : CV) (h' : Heap) : Prop where
  rd : i ∈ m.ov → opVal P all (base + i) fr (hdelAll h (m.wb.map (·.2))) o = some (cv, hdelAll h (m.wb.map (·.2)))
  wr : ∀ b, (i, b) ∈ m.wb → ∀ n, n ≠ b → hget h' n = hget h n
theorem XOk.none {i : Nat} {o : Oper} {fr : Fr} {h : Heap} {cv : CV} {h' : Heap} (h1 : m.ov = []) (h2 : m.wb = []) : XOk P all m base i o fr h cv h' :=
  ⟨fun h => (by rw [h1] at h; cases h), fun b h => (by rw [h2] at h; cases h)⟩

/-- What an operation or a call does: what it gives, and the heap then. -/
inductive Does (P : Program) (all : Array Oper) (m : Mode) (base i : Nat) (o : Oper) (fr : Fr) (nx : Nat) (h : Heap) : CV → Nat → Heap → Prop
  | op {cv : CV} {h' : Heap} (hn : opVal P all (base + i) fr h o = some (cv, h')) (hm : isW o.op = true → ∀ j ∈ m.frees i, hget h' (base + j) = hget h (base + j)) (hx : XOk P all m base i o fr h cv h') : Does P all m base i o fr nx h cv nx h'
  | call {f : FuncId} {args : List CV} {r : CV} {nx' : Nat} {h' : Heap} (hc : CallAt fr all o f args) (hG : Good P f args nx h (.ret r) nx' h') (hm : callOk (some m) base i nx h nx' h') : Does P all m base i o fr nx h r nx' h'

/-- How an operation or a call panics. -/
inductive Dies (P : Program) (all : Array Oper) (m : Mode) (base i : Nat) (o : Oper) (fr : Fr) (nx : Nat) (h : Heap) : CV → Nat → Heap → Prop
  | call {f : FuncId} {args : List CV} {r : CV} {nx' : Nat} {h' : Heap} (hc : CallAt fr all o f args) (hG : Good P f args nx h (.pan r) nx' h') (hm : i ∈ m.eff) : Dies P all m base i o fr nx h r nx' h'
  | panic {x : Operand} (hg : gval fr all o = some true) (hop : o.op = .panic x) (hx : isIface (ev fr x) = true) (hm : i ∈ m.eff) : Dies P all m base i o fr nx h (ev fr x) nx h

theorem callAt_congr {fr fr' : Fr} {o : Oper} {f : FuncId} {args : List CV} (h : ∀ t ∈ o.looksAt all, fget fr t = fget fr' t) (hc : CallAt fr all o f args) : CallAt fr' all o f args := by
  obtain ⟨hg, x, xs, ts, us, vs, hop, hf, ha⟩ := hc
  refine ⟨by rw [← gval_congr h]; exact hg, x, xs, ts, us, vs, hop, ?_, ?_⟩
  · rw [← ev_congr h (x := x) (by rw [hop]; simp [Op.operands, Call.operands])]; exact hf
  · rw [← ha, map_congr_op (xs := xs) fun y hy => ev_congr h (by rw [hop]; simp [Op.operands, Call.operands, hy])]

theorem Does.congr {i : Nat} {o : Oper} {fr fr' : Fr} {nx : Nat} {h : Heap} {cv : CV} {nx' : Nat} {h' : Heap} (ha : ∀ t ∈ o.looksAt all, fget fr t = fget fr' t) (hd : Does P all m base i o fr nx h cv nx' h') : Does P all m base i o fr' nx h cv nx' h' := by
  cases hd with
  | op hn hm hx => exact .op (by rw [← opVal_congr ha]; exact hn) hm ⟨fun h => by rw [← opVal_congr ha]; exact hx.rd h, hx.wr⟩
  | call hc hG hm => exact .call (callAt_congr ha hc) hG hm
theorem Dies.congr {i : Nat} {o : Oper} {fr fr' : Fr} {nx : Nat} {h : Heap} {cv : CV} {nx' : Nat} {h' : Heap} (ha : ∀ t ∈ o.looksAt all, fget fr t = fget fr' t) (hd : Dies P all m base i o fr nx h cv nx' h') : Dies P all m base i o fr' nx h cv nx' h' := by
  cases hd with
  | call hc hG hm => exact .call (callAt_congr ha hc) hG hm
  | @panic x hg hop hx hm =>
    have e := ev_congr ha (x := x) (by rw [hop]; simp [Op.operands])
    rw [e]
    exact .panic (by rw [← gval_congr ha]; exact hg) hop (by rw [← e]; exact hx) hm

def hdelOk (h : Heap) (n : Nat) : Heap := hdel h n

/-- The canonical run with all the ahead memory made at the beginning. -/
inductive TrG (P : Program) (N : Nat) (all : Array Oper) (m : Mode) (base : Nat) : List Nat → St → Fin → Prop
  | nil {st : St} : TrG P N all m base [] st (.nor st)
  | mem {i : Nat} {o : Oper} {rest : List Nat} {st : St} {F : Fin} {cv : CV} {k : Blk} {fr' : Fr} (hpre : i ∈ m.ab) (ho : all[i]? = some o) (hab : isAB o.op = true) (hgd : o.guard = none)
      (he : opEval P (base + i) st.fr (hdel st.h (base + i)) o = some (cv, (base + i, k) :: hdel st.h (base + i))) (hk : hget st.h (base + i) = some k) (hp : putc N st.fr o.dst cv = some fr') (ht : TrG P N all m base rest ⟨fr', st.nx, st.h⟩ F) :
      TrG P N all m base (i :: rest) st F
  | act {i : Nat} {o : Oper} {rest : List Nat} {st : St} {F : Fin} {cv : CV} {nx' : Nat} {h' : Heap} {fr' : Fr} (hpre : i ∉ m.ab) (ho : all[i]? = some o) (hd : Does P all m base i o st.fr st.nx st.h cv nx' h')
      (hp : putc N st.fr o.dst cv = some fr') (ht : TrG P N all m base rest ⟨fr', nx', h'⟩ F) : TrG P N all m base (i :: rest) st F
  | die {i : Nat} {o : Oper} {rest : List Nat} {st : St} {cv : CV} {nx' : Nat} {h' : Heap} (hpre : i ∉ m.ab) (ho : all[i]? = some o) (hd : Dies P all m base i o st.fr st.nx st.h cv nx' h') :
      TrG P N all m base (i :: rest) st (.pan cv nx' h')

theorem putc_agrees {fr fr1 : Fr} (h : agrees fr fr1) {dst : Option Tmp} {cv : CV} {fr' : Fr} (hp : putc N fr dst cv = some fr') : ∃ fr1', putc N fr1 dst cv = some fr1' ∧ agrees fr' fr1' := by
  unfold putc at hp ⊢
  split at hp
  · cases hp; exact ⟨fr1, rfl, h⟩
  · split at hp
    · rename_i d hd
      cases hp
      refine ⟨fset fr1 d cv, by simp only [if_pos hd], fun t => ?_⟩
      rw [fget_fset, fget_fset, h t]
    · cases hp

theorem TrG.congr {l : List Nat} {st : St} {F : Fin} (ht : TrG P N all m base l st F) : ∀ {fr' : Fr}, agrees st.fr fr' → ∃ F', TrG P N all m base l ⟨fr', st.nx, st.h⟩ F' ∧ FEq F F' := by
  induction ht with
  | @nil st => exact fun {fr'} h => ⟨_, .nil, h, rfl, rfl⟩
  | mem hpre ho hab hgd he hk hp ht ih =>
    intro fr1 h
    obtain ⟨fr1', hp1, h1⟩ := putc_agrees h hp
    obtain ⟨F', q1, q2⟩ := ih h1
    exact ⟨F', .mem hpre ho hab hgd (by rw [← opEval_congr fun x hx => ev_congr (all := all) (fun t _ => h t) hx]; exact he) hk hp1 q1, q2⟩
  | act hpre ho hd hp ht ih =>
    intro fr1 h
    obtain ⟨fr1', hp1, h1⟩ := putc_agrees h hp
    obtain ⟨F', q1, q2⟩ := ih h1
    exact ⟨F', .act hpre ho (hd.congr fun t _ => h t) hp1 q1, q2⟩
  | die hpre ho hd =>
    intro fr1 h
    exact ⟨_, .die hpre ho (hd.congr fun t _ => h t), rfl, rfl, rfl⟩

/-- Does an operation leave the heap as it is? (A call is asked by the list.) -/
def quiet (m : Mode) (i : Nat) (o : Oper) : Bool := !isW o.op && !isAB o.op && !isPan o.op && !(m.eff.contains i)

theorem opVal_quiet_mono {i : Nat} {o : Oper} {fr : Fr} {h h1' h2 : Heap} {cv : CV} (hq : Cv.quiet m i o = true) (hn : opVal P all (base + i) fr h o = some (cv, h1')) (hs : SubH h h2) : opVal P all (base + i) fr h2 o = some (cv, h2) := by
  unfold Cv.quiet at hq
  simp only [Bool.and_eq_true, Bool.not_eq_true'] at hq
  obtain ⟨⟨⟨h1, h2'⟩, h3⟩, h4⟩ := hq
  unfold opVal at hn ⊢
  split at hn
  · exact opEval_mono h1 h2' hn hs
  · cases hn; rfl
  · cases hn
theorem Does.quiet {i : Nat} {o : Oper} {fr : Fr} {nx : Nat} {h : Heap} {cv : CV} {nx' : Nat} {h' : Heap} (hq : quiet m i o = true) (hd : Does P all m base i o fr nx h cv nx' h') : nx' = nx ∧ h' = h := by
  unfold Cv.quiet at hq
  simp only [Bool.and_eq_true, Bool.not_eq_true'] at hq
  obtain ⟨⟨⟨h1, h2⟩, h3⟩, h4⟩ := hq
  have h4 : i ∉ m.eff := by simpa using h4
  cases hd with
  | op hn hm hx =>
    refine ⟨rfl, ?_⟩
    unfold opVal at hn
    split at hn
    · exact opEval_L h1 h2 hn
    · cases hn; rfl
    · cases hn
  | call hc hG hm =>
    simp only [callOk, if_neg h4] at hm
    exact hm
theorem Dies.loud {i : Nat} {o : Oper} {fr : Fr} {nx : Nat} {h : Heap} {cv : CV} {nx' : Nat} {h' : Heap} (hq : Cv.quiet m i o = true) (hd : Dies P all m base i o fr nx h cv nx' h') : False := by
  unfold Cv.quiet at hq
  simp only [Bool.and_eq_true, Bool.not_eq_true'] at hq
  have h4 : i ∉ m.eff := by simpa using hq.2
  cases hd with
  | call _ _ hm => exact h4 hm
  | panic _ _ _ hm => exact h4 hm

/-- Operations that don't look at the heap. -/
def still : Op → Bool
  | .move _ | .assign _ | .pick .. | .field .. | .extract .. | .unOp .. => true
  | _ => false
theorem opEval_still {n : Nat} {fr : Fr} {h h1 : Heap} {o : Oper} {cv : CV} (hs : still o.op = true) (he : opEval P n fr h o = some (cv, h1)) : h1 = h ∧ ∀ h', opEval P n fr h' o = some (cv, h') := by
  have mp : ∀ {x : Option CV}, x.map (·, h) = some (cv, h1) → h1 = h ∧ ∀ h' : Heap, x.map (·, h') = some (cv, h') := by
    intro x he
    cases x with
    | none => cases he
    | some c => cases he; exact ⟨rfl, fun _ => rfl⟩
  obtain ⟨dst, op, ty, pos, after, guard⟩ := o
  cases op with
  | move x => simp only [opEval, Option.some.injEq, Prod.mk.injEq] at he ⊢; obtain ⟨rfl, rfl⟩ := he; simp
  | assign x => simp only [opEval, Option.some.injEq, Prod.mk.injEq] at he ⊢; obtain ⟨rfl, rfl⟩ := he; simp
  | pick c x y =>
    simp only [opEval] at he ⊢
    split at he
    · simp only [Option.some.injEq, Prod.mk.injEq] at he ⊢; obtain ⟨rfl, rfl⟩ := he; simp
    · cases he
  | field t x f => simp only [opEval] at he ⊢; exact mp he
  | extract x i =>
    simp only [opEval] at he ⊢
    split at he
    · exact mp he
    · exact mp he
  | unOp op t x => simp only [opEval] at he ⊢; exact mp he
  | _ => cases hs
theorem opVal_still {n : Nat} {fr : Fr} {h h1 : Heap} {o : Oper} {cv : CV} (hs : still o.op = true) (he : opVal P all n fr h o = some (cv, h1)) : h1 = h ∧ ∀ h', opVal P all n fr h' o = some (cv, h') := by
  unfold opVal at he ⊢
  split at he
  · exact opEval_still hs he
  · cases he; exact ⟨rfl, fun _ => rfl⟩
  · cases he
theorem Does.still {i : Nat} {o : Oper} {fr : Fr} {nx : Nat} {h : Heap} {cv : CV} {nx' : Nat} {h' : Heap} (hs : Cv.still o.op = true) (hd : Does P all m base i o fr nx h cv nx' h') :
    nx' = nx ∧ h' = h ∧ ∀ nx2 h2, Does P all m base i o fr nx2 h2 cv nx2 h2 := by
  cases hd with
  | op hn hm hx =>
    obtain ⟨rfl, h3⟩ := opVal_still hs hn
    exact ⟨rfl, rfl, fun nx2 h2 => .op (h3 h2) (fun _ _ _ => rfl) ⟨fun _ => h3 _, fun _ _ _ _ => rfl⟩⟩
  | call hc hG hm =>
    obtain ⟨_, x, xs, ts, us, vs, hop, _⟩ := hc
    rw [hop] at hs; cases hs
def mayDie (m : Mode) (i : Nat) (o : Oper) : Bool := isPan o.op || m.eff.contains i
theorem Dies.may {i : Nat} {o : Oper} {fr : Fr} {nx : Nat} {h : Heap} {cv : CV} {nx' : Nat} {h' : Heap} (hq : mayDie m i o = false) (hd : Dies P all m base i o fr nx h cv nx' h') : False := by
  unfold mayDie at hq
  simp only [Bool.or_eq_false_iff] at hq
  cases hd with
  | call _ _ hm => have := hq.2; simp [hm] at this
  | panic _ _ _ hm => have := hq.2; simp [hm] at this

def isStore : Op → Bool
  | .store .. => true
  | _ => false

/-- May i come ahead of x, that stands ahead of it? -/
def okPair (all : Array Oper) (m : Mode) (x i : Nat) : Bool :=
  match all[x]?, all[i]? with
  | some ox, some oi => ox.apart all oi &&
      (if m.ab.contains x then m.ab.contains i || quiet m i oi || (isFree ox.op && (isNew oi.op || (m.frees i).contains x))
       else if m.ab.contains i then quiet m x ox
       else quiet m x ox && quiet m i oi || still ox.op || still oi.op && !mayDie m x ox || quiet m x ox && !isCallV ox.op && isNew oi.op && !Nat.beq x i || quiet m x ox && !isCallV ox.op && m.ov.contains x && isStore oi.op && (m.wb.any fun p => Nat.beq p.1 i) || quiet m x ox && !isCallV ox.op && m.add.contains i && m.eff.contains i && isCallV oi.op)
  | _, _ => false

theorem look_put {fr fr' : Fr} {o : Oper} {dst : Option Tmp} {cv : CV} (hp : putc N fr dst cv = some fr') (hd : ∀ d, dst = some d → d ∉ o.looksAt all) : ∀ t ∈ o.looksAt all, fget fr' t = fget fr t := by
  intro t ht
  unfold putc at hp
  split at hp
  · cases hp; rfl
  · rename_i d
    split at hp
    · cases hp
      rw [fget_fset, if_neg]
      intro e
      subst e
      exact hd t rfl ht
    · cases hp

theorem put_swap {fr f1 f2 : Fr} {d1 d2 : Option Tmp} {c1 c2 : CV} (h1 : putc N fr d1 c1 = some f1) (h2 : putc N f1 d2 c2 = some f2) (hne : ∀ d, d1 = some d → d2 ≠ some d) :
    ∃ g1 g2, putc N fr d2 c2 = some g1 ∧ putc N g1 d1 c1 = some g2 ∧ agrees f2 g2 := by
  cases d1 with
  | none =>
    simp only [putc, Option.some.injEq] at h1
    subst h1
    exact ⟨f2, f2, h2, rfl, fun _ => rfl⟩
  | some d =>
    cases d2 with
    | none =>
      simp only [putc, Option.some.injEq] at h2
      subst h2
      exact ⟨fr, f1, rfl, h1, fun _ => rfl⟩
    | some e =>
      simp only [putc] at h1 h2 ⊢
      split at h1
      · rename_i hd
        split at h2
        · rename_i he
          cases h1; cases h2
          refine ⟨fset fr e c2, fset (fset fr e c2) d c1, by simp only [if_pos he], by simp only [if_pos hd], fun t => ?_⟩
          have : d ≠ e := fun h => hne d rfl (h ▸ rfl)
          simp only [fget_fset]
          by_cases e1 : t = e
          · subst e1
            rw [if_pos rfl, if_neg (Ne.symm this), if_pos rfl]
          · simp [e1]
        · cases h2
      · cases h1

theorem Does.keeps {i j : Nat} {o : Oper} {fr : Fr} {nx : Nat} {h : Heap} {cv : CV} {nx' : Nat} {h' : Heap} (hd : Does P all m base i o fr nx h cv nx' h') (hj : j ∈ m.frees i) (hji : j ≠ i) : hget h' (base + j) = hget h (base + j) := by
  cases hd with
  | op hn hm hx =>
    by_cases hw : isW o.op = true
    · exact hm hw j hj
    · unfold opVal at hn
      split at hn
      · by_cases hab : isAB o.op = true
        · obtain ⟨k, rfl, _⟩ := opEval_AB hab hn
          rw [hget_cons, if_neg (by omega)]
        · rw [opEval_L (by simpa using hw) (by simpa using hab) hn]
      · cases hn; rfl
      · cases hn
  | call hc hG hm =>
    simp only [callOk] at hm
    split at hm
    · exact hm.1 j hj
    · rw [hm.2]

theorem Does.keepsNew {i j : Nat} {o : Oper} {fr : Fr} {nx : Nat} {h : Heap} {cv : CV} {nx' : Nat} {h' : Heap} (hn : isNew o.op = true) (hd : Does P all m base i o fr nx h cv nx' h') (hji : j ≠ i) : hget h' (base + j) = hget h (base + j) := by
  cases hd with
  | op hv hm hx =>
    unfold opVal at hv
    split at hv
    · rcases opEval_new hn hv with rfl | ⟨k, rfl⟩
      · rfl
      · rw [hget_cons, if_neg (by omega)]
    · cases hv; rfl
    · cases hv
  | call hc hG hm =>
    obtain ⟨_, x, xs, ts, us, vs, hop, _⟩ := hc
    rw [hop] at hn; cases hn

/-- What only reads reads the same beside new memory. -/
theorem Does.beside {i : Nat} {o : Oper} {fr : Fr} {nx : Nat} {h : Heap} {cv : CV} {nx' : Nat} {h' : Heap} (hq : Cv.quiet m i o = true) (hc : isCallV o.op = false) (hd : Does P all m base i o fr nx h cv nx' h') {h2 : Heap} (hs : SubH h h2) (nx2 : Nat) :
    Does P all m base i o fr nx2 h2 cv nx2 h2 := by
  unfold Cv.quiet at hq
  simp only [Bool.and_eq_true, Bool.not_eq_true'] at hq
  obtain ⟨⟨⟨h1, h2'⟩, h3⟩, h4⟩ := hq
  have mono : ∀ {h h1' h2 : Heap}, opVal P all (base + i) fr h o = some (cv, h1') → SubH h h2 → opVal P all (base + i) fr h2 o = some (cv, h2) := fun {h h1' h2} hn hs => by
    unfold opVal at hn ⊢
    split at hn
    · exact opEval_mono h1 h2' hn hs
    · cases hn; rfl
    · cases hn
  cases hd with
  | op hn hm hx =>
    exact .op (mono hn hs) (fun hw => by rw [h1] at hw; cases hw) ⟨fun h => mono (hx.rd h) (hdelAll_sub _ hs), fun _ _ _ _ => rfl⟩
  | call hca hG hm =>
    obtain ⟨_, x, xs, ts, us, vs, hop, _⟩ := hca
    rw [hop] at hc; cases hc

theorem new_still {o : Op} (h : isNew o = true) : still o = false := by
  cases o <;> first | rfl | cases h

/-- Two neighbours change places. -/
theorem TrG.swap {x i : Nat} {R : List Nat} {st : St} {F : Fin} (ht : TrG P N all m base (x :: i :: R) st F) (hfresh : ∀ oi, all[i]? = some oi → still oi.op = false → (i ∉ m.ab → hget st.h (base + i) = none) ∧ ∀ n k, hget st.h n = some k → n < st.nx) (hp : okPair all m x i = true) :
    ∃ F', TrG P N all m base (i :: x :: R) st F' ∧ FEq F F' := by
  unfold okPair at hp
  split at hp
  · rename_i ox oi hox hoi
    simp only [Bool.and_eq_true] at hp
    obtain ⟨hap, hcl⟩ := hp
    obtain ⟨a1, a2, a3⟩ := Oper.apart_spec hap
    cases ht with
    | @mem _ _ _ _ _ cx kx fx hpre ho hab hgd he hk hpx ht =>
      rw [hox] at ho; cases ho
      rw [if_pos (by simpa using hpre)] at hcl
      simp only [Bool.or_eq_true, Bool.and_eq_true] at hcl
      cases ht with
      | @mem _ _ _ _ _ ci ki fi hprei hoi' habi hgdi hei hki hpi ht =>
        rw [hoi] at hoi'; cases hoi'
        obtain ⟨g1, g2, e1, e2, e3⟩ := put_swap hpx hpi a2
        obtain ⟨F', q1, q2⟩ := ht.congr e3
        refine ⟨F', .mem hprei hoi habi hgdi ?_ hki e1 (.mem hpre hox hab hgd ?_ hk e2 q1), q2⟩
        · rw [← opEval_congr fun x hx => ev_congr (look_put hpx a1) hx]; exact hei
        · rw [opEval_congr fun x hx => ev_congr (look_put e1 a3) hx]; exact he
      | @act _ _ _ _ _ ci nx' h' fi hprei hoi' hd hpi ht =>
        rw [hoi] at hoi'; cases hoi'
        obtain ⟨g1, g2, e1, e2, e3⟩ := put_swap hpx hpi a2
        obtain ⟨F', q1, q2⟩ := ht.congr e3
        have hd' := hd.congr (look_put hpx a1)
        have free : isFree ox.op = true → hget h' (base + x) = hget st.h (base + x) → ∃ k', hget h' (base + x) = some k' ∧ opEval P (base + x) st.fr (hdel h' (base + x)) ox = some (cx, (base + x, k') :: hdel h' (base + x)) := fun h1 h2 => by
          refine ⟨kx, by rw [h2]; exact hk, ?_⟩
          obtain ⟨k2, w1, w2, w3, w4⟩ := opEval_AB hab he
          cases w1
          exact w4 h1 _
        have hex : ∃ k', hget h' (base + x) = some k' ∧ opEval P (base + x) st.fr (hdel h' (base + x)) ox = some (cx, (base + x, k') :: hdel h' (base + x)) := by
          rcases hcl with (h1 | h1) | ⟨h1, h2 | h2⟩
          · exact absurd (by simpa using h1) hprei
          · obtain ⟨rfl, rfl⟩ := hd.quiet h1
            exact ⟨kx, hk, he⟩
          · exact free h1 (hd.keepsNew h2 fun e => hprei (e ▸ hpre))
          · have h2 : x ∈ m.frees i := by simpa using h2
            exact free h1 (hd.keeps h2 (fun e => hprei (e ▸ hpre)))
        obtain ⟨k', hk', he'⟩ := hex
        refine ⟨F', .act hprei hoi hd' e1 (.mem hpre hox hab hgd ?_ hk' e2 q1), q2⟩
        rw [opEval_congr fun x hx => ev_congr (look_put e1 a3) hx]; exact he'
      | die hprei hoi' hd =>
        rw [hoi] at hoi'; cases hoi'
        exact ⟨_, .die hprei hoi (hd.congr (look_put hpx a1)), FEq.refl _⟩
    | @act _ _ _ _ _ cx nx1 h1 fx hpre ho hdx hpx ht =>
      rw [hox] at ho; cases ho
      rw [if_neg (by simpa using hpre)] at hcl
      cases ht with
      | @mem _ _ _ _ _ ci ki fi hprei hoi' habi hgdi hei hki hpi ht =>
        rw [hoi] at hoi'; cases hoi'
        rw [if_pos (by simpa using hprei)] at hcl
        obtain ⟨rfl, rfl⟩ := hdx.quiet hcl
        obtain ⟨g1, g2, e1, e2, e3⟩ := put_swap hpx hpi a2
        obtain ⟨F', q1, q2⟩ := ht.congr e3
        refine ⟨F', .mem hprei hoi habi hgdi ?_ hki e1 (.act hpre hox (hdx.congr fun t h => (look_put e1 a3 t h).symm) e2 q1), q2⟩
        rw [← opEval_congr fun x hx => ev_congr (look_put hpx a1) hx]; exact hei
      | @act _ _ _ _ _ ci nx' h' fi hprei hoi' hd hpi ht =>
        rw [hoi] at hoi'; cases hoi'
        rw [if_neg (by simpa using hprei)] at hcl
        simp only [Bool.or_eq_true, Bool.and_eq_true, Bool.not_eq_true'] at hcl
        obtain ⟨g1, g2, e1, e2, e3⟩ := put_swap hpx hpi a2
        obtain ⟨F', q1, q2⟩ := ht.congr e3
        rcases hcl with ((((⟨hqx, hqi⟩ | hsx) | ⟨hsi, _⟩) | ⟨⟨⟨hqx, hcx⟩, hni⟩, hne⟩) | ⟨⟨⟨⟨hqx, hcx⟩, hov⟩, hst⟩, hwb⟩) | ⟨⟨⟨⟨hqx, hcx⟩, hadd⟩, heff⟩, hci⟩
        · obtain ⟨rfl, rfl⟩ := hdx.quiet hqx
          obtain ⟨rfl, rfl⟩ := hd.quiet hqi
          exact ⟨F', .act hprei hoi (hd.congr (look_put hpx a1)) e1 (.act hpre hox (hdx.congr fun t h => (look_put e1 a3 t h).symm) e2 q1), q2⟩
        · obtain ⟨rfl, rfl, hany⟩ := hdx.still hsx
          exact ⟨F', .act hprei hoi (hd.congr (look_put hpx a1)) e1 (.act hpre hox ((hany nx' h').congr fun t h => (look_put e1 a3 t h).symm) e2 q1), q2⟩
        · obtain ⟨rfl, rfl, hany⟩ := hd.still hsi
          exact ⟨F', .act hprei hoi ((hany _ _).congr (look_put hpx a1)) e1 (.act hpre hox (hdx.congr fun t h => (look_put e1 a3 t h).symm) e2 q1), q2⟩
        · obtain ⟨rfl, rfl⟩ := hdx.quiet hqx
          have hsub : nx' = st.nx ∧ SubH st.h h' := by
            cases hd with
            | op hv hm hx =>
              refine ⟨rfl, ?_⟩
              unfold opVal at hv
              split at hv
              · rcases opEval_new hni hv with rfl | ⟨k, rfl⟩
                · exact fun _ _ h => h
                intro n k' hk'
                rw [hget_cons, if_neg (fun e => by rw [e, (hfresh oi hoi (new_still hni)).1 hprei] at hk'; cases hk')]
                exact hk'
              · cases hv; exact fun _ _ h => h
              · cases hv
            | call hc hG hm =>
              obtain ⟨_, x, xs, ts, us, vs, hop, _⟩ := hc
              rw [hop] at hni; cases hni
          obtain ⟨rfl, hsub⟩ := hsub
          exact ⟨F', .act hprei hoi (hd.congr (look_put hpx a1)) e1 (.act hpre hox ((hdx.beside hqx hcx hsub st.nx).congr fun t h => (look_put e1 a3 t h).symm) e2 q1), q2⟩
        · obtain ⟨rfl, rfl⟩ := hdx.quiet hqx
          have hwb' : ∃ b, (i, b) ∈ m.wb := by
            obtain ⟨p, hp1, hp2⟩ := List.any_eq_true.1 hwb
            have := Nat.eq_of_beq_eq_true hp2
            exact ⟨p.2, by rw [← this]; exact hp1⟩
          obtain ⟨b, hb⟩ := hwb'
          have hov' : x ∈ m.ov := by simpa using hov
          cases hd with
          | @op _ h' hv hm hx =>
            have hsub2 : ∀ n k, hget (hdelAll st.h (m.wb.map (·.2))) n = some k → hget h' n = some k := fun n k hk => by
              rw [hget_hdelAll] at hk
              split at hk
              · cases hk
              · rename_i hn
                rw [hx.wr b hb n fun e => hn (by rw [e]; exact List.mem_map.2 ⟨_, hb, rfl⟩)]; exact hk
            have hx2 : Does P all m base x ox st.fr st.nx h' cx st.nx h' := by
              cases hdx with
              | op hvx hmx hxx =>
                have hda : Does P all m base x ox st.fr st.nx (hdelAll st.h (m.wb.map (·.2))) cx st.nx (hdelAll st.h (m.wb.map (·.2))) := by
                  refine .op (hxx.rd hov') (fun _ _ _ => rfl) ⟨fun _ => ?_, fun _ _ _ _ => rfl⟩
                  have hdb : Does P all m base x ox st.fr st.nx (hdelAll st.h (m.wb.map (·.2))) cx st.nx (hdelAll st.h (m.wb.map (·.2))) → True := fun _ => trivial
                  have e0 := hxx.rd hov'
                  have : SubH (hdelAll st.h (m.wb.map (·.2))) (hdelAll (hdelAll st.h (m.wb.map (·.2))) (m.wb.map (·.2))) := fun n k hk => by
                    rw [hget_hdelAll] at hk ⊢
                    split at hk
                    · cases hk
                    · rename_i hn; rw [if_neg hn, hget_hdelAll, if_neg hn]; exact hk
                  exact opVal_quiet_mono hqx e0 this
                exact hda.beside hqx hcx hsub2 st.nx
              | call hc _ _ =>
                obtain ⟨_, y, xs, ts, us, vs, hop, _⟩ := hc
                rw [hop] at hcx; cases hcx
            exact ⟨F', .act hprei hoi ((Does.op hv hm hx : Does P all m base i oi fx st.nx st.h ci st.nx h').congr (look_put hpx a1)) e1 (.act hpre hox (hx2.congr fun t h => (look_put e1 a3 t h).symm) e2 q1), q2⟩
          | call hc hG hm =>
            obtain ⟨_, y, xs, ts, us, vs, hop, _⟩ := hc
            rw [hop] at hst; cases hst
        · obtain ⟨rfl, rfl⟩ := hdx.quiet hqx
          have hcs : still oi.op = false := by
            cases e : oi.op <;> first | rfl | (rw [e] at hci; cases hci)
          have hsub : SubH st.h h' := by
            cases hd with
            | op hv hm hx =>
              unfold opVal at hv
              split at hv
              · have e := opEval_L (by cases e : oi.op with
                  | call c => obtain ⟨callee, args, ts⟩ := c; cases callee <;> first | rfl | (rw [e] at hci; cases hci)
                  | _ => rw [e] at hci; cases hci) (by cases e : oi.op with
                  | call c => rfl
                  | _ => rw [e] at hci; cases hci) hv
                subst e; exact fun _ _ h => h
              · cases hv; exact fun _ _ h => h
              · cases hv
            | call hc hG hm =>
              simp only [callOk] at hm
              rw [if_pos (by simpa using heff)] at hm
              intro n k hk
              rw [hm.2 (by simpa using hadd) n ((hfresh oi hoi hcs).2 n k hk)]; exact hk
          exact ⟨F', .act hprei hoi (hd.congr (look_put hpx a1)) e1 (.act hpre hox ((hdx.beside hqx hcx hsub nx').congr fun t h => (look_put e1 a3 t h).symm) e2 q1), q2⟩
      | die hprei hoi' hd =>
        rw [hoi] at hoi'; cases hoi'
        rw [if_neg (by simpa using hprei)] at hcl
        simp only [Bool.or_eq_true, Bool.and_eq_true, Bool.not_eq_true'] at hcl
        have dead : ∀ {b : Op → Bool}, (∀ c, b (.call c) = true → ∃ bb, c.callee = .builtin bb) → (∀ x, b (.panic x) = false) → b oi.op = true → False := fun {b} h1 h2 h3 => by
          cases hd with
          | call hc _ _ =>
            obtain ⟨_, x, xs, ts, us, vs, hop, _⟩ := hc
            rw [hop] at h3
            obtain ⟨bb, e⟩ := h1 _ h3
            cases e
          | panic _ hop _ _ => rw [hop, h2] at h3; cases h3
        rcases hcl with ((((⟨hqx, hqi⟩ | hsx) | ⟨hsi, _⟩) | ⟨⟨⟨hqx, hcx⟩, hni⟩, hne⟩) | ⟨⟨⟨⟨hqx, hcx⟩, hov⟩, hst⟩, hwb⟩) | ⟨⟨⟨⟨hqx, hcx⟩, hadd⟩, heff⟩, hci⟩
        · exact (hd.loud hqi).elim
        · obtain ⟨rfl, rfl, hany⟩ := hdx.still hsx
          exact ⟨_, .die hprei hoi (hd.congr (look_put hpx a1)), FEq.refl _⟩
        · exact (dead (b := still) (fun c h => by cases h) (fun x => rfl) hsi).elim
        · refine (dead (b := isNew) (fun c h => ?_) (fun x => rfl) hni).elim
          obtain ⟨callee, args, ts⟩ := c
          cases callee with
          | builtin bb => exact ⟨bb, rfl⟩
          | _ => cases h
        · exact (dead (b := isStore) (fun c h => by cases h) (fun x => rfl) hst).elim
        · obtain ⟨rfl, rfl⟩ := hdx.quiet hqx
          exact ⟨_, .die hprei hoi (hd.congr (look_put hpx a1)), FEq.refl _⟩
    | die hpre ho hd =>
      rw [hox] at ho; cases ho
      rw [if_neg (by simpa using hpre)] at hcl
      split at hcl
      · exact (hd.loud hcl).elim
      simp only [Bool.or_eq_true, Bool.and_eq_true, Bool.not_eq_true'] at hcl
      rcases hcl with ((((⟨hqx, hqi⟩ | hsx) | ⟨_, hnd⟩) | ⟨⟨⟨hqx, hcx⟩, hni⟩, hne⟩) | ⟨⟨⟨⟨hqx, hcx⟩, hov⟩, hst⟩, hwb⟩) | ⟨⟨⟨⟨hqx, hcx⟩, hadd⟩, heff⟩, hci⟩
      · exact (hd.loud hqx).elim
      · exfalso
        cases hd with
        | call hc _ _ =>
          obtain ⟨_, x, xs, ts, us, vs, hop, _⟩ := hc
          rw [hop] at hsx; cases hsx
        | panic _ hop _ _ => rw [hop] at hsx; cases hsx
      · exact (hd.may hnd).elim
      · exact (hd.loud hqx).elim
      · exact (hd.loud hqx).elim
      · exact (hd.loud hqx).elim
  · cases hp

/-- One that may come first comes first. -/
theorem TrG.front {i : Nat} : ∀ (R1 R2 : List Nat) {st : St} {F : Fin}, TrG P N all m base (R1 ++ i :: R2) st F → (∀ oi, all[i]? = some oi → still oi.op = false → (i ∉ m.ab → hget st.h (base + i) = none) ∧ ∀ n k, hget st.h n = some k → n < st.nx) → (∀ x ∈ R1, okPair all m x i = true) →
    ∃ F', TrG P N all m base (i :: (R1 ++ R2)) st F' ∧ FEq F F'
  | [], R2, st, F, ht, _, _ => ⟨F, ht, FEq.refl F⟩
  | x :: R1, R2, st, F, ht, hfr, hp => by
    have tail : ∀ {st : St} {F : Fin}, TrG P N all m base (R1 ++ i :: R2) st F → (∀ oi, all[i]? = some oi → still oi.op = false → (i ∉ m.ab → hget st.h (base + i) = none) ∧ ∀ n k, hget st.h n = some k → n < st.nx) → ∃ F', TrG P N all m base (i :: (R1 ++ R2)) st F' ∧ FEq F F' :=
      fun h h2 => TrG.front R1 R2 h h2 fun y hy => hp y (by simp [hy])
    have key : ∃ F', TrG P N all m base (x :: i :: (R1 ++ R2)) st F' ∧ FEq F F' := by
      cases ht with
      | mem hpre ho hab hgd he hk hp' ht =>
        obtain ⟨F', q1, q2⟩ := tail ht hfr
        exact ⟨F', .mem hpre ho hab hgd he hk hp' q1, q2⟩
      | @act _ ox _ _ _ cv nx' h' fr' hpre ho hd hp' ht =>
        have hpx := hp x (by simp)
        obtain ⟨F', q1, q2⟩ := tail ht fun oi hoi hst => by
          unfold okPair at hpx
          rw [ho, hoi] at hpx
          simp only [Bool.and_eq_true] at hpx
          have h2 := hpx.2
          rw [if_neg (by simpa using hpre)] at h2
          have hsame : nx' = st.nx ∧ h' = st.h := by
            split at h2
            · exact hd.quiet h2
            simp only [Bool.or_eq_true, Bool.and_eq_true, Bool.not_eq_true'] at h2
            rcases h2 with ((((⟨hq, _⟩ | hs) | ⟨hs, _⟩) | ⟨⟨⟨hq, _⟩, _⟩, _⟩) | ⟨⟨⟨⟨hq, _⟩, _⟩, _⟩, _⟩) | ⟨⟨⟨⟨hq, _⟩, _⟩, _⟩, _⟩
            · exact hd.quiet hq
            · exact ⟨(hd.still hs).1, (hd.still hs).2.1⟩
            · rw [hst] at hs; cases hs
            · exact hd.quiet hq
            · exact hd.quiet hq
            · exact hd.quiet hq
          simp only [hsame.1, hsame.2]
          exact hfr oi hoi hst
        exact ⟨F', .act hpre ho hd hp' q1, q2⟩
      | die hpre ho hd => exact ⟨_, .die hpre ho hd, FEq.refl _⟩
    obtain ⟨F', q1, q2⟩ := key
    obtain ⟨F2, q3, q4⟩ := q1.swap hfr (hp x (by simp))
    exact ⟨F2, q3, q2.trans q4⟩
end
end Go.Cv
namespace Go.Cv
open Go

/-! ### What comes ahead of what -/
def maskOf (tbl : List Nat) : List Edge → Nat → Nat
  | [], s => s
  | e :: es, s => maskOf tbl es (if Region.binds .any e then s ||| ((1 <<< e.on) ||| tbl.getD e.on 0) else s)
def maskTbl : List Oper → List Nat → List Nat
  | [], acc => acc
  | o :: os, acc => maskTbl os (acc ++ [maskOf acc o.after.toList 0])

/-- x is done whenever i may be. -/
def Ahead (all : Array Oper) (i x : Nat) : Prop :=
  ∀ S : Nat → Prop, (∀ j o, all[j]? = some o → S j → ∀ e ∈ o.after, Region.binds .any e = true → S e.on) → (∀ o, all[i]? = some o → ∀ e ∈ o.after, Region.binds .any e = true → S e.on) → S x

theorem maskOf_spec {all : Array Oper} {tbl : List Nat} (ht : ∀ i mk, tbl[i]? = some mk → ∀ x, mk.testBit x = true → Ahead all i x) (S : Nat → Prop) (hcl : ∀ j o, all[j]? = some o → S j → ∀ e ∈ o.after, Region.binds .any e = true → S e.on) :
    ∀ (es : List Edge) (s : Nat), (∀ e ∈ es, Region.binds .any e = true → S e.on) → (∀ x, s.testBit x = true → S x) → ∀ x, (maskOf tbl es s).testBit x = true → S x
  | [], s, _, hs, x, hx => hs x hx
  | e :: es, s, he, hs, x, hx => by
    simp only [maskOf] at hx
    refine maskOf_spec ht S hcl es _ (fun e' h => he e' (by simp [h])) (fun y hy => ?_) x hx
    split at hy
    · rename_i hb
      have hon := he e (by simp) hb
      rw [Nat.testBit_or, Nat.testBit_or] at hy
      simp only [Bool.or_eq_true] at hy
      rcases hy with h1 | h1 | h1
      · exact hs y h1
      · rw [Nat.one_shiftLeft, Nat.testBit_two_pow] at h1
        have : e.on = y := by simpa using h1
        rw [← this]; exact hon
      · cases e1 : tbl[e.on]? with
        | none => rw [List.getD_eq_getElem?_getD, e1] at h1; simp at h1
        | some mk =>
          rw [List.getD_eq_getElem?_getD, e1] at h1
          exact ht e.on mk e1 y h1 S hcl (fun o ho => hcl e.on o ho hon)
    · exact hs y hy

theorem maskTbl_spec {all : Array Oper} : ∀ (os : List Oper) (acc : List Nat), (∀ i o, os[i]? = some o → all[acc.length + i]? = some o) → (∀ i mk, acc[i]? = some mk → ∀ x, mk.testBit x = true → Ahead all i x) →
    ∀ i mk, (maskTbl os acc)[i]? = some mk → ∀ x, mk.testBit x = true → Ahead all i x
  | [], acc, _, ha => ha
  | o :: os, acc, ho, ha => by
    simp only [maskTbl]
    refine maskTbl_spec os _ (fun i o' h => ?_) (fun i mk h x hx => ?_)
    · have := ho (i + 1) o' (by simpa using h)
      simpa [Nat.add_assoc, Nat.add_comm 1 i] using this
    · by_cases hi : i < acc.length
      · rw [List.getElem?_append_left hi] at h
        exact ha i mk h x hx
      · rw [List.getElem?_append_right (by omega)] at h
        have h0 : i = acc.length := by
          rcases Nat.eq_zero_or_pos (i - acc.length) with h1 | h1
          · omega
          · rw [List.getElem?_eq_none (by simp; omega)] at h; cases h
        subst h0
        simp at h
        subst h
        intro S hcl hS
        have hoi := ho 0 o rfl
        rw [Nat.add_zero] at hoi
        exact maskOf_spec ha S hcl o.after.toList 0 (fun e he hb => hS o hoi e (by simpa using he) hb) (fun y hy => by simp at hy) x hx

def pairsOk (all : Array Oper) (m : Mode) (tbl : List Nat) : List Nat → Bool
  | [] => true
  | x :: l => l.all (fun i => (tbl.getD i 0).testBit x || okPair all m x i) && pairsOk all m tbl l

/-- The static check of a region that draws. -/
def drawOkX (all : Array Oper) (m : Mode) : Bool :=
  ((m.perm.length == all.size) && (List.range all.size).all (fun i => m.perm.contains i)) && m.perm.all (· < all.size) && decide m.perm.Nodup &&
  (all.toList.zipIdx.all fun p => p.1.after.toList.all fun e => !Region.binds .any e || decide (e.on < p.2)) &&
  ((m.perm.take m.np).all fun i => (all[i]?).any fun o => (m.ab.contains i && isAB o.op && o.guard.isNone) || (!m.ab.contains i && quiet m i o && !isCallV o.op)) && (m.ab.all fun i => (m.perm.take m.np).contains i) &&
  pairsOk all m (maskTbl all.toList []) m.perm
def drawOk (all : Array Oper) (m : Mode) : Bool := drawOkX all m && (m.ov.isEmpty && m.wb.isEmpty)

/-- A region's text, canonically, with what is asked of operations beside writes that they don't see. -/
inductive TrX (P : Program) (N : Nat) (m : Mode) (all : Array Oper) (base : Nat) : List Nat → St → Fin → Prop
  | nil {st : St} : TrX P N m all base [] st (.nor st)
  | op {i : Nat} {o : Oper} {rest : List Nat} {st : St} {F : Fin} {cv : CV} {h' : Heap} {fr' : Fr} (ho : all[i]? = some o) (hd : opVal P all (base + i) st.fr st.h o = some (cv, h')) (hm : isW o.op = true → keepOk (some m) base i st.h h')
      (hx : XOk P all m base i o st.fr st.h cv h') (hp : putc N st.fr o.dst cv = some fr') (ht : TrX P N m all base rest ⟨fr', st.nx, h'⟩ F) : TrX P N m all base (i :: rest) st F
  | call {i : Nat} {o : Oper} {rest : List Nat} {st : St} {F : Fin} {f : FuncId} {args : List CV} {r : CV} {nx' : Nat} {h' : Heap} {fr' : Fr} (ho : all[i]? = some o) (hc : CallAt st.fr all o f args) (hG : Good P f args st.nx st.h (.ret r) nx' h')
      (hp : putc N st.fr o.dst r = some fr') (hm : callOk (some m) base i st.nx st.h nx' h') (ht : TrX P N m all base rest ⟨fr', nx', h'⟩ F) : TrX P N m all base (i :: rest) st F
  | callPan {i : Nat} {o : Oper} {rest : List Nat} {st : St} {f : FuncId} {args : List CV} {r : CV} {nx' : Nat} {h' : Heap} (ho : all[i]? = some o) (hc : CallAt st.fr all o f args) (hG : Good P f args st.nx st.h (.pan r) nx' h')
      (hm : i ∈ m.eff) : TrX P N m all base (i :: rest) st (.pan r nx' h')
  | panic {i : Nat} {o : Oper} {rest : List Nat} {st : St} {x : Operand} (ho : all[i]? = some o) (hg : gval st.fr all o = some true) (hop : o.op = .panic x) (hx : isIface (ev st.fr x) = true)
      (hm : i ∈ m.eff) : TrX P N m all base (i :: rest) st (.pan (ev st.fr x) st.nx st.h)

section
variable {D : Nat → Prop} {h : Heap} {β : Nat → Option Nat} {I : Nat → Prop} {w : World} {P : Program} {N : Nat} {all : Array Oper} {m : Mode} {base : Nat}

theorem pairsOk_spec {tbl : List Nat} : ∀ {l : List Nat}, pairsOk all m tbl l = true → l.Pairwise fun x i => (tbl.getD i 0).testBit x = true ∨ okPair all m x i = true
  | [], _ => .nil
  | x :: l, hl => by
    simp only [pairsOk, Bool.and_eq_true, List.all_eq_true, Bool.or_eq_true] at hl
    exact .cons hl.1 (pairsOk_spec hl.2)

theorem ahead_of {i x : Nat} (hx : ((maskTbl all.toList []).getD i 0).testBit x = true) : Ahead all i x := by
  have h1 := maskTbl_spec (all := all) all.toList [] (fun i o ho => by simpa using ho) (fun i mk h => by simp at h)
  cases e : (maskTbl all.toList [])[i]? with
  | none => rw [List.getD_eq_getElem?_getD, e] at hx; simp at hx
  | some mk =>
    rw [List.getD_eq_getElem?_getD, e] at hx
    exact h1 i mk e x hx

/-- Memory that is not made yet is forgotten. -/
theorem simv_unghost {b : Nat} {k : Blk} (hk : hget h b = some k) (hg : k.gen = 0) (hb : β b = none) {c : CV} {v : Value} (hs : SimV D h β I w c v) : SimV (fun n => D n ∧ n ≠ b) (hdel h b) β I w c v := by
  have hne : ∀ {n}, n ≠ b → hget (hdel h b) n = hget h n := fun {n} hn => by rw [hget_hdel, if_neg hn]
  have hlt : ∀ {n g : Nat}, (∀ k, hget h n = some k → g < k.gen) → n ≠ b := fun {n g} hn e => by
    subst e
    have := hn k hk
    omega
  have hsome : ∀ {n rb : Nat}, β n = some rb → n ≠ b := fun {n rb} hn e => by subst e; rw [hb] at hn; cases hn
  induction hs with
  | undef v => exact .undef v
  | lit v => exact .lit v
  | ptrNo hd hn => exact .ptrNo ⟨hd, hlt hn⟩ (fun k' hk' => hn k' (by rw [← hne (hlt hn)]; exact hk'))
  | ptr hd hg hb => exact .ptr ⟨hd, hsome hb⟩ (fun k' hk' => hg k' (by rw [← hne (hsome hb)]; exact hk')) hb
  | slNo hd hn => exact .slNo ⟨hd, hlt hn⟩ (fun k' hk' => hn k' (by rw [← hne (hlt hn)]; exact hk'))
  | sl hd hg hb hc hl hs ho => exact .sl ⟨hd, hsome hb⟩ (fun k' hk' => hg k' (by rw [← hne (hsome hb)]; exact hk')) hb hc hl hs ho
  | iptr hI hc h1 _ ih => exact .iptr hI hc h1 ih
  | isl hI hc h1 _ hl ih => exact .isl hI hc h1 ih hl
  | agg hl _ ih => exact .agg hl ih
  | tup hl _ ih => exact .tup hl ih
  | fn hl _ hm _ ih1 ih2 => exact .fn hl ih1 hm ih2
  | ifc _ ih => exact .ifc ih
  | mpNo hd hn => exact .mpNo ⟨hd, hlt hn⟩ (fun k' hk' => hn k' (by rw [← hne (hlt hn)]; exact hk'))
  | mp hd hg hb => exact .mp ⟨hd, hsome hb⟩ (fun k' hk' => hg k' (by rw [← hne (hsome hb)]; exact hk')) hb

theorem sim_unghost {b : Nat} {k : Blk} (hS : Sim D h β I w) (hk : hget h b = some k) (hg : k.gen = 0) (hb : β b = none) : Sim (fun n => D n ∧ n ≠ b) (hdel h b) β I w := by
  have hget' : ∀ {n k'}, hget (hdel h b) n = some k' → hget h n = some k' ∧ n ≠ b := fun {n k'} hn => by
    rw [hget_hdel] at hn
    by_cases e : n = b
    · rw [if_pos e] at hn; cases hn
    · rw [if_neg e] at hn; exact ⟨hn, e⟩
  have hne : ∀ {n}, hget (hdel h b) n ≠ none → hget h n ≠ none := fun {n} hn => by
    cases e : hget (hdel h b) n with
    | none => exact absurd e hn
    | some k' => rw [(hget' e).1]; simp
  refine ⟨fun n k' hn => ⟨hS.dom n k' (hget' hn).1, (hget' hn).2⟩, fun n k' rb hn hbb => ?_, fun n m rb h1 h2 => hS.inj n m rb (hne h1) (hne h2), fun n rb h1 => hS.noI n rb (hne h1), hS.ilt⟩
  have h1 := hS.blk n k' rb (hget' hn).1 hbb
  refine ⟨fun hm => ?_, fun l hm => ?_⟩
  · obtain ⟨c, e, q1, q2, q3⟩ := h1.cell hm
    exact ⟨c, e, q1, q2, fun i cv hi => ⟨(q3 i cv hi).1, simv_unghost hk hg hb (q3 i cv hi).2⟩⟩
  · obtain ⟨es, cl, q1, q2, q3⟩ := h1.mapp l hm
    exact ⟨es, cl, q1, q2, fun i p e hi he => ⟨simv_unghost hk hg hb (q3 i p e hi he).1, simv_unghost hk hg hb (q3 i p e hi he).2⟩⟩

theorem pres_heq {h' : Heap} (he : ∀ n, hget h' n = hget h n) : Pres D h β I w h' β I w :=
  ⟨fun _ h => h, fun _ _ => rfl, fun n k' _ hk => ⟨k', by rw [← he]; exact hk, Nat.le_refl _, fun _ => ⟨rfl, fun _ c _ _ hc => ⟨c, hc, Nat.le_refl _⟩⟩⟩⟩
theorem sim_heq {h' : Heap} (he : ∀ n, hget h' n = hget h n) (hS : Sim D h β I w) : Sim D h' β I w :=
  ⟨fun n k hk => hS.dom n k (by rw [← he]; exact hk), fun n k rb hk hb => (hS.blk n k rb (by rw [← he]; exact hk) hb).mono (fun _ h => h) (pres_heq he) rfl,
    fun n m rb h1 h2 => hS.inj n m rb (by rw [← he]; exact h1) (by rw [← he]; exact h2), fun n rb h1 => hS.noI n rb (by rw [← he]; exact h1), hS.ilt⟩
theorem ext_sub {h' : Heap} (hl : ∀ n k, hget h' n = some k → hget h n = some k) : Ext D h β I w h' β I w := by
  have hne : ∀ {n}, hget h' n ≠ none → hget h n ≠ none := fun {n} hn => by
    cases e : hget h' n with
    | none => exact absurd e hn
    | some k => rw [hl n k e]; simp
  exact ⟨⟨fun _ h => h, fun _ _ => rfl, fun n k' _ hk => ⟨k', hl n k' hk, Nat.le_refl _, fun _ => ⟨rfl, fun _ c _ _ hc => ⟨c, hc, Nat.le_refl _⟩⟩⟩⟩, rfl, rfl, rfl, Nat.le_refl _, fun _ _ _ => rfl, fun n rb h1 h2 => .inr ⟨n, hne h1, h2⟩, fun _ h => .inl h, fun _ _ _ => rfl⟩

theorem Ran.feq {ds : List Deferred} {nx : Nat} {F F' : Fin} {e : Exit} {a' : Act} {w' : World} (hf : FEq F F') (hr : Ran D h β I w N ds nx F' e a' w') : Ran D h β I w N ds nx F e a' w' := by
  obtain ⟨D', β', I', ⟨q1, q2, q3, q4⟩, q5⟩ := hr
  cases F with
  | nor s => cases F' with
    | nor s' =>
      obtain ⟨f1, f2, f3⟩ := hf
      refine ⟨D', β', I', ⟨q1, ?_, ?_, ?_⟩, ?_⟩
      · intro n hn; have := q2 n hn; simp only [Fin.nx] at this ⊢; rw [f2]; exact this
      · simp only [Fin.h] at q3 ⊢; rw [f3]; exact q3
      · simp only [Fin.h] at q4 ⊢; rw [f3]; exact q4
      · simp only [Fin.h, Left] at q5 ⊢
        rw [f3]
        exact ⟨q5.1, ⟨q5.2.1.1, fun t => by rw [f1 t]; exact q5.2.1.2 t⟩, q5.2.2⟩
    | pan c nx h => exact hf.elim
    | «at» K s => exact hf.elim
  | «at» K s => cases F' with
    | «at» K' s' =>
      obtain ⟨rfl, rfl⟩ := hf
      exact ⟨D', β', I', ⟨q1, q2, q3, q4⟩, q5⟩
    | nor s' => exact hf.elim
    | pan c nx h => exact hf.elim
  | pan c nx h => cases F' with
    | «at» K s => exact hf.elim
    | nor s' => exact hf.elim
    | pan c' nx' h' =>
      obtain ⟨rfl, rfl, rfl⟩ := hf
      exact ⟨D', β', I', ⟨q1, q2, q3, q4⟩, q5⟩

theorem getD_set (l : Array Bool) (i j : Nat) : (l.setIfInBounds i true).getD j true = if j = i then true else l.getD j true := by
  rw [Array.getD_eq_getD_getElem?, Array.getD_eq_getD_getElem?, Array.getElem?_setIfInBounds]
  by_cases e : i = j
  · subst e
    rw [if_pos rfl, if_pos rfl]
    split <;> rfl
  · rw [if_neg e, if_neg (Ne.symm e)]

theorem exists_min : ∀ (R : List Nat), R ≠ [] → ∃ i ∈ R, ∀ j ∈ R, i ≤ j
  | [], h => (h rfl).elim
  | [x], _ => ⟨x, by simp, fun j hj => by simp at hj; omega⟩
  | x :: y :: R, _ => by
    obtain ⟨i, hi, hm⟩ := exists_min (y :: R) (by simp)
    by_cases h : x ≤ i
    · exact ⟨x, by simp, fun j hj => by
        rcases List.mem_cons.1 hj with e | hj
        · omega
        · have := hm j hj; omega⟩
    · exact ⟨i, by simp [hi], fun j hj => by
        rcases List.mem_cons.1 hj with e | hj
        · omega
        · exact hm j hj⟩

theorem mem_ready {listed : Array Bool} {i : Nat} : i ∈ Region.ready .any all listed ↔ i < all.size ∧ listed.getD i true = false ∧ ∃ o, all[i]? = some o ∧ ∀ e ∈ o.after, Region.binds .any e = true → listed.getD e.on false = true := by
  unfold Region.ready
  simp only [List.mem_filter, List.mem_range, Bool.and_eq_true, Bool.not_eq_true']
  constructor
  · rintro ⟨h1, h2, h3⟩
    refine ⟨h1, h2, all[i], Array.getElem?_eq_getElem h1, fun e he hb => ?_⟩
    rw [Array.getElem?_eq_getElem h1] at h3
    simp only [Option.map_some, Option.getD_some, Array.all_eq_true', Bool.or_eq_true, Bool.not_eq_true'] at h3
    rcases h3 e he with h4 | h4
    · rw [hb] at h4; cases h4
    · exact h4
  · rintro ⟨h1, h2, o, ho, h3⟩
    refine ⟨h1, h2, ?_⟩
    rw [ho]
    simp only [Option.map_some, Option.getD_some, Array.all_eq_true', Bool.or_eq_true, Bool.not_eq_true']
    intro e he
    cases hb : Region.binds .any e
    · exact .inl rfl
    · exact .inr (h3 e he hb)

theorem pre_pair (np : Nat) (l : List Nat) (hl : l.Nodup) : l.Pairwise fun x y => y ∈ l.take np → x ∈ l.take np := by
  have key : ∀ (A B : List Nat), (A ++ B).Nodup → (A ++ B).Pairwise fun x y => y ∈ A → x ∈ A := by
    intro A B h
    rw [List.nodup_append] at h
    rw [List.pairwise_append]
    refine ⟨?_, ?_, fun x hx y hy _ => hx⟩
    · exact List.pairwise_iff_forall_sublist.2 fun {a b} hab _ => hab.subset (by simp)
    · exact List.pairwise_iff_forall_sublist.2 fun {a b} hab hb => absurd rfl (h.2.2 b hb b (hab.subset (by simp)))
  have := key (l.take np) (l.drop np) (by rw [List.take_append_drop]; exact hl)
  rwa [List.take_append_drop] at this

theorem any_run {ds : List Deferred} {F0 : Fin} {D0 : Nat → Prop} {h0 : Heap} {β0 : Nat → Option Nat} {I0 : Nat → Prop} {w0 : World} (Q : Exit → Act → World → Prop)
    (hedge : ∀ (i : Nat) (o : Oper), all[i]? = some o → ∀ e ∈ o.after, Region.binds .any e = true → e.on < i)
    (hpair : m.perm.Pairwise fun x i => Ahead all i x ∨ okPair all m x i = true) (hnd : m.perm.Nodup) (hpq : ∀ i ∈ m.perm.take m.np, i ∉ m.ab → ∀ o, all[i]? = some o → quiet m i o = true) (habp : ∀ j ∈ m.ab, j ∈ m.perm.take m.np)
    (hQ : ∀ e a' w', Ran D0 h0 β0 I0 w0 N ds base F0 e a' w' → Q e a' w') (h0b : ∀ n, D0 n → n < base) :
    ∀ (fuel : Nat) (listed : Array Bool) (R : List Nat) (st : St) (F : Fin) (a : Act) (w : World) (D : Nat → Prop) (β : Nat → Option Nat) (I : Nat → Prop),
      TrG P N all m base R st F → FEq F0 F → R.Sublist m.perm → (∀ i, i ∈ R ↔ (i < all.size ∧ listed.getD i true = false)) → R.length ≤ fuel → listed.size = all.size →
      (∀ j o, all[j]? = some o → listed.getD j true = true → ∀ e ∈ o.after, Region.binds .any e = true → listed.getD e.on true = true) →
      (∀ n, D0 n → D n) → (∀ n, D n → D0 n ∨ (base ≤ n ∧ n < st.nx)) → base + all.size ≤ st.nx →
      (∀ i ∈ R, i ∉ m.ab → ¬ D (base + i)) → (∀ i ∈ R, i ∈ m.ab → β (base + i) = none ∧ ∃ k, hget st.h (base + i) = some k ∧ k.gen = 0) →
      Sim D st.h β I w → SimF D st.h β I w N st.fr a → a.defers = ds → Ext D0 h0 β0 I0 w0 st.h β I w → wpAny P .any all Q fuel listed a w := by
  intro fuel
  induction fuel with
  | zero =>
    intro listed R st F a w D β I ht hf hsub hR hlen hsz hcl hD0 hDn hb hfr hgh hS hF hd hx
    obtain rfl : R = [] := List.length_eq_zero_iff.1 (by omega)
    refine ⟨?_, ?_⟩
    · refine List.eq_nil_iff_forall_not_mem.2 fun i hi => ?_
      obtain ⟨h1, h2, _⟩ := mem_ready.1 hi
      have := (hR i).2 ⟨h1, h2⟩
      simp at this
    · cases ht with
      | nil => exact hQ _ _ _ (Ran.feq hf ⟨D, β, I, ⟨hD0, hDn, hS, hx⟩, rfl, hF, hd⟩)
  | succ fuel ih =>
    intro listed R st F a w D β I ht hf hsub hR hlen hsz hcl hD0 hDn hb hfr hgh hS hF hd hx
    have hlist : ∀ j, listed.getD j false = true → listed.getD j true = true := fun j hj => by
      rw [Array.getD_eq_getD_getElem?] at hj ⊢
      cases e : listed[j]? with
      | none => rfl
      | some b => rw [e] at hj; exact hj
    have hlist2 : ∀ j, j < all.size → listed.getD j true = true → listed.getD j false = true := fun j hj h1 => by
      rw [Array.getD_eq_getD_getElem?] at h1 ⊢
      rw [Array.getElem?_eq_getElem (by omega)] at h1 ⊢
      exact h1
    have hDlt : ∀ n, D n → n < st.nx := fun n hn => by
      rcases hDn n hn with h1 | h1
      · have := h0b n h1; omega
      · exact h1.2
    refine ⟨fun hnil => ?_, fun i hi => ?_⟩
    · have : R = [] := by
        apply Classical.byContradiction
        intro hne
        obtain ⟨i, hi, hmin⟩ := exists_min R hne
        obtain ⟨h1, h2⟩ := (hR i).1 hi
        have hmem : i ∈ Region.ready .any all listed := mem_ready.2 ⟨h1, h2, all[i], Array.getElem?_eq_getElem h1, fun e he hbd => by
          have hlt := hedge i _ (Array.getElem?_eq_getElem h1) e he hbd
          refine hlist2 _ (by omega) ?_
          cases hv : listed.getD e.on true with
          | true => rfl
          | false =>
            have := hmin e.on ((hR e.on).2 ⟨by omega, hv⟩)
            omega⟩
        rw [hnil] at hmem
        simp at hmem
      subst this
      cases ht with
      | nil => exact hQ _ _ _ (Ran.feq hf ⟨D, β, I, ⟨hD0, hDn, hS, hx⟩, rfl, hF, hd⟩)
    · obtain ⟨hin, hil, o, hoi, hedges⟩ := mem_ready.1 hi
      have hiR : i ∈ R := (hR i).2 ⟨hin, hil⟩
      obtain ⟨R1, R2, rfl⟩ := List.append_of_mem hiR
      have hpw := hpair.sublist hsub
      have hndR := hnd.sublist hsub
      have hiR12 : i ∉ R1 ++ R2 := by
        have h5 := List.nodup_append.1 hndR
        have h6 := List.nodup_cons.1 h5.2.1
        intro hm
        rcases List.mem_append.1 hm with h7 | h7
        · exact h5.2.2 i h7 i (by simp) rfl
        · exact h6.1 h7
      have hok : ∀ x ∈ R1, okPair all m x i = true := fun x hx => by
        have h1 := (List.pairwise_append.1 hpw).2.2 x hx i (by simp)
        rcases h1 with h1 | h1
        · have h2 := h1 (fun j => listed.getD j true = true) (fun j o ho hj e he hbd => hcl j o ho hj e he hbd) (fun o' ho' e he hbd => by
            rw [hoi] at ho'; cases ho'
            exact hlist _ (hedges e he hbd))
          have h3 := ((hR x).1 (by simp [hx])).2
          rw [h3] at h2; cases h2
        · exact h1
      obtain ⟨F', ht', hf'⟩ := TrG.front R1 R2 ht (fun oi hoi' _ => ⟨fun hab => by
        cases e : hget st.h (base + i) with
        | none => rfl
        | some k => exact absurd (hS.dom _ k e) (hfr i hiR hab), fun n k hk => hDlt n (hS.dom n k hk)⟩) hok
      have hsub' : (R1 ++ R2).Sublist m.perm := (List.Sublist.append (List.Sublist.refl _) (List.sublist_cons_self _ _)).trans hsub
      have hsubR : ∀ j, j ∈ R1 ++ R2 → j ∈ R1 ++ i :: R2 := fun j hj => by
        rcases List.mem_append.1 hj with h | h
        · simp [h]
        · simp [h]
      have hR' : ∀ j, j ∈ R1 ++ R2 ↔ (j < all.size ∧ (listed.setIfInBounds i true).getD j true = false) := fun j => by
        rw [getD_set]
        constructor
        · intro hj
          have h1 := (hR j).1 (hsubR j hj)
          have h2 : j ≠ i := fun e => hiR12 (e ▸ hj)
          rw [if_neg h2]; exact h1
        · rintro ⟨h1, h2⟩
          by_cases e : j = i
          · rw [if_pos e] at h2; cases h2
          · rw [if_neg e] at h2
            have := (hR j).2 ⟨h1, h2⟩
            simp only [List.mem_append, List.mem_cons] at this ⊢
            rcases this with h | h | h
            · exact .inl h
            · exact absurd h e
            · exact .inr h
      have hlen' : (R1 ++ R2).length ≤ fuel := by simp at hlen ⊢; omega
      have hcl' : ∀ j o, all[j]? = some o → (listed.setIfInBounds i true).getD j true = true → ∀ e ∈ o.after, Region.binds .any e = true → (listed.setIfInBounds i true).getD e.on true = true := by
        intro j o' ho' hj e he hbd
        rw [getD_set] at hj ⊢
        split
        · rfl
        · by_cases e2 : j = i
          · subst e2
            rw [hoi] at ho'; cases ho'
            exact hlist _ (hedges e he hbd)
          · rw [if_neg e2] at hj
            exact hcl j o' ho' hj e he hbd
      have hisz : base + i < st.nx := by omega
      have again := fun st' F' a' w' D' β' I' => ih (listed.setIfInBounds i true) (R1 ++ R2) st' F' a' w' D' β' I'
      cases ht' with
      | @mem _ o' _ _ _ cv k fr' hpre ho hab hgd he hk hp ht'' =>
        rw [hoi] at ho; cases ho
        obtain ⟨hbn, k2, hk2, hg0⟩ := hgh i hiR hpre
        rw [hk] at hk2; cases hk2
        have hS' := sim_unghost hS hk hg0 hbn
        have hF' : SimF (fun n => D n ∧ n ≠ base + i) (hdel st.h (base + i)) β I w N st.fr a := ⟨hF.1, fun t => simv_unghost hk hg0 hbn (hF.2 t)⟩
        have hnext : opNext P N all base i o ⟨st.fr, st.nx, hdel st.h (base + i)⟩ = some ⟨fr', st.nx, (base + i, k) :: hdel st.h (base + i)⟩ := by
          rw [opNext_eq]
          simp only [opVal, gval, hgd, he, Option.bind_some, hp, Option.map_some]
        refine next_sound (base := base) (st := ⟨st.fr, st.nx, hdel st.h (base + i)⟩) Q hoi hS' hF' (fun hh => hh.2 rfl) hnext fun β' a' w' s1 s2 s3 s4 => ?_
        have heq : ∀ n, hget st.h n = hget ((base + i, k) :: hdel st.h (base + i)) n := fun n => by
          rw [hget_cons, hget_hdel]
          by_cases e : n = base + i
          · rw [if_pos e, e]; exact hk
          · rw [if_neg e, if_neg e]
        have hDp : ∀ n, plus (fun n => D n ∧ n ≠ base + i) (base + i) n → D n := fun n hn => by
          rcases hn with h1 | h1
          · exact h1.1
          · rw [h1]; exact hS.dom _ _ hk
        have hne0 : ∀ n, D0 n → n ≠ base + i := fun n hn e => by have := h0b n hn; omega
        refine again ⟨fr', st.nx, st.h⟩ F' a' w' D β' I ht'' (hf.trans hf') hsub' hR' hlen' (by simp [hsz]) hcl' hD0 hDn hb (fun j hj hjp => hfr j (hsubR j hj) hjp) (fun j hj hjp => ?_) ?_ ?_ (s3.trans hd) ?_
        · obtain ⟨g1, k3, g2, g3⟩ := hgh j (hsubR j hj) hjp
          have hji : base + j ≠ base + i := fun e => hiR12 (by rw [show i = j from by omega]; exact hj)
          refine ⟨?_, k3, g2, g3⟩
          obtain ⟨kk, q1, q2, q3⟩ := s4.pres.blk (base + j) k3 ⟨hS.dom _ _ g2, hji⟩ (by rw [← heq]; exact g2)
          rw [hget_hdel, if_neg hji, g2] at q1
          cases q1
          rw [(q3 rfl).1]; exact g1
        · exact (sim_heq heq s1).more hDp
        · exact (s2.mono hDp (pres_heq heq))
        · refine (hx.trans (D' := fun n => D n ∧ n ≠ base + i) (fun n hn => ⟨hD0 n hn, hne0 n hn⟩) (ext_sub fun n k' hn => ?_)).trans (D' := fun n => D n ∧ n ≠ base + i) (fun n hn => ⟨hD0 n hn, hne0 n hn⟩) (s4.trans (D' := D) (fun n hn => hn.1) (ext_sub fun n k' hn => by rw [← heq]; exact hn))
          rw [hget_hdel] at hn
          split at hn
          · cases hn
          · exact hn
      | @act _ o' _ _ _ cv nx' h' fr' hpre ho hdo hp ht'' =>
        rw [hoi] at ho; cases ho
        have keep : ∀ j ∈ R1 ++ R2, j ∈ m.ab → hget h' (base + j) = hget st.h (base + j) := fun j hj hjp => by
          have hji : j ≠ i := fun e => hiR12 (e ▸ hj)
          by_cases hq : quiet m i o = true
          · rw [(hdo.quiet hq).2]
          · suffices hs : isNew o.op = true ∨ j ∈ m.frees i by
              rcases hs with hs | hs
              · exact hdo.keepsNew hs hji
              · exact hdo.keeps hs hji
            have h1 : okPair all m j i = true := by
              rcases List.mem_append.1 hj with h | h
              · exact hok j h
              · have h2 := (List.pairwise_cons.1 (List.pairwise_append.1 ((pre_pair m.np m.perm hnd).sublist hsub)).2.1).1 j h
                exact absurd (hpq i (h2 (habp j hjp)) hpre o hoi) hq
            unfold okPair at h1
            split at h1
            · rename_i oj oi hoj hoi'
              rw [hoi] at hoi'; cases hoi'
              rw [if_pos (by simpa using hjp)] at h1
              simp only [Bool.and_eq_true, Bool.or_eq_true] at h1
              rcases h1.2 with (h2 | h2) | ⟨_, h2 | h2⟩
              · exact absurd (by simpa using h2) hpre
              · exact absurd h2 hq
              · exact .inl h2
              · exact .inr (by simpa using h2)
            · cases h1
        have ghosts : ∀ (β' : Nat → Option Nat) (I' : Nat → Prop) (w' : World), Ext D st.h β I w h' β' I' w' → ∀ j ∈ R1 ++ R2, j ∈ m.ab → β' (base + j) = none ∧ ∃ k, hget h' (base + j) = some k ∧ k.gen = 0 := fun β' I' w' hxx j hj hjp => by
          obtain ⟨g1, k3, g2, g3⟩ := hgh j (hsubR j hj) hjp
          have hk' : hget h' (base + j) = some k3 := by rw [keep j hj hjp]; exact g2
          obtain ⟨kk, q1, q2, q3⟩ := hxx.pres.blk (base + j) k3 (hS.dom _ _ g2) hk'
          rw [g2] at q1; cases q1
          exact ⟨by rw [(q3 rfl).1]; exact g1, k3, hk', g3⟩
        cases hdo with
        | op hn hm hx' =>
          have hnext : opNext P N all base i o st = some ⟨fr', st.nx, h'⟩ := by
            rw [opNext_eq, hn]
            simp only [Option.bind_some, hp, Option.map_some]
          refine next_sound (base := base) Q hoi hS hF (hfr i hiR hpre) hnext fun β' a' w' s1 s2 s3 s4 => ?_
          refine again ⟨fr', st.nx, h'⟩ F' a' w' (plus D (base + i)) β' I ht'' (hf.trans hf') hsub' hR' hlen' (by simp [hsz]) hcl' (fun n hn => .inl (hD0 n hn)) (fun n hn => ?_) hb (fun j hj hjp => ?_) (ghosts _ _ _ s4) s1 s2 (s3.trans hd) (hx.trans hD0 s4)
          · rcases hn with h1 | h1
            · exact hDn n h1
            · right; simp only; omega
          · rintro (h1 | h1)
            · exact hfr j (hsubR j hj) hjp h1
            · exact hiR12 (by rw [show i = j from by omega]; exact hj)
        | call hc hG hm =>
          refine call_sound Q hoi hS hF hDlt hc hG hp fun β' I' a' w' s1 s2 s3 s4 => ?_
          have hle := hG.1
          refine again ⟨fr', nx', h'⟩ F' a' w' (Dx D st.nx nx') β' I' ht'' (hf.trans hf') hsub' hR' hlen' (by simp [hsz]) hcl' (fun n hn => .inl (hD0 n hn)) (fun n hn => ?_) (by simp only; omega) (fun j hj hjp => ?_) (ghosts _ _ _ s4) s1 s2 (s3.trans hd) (hx.trans hD0 s4)
          · rcases hn with h1 | h1
            · rcases hDn n h1 with h2 | h2
              · exact .inl h2
              · right; simp only; omega
            · right; simp only; omega
          · have hjn := ((hR' j).1 hj).1
            rintro (h1 | h1)
            · exact hfr j (hsubR j hj) hjp h1
            · omega
      | @die _ o' _ _ cv nx' h' hpre ho hdo =>
        rw [hoi] at ho; cases ho
        cases hdo with
        | call hc hG hm =>
          have hle := hG.1
          refine call_pan Q hoi hS hF hDlt hc hG fun β' I' v w' s1 s2 s3 => ?_
          refine hQ _ _ _ (Ran.feq (hf.trans hf') ⟨Dx D st.nx nx', β', I', ⟨fun n hn => .inl (hD0 n hn), fun n hn => ?_, s1, hx.trans hD0 s3⟩, hd, v, rfl, s2⟩)
          simp only [Fin.nx]
          rcases hn with h1 | h1
          · rcases hDn n h1 with h2 | h2
            · exact .inl h2
            · right; omega
          · right; omega
        | panic hg hop hxx hm =>
          refine panic_sound Q hoi hF hg hop hxx fun v hv => ?_
          exact hQ _ _ _ (Ran.feq (hf.trans hf') ⟨D, β, I, ⟨hD0, hDn, hS, hx⟩, hd, v, rfl, hv⟩)

theorem Tr.toX (h1 : m.ov = []) (h2 : m.wb = []) {l : List Nat} {st : St} {F : Fin} (ht : Tr P N (some m) all base l st F) : TrX P N m all base l st F := by
  induction ht with
  | nil => exact .nil
  | @op i o rest st st1 F ho hn hm ht ih =>
    rw [opNext_eq] at hn
    cases e : opVal P all (base + i) st.fr st.h o with
    | none => rw [e] at hn; cases hn
    | some p =>
      obtain ⟨cv, h'⟩ := p
      rw [e] at hn
      simp only [Option.bind_some] at hn
      cases e2 : putc N st.fr o.dst cv with
      | none => rw [e2] at hn; cases hn
      | some fr' =>
        rw [e2] at hn
        simp only [Option.map_some, Option.some.injEq] at hn
        subst hn
        exact .op ho e hm (.none h1 h2) e2 ih
  | call ho hc hG hp hm ht ih => exact .call ho hc hG hp hm ih
  | callPan ho hc hG hm => exact .callPan ho hc hG (hm m rfl)
  | panic ho hg hop hx hm => exact .panic ho hg hop hx (hm m rfl)

theorem trg_of_tr {l : List Nat} {st : St} {F : Fin} (ht : TrX P N m all base l st F) : (∀ i ∈ l, i ∉ m.ab) → TrG P N all m base l st F := by
  induction ht with
  | nil => exact fun _ => .nil
  | op ho hd hm hx hp ht ih => exact fun hl => .act (hl _ (by simp)) ho (.op hd hm hx) hp (ih fun j hj => hl j (by simp [hj]))
  | call ho hc hG hp hm ht ih => exact fun hl => .act (hl _ (by simp)) ho (.call hc hG hm) hp (ih fun j hj => hl j (by simp [hj]))
  | callPan ho hc hG hm => exact fun hl => .die (hl _ (by simp)) ho (.call hc hG hm)
  | panic ho hg hop hx hm => exact fun hl => .die (hl _ (by simp)) ho (.panic hg hop hx hm)

theorem trg_init (B : List Nat) (hB : ∀ i ∈ B, i ∉ m.ab) : ∀ (A : List Nat), (∀ i ∈ A, (i ∈ m.ab ∧ ∃ o, all[i]? = some o ∧ isAB o.op = true ∧ o.guard = none) ∨ (i ∉ m.ab ∧ ∃ o, all[i]? = some o ∧ quiet m i o = true ∧ isCallV o.op = false)) → A.Nodup → ∀ {st : St} {F : Fin}, (∀ i ∈ A, hget st.h (base + i) = none) →
    TrX P N m all base (A ++ B) st F → ∃ hA : Heap, (∀ i ∈ A, i ∈ m.ab → ∃ k, hget hA (base + i) = some k ∧ k.gen = 0) ∧ (∀ n, (∀ i ∈ A, i ∈ m.ab → n ≠ base + i) → hget hA n = hget st.h n) ∧ TrG P N all m base (A ++ B) ⟨st.fr, st.nx, hA⟩ F
  | [], _, _, st, F, _, ht => ⟨st.h, fun i hi => by simp at hi, fun _ _ => rfl, trg_of_tr ht hB⟩
  | i :: A, hA, hnd, st, F, hfr, ht => by
    rw [List.nodup_cons] at hnd
    have hji : ∀ j ∈ A, j ≠ i := fun j hj e => hnd.1 (e ▸ hj)
    rcases hA i (by simp) with ⟨hpre, o, ho, hab, hgd⟩ | ⟨hpre, o, ho, hq, hncall⟩
    · cases ht with
      | @op _ o' _ _ _ cv h' fr' ho' hv0 hm hx e2 ht =>
        rw [ho] at ho'; cases ho'
        have hv : opVal P all (base + i) st.fr st.h o = opEval P (base + i) st.fr st.h o := by simp [opVal, gval, hgd]
        rw [hv] at hv0
        obtain ⟨k, rfl, hg0, hmono, _⟩ := opEval_AB hab hv0
        obtain ⟨h1, g1, g2, g3⟩ := trg_init B hB A (fun j hj => hA j (by simp [hj])) hnd.2 (st := ⟨fr', st.nx, (base + i, k) :: st.h⟩) (fun j hj => by
          have := hji j hj
          simp only
          rw [hget_cons, if_neg (by omega)]; exact hfr j (by simp [hj])) ht
        have hb : hget h1 (base + i) = some k := by
          rw [g2 _ fun j hj _ => by have := hji j hj; omega]
          simp [hget_cons]
        refine ⟨h1, fun j hj hjm => ?_, fun n hn => ?_, ?_⟩
        · rcases List.mem_cons.1 hj with e3 | hj
          · subst e3; exact ⟨k, hb, hg0⟩
          · exact g1 j hj hjm
        · rw [g2 n fun j hj => hn j (by simp [hj])]
          simp only
          rw [hget_cons, if_neg (hn i (by simp) hpre)]
        · refine .mem hpre ho hab hgd (hmono _ fun n k' hn => ?_) hb e2 g3
          have hne : n ≠ base + i := fun e3 => by subst e3; rw [hfr i (by simp)] at hn; cases hn
          rw [hget_hdel, if_neg hne, g2 n fun j hj _ e3 => by subst e3; rw [hfr j (by simp [hj])] at hn; cases hn]
          simp only
          rw [hget_cons, if_neg hne]; exact hn
      | call ho' hc =>
        rw [ho] at ho'; cases ho'
        obtain ⟨_, x, xs, ts, us, vs, hop, _⟩ := hc
        rw [hop] at hab; simp [isAB] at hab
      | callPan ho' hc =>
        rw [ho] at ho'; cases ho'
        obtain ⟨_, x, xs, ts, us, vs, hop, _⟩ := hc
        rw [hop] at hab; simp [isAB] at hab
      | panic ho' hg hop =>
        rw [ho] at ho'; cases ho'
        rw [hop] at hab; simp [isAB] at hab
    · cases ht with
      | @op _ o' _ _ _ cv h' fr' ho' hv0 hm hx e2 ht =>
        rw [ho] at ho'; cases ho'
        have hdo : Does P all m base i o st.fr st.nx st.h cv st.nx h' := .op hv0 hm hx
        obtain ⟨_, rfl⟩ := hdo.quiet hq
        obtain ⟨h1, g1, g2, g3⟩ := trg_init B hB A (fun j hj => hA j (by simp [hj])) hnd.2 (st := ⟨fr', st.nx, st.h⟩) (fun j hj => hfr j (by simp [hj])) ht
        refine ⟨h1, fun j hj hjm => ?_, fun n hn => g2 n fun j hj => hn j (by simp [hj]), ?_⟩
        · rcases List.mem_cons.1 hj with e3 | hj
          · subst e3; exact absurd hjm hpre
          · exact g1 j hj hjm
        · refine .act hpre ho (hdo.beside hq hncall (fun n k' hn => ?_) st.nx) e2 g3
          rw [g2 n fun j hj _ e3 => by subst e3; rw [hfr j (by simp [hj])] at hn; cases hn]
          exact hn
      | call ho' hc =>
        rw [ho] at ho'; cases ho'
        obtain ⟨_, x, xs, ts, us, vs, hop, _⟩ := hc
        rw [hop] at hncall; cases hncall
      | callPan ho' hc =>
        rw [ho] at ho'; cases ho'
        obtain ⟨_, x, xs, ts, us, vs, hop, _⟩ := hc
        rw [hop] at hncall; cases hncall
      | panic ho' hg hop =>
        rw [ho] at ho'; cases ho'
        unfold quiet at hq
        rw [hop] at hq; simp [isPan] at hq

/-- A region, as the machine does it. -/
def RegOk (P : Program) (N : Nat) (c : Code) (st : St) (F : Fin) : Prop :=
  ∀ (D : Nat → Prop) (β : Nat → Option Nat) (I : Nat → Prop) (a : Act) (w : World) (ds : List Deferred) (Q : Exit → Act → World → Prop), (∀ n, D n → n < st.nx) → Sim D st.h β I w → SimF D st.h β I w N st.fr a → a.defers = ds →
    (∀ e a' w', Ran D st.h β I w N ds st.nx F e a' w' → Q e a' w') → c.wp P Q a w

/-- A region, operation by operation. -/
def RegOps (P : Program) (N : Nat) (all : Array Oper) (draw : Bool) (st : St) (F : Fin) : Prop :=
  ∀ (D : Nat → Prop) (β : Nat → Option Nat) (I : Nat → Prop) (a : Act) (w : World) (ds : List Deferred) (Q : Exit → Act → World → Prop), (∀ n, D n → n < st.nx) → Sim D st.h β I w → SimF D st.h β I w N st.fr a → a.defers = ds →
    (∀ e a' w', Ran D st.h β I w N ds st.nx F e a' w' → Q e a' w') →
    (draw = false → wpOps P all Q (List.range all.size) a w) ∧ (draw = true → wpAny P .any all Q all.size (Array.replicate all.size false) a { w with drawn := w.drawn + 1 })

theorem RegOps.ok (hmix : P.follows .mixedOrders = true) {all : Array Oper} {draw : Bool} {id : Nat} {st : St} {F : Fin} (h : RegOps P N all draw st F) : RegOk P N (.region id all draw) st F := by
  intro D β I a w ds Q hD hS hF hd hQ
  obtain ⟨h1, h2⟩ := h D β I a w ds Q hD hS hF hd hQ
  cases draw with
  | false => exact wp_region (h1 rfl)
  | true => exact wp_region_any hmix (h2 rfl)

theorem regOps_drawX {st : St} {F : Fin} (hok : drawOkX all m = true) (ht : TrX P N m all st.nx m.perm ⟨st.fr, st.nx + all.size, st.h⟩ F) : RegOps P N all true st F := by
  intro D β I a w ds Q hD hS hF hd hQ
  unfold drawOkX at hok
  simp only [Bool.and_eq_true, beq_iff_eq, decide_eq_true_eq, List.all_eq_true] at hok
  obtain ⟨⟨⟨⟨⟨⟨⟨k1, k0⟩, k2⟩, k3⟩, k4⟩, k5⟩, k7⟩, k6⟩ := hok
  have hedge : ∀ (i : Nat) (o : Oper), all[i]? = some o → ∀ e ∈ o.after, Region.binds .any e = true → e.on < i := fun i o ho e he hb => by
    have h1 := k4 (o, i) (by
      rw [List.mem_iff_getElem?]
      refine ⟨i, ?_⟩
      rw [List.getElem?_zipIdx]
      simp [ho]) e (by simpa using he)
    simp only [hb, Bool.not_true, Bool.false_or, decide_eq_true_eq] at h1
    exact h1
  have hpair : m.perm.Pairwise fun x i => Ahead all i x ∨ okPair all m x i = true := (pairsOk_spec k6).imp fun h => h.imp ahead_of fun x => x
  have hmem : ∀ i, i ∈ m.perm ↔ i < all.size := fun i => by
    refine ⟨fun hi => k2 i hi, fun hi => ?_⟩
    simpa using k0 i (by simpa using hi)
  have hlt0 : ∀ n k, hget st.h n = some k → n < st.nx := fun n k hk => hD n (hS.dom n k hk)
  have hsplit : m.perm = m.perm.take m.np ++ m.perm.drop m.np := (List.take_append_drop _ _).symm
  have hnd2 := k3
  rw [hsplit, List.nodup_append] at hnd2
  have hApre : ∀ i ∈ m.perm.take m.np, (i ∈ m.ab ∧ ∃ o, all[i]? = some o ∧ isAB o.op = true ∧ o.guard = none) ∨ (i ∉ m.ab ∧ ∃ o, all[i]? = some o ∧ quiet m i o = true ∧ isCallV o.op = false) := fun i hi => by
    have h1 := k5 i hi
    cases e : all[i]? with
    | none => rw [e] at h1; simp at h1
    | some o =>
      rw [e] at h1
      simp only [Option.any_some, Bool.or_eq_true, Bool.and_eq_true, Bool.not_eq_true', Option.isNone_iff_eq_none] at h1
      rcases h1 with ⟨⟨h1, h2⟩, h3⟩ | ⟨⟨h1, h2⟩, h3⟩
      · exact .inl ⟨by simpa using h1, o, rfl, h2, h3⟩
      · exact .inr ⟨by simpa using h1, o, rfl, h2, h3⟩
  have habp : ∀ j ∈ m.ab, j ∈ m.perm.take m.np := fun j hj => by simpa using k7 j hj
  rw [hsplit] at ht
  obtain ⟨hA, g1, g2, g3⟩ := trg_init (m.perm.drop m.np) (fun i hi hi2 => hnd2.2.2 i (habp i hi2) i hi rfl) (m.perm.take m.np) hApre hnd2.1 (fun i _ => by
    simp only
    cases e : hget st.h (st.nx + i) with
    | none => rfl
    | some k => have := hlt0 _ k e; omega) ht
  rw [List.take_append_drop] at g3
  simp only at g2 g3
  refine ⟨fun h => (nomatch h), fun _ => ?_⟩
  have hold : ∀ n, n < st.nx → hget hA n = hget st.h n := fun n hn => g2 n fun i _ _ => by omega
  have hp : Pres D st.h β I w hA (fun n => if n < st.nx then β n else none) I { w with drawn := w.drawn + 1 } := by
    refine ⟨fun _ h => h, fun _ _ => rfl, fun n k' hn hk => ?_⟩
    rw [hold n (hD n hn)] at hk
    exact ⟨k', hk, Nat.le_refl _, fun _ => ⟨by rw [if_pos (hD n hn)], fun _ c _ _ hc => ⟨c, hc, Nat.le_refl _⟩⟩⟩
  have hb1 : ∀ n rb, (if n < st.nx then β n else none) = some rb → n < st.nx ∧ β n = some rb := fun n rb h => by
    split at h
    · exact ⟨‹_›, h⟩
    · cases h
  have hne1 : ∀ n, n < st.nx → hget hA n ≠ none → hget st.h n ≠ none := fun n hn h => by rw [← hold n hn]; exact h
  refine any_run (base := st.nx) (D0 := D) (h0 := st.h) (β0 := β) (I0 := I) (w0 := w) (F0 := F) Q hedge hpair k3 (fun i hi hab o ho => by
    rcases hApre i hi with ⟨h1, _⟩ | ⟨_, o', h2, h3, _⟩
    · exact absurd h1 hab
    · rw [ho] at h2; cases h2; exact h3) habp hQ hD all.size _ m.perm ⟨st.fr, st.nx + all.size, hA⟩ F a _ (fun n => D n ∨ ∃ i ∈ m.ab, n = st.nx + i) (fun n => if n < st.nx then β n else none) I g3 (FEq.refl F) (List.Sublist.refl _) (fun i => ?_) (by omega) (by simp) (fun j o ho hj e he hb => ?_)
    (fun n hn => .inl hn) (fun n hn => ?_) (Nat.le_refl _) (fun i hi hip => ?_) (fun i hi hip => ?_) ?_ ?_ hd ?_
  · rw [hmem]
    constructor
    · intro h
      refine ⟨h, ?_⟩
      rw [Array.getD_eq_getD_getElem?, Array.getElem?_replicate, if_pos h]; rfl
    · exact fun h => h.1
  · have hjl : j < all.size := by
      rcases Nat.lt_or_ge j all.size with h1 | h1
      · exact h1
      · rw [Array.getElem?_eq_none h1] at ho; cases ho
    rw [Array.getD_eq_getD_getElem?, Array.getElem?_replicate, if_pos hjl] at hj
    simp at hj
  · rcases hn with h1 | ⟨i, hi, rfl⟩
    · exact .inl h1
    · right
      have := (hmem i).1 (List.mem_of_mem_take (habp i hi))
      simp only
      omega
  · rintro (h1 | ⟨j, hj, h2⟩)
    · have := hD _ h1; omega
    · exact hip (by rw [show i = j from by omega]; exact hj)
  · exact ⟨by rw [if_neg (by omega)], g1 i (habp i hip) hip⟩
  · refine ⟨fun n k hk => ?_, fun n k rb hk hb => ?_, fun n1 n2 rb h1 h2 h3 h4 => ?_, fun n rb h1 h2 => ?_, hS.ilt⟩
    · by_cases e : ∃ i ∈ m.ab, n = st.nx + i
      · exact .inr e
      · simp only at hk
        rw [g2 n fun i hi hm h => e ⟨i, hm, h⟩] at hk
        exact .inl (hS.dom n k hk)
    · obtain ⟨q1, q2⟩ := hb1 n rb hb
      simp only at hk
      rw [hold n q1] at hk
      exact (hS.blk n k rb hk q2).mono (fun _ h => .inl h) hp rfl
    · obtain ⟨q1, q2⟩ := hb1 n1 rb h3
      obtain ⟨q3, q4⟩ := hb1 n2 rb h4
      exact hS.inj n1 n2 rb (hne1 _ q1 h1) (hne1 _ q3 h2) q2 q4
    · obtain ⟨q1, q2⟩ := hb1 n rb h2
      exact hS.noI n rb (hne1 _ q1 h1) q2
  · exact hF.mono (fun _ h => .inl h) hp
  · refine ⟨hp, rfl, rfl, rfl, Nat.le_refl _, fun _ _ _ => rfl, fun n rb h1 h2 => ?_, fun _ h => .inl h, fun n hn _ => by rw [if_pos (hD n hn)]⟩
    obtain ⟨q1, q2⟩ := hb1 n rb h2
    exact .inr ⟨n, hne1 n q1 h1, q2⟩
theorem regOps_draw {st : St} {F : Fin} (hok : drawOk all m = true) (ht : Tr P N (some m) all st.nx m.perm ⟨st.fr, st.nx + all.size, st.h⟩ F) : RegOps P N all true st F := by
  unfold drawOk at hok
  simp only [Bool.and_eq_true, List.isEmpty_iff] at hok
  exact regOps_drawX hok.1 (ht.toX hok.2.1 hok.2.2)
theorem TrX.nx_le {l : List Nat} {st : St} {F : Fin} (ht : TrX P N m all base l st F) : st.nx ≤ F.nx := by
  induction ht with
  | nil => exact Nat.le_refl _
  | op _ _ _ _ _ _ ih => exact ih
  | call _ _ hG _ _ _ ih => exact Nat.le_trans hG.1 ih
  | callPan _ _ hG _ => exact hG.1
  | panic => exact Nat.le_refl _
end
end Go.Cv
