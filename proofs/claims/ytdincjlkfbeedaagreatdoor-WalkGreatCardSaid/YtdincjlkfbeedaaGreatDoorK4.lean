/-
  A canonical interpreter, run by the kernel, is sound.
-/
import Derived.Test.YtdincjlkfbeedaaGreatDoorK3
import Derived.Test.YtdincjlkfbeedaaGreatDoorK2
set_option linter.all false
namespace Go.Cv
open Go

/-- The block that an operation writes to. -/
def ptrB : CV → Option Nat
  | .ptr b _ _ => some b
  | _ => none
def mpB : CV → Option Nat
  | .mp b _ => some b
  | _ => none
def slB : CV → Option Nat
  | .sl b _ _ _ _ => some b
  | _ => none
def wrOf (fr : Fr) (o : Oper) : Option Nat :=
  match o.op with
  | .store _ a _ => ptrB (ev fr a)
  | .mapUpdate _ m _ _ => mpB (ev fr m)
  | .insert _ m _ _ => mpB (ev fr m)
  | .call ⟨.builtin .append, args, _⟩ => match args.toList with
    | [s, _] => slB (ev fr s)
    | _ => none
  | _ => none

section
variable {P : Program}

theorem map_keep {x : Option CV} {h h' : Heap} {cv : CV} (he : x.map (·, h) = some (cv, h')) (m : Nat) : hget h' m = hget h m := by
  cases x with
  | none => cases he
  | some c => cases he; rfl

theorem mapUpdate_keep {h h' : Heap} {t : TypeId} {m kc vc : CV} (he : mapUpdateEval P h t m kc vc = some h') {b : Nat} (hb : mpB m ≠ some b) : hget h' b = hget h b := by
  unfold mapUpdateEval at he
  split at he
  · split at he
    · split at he
      · split at he
        · split at he
          · split at he
            · cases he; rw [hget_hset, if_neg (by intro e; exact hb (by rw [e]; rfl))]
            · cases he; rw [hget_hset, if_neg (by intro e; exact hb (by rw [e]; rfl))]
            · cases he
          · cases he
        · cases he
      · cases he
    · cases he
  · cases he

theorem store_keep {h h' : Heap} {t : TypeId} {a x : CV} (he : storeEval P h t a x = some h') {b : Nat} (hb : ptrB a ≠ some b) : hget h' b = hget h b := by
  unfold storeEval at he
  split at he
  · split at he
    · cases he
    · split at he
      · split at he
        · cases he
          rw [hget_hset, if_neg (by intro e; exact hb (by rw [e]; rfl))]
        · cases he
      · cases he
  · cases he

theorem opEval_keep {n : Nat} {fr : Fr} {h h' : Heap} {o : Oper} {cv : CV} (he : opEval P n fr h o = some (cv, h')) {m : Nat} (hm : m ≠ n) (hw : wrOf fr o ≠ some m) : hget h' m = hget h m := by
  have lit : (litEval P fr o).map (·, h) = some (cv, h') → hget h' m = hget h m := fun he => map_keep he m
  have cons : ∀ {k : Blk}, hget ((n, k) :: h) m = hget h m := fun {k} => by rw [hget_cons, if_neg hm]
  obtain ⟨dst, op, ty, pos, after, guard⟩ := o
  cases op
  case store t a x =>
    simp only [opEval] at he
    cases e : storeEval P h t (ev fr a) (ev fr x) with
    | none => rw [e] at he; cases he
    | some h2 =>
      rw [e] at he
      simp only [Option.map_some, Option.some.injEq, Prod.mk.injEq] at he
      obtain ⟨rfl, rfl⟩ := he
      exact store_keep e hw
  case mapUpdate t a b c =>
    simp only [opEval] at he
    cases e : mapUpdateEval P h t (ev fr a) (ev fr b) (ev fr c) with
    | none => rw [e] at he; cases he
    | some h2 =>
      rw [e] at he
      simp only [Option.map_some, Option.some.injEq, Prod.mk.injEq] at he
      obtain ⟨rfl, rfl⟩ := he
      exact mapUpdate_keep e hw
  case insert t a b c =>
    simp only [opEval] at he
    cases e : mapUpdateEval P h t (ev fr a) (ev fr b) (ev fr c) with
    | none => rw [e] at he; cases he
    | some h2 =>
      rw [e] at he
      simp only [Option.map_some, Option.some.injEq, Prod.mk.injEq] at he
      obtain ⟨rfl, rfl⟩ := he
      exact mapUpdate_keep e hw
  case call c =>
    obtain ⟨callee, args, ts⟩ := c
    cases callee with
    | builtin b =>
      cases b
      case append =>
        simp only [opEval] at he
        split at he
        · rename_i s x hargs
          simp only [wrOf, hargs] at hw
          unfold appendEval at he
          split at he
          · split at he
            · split at he
              · split at he
                · split at he
                  · split at he
                    · split at he
                      · cases he; rfl
                      · split at he
                        · cases he; exact cons
                        · cases he
                    · split at he
                      · split at he
                        · cases he
                          rename_i hs _ _ _ _
                          rw [hs] at hw
                          rw [hget_hset, if_neg (by intro e; exact hw (by rw [e]; rfl))]
                        · cases he
                      · cases he
                    · cases he
                  · cases he
                · cases he
              · cases he
            · cases he
          · cases he
        · cases he
      case len =>
        simp only [opEval] at he
        split at he
        · split at he
          · cases he; rfl
          · exact lit he
        · cases he
      all_goals exact lit he
    | _ => exact lit he
  case alloc e =>
    simp only [opEval, allocEval] at he
    split at he
    · split at he
      · cases he; exact cons
      · cases he
    · cases he
  case box e x =>
    simp only [opEval, boxEval] at he
    split at he
    · cases he; exact cons
    · cases he
  case makeMap a b =>
    cases b with
    | none => simp only [opEval, Option.some.injEq, Prod.mk.injEq] at he; obtain ⟨_, rfl⟩ := he; exact cons
    | some _ => exact lit he
  case makeSlice t l c =>
    simp only [opEval, makeSliceEval] at he
    split at he
    · split at he
      · split at he
        · split at he
          · cases he; exact cons
          · cases he
        · cases he
      · cases he
    · cases he
  case buildSlice t len ps =>
    simp only [opEval, buildSliceEval] at he
    split at he
    · split at he
      · split at he
        · split at he
          · rw [Option.map_eq_some_iff] at he
            obtain ⟨cs, _, he⟩ := he
            simp only [Prod.mk.injEq] at he
            obtain ⟨_, rfl⟩ := he
            exact cons
          · cases he
        · cases he
      · cases he
    · cases he
  all_goals
    first
      | exact lit he
      | (simp only [opEval] at he; exact map_keep he m)
      | (simp only [opEval, Option.some.injEq, Prod.mk.injEq] at he; obtain ⟨_, rfl⟩ := he; rfl)
      | (simp only [opEval] at he
         split at he <;> first
          | exact lit he
          | exact map_keep he m
          | (cases he; rfl)
          | cases he
          | (split at he <;> first
              | exact lit he
              | exact map_keep he m
              | (cases he; rfl)
              | cases he))
      | skip
  case slice t x lo hi mx =>
    cases mx with
    | some _ => exact lit he
    | none =>
      simp only [opEval] at he
      split at he <;> first
        | exact lit he
        | exact map_keep he m

/-- No new memory of ours in it. -/
inductive Low (nx : Nat) : CV → Prop
  | undef : Low nx .undef
  | lit (v : Value) : Low nx (.lit v)
  | ptr {b g off : Nat} (hb : b < nx) : Low nx (.ptr b g off)
  | sl {b g off len sz : Nat} (hb : b < nx) : Low nx (.sl b g off len sz)
  | mp {b g : Nat} (hb : b < nx) : Low nx (.mp b g)
  | iptr {cells : List CV} {off : Nat} (hc : ∀ c ∈ cells, Low nx c) : Low nx (.iptr cells off)
  | isl {cells : List CV} {len sz : Nat} (hc : ∀ c ∈ cells, Low nx c) : Low nx (.isl cells len sz)
  | agg {cs : List CV} (hc : ∀ c ∈ cs, Low nx c) : Low nx (.agg cs)
  | tup {cs : List CV} (hc : ∀ c ∈ cs, Low nx c) : Low nx (.tup cs)
  | fn {f : Fn} {xs ys : List CV} (hx : ∀ c ∈ xs, Low nx c) (hy : ∀ c ∈ ys, Low nx c) : Low nx (.fn f xs ys)
  | ifc {t : TypeId} {c : CV} (hc : Low nx c) : Low nx (.ifc t c)
def LowO (nx : Nat) : Out → Prop
  | .ret r => Low nx r
  | .pan r => Low nx r

theorem Low.simv {D D' : Nat → Prop} {h : Heap} {β : Nat → Option Nat} {I : Nat → Prop} {w : World} {nx : Nat} (hD : ∀ n, D n → n < nx → D' n) {c : CV} {v : Value} (hs : SimV D h β I w c v) : Low nx c → SimV D' h β I w c v := by
  have mem : ∀ {l : List CV} {i : Nat} {c : CV}, l[i]? = some c → c ∈ l := fun hi => List.mem_of_getElem? hi
  induction hs with
  | undef v => exact fun _ => .undef v
  | lit v => exact fun _ => .lit v
  | ptrNo hd hn => intro hl; cases hl with | ptr hb => exact .ptrNo (hD _ hd hb) hn
  | ptr hd hg hbb => intro hl; cases hl with | ptr hb => exact .ptr (hD _ hd hb) hg hbb
  | slNo hd hn => intro hl; cases hl with | sl hb => exact .slNo (hD _ hd hb) hn
  | sl hd hg hbb hc hl hs ho => intro hw; cases hw with | sl hb => exact .sl (hD _ hd hb) hg hbb hc hl hs ho
  | iptr hI hc h1 _ ih => intro hl; cases hl with | iptr hm => exact .iptr hI hc h1 fun i c hi => ih i c hi (hm c (mem hi))
  | isl hI hc h1 _ hlc ih => intro hl; cases hl with | isl hm => exact .isl hI hc h1 (fun i c hi => ih i c hi (hm c (mem hi))) hlc
  | agg hl _ ih => intro hw; cases hw with | agg hm => exact .agg hl fun i c hi => ih i c hi (hm c (mem hi))
  | tup hl _ ih => intro hw; cases hw with | tup hm => exact .tup hl fun i c hi => ih i c hi (hm c (mem hi))
  | fn hl _ hm _ ih1 ih2 => intro hw; cases hw with | fn hx hy => exact .fn hl (fun i c hi => ih1 i c hi (hx c (mem hi))) hm fun i c hi => ih2 i c hi (hy c (mem hi))
  | ifc _ ih => intro hw; cases hw with | ifc hc => exact .ifc (ih hc)
  | mpNo hd hn => intro hl; cases hl with | mp hb => exact .mpNo (hD _ hd hb) hn
  | mp hd hg hbb => intro hl; cases hl with | mp hb => exact .mp (hD _ hd hb) hg hbb

/-- What holds of a run's contract may be said without its new memory. -/
theorem Good.pure {f : FuncId} {args : List CV} {nx nx' : Nat} {h h' : Heap} {o0 o : Out} (hG : Good P f args nx h o0 nx' h') (hkeep : ∀ n, n < nx → hget h' n = hget h n)
    (hfr : OutFrz h' (fun n => nx ≤ n) o0 o) (hcl : LowO nx o) : Good P f args nx h o nx h := by
  obtain ⟨hx0, hcf, hG⟩ := hG
  refine ⟨Nat.le_refl _, hcf, fun D β I w vs hD hS hsz hv => ?_⟩
  refine (hG D β I w vs hD hS hsz hv).mono ?_
  rintro e w' ⟨β', I', sim, hor, ext⟩
  have hhf : HFrz h' h (fun n => nx ≤ n) := ⟨fun n k hk => by
    have hlt : n < nx := hD n (hS.dom n k hk)
    exact ⟨by omega, k, (hkeep n hlt).trans hk, KFrz.refl ..⟩⟩
  obtain ⟨s1, s2⟩ := hfrz_sim hhf sim
  have hx := ext.trans (fun n hn => (.inl hn : Dx D nx nx' n)) s2
  have hov := outFrz_real sim (fun _ h => h) (hfrz_pres hhf) hfr hor
  have low : ∀ n, Dx D nx nx' n → n < nx → Dx D nx nx n := fun n h1 h2 => by
    rcases h1 with h1 | h1
    · exact .inl h1
    · omega
  refine ⟨β', IFrz h' β' I' (fun n => nx ≤ n), ⟨fun n k hk => .inl (hS.dom n k hk), fun n k rb hk hbb => ?_, s1.inj, s1.noI, s1.ilt⟩, ?_, hx⟩
  · have hdn := hS.dom n k hk
    obtain ⟨kk, g1, g2, g3⟩ := hx.pres.blk n k hdn hk
    rw [hk] at g1; cases g1
    have hb0 : β n = some rb := by rw [← (g3 rfl).1]; exact hbb
    have b1 := s1.blk n k rb hk hbb
    have b0 := hS.blk n k rb hk hb0
    have key : ∀ {c : CV} {v0 v : Value}, SimV D h β I w c v0 → SimV (Dx D nx nx') h β' (IFrz h' β' I' (fun n => nx ≤ n)) w' c v → SimV (Dx D nx nx) h β' (IFrz h' β' I' (fun n => nx ≤ n)) w' c v := fun h0 h1 =>
      ((h0.restrict _ h1).mono (fun _ h => .inl h) (Pres.refl ..))
    refine ⟨fun hm => ?_, fun l hm => ?_⟩
    · obtain ⟨c1, e1, k1, k2, k3⟩ := b1.cell hm
      obtain ⟨c2, e2, m1, m2, m3⟩ := b0.cell hm
      exact ⟨c1, e1, k1, k2, fun i cv hi => ⟨(k3 i cv hi).1, key (m3 i cv hi).2 (k3 i cv hi).2⟩⟩
    · obtain ⟨es1, cl1, k1, k2, k3⟩ := b1.mapp l hm
      obtain ⟨es2, cl2, m1, m2, m3⟩ := b0.mapp l hm
      refine ⟨es1, cl1, k1, k2, fun i p e hi he => ?_⟩
      have hi2 : i < es2.size := by
        rcases Nat.lt_or_ge i l.length with h5 | h5
        · omega
        · rw [List.getElem?_eq_none h5] at hi; cases hi
      have m4 := m3 i p _ hi (Array.getElem?_eq_getElem hi2)
      exact ⟨key m4.1 (k3 i p e hi he).1, key m4.2 (k3 i p e hi he).2⟩
  · cases o with
    | ret r => obtain ⟨v, e1, e2⟩ := hov; exact ⟨v, e1, Low.simv low e2 hcl⟩
    | pan r => obtain ⟨v, e1, e2⟩ := hov; exact ⟨v, e1, Low.simv low e2 hcl⟩

/-! ### Freezing, computed -/
def allB (f : CV → Bool) : List CV → Bool
  | [] => true
  | c :: cs => f c && allB f cs
def closedB (nx : Nat) : Nat → CV → Bool
  | 0, _ => false
  | n + 1, c => match c with
    | .undef => true
    | .lit _ => true
    | .iptr cs _ => allB (closedB nx n) cs
    | .isl cs _ _ => allB (closedB nx n) cs
    | .agg cs => allB (closedB nx n) cs
    | .tup cs => allB (closedB nx n) cs
    | .fn _ xs ys => allB (closedB nx n) xs && allB (closedB nx n) ys
    | .ifc _ c => closedB nx n c
    | .ptr b _ _ => Nat.ble (b + 1) nx
    | .sl b _ _ _ _ => Nat.ble (b + 1) nx
    | .mp b _ => Nat.ble (b + 1) nx
theorem allB_spec {f : CV → Bool} : ∀ {cs : List CV}, allB f cs = true → ∀ c ∈ cs, f c = true
  | [], _, c, hc => by cases hc
  | d :: cs, h, c, hc => by
    simp only [allB, Bool.and_eq_true] at h
    rcases List.mem_cons.1 hc with rfl | hc
    · exact h.1
    · exact allB_spec h.2 c hc
theorem closedB_ok {nx : Nat} : ∀ (n : Nat) (c : CV), closedB nx n c = true → Low nx c
  | 0, _, h => by cases h
  | n + 1, c, h => by
    cases c with
    | undef => exact .undef
    | lit v => exact .lit v
    | iptr cs o => exact .iptr fun c hc => closedB_ok n c (allB_spec h c hc)
    | isl cs l s => exact .isl fun c hc => closedB_ok n c (allB_spec h c hc)
    | agg cs => exact .agg fun c hc => closedB_ok n c (allB_spec h c hc)
    | tup cs => exact .tup fun c hc => closedB_ok n c (allB_spec h c hc)
    | fn f xs ys =>
      simp only [closedB, Bool.and_eq_true] at h
      exact .fn (fun c hc => closedB_ok n c (allB_spec h.1 c hc)) fun c hc => closedB_ok n c (allB_spec h.2 c hc)
    | ifc t c => exact .ifc (closedB_ok n c h)
    | ptr b g o => exact .ptr (Nat.le_of_ble_eq_true h)
    | sl b g o l s => exact .sl (Nat.le_of_ble_eq_true h)
    | mp b g => exact .mp (Nat.le_of_ble_eq_true h)

def optMap (f : CV → Option CV) : List CV → Option (List CV)
  | [] => some []
  | c :: cs => match f c with
    | some d => match optMap f cs with
      | some ds => some (d :: ds)
      | none => none
    | none => none
theorem optMap_len {f : CV → Option CV} : ∀ {cs ds : List CV}, optMap f cs = some ds → ds.length = cs.length
  | [], ds, h => by simp only [optMap, Option.some.injEq] at h; subst h; rfl
  | c :: cs, ds, h => by
    simp only [optMap] at h
    split at h
    · split at h
      · rename_i e
        cases h
        simp [optMap_len e]
      · cases h
    · cases h
theorem optMap_spec {f : CV → Option CV} : ∀ {cs ds : List CV}, optMap f cs = some ds → ∀ (i : Nat) (c d : CV), cs[i]? = some c → ds[i]? = some d → f c = some d
  | [], ds, h, i, c, d, hc, _ => by simp at hc
  | c0 :: cs, ds, h, i, c, d, hc, hd => by
    simp only [optMap] at h
    split at h
    · rename_i d0 e0
      split at h
      · rename_i ds0 e
        cases h
        cases i with
        | zero => simp at hc hd; subst hc; subst hd; exact e0
        | succ i => simp at hc hd; exact optMap_spec e i c d hc hd
      · cases h
    · cases h
theorem optMap_mem {f : CV → Option CV} : ∀ {cs ds : List CV}, optMap f cs = some ds → ∀ d ∈ ds, ∃ c, f c = some d
  | [], ds, h, d, hd => by simp only [optMap, Option.some.injEq] at h; subst h; cases hd
  | c0 :: cs, ds, h, d, hd => by
    simp only [optMap] at h
    split at h
    · rename_i d0 e0
      split at h
      · rename_i ds0 e
        cases h
        rcases List.mem_cons.1 hd with rfl | hd
        · exact ⟨_, e0⟩
        · exact optMap_mem e d hd
      · cases h
    · cases h

def frzV (nx : Nat) (h : Heap) : Nat → CV → Option CV
  | 0, _ => none
  | n + 1, c => match c with
    | .sl b g off len sz => match Nat.ble nx b with
      | true => match cget h b with
        | some k => match Nat.ble k.gen g && Nat.ble (off + len * sz) k.cells.length with
          | true => match optMap (frzV nx h n) ((k.cells.drop off).take (len * sz)) with
            | some cs => some (.isl cs len sz)
            | none => none
          | false => none
        | none => none
      | false => some (.sl b g off len sz)
    | .ptr b g off => match Nat.ble nx b with
      | true => match cget h b with
        | some k => match Nat.ble k.gen g with
          | true => match optMap (frzV nx h n) k.cells with
            | some cs => some (.iptr cs off)
            | none => none
          | false => none
        | none => none
      | false => some (.ptr b g off)
    | .agg cs => match optMap (frzV nx h n) cs with
      | some cs => some (.agg cs)
      | none => none
    | .tup cs => match optMap (frzV nx h n) cs with
      | some cs => some (.tup cs)
      | none => none
    | .ifc t c => match frzV nx h n c with
      | some c => some (.ifc t c)
      | none => none
    | c => match closedB nx (n + 1) c with
      | true => some c
      | false => none

theorem frzV_ok {nx : Nat} {h : Heap} : ∀ (n : Nat) (c d : CV), frzV nx h n c = some d → Frz h (fun m => nx ≤ m) c d ∧ Low nx d
  | 0, _, _, h => by cases h
  | n + 1, c, d, hd => by
    have cl : ∀ {cs ds : List CV}, optMap (frzV nx h n) cs = some ds → ∀ d ∈ ds, Low nx d := fun e d hd => by
      obtain ⟨c, hc⟩ := optMap_mem e d hd
      exact (frzV_ok n c d hc).2
    have fr : ∀ {cs ds : List CV}, optMap (frzV nx h n) cs = some ds → ∀ (i : Nat) (c d : CV), cs[i]? = some c → ds[i]? = some d → Frz h (fun m => nx ≤ m) c d := fun e i c d hc hd => (frzV_ok n c d (optMap_spec e i c d hc hd)).1
    have gen : (match closedB nx (n + 1) c with | true => some c | false => none) = some d → Frz h (fun m => nx ≤ m) c d ∧ Low nx d := fun e => by
      split at e
      · rename_i e1
        cases e
        exact ⟨.refl _, closedB_ok _ _ e1⟩
      · cases e
    cases c with
    | sl b g off len sz =>
      simp only [frzV] at hd
      split at hd
      · rename_i hb
        split at hd
        · rename_i k hk
          split at hd
          · rename_i hg
            split at hd
            · rename_i cs e
              cases hd
              simp only [Bool.and_eq_true, Nat.ble_eq] at hg
              have hlen := optMap_len e
              refine ⟨.sl (Nat.le_of_ble_eq_true hb) hk hg.1 ?_ hg.2 fun i c d hc hd => fr e i c d ?_ hd, .isl (cl e)⟩
              · rw [hlen, List.length_take, List.length_drop]; omega
              · have hi : i < len * sz := by
                  rcases Nat.lt_or_ge i (len * sz) with h3 | h3
                  · exact h3
                  · rw [List.getElem?_eq_none (by rw [hlen, List.length_take, List.length_drop]; omega)] at hd; cases hd
                rw [List.getElem?_take_of_lt hi, List.getElem?_drop]
                exact hc
            · cases hd
          · cases hd
        · cases hd
      · rename_i hb
        cases hd
        exact ⟨.refl _, .sl (by
          rcases Nat.lt_or_ge b nx with h3 | h3
          · exact h3
          · rw [Nat.ble_eq_true_of_le h3] at hb; cases hb)⟩
    | ptr b g off =>
      simp only [frzV] at hd
      split at hd
      · rename_i hb
        split at hd
        · rename_i k hk
          split at hd
          · rename_i hg
            split at hd
            · rename_i cs e
              cases hd
              exact ⟨.ptr (Nat.le_of_ble_eq_true hb) hk (Nat.le_of_ble_eq_true hg) (optMap_len e) (fr e), .iptr (cl e)⟩
            · cases hd
          · cases hd
        · cases hd
      · rename_i hb
        cases hd
        exact ⟨.refl _, .ptr (by
          rcases Nat.lt_or_ge b nx with h3 | h3
          · exact h3
          · rw [Nat.ble_eq_true_of_le h3] at hb; cases hb)⟩
    | agg cs =>
      simp only [frzV] at hd
      split at hd
      · rename_i e; cases hd; exact ⟨.agg (optMap_len e).symm (fr e), .agg (cl e)⟩
      · cases hd
    | tup cs =>
      simp only [frzV] at hd
      split at hd
      · rename_i e; cases hd; exact ⟨.tup (optMap_len e).symm (fr e), .tup (cl e)⟩
      · cases hd
    | ifc t c =>
      simp only [frzV] at hd
      split at hd
      · rename_i e
        cases hd
        obtain ⟨h1, h2⟩ := frzV_ok n _ _ e
        exact ⟨.ifc h1, .ifc h2⟩
      · cases hd
    | _ => exact gen hd

/-! ### The interpreter -/
structure Acc where
  orc : List Bool
  wr : List Nat
  L : List (Bool × Bool)

/-- What the interpreter knows: the functions; whose conditions are told by the oracle; how regions that draw are run; whose results are told as memory that nobody writes; contracts. -/
structure Env where
  fn : Nat → Option Func
  sym : Nat → Bool
  so : Nat → Nat → Bool
  hint : Nat → Nat → Option Mode
  xh : Nat → Nat → Option (List Nat × List (Nat × Nat))
  pur : Nat → Bool
  dfr : Nat → Bool
  stop : Nat → Option Nat
  kn : Nat → List CV → Nat → Heap → Option (Out × Nat × Heap × List Nat × List (Bool × Bool))
  rgf : Nat → Option Nat
  all : Nat → Option (FuncId × TypeId × TypeId)

def callOf (fr : Fr) (all : Array Oper) (o : Oper) : Option (FuncId × List CV) :=
  match o.op with
  | .call ⟨.value x, xs, _⟩ => match gval fr all o with
    | some true => match fnOf (ev fr x) with
      | some (f, us, vs) => some (f, us ++ (xs.toList.map (ev fr) ++ vs))
      | none => none
    | _ => none
  | _ => none
theorem callOf_ok {fr : Fr} {all : Array Oper} {o : Oper} {f : FuncId} {args : List CV} (h : callOf fr all o = some (f, args)) : CallAt fr all o f args := by
  unfold callOf at h
  split at h
  · rename_i x xs ts hop
    split at h
    · rename_i hg
      split at h
      · rename_i f' us vs hf
        cases h
        exact ⟨hg, x, xs, ts, us, vs, hop, hf, rfl⟩
      · cases h
    · cases h
  · cases h

def outOf (P : Program) (fn : Func) : Fin → Option Out
  | .nor st => match resEval P fn.results.toList st.fr st.h with
    | some r => some (.ret r)
    | none => none
  | .pan c _ _ => some (.pan c)
  | .at _ _ => none
theorem outOf_ok {fn : Func} {F : Fin} {o : Out} (h : outOf P fn F = some o) : OutOf P fn F o := by
  unfold outOf at h
  split at h
  · split at h
    · rename_i e; cases h; exact .ret e
    · cases h
  · cases h; exact .pan
  · cases h

abbrev Rec := Nat → Nat → Conf → Acc → Option (Fin × Acc)

def callFn (P : Program) (E : Env) (rec : Rec) (f : FuncId) (args : List CV) (nx : Nat) (h : Heap) (A : Acc) : Option (Out × Nat × Heap × List Nat × Acc) :=
  match E.kn f args nx h with
  | some (o, nx', h', wr, L) => some (o, nx', h', wr, ⟨A.orc, A.wr, L ++ A.L⟩)
  | none => match E.fn f with
    | some fn => match fn.body with
      | some c => match Nat.ble args.length fn.ntmps with
        | true => match rec f fn.ntmps (.run [.code c] ⟨entryFr args, nx, h⟩) ⟨A.orc, [], A.L⟩ with
          | some (F, A') => match outOf P fn F with
            | some o => some (o, F.nx, F.h, A'.wr, ⟨A'.orc, A.wr, A'.L⟩)
            | none => none
          | none => none
        | false => none
      | none => none
    | none => none

/-- A deferred function that recovers. -/
def defRun (E : Env) (rec : Rec) (g : FuncId) (caps : List CV) (pv : Option CV) (nx : Nat) (h : Heap) (A : Acc) : Option (Nat × Heap × Acc) :=
  match E.fn g with
  | some gn => match gn.body with
    | some (.seq (.region _ ops false) rest) => match ops.toList with
      | [o] => match o.op with
        | .call ⟨.builtin .recover, as, _⟩ => match as.toList, o.guard, o.dst, gn.results.toList with
          | [], none, some t, [] => match Nat.ble caps.length gn.ntmps && Nat.ble (t + 1) gn.ntmps with
            | true => match rec g gn.ntmps (.run [.code rest] ⟨fset (entryFr caps) t (pv.getD (.lit .nilIface)), nx, h⟩) A with
              | some (.nor st, A') => some (st.nx, st.h, A')
              | _ => none
            | false => none
          | _, _, _, _ => none
        | _ => none
      | _ => none
    | _ => none
  | none => none

def deferOf (df : Oper) : Option Tmp :=
  match df.op with
  | .defer ⟨.value (.tmp t), as, _⟩ => match as.toList, df.guard, df.dst with
    | [], none, none => some t
    | _, _, _ => none
  | _ => none

/-- A function with a deferred closure: behind the 'defer'. -/
def deferRest (P : Program) (E : Env) (rec : Rec) (f : FuncId) (fn : Func) (g : FuncId) (caps : List CV) (rest : Code) (st2 : St) (A : Acc) : Option (Out × Nat × Heap × List Nat × Acc) :=
  match rest with
  | .seq (.region _ ops2 false) _ => match ops2.toList with
    | mv :: cl :: _ => match isW mv.op with
      | false => match opNext P fn.ntmps ops2 st2.nx 0 mv ⟨st2.fr, st2.nx + ops2.size, st2.h⟩ with
        | some st3 => match callOf st3.fr ops2 cl with
          | some (f2, args2) => match callFn P E rec f2 args2 st3.nx st3.h A with
            | some (.pan c, nx3, h3, wr, A1) => match defRun E rec g caps (some c) nx3 h3 ⟨A1.orc, [], A1.L⟩ with
              | some (nx4, h4, A2) => match resEval P fn.results.toList st3.fr h4 with
                | some r => some (.ret r, nx4, h4, wr ++ A2.wr, ⟨A2.orc, A.wr, A2.L⟩)
                | none => none
              | none => none
            | some (.ret _, _, _, _, _) => match rec f fn.ntmps (.run [.code rest] st2) ⟨A.orc, [], A.L⟩ with
              | some (.nor st4, A1) => match defRun E rec g caps none st4.nx st4.h ⟨A1.orc, [], A1.L⟩ with
                | some (nx4, h4, A2) => match resEval P fn.results.toList st4.fr h4 with
                  | some r => some (.ret r, nx4, h4, A1.wr ++ A2.wr, ⟨A2.orc, A.wr, A2.L⟩)
                  | none => none
                | none => none
              | _ => none
            | none => none
          | none => none
        | none => none
      | true => none
    | _ => none
  | _ => none

def deferRun (P : Program) (E : Env) (rec : Rec) (f : FuncId) (args : List CV) (nx : Nat) (h : Heap) (A : Acc) : Option (Out × Nat × Heap × List Nat × Acc) :=
  match E.fn f with
  | some fn => match fn.body with
    | some (.seq (.region _ ops0 false) (.seq (.region _ ops1 false) rest)) => match Nat.ble args.length fn.ntmps with
      | true => match opsRun P fn.ntmps ops0 nx (numb 0 ops0.toList) ⟨entryFr args, nx + ops0.size, h⟩ with
        | some st1 => match ops1.toList with
          | [mk, df] => match deferOf df with
            | some t => match isW mk.op with
              | false => match opNext P fn.ntmps ops1 st1.nx 0 mk ⟨st1.fr, st1.nx + 2, st1.h⟩ with
                | some st2 => match fget st2.fr t with
                  | .fn (.func g) [] caps => deferRest P E rec f fn g caps rest st2 A
                  | _ => none
                | none => none
              | true => none
            | none => none
          | _ => none
        | none => none
      | false => none
    | _ => none
  | none => none

/-- The rounds of a range over a function. -/
def rngRounds (P : Program) (E : Env) (rec : Rec) (f2 N : Nat) (fI : FuncId) (tS : TypeId) (p0 p1 : Tmp) (assign body : Code) (fr0 : Fr) (ao : CV) (k : Nat) : Int → Nat → Heap → Acc → Option (Nat × Heap × Acc) :=
  Nat.rec (fun _ nx h A => some (nx, h, A)) (fun _ ih i nx h A => match loadEval P h tS ao with
    | some own => match callFn P E rec fI [own, cint i] (nx + 32) h A with
      | some (.ret ix, nx1, h1, wr, A1) => match rec f2 N (.run [.code assign, .beginRound, .code body] ⟨fset (fset fr0 p0 (cint i)) p1 ix, nx1, h1⟩) ⟨A1.orc, wr ++ A1.wr, A1.L⟩ with
        | some (.at K1 st1, A2) => match K1 with
          | .beginRound :: K2 => match rec f2 N (.run K2 st1) A2 with
            | some (.at K3 st2, A3) => match K3 with
              | [] => ih (i + 1) (st2.nx + 32) st2.h A3
              | _ => none
            | _ => none
          | _ => none
        | _ => none
      | _ => none
    | none => none) k

/-- A function with a range over the function that goes over places. -/
def rngRun (P : Program) (E : Env) (rec : Rec) (f2 : Nat) (f : FuncId) (args : List CV) (nx : Nat) (h : Heap) (A : Acc) : Option (Out × Nat × Heap × List Nat × Acc) :=
  match E.fn f with
  | some fn => match fn.body with
    | some c => match Nat.ble args.length fn.ntmps with
      | true => match rec f fn.ntmps (.run [.code c] ⟨entryFr args, nx, h⟩) ⟨A.orc, [], A.L⟩ with
        | some (F, A1) => match F with
          | .at K0 st => match K0 with
            | .code (.rangeFunc g ps assign body) :: K => match ps.toList with
              | [p0, p1] => match Nat.ble (p0 + 1) fn.ntmps && Nat.ble (p1 + 1) fn.ntmps with
                | true => match ev st.fr g with
                  | .fn (.func fA) [] [an, ao] => match E.all fA with
                    | some (fI, tN, tS) => match loadEval P st.h tN an with
                      | some (.lit (.int .i64 (.ofNat n))) => match Nat.ble n 9223372036854775807 with
                        | true => match rngRounds P E rec f2 fn.ntmps fI tS p0 p1 assign body st.fr ao n 0 (st.nx + 16) st.h A1 with
                          | some (nx2, h2, A2) => match rec f fn.ntmps (.run K ⟨st.fr, nx2 + 16, h2⟩) A2 with
                            | some (F3, A3) => match outOf P fn F3 with
                              | some o => some (o, F3.nx, F3.h, A3.wr, ⟨A3.orc, A.wr, A3.L⟩)
                              | none => none
                            | none => none
                          | none => none
                        | false => none
                      | _ => none
                    | none => none
                  | _ => none
                | false => none
              | _ => none
            | _ => none
          | .nor st => match outOf P fn (.nor st) with
            | some o => some (o, st.nx, st.h, A1.wr, ⟨A1.orc, A.wr, A1.L⟩)
            | none => none
          | .pan c nx2 h2 => some (.pan c, nx2, h2, A1.wr, ⟨A1.orc, A.wr, A1.L⟩)
        | none => none
      | false => none
    | none => none
  | none => none

def callRun (P : Program) (E : Env) (rec : Rec) (f : FuncId) (args : List CV) (nx : Nat) (h : Heap) (A : Acc) : Option (Out × Nat × Heap × List Nat × Acc) :=
  match E.dfr f with
  | true => deferRun P E rec f args nx h A
  | false => match E.rgf f with
    | some f2 => rngRun P E rec f2 f args nx h A
    | none => callFn P E rec f args nx h A

def isEff (E : Env) (mode : Option Mode) (i : Nat) (f : FuncId) : Bool :=
  match mode with
  | none => !(E.pur f)
  | some m => m.eff.contains i
def effB (mode : Option Mode) (i : Nat) : Bool :=
  match mode with
  | none => true
  | some m => m.eff.contains i
/-- Nothing is written of the memory that came ahead. -/
def freesOk (mode : Option Mode) (base i : Nat) (wr : List Nat) (nx : Nat) : Bool :=
  match mode with
  | none => true
  | some m => (m.frees i).all fun j => !(wr.contains (base + j)) && !(Nat.beq j i) && Nat.ble (base + j + 1) nx

def below (nx : Nat) : List Nat → List Nat
  | [] => []
  | b :: l => match Nat.ble nx b with
    | true => below nx l
    | false => b :: below nx l
def noneBelow (nx : Nat) : List Nat → Bool
  | [] => true
  | b :: l => Nat.ble nx b && noneBelow nx l

def addW (w : Option Nat) (l : List Nat) : List Nat :=
  match w with
  | none => l
  | some b => b :: l

def addOk (mode : Option Mode) (i nx : Nat) (wr : List Nat) : Bool :=
  match mode with
  | none => true
  | some m => match m.add.contains i with
    | true => noneBelow nx wr
    | false => true

/-- A condition that is told by the oracle where it is made. -/
def soAt (E : Env) (f : Nat) (dst : Option Tmp) (fr : Fr) : Option (Nat × Bool) :=
  match dst with
  | some d => match E.so f d with
    | true => match fget fr d with
      | .lit (.bool b) => some (d, b)
      | _ => none
    | false => none
  | none => none

def opsStep (P : Program) (E : Env) (rec : Rec) (f N : Nat) (mode : Option Mode) (all : Array Oper) (base i : Nat) (o : Oper) (rest : List (Nat × Oper)) (K : List Item) (st : St) (A : Acc) : Option (Fin × Acc) :=
  match callOf st.fr all o with
  | some (g, args) => match callRun P E rec g args st.nx st.h A with
    | some (.pan c, nx', h', wr, A') => match effB mode i with
      | true => some (.pan c nx' h', ⟨A'.orc, below st.nx wr ++ A'.wr, A'.L⟩)
      | false => none
    | some (.ret r, nx', h', wr, A') => match isEff E mode i g with
      | true => match freesOk mode base i wr st.nx && addOk mode i st.nx wr with
        | true => match putc N st.fr o.dst r with
          | some fr' => rec f N (.ops mode all base rest K ⟨fr', nx', h'⟩) ⟨A'.orc, below st.nx wr ++ A'.wr, A'.L⟩
          | none => none
        | false => none
      | false => match noneBelow st.nx wr with
        | true => match frzV st.nx h' 60 r with
          | some r' => match putc N st.fr o.dst r' with
            | some fr' => rec f N (.ops mode all base rest K ⟨fr', st.nx, st.h⟩) A'
            | none => none
          | none => none
        | false => none
    | none => none
  | none => match o.op with
    | .panic x => match gval st.fr all o with
      | some true => match isIface (ev st.fr x) && effB mode i with
        | true => some (.pan (ev st.fr x) st.nx st.h, A)
        | false => none
      | some false => match putc N st.fr o.dst (.lit undef) with
        | some fr' => rec f N (.ops mode all base rest K ⟨fr', st.nx, st.h⟩) A
        | none => none
      | none => none
    | _ => match opNext P N all base i o st with
      | some st1 => match !(isW o.op) || freesOk mode base i (addW (wrOf st.fr o) []) st.nx with
        | true => match soAt E f o.dst st1.fr with
          | none => rec f N (.ops mode all base rest K st1) ⟨A.orc, addW (wrOf st.fr o) A.wr, A.L⟩
          | some (d, b) => match A.orc with
            | x :: os => rec f N (.ops mode all base rest K ⟨fset st1.fr d (.lit (.bool x)), st1.nx, st1.h⟩) ⟨os, addW (wrOf st.fr o) A.wr, (b, x) :: A.L⟩
            | [] => none
        | false => none
      | none => none

def modeAt (E : Env) (f id : Nat) (all : Array Oper) : Mode :=
  match E.hint f id with
  | some m => m
  | none => ⟨List.range' 0 all.size, 0, [], [], [], [], [], []⟩

def xMode (m : Mode) (fr : Fr) (x : List Nat × List (Nat × Nat)) : Mode := ⟨m.perm, m.np, m.ab, m.eff, m.free, x.1, (x.2.map fun p => (p.1, (ptrB (fget fr p.2)).getD 0)), m.add⟩
def wbOk (w : Option Nat) (i : Nat) : List (Nat × Nat) → Bool
  | [] => true
  | p :: l => (match Nat.beq p.1 i with
    | true => (match w with
      | some b => Nat.beq b p.2
      | none => false)
    | false => true) && wbOk w i l

/-- A region with reads beside writes that they don't see. -/
def xRun (P : Program) (E : Env) (rec : Rec) (N : Nat) (m : Mode) (all : Array Oper) (base : Nat) : List (Nat × Oper) → St → Acc → Option (St × Acc)
  | [], st, A => some (st, A)
  | p :: l, st, A => match callOf st.fr all p.2 with
    | some (g, args) => match m.eff.contains p.1 with
      | true => none
      | false => match callRun P E rec g args st.nx st.h A with
        | some (.ret r, _, h', wr, A') => match noneBelow st.nx wr with
          | true => match frzV st.nx h' 60 r with
            | some r' => match putc N st.fr p.2.dst r' with
              | some fr' => xRun P E rec N m all base l ⟨fr', st.nx, st.h⟩ A'
              | none => none
            | none => none
          | false => none
        | _ => none
    | none => match m.ov.contains p.1 with
      | true => match quiet m p.1 p.2 && wbOk none p.1 m.wb with
        | true => match opVal P all (base + p.1) st.fr (hdelAll st.h (m.wb.map (·.2))) p.2 with
          | some (cv, _) => match putc N st.fr p.2.dst cv with
            | some fr' => xRun P E rec N m all base l ⟨fr', st.nx, st.h⟩ A
            | none => none
          | none => none
        | false => none
      | false => match (!(isW p.2.op) || freesOk (some m) base p.1 (addW (wrOf st.fr p.2) []) st.nx) && (wbOk (wrOf st.fr p.2) p.1 m.wb && (isStore p.2.op || wbOk none p.1 m.wb)) with
        | true => match opVal P all (base + p.1) st.fr st.h p.2 with
          | some (cv, h') => match putc N st.fr p.2.dst cv with
            | some fr' => xRun P E rec N m all base l ⟨fr', st.nx, h'⟩ ⟨A.orc, addW (wrOf st.fr p.2) A.wr, A.L⟩
            | none => none
          | none => none
        | false => none

def codeStep (P : Program) (E : Env) (rec : Rec) (f N : Nat) (c : Code) (K : List Item) (st : St) (A : Acc) : Option (Fin × Acc) :=
  match c with
  | .ret => some (.nor st, A)
  | .skip => rec f N (.run K st) A
  | .label _ => rec f N (.run K st) A
  | .seq x y => rec f N (.run (.code x :: .code y :: K) st) A
  | .block id c => rec f N (.run (.code c :: .inBlock id :: K) st) A
  | .scope c => rec f N (.run (.code c :: .inScope c :: K) st) A
  | .cond c x y => match ev st.fr c with
    | .lit (.bool b) => match E.sym f with
      | true => match A.orc with
        | d :: os => rec f N (.run (.code (bif d then x else y) :: K) st) ⟨os, A.wr, (b, d) :: A.L⟩
        | [] => none
      | false => match b with
        | true => rec f N (.run (.code x :: K) st) A
        | false => rec f N (.run (.code y :: K) st) A
    | _ => none
  | .exit id => match exitTo id K with
    | some K' => rec f N (.run K' st) A
    | none => none
  | .goto l => match gotoIn l K with
    | some K' => rec f N (.run K' st) A
    | none => none
  | .loop c => match E.stop f with
    | some n => match Nat.beq K.length n with
      | true => some (.at (.code c :: .inLoop c :: K) st, A)
      | false => rec f N (.run (.code c :: .inLoop c :: K) st) A
    | none => rec f N (.run (.code c :: .inLoop c :: K) st) A
  | .region id all draw => match noDef all with
   | false => none
   | true => match draw with
    | false => rec f N (.ops none all st.nx (numb 0 all.toList) K ⟨st.fr, st.nx + all.size, st.h⟩) A
    | true => match E.xh f id with
      | none => match drawOk all (modeAt E f id all) with
        | true => rec f N (.ops (some (modeAt E f id all)) all st.nx (pickOps all (modeAt E f id all).perm) K ⟨st.fr, st.nx + all.size, st.h⟩) A
        | false => none
      | some x => match drawOkX all (xMode (modeAt E f id all) st.fr x) with
        | true => match xRun P E rec N (xMode (modeAt E f id all) st.fr x) all st.nx (pickOps all (modeAt E f id all).perm) ⟨st.fr, st.nx + all.size, st.h⟩ A with
          | some (st', A') => rec f N (.run K st') A'
          | none => none
        | false => none
  | .rangeFunc .. => some (.at (.code c :: K) st, A)
  | _ => none

def crunStep (P : Program) (E : Env) (rec : Rec) : Rec := fun f N c A =>
  match c with
  | .run K st => match K with
    | [] => match E.stop f with
      | some 0 => some (.at [] st, A)
      | _ => some (.nor st, A)
    | i :: K => match i with
      | .beginRound => some (.at (.beginRound :: K) st, A)
      | .code c => codeStep P E rec f N c K st A
      | .inBlock _ => rec f N (.run K st) A
      | .inScope _ => rec f N (.run K st) A
      | .inLoop c => match E.stop f with
        | some n => match Nat.beq K.length n with
          | true => some (.at (.code c :: .inLoop c :: K) st, A)
          | false => rec f N (.run (.code c :: .inLoop c :: K) st) A
        | none => rec f N (.run (.code c :: .inLoop c :: K) st) A
      | _ => none
  | .ops mode all base rest K st => match rest with
    | [] => rec f N (.run K st) A
    | p :: rest => opsStep P E rec f N mode all base p.1 p.2 rest K st A

def crun (P : Program) (E : Env) (n : Nat) : Rec := Nat.rec (fun _ _ _ _ => none) (fun _ ih => crunStep P E ih) n

/-- What the interpreter is told holds. -/
structure EnvOk (P : Program) (E : Env) : Prop where
  mix : P.follows .mixedOrders = true
  fn : ∀ f fn, E.fn f = some fn → P.funcs[f]? = some fn ∧ ∀ (vs : Array Value) (w : World), (callFunc f vs).run P w = .ok (.enter f vs) w
  kn : ∀ f args nx h o nx' h' wr L, E.kn f args nx h = some (o, nx', h', wr, L) → (∀ p ∈ L, p.1 = p.2) → Good P f args nx h o nx' h' ∧ ∀ b, b < nx → b ∉ wr → hget h' b = hget h b
  all : ∀ fA fI tN tS, E.all fA = some (fI, tN, tS) → Nonempty (AllC P fA fI tN tS)

def Conf.h : Conf → Heap
  | .run _ st => st.h
  | .ops _ _ _ _ _ st => st.h
def LowOk (lo : Nat) : Conf → Prop
  | .run _ st => lo ≤ st.nx
  | .ops _ _ base _ _ st => lo ≤ base ∧ lo ≤ st.nx

structure Right (P : Program) (N : Nat) (c : Conf) (F : Fin) (A A' : Acc) : Prop where
  l : ∃ M, A'.L = M ++ A.L
  w : ∃ W, A'.wr = W ++ A.wr
  wp : (∀ p ∈ A'.L, p.1 = p.2) → Wp P N (fun F' => F' = F) c
  keep : (∀ p ∈ A'.L, p.1 = p.2) → ∀ lo, LowOk lo c → ∀ b, b < lo → b ∉ A'.wr → hget F.h b = hget c.h b
def RecOk (P : Program) (rec : Rec) : Prop := ∀ f N c A F A', rec f N c A = some (F, A') → Right P N c F A A'

theorem Right.same {N : Nat} {c c' : Conf} {F : Fin} {A A' : Acc} (hr : Right P N c F A A') (hw : Wp P N (fun F' => F' = F) c → Wp P N (fun F' => F' = F) c') (hh : c.h = c'.h) (hl : ∀ lo, LowOk lo c' → LowOk lo c) : Right P N c' F A A' :=
  ⟨hr.l, hr.w, fun h => hw (hr.wp h), fun h lo h1 b hb hn => by rw [hr.keep h lo (hl lo h1) b hb hn, hh]⟩

end
end Go.Cv
namespace Go.Cv
open Go

section
variable {P : Program} {E : Env}

theorem holds_tail {M L : List (Bool × Bool)} (h : ∀ p ∈ M ++ L, p.1 = p.2) : ∀ p ∈ L, p.1 = p.2 := fun p hp => h p (List.mem_append.2 (.inr hp))
theorem holds_head {M L : List (Bool × Bool)} (h : ∀ p ∈ M ++ L, p.1 = p.2) : ∀ p ∈ M, p.1 = p.2 := fun p hp => h p (List.mem_append.2 (.inl hp))

theorem OutFrz.refl (h : Heap) (gone : Nat → Prop) (o : Out) : OutFrz h gone o o := by
  cases o
  · exact Frz.refl _
  · exact Frz.refl _

theorem Wp.mono {N : Nat} {Post Post' : Fin → Prop} (hP : ∀ F, Post F → Post' F) {c : Conf} (hw : Wp P N Post c) : Wp P N Post' c := by
  induction hw with
  | stop h => exact .stop (hP _ h)
  | nil h => exact .nil (hP _ h)
  | ret h => exact .ret (hP _ h)
  | skip _ ih => exact .skip ih
  | label _ ih => exact .label ih
  | inBlock _ ih => exact .inBlock ih
  | inScope _ ih => exact .inScope ih
  | seq _ ih => exact .seq ih
  | block _ ih => exact .block ih
  | scope _ ih => exact .scope ih
  | cond hc _ ih => exact .cond hc ih
  | exit he _ ih => exact .exit he ih
  | goto he _ ih => exact .goto he ih
  | loop hl _ ih => exact .loop hl ih
  | inLoop hl _ ih => exact .inLoop hl ih
  | region hnd _ ih => exact .region hnd ih
  | draw m hnd hok _ ih => exact .draw m hnd hok ih
  | drawX m hnd hok ht _ ih => exact .drawX m hnd hok ht ih
  | opsNil _ ih => exact .opsNil ih
  | op hn hm _ ih => exact .op hn hm ih
  | call hc hG hp hm _ ih => exact .call hc hG hp hm ih
  | callPan hc hG hm h => exact .callPan hc hG hm (hP _ h)
  | panic hg hop hx hm h => exact .panic hg hop hx hm (hP _ h)

theorem callFn_ok (hE : EnvOk P E) {rec : Rec} (hR : RecOk P rec) {f : FuncId} {args : List CV} {nx : Nat} {h : Heap} {A A' : Acc} {o : Out} {nx' : Nat} {h' : Heap} {wr : List Nat}
    (he : callFn P E rec f args nx h A = some (o, nx', h', wr, A')) :
    (∃ M, A'.L = M ++ A.L) ∧ A'.wr = A.wr ∧ ((∀ p ∈ A'.L, p.1 = p.2) → Good P f args nx h o nx' h' ∧ ∀ b, b < nx → b ∉ wr → hget h' b = hget h b) := by
  unfold callFn at he
  split at he
  · rename_i o2 nx2 h2 wr2 L2 e
    cases he
    exact ⟨⟨_, rfl⟩, rfl, fun hL => hE.kn _ _ _ _ _ _ _ _ _ e (holds_head hL)⟩
  · split at he
    · rename_i fn hfn
      split at he
      · rename_i c hb
        split at he
        · rename_i hlen
          split at he
          · rename_i F A2 hrec
            split at he
            · rename_i o2 ho
              cases he
              have hr := hR _ _ _ _ _ _ hrec
              refine ⟨hr.l, rfl, fun hL => ⟨?_, fun b hb hn => ?_⟩⟩
              · have hw := hr.wp hL
                obtain ⟨hf, hcf⟩ := hE.fn _ _ hfn
                have hn := Nat.le_of_ble_eq_true hlen
                obtain ⟨F', hF', hle, _⟩ := body_run hE.mix hf hb hn hw
                subst hF'
                refine good_gen hE.mix hf hb hcf hn hle fun _ => ?_
                refine hw.mono ?_
                rintro F' rfl
                exact ⟨Nat.le_refl _, o, fun _ => False, outOf_ok ho, fun _ h => h.elim, OutFrz.refl .., ⟨fun n k hk => ⟨id, k, hk, KFrz.refl ..⟩⟩⟩
              · exact hr.keep hL nx (Nat.le_refl _) b hb hn
            · cases he
          · cases he
        · cases he
      · cases he
    · cases he

theorem opNext_keep {N : Nat} {all : Array Oper} {base i : Nat} {o : Oper} {st st1 : St} (hn : opNext P N all base i o st = some st1) {b : Nat} (hb : b ≠ base + i) (hw : wrOf st.fr o ≠ some b) : hget st1.h b = hget st.h b := by
  unfold opNext at hn
  split at hn
  · split at hn
    · rename_i cv h' he
      cases e : putc N st.fr o.dst cv with
      | none => rw [e] at hn; cases hn
      | some fr => rw [e] at hn; simp only [Option.map_some, Option.some.injEq] at hn; subst hn; exact opEval_keep he hb hw
    · cases hn
  · cases e : putc N st.fr o.dst (.lit undef) with
    | none => rw [e] at hn; cases hn
    | some fr => rw [e] at hn; simp only [Option.map_some, Option.some.injEq] at hn; subst hn; rfl
  · cases hn

theorem args_one' {α : Type} {args : Array α} {x : α} (he : args.toList = [x]) : args = #[x] := by apply Array.ext'; exact he
theorem args_two' {α : Type} {args : Array α} {x y : α} (he : args.toList = [x, y]) : args = #[x, y] := by apply Array.ext'; exact he
theorem notW_wr {fr : Fr} {o : Oper} (h : isW o.op = false) : wrOf fr o = none := by
  obtain ⟨dst, op, ty, pos, after, guard⟩ := o
  cases op with
  | store => cases h
  | mapUpdate => cases h
  | insert => cases h
  | call c =>
    obtain ⟨callee, args, ts⟩ := c
    cases callee with
    | builtin b => cases b <;> first | rfl | cases h
    | _ => rfl
  | _ => rfl

theorem opsRun_keep {N : Nat} {all : Array Oper} {base : Nat} : ∀ {l : List (Nat × Oper)} {st st' : St}, opsRun P N all base l st = some st' → st'.nx = st.nx ∧ ∀ b, b < base → hget st'.h b = hget st.h b
  | [], st, st', h => by cases h; exact ⟨rfl, fun _ _ => rfl⟩
  | p :: l, st, st', h => by
    simp only [opsRun] at h
    split at h
    · cases h
    · rename_i hw
      split at h
      · rename_i st1 e
        obtain ⟨h1, h2⟩ := opsRun_keep h
        refine ⟨h1.trans (opNext_nx e), fun b hb => (h2 b hb).trans (opNext_keep e (by omega) (by rw [notW_wr hw]; simp))⟩
      · cases h

theorem defRun_ok (hE : EnvOk P E) {rec : Rec} (hR : RecOk P rec) {g : FuncId} {caps : List CV} {pv : Option CV} {nx : Nat} {h : Heap} {A A' : Acc} {nx' : Nat} {h' : Heap} (he : defRun E rec g caps pv nx h A = some (nx', h', A')) :
    (∃ M, A'.L = M ++ A.L) ∧ ((∀ p ∈ A'.L, p.1 = p.2) → GoodD P g caps pv nx h nx' h' ∧ ∀ b, b < nx → b ∉ A'.wr → hget h' b = hget h b) := by
  unfold defRun at he
  split at he
  · rename_i gn hgn
    split at he
    · rename_i i0 ops rest hb
      split at he
      · rename_i o hops
        split at he
        · rename_i as ts ho
          split at he
          · rename_i has hg hd hres
            rename_i t
            split at he
            · rename_i hlen
              split at he
              · rename_i st A2 hrec
                cases he
                simp only [Bool.and_eq_true] at hlen
                have hr := hR _ _ _ _ _ _ hrec
                obtain ⟨hf, hcf⟩ := hE.fn _ _ hgn
                have hops' : ops = #[o] := args_one' hops
                subst hops'
                refine ⟨hr.l, fun hL => ⟨?_, hr.keep hL nx (Nat.le_refl _)⟩⟩
                exact goodD_of hE.mix hf hb hcf (Nat.le_of_ble_eq_true hlen.1) (Array.toList_eq_nil_iff.1 hres) ho (Array.toList_eq_nil_iff.1 has) hg hd (Nat.le_of_ble_eq_true hlen.2) (hr.wp hL)
              · cases he
            · cases he
          · cases he
        · cases he
      · cases he
    · cases he
  · cases he

theorem deferRest_ok (hE : EnvOk P E) {rec : Rec} (hR : RecOk P rec) {f : FuncId} {fn : Func} {args : List CV} {nx : Nat} {h : Heap} {g : FuncId} {caps : List CV} {rest : Code} {st2 : St} {A A' : Acc} {o : Out} {nx' : Nat} {h' : Heap} {wr : List Nat}
    (hf : P.funcs[f]? = some fn) (hcf : ∀ (vs : Array Value) (w : World), (callFunc f vs).run P w = .ok (.enter f vs) w) (ha : Ahead1 P fn args nx h g caps rest st2) (hk2 : ∀ b, b < nx → hget st2.h b = hget h b)
    (he : deferRest P E rec f fn g caps rest st2 A = some (o, nx', h', wr, A')) :
    (∃ M, A'.L = M ++ A.L) ∧ A'.wr = A.wr ∧ ((∀ p ∈ A'.L, p.1 = p.2) → Good P f args nx h o nx' h' ∧ ∀ b, b < nx → b ∉ wr → hget h' b = hget h b) := by
  have hx2 := ha.1
  unfold deferRest at he
  split at he
  · rename_i i2 ops2 rest2
    split at he
    · rename_i mv cl tl hops
      split at he
      · rename_i hwm
        split at he
        · rename_i st3 h1
          have hx3 := opNext_nx h1
          simp only at hx3
          split at he
          · rename_i f2 args2 hca
            have hc2 := callOf_ok hca
            have hm : ops2[0]? = some mv := by rw [← Array.getElem?_toList, hops]; rfl
            have hc : ops2[1]? = some cl := by rw [← Array.getElem?_toList, hops]; rfl
            split at he
            · rename_i c nx3 h3 wr3 A1 hcall
              obtain ⟨c1, c2, c3⟩ := callFn_ok hE hR hcall
              split at he
              · rename_i nx4 h4 A2 hdef
                obtain ⟨d1, d2⟩ := defRun_ok hE hR hdef
                split at he
                · rename_i r hr
                  cases he
                  obtain ⟨M1, hM1⟩ := c1
                  obtain ⟨M2, hM2⟩ := d1
                  simp only at hM2
                  refine ⟨⟨M2 ++ M1, by simp only [hM2, hM1, List.append_assoc]⟩, rfl, fun hL => ?_⟩
                  simp only at hL
                  have hL1 : ∀ p ∈ A1.L, p.1 = p.2 := by rw [hM2] at hL; exact holds_tail hL
                  obtain ⟨g1, g2⟩ := c3 hL1
                  obtain ⟨k1, k2⟩ := d2 hL
                  refine ⟨good_defer_pan hf hcf ha hm hc h1 hc2 g1 k1 hr, fun b hb hn => ?_⟩
                  simp only [List.mem_append, not_or] at hn
                  have hx4 := g1.1
                  rw [k2 b (by omega) hn.2, g2 b (by omega) hn.1, opNext_keep h1 (by omega) (by rw [notW_wr hwm]; simp)]
                  exact hk2 b hb
                · cases he
              · cases he
            · rename_i hcall
              split at he
              · rename_i st4 A1 hrec
                have hr4 := hR _ _ _ _ _ _ hrec
                split at he
                · rename_i nx4 h4 A2 hdef
                  obtain ⟨d1, d2⟩ := defRun_ok hE hR hdef
                  split at he
                  · rename_i r hr
                    cases he
                    obtain ⟨M1, hM1⟩ := hr4.l
                    obtain ⟨M2, hM2⟩ := d1
                    simp only at hM1 hM2
                    refine ⟨⟨M2 ++ M1, by simp only [hM2, hM1, List.append_assoc]⟩, rfl, fun hL => ?_⟩
                    simp only at hL
                    have hL1 : ∀ p ∈ A1.L, p.1 = p.2 := by rw [hM2] at hL; exact holds_tail hL
                    obtain ⟨k1, k2⟩ := d2 hL
                    have hw := hr4.wp hL1
                    refine ⟨good_defer_ret hE.mix hf hcf ha hw k1 hr, fun b hb hn => ?_⟩
                    simp only [List.mem_append, not_or] at hn
                    obtain ⟨F, hF, hx4, _⟩ := wp_sound hE.mix hw
                    subst hF
                    simp only [Fin.nx] at hx4
                    rw [k2 b (by omega) hn.2]
                    have := hr4.keep hL1 nx (by simp only [LowOk]; omega) b hb hn.1
                    simp only [Fin.h, Conf.h] at this
                    rw [this]
                    exact hk2 b hb
                  · cases he
                · cases he
              · cases he
            · cases he
          · cases he
        · cases he
      · cases he
    · cases he
  · cases he

/-- A function's run, by its text. -/
theorem fin_ok (hE : EnvOk P E) {f : FuncId} {fn : Func} {c : Code} {args : List CV} {nx : Nat} {h : Heap} {F : Fin} {o : Out} (hfn : E.fn f = some fn) (hb : fn.body = some c) (hn : args.length ≤ fn.ntmps)
    (hw : Wp P fn.ntmps (fun F' => F' = F) (.run [.code c] ⟨entryFr args, nx, h⟩)) (ho : OutOf P fn F o) : Good P f args nx h o F.nx F.h := by
  obtain ⟨hf, hcf⟩ := hE.fn _ _ hfn
  obtain ⟨F', hF', hle, _⟩ := body_run hE.mix hf hb hn hw
  subst hF'
  refine good_gen hE.mix hf hb hcf hn hle fun _ => ?_
  refine hw.mono ?_
  rintro F' rfl
  exact ⟨Nat.le_refl _, o, fun _ => False, ho, fun _ h => h.elim, OutFrz.refl .., ⟨fun n k hk => ⟨id, k, hk, KFrz.refl ..⟩⟩⟩

theorem rngRounds_ok (hE : EnvOk P E) {rec : Rec} (hR : RecOk P rec) {f2 N : Nat} {fI : FuncId} {tS : TypeId} {p0 p1 : Tmp} {assign body : Code} {fr0 : Fr} {ao : CV} : ∀ (k : Nat) (i : Int) (nx : Nat) (h : Heap) (A : Acc) {nx' : Nat} {h' : Heap} {A' : Acc},
    rngRounds P E rec f2 N fI tS p0 p1 assign body fr0 ao k i nx h A = some (nx', h', A') →
    (∃ M, A'.L = M ++ A.L) ∧ (∃ W, A'.wr = W ++ A.wr) ∧ ((∀ p ∈ A'.L, p.1 = p.2) → Rounds P fI tS N p0 p1 assign body fr0 ao (i + k) i nx h nx' h' ∧ nx ≤ nx' ∧ ∀ lo, lo ≤ nx → ∀ b, b < lo → b ∉ A'.wr → hget h' b = hget h b) := by
  intro k
  induction k with
  | zero =>
    intro i nx h A nx' h' A' he
    cases he
    exact ⟨⟨[], rfl⟩, ⟨[], rfl⟩, fun _ => ⟨.done (by simp), Nat.le_refl _, fun _ _ _ _ _ => rfl⟩⟩
  | succ k ih =>
    intro i nx h A nx' h' A' he
    change (match loadEval P h tS ao with
      | some own => _
      | none => none) = some (nx', h', A') at he
    split at he
    · rename_i own hl
      split at he
      · rename_i ix nx1 h1 wr A1 hc
        obtain ⟨⟨M1, c1⟩, c2, c3⟩ := callFn_ok hE hR hc
        split at he
        · rename_i K1 st1 A2 hr1
          have g1 := hR _ _ _ _ _ _ hr1
          obtain ⟨M2, m2⟩ := g1.l
          obtain ⟨W2, w2⟩ := g1.w
          simp only at m2 w2
          split at he
          · rename_i K2
            split at he
            · rename_i K3 st2 A3 hr2
              have g2 := hR _ _ _ _ _ _ hr2
              obtain ⟨M3, m3⟩ := g2.l
              obtain ⟨W3, w3⟩ := g2.w
              split at he
              · obtain ⟨⟨M4, i1⟩, ⟨W4, i2⟩, i3⟩ := ih _ _ _ _ he
                refine ⟨⟨M4 ++ M3 ++ M2 ++ M1, by rw [i1, m3, m2, c1]; simp⟩, ⟨W4 ++ W3 ++ W2 ++ wr, by rw [i2, w3, w2, c2]; simp⟩, fun hL => ?_⟩
                have hL3 : ∀ p ∈ A3.L, p.1 = p.2 := by rw [i1] at hL; exact holds_tail hL
                have hL2 : ∀ p ∈ A2.L, p.1 = p.2 := by rw [m3] at hL3; exact holds_tail hL3
                have hL1 : ∀ p ∈ A1.L, p.1 = p.2 := by rw [m2] at hL2; exact holds_tail hL2
                obtain ⟨r1, r2, r3⟩ := i3 hL
                obtain ⟨q1, q2⟩ := c3 hL1
                have wp1 := g1.wp hL2
                have wp2 := g2.wp hL3
                have hx1 := q1.1
                obtain ⟨Fa, rfl, xa, _⟩ := wp_soundR hE.mix wp1
                obtain ⟨Fb, rfl, xb, _⟩ := wp_soundR hE.mix wp2
                simp only [Fin.nx] at xa xb
                refine ⟨.one (by simp; omega) hl q1 ⟨K2, st1, st2.fr, wp1, wp2⟩ (by rw [show i + ((k + 1 : Nat) : Int) = i + 1 + (k : Int) from by omega]; exact r1), by omega, fun lo hlo b hb hn => ?_⟩
                rw [r3 lo (by omega) b hb hn]
                have hn3 : b ∉ A3.wr := fun hm => hn (by rw [i2]; exact List.mem_append.2 (.inr hm))
                have hn2 : b ∉ A2.wr := fun hm => hn3 (by rw [w3]; exact List.mem_append.2 (.inr hm))
                have hn1 : b ∉ wr := fun hm => hn2 (by rw [w2]; simp [hm])
                have k2 := g2.keep hL3 lo (by simp only [LowOk]; omega) b hb hn3
                have k1 := g1.keep hL2 lo (by simp only [LowOk]; omega) b hb hn2
                simp only [Fin.h, Conf.h] at k1 k2
                rw [k2, k1, q2 b (by omega) hn1]
              · cases he
            · cases he
          · cases he
        · cases he
      · cases he
    · cases he

theorem rngRun_ok (hE : EnvOk P E) {rec : Rec} (hR : RecOk P rec) {f2 : Nat} {f : FuncId} {args : List CV} {nx : Nat} {h : Heap} {A A' : Acc} {o : Out} {nx' : Nat} {h' : Heap} {wr : List Nat}
    (he : rngRun P E rec f2 f args nx h A = some (o, nx', h', wr, A')) :
    (∃ M, A'.L = M ++ A.L) ∧ A'.wr = A.wr ∧ ((∀ p ∈ A'.L, p.1 = p.2) → Good P f args nx h o nx' h' ∧ ∀ b, b < nx → b ∉ wr → hget h' b = hget h b) := by
  unfold rngRun at he
  split at he
  · rename_i fn hfn
    obtain ⟨hf, hcf⟩ := hE.fn _ _ hfn
    split at he
    · rename_i c hb
      split at he
      · rename_i hlen
        have hn := Nat.le_of_ble_eq_true hlen
        split at he
        · rename_i F A1 hr1
          have g1 := hR _ _ _ _ _ _ hr1
          split at he
          · rename_i K0 st
            split at he
            · rename_i g ps assign body K
              split at he
              · rename_i p0 p1 hps
                have hps' : ps = #[p0, p1] := args_two' hps
                subst hps'
                split at he
                · rename_i hpp
                  simp only [Bool.and_eq_true] at hpp
                  have hp0 := Nat.le_of_ble_eq_true hpp.1
                  have hp1 := Nat.le_of_ble_eq_true hpp.2
                  split at he
                  · rename_i fA an ao hg
                    split at he
                    · rename_i fI tN tS hall
                      obtain ⟨AC⟩ := hE.all _ _ _ _ hall
                      split at he
                      · rename_i n hl
                        split at he
                        · rename_i hnb
                          have hnb' := Nat.le_of_ble_eq_true hnb
                          split at he
                          · rename_i nx2 h2 A2 hrr
                            obtain ⟨⟨M2, m2⟩, ⟨W2, w2⟩, c2⟩ := rngRounds_ok hE hR _ _ _ _ _ hrr
                            split at he
                            · rename_i F3 A3 hr3
                              have g3 := hR _ _ _ _ _ _ hr3
                              split at he
                              · rename_i o2 ho
                                cases he
                                obtain ⟨M1, m1⟩ := g1.l
                                obtain ⟨M3, m3⟩ := g3.l
                                obtain ⟨W3, w3⟩ := g3.w
                                simp only at m1
                                refine ⟨⟨M3 ++ M2 ++ M1, by simp only; rw [m3, m2, m1]; simp⟩, rfl, fun hL => ?_⟩
                                simp only at hL
                                have hL2 : ∀ p ∈ A2.L, p.1 = p.2 := by rw [m3] at hL; exact holds_tail hL
                                have hL1 : ∀ p ∈ A1.L, p.1 = p.2 := by rw [m2] at hL2; exact holds_tail hL2
                                obtain ⟨r1, r2, r3⟩ := c2 hL2
                                have wp1 := g1.wp hL1
                                have wp3 := g3.wp hL
                                rw [show (0 : Int) + (n : Int) = (n : Int) from by omega] at r1
                                refine ⟨good_of_K hf hb hcf hn (goodK_comp hE.mix wp1 (goodK_range hE.mix AC hf hg hl (by simp only [Int.ofNat_eq_natCast]; omega) hp0 hp1 r1 wp3 (outOf_ok ho))), fun b hb hn => ?_⟩
                                obtain ⟨Fa, rfl, xa, _⟩ := wp_soundR hE.mix wp1
                                simp only [Fin.nx] at xa
                                have hn2 : b ∉ A2.wr := fun hm => hn (by rw [w3]; exact List.mem_append.2 (.inr hm))
                                have hn1 : b ∉ A1.wr := fun hm => hn2 (by rw [w2]; exact List.mem_append.2 (.inr hm))
                                have k3 := g3.keep hL nx (by simp only [LowOk]; omega) b hb hn
                                have k1 := g1.keep hL1 nx (Nat.le_refl _) b hb hn1
                                rw [show hget F3.h b = hget h2 b from k3, r3 nx (by omega) b hb hn2, show hget st.h b = hget h b from k1]
                              · cases he
                            · cases he
                          · cases he
                        · cases he
                      · cases he
                    · cases he
                  · cases he
                · cases he
              · cases he
            · cases he
          · rename_i st
            split at he
            · rename_i o2 ho
              cases he
              exact ⟨g1.l, rfl, fun hL => ⟨fin_ok hE hfn hb hn (g1.wp hL) (outOf_ok ho), fun b hb hn => g1.keep hL nx (Nat.le_refl _) b hb hn⟩⟩
            · cases he
          · rename_i c2 nx2 h2
            cases he
            exact ⟨g1.l, rfl, fun hL => ⟨fin_ok hE hfn hb hn (g1.wp hL) .pan, fun b hb hn => g1.keep hL nx (Nat.le_refl _) b hb hn⟩⟩
        · cases he
      · cases he
    · cases he
  · cases he

theorem callRun_ok (hE : EnvOk P E) {rec : Rec} (hR : RecOk P rec) {f : FuncId} {args : List CV} {nx : Nat} {h : Heap} {A A' : Acc} {o : Out} {nx' : Nat} {h' : Heap} {wr : List Nat}
    (he : callRun P E rec f args nx h A = some (o, nx', h', wr, A')) :
    (∃ M, A'.L = M ++ A.L) ∧ A'.wr = A.wr ∧ ((∀ p ∈ A'.L, p.1 = p.2) → Good P f args nx h o nx' h' ∧ ∀ b, b < nx → b ∉ wr → hget h' b = hget h b) := by
  unfold callRun at he
  split at he
  · unfold deferRun at he
    split at he
    · rename_i fn hfn
      obtain ⟨hf, hcf⟩ := hE.fn _ _ hfn
      split at he
      · rename_i i0 ops0 i1 ops1 rest hb
        split at he
        · rename_i hlen
          split at he
          · rename_i st1 h0
            obtain ⟨n1, n2⟩ := opsRun_keep h0
            simp only at n1 n2
            split at he
            · rename_i mk df hops
              split at he
              · rename_i t hdf
                split at he
                · rename_i hwm
                  split at he
                  · rename_i st2 h1
                    split at he
                    · rename_i g caps hcl
                      have hops' : ops1 = #[mk, df] := args_two' hops
                      subst hops'
                      unfold deferOf at hdf
                      split at hdf
                      · rename_i t' as ts hop
                        split at hdf
                        · rename_i has hg hd
                          cases hdf
                          have has' : as = #[] := Array.toList_eq_nil_iff.1 has
                          subst has'
                          have ha := ahead1_of hb (Nat.le_of_ble_eq_true hlen) h0 h1 hop hg hd hcl
                          exact deferRest_ok hE hR hf hcf ha (fun b hb => by
                            rw [opNext_keep h1 (by omega) (by rw [notW_wr hwm]; simp)]
                            exact n2 b hb) he
                        · cases hdf
                      · cases hdf
                    · cases he
                  · cases he
                · cases he
              · cases he
            · cases he
          · cases he
        · cases he
      · cases he
    · cases he
  · split at he
    · exact rngRun_ok hE hR he
    · exact callFn_ok hE hR he

theorem below_mem {nx b : Nat} (hb : b < nx) : ∀ {l : List Nat}, b ∈ l → b ∈ below nx l
  | [], h => by cases h
  | c :: l, h => by
    unfold below
    split
    · rename_i e
      have := Nat.le_of_ble_eq_true e
      rcases List.mem_cons.1 h with rfl | h
      · omega
      · exact below_mem hb h
    · rcases List.mem_cons.1 h with rfl | h
      · exact List.mem_cons_self ..
      · exact List.mem_cons_of_mem _ (below_mem hb h)
theorem noneBelow_ok {nx : Nat} : ∀ {l : List Nat}, noneBelow nx l = true → ∀ b, b < nx → b ∉ l
  | [], _, b, _ => by simp
  | c :: l, h, b, hb => by
    simp only [noneBelow, Bool.and_eq_true] at h
    have h1 := Nat.le_of_ble_eq_true h.1
    intro hm
    rcases List.mem_cons.1 hm with rfl | hm
    · omega
    · exact noneBelow_ok h.2 b hb hm

theorem freesOk_ok {mode : Option Mode} {base i : Nat} {wr : List Nat} {nx : Nat} {m : Mode} (h : freesOk mode base i wr nx = true) (hm : mode = some m) : ∀ j ∈ m.frees i, base + j ∉ wr ∧ j ≠ i ∧ base + j < nx := by
  subst hm
  intro j hj
  simp only [freesOk, List.all_eq_true, Bool.and_eq_true, Bool.not_eq_true'] at h
  obtain ⟨⟨h1, h2⟩, h3⟩ := h j hj
  refine ⟨fun hmem => ?_, fun e => ?_, Nat.le_of_ble_eq_true h3⟩
  · rw [show wr.contains (base + j) = true from by simpa using hmem] at h1
    cases h1
  · subst e
    rw [Nat.beq_refl] at h2
    cases h2

theorem effB_ok {mode : Option Mode} {i : Nat} (h : effB mode i = true) : ∀ m, mode = some m → i ∈ m.eff := by
  intro m hm
  subst hm
  simpa [effB] using h

theorem addW_mem {w : Option Nat} {l : List Nat} {b : Nat} (h : b ∉ addW w l) : w ≠ some b ∧ b ∉ l := by
  cases w with
  | none => exact ⟨by simp, h⟩
  | some c => simp only [addW, List.mem_cons, not_or] at h; exact ⟨by intro e; cases e; exact h.1 rfl, h.2⟩

theorem Right.trans {N : Nat} {c c' : Conf} {F : Fin} {A A1 A' : Acc} (hr : Right P N c F A1 A') (hl : ∃ M, A1.L = M ++ A.L) (hw : ∃ W, A1.wr = W ++ A.wr)
    (hwp : (∀ p ∈ A1.L, p.1 = p.2) → Wp P N (fun F' => F' = F) c → Wp P N (fun F' => F' = F) c')
    (hk : (∀ p ∈ A1.L, p.1 = p.2) → ∀ lo, LowOk lo c' → LowOk lo c ∧ ∀ b, b < lo → b ∉ A1.wr → hget c.h b = hget c'.h b) : Right P N c' F A A' := by
  obtain ⟨M, hM⟩ := hr.l
  obtain ⟨M1, hM1⟩ := hl
  obtain ⟨W, hW⟩ := hr.w
  obtain ⟨W1, hW1⟩ := hw
  have h1 : (∀ p ∈ A'.L, p.1 = p.2) → ∀ p ∈ A1.L, p.1 = p.2 := fun h => by rw [hM] at h; exact holds_tail h
  refine ⟨⟨M ++ M1, by rw [hM, hM1, List.append_assoc]⟩, ⟨W ++ W1, by rw [hW, hW1, List.append_assoc]⟩, fun h => hwp (h1 h) (hr.wp h), fun h lo hlo b hb hn => ?_⟩
  obtain ⟨k1, k2⟩ := hk (h1 h) lo hlo
  rw [hr.keep h lo k1 b hb hn]
  exact k2 b hb fun hm => hn (by rw [hW]; exact List.mem_append.2 (.inr hm))

theorem fset_idem (f : Fr) (d : Nat) (c : CV) : fset (fset f d c) d c = fset f d c := by
  induction f with
  | nil => simp [fset]
  | cons p f ih =>
    obtain ⟨m, u⟩ := p
    simp only [fset]
    by_cases e : d = m
    · subst e; simp [fset]
    · rw [if_neg e]
      by_cases e2 : d < m
      · rw [if_pos e2]; simp [fset]
      · rw [if_neg e2]; simp only [fset]; rw [if_neg e, if_neg e2, ih]
theorem so_same {N : Nat} {all : Array Oper} {base i f : Nat} {o : Oper} {st st1 : St} (hn : opNext P N all base i o st = some st1) {d : Nat} {b : Bool} (hs : soAt E f o.dst st1.fr = some (d, b)) : (⟨fset st1.fr d (.lit (.bool b)), st1.nx, st1.h⟩ : St) = st1 := by
  have key : ∀ {cv : CV}, putc N st.fr o.dst cv = some st1.fr → fset st1.fr d (.lit (.bool b)) = st1.fr := fun {cv} hp => by
    unfold soAt at hs
    cases hd : o.dst with
    | none => rw [hd] at hs; cases hs
    | some d' =>
      rw [hd] at hs hp
      simp only at hs
      split at hs
      · split at hs
        · rename_i b' hb
          cases hs
          simp only [putc] at hp
          split at hp
          · cases hp2 : (some (fset st.fr d cv) : Option Fr) with
            | none => cases hp2
            | some fr2 =>
              have e : fset st.fr d cv = st1.fr := by simpa using hp
              rw [← e, fget_fset, if_pos rfl] at hb
              rw [← e, hb, fset_idem]
          · cases hp
        · cases hs
      · cases hs
  have : fset st1.fr d (.lit (.bool b)) = st1.fr := by
    unfold opNext at hn
    split at hn
    · split at hn
      · rename_i cv h' he
        cases e : putc N st.fr o.dst cv with
        | none => rw [e] at hn; cases hn
        | some fr =>
          rw [e] at hn
          simp only [Option.map_some, Option.some.injEq] at hn
          exact key (by rw [e, ← hn])
      · cases hn
    · cases e : putc N st.fr o.dst (.lit undef) with
      | none => rw [e] at hn; cases hn
      | some fr =>
        rw [e] at hn
        simp only [Option.map_some, Option.some.injEq] at hn
        exact key (by rw [e, ← hn])
    · cases hn
  rw [this]

theorem opsStep_ok (hE : EnvOk P E) {rec : Rec} (hR : RecOk P rec) {f N : Nat} {mode : Option Mode} {all : Array Oper} {base i : Nat} {o : Oper} {rest : List (Nat × Oper)} {K : List Item} {st : St} {A A' : Acc} {F : Fin}
    (he : opsStep P E rec f N mode all base i o rest K st A = some (F, A')) : Right P N (.ops mode all base ((i, o) :: rest) K st) F A A' := by
  unfold opsStep at he
  split at he
  · rename_i g args hc
    have hca := callOf_ok hc
    split at he
    · rename_i c nx' h' wr A2 hcall
      obtain ⟨c1, c2, c3⟩ := callRun_ok hE hR hcall
      split at he
      · rename_i heff
        cases he
        refine ⟨c1, ⟨below st.nx wr, by rw [c2]⟩, fun h => .callPan hca (c3 h).1 (effB_ok heff) rfl, fun h lo hlo b hb hn => ?_⟩
        refine (c3 h).2 b (Nat.lt_of_lt_of_le hb hlo.2) fun hm => hn ?_
        exact List.mem_append.2 (.inl (below_mem (Nat.lt_of_lt_of_le hb hlo.2) hm))
      · cases he
    · rename_i r nx' h' wr A2 hcall
      obtain ⟨c1, c2, c3⟩ := callRun_ok hE hR hcall
      split at he
      · rename_i heff
        split at he
        · rename_i hfrees
          split at he
          · rename_i fr' hput
            refine (hR _ _ _ _ _ _ he).trans c1 ⟨below st.nx wr, by rw [c2]⟩ (fun h hw => .call hca (c3 h).1 hput ?_ hw) fun h lo hlo => ⟨⟨hlo.1, Nat.le_trans hlo.2 (c3 h).1.1⟩, fun b hb hn => ?_⟩
            · cases mode with
              | none => trivial
              | some m =>
                simp only [callOk]
                rw [if_pos (by simpa [isEff] using heff)]
                simp only [Bool.and_eq_true] at hfrees
                refine ⟨fun j hj => ?_, fun ha n hn => ?_⟩
                rotate_left
                · have h9 := hfrees.2
                  unfold addOk at h9
                  simp only [show m.add.contains i = true from by simpa using ha] at h9
                  exact (c3 h).2 n hn (noneBelow_ok h9 n hn)
                obtain ⟨g1, _, g3⟩ := freesOk_ok hfrees.1 rfl j hj
                exact (c3 h).2 _ g3 g1
            · refine (c3 h).2 b (Nat.lt_of_lt_of_le hb hlo.2) fun hm => hn ?_
              exact List.mem_append.2 (.inl (below_mem (Nat.lt_of_lt_of_le hb hlo.2) hm))
          · cases he
        · cases he
      · rename_i heff
        split at he
        · rename_i hnone
          split at he
          · rename_i r' hfrz
            obtain ⟨f1, f2⟩ := frzV_ok _ _ _ hfrz
            split at he
            · rename_i fr' hput
              refine (hR _ _ _ _ _ _ he).trans c1 ⟨[], by rw [c2]; rfl⟩ (fun h hw => ?_) fun h lo hlo => ⟨hlo, fun b hb hn => rfl⟩
              have hG := (c3 h).1.pure (fun n hn => (c3 h).2 n hn (noneBelow_ok hnone n hn)) (o := .ret r') f1 f2
              refine .call hca hG hput ?_ hw
              cases mode with
              | none => trivial
              | some m =>
                simp only [callOk]
                rw [if_neg (by simpa [isEff] using heff)]
                simp
            · cases he
          · cases he
        · cases he
    · cases he
  · split at he
    · rename_i x hop
      split at he
      · rename_i hg
        split at he
        · rename_i hx
          cases he
          simp only [Bool.and_eq_true] at hx
          exact ⟨⟨[], rfl⟩, ⟨[], rfl⟩, fun h => .panic hg hop hx.1 (effB_ok hx.2) rfl, fun h lo hlo b hb hn => rfl⟩
        · cases he
      · rename_i hg
        split at he
        · rename_i fr' hput
          refine (hR _ _ _ _ _ _ he).trans ⟨[], rfl⟩ ⟨[], rfl⟩ (fun h hw => .op (st1 := ⟨fr', st.nx, st.h⟩) ?_ (fun h => by rw [hop] at h; cases h) hw) fun h lo hlo => ⟨hlo, fun b hb hn => rfl⟩
          unfold opNext
          rw [hg]
          simp only [hput, Option.map_some]
        · cases he
      · cases he
    · split at he
      · rename_i st1 hnext
        split at he
        · rename_i hfree
          have hkeep : isW o.op = true → keepOk mode base i st.h st1.h := fun hW => by
            rw [hW] at hfree
            cases mode with
            | none => trivial
            | some m =>
              intro j hj
              obtain ⟨g1, g2, _⟩ := freesOk_ok (by simpa using hfree) rfl j hj
              exact opNext_keep hnext (by omega) (addW_mem g1).1
          have hwr : ∃ W', addW (wrOf st.fr o) A.wr = W' ++ A.wr := by
            cases wrOf st.fr o with
            | none => exact ⟨[], rfl⟩
            | some b => exact ⟨[b], rfl⟩
          split at he
          · refine (hR _ _ _ _ _ _ he).trans ⟨[], rfl⟩ hwr (fun h hw => .op hnext hkeep hw) fun h lo hlo => ⟨⟨hlo.1, by rw [opNext_nx hnext]; exact hlo.2⟩, fun b hb hn => ?_⟩
            have := hlo.1
            exact opNext_keep hnext (by omega) (addW_mem hn).1
          · rename_i d b hso
            split at he
            · rename_i x os horc
              refine (hR _ _ _ _ _ _ he).trans ⟨[(b, x)], rfl⟩ hwr (fun h hw => ?_) fun h lo hlo => ⟨⟨hlo.1, by simp only; rw [opNext_nx hnext]; exact hlo.2⟩, fun b hb hn => ?_⟩
              · have e : b = x := h (b, x) (List.mem_cons_self ..)
                subst e
                rw [so_same hnext hso] at hw
                exact .op hnext hkeep hw
              · have := hlo.1
                exact opNext_keep hnext (by omega) (addW_mem hn).1
            · cases he
        · cases he
      · cases he

theorem opVal_keep {all : Array Oper} {n : Nat} {fr : Fr} {h h' : Heap} {o : Oper} {cv : CV} (hv : opVal P all n fr h o = some (cv, h')) {b : Nat} (hb : b ≠ n) (hw : wrOf fr o ≠ some b) : hget h' b = hget h b := by
  unfold opVal at hv
  split at hv
  · exact opEval_keep hv hb hw
  · cases hv; rfl
  · cases hv

theorem opVal_store {all : Array Oper} {n : Nat} {fr : Fr} {h h' : Heap} {o : Oper} {cv : CV} (hs : isStore o.op = true) (hv : opVal P all n fr h o = some (cv, h')) {b : Nat} (hw : wrOf fr o ≠ some b) : hget h' b = hget h b := by
  unfold opVal at hv
  split at hv
  · obtain ⟨dst, op, ty, pos, after, guard⟩ := o
    cases op with
    | store t a x =>
      simp only [opEval] at hv
      cases e : storeEval P h t (ev fr a) (ev fr x) with
      | none => rw [e] at hv; cases hv
      | some h2 =>
        rw [e] at hv
        simp only [Option.map_some, Option.some.injEq, Prod.mk.injEq] at hv
        obtain ⟨_, rfl⟩ := hv
        exact store_keep e hw
    | _ => cases hs
  · cases hv; rfl
  · cases hv

theorem wbOk_ok {w : Option Nat} {i : Nat} : ∀ {l : List (Nat × Nat)}, wbOk w i l = true → ∀ b, (i, b) ∈ l → w = some b
  | [], _, b, hb => by cases hb
  | p :: l, h, b, hb => by
    simp only [wbOk, Bool.and_eq_true] at h
    rcases List.mem_cons.1 hb with rfl | hb
    · have h1 := h.1
      simp only [Nat.beq_refl] at h1
      split at h1
      · rename_i c
        rw [Nat.eq_of_beq_eq_true h1]
      · cases h1
    · exact wbOk_ok h.2 b hb

theorem xRun_ok (hE : EnvOk P E) {rec : Rec} (hR : RecOk P rec) {N : Nat} {m : Mode} {all : Array Oper} {base : Nat} : ∀ {l : List (Nat × Oper)} {st st' : St} {A A' : Acc}, (∀ p ∈ l, all[p.1]? = some p.2) → xRun P E rec N m all base l st A = some (st', A') →
    st'.nx = st.nx ∧ (∃ M, A'.L = M ++ A.L) ∧ (∃ W, A'.wr = W ++ A.wr) ∧ ((∀ p ∈ A'.L, p.1 = p.2) → TrX P N m all base (l.map (·.1)) st (.nor st') ∧ ∀ b, b < base → b ∉ A'.wr → hget st'.h b = hget st.h b)
  | [], st, st', A, A', _, h => by
    cases h
    exact ⟨rfl, ⟨[], rfl⟩, ⟨[], rfl⟩, fun _ => ⟨.nil, fun _ _ _ => rfl⟩⟩
  | p :: l, st, st', A, A', hl, h => by
    have hp := hl p (by simp)
    have hl' : ∀ q ∈ l, all[q.1]? = some q.2 := fun q hq => hl q (by simp [hq])
    simp only [xRun] at h
    split at h
    · rename_i g args hc
      have hca := callOf_ok hc
      split at h
      · cases h
      · rename_i heff
        split at h
        · rename_i r nx' h' wr A1 hcall
          obtain ⟨c1, c2, c3⟩ := callRun_ok hE hR hcall
          split at h
          · rename_i hnone
            split at h
            · rename_i r' hfrz
              obtain ⟨f1, f2⟩ := frzV_ok _ _ _ hfrz
              split at h
              · rename_i fr' hput
                obtain ⟨n1, ⟨M, hM⟩, ⟨W, hW⟩, h5⟩ := xRun_ok hE hR hl' h
                obtain ⟨M1, hM1⟩ := c1
                refine ⟨n1, ⟨M ++ M1, by rw [hM, hM1, List.append_assoc]⟩, ⟨W, by rw [hW, c2]⟩, fun hL => ?_⟩
                obtain ⟨t1, t2⟩ := h5 hL
                have hL1 : ∀ q ∈ A1.L, q.1 = q.2 := by rw [hM] at hL; exact holds_tail hL
                have hG := (c3 hL1).1.pure (fun n hn => (c3 hL1).2 n hn (noneBelow_ok hnone n hn)) (o := .ret r') f1 f2
                refine ⟨.call hp hca hG hput ?_ t1, t2⟩
                simp only [callOk]
                rw [if_neg (by simpa using heff)]
                simp
              · cases h
            · cases h
          · cases h
        · cases h
    · split at h
      · rename_i hov
        split at h
        · rename_i hq
          simp only [Bool.and_eq_true] at hq
          split at h
          · rename_i cv h0 hv
            split at h
            · rename_i fr' hput
              obtain ⟨n1, h3, h4, h5⟩ := xRun_ok hE hR hl' h
              refine ⟨n1, h3, h4, fun hL => ?_⟩
              obtain ⟨t1, t2⟩ := h5 hL
              have hsub : SubH (hdelAll st.h (m.wb.map (·.2))) st.h := fun n k hk => by
                rw [hget_hdelAll] at hk
                split at hk
                · cases hk
                · exact hk
              have hv1 := opVal_quiet_mono hq.1 hv hsub
              have hv2 := opVal_quiet_mono hq.1 hv (fun _ _ h => h)
              refine ⟨.op hp hv1 (fun hw => ?_) ⟨fun _ => hv2, fun b hb => ?_⟩ hput t1, t2⟩
              · have h9 := hq.1
                unfold quiet at h9
                rw [hw] at h9
                simp at h9
              · have := wbOk_ok hq.2 b hb
                cases this
            · cases h
          · cases h
        · cases h
      · rename_i hov
        split at h
        · rename_i hc
          simp only [Bool.and_eq_true, Bool.or_eq_true, Bool.not_eq_true'] at hc
          split at h
          · rename_i cv h' hv
            split at h
            · rename_i fr' hput
              obtain ⟨n1, h3, ⟨W, hW⟩, h5⟩ := xRun_ok hE hR hl' h
              have hwr : ∃ W', (addW (wrOf st.fr p.2) A.wr) = W' ++ A.wr := by
                cases wrOf st.fr p.2 with
                | none => exact ⟨[], rfl⟩
                | some b => exact ⟨[b], rfl⟩
              obtain ⟨W', hW'⟩ := hwr
              refine ⟨n1, h3, ⟨W ++ W', by rw [hW]; simp only [hW', List.append_assoc]⟩, fun hL => ?_⟩
              obtain ⟨t1, t2⟩ := h5 hL
              have hnw : ∀ b, b ∉ A'.wr → wrOf st.fr p.2 ≠ some b := fun b hb => (addW_mem (fun hm => hb (by rw [hW]; exact List.mem_append.2 (.inr hm)) : b ∉ addW (wrOf st.fr p.2) A.wr)).1
              refine ⟨.op hp hv (fun hw j hj => ?_) ⟨fun ho => absurd (by simpa using ho) (by simpa using hov), fun b hb n hn => ?_⟩ hput t1, fun b hb hn => ?_⟩
              · rcases hc.1 with h9 | h9
                · rw [hw] at h9; cases h9
                · obtain ⟨g1, g2, _⟩ := freesOk_ok h9 rfl j hj
                  exact opVal_keep hv (by omega) (addW_mem g1).1
              · have e := wbOk_ok hc.2.1 b hb
                rcases hc.2.2 with h9 | h9
                · exact opVal_store h9 hv (by rw [e]; intro e3; cases e3; exact hn rfl)
                · have := wbOk_ok h9 b hb; cases this
              · rw [t2 b hb hn]
                exact opVal_keep hv (by omega) (hnw b hn)
            · cases h
          · cases h
        · cases h

theorem codeStep_ok (hE : EnvOk P E) {rec : Rec} (hR : RecOk P rec) {f N : Nat} {c : Code} {K : List Item} {st : St} {A A' : Acc} {F : Fin}
    (he : codeStep P E rec f N c K st A = some (F, A')) : Right P N (.run (.code c :: K) st) F A A' := by
  have go : ∀ {K' : List Item}, rec f N (.run K' st) A = some (F, A') → (Wp P N (fun F' => F' = F) (.run K' st) → Wp P N (fun F' => F' = F) (.run (.code c :: K) st)) → Right P N (.run (.code c :: K) st) F A A' :=
    fun h1 h2 => (hR _ _ _ _ _ _ h1).same h2 rfl fun _ h => h
  cases c with
  | ret =>
    cases he
    exact ⟨⟨[], rfl⟩, ⟨[], rfl⟩, fun _ => .ret rfl, fun h lo hlo b hb hn => rfl⟩
  | skip => exact go he .skip
  | label l => exact go he .label
  | seq x y => exact go he .seq
  | block id c => exact go he .block
  | scope c => exact go he .scope
  | cond c x y =>
    simp only [codeStep] at he
    split at he
    · rename_i b hc
      split at he
      · split at he
        · rename_i d os ho
          have hr := hR _ _ _ _ _ _ he
          refine hr.trans ⟨[(b, d)], rfl⟩ ⟨[], rfl⟩ (fun h hw => .cond (b := b) hc ?_) fun h lo hlo => ⟨hlo, fun b hb hn => rfl⟩
          have : b = d := h (b, d) (List.mem_cons_self ..)
          subst this
          cases b
          · exact hw
          · exact hw
        · cases he
      · split at he
        · exact go he fun h => .cond hc h
        · exact go he fun h => .cond hc h
    · cases he
  | exit id =>
    simp only [codeStep] at he
    split at he
    · rename_i K' e; exact go he (.exit e)
    · cases he
  | goto l =>
    simp only [codeStep] at he
    split at he
    · rename_i K' e; exact go he (.goto e)
    · cases he
  | loop c =>
    simp only [codeStep] at he
    split at he
    · split at he
      · cases he
        exact ⟨⟨[], rfl⟩, ⟨[], rfl⟩, fun _ => .loop (.refl _) (.stop rfl), fun h lo hlo b hb hn => rfl⟩
      · exact go he (.loop (.refl _))
    · exact go he (.loop (.refl _))
  | rangeFunc g ps x y =>
    cases he
    exact ⟨⟨[], rfl⟩, ⟨[], rfl⟩, fun _ => .stop rfl, fun h lo hlo b hb hn => rfl⟩
  | region id all draw =>
    simp only [codeStep] at he
    split at he
    · cases he
    rename_i hnd
    split at he
    · refine (hR _ _ _ _ _ _ he).same (.region hnd) rfl fun lo hlo => ?_
      simp only [LowOk] at hlo ⊢
      omega
    · split at he
      · split at he
        · rename_i hok
          refine (hR _ _ _ _ _ _ he).same (.draw _ hnd hok) rfl fun lo hlo => ?_
          simp only [LowOk] at hlo ⊢
          omega
        · cases he
      · rename_i x hx
        split at he
        · rename_i hok
          split at he
          · rename_i st' A1 hxr
            have hlt : ∀ i ∈ (modeAt E f id all).perm, i < all.size := by
              have h9 := hok
              unfold drawOkX at h9
              simp only [Bool.and_eq_true, List.all_eq_true, decide_eq_true_eq] at h9
              exact h9.1.1.1.1.1.2
            obtain ⟨n1, n2⟩ := pick_spec (modeAt E f id all).perm hlt
            obtain ⟨x1, x2, x3, x4⟩ := xRun_ok hE hR n2 hxr
            rw [n1] at x4
            refine (hR _ _ _ _ _ _ he).trans x2 x3 (fun h hw => .drawX _ hnd hok (x4 h).1 hw) fun h lo hlo => ⟨?_, fun b hb hn => (x4 h).2 b (Nat.lt_of_lt_of_le hb hlo) hn⟩
            simp only [LowOk] at hlo ⊢
            simp only at x1
            omega
          · cases he
        · cases he
  | _ => cases he

theorem crunStep_ok (hE : EnvOk P E) {rec : Rec} (hR : RecOk P rec) : RecOk P (crunStep P E rec) := by
  intro f N c A F A' he
  unfold crunStep at he
  split at he
  · rename_i K st
    split at he
    · split at he
      · cases he
        exact ⟨⟨[], rfl⟩, ⟨[], rfl⟩, fun _ => .stop rfl, fun h lo hlo b hb hn => rfl⟩
      · cases he
        exact ⟨⟨[], rfl⟩, ⟨[], rfl⟩, fun _ => .nil rfl, fun h lo hlo b hb hn => rfl⟩
    · split at he
      · cases he
        exact ⟨⟨[], rfl⟩, ⟨[], rfl⟩, fun _ => .stop rfl, fun h lo hlo b hb hn => rfl⟩
      · exact codeStep_ok hE hR he
      · exact (hR _ _ _ _ _ _ he).same .inBlock rfl fun _ h => h
      · exact (hR _ _ _ _ _ _ he).same .inScope rfl fun _ h => h
      · split at he
        · split at he
          · cases he
            exact ⟨⟨[], rfl⟩, ⟨[], rfl⟩, fun _ => .inLoop (.refl _) (.stop rfl), fun h lo hlo b hb hn => rfl⟩
          · exact (hR _ _ _ _ _ _ he).same (.inLoop (.refl _)) rfl fun _ h => h
        · exact (hR _ _ _ _ _ _ he).same (.inLoop (.refl _)) rfl fun _ h => h
      · cases he
  · split at he
    · exact (hR _ _ _ _ _ _ he).same .opsNil rfl fun _ h => h.2
    · exact opsStep_ok hE hR he

theorem crun_ok (hE : EnvOk P E) : ∀ n, RecOk P (crun P E n)
  | 0 => fun _ _ _ _ _ _ he => by cases he
  | n + 1 => crunStep_ok hE (crun_ok hE n)
end
end Go.Cv
namespace Go.Cv
open Go

/-- The same value with its memory under other names. -/
inductive RenV (ren : Nat → Nat) : CV → CV → Prop
  | undef : RenV ren .undef .undef
  | lit (v : Value) : RenV ren (.lit v) (.lit v)
  | ptr (b g off : Nat) : RenV ren (.ptr b g off) (.ptr (ren b) g off)
  | iptr {cs cs' : List CV} (off : Nat) (hl : cs.length = cs'.length) (hc : ∀ (i : Nat) (c c' : CV), cs[i]? = some c → cs'[i]? = some c' → RenV ren c c') : RenV ren (.iptr cs off) (.iptr cs' off)
  | sl (b g off len sz : Nat) : RenV ren (.sl b g off len sz) (.sl (ren b) g off len sz)
  | isl {cs cs' : List CV} (len sz : Nat) (hl : cs.length = cs'.length) (hc : ∀ (i : Nat) (c c' : CV), cs[i]? = some c → cs'[i]? = some c' → RenV ren c c') : RenV ren (.isl cs len sz) (.isl cs' len sz)
  | agg {cs cs' : List CV} (hl : cs.length = cs'.length) (hc : ∀ (i : Nat) (c c' : CV), cs[i]? = some c → cs'[i]? = some c' → RenV ren c c') : RenV ren (.agg cs) (.agg cs')
  | tup {cs cs' : List CV} (hl : cs.length = cs'.length) (hc : ∀ (i : Nat) (c c' : CV), cs[i]? = some c → cs'[i]? = some c' → RenV ren c c') : RenV ren (.tup cs) (.tup cs')
  | fn {xs xs' ys ys' : List CV} (f : Fn) (hl : xs.length = xs'.length) (hx : ∀ (i : Nat) (c c' : CV), xs[i]? = some c → xs'[i]? = some c' → RenV ren c c')
      (hm : ys.length = ys'.length) (hy : ∀ (i : Nat) (c c' : CV), ys[i]? = some c → ys'[i]? = some c' → RenV ren c c') : RenV ren (.fn f xs ys) (.fn f xs' ys')
  | ifc {c c' : CV} (t : TypeId) (hc : RenV ren c c') : RenV ren (.ifc t c) (.ifc t c')
  | mp (b g : Nat) : RenV ren (.mp b g) (.mp (ren b) g)

inductive RenO (ren : Nat → Nat) : Out → Out → Prop
  | ret {c c' : CV} (h : RenV ren c c') : RenO ren (.ret c) (.ret c')
  | pan {c c' : CV} (h : RenV ren c c') : RenO ren (.pan c) (.pan c')

structure RenB (ren : Nat → Nat) (k k' : Blk) : Prop where
  gen : k.gen = k'.gen
  len : k.cells.length = k'.cells.length
  cells : ∀ (i : Nat) (c c' : CV), k.cells[i]? = some c → k'.cells[i]? = some c' → RenV ren c c'
  map : (k.map = none ∧ k'.map = none) ∨ ∃ l l', k.map = some l ∧ k'.map = some l' ∧ l.length = l'.length ∧ ∀ (i : Nat) (p p' : CV × CV), l[i]? = some p → l'[i]? = some p' → RenV ren p.1 p'.1 ∧ RenV ren p.2 p'.2

section
variable {D : Nat → Prop} {h : Heap} {β : Nat → Option Nat} {I : Nat → Prop} {w : World} {P : Program} {ren : Nat → Nat}

theorem get_other {α : Type} {l : List α} {l' : List α} (hl : l.length = l'.length) {i : Nat} {c : α} (hi : l[i]? = some c) : ∃ c', l'[i]? = some c' := by
  have h1 : i < l.length := by
    rcases Nat.lt_or_ge i l.length with h | h
    · exact h
    · rw [List.getElem?_eq_none h] at hi; cases hi
  exact ⟨l'[i]'(by omega), List.getElem?_eq_getElem _⟩

/-- From the renamed to the first. -/
theorem SimV.back {D0 : Nat → Prop} {h0 : Heap} {β0 : Nat → Option Nat} (hD : ∀ a, D (ren a) → D0 a) (hg : ∀ a k, D (ren a) → hget h0 a = some k → ∃ k', hget h (ren a) = some k' ∧ k.gen = k'.gen)
    (hβ : ∀ a rb, D (ren a) → β (ren a) = some rb → β0 a = some rb) {c' : CV} {v : Value} (hs : SimV D h β I w c' v) : ∀ {c : CV}, RenV ren c c' → SimV D0 h0 β0 I w c v := by
  induction hs with
  | undef v => intro c hr; cases hr; exact .undef v
  | lit v => intro c hr; cases hr; exact .lit v
  | ptrNo hd hn =>
    intro c hr; cases hr
    refine .ptrNo (hD _ hd) fun k hk => ?_
    obtain ⟨k', h1, h2⟩ := hg _ k hd hk
    rw [h2]; exact hn k' h1
  | ptr hd hgn hb =>
    intro c hr; cases hr
    refine .ptr (hD _ hd) (fun k hk => ?_) (hβ _ _ hd hb)
    obtain ⟨k', h1, h2⟩ := hg _ k hd hk
    rw [h2]; exact hgn k' h1
  | slNo hd hn =>
    intro c hr; cases hr
    refine .slNo (hD _ hd) fun k hk => ?_
    obtain ⟨k', h1, h2⟩ := hg _ k hd hk
    rw [h2]; exact hn k' h1
  | sl hd hgn hb hc hl hs ho =>
    intro c hr; cases hr
    refine .sl (hD _ hd) (fun k hk => ?_) (hβ _ _ hd hb) hc hl hs ho
    obtain ⟨k', h1, h2⟩ := hg _ k hd hk
    rw [h2]; exact hgn k' h1
  | @iptr cells off blk o vs hI hc h1 hv ih =>
    intro c hr
    cases hr with
    | iptr _ hl hcc =>
      refine .iptr (vs := vs) hI (fun i c hi => ?_) (fun i c hi => ?_) (fun i c hi => ?_)
      · obtain ⟨c', hc'⟩ := get_other hl hi; exact hc i c' hc'
      · obtain ⟨c', hc'⟩ := get_other hl hi; exact h1 i c' hc'
      · obtain ⟨c', hc'⟩ := get_other hl hi; exact ih i c' hc' (hcc i c c' hi hc')
  | @isl cells len sz blk o cap vs hI hc h1 hv hlc ih =>
    intro c hr
    cases hr with
    | isl _ _ hl hcc =>
      refine .isl (vs := vs) hI (fun i c hi => ?_) (fun i c hi => ?_) (fun i c hi => ?_) hlc
      · obtain ⟨c', hc'⟩ := get_other hl hi; exact hc i c' hc'
      · obtain ⟨c', hc'⟩ := get_other hl hi; exact h1 i c' hc'
      · obtain ⟨c', hc'⟩ := get_other hl hi; exact ih i c' hc' (hcc i c c' hi hc')
  | agg hl hv ih =>
    intro c hr
    cases hr with
    | agg hl2 hcc =>
      refine .agg (by omega) fun i c hi => ?_
      obtain ⟨c', hc'⟩ := get_other hl2 hi; exact ih i c' hc' (hcc i c c' hi hc')
  | tup hl hv ih =>
    intro c hr
    cases hr with
    | tup hl2 hcc =>
      refine .tup (by omega) fun i c hi => ?_
      obtain ⟨c', hc'⟩ := get_other hl2 hi; exact ih i c' hc' (hcc i c c' hi hc')
  | fn hl hx hm hy ih1 ih2 =>
    intro c hr
    cases hr with
    | fn _ hl2 hx2 hm2 hy2 =>
      refine .fn (by omega) (fun i c hi => ?_) (by omega) fun i c hi => ?_
      · obtain ⟨c', hc'⟩ := get_other hl2 hi; exact ih1 i c' hc' (hx2 i c c' hi hc')
      · obtain ⟨c', hc'⟩ := get_other hm2 hi; exact ih2 i c' hc' (hy2 i c c' hi hc')
  | ifc _ ih => intro c hr; cases hr with | ifc _ hc => exact .ifc (ih hc)
  | mpNo hd hn =>
    intro c hr; cases hr
    refine .mpNo (hD _ hd) fun k hk => ?_
    obtain ⟨k', h1, h2⟩ := hg _ k hd hk
    rw [h2]; exact hn k' h1
  | mp hd hgn hb =>
    intro c hr; cases hr
    refine .mp (hD _ hd) (fun k hk => ?_) (hβ _ _ hd hb)
    obtain ⟨k', h1, h2⟩ := hg _ k hd hk
    rw [h2]; exact hgn k' h1

/-- From the first to the renamed. -/
theorem SimV.forth {D' : Nat → Prop} {h' : Heap} {β' : Nat → Option Nat} (hD : ∀ a, D a → D' (ren a)) (hg : ∀ a k', D a → hget h' (ren a) = some k' → ∃ k, hget h a = some k ∧ k.gen = k'.gen)
    (hβ : ∀ a rb, D a → β a = some rb → β' (ren a) = some rb) {c : CV} {v : Value} (hs : SimV D h β I w c v) : ∀ {c' : CV}, RenV ren c c' → SimV D' h' β' I w c' v := by
  induction hs with
  | undef v => intro c hr; cases hr; exact .undef v
  | lit v => intro c hr; cases hr; exact .lit v
  | ptrNo hd hn =>
    intro c hr; cases hr
    refine .ptrNo (hD _ hd) fun k hk => ?_
    obtain ⟨k', h1, h2⟩ := hg _ k hd hk
    rw [← h2]; exact hn k' h1
  | ptr hd hgn hb =>
    intro c hr; cases hr
    refine .ptr (hD _ hd) (fun k hk => ?_) (hβ _ _ hd hb)
    obtain ⟨k', h1, h2⟩ := hg _ k hd hk
    rw [← h2]; exact hgn k' h1
  | slNo hd hn =>
    intro c hr; cases hr
    refine .slNo (hD _ hd) fun k hk => ?_
    obtain ⟨k', h1, h2⟩ := hg _ k hd hk
    rw [← h2]; exact hn k' h1
  | sl hd hgn hb hc hl hs ho =>
    intro c hr; cases hr
    refine .sl (hD _ hd) (fun k hk => ?_) (hβ _ _ hd hb) hc hl hs ho
    obtain ⟨k', h1, h2⟩ := hg _ k hd hk
    rw [← h2]; exact hgn k' h1
  | @iptr cells off blk o vs hI hc h1 hv ih =>
    intro c hr
    cases hr with
    | iptr _ hl hcc =>
      refine .iptr (vs := vs) hI (fun i c hi => ?_) (fun i c hi => ?_) (fun i c hi => ?_)
      · obtain ⟨c', hc'⟩ := get_other hl.symm hi; exact hc i c' hc'
      · obtain ⟨c', hc'⟩ := get_other hl.symm hi; exact h1 i c' hc'
      · obtain ⟨c', hc'⟩ := get_other hl.symm hi; exact ih i c' hc' (hcc i c' c hc' hi)
  | @isl cells len sz blk o cap vs hI hc h1 hv hlc ih =>
    intro c hr
    cases hr with
    | isl _ _ hl hcc =>
      refine .isl (vs := vs) hI (fun i c hi => ?_) (fun i c hi => ?_) (fun i c hi => ?_) hlc
      · obtain ⟨c', hc'⟩ := get_other hl.symm hi; exact hc i c' hc'
      · obtain ⟨c', hc'⟩ := get_other hl.symm hi; exact h1 i c' hc'
      · obtain ⟨c', hc'⟩ := get_other hl.symm hi; exact ih i c' hc' (hcc i c' c hc' hi)
  | agg hl hv ih =>
    intro c hr
    cases hr with
    | agg hl2 hcc =>
      refine .agg (by omega) fun i c hi => ?_
      obtain ⟨c', hc'⟩ := get_other hl2.symm hi; exact ih i c' hc' (hcc i c' c hc' hi)
  | tup hl hv ih =>
    intro c hr
    cases hr with
    | tup hl2 hcc =>
      refine .tup (by omega) fun i c hi => ?_
      obtain ⟨c', hc'⟩ := get_other hl2.symm hi; exact ih i c' hc' (hcc i c' c hc' hi)
  | fn hl hx hm hy ih1 ih2 =>
    intro c hr
    cases hr with
    | fn _ hl2 hx2 hm2 hy2 =>
      refine .fn (by omega) (fun i c hi => ?_) (by omega) fun i c hi => ?_
      · obtain ⟨c', hc'⟩ := get_other hl2.symm hi; exact ih1 i c' hc' (hx2 i c' c hc' hi)
      · obtain ⟨c', hc'⟩ := get_other hm2.symm hi; exact ih2 i c' hc' (hy2 i c' c hc' hi)
  | ifc _ ih => intro c hr; cases hr with | ifc _ hc => exact .ifc (ih hc)
  | mpNo hd hn =>
    intro c hr; cases hr
    refine .mpNo (hD _ hd) fun k hk => ?_
    obtain ⟨k', h1, h2⟩ := hg _ k hd hk
    rw [← h2]; exact hn k' h1
  | mp hd hgn hb =>
    intro c hr; cases hr
    refine .mp (hD _ hd) (fun k hk => ?_) (hβ _ _ hd hb)
    obtain ⟨k', h1, h2⟩ := hg _ k hd hk
    rw [← h2]; exact hgn k' h1

/-- A heap and a larger one, where the first lies under other names. -/
def HIn (ren : Nat → Nat) (n : Nat) (h0 h : Heap) : Prop :=
  ∀ a, a < n → (hget h0 a = none ∧ hget h (ren a) = none) ∨ ∃ k k', hget h0 a = some k ∧ hget h (ren a) = some k' ∧ RenB ren k k'

theorem HIn.some {n : Nat} {h0 : Heap} (hi : HIn ren n h0 h) {a : Nat} (ha : a < n) {k : Blk} (hk : hget h0 a = some k) : ∃ k', hget h (ren a) = Option.some k' ∧ RenB ren k k' := by
  rcases hi a ha with ⟨h1, _⟩ | ⟨k1, k', h1, h2, h3⟩
  · rw [hk] at h1; cases h1
  · rw [hk] at h1; cases h1; exact ⟨k', h2, h3⟩
theorem HIn.back {n : Nat} {h0 : Heap} (hi : HIn ren n h0 h) {a : Nat} (ha : a < n) {k' : Blk} (hk : hget h (ren a) = Option.some k') : ∃ k, hget h0 a = Option.some k ∧ RenB ren k k' := by
  rcases hi a ha with ⟨_, h1⟩ | ⟨k, k1, h1, h2, h3⟩
  · rw [hk] at h1; cases h1
  · rw [hk] at h2; cases h2; exact ⟨k, h1, h3⟩

open Classical in
theorem frame_core {n0 n1 nx nx' : Nat} {h0 h1 h' : Heap} {o o' : Out} (hn01 : n0 ≤ n1)
    (hinj : ∀ a b, a < n1 → b < n1 → ren a = ren b → a = b) (hhi : ∀ a, n0 ≤ a → nx ≤ ren a) (hup : ∀ a, a < n1 → ren a < nx')
    (hin : HIn ren n0 h0 h) (hd0 : ∀ a k, hget h0 a = some k → a < n0) (hout : HIn ren n1 h1 h')
    (hrest : ∀ b, (∀ a, a < n1 → ren a ≠ b) → hget h' b = hget h b) (hro : RenO ren o o') (hD : ∀ n, D n → n < nx) (hS : Sim D h β I w) :
    (∀ n, D (ren n) → n < n0) ∧ Sim (fun a => D (ren a)) h0 (fun a => β (ren a)) I w ∧ (∀ {c c' : CV} {v : Value}, SimV D h β I w c' v → RenV ren c c' → SimV (fun a => D (ren a)) h0 (fun a => β (ren a)) I w c v) ∧
    ∀ (e : Ending) (w' : World) (β1 : Nat → Option Nat) (I1 : Nat → Prop), Sim (Dx (fun a => D (ren a)) n0 n1) h1 β1 I1 w' → OutR (Dx (fun a => D (ren a)) n0 n1) h1 β1 I1 w' o e → Ext (fun a => D (ren a)) h0 (fun a => β (ren a)) I w h1 β1 I1 w' →
      ∃ β' I', Sim (Dx D nx nx') h' β' I' w' ∧ OutR (Dx D nx nx') h' β' I' w' o' e ∧ Ext D h β I w h' β' I' w' := by
  let D0 : Nat → Prop := fun a => D (ren a)
  let β0 : Nat → Option Nat := fun a => β (ren a)
  have hD0 : ∀ a, D0 a → a < n0 := fun a ha => by
    have h1 := hD _ ha
    rcases Nat.lt_or_ge a n0 with h2 | h2
    · exact h2
    · have := hhi a h2; omega
  have hgb : ∀ a k, D (ren a) → hget h0 a = some k → ∃ k', hget h (ren a) = some k' ∧ k.gen = k'.gen := fun a k ha hk => by
    obtain ⟨k', q1, q2⟩ := hin.some (hd0 a k hk) hk
    exact ⟨k', q1, q2.gen⟩
  have hgf : ∀ a k', D (ren a) → hget h (ren a) = some k' → ∃ k, hget h0 a = some k ∧ k.gen = k'.gen := fun a k' ha hk => by
    obtain ⟨k, q1, q2⟩ := hin.back (hD0 a ha) hk
    exact ⟨k, q1, q2.gen⟩
  have back : ∀ {c c' : CV} {v : Value}, SimV D h β I w c' v → RenV ren c c' → SimV D0 h0 β0 I w c v := fun hs hr => hs.back (fun _ h => h) hgb (fun _ _ _ h => h) hr
  have hne0 : ∀ a, hget h0 a ≠ none → hget h (ren a) ≠ none := fun a ha => by
    cases e : hget h0 a with
    | none => exact absurd e ha
    | some k => obtain ⟨k', q1, _⟩ := hin.some (hd0 a k e) e; rw [q1]; simp
  have blkB : ∀ {k k' : Blk} {rb : Nat}, BlkR D h β I w k' rb → RenB ren k k' → BlkR D0 h0 β0 I w k rb := fun {k k' rb} hb hr => by
    refine ⟨fun hm => ?_, fun l hm => ?_⟩
    · have hm' : k'.map = none := by
        rcases hr.map with ⟨_, e⟩ | ⟨l, l', e, _⟩
        · exact e
        · rw [hm] at e; cases e
      obtain ⟨c, e, q1, q2, q3⟩ := hb.cell hm'
      refine ⟨c, e, q1, by rw [hr.len]; exact q2, fun i cv hi => ?_⟩
      obtain ⟨c', hc'⟩ := get_other hr.len hi
      exact ⟨(q3 i c' hc').1, back (q3 i c' hc').2 (hr.cells i cv c' hi hc')⟩
    · rcases hr.map with ⟨e, _⟩ | ⟨l0, l', e, e', hl, hp⟩
      · rw [hm] at e; cases e
      · rw [hm] at e; cases e
        obtain ⟨es, cl, q1, q2, q3⟩ := hb.mapp l' e'
        refine ⟨es, cl, q1, by omega, fun i p en hi he => ?_⟩
        obtain ⟨p', hp'⟩ := get_other hl hi
        have q := q3 i p' en hp' he
        exact ⟨back q.1 (hp i p p' hi hp').1, back q.2 (hp i p p' hi hp').2⟩
  have hS0 : Sim D0 h0 β0 I w := by
    refine ⟨fun a k hk => ?_, fun a k rb hk hb => ?_, fun a b rb ha hb h1 h2 => ?_, fun a rb ha h1 => hS.noI (ren a) rb (hne0 a ha) h1, hS.ilt⟩
    · obtain ⟨k', q1, _⟩ := hin.some (hd0 a k hk) hk
      exact hS.dom _ k' q1
    · obtain ⟨k', q1, q2⟩ := hin.some (hd0 a k hk) hk
      exact blkB (hS.blk _ k' rb q1 hb) q2
    · have e := hS.inj (ren a) (ren b) rb (hne0 a ha) (hne0 b hb) h1 h2
      have la : a < n0 := by
        cases e : hget h0 a with
        | none => exact absurd e ha
        | some k => exact hd0 a k e
      have lb : b < n0 := by
        cases e : hget h0 b with
        | none => exact absurd e hb
        | some k => exact hd0 b k e
      exact hinj a b (by omega) (by omega) e
  refine ⟨hD0, hS0, fun hs hr => back hs hr, fun e w' β1 I1 S1 O1 X1 => ?_⟩
  let D1 : Nat → Prop := Dx D0 n0 n1
  have hD1 : ∀ a, D1 a → a < n1 := fun a ha => by
    rcases ha with h1 | h1
    · have := hD0 a h1; omega
    · exact h1.2
  let β' : Nat → Option Nat := fun b => if hb : ∃ a, ren a = b ∧ D1 a then β1 hb.choose else β b
  have hβ' : ∀ a, D1 a → β' (ren a) = β1 a := fun a ha => by
    have hb : ∃ a', ren a' = ren a ∧ D1 a' := ⟨a, rfl, ha⟩
    have e : hb.choose = a := hinj _ _ (hD1 _ hb.choose_spec.2) (hD1 a ha) hb.choose_spec.1
    simp only [β', dif_pos hb, e]
  have hβ'' : ∀ b, (∀ a, D1 a → ren a ≠ b) → β' b = β b := fun b hb => by
    have : ¬ ∃ a, ren a = b ∧ D1 a := fun ⟨a, e, ha⟩ => hb a ha e
    simp only [β', dif_neg this]
  let D' : Nat → Prop := Dx D nx nx'
  have hDD : ∀ a, D1 a → D' (ren a) := fun a ha => by
    rcases ha with h1 | h1
    · exact .inl h1
    · exact .inr ⟨hhi a h1.1, hup a h1.2⟩
  have hg1 : ∀ a k', D1 a → hget h' (ren a) = some k' → ∃ k, hget h1 a = some k ∧ k.gen = k'.gen := fun a k' ha hk => by
    obtain ⟨k, q1, q2⟩ := hout.back (hD1 a ha) hk
    exact ⟨k, q1, q2.gen⟩
  have forth : ∀ {c c' : CV} {v : Value}, SimV D1 h1 β1 I1 w' c v → RenV ren c c' → SimV D' h' β' I1 w' c' v := fun hs hr => hs.forth hDD hg1 (fun a rb ha hb => by rw [hβ' a ha]; exact hb) hr
  -- blocks beside
  have img : ∀ b, hget h' b ≠ none → (∃ a, a < n1 ∧ ren a = b ∧ D1 a ∧ hget h1 a ≠ none) ∨ ((∀ a, a < n1 → ren a ≠ b) ∧ hget h b ≠ none) := fun b hb => by
    by_cases hx : ∃ a, a < n1 ∧ ren a = b
    · obtain ⟨a, ha, rfl⟩ := hx
      cases e : hget h' (ren a) with
      | none => exact absurd e hb
      | some k' =>
        obtain ⟨k, q1, _⟩ := hout.back ha e
        exact .inl ⟨a, ha, rfl, S1.dom a k q1, by rw [q1]; simp⟩
    · have hno : ∀ a, a < n1 → ren a ≠ b := fun a ha e => hx ⟨a, ha, e⟩
      exact .inr ⟨hno, by rw [← hrest b hno]; exact hb⟩
  have besideβ : ∀ b, (∀ a, a < n1 → ren a ≠ b) → β' b = β b := fun b hb => hβ'' b fun a ha => hb a (hD1 a ha)
  have keepW : ∀ b rb, (∀ a, a < n1 → ren a ≠ b) → hget h b ≠ none → β b = some rb → w'.heap[rb]? = w.heap[rb]? ∧ rb < w.heap.size := fun b rb hb hbn hbb => by
    have hlt : rb < w.heap.size := by
      cases e : hget h b with
      | none => exact absurd e hbn
      | some k => exact (hS.blk b k rb e hbb).lt
    refine ⟨X1.keep rb hlt fun a ha e => ?_, hlt⟩
    have := hS.inj (ren a) b rb (hne0 a ha) hbn e hbb
    refine hb a ?_ this
    cases e2 : hget h0 a with
    | none => exact absurd e2 ha
    | some k => have := hd0 a k e2; omega
  have hpres : Pres D h β I w h' β' I1 w' := by
    refine ⟨X1.pres.imono, X1.pres.isame, fun b k' hb hk => ?_⟩
    by_cases hx : ∃ a, a < n1 ∧ ren a = b
    · obtain ⟨a, ha, rfl⟩ := hx
      obtain ⟨k, q1, q2⟩ := hout.back ha hk
      have hD0a : D0 a := hb
      obtain ⟨k0, p1, p2, p3⟩ := X1.pres.blk a k hD0a q1
      obtain ⟨k0', r1, r2⟩ := hin.some (hD0 a hD0a) p1
      refine ⟨k0', r1, by rw [← r2.gen, ← q2.gen]; exact p2, fun e => ?_⟩
      obtain ⟨s1, s2⟩ := p3 (by rw [q2.gen, r2.gen]; exact e)
      exact ⟨by rw [hβ' a (.inl hD0a)]; exact s1, s2⟩
    · have hno : ∀ a, a < n1 → ren a ≠ b := fun a ha e => hx ⟨a, ha, e⟩
      have hk2 : hget h b = some k' := by rw [← hrest b hno]; exact hk
      refine ⟨k', hk2, Nat.le_refl _, fun _ => ⟨besideβ b hno, fun rb c e hbb hc => ⟨c, ?_, Nat.le_refl _⟩⟩⟩
      rw [(keepW b rb hno (by rw [hk2]; simp) hbb).1]; exact hc
  have blkF : ∀ {k k' : Blk} {rb : Nat}, BlkR D1 h1 β1 I1 w' k rb → RenB ren k k' → BlkR D' h' β' I1 w' k' rb := fun {k k' rb} hb hr => by
    refine ⟨fun hm => ?_, fun l' hm => ?_⟩
    · have hm' : k.map = none := by
        rcases hr.map with ⟨e, _⟩ | ⟨l, l', _, e, _⟩
        · exact e
        · rw [hm] at e; cases e
      obtain ⟨c, e, q1, q2, q3⟩ := hb.cell hm'
      refine ⟨c, e, q1, by rw [← hr.len]; exact q2, fun i cv hi => ?_⟩
      obtain ⟨c0, hc0⟩ := get_other hr.len.symm hi
      exact ⟨(q3 i c0 hc0).1, forth (q3 i c0 hc0).2 (hr.cells i c0 cv hc0 hi)⟩
    · rcases hr.map with ⟨_, e⟩ | ⟨l, l0', e, e', hl, hp⟩
      · rw [hm] at e; cases e
      · rw [hm] at e'; cases e'
        obtain ⟨es, cl, q1, q2, q3⟩ := hb.mapp l e
        refine ⟨es, cl, q1, by omega, fun i p' en hi he => ?_⟩
        obtain ⟨p, hp'⟩ := get_other hl.symm hi
        have q := q3 i p en hp' he
        exact ⟨forth q.1 (hp i p p' hp' hi).1, forth q.2 (hp i p p' hp' hi).2⟩
  have hsim : Sim D' h' β' I1 w' := by
    refine ⟨fun b k hk => ?_, fun b k' rb hk hb => ?_, fun b c rb hb hc h2 h3 => ?_, fun b rb hb h2 h3 => ?_, S1.ilt⟩
    · rcases img b (by rw [hk]; simp) with ⟨a, ha, rfl, hda, _⟩ | ⟨hno, hbn⟩
      · exact hDD a hda
      · exact .inl (hS.dom b k (by rw [← hrest b hno]; exact hk))
    · rcases img b (by rw [hk]; simp) with ⟨a, ha, rfl, hda, _⟩ | ⟨hno, hbn⟩
      · obtain ⟨k, q1, q2⟩ := hout.back ha hk
        rw [hβ' a hda] at hb
        exact blkF (S1.blk a k rb q1 hb) q2
      · have hk2 : hget h b = some k' := by rw [← hrest b hno]; exact hk
        rw [besideβ b hno] at hb
        exact (hS.blk b k' rb hk2 hb).mono (fun _ h => .inl h) hpres (keepW b rb hno hbn hb).1
    · rcases img b hb with ⟨a, ha, rfl, hda, han⟩ | ⟨hno, hbn⟩
      · rw [hβ' a hda] at h2
        rcases img c hc with ⟨a2, ha2, rfl, hda2, han2⟩ | ⟨hno2, hbn2⟩
        · rw [hβ' a2 hda2] at h3
          rw [S1.inj a a2 rb han han2 h2 h3]
        · rw [besideβ c hno2] at h3
          exfalso
          rcases X1.new a rb han h2 with h4 | ⟨m, h4, h5⟩
          · have := (keepW c rb hno2 hbn2 h3).2; omega
          · have e := hS.inj (ren m) c rb (hne0 m h4) hbn2 h5 h3
            refine hno2 m ?_ e
            cases e2 : hget h0 m with
            | none => exact absurd e2 h4
            | some k => have := hd0 m k e2; omega
      · rw [besideβ b hno] at h2
        rcases img c hc with ⟨a2, ha2, rfl, hda2, han2⟩ | ⟨hno2, hbn2⟩
        · rw [hβ' a2 hda2] at h3
          exfalso
          rcases X1.new a2 rb han2 h3 with h4 | ⟨m, h4, h5⟩
          · have := (keepW b rb hno hbn h2).2; omega
          · have e := hS.inj (ren m) b rb (hne0 m h4) hbn h5 h2
            refine hno m ?_ e
            cases e2 : hget h0 m with
            | none => exact absurd e2 h4
            | some k => have := hd0 m k e2; omega
        · rw [besideβ c hno2] at h3
          exact hS.inj b c rb hbn hbn2 h2 h3
    · rcases img b hb with ⟨a, ha, rfl, hda, han⟩ | ⟨hno, hbn⟩
      · rw [hβ' a hda] at h2
        exact S1.noI a rb han h2 h3
      · rw [besideβ b hno] at h2
        rcases X1.inew rb h3 with h4 | h4 | ⟨m, h4, h5⟩
        · exact hS.noI b rb hbn h2 h4
        · have := (keepW b rb hno hbn h2).2; omega
        · have e := hS.inj (ren m) b rb (hne0 m h4) hbn h5 h2
          refine hno m ?_ e
          cases e2 : hget h0 m with
          | none => exact absurd e2 h4
          | some k => have := hd0 m k e2; omega
  refine ⟨β', I1, hsim, ?_, ⟨hpres, X1.os, X1.tape, X1.output, X1.size, fun rb hrb hno => X1.keep rb hrb fun a ha => hno (ren a) (hne0 a ha), fun b rb hb h2 => ?_, fun b hb => ?_, fun b hb hbn => ?_⟩⟩
  · cases hro with
    | ret hr => obtain ⟨v, e1, e2⟩ := O1; exact ⟨v, e1, forth e2 hr⟩
    | pan hr => obtain ⟨v, e1, e2⟩ := O1; exact ⟨v, e1, forth e2 hr⟩
  · rcases img b hb with ⟨a, ha, rfl, hda, han⟩ | ⟨hno, hbn⟩
    · rw [hβ' a hda] at h2
      rcases X1.new a rb han h2 with h4 | ⟨m, h4, h5⟩
      · exact .inl h4
      · exact .inr ⟨ren m, hne0 m h4, h5⟩
    · rw [besideβ b hno] at h2
      exact .inr ⟨b, hbn, h2⟩
  · rcases X1.inew b hb with h4 | h4 | ⟨m, h4, h5⟩
    · exact .inl h4
    · exact .inr (.inl h4)
    · exact .inr (.inr ⟨ren m, hne0 m h4, h5⟩)
  · by_cases hx : ∃ a, ren a = b ∧ D1 a
    · obtain ⟨a, rfl, ha⟩ := hx
      have hD0a : D0 a := hb
      rw [hβ' a ha]
      refine X1.same a hD0a ?_
      rcases hin a (hD0 a hD0a) with ⟨e, _⟩ | ⟨k, k', _, e, _⟩
      · exact e
      · rw [hbn] at e; cases e
    · exact hβ'' b fun a ha e => hx ⟨a, e, ha⟩

theorem Good.frame {f : FuncId} {args args' : List CV} {n0 n1 nx nx' : Nat} {h0 h1 h' : Heap} {o o' : Out} (hG : Good P f args n0 h0 o n1 h1)
    (hinj : ∀ a b, a < n1 → b < n1 → ren a = ren b → a = b) (hlo : ∀ a, a < n0 → ren a < nx) (hhi : ∀ a, n0 ≤ a → nx ≤ ren a) (hup : ∀ a, a < n1 → ren a < nx') (hnx : nx ≤ nx')
    (hin : HIn ren n0 h0 h) (hd0 : ∀ a k, hget h0 a = some k → a < n0) (hout : HIn ren n1 h1 h') (hd1 : ∀ a k, hget h1 a = some k → a < n1)
    (hrest : ∀ b, (∀ a, a < n1 → ren a ≠ b) → hget h' b = hget h b)
    (hargs : args.length = args'.length) (hra : ∀ (i : Nat) (c c' : CV), args[i]? = some c → args'[i]? = some c' → RenV ren c c') (hro : RenO ren o o') : Good P f args' nx h o' nx' h' := by
  obtain ⟨hn01, hcf, hG⟩ := hG
  refine ⟨hnx, hcf, fun D β I w vs hD hS hsz hv => ?_⟩
  obtain ⟨c1, c2, c3, c4⟩ := frame_core hn01 hinj hhi hup hin hd0 hout hrest hro hD hS
  refine (hG _ _ I w vs c1 c2 (by omega) fun i c hi => ?_).mono ?_
  · obtain ⟨c', hc'⟩ := get_other hargs hi
    exact c3 (hv i c' hc') (hra i c c' hi hc')
  · rintro e w' ⟨β1, I1, S1, O1, X1⟩
    exact c4 e w' β1 I1 S1 O1 X1
end
end Go.Cv
namespace Go.Cv
open Go

section
variable {P : Program} {E : Env}

/-- A value with no memory of ours in it, under any names. -/
theorem low_ren {ren : Nat → Nat} : ∀ {c : CV}, Low 0 c → RenV ren c c := by
  intro c hl
  induction hl with
  | undef => exact .undef
  | lit v => exact .lit v
  | ptr hb => omega
  | sl hb => omega
  | mp hb => omega
  | iptr hc ih => exact .iptr _ rfl fun i c c' h1 h2 => by rw [h1] at h2; cases h2; exact ih c (List.mem_of_getElem? h1)
  | isl hc ih => exact .isl _ _ rfl fun i c c' h1 h2 => by rw [h1] at h2; cases h2; exact ih c (List.mem_of_getElem? h1)
  | agg hc ih => exact .agg rfl fun i c c' h1 h2 => by rw [h1] at h2; cases h2; exact ih c (List.mem_of_getElem? h1)
  | tup hc ih => exact .tup rfl fun i c c' h1 h2 => by rw [h1] at h2; cases h2; exact ih c (List.mem_of_getElem? h1)
  | fn hx hy ih1 ih2 => exact .fn _ rfl (fun i c c' h1 h2 => by rw [h1] at h2; cases h2; exact ih1 c (List.mem_of_getElem? h1)) rfl fun i c c' h1 h2 => by rw [h1] at h2; cases h2; exact ih2 c (List.mem_of_getElem? h1)
  | ifc hc ih => exact .ifc _ ih

/-- What is done beside nothing is done beside anything. -/
theorem Good.lift0 {f : FuncId} {args : List CV} {r : CV} (hG : Good P f args 0 [] (.ret r) 0 []) (ha : ∀ c ∈ args, Low 0 c) (hr : Low 0 r) (nx : Nat) (h : Heap) : Good P f args nx h (.ret r) nx h :=
  hG.frame (ren := fun a => nx + a) (fun a b ha hb => by omega) (fun a ha => by omega) (fun a _ => Nat.le_add_right nx a) (fun a ha => by omega) (Nat.le_refl _)
    (fun a ha => by omega) (fun a k hk => by cases hk) (fun a ha => by omega) (fun a k hk => by cases hk) (fun _ _ => rfl) rfl
    (fun i c c' h1 h2 => by rw [h1] at h2; cases h2; exact low_ren (ha c (List.mem_of_getElem? h1))) (.ret (low_ren hr))

/-- A run of a function beside nothing, by itself: what it hands back, without memory of ours. -/
def runPure (P : Program) (E : Env) (n : Nat) (f : FuncId) (args : List CV) : Option CV :=
  match allB (closedB 0 60) args with
  | true => match callRun P E (crun P E n) f args 0 [] ⟨[], [], []⟩ with
    | some (.ret r, _, h, _, A) => match A.L with
      | [] => match frzV 0 h 60 r with
        | some r' => match closedB 0 60 r' with
          | true => some r'
          | false => none
        | none => none
      | _ => none
    | _ => none
  | false => none

theorem runPure_ok (hE : EnvOk P E) {n : Nat} {f : FuncId} {args : List CV} {r : CV} (h : runPure P E n f args = some r) (nx : Nat) (hp : Heap) : Good P f args nx hp (.ret r) nx hp := by
  unfold runPure at h
  split at h
  · rename_i hc
    split at h
    · rename_i r0 nx' h' wr A hcall
      split at h
      · rename_i hL
        split at h
        · rename_i r' hf
          split at h
          · rename_i hcl
            cases h
            obtain ⟨_, _, h3⟩ := callRun_ok hE (crun_ok hE n) hcall
            obtain ⟨hG, _⟩ := h3 (by rw [hL]; intro p hp; cases hp)
            obtain ⟨f1, f2⟩ := frzV_ok _ _ _ hf
            exact (hG.pure (o := .ret r) (fun n hn => by omega) f1 f2).lift0 (fun c hm => closedB_ok _ _ (allB_spec hc c hm)) f2 nx hp
          · cases h
        · cases h
      · cases h
    · cases h
  · cases h
end
end Go.Cv
namespace Go.Cv
open Go

section
variable {P : Program} {E : Env}

theorem Good.drop {f : FuncId} {args : List CV} {nx nx' nx2 : Nat} {h h' h2 : Heap} {o : Out} (hG : Good P f args nx h o nx' h') (hs : SubH h2 h') (hx : nx' ≤ nx2) : Good P f args nx h o nx2 h2 := by
  obtain ⟨h1, hcf, hG⟩ := hG
  refine ⟨by omega, hcf, fun D β I w vs hD hS hsz hv => (hG D β I w vs hD hS hsz hv).mono ?_⟩
  rintro e w' ⟨β', I', s1, s2, s3⟩
  have hDD : ∀ n, Dx D nx nx' n → Dx D nx nx2 n := fun n hn => by
    rcases hn with h | h
    · exact .inl h
    · exact .inr ⟨h.1, by omega⟩
  exact ⟨β', I', (sim_less hs s1).more hDD, s2.mono hDD (pres_less hs), s3.trans (fun n hn => (.inl hn : Dx D nx nx' n)) (ext_sub hs)⟩

def pickH (h : Heap) : List Nat → Heap
  | [] => []
  | n :: l => match hget h n with
    | some k => (n, k) :: pickH h l
    | none => pickH h l
theorem pickH_sub (h : Heap) : ∀ (l : List Nat), SubH (pickH h l) h
  | [], n, k, hk => by cases hk
  | m :: l, n, k, hk => by
    unfold pickH at hk
    split at hk
    · rename_i k' e
      rw [hget_cons] at hk
      split at hk
      · rename_i e2; cases hk; rw [e2]; exact e
      · exact pickH_sub h l n k hk
    · exact pickH_sub h l n k hk

/-- A run, by the kernel: what it ends with, what is kept of the heap, what it supposes. -/
def callSel (P : Program) (E : Env) (n : Nat) (f : FuncId) (args : List CV) (nx : Nat) (h : Heap) (orc : List Bool) (ids : List Nat) : Option (Out × Nat × Heap × List (Bool × Bool)) :=
  match callRun P E (crun P E n) f args nx h ⟨orc, [], []⟩ with
  | some (o, nx', h', _, A) => some (o, nx', pickH h' ids, A.L)
  | none => none

theorem callSel_ok (hE : EnvOk P E) {n : Nat} {f : FuncId} {args : List CV} {nx : Nat} {h : Heap} {orc : List Bool} {ids : List Nat} {o : Out} {nx' : Nat} {h' : Heap} {L : List (Bool × Bool)}
    (he : callSel P E n f args nx h orc ids = some (o, nx', h', L)) (hL : ∀ p ∈ L, p.1 = p.2) : Good P f args nx h o nx' h' := by
  unfold callSel at he
  split at he
  · rename_i o1 nx1 h1 wr A hcall
    cases he
    obtain ⟨_, _, h3⟩ := callRun_ok hE (crun_ok hE n) hcall
    exact (h3 hL).1.drop (pickH_sub _ _) (Nat.le_refl _)
  · cases he

/-- What is new goes, but what is told of blocks that were there. -/
theorem Good.low {f : FuncId} {args : List CV} {nx nx' : Nat} {h h' h2 : Heap} {o0 o : Out} (hG : Good P f args nx h o0 nx' h')
    (hh : ∀ n k, hget h2 n = some k → n < nx ∧ hget h' n = some k ∧ (hget h n = some k ∨ (k.map = none ∧ ∀ c ∈ k.cells, Low nx c)))
    (hfr : OutFrz h' (fun n => nx ≤ n) o0 o) (hcl : LowO nx o) : Good P f args nx h o nx h2 := by
  obtain ⟨hx0, hcf, hG⟩ := hG
  refine ⟨Nat.le_refl _, hcf, fun D β I w vs hD hS hsz hv => ?_⟩
  refine (hG D β I w vs hD hS hsz hv).mono ?_
  rintro e w' ⟨β', I', sim, hor, ext⟩
  have hhf : HFrz h' h2 (fun n => nx ≤ n) := ⟨fun n k hk => by
    obtain ⟨h1, h3, _⟩ := hh n k hk
    exact ⟨by omega, k, h3, KFrz.refl ..⟩⟩
  obtain ⟨s1, s2⟩ := hfrz_sim hhf sim
  have hx := ext.trans (fun n hn => (.inl hn : Dx D nx nx' n)) s2
  have hov := outFrz_real sim (fun _ h => h) (hfrz_pres hhf) hfr hor
  have low : ∀ n, Dx D nx nx' n → n < nx → Dx D nx nx n := fun n h1 h2 => by
    rcases h1 with h1 | h1
    · exact .inl h1
    · omega
  refine ⟨β', IFrz h' β' I' (fun n => nx ≤ n), ⟨fun n k hk => low n (s1.dom n k hk) (hh n k hk).1, fun n k rb hk hbb => ?_, s1.inj, s1.noI, s1.ilt⟩, ?_, hx⟩
  · have b1 := s1.blk n k rb hk hbb
    obtain ⟨hn, hk', hcase⟩ := hh n k hk
    rcases hcase with hold | ⟨hm, hlow⟩
    · have hdn := hS.dom n k hold
      obtain ⟨kk, g1, g2, g3⟩ := hx.pres.blk n k hdn hk
      rw [hold] at g1; cases g1
      have hb0 : β n = some rb := by rw [← (g3 rfl).1]; exact hbb
      have b0 := hS.blk n k rb hold hb0
      have key : ∀ {c : CV} {v0 v : Value}, SimV D h β I w c v0 → SimV (Dx D nx nx') h2 β' (IFrz h' β' I' (fun n => nx ≤ n)) w' c v → SimV (Dx D nx nx) h2 β' (IFrz h' β' I' (fun n => nx ≤ n)) w' c v := fun h0 h1 =>
        ((h0.restrict _ h1).mono (fun _ h => .inl h) (Pres.refl ..))
      refine ⟨fun hm => ?_, fun l hm => ?_⟩
      · obtain ⟨c1, e1, k1, k2, k3⟩ := b1.cell hm
        obtain ⟨c2, e2, m1, m2, m3⟩ := b0.cell hm
        exact ⟨c1, e1, k1, k2, fun i cv hi => ⟨(k3 i cv hi).1, key (m3 i cv hi).2 (k3 i cv hi).2⟩⟩
      · obtain ⟨es1, cl1, k1, k2, k3⟩ := b1.mapp l hm
        obtain ⟨es2, cl2, m1, m2, m3⟩ := b0.mapp l hm
        refine ⟨es1, cl1, k1, k2, fun i p e hi he => ?_⟩
        have hi2 : i < es2.size := by
          rcases Nat.lt_or_ge i l.length with h5 | h5
          · omega
          · rw [List.getElem?_eq_none h5] at hi; cases hi
        have m4 := m3 i p _ hi (Array.getElem?_eq_getElem hi2)
        exact ⟨key m4.1 (k3 i p e hi he).1, key m4.2 (k3 i p e hi he).2⟩
    · refine ⟨fun _ => ?_, fun l hm2 => by rw [hm] at hm2; cases hm2⟩
      obtain ⟨c1, e1, k1, k2, k3⟩ := b1.cell hm
      exact ⟨c1, e1, k1, k2, fun i cv hi => ⟨(k3 i cv hi).1, Low.simv low (k3 i cv hi).2 (hlow cv (List.mem_of_getElem? hi))⟩⟩
  · cases o with
    | ret r => obtain ⟨v, e1, e2⟩ := hov; exact ⟨v, e1, Low.simv low e2 hcl⟩
    | pan r => obtain ⟨v, e1, e2⟩ := hov; exact ⟨v, e1, Low.simv low e2 hcl⟩
end
end Go.Cv
namespace Go.Cv
open Go

section
variable {P : Program} {E : Env}

theorem GoodK.drop {f : FuncId} {fn : Func} {K : List Item} {st : St} {nx' nx2 : Nat} {h' h2 : Heap} {o : Out} (hG : GoodK P f fn K st o nx' h') (hs : SubH h2 h') (hx : nx' ≤ nx2) : GoodK P f fn K st o nx2 h2 := by
  obtain ⟨h1, hG⟩ := hG
  refine ⟨by omega, fun D β I w a hD hS hF hd => (hG D β I w a hD hS hF hd).mono ?_⟩
  rintro e w' ⟨β', I', s1, s2, s3⟩
  have hDD : ∀ n, Dx D st.nx nx' n → Dx D st.nx nx2 n := fun n hn => by
    rcases hn with h | h
    · exact .inl h
    · exact .inr ⟨h.1, by omega⟩
  exact ⟨β', I', (sim_less hs s1).more hDD, s2.mono hDD (pres_less hs), s3.trans (fun n hn => (.inl hn : Dx D st.nx nx' n)) (ext_sub hs)⟩

/-- The rest's contract holds wherever its memory lies, whatever else lies beside it. -/
theorem GoodK.frame {ren : Nat → Nat} {f : FuncId} {fn : Func} {K : List Item} {fr0 fr : Fr} {n0 n1 nx nx' : Nat} {h0 h1 h h' : Heap} {o o' : Out} (hG : GoodK P f fn K ⟨fr0, n0, h0⟩ o n1 h1)
    (hinj : ∀ a b, a < n1 → b < n1 → ren a = ren b → a = b) (hhi : ∀ a, n0 ≤ a → nx ≤ ren a) (hup : ∀ a, a < n1 → ren a < nx') (hnx : nx ≤ nx')
    (hin : HIn ren n0 h0 h) (hd0 : ∀ a k, hget h0 a = some k → a < n0) (hout : HIn ren n1 h1 h')
    (hrest : ∀ b, (∀ a, a < n1 → ren a ≠ b) → hget h' b = hget h b)
    (hfr : ∀ t, fget fr0 t = .undef ∨ RenV ren (fget fr0 t) (fget fr t)) (hro : RenO ren o o') : GoodK P f fn K ⟨fr, nx, h⟩ o' nx' h' := by
  obtain ⟨hn01, hG⟩ := hG
  refine ⟨hnx, fun D β I w a hD hS hF hd => ?_⟩
  obtain ⟨c1, c2, c3, c4⟩ := frame_core hn01 hinj hhi hup hin hd0 hout hrest hro hD hS
  refine (hG _ _ I w a c1 c2 ⟨hF.1, fun t => ?_⟩ hd).mono ?_
  · rcases hfr t with h1 | h1
    · simp only [h1]; exact .undef _
    · exact c3 (hF.2 t) h1
  · rintro e w' ⟨β1, I1, S1, O1, X1⟩
    exact c4 e w' β1 I1 S1 O1 X1

/-- Freezing: a contract may be said of an argument's memory that nobody writes any more. -/
theorem crunK_ok (hE : EnvOk P E) {n f N : Nat} {c : Conf} {orc : List Bool} {F : Fin} {A : Acc} (he : crun P E n f N c ⟨orc, [], []⟩ = some (F, A)) (hL : ∀ p ∈ A.L, p.1 = p.2) : Wp P N (fun F' => F' = F) c :=
  (crun_ok hE n _ _ _ _ _ _ he).wp hL
end
end Go.Cv
namespace Go.Cv
open Go

section
variable {P : Program} {E : Env}

theorem GoodK.less {f : FuncId} {fn : Func} {K : List Item} {st st' : St} {nx' : Nat} {h' : Heap} {o : Out} (hl : Less st' st) (hG : GoodK P f fn K st' o nx' h') : GoodK P f fn K st o nx' h' := by
  obtain ⟨h1, hG⟩ := hG
  have hlx := hl.nx
  refine ⟨by omega, fun D β I w a hD hS hF hd => ?_⟩
  have hpr : Pres D st.h β I w st'.h β I w := pres_less hl.h
  refine (hG D β I w a (fun n hn => Nat.lt_of_lt_of_le (hD n hn) hlx) (sim_less hl.h hS) (Less.simF hl.fr (hF.mono (fun _ h => h) hpr)) hd).mono ?_
  rintro e w' ⟨β', I', s1, s2, s3⟩
  have hDD : ∀ n, Dx D st'.nx nx' n → Dx D st.nx nx' n := fun n hn => by
    rcases hn with h | h
    · exact .inl h
    · exact .inr ⟨by omega, h.2⟩
  exact ⟨β', I', s1.more hDD, s2.mono hDD (Pres.refl ..), (ext_sub hl.h).trans (fun _ h => h) s3⟩

def pickFr (fr : Fr) : List Nat → Fr
  | [] => []
  | t :: ts => (t, fget fr t) :: pickFr fr ts
theorem pickFr_get (fr : Fr) : ∀ (ts : List Nat) (t : Nat), fget (pickFr fr ts) t = fget fr t ∨ fget (pickFr fr ts) t = .undef
  | [], t => .inr rfl
  | u :: ts, t => by
    simp only [pickFr, fget_cons]
    split
    · rename_i e; rw [e]; exact .inl rfl
    · exact pickFr_get fr ts t

/-- A run to a loop's head: what is kept. -/
def headSel (r : Option (Fin × Acc)) (ts ids : List Nat) : Option (List Item × Fr × Nat × Heap × List (Bool × Bool)) :=
  match r with
  | some (.at K st, A) => some (K, pickFr st.fr ts, st.nx, pickH st.h ids, A.L)
  | _ => none
/-- A run to a function's end: what is kept. -/
def endSel (P : Program) (fn : Func) (r : Option (Fin × Acc)) (ids : List Nat) : Option (Out × Nat × Heap × List (Bool × Bool)) :=
  match r with
  | some (F, A) => match outOf P fn F with
    | some o => some (o, F.nx, pickH F.h ids, A.L)
    | none => none
  | none => none

theorem head_ok (hE : EnvOk P E) {n f' : Nat} {f : FuncId} {fn : Func} {K K' : List Item} {st : St} {orc : List Bool} {ts ids : List Nat} {fr1 : Fr} {nx1 : Nat} {h1 : Heap} {L : List (Bool × Bool)} {o : Out} {nx' : Nat} {h' : Heap}
    (he : headSel (crun P E n f' fn.ntmps (.run K st) ⟨orc, [], []⟩) ts ids = some (K', fr1, nx1, h1, L)) (hL : ∀ p ∈ L, p.1 = p.2) (hg : GoodK P f fn K' ⟨fr1, nx1, h1⟩ o nx' h') : GoodK P f fn K st o nx' h' := by
  unfold headSel at he
  split at he
  · rename_i K2 st2 A hr
    cases he
    exact goodK_comp hE.mix (crunK_ok hE hr hL) (GoodK.less (st' := ⟨pickFr st2.fr ts, st2.nx, pickH st2.h ids⟩) ⟨Nat.le_refl _, pickFr_get _ _, fun n k hk => pickH_sub _ _ n k hk⟩ hg)
  · cases he

theorem end_ok (hE : EnvOk P E) {n f' : Nat} {f : FuncId} {fn : Func} {K : List Item} {st : St} {orc : List Bool} {ids : List Nat} {o : Out} {nx1 : Nat} {h1 : Heap} {L : List (Bool × Bool)} (hf : P.funcs[f]? = some fn)
    (he : endSel P fn (crun P E n f' fn.ntmps (.run K st) ⟨orc, [], []⟩) ids = some (o, nx1, h1, L)) (hL : ∀ p ∈ L, p.1 = p.2) : GoodK P f fn K st o nx1 h1 := by
  unfold endSel at he
  split at he
  · rename_i F A hr
    split at he
    · rename_i o2 ho
      cases he
      exact (goodK_of_wp hE.mix hf (crunK_ok hE hr hL) (outOf_ok ho)).drop (pickH_sub _ _) (Nat.le_refl _)
    · cases he
  · cases he

/-! ### Renaming, by lists -/
inductive RenL (ren : Nat → Nat) : List CV → List CV → Prop
  | nil : RenL ren [] []
  | cons {c c' : CV} {cs cs' : List CV} (h : RenV ren c c') (t : RenL ren cs cs') : RenL ren (c :: cs) (c' :: cs')
theorem RenL.len {ren : Nat → Nat} : ∀ {cs cs' : List CV}, RenL ren cs cs' → cs.length = cs'.length
  | _, _, .nil => rfl
  | _, _, .cons _ t => by simp [t.len]
theorem RenL.get {ren : Nat → Nat} : ∀ {cs cs' : List CV}, RenL ren cs cs' → ∀ (i : Nat) (c c' : CV), cs[i]? = some c → cs'[i]? = some c' → RenV ren c c'
  | _, _, .nil, i, c, c', h, _ => by simp at h
  | _, _, .cons h t, 0, c, c', h1, h2 => by simp at h1 h2; subst h1; subst h2; exact h
  | _, _, .cons h t, i + 1, c, c', h1, h2 => t.get i c c' (by simpa using h1) (by simpa using h2)
theorem RenV.aggL {ren : Nat → Nat} {cs cs' : List CV} (h : RenL ren cs cs') : RenV ren (.agg cs) (.agg cs') := .agg h.len h.get
theorem RenV.tupL {ren : Nat → Nat} {cs cs' : List CV} (h : RenL ren cs cs') : RenV ren (.tup cs) (.tup cs') := .tup h.len h.get
theorem RenV.islL {ren : Nat → Nat} {cs cs' : List CV} {l s : Nat} (h : RenL ren cs cs') : RenV ren (.isl cs l s) (.isl cs' l s) := .isl l s h.len h.get
theorem RenB.ofL {ren : Nat → Nat} {g : Nat} {cs cs' : List CV} (h : RenL ren cs cs') : RenB ren ⟨g, cs, none⟩ ⟨g, cs', none⟩ := ⟨rfl, h.len, h.get, .inl ⟨rfl, rfl⟩⟩

/-- The heap's blocks one by one. -/
def HL (ren : Nat → Nat) (h0 h : Heap) : Nat → Prop
  | 0 => True
  | n + 1 => HL ren h0 h n ∧ ((hget h0 n = none ∧ hget h (ren n) = none) ∨ ∃ k k', hget h0 n = some k ∧ hget h (ren n) = some k' ∧ RenB ren k k')
theorem HL.hin {ren : Nat → Nat} {h0 h : Heap} : ∀ {n : Nat}, HL ren h0 h n → HIn ren n h0 h
  | 0, _ => fun a ha => by omega
  | n + 1, ⟨h1, h2⟩ => fun a ha => by
    by_cases e : a = n
    · subst e; exact h2
    · exact h1.hin a (by omega)

/-- New names: of those below n0 by a list, of the others behind nx. -/
def renOf (l : List Nat) (n0 nx : Nat) (a : Nat) : Nat := match Nat.ble n0 a with
  | true => nx + (a - n0)
  | false => l.getD a 0
theorem renOf_hi (l : List Nat) (n0 nx a : Nat) (h : n0 ≤ a) : renOf l n0 nx a = nx + (a - n0) := by
  unfold renOf; rw [Nat.ble_eq_true_of_le h]
theorem renOf_lo (l : List Nat) (n0 nx a : Nat) (h : a < n0) : renOf l n0 nx a = l.getD a 0 := by
  unfold renOf
  cases e : Nat.ble n0 a with
  | true => have := Nat.le_of_ble_eq_true e; omega
  | false => rfl
theorem renOf_facts {l : List Nat} {n0 nx : Nat} (hlen : l.length = n0) (hlt : l.all (fun x => Nat.ble (x + 1) nx) = true) (hnd : l.Nodup) :
    (∀ a b, renOf l n0 nx a = renOf l n0 nx b → a = b) ∧ (∀ a, n0 ≤ a → nx ≤ renOf l n0 nx a) ∧ ∀ a, a < n0 → renOf l n0 nx a < nx := by
  have lt : ∀ a, a < n0 → renOf l n0 nx a < nx := fun a ha => by
    rw [renOf_lo _ _ _ _ ha]
    have hm : l.getD a 0 ∈ l := by
      rw [List.getD_eq_getElem?_getD, List.getElem?_eq_getElem (by omega)]
      exact List.getElem_mem _
    have := List.all_eq_true.1 hlt _ hm
    exact Nat.le_of_ble_eq_true this
  refine ⟨fun a b h => ?_, fun a ha => by rw [renOf_hi _ _ _ _ ha]; exact Nat.le_add_right _ _, lt⟩
  rcases Nat.lt_or_ge a n0 with ha | ha
  · rcases Nat.lt_or_ge b n0 with hb | hb
    · rw [renOf_lo _ _ _ _ ha, renOf_lo _ _ _ _ hb] at h
      rw [List.getD_eq_getElem?_getD, List.getD_eq_getElem?_getD, List.getElem?_eq_getElem (by omega), List.getElem?_eq_getElem (by omega)] at h
      exact (List.getElem_inj hnd).1 h
    · have h1 := lt a ha
      rw [h, renOf_hi _ _ _ _ hb] at h1
      omega
  · rcases Nat.lt_or_ge b n0 with hb | hb
    · have h1 := lt b hb
      rw [← h, renOf_hi _ _ _ _ ha] at h1
      omega
    · rw [renOf_hi _ _ _ _ ha, renOf_hi _ _ _ _ hb] at h
      omega

inductive RenFr (ren : Nat → Nat) : Fr → Fr → Prop
  | nil : RenFr ren [] []
  | cons {t : Nat} {c c' : CV} {fr fr' : Fr} (h : RenV ren c c') (tl : RenFr ren fr fr') : RenFr ren ((t, c) :: fr) ((t, c') :: fr')
theorem RenFr.get {ren : Nat → Nat} : ∀ {fr fr' : Fr}, RenFr ren fr fr' → ∀ t, fget fr t = .undef ∨ RenV ren (fget fr t) (fget fr' t)
  | _, _, .nil, t => .inl rfl
  | _, _, .cons h tl, t => by
    simp only [fget_cons]
    split
    · exact .inr h
    · exact tl.get t

def domB (h : Heap) (n : Nat) : Bool := h.all fun p => Nat.ble (p.1 + 1) n
theorem hget_mem {h : Heap} {n : Nat} {k : Blk} (hk : hget h n = some k) : (n, k) ∈ h := by
  induction h with
  | nil => cases hk
  | cons p h ih =>
    obtain ⟨m, c⟩ := p
    rw [hget_cons] at hk
    split at hk
    · rename_i e; cases hk; subst e; exact List.mem_cons_self ..
    · exact List.mem_cons_of_mem _ (ih hk)
theorem domB_ok {h : Heap} {n : Nat} (hd : domB h n = true) : ∀ a k, hget h a = some k → a < n := fun a k hk =>
  Nat.le_of_ble_eq_true (List.all_eq_true.1 hd _ (hget_mem hk))
def idsB (h : Heap) (l : List Nat) : Bool := h.all fun p => l.contains p.1
theorem idsB_ok {h : Heap} {l : List Nat} (hd : idsB h l = true) : ∀ a k, hget h a = some k → a ∈ l := fun a k hk => by
  have := List.all_eq_true.1 hd _ (hget_mem hk)
  simpa using this

/-- The rest's contract, moved. -/
theorem GoodK.shift {f : FuncId} {fn : Func} {K : List Item} {fr fr' : Fr} {n0 n1 nx1 : Nat} {h0 hb h1 h' : Heap} {o o' : Out} (hG : GoodK P f fn K ⟨fr, n0, h0⟩ o n1 h1) (l : List Nat) (hlen : l.length = n0)
    (hlt : l.all (fun x => Nat.ble (x + 1) nx1) = true) (hnd : l.Nodup) (hin : HL (renOf l n0 nx1) h0 hb n0) (hd0 : domB h0 n0 = true) (hids : idsB hb l = true) (hfr : RenFr (renOf l n0 nx1) fr fr')
    (hro : RenO (renOf l n0 nx1) o o') (hout : HIn (renOf l n0 nx1) n1 h1 h') (hin' : ∀ b k, hget h' b = some k → ∃ a, a < n1 ∧ renOf l n0 nx1 a = b) : GoodK P f fn K ⟨fr', nx1, hb⟩ o' (nx1 + (n1 - n0)) h' := by
  have hn01 : n0 ≤ n1 := hG.1
  obtain ⟨r1, r2, r3⟩ := renOf_facts hlen hlt hnd
  refine hG.frame (fun a b _ _ h => r1 a b h) r2 (fun a ha => ?_) (by omega) hin.hin (domB_ok hd0) hout (fun b hb2 => ?_) hfr.get hro
  · rcases Nat.lt_or_ge a n0 with h2 | h2
    · have := r3 a h2; omega
    · rw [renOf_hi _ _ _ _ h2]; omega
  · have e1 : hget h' b = none := by
      cases e : hget h' b with
      | none => rfl
      | some k =>
        obtain ⟨a, ha, e2⟩ := hin' b k e
        exact absurd e2 (hb2 a ha)
    have e2 : hget hb b = none := by
      cases e : hget hb b with
      | none => rfl
      | some k =>
        have hm := idsB_ok hids b k e
        obtain ⟨i, hi, he⟩ := List.getElem_of_mem hm
        refine absurd ?_ (hb2 i (by omega))
        rw [renOf_lo _ _ _ _ (by omega), List.getD_eq_getElem?_getD, List.getElem?_eq_getElem hi]
        exact he
    rw [e1, e2]

/-- Heaps of one block, of two. -/
theorem hin_one {ren : Nat → Nat} {n a0 : Nat} {k k' : Blk} (hinj : ∀ a b, ren a = ren b → a = b) (hk : RenB ren k k') : HIn ren n [(a0, k)] [(ren a0, k')] := fun a _ => by
  by_cases e : a = a0
  · subst e; exact .inr ⟨k, k', by simp [hget], by simp [hget], hk⟩
  · refine .inl ⟨by simp [hget, e], ?_⟩
    have : ren a ≠ ren a0 := fun h => e (hinj _ _ h)
    simp [hget, this]
theorem hin_two {ren : Nat → Nat} {n a0 a1 : Nat} {k0 k0' k1 k1' : Blk} (hinj : ∀ a b, ren a = ren b → a = b) (h0 : RenB ren k0 k0') (h1 : RenB ren k1 k1') : HIn ren n [(a0, k0), (a1, k1)] [(ren a0, k0'), (ren a1, k1')] := fun a _ => by
  by_cases e : a = a0
  · subst e; exact .inr ⟨k0, k0', by simp [hget], by simp [hget], h0⟩
  · have n0 : ren a ≠ ren a0 := fun h => e (hinj _ _ h)
    by_cases e1 : a = a1
    · subst e1; exact .inr ⟨k1, k1', by simp [hget, e], by simp [hget, n0], h1⟩
    · have n1 : ren a ≠ ren a1 := fun h => e1 (hinj _ _ h)
      exact .inl ⟨by simp [hget, e, e1], by simp [hget, n0, n1]⟩
end
end Go.Cv
