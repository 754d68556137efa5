/-
  Loops from head to head; contracts found again.
-/
import Derived.Test.YtdincjlkfbeedaaGreatDoorK4
set_option linter.all false
namespace Go.Cv
open Go

def eqIK : IntKind → IntKind → Bool
  | .i8, .i8 => true | .i16, .i16 => true | .i32, .i32 => true | .i64, .i64 => true
  | .u8, .u8 => true | .u16, .u16 => true | .u32, .u32 => true | .u64, .u64 => true
  | _, _ => false
theorem eqIK_ok {a b : IntKind} (h : eqIK a b = true) : a = b := by cases a <;> cases b <;> first | rfl | cases h
def eqBs : List UInt8 → List UInt8 → Bool
  | [], [] => true
  | a :: l, b :: m => match Nat.beq a.toNat b.toNat with
    | true => eqBs l m
    | false => false
  | _, _ => false
theorem eqBs_ok : ∀ {l m : List UInt8}, eqBs l m = true → l = m
  | [], [], _ => rfl
  | a :: l, b :: m, h => by
    simp only [eqBs] at h
    split at h
    · rename_i e
      have e1 : a = b := UInt8.toNat_inj.1 (Nat.eq_of_beq_eq_true e)
      rw [e1, eqBs_ok h]
    · cases h
  | [], _ :: _, h => by cases h
  | _ :: _, [], h => by cases h

/-- Do two values say the same? What must be so. -/
def mVal : Value → Value → Option (List (Bool × Bool))
  | .int k n, .int k' n' => match eqIK k k' with
    | true => some [(decide (n = n'), true)]
    | false => none
  | .bool b, .bool b' => some [(b, b')]
  | .string s, .string s' => match eqBs s.data.toList s'.data.toList with
    | true => some []
    | false => none
  | .pointer none, .pointer none => some []
  | .slice none a b, .slice none a' b' => match Nat.beq a a' && Nat.beq b b' with
    | true => some []
    | false => none
  | .map none, .map none => some []
  | .chan none, .chan none => some []
  | .nilFunc, .nilFunc => some []
  | .nilIface, .nilIface => some []
  | _, _ => none
theorem mVal_ok {v v' : Value} {L : List (Bool × Bool)} (h : mVal v v' = some L) (hL : ∀ p ∈ L, p.1 = p.2) : v = v' := by
  unfold mVal at h
  split at h
  · split at h
    · rename_i e
      cases h
      have h1 := hL _ (List.mem_cons_self ..)
      rw [eqIK_ok e, of_decide_eq_true h1]
    · cases h
  · cases h
    have h1 := hL _ (List.mem_cons_self ..)
    simp only at h1
    rw [h1]
  · split at h
    · rename_i s s' _ e
      have e1 := eqBs_ok e
      have e2 : s.data = s'.data := Array.ext' e1
      have e3 : s = s' := by cases s; cases s'; simp only at e2; rw [e2]
      rw [e3]
    · cases h
  · rfl
  · split at h
    · rename_i e
      simp only [Bool.and_eq_true] at e
      rw [Nat.eq_of_beq_eq_true e.1, Nat.eq_of_beq_eq_true e.2]
    · cases h
  · rfl
  · rfl
  · rfl
  · rfl
  · cases h

def appL (a b : Option (List (Bool × Bool))) : Option (List (Bool × Bool)) :=
  match a with
  | some x => match b with
    | some y => some (x ++ y)
    | none => none
  | none => none
theorem appL_ok {a b : Option (List (Bool × Bool))} {L : List (Bool × Bool)} (h : appL a b = some L) (hL : ∀ p ∈ L, p.1 = p.2) : ∃ x y, a = some x ∧ b = some y ∧ (∀ p ∈ x, p.1 = p.2) ∧ ∀ p ∈ y, p.1 = p.2 := by
  unfold appL at h
  split at h
  · split at h
    · cases h
      exact ⟨_, _, rfl, rfl, holds_head hL, holds_tail hL⟩
    · cases h
  · cases h

def mList (f : CV → CV → Option (List (Bool × Bool))) : List CV → List CV → Option (List (Bool × Bool))
  | [], [] => some []
  | c :: cs, d :: ds => appL (f c d) (mList f cs ds)
  | _, _ => none
theorem mList_ok {f : CV → CV → Option (List (Bool × Bool))} {R : CV → CV → Prop} (hf : ∀ c d L, f c d = some L → (∀ p ∈ L, p.1 = p.2) → R c d) : ∀ {cs ds : List CV} {L : List (Bool × Bool)}, mList f cs ds = some L → (∀ p ∈ L, p.1 = p.2) →
    cs.length = ds.length ∧ ∀ (i : Nat) (c d : CV), cs[i]? = some c → ds[i]? = some d → R c d
  | [], [], _, _, _ => ⟨rfl, fun i c d hi => by simp at hi⟩
  | c :: cs, d :: ds, L, h, hL => by
    obtain ⟨x, y, h1, h2, h3, h4⟩ := appL_ok h hL
    obtain ⟨k1, k2⟩ := mList_ok hf h2 h4
    refine ⟨by simp [k1], fun i c' d' hi hd => ?_⟩
    cases i with
    | zero => simp at hi hd; subst hi hd; exact hf _ _ _ h1 h3
    | succ i => simp at hi hd; exact k2 i c' d' hi hd
  | [], _ :: _, _, h, _ => by cases h
  | _ :: _, [], _, h, _ => by cases h

def eqTy (a b : TypeId) : Bool := Nat.beq a b
def mFn : Fn → Fn → Bool
  | .func a, .func b => Nat.beq a b
  | _, _ => false
theorem mFn_ok {a b : Fn} (h : mFn a b = true) : a = b := by
  unfold mFn at h
  split at h
  · rw [Nat.eq_of_beq_eq_true h]
  · cases h

def okL (b : Bool) : Option (List (Bool × Bool)) := match b with
  | true => some []
  | false => none

/-- Does a value of the template stand there, under the names? -/
def mCV (l : List Nat) (n0 : Nat) : Nat → CV → CV → Option (List (Bool × Bool))
  | 0, _, _ => none
  | n + 1, c, d => match c with
    | .undef => match d with
      | .undef => some []
      | _ => none
    | .lit v => match d with
      | .lit v' => mVal v v'
      | _ => none
    | .ptr b g o => match d with
      | .ptr b' g' o' => okL (Nat.ble (b + 1) n0 && Nat.beq (l.getD b 0) b' && Nat.beq g g' && Nat.beq o o')
      | _ => none
    | .sl b g o m s => match d with
      | .sl b' g' o' m' s' => okL (Nat.ble (b + 1) n0 && Nat.beq (l.getD b 0) b' && Nat.beq g g' && Nat.beq o o' && Nat.beq m m' && Nat.beq s s')
      | _ => none
    | .mp b g => match d with
      | .mp b' g' => okL (Nat.ble (b + 1) n0 && Nat.beq (l.getD b 0) b' && Nat.beq g g')
      | _ => none
    | .iptr cs o => match d with
      | .iptr ds o' => match Nat.beq o o' with
        | true => mList (mCV l n0 n) cs ds
        | false => none
      | _ => none
    | .isl cs m s => match d with
      | .isl ds m' s' => match Nat.beq m m' && Nat.beq s s' with
        | true => mList (mCV l n0 n) cs ds
        | false => none
      | _ => none
    | .agg cs => match d with
      | .agg ds => mList (mCV l n0 n) cs ds
      | _ => none
    | .tup cs => match d with
      | .tup ds => mList (mCV l n0 n) cs ds
      | _ => none
    | .fn f xs ys => match d with
      | .fn f' xs' ys' => match mFn f f' with
        | true => appL (mList (mCV l n0 n) xs xs') (mList (mCV l n0 n) ys ys')
        | false => none
      | _ => none
    | .ifc t c => match d with
      | .ifc t' c' => match eqTy t t' with
        | true => mCV l n0 n c c'
        | false => none
      | _ => none

theorem okL_ok {b : Bool} {L : List (Bool × Bool)} (h : okL b = some L) : b = true := by cases b <;> first | rfl | cases h

theorem mCV_ok {l : List Nat} {n0 nx : Nat} : ∀ (n : Nat) (c d : CV) (L : List (Bool × Bool)), mCV l n0 n c d = some L → (∀ p ∈ L, p.1 = p.2) → RenV (renOf l n0 nx) c d
  | 0, _, _, _, h, _ => by cases h
  | n + 1, c, d, L, h, hL => by
    have ih := mCV_ok (l := l) (n0 := n0) (nx := nx) n
    have lo : ∀ {b b' : Nat}, Nat.ble (b + 1) n0 = true → Nat.beq (l.getD b 0) b' = true → renOf l n0 nx b = b' := fun h1 h2 => by
      rw [renOf_lo _ _ _ _ (Nat.le_of_ble_eq_true h1)]; exact Nat.eq_of_beq_eq_true h2
    cases c with
    | undef => cases d <;> first | exact .undef | cases h
    | lit v => cases d <;> first | cases h; done | (rename_i v'; rw [mVal_ok h hL]; exact .lit _)
    | ptr b g o =>
      cases d <;> first | cases h; done | skip
      rename_i b' g' o'
      have := okL_ok h
      simp only [Bool.and_eq_true] at this
      obtain ⟨⟨⟨h1, h2⟩, h3⟩, h4⟩ := this
      have e1 := lo h1 h2
      have e3 := Nat.eq_of_beq_eq_true h3
      have e4 := Nat.eq_of_beq_eq_true h4
      subst e1 e3 e4
      exact .ptr ..
    | sl b g o m s =>
      cases d <;> first | cases h; done | skip
      rename_i b' g' o' m' s'
      have := okL_ok h
      simp only [Bool.and_eq_true] at this
      obtain ⟨⟨⟨⟨⟨h1, h2⟩, h3⟩, h4⟩, h5⟩, h6⟩ := this
      have e1 := lo h1 h2
      have e3 := Nat.eq_of_beq_eq_true h3
      have e4 := Nat.eq_of_beq_eq_true h4
      have e5 := Nat.eq_of_beq_eq_true h5
      have e6 := Nat.eq_of_beq_eq_true h6
      subst e1 e3 e4 e5 e6
      exact .sl ..
    | mp b g =>
      cases d <;> first | cases h; done | skip
      rename_i b' g'
      have := okL_ok h
      simp only [Bool.and_eq_true] at this
      obtain ⟨⟨h1, h2⟩, h3⟩ := this
      have e1 := lo h1 h2
      have e3 := Nat.eq_of_beq_eq_true h3
      subst e1 e3
      exact .mp ..
    | iptr cs o =>
      cases d <;> first | cases h; done | skip
      simp only [mCV] at h
      split at h
      · rename_i e
        have e1 := Nat.eq_of_beq_eq_true e
        subst e1
        obtain ⟨k1, k2⟩ := mList_ok ih h hL
        exact .iptr _ k1 k2
      · cases h
    | isl cs m s =>
      cases d <;> first | cases h; done | skip
      simp only [mCV] at h
      split at h
      · rename_i e
        simp only [Bool.and_eq_true] at e
        have e1 := Nat.eq_of_beq_eq_true e.1
        have e2 := Nat.eq_of_beq_eq_true e.2
        subst e1 e2
        obtain ⟨k1, k2⟩ := mList_ok ih h hL
        exact .isl _ _ k1 k2
      · cases h
    | agg cs =>
      cases d <;> first | cases h; done | skip
      obtain ⟨k1, k2⟩ := mList_ok ih h hL
      exact .agg k1 k2
    | tup cs =>
      cases d <;> first | cases h; done | skip
      obtain ⟨k1, k2⟩ := mList_ok ih h hL
      exact .tup k1 k2
    | fn f xs ys =>
      cases d <;> first | cases h; done | skip
      simp only [mCV] at h
      split at h
      · rename_i e
        have e1 := mFn_ok e
        subst e1
        obtain ⟨x, y, h1, h2, h3, h4⟩ := appL_ok h hL
        obtain ⟨k1, k2⟩ := mList_ok ih h1 h3
        obtain ⟨k3, k4⟩ := mList_ok ih h2 h4
        exact .fn _ k1 k2 k3 k4
      · cases h
    | ifc t c =>
      cases d <;> first | cases h; done | skip
      simp only [mCV] at h
      split at h
      · rename_i e
        have e1 : t = _ := Nat.eq_of_beq_eq_true e
        subst e1
        exact .ifc _ (ih _ _ _ h hL)
      · cases h

def mMap (l : List Nat) (n0 : Nat) : List (CV × CV) → List (CV × CV) → Option (List (Bool × Bool))
  | [], [] => some []
  | p :: m, q :: m' => appL (mCV l n0 60 p.1 q.1) (appL (mCV l n0 60 p.2 q.2) (mMap l n0 m m'))
  | _, _ => none
theorem mMap_ok {l : List Nat} {n0 nx : Nat} : ∀ {m m' : List (CV × CV)} {L : List (Bool × Bool)}, mMap l n0 m m' = some L → (∀ p ∈ L, p.1 = p.2) →
    m.length = m'.length ∧ ∀ (i : Nat) (p p' : CV × CV), m[i]? = some p → m'[i]? = some p' → RenV (renOf l n0 nx) p.1 p'.1 ∧ RenV (renOf l n0 nx) p.2 p'.2
  | [], [], _, _, _ => ⟨rfl, fun i p p' hi => by simp at hi⟩
  | p :: m, q :: m', L, h, hL => by
    obtain ⟨x, y, h1, h2, h3, h4⟩ := appL_ok h hL
    obtain ⟨x2, y2, h5, h6, h7, h8⟩ := appL_ok h2 h4
    obtain ⟨k1, k2⟩ := mMap_ok h6 h8
    refine ⟨by simp [k1], fun i c' d' hi hd => ?_⟩
    cases i with
    | zero => simp at hi hd; subst hi hd; exact ⟨mCV_ok _ _ _ _ h1 h3, mCV_ok _ _ _ _ h5 h7⟩
    | succ i => simp at hi hd; exact k2 i c' d' hi hd
  | [], _ :: _, _, h, _ => by cases h
  | _ :: _, [], _, h, _ => by cases h

def mBlk (l : List Nat) (n0 : Nat) (k k' : Blk) : Option (List (Bool × Bool)) :=
  match Nat.beq k.gen k'.gen with
  | true => match k.map with
    | none => match k'.map with
      | none => mList (mCV l n0 60) k.cells k'.cells
      | some _ => none
    | some m => match k'.map with
      | none => none
      | some m' => appL (mList (mCV l n0 60) k.cells k'.cells) (mMap l n0 m m')
  | false => none
theorem mBlk_ok {l : List Nat} {n0 nx : Nat} {k k' : Blk} {L : List (Bool × Bool)} (h : mBlk l n0 k k' = some L) (hL : ∀ p ∈ L, p.1 = p.2) : RenB (renOf l n0 nx) k k' := by
  unfold mBlk at h
  split at h
  · rename_i eg
    have eg := Nat.eq_of_beq_eq_true eg
    split at h
    · rename_i e1
      split at h
      · rename_i e2
        obtain ⟨k1, k2⟩ := mList_ok (R := RenV (renOf l n0 nx)) (fun c d L => mCV_ok 60 c d L) h hL
        exact ⟨eg, k1, k2, .inl ⟨e1, e2⟩⟩
      · cases h
    · rename_i m e1
      split at h
      · cases h
      · rename_i m' e2
        obtain ⟨x, y, h1, h2, h3, h4⟩ := appL_ok h hL
        obtain ⟨k1, k2⟩ := mList_ok (R := RenV (renOf l n0 nx)) (fun c d L => mCV_ok 60 c d L) h1 h3
        obtain ⟨k3, k4⟩ := mMap_ok (nx := nx) h2 h4
        exact ⟨eg, k1, k2, .inr ⟨m, m', e1, e2, k3, k4⟩⟩
  · cases h

/-- Do the blocks of the template stand there? -/
def mHeap (l : List Nat) (n0 : Nat) (h0 h : Heap) : Nat → Option (List (Bool × Bool))
  | 0 => some []
  | a + 1 => appL (match hget h0 a with
      | none => (match hget h (l.getD a 0) with
        | none => some []
        | some _ => none)
      | some k => (match hget h (l.getD a 0) with
        | none => none
        | some k' => mBlk l n0 k k')) (mHeap l n0 h0 h a)
theorem mHeap_ok {l : List Nat} {n0 nx : Nat} {h0 h : Heap} : ∀ {a : Nat} {L : List (Bool × Bool)}, a ≤ n0 → mHeap l n0 h0 h a = some L → (∀ p ∈ L, p.1 = p.2) → HIn (renOf l n0 nx) a h0 h
  | 0, _, _, _, _ => fun b hb => absurd hb (by omega)
  | a + 1, L, ha, hm, hL => by
    obtain ⟨x, y, h1, h2, h3, h4⟩ := appL_ok hm hL
    have ih := mHeap_ok (nx := nx) (by omega) h2 h4
    intro b hb
    by_cases e : b = a
    · subst e
      rw [renOf_lo _ _ _ _ (by omega)]
      split at h1
      · rename_i e1
        split at h1
        · rename_i e2; exact .inl ⟨e1, e2⟩
        · cases h1
      · rename_i k e1
        split at h1
        · cases h1
        · rename_i k' e2
          exact .inr ⟨k, k', e1, e2, mBlk_ok h1 h3⟩
    · exact ih b (by omega)

def mFr (l : List Nat) (n0 : Nat) : Fr → Fr → Option (List (Bool × Bool))
  | [], _ => some []
  | p :: fr0, fr => appL (mCV l n0 60 p.2 (fget fr p.1)) (mFr l n0 fr0 fr)
theorem mFr_ok {l : List Nat} {n0 nx : Nat} {fr : Fr} : ∀ {fr0 : Fr} {L : List (Bool × Bool)}, mFr l n0 fr0 fr = some L → (∀ p ∈ L, p.1 = p.2) → ∀ t, fget fr0 t = .undef ∨ RenV (renOf l n0 nx) (fget fr0 t) (fget fr t)
  | [], _, _, _ => fun t => .inl rfl
  | p :: fr0, L, h, hL => by
    obtain ⟨x, y, h1, h2, h3, h4⟩ := appL_ok h hL
    intro t
    obtain ⟨m, v⟩ := p
    rw [fget_cons]
    split
    · rename_i e; subst e; exact .inr (mCV_ok _ _ _ _ h1 h3)
    · exact mFr_ok h2 h4 t
end Go.Cv
namespace Go.Cv
open Go

section
variable {P : Program} {E : Env}

structure KLow (lo : Nat) (k : Blk) : Prop where
  cells : ∀ c ∈ k.cells, Low lo c
  map : ∀ m, k.map = some m → ∀ p ∈ m, Low lo p.1 ∧ Low lo p.2
def lowM (lo : Nat) : List (CV × CV) → Bool
  | [] => true
  | p :: m => closedB lo 60 p.1 && (closedB lo 60 p.2 && lowM lo m)
theorem lowM_ok {lo : Nat} : ∀ {m : List (CV × CV)}, lowM lo m = true → ∀ p ∈ m, Low lo p.1 ∧ Low lo p.2
  | [], _, p, hp => by cases hp
  | q :: m, h, p, hp => by
    simp only [lowM, Bool.and_eq_true] at h
    rcases List.mem_cons.1 hp with rfl | hp
    · exact ⟨closedB_ok _ _ h.1, closedB_ok _ _ h.2.1⟩
    · exact lowM_ok h.2.2 p hp
def lowKB (lo : Nat) (k : Blk) : Bool := allB (closedB lo 60) k.cells && (match k.map with
  | none => true
  | some m => lowM lo m)
theorem lowKB_ok {lo : Nat} {k : Blk} (h : lowKB lo k = true) : KLow lo k := by
  unfold lowKB at h
  simp only [Bool.and_eq_true] at h
  refine ⟨fun c hc => closedB_ok _ _ (allB_spec h.1 c hc), fun m hm => ?_⟩
  have h2 := h.2
  rw [hm] at h2
  exact lowM_ok h2

/-- What speaks of old memory alone. -/
structure Lows (lo : Nat) (o : Out) (h : Heap) : Prop where
  out : LowO lo o
  heap : ∀ n k, hget h n = some k → n < lo ∧ KLow lo k

theorem GoodK.low {lo : Nat} {f : FuncId} {fn : Func} {K : List Item} {st : St} {o0 o : Out} {nx1 : Nat} {h1 h2 : Heap} (hG : GoodK P f fn K st o0 nx1 h1) (hlo : lo ≤ st.nx)
    (hh : ∀ n k, hget h2 n = some k → hget h1 n = some k) (hfr : OutFrz h1 (fun n => lo ≤ n) o0 o) (hl : Lows lo o h2) : GoodK P f fn K st o st.nx h2 := by
  obtain ⟨hx0, hG⟩ := hG
  refine ⟨Nat.le_refl _, fun D β I w a hD hS hF hd => ?_⟩
  refine (hG D β I w a hD hS hF hd).mono ?_
  rintro e w' ⟨β', I', sim, hor, ext⟩
  have hhf : HFrz h1 h2 (fun n => lo ≤ n) := ⟨fun n k hk => ⟨by have := (hl.heap n k hk).1; omega, k, hh n k hk, KFrz.refl ..⟩⟩
  obtain ⟨s1, s2⟩ := hfrz_sim hhf sim
  have hx := ext.trans (fun n hn => (.inl hn : Dx D st.nx nx1 n)) s2
  have hov := outFrz_real sim (fun _ h => h) (hfrz_pres hhf) hfr hor
  have low : ∀ n, Dx D st.nx nx1 n → n < lo → Dx D st.nx st.nx n := fun n h1 h2 => by
    rcases h1 with h1 | h1
    · exact .inl h1
    · omega
  refine ⟨β', IFrz h1 β' I' (fun n => lo ≤ n), ⟨fun n k hk => low n (s1.dom n k hk) (hl.heap n k hk).1, fun n k rb hk hbb => ?_, s1.inj, s1.noI, s1.ilt⟩, ?_, hx⟩
  · have b1 := s1.blk n k rb hk hbb
    have hkl := (hl.heap n k hk).2
    refine ⟨fun hm => ?_, fun l hm => ?_⟩
    · obtain ⟨c1, e1, k1, k2, k3⟩ := b1.cell hm
      exact ⟨c1, e1, k1, k2, fun i cv hi => ⟨(k3 i cv hi).1, Low.simv low (k3 i cv hi).2 (hkl.cells cv (List.mem_of_getElem? hi))⟩⟩
    · obtain ⟨es1, cl1, k1, k2, k3⟩ := b1.mapp l hm
      refine ⟨es1, cl1, k1, k2, fun i p e hi he => ?_⟩
      have hp := hkl.map l hm p (List.mem_of_getElem? hi)
      exact ⟨Low.simv low (k3 i p e hi he).1 hp.1, Low.simv low (k3 i p e hi he).2 hp.2⟩
  · cases o with
    | ret r => obtain ⟨v, e1, e2⟩ := hov; exact ⟨v, e1, Low.simv low e2 hl.out⟩
    | pan r => obtain ⟨v, e1, e2⟩ := hov; exact ⟨v, e1, Low.simv low e2 hl.out⟩

/-- Names go down again. -/
theorem GoodK.down {lo : Nat} {f : FuncId} {fn : Func} {K : List Item} {st : St} {o : Out} {nx1 : Nat} {h2 : Heap} (hG : GoodK P f fn K st o nx1 h2) (hlo : lo ≤ st.nx) (hl : Lows lo o h2) : GoodK P f fn K st o st.nx h2 :=
  hG.low hlo (fun _ _ h => h) (OutFrz.refl ..) hl

theorem low_self {lo : Nat} {ren : Nat → Nat} (hs : ∀ a, a < lo → ren a = a) : ∀ {c : CV}, Low lo c → RenV ren c c := by
  intro c hl
  induction hl with
  | undef => exact .undef
  | lit v => exact .lit v
  | @ptr b g off hb => have := RenV.ptr (ren := ren) b g off; rwa [hs b hb] at this
  | @sl b g off len sz hb => have := RenV.sl (ren := ren) b g off len sz; rwa [hs b hb] at this
  | @mp b g hb => have := RenV.mp (ren := ren) b g; rwa [hs b hb] at this
  | iptr hc ih => exact .iptr _ rfl fun i c c' h1 h2 => by rw [h1] at h2; cases h2; exact ih c (List.mem_of_getElem? h1)
  | isl hc ih => exact .isl _ _ rfl fun i c c' h1 h2 => by rw [h1] at h2; cases h2; exact ih c (List.mem_of_getElem? h1)
  | agg hc ih => exact .agg rfl fun i c c' h1 h2 => by rw [h1] at h2; cases h2; exact ih c (List.mem_of_getElem? h1)
  | tup hc ih => exact .tup rfl fun i c c' h1 h2 => by rw [h1] at h2; cases h2; exact ih c (List.mem_of_getElem? h1)
  | fn hx hy ih1 ih2 => exact .fn _ rfl (fun i c c' h1 h2 => by rw [h1] at h2; cases h2; exact ih1 c (List.mem_of_getElem? h1)) rfl fun i c c' h1 h2 => by rw [h1] at h2; cases h2; exact ih2 c (List.mem_of_getElem? h1)
  | ifc hc ih => exact .ifc _ ih
theorem lowB_self {lo : Nat} {ren : Nat → Nat} (hs : ∀ a, a < lo → ren a = a) {k : Blk} (hk : KLow lo k) : RenB ren k k := by
  refine ⟨rfl, rfl, fun i c c' h1 h2 => by rw [h1] at h2; cases h2; exact low_self hs (hk.cells c (List.mem_of_getElem? h1)), ?_⟩
  cases e : k.map with
  | none => exact .inl ⟨rfl, rfl⟩
  | some m => exact .inr ⟨m, m, rfl, rfl, rfl, fun i p p' h1 h2 => by
      rw [h1] at h2; cases h2
      have := hk.map m e p (List.mem_of_getElem? h1)
      exact ⟨low_self hs this.1, low_self hs this.2⟩⟩

def nodupB : List Nat → Bool
  | [] => true
  | a :: l => (l.all fun b => match Nat.beq a b with
    | true => false
    | false => true) && nodupB l
theorem nodupB_ok : ∀ {l : List Nat}, nodupB l = true → l.Nodup
  | [], _ => List.nodup_nil
  | a :: l, h => by
    simp only [nodupB, Bool.and_eq_true] at h
    refine List.nodup_cons.2 ⟨fun hm => ?_, nodupB_ok h.2⟩
    have := List.all_eq_true.1 h.1 a hm
    simp at this
def selfB (l : List Nat) : Nat → Bool
  | 0 => true
  | a + 1 => Nat.beq (l.getD a 0) a && selfB l a
theorem selfB_ok {l : List Nat} : ∀ {n : Nat}, selfB l n = true → ∀ a, a < n → l.getD a 0 = a
  | 0, _, a, ha => by omega
  | n + 1, h, a, ha => by
    simp only [selfB, Bool.and_eq_true] at h
    by_cases e : a = n
    · subst e; exact Nat.eq_of_beq_eq_true h.1
    · exact selfB_ok h.2 a (by omega)

/-- From head to head: does the state that was come to fit the template? The stack that was come to, and what must be so. -/
def iterSel (lo n0 : Nat) (l : List Nat) (frT : Fr) (hT : Heap) (r : Option (Fin × Acc)) : Option (List Item × List (Bool × Bool)) :=
  match r with
  | some (.at K st, A) => match Nat.beq l.length n0 && (l.all (fun x => Nat.ble (x + 1) st.nx) && (nodupB l && (selfB l lo && (Nat.ble lo n0 && domB hT n0)))) with
    | true => match appL (mFr l n0 frT st.fr) (mHeap l n0 hT (pickH st.h l) n0) with
      | some L => some (K, L ++ A.L)
      | none => none
    | false => none
  | _ => none

theorem pickH_in (h : Heap) : ∀ (l : List Nat) (b : Nat), b ∉ l → hget (pickH h l) b = none
  | [], _, _ => rfl
  | a :: l, b, hb => by
    simp only [List.mem_cons, not_or] at hb
    unfold pickH
    split
    · rw [hget_cons, if_neg hb.1]; exact pickH_in h l b hb.2
    · exact pickH_in h l b hb.2

/-- The contract of the rest, from the template to the state that fits. -/
theorem GoodK.fit {lo n0 nx : Nat} {f : FuncId} {fn : Func} {K : List Item} {frT fr : Fr} {hT h h2 : Heap} {o : Out} (hG : GoodK P f fn K ⟨frT, n0, hT⟩ o n0 h2) (hl : Lows lo o h2) (l : List Nat) (hlen : l.length = n0)
    (hlt : l.all (fun x => Nat.ble (x + 1) nx) = true) (hnd : l.Nodup) (hself : selfB l lo = true) (hlo : lo ≤ n0) (hd0 : domB hT n0 = true) {L : List (Bool × Bool)}
    (hm : appL (mFr l n0 frT fr) (mHeap l n0 hT (pickH h l) n0) = some L) (hL : ∀ p ∈ L, p.1 = p.2) : GoodK P f fn K ⟨fr, nx, h⟩ o nx h2 := by
  obtain ⟨x, y, h1, h3, h4, h5⟩ := appL_ok hm hL
  obtain ⟨r1, r2, r3⟩ := renOf_facts hlen hlt hnd
  have hs : ∀ a, a < lo → renOf l n0 nx a = a := fun a ha => by rw [renOf_lo _ _ _ _ (by omega)]; exact selfB_ok hself a ha
  have hmem : ∀ a, a < n0 → renOf l n0 nx a ∈ l := fun a ha => by
    rw [renOf_lo _ _ _ _ ha, List.getD_eq_getElem?_getD, List.getElem?_eq_getElem (by omega)]
    exact List.getElem_mem _
  refine GoodK.less (st' := ⟨fr, nx, pickH h l⟩) ⟨Nat.le_refl _, fun _ => .inl rfl, fun n k hk => pickH_sub _ _ n k hk⟩ ?_
  refine hG.frame (fun a b _ _ h => r1 a b h) r2 (fun a ha => r3 a ha) (Nat.le_refl _) (mHeap_ok (Nat.le_refl _) h3 h5) (domB_ok hd0) (fun a ha => ?_) (fun b hb => ?_) (mFr_ok h1 h4) ?_
  · by_cases e : a < lo
    · rw [hs a e]
      cases e2 : hget h2 a with
      | none => exact .inl ⟨rfl, rfl⟩
      | some k => exact .inr ⟨k, k, rfl, rfl, lowB_self hs (hl.heap a k e2).2⟩
    · refine .inl ⟨?_, ?_⟩
      · cases e2 : hget h2 a with
        | none => rfl
        | some k => exact absurd (hl.heap a k e2).1 e
      · cases e2 : hget h2 (renOf l n0 nx a) with
        | none => rfl
        | some k =>
          have h6 := (hl.heap _ k e2).1
          have h7 := r1 (renOf l n0 nx a) a (hs _ h6)
          omega
  · have e1 : hget (pickH h l) b = none := pickH_in h l b fun hm => by
      obtain ⟨i, hi, he⟩ := List.getElem_of_mem hm
      refine hb i (by omega) ?_
      rw [renOf_lo _ _ _ _ (by omega), List.getD_eq_getElem?_getD, List.getElem?_eq_getElem hi]
      exact he
    rw [e1]
    cases e2 : hget h2 b with
    | none => rfl
    | some k =>
      have h6 := (hl.heap _ k e2).1
      exact absurd (hs b h6) (hb b (by omega))
  · have := hl.out
    cases o with
    | ret r => exact .ret (low_self hs this)
    | pan r => exact .pan (low_self hs this)

theorem iter_ok (hE : EnvOk P E) {n f' : Nat} {f : FuncId} {fn : Func} {K K' : List Item} {st : St} {orc : List Bool} {lo n0 : Nat} {l : List Nat} {frT : Fr} {hT : Heap} {L : List (Bool × Bool)} {o : Out} {h2 : Heap}
    (he : iterSel lo n0 l frT hT (crun P E n f' fn.ntmps (.run K st) ⟨orc, [], []⟩) = some (K', L)) (hL : ∀ p ∈ L, p.1 = p.2) (hlo : lo ≤ st.nx) (hl : Lows lo o h2) (hG : GoodK P f fn K' ⟨frT, n0, hT⟩ o n0 h2) : GoodK P f fn K st o st.nx h2 := by
  unfold iterSel at he
  split at he
  · rename_i K2 st2 A hr
    split at he
    · rename_i hc
      simp only [Bool.and_eq_true] at hc
      obtain ⟨c1, c2, c3, c4, c5, c6⟩ := hc
      split at he
      · rename_i L1 hm
        cases he
        have g1 := hG.fit hl l (Nat.eq_of_beq_eq_true c1) c2 (nodupB_ok c3) c4 (Nat.le_of_ble_eq_true c5) c6 hm (holds_head hL)
        exact (goodK_comp hE.mix (crunK_ok hE hr (holds_tail hL)) g1).down hlo hl
      · cases he
    · cases he
  · cases he

/-! ### Ends -/
def lowHeap (lo : Nat) (h : Heap) : List Nat → Option Heap
  | [] => some []
  | a :: l => match hget h a with
    | some k => match Nat.ble (a + 1) lo && lowKB lo k with
      | true => match lowHeap lo h l with
        | some r => some ((a, k) :: r)
        | none => none
      | false => none
    | none => none
theorem lowHeap_ok {lo : Nat} {h : Heap} : ∀ {l : List Nat} {h2 : Heap}, lowHeap lo h l = some h2 → ∀ n k, hget h2 n = some k → n < lo ∧ hget h n = some k ∧ KLow lo k
  | [], h2, he, n, k, hk => by cases he; cases hk
  | a :: l, h2, he, n, k, hk => by
    simp only [lowHeap] at he
    split at he
    · rename_i k1 e1
      split at he
      · rename_i hc
        simp only [Bool.and_eq_true] at hc
        split at he
        · rename_i r er
          cases he
          rw [hget_cons] at hk
          split at hk
          · rename_i e; subst e; cases hk
            exact ⟨Nat.le_of_ble_eq_true hc.1, e1, lowKB_ok hc.2⟩
          · exact lowHeap_ok er n k hk
        · cases he
      · cases he
    · cases he
def frzO (lo : Nat) (h : Heap) : Out → Option Out
  | .ret r => match frzV lo h 60 r with
    | some r' => some (.ret r')
    | none => none
  | .pan r => match frzV lo h 60 r with
    | some r' => some (.pan r')
    | none => none
theorem frzO_ok {lo : Nat} {h : Heap} {o0 o : Out} (he : frzO lo h o0 = some o) : OutFrz h (fun n => lo ≤ n) o0 o ∧ LowO lo o := by
  cases o0 <;> simp only [frzO] at he <;> split at he <;> first | cases he; done | skip
  · rename_i r' e; cases he; exact frzV_ok _ _ _ e
  · rename_i r' e; cases he; exact frzV_ok _ _ _ e

/-- A run to a function's end, told of old memory alone. -/
def endLow (P : Program) (fn : Func) (lo : Nat) (ids : List Nat) (r : Option (Fin × Acc)) : Option (Out × Heap × List (Bool × Bool)) :=
  match r with
  | some (F, A) => match outOf P fn F with
    | some o => match frzO lo F.h o with
      | some o' => match lowHeap lo F.h ids with
        | some h2 => some (o', h2, A.L)
        | none => none
      | none => none
    | none => none
  | none => none

theorem endLow_ok (hE : EnvOk P E) {n f' : Nat} {f : FuncId} {fn : Func} {K : List Item} {st : St} {orc : List Bool} {lo : Nat} {ids : List Nat} {o : Out} {h2 : Heap} {L : List (Bool × Bool)} (hf : P.funcs[f]? = some fn)
    (he : endLow P fn lo ids (crun P E n f' fn.ntmps (.run K st) ⟨orc, [], []⟩) = some (o, h2, L)) (hL : ∀ p ∈ L, p.1 = p.2) (hlo : lo ≤ st.nx) : GoodK P f fn K st o st.nx h2 ∧ Lows lo o h2 := by
  unfold endLow at he
  split at he
  · rename_i F A hr
    split at he
    · rename_i o1 ho
      split at he
      · rename_i o2 hfz
        split at he
        · rename_i h3 hlh
          cases he
          obtain ⟨z1, z2⟩ := frzO_ok hfz
          have hl : Lows lo o h2 := ⟨z2, fun n k hk => ⟨(lowHeap_ok hlh n k hk).1, (lowHeap_ok hlh n k hk).2.2⟩⟩
          exact ⟨(goodK_of_wp hE.mix hf (crunK_ok hE hr hL) (outOf_ok ho)).low hlo (fun n k hk => (lowHeap_ok hlh n k hk).2.1) z1 hl, hl⟩
        · cases he
      · cases he
    · cases he
  · cases he

def lowOB (lo : Nat) : Out → Bool
  | .ret r => closedB lo 60 r
  | .pan r => closedB lo 60 r
theorem lows_of {lo : Nat} {ids : List Nat} {o : Out} {h2 : Heap} (h1 : lowOB lo o = true) (h3 : lowHeap lo h2 ids = some h2) : Lows lo o h2 :=
  ⟨by cases o <;> exact closedB_ok _ _ h1, fun n k hk => ⟨(lowHeap_ok h3 n k hk).1, (lowHeap_ok h3 n k hk).2.2⟩⟩

/-- The first head, from the function's entry. -/
theorem entry_ok (hE : EnvOk P E) {n f' : Nat} {f : FuncId} {fn : Func} {c : Code} {args : List CV} {nx : Nat} {h : Heap} {orc : List Bool} {ts ids : List Nat} {K : List Item} {fr1 : Fr} {nx1 : Nat} {h1 : Heap} {L : List (Bool × Bool)} {o : Out} {h2 : Heap} {lo : Nat}
    (hf : P.funcs[f]? = some fn) (hb : fn.body = some c) (hcf : ∀ (vs : Array Value) (w : World), (callFunc f vs).run P w = .ok (.enter f vs) w) (hn : args.length ≤ fn.ntmps)
    (he : headSel (crun P E n f' fn.ntmps (.run [.code c] ⟨entryFr args, nx, h⟩) ⟨orc, [], []⟩) ts ids = some (K, fr1, nx1, h1, L)) (hL : ∀ p ∈ L, p.1 = p.2) (hlo : lo ≤ nx) (hl : Lows lo o h2)
    (hg : GoodK P f fn K ⟨fr1, nx1, h1⟩ o nx1 h2) : Good P f args nx h o nx h2 :=
  good_of_K hf hb hcf hn ((head_ok hE he hL hg).down hlo hl)

/-! ### A contract found again -/
def optMapC (f : CV → Option CV) : List CV → Option (List CV) := optMap f
/-- A value under other names. -/
def rCV (l : List Nat) (lo : Nat) : Nat → CV → Option CV
  | 0, _ => none
  | n + 1, c => match c with
    | .undef => some .undef
    | .lit v => some (.lit v)
    | .ptr b g o => match Nat.ble (b + 1) lo with
      | true => some (.ptr (l.getD b 0) g o)
      | false => none
    | .sl b g o m s => match Nat.ble (b + 1) lo with
      | true => some (.sl (l.getD b 0) g o m s)
      | false => none
    | .mp b g => match Nat.ble (b + 1) lo with
      | true => some (.mp (l.getD b 0) g)
      | false => none
    | .isl cs m s => match optMap (rCV l lo n) cs with
      | some ds => some (.isl ds m s)
      | none => none
    | .iptr cs o => match optMap (rCV l lo n) cs with
      | some ds => some (.iptr ds o)
      | none => none
    | .agg cs => match optMap (rCV l lo n) cs with
      | some ds => some (.agg ds)
      | none => none
    | .tup cs => match optMap (rCV l lo n) cs with
      | some ds => some (.tup ds)
      | none => none
    | .ifc t c => match rCV l lo n c with
      | some d => some (.ifc t d)
      | none => none
    | .fn f xs ys => match optMap (rCV l lo n) xs with
      | some us => match optMap (rCV l lo n) ys with
        | some vs => some (.fn f us vs)
        | none => none
      | none => none
theorem optMap_get {f : CV → Option CV} : ∀ {cs ds : List CV}, optMap f cs = some ds → ∀ (i : Nat) (c d : CV), cs[i]? = some c → ds[i]? = some d → f c = some d
  | [], ds, h, i, c, d, hi, _ => by simp at hi
  | c0 :: cs, ds, h, i, c, d, hi, hd => by
    simp only [optMap] at h
    split at h
    · rename_i d0 e1
      split at h
      · rename_i ds0 e2
        cases h
        cases i with
        | zero => simp at hi hd; subst hi hd; exact e1
        | succ i => simp at hi hd; exact optMap_get e2 i c d hi hd
      · cases h
    · cases h
theorem rCV_ok {l : List Nat} {lo nx : Nat} : ∀ (n : Nat) (c d : CV), rCV l lo n c = some d → RenV (renOf l lo nx) c d
  | 0, _, _, h => by cases h
  | n + 1, c, d, h => by
    have ih := rCV_ok (l := l) (lo := lo) (nx := nx) n
    have nm : ∀ {b : Nat}, Nat.ble (b + 1) lo = true → renOf l lo nx b = l.getD b 0 := fun hb => renOf_lo _ _ _ _ (Nat.le_of_ble_eq_true hb)
    have ls : ∀ {cs ds : List CV}, optMap (rCV l lo n) cs = some ds → cs.length = ds.length ∧ ∀ (i : Nat) (c c' : CV), cs[i]? = some c → ds[i]? = some c' → RenV (renOf l lo nx) c c' := fun e =>
      ⟨(optMap_len e).symm, fun i c c' h1 h2 => ih c c' (optMap_get e i c c' h1 h2)⟩
    cases c with
    | undef => cases h; exact .undef
    | lit v => cases h; exact .lit v
    | ptr b g o =>
      simp only [rCV] at h
      split at h
      · rename_i e; cases h; rw [← nm e]; exact .ptr ..
      · cases h
    | sl b g o m s =>
      simp only [rCV] at h
      split at h
      · rename_i e; cases h; rw [← nm e]; exact .sl ..
      · cases h
    | mp b g =>
      simp only [rCV] at h
      split at h
      · rename_i e; cases h; rw [← nm e]; exact .mp ..
      · cases h
    | isl cs m s =>
      simp only [rCV] at h
      split at h
      · rename_i ds e; cases h; exact .isl _ _ (ls e).1 (ls e).2
      · cases h
    | iptr cs o =>
      simp only [rCV] at h
      split at h
      · rename_i ds e; cases h; exact .iptr _ (ls e).1 (ls e).2
      · cases h
    | agg cs =>
      simp only [rCV] at h
      split at h
      · rename_i ds e; cases h; exact .agg (ls e).1 (ls e).2
      · cases h
    | tup cs =>
      simp only [rCV] at h
      split at h
      · rename_i ds e; cases h; exact .tup (ls e).1 (ls e).2
      · cases h
    | ifc t c =>
      simp only [rCV] at h
      split at h
      · rename_i d e; cases h; exact .ifc _ (ih _ _ e)
      · cases h
    | fn f xs ys =>
      simp only [rCV] at h
      split at h
      · rename_i us e1
        split at h
        · rename_i vs e2; cases h; exact .fn _ (ls e1).1 (ls e1).2 (ls e2).1 (ls e2).2
        · cases h
      · cases h

def rMap (l : List Nat) (lo : Nat) : List (CV × CV) → Option (List (CV × CV))
  | [] => some []
  | p :: m => match rCV l lo 60 p.1 with
    | some a => match rCV l lo 60 p.2 with
      | some b => match rMap l lo m with
        | some m' => some ((a, b) :: m')
        | none => none
      | none => none
    | none => none
theorem rMap_ok {l : List Nat} {lo nx : Nat} : ∀ {m m' : List (CV × CV)}, rMap l lo m = some m' → m.length = m'.length ∧ ∀ (i : Nat) (p p' : CV × CV), m[i]? = some p → m'[i]? = some p' → RenV (renOf l lo nx) p.1 p'.1 ∧ RenV (renOf l lo nx) p.2 p'.2
  | [], m', h => by cases h; exact ⟨rfl, fun i p p' hi => by simp at hi⟩
  | p :: m, m', h => by
    simp only [rMap] at h
    split at h
    · rename_i a e1
      split at h
      · rename_i b e2
        split at h
        · rename_i m2 e3
          cases h
          obtain ⟨k1, k2⟩ := rMap_ok (nx := nx) e3
          refine ⟨by simp [k1], fun i q q' hi hq => ?_⟩
          cases i with
          | zero => simp at hi hq; subst hi hq; exact ⟨rCV_ok _ _ _ e1, rCV_ok _ _ _ e2⟩
          | succ i => simp at hi hq; exact k2 i q q' hi hq
        · cases h
      · cases h
    · cases h
def rBlk (l : List Nat) (lo : Nat) (k : Blk) : Option Blk :=
  match optMap (rCV l lo 60) k.cells with
  | some cs => match k.map with
    | none => some ⟨k.gen, cs, none⟩
    | some m => match rMap l lo m with
      | some m' => some ⟨k.gen, cs, some m'⟩
      | none => none
  | none => none
theorem rBlk_ok {l : List Nat} {lo nx : Nat} {k k' : Blk} (h : rBlk l lo k = some k') : RenB (renOf l lo nx) k k' := by
  unfold rBlk at h
  split at h
  · rename_i cs e1
    have hc : ∀ (i : Nat) (c c' : CV), k.cells[i]? = some c → cs[i]? = some c' → RenV (renOf l lo nx) c c' := fun i c c' h1 h2 => rCV_ok _ _ _ (optMap_get e1 i c c' h1 h2)
    split at h
    · rename_i e2; cases h; exact ⟨rfl, (optMap_len e1).symm, hc, .inl ⟨e2, rfl⟩⟩
    · rename_i m e2
      split at h
      · rename_i m' e3; cases h; exact ⟨rfl, (optMap_len e1).symm, hc, .inr ⟨m, m', e2, rfl, (rMap_ok (nx := nx) e3).1, (rMap_ok (nx := nx) e3).2⟩⟩
      · cases h
  · cases h
def rOut (l : List Nat) (lo : Nat) : Out → Option Out
  | .ret r => match rCV l lo 60 r with
    | some r' => some (.ret r')
    | none => none
  | .pan r => match rCV l lo 60 r with
    | some r' => some (.pan r')
    | none => none
theorem rOut_ok {l : List Nat} {lo nx : Nat} {o o' : Out} (h : rOut l lo o = some o') : RenO (renOf l lo nx) o o' := by
  cases o <;> simp only [rOut] at h <;> split at h <;> first | cases h; done | skip
  · rename_i r' e; cases h; exact .ret (rCV_ok _ _ _ e)
  · rename_i r' e; cases h; exact .pan (rCV_ok _ _ _ e)

/-- The heap behind a call, under other names. -/
def updH (l : List Nat) (lo : Nat) (h2 : Heap) : Nat → Heap → Option Heap
  | 0, h => some h
  | a + 1, h => match hget h2 a with
    | some k => match rBlk l lo k with
      | some k' => updH l lo h2 a (hset h (l.getD a 0) k')
      | none => none
    | none => updH l lo h2 a (hdel h (l.getD a 0))
theorem updH_other {l : List Nat} {lo : Nat} {h2 : Heap} : ∀ {n : Nat} {h h' : Heap}, updH l lo h2 n h = some h' → ∀ b, (∀ a, a < n → l.getD a 0 ≠ b) → hget h' b = hget h b
  | 0, h, h', he, b, _ => by cases he; rfl
  | n + 1, h, h', he, b, hb => by
    have hn := hb n (by omega)
    simp only [updH] at he
    split at he
    · split at he
      · rw [updH_other he b fun a ha => hb a (by omega), hget_hset, if_neg (Ne.symm hn)]
      · cases he
    · rw [updH_other he b fun a ha => hb a (by omega), hget_hdel, if_neg (Ne.symm hn)]
theorem updH_in {l : List Nat} {lo nx : Nat} {h2 : Heap} (hnd : ∀ a b, a < lo → b < lo → l.getD a 0 = l.getD b 0 → a = b) : ∀ {n : Nat} {h h' : Heap}, n ≤ lo → updH l lo h2 n h = some h' → HIn (renOf l lo nx) n h2 h'
  | 0, h, h', _, he => fun a ha => absurd ha (by omega)
  | n + 1, h, h', hn, he => by
    intro a ha
    simp only [updH] at he
    rw [renOf_lo _ _ _ _ (by omega)]
    by_cases e : a = n
    · subst e
      have ot : ∀ b, b < a → l.getD b 0 ≠ l.getD a 0 := fun b hb hc => by
        have := hnd b a (by omega) (by omega) hc
        omega
      split at he
      · rename_i k e1
        split at he
        · rename_i k' e2
          refine .inr ⟨k, k', e1, ?_, rBlk_ok e2⟩
          rw [updH_other he _ ot, hget_hset, if_pos rfl]
        · cases he
      · rename_i e1
        refine .inl ⟨e1, ?_⟩
        rw [updH_other he _ ot, hget_hdel, if_pos rfl]
    · have ih : ∀ {hh : Heap}, updH l lo h2 n hh = some h' → _ := fun q => updH_in (nx := nx) hnd (by omega) q a (by omega)
      rw [renOf_lo _ _ _ _ (by omega)] at ih
      split at he
      · split at he
        · exact ih he
        · cases he
      · exact ih he

/-- A contract's template, found in a call. -/
def tmplSel (lo : Nat) (args : List CV) (h0 : Heap) (o : Out) (h2 : Heap) (l : List Nat) (Q : Bool) (args' : List CV) (nx : Nat) (h : Heap) : Option (Out × Nat × Heap × List Nat × List (Bool × Bool)) :=
  match Nat.beq l.length lo && (l.all (fun x => Nat.ble (x + 1) nx) && (nodupB l && domB h0 lo)) with
  | true => match appL (mList (mCV l lo 60) args args') (mHeap l lo h0 h lo) with
    | some L => match rOut l lo o with
      | some o' => match updH l lo h2 lo h with
        | some h' => some (o', nx, h', l, (Q, true) :: L)
        | none => none
      | none => none
    | none => none
  | false => none

theorem tmplSel_ok {f : FuncId} {lo : Nat} {args args' : List CV} {h0 h2 h h' : Heap} {o o' : Out} {l wr : List Nat} {Q : Bool} {nx nx' : Nat} {L : List (Bool × Bool)} (he : tmplSel lo args h0 o h2 l Q args' nx h = some (o', nx', h', wr, L))
    (hL : ∀ p ∈ L, p.1 = p.2) (hG : Q = true → Good P f args lo h0 o lo h2 ∧ Lows lo o h2) : Good P f args' nx h o' nx' h' ∧ ∀ b, b < nx → b ∉ wr → hget h' b = hget h b := by
  unfold tmplSel at he
  split at he
  · rename_i hc
    simp only [Bool.and_eq_true] at hc
    obtain ⟨c1, c2, c3, c4⟩ := hc
    have hlen := Nat.eq_of_beq_eq_true c1
    have hnd := nodupB_ok c3
    obtain ⟨r1, r2, r3⟩ := renOf_facts hlen c2 hnd
    have hinj : ∀ a b, a < lo → b < lo → l.getD a 0 = l.getD b 0 → a = b := fun a b ha hb e => r1 a b (by rw [renOf_lo _ _ _ _ ha, renOf_lo _ _ _ _ hb]; exact e)
    have hmem : ∀ a, a < lo → l.getD a 0 ∈ l := fun a ha => by
      rw [List.getD_eq_getElem?_getD, List.getElem?_eq_getElem (by omega)]
      exact List.getElem_mem _
    split at he
    · rename_i L1 hm
      split at he
      · rename_i o2 ho
        split at he
        · rename_i h3 hu
          cases he
          obtain ⟨g1, g2⟩ := hG (hL _ (List.mem_cons_self ..))
          obtain ⟨x, y, m1, m2, m3, m4⟩ := appL_ok hm fun p hp => hL p (List.mem_cons_of_mem _ hp)
          obtain ⟨k1, k2⟩ := mList_ok (R := RenV (renOf l lo nx)) (fun c d L => mCV_ok 60 c d L) m1 m3
          refine ⟨g1.frame (fun a b _ _ h => r1 a b h) (fun a ha => r3 a ha) r2 (fun a ha => r3 a ha) (Nat.le_refl _) (mHeap_ok (Nat.le_refl _) m2 m4) (domB_ok c4) (updH_in hinj (Nat.le_refl _) hu) (fun a k hk => (g2.heap a k hk).1) (fun b hb => ?_) k1 k2 (rOut_ok ho), fun b _ hb => ?_⟩
          · exact updH_other hu b fun a ha e => hb a ha (by rw [renOf_lo _ _ _ _ ha]; exact e)
          · exact updH_other hu b fun a ha e => hb (e ▸ hmem a ha)
        · cases he
      · cases he
    · cases he
  · cases he
end
end Go.Cv
namespace Go.Cv
open Go

section
variable {P : Program} {E : Env}

theorem GoodK.lowF {lo : Nat} {f : FuncId} {fn : Func} {K : List Item} {st : St} {o0 o : Out} {nx1 : Nat} {h1 h2 : Heap} (hG : GoodK P f fn K st o0 nx1 h1) (hlo : lo ≤ st.nx)
    (hhf : HFrz h1 h2 (fun n => lo ≤ n)) (hfr : OutFrz h1 (fun n => lo ≤ n) o0 o) (hl : Lows lo o h2) : GoodK P f fn K st o st.nx h2 := by
  obtain ⟨hx0, hG⟩ := hG
  refine ⟨Nat.le_refl _, fun D β I w a hD hS hF hd => ?_⟩
  refine (hG D β I w a hD hS hF hd).mono ?_
  rintro e w' ⟨β', I', sim, hor, ext⟩
  obtain ⟨s1, s2⟩ := hfrz_sim hhf sim
  have hx := ext.trans (fun n hn => (.inl hn : Dx D st.nx nx1 n)) s2
  have hov := outFrz_real sim (fun _ h => h) (hfrz_pres hhf) hfr hor
  have low : ∀ n, Dx D st.nx nx1 n → n < lo → Dx D st.nx st.nx n := fun n h1 h2 => by
    rcases h1 with h1 | h1
    · exact .inl h1
    · omega
  refine ⟨β', IFrz h1 β' I' (fun n => lo ≤ n), ⟨fun n k hk => low n (s1.dom n k hk) (hl.heap n k hk).1, fun n k rb hk hbb => ?_, s1.inj, s1.noI, s1.ilt⟩, ?_, hx⟩
  · have b1 := s1.blk n k rb hk hbb
    have hkl := (hl.heap n k hk).2
    refine ⟨fun hm => ?_, fun l hm => ?_⟩
    · obtain ⟨c1, e1, k1, k2, k3⟩ := b1.cell hm
      exact ⟨c1, e1, k1, k2, fun i cv hi => ⟨(k3 i cv hi).1, Low.simv low (k3 i cv hi).2 (hkl.cells cv (List.mem_of_getElem? hi))⟩⟩
    · obtain ⟨es1, cl1, k1, k2, k3⟩ := b1.mapp l hm
      refine ⟨es1, cl1, k1, k2, fun i p e hi he => ?_⟩
      have hp := hkl.map l hm p (List.mem_of_getElem? hi)
      exact ⟨Low.simv low (k3 i p e hi he).1 hp.1, Low.simv low (k3 i p e hi he).2 hp.2⟩
  · cases o with
    | ret r => obtain ⟨v, e1, e2⟩ := hov; exact ⟨v, e1, Low.simv low e2 hl.out⟩
    | pan r => obtain ⟨v, e1, e2⟩ := hov; exact ⟨v, e1, Low.simv low e2 hl.out⟩

def frzM (lo : Nat) (h : Heap) : List (CV × CV) → Option (List (CV × CV))
  | [] => some []
  | p :: m => match frzV lo h 60 p.1 with
    | some a => match frzV lo h 60 p.2 with
      | some b => match frzM lo h m with
        | some r => some ((a, b) :: r)
        | none => none
      | none => none
    | none => none
theorem frzM_ok {lo : Nat} {h : Heap} : ∀ {m m' : List (CV × CV)}, frzM lo h m = some m' → m.length = m'.length ∧ (∀ (i : Nat) (p p' : CV × CV), m[i]? = some p → m'[i]? = some p' → Frz h (fun n => lo ≤ n) p.1 p'.1 ∧ Frz h (fun n => lo ≤ n) p.2 p'.2) ∧ ∀ p ∈ m', Low lo p.1 ∧ Low lo p.2
  | [], m', he => by
    cases he
    exact ⟨rfl, fun i p p' h1 _ => by simp at h1, fun p hp => by cases hp⟩
  | q :: m, m', he => by
    simp only [frzM] at he
    split at he
    · rename_i a ea
      split at he
      · rename_i b eb
        split at he
        · rename_i r er
          cases he
          obtain ⟨r1, r2, r3⟩ := frzM_ok er
          obtain ⟨a1, a2⟩ := frzV_ok _ _ _ ea
          obtain ⟨b1, b2⟩ := frzV_ok _ _ _ eb
          refine ⟨by simp [r1], fun i p p' h1 h2 => ?_, fun p hp => ?_⟩
          · cases i with
            | zero => simp at h1 h2; subst h1; subst h2; exact ⟨a1, b1⟩
            | succ i => simp at h1 h2; exact r2 i p p' h1 h2
          · rcases List.mem_cons.1 hp with rfl | hp
            · exact ⟨a2, b2⟩
            · exact r3 p hp
        · cases he
      · cases he
    · cases he
/-- A block that stays, frozen. -/
def frzK (lo : Nat) (h : Heap) (k : Blk) : Option Blk :=
  match optMap (frzV lo h 60) k.cells with
  | some cs => match k.map with
    | none => some ⟨k.gen, cs, none⟩
    | some m => match frzM lo h m with
      | some m' => some ⟨k.gen, cs, some m'⟩
      | none => none
  | none => none
theorem frzK_ok {lo : Nat} {h : Heap} {k k' : Blk} (he : frzK lo h k = some k') : KFrz h (fun n => lo ≤ n) k k' ∧ KLow lo k' := by
  unfold frzK at he
  split at he
  · rename_i cs ec
    have c1 : ∀ (i : Nat) (c c' : CV), k.cells[i]? = some c → cs[i]? = some c' → Frz h (fun n => lo ≤ n) c c' := fun i c c' h1 h2 => (frzV_ok _ _ _ (optMap_spec ec i c c' h1 h2)).1
    have c2 : ∀ c ∈ cs, Low lo c := fun c hc => by obtain ⟨d, hd⟩ := optMap_mem ec c hc; exact (frzV_ok _ _ _ hd).2
    split at he
    · rename_i em
      cases he
      exact ⟨⟨rfl, Nat.le_of_eq (optMap_len ec), c1, fun _ => em, fun l' hl => by cases hl⟩, ⟨c2, fun m hm => by cases hm⟩⟩
    · rename_i m em
      split at he
      · rename_i m' em'
        cases he
        obtain ⟨r1, r2, r3⟩ := frzM_ok em'
        exact ⟨⟨rfl, Nat.le_of_eq (optMap_len ec), c1, (fun h => by cases h), fun l' hl => by cases hl; exact ⟨m, em, r1, r2⟩⟩, ⟨c2, fun m2 hm => by cases hm; exact r3⟩⟩
      · cases he
  · cases he
def undC : List CV → List CV
  | [] => []
  | _ :: l => .undef :: undC l
theorem undC_len : ∀ {l : List CV}, (undC l).length = l.length
  | [] => rfl
  | _ :: l => by simp [undC, undC_len (l := l)]
theorem undC_get : ∀ {l : List CV} {i : Nat} {c : CV}, (undC l)[i]? = some c → c = .undef
  | [], i, c, h => by simp [undC] at h
  | _ :: l, 0, c, h => by simp [undC] at h; exact h.symm
  | _ :: l, i + 1, c, h => undC_get (l := l) (i := i) (by simpa [undC] using h)
/-- A block that stays, of which nothing more is told than that it is there. -/
def undK (k : Blk) : Option Blk := match k.map with
  | none => some ⟨k.gen, undC k.cells, none⟩
  | some _ => none
theorem undK_ok {lo : Nat} {h : Heap} {k k' : Blk} (he : undK k = some k') : KFrz h (fun n => lo ≤ n) k k' ∧ KLow lo k' := by
  unfold undK at he
  split at he
  · rename_i em
    cases he
    exact ⟨⟨rfl, Nat.le_of_eq undC_len, fun i c c' _ h2 => by rw [undC_get h2]; exact .undef c, fun _ => em, fun l' hl => by cases hl⟩,
      ⟨fun c hc => (by
        obtain ⟨i, hi, he⟩ := List.getElem_of_mem hc
        have e9 : (undC k.cells)[i]? = some c := by rw [List.getElem?_eq_getElem hi, he]
        rw [undC_get e9]
        exact .undef), fun m hm => by cases hm⟩⟩
  · cases he
def frzHeap (lo : Nat) (h : Heap) (uds : List Nat) : List Nat → Option Heap
  | [] => some []
  | a :: l => match hget h a with
    | some k => match Nat.ble (a + 1) lo with
      | true => match (bif uds.contains a then undK k else frzK lo h k) with
        | some k' => match frzHeap lo h uds l with
          | some r => some ((a, k') :: r)
          | none => none
        | none => none
      | false => none
    | none => none
theorem frzHeap_ok {lo : Nat} {h : Heap} {uds : List Nat} : ∀ {l : List Nat} {h2 : Heap}, frzHeap lo h uds l = some h2 → ∀ n k', hget h2 n = some k' → n < lo ∧ KLow lo k' ∧ ∃ k, hget h n = some k ∧ KFrz h (fun n => lo ≤ n) k k'
  | [], h2, he, n, k, hk => by cases he; cases hk
  | a :: l, h2, he, n, k, hk => by
    simp only [frzHeap] at he
    split at he
    · rename_i k1 e1
      split at he
      · rename_i hc
        split at he
        · rename_i k2 e2
          have e3 : KFrz h (fun n => lo ≤ n) k1 k2 ∧ KLow lo k2 := by
            cases eu : uds.contains a with
            | true => rw [eu] at e2; exact undK_ok e2
            | false => rw [eu] at e2; exact frzK_ok e2
          split at he
          · rename_i r er
            cases he
            rw [hget_cons] at hk
            split at hk
            · rename_i e; subst e; cases hk
              exact ⟨Nat.le_of_ble_eq_true hc, e3.2, k1, e1, e3.1⟩
            · exact frzHeap_ok er n k hk
          · cases he
        · cases he
      · cases he
    · cases he

/-- A run to a function's end, told of old memory alone, frozen. -/
def endLowF (P : Program) (fn : Func) (lo : Nat) (uds ids : List Nat) (r : Option (Fin × Acc)) : Option (Out × Heap × List (Bool × Bool)) :=
  match r with
  | some (F, A) => match outOf P fn F with
    | some o => match frzO lo F.h o with
      | some o' => match frzHeap lo F.h uds ids with
        | some h2 => some (o', h2, A.L)
        | none => none
      | none => none
    | none => none
  | none => none

theorem endLowF_ok (hE : EnvOk P E) {n f' : Nat} {f : FuncId} {fn : Func} {K : List Item} {st : St} {orc : List Bool} {lo : Nat} {uds ids : List Nat} {o : Out} {h2 : Heap} {L : List (Bool × Bool)} (hf : P.funcs[f]? = some fn)
    (he : endLowF P fn lo uds ids (crun P E n f' fn.ntmps (.run K st) ⟨orc, [], []⟩) = some (o, h2, L)) (hL : ∀ p ∈ L, p.1 = p.2) (hlo : lo ≤ st.nx) : GoodK P f fn K st o st.nx h2 ∧ Lows lo o h2 := by
  unfold endLowF at he
  split at he
  · rename_i F A hr
    split at he
    · rename_i o1 ho
      split at he
      · rename_i o2 hfz
        split at he
        · rename_i h3 hlh
          cases he
          obtain ⟨z1, z2⟩ := frzO_ok hfz
          have hl : Lows lo o h2 := ⟨z2, fun n k hk => ⟨(frzHeap_ok hlh n k hk).1, (frzHeap_ok hlh n k hk).2.1⟩⟩
          have hh : HFrz F.h h2 (fun n => lo ≤ n) := ⟨fun n k' hk => by
            obtain ⟨q1, _, k, q3, q4⟩ := frzHeap_ok hlh n k' hk
            exact ⟨by omega, k, q3, q4⟩⟩
          exact ⟨(goodK_of_wp hE.mix hf (crunK_ok hE hr hL) (outOf_ok ho)).lowF hlo hh z1 hl, hl⟩
        · cases he
      · cases he
    · cases he
  · cases he
end
end Go.Cv
namespace Go.Cv
open Go

section
variable {P : Program} {E : Env}

/-- A value whose memory begins at nx. -/
def sCV (nx : Nat) : Nat → CV → Option CV
  | 0, _ => none
  | n + 1, c => match c with
    | .undef => some .undef
    | .lit v => some (.lit v)
    | .ptr b g o => some (.ptr (nx + b) g o)
    | .sl b g o m s => some (.sl (nx + b) g o m s)
    | .mp b g => some (.mp (nx + b) g)
    | .isl cs m s => match optMap (sCV nx n) cs with
      | some ds => some (.isl ds m s)
      | none => none
    | .iptr cs o => match optMap (sCV nx n) cs with
      | some ds => some (.iptr ds o)
      | none => none
    | .agg cs => match optMap (sCV nx n) cs with
      | some ds => some (.agg ds)
      | none => none
    | .tup cs => match optMap (sCV nx n) cs with
      | some ds => some (.tup ds)
      | none => none
    | .ifc t c => match sCV nx n c with
      | some d => some (.ifc t d)
      | none => none
    | .fn f xs ys => match optMap (sCV nx n) xs with
      | some us => match optMap (sCV nx n) ys with
        | some vs => some (.fn f us vs)
        | none => none
      | none => none
theorem sCV_ok {nx : Nat} : ∀ (n : Nat) (c d : CV), sCV nx n c = some d → RenV (fun a => nx + a) c d
  | 0, _, _, h => by cases h
  | n + 1, c, d, h => by
    have key : ∀ {cs ds : List CV}, optMap (sCV nx n) cs = some ds → cs.length = ds.length ∧ ∀ (i : Nat) (c d : CV), cs[i]? = some c → ds[i]? = some d → RenV (fun a => nx + a) c d := fun e =>
      ⟨(optMap_len e).symm, fun i c d h1 h2 => sCV_ok n c d (optMap_spec e i c d h1 h2)⟩
    cases c with
    | undef => simp only [sCV, Option.some.injEq] at h; subst h; exact .undef
    | lit v => simp only [sCV, Option.some.injEq] at h; subst h; exact .lit v
    | ptr b g o => simp only [sCV, Option.some.injEq] at h; subst h; exact .ptr b g o
    | sl b g o m s => simp only [sCV, Option.some.injEq] at h; subst h; exact .sl b g o m s
    | mp b g => simp only [sCV, Option.some.injEq] at h; subst h; exact .mp b g
    | isl cs m s => simp only [sCV] at h; split at h <;> first | cases h; done | (rename_i ds e; cases h; exact .isl m s (key e).1 (key e).2)
    | iptr cs o => simp only [sCV] at h; split at h <;> first | cases h; done | (rename_i ds e; cases h; exact .iptr o (key e).1 (key e).2)
    | agg cs => simp only [sCV] at h; split at h <;> first | cases h; done | (rename_i ds e; cases h; exact .agg (key e).1 (key e).2)
    | tup cs => simp only [sCV] at h; split at h <;> first | cases h; done | (rename_i ds e; cases h; exact .tup (key e).1 (key e).2)
    | ifc t c => simp only [sCV] at h; split at h <;> first | cases h; done | (rename_i ds e; cases h; exact .ifc t (sCV_ok n _ _ e))
    | fn f xs ys =>
      simp only [sCV] at h
      split at h
      · rename_i us e1
        split at h
        · rename_i vs e2; cases h; exact .fn f (key e1).1 (key e1).2 (key e2).1 (key e2).2
        · cases h
      · cases h
def sMap (nx : Nat) : List (CV × CV) → Option (List (CV × CV))
  | [] => some []
  | p :: m => match sCV nx 60 p.1 with
    | some a => match sCV nx 60 p.2 with
      | some b => match sMap nx m with
        | some r => some ((a, b) :: r)
        | none => none
      | none => none
    | none => none
theorem sMap_ok {nx : Nat} : ∀ {m m' : List (CV × CV)}, sMap nx m = some m' → m.length = m'.length ∧ ∀ (i : Nat) (p p' : CV × CV), m[i]? = some p → m'[i]? = some p' → RenV (fun a => nx + a) p.1 p'.1 ∧ RenV (fun a => nx + a) p.2 p'.2
  | [], m', he => by cases he; exact ⟨rfl, fun i p p' h1 _ => by simp at h1⟩
  | q :: m, m', he => by
    simp only [sMap] at he
    split at he
    · rename_i a ea
      split at he
      · rename_i b eb
        split at he
        · rename_i r er
          cases he
          obtain ⟨r1, r2⟩ := sMap_ok er
          refine ⟨by simp [r1], fun i p p' h1 h2 => ?_⟩
          cases i with
          | zero => simp at h1 h2; subst h1; subst h2; exact ⟨sCV_ok _ _ _ ea, sCV_ok _ _ _ eb⟩
          | succ i => simp at h1 h2; exact r2 i p p' h1 h2
        · cases he
      · cases he
    · cases he
def sBlk (nx : Nat) (k : Blk) : Option Blk :=
  match optMap (sCV nx 60) k.cells with
  | some cs => match k.map with
    | none => some ⟨k.gen, cs, none⟩
    | some m => match sMap nx m with
      | some m' => some ⟨k.gen, cs, some m'⟩
      | none => none
  | none => none
theorem sBlk_ok {nx : Nat} {k k' : Blk} (he : sBlk nx k = some k') : RenB (fun a => nx + a) k k' := by
  unfold sBlk at he
  split at he
  · rename_i cs ec
    have c1 : ∀ (i : Nat) (c c' : CV), k.cells[i]? = some c → cs[i]? = some c' → RenV (fun a => nx + a) c c' := fun i c c' h1 h2 => sCV_ok _ _ _ (optMap_spec ec i c c' h1 h2)
    split at he
    · rename_i em; cases he; exact ⟨rfl, (optMap_len ec).symm, c1, .inl ⟨em, rfl⟩⟩
    · rename_i m em
      split at he
      · rename_i m' em'; cases he; exact ⟨rfl, (optMap_len ec).symm, c1, .inr ⟨m, m', em, rfl, (sMap_ok em').1, (sMap_ok em').2⟩⟩
      · cases he
  · cases he
/-- New memory ahead of what was there. -/
def sHeap (nx : Nat) (h : Heap) : Heap → Option Heap
  | [] => some h
  | p :: l => match sBlk nx p.2 with
    | some k => match sHeap nx h l with
      | some r => some ((nx + p.1, k) :: r)
      | none => none
    | none => none
theorem sHeap_ok {nx n : Nat} {h : Heap} (hd : ∀ a k, hget h a = some k → a < nx) : ∀ {l h' : Heap}, sHeap nx h l = some h' → HIn (fun a => nx + a) n l h' ∧ ∀ b, b < nx → hget h' b = hget h b
  | [], h', he => by
    cases he
    refine ⟨fun a _ => .inl ⟨rfl, ?_⟩, fun _ _ => rfl⟩
    show hget h (nx + a) = none
    cases e : hget h (nx + a) with
    | none => rfl
    | some k => have := hd _ k e; omega
  | p :: l, h', he => by
    obtain ⟨m, k0⟩ := p
    simp only [sHeap] at he
    split at he
    · rename_i k ek
      split at he
      · rename_i r er
        cases he
        obtain ⟨r1, r2⟩ := sHeap_ok hd er
        refine ⟨fun a ha => ?_, fun b hb => ?_⟩
        · by_cases e : a = m
          · subst e
            exact .inr ⟨k0, k, by rw [hget_cons, if_pos rfl], by simp only [hget_cons, if_true], sBlk_ok ek⟩
          · rw [hget_cons, if_neg e]
            rw [show hget ((nx + m, k) :: r) ((fun a => nx + a) a) = hget r (nx + a) from by simp only [hget_cons]; rw [if_neg (by omega)]]
            exact r1 a ha
        · rw [hget_cons, if_neg (by omega)]
          exact r2 b hb
      · cases he
    · cases he
def sOut (nx : Nat) : Out → Option Out
  | .ret r => match sCV nx 60 r with
    | some r' => some (.ret r')
    | none => none
  | .pan r => match sCV nx 60 r with
    | some r' => some (.pan r')
    | none => none
theorem sOut_ok {nx : Nat} {o o' : Out} (h : sOut nx o = some o') : RenO (fun a => nx + a) o o' := by
  cases o <;> simp only [sOut] at h <;> split at h <;> first | cases h; done | skip
  · rename_i r' e; cases h; exact .ret (sCV_ok _ _ _ e)
  · rename_i r' e; cases h; exact .pan (sCV_ok _ _ _ e)

/-- A contract said beside nothing (arguments without memory), found in a call. -/
def newSel (args : List CV) (o : Out) (n1 : Nat) (h1 : Heap) (args' : List CV) (nx : Nat) (h : Heap) : Option (Out × Nat × Heap × List Nat × List (Bool × Bool)) :=
  match domB h nx && (domB h1 n1) with
  | true => match mList (mCV [] 0 60) args args' with
    | some L => match sOut nx o with
      | some o' => match sHeap nx h h1 with
        | some h' => some (o', nx + n1, h', [], L)
        | none => none
      | none => none
    | none => none
  | false => none

theorem newSel_ok {f : FuncId} {args args' : List CV} {h1 h h' : Heap} {o o' : Out} {wr : List Nat} {n1 nx nx' : Nat} {L : List (Bool × Bool)} (he : newSel args o n1 h1 args' nx h = some (o', nx', h', wr, L))
    (hL : ∀ p ∈ L, p.1 = p.2) (hG : Good P f args 0 [] o n1 h1) : Good P f args' nx h o' nx' h' ∧ ∀ b, b < nx → b ∉ wr → hget h' b = hget h b := by
  unfold newSel at he
  split at he
  · rename_i hc
    simp only [Bool.and_eq_true] at hc
    obtain ⟨c1, c2⟩ := hc
    split at he
    · rename_i L1 hm
      split at he
      · rename_i o2 ho
        split at he
        · rename_i h3 hu
          cases he
          obtain ⟨u1, u2⟩ := sHeap_ok (n := n1) (domB_ok c1) hu
          have e : renOf [] 0 nx = fun a => nx + a := by
            funext a
            rw [renOf_hi _ _ _ _ (Nat.zero_le a)]
            omega
          obtain ⟨k1, k2⟩ := mList_ok (R := RenV (renOf [] 0 nx)) (fun c d L => mCV_ok 60 c d L) hm hL
          rw [e] at k2
          refine ⟨hG.frame (ren := fun a => nx + a) (fun a b _ _ h => Nat.add_left_cancel h) (fun a ha => by omega) (fun a _ => Nat.le_add_right nx a) (fun a ha => Nat.add_lt_add_left ha nx) (by omega)
            (fun a ha => by omega) (fun a k hk => by cases hk) u1 (domB_ok c2) (fun b hb => ?_) k1 k2 (sOut_ok ho), fun b hb _ => u2 b hb⟩
          rcases Nat.lt_or_ge b nx with h5 | h5
          · exact u2 b h5
          · have e1 : hget h b = none := by
              cases e5 : hget h b with
              | none => rfl
              | some k => have := domB_ok c1 _ k e5; omega
            rw [e1]
            cases e6 : hget h' b with
            | none => rfl
            | some k =>
              exfalso
              have hb2 : n1 ≤ b - nx := by
                rcases Nat.lt_or_ge (b - nx) n1 with h7 | h7
                · exact absurd (by simp only; omega : (fun a => nx + a) (b - nx) = b) (hb (b - nx) h7)
                · exact h7
              obtain ⟨u3, _⟩ := sHeap_ok (n := b - nx + 1) (domB_ok c1) hu
              have := u3 (b - nx) (by omega)
              simp only at this
              rw [show nx + (b - nx) = b from by omega] at this
              rcases this with ⟨_, h8⟩ | ⟨k1, k2, h8, _⟩
              · rw [e6] at h8; cases h8
              · have := domB_ok c2 _ k1 h8; omega
        · cases he
      · cases he
    · cases he
  · cases he

/-- The heap behind a call; what is not written stays. -/
def updK (l : List Nat) (lo : Nat) (h2 : Heap) (sk : List Nat) : Nat → Heap → Option Heap
  | 0, h => some h
  | a + 1, h => match sk.contains a with
    | true => updK l lo h2 sk a h
    | false => match hget h2 a with
      | some k => match rBlk l lo k with
        | some k' => updK l lo h2 sk a (hset h (l.getD a 0) k')
        | none => none
      | none => updK l lo h2 sk a (hdel h (l.getD a 0))
theorem updK_other {l : List Nat} {lo : Nat} {h2 : Heap} {sk : List Nat} : ∀ {n : Nat} {h h' : Heap}, updK l lo h2 sk n h = some h' → ∀ b, (∀ a, a < n → a ∉ sk → l.getD a 0 ≠ b) → hget h' b = hget h b
  | 0, h, h', he, b, _ => by cases he; rfl
  | n + 1, h, h', he, b, hb => by
    simp only [updK] at he
    split at he
    · exact updK_other he b fun a ha hs => hb a (by omega) hs
    · rename_i hc
      have hns : n ∉ sk := fun h => by
        have : sk.contains n = true := by simpa using h
        rw [this] at hc; cases hc
      have hn := hb n (by omega) hns
      split at he
      · split at he
        · rw [updK_other he b fun a ha hs => hb a (by omega) hs, hget_hset, if_neg (Ne.symm hn)]
        · cases he
      · rw [updK_other he b fun a ha hs => hb a (by omega) hs, hget_hdel, if_neg (Ne.symm hn)]
theorem updK_in {l : List Nat} {lo nx : Nat} {h0 h2 hb : Heap} {sk : List Nat} (hsk : ∀ a ∈ sk, hget h2 a = hget h0 a) (hin : HIn (renOf l lo nx) lo h0 hb) (hnd : ∀ a b, a < lo → b < lo → l.getD a 0 = l.getD b 0 → a = b) :
    ∀ {n : Nat} {h h' : Heap}, n ≤ lo → (∀ a, a < n → hget h (l.getD a 0) = hget hb (l.getD a 0)) → updK l lo h2 sk n h = some h' → HIn (renOf l lo nx) n h2 h'
  | 0, h, h', _, _, he => fun a ha => absurd ha (by omega)
  | n + 1, h, h', hn, hsame, he => by
    intro a ha
    simp only [updK] at he
    have ot : ∀ {hh : Heap} {a}, a = n → updK l lo h2 sk n hh = some h' → hget h' (l.getD a 0) = hget hh (l.getD a 0) := fun {hh a} ea q => updK_other q _ fun b hb _ hc => by
      have := hnd b a (by omega) (by omega) hc
      omega
    have ih : ∀ {hh : Heap}, (∀ a, a < n → hget hh (l.getD a 0) = hget hb (l.getD a 0)) → updK l lo h2 sk n hh = some h' → a < n → _ := fun hs q hl => updK_in hsk hin hnd (by omega) hs q a hl
    rw [renOf_lo _ _ _ _ (by omega)] at ih ⊢
    have hset' : ∀ k, ∀ b, b < n → hget (hset h (l.getD n 0) k) (l.getD b 0) = hget hb (l.getD b 0) := fun k b hb2 => by
      rw [hget_hset, if_neg (fun e => by have := hnd b n (by omega) (by omega) e; omega)]
      exact hsame b (by omega)
    have hdel' : ∀ b, b < n → hget (hdel h (l.getD n 0)) (l.getD b 0) = hget hb (l.getD b 0) := fun b hb2 => by
      rw [hget_hdel, if_neg (fun e => by have := hnd b n (by omega) (by omega) e; omega)]
      exact hsame b (by omega)
    by_cases e : a = n
    · subst e
      split at he
      · rename_i hc
        have hm : a ∈ sk := by simpa using hc
        rw [ot rfl he, hsame a (by omega), hsk a hm]
        have := hin a (by omega)
        rwa [renOf_lo _ _ _ _ (by omega)] at this
      · split at he
        · rename_i k e1
          split at he
          · rename_i k' e2
            refine .inr ⟨k, k', e1, ?_, rBlk_ok e2⟩
            rw [ot rfl he, hget_hset, if_pos rfl]
          · cases he
        · rename_i e1
          refine .inl ⟨e1, ?_⟩
          rw [ot rfl he, hget_hdel, if_pos rfl]
    · split at he
      · exact ih (fun b hb2 => hsame b (by omega)) he (by omega)
      · split at he
        · split at he
          · exact ih (hset' _) he (by omega)
          · cases he
        · exact ih hdel' he (by omega)

def wrs (l : List Nat) (sk : List Nat) : Nat → List Nat
  | 0 => []
  | n + 1 => match sk.contains n with
    | true => wrs l sk n
    | false => l.getD n 0 :: wrs l sk n
theorem wrs_mem {l sk : List Nat} : ∀ {n a : Nat}, a < n → a ∉ sk → l.getD a 0 ∈ wrs l sk n
  | 0, a, h, _ => by omega
  | n + 1, a, h, hs => by
    simp only [wrs]
    by_cases e : a = n
    · subst e
      split
      · rename_i hc; exact absurd (by simpa using hc) hs
      · exact List.mem_cons_self ..
    · have := wrs_mem (l := l) (sk := sk) (n := n) (a := a) (by omega) hs
      split
      · exact this
      · exact List.mem_cons_of_mem _ this

/-- A template of a contract that speaks of old memory alone ('sk': the blocks that are not written). -/
structure Tm where
  f : Nat
  lo : Nat
  args : List CV
  h0 : Heap
  o : Out
  h2 : Heap
  l : List Nat
  k : Option Nat
  sk : List Nat
/-- Is a term of this kind the second argument? -/
def hitK (k : Option Nat) (args : List CV) : Bool :=
  match k with
  | none => true
  | some n => match args with
    | _ :: .agg (.lit (.int .i64 (.ofNat m)) :: _) :: _ => Nat.beq m n
    | _ => false
def tmSel (t : Tm) (f : Nat) (args' : List CV) (nx : Nat) (h : Heap) : Option (Out × Nat × Heap × List Nat × List (Bool × Bool)) :=
  match Nat.beq f t.f && hitK t.k args' with
  | true => match Nat.beq t.l.length t.lo && (t.l.all (fun x => Nat.ble (x + 1) nx) && (nodupB t.l && domB t.h0 t.lo)) with
    | true => match appL (mList (mCV t.l t.lo 60) t.args args') (mHeap t.l t.lo t.h0 h t.lo) with
      | some L => match rOut t.l t.lo t.o with
        | some o' => match updK t.l t.lo t.h2 t.sk t.lo h with
          | some h' => some (o', nx, h', wrs t.l t.sk t.lo, L)
          | none => none
        | none => none
      | none => none
    | false => none
  | false => none
structure TmOk (P : Program) (t : Tm) : Prop where
  good : Good P t.f t.args t.lo t.h0 t.o t.lo t.h2
  lows : Lows t.lo t.o t.h2
  sk : ∀ a ∈ t.sk, hget t.h2 a = hget t.h0 a
theorem tmSel_ok {t : Tm} {f : FuncId} {args' : List CV} {h h' : Heap} {o' : Out} {wr : List Nat} {nx nx' : Nat} {L : List (Bool × Bool)} (he : tmSel t f args' nx h = some (o', nx', h', wr, L))
    (hL : ∀ p ∈ L, p.1 = p.2) (hG : TmOk P t) : Good P f args' nx h o' nx' h' ∧ ∀ b, b < nx → b ∉ wr → hget h' b = hget h b := by
  unfold tmSel at he
  split at he
  · rename_i hc
    simp only [Bool.and_eq_true] at hc
    have := Nat.eq_of_beq_eq_true hc.1
    subst this
    split at he
    · rename_i hc
      simp only [Bool.and_eq_true] at hc
      obtain ⟨c1, c2, c3, c4⟩ := hc
      have hlen := Nat.eq_of_beq_eq_true c1
      have hnd := nodupB_ok c3
      obtain ⟨r1, r2, r3⟩ := renOf_facts hlen c2 hnd
      have hinj : ∀ a b, a < t.lo → b < t.lo → t.l.getD a 0 = t.l.getD b 0 → a = b := fun a b ha hb e => r1 a b (by rw [renOf_lo _ _ _ _ ha, renOf_lo _ _ _ _ hb]; exact e)
      split at he
      · rename_i L1 hm
        split at he
        · rename_i o2 ho
          split at he
          · rename_i h3 hu
            cases he
            obtain ⟨x, y, m1, m2, m3, m4⟩ := appL_ok hm hL
            obtain ⟨k1, k2⟩ := mList_ok (R := RenV (renOf t.l t.lo nx)) (fun c d L => mCV_ok 60 c d L) m1 m3
            have hin := mHeap_ok (nx := nx) (Nat.le_refl _) m2 m4
            refine ⟨hG.good.frame (fun a b _ _ h => r1 a b h) (fun a ha => r3 a ha) r2 (fun a ha => r3 a ha) (Nat.le_refl _) hin (domB_ok c4) (updK_in hG.sk hin hinj (Nat.le_refl _) (fun _ _ => rfl) hu)
              (fun a k hk => (hG.lows.heap a k hk).1) (fun b hb => ?_) k1 k2 (rOut_ok ho), fun b _ hb => ?_⟩
            · exact updK_other hu b fun a ha _ e => hb a ha (by rw [renOf_lo _ _ _ _ ha]; exact e)
            · exact updK_other hu b fun a ha hs e => hb (e ▸ wrs_mem ha hs)
          · cases he
        · cases he
      · cases he
    · cases he
  · cases he
end
end Go.Cv
namespace Go.Cv
open Go

section
variable {P : Program} {E : Env}

def cHeap (m : List Nat) (n1 : Nat) : Heap → Option Heap
  | [] => some []
  | p :: l => match rBlk m n1 p.2 with
    | some k => match cHeap m n1 l with
      | some r => some ((m.getD p.1 0, k) :: r)
      | none => none
    | none => none
theorem cHeap_ok {m : List Nat} {n1 nx : Nat} (hnd : ∀ a b, a < n1 → b < n1 → m.getD a 0 = m.getD b 0 → a = b) : ∀ {l h' : Heap}, (∀ a k, hget l a = some k → a < n1) → domB l n1 = true → cHeap m n1 l = some h' → HIn (renOf m n1 nx) n1 l h' ∧ ∀ b k, hget h' b = some k → ∃ a, a < n1 ∧ m.getD a 0 = b
  | [], h', _, _, he => by cases he; exact ⟨fun a _ => .inl ⟨rfl, rfl⟩, fun b k hk => by cases hk⟩
  | p :: l, h', hd, hd2, he => by
    obtain ⟨a0, k0⟩ := p
    simp only [cHeap] at he
    split at he
    · rename_i k ek
      split at he
      · rename_i r er
        cases he
        simp only [domB, List.all_cons, Bool.and_eq_true] at hd2
        have ha0 : a0 < n1 := Nat.le_of_ble_eq_true hd2.1
        obtain ⟨r1, r2⟩ := cHeap_ok (nx := nx) hnd (domB_ok hd2.2) hd2.2 er
        refine ⟨fun a ha => ?_, fun b k2 hb => ?_⟩
        · rw [hget_cons]
          by_cases e : a = a0
          · subst e
            refine .inr ⟨k0, k, by rw [if_pos rfl], ?_, rBlk_ok ek⟩
            rw [renOf_lo _ _ _ _ ha, hget_cons, if_pos rfl]
          · rw [if_neg e]
            have hne : renOf m n1 nx a ≠ m.getD a0 0 := fun h => e (hnd a a0 ha ha0 (by rw [renOf_lo _ _ _ _ ha] at h; exact h))
            rw [hget_cons, if_neg hne]
            exact r1 a ha
        · rw [hget_cons] at hb
          split at hb
          · rename_i e; exact ⟨a0, ha0, e.symm⟩
          · exact r2 b k2 hb
      · cases he
    · cases he

/-- A run beside nothing, its result and what is kept under chosen names. -/
def canSel (P : Program) (E : Env) (n : Nat) (f : FuncId) (args : List CV) (orc : List Bool) (ids m : List Nat) (n2 : Nat) : Option (Out × Heap × List (Bool × Bool)) :=
  match callSel P E n f args 0 [] orc ids with
  | some (o, n1, h1, L) => match Nat.beq m.length n1 && (m.all (fun x => Nat.ble (x + 1) n2) && (nodupB m && (domB h1 n1 && allB (closedB 0 60) args))) with
    | true => match rOut m n1 o with
      | some o' => match cHeap m n1 h1 with
        | some h' => some (o', h', L)
        | none => none
      | none => none
    | false => none
  | none => none

theorem canSel_ok (hE : EnvOk P E) {n : Nat} {f : FuncId} {args : List CV} {orc : List Bool} {ids m : List Nat} {n2 : Nat} {o : Out} {h : Heap} {L : List (Bool × Bool)}
    (he : canSel P E n f args orc ids m n2 = some (o, h, L)) (hL : ∀ p ∈ L, p.1 = p.2) : Good P f args 0 [] o n2 h := by
  unfold canSel at he
  split at he
  · rename_i o1 n1 h1 L1 hcall
    split at he
    · rename_i hc
      simp only [Bool.and_eq_true] at hc
      obtain ⟨c1, c2, c3, c4, c5⟩ := hc
      split at he
      · rename_i o2 ho
        split at he
        · rename_i h3 hh
          cases he
          have hG := callSel_ok hE hcall hL
          have hlen := Nat.eq_of_beq_eq_true c1
          obtain ⟨r1, r2, r3⟩ := renOf_facts hlen c2 (nodupB_ok c3)
          have hinj : ∀ a b, a < n1 → b < n1 → m.getD a 0 = m.getD b 0 → a = b := fun a b ha hb e => r1 a b (by rw [renOf_lo _ _ _ _ ha, renOf_lo _ _ _ _ hb]; exact e)
          obtain ⟨u1, u2⟩ := cHeap_ok (nx := n2) hinj (domB_ok c4) c4 hh
          refine hG.frame (ren := renOf m n1 n2) (fun a b _ _ h => r1 a b h) (fun a ha => by omega) (fun a _ => Nat.zero_le _) (fun a ha => r3 a ha) (Nat.zero_le _)
            (fun a ha => by omega) (fun a k hk => by cases hk) u1 (domB_ok c4) (fun b hb => ?_) rfl (fun i c c' h1 h2 => ?_) (rOut_ok ho)
          · cases e : hget h b with
            | none => rfl
            | some k =>
              obtain ⟨a, ha, e2⟩ := u2 b k e
              exact absurd (by rw [renOf_lo _ _ _ _ ha]; exact e2) (hb a ha)
          · rw [h1] at h2; cases h2
            exact low_ren (closedB_ok _ _ (allB_spec c5 c (List.mem_of_getElem? h1)))
        · cases he
      · cases he
    · cases he
  · cases he
end
end Go.Cv
