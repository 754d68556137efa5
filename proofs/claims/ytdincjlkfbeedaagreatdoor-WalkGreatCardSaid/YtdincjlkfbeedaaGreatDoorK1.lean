/-
  A program logic: canonical values and heaps, and what they say of the real world; operations are sound.
-/
import Derived.Calls
import Derived.Orders
import Derived.Scope
import Derived.WalkKit
set_option linter.all false
namespace Go.Cv
open Go

/-- Canonical values. -/
inductive CV where
  | undef
  | lit (v : Value)
  | ptr (b g off : Nat)
  | iptr (cells : List CV) (off : Nat)
  | sl (b g off len sz : Nat)
  | isl (cells : List CV) (len sz : Nat)
  | agg (cs : List CV)
  | tup (cs : List CV)
  | fn (f : Fn) (xs ys : List CV)
  | ifc (t : TypeId) (c : CV)
  | mp (b g : Nat)
  deriving Inhabited

structure Blk where
  gen : Nat
  cells : List CV
  map : Option (List (CV × CV))

abbrev Heap := List (Nat × Blk)

def hget : Heap → Nat → Option Blk
  | [], _ => none
  | (m, b) :: h, n => if n = m then some b else hget h n

def hset : Heap → Nat → Blk → Heap
  | [], n, b => [(n, b)]
  | (m, c) :: h, n, b => if n = m then (n, b) :: h else (m, c) :: hset h n b

def hdel : Heap → Nat → Heap
  | [], _ => []
  | (m, c) :: h, n => if n = m then hdel h n else (m, c) :: hdel h n

@[simp] theorem hget_nil (n : Nat) : hget [] n = none := rfl
theorem hget_cons (m : Nat) (b : Blk) (h : Heap) (n : Nat) : hget ((m, b) :: h) n = if n = m then some b else hget h n := rfl

theorem hget_hset (h : Heap) (n : Nat) (b : Blk) (m : Nat) : hget (hset h n b) m = if m = n then some b else hget h m := by
  induction h with
  | nil => simp [hset, hget]
  | cons p h ih =>
    obtain ⟨k, c⟩ := p
    by_cases e : n = k
    · subst e
      simp only [hset, if_true, hget_cons]
      split <;> simp_all
    · simp only [hset, if_neg e, hget_cons, ih]
      by_cases e2 : m = k
      · subst e2
        rw [if_pos rfl, if_neg (Ne.symm e), if_pos rfl]
      · rw [if_neg e2, if_neg e2]

theorem hget_hdel (h : Heap) (n m : Nat) : hget (hdel h n) m = if m = n then none else hget h m := by
  induction h with
  | nil => simp [hdel, hget]
  | cons p h ih =>
    obtain ⟨k, c⟩ := p
    by_cases e : n = k
    · subst e
      simp only [hdel, if_true, hget_cons, ih]
      split <;> simp_all
    · simp only [hdel, if_neg e, hget_cons, ih]
      by_cases e2 : m = k
      · subst e2
        rw [if_pos rfl, if_neg (Ne.symm e), if_pos rfl]
      · rw [if_neg e2, if_neg e2]

/-- A block of cells. -/
def cget (h : Heap) (n : Nat) : Option Blk := match hget h n with
  | some k => if k.map.isNone then some k else none
  | none => none
theorem cget_spec {h : Heap} {n : Nat} {k : Blk} (hk : cget h n = some k) : hget h n = some k ∧ k.map = none := by
  unfold cget at hk
  split at hk
  · rename_i k' e
    split at hk
    · rename_i hm
      cases hk
      exact ⟨e, by simpa using hm⟩
    · cases hk
  · cases hk
theorem cget_cons (m : Nat) (b : Blk) (h : Heap) (n : Nat) : cget ((m, b) :: h) n = if n = m then (if b.map.isNone then some b else none) else cget h n := by
  unfold cget
  rw [hget_cons]
  by_cases e : n = m
  · rw [if_pos e, if_pos e]
  · rw [if_neg e, if_neg e]

/-- What a canonical value says of a real one. -/
inductive SimV (D : Nat → Prop) (h : Heap) (β : Nat → Option Nat) (I : Nat → Prop) (w : World) : CV → Value → Prop
  | undef (v : Value) : SimV D h β I w .undef v
  | lit (v : Value) : SimV D h β I w (.lit v) v
  | ptrNo {b g off : Nat} {v : Value} (hd : D b) (hn : ∀ k, hget h b = some k → g < k.gen) : SimV D h β I w (.ptr b g off) v
  | ptr {b g off rb : Nat} (hd : D b) (hg : ∀ k, hget h b = some k → g ≤ k.gen) (hb : β b = some rb) : SimV D h β I w (.ptr b g off) (.pointer (some ⟨rb, off, none⟩))
  | slNo {b g off len sz : Nat} {v : Value} (hd : D b) (hn : ∀ k, hget h b = some k → g < k.gen) : SimV D h β I w (.sl b g off len sz) v
  | sl {b g off len sz rb cap o : Nat} {c : Array Value} {e : TypeId} (hd : D b) (hg : ∀ k, hget h b = some k → g ≤ k.gen) (hb : β b = some rb)
      (hc : w.heap[rb]? = some (.cells c e (0, 0))) (hl : len ≤ cap) (hs : off + cap * sz ≤ c.size) (ho : o = off ∨ (len = 0 ∧ cap = 0)) :
      SimV D h β I w (.sl b g off len sz) (.slice (some ⟨rb, o, none⟩) len cap)
  | iptr {cells : List CV} {off blk o : Nat} {vs : Nat → Value} (hI : I blk)
      (hc : ∀ i c, cells[i]? = some c → w.cell? ⟨blk, o + i, none⟩ = some (vs i)) (h1 : ∀ i c, cells[i]? = some c → (vs i).oneCell' = true)
      (hv : ∀ i c, cells[i]? = some c → SimV D h β I w c (vs i)) :
      SimV D h β I w (.iptr cells off) (.pointer (some ⟨blk, o + off, none⟩))
  | isl {cells : List CV} {len sz blk o cap : Nat} {vs : Nat → Value} (hI : I blk)
      (hc : ∀ i c, cells[i]? = some c → w.cell? ⟨blk, o + i, none⟩ = some (vs i)) (h1 : ∀ i c, cells[i]? = some c → (vs i).oneCell' = true)
      (hv : ∀ i c, cells[i]? = some c → SimV D h β I w c (vs i))
      (hl : len ≤ cap) : SimV D h β I w (.isl cells len sz) (.slice (some ⟨blk, o, none⟩) len cap)
  | agg {cs : List CV} {vs : Array Value} (hl : cs.length = vs.size) (hv : ∀ i c, cs[i]? = some c → SimV D h β I w c (vs.getD i undef)) :
      SimV D h β I w (.agg cs) (.agg vs)
  | tup {cs : List CV} {vs : Array Value} (hl : cs.length = vs.size) (hv : ∀ i c, cs[i]? = some c → SimV D h β I w c (vs.getD i undef)) :
      SimV D h β I w (.tup cs) (.tuple vs)
  | fn {f : Fn} {xs ys : List CV} {us vs : Array Value} (hl : xs.length = us.size) (hx : ∀ i c, xs[i]? = some c → SimV D h β I w c (us.getD i undef))
      (hm : ys.length = vs.size) (hy : ∀ i c, ys[i]? = some c → SimV D h β I w c (vs.getD i undef)) : SimV D h β I w (.fn f xs ys) (.func f us vs)
  | ifc {t : TypeId} {c : CV} {v : Value} (hv : SimV D h β I w c v) : SimV D h β I w (.ifc t c) (.iface t v)
  | mpNo {b g : Nat} {v : Value} (hd : D b) (hn : ∀ k, hget h b = some k → g < k.gen) : SimV D h β I w (.mp b g) v
  | mp {b g rb : Nat} (hd : D b) (hg : ∀ k, hget h b = some k → g ≤ k.gen) (hb : β b = some rb) : SimV D h β I w (.mp b g) (.map (some rb))

/-- What becomes of old claims. -/
structure Pres (D : Nat → Prop) (h : Heap) (β : Nat → Option Nat) (I : Nat → Prop) (w : World) (h' : Heap) (β' : Nat → Option Nat) (I' : Nat → Prop) (w' : World) : Prop where
  imono : ∀ b, I b → I' b
  isame : ∀ b, I b → w'.heap[b]? = w.heap[b]?
  blk : ∀ n k', D n → hget h' n = some k' → ∃ k, hget h n = some k ∧ k.gen ≤ k'.gen ∧ (k'.gen = k.gen → β' n = β n ∧
    ∀ rb c e, β n = some rb → w.heap[rb]? = some (.cells c e (0, 0)) → ∃ c', w'.heap[rb]? = some (.cells c' e (0, 0)) ∧ c.size ≤ c'.size)

theorem cell?_same {w w' : World} {a : Addr} (h : w'.heap[a.block]? = w.heap[a.block]?) : w'.cell? a = w.cell? a := by
  unfold World.cell?; rw [h]

theorem SimV.mono {D D' : Nat → Prop} {h h' : Heap} {β β' : Nat → Option Nat} {I I' : Nat → Prop} {w w' : World} (hD : ∀ n, D n → D' n)
    (hp : Pres D h β I w h' β' I' w') {cv : CV} {v : Value} (hs : SimV D h β I w cv v) : SimV D' h' β' I' w' cv v := by
  induction hs with
  | undef v => exact .undef v
  | lit v => exact .lit v
  | @ptrNo b g off v hd hn =>
    refine .ptrNo (hD _ hd) fun k' hk' => ?_
    obtain ⟨k, hk, hle, _⟩ := hp.blk _ _ hd hk'
    exact Nat.lt_of_lt_of_le (hn k hk) hle
  | @ptr b g off rb hd hg hb =>
    cases e : hget h' b with
    | none => exact .ptrNo (hD _ hd) fun k hk => by rw [e] at hk; cases hk
    | some k' =>
      obtain ⟨k, hk, hle, hsame⟩ := hp.blk _ _ hd e
      by_cases hgen : k'.gen = k.gen
      · exact .ptr (hD _ hd) (fun k2 hk2 => by rw [e] at hk2; cases hk2; rw [hgen]; exact hg k hk) (by rw [(hsame hgen).1]; exact hb)
      · refine .ptrNo (hD _ hd) fun k2 hk2 => ?_
        rw [e] at hk2; cases hk2
        have := hg k hk
        omega
  | @slNo b g off len sz v hd hn =>
    refine .slNo (hD _ hd) fun k' hk' => ?_
    obtain ⟨k, hk, hle, _⟩ := hp.blk _ _ hd hk'
    exact Nat.lt_of_lt_of_le (hn k hk) hle
  | @sl b g off len sz rb cap o c e hd hg hb hc hl hs ho =>
    cases eh : hget h' b with
    | none => exact .slNo (hD _ hd) fun k hk => by rw [eh] at hk; cases hk
    | some k' =>
      obtain ⟨k, hk, hle, hsame⟩ := hp.blk _ _ hd eh
      by_cases hgen : k'.gen = k.gen
      · obtain ⟨h1, h2⟩ := hsame hgen
        obtain ⟨c', hc', hsz⟩ := h2 rb c e hb hc
        exact .sl (hD _ hd) (fun k2 hk2 => by rw [eh] at hk2; cases hk2; rw [hgen]; exact hg k hk) (by rw [h1]; exact hb) hc' hl (by omega) ho
      · refine .slNo (hD _ hd) fun k2 hk2 => ?_
        rw [eh] at hk2; cases hk2
        have := hg k hk
        omega
  | @iptr cells off blk o vs hI hc h1 hv ih =>
    exact .iptr (vs := vs) (hp.imono _ hI) (fun i c hi => by rw [cell?_same (hp.isame _ hI)]; exact hc i c hi) h1 ih
  | @isl cells len sz blk o cap vs hI hc h1 hv hl ih =>
    exact .isl (vs := vs) (hp.imono _ hI) (fun i c hi => by rw [cell?_same (hp.isame _ hI)]; exact hc i c hi) h1 ih hl
  | agg hl _ ih => exact .agg hl ih
  | tup hl _ ih => exact .tup hl ih
  | fn hl _ hm _ ih1 ih2 => exact .fn hl ih1 hm ih2
  | ifc _ ih => exact .ifc ih
  | @mpNo b g v hd hn =>
    refine .mpNo (hD _ hd) fun k' hk' => ?_
    obtain ⟨k, hk, hle, _⟩ := hp.blk _ _ hd hk'
    exact Nat.lt_of_lt_of_le (hn k hk) hle
  | @mp b g rb hd hg hb =>
    cases e : hget h' b with
    | none => exact .mpNo (hD _ hd) fun k hk => by rw [e] at hk; cases hk
    | some k' =>
      obtain ⟨k, hk, hle, hsame⟩ := hp.blk _ _ hd e
      by_cases hgen : k'.gen = k.gen
      · exact .mp (hD _ hd) (fun k2 hk2 => by rw [e] at hk2; cases hk2; rw [hgen]; exact hg k hk) (by rw [(hsame hgen).1]; exact hb)
      · refine .mpNo (hD _ hd) fun k2 hk2 => ?_
        rw [e] at hk2; cases hk2
        have := hg k hk
        omega

/-- What a value says of ids, it says in fewer of them. -/
theorem SimV.restrict {D D' : Nat → Prop} {h h' : Heap} {β β' : Nat → Option Nat} {I I' : Nat → Prop} {w w' : World} {c : CV} {v0 : Value} (hs : SimV D h β I w c v0) :
    ∀ v, SimV D' h' β' I' w' c v → SimV D h' β' I' w' c v := by
  induction hs with
  | undef _ => intro v _; exact .undef v
  | lit _ => intro v hs; cases hs; exact .lit _
  | ptrNo hd _ =>
    intro v hs
    cases hs with
    | ptrNo _ hn => exact .ptrNo hd hn
    | ptr _ hg hb => exact .ptr hd hg hb
  | ptr hd _ _ =>
    intro v hs
    cases hs with
    | ptrNo _ hn => exact .ptrNo hd hn
    | ptr _ hg hb => exact .ptr hd hg hb
  | slNo hd _ =>
    intro v hs
    cases hs with
    | slNo _ hn => exact .slNo hd hn
    | sl _ hg hb hc hl hs ho => exact .sl hd hg hb hc hl hs ho
  | sl hd _ _ _ _ _ _ =>
    intro v hs
    cases hs with
    | slNo _ hn => exact .slNo hd hn
    | sl _ hg hb hc hl hs ho => exact .sl hd hg hb hc hl hs ho
  | iptr _ _ _ _ ih =>
    intro v hs
    cases hs with
    | iptr hI hc h1 hv => exact .iptr hI hc h1 (fun i c hi => ih i c hi _ (hv i c hi))
  | isl _ _ _ _ _ ih =>
    intro v hs
    cases hs with
    | isl hI hc h1 hv hl => exact .isl hI hc h1 (fun i c hi => ih i c hi _ (hv i c hi)) hl
  | agg _ _ ih =>
    intro v hs
    cases hs with
    | agg hl hv => exact .agg hl (fun i c hi => ih i c hi _ (hv i c hi))
  | tup _ _ ih =>
    intro v hs
    cases hs with
    | tup hl hv => exact .tup hl (fun i c hi => ih i c hi _ (hv i c hi))
  | fn _ _ _ _ ih1 ih2 =>
    intro v hs
    cases hs with
    | fn hl hx hm hy => exact .fn hl (fun i c hi => ih1 i c hi _ (hx i c hi)) hm (fun i c hi => ih2 i c hi _ (hy i c hi))
  | ifc _ ih =>
    intro v hs
    cases hs with
    | ifc hv => exact .ifc (ih _ hv)
  | mpNo hd _ =>
    intro v hs
    cases hs with
    | mpNo _ hn => exact .mpNo hd hn
    | mp _ hg hb => exact .mp hd hg hb
  | mp hd _ _ =>
    intro v hs
    cases hs with
    | mpNo _ hn => exact .mpNo hd hn
    | mp _ hg hb => exact .mp hd hg hb

theorem Pres.refl (D : Nat → Prop) (h : Heap) (β : Nat → Option Nat) (I : Nat → Prop) (w : World) : Pres D h β I w h β I w :=
  ⟨fun _ h => h, fun _ _ => rfl, fun _ k' _ hk => ⟨k', hk, Nat.le_refl _, fun _ => ⟨rfl, fun _ c _ _ hc => ⟨c, hc, Nat.le_refl _⟩⟩⟩⟩

theorem Pres.trans {D D' : Nat → Prop} {h h' h'' : Heap} {β β' β'' : Nat → Option Nat} {I I' I'' : Nat → Prop} {w w' w'' : World} (hD : ∀ n, D n → D' n)
    (p : Pres D h β I w h' β' I' w') (q : Pres D' h' β' I' w' h'' β'' I'' w'') : Pres D h β I w h'' β'' I'' w'' := by
  refine ⟨fun b hb => q.imono _ (p.imono _ hb), fun b hb => (q.isame _ (p.imono _ hb)).trans (p.isame _ hb), fun n k'' hn hk'' => ?_⟩
  obtain ⟨k', hk', hle', hs'⟩ := q.blk n k'' (hD _ hn) hk''
  obtain ⟨k, hk, hle, hs⟩ := p.blk n k' hn hk'
  refine ⟨k, hk, Nat.le_trans hle hle', fun e => ?_⟩
  have e1 : k'.gen = k.gen := by omega
  have e2 : k''.gen = k'.gen := by omega
  obtain ⟨a1, a2⟩ := hs e1
  obtain ⟨b1, b2⟩ := hs' e2
  refine ⟨b1.trans a1, fun rb c e hb hc => ?_⟩
  obtain ⟨c', hc', hl⟩ := a2 rb c e hb hc
  obtain ⟨c'', hc'', hl'⟩ := b2 rb c' e (a1.trans hb) hc'
  exact ⟨c'', hc'', Nat.le_trans hl hl'⟩

/-- A block's content. -/
def CellR (D : Nat → Prop) (h : Heap) (β : Nat → Option Nat) (I : Nat → Prop) (w : World) (k : Blk) (rb : Nat) : Prop :=
  ∃ c e, w.heap[rb]? = some (.cells c e (0, 0)) ∧ k.cells.length ≤ c.size ∧ ∀ i cv, k.cells[i]? = some cv → (c.getD i undef).oneCell' = true ∧ SimV D h β I w cv (c.getD i undef)

def MapR (D : Nat → Prop) (h : Heap) (β : Nat → Option Nat) (I : Nat → Prop) (w : World) (l : List (CV × CV)) (rb : Nat) : Prop :=
  ∃ es clock, w.heap[rb]? = some (.map es clock) ∧ l.length = es.size ∧ ∀ (i : Nat) (p : CV × CV) (e : MapEntry), l[i]? = some p → es[i]? = some e → SimV D h β I w p.1 e.key ∧ SimV D h β I w p.2 e.val
structure BlkR (D : Nat → Prop) (h : Heap) (β : Nat → Option Nat) (I : Nat → Prop) (w : World) (k : Blk) (rb : Nat) : Prop where
  cell : k.map = none → CellR D h β I w k rb
  mapp : ∀ l, k.map = some l → MapR D h β I w l rb
theorem BlkR.lt {D : Nat → Prop} {h : Heap} {β : Nat → Option Nat} {I : Nat → Prop} {w : World} {k : Blk} {rb : Nat} (hb : BlkR D h β I w k rb) : rb < w.heap.size := by
  have key : ∀ o, w.heap[rb]? = some o → rb < w.heap.size := fun o ho => by
    rcases Nat.lt_or_ge rb w.heap.size with h2 | h2
    · exact h2
    · rw [Array.getElem?_eq_none h2] at ho; cases ho
  cases e : k.map with
  | none => obtain ⟨_, _, h1, _⟩ := hb.cell e; exact key _ h1
  | some l => obtain ⟨_, _, h1, _⟩ := hb.mapp l e; exact key _ h1

/-- The canonical heap and the real world. -/
structure Sim (D : Nat → Prop) (h : Heap) (β : Nat → Option Nat) (I : Nat → Prop) (w : World) : Prop where
  dom : ∀ n k, hget h n = some k → D n
  blk : ∀ n k rb, hget h n = some k → β n = some rb → BlkR D h β I w k rb
  inj : ∀ n m rb, hget h n ≠ none → hget h m ≠ none → β n = some rb → β m = some rb → n = m
  noI : ∀ n rb, hget h n ≠ none → β n = some rb → ¬ I rb
  ilt : ∀ b, I b → b < w.heap.size

/-- What a run leaves as it was. -/
structure Ext (D : Nat → Prop) (h : Heap) (β : Nat → Option Nat) (I : Nat → Prop) (w : World) (h' : Heap) (β' : Nat → Option Nat) (I' : Nat → Prop) (w' : World) : Prop where
  pres : Pres D h β I w h' β' I' w'
  os : w'.os = w.os
  tape : w'.tape = w.tape
  output : w'.output = w.output
  size : w.heap.size ≤ w'.heap.size
  keep : ∀ b, b < w.heap.size → (∀ n, hget h n ≠ none → β n ≠ some b) → w'.heap[b]? = w.heap[b]?
  new : ∀ n rb, hget h' n ≠ none → β' n = some rb → w.heap.size ≤ rb ∨ ∃ m, hget h m ≠ none ∧ β m = some rb
  inew : ∀ b, I' b → I b ∨ w.heap.size ≤ b ∨ ∃ m, hget h m ≠ none ∧ β m = some b
  same : ∀ n, D n → hget h n = none → β' n = β n

theorem Ext.refl (D : Nat → Prop) (h : Heap) (β : Nat → Option Nat) (I : Nat → Prop) (w : World) : Ext D h β I w h β I w :=
  ⟨.refl .., rfl, rfl, rfl, Nat.le_refl _, fun _ _ _ => rfl, fun n rb h1 h2 => .inr ⟨n, h1, h2⟩, fun _ h => .inl h, fun _ _ _ => rfl⟩

theorem Ext.trans {D D' : Nat → Prop} {h h' h'' : Heap} {β β' β'' : Nat → Option Nat} {I I' I'' : Nat → Prop} {w w' w'' : World} (hD : ∀ n, D n → D' n)
    (p : Ext D h β I w h' β' I' w') (q : Ext D' h' β' I' w' h'' β'' I'' w'') : Ext D h β I w h'' β'' I'' w'' := by
  refine ⟨p.pres.trans hD q.pres, q.os.trans p.os, q.tape.trans p.tape, q.output.trans p.output, Nat.le_trans p.size q.size, fun b hb hn => ?_, fun n rb h1 h2 => ?_, fun b hb => ?_, fun n hn hg => ?_⟩
  · rw [q.keep b (Nat.lt_of_lt_of_le hb p.size) fun n hn' hb' => ?_, p.keep b hb hn]
    rcases p.new n b hn' hb' with h1 | ⟨m, h1, h2⟩
    · omega
    · exact hn m h1 h2
  · rcases q.new n rb h1 h2 with h3 | ⟨m, h3, h4⟩
    · exact .inl (Nat.le_trans p.size h3)
    · exact p.new m rb h3 h4
  · rcases q.inew b hb with h3 | h3 | ⟨m, h3, h4⟩
    · exact p.inew b h3
    · exact .inr (.inl (Nat.le_trans p.size h3))
    · exact .inr (p.new m b h3 h4)
  · have : hget h' n = none := by
      cases e : hget h' n with
      | none => rfl
      | some k' => obtain ⟨k, hk, _⟩ := p.pres.blk n k' hn e; rw [hg] at hk; cases hk
    rw [q.same n (hD _ hn) this, p.same n hn hg]

/-! ### Frames of temporaries -/
abbrev Fr := List (Nat × CV)
def fget : Fr → Nat → CV
  | [], _ => .undef
  | (m, v) :: f, n => if n = m then v else fget f n
def fset : Fr → Nat → CV → Fr
  | [], n, v => [(n, v)]
  | (m, u) :: f, n, v => if n = m then (n, v) :: f else if n < m then (n, v) :: (m, u) :: f else (m, u) :: fset f n v

theorem fget_cons (m : Nat) (v : CV) (f : Fr) (n : Nat) : fget ((m, v) :: f) n = if n = m then v else fget f n := rfl
theorem fget_fset (f : Fr) (n : Nat) (v : CV) (m : Nat) : fget (fset f n v) m = if m = n then v else fget f m := by
  induction f with
  | nil => simp [fset, fget]
  | cons p f ih =>
    obtain ⟨k, c⟩ := p
    simp only [fset]
    split
    · rename_i e
      subst e
      simp only [fget_cons]
      split <;> simp_all
    · rename_i e
      split
      · simp only [fget_cons]
      · simp only [fget_cons, ih]
        by_cases e2 : m = k
        · subst e2
          rw [if_pos rfl, if_neg (Ne.symm e), if_pos rfl]
        · rw [if_neg e2, if_neg e2]

end Go.Cv
namespace Go.Cv
open Go

def upd (β : Nat → Option Nat) (n rb : Nat) : Nat → Option Nat := fun m => if m = n then some rb else β m
def plus (D : Nat → Prop) (n : Nat) : Nat → Prop := fun m => D m ∨ m = n

structure SameBut (w w' : World) : Prop where
  os : w'.os = w.os
  tape : w'.tape = w.tape
  output : w'.output = w.output

section
variable {D : Nat → Prop} {h : Heap} {β : Nat → Option Nat} {I : Nat → Prop} {w : World}

theorem pres_same {w' : World} (hh : w'.heap = w.heap) : Pres D h β I w h β I w' :=
  ⟨fun _ h => h, fun _ _ => by rw [hh], fun _ k' _ hk => ⟨k', hk, Nat.le_refl _, fun _ => ⟨rfl, fun _ c _ _ hc => ⟨c, by rw [hh]; exact hc, Nat.le_refl _⟩⟩⟩⟩

theorem BlkR.mono {D' : Nat → Prop} {h' : Heap} {β' : Nat → Option Nat} {I' : Nat → Prop} {w' : World} (hD : ∀ n, D n → D' n) (hp : Pres D h β I w h' β' I' w')
    {k : Blk} {rb : Nat} (hw : w'.heap[rb]? = w.heap[rb]?) (hb : BlkR D h β I w k rb) : BlkR D' h' β' I' w' k rb := by
  refine ⟨fun hm => ?_, fun l hm => ?_⟩
  · obtain ⟨c, e, h1, h2, h3⟩ := hb.cell hm
    exact ⟨c, e, by rw [hw]; exact h1, h2, fun i cv hi => ⟨(h3 i cv hi).1, (h3 i cv hi).2.mono hD hp⟩⟩
  · obtain ⟨es, cl, h1, h2, h3⟩ := hb.mapp l hm
    exact ⟨es, cl, by rw [hw]; exact h1, h2, fun i p e hi he => ⟨(h3 i p e hi he).1.mono hD hp, (h3 i p e hi he).2.mono hD hp⟩⟩

theorem Sim.same (hS : Sim D h β I w) {w' : World} (hh : w'.heap = w.heap) : Sim D h β I w' :=
  ⟨hS.dom, fun n k rb h1 h2 => (hS.blk n k rb h1 h2).mono (fun _ h => h) (pres_same hh) (by rw [hh]), hS.inj, hS.noI, fun b hb => by rw [hh]; exact hS.ilt b hb⟩

theorem ext_same {w' : World} (hh : w'.heap = w.heap) (hs : SameBut w w') : Ext D h β I w h β I w' :=
  ⟨pres_same hh, hs.os, hs.tape, hs.output, by rw [hh]; exact Nat.le_refl _, fun _ _ _ => by rw [hh], fun n rb h1 h2 => .inr ⟨n, h1, h2⟩, fun _ h => .inl h, fun _ _ _ => rfl⟩

theorem Sim.more (hS : Sim D h β I w) {D' : Nat → Prop} (hD : ∀ n, D n → D' n) : Sim D' h β I w :=
  ⟨fun n k hn => hD _ (hS.dom n k hn), fun n k rb h1 h2 => (hS.blk n k rb h1 h2).mono hD (Pres.refl ..) rfl, hS.inj, hS.noI, hS.ilt⟩

/-- A new block. -/
theorem sim_alloc (hS : Sim D h β I w) {n g : Nat} (hn : ¬ D n) {w' : World} {c : Array Value} {e : TypeId} (cells : List CV) (hw : w'.heap = w.heap.push (.cells c e (0, 0))) (hs : SameBut w w')
    (hl : cells.length ≤ c.size) (hv : ∀ i cv, cells[i]? = some cv → (c.getD i undef).oneCell' = true ∧ SimV D h β I w cv (c.getD i undef)) :
    Sim (plus D n) ((n, ⟨g, cells, none⟩) :: h) (upd β n w.heap.size) I w' ∧ Ext D h β I w ((n, ⟨g, cells, none⟩) :: h) (upd β n w.heap.size) I w' := by
  have hne : ∀ m, D m → m ≠ n := fun m hm e => hn (e ▸ hm)
  have hget : ∀ m, D m → hget ((n, ⟨g, cells, none⟩) :: h) m = hget h m := fun m hm => by rw [hget_cons, if_neg (hne m hm)]
  have hup : ∀ m, D m → upd β n w.heap.size m = β m := fun m hm => by unfold upd; rw [if_neg (hne m hm)]
  have hdom : ∀ m, Cv.hget h m ≠ none → D m := fun m hm => by
    cases e : Cv.hget h m with
    | none => exact absurd e hm
    | some k => exact hS.dom m k e
  have hold : ∀ b, b < w.heap.size → w'.heap[b]? = w.heap[b]? := fun b hb => by rw [hw, Array.getElem?_push, if_neg (by omega)]
  have hp : Pres D h β I w ((n, ⟨g, cells, none⟩) :: h) (upd β n w.heap.size) I w' := by
    refine ⟨fun _ h => h, fun b hb => hold b (hS.ilt b hb), fun m k' hm hk => ?_⟩
    rw [hget m hm] at hk
    refine ⟨k', hk, Nat.le_refl _, fun _ => ⟨hup m hm, fun rb c0 e0 hb hc => ⟨c0, ?_, Nat.le_refl _⟩⟩⟩
    have : rb < w.heap.size := by
      rcases Nat.lt_or_ge rb w.heap.size with h1 | h1
      · exact h1
      · rw [Array.getElem?_eq_none h1] at hc; cases hc
    rw [hold rb this]; exact hc
  have hlt : ∀ m rb, Cv.hget h m ≠ none → β m = some rb → rb < w.heap.size := fun m rb hm hb => by
    cases e : Cv.hget h m with
    | none => exact absurd e hm
    | some k =>
      exact (hS.blk m k rb e hb).lt
  have hsplit : ∀ m, Cv.hget ((n, ⟨g, cells, none⟩) :: h) m ≠ none → m = n ∨ (D m ∧ Cv.hget h m ≠ none) := fun m hm => by
    by_cases e : m = n
    · exact .inl e
    · rw [hget_cons, if_neg e] at hm; exact .inr ⟨hdom m hm, hm⟩
  have hun : upd β n w.heap.size n = some w.heap.size := by unfold upd; rw [if_pos rfl]
  refine ⟨⟨fun m k hk => ?_, fun m k rb hk hb => ?_, fun m1 m2 rb h1 h2 h3 h4 => ?_, fun m rb hm hb => ?_, fun b hb => ?_⟩,
    ⟨hp, hs.os, hs.tape, hs.output, by rw [hw, Array.size_push]; omega, fun b hb _ => hold b hb, fun m rb hm hb => ?_, fun _ h => .inl h, fun m hm _ => hup m hm⟩⟩
  · rcases hsplit m (by rw [hk]; simp) with h1 | h1
    · exact .inr h1
    · exact .inl h1.1
  · by_cases e : m = n
    · subst e
      rw [hget_cons, if_pos rfl] at hk
      cases hk
      rw [hun] at hb
      cases hb
      exact ⟨fun _ => ⟨c, _, by rw [hw, Array.getElem?_push, if_pos rfl], hl, fun i cv hi => ⟨(hv i cv hi).1, (hv i cv hi).2.mono (fun _ h => .inl h) hp⟩⟩, fun l hm => by cases hm⟩
    · rw [hget_cons, if_neg e] at hk
      have hm := hS.dom m k hk
      rw [hup m hm] at hb
      exact (hS.blk m k rb hk hb).mono (fun _ h => .inl h) hp (hold rb (hlt m rb (by rw [hk]; simp) hb))
  · rcases hsplit m1 h1 with e1 | ⟨d1, g1⟩ <;> rcases hsplit m2 h2 with e2 | ⟨d2, g2⟩
    · rw [e1, e2]
    · subst e1
      rw [hun] at h3; rw [hup m2 d2] at h4
      have := hlt m2 rb g2 h4
      cases h3; omega
    · subst e2
      rw [hun] at h4; rw [hup m1 d1] at h3
      have := hlt m1 rb g1 h3
      cases h4; omega
    · rw [hup m1 d1] at h3; rw [hup m2 d2] at h4
      exact hS.inj m1 m2 rb g1 g2 h3 h4
  · rcases hsplit m hm with e1 | ⟨d1, g1⟩
    · subst e1
      rw [hun] at hb; cases hb
      intro hI
      have := hS.ilt _ hI
      omega
    · rw [hup m d1] at hb; exact hS.noI m rb g1 hb
  · rw [hw, Array.size_push]; have := hS.ilt b hb; omega
  · rcases hsplit m hm with e1 | ⟨d1, g1⟩
    · subst e1
      rw [hun] at hb; cases hb; exact .inl (Nat.le_refl _)
    · rw [hup m d1] at hb; exact .inr ⟨m, g1, hb⟩

/-- A block's cells are written over (its generation stays). -/
theorem sim_write (hS : Sim D h β I w) {b rb : Nat} {k : Blk} (hk : hget h b = some k) (hb : β b = some rb) {w' : World} {c : Array Value} {e : TypeId} (cells : List CV)
    (hw : ∀ m, m ≠ rb → w'.heap[m]? = w.heap[m]?) (hsz : w'.heap.size = w.heap.size) (hc' : w'.heap[rb]? = some (.cells c e (0, 0)))
    (hold : ∀ c0 e0, w.heap[rb]? = some (.cells c0 e0 (0, 0)) → c0.size = c.size ∧ e0 = e) (hs : SameBut w w')
    (hl : cells.length ≤ c.size) (hv : ∀ i cv, cells[i]? = some cv → (c.getD i undef).oneCell' = true ∧ SimV D h β I w cv (c.getD i undef)) :
    Sim D (hset h b ⟨k.gen, cells, none⟩) β I w' ∧ Ext D h β I w (hset h b ⟨k.gen, cells, none⟩) β I w' := by
  have hne : hget h b ≠ none := by rw [hk]; simp
  have hnI : ¬ I rb := hS.noI b rb hne hb
  have hI : ∀ b', I b' → w'.heap[b']? = w.heap[b']? := fun b' hb' => hw b' fun e => hnI (e ▸ hb')
  have hp : Pres D h β I w (hset h b ⟨k.gen, cells, none⟩) β I w' := by
    refine ⟨fun _ h => h, hI, fun m k' hm hk' => ?_⟩
    rw [hget_hset] at hk'
    have hcell : ∀ (rb' : Nat) (c0 : Array Value) (e0 : TypeId), w.heap[rb']? = some (Obj.cells c0 e0 (0, 0)) → ∃ c1 : Array Value, w'.heap[rb']? = some (Obj.cells c1 e0 (0, 0)) ∧ c0.size ≤ c1.size := fun rb' c0 e0 h0 => by
      by_cases er : rb' = rb
      · subst er
        obtain ⟨h1, h2⟩ := hold c0 e0 h0
        exact ⟨c, by rw [hc', h2], by omega⟩
      · exact ⟨c0, by rw [hw rb' er]; exact h0, Nat.le_refl _⟩
    by_cases em : m = b
    · subst em
      rw [if_pos rfl] at hk'
      cases hk'
      exact ⟨k, hk, Nat.le_refl _, fun _ => ⟨rfl, fun rb' c0 e0 _ h0 => hcell rb' c0 e0 h0⟩⟩
    · rw [if_neg em] at hk'
      exact ⟨k', hk', Nat.le_refl _, fun _ => ⟨rfl, fun rb' c0 e0 _ h0 => hcell rb' c0 e0 h0⟩⟩
  have hdom : ∀ m, hget (hset h b ⟨k.gen, cells, none⟩) m ≠ none → hget h m ≠ none := fun m hm => by
    rw [hget_hset] at hm
    by_cases em : m = b
    · subst em; exact hne
    · rw [if_neg em] at hm; exact hm
  refine ⟨⟨fun m k' hk' => ?_, fun m k' rb' hk' hb' => ?_, fun m1 m2 rb' h1 h2 h3 h4 => hS.inj m1 m2 rb' (hdom _ h1) (hdom _ h2) h3 h4, fun m rb' hm hb' => hS.noI m rb' (hdom _ hm) hb', fun b' hb' => by rw [hsz]; exact hS.ilt b' hb'⟩,
    ⟨hp, hs.os, hs.tape, hs.output, by rw [hsz]; exact Nat.le_refl _, fun b' _ hb' => hw b' fun e => hb' b hne (e ▸ hb), fun m rb' hm hb' => .inr ⟨m, hdom _ hm, hb'⟩, fun _ h => .inl h, fun _ _ _ => rfl⟩⟩
  · have := hdom m (by rw [hk']; simp)
    cases e2 : hget h m with
    | none => exact absurd e2 this
    | some k2 => exact hS.dom m k2 e2
  · rw [hget_hset] at hk'
    by_cases em : m = b
    · subst em
      rw [if_pos rfl] at hk'
      cases hk'
      rw [hb] at hb'
      cases hb'
      exact ⟨fun _ => ⟨c, e, hc', hl, fun i cv hi => ⟨(hv i cv hi).1, (hv i cv hi).2.mono (fun _ h => h) hp⟩⟩, fun l hm => by cases hm⟩
    · rw [if_neg em] at hk'
      have : rb' ≠ rb := fun e2 => em (hS.inj m b rb (by rw [hk']; simp) hne (e2 ▸ hb') hb)
      exact (hS.blk m k' rb' hk' hb').mono (fun _ h => h) hp (hw rb' this)

/-- A block moves to new real memory, or stays where it is, with a new generation. -/
theorem sim_move (hS : Sim D h β I w) {b : Nat} {k : Blk} (hk : hget h b = some k) {w' : World} {c : Array Value} {e : TypeId} (cells : List CV)
    (hw : w'.heap = w.heap.push (.cells c e (0, 0))) (hs : SameBut w w')
    (hl : cells.length ≤ c.size) (hv : ∀ i cv, cells[i]? = some cv → (c.getD i undef).oneCell' = true ∧ SimV D h β I w cv (c.getD i undef)) :
    Sim D (hset h b ⟨k.gen + 1, cells, none⟩) (upd β b w.heap.size) I w' ∧ Ext D h β I w (hset h b ⟨k.gen + 1, cells, none⟩) (upd β b w.heap.size) I w' := by
  have hne : hget h b ≠ none := by rw [hk]; simp
  have hDb : D b := hS.dom b k hk
  have hold : ∀ m, m < w.heap.size → w'.heap[m]? = w.heap[m]? := fun m hm => by rw [hw, Array.getElem?_push, if_neg (by omega)]
  have hub : upd β b w.heap.size b = some w.heap.size := by unfold upd; rw [if_pos rfl]
  have hun : ∀ m, m ≠ b → upd β b w.heap.size m = β m := fun m hm => by unfold upd; rw [if_neg hm]
  have hlt : ∀ m rb', hget h m ≠ none → β m = some rb' → rb' < w.heap.size := fun m rb' hm hb' => by
    cases e2 : hget h m with
    | none => exact absurd e2 hm
    | some k2 =>
      exact (hS.blk m k2 rb' e2 hb').lt
  have hp : Pres D h β I w (hset h b ⟨k.gen + 1, cells, none⟩) (upd β b w.heap.size) I w' := by
    refine ⟨fun _ h => h, fun b' hb' => hold b' (hS.ilt b' hb'), fun m k' hm hk' => ?_⟩
    rw [hget_hset] at hk'
    by_cases em : m = b
    · subst em
      rw [if_pos rfl] at hk'
      cases hk'
      exact ⟨k, hk, Nat.le_succ _, fun hgen => by simp at hgen⟩
    · rw [if_neg em] at hk'
      refine ⟨k', hk', Nat.le_refl _, fun _ => ⟨hun m em, fun rb' c0 e0 hb' h0 => ⟨c0, ?_, Nat.le_refl _⟩⟩⟩
      rw [hold rb' (hlt m rb' (by rw [hk']; simp) hb')]; exact h0
  have hdom : ∀ m, hget (hset h b ⟨k.gen + 1, cells, none⟩) m ≠ none → hget h m ≠ none := fun m hm => by
    rw [hget_hset] at hm
    by_cases em : m = b
    · subst em; exact hne
    · rw [if_neg em] at hm; exact hm
  refine ⟨⟨fun m k' hk' => ?_, fun m k' rb' hk' hb' => ?_, fun m1 m2 rb' h1 h2 h3 h4 => ?_, fun m rb' hm hb' => ?_, fun b' hb' => by rw [hw, Array.size_push]; have := hS.ilt b' hb'; omega⟩,
    ⟨hp, hs.os, hs.tape, hs.output, by rw [hw, Array.size_push]; omega, fun b' hb' _ => hold b' hb', fun m rb' hm hb' => ?_, fun _ h => .inl h, fun m hm hg => ?_⟩⟩
  · have := hdom m (by rw [hk']; simp)
    cases e2 : hget h m with
    | none => exact absurd e2 this
    | some k2 => exact hS.dom m k2 e2
  · rw [hget_hset] at hk'
    by_cases em : m = b
    · subst em
      rw [if_pos rfl] at hk'
      cases hk'
      rw [hub] at hb'
      cases hb'
      exact ⟨fun _ => ⟨c, e, by rw [hw, Array.getElem?_push, if_pos rfl], hl, fun i cv hi => ⟨(hv i cv hi).1, (hv i cv hi).2.mono (fun _ h => h) hp⟩⟩, fun l hm => by cases hm⟩
    · rw [if_neg em] at hk'
      rw [hun m em] at hb'
      exact (hS.blk m k' rb' hk' hb').mono (fun _ h => h) hp (hold rb' (hlt m rb' (by rw [hk']; simp) hb'))
  · by_cases e1 : m1 = b <;> by_cases e2 : m2 = b
    · rw [e1, e2]
    · subst e1
      rw [hub] at h3; rw [hun m2 e2] at h4
      have := hlt m2 rb' (hdom _ h2) h4
      cases h3; omega
    · subst e2
      rw [hub] at h4; rw [hun m1 e1] at h3
      have := hlt m1 rb' (hdom _ h1) h3
      cases h4; omega
    · rw [hun m1 e1] at h3; rw [hun m2 e2] at h4
      exact hS.inj m1 m2 rb' (hdom _ h1) (hdom _ h2) h3 h4
  · by_cases e1 : m = b
    · subst e1
      rw [hub] at hb'; cases hb'
      intro hI
      have := hS.ilt _ hI
      omega
    · rw [hun m e1] at hb'; exact hS.noI m rb' (hdom _ hm) hb'
  · by_cases e1 : m = b
    · subst e1
      rw [hub] at hb'; cases hb'; exact .inl (Nat.le_refl _)
    · rw [hun m e1] at hb'; exact .inr ⟨m, hdom _ hm, hb'⟩
  · by_cases e1 : m = b
    · subst e1; rw [hk] at hg; cases hg
    · exact hun m e1

/-- The same block, written behind its end: a new generation. -/
theorem sim_regen (hS : Sim D h β I w) {b rb : Nat} {k : Blk} (hk : hget h b = some k) (hb : β b = some rb) {w' : World} {c : Array Value} {e : TypeId} (cells : List CV)
    (hw : ∀ m, m ≠ rb → w'.heap[m]? = w.heap[m]?) (hsz : w'.heap.size = w.heap.size) (hc' : w'.heap[rb]? = some (.cells c e (0, 0))) (hs : SameBut w w')
    (hl : cells.length ≤ c.size) (hv : ∀ i cv, cells[i]? = some cv → (c.getD i undef).oneCell' = true ∧ SimV D h β I w cv (c.getD i undef)) :
    Sim D (hset h b ⟨k.gen + 1, cells, none⟩) β I w' ∧ Ext D h β I w (hset h b ⟨k.gen + 1, cells, none⟩) β I w' := by
  have hne : hget h b ≠ none := by rw [hk]; simp
  have hnI : ¬ I rb := hS.noI b rb hne hb
  have hI : ∀ b', I b' → w'.heap[b']? = w.heap[b']? := fun b' hb' => hw b' fun e => hnI (e ▸ hb')
  have hp : Pres D h β I w (hset h b ⟨k.gen + 1, cells, none⟩) β I w' := by
    refine ⟨fun _ h => h, hI, fun m k' hm hk' => ?_⟩
    rw [hget_hset] at hk'
    by_cases em : m = b
    · subst em
      rw [if_pos rfl] at hk'
      cases hk'
      exact ⟨k, hk, Nat.le_succ _, fun hgen => by simp at hgen⟩
    · rw [if_neg em] at hk'
      refine ⟨k', hk', Nat.le_refl _, fun _ => ⟨rfl, fun rb' c0 e0 hb' h0 => ⟨c0, ?_, Nat.le_refl _⟩⟩⟩
      have : rb' ≠ rb := fun e2 => em (hS.inj m b rb (by rw [hk']; simp) hne (e2 ▸ hb') hb)
      rw [hw rb' this]; exact h0
  have hdom : ∀ m, hget (hset h b ⟨k.gen + 1, cells, none⟩) m ≠ none → hget h m ≠ none := fun m hm => by
    rw [hget_hset] at hm
    by_cases em : m = b
    · subst em; exact hne
    · rw [if_neg em] at hm; exact hm
  refine ⟨⟨fun m k' hk' => ?_, fun m k' rb' hk' hb' => ?_, fun m1 m2 rb' h1 h2 h3 h4 => hS.inj m1 m2 rb' (hdom _ h1) (hdom _ h2) h3 h4, fun m rb' hm hb' => hS.noI m rb' (hdom _ hm) hb', fun b' hb' => by rw [hsz]; exact hS.ilt b' hb'⟩,
    ⟨hp, hs.os, hs.tape, hs.output, by rw [hsz]; exact Nat.le_refl _, fun b' _ hb' => hw b' fun e => hb' b hne (e ▸ hb), fun m rb' hm hb' => .inr ⟨m, hdom _ hm, hb'⟩, fun _ h => .inl h, fun _ _ _ => rfl⟩⟩
  · have := hdom m (by rw [hk']; simp)
    cases e2 : hget h m with
    | none => exact absurd e2 this
    | some k2 => exact hS.dom m k2 e2
  · rw [hget_hset] at hk'
    by_cases em : m = b
    · subst em
      rw [if_pos rfl] at hk'
      cases hk'
      rw [hb] at hb'
      cases hb'
      exact ⟨fun _ => ⟨c, e, hc', hl, fun i cv hi => ⟨(hv i cv hi).1, (hv i cv hi).2.mono (fun _ h => h) hp⟩⟩, fun l hm => by cases hm⟩
    · rw [if_neg em] at hk'
      have : rb' ≠ rb := fun e2 => em (hS.inj m b rb (by rw [hk']; simp) hne (e2 ▸ hb') hb)
      exact (hS.blk m k' rb' hk' hb').mono (fun _ h => h) hp (hw rb' this)

/-- A block that lies nowhere yet gets other cells. -/
theorem sim_ghost (hS : Sim D h β I w) {b : Nat} {k : Blk} (hk : hget h b = some k) (hb : β b = none) (g : Nat) (hg : k.gen ≤ g) (cells : List CV) {w' : World} (hh : w'.heap = w.heap) (hs : SameBut w w') :
    Sim D (hset h b ⟨g, cells, none⟩) β I w' ∧ Ext D h β I w (hset h b ⟨g, cells, none⟩) β I w' := by
  have hp : Pres D h β I w (hset h b ⟨g, cells, none⟩) β I w' := by
    refine ⟨fun _ h => h, fun _ _ => by rw [hh], fun m k' hm hk' => ?_⟩
    rw [hget_hset] at hk'
    by_cases em : m = b
    · subst em
      rw [if_pos rfl] at hk'
      cases hk'
      exact ⟨k, hk, hg, fun _ => ⟨rfl, fun rb c e hb2 hc => ⟨c, by rw [hh]; exact hc, Nat.le_refl _⟩⟩⟩
    · rw [if_neg em] at hk'
      exact ⟨k', hk', Nat.le_refl _, fun _ => ⟨rfl, fun rb c e hb2 hc => ⟨c, by rw [hh]; exact hc, Nat.le_refl _⟩⟩⟩
  have hdom : ∀ m, hget (hset h b ⟨g, cells, none⟩) m ≠ none → hget h m ≠ none := fun m hm => by
    rw [hget_hset] at hm
    by_cases em : m = b
    · subst em; rw [hk]; simp
    · rw [if_neg em] at hm; exact hm
  refine ⟨⟨fun m k' hk' => ?_, fun m k' rb' hk' hb' => ?_, fun m1 m2 rb' h1 h2 h3 h4 => hS.inj m1 m2 rb' (hdom _ h1) (hdom _ h2) h3 h4, fun m rb' hm hb' => hS.noI m rb' (hdom _ hm) hb', fun b' hb' => by rw [hh]; exact hS.ilt b' hb'⟩,
    ⟨hp, hs.os, hs.tape, hs.output, by rw [hh]; exact Nat.le_refl _, fun b' _ _ => by rw [hh], fun m rb' hm hb' => .inr ⟨m, hdom _ hm, hb'⟩, fun _ h => .inl h, fun _ _ _ => rfl⟩⟩
  · have := hdom m (by rw [hk']; simp)
    cases e2 : hget h m with
    | none => exact absurd e2 this
    | some k2 => exact hS.dom m k2 e2
  · rw [hget_hset] at hk'
    by_cases em : m = b
    · subst em; rw [hb] at hb'; cases hb'
    · rw [if_neg em] at hk'
      exact (hS.blk m k' rb' hk' hb').mono (fun _ h => h) hp (by rw [hh])
end
end Go.Cv
namespace Go.Cv
open Go

def ofVal1 : Value → CV
  | .agg cs => .agg (cs.toList.map .lit)
  | v => .lit v
def ofVal : Value → CV
  | .tuple vs => if vs.size = 0 then .lit (.tuple vs) else .tup (vs.toList.map ofVal1)
  | v => ofVal1 v

section
variable {D : Nat → Prop} {h : Heap} {β : Nat → Option Nat} {I : Nat → Prop} {w : World}

theorem getD_toList (a : Array Value) (i : Nat) : a.getD i undef = (a.toList[i]?).getD undef := by
  simp [Array.getD_eq_getD_getElem?]

theorem simv_ofVal1 (v : Value) : SimV D h β I w (ofVal1 v) v := by
  unfold ofVal1
  split
  · refine .agg (by simp) fun i c hi => ?_
    rw [List.getElem?_map] at hi
    rw [getD_toList]
    cases e : (‹Array Value›).toList[i]? with
    | none => rw [e] at hi; cases hi
    | some x => rw [e] at hi; simp at hi; subst hi; exact .lit _
  · exact .lit _

theorem simv_ofVal (v : Value) : SimV D h β I w (ofVal v) v := by
  unfold ofVal
  split
  · split
    · exact .lit _
    · refine .tup (by simp) fun i c hi => ?_
      rw [List.getElem?_map] at hi
      rw [getD_toList]
      cases e : (‹Array Value›).toList[i]? with
      | none => rw [e] at hi; cases hi
      | some x => rw [e] at hi; simp at hi; subst hi; exact simv_ofVal1 _
  · exact simv_ofVal1 _

def litOf : CV → Option Value
  | .lit v => some v
  | _ => none
def toVal : CV → Option Value
  | .lit v => some v
  | .agg cs => (cs.mapM litOf).map fun l => .agg l.toArray
  | _ => none

theorem simv_lit {v v' : Value} (hs : SimV D h β I w (.lit v) v') : v' = v := by cases hs; rfl

theorem mapM_litOf : ∀ (cs : List CV) (l : List Value), cs.mapM litOf = some l → cs = l.map .lit
  | [], l, h => by simp at h; subst h; rfl
  | c :: cs, l, h => by
    simp only [List.mapM_cons] at h
    cases c with
    | lit v =>
      simp only [litOf, Option.pure_def, Option.bind_eq_bind, Option.bind_some] at h
      cases e : cs.mapM litOf with
      | none => rw [e] at h; simp at h
      | some l' =>
        rw [e] at h
        simp at h
        subst h
        rw [mapM_litOf cs l' e]
        rfl
    | _ => simp [litOf] at h

theorem simv_toVal {cv : CV} {v v' : Value} (ht : toVal cv = some v) (hs : SimV D h β I w cv v') : v' = v := by
  cases cv with
  | lit u => simp only [toVal, Option.some.injEq] at ht; subst ht; exact simv_lit hs
  | agg cs =>
    simp only [toVal] at ht
    cases e : cs.mapM litOf with
    | none => rw [e] at ht; cases ht
    | some l =>
      rw [e] at ht
      simp only [Option.map_some, Option.some.injEq] at ht
      subst ht
      have := mapM_litOf cs l e
      subst this
      cases hs with
      | @agg _ vs hl hv =>
        congr 1
        apply Array.ext'
        apply List.ext_getElem?
        intro i
        simp only [List.length_map] at hl
        by_cases hi : i < l.length
        · have h1 := hv i (.lit l[i]) (by simp [hi])
          have h2 := simv_lit h1
          rw [getD_toList] at h2
          have h3 : i < vs.toList.length := by simp; omega
          rw [List.getElem?_eq_getElem h3] at h2 ⊢
          rw [List.getElem?_eq_getElem hi]
          simp at h2
          simp [h2]
        · rw [List.getElem?_eq_none (by simp; omega), List.getElem?_eq_none (by simp; omega)]
  | _ => simp [toVal] at ht

/-! ### Operands -/
def ev (fr : Fr) : Operand → CV
  | .tmp t => fget fr t
  | .const v => ofVal v
  | .global g => .lit (.pointer (some ⟨g, 0, none⟩))
  | .func f => .lit (.func (.func f) #[] #[])

def SimF (D : Nat → Prop) (h : Heap) (β : Nat → Option Nat) (I : Nat → Prop) (w : World) (N : Nat) (fr : Fr) (a : Act) : Prop :=
  N ≤ a.tmps.size ∧ ∀ t, SimV D h β I w (fget fr t) (a.tmps.getD t undef)

theorem SimF.ev {N : Nat} {fr : Fr} {a : Act} (hF : SimF D h β I w N fr a) (x : Operand) : SimV D h β I w (ev fr x) (a.eval x) := by
  cases x with
  | tmp t => exact hF.2 t
  | const v => exact simv_ofVal v
  | global g => exact .lit _
  | func f => exact .lit _

theorem SimF.mono {D' : Nat → Prop} {h' : Heap} {β' : Nat → Option Nat} {I' : Nat → Prop} {w' : World} {N : Nat} {fr : Fr} {a : Act} (hD : ∀ n, D n → D' n) (hp : Pres D h β I w h' β' I' w')
    (hF : SimF D h β I w N fr a) : SimF D' h' β' I' w' N fr a := ⟨hF.1, fun t => (hF.2 t).mono hD hp⟩

theorem SimF.put {N : Nat} {fr : Fr} {a : Act} (hF : SimF D h β I w N fr a) {d : Nat} (hd : d < N) {cv : CV} {v : Value} (hv : SimV D h β I w cv v) :
    SimF D h β I w N (fset fr d cv) (a.put (some d) v) := by
  refine ⟨by simp [Act.put]; exact hF.1, fun t => ?_⟩
  rw [fget_fset]
  have hsz := hF.1
  simp only [Act.put, Array.getD_eq_getD_getElem?, Array.getElem?_setIfInBounds]
  by_cases e : t = d
  · subst e
    rw [if_pos rfl, if_pos rfl, if_pos (by omega)]
    simpa using hv
  · rw [if_neg e, if_neg (Ne.symm e)]
    have := hF.2 t
    rwa [Array.getD_eq_getD_getElem?] at this

/-! ### Operations without memory: the model's own, run on literal values -/
def semVal (P : Program) {α : Type} : Sem α → Option α
  | .pure a => some a
  | .program k => semVal P (k P)
  | .mark _ k => semVal P k
  | _ => none

theorem semVal_run {P : Program} {α : Type} (s : Sem α) (a : α) (hs : semVal P s = some a) (w : World) : s.run P w = .ok a w := by
  induction s with
  | pure b => simp only [semVal, Option.some.injEq] at hs; subst hs; rfl
  | program k ih => simp only [semVal] at hs; exact ih _ hs
  | mark m k ih => simp only [semVal] at hs; exact ih hs
  | _ => simp [semVal] at hs

def noSel : Op → Bool
  | .select .. => false
  | _ => true

def litEnv (fr : Fr) (x : Operand) : Value := (toVal (ev fr x)).getD undef
def litEval (P : Program) (fr : Fr) (o : Oper) : Option CV :=
  if o.op.operands.all (fun x => (toVal (ev fr x)).isSome) && noSel o.op then
    match semVal P (execOp (litEnv fr) o) with
    | some (.value v) => some (ofVal v)
    | some .skip => some (.lit undef)
    | _ => none
  else none

/-- What is asked of an operation's real outcome. -/
def OpOk (D : Nat → Prop) (n : Nat) (h : Heap) (β : Nat → Option Nat) (I : Nat → Prop) (w : World) (cv : CV) (h' : Heap) (r : Result Next) : Prop :=
  ∃ v β' w', (r = .ok (.value v) w' ∨ (r = .ok .skip w' ∧ v = undef)) ∧ Sim (plus D n) h' β' I w' ∧ SimV (plus D n) h' β' I w' cv v ∧ Ext D h β I w h' β' I w'

theorem opOk_same (hS : Sim D h β I w) (n : Nat) {cv : CV} {v : Value} (hv : SimV D h β I w cv v) : OpOk D n h β I w cv h (.ok (.value v) w) :=
  ⟨v, β, w, .inl rfl, hS.more fun _ h => .inl h, hv.mono (fun _ h => .inl h) (Pres.refl ..), Ext.refl ..⟩

theorem lit_sound {P : Program} {fr : Fr} {a : Act} {N : Nat} {o : Oper} {cv : CV} (hS : Sim D h β I w) (hF : SimF D h β I w N fr a) (n : Nat) (he : litEval P fr o = some cv) :
    OpOk D n h β I w cv h ((execOp a.eval o).run P w) := by
  unfold litEval at he
  split at he
  · rename_i hall
    simp only [Bool.and_eq_true, Array.all_eq_true'] at hall
    obtain ⟨hall, hns⟩ := hall
    have hcongr : execOp a.eval o = execOp (litEnv fr) o := by
      refine execOp_congr o (fun cs b e => by rw [e] at hns; simp [noSel] at hns) fun x hx => ?_
      have h1 := hall x hx
      unfold litEnv
      cases e : toVal (ev fr x) with
      | none => rw [e] at h1; cases h1
      | some u => exact simv_toVal e (hF.ev x)
    rw [hcongr]
    split at he
    · rename_i v hv
      cases he
      rw [semVal_run _ _ hv]
      exact opOk_same hS n (simv_ofVal v)
    · rename_i hv
      cases he
      rw [semVal_run _ _ hv]
      exact ⟨undef, β, w, .inr ⟨rfl, rfl⟩, hS.more fun _ h => .inl h, .lit _, Ext.refl ..⟩
    · cases he
  · cases he

/-! ### Types -/
def tySize (P : Program) (t : TypeId) : Option Nat := (P.info? t).map (·.size)
def tyZero (P : Program) (t : TypeId) : Option Value := (P.info? t).bind (·.zero)
def tyAgg (P : Program) (t : TypeId) : Option Bool := (P.underlying t).map fun | .struct _ => true | .array _ _ => true | _ => false

variable {P : Program}
theorem run_tySize {t s : Nat} (hs : tySize P t = some s) : (sizeOf t).run P w = .ok s w := by
  unfold tySize at hs
  cases e : P.info? t with
  | none => rw [e] at hs; cases hs
  | some i => rw [e] at hs; simp at hs; subst hs; simp [sizeOf, typeInfo, e]
theorem run_tyZero {t : Nat} {v : Value} (hs : tyZero P t = some v) : (zeroValue t).run P w = .ok v w := by
  unfold tyZero at hs
  cases e : P.info? t with
  | none => rw [e] at hs; cases hs
  | some i => rw [e] at hs; simp at hs; simp [zeroValue, typeInfo, e, hs]
theorem run_under {t : Nat} {d : TypeDesc} (hs : P.underlying t = some d) : (underlying t).run P w = .ok d w := by
  simp [underlying, hs]
theorem run_tyAgg {t : Nat} {b : Bool} (hs : tyAgg P t = some b) : (isAgg t).run P w = .ok b w := by
  unfold tyAgg at hs
  cases e : P.underlying t with
  | none => rw [e] at hs; cases hs
  | some d =>
    rw [e] at hs
    simp only [Option.map_some, Option.some.injEq] at hs
    simp only [isAgg, Sem.run_bind, run_under e, Result.andThen_ok]
    cases d <;> simp_all

/-! ### Cells of values -/
def one (h : Heap) : CV → Bool
  | .lit v => v.oneCell'
  | .ptr b g _ => match hget h b with | some k => decide (k.gen ≤ g) | none => false
  | .sl b g _ _ _ => match hget h b with | some k => decide (k.gen ≤ g) | none => false
  | .mp b g => match hget h b with | some k => decide (k.gen ≤ g) | none => false
  | .iptr .. | .isl .. | .fn .. | .ifc .. => true
  | _ => false
def cellsOf (h : Heap) : CV → Option (List CV)
  | .agg cs => if cs.all (one h) then some cs else none
  | c => if one h c then some [c] else none

theorem one_real {cv : CV} {v : Value} (h1 : one h cv = true) (hs : SimV D h β I w cv v) : v.oneCell' = true := by
  cases hs with
  | undef => simp [one] at h1
  | lit => exact h1
  | @ptrNo b g off v hd hn =>
    simp only [one] at h1
    split at h1
    · rename_i k hk; have := hn k hk; simp at h1; omega
    · cases h1
  | ptr => rfl
  | @slNo b g off len sz v hd hn =>
    simp only [one] at h1
    split at h1
    · rename_i k hk; have := hn k hk; simp at h1; omega
    · cases h1
  | sl => rfl
  | iptr => rfl
  | isl => rfl
  | agg => simp [one] at h1
  | tup => simp [one] at h1
  | fn => rfl
  | ifc => rfl
  | @mpNo b g v hd hn =>
    simp only [one] at h1
    split at h1
    · rename_i k hk; have := hn k hk; simp at h1; omega
    · cases h1
  | mp => rfl

theorem cells_of_one {v : Value} (h1 : v.oneCell' = true) : v.cells = #[v] := by
  cases v <;> first | rfl | simp [Value.oneCell'] at h1

theorem cellsOf_real {cv : CV} {v : Value} {cs : List CV} (hc : cellsOf h cv = some cs) (hs : SimV D h β I w cv v) :
    v.cells.size = cs.length ∧ ∀ i c, cs[i]? = some c → (v.cells.getD i undef).oneCell' = true ∧ SimV D h β I w c (v.cells.getD i undef) := by
  have single : ∀ c, one h c = true → SimV D h β I w c v → cs = [c] → v.cells.size = cs.length ∧ ∀ i c, cs[i]? = some c → (v.cells.getD i undef).oneCell' = true ∧ SimV D h β I w c (v.cells.getD i undef) := by
    intro c h1 hs e
    subst e
    have hv := one_real h1 hs
    rw [cells_of_one hv]
    refine ⟨rfl, fun i c' hi => ?_⟩
    match i, hi with
    | 0, hi => simp at hi; subst hi; exact ⟨hv, hs⟩
    | i + 1, hi => simp at hi
  cases cv with
  | agg l =>
    simp only [cellsOf] at hc
    split at hc
    · rename_i hall
      cases hc
      cases hs with
      | agg hl hv => exact ⟨hl.symm, fun i c hi => ⟨one_real (List.all_eq_true.1 hall c (List.mem_of_getElem? hi)) (hv i c hi), hv i c hi⟩⟩
    · cases hc
  | _ =>
    simp only [cellsOf] at hc
    split at hc
    · rename_i h1
      cases hc
      exact single _ h1 hs rfl
    · cases hc

/-- Where a pointer leads: the cells from there on. -/
def cellsAt (h : Heap) : CV → Option (List CV)
  | .ptr b g off => match cget h b with
    | some k => if k.gen ≤ g then some (k.cells.drop off) else none
    | none => none
  | .iptr cells off => some (cells.drop off)
  | _ => none

theorem add_plain (b o n : Nat) : (⟨b, o, none⟩ : Addr).add n = ⟨b, o + n, none⟩ := by
  unfold Addr.add
  split
  · rename_i e; subst e; rfl
  · rfl

theorem cellsAt_real {cv : CV} {v : Value} {cs : List CV} (hS : Sim D h β I w) (hc : cellsAt h cv = some cs) (hs : SimV D h β I w cv v) :
    ∃ b o, v = .pointer (some ⟨b, o, none⟩) ∧ ∃ vs : Nat → Value, ∀ i c, cs[i]? = some c → w.cell? ⟨b, o + i, none⟩ = some (vs i) ∧ (vs i).oneCell' = true ∧ SimV D h β I w c (vs i) := by
  cases hs with
  | @ptrNo b g off v hd hn =>
    simp only [cellsAt] at hc
    split at hc
    · rename_i k hk; have := hn k (cget_spec hk).1; rw [if_neg (by omega)] at hc; cases hc
    · cases hc
  | @ptr b g off rb hd hg hb =>
    simp only [cellsAt] at hc
    split at hc
    · rename_i k hk
      obtain ⟨hk, hmap⟩ := cget_spec hk
      split at hc
      · cases hc
        obtain ⟨c, e, h1, h2, h3⟩ := (hS.blk b k rb hk hb).cell hmap
        refine ⟨rb, off, rfl, fun i => c.getD (off + i) undef, fun i cv hi => ?_⟩
        rw [List.getElem?_drop] at hi
        have hlt : off + i < k.cells.length := by
          rcases Nat.lt_or_ge (off + i) k.cells.length with h4 | h4
          · exact h4
          · rw [List.getElem?_eq_none h4] at hi; cases hi
        have h5 : off + i < c.size := by omega
        refine ⟨?_, h3 _ _ hi⟩
        simp [World.cell?, h1, h5]
      · cases hc
    · cases hc
  | @iptr cells off blk o vs hI hcc h1 hv =>
    simp only [cellsAt, Option.some.injEq] at hc
    subst hc
    refine ⟨blk, o + off, rfl, fun i => vs (off + i), fun i c hi => ?_⟩
    rw [List.getElem?_drop] at hi
    have := hcc _ _ hi
    exact ⟨by rw [Nat.add_assoc]; exact this, h1 _ _ hi, hv _ _ hi⟩
  | _ => simp [cellsAt] at hc

def loadEval (P : Program) (h : Heap) (t : TypeId) (a : CV) : Option CV :=
  match cellsAt h a with
  | none => none
  | some cs => match tyAgg P t with
    | some true => match tySize P t with
      | some s => if s ≤ cs.length then some (.agg (cs.take s)) else none
      | none => none
    | some false => cs.head?
    | none => none

theorem load_sound {t : TypeId} {a cv : CV} {v : Value} (hS : Sim D h β I w) (he : loadEval P h t a = some cv) (hs : SimV D h β I w a v) :
    ∃ u, (Instr.loadAt t v).run P w = .ok u w ∧ SimV D h β I w cv u := by
  unfold loadEval at he
  split at he
  · cases he
  rename_i cs hcs
  obtain ⟨b, o, rfl, vs, hvs⟩ := cellsAt_real hS hcs hs
  split at he
  · rename_i hag
    split at he
    · rename_i s hs2
      split at he
      · rename_i hle
        cases he
        have hl := run_loadCells (P := P) w ⟨b, o, none⟩ s vs (fun j hj => by
          rw [add_plain]
          exact (hvs j _ (List.getElem?_eq_getElem (by omega))).1)
        refine ⟨.agg ((List.range s).map vs).toArray, ?_, ?_⟩
        · simp [Instr.loadAt, Instr.sureAddr, loadVar, run_tyAgg hag, run_tySize hs2, hl]
        · refine .agg (by simp; omega) fun i c hi => ?_
          rw [List.getElem?_take] at hi
          split at hi
          · rename_i hi2
            have := (hvs i c hi).2.2
            simpa [getD_toList, hi2] using this
          · cases hi
      · cases he
    · cases he
  · rename_i hag
    rw [List.head?_eq_getElem?] at he
    obtain ⟨h1, _, h3⟩ := hvs 0 cv he
    refine ⟨vs 0, ?_, h3⟩
    rw [Nat.add_zero] at h1
    simp [Instr.loadAt, Instr.sureAddr, loadVar, run_tyAgg hag, h1]
  · cases he

def overL : List CV → List CV → List CV
  | l, [] => l
  | [], _ :: _ => []
  | _ :: l, c :: cs => c :: overL l cs
def writeAt : List CV → Nat → List CV → List CV
  | [], _, _ => []
  | x :: l, 0, cs => overL (x :: l) cs
  | x :: l, n + 1, cs => x :: writeAt l n cs
theorem writeAt_nil' : ∀ (l : List CV) (n : Nat), writeAt l n [] = l
  | [], _ => rfl
  | x :: l, 0 => rfl
  | x :: l, n + 1 => by rw [writeAt, writeAt_nil']
theorem overL_write : ∀ (l cs : List CV), overL l cs = writeAt l 0 cs
  | [], [] => rfl
  | [], _ :: _ => rfl
  | _ :: _, _ => rfl
theorem writeAt_cons' : ∀ (l : List CV) (n : Nat) (c : CV) (cs : List CV), writeAt l n (c :: cs) = writeAt (l.set n c) (n + 1) cs
  | [], n, c, cs => by simp [writeAt]
  | x :: l, 0, c, cs => by simp only [writeAt, List.set_cons_zero, overL, overL_write]
  | x :: l, n + 1, c, cs => by simp only [writeAt, List.set_cons_succ, writeAt_cons' l n c cs]

theorem writeAt_length : ∀ (cs : List CV) (l : List CV) (off : Nat), (writeAt l off cs).length = l.length
  | [], l, _ => by rw [writeAt_nil']
  | c :: cs, l, off => by rw [writeAt_cons', writeAt_length]; simp
theorem writeAt_get : ∀ (cs : List CV) (l : List CV) (off : Nat), off + cs.length ≤ l.length → ∀ i, (writeAt l off cs)[i]? = if off ≤ i ∧ i < off + cs.length then cs[i - off]? else l[i]?
  | [], l, off, _, i => by rw [writeAt_nil', if_neg (by simp only [List.length_nil]; omega)]
  | c :: cs, l, off, hl, i => by
    simp only [List.length_cons] at hl
    rw [writeAt_cons', writeAt_get cs _ _ (by simp; omega)]
    by_cases h1 : i = off
    · subst h1
      rw [if_neg (by omega), if_pos (by simp only [List.length_cons]; omega)]
      have : i < l.length := by omega
      simp [this]
    · by_cases h2 : off + 1 ≤ i ∧ i < off + 1 + cs.length
      · rw [if_pos h2, if_pos (by simp only [List.length_cons]; omega)]
        rw [show i - off = (i - (off + 1)) + 1 from by omega]
        simp
      · rw [if_neg h2, if_neg (by simp only [List.length_cons]; omega), List.getElem?_set_ne (by omega)]

def storeEval (P : Program) (h : Heap) (t : TypeId) (a v : CV) : Option Heap :=
  match a with
  | .ptr b g off => match cget h b with
    | none => none
    | some k => match tySize P t, cellsOf h v with
      | some s, some cs => if k.gen ≤ g ∧ cs.length = s ∧ off + s ≤ k.cells.length then some (hset h b ⟨k.gen, writeAt k.cells off cs, none⟩) else none
      | _, _ => none
  | _ => none

theorem setRow_other (w : World) (g : Nat) (cs : Array Value) (m : Nat) (hm : m ≠ g) : (w.setRow g cs).heap[m]? = w.heap[m]? := by
  simp only [World.setRow, Array.getElem?_modify]
  rw [if_neg (Ne.symm hm)]
theorem setRow_size (w : World) (g : Nat) (cs : Array Value) : (w.setRow g cs).heap.size = w.heap.size := by
  simp [World.setRow]
theorem setRow_but (w : World) (g : Nat) (cs : Array Value) : SameBut w (w.setRow g cs) := ⟨rfl, rfl, rfl⟩

theorem store_sound {t : TypeId} {a x : CV} {v u : Value} {h' : Heap} (hS : Sim D h β I w) (he : storeEval P h t a x = some h') (hs : SimV D h β I w a v) (hx : SimV D h β I w x u) :
    ∃ w', (Instr.storeAt t v u).run P w = .ok () w' ∧ Sim D h' β I w' ∧ Ext D h β I w h' β I w' := by
  unfold storeEval at he
  split at he
  · rename_i b g off
    split at he
    · cases he
    rename_i k hk
    obtain ⟨hk, hmap⟩ := cget_spec hk
    split at he
    · rename_i s cs hs1 hcs
      split at he
      · rename_i hcond
        obtain ⟨hg, hlen, hfit⟩ := hcond
        cases he
        obtain ⟨hsz, hcells⟩ := cellsOf_real hcs hx
        cases hs with
        | ptrNo hd hn => have := hn k hk; omega
        | @ptr _ _ _ rb hd hg2 hb =>
          obtain ⟨c, e, h1, h2, h3⟩ := (hS.blk b k rb hk hb).cell hmap
          have hone : ∀ y ∈ u.cells.toList, y.oneCell' = true := fun y hy => by
            obtain ⟨i, hi, rfl⟩ := List.mem_iff_getElem.1 hy
            have hi' : i < cs.length := by simp at hi; omega
            have := (hcells i cs[i] (List.getElem?_eq_getElem hi')).1
            rw [getD_toList, List.getElem?_eq_getElem hi] at this
            simpa using this
          have hlen2 : u.cells.toList.length = s := by simp; omega
          have hrun := run_storeCells_at P rb off e u.cells.toList 0 c w h1 (by omega) hone
          refine ⟨w.setRow rb ((c.toList.take (off + 0) ++ u.cells.toList ++ c.toList.drop (off + 0 + u.cells.toList.length)).toArray), ?_, ?_⟩
          · rw [Instr.storeAt, Instr.sureAddr]
            simp only [storeVar, Sem.run_bind, Sem.run_pure, Result.andThen_ok, run_tySize hs1]
            rw [if_neg (by omega)]
            exact hrun
          · have hrow := setRow_heap w rb c ((c.toList.take (off + 0) ++ u.cells.toList ++ c.toList.drop (off + 0 + u.cells.toList.length)).toArray) e (0, 0) h1
            refine sim_write hS hk hb (writeAt k.cells off cs) (c := (c.toList.take (off + 0) ++ u.cells.toList ++ c.toList.drop (off + 0 + u.cells.toList.length)).toArray) (e := e) (fun m hm => setRow_other _ _ _ _ hm) (setRow_size _ _ _) hrow (fun c0 e0 h0 => ?_) (setRow_but _ _ _) ?_ fun i cv hi => ?_
            · rw [h1] at h0; cases h0
              refine ⟨?_, rfl⟩
              simp only [Nat.add_zero, List.size_toArray, List.length_append, List.length_take, List.length_drop, Array.length_toList]
              have : u.cells.size = s := by omega
              omega
            · rw [writeAt_length]
              simp only [Nat.add_zero, List.size_toArray, List.length_append, List.length_take, List.length_drop, Array.length_toList]
              have : u.cells.size = s := by omega
              omega
            · rw [writeAt_get _ _ _ (by omega)] at hi
              rw [getD_toList]
              simp only [Nat.add_zero]
              have hus : u.cells.size = s := by omega
              by_cases hin : off ≤ i ∧ i < off + cs.length
              · rw [if_pos hin] at hi
                have := hcells _ _ hi
                rw [getD_toList] at this
                have e1 : ((c.toList.take off ++ u.cells.toList ++ c.toList.drop (off + u.cells.toList.length)))[i]? = u.cells.toList[i - off]? := by
                  rw [List.append_assoc, List.getElem?_append_right (by simp; omega), List.getElem?_append_left (by simp; omega)]
                  congr 1
                  simp; omega
                rw [e1]; exact this
              · rw [if_neg hin] at hi
                have := h3 _ _ hi
                rw [getD_toList] at this
                have e1 : ((c.toList.take off ++ u.cells.toList ++ c.toList.drop (off + u.cells.toList.length)))[i]? = c.toList[i]? := by
                  by_cases h5 : i < off
                  · rw [List.append_assoc, List.getElem?_append_left (by simp; omega), List.getElem?_take, if_pos h5]
                  · rw [List.getElem?_append_right (by simp; omega), List.getElem?_drop]
                    congr 1
                    simp; omega
                rw [e1]; exact this
      · cases he
    · cases he
  · cases he
end
end Go.Cv
namespace Go.Cv
open Go

section
variable {D : Nat → Prop} {h : Heap} {β : Nat → Option Nat} {I : Nat → Prop} {w : World} {P : Program}

theorem upd_at (β : Nat → Option Nat) (n rb : Nat) : upd β n rb n = some rb := by unfold upd; rw [if_pos rfl]

/-- A new variable of known cells. -/
theorem alloc_ok (hS : Sim D h β I w) {n : Nat} (hn : ¬ D n) {e : TypeId} {v : Value} {cs : List CV} (hc : v.cells.size = cs.length)
    (hv : ∀ i c, cs[i]? = some c → (v.cells.getD i undef).oneCell' = true ∧ SimV D h β I w c (v.cells.getD i undef)) :
    ∃ w', (newVar e v).run P w = .ok ⟨w.heap.size, 0, none⟩ w' ∧ Sim (plus D n) ((n, ⟨0, cs, none⟩) :: h) (upd β n w.heap.size) I w' ∧
      SimV (plus D n) ((n, ⟨0, cs, none⟩) :: h) (upd β n w.heap.size) I w' (.ptr n 0 0) (.pointer (some ⟨w.heap.size, 0, none⟩)) ∧ Ext D h β I w ((n, ⟨0, cs, none⟩) :: h) (upd β n w.heap.size) I w' := by
  obtain ⟨h1, h2⟩ := sim_alloc hS hn (w' := { w with heap := w.heap.push (.cells v.cells e) }) (c := v.cells) (e := e) cs rfl ⟨rfl, rfl, rfl⟩ (by omega) hv
  refine ⟨_, ?_, h1, ?_, h2⟩
  · simp [newVar, newRow]
  · refine .ptr (.inr rfl) (fun k hk => ?_) (upd_at ..)
    rw [hget_cons, if_pos rfl] at hk
    cases hk
    exact Nat.le_refl _

def litCells (z : Value) : Option (List CV) := if z.cells.toList.all (·.oneCell') then some (z.cells.toList.map .lit) else none
theorem litCells_ok {z : Value} {cs : List CV} (hc : litCells z = some cs) : z.cells.size = cs.length ∧ ∀ i c, cs[i]? = some c → (z.cells.getD i undef).oneCell' = true ∧ SimV D h β I w c (z.cells.getD i undef) := by
  unfold litCells at hc
  split at hc
  · rename_i hall
    cases hc
    refine ⟨by simp, fun i c hi => ?_⟩
    rw [List.getElem?_map] at hi
    cases e : z.cells.toList[i]? with
    | none => rw [e] at hi; cases hi
    | some x =>
      rw [e] at hi; simp at hi; subst hi
      rw [getD_toList, e]
      exact ⟨List.all_eq_true.1 hall x (List.mem_of_getElem? e), .lit _⟩
  · cases hc

def allocEval (P : Program) (n : Nat) (h : Heap) (t : TypeId) : Option (CV × Heap) :=
  match tyZero P t with
  | some z => match litCells z with
    | some cs => some (.ptr n 0 0, (n, ⟨0, cs, none⟩) :: h)
    | none => none
  | none => none
theorem alloc_sound {t : TypeId} {cv : CV} {h' : Heap} (hS : Sim D h β I w) {n : Nat} (hn : ¬ D n) (he : allocEval P n h t = some (cv, h')) :
    OpOk D n h β I w cv h' ((do pure (Next.value (← Instr.alloc t true (.tuple #[])))).run P w) := by
  unfold allocEval at he
  split at he
  · rename_i z hz
    split at he
    · rename_i cs hcs
      cases he
      obtain ⟨h1, h2⟩ := litCells_ok (D := D) (h := h) (β := β) (I := I) (w := w) hcs
      obtain ⟨w', hr, hs1, hs2, hs3⟩ := alloc_ok (P := P) (e := t) hS hn h1 h2
      refine ⟨_, _, w', .inl ?_, hs1, hs2, hs3⟩
      simp [Instr.alloc, run_tyZero hz, hr]
    · cases he
  · cases he

def boxEval (n : Nat) (h : Heap) (x : CV) : Option (CV × Heap) :=
  match cellsOf h x with
  | some cs => some (.ptr n 0 0, (n, ⟨0, cs, none⟩) :: h)
  | none => none
theorem box_sound {t : TypeId} {x cv : CV} {v : Value} {h' : Heap} (hS : Sim D h β I w) {n : Nat} (hn : ¬ D n) (he : boxEval n h x = some (cv, h')) (hs : SimV D h β I w x v) :
    OpOk D n h β I w cv h' ((do pure (Next.value (← Instr.box t v))).run P w) := by
  unfold boxEval at he
  split at he
  · rename_i cs hcs
    cases he
    obtain ⟨h1, h2⟩ := cellsOf_real hcs hs
    obtain ⟨w', hr, hs1, hs2, hs3⟩ := alloc_ok (P := P) (e := t) hS hn h1 h2
    refine ⟨_, _, w', .inl ?_, hs1, hs2, hs3⟩
    simp [Instr.box, hr]
  · cases he

/-! ### Literals of structs and slices -/
def fillC (h : Heap) (place : Nat → Option (Nat × Nat)) : List CV → List (Nat × CV) → Option (List CV)
  | cells, [] => some cells
  | cells, (i, v) :: rest => match place i with
    | none => none
    | some (off, size) => match cellsOf h v with
      | none => none
      | some cs => if cs.length = size ∧ off + cs.length ≤ cells.length then fillC h place (writeAt cells off cs) rest else none

theorem foldl_set_get : ∀ (l : List Value) (k off : Nat) (cells : Array Value) (i : Nat), off + k + l.length ≤ cells.size →
    ((l.zipIdx k).foldl (fun cs p => cs.setIfInBounds (off + p.2) p.1) cells).size = cells.size ∧
    ((l.zipIdx k).foldl (fun cs p => cs.setIfInBounds (off + p.2) p.1) cells)[i]? = if off + k ≤ i ∧ i < off + k + l.length then l[i - (off + k)]? else cells[i]?
  | [], k, off, cells, i, _ => by simp; intro h1 h2; omega
  | v :: l, k, off, cells, i, hl => by
    simp only [List.length_cons] at hl
    obtain ⟨h1, h2⟩ := foldl_set_get l (k + 1) off (cells.setIfInBounds (off + k) v) i (by simp; omega)
    simp only [List.zipIdx_cons, List.foldl_cons]
    refine ⟨by rw [h1]; simp, ?_⟩
    rw [h2]
    by_cases e : i = off + k
    · subst e
      rw [if_neg (by omega), if_pos (by simp only [List.length_cons]; omega)]
      have : off + k < cells.size := by omega
      simp [this]
    · by_cases e2 : off + (k + 1) ≤ i ∧ i < off + (k + 1) + l.length
      · rw [if_pos e2, if_pos (by simp only [List.length_cons]; omega)]
        rw [show i - (off + k) = (i - (off + (k + 1))) + 1 from by omega]
        simp
      · rw [if_neg e2, if_neg (by simp only [List.length_cons]; omega)]
        rw [Array.getElem?_setIfInBounds_ne (Ne.symm e)]

/-- Cells of a canonical row, against a real array. -/
def RowR (D : Nat → Prop) (h : Heap) (β : Nat → Option Nat) (I : Nat → Prop) (w : World) (cs : List CV) (c : Array Value) : Prop :=
  c.size = cs.length ∧ ∀ i cv, cs[i]? = some cv → (c.getD i undef).oneCell' = true ∧ SimV D h β I w cv (c.getD i undef)

theorem rowR_write {cells cs : List CV} {c u : Array Value} {off : Nat} (h1 : RowR D h β I w cells c) (h2 : RowR D h β I w cs u) (hf : off + cs.length ≤ cells.length) :
    RowR D h β I w (writeAt cells off cs) (u.zipIdx.foldl (fun cs p => cs.setIfInBounds (off + p.2) p.1) c) := by
  have e0 : u.zipIdx.foldl (fun cs p => cs.setIfInBounds (off + p.2) p.1) c = (u.toList.zipIdx 0).foldl (fun cs p => cs.setIfInBounds (off + p.2) p.1) c := by
    rw [← Array.foldl_toList, Array.toList_zipIdx]
  have hsz : off + 0 + u.toList.length ≤ c.size := by have := h1.1; have := h2.1; simp; omega
  refine ⟨?_, fun i cv hi => ?_⟩
  · rw [e0, (foldl_set_get u.toList 0 off c 0 hsz).1, writeAt_length]; exact h1.1
  · rw [writeAt_get _ _ _ hf] at hi
    have e1 := (foldl_set_get u.toList 0 off c i hsz).2
    rw [e0, Array.getD_eq_getD_getElem?, e1]
    have hu := h2.1
    by_cases hin : off ≤ i ∧ i < off + cs.length
    · rw [if_pos hin] at hi
      rw [if_pos (by simp; omega)]
      have := h2.2 _ _ hi
      rw [getD_toList] at this
      simpa using this
    · rw [if_neg hin] at hi
      rw [if_neg (by simp; omega)]
      have := h1.2 _ _ hi
      rw [Array.getD_eq_getD_getElem?] at this
      exact this

theorem fill_sound {place : Nat → Option (Nat × Nat)} : ∀ (parts : List (Nat × CV)) (real : List (Nat × Value)) (cells out : List CV) (c : Array Value), RowR D h β I w cells c →
    parts.length = real.length → (∀ (j : Nat) (p : Nat × CV) (r : Nat × Value), parts[j]? = some p → real[j]? = some r → p.1 = r.1 ∧ SimV D h β I w p.2 r.2) →
    fillC h place cells parts = some out → ∃ c', Instr.fill place c real = some c' ∧ RowR D h β I w out c'
  | [], [], cells, out, c, hr, _, _, he => by
    simp only [fillC, Option.some.injEq] at he; subst he; exact ⟨c, rfl, hr⟩
  | [], _ :: _, _, _, _, _, hl, _, _ => by simp at hl
  | _ :: _, [], _, _, _, _, hl, _, _ => by simp at hl
  | (i, x) :: parts, (j, v) :: real, cells, out, c, hr, hl, hp, he => by
    obtain ⟨e1, hx⟩ := hp 0 (i, x) (j, v) rfl rfl
    simp only at e1 hx
    subst e1
    simp only [fillC] at he
    split at he
    · cases he
    rename_i off size hpl
    split at he
    · cases he
    rename_i cs hcs
    split at he
    · rename_i hcond
      obtain ⟨h1, h2⟩ := cellsOf_real hcs hx
      have hw := rowR_write (u := v.cells) hr ⟨h1, h2⟩ hcond.2
      obtain ⟨c', hc', hr'⟩ := fill_sound parts real _ _ _ hw (by simpa using hl) (fun k p r hk hk2 => hp (k + 1) p r (by simpa using hk) (by simpa using hk2)) he
      refine ⟨c', ?_, hr'⟩
      simp only [Instr.fill, hpl]
      rw [if_neg, ← hc']
      have := hr.1
      simp; omega
    · cases he

def partsC (fr : Fr) (ps : Array (Nat × Operand)) : List (Nat × CV) := ps.toList.map fun p => (p.1, ev fr p.2)

theorem parts_rel {N : Nat} {fr : Fr} {a : Act} (hF : SimF D h β I w N fr a) (ps : Array (Nat × Operand)) :
    (partsC fr ps).length = ((ps.map fun (i, x) => (i, a.eval x)).toList).length ∧
    ∀ (j : Nat) (p : Nat × CV) (r : Nat × Value), (partsC fr ps)[j]? = some p → ((ps.map fun (i, x) => (i, a.eval x)).toList)[j]? = some r → p.1 = r.1 ∧ SimV D h β I w p.2 r.2 := by
  refine ⟨by simp [partsC], fun j p r h1 h2 => ?_⟩
  simp only [partsC, List.getElem?_map, Array.toList_map] at h1 h2
  cases e : ps.toList[j]? with
  | none => rw [e] at h1; cases h1
  | some q =>
    rw [e] at h1 h2
    simp at h1 h2
    subst h1; subst h2
    exact ⟨rfl, hF.ev _⟩

def placesOf (P : Program) (fields : List Field) : Option (List (Nat × Nat)) := fields.mapM fun f => (tySize P f.type).map fun s => (f.offset, s)

theorem run_places {P : Program} : ∀ (fs : List Field) (pl : List (Nat × Nat)), placesOf P fs = some pl → ∀ w, (fs.mapM fun f => do pure (f.offset, ← sizeOf f.type) : Sem (List (Nat × Nat))).run P w = .ok pl w
  | [], pl, h, w => by simp [placesOf] at h; subst h; simp
  | f :: fs, pl, h, w => by
    simp only [placesOf, List.mapM_cons, Option.bind_eq_bind] at h
    cases e : tySize P f.type with
    | none => rw [e] at h; simp at h
    | some s =>
      rw [e] at h
      simp only [Option.map_some, Option.bind_some] at h
      cases e2 : placesOf P fs with
      | none => unfold placesOf at e2; rw [e2] at h; simp at h
      | some pl' =>
        have e3 := e2
        unfold placesOf at e2
        rw [e2] at h
        simp at h
        subst h
        have := run_places fs pl' e3 w
        simp only [List.mapM_cons, Sem.run_bind, run_tySize e, Result.andThen_ok, this, Sem.run_pure]

def buildEval (P : Program) (h : Heap) (t : TypeId) (parts : List (Nat × CV)) : Option CV :=
  match tyZero P t with
  | none => none
  | some z => match litCells z, P.underlying t with
    | some cells, some (.struct fields) => match placesOf P fields.toList with
      | some pl => (fillC h (pl.toArray[·]?) cells parts).map .agg
      | none => none
    | some cells, some (.array _ elem) => match tySize P elem with
      | some s => (fillC h (fun i => some (i * s, s)) cells parts).map .agg
      | none => none
    | _, _ => none

theorem rowR_agg {cs : List CV} {c : Array Value} (hr : RowR D h β I w cs c) : SimV D h β I w (.agg cs) (.agg c) := .agg hr.1.symm fun i cv hi => (hr.2 i cv hi).2

theorem build_sound {N : Nat} {fr : Fr} {a : Act} {t : TypeId} {ps : Array (Nat × Operand)} {cv : CV} (hF : SimF D h β I w N fr a) (he : buildEval P h t (partsC fr ps) = some cv) :
    ∃ v, (Instr.build t (ps.map fun (i, x) => (i, a.eval x))).run P w = .ok v w ∧ SimV D h β I w cv v := by
  obtain ⟨hl, hp⟩ := parts_rel hF ps
  unfold buildEval at he
  split at he
  · cases he
  rename_i z hz
  split at he
  · rename_i cells fields hcl hu
    split at he
    · rename_i pl hpl
      cases e : fillC h (pl.toArray[·]?) cells (partsC fr ps) with
      | none => rw [e] at he; cases he
      | some out =>
        rw [e] at he; simp at he; subst he
        obtain ⟨h1, h2⟩ := litCells_ok (D := D) (h := h) (β := β) (I := I) (w := w) hcl
        obtain ⟨c', hc', hr⟩ := fill_sound _ _ _ _ _ ⟨h1, h2⟩ hl hp e
        refine ⟨.agg c', ?_, rowR_agg hr⟩
        have hplr : (fields.mapM fun f => do pure (f.offset, ← sizeOf f.type) : Sem (Array (Nat × Nat))).run P w = .ok pl.toArray w := by
          rw [Array.mapM_eq_mapM_toList]
          simp only [Sem.run_map, run_places _ _ hpl w, Result.andThen_ok]
        simp only [Instr.build, Sem.run_bind, run_tyZero hz, Result.andThen_ok, run_under hu, hplr]
        rw [hc']
        simp
    · cases he
  · rename_i cells n elem hcl hu
    split at he
    · rename_i s hs
      cases e : fillC h (fun i => some (i * s, s)) cells (partsC fr ps) with
      | none => rw [e] at he; cases he
      | some out =>
        rw [e] at he; simp at he; subst he
        obtain ⟨h1, h2⟩ := litCells_ok (D := D) (h := h) (β := β) (I := I) (w := w) hcl
        obtain ⟨c', hc', hr⟩ := fill_sound _ _ _ _ _ ⟨h1, h2⟩ hl hp e
        refine ⟨.agg c', ?_, rowR_agg hr⟩
        simp only [Instr.build, Sem.run_bind, run_tyZero hz, Result.andThen_ok, run_under hu, run_tySize hs]
        rw [hc']
        simp
    · cases he
  · cases he

/-- A new row that a slice is over. -/
theorem newslice_ok (hS : Sim D h β I w) {n g : Nat} (hn : ¬ D n) {w0 w' : World} {e : TypeId} {c : Array Value} {cs : List CV} {len cap sz : Nat} (h0 : w0.heap = w.heap) (hb : SameBut w w0)
    (hw : w' = { w0 with heap := w0.heap.push (.cells c e) }) (hr : cs.length ≤ c.size) (hv : ∀ i cv, cs[i]? = some cv → (c.getD i undef).oneCell' = true ∧ SimV D h β I w cv (c.getD i undef)) (hl : len ≤ cap) (hc : cap * sz ≤ c.size) :
    Sim (plus D n) ((n, ⟨g, cs, none⟩) :: h) (upd β n w.heap.size) I w' ∧
      SimV (plus D n) ((n, ⟨g, cs, none⟩) :: h) (upd β n w.heap.size) I w' (.sl n g 0 len sz) (.slice (some ⟨w0.heap.size, 0, none⟩) len cap) ∧ Ext D h β I w ((n, ⟨g, cs, none⟩) :: h) (upd β n w.heap.size) I w' := by
  obtain ⟨h1, h2⟩ := sim_alloc hS hn (w' := w') (c := c) (e := e) cs (by rw [hw]; simp [h0]) (by rw [hw]; exact ⟨hb.os, hb.tape, hb.output⟩) hr hv
  refine ⟨h1, ?_, h2⟩
  rw [h0]
  refine .sl (c := c) (e := e) (.inr rfl) (fun k hk => ?_) (upd_at ..) (by rw [hw]; simp [h0]) hl (by omega) (.inl rfl)
  rw [hget_cons, if_pos rfl] at hk
  cases hk
  exact Nat.le_refl _

def zeroRow (zl : List CV) : Nat → List CV
  | 0 => []
  | n + 1 => zl ++ zeroRow zl n
theorem zeroRow_length (zl : List CV) (n : Nat) : (zeroRow zl n).length = n * zl.length := by
  induction n with
  | zero => simp [zeroRow]
  | succ n ih => simp [zeroRow, ih, Nat.succ_mul]; omega
theorem zeroRow_get (zl : List CV) : ∀ (n i : Nat), i < n * zl.length → (zeroRow zl n)[i]? = zl[i % zl.length]?
  | 0, i, h => by simp at h
  | n + 1, i, h => by
    have hz : 0 < zl.length := by
      rcases Nat.eq_zero_or_pos zl.length with h0 | h0
      · rw [h0] at h; simp at h
      · exact h0
    simp only [zeroRow]
    by_cases h1 : i < zl.length
    · rw [List.getElem?_append_left h1, Nat.mod_eq_of_lt h1]
    · rw [List.getElem?_append_right (by omega), zeroRow_get zl n (i - zl.length) (by rw [Nat.succ_mul] at h; omega)]
      rw [← Nat.mod_eq_sub_mod (by omega)]

theorem rowR_zero {z : Value} {zl : List CV} (hz : litCells z = some zl) (n : Nat) (hpos : 0 < zl.length) :
    RowR D h β I w (zeroRow zl n) ((Array.range (n * zl.length)).map (fun i => z.cells[i % z.cells.size]!)) := by
  obtain ⟨h1, h2⟩ := litCells_ok (D := D) (h := h) (β := β) (I := I) (w := w) hz
  refine ⟨by simp [zeroRow_length], fun i cv hi => ?_⟩
  have hlt : i < n * zl.length := by
    rcases Nat.lt_or_ge i (n * zl.length) with h3 | h3
    · exact h3
    · rw [List.getElem?_eq_none (by rw [zeroRow_length]; exact h3)] at hi; cases hi
  rw [zeroRow_get zl n i hlt] at hi
  have h3 := h2 _ _ hi
  have hm : i % zl.length < z.cells.size := by rw [h1]; exact Nat.mod_lt _ hpos
  have e : ((Array.range (n * zl.length)).map (fun i => z.cells[i % z.cells.size]!)).getD i undef = z.cells.getD (i % zl.length) undef := by
    rw [Array.getD_eq_getD_getElem?, Array.getElem?_map]
    simp only [Array.getElem?_range, hlt, if_true, Option.map_some, Option.getD_some, h1]
    rw [Array.getD_eq_getD_getElem?, Array.getElem?_eq_getElem hm, Option.getD_some]
    exact getElem!_pos z.cells (i % zl.length) hm
  rw [e]; exact h3

def buildSliceEval (P : Program) (n : Nat) (h : Heap) (t : TypeId) (len : Nat) (parts : List (Nat × CV)) : Option (CV × Heap) :=
  match P.underlying t with
  | some (.slice elem) => match tySize P elem, tyZero P elem with
    | some s, some z => match litCells z with
      | some zl => if zl.length = s ∧ 0 < s ∧ (0 < len ∨ parts.length = 0) ∧ len * s ≤ 16777216 then
          (fillC h (fun i => some (i * s, s)) (zeroRow zl len) parts).map fun cs => (.sl n 0 0 len s, (n, ⟨0, cs, none⟩) :: h)
        else none
      | none => none
    | _, _ => none
  | _ => none

theorem buildSlice_sound {N : Nat} {fr : Fr} {a : Act} {t : TypeId} {len : Nat} {ps : Array (Nat × Operand)} {cv : CV} {h' : Heap} (hS : Sim D h β I w) {n : Nat} (hn : ¬ D n) (hF : SimF D h β I w N fr a)
    (he : buildSliceEval P n h t len (partsC fr ps) = some (cv, h')) :
    OpOk D n h β I w cv h' ((do pure (Next.value (← Instr.buildSlice t len (ps.map fun (i, x) => (i, a.eval x))))).run P w) := by
  obtain ⟨hl, hp⟩ := parts_rel hF ps
  unfold buildSliceEval at he
  split at he
  · rename_i elem hu
    split at he
    · rename_i s z hs hz
      split at he
      · rename_i zl hzl
        split at he
        · rename_i hcond
          obtain ⟨c1, c2, c3, c4⟩ := hcond
          cases e : fillC h (fun i => some (i * s, s)) (zeroRow zl len) (partsC fr ps) with
          | none => rw [e] at he; cases he
          | some out =>
            rw [e] at he
            simp only [Option.map_some, Option.some.injEq, Prod.mk.injEq] at he
            obtain ⟨rfl, rfl⟩ := he
            have hrow := rowR_zero (D := D) (h := h) (β := β) (I := I) (w := w) hzl len (by omega)
            obtain ⟨c', hc', hr⟩ := fill_sound _ _ _ _ _ hrow hl hp e
            rw [c1] at hc'
            have hsz : out.length = len * s := by
              have e1 : ∀ (parts : List (Nat × CV)) (cells out : List CV), fillC h (fun i => some (i * s, s)) cells parts = some out → out.length = cells.length := by
                intro parts
                induction parts with
                | nil => intro cells out h1; simp only [fillC, Option.some.injEq] at h1; rw [h1]
                | cons p parts ih =>
                  intro cells out h1
                  obtain ⟨i, x⟩ := p
                  simp only [fillC] at h1
                  split at h1
                  · cases h1
                  · split at h1
                    · rw [ih _ _ h1, writeAt_length]
                    · cases h1
              rw [e1 _ _ _ e, zeroRow_length, c1]
            obtain ⟨s1, s2, s3⟩ := newslice_ok hS hn (w0 := w) (w' := { w with heap := w.heap.push (.cells c' elem) }) (e := elem) (c := c') (cs := out) (len := len) (cap := len) (sz := s) rfl ⟨rfl, rfl, rfl⟩ rfl (by rw [hr.1]; exact Nat.le_refl _) hr.2 (Nat.le_refl _) (by rw [hr.1, hsz]; exact Nat.le_refl _)
            refine ⟨_, _, _, .inl ?_, s1, s2, s3⟩
            simp only [Instr.buildSlice, Sem.run_bind, run_under hu, Result.andThen_ok, run_tySize hs]
            rw [if_neg (by omega)]
            by_cases hz0 : len = 0
            · subst hz0
              have hps : (partsC fr ps).length = 0 := by omega
              have hpl : ((ps.map fun (i, x) => (i, a.eval x)).toList) = [] := List.length_eq_zero_iff.1 (by rw [← hl]; exact hps)
              have e0 : ∀ f : Nat → Value, Array.map f (Array.range 0) = #[] := fun f => Array.eq_empty_of_size_eq_zero (by rw [Array.size_map, Array.size_range])
              rw [hpl, Nat.zero_mul, e0] at hc'
              simp only [Instr.fill, Option.some.injEq] at hc'
              subst hc'
              simp only [Nat.zero_mul, if_true, Sem.run_bind, Sem.run_pure, Result.andThen_ok, hpl, e0]
              simp [Instr.fill, newRow]
            have hne : ¬ len * s = 0 := Nat.ne_of_gt (Nat.mul_pos (by omega) c2)
            simp only [if_neg hne, Sem.run_bind, run_tyZero hz, Result.andThen_ok, Sem.run_pure]
            rw [hc']
            simp [newRow]
        · cases he
      · cases he
    · cases he
  · cases he

end
end Go.Cv
namespace Go.Cv
open Go

section
variable {D : Nat → Prop} {h : Heap} {β : Nat → Option Nat} {I : Nat → Prop} {w : World} {P : Program}

/-- Is a slice or pointer of ours up to date? -/
def live (h : Heap) (b g : Nat) : Bool := match cget h b with | some k => decide (k.gen ≤ g) | none => false
theorem live_spec {b g : Nat} (hl : live h b g = true) : ∃ k, hget h b = some k ∧ k.gen ≤ g := by
  unfold live at hl
  split at hl
  · rename_i k hk; exact ⟨k, (cget_spec hk).1, by simpa using hl⟩
  · cases hl

theorem ptr_live {b g off : Nat} {v : Value} (hl : live h b g = true) (hs : SimV D h β I w (.ptr b g off) v) :
    ∃ rb, D b ∧ (∀ k, hget h b = some k → g ≤ k.gen) ∧ β b = some rb ∧ v = .pointer (some ⟨rb, off, none⟩) := by
  obtain ⟨k, hk, hg⟩ := live_spec hl
  cases hs with
  | ptrNo hd hn => have := hn k hk; omega
  | @ptr _ _ _ rb hd hg2 hb => exact ⟨rb, hd, hg2, hb, rfl⟩

theorem sl_live {b g off len sz : Nat} {v : Value} (hl : live h b g = true) (hs : SimV D h β I w (.sl b g off len sz) v) :
    D b ∧ (∀ k, hget h b = some k → g ≤ k.gen) ∧ (∃ rb cap o c e, β b = some rb ∧ w.heap[rb]? = some (.cells c e (0, 0)) ∧ len ≤ cap ∧ off + cap * sz ≤ c.size ∧ (o = off ∨ (len = 0 ∧ cap = 0)) ∧ v = .slice (some ⟨rb, o, none⟩) len cap) := by
  obtain ⟨k, hk, hg⟩ := live_spec hl
  cases hs with
  | slNo hd hn => have := hn k hk; omega
  | @sl _ _ _ _ _ rb cap o c e hd hg2 hb hc hl hs ho => exact ⟨hd, hg2, ⟨rb, cap, o, c, e, hb, hc, hl, hs, ho, rfl⟩⟩

/-! ### Addresses -/
def ptrAdd (h : Heap) (x : CV) (n : Nat) : Option CV := match x with
  | .ptr b g off => if live h b g then some (.ptr b g (off + n)) else none
  | .iptr cells off => some (.iptr cells (off + n))
  | _ => none

theorem ptrAdd_real {x y : CV} {n : Nat} {v : Value} (he : ptrAdd h x n = some y) (hs : SimV D h β I w x v) :
    ∃ b o, v = .pointer (some ⟨b, o, none⟩) ∧ SimV D h β I w y (.pointer (some ⟨b, o + n, none⟩)) := by
  cases x with
  | ptr b g off =>
    simp only [ptrAdd] at he
    split at he
    · rename_i hl
      cases he
      obtain ⟨rb, hd, hg, hb, rfl⟩ := ptr_live hl hs
      exact ⟨rb, off, rfl, .ptr hd hg hb⟩
    · cases he
  | iptr cells off =>
    simp only [ptrAdd, Option.some.injEq] at he
    subst he
    cases hs with
    | @iptr _ _ blk o vs hI hc h1 hv => exact ⟨blk, o + off, rfl, by rw [Nat.add_assoc]; exact .iptr hI hc h1 hv⟩
  | _ => simp [ptrAdd] at he

def fieldAddrEval (P : Program) (h : Heap) (t : TypeId) (x : CV) (f : Nat) : Option CV :=
  match P.underlying t with
  | some (.struct fields) => match fields[f]? with
    | some fd => match tySize P fd.type with
      | some (_ + 1) => ptrAdd h x fd.offset
      | _ => none
    | none => none
  | _ => none

theorem fieldAddr_sound {t : TypeId} {x cv : CV} {f : Nat} {v : Value} (he : fieldAddrEval P h t x f = some cv) (hs : SimV D h β I w x v) :
    ∃ u, (Instr.fieldAt t v f).run P w = .ok u w ∧ SimV D h β I w cv u := by
  unfold fieldAddrEval at he
  split at he
  · rename_i fields hu
    split at he
    · rename_i fd hf
      split at he
      · rename_i k hs1
        obtain ⟨b, o, rfl, hy⟩ := ptrAdd_real he hs
        refine ⟨_, ?_, hy⟩
        simp only [Instr.fieldAt, Sem.run_bind, run_under hu, Result.andThen_ok, hf, Instr.sureAddr, Sem.run_pure, fieldPlace, run_tySize hs1]
        rw [if_neg (by omega)]
        simp [add_plain]
      · cases he
    · cases he
  · cases he

def partEval (P : Program) (t : TypeId) (cs : List CV) (off : Nat) : Option CV :=
  match tyAgg P t with
  | some true => match tySize P t with
    | some s => if off + s ≤ cs.length then some (.agg ((cs.drop off).take s)) else none
    | none => none
  | some false => cs[off]?
  | none => none

theorem part_sound {t : TypeId} {cs : List CV} {off : Nat} {cv : CV} {vs : Array Value} (he : partEval P t cs off = some cv) (hs : SimV D h β I w (.agg cs) (.agg vs)) :
    ∃ u, (part t vs off).run P w = .ok u w ∧ SimV D h β I w cv u := by
  cases hs with
  | agg hl hv =>
    unfold partEval at he
    split at he
    · rename_i hag
      split at he
      · rename_i s hs1
        split at he
        · rename_i hfit
          cases he
          refine ⟨.agg (vs.extract off (off + s)), ?_, ?_⟩
          · simp [part, run_tyAgg hag, run_tySize hs1]
          · refine .agg (by simp; omega) fun i c hi => ?_
            rw [List.getElem?_take] at hi
            split at hi
            · rename_i hi2
              rw [List.getElem?_drop] at hi
              have h3 := hv _ _ hi
              have e : (vs.extract off (off + s)).getD i undef = vs.getD (off + i) undef := by
                rw [Array.getD_eq_getD_getElem?, Array.getD_eq_getD_getElem?, Array.getElem?_extract]
                rw [if_pos (by omega)]
              rw [e]; exact h3
            · cases hi
        · cases he
      · cases he
    · rename_i hag
      have hlt : off < cs.length := by
        rcases Nat.lt_or_ge off cs.length with h3 | h3
        · exact h3
        · rw [List.getElem?_eq_none h3] at he; cases he
      have h3 : off < vs.size := by omega
      refine ⟨vs.getD off undef, ?_, hv _ _ he⟩
      simp only [part, Sem.run_bind, run_tyAgg hag, Result.andThen_ok]
      simp [h3]
    · cases he

def fieldEval (P : Program) (t : TypeId) (x : CV) (f : Nat) : Option CV :=
  match x, P.underlying t with
  | .agg cs, some (.struct fields) => match fields[f]? with
    | some fd => partEval P fd.type cs fd.offset
    | none => none
  | _, _ => none

theorem simv_agg {cs : List CV} {v : Value} (hs : SimV D h β I w (.agg cs) v) : ∃ vs, v = .agg vs := by
  cases hs with
  | agg hl hv => exact ⟨_, rfl⟩

theorem field_sound {t : TypeId} {x cv : CV} {f : Nat} {v : Value} (he : fieldEval P t x f = some cv) (hs : SimV D h β I w x v) :
    ∃ u, (Instr.field t v f).run P w = .ok u w ∧ SimV D h β I w cv u := by
  unfold fieldEval at he
  split at he
  · rename_i cs fields hu
    split at he
    · rename_i fd hf
      obtain ⟨vs, rfl⟩ := simv_agg hs
      obtain ⟨u, h1, h2⟩ := part_sound he hs
      refine ⟨u, ?_, h2⟩
      simp only [Instr.field, Sem.run_bind, run_under hu, Result.andThen_ok, hf, asAgg, Sem.run_pure, h1]
    · cases he
  · cases he

/-- An index that is a number. -/
def idx (x : CV) : Option Int := match x with | .lit (.int _ i) => some i | _ => none
theorem idx_real {x : CV} {i : Int} {v : Value} (hi : idx x = some i) (hs : SimV D h β I w x v) : ∃ k, v = .int k i := by
  unfold idx at hi
  split at hi
  · cases hi; exact ⟨_, simv_lit hs⟩
  · cases hi

def indexEval (P : Program) (t : TypeId) (x i : CV) : Option CV :=
  match x, P.underlying t, idx i with
  | .agg cs, some (.array len elem), some i => match tySize P elem with
    | some s => if 0 ≤ i ∧ i < len then partEval P elem cs (i.toNat * s) else none
    | none => none
  | _, _, _ => none

theorem index_sound {t : TypeId} {x i cv : CV} {v u : Value} (he : indexEval P t x i = some cv) (hs : SimV D h β I w x v) (hi : SimV D h β I w i u) :
    ∃ r, (Instr.index t v u).run P w = .ok r w ∧ SimV D h β I w cv r := by
  unfold indexEval at he
  split at he
  · rename_i cs len elem j hu hj
    split at he
    · rename_i s hs1
      split at he
      · rename_i hb
        obtain ⟨vs, rfl⟩ := simv_agg hs
        obtain ⟨k, rfl⟩ := idx_real hj hi
        obtain ⟨r, h1, h2⟩ := part_sound he hs
        refine ⟨r, ?_, h2⟩
        simp only [Instr.index, asIntOf, Sem.run_bind, Sem.run_pure, Result.andThen_ok, run_under hu]
        rw [if_pos hb]
        simp only [Sem.run_bind, run_tySize hs1, Result.andThen_ok, h1]
      · cases he
    · cases he
  · cases he

def indexAddrEval (P : Program) (h : Heap) (t : TypeId) (x i : CV) : Option CV :=
  match P.underlying t, idx i with
  | some (.array n elem), some i => match tySize P elem with
    | some s => if 0 ≤ i ∧ i < n then ptrAdd h x (i.toNat * s) else none
    | none => none
  | some (.slice elem), some i => match tySize P elem with
    | some s => match x with
      | .sl b g off len sz => if live h b g = true ∧ sz = s ∧ 0 ≤ i ∧ i < len then some (.ptr b g (off + i.toNat * s)) else none
      | .isl cells len sz => if sz = s ∧ 0 ≤ i ∧ i < len then some (.iptr cells (i.toNat * s)) else none
      | _ => none
    | none => none
  | _, _ => none

theorem indexAddr_sound {t : TypeId} {x i cv : CV} {v u : Value} (he : indexAddrEval P h t x i = some cv) (hs : SimV D h β I w x v) (hi : SimV D h β I w i u) :
    ∃ r, (Instr.indexAt t v u).run P w = .ok r w ∧ SimV D h β I w cv r := by
  unfold indexAddrEval at he
  split at he
  · rename_i n elem j hu hj
    split at he
    · rename_i s hs1
      split at he
      · rename_i hb
        obtain ⟨k, rfl⟩ := idx_real hj hi
        obtain ⟨b, o, rfl, hy⟩ := ptrAdd_real he hs
        refine ⟨_, ?_, hy⟩
        simp only [Instr.indexAt, asIntOf, Sem.run_bind, Sem.run_pure, Result.andThen_ok, run_under hu, Instr.sureAddr]
        rw [if_pos hb]
        simp [run_tySize hs1, add_plain]
      · cases he
    · cases he
  · rename_i elem j hu hj
    obtain ⟨k, rfl⟩ := idx_real hj hi
    split at he
    · rename_i s hs1
      split at he
      · rename_i b g off len sz
        split at he
        · rename_i hb
          cases he
          obtain ⟨hl, rfl, h0, h1⟩ := hb
          obtain ⟨hd, hg, hcase⟩ := sl_live hl hs
          obtain ⟨rb, cap, o, c, e, hb, hc, hlc, hfit, ho, rfl⟩ := hcase
          · have : o = off := by rcases ho with ho | ho <;> omega
            subst this
            refine ⟨_, ?_, .ptr hd hg hb⟩
            simp only [Instr.indexAt, asIntOf, Sem.run_bind, Sem.run_pure, Result.andThen_ok, run_under hu]
            rw [if_pos ⟨h0, h1⟩]
            simp [run_tySize hs1, add_plain]
        · cases he
      · rename_i cells len sz
        split at he
        · rename_i hb
          cases he
          obtain ⟨rfl, h0, h1⟩ := hb
          cases hs with
          | @isl _ _ _ blk o cap vs hI hc hone hv hlc =>
            refine ⟨_, ?_, .iptr hI hc hone hv⟩
            simp only [Instr.indexAt, asIntOf, Sem.run_bind, Sem.run_pure, Result.andThen_ok, run_under hu]
            rw [if_pos ⟨h0, h1⟩]
            simp [run_tySize hs1, add_plain]
        · cases he
      · cases he
    · cases he
  · cases he

/-! ### Slicing -/
def optIdx (x : Option CV) (d : Int) : Option Int := match x with | none => some d | some c => idx c

def sliceEval (P : Program) (h : Heap) (t : TypeId) (x : CV) (lo hi : Option CV) : Option CV :=
  match P.underlying t with
  | some (.slice elem) => match tySize P elem with
    | some s => match x with
      | .sl b g off len sz => match optIdx lo 0, optIdx hi len with
        | some l, some u => if live h b g = true ∧ sz = s ∧ 0 ≤ l ∧ l ≤ u ∧ u ≤ len then some (.sl b g (off + l.toNat * s) (u.toNat - l.toNat) s) else none
        | _, _ => none
      | .isl cells len sz => match optIdx lo 0, optIdx hi len with
        | some l, some u => if sz = s ∧ 0 ≤ l ∧ l ≤ u ∧ u ≤ len then some (.isl ((cells.drop (l.toNat * s)).take ((u.toNat - l.toNat) * s)) (u.toNat - l.toNat) s) else none
        | _, _ => none
      | _ => none
    | none => none
  | _ => none

def RelO (D : Nat → Prop) (h : Heap) (β : Nat → Option Nat) (I : Nat → Prop) (w : World) : Option CV → Option Value → Prop
  | none, none => True
  | some c, some v => SimV D h β I w c v
  | _, _ => False

theorem bounds_run {len cap : Nat} {lo hi : Option Value} {clo chi : Option CV} {l u : Int} (hlo : RelO D h β I w clo lo) (hhi : RelO D h β I w chi hi)
    (el : optIdx clo 0 = some l) (eu : optIdx chi len = some u) (h0 : 0 ≤ l) (h1 : l ≤ u) (h2 : u ≤ len) (hc : len ≤ cap) (b : Bool) :
    (Instr.sliceBounds b len cap lo hi none).run P w = .ok (l.toNat, u.toNat, cap) w := by
  have hb : ∀ (c : CV) (v : Value) (i : Int) (y : Nat) (code : BoundsCode), SimV D h β I w c v → idx c = some i → 0 ≤ i → i ≤ y → (Instr.sliceBound v y code).run P w = .ok i.toNat w := by
    intro c v i y code hs hi h0 h1
    obtain ⟨k, rfl⟩ := idx_real hi hs
    simp only [Instr.sliceBound, asIntOf, Sem.run_bind, Sem.run_pure, Result.andThen_ok]
    rw [if_pos ⟨h0, h1⟩]
    simp
  cases clo with
  | none =>
    cases lo with
    | some _ => exact hlo.elim
    | none =>
      simp only [optIdx, Option.some.injEq] at el
      subst el
      cases chi with
      | none =>
        cases hi with
        | some _ => exact hhi.elim
        | none =>
          simp only [optIdx, Option.some.injEq] at eu
          subst eu
          simp [Instr.sliceBounds]
      | some c =>
        cases hi with
        | none => exact hhi.elim
        | some v =>
          have := fun code => hb c v u cap code hhi eu (by omega) (by omega)
          simp [Instr.sliceBounds, this]
  | some c1 =>
    cases lo with
    | none => exact hlo.elim
    | some v1 =>
      cases chi with
      | none =>
        cases hi with
        | some _ => exact hhi.elim
        | none =>
          simp only [optIdx, Option.some.injEq] at eu
          subst eu
          have := fun code => hb c1 v1 l len code hlo el h0 (by omega)
          simp [Instr.sliceBounds, this]
      | some c =>
        cases hi with
        | none => exact hhi.elim
        | some v =>
          have h3 := fun code => hb c v u cap code hhi eu (by omega) (by omega)
          have h4 := fun code => hb c1 v1 l u.toNat code hlo el h0 (by omega)
          simp [Instr.sliceBounds, h3, h4]

theorem slice_sound {t : TypeId} {x cv : CV} {clo chi : Option CV} {v : Value} {lo hi : Option Value} (he : sliceEval P h t x clo chi = some cv) (hs : SimV D h β I w x v) (hlo : RelO D h β I w clo lo) (hhi : RelO D h β I w chi hi) :
    ∃ r, (Instr.sliceAt t v lo hi none).run P w = .ok r w ∧ SimV D h β I w cv r := by
  unfold sliceEval at he
  split at he
  · rename_i elem hu
    split at he
    · rename_i s hs1
      split at he
      · rename_i b g off len sz
        split at he
        · rename_i l u el eu
          split at he
          · rename_i hb
            cases he
            obtain ⟨hl, rfl, h0, h1, h2⟩ := hb
            obtain ⟨hd, hg, hcase⟩ := sl_live hl hs
            obtain ⟨rb, cap, o, c, e, hb, hc, hlc, hfit, ho, rfl⟩ := hcase
            · have hr := bounds_run (P := P) (cap := cap) hlo hhi el eu h0 h1 h2 hlc true
              by_cases hcl : cap = l.toNat
              · refine ⟨.slice (some ⟨rb, o, none⟩) (u.toNat - l.toNat) (cap - l.toNat), ?_, ?_⟩
                · simp only [Instr.sliceAt, Instr.slice, Sem.run_bind, run_under hu, Result.andThen_ok, hr, run_tySize hs1, if_pos hcl]
                  rfl
                · have : u.toNat - l.toNat = 0 := by omega
                  rw [this, show cap - l.toNat = 0 from by omega]
                  exact .sl hd hg hb hc (Nat.le_refl _) (by simp; rw [← hcl]; exact hfit) (.inr ⟨rfl, rfl⟩)
              · have hoo : o = off := by rcases ho with ho | ho <;> omega
                subst hoo
                refine ⟨.slice (some ⟨rb, o + l.toNat * sz, none⟩) (u.toNat - l.toNat) (cap - l.toNat), ?_, ?_⟩
                · simp [Instr.sliceAt, Instr.slice, run_under hu, hr, run_tySize hs1, hcl, add_plain]
                · refine .sl hd hg hb hc (by omega) ?_ (.inl rfl)
                  rw [Nat.sub_mul]
                  have : l.toNat * sz ≤ cap * sz := Nat.mul_le_mul_right _ (by omega)
                  omega
          · cases he
        · cases he
      · rename_i cells len sz
        split at he
        · rename_i l u el eu
          split at he
          · rename_i hb
            cases he
            obtain ⟨rfl, h0, h1, h2⟩ := hb
            cases hs with
            | @isl _ _ _ blk o cap vs hI hc hone hv hlc =>
              have hr := bounds_run (P := P) (cap := cap) hlo hhi el eu h0 h1 h2 hlc true
              by_cases hcl : cap = l.toNat
              · refine ⟨.slice (some ⟨blk, o, none⟩) (u.toNat - l.toNat) (cap - l.toNat), ?_, ?_⟩
                · simp only [Instr.sliceAt, Instr.slice, Sem.run_bind, run_under hu, Result.andThen_ok, hr, run_tySize hs1, if_pos hcl]
                  rfl
                · have : u.toNat - l.toNat = 0 := by omega
                  refine .isl (vs := vs) hI (fun i c hi => ?_) (fun i c hi => ?_) (fun i c hi => ?_) (by omega) <;> rw [this] at hi <;> simp at hi
              · refine ⟨.slice (some ⟨blk, o + l.toNat * sz, none⟩) (u.toNat - l.toNat) (cap - l.toNat), ?_, ?_⟩
                · simp [Instr.sliceAt, Instr.slice, run_under hu, hr, run_tySize hs1, hcl, add_plain]
                · have hget : ∀ i c, (List.take ((u.toNat - l.toNat) * sz) (List.drop (l.toNat * sz) cells))[i]? = some c → cells[l.toNat * sz + i]? = some c := fun i c hi => by
                    rw [List.getElem?_take] at hi
                    split at hi
                    · rwa [List.getElem?_drop] at hi
                    · cases hi
                  exact .isl (vs := fun i => vs (l.toNat * sz + i)) hI (fun i c hi => by rw [Nat.add_assoc]; exact hc _ _ (hget i c hi)) (fun i c hi => hone _ _ (hget i c hi)) (fun i c hi => hv _ _ (hget i c hi)) (by omega)
          · cases he
        · cases he
      · cases he
    · cases he
  · cases he

/-! ### Lengths -/
def lenEval (P : Program) (h : Heap) (t : TypeId) (x : CV) : Option CV :=
  match P.underlying t with
  | some (.slice _) => match x with
    | .sl b g _ len _ => if live h b g then some (.lit (.int .i64 len)) else none
    | .isl _ len _ => some (.lit (.int .i64 len))
    | .lit (.slice none 0 0) => some (.lit (.int .i64 0))
    | _ => none
  | _ => none

theorem len_sound {t ty : TypeId} {ts : Array TypeId} {x cv : CV} {v : Value} (ht : ts[0]? = some t) (he : lenEval P h t x = some cv) (hs : SimV D h β I w x v) :
    ∃ r, (Builtin.len_ ts ty #[v]).run P w = .ok r w ∧ SimV D h β I w cv r := by
  unfold lenEval at he
  split at he
  · rename_i elem hu
    have run : ∀ a n c, (Builtin.len_ ts ty #[.slice a n c]).run P w = .ok (goInt n) w := fun a n c => by
      simp [Builtin.len_, ht, run_under hu]
    split at he
    · rename_i b g off len sz
      split at he
      · rename_i hl
        cases he
        obtain ⟨hd, hg, hcase⟩ := sl_live hl hs
        obtain ⟨rb, cap, o, c, e, hb, hc, hlc, hfit, ho, rfl⟩ := hcase
        · exact ⟨_, run _ _ _, .lit _⟩
      · cases he
    · cases he
      cases hs with
      | isl => exact ⟨_, run _ _ _, .lit _⟩
    · cases he
      rw [simv_lit hs]
      exact ⟨_, run _ _ _, .lit _⟩
    · cases he
  · cases he

end
end Go.Cv
namespace Go.Cv
open Go

section
variable {D : Nat → Prop} {h : Heap} {β : Nat → Option Nat} {I : Nat → Prop} {w : World} {P : Program}

/-- The cells of what is appended, and how many elements they are. -/
def srcCells (h : Heap) (s : Nat) : CV → Option (List CV × Nat)
  | .sl b g off len sz => match cget h b with
    | some k => if k.gen ≤ g ∧ sz = s ∧ off + len * s ≤ k.cells.length then some ((k.cells.drop off).take (len * s), len) else none
    | none => none
  | .isl cells len sz => if sz = s ∧ len * s ≤ cells.length then some (cells.take (len * s), len) else none
  | .lit (.slice none 0 0) => some ([], 0)
  | .lit (.string t) => if s = 1 then some (t.data.toList.map fun b => .lit (.int .u8 b.toNat), t.size) else none
  | _ => none

theorem loadCells_of {b o n : Nat} {cs : List CV} {w' : World} (vs : Nat → Value) (hn : n = cs.length) (hc : ∀ i, i < n → w'.cell? ⟨b, o + i, none⟩ = some (vs i)) :
    (loadCells ⟨b, o, none⟩ n).run P w' = .ok ((List.range n).map vs).toArray w' :=
  run_loadCells w' ⟨b, o, none⟩ n vs fun j hj => by rw [add_plain]; exact hc j hj

theorem src_real {x : CV} {s cnt : Nat} {cs : List CV} {v : Value} (hS : Sim D h β I w) (he : srcCells h s x = some (cs, cnt)) (hs : SimV D h β I w x v) :
    (∀ w', (Builtin.lenOf v).run P w' = .ok cnt w') ∧ cs.length = cnt * s ∧ ∃ c : Array Value, RowR D h β I w cs c ∧ ∀ w', w'.heap = w.heap → (Builtin.firstCells s cnt v).run P w' = .ok c w' := by
  have same : ∀ (w' : World), w'.heap = w.heap → ∀ a, w'.cell? a = w.cell? a := fun w' hw a => by unfold World.cell?; rw [hw]
  unfold srcCells at he
  split at he
  · rename_i b g off len sz
    split at he
    · rename_i k hkc
      obtain ⟨hk, hmap⟩ := cget_spec hkc
      split at he
      · rename_i hcond
        obtain ⟨hg, rfl, hfit⟩ := hcond
        simp only [Option.some.injEq, Prod.mk.injEq] at he
        obtain ⟨rfl, rfl⟩ := he
        have hl : live h b g = true := by unfold live; rw [hkc]; simp [hg]
        have hlen : ((k.cells.drop off).take (len * sz)).length = len * sz := by simp; omega
        obtain ⟨hd, hg2, hcase⟩ := sl_live hl hs
        obtain ⟨rb, cap, o, c, e, hb, hc, hlc, hfit2, ho, rfl⟩ := hcase
        · refine ⟨fun w' => rfl, hlen, ((List.range (len * sz)).map fun i => c.getD (off + i) undef).toArray, ⟨by simp; omega, fun i cv hi => ?_⟩, fun w' hw => ?_⟩
          · rw [List.getElem?_take] at hi
            split at hi
            · rename_i hi2
              rw [List.getElem?_drop] at hi
              obtain ⟨c2, e2, k1, k2, k3⟩ := (hS.blk b k rb hk hb).cell hmap
              rw [hc] at k1; cases k1
              have := k3 _ _ hi
              simpa [getD_toList, hi2] using this
            · cases hi
          · by_cases hz : len * sz = 0
            · simp [Builtin.firstCells, hz, loadCells, loadCellsFrom]
            · have : o = off := by
                rcases ho with ho | ho
                · exact ho
                · rw [ho.1] at hz; simp at hz
              subst this
              obtain ⟨c2, e2, k1, k2, k3⟩ := (hS.blk b k rb hk hb).cell hmap
              rw [hc] at k1; cases k1
              simp only [Builtin.firstCells]
              refine loadCells_of (cs := (k.cells.drop o).take (len * sz)) (fun i => c.getD (o + i) undef) hlen.symm fun i hi => ?_
              rw [same w' hw]
              have : o + i < c.size := by omega
              simp [World.cell?, hc, this]
      · cases he
    · cases he
  · rename_i cells len sz
    split at he
    · rename_i hcond
      obtain ⟨rfl, hfit⟩ := hcond
      simp only [Option.some.injEq, Prod.mk.injEq] at he
      obtain ⟨rfl, rfl⟩ := he
      have hlen : (cells.take (len * sz)).length = len * sz := by simp; omega
      cases hs with
      | @isl _ _ _ blk o cap vs hI hc hone hv hlc =>
        refine ⟨fun w' => rfl, hlen, ((List.range (len * sz)).map vs).toArray, ⟨by simp; omega, fun i cv hi => ?_⟩, fun w' hw => ?_⟩
        · rw [List.getElem?_take] at hi
          split at hi
          · rename_i hi2
            have := And.intro (hone _ _ hi) (hv _ _ hi)
            simpa [getD_toList, hi2] using this
          · cases hi
        · simp only [Builtin.firstCells]
          refine loadCells_of (cs := cells.take (len * sz)) vs hlen.symm fun i hi => ?_
          rw [same w' hw]
          exact hc i _ (List.getElem?_eq_getElem (by omega))
    · cases he
  · simp only [Option.some.injEq, Prod.mk.injEq] at he
    obtain ⟨rfl, rfl⟩ := he
    rw [simv_lit hs]
    exact ⟨fun w' => rfl, by simp, #[], ⟨rfl, fun i cv hi => by simp at hi⟩, fun w' _ => rfl⟩
  · rename_i t
    split at he
    · rename_i h1
      subst h1
      simp only [Option.some.injEq, Prod.mk.injEq] at he
      obtain ⟨rfl, rfl⟩ := he
      rw [simv_lit hs]
      have hsz : t.data.toList.length = t.size := by rw [Array.length_toList]; rfl
      refine ⟨fun w' => rfl, by rw [List.length_map, hsz, Nat.mul_one], t.data.map fun b => .int .u8 b.toNat, ⟨by rw [Array.size_map, List.length_map, Array.length_toList], fun i cv hi => ?_⟩, fun w' _ => ?_⟩
      · rw [List.getElem?_map] at hi
        rw [getD_toList, Array.toList_map, List.getElem?_map]
        cases e : t.data.toList[i]? with
        | none => rw [e] at hi; cases hi
        | some y => rw [e] at hi; simp at hi; subst hi; exact ⟨rfl, .lit _⟩
      · simp [Builtin.firstCells]
    · cases he
  · cases he

def isInt : TypeDesc → Bool
  | .int _ => true
  | _ => false
def tyBytes (P : Program) (t : TypeId) : Option Nat := (P.info? t).map (·.bytes)

def appendEval (P : Program) (n : Nat) (h : Heap) (ts : Array TypeId) (s x : CV) : Option (CV × Heap) :=
  match ts[0]?, ts[1]? with
  | some t0, some t1 => match P.underlying t0, P.underlying t1 with
    | some (.slice elem), some d1 => match tySize P elem, tyBytes P elem, tyZero P elem with
      | some sz, some by_, some z => match srcCells h sz x with
        | some (cs, cnt) => if isInt d1 = false ∧ by_ ≤ 4096 ∧ z.cells.size = sz then
            match s with
            | .lit (.slice none 0 0) => if cnt = 0 then some (.lit (.slice none 0 0), h) else if cnt ≤ 2147483648 then some (.sl n 1 0 cnt sz, (n, ⟨1, cs, none⟩) :: h) else none
            | .sl b g off len sz' => match cget h b with
              | some k => if k.gen ≤ g ∧ off = 0 ∧ sz' = sz ∧ len + cnt ≤ 2147483648 ∧ len * sz ≤ k.cells.length then
                  some (.sl b (k.gen + 1) 0 (len + cnt) sz, hset h b ⟨k.gen + 1, k.cells.take (len * sz) ++ cs, none⟩) else none
              | none => none
            | _ => none
          else none
        | none => none
      | _, _, _ => none
    | _, _ => none
  | _, _ => none

theorem growBy_le (new : Nat) : ∀ (r c : Nat), c ≤ 2 * new + 768 → Builtin.growBy new r c ≤ 2 * new + 768
  | 0, c, h => h
  | r + 1, c, h => by
    unfold Builtin.growBy
    split
    · exact h
    · exact growBy_le new r _ (by omega)

theorem next_le (need cap : Nat) (h : cap < need) : Builtin.nextslicecap need cap ≤ 2 * need + 768 := by
  unfold Builtin.nextslicecap
  split
  · omega
  · split
    · omega
    · exact growBy_le _ _ _ (by omega)

theorem zeroCells_size (z : Array Value) (n : Nat) : (Builtin.zeroCells z n).size = n * z.size := by simp [Builtin.zeroCells]

/-- Append, where new memory is taken. -/
theorem append_run_new {t0 t1 ty elem : TypeId} {d1 : TypeDesc} {ts : Array TypeId} {sz by_ : Nat} {z : Value} {base : Option Addr} {len cap cnt : Nat} {x : Value} {c0 c1 : Array Value}
    (e0 : ts[0]? = some t0) (e1 : ts[1]? = some t1) (u0 : P.underlying t0 = some (.slice elem)) (u1 : P.underlying t1 = some d1) (hi : isInt d1 = false) (hs : tySize P elem = some sz) (hb : tyBytes P elem = some by_) (hby : by_ ≤ 4096) (hz : tyZero P elem = some z)
    (hlen : ∀ w', (Builtin.lenOf x).run P w' = .ok cnt w') (hc0 : ∀ w', w'.heap = w.heap → (Builtin.firstCells sz len (.slice base len cap)).run P w' = .ok c0 w') (hc1 : ∀ w', w'.heap = w.heap → (Builtin.firstCells sz cnt x).run P w' = .ok c1 w')
    (hcap : cap < len + cnt) (hbd : len + cnt ≤ 2147483648) :
    ∃ newCap w0, len + cnt ≤ newCap ∧ w0.heap = w.heap ∧ SameBut w w0 ∧ (Builtin.append_ ts ty #[.slice base len cap, x]).run P w =
      .ok (.slice (some ⟨w0.heap.size, 0, none⟩) (len + cnt) newCap) { w0 with heap := w0.heap.push (.cells (c0 ++ c1 ++ Builtin.zeroCells z.cells (newCap - (len + cnt))) elem) } := by
  have hbytes : (typeInfo elem).run P w = .ok ((P.info? elem).getD default) w ∧ ((P.info? elem).getD default).bytes = by_ := by
    unfold tyBytes at hb
    cases e : P.info? elem with
    | none => rw [e] at hb; cases hb
    | some i => rw [e] at hb; simp at hb; simp [typeInfo, e, hb]
  let q : Question := .appendCap (len + cnt) cap elem
  let w0 : World := { w with drawn := w.drawn + 1 }
  refine ⟨q.cut (w.tape w.drawn q), w0, ?_, rfl, ⟨rfl, rfl, rfl⟩, ?_⟩
  · simp [q, Question.cut]
  · have hbytes0 : (typeInfo elem).run P w0 = .ok ((P.info? elem).getD default) w0 := by
      unfold tyBytes at hb
      cases e : P.info? elem with
      | none => rw [e] at hb; cases hb
      | some i => simp [typeInfo, e]
    have hnx := next_le (len + cnt) cap hcap
    have hmul : Builtin.nextslicecap (len + cnt) cap * by_ ≤ (2 * 2147483648 + 768) * 4096 := Nat.mul_le_mul (by omega) hby
    have hch : (choose (Question.appendCap (len + cnt) cap elem)).run P w = .ok (q.cut (w.tape w.drawn q)) w0 := by simp [q, w0, Question.forced]
    simp only [Builtin.append_, e0, e1, Array.getElem?_eq_getElem, List.size_toArray, List.length_cons, List.length_nil, Nat.lt_add_one, Nat.zero_lt_succ, List.getElem_toArray, List.getElem_cons_zero, List.getElem_cons_succ, Nat.reduceAdd, Nat.reduceLT,
      Sem.run_bind, run_under u0, run_under u1, Result.andThen_ok, run_tySize hs, Sem.run_pure]
    have hgrow : ¬ (((len + cnt : Nat) : Int) > IntKind.i64.max ∧ (False ∨ ((P.info? elem).getD default).bytes = 0)) := by
      intro hh
      have := hh.1
      have h2 : IntKind.i64.max = 9223372036854775807 := by decide
      omega
    have hle : ¬ len + cnt ≤ cap := by omega
    have hnx2 : ¬ Builtin.nextslicecap (len + cnt) cap * by_ > 2 ^ 48 := by
      simp only [gt_iff_lt, Nat.not_lt]
      exact Nat.le_trans hmul (by decide)
    cases d1
    all_goals (try (exfalso; simp [isInt] at hi; done))
    all_goals
      simp only [Bool.false_eq_true, if_false, Bool.not_false, if_true, Sem.run_bind, hlen, Result.andThen_ok, if_neg hle, hbytes.1]
      rw [if_neg hgrow]
      simp only [Sem.run_bind, hbytes.1, Result.andThen_ok, hbytes.2]
      rw [if_neg hnx2]
      simp only [Sem.run_bind, Result.andThen_ok, hch, hbytes0, run_askRoom, hc0 w0 rfl, hc1 w0 rfl, run_tyZero hz, newRow, run_newObj, Sem.run_pure]

/-- Append, in place. -/
theorem append_run_old {t0 t1 ty elem : TypeId} {d1 : TypeDesc} {ts : Array TypeId} {sz : Nat} {rb off len cap cnt : Nat} {x : Value} {c c1 : Array Value} {e : TypeId}
    (e0 : ts[0]? = some t0) (e1 : ts[1]? = some t1) (u0 : P.underlying t0 = some (.slice elem)) (u1 : P.underlying t1 = some d1) (hi : isInt d1 = false) (hs : tySize P elem = some sz)
    (hlen : ∀ w', (Builtin.lenOf x).run P w' = .ok cnt w') (hc1 : (Builtin.firstCells sz cnt x).run P w = .ok c1 w) (hcap : len + cnt ≤ cap)
    (hc : w.heap[rb]? = some (.cells c e (0, 0))) (hfit : off + len * sz + c1.size ≤ c.size) (hone : ∀ v ∈ c1.toList, v.oneCell' = true) :
    (Builtin.append_ ts ty #[.slice (some ⟨rb, off, none⟩) len cap, x]).run P w =
      .ok (.slice (some ⟨rb, off, none⟩) (len + cnt) cap) (w.setRow rb (c.toList.take (off + len * sz) ++ c1.toList ++ c.toList.drop (off + len * sz + c1.toList.length)).toArray) := by
  have hst := run_storeCells_at P rb (off + len * sz) e c1.toList 0 c w hc (by simp; omega) hone
  simp only [Builtin.append_, e0, e1, Array.getElem?_eq_getElem, List.size_toArray, List.length_cons, List.length_nil, Nat.lt_add_one, Nat.zero_lt_succ, List.getElem_toArray, List.getElem_cons_zero, List.getElem_cons_succ, Nat.reduceAdd,
      Sem.run_bind, run_under u0, run_under u1, Result.andThen_ok, run_tySize hs, Sem.run_pure]
  cases d1
  all_goals (try (exfalso; simp [isInt] at hi; done))
  all_goals
    simp only [Bool.false_eq_true, if_false, Bool.not_false, if_true, Sem.run_bind, hlen, Result.andThen_ok, if_pos hcap, hc1, add_plain, hst, Sem.run_pure, Nat.add_zero]

theorem append_run_nil {t0 t1 ty elem : TypeId} {d1 : TypeDesc} {ts : Array TypeId} {sz : Nat} {x : Value} {c1 : Array Value}
    (e0 : ts[0]? = some t0) (e1 : ts[1]? = some t1) (u0 : P.underlying t0 = some (.slice elem)) (u1 : P.underlying t1 = some d1) (hi : isInt d1 = false) (hs : tySize P elem = some sz)
    (hlen : ∀ w', (Builtin.lenOf x).run P w' = .ok 0 w') (hc1 : (Builtin.firstCells sz 0 x).run P w = .ok c1 w) :
    (Builtin.append_ ts ty #[.slice none 0 0, x]).run P w = .ok (.slice none 0 0) w := by
  simp only [Builtin.append_, e0, e1, Array.getElem?_eq_getElem, List.size_toArray, List.length_cons, List.length_nil, Nat.lt_add_one, Nat.zero_lt_succ, List.getElem_toArray, List.getElem_cons_zero, List.getElem_cons_succ, Nat.reduceAdd,
      Sem.run_bind, run_under u0, run_under u1, Result.andThen_ok, run_tySize hs, Sem.run_pure]
  cases d1
  all_goals (try (exfalso; simp [isInt] at hi; done))
  all_goals
    simp only [Bool.false_eq_true, if_false, Bool.not_false, if_true, Sem.run_bind, hlen, Result.andThen_ok, Nat.add_zero, Nat.le_refl, hc1, Sem.run_pure]

def upd0 (β : Nat → Option Nat) (n : Nat) : Nat → Option Nat := fun m => if m = n then none else β m

/-- A canonical block that has no real one (an empty list that is nil). -/
theorem sim_ghost_new (hS : Sim D h β I w) {n : Nat} (hn : ¬ D n) (k : Blk) :
    Sim (plus D n) ((n, k) :: h) (upd0 β n) I w ∧ Ext D h β I w ((n, k) :: h) (upd0 β n) I w := by
  have hne : ∀ m, D m → m ≠ n := fun m hm e => hn (e ▸ hm)
  have hget : ∀ m, D m → hget ((n, k) :: h) m = hget h m := fun m hm => by rw [hget_cons, if_neg (hne m hm)]
  have hup : ∀ m, D m → upd0 β n m = β m := fun m hm => by unfold upd0; rw [if_neg (hne m hm)]
  have hdom : ∀ m, Cv.hget h m ≠ none → D m := fun m hm => by
    cases e : Cv.hget h m with
    | none => exact absurd e hm
    | some k => exact hS.dom m k e
  have hun : upd0 β n n = none := by unfold upd0; rw [if_pos rfl]
  have hp : Pres D h β I w ((n, k) :: h) (upd0 β n) I w := by
    refine ⟨fun _ h => h, fun _ _ => rfl, fun m k' hm hk => ?_⟩
    rw [hget m hm] at hk
    exact ⟨k', hk, Nat.le_refl _, fun _ => ⟨hup m hm, fun rb c0 e0 hb hc => ⟨c0, hc, Nat.le_refl _⟩⟩⟩
  have hsplit : ∀ m rb, Cv.hget ((n, k) :: h) m ≠ none → upd0 β n m = some rb → D m ∧ Cv.hget h m ≠ none ∧ β m = some rb := fun m rb hm hb => by
    by_cases e : m = n
    · subst e; rw [hun] at hb; cases hb
    · rw [hget_cons, if_neg e] at hm
      have hd := hdom m hm
      rw [hup m hd] at hb
      exact ⟨hd, hm, hb⟩
  refine ⟨⟨fun m k' hk => ?_, fun m k' rb hk hb => ?_, fun m1 m2 rb h1 h2 h3 h4 => ?_, fun m rb hm hb => ?_, hS.ilt⟩,
    ⟨hp, rfl, rfl, rfl, Nat.le_refl _, fun _ _ _ => rfl, fun m rb hm hb => ?_, fun _ h => .inl h, fun m hm _ => hup m hm⟩⟩
  · by_cases e : m = n
    · exact .inr e
    · rw [hget_cons, if_neg e] at hk; exact .inl (hS.dom m k' hk)
  · obtain ⟨hd, hm, hb'⟩ := hsplit m rb (by rw [hk]; simp) hb
    rw [hget m hd] at hk
    exact (hS.blk m k' rb hk hb').mono (fun _ h => .inl h) hp rfl
  · obtain ⟨_, g1, b1⟩ := hsplit m1 rb h1 h3
    obtain ⟨_, g2, b2⟩ := hsplit m2 rb h2 h4
    exact hS.inj m1 m2 rb g1 g2 b1 b2
  · obtain ⟨_, g1, b1⟩ := hsplit m rb hm hb
    exact hS.noI m rb g1 b1
  · obtain ⟨_, g1, b1⟩ := hsplit m rb hm hb
    exact .inr ⟨m, g1, b1⟩

theorem row_append {cs0 cs1 : List CV} {c0 c1 c2 : Array Value} (h0 : RowR D h β I w cs0 c0) (h1 : RowR D h β I w cs1 c1) :
    (cs0 ++ cs1).length ≤ (c0 ++ c1 ++ c2).size ∧ ∀ i cv, (cs0 ++ cs1)[i]? = some cv → ((c0 ++ c1 ++ c2).getD i undef).oneCell' = true ∧ SimV D h β I w cv ((c0 ++ c1 ++ c2).getD i undef) := by
  have e0 := h0.1
  have e1 := h1.1
  refine ⟨by simp; omega, fun i cv hi => ?_⟩
  rw [getD_toList]
  simp only [Array.toList_append, List.append_assoc]
  by_cases hlt : i < cs0.length
  · rw [List.getElem?_append_left hlt] at hi
    rw [List.getElem?_append_left (by simp; omega)]
    have := h0.2 _ _ hi
    rwa [getD_toList] at this
  · rw [List.getElem?_append_right (by omega)] at hi
    rw [List.getElem?_append_right (by simp; omega)]
    have hlt2 : i - cs0.length < cs1.length := by
      rcases Nat.lt_or_ge (i - cs0.length) cs1.length with h3 | h3
      · exact h3
      · rw [List.getElem?_eq_none h3] at hi; cases hi
    rw [List.getElem?_append_left (by simp; omega)]
    have := h1.2 _ _ hi
    rw [getD_toList] at this
    have e2 : i - c0.toList.length = i - cs0.length := by simp; omega
    rw [e2]; exact this

theorem opOk_same' (hS : Sim D h β I w) (n : Nat) {cv : CV} {v : Value} {r : Result Next} (hr : r = .ok (.value v) w) (hv : SimV D h β I w cv v) : OpOk D n h β I w cv h r := by
  subst hr; exact opOk_same hS n hv

theorem append_sound {ts : Array TypeId} {ty : TypeId} {s x cv : CV} {v u : Value} {h' : Heap} (hS : Sim D h β I w) {n : Nat} (hn : ¬ D n) (he : appendEval P n h ts s x = some (cv, h')) (hs : SimV D h β I w s v) (hx : SimV D h β I w x u) :
    OpOk D n h β I w cv h' ((do pure (Next.value (← Builtin.append_ ts ty #[v, u]))).run P w) := by
  have wrap : ∀ {r : Value} {w' : World}, (Builtin.append_ ts ty #[v, u]).run P w = .ok r w' → ((do pure (Next.value (← Builtin.append_ ts ty #[v, u]))).run P w) = .ok (.value r) w' := fun hr => by simp [hr]
  unfold appendEval at he
  split at he
  · rename_i t0 t1 e0 e1
    split at he
    · rename_i elem d1 u0 u1
      split at he
      · rename_i sz by_ z hsz hby hz
        split at he
        · rename_i cs cnt hsrc
          split at he
          · rename_i hcond
            obtain ⟨hi, hb, hzs⟩ := hcond
            obtain ⟨hlen, hcl, c1, hrow1, hfc⟩ := src_real (P := P) hS hsrc hx
            split at he
            · -- nil
              have := simv_lit hs
              subst this
              split at he
              · rename_i hc0
                subst hc0
                have hcs : cs = [] := by rw [Nat.zero_mul] at hcl; exact List.length_eq_zero_iff.1 hcl
                subst hcs
                cases he
                exact opOk_same' hS n (wrap (append_run_nil e0 e1 u0 u1 hi hsz hlen (hfc w rfl))) (.lit _)
              · rename_i hc0
                split at he
                · rename_i hbd
                  cases he
                  obtain ⟨newCap, w0, h1, h2, h3, h4⟩ := append_run_new (P := P) (w := w) (base := none) (len := 0) (cap := 0) (c0 := #[]) (ty := ty) e0 e1 u0 u1 hi hsz hby hb hz hlen (fun w' _ => rfl) hfc (by omega) (by omega)
                  have hr0 : RowR D h β I w [] #[] := ⟨rfl, fun i cv hi => by simp at hi⟩
                  obtain ⟨k1, k2⟩ := row_append (c2 := Builtin.zeroCells z.cells (newCap - (0 + cnt))) hr0 hrow1
                  rw [Nat.zero_add] at h4 k1 k2
                  obtain ⟨s1, s2, s3⟩ := newslice_ok hS hn (w0 := w0) (w' := { w0 with heap := w0.heap.push (.cells (#[] ++ c1 ++ Builtin.zeroCells z.cells (newCap - cnt)) elem) }) (e := elem) (c := #[] ++ c1 ++ Builtin.zeroCells z.cells (newCap - cnt)) (cs := cs) (len := cnt) (cap := newCap) (sz := sz) h2 h3 rfl (by simpa using k1) (by simpa using k2) (by omega) (by
                    simp only [Array.size_append, zeroCells_size, hzs, List.size_toArray, List.length_nil, Nat.zero_add]
                    rw [hrow1.1, hcl, ← Nat.add_mul]
                    rw [show cnt + (newCap - cnt) = newCap from by omega]
                    exact Nat.le_refl _)
                  exact ⟨_, _, _, .inl (wrap h4), s1, s2, s3⟩
                · cases he
            · rename_i b g off len sz'
              split at he
              · rename_i k hkc
                obtain ⟨hk, hmap⟩ := cget_spec hkc
                split at he
                · rename_i hc2
                  obtain ⟨hg, rfl, rfl, hbd, hfit⟩ := hc2
                  cases he
                  have hl : live h b g = true := by unfold live; rw [hkc]; simp [hg]
                  obtain ⟨hd, hg2, hcase⟩ := sl_live hl hs
                  have hgk := hg2 k hk
                  have htl : (k.cells.take (len * sz')).length = len * sz' := by simp; omega
                  have fin : ∀ (g' : Nat) (cells : List CV), hget (hset h b ⟨g', cells, none⟩) b = some ⟨g', cells, none⟩ := fun g' cells => by rw [hget_hset, if_pos rfl]
                  rcases hcase with ⟨rb, cap, o, c, e, hbb, hc, hlc, hfit2, ho, rfl⟩
                  · obtain ⟨c2, e2, q1, q2, q3⟩ := (hS.blk b k rb hk hbb).cell hmap
                    rw [hc] at q1; cases q1
                    by_cases hle : len + cnt ≤ cap
                    · -- in place
                      have hoz : (o = 0) ∨ (len = 0 ∧ cap = 0) := ho
                      by_cases hcz : len = 0 ∧ cap = 0
                      · -- nothing is appended to an empty slice without room
                        have hc0 : cnt = 0 := by omega
                        subst hc0
                        have hcs : cs = [] := by rw [Nat.zero_mul] at hcl; exact List.length_eq_zero_iff.1 hcl
                        subst hcs
                        obtain ⟨rfl, rfl⟩ := hcz
                        have hc1e : c1 = #[] := Array.size_eq_zero_iff.1 hrow1.1
                        have hrun : (Builtin.append_ ts ty #[.slice (some ⟨rb, o, none⟩) 0 0, u]).run P w = .ok (.slice (some ⟨rb, o, none⟩) 0 0) w := by
                          simp only [Builtin.append_, e0, e1, Array.getElem?_eq_getElem, List.size_toArray, List.length_cons, List.length_nil, Nat.lt_add_one, Nat.zero_lt_succ, List.getElem_toArray, List.getElem_cons_zero, List.getElem_cons_succ, Nat.reduceAdd,
                              Sem.run_bind, run_under u0, run_under u1, Result.andThen_ok, run_tySize hsz, Sem.run_pure]
                          cases d1
                          all_goals (try (exfalso; simp [isInt] at hi; done))
                          all_goals
                            simp only [Bool.false_eq_true, if_false, Bool.not_false, if_true, Sem.run_bind, hlen, Result.andThen_ok, Nat.add_zero, Nat.le_refl, hfc w rfl, hc1e, storeCells, Sem.run_pure]
                        obtain ⟨s1, s2⟩ := sim_regen hS hk hbb (k.cells.take (0 * sz') ++ []) (w' := w) (fun _ _ => rfl) rfl hc ⟨rfl, rfl, rfl⟩ (by simp) (fun i cv hi => by simp at hi)
                        refine ⟨_, _, w, .inl (wrap hrun), s1.more fun _ h => .inl h, ?_, s2⟩
                        exact .sl (.inl hd) (fun k2 hk2 => by rw [fin] at hk2; cases hk2; exact Nat.le_refl _) hbb hc (Nat.le_refl _) (by simp) (.inr ⟨rfl, rfl⟩)
                      · have hoe : o = 0 := by rcases hoz with h5 | h5
                                               · exact h5
                                               · exact absurd h5 hcz
                        subst hoe
                        have hmul : (len + cnt) * sz' ≤ cap * sz' := Nat.mul_le_mul_right _ hle
                        rw [Nat.add_mul] at hmul
                        have hc1s := hrow1.1
                        have hone : ∀ y ∈ c1.toList, y.oneCell' = true := fun y hy => by
                          obtain ⟨i, hi2, rfl⟩ := List.mem_iff_getElem.1 hy
                          have hi3 : i < cs.length := by simp at hi2; omega
                          have := (hrow1.2 i _ (List.getElem?_eq_getElem hi3)).1
                          rw [getD_toList, List.getElem?_eq_getElem hi2] at this
                          simpa using this
                        have hrun := append_run_old (P := P) (ty := ty) (w := w) (off := 0) e0 e1 u0 u1 hi hsz hlen (hfc w rfl) hle hc (by omega) hone
                        have hrow := setRow_heap w rb c ((c.toList.take (0 + len * sz') ++ c1.toList ++ c.toList.drop (0 + len * sz' + c1.toList.length)).toArray) e (0, 0) hc
                        have hnew : ((c.toList.take (0 + len * sz') ++ c1.toList ++ c.toList.drop (0 + len * sz' + c1.toList.length)).toArray).size = c.size := by
                          simp only [List.size_toArray, List.length_append, List.length_take, List.length_drop, Array.length_toList]
                          omega
                        obtain ⟨s1, s2⟩ := sim_regen hS hk hbb (k.cells.take (len * sz') ++ cs) (fun m hm => setRow_other w rb _ m hm) (setRow_size w rb _) hrow (setRow_but w rb _) (by rw [hnew]; simp; omega) (fun i cv hi2 => by
                          rw [getD_toList]
                          simp only [Nat.zero_add]
                          by_cases hlt : i < len * sz'
                          · rw [List.getElem?_append_left (by omega)] at hi2
                            rw [List.getElem?_take, if_pos hlt] at hi2
                            have := q3 _ _ hi2
                            rw [getD_toList] at this
                            rw [List.append_assoc, List.getElem?_append_left (by simp; omega), List.getElem?_take, if_pos hlt]
                            exact this
                          · rw [List.getElem?_append_right (by omega)] at hi2
                            have hlt2 : i - (k.cells.take (len * sz')).length < cs.length := by
                              rcases Nat.lt_or_ge (i - (k.cells.take (len * sz')).length) cs.length with h3 | h3
                              · exact h3
                              · rw [List.getElem?_eq_none h3] at hi2; cases hi2
                            have := hrow1.2 _ _ hi2
                            rw [getD_toList] at this
                            rw [List.append_assoc, List.getElem?_append_right (by simp; omega), List.getElem?_append_left (by simp; omega)]
                            have e3 : i - (List.take (len * sz') c.toList).length = i - (k.cells.take (len * sz')).length := by simp; omega
                            rw [e3]; exact this)
                        refine ⟨_, _, _, .inl (wrap hrun), s1.more fun _ h => .inl h, ?_, s2⟩
                        exact .sl (.inl hd) (fun k2 hk2 => by rw [fin] at hk2; cases hk2; exact Nat.le_refl _) hbb hrow hle (by rw [hnew]; omega) (.inl rfl)
                    · -- new memory
                      have hrow0 : RowR D h β I w (k.cells.take (len * sz')) ((List.range (len * sz')).map fun i => c.getD i undef).toArray := ⟨by simp; omega, fun i cv hi2 => by
                        rw [List.getElem?_take] at hi2
                        split at hi2
                        · rename_i hi3
                          have := q3 _ _ hi2
                          simpa [getD_toList, hi3] using this
                        · cases hi2⟩
                      have hfc0 : ∀ w', w'.heap = w.heap → (Builtin.firstCells sz' len (.slice (some ⟨rb, o, none⟩) len cap)).run P w' = .ok ((List.range (len * sz')).map fun i => c.getD i undef).toArray w' := fun w' hw => by
                        by_cases hz0 : len * sz' = 0
                        · simp [Builtin.firstCells, hz0, loadCells, loadCellsFrom]
                        · have : o = 0 := by
                            rcases ho with ho | ho
                            · exact ho
                            · rw [ho.1] at hz0; simp at hz0
                          subst this
                          simp only [Builtin.firstCells]
                          refine loadCells_of (cs := k.cells.take (len * sz')) (fun i => c.getD i undef) htl.symm fun i hi2 => ?_
                          have h7 : i < c.size := by omega
                          simp [World.cell?, hw, hc, h7]
                      obtain ⟨newCap, w0, h1, h2, h3, h4⟩ := append_run_new (P := P) (w := w) (ty := ty) e0 e1 u0 u1 hi hsz hby hb hz hlen hfc0 hfc (by omega) (by omega)
                      obtain ⟨k1, k2⟩ := row_append (c2 := Builtin.zeroCells z.cells (newCap - (len + cnt))) hrow0 hrow1
                      have hsize : newCap * sz' ≤ (((List.range (len * sz')).map fun i => c.getD i undef).toArray ++ c1 ++ Builtin.zeroCells z.cells (newCap - (len + cnt))).size := by
                        simp only [Array.size_append, zeroCells_size, hzs, List.size_toArray, List.length_map, List.length_range]
                        rw [hrow1.1, hcl, ← Nat.add_mul, ← Nat.add_mul]
                        rw [show len + cnt + (newCap - (len + cnt)) = newCap from by omega]
                        exact Nat.le_refl _
                      obtain ⟨s1, s2⟩ := sim_move hS hk (c := ((List.range (len * sz')).map fun i => c.getD i undef).toArray ++ c1 ++ Builtin.zeroCells z.cells (newCap - (len + cnt))) (e := elem) (k.cells.take (len * sz') ++ cs) (w' := { w0 with heap := w0.heap.push (.cells (((List.range (len * sz')).map fun i => c.getD i undef).toArray ++ c1 ++ Builtin.zeroCells z.cells (newCap - (len + cnt))) elem) }) (by simp [h2]) ⟨h3.os, h3.tape, h3.output⟩ k1 k2
                      refine ⟨_, _, _, .inl (wrap h4), s1.more fun _ h => .inl h, ?_, s2⟩
                      rw [h2]
                      refine .sl (c := ((List.range (len * sz')).map fun i => c.getD i undef).toArray ++ c1 ++ Builtin.zeroCells z.cells (newCap - (len + cnt))) (e := elem) (.inl hd) (fun k2 hk2 => by rw [fin] at hk2; cases hk2; exact Nat.le_refl _) (upd_at ..) ?_ (by omega) (by rw [Nat.zero_add]; exact hsize) (.inl rfl)
                      simp [h2]
                · cases he
              · cases he
            · cases he
          · cases he
        · cases he
      · cases he
    · cases he
  · cases he

end
end Go.Cv
namespace Go.Cv
open Go

section
variable {D : Nat → Prop} {h : Heap} {β : Nat → Option Nat} {I : Nat → Prop} {w : World} {P : Program}

/-- A new block that is a map. -/
theorem sim_newmap (hS : Sim D h β I w) {n : Nat} (hn : ¬ D n) {w' : World} (hw : w'.heap = w.heap.push (.map #[] 0)) (hs : SameBut w w') :
    Sim (plus D n) ((n, ⟨0, [], some []⟩) :: h) (upd β n w.heap.size) I w' ∧ Ext D h β I w ((n, ⟨0, [], some []⟩) :: h) (upd β n w.heap.size) I w' := by
  have hne : ∀ m, D m → m ≠ n := fun m hm e => hn (e ▸ hm)
  have hget : ∀ m, D m → hget ((n, ⟨0, [], some []⟩) :: h) m = hget h m := fun m hm => by rw [hget_cons, if_neg (hne m hm)]
  have hup : ∀ m, D m → upd β n w.heap.size m = β m := fun m hm => by unfold upd; rw [if_neg (hne m hm)]
  have hdom : ∀ m, Cv.hget h m ≠ none → D m := fun m hm => by
    cases e : Cv.hget h m with
    | none => exact absurd e hm
    | some k => exact hS.dom m k e
  have hold : ∀ b, b < w.heap.size → w'.heap[b]? = w.heap[b]? := fun b hb => by rw [hw, Array.getElem?_push, if_neg (by omega)]
  have hp : Pres D h β I w ((n, ⟨0, [], some []⟩) :: h) (upd β n w.heap.size) I w' := by
    refine ⟨fun _ h => h, fun b hb => hold b (hS.ilt b hb), fun m k' hm hk => ?_⟩
    rw [hget m hm] at hk
    refine ⟨k', hk, Nat.le_refl _, fun _ => ⟨hup m hm, fun rb c0 e0 hb hc => ⟨c0, ?_, Nat.le_refl _⟩⟩⟩
    have : rb < w.heap.size := by
      rcases Nat.lt_or_ge rb w.heap.size with h1 | h1
      · exact h1
      · rw [Array.getElem?_eq_none h1] at hc; cases hc
    rw [hold rb this]; exact hc
  have hlt : ∀ m rb, Cv.hget h m ≠ none → β m = some rb → rb < w.heap.size := fun m rb hm hb => by
    cases e : Cv.hget h m with
    | none => exact absurd e hm
    | some k => exact (hS.blk m k rb e hb).lt
  have hsplit : ∀ m, Cv.hget ((n, ⟨0, [], some []⟩) :: h) m ≠ none → m = n ∨ (D m ∧ Cv.hget h m ≠ none) := fun m hm => by
    by_cases e : m = n
    · exact .inl e
    · rw [hget_cons, if_neg e] at hm; exact .inr ⟨hdom m hm, hm⟩
  have hun : upd β n w.heap.size n = some w.heap.size := by unfold upd; rw [if_pos rfl]
  refine ⟨⟨fun m k hk => ?_, fun m k rb hk hb => ?_, fun m1 m2 rb h1 h2 h3 h4 => ?_, fun m rb hm hb => ?_, fun b hb => ?_⟩,
    ⟨hp, hs.os, hs.tape, hs.output, by rw [hw, Array.size_push]; omega, fun b hb _ => hold b hb, fun m rb hm hb => ?_, fun _ h => .inl h, fun m hm _ => hup m hm⟩⟩
  · rcases hsplit m (by rw [hk]; simp) with h1 | h1
    · exact .inr h1
    · exact .inl h1.1
  · by_cases e : m = n
    · subst e
      rw [hget_cons, if_pos rfl] at hk
      cases hk
      rw [hun] at hb
      cases hb
      refine ⟨fun hm => by simp at hm, fun l hl => ?_⟩
      simp only [Option.some.injEq] at hl
      subst hl
      exact ⟨#[], 0, by rw [hw, Array.getElem?_push, if_pos rfl], rfl, fun i p e hi _ => by simp at hi⟩
    · rw [hget_cons, if_neg e] at hk
      have hm := hS.dom m k hk
      rw [hup m hm] at hb
      exact (hS.blk m k rb hk hb).mono (fun _ h => .inl h) hp (hold rb (hlt m rb (by rw [hk]; simp) hb))
  · rcases hsplit m1 h1 with e1 | ⟨d1, g1⟩ <;> rcases hsplit m2 h2 with e2 | ⟨d2, g2⟩
    · rw [e1, e2]
    · subst e1
      rw [hun] at h3; rw [hup m2 d2] at h4
      have := hlt m2 rb g2 h4
      cases h3; omega
    · subst e2
      rw [hun] at h4; rw [hup m1 d1] at h3
      have := hlt m1 rb g1 h3
      cases h4; omega
    · rw [hup m1 d1] at h3; rw [hup m2 d2] at h4
      exact hS.inj m1 m2 rb g1 g2 h3 h4
  · rcases hsplit m hm with e1 | ⟨d1, g1⟩
    · subst e1
      rw [hun] at hb; cases hb
      intro hI
      have := hS.ilt _ hI
      omega
    · rw [hup m d1] at hb; exact hS.noI m rb g1 hb
  · rw [hw, Array.size_push]; have := hS.ilt b hb; omega
  · rcases hsplit m hm with e1 | ⟨d1, g1⟩
    · subst e1
      rw [hun] at hb; cases hb; exact .inl (Nat.le_refl _)
    · rw [hup m d1] at hb; exact .inr ⟨m, g1, hb⟩

/-- A map's entries are written. -/
theorem sim_setmap (hS : Sim D h β I w) {b rb : Nat} {k : Blk} (hk : hget h b = some k) (hb : β b = some rb) {w' : World} {es0 es : Array MapEntry} {cl0 cl : Nat} (l : List (CV × CV))
    (h0 : w.heap[rb]? = some (.map es0 cl0)) (hw : ∀ m, m ≠ rb → w'.heap[m]? = w.heap[m]?) (hsz : w'.heap.size = w.heap.size) (hc' : w'.heap[rb]? = some (.map es cl)) (hs : SameBut w w')
    (hl : l.length = es.size) (hv : ∀ (i : Nat) (p : CV × CV) (e : MapEntry), l[i]? = some p → es[i]? = some e → SimV D h β I w p.1 e.key ∧ SimV D h β I w p.2 e.val) :
    Sim D (hset h b ⟨k.gen, k.cells, some l⟩) β I w' ∧ Ext D h β I w (hset h b ⟨k.gen, k.cells, some l⟩) β I w' := by
  have hne : hget h b ≠ none := by rw [hk]; simp
  have hnI : ¬ I rb := hS.noI b rb hne hb
  have hI : ∀ b', I b' → w'.heap[b']? = w.heap[b']? := fun b' hb' => hw b' fun e => hnI (e ▸ hb')
  have hp : Pres D h β I w (hset h b ⟨k.gen, k.cells, some l⟩) β I w' := by
    refine ⟨fun _ h => h, hI, fun m k' hm hk' => ?_⟩
    rw [hget_hset] at hk'
    have hcell : ∀ (rb' : Nat) (c0 : Array Value) (e0 : TypeId), w.heap[rb']? = some (Obj.cells c0 e0 (0, 0)) → ∃ c1 : Array Value, w'.heap[rb']? = some (Obj.cells c1 e0 (0, 0)) ∧ c0.size ≤ c1.size := fun rb' c0 e0 h1 => by
      by_cases er : rb' = rb
      · subst er; rw [h0] at h1; cases h1
      · exact ⟨c0, by rw [hw rb' er]; exact h1, Nat.le_refl _⟩
    by_cases em : m = b
    · subst em
      rw [if_pos rfl] at hk'
      cases hk'
      exact ⟨k, hk, Nat.le_refl _, fun _ => ⟨rfl, fun rb' c0 e0 _ h0 => hcell rb' c0 e0 h0⟩⟩
    · rw [if_neg em] at hk'
      exact ⟨k', hk', Nat.le_refl _, fun _ => ⟨rfl, fun rb' c0 e0 _ h0 => hcell rb' c0 e0 h0⟩⟩
  have hdom : ∀ m, hget (hset h b ⟨k.gen, k.cells, some l⟩) m ≠ none → hget h m ≠ none := fun m hm => by
    rw [hget_hset] at hm
    by_cases em : m = b
    · subst em; exact hne
    · rw [if_neg em] at hm; exact hm
  refine ⟨⟨fun m k' hk' => ?_, fun m k' rb' hk' hb' => ?_, fun m1 m2 rb' h1 h2 h3 h4 => hS.inj m1 m2 rb' (hdom _ h1) (hdom _ h2) h3 h4, fun m rb' hm hb' => hS.noI m rb' (hdom _ hm) hb', fun b' hb' => by rw [hsz]; exact hS.ilt b' hb'⟩,
    ⟨hp, hs.os, hs.tape, hs.output, by rw [hsz]; exact Nat.le_refl _, fun b' _ hb' => hw b' fun e => hb' b hne (e ▸ hb), fun m rb' hm hb' => .inr ⟨m, hdom _ hm, hb'⟩, fun _ h => .inl h, fun _ _ _ => rfl⟩⟩
  · have := hdom m (by rw [hk']; simp)
    cases e2 : hget h m with
    | none => exact absurd e2 this
    | some k2 => exact hS.dom m k2 e2
  · rw [hget_hset] at hk'
    by_cases em : m = b
    · subst em
      rw [if_pos rfl] at hk'
      cases hk'
      rw [hb] at hb'
      cases hb'
      refine ⟨fun hm => by simp at hm, fun l2 hl2 => ?_⟩
      simp only [Option.some.injEq] at hl2
      subst hl2
      exact ⟨es, cl, hc', hl, fun i p e hi he => ⟨(hv i p e hi he).1.mono (fun _ h => h) hp, (hv i p e hi he).2.mono (fun _ h => h) hp⟩⟩
    · rw [if_neg em] at hk'
      have : rb' ≠ rb := fun e2 => em (hS.inj m b rb (by rw [hk']; simp) hne (e2 ▸ hb') hb)
      exact (hS.blk m k' rb' hk' hb').mono (fun _ h => h) hp (hw rb' this)

/-! ### Keys -/
def sameKey : Value → Value → Option Bool
  | .int j a, .int k b => if j = k then some (a == b) else none
  | .string a, .string b => some (a == b)
  | _, _ => none
def keyDesc : TypeDesc → Value → Bool
  | .int _, .int .. => true
  | .string, .string _ => true
  | _, _ => false
def findC (k : Value) : List (CV × CV) → Nat → Option (Option (Nat × CV))
  | [], _ => some none
  | (.lit kc, v) :: l, i => match sameKey k kc with
    | some true => some (some (i, v))
    | some false => findC k l (i + 1)
    | none => none
  | _, _ => none

theorem find_real {d : TypeDesc} {k : Value} (hd : keyDesc d k = true) : ∀ (l : List (CV × CV)) (es : List MapEntry) (i : Nat) (r : Option (Nat × CV)), l.length = es.length →
    (∀ (j : Nat) (p : CV × CV) (e : MapEntry), l[j]? = some p → es[j]? = some e → SimV D h β I w p.1 e.key ∧ SimV D h β I w p.2 e.val) → findC k l i = some r →
    ∃ r', Instr.findNow d k es i = some r' ∧ (match r with
      | none => r' = none
      | some (j, c) => ∃ v, r' = some (j, v) ∧ SimV D h β I w c v ∧ i ≤ j ∧ ∃ e, es[j - i]? = some e ∧ sameKey k e.key = some true ∧ e.val = v)
  | [], es, i, r, hl, hv, hf => by
    simp only [findC, Option.some.injEq] at hf
    subst hf
    cases es with
    | nil => exact ⟨none, rfl, rfl⟩
    | cons e es => simp at hl
  | (kc, vc) :: l, es, i, r, hl, hv, hf => by
    cases es with
    | nil => simp at hl
    | cons e es =>
      obtain ⟨h1, h2⟩ := hv 0 (kc, vc) e rfl rfl
      cases kc with
      | lit kv =>
        have hk := simv_lit h1
        simp only [findC] at hf
        have hsame : ∀ b, sameKey k kv = some b → Instr.sameNow d k e.key = some b := fun b hb => by
          rw [hk]
          cases k with
          | int j a =>
            cases kv with
            | int j2 a2 => cases d <;> first | (simp [keyDesc] at hd; done) | exact hb
            | _ => simp [sameKey] at hb
          | string a =>
            cases kv with
            | string a2 => cases d <;> first | (simp [keyDesc] at hd; done) | exact hb
            | _ => simp [sameKey] at hb
          | _ => simp [sameKey] at hb
        split at hf
        · rename_i hb
          simp only [Option.some.injEq] at hf
          subst hf
          refine ⟨some (i, e.val), by simp only [Instr.findNow, hsame _ hb], e.val, rfl, h2, Nat.le_refl _, e, by simp, by rw [hk]; exact hb, rfl⟩
        · rename_i hb
          obtain ⟨r', q1, q2⟩ := find_real hd l es (i + 1) r (by simpa using hl) (fun j p e hp he => hv (j + 1) p e (by simpa using hp) (by simpa using he)) hf
          refine ⟨r', by simp only [Instr.findNow, hsame _ hb, q1], ?_⟩
          cases r with
          | none => exact q2
          | some jc =>
            obtain ⟨j, c⟩ := jc
            obtain ⟨v, a1, a2, a3, e', a4, a5⟩ := q2
            refine ⟨v, a1, a2, by omega, e', ?_, a5⟩
            rw [show j - i = (j - (i + 1)) + 1 from by omega]
            simpa using a4
        · cases hf
      | _ => simp [findC] at hf

theorem checkKey_run' {d : TypeDesc} {t : TypeId} {k : Value} {b : Bool} (n : Nat) (hu : P.underlying t = some d) (hd : keyDesc d k = true) : (Instr.checkKey b (n + 1) t k).run P w = .ok () w := by
  unfold Instr.checkKey
  simp only [Sem.run_bind, run_under hu, Result.andThen_ok]
  cases d <;> cases k <;> first | (simp [keyDesc] at hd; done) | rfl
theorem checkKey_run {d : TypeDesc} {t : TypeId} {k : Value} {b : Bool} (hu : P.underlying t = some d) (hd : keyDesc d k = true) : (Instr.checkKey b 10000 t k).run P w = .ok () w :=
  checkKey_run' 9999 hu hd

theorem getMap_run {rb : Nat} {es : Array MapEntry} {cl : Nat} (hb : w.heap[rb]? = some (.map es cl)) : (getObj rb).run P w = .ok (.map es cl) w := by simp [getObj, Sem.run, hb]
theorem setMap_run {rb : Nat} {es : Array MapEntry} {cl : Nat} (o : Obj) (hb : w.heap[rb]? = some (.map es cl)) : (setObj rb o).run P w = .ok () { w with heap := w.heap.setIfInBounds rb o } := by
  simp [setObj, Sem.run, hb]

theorem bytes_eq {a b : ByteArray} (h : (a == b) = true) : a = b := by
  cases a with
  | mk a => cases b with
    | mk b =>
      have h2 : (a == b) = true := h
      have h3 : a = b := by simpa using h2
      rw [h3]

theorem same_bits' {k e : Value} (n : Nat) (hs : sameKey k e = some true) : Instr.sameBits n e k = true := by
  cases k <;> cases e <;> simp [sameKey] at hs
  · obtain ⟨h1, h2⟩ := hs
    subst h1; subst h2
    cases n <;> simp [Instr.sameBits]
  · have := bytes_eq hs
    subst this
    cases n <;> simpa [Instr.sameBits] using hs
theorem same_bits {k e : Value} (hs : sameKey k e = some true) : Instr.sameBits 10000 e k = true := same_bits' 10000 hs

def Found (D : Nat → Prop) (h : Heap) (β : Nat → Option Nat) (I : Nat → Prop) (w : World) (kv : Value) (es : Array MapEntry) : Option (Nat × CV) → Option (Nat × Value) → Prop
  | none, r' => r' = none
  | some (j, c), r' => ∃ v, r' = some (j, v) ∧ SimV D h β I w c v ∧ ∃ e, es[j]? = some e ∧ sameKey kv e.key = some true ∧ e.val = v

def findKeyEval (P : Program) (t : TypeId) (l : List (CV × CV)) (kc : CV) : Option (Value × Option (Nat × CV)) :=
  match kc with
  | .lit k => match P.underlying t with
    | some d => if keyDesc d k then (findC k l 0).map (k, ·) else none
    | none => none
  | _ => none

def mapLookupEval (P : Program) (h : Heap) (t : TypeId) (m kc : CV) (ok : Bool) : Option CV :=
  match P.underlying t with
  | some (.map kt et) => match m with
    | .mp b g => match hget h b with
      | some k => match k.map with
        | some l => if k.gen ≤ g then
            match findKeyEval P kt l kc with
            | some (_, some (_, v)) => some (if ok then .tup [v, .lit (.bool true)] else v)
            | some (_, none) => match tyZero P et with
              | some z => some (if ok then .tup [ofVal1 z, .lit (.bool false)] else ofVal1 z)
              | none => none
            | none => none
          else none
        | none => none
      | none => none
    | _ => none
  | _ => none

theorem mp_real {b g : Nat} {v : Value} {k : Blk} (hk : hget h b = some k) (hg : k.gen ≤ g) (hs : SimV D h β I w (.mp b g) v) : ∃ rb, D b ∧ β b = some rb ∧ v = .map (some rb) := by
  cases hs with
  | mpNo hd hn => have := hn k hk; omega
  | @mp _ _ rb hd _ hb => exact ⟨rb, hd, hb, rfl⟩

theorem findKey_run {t : TypeId} {es : Array MapEntry} {l : List (CV × CV)} {kc : CV} {kv k : Value} {r : Option (Nat × CV)} (hl : l.length = es.size)
    (hv : ∀ (j : Nat) (p : CV × CV) (e : MapEntry), l[j]? = some p → es[j]? = some e → SimV D h β I w p.1 e.key ∧ SimV D h β I w p.2 e.val)
    (he : findKeyEval P t l kc = some (k, r)) (hs : SimV D h β I w kc kv) :
    kv = k ∧ kc = .lit k ∧ (∀ b, (Instr.checkKey b 10000 t kv).run P w = .ok () w) ∧ ∃ r', (Instr.findKey t kv es.toList).run P w = .ok r' w ∧ Found D h β I w kv es r r' := by
  unfold findKeyEval at he
  split at he
  · rename_i k0
    split at he
    · rename_i d hu
      split at he
      · rename_i hd
        have := simv_lit hs
        subst this
        cases e : findC kv l 0 with
        | none => rw [e] at he; cases he
        | some r0 =>
          rw [e] at he
          simp only [Option.map_some, Option.some.injEq, Prod.mk.injEq] at he
          obtain ⟨rfl, rfl⟩ := he
          obtain ⟨r', q1, q2⟩ := find_real hd l es.toList 0 r0 (by simpa using hl) (fun j p e hp he => hv j p e hp (by simpa using he)) e
          refine ⟨rfl, rfl, fun b => checkKey_run hu hd, r', ?_, ?_⟩
          · simp only [Instr.findKey, Sem.run_bind, run_under hu, Result.andThen_ok, q1, Sem.run_pure]
          · cases r0 with
            | none => exact q2
            | some jc =>
              obtain ⟨j, c⟩ := jc
              obtain ⟨v, a1, a2, a3, e', a4, a5⟩ := q2
              exact ⟨v, a1, a2, e', by simpa using a4, a5⟩
      · cases he
    · cases he
  · cases he

theorem lookup_sound {t : TypeId} {m kc cv : CV} {ok : Bool} {v u : Value} (hS : Sim D h β I w) (he : mapLookupEval P h t m kc ok = some cv) (hm : SimV D h β I w m v) (hk : SimV D h β I w kc u) :
    ∃ r, (Instr.lookup t v u ok).run P w = .ok r w ∧ SimV D h β I w cv r := by
  unfold mapLookupEval at he
  split at he
  · rename_i kt et hu
    split at he
    · rename_i b g
      split at he
      · rename_i k hkk
        split at he
        · rename_i l hl
          split at he
          · rename_i hg
            obtain ⟨rb, hd, hb, rfl⟩ := mp_real hkk hg hm
            obtain ⟨es, cl, q1, q2, q3⟩ := (hS.blk b k rb hkk hb).mapp l hl
            have two : ∀ {c : CV} {x : Value} (b : Bool), SimV D h β I w c x → SimV D h β I w (if ok then .tup [c, .lit (.bool b)] else c) (if ok then .tuple #[x, .bool b] else x) := by
              intro c x b hx
              split
              · refine .tup rfl fun i c' hi => ?_
                match i, hi with
                | 0, hi => simp at hi; subst hi; exact hx
                | 1, hi => simp at hi; subst hi; exact .lit _
                | i + 2, hi => simp at hi
              · exact hx
            split at he
            · rename_i k2 j c hf
              obtain ⟨rfl, _, a2, r', a3, x, rfl, a4, _⟩ := findKey_run q2 q3 hf hk
              cases he
              refine ⟨if ok then .tuple #[x, .bool true] else x, ?_, two true a4⟩
              simp only [Instr.lookup, Sem.run_bind, run_under hu, Result.andThen_ok, getMap_run q1, Sem.run_pure, a2, a3]
            · rename_i k2 hf
              obtain ⟨rfl, _, a2, r', a3, rfl⟩ := findKey_run q2 q3 hf hk
              split at he
              · rename_i z hz
                cases he
                refine ⟨if ok then .tuple #[z, .bool false] else z, ?_, two false (simv_ofVal1 z)⟩
                simp only [Instr.lookup, Sem.run_bind, run_under hu, Result.andThen_ok, getMap_run q1, Sem.run_pure, a2, a3, run_tyZero hz]
              · cases he
            · cases he
          · cases he
        · cases he
      · cases he
    · cases he
  · cases he

def mapUpdateEval (P : Program) (h : Heap) (t : TypeId) (m kc vc : CV) : Option Heap :=
  match P.underlying t with
  | some (.map kt _) => match m with
    | .mp b g => match hget h b with
      | some k => match k.map with
        | some l => if k.gen ≤ g then
            match findKeyEval P kt l kc with
            | some (_, some (j, _)) => some (hset h b ⟨k.gen, k.cells, some (l.set j (kc, vc))⟩)
            | some (_, none) => some (hset h b ⟨k.gen, k.cells, some (l ++ [(kc, vc)])⟩)
            | none => none
          else none
        | none => none
      | none => none
    | _ => none
  | _ => none

theorem mapUpdate_sound {t : TypeId} {m kc vc : CV} {v u x : Value} {h' : Heap} (hS : Sim D h β I w) (he : mapUpdateEval P h t m kc vc = some h') (hm : SimV D h β I w m v) (hk : SimV D h β I w kc u) (hv : SimV D h β I w vc x) :
    ∃ w', (Instr.mapUpdate t v u x).run P w = .ok () w' ∧ Sim D h' β I w' ∧ Ext D h β I w h' β I w' := by
  unfold mapUpdateEval at he
  split at he
  · rename_i kt et hu
    split at he
    · rename_i b g
      split at he
      · rename_i k hkk
        split at he
        · rename_i l hl
          split at he
          · rename_i hg
            obtain ⟨rb, hd, hb, rfl⟩ := mp_real hkk hg hm
            obtain ⟨es, cl, q1, q2, q3⟩ := (hS.blk b k rb hkk hb).mapp l hl
            have hlt : rb < w.heap.size := (hS.blk b k rb hkk hb).lt
            have hset : ∀ (o : Obj) (m : Nat), m ≠ rb → (w.heap.setIfInBounds rb o)[m]? = w.heap[m]? := fun o m hm => by rw [Array.getElem?_setIfInBounds_ne (Ne.symm hm)]
            have hat : ∀ (o : Obj), (w.heap.setIfInBounds rb o)[rb]? = some o := fun o => by rw [Array.getElem?_setIfInBounds_self_of_lt hlt]
            split at he
            · rename_i k2 j c hf
              obtain ⟨rfl, rfl, a2, r', a3, y, rfl, a4, e0, a5, a6, a7⟩ := findKey_run q2 q3 hf hk
              cases he
              have hrun : (Instr.mapUpdate t (.map (some rb)) u x).run P w = .ok () { w with heap := w.heap.setIfInBounds rb (.map (es.modify j fun e => { e with key := u, val := x }) cl) } := by
                simp only [Instr.mapUpdate, Sem.run_bind, run_under hu, Result.andThen_ok, getMap_run q1, a2, a3, a5, Option.map_some, Option.getD_some, Instr.keyThatStays]
                rw [if_pos (same_bits a6)]
                simp only [Sem.run_pure, Result.andThen_ok, setMap_run _ q1]
              refine ⟨_, hrun, sim_setmap hS hkk hb (l.set j (.lit u, vc)) q1 (fun m hm => hset _ m hm) (by simp) (hat _) ⟨rfl, rfl, rfl⟩ (by simp [q2]) fun i p e hi hei => ?_⟩
              rw [Array.getElem?_modify] at hei
              rw [List.getElem?_set] at hi
              by_cases ej : j = i
              · subst ej
                rw [if_pos rfl] at hi hei
                split at hi
                · cases hi
                  rw [a5] at hei
                  cases hei
                  exact ⟨hk, hv⟩
                · cases hi
              · rw [if_neg ej] at hi hei
                exact q3 i p e hi hei
            · rename_i k2 hf
              obtain ⟨rfl, rfl, a2, r', a3, rfl⟩ := findKey_run q2 q3 hf hk
              cases he
              have hrun : (Instr.mapUpdate t (.map (some rb)) u x).run P w = .ok () { w with heap := w.heap.setIfInBounds rb (.map (es.push { key := u, val := x, born := cl }) (cl + 1)) } := by
                simp only [Instr.mapUpdate, Sem.run_bind, run_under hu, Result.andThen_ok, getMap_run q1, a2, a3, setMap_run _ q1]
              refine ⟨_, hrun, sim_setmap hS hkk hb (w' := { w with heap := w.heap.setIfInBounds rb (.map (es.push { key := u, val := x, born := cl }) (cl + 1)) }) (es := es.push { key := u, val := x, born := cl }) (cl := cl + 1) (l ++ [(.lit u, vc)]) q1 (fun m hm => hset _ m hm) (by simp) (hat _) ⟨rfl, rfl, rfl⟩ (by simp [q2]) fun i p e hi hei => ?_⟩
              rw [Array.getElem?_push] at hei
              rw [List.getElem?_append] at hi
              by_cases ei : i = es.size
              · subst ei
                rw [if_pos rfl] at hei
                rw [if_neg (by omega), q2, Nat.sub_self] at hi
                simp at hi hei
                subst hi; subst hei
                exact ⟨hk, hv⟩
              · rw [if_neg ei] at hei
                split at hi
                · exact q3 i p e hi hei
                · rename_i hge
                  rw [Array.getElem?_eq_none (by omega)] at hei
                  cases hei
            · cases he
          · cases he
        · cases he
      · cases he
    · cases he
  · cases he

/-! ### Interfaces -/
def ifaceEval (P : Program) (t : TypeId) (c : CV) : Option CV :=
  match P.underlying t with
  | some (.interface _) => none
  | some _ => some (.ifc t c)
  | none => none
theorem iface_sound {t : TypeId} {c cv : CV} {v : Value} (he : ifaceEval P t c = some cv) (hs : SimV D h β I w c v) : ∃ r, (Instr.makeInterface t v).run P w = .ok r w ∧ SimV D h β I w cv r := by
  unfold ifaceEval at he
  split at he
  · cases he
  · rename_i d hu hn
    cases he
    refine ⟨.iface t v, ?_, .ifc hs⟩
    simp only [Instr.makeInterface, Sem.run_bind, run_under hn, Result.andThen_ok]
    cases d <;> first | (exfalso; exact hu _ hn) | rfl
  · cases he

def assertEval (P : Program) (asserted : TypeId) (ok : Bool) : CV → Option CV
  | .ifc t c => match P.underlying asserted with
    | some (.interface _) => none
    | some _ => if t = asserted then some (if ok then .tup [c, .lit (.bool true)] else c) else
        if ok then (match tyZero P asserted with
          | some z => some (.tup [ofVal1 z, .lit (.bool false)])
          | none => none) else none
    | none => none
  | _ => none
theorem assert_sound {xt t : TypeId} {ok : Bool} {c cv : CV} {v : Value} (he : assertEval P t ok c = some cv) (hs : SimV D h β I w c v) : ∃ r, (Instr.typeAssert v xt t ok).run P w = .ok r w ∧ SimV D h β I w cv r := by
  unfold assertEval at he
  split at he
  · rename_i t' c'
    split at he
    · cases he
    · rename_i d hni hu
      cases hs with
      | @ifc _ _ x hx =>
        have hrun : (Instr.typeAssert (.iface t' x) xt t ok).run P w = (if t' = t then (pure (if ok then .tuple #[x, .bool true] else x) : Sem Value) else
            if ok then (do pure (.tuple #[← zeroValue t, .bool false])) else runtimePanic (.typeAssertion (some xt) (some t') t "")).run P w := by
          cases d
          case interface ms => exact (hni ms rfl).elim
          all_goals simp only [Instr.typeAssert, Sem.run_bind, run_under hu, Result.andThen_ok]
        rw [hrun]
        split at he
        · rename_i e
          cases he
          rw [if_pos e]
          refine ⟨_, rfl, ?_⟩
          split
          · refine .tup rfl fun i c' hi => ?_
            match i, hi with
            | 0, hi => simp at hi; subst hi; exact hx
            | 1, hi => simp at hi; subst hi; exact .lit _
            | i + 2, hi => simp at hi
          · exact hx
        · rename_i e
          rw [if_neg e]
          split at he
          · rename_i hok
            split at he
            · rename_i z hz
              cases he
              rw [if_pos hok]
              refine ⟨.tuple #[z, .bool false], by simp [run_tyZero hz], ?_⟩
              refine .tup rfl fun i c' hi => ?_
              match i, hi with
              | 0, hi => simp at hi; subst hi; exact simv_ofVal1 z
              | 1, hi => simp at hi; subst hi; exact .lit _
              | i + 2, hi => simp at hi
            · cases he
          · cases he
    · cases he
  · cases he

/-! ### Closures -/
theorem func_sound {fr : Fr} {a : Act} {N : Nat} (hF : SimF D h β I w N fr a) (f : Fn) (xs ys : Array Operand) :
    SimV D h β I w (.fn f (xs.toList.map (ev fr)) (ys.toList.map (ev fr))) (.func f (xs.map a.eval) (ys.map a.eval)) := by
  have key : ∀ (xs : Array Operand) (i : Nat) (c : CV), (xs.toList.map (ev fr))[i]? = some c → SimV D h β I w c ((xs.map a.eval).getD i undef) := by
    intro xs i c hi
    rw [List.getElem?_map] at hi
    rw [getD_toList, Array.toList_map, List.getElem?_map]
    cases e : xs.toList[i]? with
    | none => rw [e] at hi; cases hi
    | some y =>
      rw [e] at hi
      simp only [Option.map_some, Option.some.injEq] at hi
      subst hi
      exact hF.ev y
  exact .fn (by simp) (key xs) (by simp) (key ys)
end
end Go.Cv
