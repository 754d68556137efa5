/-
  The logic: rules of a walk are sound; contracts out of walks; defer and recover; ranges over functions.
-/
import Derived.Test.YtdincjlkfbeedaaGreatDoorK2
import Derived.AtR
import Derived.Recover
import Derived.RangeFuncLeaves
import Derived.RangeFuncRecord
set_option linter.all false
namespace Go.Cv
open Go

/-- A state that says less. -/
structure Less (st' st : St) : Prop where
  nx : st.nx ≤ st'.nx
  fr : ∀ t, fget st'.fr t = fget st.fr t ∨ fget st'.fr t = .undef
  h : ∀ n k, hget st'.h n = some k → hget st.h n = some k

theorem Less.refl (st : St) : Less st st := ⟨Nat.le_refl _, fun _ => .inl rfl, fun _ _ h => h⟩

inductive Conf where
  | run (K : List Item) (st : St)
  | ops (mode : Option Mode) (all : Array Oper) (base : Nat) (rest : List (Nat × Oper)) (K : List Item) (st : St)

def numb : Nat → List Oper → List (Nat × Oper)
  | _, [] => []
  | i, o :: l => (i, o) :: numb (i + 1) l
def pickOps (all : Array Oper) : List Nat → List (Nat × Oper)
  | [] => []
  | i :: l => match all[i]? with
    | some o => (i, o) :: pickOps all l
    | none => pickOps all l

def isDef : Op → Bool
  | .defer _ => true
  | _ => false
/-- Nothing is deferred here. -/
def noDef (all : Array Oper) : Bool := all.toList.all fun o => match isDef o.op with
  | true => false
  | false => true
theorem noDef_spec {all : Array Oper} (h : noDef all = true) {i : Nat} {o : Oper} (ho : all[i]? = some o) : ∀ c, o.op ≠ .defer c := fun c e => by
  unfold noDef at h
  have := List.all_eq_true.1 h o (by
    rw [← Array.getElem?_toList] at ho
    exact List.mem_of_getElem? ho)
  rw [e] at this
  simp [isDef] at this

inductive Wp (P : Program) (N : Nat) (Post : Fin → Prop) : Conf → Prop
  | stop {K : List Item} {st : St} (h : Post (.at K st)) : Wp P N Post (.run K st)
  | nil {st : St} (h : Post (.nor st)) : Wp P N Post (.run [] st)
  | ret {K : List Item} {st : St} (h : Post (.nor st)) : Wp P N Post (.run (.code .ret :: K) st)
  | skip {K : List Item} {st : St} (h : Wp P N Post (.run K st)) : Wp P N Post (.run (.code .skip :: K) st)
  | label {K : List Item} {st : St} {l : Nat} (h : Wp P N Post (.run K st)) : Wp P N Post (.run (.code (.label l) :: K) st)
  | inBlock {K : List Item} {st : St} {l : Nat} (h : Wp P N Post (.run K st)) : Wp P N Post (.run (.inBlock l :: K) st)
  | inScope {K : List Item} {st : St} {c : Code} (h : Wp P N Post (.run K st)) : Wp P N Post (.run (.inScope c :: K) st)
  | seq {K : List Item} {st : St} {x y : Code} (h : Wp P N Post (.run (.code x :: .code y :: K) st)) : Wp P N Post (.run (.code (.seq x y) :: K) st)
  | block {K : List Item} {st : St} {id : Nat} {c : Code} (h : Wp P N Post (.run (.code c :: .inBlock id :: K) st)) : Wp P N Post (.run (.code (.block id c) :: K) st)
  | scope {K : List Item} {st : St} {c : Code} (h : Wp P N Post (.run (.code c :: .inScope c :: K) st)) : Wp P N Post (.run (.code (.scope c) :: K) st)
  | cond {K : List Item} {st : St} {c : Operand} {x y : Code} {b : Bool} (hc : ev st.fr c = .lit (.bool b)) (h : Wp P N Post (.run (.code (if b then x else y) :: K) st)) : Wp P N Post (.run (.code (.cond c x y) :: K) st)
  | exit {K K' : List Item} {st : St} {id : Nat} (he : exitTo id K = some K') (h : Wp P N Post (.run K' st)) : Wp P N Post (.run (.code (.exit id) :: K) st)
  | goto {K K' : List Item} {st : St} {l : Nat} (he : gotoIn l K = some K') (h : Wp P N Post (.run K' st)) : Wp P N Post (.run (.code (.goto l) :: K) st)
  | loop {K : List Item} {st st' : St} {c : Code} (hl : Less st' st) (h : Wp P N Post (.run (.code c :: .inLoop c :: K) st')) : Wp P N Post (.run (.code (.loop c) :: K) st)
  | inLoop {K : List Item} {st st' : St} {c : Code} (hl : Less st' st) (h : Wp P N Post (.run (.code c :: .inLoop c :: K) st')) : Wp P N Post (.run (.inLoop c :: K) st)
  | region {K : List Item} {st : St} {id : Nat} {all : Array Oper} (hnd : noDef all = true) (h : Wp P N Post (.ops none all st.nx (numb 0 all.toList) K ⟨st.fr, st.nx + all.size, st.h⟩)) : Wp P N Post (.run (.code (.region id all false) :: K) st)
  | draw {K : List Item} {st : St} {id : Nat} {all : Array Oper} (m : Mode) (hnd : noDef all = true) (hok : drawOk all m = true) (h : Wp P N Post (.ops (some m) all st.nx (pickOps all m.perm) K ⟨st.fr, st.nx + all.size, st.h⟩)) : Wp P N Post (.run (.code (.region id all true) :: K) st)
  | drawX {K : List Item} {st st' : St} {id : Nat} {all : Array Oper} (m : Mode) (hnd : noDef all = true) (hok : drawOkX all m = true) (ht : TrX P N m all st.nx m.perm ⟨st.fr, st.nx + all.size, st.h⟩ (.nor st')) (h : Wp P N Post (.run K st')) : Wp P N Post (.run (.code (.region id all true) :: K) st)
  | opsNil {mode : Option Mode} {all : Array Oper} {base : Nat} {K : List Item} {st : St} (h : Wp P N Post (.run K st)) : Wp P N Post (.ops mode all base [] K st)
  | op {mode : Option Mode} {all : Array Oper} {base i : Nat} {o : Oper} {rest : List (Nat × Oper)} {K : List Item} {st st1 : St} (hn : opNext P N all base i o st = some st1) (hm : isW o.op = true → keepOk mode base i st.h st1.h)
      (h : Wp P N Post (.ops mode all base rest K st1)) : Wp P N Post (.ops mode all base ((i, o) :: rest) K st)
  | call {mode : Option Mode} {all : Array Oper} {base i : Nat} {o : Oper} {rest : List (Nat × Oper)} {K : List Item} {st : St} {f : FuncId} {args : List CV} {r : CV} {nx' : Nat} {h' : Heap} {fr' : Fr}
      (hc : CallAt st.fr all o f args) (hG : Good P f args st.nx st.h (.ret r) nx' h') (hp : putc N st.fr o.dst r = some fr') (hm : callOk mode base i st.nx st.h nx' h')
      (h : Wp P N Post (.ops mode all base rest K ⟨fr', nx', h'⟩)) : Wp P N Post (.ops mode all base ((i, o) :: rest) K st)
  | callPan {mode : Option Mode} {all : Array Oper} {base i : Nat} {o : Oper} {rest : List (Nat × Oper)} {K : List Item} {st : St} {f : FuncId} {args : List CV} {r : CV} {nx' : Nat} {h' : Heap}
      (hc : CallAt st.fr all o f args) (hG : Good P f args st.nx st.h (.pan r) nx' h') (hm : ∀ m, mode = some m → i ∈ m.eff) (h : Post (.pan r nx' h')) : Wp P N Post (.ops mode all base ((i, o) :: rest) K st)
  | panic {mode : Option Mode} {all : Array Oper} {base i : Nat} {o : Oper} {rest : List (Nat × Oper)} {K : List Item} {st : St} {x : Operand}
      (hg : gval st.fr all o = some true) (hop : o.op = .panic x) (hx : isIface (ev st.fr x) = true) (hm : ∀ m, mode = some m → i ∈ m.eff) (h : Post (.pan (ev st.fr x) st.nx st.h)) : Wp P N Post (.ops mode all base ((i, o) :: rest) K st)

section
variable {P : Program} {N : Nat} {Post : Fin → Prop}

def modeOf : Exit → FrameMode
  | .panic ch => .panicking ch
  | _ => .returning

def stopAt (b : Frame) (a' : Act) (todo : List Item) (e : Exit) : Fin → Frame
  | .at K _ => b.at a' K
  | _ => { b.at a' todo with mode := modeOf e }

def stopAtR (b : Frame) (a' : Act) (todo : List Item) (e : Exit) : Fin → Frame
  | .at K _ => b.atR a' K
  | _ => { b.atR a' todo with mode := modeOf e }

/-- Where a round's frame may come to. -/
def Lands (b : Frame) : Fin → Prop
  | .at _ _ => True
  | _ => b.roundOf = none

/-- What a run comes to, whatever fits the canonical state. -/
def SoundTo (P : Program) (N : Nat) (K : List Item) (st : St) (F : Fin) : Prop :=
  st.nx ≤ F.nx ∧ ∀ (D : Nat → Prop) (β : Nat → Option Nat) (I : Nat → Prop) (w : World) (a : Act) (ds : List Deferred), (∀ n, D n → n < st.nx) → Sim D st.h β I w → SimF D st.h β I w N st.fr a → a.defers = ds → ∀ (b : Frame) (cs : List Frame),
    ∃ e a' w' todo, Ran D st.h β I w N ds st.nx F e a' w' ∧ Steps P (lone (b.at a K) cs w) (lone (stopAt b a' todo e F) cs w')
/-- The same, in any frame. -/
def SoundToR (P : Program) (N : Nat) (K : List Item) (st : St) (F : Fin) : Prop :=
  st.nx ≤ F.nx ∧ ∀ (D : Nat → Prop) (β : Nat → Option Nat) (I : Nat → Prop) (w : World) (a : Act) (ds : List Deferred), (∀ n, D n → n < st.nx) → Sim D st.h β I w → SimF D st.h β I w N st.fr a → a.defers = ds → ∀ (b : Frame) (cs : List Frame), Lands b F →
    ∃ e a' w' todo, Ran D st.h β I w N ds st.nx F e a' w' ∧ Steps P (lone (b.atR a K) cs w) (lone (stopAtR b a' todo e F) cs w')
theorem SoundToR.to {K : List Item} {st : St} {F : Fin} (h : SoundToR P N K st F) : SoundTo P N K st F := by
  refine ⟨h.1, fun D β I w a ds hD hS hF hd b cs => ?_⟩
  obtain ⟨e, a', w', todo, h1, h2⟩ := h.2 D β I w a ds hD hS hF hd { b with roundOf := none } cs (by cases F <;> first | trivial | rfl)
  refine ⟨e, a', w', todo, h1, ?_⟩
  have e1 : ({ b with roundOf := none } : Frame).atR a K = b.at a K := by simp [Frame.atR, Frame.at]
  have e2 : stopAtR ({ b with roundOf := none } : Frame) a' todo e F = stopAt b a' todo e F := by
    cases F <;> simp [stopAtR, stopAt, Frame.atR, Frame.at]
  rw [e1, e2] at h2
  exact h2
def Sound (P : Program) (N : Nat) (Post : Fin → Prop) (K : List Item) (st : St) : Prop := ∃ F, Post F ∧ SoundToR P N K st F

theorem Sound.step {K K' : List Item} {st : St} (hs : ∀ (b : Frame) (a : Act) (cs : List Frame) (w : World), Steps P (lone (b.atR a K) cs w) (lone (b.atR a K') cs w)) (h : Sound P N Post K' st) : Sound P N Post K st := by
  obtain ⟨F, hp, hx, h⟩ := h
  refine ⟨F, hp, hx, fun D β I w a ds hD hS hF hd b cs hl => ?_⟩
  obtain ⟨e, a', w', todo, h1, h2⟩ := h D β I w a ds hD hS hF hd b cs hl
  exact ⟨e, a', w', todo, h1, (hs b a cs w).trans h2⟩

theorem Less.simF {D : Nat → Prop} {h : Heap} {β : Nat → Option Nat} {I : Nat → Prop} {w : World} {fr fr' : Fr} {a : Act} (hl : ∀ t, fget fr' t = fget fr t ∨ fget fr' t = .undef) (hF : SimF D h β I w N fr a) : SimF D h β I w N fr' a :=
  ⟨hF.1, fun t => by
    rcases hl t with e | e
    · rw [e]; exact hF.2 t
    · rw [e]; exact .undef _⟩

theorem pres_less {D : Nat → Prop} {h h' : Heap} {β : Nat → Option Nat} {I : Nat → Prop} {w : World} (hl : ∀ n k, hget h' n = some k → hget h n = some k) : Pres D h β I w h' β I w :=
  ⟨fun _ h => h, fun _ _ => rfl, fun n k' _ hk => ⟨k', hl n k' hk, Nat.le_refl _, fun _ => ⟨rfl, fun _ c _ _ hc => ⟨c, hc, Nat.le_refl _⟩⟩⟩⟩

theorem ne_none_of {h h' : Heap} (hl : ∀ n k, hget h' n = some k → hget h n = some k) {n : Nat} (hn : hget h' n ≠ none) : hget h n ≠ none := by
  cases e : hget h' n with
  | none => exact absurd e hn
  | some k => rw [hl n k e]; simp

theorem sim_less {D : Nat → Prop} {h h' : Heap} {β : Nat → Option Nat} {I : Nat → Prop} {w : World} (hl : ∀ n k, hget h' n = some k → hget h n = some k) (hS : Sim D h β I w) : Sim D h' β I w :=
  ⟨fun n k hk => hS.dom n k (hl n k hk), fun n k rb hk hb => (hS.blk n k rb (hl n k hk) hb).mono (fun _ h => h) (pres_less hl) rfl,
    fun n m rb h1 h2 => hS.inj n m rb (ne_none_of hl h1) (ne_none_of hl h2), fun n rb h1 => hS.noI n rb (ne_none_of hl h1), hS.ilt⟩

theorem Sound.less {K : List Item} {st st' : St} (hl : Less st' st) (h : Sound P N Post K st') : Sound P N Post K st := by
  obtain ⟨F, hp, hx, h⟩ := h
  refine ⟨F, hp, Nat.le_trans hl.nx hx, fun D β I w a ds hD hS hF hd b cs hla => ?_⟩
  have hpr : Pres D st.h β I w st'.h β I w := pres_less hl.h
  obtain ⟨e, a', w', todo, h1, h2⟩ := h D β I w a ds (fun n hn => Nat.lt_of_lt_of_le (hD n hn) hl.nx) (sim_less hl.h hS) (Less.simF hl.fr (hF.mono (fun _ h => h) hpr)) hd b cs hla
  exact ⟨e, a', w', todo, Ran.before (fun _ h => h) (fun _ h => .inl h) hl.nx (ext_sub hl.h) h1, h2⟩

/-- Operations one behind the other, in any frame. -/
theorem wp_opsR {ops : Array Oper} {Q : Act → World → Prop} (hnd : noDef ops = true) (rest : List Nat) (l : List Nat) :
    ∀ (a : Act) (w : World), wpOps P ops (fun e a' w' => e = .normal ∧ Q a' w') l a w → ∀ (b : Frame) (k : List Item) (cs : List Frame),
      ∃ a' w', Q a' w' ∧ Steps P (lone (b.atR a (.inRegion ops (l ++ rest) :: k)) cs w) (lone (b.atR a' (.inRegion ops rest :: k)) cs w') := by
  induction l with
  | nil => exact fun a w h b k cs => ⟨a, w, h.2, Steps.refl P _⟩
  | cons i l ih =>
    intro a w h b k cs
    simp only [wpOps] at h
    cases ho : ops[i]? with
    | none =>
      simp only [ho] at h
      obtain ⟨a', w', hq, harr⟩ := ih a w h b k cs
      have hs := stepR_op_skip (P := P) (b := b) (a := a) (k := k) (cs := cs) (w := w) (ops := ops) (i := i) (rest := l ++ rest) (by simp [ho])
      simp only [ho, Option.bind_none, Act.put] at hs
      exact ⟨a', w', hq, .trans (.one hs) harr⟩
    | some o =>
      simp only [ho] at h
      by_cases hw : Region.wanted o (yielded ops a.tmps) = true
      · simp only [hw, if_true] at h
        rcases h with h | ⟨_, a₀, w₀, hq⟩
        case inr => exact absurd hq.1 (by simp)
        simp only [Oper.wp, Oper.upon] at h
        have hg := stepGR_op (P := P) (b := b) (k := k) (cs := cs) (w := w) (rest := l ++ rest) ho hw
        rw [Oper.semAt_eq _ _ _ (noDef_spec hnd ho)] at hg
        have hfin : ∀ v, (b.atR a (.inRegion ops (i :: (l ++ rest)) :: k)).finish v = b.atR (a.put o.dst v) (.inRegion ops (l ++ rest) :: k) := by
          intro v; rw [Frame.finish_atR, ho]; rfl
        split at h
        · rename_i v w' hr
          obtain ⟨a', w'', hq, harr⟩ := ih _ _ h b k cs
          refine ⟨a', w'', hq, .trans (.one (step_lone_go ?_)) harr⟩
          rw [List.cons_append, hg, ← hfin]; simp [stepG.apply, hr]
        · rename_i w' hr
          obtain ⟨a', w'', hq, harr⟩ := ih _ _ h b k cs
          refine ⟨a', w'', hq, .trans (.one (step_lone_go ?_)) harr⟩
          rw [List.cons_append, hg, ← hfin]; simp [stepG.apply, hr]
        · rename_i d w' hr
          obtain ⟨a', w'', hq, harr⟩ := ih _ _ h b k cs
          refine ⟨a', w'', hq, .trans (.one (step_lone_go ?_)) harr⟩
          have : ({ b.atR a (.inRegion ops (i :: (l ++ rest)) :: k) with defers := d :: a.defers } : Frame).finish undef =
              b.atR ({ a with defers := d :: a.defers }.put o.dst undef) (.inRegion ops (l ++ rest) :: k) := by
            have := Frame.finish_atR b { a with defers := d :: a.defers } ops i (l ++ rest) k undef
            rw [ho] at this; exact this
          rw [List.cons_append, hg]; simp only [stepG.apply, Sem.runT_eq, hr, GStep.bare_after]
          exact congrArg (fun fr => GStep.go { frame := fr, callers := cs, status := .running, dying := none } w') this
        · rename_i f args w' hr
          obtain ⟨e, w'', fr, hR, hsteps, _, hleave⟩ := h (b.atR a (.inRegion ops (i :: (l ++ rest)) :: k) :: cs)
          have henter : step P (lone (b.atR a (.inRegion ops (i :: (l ++ rest)) :: k)) cs w) =
              .next (lone (Frame.enter P f args .normal) (b.atR a (.inRegion ops (i :: (l ++ rest)) :: k) :: cs) w') :=
            step_lone_go (by rw [hg]; simp [stepG.apply, hr, Frame.atR])
          cases e with
          | returned v =>
            obtain ⟨a', w₃, hq, harr⟩ := ih _ _ hR b k cs
            refine ⟨a', w₃, hq, .trans (.head henter (hsteps.trans (.one ?_))) harr⟩
            rw [← hfin]; exact step_leave_returned hleave
          | panicked chain => exact absurd hR.1 (by simp)
          | outgrown =>
            obtain ⟨a₀, w₀, hq⟩ := hR
            exact absurd hq.1 (by simp)
        · rename_i row args w' hr
          obtain ⟨v, w'', hR, hsteps⟩ := h (b.atR a (.inRegion ops (i :: (l ++ rest)) :: k)) cs
          have henter : step P (lone (b.atR a (.inRegion ops (i :: (l ++ rest)) :: k)) cs w) =
              .next (lone (Frame.ofRow P row args .normal) (b.atR a (.inRegion ops (i :: (l ++ rest)) :: k) :: cs) w') :=
            step_lone_go (by rw [hg]; simp [stepG.apply, hr, Frame.atR])
          obtain ⟨a', w₃, hq, harr⟩ := ih _ _ hR b k cs
          refine ⟨a', w₃, hq, .trans (.head henter ?_) harr⟩
          rw [← hfin]; exact hsteps
        · exact absurd h.1 (by simp)
        · exact h.elim
      · simp only [hw, if_false, Bool.false_eq_true] at h
        obtain ⟨a', w', hq, harr⟩ := ih _ _ h b k cs
        have hs := stepR_op_skip (P := P) (b := b) (a := a) (k := k) (cs := cs) (w := w) (ops := ops) (i := i) (rest := l ++ rest)
          (by simp [ho]; simpa using hw)
        simp only [ho, Option.bind_some] at hs
        exact ⟨a', w', hq, .trans (.one hs) harr⟩

theorem regOps_text {all : Array Oper} {st : St} {F : Fin} (ht : Tr P N none all st.nx (List.range all.size) ⟨st.fr, st.nx + all.size, st.h⟩ F) : RegOps P N all false st F := by
  intro D β I a w ds Q hD hS hF hd hQ
  refine ⟨fun _ => ?_, fun h => nomatch h⟩
  exact tr_sound ht (Nat.le_refl _) D β I a w Q (fun n hn => by have := hD n hn; simp only; omega) List.nodup_range (fun j hj => ⟨by simpa using hj, fun hDj => by have := hD _ hDj; omega⟩) hS hF hd hQ
theorem regOk_text {id : Nat} {all : Array Oper} {st : St} {F : Fin} (ht : Tr P N none all st.nx (List.range all.size) ⟨st.fr, st.nx + all.size, st.h⟩ F) : RegOk P N (.region id all false) st F := by
  intro D β I a w ds Q hD hS hF hd hQ
  exact wp_region ((regOps_text ht D β I a w ds Q hD hS hF hd hQ).1 rfl)

/-- A region that ends, in any frame. -/
theorem RegOps.nor (hmix : P.follows .mixedOrders = true) {all : Array Oper} {draw : Bool} {id : Nat} {st st' : St} (hnd : noDef all = true) (hr : RegOps P N all draw st (.nor st'))
    {D : Nat → Prop} {β : Nat → Option Nat} {I : Nat → Prop} {a : Act} {w : World} {ds : List Deferred} (hD : ∀ n, D n → n < st.nx) (hS : Sim D st.h β I w) (hF : SimF D st.h β I w N st.fr a) (hd : a.defers = ds) (b : Frame) (K : List Item) (cs : List Frame) :
    ∃ a' w', Ran D st.h β I w N ds st.nx (.nor st') .normal a' w' ∧ Steps P (lone (b.atR a (.code (.region id all draw) :: K)) cs w) (lone (b.atR a' K) cs w') := by
  obtain ⟨h1, h2⟩ := hr D β I a w ds (fun e a' w' => e = .normal ∧ Ran D st.h β I w N ds st.nx (.nor st') .normal a' w') hD hS hF hd (fun e a' w' h => by
    have e1 : e = .normal := by
      obtain ⟨_, _, _, _, e1, _⟩ := h
      exact e1
    subst e1
    exact ⟨rfl, h⟩)
  cases draw with
  | false =>
    obtain ⟨a', w', q1, q2⟩ := wp_opsR hnd [] _ _ _ (h1 rfl) b K cs
    rw [List.append_nil] at q2
    exact ⟨a', w', q1, (Steps.one stepR_region).trans (q2.trans (.one stepR_region_end))⟩
  | true =>
    have h3 := wpAny_sound all.size (w.tape w.drawn (.order b.fn id)) _ _ _ (h2 rfl)
    obtain ⟨a', w', q1, q2⟩ := wp_opsR hnd [] _ _ _ h3 b K cs
    rw [List.append_nil] at q2
    refine ⟨a', w', q1, (Steps.one stepR_region_draw).trans (Steps.trans ?_ (Steps.one (stepR_region_end (ops := all))))⟩
    simp only [Region.schedule, hmix, Bool.true_or, if_true]
    exact q2

theorem Sound.region (hmix : P.follows .mixedOrders = true) {K : List Item} {st st' : St} {id : Nat} {all : Array Oper} {draw : Bool} (hnd : noDef all = true) (hr : RegOps P N all draw st (.nor st')) (hx : st.nx ≤ st'.nx) (h : Sound P N Post K st') :
    Sound P N Post (.code (.region id all draw) :: K) st := by
  obtain ⟨F, hp, hx2, h⟩ := h
  refine ⟨F, hp, Nat.le_trans hx hx2, fun D β I w a ds hD hS hF hd b cs hl => ?_⟩
  obtain ⟨a1, w1, hq, harr⟩ := hr.nor hmix (id := id) hnd hD hS hF hd b K cs
  obtain ⟨D', β', I', ⟨q1, q2, q3, q4⟩, _, q5, q6⟩ := hq
  obtain ⟨e, a', w', todo, h1, h2⟩ := h D' β' I' w1 a1 ds (fun n hn => by
    rcases q2 n hn with h2 | h2
    · have := hD n h2; omega
    · exact h2.2) q3 q5 q6 b cs hl
  exact ⟨e, a', w', todo, Ran.before q1 (fun n hn => by
    rcases q2 n hn with h3 | h3
    · exact .inl h3
    · right; simp only [Fin.nx] at h3; omega) hx q4 h1, Steps.trans harr h2⟩

theorem Sound.regionPan {K : List Item} {st : St} {c : Code} {r : CV} {nx' : Nat} {h' : Heap} (hr : RegOk P N c st (.pan r nx' h')) (hx : st.nx ≤ nx') (h : Post (.pan r nx' h')) : Sound P N Post (.code c :: K) st := by
  refine ⟨_, h, hx, fun D β I w a ds hD hS hF hd b cs hl => ?_⟩
  obtain ⟨e, a1, w1, hq, harr⟩ := hr D β I a w ds (fun e a' w' => Ran D st.h β I w N ds st.nx (.pan r nx' h') e a' w') hD hS hF hd (fun e a' w' h => h) b K cs
  have hq2 := hq
  obtain ⟨D', β', I', _, q5, v, rfl, q6⟩ := hq2
  obtain ⟨todo, h2⟩ := harr
  refine ⟨_, a1, w1, todo, hq, ?_⟩
  rw [Frame.atR_of_none hl]
  have : stopAtR b a1 todo (.panic [{ v, recovered := false }]) (.pan r nx' h') = stopAt b a1 todo (.panic [{ v, recovered := false }]) (.pan r nx' h') := by
    simp only [stopAtR, stopAt, Frame.atR_of_none hl]
  rw [this]
  exact h2

theorem numb_spec : ∀ (l : List Oper) (i : Nat), (numb i l).map (·.1) = List.range' i l.length ∧ ∀ p ∈ numb i l, i ≤ p.1 ∧ l[p.1 - i]? = some p.2
  | [], i => ⟨rfl, fun p hp => by simp [numb] at hp⟩
  | o :: l, i => by
    obtain ⟨h1, h2⟩ := numb_spec l (i + 1)
    refine ⟨by simp [numb, h1, List.range'_succ], fun p hp => ?_⟩
    simp only [numb, List.mem_cons] at hp
    rcases hp with rfl | hp
    · simp
    · obtain ⟨h3, h4⟩ := h2 p hp
      refine ⟨by omega, ?_⟩
      rw [show p.1 - i = (p.1 - (i + 1)) + 1 from by omega]
      simpa using h4
theorem pick_spec {all : Array Oper} : ∀ (l : List Nat), (∀ i ∈ l, i < all.size) → (pickOps all l).map (·.1) = l ∧ ∀ p ∈ pickOps all l, all[p.1]? = some p.2
  | [], _ => ⟨rfl, fun p hp => by simp [pickOps] at hp⟩
  | i :: l, hl => by
    obtain ⟨h1, h2⟩ := pick_spec l fun j hj => hl j (by simp [hj])
    have hi := hl i (by simp)
    have e : pickOps all (i :: l) = (i, all[i]) :: pickOps all l := by simp only [pickOps, Array.getElem?_eq_getElem hi]
    rw [e]
    refine ⟨by simp [h1], fun p hp => ?_⟩
    rcases List.mem_cons.1 hp with rfl | hp
    · exact Array.getElem?_eq_getElem hi
    · exact h2 p hp

theorem wp_soundR (hmix : P.follows .mixedOrders = true) {c : Conf} (hw : Wp P N Post c) : match c with
    | .run K st => Sound P N Post K st
    | .ops mode all base rest K st => (∀ p ∈ rest, all[p.1]? = some p.2) → ∃ F, Tr P N mode all base (rest.map (·.1)) st F ∧ (match F with
      | .nor st' => Sound P N Post K st'
      | .pan r nx' h' => Post (.pan r nx' h')
      | .at _ _ => False) := by
  induction hw with
  | @stop K st h =>
    refine ⟨_, h, Nat.le_refl _, fun D β I w a ds hD hS hF hd b cs hl => ?_⟩
    exact ⟨.normal, a, w, [], ⟨D, β, I, ⟨fun _ h => h, fun _ h => .inl h, hS, Ext.refl ..⟩, rfl, hF, hd⟩, Steps.refl P _⟩
  | @nil st h =>
    refine ⟨_, h, Nat.le_refl _, fun D β I w a ds hD hS hF hd b cs hl => ?_⟩
    exact ⟨.normal, a, w, [], ⟨D, β, I, ⟨fun _ h => h, fun _ h => .inl h, hS, Ext.refl ..⟩, rfl, hF, hd⟩, .one (stepR_end hl)⟩
  | @ret K st h =>
    refine ⟨_, h, Nat.le_refl _, fun D β I w a ds hD hS hF hd b cs hl => ?_⟩
    exact ⟨.normal, a, w, _, ⟨D, β, I, ⟨fun _ h => h, fun _ h => .inl h, hS, Ext.refl ..⟩, rfl, hF, hd⟩, .one (stepR_ret hl)⟩
  | skip _ ih => exact Sound.step (fun b a cs w => .one stepR_skip) ih
  | label _ ih => exact Sound.step (fun b a cs w => .one stepR_label) ih
  | inBlock _ ih => exact Sound.step (fun b a cs w => .one stepR_inBlock) ih
  | inScope _ ih => exact Sound.step (fun b a cs w => .one (step_lone_go (by simp [stepG, stepG.exec, Frame.atR]))) ih
  | seq _ ih => exact Sound.step (fun b a cs w => .one stepR_seq) ih
  | block _ ih => exact Sound.step (fun b a cs w => .one stepR_block) ih
  | scope _ ih => exact Sound.step (fun b a cs w => .one (step_lone_go (by simp [stepG, stepG.exec, Frame.atR]))) ih
  | @cond K st c x y t hc _ ih =>
    obtain ⟨F, hp, hx, ih⟩ := ih
    refine ⟨F, hp, hx, fun D β I w a ds hD hS hF hd b cs hl => ?_⟩
    have he : a.eval c = .bool t := by
      have := hF.ev c
      rw [hc] at this
      exact simv_lit this
    obtain ⟨e, a', w', todo, h1, h2⟩ := ih D β I w a ds hD hS hF hd b cs hl
    exact ⟨e, a', w', todo, h1, (Steps.one (stepR_cond he)).trans h2⟩
  | exit he _ ih => exact Sound.step (fun b a cs w => .one (stepR_exit he)) ih
  | goto he _ ih => exact Sound.step (fun b a cs w => .one (stepR_goto he)) ih
  | loop hl _ ih => exact Sound.less hl (Sound.step (fun b a cs w => .one stepR_loop) ih)
  | inLoop hl _ ih => exact Sound.less hl (Sound.step (fun b a cs w => .one stepR_inLoop) ih)
  | @region K st id all hnd _ ih =>
    obtain ⟨n1, n2⟩ := numb_spec all.toList 0
    obtain ⟨F, ht, hs⟩ := ih fun p hp => by
      have := (n2 p hp).2
      simpa using this
    rw [n1, Array.length_toList, ← List.range_eq_range'] at ht
    have hx := ht.nx_le
    simp only at hx
    cases F with
    | nor st' => exact Sound.region hmix hnd (regOps_text ht) (by simp only [Fin.nx] at hx; omega) hs
    | «at» K s => exact hs.elim
    | pan r nx' h' => exact Sound.regionPan (regOk_text ht) (by simp only [Fin.nx] at hx; omega) hs
  | @draw K st id all m hnd hok _ ih =>
    have hlt : ∀ i ∈ m.perm, i < all.size := by
      unfold drawOk drawOkX at hok
      simp only [Bool.and_eq_true, List.all_eq_true, decide_eq_true_eq] at hok
      exact hok.1.1.1.1.1.1.2
    obtain ⟨n1, n2⟩ := pick_spec m.perm hlt
    obtain ⟨F, ht, hs⟩ := ih n2
    rw [n1] at ht
    have hx := ht.nx_le
    simp only at hx
    cases F with
    | nor st' => exact Sound.region hmix hnd (regOps_draw hok ht) (by simp only [Fin.nx] at hx; omega) hs
    | «at» K s => exact hs.elim
    | pan r nx' h' => exact Sound.regionPan ((regOps_draw hok ht).ok hmix) (by simp only [Fin.nx] at hx; omega) hs
  | @drawX K st st' id all m hnd hok ht _ ih =>
    have hx := ht.nx_le
    simp only [Fin.nx] at hx
    exact Sound.region hmix hnd (regOps_drawX hok ht) (by omega) ih
  | opsNil _ ih => exact fun _ => ⟨_, .nil, ih⟩
  | op hn hm _ ih =>
    intro hall
    obtain ⟨F, ht, hs⟩ := ih fun p hp => hall p (by simp [hp])
    exact ⟨F, .op (hall _ (by simp)) hn hm ht, hs⟩
  | call hc hG hp hm _ ih =>
    intro hall
    obtain ⟨F, ht, hs⟩ := ih fun p hp => hall p (by simp [hp])
    exact ⟨F, .call (hall _ (by simp)) hc hG hp hm ht, hs⟩
  | callPan hc hG hm h => exact fun hall => ⟨_, .callPan (hall _ (by simp)) hc hG hm, h⟩
  | panic hg hop hx hm h => exact fun hall => ⟨_, .panic (hall _ (by simp)) hg hop hx hm, h⟩

theorem wp_sound (hmix : P.follows .mixedOrders = true) {K : List Item} {st : St} (hw : Wp P N Post (.run K st)) : ∃ F, Post F ∧ SoundTo P N K st F := by
  obtain ⟨F, h1, h2⟩ := wp_soundR hmix hw
  exact ⟨F, h1, h2.to⟩

/-! ### Results -/
def resEval1 (P : Program) (fr : Fr) (h : Heap) : ResultVar → Option CV
  | .tmp t => some (fget fr t)
  | .cell a t => loadEval P h t (fget fr a)
def resEval (P : Program) (rs : List ResultVar) (fr : Fr) (h : Heap) : Option CV :=
  match rs.mapM (resEval1 P fr h) with
  | some [c] => some c
  | some cs => some (.tup cs)
  | none => none

def resSem (tmps : Array Value) : ResultVar → Sem Value
  | .tmp t => pure (tmps.getD t undef)
  | .cell a t => do loadVar t (← asAddr (tmps.getD a undef))
theorem results_eq (fn : Func) (tmps : Array Value) : results fn tmps = (do let vs ← fn.results.mapM (resSem tmps); pure (if h : vs.size = 1 then vs[0] else .tuple vs)) := rfl

theorem res_sound {D : Nat → Prop} {h : Heap} {β : Nat → Option Nat} {I : Nat → Prop} {w : World} {fr : Fr} {a : Act} (hS : Sim D h β I w) (hF : SimF D h β I w N fr a) : ∀ (rs : List ResultVar) (cs : List CV), rs.mapM (resEval1 P fr h) = some cs →
    ∃ vs : List Value, (rs.mapM (resSem a.tmps)).run P w = .ok vs w ∧ vs.length = cs.length ∧ ∀ (i : Nat) (c : CV), cs[i]? = some c → SimV D h β I w c (vs[i]?.getD undef)
  | [], cs, he => by
    simp at he; subst he
    exact ⟨[], by simp, rfl, fun i c hi => by simp at hi⟩
  | r :: rs, cs, he => by
    simp only [List.mapM_cons, Option.bind_eq_bind, Option.pure_def] at he
    cases e1 : resEval1 P fr h r with
    | none => rw [e1] at he; simp at he
    | some c =>
      rw [e1] at he
      simp only [Option.bind_some] at he
      cases e2 : rs.mapM (resEval1 P fr h) with
      | none => rw [e2] at he; simp at he
      | some cs' =>
        rw [e2] at he
        simp only [Option.bind_some, Option.some.injEq] at he
        subst he
        obtain ⟨vs, h1, h2, h3⟩ := res_sound hS hF rs cs' e2
        have key : ∃ v, (resSem a.tmps r).run P w = .ok v w ∧ SimV D h β I w c v := by
          cases r with
          | tmp t =>
            simp only [resEval1, Option.some.injEq] at e1
            subst e1
            exact ⟨_, rfl, hF.2 t⟩
          | cell x t =>
            simp only [resEval1] at e1
            obtain ⟨u, k1, k2⟩ := load_sound (P := P) hS e1 (hF.2 x)
            refine ⟨u, ?_, k2⟩
            unfold loadEval at e1
            split at e1
            · cases e1
            · rename_i l hl
              obtain ⟨bb, oo, hv, _⟩ := cellsAt_real hS hl (hF.2 x)
              rw [hv] at k1
              simp only [resSem, hv]
              simpa [Instr.loadAt, Instr.sureAddr, asAddr] using k1
        obtain ⟨v, k1, k2⟩ := key
        refine ⟨v :: vs, ?_, by simp [h2], fun i c' hi => ?_⟩
        · simp only [List.mapM_cons, Sem.run_bind, k1, Result.andThen_ok, h1, Sem.run_pure]
        · cases i with
          | zero => simp at hi; subst hi; simpa using k2
          | succ i => simp at hi ⊢; exact h3 i c' hi

end
end Go.Cv
namespace Go.Cv
open Go

section
variable {D : Nat → Prop} {h : Heap} {β : Nat → Option Nat} {I : Nat → Prop} {w : World} {P : Program} {N : Nat}

/-- No memory of ours in it. -/
inductive Closed : CV → Prop
  | undef : Closed .undef
  | lit (v : Value) : Closed (.lit v)
  | iptr {cells : List CV} {off : Nat} (hc : ∀ c ∈ cells, Closed c) : Closed (.iptr cells off)
  | isl {cells : List CV} {len sz : Nat} (hc : ∀ c ∈ cells, Closed c) : Closed (.isl cells len sz)
  | agg {cs : List CV} (hc : ∀ c ∈ cs, Closed c) : Closed (.agg cs)
  | tup {cs : List CV} (hc : ∀ c ∈ cs, Closed c) : Closed (.tup cs)
  | fn {f : Fn} {xs ys : List CV} (hx : ∀ c ∈ xs, Closed c) (hy : ∀ c ∈ ys, Closed c) : Closed (.fn f xs ys)
  | ifc {t : TypeId} {c : CV} (hc : Closed c) : Closed (.ifc t c)

theorem Closed.simv {D' : Nat → Prop} {h' : Heap} {β' : Nat → Option Nat} {I' : Nat → Prop} {w' : World} (hI : ∀ b, I b → I' b) (hw : ∀ b, I b → w'.heap[b]? = w.heap[b]?) {c : CV} {v : Value} (hs : SimV D h β I w c v) : Closed c → SimV D' h' β' I' w' c v := by
  induction hs with
  | undef v => exact fun _ => .undef v
  | lit v => exact fun _ => .lit v
  | ptrNo => intro hc; cases hc
  | ptr => intro hc; cases hc
  | slNo => intro hc; cases hc
  | sl => intro hc; cases hc
  | mpNo => intro hc; cases hc
  | mp => intro hc; cases hc
  | @iptr cells off blk o vs hb hc h1 hv ih =>
    intro hcl
    cases hcl with
    | iptr hcl => exact .iptr (vs := vs) (hI _ hb) (fun i c hi => by rw [cell?_same (hw _ hb)]; exact hc i c hi) h1 (fun i c hi => ih i c hi (hcl c (List.mem_of_getElem? hi)))
  | @isl cells len sz blk o cap vs hb hc h1 hv hl ih =>
    intro hcl
    cases hcl with
    | isl hcl => exact .isl (vs := vs) (hI _ hb) (fun i c hi => by rw [cell?_same (hw _ hb)]; exact hc i c hi) h1 (fun i c hi => ih i c hi (hcl c (List.mem_of_getElem? hi))) hl
  | agg hl hv ih =>
    intro hcl
    cases hcl with
    | agg hcl => exact .agg hl (fun i c hi => ih i c hi (hcl c (List.mem_of_getElem? hi)))
  | tup hl hv ih =>
    intro hcl
    cases hcl with
    | tup hcl => exact .tup hl (fun i c hi => ih i c hi (hcl c (List.mem_of_getElem? hi)))
  | fn hl hx hm hy ih1 ih2 =>
    intro hcl
    cases hcl with
    | fn h1 h2 => exact .fn hl (fun i c hi => ih1 i c hi (h1 c (List.mem_of_getElem? hi))) hm (fun i c hi => ih2 i c hi (h2 c (List.mem_of_getElem? hi)))
  | ifc hv ih =>
    intro hcl
    cases hcl with
    | ifc hcl => exact .ifc (ih hcl)

/-- A value whose own new memory (blocks that go out of the heap: 'gone') is told as memory that nobody writes any more. -/
inductive Frz (h0 : Heap) (gone : Nat → Prop) : CV → CV → Prop
  | refl (c : CV) : Frz h0 gone c c
  | undef (c : CV) : Frz h0 gone c .undef
  | sl {b g off len sz : Nat} {k : Blk} {cells : List CV} (hb : gone b) (hk : cget h0 b = some k) (hg : k.gen ≤ g) (hl : cells.length = len * sz) (hfit : off + len * sz ≤ k.cells.length)
      (hc : ∀ (i : Nat) (c c' : CV), k.cells[off + i]? = some c → cells[i]? = some c' → Frz h0 gone c c') : Frz h0 gone (.sl b g off len sz) (.isl cells len sz)
  | ptr {b g off : Nat} {k : Blk} {cells : List CV} (hb : gone b) (hk : cget h0 b = some k) (hg : k.gen ≤ g) (hl : cells.length = k.cells.length)
      (hc : ∀ (i : Nat) (c c' : CV), k.cells[i]? = some c → cells[i]? = some c' → Frz h0 gone c c') : Frz h0 gone (.ptr b g off) (.iptr cells off)
  | agg {cs cs' : List CV} (hl : cs.length = cs'.length) (hc : ∀ (i : Nat) (c c' : CV), cs[i]? = some c → cs'[i]? = some c' → Frz h0 gone c c') : Frz h0 gone (.agg cs) (.agg cs')
  | tup {cs cs' : List CV} (hl : cs.length = cs'.length) (hc : ∀ (i : Nat) (c c' : CV), cs[i]? = some c → cs'[i]? = some c' → Frz h0 gone c c') : Frz h0 gone (.tup cs) (.tup cs')
  | ifc {t : TypeId} {c c' : CV} (hc : Frz h0 gone c c') : Frz h0 gone (.ifc t c) (.ifc t c')

def IFrz (h0 : Heap) (β : Nat → Option Nat) (I : Nat → Prop) (gone : Nat → Prop) : Nat → Prop := fun rb => I rb ∨ ∃ b, gone b ∧ hget h0 b ≠ none ∧ β b = some rb

theorem frz_real {gone : Nat → Prop} {h' : Heap} {D' : Nat → Prop} (hS : Sim D h β I w) (hD : ∀ n, D n → D' n) (hp : Pres D h β I w h' β (IFrz h β I gone) w) {c c' : CV} (hf : Frz h gone c c') :
    ∀ v, SimV D h β I w c v → SimV D' h' β (IFrz h β I gone) w c' v := by
  induction hf with
  | refl c => intro v hs; exact hs.mono hD hp
  | undef c => intro v _; exact .undef v
  | @sl b g off len sz k cells hb hkc hg hl hfit hc ih =>
    intro v hs
    obtain ⟨hk, hmap⟩ := cget_spec hkc
    have hlv : live h b g = true := by unfold live; rw [hkc]; simp [hg]
    obtain ⟨hd, hg2, hcase⟩ := sl_live hlv hs
    obtain ⟨rb, cap, o, c0, e, hbb, hc0, hlc, hfit2, ho, rfl⟩ := hcase
    · obtain ⟨c2, e2, q1, q2, q3⟩ := (hS.blk b k rb hk hbb).cell hmap
      rw [hc0] at q1; cases q1
      have hin : IFrz h β I gone rb := .inr ⟨b, hb, by rw [hk]; simp, hbb⟩
      have hlt : ∀ i c, cells[i]? = some c → i < len * sz := fun i c hi => by
        rcases Nat.lt_or_ge i cells.length with h3 | h3
        · omega
        · rw [List.getElem?_eq_none h3] at hi; cases hi
      have hkc : ∀ i, i < len * sz → ∃ c, k.cells[off + i]? = some c := fun i hi => ⟨k.cells[off + i]'(by omega), List.getElem?_eq_getElem _⟩
      refine .isl (vs := fun i => c0.getD (off + i) undef) hin (fun i c hi => ?_) (fun i c hi => ?_) (fun i c hi => ?_) hlc
      · have h1 := hlt i c hi
        have hoo : o = off := by
          rcases ho with ho | ho
          · exact ho
          · rw [ho.1, Nat.zero_mul] at h1; omega
        subst hoo
        have h2 : o + i < c0.size := by omega
        simp [World.cell?, hc0, h2]
      · obtain ⟨cc, hcc⟩ := hkc i (hlt i c hi)
        exact (q3 _ _ hcc).1
      · obtain ⟨cc, hcc⟩ := hkc i (hlt i c hi)
        exact ih i cc c hcc hi _ (q3 _ _ hcc).2
  | @ptr b g off k cells hb hkc hg hl hc ih =>
    intro v hs
    obtain ⟨hk, hmap⟩ := cget_spec hkc
    have hlv : live h b g = true := by unfold live; rw [hkc]; simp [hg]
    obtain ⟨rb, hd, hg2, hbb, rfl⟩ := ptr_live hlv hs
    obtain ⟨c2, e2, q1, q2, q3⟩ := (hS.blk b k rb hk hbb).cell hmap
    have hin : IFrz h β I gone rb := .inr ⟨b, hb, by rw [hk]; simp, hbb⟩
    have hlt : ∀ i c, cells[i]? = some c → i < k.cells.length := fun i c hi => by
      rcases Nat.lt_or_ge i cells.length with h3 | h3
      · omega
      · rw [List.getElem?_eq_none h3] at hi; cases hi
    have := SimV.iptr (D := D') (h := h') (β := β) (I := IFrz h β I gone) (w := w) (cells := cells) (off := off) (blk := rb) (o := 0) (vs := fun i => c2.getD i undef) hin (fun i c hi => by
      have h2 : i < c2.size := by have := hlt i c hi; omega
      simp [World.cell?, q1, h2]) (fun i c hi => (q3 i _ (List.getElem?_eq_getElem (hlt i c hi))).1) (fun i c hi => ih i _ c (List.getElem?_eq_getElem (hlt i c hi)) hi _ (q3 i _ (List.getElem?_eq_getElem (hlt i c hi))).2)
    rwa [Nat.zero_add] at this
  | @agg cs cs' hl hc ih =>
    intro v hs
    cases hs with
    | @agg _ vs hl2 hv =>
      refine .agg (by omega) fun i c hi => ?_
      have hlt : i < cs.length := by
        rcases Nat.lt_or_ge i cs'.length with h3 | h3
        · omega
        · rw [List.getElem?_eq_none h3] at hi; cases hi
      exact ih i _ c (List.getElem?_eq_getElem hlt) hi _ (hv i _ (List.getElem?_eq_getElem hlt))
  | @tup cs cs' hl hc ih =>
    intro v hs
    cases hs with
    | @tup _ vs hl2 hv =>
      refine .tup (by omega) fun i c hi => ?_
      have hlt : i < cs.length := by
        rcases Nat.lt_or_ge i cs'.length with h3 | h3
        · omega
        · rw [List.getElem?_eq_none h3] at hi; cases hi
      exact ih i _ c (List.getElem?_eq_getElem hlt) hi _ (hv i _ (List.getElem?_eq_getElem hlt))
  | ifc hc ih =>
    intro v hs
    cases hs with
    | ifc hv => exact .ifc (ih _ hv)

/-- A block that stays: what it holds, frozen where it was of blocks that go. -/
structure KFrz (h0 : Heap) (gone : Nat → Prop) (k k' : Blk) : Prop where
  gen : k.gen = k'.gen
  len : k'.cells.length ≤ k.cells.length
  cells : ∀ (i : Nat) (c c' : CV), k.cells[i]? = some c → k'.cells[i]? = some c' → Frz h0 gone c c'
  mapn : k'.map = none → k.map = none
  mapp : ∀ l', k'.map = some l' → ∃ l, k.map = some l ∧ l.length = l'.length ∧ ∀ (i : Nat) (p p' : CV × CV), l[i]? = some p → l'[i]? = some p' → Frz h0 gone p.1 p'.1 ∧ Frz h0 gone p.2 p'.2
theorem KFrz.refl (h0 : Heap) (gone : Nat → Prop) (k : Blk) : KFrz h0 gone k k :=
  ⟨rfl, Nat.le_refl _, fun i c c' h1 h2 => by rw [h1] at h2; cases h2; exact .refl _, id, fun l' hl => ⟨l', hl, rfl, fun i p p' h1 h2 => by rw [h1] at h2; cases h2; exact ⟨.refl _, .refl _⟩⟩⟩

/-- What may be made of a heap: blocks go, those that stay hold what they held, frozen where it was of blocks that go. -/
structure HFrz (h0 h' : Heap) (gone : Nat → Prop) : Prop where
  keep : ∀ n k', hget h' n = some k' → ¬ gone n ∧ ∃ k, hget h0 n = some k ∧ KFrz h0 gone k k'

theorem hfrz_pres {gone : Nat → Prop} {h' : Heap} (hf : HFrz h h' gone) : Pres D h β I w h' β (IFrz h β I gone) w := by
  refine ⟨fun _ h => .inl h, fun _ _ => rfl, fun n k' _ hk => ?_⟩
  obtain ⟨_, k, h1, h2⟩ := hf.keep n k' hk
  exact ⟨k, h1, Nat.le_of_eq h2.gen, fun _ => ⟨rfl, fun rb c e _ hc => ⟨c, hc, Nat.le_refl _⟩⟩⟩

theorem hfrz_sim {gone : Nat → Prop} {h' : Heap} (hf : HFrz h h' gone) (hS : Sim D h β I w) : Sim D h' β (IFrz h β I gone) w ∧ Ext D h β I w h' β (IFrz h β I gone) w := by
  have hp : Pres D h β I w h' β (IFrz h β I gone) w := hfrz_pres hf
  have hne : ∀ n, hget h' n ≠ none → hget h n ≠ none ∧ ¬ gone n := fun n hn => by
    cases e : hget h' n with
    | none => exact absurd e hn
    | some k' =>
      obtain ⟨h0, k, h1, _⟩ := hf.keep n k' e
      rw [h1]; exact ⟨by simp, h0⟩
  have hlt : ∀ n rb, hget h n ≠ none → β n = some rb → rb < w.heap.size := fun n rb hn hb => by
    cases e2 : hget h n with
    | none => exact absurd e2 hn
    | some k2 => exact (hS.blk n k2 rb e2 hb).lt
  refine ⟨⟨fun n k hk => ?_, fun n k' rb hk hb => ?_, fun n m rb h1 h2 => hS.inj n m rb (hne n h1).1 (hne m h2).1, fun n rb h1 h2 => ?_, fun b hb => ?_⟩,
    ⟨hp, rfl, rfl, rfl, Nat.le_refl _, fun _ _ _ => rfl, fun n rb h1 h2 => .inr ⟨n, (hne n h1).1, h2⟩, fun b hb => ?_, fun _ _ _ => rfl⟩⟩
  · obtain ⟨_, k0, h1, _⟩ := hf.keep n k hk
    exact hS.dom n k0 h1
  · obtain ⟨_, k, h1, h2⟩ := hf.keep n k' hk
    refine ⟨fun hm => ?_, fun l' hm => ?_⟩
    · obtain ⟨c, e, q1, q2, q3⟩ := (hS.blk n k rb h1 hb).cell (h2.mapn hm)
      have hlen := h2.len
      refine ⟨c, e, q1, by omega, fun i cv hi => ?_⟩
      have hi2 : i < k.cells.length := by
        rcases Nat.lt_or_ge i k'.cells.length with h5 | h5
        · omega
        · rw [List.getElem?_eq_none h5] at hi; cases hi
      have hk0 := List.getElem?_eq_getElem hi2
      exact ⟨(q3 i _ hk0).1, frz_real hS (fun _ h => h) hp (h2.cells i _ cv hk0 hi) _ (q3 i _ hk0).2⟩
    · obtain ⟨l, m1, m2, m3⟩ := h2.mapp l' hm
      obtain ⟨es, cl, q1, q2, q3⟩ := (hS.blk n k rb h1 hb).mapp l m1
      refine ⟨es, cl, q1, by omega, fun i p' e hi he => ?_⟩
      have hi2 : i < l.length := by
        rcases Nat.lt_or_ge i l'.length with h5 | h5
        · omega
        · rw [List.getElem?_eq_none h5] at hi; cases hi
      have hk0 := List.getElem?_eq_getElem hi2
      obtain ⟨f1, f2⟩ := m3 i _ p' hk0 hi
      exact ⟨frz_real hS (fun _ h => h) hp f1 _ (q3 i _ e hk0 he).1, frz_real hS (fun _ h => h) hp f2 _ (q3 i _ e hk0 he).2⟩
  · rintro (hI | ⟨b, g1, g2, g3⟩)
    · exact hS.noI n rb (hne n h1).1 h2 hI
    · exact (hne n h1).2 (hS.inj b n rb g2 (hne n h1).1 g3 h2 ▸ g1)
  · rcases hb with hI | ⟨b', _, g2, g3⟩
    · exact hS.ilt b hI
    · exact hlt b' b g2 g3
  · rcases hb with hI | ⟨b', _, g2, g3⟩
    · exact .inl hI
    · exact .inr (.inr ⟨b', g2, g3⟩)

def entryFr (args : List CV) : Fr := args.zipIdx.map fun p => (p.2, p.1)

theorem fget_entry : ∀ (args : List CV) (k t : Nat), fget ((args.zipIdx k).map fun p => (p.2, p.1)) t = if k ≤ t then (args[t - k]?).getD .undef else .undef
  | [], k, t => by simp [fget]
  | c :: args, k, t => by
    simp only [List.zipIdx_cons, List.map_cons, fget_cons]
    by_cases e : t = k
    · subst e; simp
    · rw [if_neg e, fget_entry args (k + 1) t]
      by_cases h1 : k + 1 ≤ t
      · rw [if_pos h1, if_pos (by omega), show t - k = (t - (k + 1)) + 1 from by omega]
        simp
      · rw [if_neg h1, if_neg (by omega)]

/-- How a function's body ends: what it hands back, of the state that is left. -/
inductive OutOf (P : Program) (fn : Func) : Fin → Out → Prop
  | ret {st : St} {r : CV} (h : resEval P fn.results.toList st.fr st.h = some r) : OutOf P fn (.nor st) (.ret r)
  | pan {c : CV} {nx : Nat} {h : Heap} : OutOf P fn (.pan c nx h) (.pan c)

/-- The machine's side of a function's run. -/
theorem body_run (hmix : P.follows .mixedOrders = true) {f : FuncId} {fn : Func} {c : Code} {args : List CV} {nx : Nat} {Post : Fin → Prop} (hf : P.funcs[f]? = some fn) (hb : fn.body = some c) (hn : args.length ≤ fn.ntmps)
    (hw : Wp P fn.ntmps Post (.run [.code c] ⟨entryFr args, nx, h⟩)) : ∃ F, Post F ∧ nx ≤ F.nx ∧ ∀ o, OutOf P fn F o → ∀ (D : Nat → Prop) (β : Nat → Option Nat) (I : Nat → Prop) (w : World) (vs : Array Value), (∀ n, D n → n < nx) → Sim D h β I w → vs.size = args.length →
      (∀ i c, args[i]? = some c → SimV D h β I w c (vs.getD i undef)) → ∀ (R : Ending → World → Prop),
      (∀ D' β' I' w' e, RanTo D h β I w nx F D' β' I' w' → OutR D' F.h β' I' w' o e → R e w') → Calls P f vs w R := by
  obtain ⟨F, hpost, hx, hs⟩ := wp_sound (P := P) (N := fn.ntmps) hmix hw
  refine ⟨F, hpost, hx, fun o ho D β I w vs hD hS hsz hv R hR cs => ?_⟩
  let b : Frame := { (default : Frame) with fn := f, kind := .normal }
  have henter : Frame.enter P f vs .normal = b.at { tmps := vs ++ Array.replicate (fn.ntmps - vs.size) undef, defers := [] } [.code c] := by
    simp [Frame.enter, Frame.at, hf, hb, b]
  have hF : SimF D h β I w fn.ntmps (entryFr args) { tmps := vs ++ Array.replicate (fn.ntmps - vs.size) undef, defers := [] } := by
    refine ⟨by simp; omega, fun t => ?_⟩
    have e := fget_entry args 0 t
    simp only [Nat.zero_le, if_true, Nat.sub_zero] at e
    unfold entryFr
    rw [e]
    cases e2 : args[t]? with
    | none => exact .undef _
    | some cc =>
      have ht : t < vs.size := by
        rcases Nat.lt_or_ge t args.length with h3 | h3
        · omega
        · rw [List.getElem?_eq_none h3] at e2; cases e2
      have h1 := hv t cc e2
      rw [Array.getD_eq_getD_getElem?] at h1 ⊢
      rw [Array.getElem?_append_left ht]
      exact h1
  obtain ⟨e, a', w', todo, ⟨D', β', I', p3, p5⟩, p4⟩ := hs D β I w _ [] hD hS hF rfl b cs
  cases ho with
  | @ret st r0 hr0 =>
    obtain ⟨rfl, p6, p7⟩ := p5
    have q3 := p3.sim
    simp only [Fin.h] at q3 p6
    have hres : ∃ v, (results fn a'.tmps).run P w' = .ok v w' ∧ SimV D' st.h β' I' w' r0 v := by
      unfold resEval at hr0
      have conv : ∀ (vs : List Value), (fn.results.toList.mapM (resSem a'.tmps)).run P w' = .ok vs w' → (results fn a'.tmps).run P w' = .ok (if h : vs.toArray.size = 1 then vs.toArray[0] else .tuple vs.toArray) w' := by
        intro vs h2
        rw [results_eq, Array.mapM_eq_mapM_toList]
        simp only [Sem.run_bind, Sem.run_map]
        rw [h2]
        rfl
      split at hr0
      · rename_i c1 hm
        cases hr0
        obtain ⟨vs, k1, k2, k3⟩ := res_sound q3 p6 _ _ hm
        refine ⟨_, conv vs k1, ?_⟩
        match vs, k2 with
        | [v], _ => simpa using k3 0 r0 rfl
      · rename_i cs hne hm
        cases hr0
        obtain ⟨vs, k1, k2, k3⟩ := res_sound q3 p6 _ _ hm
        refine ⟨_, conv vs k1, ?_⟩
        have hlen : ¬ vs.toArray.size = 1 := by
          intro e
          have : cs.length = 1 := by simp at e; omega
          match cs, this with
          | [c1], _ => exact hne c1 rfl
        rw [dif_neg hlen]
        refine .tup (by simp; omega) fun i c hi => ?_
        rw [getD_toList]
        exact k3 i c hi
      · cases hr0
    obtain ⟨v, hv1, hv2⟩ := hres
    refine ⟨.returned v, w', { b.at a' todo with mode := .returning }, hR D' β' I' w' _ p3 ⟨v, rfl, hv2⟩, ?_, rfl, rfl, p7, rfl, fn, hf, hv1⟩
    rw [henter]
    exact p4
  | pan =>
    obtain ⟨p6, v, rfl, p7⟩ := p5
    refine ⟨.panicked [{ v, recovered := false }], w', { b.at a' todo with mode := .panicking [{ v, recovered := false }] }, hR D' β' I' w' _ p3 ⟨v, rfl, p7⟩, ?_, rfl, rfl, p6, fn, hf⟩
    rw [henter]
    exact p4

/-- A contract's freezing. -/
def OutFrz (h0 : Heap) (gone : Nat → Prop) : Out → Out → Prop
  | .ret r0, .ret r => Frz h0 gone r0 r
  | .pan r0, .pan r => Frz h0 gone r0 r
  | _, _ => False
theorem outFrz_real {gone : Nat → Prop} {h' : Heap} {D' : Nat → Prop} (hS : Sim D h β I w) (hD : ∀ n, D n → D' n) (hp : Pres D h β I w h' β (IFrz h β I gone) w) {o o' : Out} (hf : OutFrz h gone o o') {e : Ending}
    (ho : OutR D h β I w o e) : OutR D' h' β (IFrz h β I gone) w o' e := by
  cases o with
  | ret r0 => cases o' with
    | ret r => obtain ⟨v, e1, e2⟩ := ho; exact ⟨v, e1, frz_real hS hD hp hf v e2⟩
    | pan r => exact hf.elim
  | pan r0 => cases o' with
    | ret r => exact hf.elim
    | pan r => obtain ⟨v, e1, e2⟩ := ho; exact ⟨v, e1, frz_real hS hD hp hf v e2⟩

def ClosedO : Out → Prop
  | .ret r => Closed r
  | .pan r => Closed r

/-- What is asked of a run's end. -/
def GenPost (P : Program) (fn : Func) (nx nx' : Nat) (h' : Heap) (o : Out) (F : Fin) : Prop :=
  F.nx ≤ nx' ∧ ∃ (o0 : Out) (gone : Nat → Prop), OutOf P fn F o0 ∧ (∀ n, gone n → nx ≤ n) ∧ OutFrz F.h gone o0 o ∧ HFrz F.h h' gone
def PurePost (P : Program) (fn : Func) (nx : Nat) (h : Heap) (o : Out) (F : Fin) : Prop :=
  ∃ o0, OutOf P fn F o0 ∧ OutFrz F.h (fun n => nx ≤ n) o0 o ∧ ∀ n k, n < nx → hget h n = some k → hget F.h n = some k

/-- A CONTRACT OUT OF A RUN. -/
theorem good_gen (hmix : P.follows .mixedOrders = true) {f : FuncId} {fn : Func} {c : Code} {args : List CV} {nx nx' : Nat} {h' : Heap} {o : Out} (hf : P.funcs[f]? = some fn) (hb : fn.body = some c) (hcf : ∀ (vs : Array Value) (w : World), (callFunc f vs).run P w = .ok (.enter f vs) w)
    (hn : args.length ≤ fn.ntmps) (hx : nx ≤ nx')
    (hw : (∀ n k, hget h n = some k → n < nx) → Wp P fn.ntmps (GenPost P fn nx nx' h' o) (.run [.code c] ⟨entryFr args, nx, h⟩)) :
    Good P f args nx h o nx' h' := by
  by_cases hdom : ∀ n k, hget h n = some k → n < nx
  case neg => exact ⟨hx, hcf, fun D β I w vs hD hS => absurd (fun n k hk => hD n (hS.dom n k hk)) hdom⟩
  obtain ⟨F, ⟨h1, o0, gone, ho, hgone, hfr, hhf⟩, hle, hrun⟩ := body_run hmix hf hb hn (hw hdom)
  refine ⟨hx, hcf, fun D β I w vs hD hS hsz hv => ?_⟩
  refine hrun o0 ho D β I w vs hD hS hsz hv _ fun D' β' I' w' e hr hor => ?_
  obtain ⟨s1, s2⟩ := hfrz_sim hhf hr.sim
  have hDD : ∀ n, D' n → Dx D nx nx' n := fun n hn2 => by
    rcases hr.new n hn2 with h1 | h1
    · exact .inl h1
    · exact .inr ⟨h1.1, by omega⟩
  exact ⟨β', _, s1.more hDD, outFrz_real hr.sim hDD (hfrz_pres hhf) hfr hor, hr.ext.trans hr.mono s2⟩

/-- A CONTRACT OF A FUNCTION THAT LEAVES THE HEAP AS IT WAS, and hands back what holds no memory of ours. -/
theorem good_pure (hmix : P.follows .mixedOrders = true) {f : FuncId} {fn : Func} {c : Code} {args : List CV} {nx : Nat} {o : Out} (hf : P.funcs[f]? = some fn) (hb : fn.body = some c) (hcf : ∀ (vs : Array Value) (w : World), (callFunc f vs).run P w = .ok (.enter f vs) w)
    (hn : args.length ≤ fn.ntmps) (hcl : ClosedO o)
    (hw : (∀ n k, hget h n = some k → n < nx) → Wp P fn.ntmps (PurePost P fn nx h o) (.run [.code c] ⟨entryFr args, nx, h⟩)) :
    Good P f args nx h o nx h := by
  by_cases hdom : ∀ n k, hget h n = some k → n < nx
  case neg => exact ⟨Nat.le_refl _, hcf, fun D β I w vs hD hS => absurd (fun n k hk => hD n (hS.dom n k hk)) hdom⟩
  obtain ⟨F, ⟨o0, ho, hfr, hkeep⟩, hle, hrun⟩ := body_run hmix hf hb hn (hw hdom)
  refine ⟨Nat.le_refl _, hcf, fun D β I w vs hD hS hsz hv => ?_⟩
  refine hrun o0 ho D β I w vs hD hS hsz hv _ fun D' β' I' w' e hr hor => ?_
  have hhf : HFrz F.h h (fun n => nx ≤ n) := ⟨fun n k hk => by
    have hlt : n < nx := hD n (hS.dom n k hk)
    exact ⟨by omega, k, hkeep n k hlt hk, KFrz.refl ..⟩⟩
  obtain ⟨s1, s2⟩ := hfrz_sim hhf hr.sim
  have hx := hr.ext.trans hr.mono s2
  have hov := outFrz_real hr.sim (fun _ h => h) (hfrz_pres hhf) hfr hor
  refine ⟨β', IFrz F.h β' I' (fun n => nx ≤ n), ⟨fun n k hk => .inl (hS.dom n k hk), fun n k rb hk hbb => ?_, s1.inj, s1.noI, s1.ilt⟩, ?_, hx⟩
  · have hdn := hS.dom n k hk
    obtain ⟨kk, g1, g2, g3⟩ := hx.pres.blk n k hdn hk
    rw [hk] at g1; cases g1
    have hb0 : β n = some rb := by rw [← (g3 rfl).1]; exact hbb
    have b1 := s1.blk n k rb hk hbb
    have b0 := hS.blk n k rb hk hb0
    have key : ∀ {c : CV} {v0 v : Value}, SimV D h β I w c v0 → SimV D' h β' (IFrz F.h β' I' (fun n => nx ≤ n)) w' c v → SimV (Dx D nx nx) h β' (IFrz F.h β' I' (fun n => nx ≤ n)) w' c v := fun h0 h1 =>
      ((h0.restrict _ h1).mono (fun _ h => .inl h) (Pres.refl ..))
    refine ⟨fun hm => ?_, fun l hm => ?_⟩
    · obtain ⟨c1, e1, k1, k2, k3⟩ := b1.cell hm
      obtain ⟨c2, e2, m1, m2, m3⟩ := b0.cell hm
      exact ⟨c1, e1, k1, k2, fun i cv hi => ⟨(k3 i cv hi).1, key (m3 i cv hi).2 (k3 i cv hi).2⟩⟩
    · obtain ⟨es1, cl1, k1, k2, k3⟩ := b1.mapp l hm
      obtain ⟨es2, cl2, m1, m2, m3⟩ := b0.mapp l hm
      refine ⟨es1, cl1, k1, k2, fun i p e hi he => ?_⟩
      have hi2 : i < es2.size := by
        rcases Nat.lt_or_ge i l.length with h5 | h5
        · omega
        · rw [List.getElem?_eq_none h5] at hi; cases hi
      have m4 := m3 i p _ hi (Array.getElem?_eq_getElem hi2)
      exact ⟨key m4.1 (k3 i p e hi he).1, key m4.2 (k3 i p e hi he).2⟩
  · cases o with
    | ret r => obtain ⟨v, e1, e2⟩ := hov; exact ⟨v, e1, Closed.simv (fun _ h => h) (fun _ _ => rfl) e2 hcl⟩
    | pan r => obtain ⟨v, e1, e2⟩ := hov; exact ⟨v, e1, Closed.simv (fun _ h => h) (fun _ _ => rfl) e2 hcl⟩

/-! ### The end of a run -/
theorem done_ret {fn : Func} {fr : Fr} {n0 : Nat} {h0 : Heap} {nx nx' : Nat} {h' : Heap} {r0 r : CV} (hx : n0 ≤ nx') (hr : resEval P fn.results.toList fr h0 = some r0) (hf : Frz h0 (fun n => nx ≤ n) r0 r) (hh : ∀ n k, hget h' n = some k → n < nx ∧ hget h0 n = some k) :
    GenPost P fn nx nx' h' (.ret r) (.nor ⟨fr, n0, h0⟩) :=
  ⟨hx, .ret r0, fun n => nx ≤ n, .ret hr, fun _ h => h, hf, ⟨fun n k hk => ⟨by have := (hh n k hk).1; omega, k, (hh n k hk).2, KFrz.refl ..⟩⟩⟩
theorem done_pan {fn : Func} {c r : CV} {nx nx' n0 : Nat} {h0 h' : Heap} (hx : n0 ≤ nx') (hf : Frz h0 (fun n => nx ≤ n) c r) (hh : ∀ n k, hget h' n = some k → n < nx ∧ hget h0 n = some k) :
    GenPost P fn nx nx' h' (.pan r) (.pan c n0 h0) :=
  ⟨hx, .pan c, fun n => nx ≤ n, .pan, fun _ h => h, hf, ⟨fun n k hk => ⟨by have := (hh n k hk).1; omega, k, (hh n k hk).2, KFrz.refl ..⟩⟩⟩
theorem pure_ret {fn : Func} {fr : Fr} {n0 : Nat} {h0 h : Heap} {nx : Nat} {r0 r : CV} (hr : resEval P fn.results.toList fr h0 = some r0) (hf : Frz h0 (fun n => nx ≤ n) r0 r) (hh : ∀ n k, n < nx → hget h n = some k → hget h0 n = some k) :
    PurePost P fn nx h (.ret r) (.nor ⟨fr, n0, h0⟩) := ⟨.ret r0, .ret hr, hf, hh⟩
end
end Go.Cv
namespace Go.Cv
open Go

section
variable {P : Program}

def URel (D : Nat → Prop) (h : Heap) (β : Nat → Option Nat) (I : Nat → Prop) (w : World) : Option CV → FrameMode → Prop
  | none, u => u = .returning
  | some c, u => ∃ v, u = .panicking [{ v, recovered := false }] ∧ SimV D h β I w c v

/-- The contract of a deferred function: of a caller that returns, or panics; in the end the caller returns. -/
def GoodD (P : Program) (g : FuncId) (args : List CV) (pv : Option CV) (nx : Nat) (h : Heap) (nx' : Nat) (h' : Heap) : Prop :=
  nx ≤ nx' ∧ (∀ (vs : Array Value) (w : World), (callFunc g vs).run P w = .ok (.enter g vs) w) ∧
  ∀ (D : Nat → Prop) (β : Nat → Option Nat) (I : Nat → Prop) (w : World) (vs : Array Value) (u : FrameMode), (∀ n, D n → n < nx) → Sim D h β I w → vs.size = args.length →
    (∀ i c, args[i]? = some c → SimV D h β I w c (vs.getD i undef)) → URel D h β I w pv u →
    CallsD P g vs u w fun e u' w' => (∃ v, e = .returned v) ∧ settle u' = .returning ∧ ∃ β' I', Sim (Dx D nx nx') h' β' I' w' ∧ Ext D h β I w h' β' I' w'

theorem entry_simF {D : Nat → Prop} {h : Heap} {β : Nat → Option Nat} {I : Nat → Prop} {w : World} {N : Nat} {args : List CV} {vs : Array Value} (hn : args.length ≤ N) (hsz : vs.size = args.length)
    (hv : ∀ i c, args[i]? = some c → SimV D h β I w c (vs.getD i undef)) : SimF D h β I w N (entryFr args) { tmps := vs ++ Array.replicate (N - vs.size) undef, defers := [] } := by
  refine ⟨by simp; omega, fun t => ?_⟩
  have e := fget_entry args 0 t
  simp only [Nat.zero_le, if_true, Nat.sub_zero] at e
  unfold entryFr
  rw [e]
  cases e2 : args[t]? with
  | none => exact .undef _
  | some cc =>
    have ht : t < vs.size := by
      rcases Nat.lt_or_ge t args.length with h3 | h3
      · omega
      · rw [List.getElem?_eq_none h3] at e2; cases e2
    have h1 := hv t cc e2
    rw [Array.getD_eq_getD_getElem?] at h1 ⊢
    rw [Array.getElem?_append_left ht]
    exact h1

theorem ranTo_ext {D : Nat → Prop} {h : Heap} {β : Nat → Option Nat} {I : Nat → Prop} {w : World} {nx : Nat} {F : Fin} {D' : Nat → Prop} {β' : Nat → Option Nat} {I' : Nat → Prop} {w' : World}
    (hr : RanTo D h β I w nx F D' β' I' w') : Sim (Dx D nx F.nx) F.h β' I' w' ∧ Ext D h β I w F.h β' I' w' :=
  ⟨hr.sim.more fun n hn => (hr.new n hn).imp id fun h => h, hr.ext⟩

theorem goodD_of (hmix : P.follows .mixedOrders = true) {g : FuncId} {gn : Func} {i0 : Nat} {o : Oper} {rest : Code} {args : List CV} {pv : Option CV} {nx t : Nat} {h : Heap} {as : Array Operand} {ts : Array TypeId} {st : St}
    (hf : P.funcs[g]? = some gn) (hb : gn.body = some (.seq (.region i0 #[o] false) rest)) (hcf : ∀ (vs : Array Value) (w : World), (callFunc g vs).run P w = .ok (.enter g vs) w)
    (hn : args.length ≤ gn.ntmps) (hres : gn.results = #[]) (ho : o.op = .call ⟨.builtin .recover, as, ts⟩) (has : as = #[]) (hg : o.guard = none) (hd : o.dst = some t) (ht : t < gn.ntmps)
    (hw : Wp P gn.ntmps (fun F => F = .nor st) (.run [.code rest] ⟨fset (entryFr args) t (pv.getD (.lit .nilIface)), nx, h⟩)) : GoodD P g args pv nx h st.nx st.h := by
  obtain ⟨F, hF, hx, hs⟩ := wp_sound hmix hw
  subst hF
  refine ⟨hx, hcf, fun D β I w vs u hD hS hsz hv hu c cs hc => ?_⟩
  let b : Frame := { (default : Frame) with fn := g, kind := .deferred }
  let a : Act := { tmps := vs ++ Array.replicate (gn.ntmps - vs.size) undef, defers := [] }
  have henter : Frame.enter P g vs .deferred = b.at a [.code (.seq (.region i0 #[o] false) rest)] := by
    simp [Frame.enter, Frame.at, hf, hb, b, a]
  have hexec : (execOp a.eval o).run P w = .ok .recover w := by
    obtain ⟨dst, op, ty, pos, after, guard⟩ := o
    simp only at ho
    subst ho
    subst has
    rfl
  have hwant : Region.wanted o (yielded #[o] a.tmps) = true := by simp [Region.wanted, hg]
  -- what is recovered
  have key : ∃ (v : Value) (u' : FrameMode), SimV D h β I w (pv.getD (.lit .nilIface)) v ∧ settle u' = .returning ∧
      wpOpsS P #[o] (fun e a' cs' w' => e = .normal ∧ a' = a.put (some t) v ∧ cs' = { c with mode := u' } :: cs ∧ w' = w) (List.range 1) a (c :: cs) w := by
    cases pv with
    | none =>
      have hu : u = .returning := hu
      subst hu
      refine ⟨.nilIface, .returning, .lit _, rfl, ?_⟩
      have hrec : recoverD (c :: cs) = none := by simp [recoverD, hc]
      have hce : ({ c with mode := .returning } : Frame) = c := by rw [← hc]
      simp only [wpOpsS, List.range_succ, List.range_zero, List.nil_append]
      simp only [List.getElem?_toArray, List.getElem?_cons_zero, hwant, if_true, hexec, hrec, hd, hce]
      simp
    | some cv =>
      obtain ⟨v, hu, hsv⟩ := hu
      subst hu
      refine ⟨v, .panicking [{ v, recovered := true }], hsv, rfl, ?_⟩
      have hrec : recoverD (c :: cs) = some (v, { c with mode := .panicking [{ v, recovered := true }] } :: cs) := by simp [recoverD, hc]
      simp only [wpOpsS, List.range_succ, List.range_zero, List.nil_append]
      simp only [List.getElem?_toArray, List.getElem?_cons_zero, hwant, if_true, hexec, hrec, hd]
      simp
  obtain ⟨v, u', hsv, hset, hops⟩ := key
  obtain ⟨e1, a1, cs1, w1, ⟨rfl, rfl, rfl, rfl⟩, harr⟩ := wpS_region (id := i0) hops b [.code rest] rfl rfl
  have hF1 : SimF D h β I w1 gn.ntmps (fset (entryFr args) t (pv.getD (.lit .nilIface))) (a.put (some t) v) := (entry_simF hn hsz hv).put ht hsv
  obtain ⟨e, a', w', todo, ⟨D', β', I', p3, p5⟩, p4⟩ := hs D β I w1 _ [] hD hS hF1 rfl b ({ c with mode := u' } :: cs)
  obtain ⟨rfl, p6, p7⟩ := p5
  obtain ⟨q1, q2⟩ := ranTo_ext p3
  have hr : (results gn a'.tmps).run P w' = .ok (.tuple #[]) w' := by
    simp [results, hres]
  refine ⟨.returned (.tuple #[]), u', w', { b.at a' todo with mode := .returning }, ⟨⟨_, rfl⟩, hset, β', I', q1, q2⟩, ?_, rfl, rfl, p7, gn, hf, hr⟩
  rw [henter]
  exact Steps.head step_seq (Steps.trans harr p4)

/-- Operations without calls, in the order of the text. -/
def opsRun (P : Program) (N : Nat) (all : Array Oper) (base : Nat) : List (Nat × Oper) → St → Option St
  | [], st => some st
  | p :: l, st => match isW p.2.op with
    | true => none
    | false => match opNext P N all base p.1 p.2 st with
      | some st' => opsRun P N all base l st'
      | none => none
theorem opsRun_tr {N : Nat} {all : Array Oper} {base : Nat} : ∀ {l : List (Nat × Oper)} {st st' : St}, (∀ p ∈ l, all[p.1]? = some p.2) → opsRun P N all base l st = some st' → Tr P N none all base (l.map (·.1)) st (.nor st')
  | [], st, st', _, h => by cases h; exact .nil
  | p :: l, st, st', hl, h => by
    simp only [opsRun] at h
    split at h
    · cases h
    · split at h
      · rename_i st1 e
        exact .op (hl p (by simp)) e (fun _ => trivial) (opsRun_tr (fun q hq => hl q (by simp [hq])) h)
      · cases h

/-- The steps up to the code behind the 'defer'. -/
def Ahead1 (P : Program) (fn : Func) (args : List CV) (nx : Nat) (h : Heap) (g : FuncId) (caps : List CV) (rest : Code) (st2 : St) : Prop :=
  nx ≤ st2.nx ∧ ∀ (D : Nat → Prop) (β : Nat → Option Nat) (I : Nat → Prop) (w : World) (vs : Array Value), (∀ n, D n → n < nx) → Sim D h β I w → vs.size = args.length → (∀ i c, args[i]? = some c → SimV D h β I w c (vs.getD i undef)) →
    ∀ (b : Frame) (cs : List Frame), ∃ (a : Act) (w2 : World) (D2 : Nat → Prop) (β2 : Nat → Option Nat) (I2 : Nat → Prop) (us : Array Value) (c : Code), fn.body = some c ∧
      RanTo D h β I w nx (.nor st2) D2 β2 I2 w2 ∧ SimF D2 st2.h β2 I2 w2 fn.ntmps st2.fr a ∧
      a.defers = [{ target := .fn (.func g) us, args := #[] }] ∧ us.size = caps.length ∧ (∀ i c, caps[i]? = some c → SimV D2 st2.h β2 I2 w2 c (us.getD i undef)) ∧
      Steps P (lone (b.at { tmps := vs ++ Array.replicate (fn.ntmps - vs.size) undef, defers := [] } [.code c]) cs w) (lone (b.at a [.code rest]) cs w2)

theorem ahead1_of {fn : Func} {args : List CV} {nx t i0 i1 : Nat} {h : Heap} {ops0 : Array Oper} {mk df : Oper} {rest : Code} {st1 st2 : St} {g : FuncId} {caps : List CV} {ts : Array TypeId}
    (hb : fn.body = some (.seq (.region i0 ops0 false) (.seq (.region i1 #[mk, df] false) rest))) (hn : args.length ≤ fn.ntmps)
    (h0 : opsRun P fn.ntmps ops0 nx (numb 0 ops0.toList) ⟨entryFr args, nx + ops0.size, h⟩ = some st1) (h1 : opNext P fn.ntmps #[mk, df] st1.nx 0 mk ⟨st1.fr, st1.nx + 2, st1.h⟩ = some st2)
    (hop : df.op = .defer ⟨.value (.tmp t), #[], ts⟩) (hg : df.guard = none) (hd : df.dst = none) (hcl : fget st2.fr t = .fn (.func g) [] caps) : Ahead1 P fn args nx h g caps rest st2 := by
  obtain ⟨n1, n2⟩ := numb_spec ops0.toList 0
  have ht := opsRun_tr (all := ops0) (fun p hp => by simpa using (n2 p hp).2) h0
  rw [n1, Array.length_toList, ← List.range_eq_range'] at ht
  have hx1 := ht.nx_le
  simp only [Fin.nx] at hx1
  have hx2 := opNext_nx h1
  simp only at hx2
  refine ⟨by omega, fun D β I w vs hD hS hsz hv b cs => ?_⟩
  have hF := entry_simF hn hsz hv
  obtain ⟨e1, a1, w1, hq1, harr1⟩ := regOk_text (id := i0) (st := ⟨entryFr args, nx, h⟩) ht D β I _ w [] (fun e a' w' => Ran D h β I w fn.ntmps [] nx (.nor st1) e a' w') hD hS hF rfl (fun e a' w' h => h) b [.code (.seq (.region i1 #[mk, df] false) rest)] cs
  obtain ⟨D1, β1, I1, r1, rfl, hF1, hd1⟩ := hq1
  have hD1 : ∀ n, D1 n → n < st1.nx := fun n hn => by
    rcases r1.new n hn with h3 | h3
    · have := hD n h3; omega
    · exact h3.2
  have sim1 := r1.sim
  simp only [Fin.h] at sim1 hF1
  have wp1 : wpOps P #[mk, df] (fun e a' w' => e = .normal ∧ ∃ (β2 : Nat → Option Nat) (us : Array Value), Sim (plus D1 (st1.nx + 0)) st2.h β2 I1 w' ∧ SimF (plus D1 (st1.nx + 0)) st2.h β2 I1 w' fn.ntmps st2.fr a' ∧ Ext D1 st1.h β1 I1 w1 st2.h β2 I1 w' ∧
      a'.defers = [{ target := .fn (.func g) us, args := #[] }] ∧ us.size = caps.length ∧ (∀ i c, caps[i]? = some c → SimV (plus D1 (st1.nx + 0)) st2.h β2 I1 w' c (us.getD i undef))) (List.range 2) a1 w1 := by
    rw [show List.range 2 = [0, 1] from rfl, wpOps_cons]
    refine next_sound (P := P) (N := fn.ntmps) (all := #[mk, df]) (base := st1.nx) (i := 0) (o := mk) (st := ⟨st1.fr, st1.nx + 2, st1.h⟩) _ rfl sim1 hF1 (fun hDn => by have := hD1 _ hDn; omega) h1 fun β2 a2 w2 s1 s2 s3 s4 => ?_
    rw [wpOps_cons]
    unfold wpOp
    simp only [List.getElem?_toArray, List.getElem?_cons_succ, List.getElem?_cons_zero]
    have hwant : Region.wanted df (yielded #[mk, df] a2.tmps) = true := by simp [Region.wanted, hg]
    rw [if_pos hwant]
    refine .inl ?_
    have hcv := s2.ev (.tmp t)
    simp only [ev, hcl] at hcv
    cases hv2 : a2.eval (.tmp t) with
    | func f0 us0 vs0 =>
      rw [hv2] at hcv
      cases hcv with
      | fn hl hx hm hy =>
        have hus0 : us0 = #[] := Array.eq_empty_of_size_eq_zero (by simpa using hl.symm)
        subst hus0
        have hexec : (execOp a2.eval df).run P w2 = .ok (.defer { target := .fn (.func g) vs0, args := #[] }) w2 := by
          obtain ⟨dst, op, ty, pos, after, guard⟩ := df
          simp only at hop
          subst hop
          simp [execOp, resolve, Deferred.ofValue, hv2]
        unfold Oper.wp
        rw [hexec, Oper.upon_defer]
        simp only [wpOps, hd, Act.put]
        exact ⟨trivial, β2, vs0, s1, ⟨s2.1, s2.2⟩, s4, by rw [s3, hd1], hm.symm, hy⟩
    | _ => rw [hv2] at hcv; cases hcv
  obtain ⟨e2, a2, w2, ⟨rfl, β2, us, q1, q2, q3, q4, q5, q6⟩, harr2⟩ := wp_region (id := i1) wp1 b [.code rest] cs
  refine ⟨a2, w2, plus D1 (st1.nx + 0), β2, I1, us, _, hb, ⟨fun n hn => .inl (r1.mono n hn), fun n hn => ?_, q1, r1.ext.trans r1.mono q3⟩, q2, q4, q5, q6, ?_⟩
  · simp only [Fin.nx]
    rcases hn with h3 | h3
    · rcases r1.new n h3 with h4 | h4
      · exact .inl h4
      · simp only [Fin.nx] at h4; right; omega
    · right; omega
  · exact Steps.head step_seq (Steps.trans harr1 (Steps.head step_seq harr2))

theorem results_of {D : Nat → Prop} {h : Heap} {β : Nat → Option Nat} {I : Nat → Prop} {w : World} {fn : Func} {N : Nat} {fr : Fr} {a : Act} {r : CV} (hS : Sim D h β I w) (hF : SimF D h β I w N fr a) (hr0 : resEval P fn.results.toList fr h = some r) :
    ∃ v, (results fn a.tmps).run P w = .ok v w ∧ SimV D h β I w r v := by
  unfold resEval at hr0
  have conv : ∀ (vs : List Value), (fn.results.toList.mapM (resSem a.tmps)).run P w = .ok vs w → (results fn a.tmps).run P w = .ok (if h : vs.toArray.size = 1 then vs.toArray[0] else .tuple vs.toArray) w := by
    intro vs h2
    rw [results_eq, Array.mapM_eq_mapM_toList]
    simp only [Sem.run_bind, Sem.run_map]
    rw [h2]
    rfl
  split at hr0
  · rename_i c1 hm
    cases hr0
    obtain ⟨vs, k1, k2, k3⟩ := res_sound hS hF _ _ hm
    refine ⟨_, conv vs k1, ?_⟩
    match vs, k2 with
    | [v], _ => simpa using k3 0 r rfl
  · rename_i cs hne hm
    cases hr0
    obtain ⟨vs, k1, k2, k3⟩ := res_sound hS hF _ _ hm
    refine ⟨_, conv vs k1, ?_⟩
    have hlen : ¬ vs.toArray.size = 1 := by
      intro e
      have : cs.length = 1 := by simp at e; omega
      match cs, this with
      | [c1], _ => exact hne c1 rfl
    rw [dif_neg hlen]
    refine .tup (by simp; omega) fun i c hi => ?_
    rw [getD_toList]
    exact k3 i c hi
  · cases hr0

/-- From the end of the work to the end of the function. -/
theorem leave_deferred {f : FuncId} {fn : Func} {g : FuncId} {caps : List CV} {pv : Option CV} {nx nx3 nx4 : Nat} {h h3 h4 : Heap} {r : CV} {fr3 : Fr} {D0 D3 : Nat → Prop} {β0 β3 : Nat → Option Nat} {I0 I3 : Nat → Prop} {w0 w3 : World} {a3 : Act} {us : Array Value} {u : FrameMode}
    (hf : P.funcs[f]? = some fn) (hgd : GoodD P g caps pv nx3 h3 nx4 h4) (hr : resEval P fn.results.toList fr3 h4 = some r)
    (hx : nx ≤ nx3) (hD0 : ∀ n, D0 n → D3 n) (hD3 : ∀ n, D3 n → D0 n ∨ (nx ≤ n ∧ n < nx3)) (hlt : ∀ n, D0 n → n < nx) (hS : Sim D3 h3 β3 I3 w3) (hF : SimF D3 h3 β3 I3 w3 fn.ntmps fr3 a3) (hext : Ext D0 h β0 I0 w0 h3 β3 I3 w3)
    (hds : a3.defers = [{ target := .fn (.func g) us, args := #[] }]) (hus : us.size = caps.length) (hcap : ∀ i c, caps[i]? = some c → SimV D3 h3 β3 I3 w3 c (us.getD i undef)) (hu : URel D3 h3 β3 I3 w3 pv u) (hne : u ≠ .run)
    (b : Frame) (todo : List Item) (cs : List Frame) (hbf : b.fn = f) (hbk : b.kind = .normal) :
    ∃ e w' fr', (∃ β' I', Sim (Dx D0 nx nx4) h4 β' I' w' ∧ OutR (Dx D0 nx nx4) h4 β' I' w' (.ret r) e ∧ Ext D0 h β0 I0 w0 h4 β' I' w') ∧
      Comes P (lone { b.at a3 todo with mode := u } cs w3) (lone fr' cs w') e ∧ fr'.fn = f ∧ fr'.leaving P w' e := by
  obtain ⟨hx4, hcg, hG⟩ := hgd
  have hlt3 : ∀ n, D3 n → n < nx3 := fun n hn => by
    rcases hD3 n hn with h1 | h1
    · have := hlt n h1; omega
    · exact h1.2
  have hinv : (invoke (.fn (.func g) us) #[]).run P w3 = .ok (.enter g us) w3 := by
    simp only [invoke, Array.empty_append]
    exact hcg us w3
  have hl : Leaves P fn a3.tmps (fun e w' => ∃ β' I', Sim (Dx D0 nx nx4) h4 β' I' w' ∧ OutR (Dx D0 nx nx4) h4 β' I' w' (.ret r) e ∧ Ext D0 h β0 I0 w0 h4 β' I' w') [{ target := .fn (.func g) us, args := #[] }] u w3 := by
    refine leaves_cons hne hinv ((hG D3 β3 I3 w3 us u hlt3 hS hus hcap hu).mono ?_)
    rintro e u' w' ⟨⟨v, rfl⟩, hset, β', I', q1, q2⟩
    simp only [hset]
    have hF4 : SimF (Dx D3 nx3 nx4) h4 β' I' w' fn.ntmps fr3 a3 := hF.mono (fun _ h => .inl h) q2.pres
    obtain ⟨v2, hv1, hv2⟩ := results_of q1 hF4 hr
    have hDD : ∀ n, Dx D3 nx3 nx4 n → Dx D0 nx nx4 n := fun n hn => by
      rcases hn with h1 | h1
      · rcases hD3 n h1 with h2 | h2
        · exact .inl h2
        · exact .inr ⟨h2.1, by omega⟩
      · exact .inr ⟨by omega, h1.2⟩
    exact ⟨v2, hv1, β', I', q1.more hDD, ⟨v2, rfl, hv2.mono hDD (Pres.refl ..)⟩, hext.trans hD0 q2⟩
  obtain ⟨e, w', fr', hR, hsteps, hfn, hlv⟩ := leaves_steps (P := P) (fn := fn) _ u w3 { b.at a3 todo with mode := u } cs rfl hds rfl (by simpa [Frame.at, hbf] using hf) (by simpa [Frame.at] using hbk) hl
  exact ⟨e, w', fr', hR, hsteps, by rw [hfn]; simpa [Frame.at] using hbf, hlv⟩

/-- THE CONTRACT OF A FUNCTION WITH A DEFERRED CLOSURE, whose work returns. -/
theorem good_defer_ret (hmix : P.follows .mixedOrders = true) {f : FuncId} {fn : Func} {args : List CV} {nx : Nat} {h : Heap} {rest : Code} {st2 st3 : St} {g : FuncId} {caps : List CV} {nx4 : Nat} {h4 : Heap} {r : CV}
    (hf : P.funcs[f]? = some fn) (hcf : ∀ (vs : Array Value) (w : World), (callFunc f vs).run P w = .ok (.enter f vs) w) (ha : Ahead1 P fn args nx h g caps rest st2)
    (hw : Wp P fn.ntmps (fun F => F = .nor st3) (.run [.code rest] st2))
    (hgd : GoodD P g caps none st3.nx st3.h nx4 h4) (hr : resEval P fn.results.toList st3.fr h4 = some r) : Good P f args nx h (.ret r) nx4 h4 := by
  obtain ⟨F, hF, hx, hs⟩ := wp_sound hmix hw
  subst hF
  obtain ⟨hx2, hrun⟩ := ha
  simp only [Fin.nx] at hx
  have hx4 := hgd.1
  refine ⟨by omega, hcf, fun D β I w vs hD hS hsz hv cs => ?_⟩
  let b : Frame := { (default : Frame) with fn := f, kind := .normal }
  obtain ⟨a2, w2, D2, β2, I2, us, c, hb, r2, hF2, hds, hus, hcap, hsteps⟩ := hrun D β I w vs hD hS hsz hv b cs
  have hD2 : ∀ n, D2 n → n < st2.nx := fun n hn => by
    rcases r2.new n hn with h3 | h3
    · have := hD n h3; omega
    · exact h3.2
  obtain ⟨e, a3, w3, todo, ⟨D3, β3, I3, r3, hleft⟩, hsteps2⟩ := hs D2 β2 I2 w2 a2 _ hD2 r2.sim hF2 hds b cs
  obtain ⟨rfl, hF3, hds3⟩ := hleft
  have henter : Frame.enter P f vs .normal = b.at { tmps := vs ++ Array.replicate (fn.ntmps - vs.size) undef, defers := [] } [.code c] := by
    simp [Frame.enter, Frame.at, hf, hb, b]
  obtain ⟨e, w', fr', hR, hcomes, hfn, hlv⟩ := leave_deferred (nx := nx) (h := h) (D0 := D) (β0 := β) (I0 := I) (w0 := w) (D3 := D3) (fr3 := st3.fr) hf hgd hr (by omega) (fun n hn => r3.mono n (r2.mono n hn)) (fun n hn => by
    rcases r3.new n hn with h3 | h3
    · rcases r2.new n h3 with h4 | h4
      · exact .inl h4
      · simp only [Fin.nx] at h4; right; omega
    · simp only [Fin.nx] at h3; right; omega) hD r3.sim hF3 (r2.ext.trans r2.mono r3.ext) hds3 hus (fun i c hi => (hcap i c hi).mono r3.mono r3.ext.pres) (u := .returning) rfl (by simp) b todo cs rfl rfl
  refine ⟨e, w', fr', hR, ?_, hfn, hlv⟩
  rw [henter]
  exact Comes.of_steps (Steps.trans hsteps hsteps2) hcomes

/-- THE CONTRACT OF A FUNCTION WITH A DEFERRED CLOSURE, whose work panics. -/
theorem good_defer_pan {f : FuncId} {fn : Func} {args args2 : List CV} {nx i2 : Nat} {h : Heap} {ops2 : Array Oper} {mv cl : Oper} {rest2 : Code} {st2 st3 : St} {g f2 : FuncId} {caps : List CV} {nx3 nx4 : Nat} {h3 h4 : Heap} {c r : CV}
    (hf : P.funcs[f]? = some fn) (hcf : ∀ (vs : Array Value) (w : World), (callFunc f vs).run P w = .ok (.enter f vs) w) (ha : Ahead1 P fn args nx h g caps (.seq (.region i2 ops2 false) rest2) st2)
    (hm : ops2[0]? = some mv) (hc : ops2[1]? = some cl) (h1 : opNext P fn.ntmps ops2 st2.nx 0 mv ⟨st2.fr, st2.nx + ops2.size, st2.h⟩ = some st3)
    (hca : CallAt st3.fr ops2 cl f2 args2) (hG : Good P f2 args2 st3.nx st3.h (.pan c) nx3 h3)
    (hgd : GoodD P g caps (some c) nx3 h3 nx4 h4) (hr : resEval P fn.results.toList st3.fr h4 = some r) : Good P f args nx h (.ret r) nx4 h4 := by
  obtain ⟨hx2, hrun⟩ := ha
  have hx3 := opNext_nx h1
  simp only at hx3
  have hx4 := hgd.1
  have hx5 := hG.1
  refine ⟨by omega, hcf, fun D β I w vs hD hS hsz hv cs => ?_⟩
  let b : Frame := { (default : Frame) with fn := f, kind := .normal }
  obtain ⟨a2, w2, D2, β2, I2, us, cc, hb, r2, hF2, hds, hus, hcap, hsteps⟩ := hrun D β I w vs hD hS hsz hv b cs
  have hsz2 : 2 ≤ ops2.size := by
    rcases Nat.lt_or_ge 1 ops2.size with h2 | h2
    · exact h2
    · rw [Array.getElem?_eq_none h2] at hc; cases hc
  have hD2 : ∀ n, D2 n → n < st2.nx := fun n hn => by
    rcases r2.new n hn with h3 | h3
    · have := hD n h3; omega
    · exact h3.2
  have hrange : List.range ops2.size = 0 :: 1 :: List.range' 2 (ops2.size - 2) := by
    rw [List.range_eq_range', show ops2.size = (ops2.size - 2) + 1 + 1 from by omega, List.range'_succ, List.range'_succ]
    simp
  have wp2 : wpOps P ops2 (fun e a' w' => ∃ (D3 : Nat → Prop) (β3 : Nat → Option Nat) (I3 : Nat → Prop) (v : Value), e = .panic [{ v, recovered := false }] ∧ (∀ n, D2 n → D3 n) ∧ (∀ n, D3 n → D2 n ∨ (st2.nx ≤ n ∧ n < nx3)) ∧ Sim D3 h3 β3 I3 w' ∧ SimF D3 h3 β3 I3 w' fn.ntmps st3.fr a' ∧
      Ext D2 st2.h β2 I2 w2 h3 β3 I3 w' ∧ a'.defers = a2.defers ∧ SimV D3 h3 β3 I3 w' c v) (List.range ops2.size) a2 w2 := by
    rw [hrange, wpOps_cons]
    refine next_sound (P := P) (N := fn.ntmps) (all := ops2) (base := st2.nx) (i := 0) (o := mv) (st := ⟨st2.fr, st2.nx + ops2.size, st2.h⟩) _ hm r2.sim hF2 (fun hDn => by have := hD2 _ hDn; omega) h1 fun β3 a3 w3 s1 s2 s3 s4 => ?_
    rw [wpOps_cons]
    refine call_pan _ hc s1 s2 (fun n hn => ?_) hca hG fun β4 I4 v w4 t1 t2 t3 => ?_
    · rcases hn with h3 | h3
      · have := hD2 n h3; omega
      · omega
    · refine ⟨_, β4, I4, v, rfl, fun n hn => .inl (.inl hn), fun n hn => ?_, t1, s2.mono (fun _ h => .inl h) t3.pres, s4.trans (fun _ h => .inl h) t3, s3, t2⟩
      rcases hn with (h3 | h3) | h3
      · exact .inl h3
      · right; omega
      · right; omega
  obtain ⟨e, a3, w3, ⟨D3, β3, I3, v, rfl, q1, q2, q3, q4, q5, q6, q7⟩, todo, hsteps2⟩ := wp_region (id := i2) wp2 b [.code rest2] cs
  have henter : Frame.enter P f vs .normal = b.at { tmps := vs ++ Array.replicate (fn.ntmps - vs.size) undef, defers := [] } [.code cc] := by
    simp [Frame.enter, Frame.at, hf, hb, b]
  obtain ⟨e, w', fr', hR, hcomes, hfn, hlv⟩ := leave_deferred (nx := nx) (h := h) (D0 := D) (β0 := β) (I0 := I) (w0 := w) (D3 := D3) (fr3 := st3.fr) hf hgd hr (by omega) (fun n hn => q1 n (r2.mono n hn)) (fun n hn => by
    rcases q2 n hn with h3 | h3
    · rcases r2.new n h3 with h4 | h4
      · exact .inl h4
      · simp only [Fin.nx] at h4; right; omega
    · right; omega) hD q3 q4 (r2.ext.trans r2.mono q5) (q6.trans hds) hus (fun i c hi => (hcap i c hi).mono q1 q5.pres) (u := .panicking [{ v, recovered := false }]) ⟨v, rfl, q7⟩ (by simp) b todo cs rfl rfl
  refine ⟨e, w', fr', hR, ?_, hfn, hlv⟩
  rw [henter]
  exact Comes.of_steps (Steps.trans hsteps (Steps.head step_seq hsteps2)) hcomes
end
end Go.Cv
namespace Go.Cv
open Go

section
variable {P : Program}

theorem OutR.mono {D D' : Nat → Prop} {h h' : Heap} {β β' : Nat → Option Nat} {I I' : Nat → Prop} {w : World} {o : Out} {e : Ending} (hD : ∀ n, D n → D' n) (hp : Pres D h β I w h' β' I' w) (ho : OutR D h β I w o e) : OutR D' h' β' I' w o e := by
  cases o with
  | ret r => obtain ⟨v, e1, e2⟩ := ho; exact ⟨v, e1, e2.mono hD hp⟩
  | pan r => obtain ⟨v, e1, e2⟩ := ho; exact ⟨v, e1, e2.mono hD hp⟩

/-- Less may be said of the heap behind, and more names may be left out. -/
def ContsK (P : Program) (f : FuncId) (K : List Item) (a : Act) (w : World) (R : Ending → World → Prop) : Prop :=
  ∀ (b : Frame) (cs : List Frame), b.fn = f → b.kind = .normal → ∃ e w' fr, R e w' ∧ Comes P (lone (b.at a K) cs w) (lone fr cs w') e ∧ fr.fn = f ∧ fr.leaving P w' e

theorem ContsK.mono {f : FuncId} {K : List Item} {a : Act} {w : World} {R R' : Ending → World → Prop} (h : ContsK P f K a w R) (hr : ∀ e w', R e w' → R' e w') : ContsK P f K a w R' :=
  fun b cs h1 h2 => let ⟨e, w', fr, r, rest⟩ := h b cs h1 h2; ⟨e, w', fr, hr _ _ r, rest⟩

/-- THE CONTRACT OF THE REST: from a place within a function (the stack K of its code) to its end. -/
def GoodK (P : Program) (f : FuncId) (fn : Func) (K : List Item) (st : St) (o : Out) (nx' : Nat) (h' : Heap) : Prop :=
  st.nx ≤ nx' ∧ ∀ (D : Nat → Prop) (β : Nat → Option Nat) (I : Nat → Prop) (w : World) (a : Act), (∀ n, D n → n < st.nx) → Sim D st.h β I w → SimF D st.h β I w fn.ntmps st.fr a → a.defers = [] →
    ContsK P f K a w fun e w' => ∃ β' I', Sim (Dx D st.nx nx') h' β' I' w' ∧ OutR (Dx D st.nx nx') h' β' I' w' o e ∧ Ext D st.h β I w h' β' I' w'

theorem goodK_of_wp (hmix : P.follows .mixedOrders = true) {f : FuncId} {fn : Func} {K : List Item} {st : St} {F : Fin} {o : Out} (hf : P.funcs[f]? = some fn)
    (hw : Wp P fn.ntmps (fun F' => F' = F) (.run K st)) (ho : OutOf P fn F o) : GoodK P f fn K st o F.nx F.h := by
  obtain ⟨F', rfl, hx, hs⟩ := wp_sound hmix hw
  refine ⟨hx, fun D β I w a hD hS hF hd b cs hb hk => ?_⟩
  obtain ⟨e, a', w', todo, ⟨D', β', I', p3, p5⟩, p4⟩ := hs D β I w a [] hD hS hF hd b cs
  obtain ⟨q1, q2⟩ := ranTo_ext p3
  have hDD : ∀ n, D' n → Dx D st.nx F'.nx n := fun n hn => (p3.new n hn).imp id fun h => h
  cases ho with
  | @ret st' r hr =>
    obtain ⟨rfl, p6, p7⟩ := p5
    obtain ⟨v, hv1, hv2⟩ := results_of p3.sim p6 hr
    refine ⟨.returned v, w', { b.at a' todo with mode := .returning }, ⟨β', I', q1, ⟨v, rfl, hv2.mono hDD (Pres.refl ..)⟩, q2⟩, p4, hb, rfl, p7, hk, fn, by simpa [Frame.at, hb] using hf, hv1⟩
  | pan =>
    obtain ⟨p6, v, rfl, p7⟩ := p5
    exact ⟨.panicked [{ v, recovered := false }], w', { b.at a' todo with mode := .panicking [{ v, recovered := false }] }, ⟨β', I', q1, ⟨v, rfl, p7.mono hDD (Pres.refl ..)⟩, q2⟩, p4, hb, rfl, p6, fn, by simpa [Frame.at, hb] using hf⟩

/-- First a piece of the way, then the rest. -/
theorem goodK_comp (hmix : P.follows .mixedOrders = true) {f : FuncId} {fn : Func} {K K' : List Item} {st st' : St} {o : Out} {nx' : Nat} {h' : Heap}
    (hw : Wp P fn.ntmps (fun F' => F' = .at K' st') (.run K st)) (hg : GoodK P f fn K' st' o nx' h') : GoodK P f fn K st o nx' h' := by
  obtain ⟨F', hF', hx, hs⟩ := wp_sound hmix hw
  subst hF'
  obtain ⟨g1, g2⟩ := hg
  simp only [Fin.nx] at hx
  refine ⟨by omega, fun D β I w a hD hS hF hd b cs hb hk => ?_⟩
  obtain ⟨e, a', w', todo, ⟨D', β', I', p3, p5⟩, p4⟩ := hs D β I w a [] hD hS hF hd b cs
  obtain ⟨rfl, p6, p7⟩ := p5
  have hD' : ∀ n, D' n → n < st'.nx := fun n hn => by
    rcases p3.new n hn with h1 | h1
    · have := hD n h1; omega
    · exact h1.2
  obtain ⟨e2, w2, fr, ⟨β2, I2, r1, r2, r3⟩, hc, hfr, hlv⟩ := g2 D' β' I' w' a' hD' p3.sim p6 p7 b cs hb hk
  have hDD : ∀ n, Dx D' st'.nx nx' n → Dx D st.nx nx' n := fun n hn => by
    rcases hn with h1 | h1
    · rcases p3.new n h1 with h2 | h2
      · exact .inl h2
      · simp only [Fin.nx] at h2; exact .inr ⟨h2.1, by omega⟩
    · exact .inr ⟨by omega, h1.2⟩
  exact ⟨e2, w2, fr, ⟨β2, I2, r1.more hDD, r2.mono hDD (Pres.refl ..), p3.ext.trans p3.mono r3⟩, Comes.of_steps p4 hc, hfr, hlv⟩

theorem good_of_K {f : FuncId} {fn : Func} {c : Code} {args : List CV} {nx nx' : Nat} {h h' : Heap} {o : Out} (hf : P.funcs[f]? = some fn) (hb : fn.body = some c) (hcf : ∀ (vs : Array Value) (w : World), (callFunc f vs).run P w = .ok (.enter f vs) w)
    (hn : args.length ≤ fn.ntmps) (hg : GoodK P f fn [.code c] ⟨entryFr args, nx, h⟩ o nx' h') : Good P f args nx h o nx' h' := by
  refine ⟨hg.1, hcf, fun D β I w vs hD hS hsz hv cs => ?_⟩
  let b : Frame := { (default : Frame) with fn := f, kind := .normal }
  have henter : Frame.enter P f vs .normal = b.at { tmps := vs ++ Array.replicate (fn.ntmps - vs.size) undef, defers := [] } [.code c] := by
    simp [Frame.enter, Frame.at, hf, hb, b]
  rw [henter]
  exact hg.2 D β I w _ hD hS (entry_simF hn hsz hv) rfl b cs rfl rfl
end
end Go.Cv
namespace Go.Cv
open Go

section
variable {D D' : Nat → Prop} {h h' : Heap} {β β' : Nat → Option Nat} {I I' : Nat → Prop} {w w' : World} {P : Program} {N : Nat}

/-- A block of the machine's that no canonical block lies at. -/
structure Aside (h : Heap) (β : Nat → Option Nat) (I : Nat → Prop) (w : World) (b : Nat) (o : Obj) : Prop where
  here : w.heap[b]? = some o
  free : ∀ n, hget h n ≠ none → β n ≠ some b
  noI : ¬ I b

theorem Aside.lt {b : Nat} {o : Obj} (ha : Aside h β I w b o) : b < w.heap.size := (Array.getElem?_eq_some_iff.1 ha.here).1

theorem Aside.ext {b : Nat} {o : Obj} (ha : Aside h β I w b o) (hx : Ext D h β I w h' β' I' w') : Aside h' β' I' w' b o := by
  have hlt := ha.lt
  refine ⟨(hx.keep b hlt ha.free).trans ha.here, fun n hn hb => ?_, fun hi => ?_⟩
  · rcases hx.new n b hn hb with h1 | ⟨m, h1, h2⟩
    · omega
    · exact ha.free m h1 h2
  · rcases hx.inew b hi with h1 | h1 | ⟨m, h1, h2⟩
    · exact ha.noI h1
    · omega
    · exact ha.free m h1 h2

theorem pres_put {b : Nat} (hf : ∀ n, hget h n ≠ none → β n ≠ some b) (hI : ¬ I b) (o : Obj) : Pres D h β I w h β I (w.putObj b o) :=
  ⟨fun _ h => h, fun c hc => World.putObj_heap_other (fun e => hI (e ▸ hc)), fun n k' _ hk => ⟨k', hk, Nat.le_refl _, fun _ => ⟨rfl, fun rb c e hb hc => ⟨c, (World.putObj_heap_other (fun e2 => hf n (by rw [hk]; simp) (by rw [← e2]; exact hb))).trans hc, Nat.le_refl _⟩⟩⟩⟩

theorem Sim.put {b : Nat} (hS : Sim D h β I w) (hf : ∀ n, hget h n ≠ none → β n ≠ some b) (hI : ¬ I b) (o : Obj) : Sim D h β I (w.putObj b o) :=
  ⟨hS.dom, fun n k rb hk hb => (hS.blk n k rb hk hb).mono (fun _ h => h) (pres_put hf hI o) (World.putObj_heap_other (fun e => hf n (by rw [hk]; simp) (e ▸ hb))), hS.inj, hS.noI, fun c hc => by simpa using hS.ilt c hc⟩

/-- What lies aside may be changed, if it is put back. -/
theorem Ext.around {b : Nat} {o o1 : Obj} (ha : Aside h β I w b o) (hx : Ext D h β I (w.putObj b o1) h' β' I' w') : Ext D h β I w h' β' I' (w'.putObj b o) := by
  have ha1 : Aside h β I (w.putObj b o1) b o1 := ⟨World.putObj_heap_same ha.lt, ha.free, ha.noI⟩
  have ha2 := ha1.ext hx
  have p1 : Pres D h β I w h β I (w.putObj b o1) := pres_put ha.free ha.noI o1
  have p2 : Pres D h' β' I' w' h' β' I' (w'.putObj b o) := pres_put ha2.free ha2.noI o
  refine ⟨(p1.trans (fun _ h => h) hx.pres).trans (fun _ h => h) p2, hx.os, hx.tape, hx.output, by simpa using hx.size, fun c hc hn => ?_, fun n rb h1 h2 => ?_, fun c hc => ?_, hx.same⟩
  · by_cases e : c = b
    · subst e; rw [World.putObj_heap_same ha2.lt, ha.here]
    · rw [World.putObj_heap_other e, hx.keep c (by simpa using hc) hn, World.putObj_heap_other e]
  · simpa using hx.new n rb h1 h2
  · simpa using hx.inew c hc

/-- What is new may be changed. -/
theorem Ext.late {b : Nat} (hx : Ext D h β I w h' β' I' w') (hb : w.heap.size ≤ b) (hf : ∀ n, hget h' n ≠ none → β' n ≠ some b) (hI : ¬ I' b) (o : Obj) : Ext D h β I w h' β' I' (w'.putObj b o) :=
  ⟨hx.pres.trans (fun _ h => h) (pres_put hf hI o), hx.os, hx.tape, hx.output, by simpa using hx.size, fun c hc hn => (World.putObj_heap_other (by omega)).trans (hx.keep c hc hn), hx.new, hx.inew, hx.same⟩

theorem alloc_keep {o : Obj} {c : Nat} (hc : c < w.heap.size) : (w.alloc o).heap[c]? = w.heap[c]? := by
  show (w.heap.push o)[c]? = _
  rw [Array.getElem?_push, if_neg (Nat.ne_of_lt hc)]

theorem sim_lt (hS : Sim D h β I w) {n rb : Nat} (hn : hget h n ≠ none) (hb : β n = some rb) : rb < w.heap.size := by
  cases e : hget h n with
  | none => exact absurd e hn
  | some k => exact (hS.blk n k rb e hb).lt

theorem pres_alloc (hS : Sim D h β I w) (o : Obj) : Pres D h β I w h β I (w.alloc o) :=
  ⟨fun _ h => h, fun c hc => alloc_keep (hS.ilt c hc), fun n k' _ hk => ⟨k', hk, Nat.le_refl _, fun _ => ⟨rfl, fun rb c e hb hc => ⟨c, (alloc_keep (Array.getElem?_eq_some_iff.1 hc).1).trans hc, Nat.le_refl _⟩⟩⟩⟩

/-- A block more, that nobody knows of. -/
theorem sim_aside (hS : Sim D h β I w) (o : Obj) : Sim D h β I (w.alloc o) ∧ Ext D h β I w h β I (w.alloc o) ∧ Aside h β I (w.alloc o) w.heap.size o := by
  refine ⟨⟨hS.dom, fun n k rb hk hb => (hS.blk n k rb hk hb).mono (fun _ h => h) (pres_alloc hS o) (alloc_keep (hS.blk n k rb hk hb).lt), hS.inj, hS.noI, fun c hc => by have := hS.ilt c hc; simp; omega⟩,
    ⟨pres_alloc hS o, rfl, rfl, rfl, by simp, fun c hc _ => alloc_keep hc, fun n rb h1 h2 => .inr ⟨n, h1, h2⟩, fun _ h => .inl h, fun _ _ _ => rfl⟩,
    World.alloc_heap_new w o, fun n hn hb => ?_, fun hi => ?_⟩
  · have := sim_lt hS hn hb; omega
  · have := hS.ilt _ hi; omega

theorem ranTo_trans {nx : Nat} {F1 F2 : Fin} {D1 D2 : Nat → Prop} {β1 β2 : Nat → Option Nat} {I1 I2 : Nat → Prop} {w1 w2 : World} (h1 : RanTo D h β I w nx F1 D1 β1 I1 w1) (h2 : RanTo D1 F1.h β1 I1 w1 F1.nx F2 D2 β2 I2 w2) (hn : nx ≤ F1.nx) (hn2 : F1.nx ≤ F2.nx) :
    RanTo D h β I w nx F2 D2 β2 I2 w2 :=
  ⟨fun n hn => h2.mono n (h1.mono n hn), fun n hD => by
    rcases h2.new n hD with h3 | h3
    · rcases h1.new n h3 with h4 | h4
      · exact .inl h4
      · right; omega
    · right; omega, h2.sim, h1.ext.trans h1.mono h2.ext⟩

theorem ranTo_lt {nx : Nat} {F1 : Fin} {D1 : Nat → Prop} {β1 : Nat → Option Nat} {I1 : Nat → Prop} {w1 : World} (h1 : RanTo D h β I w nx F1 D1 β1 I1 w1) (hn : nx ≤ F1.nx) (hD : ∀ n, D n → n < nx) : ∀ n, D1 n → n < F1.nx := fun n hn2 => by
  rcases h1.new n hn2 with h3 | h3
  · have := hD n h3; omega
  · exact h3.2

/-! ### A round -/
/-- What a round comes to, canonically: assignments, and the body. -/
def RoundOk (P : Program) (N0 : Nat) (p0 p1 : Tmp) (assign body : Code) (fr0 : Fr) (c0 c1 : CV) (nx : Nat) (h : Heap) (nx2 : Nat) (h2 : Heap) : Prop :=
  ∃ K1 st1 fr2, Wp P N0 (fun F => F = .at (.beginRound :: K1) st1) (.run [.code assign, .beginRound, .code body] ⟨fset (fset fr0 p0 c0) p1 c1, nx, h⟩) ∧
    Wp P N0 (fun F => F = .at [] ⟨fr2, nx2, h2⟩) (.run K1 st1)

theorem round_steps (hmix : P.follows .mixedOrders = true) {N0 : Nat} {p0 p1 : Tmp} {assign body : Code} {fr0 : Fr} {c0 c1 : CV} {nx nx2 : Nat} {h2 : Heap} (hr : RoundOk P N0 p0 p1 assign body fr0 c0 c1 nx h nx2 h2) (hp0 : p0 < N0) (hp1 : p1 < N0)
    (hD : ∀ n, D n → n < nx) (hS : Sim D h β I w) {l : Nat} {r : Loop} (ha : Aside h β I w l (.loop r)) (hst : r.state = .ready) (hpe : r.pending = none) {a0 : Act} (ht : r.tmps = a0.tmps)
    (hF : SimF D h β I w N0 fr0 a0) {v0 v1 : Value} (hv0 : SimV D h β I w c0 v0) (hv1 : SimV D h β I w c1 v1) (fn : FuncId) (c : Frame) (cs : List Frame) :
    nx ≤ nx2 ∧ ∃ D' β' I' w', RanTo D h β I w nx (.at [] ⟨[], nx2, h2⟩) D' β' I' w' ∧
      Steps P (lone (Frame.round l fn ((r.tmps.setIfInBounds p0 v0).setIfInBounds p1 v1) assign body .normal) (c :: cs) w) (lone (c.finish (.bool true)) cs w') := by
  obtain ⟨K1, st1, fr2, w1, w2⟩ := hr
  let b : Frame := { (default : Frame) with fn := fn, kind := .normal, roundOf := some l }
  let a1 : Act := { tmps := (r.tmps.setIfInBounds p0 v0).setIfInBounds p1 v1, defers := [] }
  have hb0 : Frame.round l fn ((r.tmps.setIfInBounds p0 v0).setIfInBounds p1 v1) assign body .normal = b.atR a1 [.code assign, .beginRound, .code body] := by
    simp [Frame.round, Frame.atR, b, a1]
  have hF1 : SimF D h β I w N0 (fset (fset fr0 p0 c0) p1 c1) a1 := by
    have h1 := (hF.put hp0 hv0).put hp1 hv1
    refine ⟨?_, ?_⟩
    · simpa [a1, Act.put, ht] using h1.1
    · simpa [a1, Act.put, ht] using h1.2
  obtain ⟨F1, rfl, x1, s1⟩ := wp_soundR hmix w1
  obtain ⟨F2, rfl, x2, s2⟩ := wp_soundR hmix w2
  simp only [Fin.nx] at x1 x2
  obtain ⟨e1, a2, wa, _, ⟨D1, β1, I1, r1, l1⟩, steps1⟩ := s1 D β I w a1 [] hD hS hF1 rfl b (c :: cs) trivial
  obtain ⟨rfl, f1, d1⟩ := l1
  have ha1 := ha.ext r1.ext
  have hD1 := ranTo_lt r1 x1 hD
  simp only [Fin.nx, Fin.h] at hD1 ha1 f1
  have sb : step P (lone (b.atR a2 (.beginRound :: K1)) (c :: cs) wa) = .next (lone (b.atR a2 K1) (c :: cs) (wa.putObj l (.loop { r with state := .busy }))) :=
    stepR_beginRound rfl (run_beginRound ha1.here hst)
  have sS : Sim D1 st1.h β1 I1 (wa.putObj l (.loop { r with state := .busy })) := r1.sim.put ha1.free ha1.noI _
  have sF : SimF D1 st1.h β1 I1 (wa.putObj l (.loop { r with state := .busy })) N0 st1.fr a2 := f1.mono (fun _ h => h) (pres_put ha1.free ha1.noI _)
  obtain ⟨e2, a3, wb, _, ⟨D2, β2, I2, r2, l2⟩, steps2⟩ := s2 D1 β1 I1 _ a2 [] hD1 sS sF d1 b (c :: cs) trivial
  obtain ⟨rfl, f2, d2⟩ := l2
  have hab : Aside st1.h β1 I1 (wa.putObj l (.loop { r with state := .busy })) l (.loop { r with state := .busy }) := ⟨World.putObj_heap_same ha1.lt, ha1.free, ha1.noI⟩
  have ha2 := hab.ext r2.ext
  have hx : Ext D1 st1.h β1 I1 wa h2 β2 I2 (wb.putObj l (.loop r)) := Ext.around ha1 r2.ext
  have hend : (Instr.endRound l none).run P wb = .ok (.bool true) (wb.putObj l (.loop r)) := by
    have := run_endRound (P := P) none ha2.here
    have e : ({ r with state := .ready, pending := none } : Loop) = r := by rw [← hst, ← hpe]
    exact this.trans (congrArg (fun x => Result.ok (Value.bool true) (wb.putObj l (.loop x))) e)
  have se : step P (lone (b.atR a3 []) (c :: cs) wb) = .next (lone (c.finish (.bool true)) cs (wb.putObj l (.loop r))) := stepR_round_end rfl rfl hend
  refine ⟨by omega, D2, β2, I2, wb.putObj l (.loop r), ranTo_trans r1 ⟨r2.mono, r2.new, r2.sim.put ha2.free ha2.noI _, hx⟩ x1 x2, ?_⟩
  rw [hb0]
  exact steps1.trans ((Steps.one sb).trans (steps2.trans (.one se)))
end
end Go.Cv
namespace Go.Cv
open Go

section
variable {D D' : Nat → Prop} {h h' : Heap} {β β' : Nat → Option Nat} {I I' : Nat → Prop} {w w' : World} {P : Program} {N : Nat}

abbrev Beside := (Nat → Prop) → Heap → (Nat → Option Nat) → (Nat → Prop) → World → Prop
/-- What is claimed of the world beside an activation, and holds on. -/
def Stable (J : Beside) : Prop := ∀ {D D' : Nat → Prop} {h h' : Heap} {β β' : Nat → Option Nat} {I I' : Nat → Prop} {w w' : World}, (∀ n, D n → D' n) → J D h β I w → Ext D h β I w h' β' I' w' → J D' h' β' I' w'

/-- From place to place within an activation. -/
def Goes (P : Program) (N : Nat) (J : Beside) (K : List Item) (st : St) (K' : List Item) (st' : St) : Prop :=
  st.nx ≤ st'.nx ∧ ∀ (D : Nat → Prop) (β : Nat → Option Nat) (I : Nat → Prop) (w : World) (a : Act) (ds : List Deferred), (∀ n, D n → n < st.nx) → Sim D st.h β I w → SimF D st.h β I w N st.fr a → a.defers = ds → J D st.h β I w →
    ∀ (b : Frame) (cs : List Frame), b.roundOf = none →
    ∃ a' w' D' β' I', RanTo D st.h β I w st.nx (.at K' st') D' β' I' w' ∧ SimF D' st'.h β' I' w' N st'.fr a' ∧ a'.defers = ds ∧ Steps P (lone (b.atR a K) cs w) (lone (b.atR a' K') cs w')

theorem Goes.of_wp (hmix : P.follows .mixedOrders = true) {J : Beside} {K K' : List Item} {st st' : St} (hw : Wp P N (fun F => F = .at K' st') (.run K st)) : Goes P N J K st K' st' := by
  obtain ⟨F, rfl, hx, hs⟩ := wp_soundR hmix hw
  refine ⟨hx, fun D β I w a ds hD hS hF hd _ b cs hb => ?_⟩
  obtain ⟨e, a', w', todo, ⟨D', β', I', r1, rfl, f1, d1⟩, steps⟩ := hs D β I w a ds hD hS hF hd b cs trivial
  exact ⟨a', w', D', β', I', r1, f1, d1, steps⟩

theorem Goes.refl {J : Beside} {K : List Item} {st : St} : Goes P N J K st K st :=
  ⟨Nat.le_refl _, fun D β I w a ds hD hS hF hd _ b cs hb => ⟨a, w, D, β, I, ⟨fun _ h => h, fun _ h => .inl h, hS, Ext.refl ..⟩, hF, hd, Steps.refl P _⟩⟩

theorem Goes.trans {J : Beside} (hJ : Stable J) {K K1 K' : List Item} {st st1 st' : St} (p : Goes P N J K st K1 st1) (q : Goes P N J K1 st1 K' st') : Goes P N J K st K' st' := by
  refine ⟨Nat.le_trans p.1 q.1, fun D β I w a ds hD hS hF hd hj b cs hb => ?_⟩
  obtain ⟨a1, w1, D1, β1, I1, r1, f1, d1, s1⟩ := p.2 D β I w a ds hD hS hF hd hj b cs hb
  obtain ⟨a2, w2, D2, β2, I2, r2, f2, d2, s2⟩ := q.2 D1 β1 I1 w1 a1 ds (ranTo_lt r1 p.1 hD) r1.sim f1 d1 (hJ r1.mono hj r1.ext) b cs hb
  exact ⟨a2, w2, D2, β2, I2, ranTo_trans r1 r2 p.1 q.1, f2, d2, s1.trans s2⟩

/-- More names may have been used up. -/
theorem Goes.up {J : Beside} {K K' : List Item} {fr : Fr} {nx nx1 : Nat} {h : Heap} {st' : St} (hn : nx ≤ nx1) (p : Goes P N J K ⟨fr, nx1, h⟩ K' st') : Goes P N J K ⟨fr, nx, h⟩ K' st' := by
  refine ⟨Nat.le_trans hn p.1, fun D β I w a ds hD hS hF hd hj b cs hb => ?_⟩
  obtain ⟨a1, w1, D1, β1, I1, r1, f1, d1, s1⟩ := p.2 D β I w a ds (fun n hn2 => Nat.lt_of_lt_of_le (hD n hn2) hn) hS hF hd hj b cs hb
  exact ⟨a1, w1, D1, β1, I1, ⟨r1.mono, fun n hn2 => by
    rcases r1.new n hn2 with h1 | h1
    · exact .inl h1
    · right; simp only at h1 ⊢; exact ⟨Nat.le_trans hn h1.1, h1.2⟩, r1.sim, r1.ext⟩, f1, d1, s1⟩

/-- Operations in the order of the text. -/
theorem opsGo {all : Array Oper} (hnd : noDef all = true) {base : Nat} {l rest : List Nat} {st st' : St} (ht : Tr P N none all base l st (.nor st')) (hb : base + all.size ≤ st.nx) (hnp : l.Nodup) (hl : ∀ j ∈ l, j < all.size)
    (hD : ∀ n, D n → n < base) (hS : Sim D st.h β I w) {a : Act} (hF : SimF D st.h β I w N st.fr a) {ds : List Deferred} (hd : a.defers = ds) (b : Frame) (K : List Item) (cs : List Frame) :
    ∃ a' w' D' β' I', RanTo D st.h β I w base (.nor st') D' β' I' w' ∧ SimF D' st'.h β' I' w' N st'.fr a' ∧ a'.defers = ds ∧ Steps P (lone (b.atR a (.inRegion all (l ++ rest) :: K)) cs w) (lone (b.atR a' (.inRegion all rest :: K)) cs w') := by
  have h1 := tr_sound (ds := ds) ht hb D β I a w (fun e a' w' => e = .normal ∧ Ran D st.h β I w N ds base (.nor st') .normal a' w') (fun n hn => by have := hD n hn; omega) hnp (fun j hj => ⟨hl j hj, fun hDj => by have := hD _ hDj; omega⟩) hS hF hd
    (fun e a' w' hr => by
      have e1 : e = .normal := by
        obtain ⟨_, _, _, _, e1, _⟩ := hr
        exact e1
      subst e1
      exact ⟨rfl, hr⟩)
  obtain ⟨a', w', ⟨D', β', I', r1, _, f1, d1⟩, s1⟩ := wp_opsR hnd rest l a w h1 b K cs
  exact ⟨a', w', D', β', I', r1, f1, d1, s1⟩

/-- The loop's record, the block of the deferred calls, and the frame that was kept. -/
def LoopJ (l : Nat) (r : Loop) (N0 : Nat) (fr0 : Fr) (a0 : Act) : Beside := fun D h β I w => Aside h β I w l (.loop r) ∧ Aside h β I w r.defers (.deferred (some [])) ∧ SimF D h β I w N0 fr0 a0
theorem loopJ_stable {l : Nat} {r : Loop} {N0 : Nat} {fr0 : Fr} {a0 : Act} : Stable (LoopJ l r N0 fr0 a0) := fun hD hj hx => ⟨hj.1.ext hx, hj.2.1.ext hx, hj.2.2.mono hD hx.pres⟩

theorem yield_real {o : Oper} {a : Act} {x y0 y1 : Operand} {ats : Array TypeId} {l : Nat} {r : Loop} {p0 p1 : Tmp} (hop : o.op = .call ⟨.value x, #[y0, y1], ats⟩) (hx : a.eval x = .func (.yield l) #[] #[])
    (hl : w.heap[l]? = some (.loop r)) (hp : r.params = #[p0, p1]) :
    (execOp a.eval o).run P w = .ok (.round l r.fn ((r.tmps.setIfInBounds p0 (a.eval y0)).setIfInBounds p1 (a.eval y1)) r.assign r.body) w := by
  obtain ⟨dst, op, ty, pos, after, guard⟩ := o
  simp only at hop
  subst hop
  have h1 := run_yield (P := P) (args := #[a.eval y0, a.eval y1]) hl (by rw [hp]; rfl)
  rw [hp] at h1
  simp only [execOp, resolve, Deferred.ofValue, hx, Sem.run_bind, Sem.run_pure, Result.andThen_ok, invoke]
  have e1 : (#[] ++ Array.map a.eval #[y0, y1] : Array Value) = #[a.eval y0, a.eval y1] := by simp
  rw [e1]
  refine h1.trans ?_
  have e2 : Array.foldl (fun (tmps : Array Value) (x : Nat × Value) => match x with | (t, a) => tmps.setIfInBounds t a) r.tmps (#[p0, p1].zip #[a.eval y0, a.eval y1]) = (r.tmps.setIfInBounds p0 (a.eval y0)).setIfInBounds p1 (a.eval y1) := by simp
  exact congrArg (fun t => Result.ok (Next.round l r.fn t r.assign r.body) w) e2

def yv (l : Nat) : CV := .lit (.func (.yield l) #[] #[])

/-- A region in which yield is called. -/
theorem Goes.yield (hmix : P.follows .mixedOrders = true) {l : Nat} {r : Loop} {N0 : Nat} {fr0 : Fr} {a0 : Act} {p0 p1 : Tmp} {id : Nat} {ops : Array Oper} (hnd : noDef ops = true) {pre suf : List Nat} {iy : Nat} (hsplit : List.range ops.size = pre ++ iy :: suf)
    {o : Oper} (ho : ops[iy]? = some o) (hg : o.guard = none) {x y0 y1 : Operand} {ats : Array TypeId} (hop : o.op = .call ⟨.value x, #[y0, y1], ats⟩) {d : Tmp} (hd : o.dst = some d) (hdN : d < N)
    {K : List Item} {st st1 st3 : St} {nx2 : Nat} {h2 : Heap}
    (hpre : Tr P N none ops st.nx pre ⟨st.fr, st.nx + ops.size, st.h⟩ (.nor st1)) (hx : ev st1.fr x = yv l) (hst : r.state = .ready) (hpe : r.pending = none) (hps : r.params = #[p0, p1]) (hp0 : p0 < N0) (hp1 : p1 < N0) (ht : r.tmps = a0.tmps)
    (hround : RoundOk P N0 p0 p1 r.assign r.body fr0 (ev st1.fr y0) (ev st1.fr y1) st1.nx st1.h nx2 h2)
    (hsuf : Tr P N none ops nx2 suf ⟨fset st1.fr d (.lit (.bool true)), nx2 + ops.size, h2⟩ (.nor st3)) :
    Goes P N (LoopJ l r N0 fr0 a0) (.code (.region id ops false) :: K) st K st3 := by
  have hnd2 : (pre ++ iy :: suf).Nodup := hsplit ▸ List.nodup_range
  have hin : ∀ j ∈ pre ++ iy :: suf, j < ops.size := fun j hj => by
    rw [← hsplit] at hj
    simpa using hj
  have x1 := hpre.nx_le
  have x3 := hsuf.nx_le
  simp only [Fin.nx] at x1 x3
  have x2 : st1.nx ≤ nx2 := by
    obtain ⟨K1, sa, fr2, wa, wb⟩ := hround
    obtain ⟨F1, rfl, y1, _⟩ := wp_soundR hmix wa
    obtain ⟨F2, rfl, y2, _⟩ := wp_soundR hmix wb
    simp only [Fin.nx] at y1 y2
    omega
  refine ⟨by omega, fun D β I w a ds hD hS hF hd0 hj b cs hb => ?_⟩
  rw [List.nodup_append] at hnd2
  obtain ⟨n1, n2, n3⟩ := hnd2
  rw [List.nodup_cons] at n2
  obtain ⟨a1, w1, D1, β1, I1, r1, f1, d1, s1⟩ := opsGo (rest := iy :: suf) hnd hpre (Nat.le_refl _) n1 (fun j hj => hin j (by simp [hj])) hD hS hF hd0 b K cs
  have hD1 : ∀ n, D1 n → n < st1.nx := ranTo_lt r1 (by simp only [Fin.nx]; omega) hD
  obtain ⟨ha, hda, hf0⟩ := loopJ_stable r1.mono hj r1.ext
  simp only [Fin.h] at ha hda hf0
  have hxr : a1.eval x = .func (.yield l) #[] #[] := by
    have := f1.ev x
    rw [hx] at this
    exact simv_lit this
  have hyr := yield_real (P := P) hop hxr ha.here hps
  have hw : Region.wanted o (yielded ops a1.tmps) = true := gval_real f1 (by unfold gval; rw [hg])
  have hgr := stepGR_op (P := P) (b := b) (k := K) (cs := cs) (w := w1) (rest := suf) (a := a1) ho hw
  rw [Oper.semAt_eq _ _ _ (noDef_spec hnd ho)] at hgr
  have hyield : step P (lone (b.atR a1 (.inRegion ops (iy :: suf) :: K)) cs w1) = .next (lone (Frame.round l r.fn ((r.tmps.setIfInBounds p0 (a1.eval y0)).setIfInBounds p1 (a1.eval y1)) r.assign r.body .normal) (b.atR a1 (.inRegion ops (iy :: suf) :: K) :: cs) w1) :=
    step_lone_go (by rw [hgr]; simp [stepG.apply, hyr])
  obtain ⟨_, D2, β2, I2, w2, r2, s2⟩ := round_steps hmix hround hp0 hp1 hD1 r1.sim ha hst hpe ht hf0 (f1.ev y0) (f1.ev y1) r.fn (b.atR a1 (.inRegion ops (iy :: suf) :: K)) cs
  have hfin : (b.atR a1 (.inRegion ops (iy :: suf) :: K)).finish (.bool true) = b.atR (a1.put o.dst (.bool true)) (.inRegion ops suf :: K) := by rw [Frame.finish_atR, ho]; rfl
  rw [hfin, hd] at s2
  have hD2 := ranTo_lt r2 (by simp only [Fin.nx]; exact x2) hD1
  simp only [Fin.nx] at hD2
  have f2 : SimF D2 h2 β2 I2 w2 N (fset st1.fr d (.lit (.bool true))) (a1.put (some d) (.bool true)) := (f1.mono r2.mono r2.ext.pres).put hdN (.lit _)
  obtain ⟨a3, w3, D3, β3, I3, r3, f3, d3, s3⟩ := opsGo (rest := []) hnd hsuf (Nat.le_refl _) n2.2 (fun j hj => hin j (by simp [hj])) hD2 r2.sim f2 ((put_defers ..).trans d1) b K cs
  rw [List.append_nil] at s3
  refine ⟨a3, w3, D3, β3, I3, ?_, f3, d3, ?_⟩
  · have q1 := ranTo_trans r1 r2 (by simp only [Fin.nx]; omega) (by simp only [Fin.nx]; exact x2)
    exact ranTo_trans (F2 := .at K st3) q1 ⟨r3.mono, r3.new, r3.sim, r3.ext⟩ (by simp only [Fin.nx]; omega) (by simp only [Fin.nx]; omega)
  · rw [hsplit.symm] at s1
    exact (Steps.one stepR_region).trans (s1.trans ((Steps.one hyield).trans (s2.trans (s3.trans (.one (stepR_region_end (ops := ops)))))))

/-! ### The function that goes over places -/
def cint (n : Int) : CV := .lit (.int .i64 n)

/-- What is known of the function that goes over places: its way, by pieces. -/
structure AllC (P : Program) (fA fI : FuncId) (tN tS : TypeId) where
  fn : Func
  body : Code
  KH : List Item
  K3 : List Item
  id : Nat
  ops : Array Oper
  pre : List Nat
  suf : List Nat
  iy : Nat
  o : Oper
  x : Operand
  y0 : Operand
  y1 : Operand
  ats : Array TypeId
  d : Tmp
  frH : Nat → Int → Int → CV → Fr
  fr1 : Nat → Int → Int → CV → Fr
  fr2 : Nat → Int → Int → CV → CV → CV → Fr
  fr3 : Nat → Int → Int → CV → CV → CV → Fr
  a0 : Nat
  a1 : Nat
  a2 : Nat
  aE : Nat
  hf : P.funcs[fA]? = some fn
  hb : fn.body = some body
  hres : fn.results = #[]
  hcf : ∀ (vs : Array Value) (w : World), (callFunc fA vs).run P w = .ok (.enter fA vs) w
  hN : 3 ≤ fn.ntmps
  hnd : noDef ops = true
  hsplit : List.range ops.size = pre ++ iy :: suf
  ho : ops[iy]? = some o
  hg : o.guard = none
  hop : o.op = .call ⟨.value x, #[y0, y1], ats⟩
  hd : o.dst = some d
  hdN : d < fn.ntmps
  h0 : a0 ≤ 16
  h1 : a1 + ops.size ≤ 32
  h2 : a2 + ops.size ≤ 32
  hE : aE ≤ 16
  seg0 : ∀ (l : Nat) (n : Int) (an ao : CV) (nx : Nat) (h : Heap), loadEval P h tN an = some (cint n) → Wp P fn.ntmps (fun F => F = .at KH ⟨frH l n 0 ao, nx + a0, h⟩) (.run [.code body] ⟨entryFr [yv l, an, ao], nx, h⟩)
  segE : ∀ (l : Nat) (n i : Int) (ao : CV) (nx : Nat) (h : Heap), ¬ i < n → ∃ fr, Wp P fn.ntmps (fun F => F = .nor ⟨fr, nx + aE, h⟩) (.run KH ⟨frH l n i ao, nx, h⟩)
  seg1 : ∀ (l : Nat) (n i : Int) (ao : CV) (nx : Nat) (h : Heap), i < n → Wp P fn.ntmps (fun F => F = .at (.code (.region id ops false) :: K3) ⟨fr1 l n i ao, nx + a1, h⟩) (.run KH ⟨frH l n i ao, nx, h⟩)
  segP : ∀ (l : Nat) (n i : Int) (ao own ix : CV) (nx nx1 : Nat) (h h1 : Heap), loadEval P h tS ao = some own → Good P fI [own, cint i] (nx + ops.size) h (.ret ix) nx1 h1 → Tr P fn.ntmps none ops nx pre ⟨fr1 l n i ao, nx + ops.size, h⟩ (.nor ⟨fr2 l n i ao own ix, nx1, h1⟩)
  ex : ∀ (l : Nat) (n i : Int) (ao own ix : CV), ev (fr2 l n i ao own ix) x = yv l
  ey0 : ∀ (l : Nat) (n i : Int) (ao own ix : CV), ev (fr2 l n i ao own ix) y0 = cint i
  ey1 : ∀ (l : Nat) (n i : Int) (ao own ix : CV), ev (fr2 l n i ao own ix) y1 = ix
  segS : ∀ (l : Nat) (n i : Int) (ao own ix : CV) (nx : Nat) (h : Heap), Tr P fn.ntmps none ops nx suf ⟨fset (fr2 l n i ao own ix) d (.lit (.bool true)), nx + ops.size, h⟩ (.nor ⟨fr3 l n i ao own ix, nx + ops.size, h⟩)
  seg2 : ∀ (l : Nat) (n i : Int) (ao own ix : CV) (nx : Nat) (h : Heap), 0 ≤ i → i < 9223372036854775807 → Wp P fn.ntmps (fun F => F = .at KH ⟨frH l n (i + 1) ao, nx + a2, h⟩) (.run K3 ⟨fr3 l n i ao own ix, nx, h⟩)

/-- The rounds, canonically. -/
inductive Rounds (P : Program) (fI : FuncId) (tS : TypeId) (N0 : Nat) (p0 p1 : Tmp) (assign body : Code) (fr0 : Fr) (ao : CV) (n : Int) : Int → Nat → Heap → Nat → Heap → Prop
  | done {i : Int} {nx : Nat} {h : Heap} (hi : ¬ i < n) : Rounds P fI tS N0 p0 p1 assign body fr0 ao n i nx h nx h
  | one {i : Int} {nx nx1 nx2 nx3 : Nat} {h h1 h2 h3 : Heap} {own ix : CV} (hi : i < n) (hl : loadEval P h tS ao = some own) (hG : Good P fI [own, cint i] (nx + 32) h (.ret ix) nx1 h1)
      (hr : RoundOk P N0 p0 p1 assign body fr0 (cint i) ix nx1 h1 nx2 h2) (hrest : Rounds P fI tS N0 p0 p1 assign body fr0 ao n (i + 1) (nx2 + 32) h2 nx3 h3) : Rounds P fI tS N0 p0 p1 assign body fr0 ao n i nx h nx3 h3

theorem rounds_go (hmix : P.follows .mixedOrders = true) {fA fI : FuncId} {tN tS : TypeId} (A : AllC P fA fI tN tS) {l : Nat} {r : Loop} {N0 : Nat} {fr0 : Fr} {a0 : Act} {p0 p1 : Tmp} (hst : r.state = .ready) (hpe : r.pending = none) (hps : r.params = #[p0, p1]) (hp0 : p0 < N0) (hp1 : p1 < N0) (ht : r.tmps = a0.tmps)
    {ao : CV} {n : Int} (hn : n ≤ 9223372036854775807) {i : Int} {nx nx' : Nat} {h h' : Heap} (hr : Rounds P fI tS N0 p0 p1 r.assign r.body fr0 ao n i nx h nx' h') : 0 ≤ i →
    ∃ i', ¬ i' < n ∧ Goes P A.fn.ntmps (LoopJ l r N0 fr0 a0) A.KH ⟨A.frH l n i ao, nx, h⟩ A.KH ⟨A.frH l n i' ao, nx', h'⟩ := by
  induction hr with
  | @done i nx h hi => exact fun _ => ⟨i, hi, .refl⟩
  | @one i nx nx1 nx2 nx3 h h1 h2 h3 own ix hi hl hG hrd _ ih =>
    intro hi0
    obtain ⟨i', q1, q2⟩ := ih (by omega)
    refine ⟨i', q1, ?_⟩
    have b1 := A.h1
    have b2 := A.h2
    refine Goes.up (nx1 := nx + 32 - A.ops.size - A.a1) (by omega) ?_
    refine Goes.trans loopJ_stable (.of_wp hmix (A.seg1 l n i ao _ h hi)) ?_
    have hnx : nx + 32 - A.ops.size - A.a1 + A.a1 + A.ops.size = nx + 32 := by omega
    refine Goes.trans loopJ_stable (st1 := ⟨A.fr3 l n i ao own ix, nx2 + A.ops.size, h2⟩) (Goes.yield hmix A.hnd A.hsplit A.ho A.hg A.hop A.hd A.hdN (st1 := ⟨A.fr2 l n i ao own ix, nx1, h1⟩) (nx2 := nx2) (h2 := h2)
      (A.segP l n i ao own ix _ nx1 h h1 hl (by rw [hnx]; exact hG)) (A.ex ..) hst hpe hps hp0 hp1 ht (by simp only [A.ey0, A.ey1]; exact hrd) (A.segS ..)) ?_
    refine Goes.up (nx1 := nx2 + 32 - A.a2) (by omega) ?_
    refine Goes.trans loopJ_stable (.of_wp hmix (A.seg2 l n i ao own ix _ h2 hi0 (by omega))) ?_
    rw [show nx2 + 32 - A.a2 + A.a2 = nx2 + 32 from by omega]
    exact q2

/-- THE STATEMENT: a range over the function that goes over places. -/
theorem goodK_range (hmix : P.follows .mixedOrders = true) {fA fI : FuncId} {tN tS : TypeId} (A : AllC P fA fI tN tS) {f : FuncId} {fn : Func} (hf : P.funcs[f]? = some fn) {g : Operand} {p0 p1 : Tmp} {assign body : Code} {K : List Item} {st : St} {an ao : CV} {n : Int}
    (hg : ev st.fr g = .fn (.func fA) [] [an, ao]) (hl : loadEval P st.h tN an = some (cint n)) (hn : n ≤ 9223372036854775807) (hp0 : p0 < fn.ntmps) (hp1 : p1 < fn.ntmps) {nx2 : Nat} {h2 : Heap}
    (hr : Rounds P fI tS fn.ntmps p0 p1 assign body st.fr ao n 0 (st.nx + 16) st.h nx2 h2) {F : Fin} {o : Out} (hw : Wp P fn.ntmps (fun F' => F' = F) (.run K ⟨st.fr, nx2 + 16, h2⟩)) (ho : OutOf P fn F o) :
    GoodK P f fn (.code (.rangeFunc g #[p0, p1] assign body) :: K) st o F.nx F.h := by
  obtain ⟨F', rfl, xF, sF⟩ := wp_soundR hmix hw
  simp only at xF
  have e0 := A.h0
  have eE := A.hE
  -- the way of the function that is ranged over
  have hway : ∀ (l : Nat) (r : Loop) (a0 : Act), r.state = .ready → r.pending = none → r.params = #[p0, p1] → r.assign = assign → r.body = body → r.tmps = a0.tmps →
      ∃ i', ¬ i' < n ∧ Goes P A.fn.ntmps (LoopJ l r fn.ntmps st.fr a0) [.code A.body] ⟨entryFr [yv l, an, ao], st.nx, st.h⟩ A.KH ⟨A.frH l n i' ao, nx2, h2⟩ := fun l r a0 h1 h2 h3 h4 h5 h6 => by
    subst h4 h5
    obtain ⟨i', q1, q2⟩ := rounds_go hmix A (l := l) (a0 := a0) h1 h2 h3 hp0 hp1 h6 hn hr (by omega)
    refine ⟨i', q1, Goes.up (nx1 := st.nx + 16 - A.a0) (by omega) (Goes.trans loopJ_stable (.of_wp hmix (A.seg0 l n an ao _ st.h hl)) ?_)⟩
    rw [show st.nx + 16 - A.a0 + A.a0 = st.nx + 16 from by omega]
    exact q2
  have hx12 : st.nx ≤ nx2 := by
    obtain ⟨_, _, q⟩ := hway 0 { state := .ready, pending := none, fn := f, tmps := #[], params := #[p0, p1], assign, body, defers := 0 } { tmps := #[], defers := [] } rfl rfl rfl rfl rfl rfl
    exact q.1
  refine ⟨by omega, fun D β I w a hD hS hF hd b0 cs hb hk => ?_⟩
  let b : Frame := { b0 with roundOf := none }
  have hat : ∀ (a : Act) (K : List Item), b0.at a K = b.atR a K := fun a K => by simp [Frame.atR, Frame.at, b]
  rw [hat]
  let mark : Deferred := { target := .collected w.heap.size, args := #[] }
  let rc : Loop := { state := .ready, pending := none, fn := b.fn, tmps := a.tmps, params := #[p0, p1], assign, body, defers := w.heap.size }
  obtain ⟨sA, xA, asA⟩ := sim_aside hS (.deferred (some []))
  obtain ⟨sB, xB, asB⟩ := sim_aside sA (.loop rc)
  have asA2 := asA.ext xB
  have hsz : (w.alloc (.deferred (some []))).heap.size = w.heap.size + 1 := World.size_alloc ..
  rw [hsz] at asB
  have xAB : Ext D st.h β I w st.h β I ((w.alloc (.deferred (some []))).alloc (.loop rc)) := xA.trans (fun _ h => h) xB
  have hfB : SimF D st.h β I ((w.alloc (.deferred (some []))).alloc (.loop rc)) fn.ntmps st.fr a := hF.mono (fun _ h => h) xAB.pres
  -- the call
  have hgv := hF.ev g
  rw [hg] at hgv
  obtain ⟨us, vs, hgr, hus, hvs, hvv⟩ : ∃ us vs : Array Value, a.eval g = .func (.func fA) us vs ∧ us.size = 0 ∧ vs.size = 2 ∧ ∀ i c, [an, ao][i]? = some c → SimV D st.h β I w c (vs.getD i undef) := by
    generalize a.eval g = u at hgv
    cases hgv with
    | fn hl _ hm hy => exact ⟨_, _, rfl, by simpa using hl.symm, by simpa using hm.symm, hy⟩
  have hus0 : us = #[] := by
    apply Array.ext'
    exact List.length_eq_zero_iff.1 (by simpa using hus)
  subst hus0
  have hstep : step P (lone (b.atR a (.code (.rangeFunc g #[p0, p1] assign body) :: K)) cs w) = .next (lone (Frame.enter P fA (#[Value.func (.yield (w.heap.size + 1)) #[] #[]] ++ vs) .normal) (b.atR { a with defers := [mark] ++ a.defers } (.inRangeFunc (w.heap.size + 1) :: K) :: cs) ((w.alloc (.deferred (some []))).alloc (.loop rc))) := by
    refine stepR_rangeFunc (d := { target := .fn (.func fA) vs, args := #[Value.func (.yield (w.heap.size + 1)) #[] #[]] }) (w₁' := (w.alloc (.deferred (some []))).alloc (.loop rc)) (run_enterLoop_outer _ _ _ _ _) ?_ ?_
    · simp only [resolve, hgr]
      simp [go_sem]
      rfl
    · simp [invoke, go_sem, A.hcf]
  let bA : Frame := { (default : Frame) with fn := fA, kind := .normal }
  let aA : Act := { tmps := (#[Value.func (.yield (w.heap.size + 1)) #[] #[]] ++ vs) ++ Array.replicate (A.fn.ntmps - (#[Value.func (.yield (w.heap.size + 1)) #[] #[]] ++ vs).size) undef, defers := [] }
  have henter : Frame.enter P fA (#[Value.func (.yield (w.heap.size + 1)) #[] #[]] ++ vs) .normal = bA.atR aA [.code A.body] := by
    simp [Frame.enter, Frame.atR, A.hf, A.hb, bA, aA]
    rfl
  have hFA : SimF D st.h β I ((w.alloc (.deferred (some []))).alloc (.loop rc)) A.fn.ntmps (entryFr [yv (w.heap.size + 1), an, ao]) aA := by
    refine entry_simF (by simpa using A.hN) (by simp [hvs]) fun i c hi => ?_
    cases i with
    | zero =>
      simp only [List.getElem?_cons_zero, Option.some.injEq] at hi
      subst hi
      have : (#[Value.func (.yield (w.heap.size + 1)) #[] #[]] ++ vs : Array Value).getD 0 undef = .func (.yield (w.heap.size + 1)) #[] #[] := by
        rw [Array.getD_eq_getD_getElem?, Array.getElem?_append_left (by simp)]
        rfl
      rw [this]
      exact .lit _
    | succ i =>
      simp only [List.getElem?_cons_succ] at hi
      have : (#[Value.func (.yield (w.heap.size + 1)) #[] #[]] ++ vs : Array Value).getD (i + 1) undef = vs.getD i undef := by
        simp [Array.getD_eq_getD_getElem?, Array.getElem?_append]
      rw [this]
      exact (hvv i c hi).mono (fun _ h => h) xAB.pres
  obtain ⟨i', q1, q2⟩ := hway (w.heap.size + 1) rc a rfl rfl rfl rfl rfl rfl
  obtain ⟨a1, w2, D1, β1, I1, r1, f1, d1, s1⟩ := q2.2 D β I _ aA [] hD sB hFA rfl ⟨asB, asA2, hfB⟩ bA (b.atR { a with defers := [mark] ++ a.defers } (.inRangeFunc (w.heap.size + 1) :: K) :: cs) rfl
  have j1 : LoopJ (w.heap.size + 1) rc fn.ntmps st.fr a D1 h2 β1 I1 w2 := loopJ_stable r1.mono ⟨asB, asA2, hfB⟩ r1.ext
  have hD1 := ranTo_lt r1 q2.1 hD
  simp only [Fin.nx] at hD1
  obtain ⟨frE, wE⟩ := A.segE (w.heap.size + 1) n i' ao nx2 h2 q1
  obtain ⟨FE, rfl, xE, sE⟩ := wp_soundR hmix wE
  obtain ⟨eE2, a2, w3, todo, ⟨D3, β3, I3, r3, rfl, f3, d3⟩, s3⟩ := sE D1 β1 I1 w2 a1 [] hD1 r1.sim f1 d1 bA (b.atR { a with defers := [mark] ++ a.defers } (.inRangeFunc (w.heap.size + 1) :: K) :: cs) rfl
  have j3 := loopJ_stable r3.mono j1 r3.ext
  have hD3 := ranTo_lt r3 xE hD1
  simp only [Fin.nx, Fin.h] at hD3 j3
  have hleave : ({ bA.atR a2 todo with mode := .returning } : Frame).leaving P w3 (.returned (.tuple #[])) := by
    refine ⟨rfl, d3, rfl, A.fn, A.hf, ?_⟩
    rw [results_eq, A.hres]
    simp
  have sl := step_leave_returned (c := b.atR { a with defers := [mark] ++ a.defers } (.inRangeFunc (w.heap.size + 1) :: K)) (cs := cs) hleave
  rw [finish_atR_inRangeFunc] at sl
  have send : step P (lone (b.atR { a with defers := [mark] ++ a.defers } (.endRangeFunc (w.heap.size + 1) :: K)) cs w3) = .next (lone (b.atR { a with defers := [mark] ++ a.defers } K) cs (w3.putObj (w.heap.size + 1) (.loop { rc with state := .exhausted }))) :=
    stepR_endRangeFunc (jump := none) (run_endLoop j3.1.here (by simp [rc]))
  have hx3 : Ext D st.h β I w h2 β3 I3 (w3.putObj (w.heap.size + 1) (.loop { rc with state := .exhausted })) :=
    (xAB.trans (fun _ h => h) (r1.ext.trans r1.mono r3.ext)).late (by omega) j3.1.free j3.1.noI _
  have hS4 : Sim D3 h2 β3 I3 (w3.putObj (w.heap.size + 1) (.loop { rc with state := .exhausted })) := r3.sim.put j3.1.free j3.1.noI _
  have hF4 : SimF D3 h2 β3 I3 (w3.putObj (w.heap.size + 1) (.loop { rc with state := .exhausted })) fn.ntmps st.fr { a with defers := [mark] ++ a.defers } := by
    have := j3.2.2.mono (fun _ h => h) (pres_put j3.1.free j3.1.noI (.loop { rc with state := .exhausted }))
    exact ⟨this.1, this.2⟩
  have as4 : Aside h2 β3 I3 (w3.putObj (w.heap.size + 1) (.loop { rc with state := .exhausted })) w.heap.size (.deferred (some [])) := ⟨(World.putObj_heap_other (by omega)).trans j3.2.1.here, j3.2.1.free, j3.2.1.noI⟩
  have eE3 := A.hE
  have hland : Lands b F' := by cases ho <;> rfl
  obtain ⟨e5, a5, w5, todo5, ⟨D5, β5, I5, r5, l5⟩, s5⟩ := sF D3 β3 I3 _ { a with defers := [mark] ++ a.defers } [mark] (fun n hn => by have := hD3 n hn; simp only; omega) hS4 hF4 (by simp [hd]) b cs hland
  have as5 := as4.ext r5.ext
  have hx5 : Ext D st.h β I w F'.h β5 I5 (w5.putObj w.heap.size (.deferred none)) := (hx3.trans (fun n hn => r3.mono n (r1.mono n hn)) r5.ext).late (Nat.le_refl _) as5.free as5.noI _
  have hS6 : Sim D5 F'.h β5 I5 (w5.putObj w.heap.size (.deferred none)) := r5.sim.put as5.free as5.noI _
  have hp6 : Pres D5 F'.h β5 I5 w5 F'.h β5 I5 (w5.putObj w.heap.size (.deferred none)) := pres_put as5.free as5.noI _
  have hDD : ∀ n, D5 n → Dx D st.nx F'.nx n := fun n hn => by
    rcases r5.new n hn with h1 | h1
    · rcases r3.new n h1 with h2 | h2
      · rcases r1.new n h2 with h3 | h3
        · exact .inl h3
        · right; simp only [Fin.nx] at h3; omega
      · right; simp only [Fin.nx] at h2; omega
    · right; simp only at h1; omega
  have hsteps : Steps P (lone (b.atR a (.code (.rangeFunc g #[p0, p1] assign body) :: K)) cs w) (lone (stopAtR b a5 todo5 e5 F') cs w5) := by
    refine Steps.head hstep ?_
    rw [henter]
    exact s1.trans (s3.trans ((Steps.one sl).trans ((Steps.one send).trans s5)))
  have htake := run_takeDeferred (P := P) as5.here
  cases ho with
  | @ret st' r hr =>
    obtain ⟨rfl, p6, p7⟩ := l5
    obtain ⟨v, hv1, hv2⟩ := results_of hS6 (p6.mono (fun _ h => h) hp6) hr
    have sc := step_collected (fr := { b.atR a5 todo5 with mode := .returning }) (cs := cs) (by simp) p7 rfl htake
    exact ⟨.returned v, _, { ({ b.atR a5 todo5 with mode := .returning } : Frame) with defers := [] ++ [] }, ⟨β5, I5, hS6.more hDD, ⟨v, rfl, hv2.mono hDD (Pres.refl ..)⟩, hx5⟩, hsteps.trans (.one sc), hb, rfl, rfl, hk, fn, by simpa [Frame.atR, b, hb] using hf, hv1⟩
  | pan =>
    obtain ⟨p6, v, rfl, p7⟩ := l5
    have sc := step_collected (fr := { b.atR a5 todo5 with mode := .panicking [{ v, recovered := false }] }) (cs := cs) (by simp) p6 rfl htake
    exact ⟨.panicked [{ v, recovered := false }], _, { ({ b.atR a5 todo5 with mode := .panicking [{ v, recovered := false }] } : Frame) with defers := [] ++ [] }, ⟨β5, I5, hS6.more hDD, ⟨v, rfl, p7.mono hDD hp6⟩, hx5⟩, hsteps.trans (.one sc), hb, rfl, rfl, fn, by simpa [Frame.atR, b, hb] using hf⟩
end
end Go.Cv
