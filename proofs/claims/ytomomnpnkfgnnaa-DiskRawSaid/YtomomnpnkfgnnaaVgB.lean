/- The walk's judgements: known slots, assertions on the heap; the rules for the forms of code, for calls and for loops. -/
import Derived.Test.YtomomnpnkfgnnaaVgA
import Derived.Orders
import Derived.RangeFuncLeaves
import Derived.RangeFuncCalls
import Derived.TacticsIn
namespace Go.VG

/-- What is known of the slots: the first entry of a number counts. -/
abbrev Slots := List (Nat × Value)
def look : Slots → Nat → Option Value
  | [], _ => none
  | (i, v) :: r, k => cond (Nat.beq i k) (some v) (look r k)
def ev (s : Slots) : Operand → Option Value
  | .tmp t => look s t
  | .const v => some v
  | .global g => some (.pointer (some ⟨g, 0, none⟩))
  | .func f => some (.func (.func f) #[] #[])
def evs (s : Slots) : List Operand → Option (List Value)
  | [] => some []
  | x :: r => match ev s x, evs s r with
    | some v, some vs => some (v :: vs)
    | _, _ => none

theorem nbeq {d i : Nat} (h : ¬ d = i) : Nat.beq d i = false := by
  cases hb : Nat.beq d i
  · rfl
  · exact absurd (Nat.eq_of_beq_eq_true hb) h

/-- What a frame is: how many slots it has, whether it is a round's (of which loop), what it has deferred. -/
structure Env where
  n : Nat
  r : Option Nat
  ds : List Deferred
/-- Everything is let in; frames are plain ones, or rounds of this loop. -/
abbrev fw (r : Option Nat) : Fence := { Fence.wide with round := r }
structure Fits (n : Env) (s : Slots) (a : Act) : Prop where
  size : a.tmps.size = n.n
  defers : a.defers = n.ds
  slot : ∀ i v, look s i = some v → a.tmps[i]? = some v

theorem Fits.eval {n : Env} {s : Slots} {a : Act} (h : Fits n s a) {x : Operand} {v : Value} (he : ev s x = some v) : a.eval x = v := by
  cases x with
  | tmp t =>
    have := h.slot t v he
    simp [Act.eval, Array.getD_eq_getD_getElem?, this]
  | const u => simpa [ev, Act.eval] using he
  | global g => simpa [ev, Act.eval] using he
  | func f => simpa [ev, Act.eval] using he
theorem Fits.evals {n : Env} {s : Slots} {a : Act} (h : Fits n s a) : ∀ {xs : List Operand} {vs : List Value}, evs s xs = some vs → xs.map a.eval = vs
  | [], vs, he => by simp [evs] at he; simp [he]
  | x :: r, vs, he => by
    simp only [evs] at he
    split at he
    · rename_i v vs' h1 h2
      simp at he; subst he
      simp [h.eval h1, Fits.evals h h2]
    · simp at he
theorem Fits.put {n : Env} {s : Slots} {a : Act} (h : Fits n s a) {d : Nat} (hd : Nat.blt d n.n = true) (v : Value) : Fits n ((d, v) :: s) (a.put (some d) v) := by
  have hd' : d < n.n := by simpa using hd
  refine ⟨by simp [Act.put, h.size], h.defers, fun i u hl => ?_⟩
  simp only [look] at hl
  by_cases hi : d = i
  · subst hi
    simp at hl; subst hl
    simp [Act.put, h.size, hd']
  · have : Nat.beq d i = false := nbeq hi
    rw [this] at hl
    simp only [Act.put]
    rw [Array.getElem?_setIfInBounds_ne hi]
    exact h.slot i u hl
theorem Fits.put_none {n : Env} {s : Slots} {a : Act} (h : Fits n s a) (v : Value) : Fits n s (a.put none v) := h
/-- Fewer known slots, or the same in another form. -/
theorem Fits.sub {n : Env} {s s' : Slots} {a : Act} (h : Fits n s a) (hs : ∀ i v, look s' i = some v → look s i = some v) : Fits n s' a :=
  ⟨h.size, h.defers, fun i v hl => h.slot i v (hs i v hl)⟩

/-- Every entry of s' is known in s. -/
def known (s : Slots) : Slots → Prop
  | [] => True
  | (i, v) :: r => look s i = some v ∧ known s r
theorem known.sub {s : Slots} : ∀ {s' : Slots}, known s s' → ∀ i v, look s' i = some v → look s i = some v
  | [], _, _, _, h => by simp [look] at h
  | (j, u) :: r, hk, i, v, h => by
    simp only [look] at h
    by_cases hji : j = i
    · subst hji; simp at h; subst h; exact hk.1
    · have : Nat.beq j i = false := nbeq hji
      rw [this] at h
      exact known.sub hk.2 i v h

/-- An operation that is no defer, carried out. -/
def _root_.Go.Oper.wpN (P : Program) (o : Oper) (a : Act) (w : World) (next : Act → World → Prop) (Q : Exit → Act → World → Prop) : Prop :=
  o.wp P a w next Q ∧ ∀ c, o.op ≠ .defer c
theorem notDefer_of {P : Program} {ρ : Operand → Value} {o : Oper} {w w' : World} {x : Next} (h : (execOp ρ o).run P w = .ok x w') (hx : ∀ d, x ≠ .defer d) : ∀ c, o.op ≠ .defer c := by
  intro c hc
  obtain ⟨dst, op, ty, pos, after, g⟩ := o
  simp only at hc; subst hc
  simp only [execOp, Sem.run_bind] at h
  cases hr : (resolve ρ c ty).run P w with
  | ok d w1 => rw [hr] at h; simp [Result.andThen] at h; exact hx _ h.1.symm
  | halt x w1 => rw [hr] at h; simp [Result.andThen] at h
/-- In a frame of whatever make. -/
theorem wpIn_ofN {P : Program} {r : Option Nat} {o : Oper} {a : Act} {w : World} {next : Act → World → Prop} {Q : Exit → Act → World → Prop} (h : o.wpN P a w next Q) : o.wpIn (fw r) 0 P a w next Q := by
  refine ⟨fun _ _ => trivial, ?_⟩
  have h1 := h.1
  rw [Oper.semAt_eq _ _ _ h.2]
  unfold Oper.wp at h1
  generalize (execOp a.eval o).run P w = R at h1 ⊢
  unfold Oper.upon at h1
  unfold Oper.uponIn
  split at h1
  · exact h1
  · exact h1
  · exact h1
  · exact ⟨fun hd => (by cases hd), (callsIn_wide (n := 0 - 1)).2 h1⟩
  · refine ⟨fun hd => (by cases hd), fun c cs _ => ?_⟩
    obtain ⟨v, w', hR, hs⟩ := h1 c cs
    exact ⟨v, w', hR, stepsIn_wide.2 hs⟩
  · exact h1
  · exact h1.elim

section
variable (P : Program) (n : Env) (W : World)

/-- Whatever frame and world fit: the rest of the code does what Q says. -/
def CJ (Q : Exit → Act → World → Prop) (c : Code) (s : Slots) (H : List HP) : Prop := ∀ a w, Fits n s a → St W w H → c.wpIn (fw n.r) 0 P Q a w
def RJ (ops : Array Oper) (Q : Exit → Act → World → Prop) (l : List Oper) (s : Slots) (H : List HP) : Prop := ∀ a w, Fits n s a → St W w H → wpListIn (fw n.r) 0 P ops Q l a w
def QJ (Q : Exit → Act → World → Prop) (e : Exit) (s : Slots) (H : List HP) : Prop := ∀ a w, Fits n s a → St W w H → Q e a w
/-- One operation: behind it K, of the slots and the heap. -/
def OJ (o : Oper) (s : Slots) (H : List HP) (K : Slots → List HP → Prop) : Prop :=
  ∀ a w, Fits n s a → St W w H → ∀ (next : Act → World → Prop) (Q : Exit → Act → World → Prop),
    (∀ s' H' a' w', K s' H' → Fits n s' a' → St W w' H' → next a' w') → o.wpN P a w next Q
/-- What a call leaves. -/
def CPost {X : Type} (res : X → Value) (pf : X → Prop) (post : X → List HP → List HP) (F : List HP) (e : Ending) (w' : World) : Prop := ∃ x, e = .returned (res x) ∧ pf x ∧ St W w' (post x F)
/-- A call's contract: with these assertions ahead, and whatever else there is, it returns 'res x' for some x that meets 'pf', and leaves 'post x' and the rest. -/
def CSpec (f : FuncId) (args : List Value) (pre : List HP) {X : Type} (res : X → Value) (pf : X → Prop) (post : X → List HP → List HP) : Prop :=
  ∀ F w, St W w (pre ++ F) → Calls P f args.toArray w (CPost W res pf post F)
end

/-- From these assertions, those. -/
def Ent (H H' : List HP) : Prop := ∀ h, stars H h → stars H' h
theorem Ent.refl {H : List HP} : Ent H H := fun _ h => h
theorem Ent.done {H : List HP} : Ent H [] := fun _ _ => trivial
theorem Ent.take {H R r : List HP} {A : HP} (hd : Del H A R) (h : Ent R r) : Ent H (A :: r) := fun _ hh => stars_cons h (stars_perm hd.out _ hh)
theorem Ent.takeC {H R r : List HP} {A A' : HP} (hd : Del H A R) (he : A = A') (h : Ent R r) : Ent H (A' :: r) := fun _ hh => by subst he; exact stars_cons h (stars_perm hd.out _ hh)
theorem Ent.pure {H r : List HP} {p : Prop} (hp : p) (h : Ent H r) : Ent H (pur p :: r) := fun _ hh => stars_pur.2 ⟨hp, h _ hh⟩
theorem Ent.take1 {H R r : List HP} {A A' : HP} (hd : Del H A R) (he : ∀ h, A h → A' h) (h : Ent R r) : Ent H (A' :: r) := fun _ hh => by
  obtain ⟨h1, h2, d, e, hA, hr⟩ := stars_perm hd.out _ hh
  exact ⟨h1, h2, d, e, he _ hA, h _ hr⟩
theorem Ent.drop {H r : List HP} {A : HP} (h : Ent H r) : Ent (A :: H) r := fun _ hh => h _ (stars_tail hh)
theorem Ent.trans {H H' H'' : List HP} (h : Ent H H') (h' : Ent H' H'') : Ent H H'' := fun _ hh => h' _ (h _ hh)
theorem Ent.ex {α : Type} {H r : List HP} {f : α → HP} (x : α) (h : Ent H (f x :: r)) : Ent H (ex f :: r) := fun _ hh => stars_ex.2 ⟨x, h _ hh⟩
theorem Ent.star {H r Hs : List HP} (h : Ent H (Hs ++ r)) : Ent H (star Hs :: r) := fun _ hh => stars_star.2 (h _ hh)

section
variable {P : Program} {n : Env} {W : World} {Q : Exit → Act → World → Prop} {s : Slots} {H : List HP} {ops : Array Oper}

theorem CJ_seq {x y : Code} (h : CJ P n W (Exit.then (y.wpIn (fw n.r) 0 P Q) Q) x s H) : CJ P n W Q (.seq x y) s H :=
  fun a w hf hs => wpIn_seq (h a w hf hs)
theorem CJ_skip (h : QJ n W Q .normal s H) : CJ P n W Q .skip s H := fun a w hf hs => wpIn_skip (h a w hf hs)
theorem CJ_ret (h : QJ n W Q .ret s H) : CJ P n W Q .ret s H := fun a w hf hs => wpIn_ret (h a w hf hs)
theorem CJ_exit {id : Nat} (h : QJ n W Q (.exit id) s H) : CJ P n W Q (.exit id) s H := fun a w hf hs => wpIn_exit (h a w hf hs)
theorem CJ_block {id : Nat} {c : Code} (h : CJ P n W (Exit.inBlock id Q) c s H) : CJ P n W Q (.block id c) s H := fun a w hf hs => wpIn_block (h a w hf hs)
theorem CJ_label {l : Nat} (h : QJ n W Q .normal s H) : CJ P n W Q (.label l) s H := fun a w hf hs => wpIn_label (h a w hf hs)
theorem CJ_cond {c : Operand} {x y : Code} {t : Bool} (hc : ev s c = some (.bool t)) (hx : t = true → CJ P n W Q x s H) (hy : t = false → CJ P n W Q y s H) :
    CJ P n W Q (.cond c x y) s H :=
  fun a w hf hs => wpIn_cond_split (hf.eval hc) (fun h => hx h a w hf hs) (fun h => hy h a w hf hs)
theorem CJ_region {id : Nat} {l : List Oper} (h : RJ P n W l.toArray Q l s H) : CJ P n W Q (.region id l.toArray false) s H :=
  fun a w hf hs => wpIn_region_lit (h a w hf hs)
theorem RJ_nil (h : QJ n W Q .normal s H) : RJ P n W ops Q [] s H := fun a w hf hs => h a w hf hs
theorem RJ_op {o : Oper} {rest : List Oper} (hg : o.guard = none) (h : OJ P n W o s H fun s' H' => RJ P n W ops Q rest s' H') : RJ P n W ops Q (o :: rest) s H :=
  fun a w hf hs => wpListIn_plain hg fun K hK => wpIn_ofN (h a w hf hs K Q fun _ _ a' w' hk hf' hs' => hK a' w' (hk a' w' hf' hs'))
theorem wpSkip {r : Option Nat} {o : Oper} {rest : List Oper} {a : Act} {w : World} (hw : Region.wanted o (yielded ops a.tmps) = false) (h : wpListIn (fw r) 0 P ops Q rest (a.put o.dst undef) w) :
    wpListIn (fw r) 0 P ops Q (o :: rest) a w := by
  simp only [wpListIn, hw]
  exact ⟨fun _ _ => trivial, h⟩
theorem yielded_of {n : Env} {s : Slots} {a : Act} (hf : Fits n s a) {j d : Nat} {t : Bool} (hd : (ops[j]?).bind (·.dst) = some d) (hl : look s d = some (.bool t)) :
    yielded ops a.tmps j = some t := by
  simp [yielded, hd, hf.slot d _ hl]
theorem yielded_undef {n : Env} {s : Slots} {a : Act} (hf : Fits n s a) {j d : Nat} (hd : (ops[j]?).bind (·.dst) = some d) (hl : look s d = some undef) :
    yielded ops a.tmps j = none := by
  simp [yielded, hd, hf.slot d _ hl, undef]
/-- A guarded operation whose guard says yes. -/
theorem RJ_yes {o : Oper} {rest : List Oper} {j d : Nat} {want : Bool} (hg : o.guard = some (j, want)) (hd : (ops[j]?).bind (·.dst) = some d) (hl : look s d = some (.bool want))
    (h : OJ P n W o s H fun s' H' => RJ P n W ops Q rest s' H') : RJ P n W ops Q (o :: rest) s H := by
  intro a w hf hs
  refine wpListIn_step fun K hK => ?_
  rw [if_pos (by simp [Region.wanted, hg, yielded_of hf hd hl])]
  exact wpIn_ofN (h a w hf hs K Q fun _ _ a' w' hk hf' hs' => hK a' w' (hk a' w' hf' hs'))
/-- A guarded operation whose guard says no. -/
theorem RJ_no {o : Oper} {rest : List Oper} {j d e : Nat} {want t : Bool} (hg : o.guard = some (j, want)) (hd : (ops[j]?).bind (·.dst) = some d) (hl : look s d = some (.bool t)) (ht : t ≠ want)
    (hdst : o.dst = some e) (he : Nat.blt e n.n = true) (h : RJ P n W ops Q rest ((e, undef) :: s) H) : RJ P n W ops Q (o :: rest) s H := by
  intro a w hf hs
  refine wpSkip (by simpa [Region.wanted, hg, yielded_of hf hd hl] using ht) ?_
  rw [hdst]
  exact h _ w (hf.put he undef) hs
theorem RJ_no0 {o : Oper} {rest : List Oper} {j d : Nat} {want t : Bool} (hg : o.guard = some (j, want)) (hd : (ops[j]?).bind (·.dst) = some d) (hl : look s d = some (.bool t)) (ht : t ≠ want)
    (hdst : o.dst = none) (h : RJ P n W ops Q rest s H) : RJ P n W ops Q (o :: rest) s H := by
  intro a w hf hs
  refine wpSkip (by simpa [Region.wanted, hg, yielded_of hf hd hl] using ht) ?_
  rw [hdst]
  exact h _ w (hf.put_none undef) hs
theorem RJ_noU {o : Oper} {rest : List Oper} {j d e : Nat} {want : Bool} (hg : o.guard = some (j, want)) (hd : (ops[j]?).bind (·.dst) = some d) (hl : look s d = some undef)
    (hdst : o.dst = some e) (he : Nat.blt e n.n = true) (h : RJ P n W ops Q rest ((e, undef) :: s) H) : RJ P n W ops Q (o :: rest) s H := by
  intro a w hf hs
  refine wpSkip (by simp [Region.wanted, hg, yielded_undef hf hd hl]) ?_
  rw [hdst]
  exact h _ w (hf.put he undef) hs
theorem RJ_noU0 {o : Oper} {rest : List Oper} {j d : Nat} {want : Bool} (hg : o.guard = some (j, want)) (hd : (ops[j]?).bind (·.dst) = some d) (hl : look s d = some undef)
    (hdst : o.dst = none) (h : RJ P n W ops Q rest s H) : RJ P n W ops Q (o :: rest) s H := by
  intro a w hf hs
  refine wpSkip (by simp [Region.wanted, hg, yielded_undef hf hd hl]) ?_
  rw [hdst]
  exact h _ w (hf.put_none undef) hs

theorem QJ_then {y : Code} (h : CJ P n W Q y s H) : QJ n W (Exit.then (y.wpIn (fw n.r) 0 P Q) Q) .normal s H := fun a w hf hs => h a w hf hs
theorem QJ_then_ret {K : Act → World → Prop} (h : QJ n W Q .ret s H) : QJ n W (Exit.then K Q) .ret s H := h
theorem QJ_then_exit {K : Act → World → Prop} {id : Nat} (h : QJ n W Q (.exit id) s H) : QJ n W (Exit.then K Q) (.exit id) s H := h
theorem QJ_block_normal {id : Nat} (h : QJ n W Q .normal s H) : QJ n W (Exit.inBlock id Q) .normal s H := h
theorem QJ_block_ret {id : Nat} (h : QJ n W Q .ret s H) : QJ n W (Exit.inBlock id Q) .ret s H := h
theorem QJ_block_here {id : Nat} (h : QJ n W Q .normal s H) : QJ n W (Exit.inBlock id Q) (.exit id) s H := fun a w hf hs => by
  simpa [Exit.inBlock] using h a w hf hs
theorem QJ_block_other {id id' : Nat} (hne : Nat.beq id' id = false) (h : QJ n W Q (.exit id') s H) : QJ n W (Exit.inBlock id Q) (.exit id') s H := fun a w hf hs => by
  have hne' : id' ≠ id := Nat.ne_of_beq_eq_false hne
  simpa [Exit.inBlock, hne'] using h a w hf hs

/-- A loop: inv x says what holds at a round's head, μ goes down. -/
def LoopEnd (n : Env) (W : World) {X : Type} (inv : X → Slots × List HP) (μ : X → Nat) (x : X) (Q : Exit → Act → World → Prop) : Exit → Act → World → Prop
  | .normal, a, w => ∃ x', μ x' < μ x ∧ Fits n (inv x').1 a ∧ St W w (inv x').2
  | e, a, w => Q e a w
theorem CJ_loop {X : Type} (inv : X → Slots × List HP) (μ : X → Nat) {c : Code} (x0 : X) (hs0 : known s (inv x0).1) (hH0 : ∀ h, stars H h → stars (inv x0).2 h)
    (round : ∀ x, CJ P n W (LoopEnd n W inv μ x Q) c (inv x).1 (inv x).2) : CJ P n W Q (.loop c) s H := by
  intro a w hf hs b kk cs hro hb hr
  have key : ∀ m x a w, μ x = m → Fits n (inv x).1 a → St W w (inv x).2 →
      ∃ e a' w', Q e a' w' ∧ ArrivesIn (Machine.fenced P (fw n.r)) P (lone (b.atR a (.code c :: .inLoop c :: kk)) cs w) b kk cs e a' w' := by
    intro m
    induction m using Nat.strongRecOn with
    | _ m ih =>
      intro x a w hk hf hs
      obtain ⟨e, a₁, w₁, hq, harr⟩ := round x a w hf hs b (.inLoop c :: kk) cs hro hb hr
      cases e with
      | normal =>
        obtain ⟨x', hlt, hf', hs'⟩ := hq
        obtain ⟨e₂, a₂, w₂, hq₂, harr₂⟩ := ih (μ x') (hk ▸ hlt) x' a₁ w₁ rfl hf' hs'
        exact ⟨e₂, a₂, w₂, hq₂, .of_steps (StepsIn.trans harr (.one (fenced_calm hb hr rfl) stepR_inLoop)) harr₂⟩
      | exit id => exact ⟨_, a₁, w₁, hq, .pass (x := .inLoop c) rfl (fun _ _ => .inl (by simp)) harr⟩
      | goto l => exact ⟨_, a₁, w₁, hq, .pass (x := .inLoop c) rfl (fun _ _ => .inl (by simp)) harr⟩
      | ret => exact ⟨_, a₁, w₁, hq, .pass (x := .inLoop c) rfl (fun _ _ => .inl (by simp)) harr⟩
      | panic ch => exact ⟨_, a₁, w₁, hq, .pass (x := .inLoop c) rfl (fun _ _ => .inl (by simp)) harr⟩
      | outgrown => exact ⟨_, a₁, w₁, hq, .pass (x := .inLoop c) rfl (fun _ _ => .inl (by simp)) harr⟩
  obtain ⟨e, a', w', hq, harr⟩ := key _ x0 a w rfl (hf.sub (known.sub hs0)) (hs.imp hH0)
  exact ⟨e, a', w', hq, .of_steps (.one (fenced_calm hb hr rfl) stepR_loop) harr⟩

theorem QJ_loop_next {X : Type} {inv : X → Slots × List HP} {μ : X → Nat} {x : X} (x' : X) (hμ : μ x' < μ x) (hs' : known s (inv x').1) (hH' : ∀ h, stars H h → stars (inv x').2 h) :
    QJ n W (LoopEnd n W inv μ x Q) .normal s H :=
  fun _ _ hf hs => ⟨x', hμ, hf.sub (known.sub hs'), hs.imp hH'⟩
theorem QJ_loop_ret {X : Type} {inv : X → Slots × List HP} {μ : X → Nat} {x : X} (h : QJ n W Q .ret s H) : QJ n W (LoopEnd n W inv μ x Q) .ret s H := h
theorem QJ_loop_exit {X : Type} {inv : X → Slots × List HP} {μ : X → Nat} {x : X} {id : Nat} (h : QJ n W Q (.exit id) s H) : QJ n W (LoopEnd n W inv μ x Q) (.exit id) s H := h

/-- The slots but these. -/
def forget (ks : List Nat) : Slots → Slots
  | [] => []
  | (i, v) :: r => cond (ks.any (Nat.beq i)) (forget ks r) ((i, v) :: forget ks r)
theorem look_forget (ks : List Nat) : ∀ (s : Slots) (i : Nat) (v : Value), look (forget ks s) i = some v → look s i = some v ∧ ks.any (Nat.beq i) = false
  | [], _, _, h => by simp [forget, look] at h
  | (j, u) :: r, i, v, h => by
    simp only [forget] at h
    by_cases hj : ks.any (Nat.beq j) = true
    · rw [hj] at h
      have ⟨h1, h2⟩ := look_forget ks r i v h
      refine ⟨?_, h2⟩
      have hne : ¬ j = i := fun e => by subst e; rw [hj] at h2; cases h2
      simp only [look, nbeq hne]
      exact h1
    · have hj' : ks.any (Nat.beq j) = false := by
        cases hb : ks.any (Nat.beq j) with
        | false => rfl
        | true => exact absurd hb hj
      rw [hj'] at h
      simp only [cond_false, look] at h ⊢
      by_cases hji : j = i
      · subst hji
        refine ⟨?_, hj'⟩
        simpa using h
      · rw [nbeq hji] at h ⊢
        exact look_forget ks r i v h
/-- Nothing of s0 but these slots has been written. -/
def Kp (ks : List Nat) (s0 s : Slots) : Prop := ∀ i v, look (forget ks s0) i = some v → look s i = some v
theorem Kp.base {ks : List Nat} {s0 : Slots} : Kp ks s0 (forget ks s0) := fun _ _ h => h
theorem Kp.self {ks : List Nat} {s0 : Slots} : Kp ks s0 s0 := fun i v h => (look_forget ks s0 i v h).1
theorem Kp.cons {ks : List Nat} {s0 s : Slots} {k : Nat} {v : Value} (hk : ks.any (Nat.beq k) = true) (h : Kp ks s0 s) : Kp ks s0 ((k, v) :: s) := fun i u hl => by
  have h2 := (look_forget ks s0 i u hl).2
  have hne : ¬ k = i := fun e => by subst e; rw [hk] at h2; cases h2
  simp only [look, nbeq hne]
  exact h i u hl
theorem Kp.forget {ks ks' : List Nat} {s0 s : Slots} (hk : ks'.all (fun k => ks.any (Nat.beq k)) = true) (h : Kp ks s0 s) : Kp ks s0 (forget ks' s) := fun i u hl => by
  have h2 := (look_forget ks s0 i u hl).2
  have h3 := h i u hl
  have hn : ks'.any (Nat.beq i) = false := by
    cases hb : ks'.any (Nat.beq i) with
    | false => rfl
    | true =>
      obtain ⟨k, hk1, hk2⟩ := List.any_eq_true.1 hb
      have := List.all_eq_true.1 hk k hk1
      have e : i = k := Nat.eq_of_beq_eq_true hk2
      subst e
      rw [this] at h2; cases h2
  clear h hl h2
  induction s with
  | nil => exact h3
  | cons p r ih =>
    obtain ⟨j, w⟩ := p
    simp only [VG.forget]
    by_cases hj : ks'.any (Nat.beq j) = true
    · rw [hj]
      have hne : ¬ j = i := fun e => by subst e; rw [hj] at hn; cases hn
      simp only [look, nbeq hne, cond_false] at h3
      exact ih h3
    · have hj' : ks'.any (Nat.beq j) = false := by
        cases hb : ks'.any (Nat.beq j) with
        | false => rfl
        | true => exact absurd hb hj
      rw [hj']
      simp only [cond_false, look] at h3 ⊢
      by_cases hji : j = i
      · subst hji; simpa using h3
      · rw [nbeq hji] at h3 ⊢
        exact ih h3
theorem look_append : ∀ (a b : Slots) (i : Nat) (v : Value), look (a ++ b) i = some v → look a i = some v ∨ look b i = some v
  | [], _, _, _, h => .inr h
  | (j, u) :: r, b, i, v, h => by
    simp only [List.cons_append, look] at h ⊢
    by_cases hji : j = i
    · subst hji; simp at h ⊢; exact .inl h
    · rw [nbeq hji] at h ⊢; exact look_append r b i v h
/-- A round's end: again at the head, for some x' that is less. -/
def RoundEnd (n : Env) (W : World) {X : Type} (ks : List Nat) (ins : X → Slots) (hin : X → List HP → List HP) (pf : X → Prop) (μ : X → Nat) (s0 : Slots) (R : List HP) (x : X) (Q : Exit → Act → World → Prop) : Exit → Act → World → Prop
  | .normal, a, w => ∃ x', μ x' < μ x ∧ pf x' ∧ Fits n (ins x' ++ forget ks s0) a ∧ St W w (hin x' R)
  | e, a, w => Q e a w
/-- A loop that writes these slots, and of the heap what hin says; R stays. -/
theorem CJ_loopR {X : Type} (ks : List Nat) (ins : X → Slots) (hin : X → List HP → List HP) (pf : X → Prop) (μ : X → Nat) {c : Code} {R : List HP} (x0 : X) (hp0 : pf x0) (hs0 : known s (ins x0)) (hH0 : Ent H (hin x0 R))
    (round : ∀ x, pf x → CJ P n W (RoundEnd n W ks ins hin pf μ s R x Q) c (ins x ++ forget ks s) (hin x R)) : CJ P n W Q (.loop c) s H := by
  intro a w hf hs b kk cs hro hb hr
  have hst : ∀ i v, look (ins x0 ++ forget ks s) i = some v → look s i = some v := fun i v h => by
    rcases look_append _ _ _ _ h with h | h
    · exact known.sub hs0 i v h
    · exact (look_forget ks s i v h).1
  have key : ∀ m x a w, pf x → μ x = m → Fits n (ins x ++ forget ks s) a → St W w (hin x R) →
      ∃ e a' w', Q e a' w' ∧ ArrivesIn (Machine.fenced P (fw n.r)) P (lone (b.atR a (.code c :: .inLoop c :: kk)) cs w) b kk cs e a' w' := by
    intro m
    induction m using Nat.strongRecOn with
    | _ m ih =>
      intro x a w hp hk hf hs
      obtain ⟨e, a₁, w₁, hq, harr⟩ := round x hp a w hf hs b (.inLoop c :: kk) cs hro hb hr
      cases e with
      | normal =>
        obtain ⟨x', hlt, hp', hf', hs'⟩ := hq
        obtain ⟨e₂, a₂, w₂, hq₂, harr₂⟩ := ih (μ x') (hk ▸ hlt) x' a₁ w₁ hp' rfl hf' hs'
        exact ⟨e₂, a₂, w₂, hq₂, .of_steps (StepsIn.trans harr (.one (fenced_calm hb hr rfl) stepR_inLoop)) harr₂⟩
      | exit id => exact ⟨_, a₁, w₁, hq, .pass (x := .inLoop c) rfl (fun _ _ => .inl (by simp)) harr⟩
      | goto l => exact ⟨_, a₁, w₁, hq, .pass (x := .inLoop c) rfl (fun _ _ => .inl (by simp)) harr⟩
      | ret => exact ⟨_, a₁, w₁, hq, .pass (x := .inLoop c) rfl (fun _ _ => .inl (by simp)) harr⟩
      | panic ch => exact ⟨_, a₁, w₁, hq, .pass (x := .inLoop c) rfl (fun _ _ => .inl (by simp)) harr⟩
      | outgrown => exact ⟨_, a₁, w₁, hq, .pass (x := .inLoop c) rfl (fun _ _ => .inl (by simp)) harr⟩
  obtain ⟨e, a', w', hq, harr⟩ := key _ x0 a w hp0 rfl (hf.sub hst) (hs.imp hH0)
  exact ⟨e, a', w', hq, .of_steps (.one (fenced_calm hb hr rfl) stepR_loop) harr⟩
section
variable {X : Type} {ks : List Nat} {ins : X → Slots} {hin : X → List HP → List HP} {pf : X → Prop} {μ : X → Nat} {x : X} {R : List HP} {s0 : Slots}
theorem QJ_nextR (x' : X) (hμ : μ x' < μ x) (hp : pf x') (hk : Kp ks s0 s) (hs' : known s (ins x')) (hH' : Ent H (hin x' R)) : QJ n W (RoundEnd n W ks ins hin pf μ s0 R x Q) .normal s H :=
  fun _ _ hf hs => ⟨x', hμ, hp, hf.sub (fun i v h => by
    rcases look_append _ _ _ _ h with h | h
    · exact known.sub hs' i v h
    · exact hk i v h), hs.imp hH'⟩
theorem QJ_round_ret (h : QJ n W Q .ret s H) : QJ n W (RoundEnd n W ks ins hin pf μ s0 R x Q) .ret s H := h
theorem QJ_round_exit {id : Nat} (h : QJ n W Q (.exit id) s H) : QJ n W (RoundEnd n W ks ins hin pf μ s0 R x Q) (.exit id) s H := h
end
/-- Where ways meet again; these slots are forgotten but for what ins says. -/
def CutEnd (n : Env) (W : World) {X : Type} (ks : List Nat) (ins : X → Slots) (hin : X → List HP → List HP) (pf : X → Prop) (s0 : Slots) (R : List HP) (a : Act) (w : World) : Prop := ∃ x, pf x ∧ Fits n (ins x ++ forget ks s0) a ∧ St W w (hin x R)
theorem CJ_cutR {X : Type} (ks : List Nat) (ins : X → Slots) (hin : X → List HP → List HP) (pf : X → Prop) {c d : Code} {As R : List HP} (_hR : Dels H As R)
    (h1 : CJ P n W (Exit.then (CutEnd n W ks ins hin pf s R) Q) c s H) (h2 : ∀ x, pf x → CJ P n W Q d (ins x ++ forget ks s) (hin x R)) : CJ P n W Q (.seq c d) s H := by
  intro a w hf hs
  refine wpIn_seq (wpIn_mono (h1 a w hf hs) ?_)
  intro e a w hq
  cases e with
  | normal => obtain ⟨x, hp, hf', hs'⟩ := hq; exact h2 x hp a w hf' hs'
  | _ => exact hq
theorem QJ_cutR {X : Type} {ks : List Nat} {ins : X → Slots} {hin : X → List HP → List HP} {pf : X → Prop} {R : List HP} {s0 : Slots} (x : X) (hp : pf x) (hk : Kp ks s0 s) (hs' : known s (ins x)) (hH' : Ent H (hin x R)) :
    QJ n W (Exit.then (CutEnd n W ks ins hin pf s0 R) Q) .normal s H :=
  fun _ _ hf hs => ⟨x, hp, hf.sub (fun i v h => by
    rcases look_append _ _ _ _ h with h | h
    · exact known.sub hs' i v h
    · exact hk i v h), hs.imp hH'⟩
theorem CJ_pur {p : Prop} {c : Code} (h : p → CJ P n W Q c s H) : CJ P n W Q c s (pur p :: H) := fun a w hf hs => let ⟨hp, hs'⟩ := St.pur_iff.1 hs; h hp a w hf hs'
theorem RJ_pur {p : Prop} {l : List Oper} (h : p → RJ P n W ops Q l s H) : RJ P n W ops Q l s (pur p :: H) := fun a w hf hs => let ⟨hp, hs'⟩ := St.pur_iff.1 hs; h hp a w hf hs'
/-- Taking an assertion apart. -/
theorem CJ_ex {α : Type} {f : α → HP} {H' : List HP} {A : HP} {c : Code} (hd : Del H A H') (hA : A = ex f) (h : ∀ x, CJ P n W Q c s (f x :: H')) : CJ P n W Q c s H := by
  intro a w hf hs
  have := hs.perm hd.out
  rw [hA] at this
  obtain ⟨x, hx⟩ := St.ex_iff.1 this
  exact h x a w hf hx
/-- Weakening, the slots and the heap: at any place. -/
theorem CJ_sub {s' : Slots} {H' : List HP} {c : Code} (hs' : known s s') (hH : ∀ h, stars H h → stars H' h) (h : CJ P n W Q c s' H') : CJ P n W Q c s H :=
  fun a w hf hs => h a w (hf.sub (known.sub hs')) (hs.imp hH)
theorem RJ_sub {s' : Slots} {H' : List HP} {l : List Oper} (hs' : known s s') (hH : ∀ h, stars H h → stars H' h) (h : RJ P n W ops Q l s' H') : RJ P n W ops Q l s H :=
  fun a w hf hs => h a w (hf.sub (known.sub hs')) (hs.imp hH)
theorem CJ_ent {H' : List HP} {c : Code} (hH : Ent H H') (h : CJ P n W Q c s H') : CJ P n W Q c s H := fun a w hf hs => h a w hf (hs.imp hH)
theorem RJ_ent {H' : List HP} {l : List Oper} (hH : Ent H H') (h : RJ P n W ops Q l s H') : RJ P n W ops Q l s H := fun a w hf hs => h a w hf (hs.imp hH)
theorem QJ_ent {H' : List HP} {e : Exit} (hH : Ent H H') (h : QJ n W Q e s H') : QJ n W Q e s H := fun a w hf hs => h a w hf (hs.imp hH)
/-- From these, for some x, those. -/
def EntX {α : Type} (H : List HP) (H' : α → List HP) : Prop := ∀ h, stars H h → ∃ x, stars (H' x) h
theorem Ent.transX {α : Type} {H H1 : List HP} {H' : α → List HP} (h : Ent H H1) (h' : EntX H1 H') : EntX H H' := fun _ hh => h' _ (h _ hh)
theorem CJ_entX {α : Type} {H' : α → List HP} {c : Code} (hH : EntX H H') (h : ∀ x, CJ P n W Q c s (H' x)) : CJ P n W Q c s H := by
  intro a w hf hs
  obtain ⟨gg, hgg⟩ := hs.heap
  obtain ⟨x, hx⟩ := hH _ hgg
  exact h x a w hf ⟨hs.os, hs.tape, hs.output, gg, hx⟩
theorem RJ_entX {α : Type} {H' : α → List HP} {l : List Oper} (hH : EntX H H') (h : ∀ x, RJ P n W ops Q l s (H' x)) : RJ P n W ops Q l s H := by
  intro a w hf hs
  obtain ⟨gg, hgg⟩ := hs.heap
  obtain ⟨x, hx⟩ := hH _ hgg
  exact h x a w hf ⟨hs.os, hs.tape, hs.output, gg, hx⟩
/-- What the heap says, taken out: some x with p x, the heap then as 'H' x'. -/
theorem CJ_heap {α : Type} {H' : α → List HP} {c : Code} (hH : ∀ h, stars H h → ∃ x, stars (H' x) h) (h : ∀ x, CJ P n W Q c s (H' x)) : CJ P n W Q c s H := by
  intro a w hf hs
  obtain ⟨gg, hgg⟩ := hs.heap
  obtain ⟨x, hx⟩ := hH _ hgg
  exact h x a w hf ⟨hs.os, hs.tape, hs.output, gg, hx⟩
theorem RJ_heap {α : Type} {H' : α → List HP} {l : List Oper} (hH : ∀ h, stars H h → ∃ x, stars (H' x) h) (h : ∀ x, RJ P n W ops Q l s (H' x)) : RJ P n W ops Q l s H := by
  intro a w hf hs
  obtain ⟨gg, hgg⟩ := hs.heap
  obtain ⟨x, hx⟩ := hH _ hgg
  exact h x a w hf ⟨hs.os, hs.tape, hs.output, gg, hx⟩
theorem CJ_pure {p : Prop} {c : Code} (hp : ∀ h, stars H h → p) (h : p → CJ P n W Q c s H) : CJ P n W Q c s H :=
  fun a w hf hs => h (let ⟨_, hgg⟩ := hs.heap; hp _ hgg) a w hf hs
theorem RJ_pure {p : Prop} {l : List Oper} (hp : ∀ h, stars H h → p) (h : p → RJ P n W ops Q l s H) : RJ P n W ops Q l s H :=
  fun a w hf hs => h (let ⟨_, hgg⟩ := hs.heap; hp _ hgg) a w hf hs

/-- Where ways meet again: whatever the first part leaves, the rest goes from 'mid x'. -/
theorem CJ_cut {X : Type} (mid : X → Slots × List HP) {c d : Code}
    (h1 : CJ P n W (Exit.then (fun a w => ∃ x, Fits n (mid x).1 a ∧ St W w (mid x).2) Q) c s H) (h2 : ∀ x, CJ P n W Q d (mid x).1 (mid x).2) : CJ P n W Q (.seq c d) s H := by
  intro a w hf hs
  refine wpIn_seq (wpIn_mono (h1 a w hf hs) ?_)
  intro e a w hq
  cases e with
  | normal => obtain ⟨x, hf', hs'⟩ := hq; exact h2 x a w hf' hs'
  | _ => exact hq
theorem QJ_cut {X : Type} {mid : X → Slots × List HP} (x : X) (hs' : known s (mid x).1) (hH' : ∀ h, stars H h → stars (mid x).2 h) :
    QJ n W (Exit.then (fun a w => ∃ x, Fits n (mid x).1 a ∧ St W w (mid x).2) Q) .normal s H :=
  fun _ _ hf hs => ⟨x, hf.sub (known.sub hs'), hs.imp hH'⟩

/-- Entering a function. -/
def args0 : Nat → List Value → Slots
  | _, [] => []
  | i, v :: r => (i, v) :: args0 (i + 1) r
theorem look_args0 : ∀ (vs : List Value) (j i : Nat) (v : Value), look (args0 j vs) i = some v → j ≤ i ∧ vs[i - j]? = some v
  | [], _, _, _, h => by simp [args0, look] at h
  | u :: r, j, i, v, h => by
    simp only [args0, look] at h
    by_cases hji : j = i
    · subst hji; simp at h; subst h; simp
    · have : Nat.beq j i = false := nbeq hji
      rw [this] at h
      obtain ⟨h1, h2⟩ := look_args0 r (j + 1) i v h
      refine ⟨by omega, ?_⟩
      rw [show i - j = (i - (j + 1)) + 1 by omega]
      simpa using h2
/-- A function's contract out of its body. -/
theorem CSpec.of_body {f : FuncId} {fn : Func} {c : Code} {args : List Value} {pre : List HP} {X : Type} {res : X → Value} {pf : X → Prop} {post : X → List HP → List HP}
    (hf : P.funcs[f]? = some fn) (hb : fn.body = some c) {n : Nat} (hn : fn.ntmps = n) (hargs : Nat.ble args.length n = true)
    (h : ∀ F, CJ P ⟨n, none, []⟩ W (bodyPost P fn (CPost W res pf post F)) c (args0 0 args) (pre ++ F)) : CSpec P W f args pre res pf post := by
  intro F w hs
  refine calls_of_wp hf hb (wpIn_wide.1 (h F _ w ⟨?_, rfl, ?_⟩ hs))
  · have : args.length ≤ n := by simpa using hargs
    simp [hn]; omega
  · intro i v hl
    obtain ⟨_, h2⟩ := look_args0 args 0 i v hl
    have hlt : i < args.length := by
      rcases Nat.lt_or_ge i args.length with h' | h'
      · exact h'
      · simp [List.getElem?_eq_none h'] at h2
    simp only [Nat.sub_zero] at h2
    rw [Array.getElem?_append_left (by simpa using hlt)]
    simpa using h2
/-- The end: one result, two, three, none. -/
theorem QJ_end {fn : Func} {R : Ending → World → Prop} {v : Value} {m : Nat} {r : Option Nat} (hr : ∀ a w, Fits ⟨m, r, []⟩ s a → St W w H → (results fn a.tmps).run P w = .ok v w) (h : ∀ w, St W w H → R (.returned v) w) :
    QJ ⟨m, r, []⟩ W (bodyPost P fn R) .ret s H :=
  fun a w hf hs => ⟨hf.defers, v, hr a w hf hs, h w hs⟩
theorem QJ_endN {fn : Func} {R : Ending → World → Prop} {v : Value} {m : Nat} {r : Option Nat} (hr : ∀ a w, Fits ⟨m, r, []⟩ s a → St W w H → (results fn a.tmps).run P w = .ok v w) (h : ∀ w, St W w H → R (.returned v) w) :
    QJ ⟨m, r, []⟩ W (bodyPost P fn R) .normal s H :=
  fun a w hf hs => ⟨hf.defers, v, hr a w hf hs, h w hs⟩
theorem res0 {fn : Func} (h : fn.results = #[]) : ∀ a w, Fits n s a → St W w H → (results fn a.tmps).run P w = .ok (.tuple #[]) w := fun _ _ _ _ => results_none h _ _ _
theorem res1 {fn : Func} {t : Tmp} {v : Value} (h : fn.results = #[.tmp t]) (hv : look s t = some v) : ∀ a w, Fits n s a → St W w H → (results fn a.tmps).run P w = .ok v w := fun a w hf _ => by
  have := hf.slot t v hv
  rw [results_tmp h, Array.getD_eq_getD_getElem?, this]; rfl
theorem res2 {fn : Func} {t u : Tmp} {v x : Value} (h : fn.results = #[.tmp t, .tmp u]) (hv : look s t = some v) (hx : look s u = some x) :
    ∀ a w, Fits n s a → St W w H → (results fn a.tmps).run P w = .ok (.tuple #[v, x]) w := fun a w hf _ => by
  have h1 := hf.slot t v hv
  have h2 := hf.slot u x hx
  rw [results_tmp2 h, Array.getD_eq_getD_getElem?, Array.getD_eq_getD_getElem?, h1, h2]; rfl
theorem res3 {fn : Func} {t u p : Tmp} {v x y : Value} (h : fn.results = #[.tmp t, .tmp u, .tmp p]) (hv : look s t = some v) (hx : look s u = some x) (hy : look s p = some y) :
    ∀ a w, Fits n s a → St W w H → (results fn a.tmps).run P w = .ok (.tuple #[v, x, y]) w := fun a w hf _ => by
  have h1 := hf.slot t v hv
  have h2 := hf.slot u x hx
  have h3 := hf.slot p y hy
  simp [results, h, Array.getD_eq_getD_getElem?, h1, h2, h3]
/-- A post, at the end of a body. -/
theorem CSpec.close {X : Type} {res : X → Value} {pf : X → Prop} {post : X → List HP → List HP} {F : List HP} {v : Value} (x : X) (hv : v = res x) (hp : pf x) (hH : Ent H (post x F)) :
    ∀ w, St W w H → CPost W res pf post F (.returned v) w :=
  fun _ hs => ⟨x, by rw [hv], hp, hs.imp hH⟩
end
end Go.VG
