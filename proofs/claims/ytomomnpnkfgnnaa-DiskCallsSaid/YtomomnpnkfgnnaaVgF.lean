/- Regions whose order is open: what only hands on a value is taken first; what acts comes as it must. -/
import Derived.Test.YtomomnpnkfgnnaaVgE
import Derived.OrdersHeld
import Derived.OrdersIn
namespace Go.VG

/-- Which operations have come up, as the bits of a number. -/
def listedOf (n m : Nat) : Array Bool := (Array.range n).map fun j => m.testBit j
theorem listedOf_get (n m j : Nat) (d : Bool) : (listedOf n m).getD j d = if j < n then m.testBit j else d := by
  by_cases h : j < n <;> simp [listedOf, h]
theorem listedOf_set (n m i : Nat) : (listedOf n m).setIfInBounds i true = listedOf n (m ||| 2 ^ i) := by
  apply Array.ext_getElem?
  intro j
  rw [Array.getElem?_setIfInBounds]
  by_cases hj : j < n
  · by_cases hij : i = j
    · subst hij; simp [listedOf, hj, Nat.testBit_or]
    · have : Nat.testBit (2 ^ i) j = false := by rw [Nat.testBit_two_pow]; simp [hij]
      simp [listedOf, hj, hij, Nat.testBit_or, this]
  · by_cases hij : i = j
    · subst hij; simp [listedOf, hj]
    · simp [listedOf, hj, hij]

section
variable {P : Program} {ops : Array Oper} {Q : Exit → Act → World → Prop} {S : World → Prop} {tl : Nat}

/-- Whatever order; S behind each operation that is not one of the last. -/
def wpAnyT (P : Program) (ops : Array Oper) (Q : Exit → Act → World → Prop) (S : World → Prop) (tl : Nat) : Nat → Array Bool → Act → World → Prop
  | 0, listed, a, w => Region.ready .any ops listed = [] ∧ Q .normal a w
  | fuel + 1, listed, a, w => (Region.ready .any ops listed = [] → Q .normal a w) ∧
      ∀ i ∈ Region.ready .any ops listed, wpOp P ops Q i (fun a' w' => (tl.testBit i = false → S w → S w') ∧ wpAnyT P ops Q S tl fuel (listed.setIfInBounds i true) a' w') a w
theorem wpAny_of_T : ∀ (fuel : Nat) (listed : Array Bool) (a : Act) (w : World), wpAnyT P ops Q S tl fuel listed a w → wpAny P .any ops Q fuel listed a w
  | 0, _, _, _, h => h
  | fuel + 1, _, _, _, h => ⟨h.1, fun i hi => wpOp_mono (fun a' w' h' => wpAny_of_T fuel _ a' w' h'.2) (h.2 i hi)⟩

def Closed (ops : Array Oper) (listed : Array Bool) : Prop := ∀ j o, ops[j]? = some o → listed.getD j false = true → ∀ e ∈ o.after, Region.binds .any e = true → listed.getD e.on false = true
/-- Does operation j wait for i, by however many others? -/
def waits (ops : Array Oper) : Nat → Nat → Nat → Bool
  | 0, _, _ => false
  | f + 1, j, i => match ops[j]? with
    | none => false
    | some o => o.after.any fun e => Region.binds .any e && (e.on == i || waits ops f e.on i)
theorem waits_ready {listed : Array Bool} (hc : Closed ops listed) {i : Nat} : ∀ (f j : Nat), (∀ o, ops[j]? = some o → ∀ e ∈ o.after, Region.binds .any e = true → listed.getD e.on false = true) → waits ops f j i = true → listed.getD i false = true
  | 0, _, _, h => by simp [waits] at h
  | f + 1, j, hj, h => by
    simp only [waits] at h
    cases ho : ops[j]? with
    | none => simp [ho] at h
    | some o =>
      simp only [ho] at h
      obtain ⟨e, he, hb⟩ := Array.any_eq_true'.1 h
      simp only [Bool.and_eq_true, Bool.or_eq_true, beq_iff_eq] at hb
      have hl := hj o ho e he hb.1
      rcases hb.2 with rfl | hw
      · exact hl
      · exact waits_ready hc f e.on (fun o' ho' e' he' hb' => hc e.on o' ho' hl e' he' hb') hw
theorem Closed.step {listed : Array Bool} (hc : Closed ops listed) {j : Nat} (hj : j ∈ Region.ready .any ops listed) : Closed ops (listed.setIfInBounds j true) := by
  obtain ⟨_, oj, hoj, hall⟩ := mem_ready.1 hj
  intro k o hk hl e he hb
  by_cases hkj : j = k
  · subst hkj
    rw [hoj] at hk; cases hk
    exact getD_set_true (hall e he hb)
  · rw [getD_set_ne false hkj] at hl
    exact getD_set_true (hc k o hk hl e he hb)
theorem unlisted_ne {i : Nat} {oj : Oper} {listed : Array Bool} (hall : ∀ e ∈ oj.after, Region.binds .any e = true → listed.getD e.on false = true) (hr : i ∈ Region.ready .any ops listed) :
    ∀ e ∈ oj.after, Region.binds .any e = true → e.on ≠ i := fun e he hb heq => by
  have h1 := hall e he hb
  have h0 := (mem_ready.1 hr).1
  rw [heq] at h1
  rcases Nat.lt_or_ge i listed.size with h' | h'
  · simp [h'] at h0 h1; rw [h0] at h1; cases h1
  · simp [Array.getElem?_eq_none h'] at h1
theorem ready_unlisted {i : Nat} {listed : Array Bool} (hr : i ∈ Region.ready .any ops listed) : listed.getD i false = false := by
  have h0 := (mem_ready.1 hr).1
  rcases Nat.lt_or_ge i listed.size with h' | h'
  · simp [h'] at h0 ⊢; exact h0
  · simp [Array.getElem?_eq_none h']
/-- A reading is taken first: whoever may come before it keeps S, or waits for it. -/
theorem wpAnyT_first {i : Nat} {oi : Oper} {v : Value} (hi : ops[i]? = some oi) (hsel : ∀ (j : Nat) (o : Oper) cs b, ops[j]? = some o → o.op ≠ .select cs b)
    (hQ : ∀ c a w, Q (.panic c) (a.put oi.dst v) w → Q (.panic c) a w) {f : Nat} (hw : ∀ j, tl.testBit j = true → waits ops f j i = true) :
    ∀ (fuel : Nat) (listed : Array Bool) (a : Act) (w : World), Closed ops listed →
      (∀ j oj, ops[j]? = some oj → j ≠ i → listed.getD j true = false → (∀ e ∈ oj.after, Region.binds .any e = true → e.on ≠ i) → oi.apart ops oj = true) →
      i ∈ Region.ready .any ops listed → YieldsIf P ops S oi v a → S w →
      wpAnyT P ops Q S tl fuel (listed.setIfInBounds i true) (a.put oi.dst v) w → wpAnyT P ops Q S tl (fuel + 1) listed a w := by
  intro fuel
  induction fuel with
  | zero =>
    intro listed a w _ _ hr hy hS H
    refine ⟨fun h => (by rw [h] at hr; cases hr), fun j hj => ?_⟩
    by_cases hji : j = i
    · subst hji; exact hy.wpOp hi hS ⟨fun _ h => h, H⟩
    · have := ready_mono hj hji
      rw [H.1] at this
      cases this
  | succ fuel ih =>
    intro listed a w hcl hfree hr hy hS H
    refine ⟨fun h => (by rw [h] at hr; cases hr), fun j hj => ?_⟩
    by_cases hji : j = i
    · subst hji; exact hy.wpOp hi hS ⟨fun _ h => h, H⟩
    · have h1 := H.2 j (ready_mono hj hji)
      obtain ⟨hjun, oj, hoj, hall⟩ := mem_ready.1 hj
      have hnt : tl.testBit j = false := by
        cases ht : tl.testBit j with
        | false => rfl
        | true =>
          have := waits_ready hcl f j (fun o ho e he hb => by rw [hoj] at ho; cases ho; exact hall e he hb) (hw j ht)
          rw [ready_unlisted hr] at this; cases this
      have h2 := wpOp_putIf hoj (hfree j oj hoj hji hjun (unlisted_ne hall hr)) (fun cs b => hsel i oi cs b hi) (fun cs b => hsel j oj cs b hoj) hQ hy h1
      have hfree' : ∀ k ok, ops[k]? = some ok → k ≠ i → (listed.setIfInBounds j true).getD k true = false →
          (∀ e ∈ ok.after, Region.binds .any e = true → e.on ≠ i) → oi.apart ops ok = true := fun k ok hk hki hun hno => by
        refine hfree k ok hk hki ?_ hno
        by_cases hjk : j = k
        · subst hjk; exact hjun
        · rw [getD_set_ne true hjk] at hun; exact hun
      refine wpOp_mono (fun a' w' h3 => ⟨h3.2.1, ih (listed.setIfInBounds j true) a' w' (hcl.step hj) hfree' (ready_mono hr (Ne.symm hji)) h3.1 (h3.2.1 hnt hS) ?_⟩) h2
      rw [Array.setIfInBounds_comm _ _ hji]
      exact h3.2.2
/-- What hands on its value in whatever world is taken first. -/
theorem wpAnyT_firstP {i : Nat} {oi : Oper} {v : Value} (hi : ops[i]? = some oi) (hsel : ∀ (j : Nat) (o : Oper) cs b, ops[j]? = some o → o.op ≠ .select cs b)
    (hQ : ∀ c a w, Q (.panic c) (a.put oi.dst v) w → Q (.panic c) a w) :
    ∀ (fuel : Nat) (listed : Array Bool) (a : Act) (w : World),
      (∀ j oj, ops[j]? = some oj → j ≠ i → listed.getD j true = false → (∀ e ∈ oj.after, Region.binds .any e = true → e.on ≠ i) → oi.apart ops oj = true) →
      i ∈ Region.ready .any ops listed → Yields P ops oi v a →
      wpAnyT P ops Q S tl fuel (listed.setIfInBounds i true) (a.put oi.dst v) w → wpAnyT P ops Q S tl (fuel + 1) listed a w := by
  intro fuel
  induction fuel with
  | zero =>
    intro listed a w _ hr hy H
    refine ⟨fun h => (by rw [h] at hr; cases hr), fun j hj => ?_⟩
    by_cases hji : j = i
    · subst hji; exact hy.wpOp hi ⟨fun _ h => h, H⟩
    · have := ready_mono hj hji
      rw [H.1] at this
      cases this
  | succ fuel ih =>
    intro listed a w hfree hr hy H
    refine ⟨fun h => (by rw [h] at hr; cases hr), fun j hj => ?_⟩
    by_cases hji : j = i
    · subst hji; exact hy.wpOp hi ⟨fun _ h => h, H⟩
    · have h1 := H.2 j (ready_mono hj hji)
      obtain ⟨hjun, oj, hoj, hall⟩ := mem_ready.1 hj
      have h2 := wpOp_put hoj (hfree j oj hoj hji hjun (unlisted_ne hall hr)) (fun cs b => hsel i oi cs b hi) (fun cs b => hsel j oj cs b hoj) hQ hy h1
      have hfree' : ∀ k ok, ops[k]? = some ok → k ≠ i → (listed.setIfInBounds j true).getD k true = false →
          (∀ e ∈ ok.after, Region.binds .any e = true → e.on ≠ i) → oi.apart ops ok = true := fun k ok hk hki hun hno => by
        refine hfree k ok hk hki ?_ hno
        by_cases hjk : j = k
        · subst hjk; exact hjun
        · rw [getD_set_ne true hjk] at hun; exact hun
      refine wpOp_mono (fun a' w' h3 => ⟨h3.2.1, ih (listed.setIfInBounds j true) a' w' hfree' (ready_mono hr (Ne.symm hji)) h3.1 ?_⟩) h2
      rw [Array.setIfInBounds_comm _ _ hji]
      exact h3.2.2
end

/-! ### The judgement -/
/-- Operation i may come up; nobody that could come before it touches its temporaries. -/
def okTake (ops : Array Oper) (m i : Nat) : Bool := Region.noSelect ops && Region.free .any ops (listedOf ops.size m) i && (Region.ready .any ops (listedOf ops.size m)).contains i
/-- All that S is not asked of wait for i. -/
def okLast (ops : Array Oper) (tl i : Nat) : Bool := (List.range ops.size).all (fun j => !tl.testBit j || waits ops ops.size j i) && Nat.blt tl (2 ^ ops.size)
theorem okLast_spec {ops : Array Oper} {tl i : Nat} (h : okLast ops tl i = true) : ∀ j, tl.testBit j = true → waits ops ops.size j i = true := by
  intro j hj
  simp only [okLast, Bool.and_eq_true, List.all_eq_true, List.mem_range] at h
  rcases Nat.lt_or_ge j ops.size with hlt | hge
  · have := h.1 j hlt
    simpa [hj] using this
  · have h2 : tl < 2 ^ ops.size := by simpa using h.2
    have : tl.testBit j = false := Nat.testBit_lt_two_pow (Nat.lt_of_lt_of_le h2 (Nat.pow_le_pow_right (by omega) hge))
    rw [this] at hj; cases hj
/-- These, and no others, may come up. -/
def readyAre (ops : Array Oper) (m : Nat) (rs : List Nat) : Bool := Region.ready .any ops (listedOf ops.size m) == rs
/-- All that has come up waited for nobody who has not. -/
def closedB (ops : Array Oper) (m : Nat) : Bool := (List.range ops.size).all fun j => !m.testBit j || match ops[j]? with
  | none => true
  | some o => o.after.all fun e => !Region.binds .any e || (Nat.blt e.on ops.size && m.testBit e.on)
theorem closedB_spec {ops : Array Oper} {m : Nat} (h : closedB ops m = true) : Closed ops (listedOf ops.size m) := by
  intro j o ho hl e he hb
  have hlt : j < ops.size := (Array.getElem?_eq_some_iff.1 ho).1
  rw [listedOf_get, if_pos hlt] at hl
  have := (List.all_eq_true.1 h) j (List.mem_range.2 hlt)
  simp only [hl, ho, Bool.not_true, Bool.false_or, Array.all_eq_true_iff_forall_mem] at this
  have h1 := this e he
  simp only [hb, Bool.not_true, Bool.false_or, Bool.and_eq_true] at h1
  rw [listedOf_get, if_pos (by simpa using h1.1)]
  exact h1.2

section
variable {P : Program} {n : Env} {W : World} {l : List Oper} {Q : Exit → Act → World → Prop} {Hr : List HP} {tl : Nat} {s : Slots} {H : List HP} {fuel m m' : Nat}

/-- The same, without panics. -/
def noP (Q : Exit → Act → World → Prop) : Exit → Act → World → Prop
  | .panic _, _, _ => False
  | e, a, w => Q e a w
theorem noP_le : ∀ e a w, noP Q e a w → Q e a w := fun e a w h => by
  cases e <;> first | exact h | exact h.elim
def AJ (P : Program) (n : Env) (W : World) (l : List Oper) (Q : Exit → Act → World → Prop) (Hr : List HP) (tl fuel m : Nat) (s : Slots) (H : List HP) : Prop :=
  ∀ a w, Fits n s a → St W w H → wpAnyT P l.toArray (noP Q) (fun w => St W w Hr) tl fuel (listedOf l.toArray.size m) a w
theorem listedOf_zero (k : Nat) : listedOf k 0 = Array.replicate k false := by
  apply Array.ext_getElem?
  intro j
  by_cases hj : j < k <;> simp [listedOf, hj]
/-- No operation is a defer. -/
def noDef (l : List Oper) : Bool := l.all fun o => match o.op with
  | .defer _ => false
  | _ => true
theorem noDef_get {l : List Oper} (h : noDef l = true) {i : Nat} {o : Oper} (hi : l.toArray[i]? = some o) : ∀ c, o.op ≠ .defer c := fun c hc => by
  have h1 : l[i]? = some o := by simpa using hi
  have h2 := List.all_eq_true.1 h o (List.mem_of_getElem? h1)
  simp [hc] at h2
def RoundOk (r : Option Nat) (l : List Oper) (Q : Exit → Act → World → Prop) : Prop := r = none ∨ (noDef l = true ∧ ¬ LetsOut Q)
theorem wpAnyIn_of {r : Option Nat} (hnd : noDef l = true) (hq : ¬ LetsOut Q) : ∀ (fuel : Nat) (listed : Array Bool) (a : Act) (w : World), wpAny P .any l.toArray Q fuel listed a w → wpAnyIn (fw r) 0 P .any l.toArray Q fuel listed a w
  | 0, _, _, _, h => h
  | fuel + 1, listed, a, w, h => by
    refine ⟨h.1, fun i hi => ?_⟩
    have h1 := h.2 i hi
    unfold wpOp at h1
    unfold wpOpIn
    split at h1
    · rename_i ho; simp only [ho]; exact wpAnyIn_of hnd hq fuel _ a w h1
    · rename_i o ho
      simp only [ho]
      split at h1
      · rename_i hw
        rw [if_pos hw]
        rcases h1 with h1 | h1
        · exact Oper.wpIn_mono (fun a w => wpAnyIn_of hnd hq fuel _ a w) (wpIn_ofN ⟨h1, noDef_get hnd ho⟩)
        · exact absurd h1.2 hq
      · rename_i hw
        rw [if_neg hw]
        exact ⟨fun _ _ => trivial, wpAnyIn_of hnd hq fuel _ _ w h1⟩
theorem AJ_start {id : Nat} (Hr : List HP) (tl : Nat) {k : Nat} (hm : P.follows .mixedOrders = true) (hk : l.length = k) (h : AJ P n W l Q Hr tl k 0 s H) (hnr : RoundOk n.r l Q := by first | exact .inl rfl | exact .inr ⟨rfl, fun ⟨_, _, h⟩ => h⟩) : CJ P n W Q (.region id l.toArray true) s H := by
  intro a w hf hs
  show (Code.region id l.toArray true).wpIn (fw n.r) 0 P Q a w
  rcases hnr with hnr | ⟨hnd, hq⟩
  rotate_left
  · have h1 := h a { w with drawn := w.drawn + 1 } hf (hs.drawn _)
    rw [listedOf_zero] at h1
    subst hk
    refine wpIn_mono (Q' := Q) ?_ (noP_le (Q := Q))
    exact wpIn_region_any hm (wpAnyIn_of hnd (show ¬ LetsOut (noP Q) from fun ⟨a, w, h⟩ => hq ⟨a, w, h⟩) _ _ _ _ (wpAny_of_T _ _ _ _ h1))
  rw [hnr]
  have h1 := h a { w with drawn := w.drawn + 1 } hf (hs.drawn _)
  rw [listedOf_zero] at h1
  subst hk
  exact (wpIn_wide (n := 0)).2 (Code.wp_mono (noP_le (Q := Q)) (wp_region_any hm (wpAny_of_T _ _ _ _ h1)))
theorem AJ_startH {id : Nat} (tl : Nat) {k : Nat} (hm : P.follows .mixedOrders = true) (hk : l.length = k) (h : AJ P n W l Q H tl k 0 s H) (hnr : RoundOk n.r l Q := by first | exact .inl rfl | exact .inr ⟨rfl, fun ⟨_, _, h⟩ => h⟩) : CJ P n W Q (.region id l.toArray true) s H := AJ_start H tl hm hk h hnr
/-- Bool results. -/
theorem bv {a b : Bool} (h : a = b) : Value.bool a = .bool b := by rw [h]
theorem bv_dec {p q : Prop} [Decidable p] [Decidable q] (h : p ↔ q) : Value.bool (decide p) = .bool (decide q) := bv (decide_eq_decide.2 h)
theorem bv_true {q : Prop} [Decidable q] (h : q) : Value.bool true = .bool (decide q) := bv (decide_eq_true h).symm
theorem bv_false {q : Prop} [Decidable q] (h : ¬ q) : Value.bool false = .bool (decide q) := bv (decide_eq_false h).symm
/-- The guard of an operation, decided. -/
def GY (ops : Array Oper) (s : Slots) (o : Oper) (b : Bool) : Prop := ∀ n a, Fits n s a → Region.wanted o (yielded ops a.tmps) = b
theorem GY_none {ops : Array Oper} {o : Oper} (hg : o.guard = none) : GY ops s o true := fun _ _ _ => by simp [Region.wanted, hg]
theorem GY_yes {ops : Array Oper} {o : Oper} {j d : Nat} {want t : Bool} (hg : o.guard = some (j, want)) (hd : (ops[j]?).bind (·.dst) = some d) (hl : look s d = some (.bool t)) (ht : t = want) : GY ops s o true :=
  fun _ _ hf => by simp [Region.wanted, hg, yielded_of hf hd hl, ht]
theorem GY_no {ops : Array Oper} {o : Oper} {j d : Nat} {want t : Bool} (hg : o.guard = some (j, want)) (hd : (ops[j]?).bind (·.dst) = some d) (hl : look s d = some (.bool t)) (ht : t = !want) : GY ops s o false :=
  fun _ _ hf => by subst ht; cases want <;> simp [Region.wanted, hg, yielded_of hf hd hl]
theorem GY_undef {ops : Array Oper} {o : Oper} {j d : Nat} {want : Bool} (hg : o.guard = some (j, want)) (hd : (ops[j]?).bind (·.dst) = some d) (hl : look s d = some undef) : GY ops s o false :=
  fun _ _ hf => by simp [Region.wanted, hg, yielded_undef hf hd hl]
theorem RJ_gy {ops : Array Oper} {o : Oper} {rest : List Oper} (hg : GY ops s o true) (h : OJ P n W o s H fun s' H' => RJ P n W ops Q rest s' H') : RJ P n W ops Q (o :: rest) s H := by
  intro a w hf hs
  refine wpListIn_step fun K hK => ?_
  rw [if_pos (hg n a hf)]
  exact wpIn_ofN (h a w hf hs K Q fun _ _ a' w' hk hf' hs' => hK a' w' (hk a' w' hf' hs'))
theorem RJ_gn {ops : Array Oper} {o : Oper} {rest : List Oper} {e : Nat} (hg : GY ops s o false) (hdst : o.dst = some e) (he : Nat.blt e n.n = true) (h : RJ P n W ops Q rest ((e, undef) :: s) H) : RJ P n W ops Q (o :: rest) s H := by
  intro a w hf hs
  refine wpSkip (hg n a hf) ?_
  rw [hdst]
  exact h _ w (hf.put he undef) hs
theorem RJ_gn0 {ops : Array Oper} {o : Oper} {rest : List Oper} (hg : GY ops s o false) (hdst : o.dst = none) (h : RJ P n W ops Q rest s H) : RJ P n W ops Q (o :: rest) s H := by
  intro a w hf hs
  refine wpSkip (hg n a hf) ?_
  rw [hdst]
  exact h _ w (hf.put_none undef) hs
theorem AJ_ent {H' : List HP} (hH : Ent H H') (h : AJ P n W l Q Hr tl fuel m s H') : AJ P n W l Q Hr tl fuel m s H := fun a w hf hs => h a w hf (hs.imp hH)
theorem AJ_entX {α : Type} {H' : α → List HP} (hH : EntX H H') (h : ∀ x, AJ P n W l Q Hr tl fuel m s (H' x)) : AJ P n W l Q Hr tl fuel m s H := by
  intro a w hf hs
  obtain ⟨gg, hgg⟩ := hs.heap
  obtain ⟨x, hx⟩ := hH _ hgg
  exact h x a w hf ⟨hs.os, hs.tape, hs.output, gg, hx⟩
/-- Taken first: what hands on a value in whatever world. -/
theorem AJ_takeP {d : Nat} {op : Op} {ty : TypeId} {pos : String} {after : Array Edge} {g : Option (Nat × Bool)} {v : Value} (i : Nat) (m' : Nat) (hi : l[i]? = some ⟨some d, op, ty, pos, after, g⟩) (hok : okTake l.toArray m i = true) (hm' : m ||| 2 ^ i = m')
    (hg : GY l.toArray s ⟨some d, op, ty, pos, after, g⟩ true) (hp : PJ P n ⟨some d, op, ty, pos, after, g⟩ s v) (hd : Nat.blt d n.n = true) (hQ : ∀ c a v w, noP Q (.panic c) (a.put (some d) v) w → noP Q (.panic c) a w)
    (h : AJ P n W l Q Hr tl fuel m' ((d, v) :: s) H) : AJ P n W l Q Hr tl (fuel + 1) m s H := by
  intro a w hf hs
  simp only [okTake, Bool.and_eq_true] at hok
  have hi' : l.toArray[i]? = some ⟨some d, op, ty, pos, after, g⟩ := by simpa using hi
  refine wpAnyT_firstP hi' (Region.noSelect_spec hok.1.1) (fun c a w => hQ c a v w) fuel _ a w (Region.free_spec hi' hok.1.2) (by simpa using hok.2) (.inl ⟨hg n a hf, fun w => hp a w hf⟩) ?_
  rw [listedOf_set, hm']
  exact h _ w (hf.put hd v) hs
/-- Passed over: its guard says no. -/
theorem AJ_skip {d : Nat} {op : Op} {ty : TypeId} {pos : String} {after : Array Edge} {g : Option (Nat × Bool)} (i : Nat) (m' : Nat) (hi : l[i]? = some ⟨some d, op, ty, pos, after, g⟩) (hok : okTake l.toArray m i = true) (hm' : m ||| 2 ^ i = m')
    (hg : GY l.toArray s ⟨some d, op, ty, pos, after, g⟩ false) (hd : Nat.blt d n.n = true) (hQ : ∀ c a v w, noP Q (.panic c) (a.put (some d) v) w → noP Q (.panic c) a w)
    (h : AJ P n W l Q Hr tl fuel m' ((d, undef) :: s) H) : AJ P n W l Q Hr tl (fuel + 1) m s H := by
  intro a w hf hs
  simp only [okTake, Bool.and_eq_true] at hok
  have hi' : l.toArray[i]? = some ⟨some d, op, ty, pos, after, g⟩ := by simpa using hi
  refine wpAnyT_firstP hi' (Region.noSelect_spec hok.1.1) (fun c a w => hQ c a undef w) fuel _ a w (Region.free_spec hi' hok.1.2) (by simpa using hok.2) (.inr ⟨hg n a hf, rfl⟩) ?_
  rw [listedOf_set, hm']
  exact h _ w (hf.put hd undef) hs
/-- Taken first: a reading of what nobody before it writes. -/
theorem AJ_takeV {d : Nat} {op : Op} {ty : TypeId} {pos : String} {after : Array Edge} {g : Option (Nat × Bool)} {v : Value} (i : Nat) (m' : Nat) (hi : l[i]? = some ⟨some d, op, ty, pos, after, g⟩) (hok : okTake l.toArray m i = true) (hm' : m ||| 2 ^ i = m')
    (hcl : closedB l.toArray m = true) (hlast : okLast l.toArray tl i = true) (hg : GY l.toArray s ⟨some d, op, ty, pos, after, g⟩ true) (he : Ent H Hr) (hp : VJ P n W ⟨some d, op, ty, pos, after, g⟩ s Hr v) (hd : Nat.blt d n.n = true)
    (hQ : ∀ c a v w, noP Q (.panic c) (a.put (some d) v) w → noP Q (.panic c) a w) (h : AJ P n W l Q Hr tl fuel m' ((d, v) :: s) H) : AJ P n W l Q Hr tl (fuel + 1) m s H := by
  intro a w hf hs
  simp only [okTake, Bool.and_eq_true] at hok
  have hi' : l.toArray[i]? = some ⟨some d, op, ty, pos, after, g⟩ := by simpa using hi
  refine wpAnyT_first hi' (Region.noSelect_spec hok.1.1) (fun c a w => hQ c a v w) (okLast_spec hlast) fuel _ a w (closedB_spec hcl) (Region.free_spec hi' hok.1.2) (by simpa using hok.2) (.inl ⟨hg n a hf, fun w hw => hp a w hf hw⟩) (hs.imp he) ?_
  rw [listedOf_set, hm']
  exact h _ w (hf.put hd v) hs
theorem wpOp_of_OJ {o : Oper} {i : Nat} {K : Slots → List HP → Prop} {next : Act → World → Prop} {a : Act} {w : World} (hi : l[i]? = some o) (hg : GY l.toArray s o true) (h : OJ P n W o s H K) (hf : Fits n s a) (hs : St W w H)
    (hn : ∀ s' H' a' w', K s' H' → Fits n s' a' → St W w' H' → next a' w') : wpOp P l.toArray Q i next a w := by
  have hi' : l.toArray[i]? = some o := by simpa using hi
  unfold wpOp
  simp only [hi', hg n a hf, if_true]
  exact .inl (h a w hf hs next Q hn).1
/-- Only this one may come up: it acts. -/
theorem AJ_op {o : Oper} (i : Nat) (m' : Nat) (hi : l[i]? = some o) (hr : readyAre l.toArray m [i] = true) (hm' : m ||| 2 ^ i = m') (hg : GY l.toArray s o true)
    (h : OJ P n W o s H fun s' H' => (tl.testBit i = false → Ent H' Hr) ∧ AJ P n W l Q Hr tl fuel m' s' H') : AJ P n W l Q Hr tl (fuel + 1) m s H := by
  intro a w hf hs
  have hr' : Region.ready .any l.toArray (listedOf l.toArray.size m) = [i] := by simpa [readyAre] using hr
  refine ⟨fun h0 => (by rw [hr'] at h0; cases h0), fun j hj => ?_⟩
  rw [hr'] at hj
  have : j = i := by simpa using hj
  subst this
  rw [listedOf_set, hm']
  exact wpOp_of_OJ hi hg h hf hs fun s' H' a' w' hk hf' hs' => ⟨fun ht _ => hs'.imp (hk.1 ht), hk.2 a' w' hf' hs'⟩
/-- One of two may come up. -/
theorem AJ_two {o o' : Oper} (i i' : Nat) (m' m'' : Nat) (hi : l[i]? = some o) (hi' : l[i']? = some o') (hr : readyAre l.toArray m [i, i'] = true) (hm' : m ||| 2 ^ i = m') (hm'' : m ||| 2 ^ i' = m'') (hg : GY l.toArray s o true) (hg' : GY l.toArray s o' true)
    (h : OJ P n W o s H fun s' H' => (tl.testBit i = false → Ent H' Hr) ∧ AJ P n W l Q Hr tl fuel m' s' H')
    (h' : OJ P n W o' s H fun s' H' => (tl.testBit i' = false → Ent H' Hr) ∧ AJ P n W l Q Hr tl fuel m'' s' H') : AJ P n W l Q Hr tl (fuel + 1) m s H := by
  intro a w hf hs
  have hr' : Region.ready .any l.toArray (listedOf l.toArray.size m) = [i, i'] := by simpa [readyAre] using hr
  refine ⟨fun h0 => (by rw [hr'] at h0; cases h0), fun j hj => ?_⟩
  rw [hr'] at hj
  simp only [List.mem_cons, List.not_mem_nil, or_false] at hj
  rcases hj with rfl | rfl
  · rw [listedOf_set, hm']
    exact wpOp_of_OJ hi hg h hf hs fun s' H' a' w' hk hf' hs' => ⟨fun ht _ => hs'.imp (hk.1 ht), hk.2 a' w' hf' hs'⟩
  · rw [listedOf_set, hm'']
    exact wpOp_of_OJ hi' hg' h' hf hs fun s' H' a' w' hk hf' hs' => ⟨fun ht _ => hs'.imp (hk.1 ht), hk.2 a' w' hf' hs'⟩
/-- All have come up. -/
theorem AJ_done (hr : readyAre l.toArray m [] = true) (h : QJ n W Q .normal s H) : AJ P n W l Q Hr tl fuel m s H := by
  intro a w hf hs
  have hr' : Region.ready .any l.toArray (listedOf l.toArray.size m) = [] := by simpa [readyAre] using hr
  cases fuel with
  | zero => exact ⟨hr', h a w hf hs⟩
  | succ k => exact ⟨fun _ => h a w hf hs, by rw [hr']; simp⟩
theorem AJ_splitD (d : Nat) {p : Prop} [Decidable p] (_hl : look s d = some (.bool (decide p)))
    (hT : decide p = true → p → AJ P n W l Q Hr tl fuel m s H) (hF : decide p = false → ¬ p → AJ P n W l Q Hr tl fuel m s H) : AJ P n W l Q Hr tl fuel m s H := by
  by_cases h : p
  · exact hT (decide_eq_true h) h
  · exact hF (decide_eq_false h) h
theorem AJ_splitN (d : Nat) {p : Prop} [Decidable p] (_hl : look s d = some (.bool (!decide p)))
    (hT : (!decide p) = true → ¬ p → AJ P n W l Q Hr tl fuel m s H) (hF : (!decide p) = false → p → AJ P n W l Q Hr tl fuel m s H) : AJ P n W l Q Hr tl fuel m s H := by
  by_cases h : p
  · exact hF (by simp [h]) h
  · exact hT (by simp [h]) h
theorem AJ_know (d : Nat) {t : Bool} (b : Bool) (_hl : look s d = some (.bool t)) (ht : t = b) (h : t = b → AJ P n W l Q Hr tl fuel m s H) : AJ P n W l Q Hr tl fuel m s H := h ht
theorem AJ_split (d : Nat) {t : Bool} (_hl : look s d = some (.bool t))
    (hT : t = true → AJ P n W l Q Hr tl fuel m s H) (hF : t = false → AJ P n W l Q Hr tl fuel m s H) : AJ P n W l Q Hr tl fuel m s H := by
  cases t
  · exact hF rfl
  · exact hT rfl
end
end Go.VG
