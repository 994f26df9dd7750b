/- A small separation logic over the model's heap: lists of assertions on disjoint blocks, and what a store, a new block and a draw do to them. -/
import Derived.WalkKit
namespace Go.VG

/-- A part of a heap: which block holds what, and whether it is shared: then it is only read from now on. -/
def PH : Type := Nat → Option (Obj × Bool)
/-- An assertion on a part of a heap. -/
def HP : Type := PH → Prop

def PH.disj (a b : PH) : Prop := ∀ k, a k = none ∨ b k = none ∨ (a k = b k ∧ ∃ o, a k = some (o, true))
def PH.uni (a b : PH) : PH := fun k => (a k).or (b k)
def PH.upd (h : PH) (b : Nat) (o : Obj) : PH := fun k => if k = b then some (o, false) else h k
def PH.one (b : Nat) (o : Obj) : PH := fun k => if k = b then some (o, false) else none
/-- A shared block. -/
def PH.oneR (b : Nat) (o : Obj) : PH := fun k => if k = b then some (o, true) else none

theorem PH.disj_symm {a b : PH} (h : a.disj b) : b.disj a := fun k => by
  rcases h k with h | h | ⟨h, o, ho⟩
  · exact .inr (.inl h)
  · exact .inl h
  · exact .inr (.inr ⟨h.symm, o, h ▸ ho⟩)
theorem PH.uni_comm {a b : PH} (h : a.disj b) : a.uni b = b.uni a := by
  funext k
  rcases h k with h | h | ⟨h, _⟩ <;> simp [PH.uni, h]
theorem PH.uni_assoc (a b c : PH) : (a.uni b).uni c = a.uni (b.uni c) := by
  funext k; simp [PH.uni, Option.or_assoc]
theorem PH.disj_uni_left {a b c : PH} (hab : a.disj b) : (a.uni b).disj c ↔ a.disj c ∧ b.disj c := by
  constructor
  · intro h
    refine ⟨fun k => ?_, fun k => ?_⟩
    · cases ha : a k with
      | none => exact .inl rfl
      | some o =>
        have := h k
        simp only [PH.uni, ha, Option.some_or] at this
        simpa using this
    · cases hb : b k with
      | none => exact .inl rfl
      | some o =>
        have h1 : (a.uni b) k = some o := by
          rcases hab k with h | h | ⟨h, _⟩
          · simp [PH.uni, h, hb]
          · rw [hb] at h; cases h
          · simp [PH.uni, h, hb]
        have := h k
        rw [h1] at this
        simpa using this
  · rintro ⟨h, h'⟩ k
    cases ha : a k with
    | none => have := h' k; simpa [PH.uni, ha] using this
    | some o => have := h k; simpa [PH.uni, ha] using this
theorem PH.disj_uni_right {a b c : PH} (hbc : b.disj c) : a.disj (b.uni c) ↔ a.disj b ∧ a.disj c := by
  constructor
  · intro h
    have := (PH.disj_uni_left hbc).1 (PH.disj_symm h)
    exact ⟨PH.disj_symm this.1, PH.disj_symm this.2⟩
  · rintro ⟨h, h'⟩
    exact PH.disj_symm ((PH.disj_uni_left hbc).2 ⟨PH.disj_symm h, PH.disj_symm h'⟩)

/-- All assertions of a list, each on a part of its own; whatever else there is. -/
def stars : List HP → PH → Prop
  | [], _ => True
  | A :: r, h => ∃ h1 h2, PH.disj h1 h2 ∧ h = PH.uni h1 h2 ∧ A h1 ∧ stars r h2

def pt (b : Nat) (o : Obj) : HP := fun h => h = PH.one b o
/-- A shared block: it may stand in a list more than once. -/
def ptR (b : Nat) (o : Obj) : HP := fun h => h = PH.oneR b o
def pur (p : Prop) : HP := fun _ => p
def ex {α : Type} (f : α → HP) : HP := fun h => ∃ x, f x h
def star (Hs : List HP) : HP := fun h => stars Hs h

theorem stars_mono : ∀ (H : List HP) {a b : PH}, a.disj b → stars H b → stars H (a.uni b)
  | [], _, _, _, _ => trivial
  | A :: r, a, b, hd, h => by
    obtain ⟨h1, h2, d, rfl, hA, hr⟩ := h
    have ⟨d1, d2⟩ := (PH.disj_uni_right d).1 hd
    refine ⟨h1, a.uni h2, ?_, ?_, hA, stars_mono r d2 hr⟩
    · exact (PH.disj_uni_right d2).2 ⟨PH.disj_symm d1, d⟩
    · rw [← PH.uni_assoc, ← PH.uni_assoc, PH.uni_comm d1]

theorem stars_swap {A B : HP} {r : List HP} {h : PH} (hh : stars (A :: B :: r) h) : stars (B :: A :: r) h := by
  obtain ⟨h1, h2, d, rfl, hA, h3, h4, d', rfl, hB, hr⟩ := hh
  have ⟨d1, d2⟩ := (PH.disj_uni_right d').1 d
  refine ⟨h3, h1.uni h4, (PH.disj_uni_right d2).2 ⟨PH.disj_symm d1, d'⟩, ?_, hB, h1, h4, d2, rfl, hA, hr⟩
  rw [← PH.uni_assoc, ← PH.uni_assoc, PH.uni_comm d1]
theorem stars_cons {A : HP} {r r' : List HP} {h : PH} (hr : ∀ h, stars r h → stars r' h) (hh : stars (A :: r) h) : stars (A :: r') h := by
  obtain ⟨h1, h2, d, rfl, hA, h3⟩ := hh
  exact ⟨h1, h2, d, rfl, hA, hr _ h3⟩
theorem stars_perm {H H' : List HP} (hp : H.Perm H') : ∀ h, stars H h → stars H' h := by
  induction hp with
  | nil => exact fun _ h => h
  | cons x _ ih => exact fun h hh => stars_cons ih hh
  | swap x y l => exact fun h hh => stars_swap hh
  | trans _ _ ih1 ih2 => exact fun h hh => ih2 _ (ih1 _ hh)
theorem stars_tail {A : HP} {r : List HP} {h : PH} (hh : stars (A :: r) h) : stars r h := by
  obtain ⟨h1, h2, d, rfl, _, hr⟩ := hh
  exact stars_mono r d hr
theorem stars_append {H H' : List HP} : ∀ {h : PH}, stars (H ++ H') h ↔ ∃ h1 h2, PH.disj h1 h2 ∧ h = PH.uni h1 h2 ∧ stars H h1 ∧ stars H' h2 := by
  induction H with
  | nil =>
    intro h
    constructor
    · intro hh
      exact ⟨fun _ => none, h, fun k => .inl rfl, by funext k; simp [PH.uni], trivial, hh⟩
    · rintro ⟨h1, h2, d, rfl, _, h3⟩
      exact stars_mono _ d h3
  | cons A r ih =>
    intro h
    constructor
    · rintro ⟨h1, h2, d, rfl, hA, hr⟩
      obtain ⟨h3, h4, d', rfl, hr1, hr2⟩ := ih.1 hr
      have ⟨d1, d2⟩ := (PH.disj_uni_right d').1 d
      exact ⟨h1.uni h3, h4, (PH.disj_uni_left d1).2 ⟨d2, d'⟩, (PH.uni_assoc _ _ _).symm, ⟨h1, h3, d1, rfl, hA, hr1⟩, hr2⟩
    · rintro ⟨h12, h4, d, rfl, ⟨h1, h3, d1, rfl, hA, hr1⟩, hr2⟩
      have ⟨d2, d'⟩ := (PH.disj_uni_left d1).1 d
      exact ⟨h1, h3.uni h4, (PH.disj_uni_right d').2 ⟨d1, d2⟩, PH.uni_assoc _ _ _, hA, ih.2 ⟨h3, h4, d', rfl, hr1, hr2⟩⟩
theorem stars_star {Hs r : List HP} {h : PH} : stars (star Hs :: r) h ↔ stars (Hs ++ r) h := stars_append.symm
theorem stars_ex {α : Type} {f : α → HP} {r : List HP} {h : PH} : stars (ex f :: r) h ↔ ∃ x, stars (f x :: r) h := by
  constructor
  · rintro ⟨h1, h2, d, rfl, ⟨x, hx⟩, hr⟩; exact ⟨x, h1, h2, d, rfl, hx, hr⟩
  · rintro ⟨x, h1, h2, d, rfl, hx, hr⟩; exact ⟨h1, h2, d, rfl, ⟨x, hx⟩, hr⟩
theorem stars_pur {p : Prop} {r : List HP} {h : PH} : stars (pur p :: r) h ↔ p ∧ stars r h := by
  constructor
  · rintro ⟨h1, h2, d, rfl, hp, hr⟩; exact ⟨hp, stars_mono r d hr⟩
  · rintro ⟨hp, hr⟩; exact ⟨fun _ => none, h, fun k => .inl rfl, by funext k; simp [PH.uni], hp, hr⟩
theorem stars_pt {b : Nat} {o : Obj} {r : List HP} {h : PH} (hh : stars (pt b o :: r) h) : h b = some (o, false) := by
  obtain ⟨h1, h2, d, rfl, rfl, hr⟩ := hh
  simp [PH.uni, PH.one]
theorem stars_ptR {b : Nat} {o : Obj} {r : List HP} {h : PH} (hh : stars (ptR b o :: r) h) : h b = some (o, true) := by
  obtain ⟨h1, h2, d, rfl, rfl, hr⟩ := hh
  simp [PH.uni, PH.oneR]
theorem one_disj {b : Nat} {o : Obj} {h2 : PH} (d : (PH.one b o).disj h2) : h2 b = none := by
  rcases d b with h | h | ⟨_, x, h⟩
  · simp [PH.one] at h
  · exact h
  · simp [PH.one] at h
theorem disj_of_none {b : Nat} {h1 h2 : PH} (hb : h2 b = none) (h1' : ∀ k, k ≠ b → h1 k = none) : h1.disj h2 := fun k => by
  by_cases hk : k = b
  · subst hk; exact .inr (.inl hb)
  · exact .inl (h1' k hk)
theorem stars_upd {b : Nat} {o o' : Obj} {r : List HP} {h : PH} (hh : stars (pt b o :: r) h) : stars (pt b o' :: r) (h.upd b o') := by
  obtain ⟨h1, h2, d, rfl, rfl, hr⟩ := hh
  refine ⟨PH.one b o', h2, disj_of_none (one_disj d) (fun k hk => by simp [PH.one, hk]), ?_, rfl, hr⟩
  funext k
  by_cases hk : k = b <;> simp [PH.upd, PH.uni, PH.one, hk]
theorem stars_new {b : Nat} {o : Obj} {r : List HP} {h : PH} (hb : h b = none) (hh : stars r h) : stars (pt b o :: r) (h.upd b o) := by
  refine ⟨PH.one b o, h, disj_of_none hb (fun k hk => by simp [PH.one, hk]), ?_, rfl, hh⟩
  funext k
  by_cases hk : k = b <;> simp [PH.upd, PH.uni, PH.one, hk]
/-- A shared assertion may be had twice. -/
def Dup (A : HP) : Prop := ∀ h, A h → ∀ k, h k = none ∨ ∃ o, h k = some (o, true)
theorem stars_dup {A : HP} (hA : Dup A) {r : List HP} {h : PH} (hh : stars (A :: r) h) : stars (A :: A :: r) h := by
  obtain ⟨h1, h2, d, rfl, h3, hr⟩ := hh
  have hdd : h1.disj h1 := fun k => by
    rcases hA h1 h3 k with h | ⟨o, h⟩
    · exact .inl h
    · exact .inr (.inr ⟨rfl, o, h⟩)
  refine ⟨h1, h1.uni h2, (PH.disj_uni_right d).2 ⟨hdd, d⟩, ?_, h3, h1, h2, d, rfl, h3, hr⟩
  funext k
  simp only [PH.uni]
  cases h1 k <;> rfl
theorem Dup.ptR {b : Nat} {o : Obj} : Dup (ptR b o) := by
  rintro h rfl k
  by_cases hk : k = b
  · exact .inr ⟨o, by simp [PH.oneR, hk]⟩
  · exact .inl (by simp [PH.oneR, hk])
theorem Dup.pur {p : Prop} (hp : ∀ h : PH, p → ∀ k, h k = none ∨ ∃ o, h k = some (o, true)) : Dup (pur p) := fun h hh => hp h hh
/-- Everything that is shared: the largest part of a heap that may be had twice. -/
def PH.sh (h : PH) : PH := fun k => match h k with
  | some (o, true) => some (o, true)
  | _ => none
/-- A pure fact and nothing else. -/
def emp (p : Prop) : HP := fun h => p ∧ h = fun _ => none
theorem Dup.emp {p : Prop} : Dup (emp p) := by
  rintro h ⟨_, rfl⟩ k; exact .inl rfl
theorem stars_emp {p : Prop} {r : List HP} {h : PH} : stars (emp p :: r) h ↔ p ∧ stars r h := by
  constructor
  · rintro ⟨h1, h2, d, rfl, ⟨hp, _⟩, hr⟩; exact ⟨hp, stars_mono r d hr⟩
  · rintro ⟨hp, hr⟩; exact ⟨fun _ => none, h, fun k => .inl rfl, by funext k; simp [PH.uni], ⟨hp, rfl⟩, hr⟩
/-- All of these and nothing else. -/
def starX : List HP → HP
  | [] => fun h => h = fun _ => none
  | A :: r => fun h => ∃ h1 h2, PH.disj h1 h2 ∧ h = PH.uni h1 h2 ∧ A h1 ∧ starX r h2
theorem Dup.starX : ∀ {Hs : List HP}, (∀ A ∈ Hs, Dup A) → Dup (starX Hs)
  | [], _ => by rintro h rfl k; exact .inl rfl
  | A :: r, hd => by
    rintro h ⟨h1, h2, d, rfl, hA, hr⟩ k
    have e1 := hd A (by simp) h1 hA k
    have e2 := Dup.starX (Hs := r) (fun B hB => hd B (by simp [hB])) h2 hr k
    rcases e1 with e1 | ⟨o, e1⟩
    · simpa [PH.uni, e1] using e2
    · exact .inr ⟨o, by simp [PH.uni, e1]⟩
theorem starX_stars : ∀ {Hs : List HP} {h : PH}, starX Hs h → stars Hs h
  | [], _, _ => trivial
  | _ :: _, _, ⟨h1, h2, d, e, hA, hr⟩ => ⟨h1, h2, d, e, hA, starX_stars hr⟩
theorem stars_starX : ∀ {Hs r : List HP} {h : PH}, stars (starX Hs :: r) h ↔ stars (Hs ++ r) h := by
  intro Hs
  induction Hs with
  | nil =>
    intro r h
    constructor
    · rintro ⟨h1, h2, d, rfl, _, hr⟩; exact stars_mono r d hr
    · intro hh; exact ⟨fun _ => none, h, fun k => .inl rfl, by funext k; simp [PH.uni], rfl, hh⟩
  | cons A Hs ih =>
    intro r h
    constructor
    · rintro ⟨h12, h3, d, rfl, ⟨h1, h2, d', rfl, hA, hr⟩, hr3⟩
      have ⟨d1, d2⟩ := (PH.disj_uni_left d').1 d
      exact ⟨h1, h2.uni h3, (PH.disj_uni_right d2).2 ⟨d', d1⟩, PH.uni_assoc _ _ _, hA, ih.1 ⟨h2, h3, d2, rfl, hr, hr3⟩⟩
    · rintro ⟨h1, h23, d, rfl, hA, hr⟩
      obtain ⟨h2, h3, d', rfl, h2', h3'⟩ := ih.2 hr
      have ⟨d1, d2⟩ := (PH.disj_uni_right d').1 d
      exact ⟨h1.uni h2, h3, (PH.disj_uni_left d1).2 ⟨d2, d'⟩, (PH.uni_assoc _ _ _).symm, ⟨h1, h2, d1, rfl, hA, h2'⟩, h3'⟩

/-- The heap of a world as a part of a heap; with marks of what is shared. -/
def hpg (g : Nat → Bool) (w : World) : PH := fun b => w.heap[b]?.map fun o => (o, g b)
def hp (w : World) : PH := hpg (fun _ => false) w

/-- The streams are those of W, and the assertions hold, each on blocks of its own. -/
structure St (W w : World) (H : List HP) : Prop where
  os : w.os = W.os
  tape : w.tape = W.tape
  output : w.output = W.output
  heap : ∃ g, stars H (hpg g w)

section
variable {W w : World} {H H' : List HP}

theorem St.imp (h : St W w H) (hi : ∀ h, stars H h → stars H' h) : St W w H' := ⟨h.os, h.tape, h.output, let ⟨g, hg⟩ := h.heap; ⟨g, hi _ hg⟩⟩
theorem St.perm (h : St W w H) (hp : H.Perm H') : St W w H' := h.imp (stars_perm hp)
theorem St.drew (h : St W w H) : St W w.drew H := ⟨h.os, h.tape, h.output, h.heap⟩
theorem St.drawn (h : St W w H) (n : Nat) : St W { w with drawn := n } H := ⟨h.os, h.tape, h.output, h.heap⟩
theorem hpg_some {g : Nat → Bool} {w : World} {b : Nat} {o : Obj} {t : Bool} (h : hpg g w b = some (o, t)) : w.heap[b]? = some o := by
  unfold hpg at h
  cases hb : w.heap[b]? with
  | none => rw [hb] at h; cases h
  | some x => rw [hb] at h; simp at h; rw [h.1]
theorem St.blk {b : Nat} {o : Obj} (h : St W w (pt b o :: H)) : w.heap[b]? = some o := let ⟨_, hg⟩ := h.heap; hpg_some (stars_pt hg)
theorem St.blkR {b : Nat} {o : Obj} (h : St W w (ptR b o :: H)) : w.heap[b]? = some o := let ⟨_, hg⟩ := h.heap; hpg_some (stars_ptR hg)
/-- A block is shared from now on. -/
theorem St.share {b : Nat} {o : Obj} (h : St W w (pt b o :: H)) : St W w (ptR b o :: H) := by
  obtain ⟨g, h1, h2, d, e, rfl, hr⟩ := h.heap
  refine ⟨h.os, h.tape, h.output, fun k => if k = b then true else g k, PH.oneR b o, h2, disj_of_none (one_disj d) (fun k hk => by simp [PH.oneR, hk]), ?_, rfl, hr⟩
  funext k
  have hk := congrFun e k
  by_cases hkb : k = b
  · subst hkb
    simp only [PH.uni, PH.one, if_true, Option.some_or, hpg] at hk
    have hw := hpg_some (g := g) (w := w) (b := k) hk
    simp [hpg, hw, PH.uni, PH.oneR]
  · simp only [hpg, PH.uni, PH.one, PH.oneR, hkb, if_false] at hk ⊢
    exact hk
theorem hpg_setIfInBounds {g : Nat → Bool} {w : World} {b : Nat} {o o' : Obj} (h : hpg g w b = some (o, false)) : hpg g { w with heap := w.heap.setIfInBounds b o' } = (hpg g w).upd b o' := by
  have hw := hpg_some h
  have hb : b < w.heap.size := by
    rcases Nat.lt_or_ge b w.heap.size with h' | h'
    · exact h'
    · simp [Array.getElem?_eq_none h'] at hw
  have hgb : g b = false := by simp [hpg, hw] at h; exact h
  funext k
  simp only [hpg, PH.upd]
  rw [Array.getElem?_setIfInBounds]
  by_cases hk : k = b
  · subst hk; simp [hb, hgb]
  · have : ¬ b = k := fun e => hk e.symm
    simp [hk, this]
theorem St.setObj {b : Nat} {o o' : Obj} (h : St W w (pt b o :: H)) : St W { w with heap := w.heap.setIfInBounds b o' } (pt b o' :: H) := by
  obtain ⟨g, hg⟩ := h.heap
  refine ⟨h.os, h.tape, h.output, g, ?_⟩
  rw [hpg_setIfInBounds (stars_pt hg)]
  exact stars_upd hg
theorem setCell_eq {w : World} {b i : Nat} {c : Array Value} {T : TypeId} {fr : Nat × Nat} {v : Value} (hb : w.heap[b]? = some (.cells c T fr)) :
    w.setCell ⟨b, i, none⟩ v = { w with heap := w.heap.setIfInBounds b (.cells (c.setIfInBounds i v) T fr) } := by
  unfold World.setCell
  congr 1
  apply Array.ext_getElem?
  intro k
  rw [Array.getElem?_modify, Array.getElem?_setIfInBounds]
  have hlt : b < w.heap.size := by
    rcases Nat.lt_or_ge b w.heap.size with h' | h'
    · exact h'
    · simp [Array.getElem?_eq_none h'] at hb
  by_cases hk : b = k
  · subst hk; rw [if_pos rfl, if_pos rfl, if_pos hlt, hb]; rfl
  · simp [hk]
theorem St.setCell {b i : Nat} {c : Array Value} {T : TypeId} {fr : Nat × Nat} {v : Value} (h : St W w (pt b (.cells c T fr) :: H)) :
    St W (w.setCell ⟨b, i, none⟩ v) (pt b (.cells (c.setIfInBounds i v) T fr) :: H) := by
  rw [setCell_eq h.blk]
  exact h.setObj
theorem St.alloc (h : St W w H) (o : Obj) : St W (w.alloc o) (pt w.heap.size o :: H) := by
  obtain ⟨g, hg⟩ := h.heap
  refine ⟨h.os, h.tape, h.output, fun k => if k = w.heap.size then false else g k, ?_⟩
  have : hpg (fun k => if k = w.heap.size then false else g k) (w.alloc o) = (hpg g w).upd w.heap.size o := by
    funext k
    simp only [hpg, PH.upd, World.alloc, Array.getElem?_push]
    by_cases hk : k = w.heap.size
    · simp [hk]
    · simp [hk]
  rw [this]
  exact stars_new (by simp [hpg]) hg
theorem St.cell {b i : Nat} {c : Array Value} {T : TypeId} {fr : Nat × Nat} (h : St W w (pt b (.cells c T fr) :: H)) : w.cell? ⟨b, i, none⟩ = c[i]? := by
  unfold World.cell?
  rw [show w.heap[({ block := b, off := i, spot := none } : Addr).block]? = _ from h.blk]
  simp
theorem St.frozen {b i : Nat} {c : Array Value} {T : TypeId} {lo hi : Nat} (h : St W w (pt b (.cells c T (lo, hi)) :: H)) :
    w.frozen? ⟨b, i, none⟩ = (decide (lo ≤ i) && decide (i < hi)) := by
  unfold World.frozen?
  rw [show w.heap[({ block := b, off := i, spot := none } : Addr).block]? = _ from h.blk]

theorem St.tail {A : HP} (h : St W w (A :: H)) : St W w H := h.imp fun _ => stars_tail
theorem St.ex_iff {α : Type} {f : α → HP} : St W w (ex f :: H) ↔ ∃ x, St W w (f x :: H) :=
  ⟨fun h => let ⟨g, hg⟩ := h.heap; let ⟨x, hx⟩ := stars_ex.1 hg; ⟨x, h.os, h.tape, h.output, g, hx⟩, fun ⟨x, h⟩ => let ⟨g, hg⟩ := h.heap; ⟨h.os, h.tape, h.output, g, stars_ex.2 ⟨x, hg⟩⟩⟩
theorem St.pur_iff {p : Prop} : St W w (pur p :: H) ↔ p ∧ St W w H :=
  ⟨fun h => let ⟨g, hg⟩ := h.heap; let ⟨x, hx⟩ := stars_pur.1 hg; ⟨x, h.os, h.tape, h.output, g, hx⟩, fun ⟨x, h⟩ => let ⟨g, hg⟩ := h.heap; ⟨h.os, h.tape, h.output, g, stars_pur.2 ⟨x, hg⟩⟩⟩
theorem St.star_iff {Hs : List HP} : St W w (star Hs :: H) ↔ St W w (Hs ++ H) :=
  ⟨fun h => h.imp fun _ => stars_star.1, fun h => h.imp fun _ => stars_star.2⟩
end

/-- One place in a list of assertions: A stands there, C X is the list with X in its place. -/
structure Foc (H : List HP) (A : HP) (C : HP → List HP) : Prop where
  out : H = C A
  ctx : ∃ L R, ∀ X, C X = L ++ X :: R
/-- A stands in the list, R is the rest. -/
structure Del (H : List HP) (A : HP) (R : List HP) : Prop where
  out : H.Perm (A :: R)
/-- These stand in the list, R is the rest. -/
structure Dels (H : List HP) (As : List HP) (R : List HP) : Prop where
  out : H.Perm (As ++ R)

theorem Foc.focus {H : List HP} {A : HP} {C : HP → List HP} (f : Foc H A C) : ∃ F, H.Perm (A :: F) ∧ ∀ X, (C X).Perm (X :: F) := by
  obtain ⟨L, R, hc⟩ := f.ctx
  refine ⟨L ++ R, ?_, fun X => ?_⟩
  · rw [f.out, hc]; exact List.perm_middle
  · rw [hc]; exact List.perm_middle
theorem Dels.nil {H : List HP} : Dels H [] H := ⟨List.Perm.refl _⟩
theorem Dels.cons {H H' R : List HP} {A : HP} {As : List HP} (h : Del H A H') (h' : Dels H' As R) : Dels H (A :: As) R :=
  ⟨h.out.trans (List.Perm.cons A h'.out)⟩
theorem Del.of {L R : List HP} {A : HP} : Del (L ++ A :: R) A (L ++ R) := ⟨List.perm_middle⟩
section
variable {X0 X1 X2 X3 X4 X5 X6 X7 X8 X9 X10 X11 A : HP} {R : List HP}
theorem foc0 : Foc (A :: R) A (fun X => X :: R) := ⟨rfl, [], R, fun _ => rfl⟩
theorem foc1 : Foc (X0 :: A :: R) A (fun X => X0 :: X :: R) := ⟨rfl, [X0], R, fun _ => rfl⟩
theorem foc2 : Foc (X0 :: X1 :: A :: R) A (fun X => X0 :: X1 :: X :: R) := ⟨rfl, [X0, X1], R, fun _ => rfl⟩
theorem foc3 : Foc (X0 :: X1 :: X2 :: A :: R) A (fun X => X0 :: X1 :: X2 :: X :: R) := ⟨rfl, [X0, X1, X2], R, fun _ => rfl⟩
theorem foc4 : Foc (X0 :: X1 :: X2 :: X3 :: A :: R) A (fun X => X0 :: X1 :: X2 :: X3 :: X :: R) := ⟨rfl, [X0, X1, X2, X3], R, fun _ => rfl⟩
theorem foc5 : Foc (X0 :: X1 :: X2 :: X3 :: X4 :: A :: R) A (fun X => X0 :: X1 :: X2 :: X3 :: X4 :: X :: R) := ⟨rfl, [X0, X1, X2, X3, X4], R, fun _ => rfl⟩
theorem foc6 : Foc (X0 :: X1 :: X2 :: X3 :: X4 :: X5 :: A :: R) A (fun X => X0 :: X1 :: X2 :: X3 :: X4 :: X5 :: X :: R) := ⟨rfl, [X0, X1, X2, X3, X4, X5], R, fun _ => rfl⟩
theorem foc7 : Foc (X0 :: X1 :: X2 :: X3 :: X4 :: X5 :: X6 :: A :: R) A (fun X => X0 :: X1 :: X2 :: X3 :: X4 :: X5 :: X6 :: X :: R) := ⟨rfl, [X0, X1, X2, X3, X4, X5, X6], R, fun _ => rfl⟩
theorem foc8 : Foc (X0 :: X1 :: X2 :: X3 :: X4 :: X5 :: X6 :: X7 :: A :: R) A (fun X => X0 :: X1 :: X2 :: X3 :: X4 :: X5 :: X6 :: X7 :: X :: R) := ⟨rfl, [X0, X1, X2, X3, X4, X5, X6, X7], R, fun _ => rfl⟩
theorem foc9 : Foc (X0 :: X1 :: X2 :: X3 :: X4 :: X5 :: X6 :: X7 :: X8 :: A :: R) A (fun X => X0 :: X1 :: X2 :: X3 :: X4 :: X5 :: X6 :: X7 :: X8 :: X :: R) := ⟨rfl, [X0, X1, X2, X3, X4, X5, X6, X7, X8], R, fun _ => rfl⟩
theorem foc10 : Foc (X0 :: X1 :: X2 :: X3 :: X4 :: X5 :: X6 :: X7 :: X8 :: X9 :: A :: R) A (fun X => X0 :: X1 :: X2 :: X3 :: X4 :: X5 :: X6 :: X7 :: X8 :: X9 :: X :: R) := ⟨rfl, [X0, X1, X2, X3, X4, X5, X6, X7, X8, X9], R, fun _ => rfl⟩
theorem foc11 : Foc (X0 :: X1 :: X2 :: X3 :: X4 :: X5 :: X6 :: X7 :: X8 :: X9 :: X10 :: A :: R) A (fun X => X0 :: X1 :: X2 :: X3 :: X4 :: X5 :: X6 :: X7 :: X8 :: X9 :: X10 :: X :: R) := ⟨rfl, [X0, X1, X2, X3, X4, X5, X6, X7, X8, X9, X10], R, fun _ => rfl⟩
theorem del0 : Del (A :: R) A R := ⟨List.Perm.refl _⟩
theorem del1 : Del (X0 :: A :: R) A (X0 :: R) := Del.of (L := [X0])
theorem del2 : Del (X0 :: X1 :: A :: R) A (X0 :: X1 :: R) := Del.of (L := [X0, X1])
theorem del3 : Del (X0 :: X1 :: X2 :: A :: R) A (X0 :: X1 :: X2 :: R) := Del.of (L := [X0, X1, X2])
theorem del4 : Del (X0 :: X1 :: X2 :: X3 :: A :: R) A (X0 :: X1 :: X2 :: X3 :: R) := Del.of (L := [X0, X1, X2, X3])
theorem del5 : Del (X0 :: X1 :: X2 :: X3 :: X4 :: A :: R) A (X0 :: X1 :: X2 :: X3 :: X4 :: R) := Del.of (L := [X0, X1, X2, X3, X4])
theorem del6 : Del (X0 :: X1 :: X2 :: X3 :: X4 :: X5 :: A :: R) A (X0 :: X1 :: X2 :: X3 :: X4 :: X5 :: R) := Del.of (L := [X0, X1, X2, X3, X4, X5])
theorem del7 : Del (X0 :: X1 :: X2 :: X3 :: X4 :: X5 :: X6 :: A :: R) A (X0 :: X1 :: X2 :: X3 :: X4 :: X5 :: X6 :: R) := Del.of (L := [X0, X1, X2, X3, X4, X5, X6])
theorem del8 : Del (X0 :: X1 :: X2 :: X3 :: X4 :: X5 :: X6 :: X7 :: A :: R) A (X0 :: X1 :: X2 :: X3 :: X4 :: X5 :: X6 :: X7 :: R) := Del.of (L := [X0, X1, X2, X3, X4, X5, X6, X7])
theorem del9 : Del (X0 :: X1 :: X2 :: X3 :: X4 :: X5 :: X6 :: X7 :: X8 :: A :: R) A (X0 :: X1 :: X2 :: X3 :: X4 :: X5 :: X6 :: X7 :: X8 :: R) := Del.of (L := [X0, X1, X2, X3, X4, X5, X6, X7, X8])
theorem del10 : Del (X0 :: X1 :: X2 :: X3 :: X4 :: X5 :: X6 :: X7 :: X8 :: X9 :: A :: R) A (X0 :: X1 :: X2 :: X3 :: X4 :: X5 :: X6 :: X7 :: X8 :: X9 :: R) := Del.of (L := [X0, X1, X2, X3, X4, X5, X6, X7, X8, X9])
theorem del11 : Del (X0 :: X1 :: X2 :: X3 :: X4 :: X5 :: X6 :: X7 :: X8 :: X9 :: X10 :: A :: R) A (X0 :: X1 :: X2 :: X3 :: X4 :: X5 :: X6 :: X7 :: X8 :: X9 :: X10 :: R) := Del.of (L := [X0, X1, X2, X3, X4, X5, X6, X7, X8, X9, X10])
end
end Go.VG
