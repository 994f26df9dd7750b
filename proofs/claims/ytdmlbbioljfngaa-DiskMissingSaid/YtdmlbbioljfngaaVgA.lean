/- A small separation logic over the model's heap: lists of assertions on disjoint blocks, and what a store, a new block and a draw do to them. -/
import Derived.WalkKit
namespace Go.VG

/-- A part of a heap: which block holds what. -/
def PH : Type := Nat → Option Obj
/-- An assertion on a part of a heap. -/
def HP : Type := PH → Prop

def PH.disj (a b : PH) : Prop := ∀ k, a k = none ∨ b k = none
def PH.uni (a b : PH) : PH := fun k => (a k).or (b k)
def PH.upd (h : PH) (b : Nat) (o : Obj) : PH := fun k => if k = b then some o else h k
def PH.one (b : Nat) (o : Obj) : PH := fun k => if k = b then some o else none

theorem PH.disj_symm {a b : PH} (h : a.disj b) : b.disj a := fun k => (h k).symm
theorem PH.uni_comm {a b : PH} (h : a.disj b) : a.uni b = b.uni a := by
  funext k
  rcases h k with h | h <;> simp [PH.uni, h]
theorem PH.uni_assoc (a b c : PH) : (a.uni b).uni c = a.uni (b.uni c) := by
  funext k; simp [PH.uni, Option.or_assoc]
theorem PH.disj_uni_left {a b c : PH} : (a.uni b).disj c ↔ a.disj c ∧ b.disj c := by
  constructor
  · intro h
    refine ⟨fun k => ?_, fun k => ?_⟩ <;> rcases h k with h | h <;> first | exact .inr h | (simp [PH.uni] at h; simp [h])
  · rintro ⟨h, h'⟩ k
    rcases h k with h | h
    · rcases h' k with h' | h'
      · left; simp [PH.uni, h, h']
      · exact .inr h'
    · exact .inr h
theorem PH.disj_uni_right {a b c : PH} : a.disj (b.uni c) ↔ a.disj b ∧ a.disj c := by
  constructor
  · intro h
    have := PH.disj_uni_left.1 (PH.disj_symm h)
    exact ⟨PH.disj_symm this.1, PH.disj_symm this.2⟩
  · rintro ⟨h, h'⟩
    exact PH.disj_symm (PH.disj_uni_left.2 ⟨PH.disj_symm h, PH.disj_symm h'⟩)

/-- All assertions of a list, each on a part of its own; whatever else there is. -/
def stars : List HP → PH → Prop
  | [], _ => True
  | A :: r, h => ∃ h1 h2, PH.disj h1 h2 ∧ h = PH.uni h1 h2 ∧ A h1 ∧ stars r h2

def pt (b : Nat) (o : Obj) : HP := fun h => h = PH.one b o
def pur (p : Prop) : HP := fun _ => p
def ex {α : Type} (f : α → HP) : HP := fun h => ∃ x, f x h
def star (Hs : List HP) : HP := fun h => stars Hs h

theorem stars_mono : ∀ (H : List HP) {a b : PH}, a.disj b → stars H b → stars H (a.uni b)
  | [], _, _, _, _ => trivial
  | A :: r, a, b, hd, h => by
    obtain ⟨h1, h2, d, rfl, hA, hr⟩ := h
    have ⟨d1, d2⟩ := PH.disj_uni_right.1 hd
    refine ⟨h1, a.uni h2, ?_, ?_, hA, stars_mono r d2 hr⟩
    · exact PH.disj_uni_right.2 ⟨PH.disj_symm d1, d⟩
    · rw [← PH.uni_assoc, ← PH.uni_assoc, PH.uni_comm d1]

theorem stars_swap {A B : HP} {r : List HP} {h : PH} (hh : stars (A :: B :: r) h) : stars (B :: A :: r) h := by
  obtain ⟨h1, h2, d, rfl, hA, h3, h4, d', rfl, hB, hr⟩ := hh
  have ⟨d1, d2⟩ := PH.disj_uni_right.1 d
  refine ⟨h3, h1.uni h4, PH.disj_uni_right.2 ⟨PH.disj_symm d1, d'⟩, ?_, hB, h1, h4, d2, rfl, hA, hr⟩
  rw [← PH.uni_assoc, ← PH.uni_assoc, PH.uni_comm d1]
theorem stars_cons {A : HP} {r r' : List HP} {h : PH} (hr : ∀ h, stars r h → stars r' h) (hh : stars (A :: r) h) : stars (A :: r') h := by
  obtain ⟨h1, h2, d, rfl, hA, h3⟩ := hh
  exact ⟨h1, h2, d, rfl, hA, hr _ h3⟩
theorem stars_perm {H H' : List HP} (hp : H.Perm H') : ∀ h, stars H h → stars H' h := by
  induction hp with
  | nil => exact fun _ h => h
  | cons x _ ih => exact fun h hh => stars_cons ih hh
  | swap x y l => exact fun h hh => stars_swap hh
  | trans _ _ ih1 ih2 => exact fun h hh => ih2 _ (ih1 _ hh)
theorem stars_tail {A : HP} {r : List HP} {h : PH} (hh : stars (A :: r) h) : stars r h := by
  obtain ⟨h1, h2, d, rfl, _, hr⟩ := hh
  exact stars_mono r d hr
theorem stars_append {H H' : List HP} : ∀ {h : PH}, stars (H ++ H') h ↔ ∃ h1 h2, PH.disj h1 h2 ∧ h = PH.uni h1 h2 ∧ stars H h1 ∧ stars H' h2 := by
  induction H with
  | nil =>
    intro h
    constructor
    · intro hh
      exact ⟨fun _ => none, h, fun k => .inl rfl, by funext k; simp [PH.uni], trivial, hh⟩
    · rintro ⟨h1, h2, d, rfl, _, h3⟩
      exact stars_mono _ d h3
  | cons A r ih =>
    intro h
    constructor
    · rintro ⟨h1, h2, d, rfl, hA, hr⟩
      obtain ⟨h3, h4, d', rfl, hr1, hr2⟩ := ih.1 hr
      have ⟨d1, d2⟩ := PH.disj_uni_right.1 d
      exact ⟨h1.uni h3, h4, PH.disj_uni_left.2 ⟨d2, d'⟩, (PH.uni_assoc _ _ _).symm, ⟨h1, h3, d1, rfl, hA, hr1⟩, hr2⟩
    · rintro ⟨h12, h4, d, rfl, ⟨h1, h3, d1, rfl, hA, hr1⟩, hr2⟩
      have ⟨d2, d'⟩ := PH.disj_uni_left.1 d
      exact ⟨h1, h3.uni h4, PH.disj_uni_right.2 ⟨d1, d2⟩, PH.uni_assoc _ _ _, hA, ih.2 ⟨h3, h4, d', rfl, hr1, hr2⟩⟩
theorem stars_star {Hs r : List HP} {h : PH} : stars (star Hs :: r) h ↔ stars (Hs ++ r) h := stars_append.symm
theorem stars_ex {α : Type} {f : α → HP} {r : List HP} {h : PH} : stars (ex f :: r) h ↔ ∃ x, stars (f x :: r) h := by
  constructor
  · rintro ⟨h1, h2, d, rfl, ⟨x, hx⟩, hr⟩; exact ⟨x, h1, h2, d, rfl, hx, hr⟩
  · rintro ⟨x, h1, h2, d, rfl, hx, hr⟩; exact ⟨h1, h2, d, rfl, ⟨x, hx⟩, hr⟩
theorem stars_pur {p : Prop} {r : List HP} {h : PH} : stars (pur p :: r) h ↔ p ∧ stars r h := by
  constructor
  · rintro ⟨h1, h2, d, rfl, hp, hr⟩; exact ⟨hp, stars_mono r d hr⟩
  · rintro ⟨hp, hr⟩; exact ⟨fun _ => none, h, fun k => .inl rfl, by funext k; simp [PH.uni], hp, hr⟩
theorem stars_pt {b : Nat} {o : Obj} {r : List HP} {h : PH} (hh : stars (pt b o :: r) h) : h b = some o := by
  obtain ⟨h1, h2, d, rfl, rfl, hr⟩ := hh
  simp [PH.uni, PH.one]
theorem stars_upd {b : Nat} {o o' : Obj} {r : List HP} {h : PH} (hh : stars (pt b o :: r) h) : stars (pt b o' :: r) (h.upd b o') := by
  obtain ⟨h1, h2, d, rfl, rfl, hr⟩ := hh
  refine ⟨PH.one b o', h2, ?_, ?_, rfl, hr⟩
  · intro k
    rcases d k with h | h
    · left; simp only [PH.one] at h ⊢; split at h <;> simp_all
    · exact .inr h
  · funext k
    by_cases hk : k = b <;> simp [PH.upd, PH.uni, PH.one, hk]
theorem stars_new {b : Nat} {o : Obj} {r : List HP} {h : PH} (hb : h b = none) (hh : stars r h) : stars (pt b o :: r) (h.upd b o) := by
  refine ⟨PH.one b o, h, ?_, ?_, rfl, hh⟩
  · intro k
    by_cases hk : k = b
    · subst hk; exact .inr hb
    · left; simp [PH.one, hk]
  · funext k
    by_cases hk : k = b <;> simp [PH.upd, PH.uni, PH.one, hk]

/-- The heap of a world as a part of a heap. -/
def hp (w : World) : PH := fun b => w.heap[b]?

/-- The streams are those of W, and the assertions hold, each on blocks of its own. -/
structure St (W w : World) (H : List HP) : Prop where
  os : w.os = W.os
  tape : w.tape = W.tape
  output : w.output = W.output
  heap : stars H (hp w)

section
variable {W w : World} {H H' : List HP}

theorem St.imp (h : St W w H) (hi : ∀ h, stars H h → stars H' h) : St W w H' := ⟨h.os, h.tape, h.output, hi _ h.heap⟩
theorem St.perm (h : St W w H) (hp : H.Perm H') : St W w H' := h.imp (stars_perm hp)
theorem St.drew (h : St W w H) : St W w.drew H := ⟨h.os, h.tape, h.output, h.heap⟩
theorem St.drawn (h : St W w H) (n : Nat) : St W { w with drawn := n } H := ⟨h.os, h.tape, h.output, h.heap⟩
theorem St.blk {b : Nat} {o : Obj} (h : St W w (pt b o :: H)) : w.heap[b]? = some o := stars_pt h.heap
theorem hp_setIfInBounds {w : World} {b : Nat} {o o' : Obj} (h : hp w b = some o) : hp { w with heap := w.heap.setIfInBounds b o' } = (hp w).upd b o' := by
  have hb : b < w.heap.size := by
    rcases Nat.lt_or_ge b w.heap.size with h' | h'
    · exact h'
    · simp [hp, Array.getElem?_eq_none h'] at h
  funext k
  simp only [hp, PH.upd]
  rw [Array.getElem?_setIfInBounds]
  by_cases hk : k = b
  · subst hk; simp [hb]
  · have : ¬ b = k := fun e => hk e.symm
    simp [hk, this]
theorem St.setObj {b : Nat} {o o' : Obj} (h : St W w (pt b o :: H)) : St W { w with heap := w.heap.setIfInBounds b o' } (pt b o' :: H) := by
  refine ⟨h.os, h.tape, h.output, ?_⟩
  have hb : hp w b = some o := h.blk
  rw [hp_setIfInBounds hb]
  exact stars_upd h.heap
theorem setCell_eq {w : World} {b i : Nat} {c : Array Value} {T : TypeId} {fr : Nat × Nat} {v : Value} (hb : w.heap[b]? = some (.cells c T fr)) :
    w.setCell ⟨b, i, none⟩ v = { w with heap := w.heap.setIfInBounds b (.cells (c.setIfInBounds i v) T fr) } := by
  unfold World.setCell
  congr 1
  apply Array.ext_getElem?
  intro k
  rw [Array.getElem?_modify, Array.getElem?_setIfInBounds]
  have hlt : b < w.heap.size := by
    rcases Nat.lt_or_ge b w.heap.size with h' | h'
    · exact h'
    · simp [Array.getElem?_eq_none h'] at hb
  by_cases hk : b = k
  · subst hk; rw [if_pos rfl, if_pos rfl, if_pos hlt, hb]; rfl
  · simp [hk]
theorem St.setCell {b i : Nat} {c : Array Value} {T : TypeId} {fr : Nat × Nat} {v : Value} (h : St W w (pt b (.cells c T fr) :: H)) :
    St W (w.setCell ⟨b, i, none⟩ v) (pt b (.cells (c.setIfInBounds i v) T fr) :: H) := by
  rw [setCell_eq h.blk]
  exact h.setObj
theorem St.alloc (h : St W w H) (o : Obj) : St W (w.alloc o) (pt w.heap.size o :: H) := by
  refine ⟨h.os, h.tape, h.output, ?_⟩
  have : hp (w.alloc o) = (hp w).upd w.heap.size o := by
    funext k
    simp only [hp, PH.upd, World.alloc, Array.getElem?_push]
  rw [this]
  exact stars_new (by simp [hp]) h.heap
theorem St.cell {b i : Nat} {c : Array Value} {T : TypeId} {fr : Nat × Nat} (h : St W w (pt b (.cells c T fr) :: H)) : w.cell? ⟨b, i, none⟩ = c[i]? := by
  unfold World.cell?
  rw [show w.heap[({ block := b, off := i, spot := none } : Addr).block]? = _ from h.blk]
  simp
theorem St.frozen {b i : Nat} {c : Array Value} {T : TypeId} {lo hi : Nat} (h : St W w (pt b (.cells c T (lo, hi)) :: H)) :
    w.frozen? ⟨b, i, none⟩ = (decide (lo ≤ i) && decide (i < hi)) := by
  unfold World.frozen?
  rw [show w.heap[({ block := b, off := i, spot := none } : Addr).block]? = _ from h.blk]

theorem St.tail {A : HP} (h : St W w (A :: H)) : St W w H := h.imp fun _ => stars_tail
theorem St.ex_iff {α : Type} {f : α → HP} : St W w (ex f :: H) ↔ ∃ x, St W w (f x :: H) :=
  ⟨fun h => let ⟨x, hx⟩ := stars_ex.1 h.heap; ⟨x, h.os, h.tape, h.output, hx⟩, fun ⟨x, h⟩ => ⟨h.os, h.tape, h.output, stars_ex.2 ⟨x, h.heap⟩⟩⟩
theorem St.pur_iff {p : Prop} : St W w (pur p :: H) ↔ p ∧ St W w H :=
  ⟨fun h => let ⟨x, hx⟩ := stars_pur.1 h.heap; ⟨x, h.os, h.tape, h.output, hx⟩, fun ⟨x, h⟩ => ⟨h.os, h.tape, h.output, stars_pur.2 ⟨x, h.heap⟩⟩⟩
theorem St.star_iff {Hs : List HP} : St W w (star Hs :: H) ↔ St W w (Hs ++ H) :=
  ⟨fun h => ⟨h.os, h.tape, h.output, stars_star.1 h.heap⟩, fun h => ⟨h.os, h.tape, h.output, stars_star.2 h.heap⟩⟩
end

/-- One place in a list of assertions: A stands there, C X is the list with X in its place. -/
structure Foc (H : List HP) (A : HP) (C : HP → List HP) : Prop where
  out : H = C A
  ctx : ∃ L R, ∀ X, C X = L ++ X :: R
/-- A stands in the list, R is the rest. -/
structure Del (H : List HP) (A : HP) (R : List HP) : Prop where
  out : H.Perm (A :: R)
/-- These stand in the list, R is the rest. -/
structure Dels (H : List HP) (As : List HP) (R : List HP) : Prop where
  out : H.Perm (As ++ R)

theorem Foc.focus {H : List HP} {A : HP} {C : HP → List HP} (f : Foc H A C) : ∃ F, H.Perm (A :: F) ∧ ∀ X, (C X).Perm (X :: F) := by
  obtain ⟨L, R, hc⟩ := f.ctx
  refine ⟨L ++ R, ?_, fun X => ?_⟩
  · rw [f.out, hc]; exact List.perm_middle
  · rw [hc]; exact List.perm_middle
theorem Dels.nil {H : List HP} : Dels H [] H := ⟨List.Perm.refl _⟩
theorem Dels.cons {H H' R : List HP} {A : HP} {As : List HP} (h : Del H A H') (h' : Dels H' As R) : Dels H (A :: As) R :=
  ⟨h.out.trans (List.Perm.cons A h'.out)⟩
theorem Del.of {L R : List HP} {A : HP} : Del (L ++ A :: R) A (L ++ R) := ⟨List.perm_middle⟩
section
variable {X0 X1 X2 X3 X4 X5 X6 X7 X8 X9 X10 X11 A : HP} {R : List HP}
theorem foc0 : Foc (A :: R) A (fun X => X :: R) := ⟨rfl, [], R, fun _ => rfl⟩
theorem foc1 : Foc (X0 :: A :: R) A (fun X => X0 :: X :: R) := ⟨rfl, [X0], R, fun _ => rfl⟩
theorem foc2 : Foc (X0 :: X1 :: A :: R) A (fun X => X0 :: X1 :: X :: R) := ⟨rfl, [X0, X1], R, fun _ => rfl⟩
theorem foc3 : Foc (X0 :: X1 :: X2 :: A :: R) A (fun X => X0 :: X1 :: X2 :: X :: R) := ⟨rfl, [X0, X1, X2], R, fun _ => rfl⟩
theorem foc4 : Foc (X0 :: X1 :: X2 :: X3 :: A :: R) A (fun X => X0 :: X1 :: X2 :: X3 :: X :: R) := ⟨rfl, [X0, X1, X2, X3], R, fun _ => rfl⟩
theorem foc5 : Foc (X0 :: X1 :: X2 :: X3 :: X4 :: A :: R) A (fun X => X0 :: X1 :: X2 :: X3 :: X4 :: X :: R) := ⟨rfl, [X0, X1, X2, X3, X4], R, fun _ => rfl⟩
theorem foc6 : Foc (X0 :: X1 :: X2 :: X3 :: X4 :: X5 :: A :: R) A (fun X => X0 :: X1 :: X2 :: X3 :: X4 :: X5 :: X :: R) := ⟨rfl, [X0, X1, X2, X3, X4, X5], R, fun _ => rfl⟩
theorem foc7 : Foc (X0 :: X1 :: X2 :: X3 :: X4 :: X5 :: X6 :: A :: R) A (fun X => X0 :: X1 :: X2 :: X3 :: X4 :: X5 :: X6 :: X :: R) := ⟨rfl, [X0, X1, X2, X3, X4, X5, X6], R, fun _ => rfl⟩
theorem foc8 : Foc (X0 :: X1 :: X2 :: X3 :: X4 :: X5 :: X6 :: X7 :: A :: R) A (fun X => X0 :: X1 :: X2 :: X3 :: X4 :: X5 :: X6 :: X7 :: X :: R) := ⟨rfl, [X0, X1, X2, X3, X4, X5, X6, X7], R, fun _ => rfl⟩
theorem foc9 : Foc (X0 :: X1 :: X2 :: X3 :: X4 :: X5 :: X6 :: X7 :: X8 :: A :: R) A (fun X => X0 :: X1 :: X2 :: X3 :: X4 :: X5 :: X6 :: X7 :: X8 :: X :: R) := ⟨rfl, [X0, X1, X2, X3, X4, X5, X6, X7, X8], R, fun _ => rfl⟩
theorem foc10 : Foc (X0 :: X1 :: X2 :: X3 :: X4 :: X5 :: X6 :: X7 :: X8 :: X9 :: A :: R) A (fun X => X0 :: X1 :: X2 :: X3 :: X4 :: X5 :: X6 :: X7 :: X8 :: X9 :: X :: R) := ⟨rfl, [X0, X1, X2, X3, X4, X5, X6, X7, X8, X9], R, fun _ => rfl⟩
theorem foc11 : Foc (X0 :: X1 :: X2 :: X3 :: X4 :: X5 :: X6 :: X7 :: X8 :: X9 :: X10 :: A :: R) A (fun X => X0 :: X1 :: X2 :: X3 :: X4 :: X5 :: X6 :: X7 :: X8 :: X9 :: X10 :: X :: R) := ⟨rfl, [X0, X1, X2, X3, X4, X5, X6, X7, X8, X9, X10], R, fun _ => rfl⟩
theorem del0 : Del (A :: R) A R := ⟨List.Perm.refl _⟩
theorem del1 : Del (X0 :: A :: R) A (X0 :: R) := Del.of (L := [X0])
theorem del2 : Del (X0 :: X1 :: A :: R) A (X0 :: X1 :: R) := Del.of (L := [X0, X1])
theorem del3 : Del (X0 :: X1 :: X2 :: A :: R) A (X0 :: X1 :: X2 :: R) := Del.of (L := [X0, X1, X2])
theorem del4 : Del (X0 :: X1 :: X2 :: X3 :: A :: R) A (X0 :: X1 :: X2 :: X3 :: R) := Del.of (L := [X0, X1, X2, X3])
theorem del5 : Del (X0 :: X1 :: X2 :: X3 :: X4 :: A :: R) A (X0 :: X1 :: X2 :: X3 :: X4 :: R) := Del.of (L := [X0, X1, X2, X3, X4])
theorem del6 : Del (X0 :: X1 :: X2 :: X3 :: X4 :: X5 :: A :: R) A (X0 :: X1 :: X2 :: X3 :: X4 :: X5 :: R) := Del.of (L := [X0, X1, X2, X3, X4, X5])
theorem del7 : Del (X0 :: X1 :: X2 :: X3 :: X4 :: X5 :: X6 :: A :: R) A (X0 :: X1 :: X2 :: X3 :: X4 :: X5 :: X6 :: R) := Del.of (L := [X0, X1, X2, X3, X4, X5, X6])
theorem del8 : Del (X0 :: X1 :: X2 :: X3 :: X4 :: X5 :: X6 :: X7 :: A :: R) A (X0 :: X1 :: X2 :: X3 :: X4 :: X5 :: X6 :: X7 :: R) := Del.of (L := [X0, X1, X2, X3, X4, X5, X6, X7])
theorem del9 : Del (X0 :: X1 :: X2 :: X3 :: X4 :: X5 :: X6 :: X7 :: X8 :: A :: R) A (X0 :: X1 :: X2 :: X3 :: X4 :: X5 :: X6 :: X7 :: X8 :: R) := Del.of (L := [X0, X1, X2, X3, X4, X5, X6, X7, X8])
theorem del10 : Del (X0 :: X1 :: X2 :: X3 :: X4 :: X5 :: X6 :: X7 :: X8 :: X9 :: A :: R) A (X0 :: X1 :: X2 :: X3 :: X4 :: X5 :: X6 :: X7 :: X8 :: X9 :: R) := Del.of (L := [X0, X1, X2, X3, X4, X5, X6, X7, X8, X9])
theorem del11 : Del (X0 :: X1 :: X2 :: X3 :: X4 :: X5 :: X6 :: X7 :: X8 :: X9 :: X10 :: A :: R) A (X0 :: X1 :: X2 :: X3 :: X4 :: X5 :: X6 :: X7 :: X8 :: X9 :: X10 :: R) := Del.of (L := [X0, X1, X2, X3, X4, X5, X6, X7, X8, X9, X10])
end
end Go.VG
