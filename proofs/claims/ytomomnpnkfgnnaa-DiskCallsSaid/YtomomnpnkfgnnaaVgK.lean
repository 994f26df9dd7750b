/- Elements that each own memory of their own: one is taken out, and put back. -/
import Derived.Test.YtomomnpnkfgnnaaVgJ
namespace Go.VG
section
variable {α : Type} (f : α → HP)
def Own (l : List α) : HP := star (l.map f)
def ORest (l : List α) (i : Nat) : HP := star ((l.take i ++ l.drop (i + 1)).map f)
theorem own_split (l : List α) (i : Nat) (d : α) (hi : i < l.length) : (l.map f).Perm (f (l.getD i d) :: (l.take i ++ l.drop (i + 1)).map f) := by
  have h1 : l = l.take i ++ l.getD i d :: l.drop (i + 1) := by
    have := List.take_append_drop i l
    rw [List.drop_eq_getElem_cons hi] at this
    simp [List.getD, hi]
  have h2 : l.map f = (l.take i ++ l.getD i d :: l.drop (i + 1)).map f := by rw [← h1]
  rw [h2, List.map_append, List.map_cons, List.map_append]
  exact List.perm_middle
theorem Own_open {l : List α} (i : Nat) (d : α) (hi : i < l.length) {R : List HP} : Ent (Own f l :: R) (f (l.getD i d) :: ORest f l i :: R) := by
  intro h hh
  have h2 := stars_perm ((own_split f l i d hi).append_right R) _ (stars_star.1 hh)
  simp only [List.cons_append] at h2
  obtain ⟨g1, g2, dj, e, ha, hb⟩ := h2
  exact ⟨g1, g2, dj, e, ha, stars_star.2 hb⟩
theorem Own_close {l : List α} {i : Nat} (x : α) (hi : i < l.length) {R : List HP} : Ent (f x :: ORest f l i :: R) (Own f (l.set i x) :: R) := by
  intro h hh
  have h3 : stars ((f x :: (l.take i ++ l.drop (i + 1)).map f) ++ R) h := by
    obtain ⟨g1, g2, dj, e, ha, hb⟩ := hh
    exact ⟨g1, g2, dj, e, ha, stars_star.1 hb⟩
  refine stars_star.2 (stars_perm (List.Perm.append_right R ?_) _ h3)
  have h4 := own_split f (l.set i x) i x (by simpa using hi)
  have e1 : (l.set i x).getD i x = x := by simp [List.getD, hi]
  have e2 : (l.set i x).take i = l.take i := by simp [List.take_set_of_le]
  have e3 : (l.set i x).drop (i + 1) = l.drop (i + 1) := by simp [List.drop_set]
  rw [e1, e2, e3] at h4
  exact h4.symm
theorem Own_push {l : List α} (x : α) {R : List HP} : Ent (f x :: Own f l :: R) (Own f (l ++ [x]) :: R) := by
  intro h hh
  have h3 : stars ((f x :: l.map f) ++ R) h := by
    obtain ⟨g1, g2, dj, e, ha, hb⟩ := hh
    exact ⟨g1, g2, dj, e, ha, stars_star.1 hb⟩
  refine stars_star.2 (stars_perm (List.Perm.append_right R ?_) _ h3)
  rw [List.map_append]
  exact (List.perm_append_singleton _ _).symm
theorem Own_nil {R : List HP} : Ent R (Own f [] :: R) := fun _ hh => stars_star.2 hh
end
theorem getD_map {α β : Type} (g : α → β) (l : List α) (i : Nat) (d : α) : (l.map g).getD i (g d) = g (l.getD i d) := by
  simp only [List.getD, List.getElem?_map]; cases l[i]? <;> rfl
end Go.VG
