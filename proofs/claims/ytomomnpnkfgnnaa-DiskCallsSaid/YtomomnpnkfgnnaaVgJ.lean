/- What comes in: slices of whatever element, read out of a statement's frame. -/
import Derived.Test.YtomomnpnkfgnnaaVgG
import Derived.Test.YtomomnpnkfgnnaaVgI
import Derived.Deep.Slices
namespace Go.VG
open Go.Deep Go.ChangeShapes Go.WideShapes

/-- Whatever reads as this type is an element's cells. -/
def Shown {α : Type} (P : Program) (E : TypeId) (t : Ty α) : Prop := ∀ (H : Type) (enc : TypeId × Value → H) (w : World) (base : Nat) (spare : Nat → Bool) (held : Bool) (n : Nat) (cs : List Value) (x : DataW H × List MemPlace),
  DataW.trod enc P w base spare held n E cs = some x → ∃ y : α, cs = t.enc y
theorem reads_in {α : Type} {t : Ty α} {P : Program} {H : Type} {enc : TypeId × Value → H} {w : World} {spare : Nat → Bool} {held : Bool} {T E : TypeId} {fuel : Nat} {p : Option Addr} {len cap : Nat} {x : DataW H × List MemPlace}
    (hT : P.underlying T = some (.slice E)) (hC : P.cellsOf E = t.sz) (hs : Shown P E t) (h : DataW.trod enc P w 0 spare held fuel T [.slice p len cap] = some x) :
    ∃ xs : List α, xs.length = len ∧ len ≤ maxLen ∧ Reads (old w) t (.slice p len cap) xs := by
  rcases open_slice hT h with ⟨h0, _⟩ | ⟨a, l, c, m, n, D, Pl, hcs, hb, hl, hm, hmm, hx, hi⟩
  · simp only [List.cons.injEq, Value.slice.injEq, and_true] at h0
    obtain ⟨rfl, rfl, rfl⟩ := h0
    exact ⟨[], rfl, Nat.zero_le _, Reads.old (.inl ⟨rfl, rfl, rfl, rfl⟩)⟩
  · simp only [List.cons.injEq, Value.slice.injEq, and_true] at hcs
    obtain ⟨rfl, rfl, rfl⟩ := hcs
    have hlm : len ≤ m := by rw [hmm]; split <;> omega
    have key : ∀ i, i < len → ∃ y : α, ∀ k u, k < t.sz → (t.enc y)[k]? = some u → w.cell? (a.add (i * t.sz + k)) = some u := by
      intro i hi'
      obtain ⟨cs', hc, ht'⟩ := hi i (by omega)
      obtain ⟨y, rfl⟩ := hs _ _ _ _ _ _ _ _ _ ht'
      rw [hC] at hc
      obtain ⟨_, _, hat⟩ := World.cells?_some hc
      refine ⟨y, fun k u hk hu => ?_⟩
      rw [← Go.Deep.add_add, hat k hk]; exact hu
    let f : Nat → α := fun i => if h : i < len then Classical.choose (key i h) else t.dflt
    refine ⟨(List.range len).map f, by simp, by omega, Reads.old (.inr ⟨a, rfl, by simp, hl, hm, fun i k u hi' hk hu => ?_⟩)⟩
    have hil : i < len := by simpa using hi'
    have e : ((List.range len).map f).getD i t.dflt = Classical.choose (key i hil) := by
      simp [List.getD, hil, f]
    rw [e] at hu
    exact Classical.choose_spec (key i hil) k u hk hu
/-- One field of a struct. -/
theorem shown_fld {α : Type} {t : Ty α} {P : Program} {E : TypeId} (hs : Shown P E t) {H : Type} {enc : TypeId × Value → H} {w : World} {base : Nat} {spare : Nat → Bool} {held : Bool} {n i : Nat} {cs : List Value} {xs : List (DataW H × List MemPlace)}
    (h : DataW.trod enc P w base spare held n E cs = xs[i]?) (hi : i < xs.length) : ∃ y : α, cs = t.enc y := by
  rw [List.getElem?_eq_getElem hi] at h
  exact hs _ _ _ _ _ _ _ _ _ h
end Go.VG
