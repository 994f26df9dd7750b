/- Numbers read from a list. -/
import Derived.Test.YthgeeoahmjmnoaaPFlat
import Derived.Test.YthgeeoahmjmnoaaLStack
namespace Go.Proofs
open Go.VG
theorem new_ok (l : List Int) : ∃ L, volumegroupmake_New l = some (L, 0) ∧ L.length ≤ 1000 := by
  unfold volumegroupmake_New
  by_cases h : (1000 : Int) < ((l.length : Nat) : Int)
  · rw [if_pos h]; exact ⟨_, rfl, by simp; omega⟩
  · rw [if_neg h]; exact ⟨_, rfl, by omega⟩
theorem raw_ok {L : List Int} {a : Int} (hL : L.length ≤ 1000) (h : 0 ≤ a ∧ a ≤ 1000) : ∃ v b, volumegroupmake_Src_Raw L a = some (v, b) ∧ 0 ≤ b ∧ b ≤ 1000 := by
  unfold volumegroupmake_Src_Raw
  by_cases h1 : ((L.length : Nat) : Int) ≤ a
  · rw [if_pos h1]; exact ⟨_, _, rfl, h.1, h.2⟩
  · rw [if_neg h1, grd_t (inI64_of (by omega)), grd_t (inI64_of (by omega)), grd_t (decide_eq_true (by omega))]
    exact ⟨_, _, rfl, by omega, by omega⟩
theorem srcN_ok {L : List Int} {a n : Int} (hL : L.length ≤ 1000) (h : 0 ≤ a ∧ a ≤ 1000) (hn : n ≤ 1000000000) : ∃ v b, volumegroupmake_Src_N L a n = some (v, b) ∧ (0 ≤ b ∧ b ≤ 1000) ∧ 0 ≤ v ∧ (1 ≤ n → v < n) ∧ (n < 1 → v = 0) := by
  unfold volumegroupmake_Src_N
  by_cases h1 : n < 1
  · rw [if_pos h1]; exact ⟨_, _, rfl, h, Int.le_refl _, fun x => by omega, fun _ => rfl⟩
  · rw [if_neg h1]
    obtain ⟨v, b, h2, h3⟩ := raw_ok hL h
    rw [h2]; simp only [Option.bind_some]
    have h4 := Int.natAbs_tmod v n
    have h5 := Nat.mod_lt v.natAbs (show 0 < n.natAbs by omega)
    by_cases h6 : v.tmod n < 0
    · rw [if_pos h6, grd_t (inI64_of (by omega))]
      exact ⟨_, _, rfl, h3, by omega, fun _ => by omega, fun x => by omega⟩
    · rw [if_neg h6]
      exact ⟨_, _, rfl, h3, by omega, fun _ => by omega, fun x => by omega⟩
theorem srcRange_ok {L : List Int} {a lo hi : Int} (hL : L.length ≤ 1000) (h : 0 ≤ a ∧ a ≤ 1000) (h1 : -1000000 ≤ lo ∧ lo ≤ hi ∧ hi ≤ 1000000) : ∃ v b, volumegroupmake_Src_Range L a lo hi = some (v, b) ∧ (0 ≤ b ∧ b ≤ 1000) ∧ lo ≤ v ∧ v ≤ hi := by
  unfold volumegroupmake_Src_Range
  obtain ⟨v, b, h2, h3, h4, h5, -⟩ := srcN_ok (n := hi - lo + 1) hL h (by omega)
  have := h5 (by omega)
  rw [grd_t (inI64_of (by omega)), grd_t (inI64_of (by omega)), h2]; simp only [Option.bind_some]
  rw [grd_t (inI64_of (by omega))]
  exact ⟨_, _, rfl, h3, by omega, by omega⟩
end Go.Proofs
