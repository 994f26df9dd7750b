/- Keep, and a sector's number out of a step. -/
import Derived.Test.YteboelcolfoddaaLMake
import Derived.Test.YteboelcolfoddaaPMake
namespace Go.Proofs
open Go.VG
theorem keep_l1 {w : UInt64} : ∀ (N i : Nat) (acc : List Bool), 192 - i < N → i ≤ 192 → acc.length = i → ∃ ks, volumegroupmake_Keep_l1 w N acc i = some ks
  | 0, _, _, h, _, _ => absurd h (by omega)
  | N + 1, i, acc, h, hi, ha => by
    show ∃ ks, volumegroupmake_Keep_l1_b _ _ _ _ = _
    unfold volumegroupmake_Keep_l1_b
    by_cases hlt : i < 192
    · rw [if_pos (by omega), grd_t (inLen_of (by omega))]
      exact keep_l1 N (i + 1) _ (by omega) (by omega) (by simp [ha])
    · rw [if_neg (by omega)]; exact ⟨_, rfl⟩
theorem keep_ok (w : UInt64) : ∃ ks, volumegroupmake_Keep w = some ks := by
  unfold volumegroupmake_Keep
  have hF := fuel_big
  generalize FUEL = N at hF ⊢
  obtain ⟨ks, h⟩ := keep_l1 (w := w) N 0 [] (by omega) (by omega) rfl
  exact ⟨ks, by rw [h]; rfl⟩
theorem at_ok (a : Int) {n : Nat} (hn : 0 < n) (hb : n ≤ 65536) : ∃ k : Nat, (a.tmod (n : Int) + (n : Int)).tmod (n : Int) = (k : Int) ∧ k < n ∧ -65536 < a.tmod (n : Int) ∧ a.tmod (n : Int) < 65536 := by
  have h1 : -(n : Int) < a.tmod n ∧ a.tmod n < n := by
    have h := Int.natAbs_tmod a n
    have h2 := Nat.mod_lt a.natAbs (show 0 < (n : Int).natAbs by omega)
    omega
  have h2 : 0 ≤ a.tmod n + n := by omega
  have h3 := Int.tmod_nonneg (a := a.tmod n + n) n h2
  have h4 := Int.tmod_lt_of_pos (a.tmod n + n) (show (0 : Int) < n by omega)
  exact ⟨((a.tmod n + n).tmod n).toNat, by omega, by omega, by omega, by omega⟩
end Go.Proofs
