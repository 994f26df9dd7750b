/- Lists compared word by word. -/
import Derived.Test.YthgeeoahmjmnoaaPMake
namespace Go.Proofs
open Go.VG
theorem same05_l1 {a b : List UInt64} (hl : a.length = b.length) : ∀ (N i : Nat), a.length - i < N → i ≤ a.length → (∀ j, j < i → a.getD j 0 = b.getD j 0) →
    volumegroupref05_Same_l1 a b N i = some (if a = b then .inl () else .inr false)
  | 0, _, h, _, _ => absurd h (by omega)
  | N + 1, i, h, hi, he => by
    show volumegroupref05_Same_l1_b _ _ _ _ = _
    unfold volumegroupref05_Same_l1_b
    by_cases hlt : i < a.length
    · rw [if_pos (by omega)]
      by_cases hab : a.getD i 0 = b.getD i 0
      · rw [if_neg (by simpa using hab)]
        refine same05_l1 hl N (i + 1) (by omega) (by omega) fun j hj => ?_
        rcases Nat.lt_or_ge j i with h2 | h2
        · exact he j h2
        · have : j = i := by omega
          rw [this]; exact hab
      · rw [if_pos (by simpa using hab), if_neg (fun e => hab (by rw [e]))]
    · rw [if_neg (by omega), if_pos]
      refine List.ext_getElem hl fun j h1 h2 => ?_
      have := he j (by omega)
      simpa [List.getD, h1, h2] using this
theorem same05_eq {a b : List UInt64} (hl : a.length ≤ 1000000000) : volumegroupref05_Same a b = some (decide (a = b)) := by
  unfold volumegroupref05_Same
  have hF := fuel_big
  generalize FUEL = N at hF ⊢
  by_cases h : a.length = b.length
  · rw [if_neg (by omega), same05_l1 h N 0 (by omega) (by omega) (fun j h => absurd h (by omega))]
    by_cases e : a = b
    · rw [if_pos e, decide_eq_true e]; rfl
    · rw [if_neg e, decide_eq_false e]; rfl
  · rw [if_pos (by omega), decide_eq_false (fun e => h (by rw [e]))]
end Go.Proofs
