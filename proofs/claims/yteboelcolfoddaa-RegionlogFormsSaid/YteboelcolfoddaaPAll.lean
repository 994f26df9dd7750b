/- ReadAll and WriteAll. -/
import Derived.Test.YteboelcolfoddaaPGood
import Derived.Test.YteboelcolfoddaaLCopy
namespace Go.Proofs
open Go.VG
theorem inN64_lt {n m : Nat} (h : n < m) (hm : m ≤ 1000000000) : inN64 (n + 1) = true := inN64_of (by omega)
theorem inside_f {n k m : Int} (hn : 0 ≤ n ∧ n ≤ 1000000000) (h : ¬ (0 ≤ k ∧ k ≤ n ∧ 0 ≤ m ∧ m ≤ n - k)) : block_inside n k m = some false := by
  rw [insideB (by omega)]; exact congrArg some (decide_eq_false h)
section
variable {x y : Dvc} {s : ArrS} {at_ : Int} {n : Nat}
theorem readAll_l1 {f : Nat → UInt64} (ha : 0 ≤ at_ ∧ at_ + n ≤ 1000000000) (hr : ∀ i, i < n → x.rd s (at_ + i) = some (f i, 0)) : ∀ (N i : Nat) (acc : List UInt64), n - i < N → i ≤ n → acc = (List.range i).map f →
    block_ReadAll_l1 x at_ (n : Int) s N i acc = some (.inl ((List.range n).map f))
  | 0, _, _, h, _, _ => absurd h (by omega)
  | N + 1, i, acc, h, hi, he => by
    show block_ReadAll_l1_b _ _ _ _ _ _ _ = _
    unfold block_ReadAll_l1_b
    subst he
    by_cases hlt : i < n
    · rw [if_pos (by omega), grd_t (inI64_of (by omega)), hr i hlt]
      simp only [Option.bind_some]
      rw [if_neg (by simp), grd_t (inLen_of (by simp; omega)), grd_t (inN64_of (by omega))]
      exact readAll_l1 ha hr N (i + 1) _ (by omega) (by omega) (by simp [List.range_succ])
    · rw [if_neg (by omega)]
      have : i = n := by omega
      rw [this]
theorem readAll_eq {m : Int} {f : Nat → UInt64} (hs : x.size s = some m) (hm : m ≤ 1000000000) (ha : 0 ≤ at_ ∧ at_ + n ≤ m) (hr : ∀ i, i < n → x.rd s (at_ + i) = some (f i, 0)) : block_ReadAll x at_ (n : Int) s = some ((List.range n).map f, 0) := by
  unfold block_ReadAll
  have hF := fuel_big
  generalize FUEL = N at hF ⊢
  rw [hs]; simp only [Option.bind_some]
  rw [inside_t hm (by omega)]; simp only [Option.bind_some]
  rw [if_neg (by simp), readAll_l1 (by omega) hr N 0 [] (by omega) (by omega) (by simp)]; rfl
theorem readAll_out {m k : Int} (hs : x.size s = some m) (hm : 0 ≤ m ∧ m ≤ 1000000000) (ha : ¬ (0 ≤ at_ ∧ at_ ≤ m ∧ 0 ≤ k ∧ k ≤ m - at_)) : block_ReadAll x at_ k s = some ([], 1) := by
  unfold block_ReadAll
  rw [hs]; simp only [Option.bind_some]
  rw [inside_f hm ha]; simp only [Option.bind_some]
  rw [if_pos (by simp)]
theorem writeAll_l1 {l : List UInt64} {st : Nat → ArrS} (ha : 0 ≤ at_ ∧ at_ + l.length ≤ 1000000000) (hw : ∀ i, i < l.length → x.wr (st i) (at_ + i) (l.getD i 0) = some (0, st (i + 1))) : ∀ (N i : Nat), l.length - i < N → i ≤ l.length →
    block_WriteAll_l1 x at_ l N (st i) i = some (.inl (st l.length))
  | 0, _, h, _ => absurd h (by omega)
  | N + 1, i, h, hi => by
    show block_WriteAll_l1_b _ _ _ _ _ _ = _
    unfold block_WriteAll_l1_b
    by_cases hlt : i < l.length
    · rw [if_pos (by omega), grd_t (inI64_of (by omega)), hw i hlt]
      simp only [Option.bind_some]
      rw [if_neg (by simp)]
      exact writeAll_l1 ha hw N (i + 1) (by omega) (by omega)
    · rw [if_neg (by omega)]
      have : i = l.length := by omega
      rw [this]
theorem writeAll_eq {m : Int} {l : List UInt64} {st : Nat → ArrS} (hs : x.size (st 0) = some m) (hm : m ≤ 1000000000) (ha : 0 ≤ at_ ∧ at_ + l.length ≤ m) (hw : ∀ i, i < l.length → x.wr (st i) (at_ + i) (l.getD i 0) = some (0, st (i + 1))) :
    block_WriteAll x at_ l (st 0) = some (0, st l.length) := by
  unfold block_WriteAll
  have hF := fuel_big
  generalize FUEL = N at hF ⊢
  rw [hs]; simp only [Option.bind_some]
  rw [inside_t hm (by omega)]; simp only [Option.bind_some]
  rw [if_neg (by simp), writeAll_l1 (by omega) hw N 0 (by omega) (by omega)]; rfl
theorem writeAll_out {m : Int} {l : List UInt64} (hs : x.size s = some m) (hm : 0 ≤ m ∧ m ≤ 1000000000) (ha : ¬ (0 ≤ at_ ∧ at_ ≤ m ∧ (l.length : Int) ≤ m - at_)) : block_WriteAll x at_ l s = some (1, s) := by
  unfold block_WriteAll
  rw [hs]; simp only [Option.bind_some]
  rw [inside_f hm (by omega)]; simp only [Option.bind_some]
  rw [if_pos (by simp)]
end
end Go.Proofs
