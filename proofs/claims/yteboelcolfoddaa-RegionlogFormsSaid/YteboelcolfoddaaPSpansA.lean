/- Spans over whole disks. -/
import Derived.Test.YteboelcolfoddaaPSpans
namespace Go.Proofs
open Go.VG
theorem spans_l1 {s : ArrS} (h8 : s.drv.length ≤ 1000) (hz : ∀ i, i < s.drv.length → 1 ≤ s.size i ∧ s.size i ≤ 65536) : ∀ (N i : Nat) (acc : List Dvc), s.drv.length - i < N → i ≤ s.drv.length →
    acc = (List.range i).map (fun i => Dvc.span ((i : Nat) : Int) 0 ((s.size i : Nat) : Int)) → volumegroupmake_Spans_l1 s N acc i = some (.inl (spansA s))
  | 0, _, _, h, _, _ => absurd h (by omega)
  | N + 1, i, acc, h, hi, ha => by
    show volumegroupmake_Spans_l1_b _ _ _ _ = _
    unfold volumegroupmake_Spans_l1_b
    subst ha
    by_cases hlt : i < s.drv.length
    · have h1 := hz i hlt
      rw [if_pos (by omega), sizeI_of hlt, span_mk (by omega) (by omega) (by rw [sizeI_of hlt]; omega) (by rw [sizeI_of hlt]; omega)]
      simp only [Option.bind_some, Option.elim]
      rw [if_neg (by simp), grd_t (inLen_of (by simp; omega)), grd_t (inN64_of (by omega))]
      refine spans_l1 h8 hz N (i + 1) _ (by omega) (by omega) ?_
      simp [List.range_succ]
    · rw [if_neg (by omega)]
      have : i = s.drv.length := by omega
      rw [this]; rfl
theorem spans_eq {s : ArrS} (h8 : s.drv.length ≤ 1000) (hz : ∀ i, i < s.drv.length → 1 ≤ s.size i ∧ s.size i ≤ 65536) : volumegroupmake_Spans s = some (spansA s) := by
  unfold volumegroupmake_Spans
  have hF := fuel_big
  generalize FUEL = N at hF ⊢
  rw [spans_l1 h8 hz N 0 _ (by omega) (by omega) (by simp)]; rfl
end Go.Proofs
