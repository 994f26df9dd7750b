/- What spans do, told without loops. -/
import Derived.Test.YteboelcolfoddaaPMake
namespace Go.Proofs
open Go.VG
theorem insideB {n k m : Int} (hn : 0 ≤ n ∧ n ≤ 4611686018427387904) : block_inside n k m = some (decide (0 ≤ k ∧ k ≤ n ∧ 0 ≤ m ∧ m ≤ n - k)) := by
  unfold block_inside
  refine congrArg some ?_
  rw [Bool.eq_iff_iff]
  by_cases h : 0 ≤ k ∧ k ≤ n
  · rw [wrap64_in (by omega) (by omega)]; simp; omega
  · simp; omega
theorem inside1 {n k : Int} (hn : 0 ≤ n ∧ n ≤ 4611686018427387904) : block_inside n k 1 = some (decide (0 ≤ k ∧ k < n)) := by
  rw [insideB hn]; exact congrArg some (decide_eq_decide.2 (by omega))
theorem inI64_of {n : Int} (h : -4611686018427387904 ≤ n ∧ n ≤ 4611686018427387904) : inI64 n = true := inI64_iff.2 (by omega)
def spansA (s : ArrS) : List Dvc := (List.range s.drv.length).map fun i => Dvc.span ((i : Nat) : Int) 0 ((s.size i : Nat) : Int)
@[simp] theorem spansA_length {s : ArrS} : (spansA s).length = s.drv.length := by simp [spansA]
theorem spansA_getD {s : ArrS} {i : Nat} (h : i < s.drv.length) : (spansA s).getD i dv0 = Dvc.span ((i : Nat) : Int) 0 ((s.size i : Nat) : Int) := by
  simp [spansA, List.getD, h]
theorem sizeI_of {s : ArrS} {i : Nat} (h : i < s.drv.length) : sizeI s (i : Int) = ((s.size i : Nat) : Int) := by
  rw [sizeI, if_pos (show inR s (i : Int) from ⟨by omega, by omega⟩)]; simp
theorem span_mk {s : ArrS} {d st n : Int} (h1 : 1 ≤ n) (h2 : 0 ≤ st) (h3 : st + n ≤ sizeI s d) (h4 : sizeI s d ≤ 1000000000) : block_Span s d st n = some (some (Dvc.span d st n), 0) := by
  unfold block_Span
  rw [if_neg (by omega), insideB (by omega)]
  simp only [Option.bind_some]
  rw [if_neg (by simp; omega)]
/-- A span's methods. -/
theorem span_size {s : ArrS} {d st n : Int} : (Dvc.span d st n).size s = some n := rfl
theorem span_rd {s : ArrS} {d st n k : Int} (hn : 0 ≤ n ∧ n ≤ 1000000000) (hs : 0 ≤ st ∧ st ≤ 1000000000) : (Dvc.span d st n).rd s k = some (if 0 ≤ k ∧ k < n then (rdV s d (st + k), rdC s d (st + k)) else (0, 1)) := by
  show dvc_span_Read _ _ _ _ _ = _
  unfold dvc_span_Read
  rw [inside1 (by omega)]; simp only [Option.bind_some]
  by_cases h : 0 ≤ k ∧ k < n
  · rw [if_neg (by simp [h]), grd_t (inI64_of (by omega)), if_pos h]
  · rw [if_pos (by simpa using h), if_neg h]
theorem span_wr {s : ArrS} {d st n k : Int} {v : UInt64} (hn : 0 ≤ n ∧ n ≤ 1000000000) (hs : 0 ≤ st ∧ st ≤ 1000000000) (hw : s.writes ≤ 1000000000) : (Dvc.span d st n).wr s k v = some (if 0 ≤ k ∧ k < n then (wrR s d (st + k), wrS s d (st + k) v) else (1, s)) := by
  show dvc_span_Write _ _ _ _ _ _ = _
  unfold dvc_span_Write
  rw [inside1 (by omega)]; simp only [Option.bind_some]
  by_cases h : 0 ≤ k ∧ k < n
  · rw [if_neg (by simp [h]), grd_t (inI64_of (by omega)), grd_t (inLen_of hw), if_pos h]
  · rw [if_pos (by simpa using h), if_neg h]
theorem span_fl {s : ArrS} {d st n : Int} (hw : s.writes ≤ 1000000000) : (Dvc.span d st n).fl s = some (flC s d, flS s d) := by
  show dvc_span_Flush s d st n = _
  unfold dvc_span_Flush
  rw [grd_t (inLen_of hw)]
theorem inside_t {n k m : Int} (hn : n ≤ 1000000000) (h : 0 ≤ k ∧ 0 ≤ m ∧ k + m ≤ n) : block_inside n k m = some true := by
  rw [insideB (by omega)]; exact congrArg some (decide_eq_true (by omega))
end Go.Proofs
