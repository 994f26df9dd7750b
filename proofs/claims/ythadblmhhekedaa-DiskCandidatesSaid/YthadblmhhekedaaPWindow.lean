/- Windows. -/
import Derived.Test.YthadblmhhekedaaPGood2
import Derived.Test.YthadblmhhekedaaLBlk
namespace Go.Proofs
open Go.VG
theorem window_mk {x : Dvc} {s : ArrS} {st n m : Int} (hs : x.size s = some m) (hm : 0 ≤ m ∧ m ≤ 1000000000) (hd : x.dep < 60) (h : 0 ≤ st ∧ 0 ≤ n ∧ st + n ≤ m) : block_Window x st n s = some (some (Dvc.window x st n), 0) := by
  unfold block_Window
  rw [hs]; simp only [Option.bind_some]
  rw [inside_t hm.2 h]; simp only [Option.bind_some]
  first
    | rw [if_neg (by simp), grd_t (decide_eq_true (by omega))]
    | rw [if_neg (by simp)]
theorem window_rd {x : Dvc} {s : ArrS} {st n k : Int} (hn : 0 ≤ n ∧ n ≤ 1000000000) (hs : 0 ≤ st ∧ st ≤ 1000000000) (hk : 0 ≤ k ∧ k < n) : (Dvc.window x st n).rd s k = x.rd s (st + k) := by
  show dvc_window_Read x st n k s = _
  unfold dvc_window_Read
  rw [inside1 (by omega)]; simp only [Option.bind_some]
  rw [if_neg (by simp; omega), grd_t (inI64_of (by omega))]
  cases x.rd s (st + k) <;> rfl
theorem window_wr {x : Dvc} {s : ArrS} {st n k : Int} {v : UInt64} (hn : 0 ≤ n ∧ n ≤ 1000000000) (hs : 0 ≤ st ∧ st ≤ 1000000000) (hk : 0 ≤ k ∧ k < n) : (Dvc.window x st n).wr s k v = x.wr s (st + k) v := by
  show dvc_window_Write x st n k v s = _
  unfold dvc_window_Write
  rw [inside1 (by omega)]; simp only [Option.bind_some]
  rw [if_neg (by simp; omega), grd_t (inI64_of (by omega))]
  cases x.wr s (st + k) v <;> rfl
end Go.Proofs
