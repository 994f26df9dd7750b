/- Spans over arrays of which nothing fails. -/
import Derived.Test.YteboelcolfoddaaPGood
namespace Go.Proofs
open Go.VG
/-- Spans over whole disks. -/
theorem Good.span_rd {s : ArrS} (hg : Good s) {d st n k : Nat} (hd : d < s.drv.length) (hk : k < n) (hn : st + n ≤ s.size d) (hb : s.size d ≤ 1000000000) : (Dvc.span (d : Int) (st : Int) (n : Int)).rd s (k : Int) = some ((nowL s d).getD (st + k) 0, 0) := by
  rw [Go.Proofs.span_rd (by omega) (by omega), if_pos (by omega)]
  have e : (st : Int) + (k : Int) = ((st + k : Nat) : Int) := by omega
  rw [e, hg.rdC hd (by omega), hg.rdV hd (by omega)]
theorem Good.span_wr {s : ArrS} (hg : Good s) {d st n k : Nat} {v : UInt64} (hd : d < s.drv.length) (hk : k < n) (hn : st + n ≤ s.size d) (hb : s.size d ≤ 1000000000) (hw : s.writes ≤ 1000000000) : (Dvc.span (d : Int) (st : Int) (n : Int)).wr s (k : Int) v = some (0, Go.Proofs.wr1 s d (st + k) v) := by
  rw [Go.Proofs.span_wr (by omega) (by omega) hw, if_pos (by omega)]
  have e : (st : Int) + (k : Int) = ((st + k : Nat) : Int) := by omega
  rw [e, (hg.wr (v := v) hd (by omega)).1, (hg.wr hd (by omega)).2]
/-- Several sectors of one disk written. -/
def wrN (s : ArrS) (d a : Nat) (f : Nat → UInt64) : Nat → ArrS
  | 0 => s
  | n + 1 => wr1 (wrN s d a f n) d (a + n) (f n)
theorem Good.wrN {s : ArrS} (hg : Good s) {d a : Nat} {f : Nat → UInt64} : ∀ n, Good (wrN s d a f n)
  | 0 => hg
  | n + 1 => (Good.wrN hg n).wr1
@[simp] theorem drv_wrN {s : ArrS} {d a : Nat} {f : Nat → UInt64} : ∀ {n}, (wrN s d a f n).drv.length = s.drv.length
  | 0 => rfl
  | n + 1 => by rw [wrN, drv_wr1, drv_wrN]
@[simp] theorem writes_wrN {s : ArrS} {d a : Nat} {f : Nat → UInt64} : ∀ {n}, (wrN s d a f n).writes = s.writes + n
  | 0 => rfl
  | n + 1 => by rw [wrN, writes_wr1, writes_wrN]; omega
theorem size_wrN {s : ArrS} {d a e : Nat} {f : Nat → UInt64} (hd : d < s.drv.length) : ∀ {n}, (wrN s d a f n).size e = s.size e
  | 0 => rfl
  | n + 1 => by rw [wrN, size_wr1 (by rw [drv_wrN]; exact hd), size_wrN hd]
theorem nowL_wrN {s : ArrS} {d a e : Nat} {f : Nat → UInt64} (hd : d < s.drv.length) (he : e ≠ d) : ∀ {n}, nowL (wrN s d a f n) e = nowL s e
  | 0 => rfl
  | n + 1 => by rw [wrN, nowL_wr1 (by rw [drv_wrN]; exact hd), if_neg he, nowL_wrN hd he]
theorem getD_set_ne {l : List UInt64} {i j : Nat} {v : UInt64} (h : i ≠ j) : (l.set i v).getD j 0 = l.getD j 0 := by
  simp [List.getD, List.getElem?_set, h]
theorem getD_set_eq {l : List UInt64} {i : Nat} {v : UInt64} (h : i < l.length) : (l.set i v).getD i 0 = v := by
  simp [List.getD, List.getElem?_set, h]
theorem nowL_wrN_at {s : ArrS} {d a : Nat} {f : Nat → UInt64} (hd : d < s.drv.length) : ∀ {n k}, a + n ≤ s.size d → (nowL (wrN s d a f n) d).getD k 0 = if a ≤ k ∧ k < a + n then f (k - a) else (nowL s d).getD k 0
  | 0, k, _ => by rw [if_neg (by omega)]; rfl
  | n + 1, k, h => by
    rw [wrN, nowL_wr1 (by rw [drv_wrN]; exact hd), if_pos rfl]
    have hlen : (nowL (wrN s d a f n) d).length = s.size d := by rw [← size_nowL, size_wrN hd]
    by_cases hk : k = a + n
    · subst hk
      rw [getD_set_eq (by omega), if_pos (by omega)]; congr 1; omega
    · rw [getD_set_ne (fun e => hk e.symm), nowL_wrN_at hd (by omega)]
      by_cases h2 : a ≤ k ∧ k < a + n
      · rw [if_pos h2, if_pos (by omega)]
      · rw [if_neg h2, if_neg (by omega)]
end Go.Proofs
