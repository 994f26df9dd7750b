/- YthadblmhhekedaaLTrk: lifted functions of the program; printed by lift.py. -/
import Derived.Test.YthadblmhhekedaaCTrack
import Derived.Test.YthadblmhhekedaaLCopy
set_option linter.unusedSimpArgs false
set_option linter.unusedVariables false
set_option maxRecDepth 20000
set_option maxHeartbeats 4000000
namespace Go.Proofs
open Go.VG
def smallT (t : List Sec) : Bool := t.all fun x => Nat.ble x.some.length 100000
theorem smallT_at {t : List Sec} (h : smallT t = true) (i : Nat) : (t.getD i s0).some.length ≤ 100000 := by
  unfold smallT at h
  rw [List.all_eq_true] at h
  rcases Nat.lt_or_ge i t.length with h1 | h1
  · have := h t[i] (List.getElem_mem h1)
    have e : t.getD i s0 = t[i] := by simp [List.getD, h1]
    rw [e]; exact Nat.le_of_ble_eq_true this
  · have e : t.getD i s0 = s0 := by simp [List.getD, List.getElem?_eq_none h1]
    rw [e]; exact Nat.zero_le _

end Go.Proofs
