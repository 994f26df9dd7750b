/- What a reference of an array must show: values that were written last, flushes, told in the order of the writes. -/
import Derived.Test.YtomomnpnkfgnnaaPArr
import Derived.Test.YtomomnpnkfgnnaaPModD
namespace Go.Proofs
open Go.VG
section
variable {d a i : Nat} {s : ArrS}
theorem lastW_eq : ∀ (log : List Rec) (v : UInt64), lastW log d a v = lastD v (pendR log d a)
  | [], _ => rfl
  | r :: log, v => by
    show lastW log d a (if r.d = d ∧ r.a = a then r.v else v) = _
    rw [lastW_eq log, pendR_cons]
    split <;> rfl
theorem lastW_now (h : Coh s) (ha : a < s.size d) : lastW s.log d a (dur s d a) = now s d a := by rw [lastW_eq]; exact h.last d a ha
theorem setAll_len : ∀ (log : List Rec) (du : List UInt64), (setAll i log du).length = du.length
  | [], _ => rfl
  | r :: log, du => by
    show (setAll i log (if r.d = i then du.set r.a r.v else du)).length = _
    rw [setAll_len log]; split <;> simp
theorem setAll_at : ∀ (log : List Rec) (du : List UInt64), a < du.length → (setAll i log du).getD a 0 = lastW log i a (du.getD a 0)
  | [], _, _ => rfl
  | r :: log, du, h => by
    show (setAll i log (if r.d = i then du.set r.a r.v else du)).getD a 0 = lastW log i a (if r.d = i ∧ r.a = a then r.v else du.getD a 0)
    by_cases h1 : r.d = i
    · rw [if_pos h1, setAll_at log _ (by simpa using h)]
      by_cases h2 : r.a = a
      · rw [if_pos ⟨h1, h2⟩, h2, getD_set_eq h]
      · rw [if_neg (fun y => h2 y.2), getD_set_ne h2]
    · rw [if_neg h1, if_neg (fun y => h1 y.1)]
      exact setAll_at log du h
theorem extL {l l' : List UInt64} (hl : l.length = l'.length) (h : ∀ a, a < l.length → l.getD a 0 = l'.getD a 0) : l = l' := by
  refine List.ext_getElem hl (fun a h1 h2 => ?_)
  have := h a h1
  simpa [List.getD, h1, h2] using this
/-- Behind all writes of a disk there is what it holds. -/
theorem setAll_now (h : Coh s) : setAll i s.log (durL s i) = nowL s i := by
  refine extL (by rw [setAll_len]; exact h.len i) (fun a ha => ?_)
  rw [setAll_len] at ha
  rw [setAll_at _ _ ha]
  exact lastW_now h (by rw [size_nowL, ← h.len i]; exact ha)
theorem flDur_now (h : Coh s) : flDur (nowL s i) i s.log (durL s i) = nowL s i := by
  refine extL (by rw [flDur_len]; exact h.len i) (fun a ha => ?_)
  rw [flDur_len] at ha
  have hl := h.last i a (by rw [size_nowL, ← h.len i]; exact ha)
  rw [flDur_at ha]
  split
  · rename_i y
    have e1 : pend s i a = [] := y
    rw [e1] at hl
    exact hl
  · rfl
end
end Go.Proofs
