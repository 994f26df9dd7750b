/- What an array's calls keep: the newest of the values of a sector is what it holds. -/
import Derived.Test.YtomomnpnkfgnnaaPRef0
import Derived.Test.YtomomnpnkfgnnaaCLoad
namespace Go.Proofs
open Go.VG
section
variable {s : ArrS} {d a : Int} {v : UInt64} {t : Bool} {im : List UInt64} {zs : List Int} {i j : Nat}
theorem Coh.with (h : Coh s) {m : List ((Int × Int) × Unit)} {f w : Nat} {dn : Bool} : Coh ⟨s.drv, m, s.log, f, dn, w⟩ := ⟨h.len, h.last, h.log⟩
theorem coh_wrS (h : Coh s) : Coh (wrS s d a v) := by
  by_cases hc : wrC s d a = 0
  · by_cases hf : s.fuse = 1
    · rw [wrS_fuse hc hf]; exact h.with
    · obtain ⟨-, i, k, rfl, rfl, h1, h2⟩ := wr_ok hc
      rw [wrS_ok hc hf]
      have h3 := h.wr1 (d := i) (a := k) (v := v) h1 h2
      exact ⟨h3.len, h3.last, h3.log⟩
  · rw [wrS_bad hc]; exact h
theorem coh_flS (h : Coh s) : Coh (flS s d) := by
  by_cases hc : flC s d = 0
  · obtain ⟨i, rfl, h1⟩ := fl_ok hc
    rw [flS_ok hc]
    exact h.fl1 h1
  · rw [flS_bad hc]; exact h
theorem coh_smS (h : Coh s) : Coh (smS s d t) := by
  by_cases hc : inR s d
  · obtain ⟨i, rfl⟩ := Int.eq_ofNat_of_zero_le hc.1
    have hi : i < s.drv.length := by have := hc.2; omega
    have hnow : ∀ e, nowL (smS s (i : Int) t) e = nowL s e := fun e => by
      rw [smS_ok hc]; unfold nowL
      show ((s.drv.set i { s.drv.getD i d0 with miss := t }).getD e d0).now = _
      rw [drv_set hi]; split
      · rename_i y; rw [y]
      · rfl
    have hdur : ∀ e, durL (smS s (i : Int) t) e = durL s e := fun e => by
      rw [smS_ok hc]; unfold durL
      show ((s.drv.set i { s.drv.getD i d0 with miss := t }).getD e d0).dur = _
      rw [drv_set hi]; split
      · rename_i y; rw [y]
      · rfl
    have hlog : (smS s (i : Int) t).log = s.log := by rw [smS_ok hc]
    have hlen : (smS s (i : Int) t).drv.length = s.drv.length := by rw [smS_ok hc]; simp
    have hsize : ∀ e, (smS s (i : Int) t).size e = s.size e := fun e => by rw [size_nowL, size_nowL, hnow]
    refine ⟨fun e => by rw [hnow, hdur]; exact h.len e, fun e b hb => ?_, fun r hr => ?_⟩
    · rw [hsize] at hb
      have := h.last e b hb
      show lastD (dur _ _ _) (pendR _ _ _) = now _ _ _
      unfold dur now
      rw [hdur, hnow, hlog]; exact this
    · rw [hlog] at hr
      rw [hlen, hsize]; exact h.log r hr
  · rw [smS_bad hc]; exact h
theorem coh_sbS (h : Coh s) : Coh (sbS s d a t) := by
  by_cases hc : sbC s d a = 0
  · cases t
    · rw [sbS_f hc]; exact h.with
    · rw [sbS_t hc]; exact h.with
  · rw [sbS_bad hc]; exact h
theorem drvSetR {l : List Drive} {i j : Nat} {x : Drive} (h : i < l.length) : (l.set i x).getD j d0 = if j = i then x else l.getD j d0 := drv_set h
/-- A load told at a disk of the array. -/
theorem ldS_ok (hc : ldC s (i : Int) im = 0) : i < s.drv.length ∧ im.length = (nowL s i).length ∧ ldS s (i : Int) im = ⟨s.drv.set i ⟨im, im, (s.drv.getD i d0).miss⟩, delUpTo s.bad (i : Int) im.length, s.log.filter fun r => !decide ((r.d : Int) = (i : Int)), s.fuse, s.down, s.writes⟩ := by
  have h1 := hc
  unfold ldC at h1
  by_cases hr : inR s (i : Int)
  · rw [if_pos hr, Int.toNat_natCast] at h1
    by_cases hl : im.length = (s.drv.getD i d0).now.length
    · refine ⟨by have := hr.2; omega, hl, ?_⟩
      unfold ldS; rw [if_pos hc, Int.toNat_natCast]
    · rw [if_neg hl] at h1; cases h1
  · rw [if_neg hr] at h1; cases h1
theorem coh_ldS (h : Coh s) : Coh (ldS s d im) := by
  by_cases hc : ldC s d im = 0
  · have hr : inR s d := by
      unfold ldC at hc
      split at hc
      · assumption
      · cases hc
    obtain ⟨i, rfl⟩ := Int.eq_ofNat_of_zero_le hr.1
    obtain ⟨hi, hl, e0⟩ := ldS_ok hc
    rw [e0]
    have hdrv : ∀ e, (s.drv.set i ⟨im, im, (s.drv.getD i d0).miss⟩).getD e d0 = if e = i then ⟨im, im, (s.drv.getD i d0).miss⟩ else s.drv.getD e d0 := fun e => drv_set hi
    have hpe : ∀ e b, pendR (s.log.filter fun r => !decide ((r.d : Int) = (i : Int))) e b = if e = i then [] else pendR s.log e b := fun e b => by
      unfold pendR
      rw [List.filter_filter]
      split
      · rename_i z; subst z
        rw [List.filter_eq_nil_iff.2 (fun r _ => by simp; omega)]; rfl
      · rename_i z
        congr 2
        funext r
        by_cases y : r.d = e
        · have : ¬ ((r.d : Int) = ((i : Nat) : Int)) := by omega
          simp [this]
        · simp [y]
    refine ⟨fun e => ?_, fun e b hb => ?_, fun r hr => ?_⟩
    · show ((s.drv.set i _).getD e d0).dur.length = ((s.drv.set i _).getD e d0).now.length
      rw [hdrv]; split
      · rfl
      · exact h.len e
    · have hb' : b < ((s.drv.set i ⟨im, im, (s.drv.getD i d0).miss⟩).getD e d0).now.length := hb
      show lastD (((s.drv.set i _).getD e d0).dur.getD b 0) (pendR (s.log.filter fun r => !decide ((r.d : Int) = (i : Int))) e b) = ((s.drv.set i _).getD e d0).now.getD b 0
      rw [hdrv] at hb' ⊢
      rw [hpe]
      split
      · rfl
      · rename_i z; rw [if_neg z] at hb'; exact h.last e b hb'
    · have h1 := List.mem_filter.1 hr
      have h2 := h.log r h1.1
      refine ⟨by show r.d < (s.drv.set i _).length; rw [List.length_set]; exact h2.1, ?_⟩
      show r.a < ((s.drv.set i _).getD r.d d0).now.length
      have h3 : r.d ≠ i := fun z => by have := h1.2; rw [z] at this; simp at this
      rw [hdrv, if_neg h3]; exact h2.2
  · have : ldS s d im = s := if_neg hc
    rw [this]; exact h
theorem coh_newS : Coh (newS zs) := by
  have hd : ∀ e, ((newS zs).drv.getD e d0).dur = ((newS zs).drv.getD e d0).now := fun e => by
    unfold newS
    simp only [List.getD, List.getElem?_map]
    cases zs[e]? <;> rfl
  refine ⟨fun e => by unfold durL nowL; rw [hd], fun e b _ => ?_, fun r hr => by cases hr⟩
  show (durL (newS zs) e).getD b 0 = (nowL (newS zs) e).getD b 0
  unfold durL nowL; rw [hd]
end
end Go.Proofs
