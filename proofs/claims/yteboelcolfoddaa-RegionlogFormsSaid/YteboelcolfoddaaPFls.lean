/- Flushes of several disks, some of them missing; restarts. -/
import Derived.Test.YteboelcolfoddaaPMapD
namespace Go.Proofs
open Go.VG
def miss (s : ArrS) (d : Nat) : Bool := (s.drv.getD d d0).miss
/-- What flushes of the disks ds do. -/
structure Flushed (s : ArrS) (ds : List Nat) (t : ArrS) : Prop where
  drv : t.drv.length = s.drv.length
  now : ∀ d, nowL t d = nowL s d
  dur : ∀ d a, a < s.size d → dur t d a = if d ∈ ds ∧ miss s d = false then Go.Proofs.now s d a else Go.Proofs.dur s d a
  pend : ∀ d a, pend t d a = if d ∈ ds ∧ miss s d = false then [] else Go.Proofs.pend s d a
  miss : ∀ d, miss t d = Go.Proofs.miss s d
  down : t.down = s.down
  fuse : t.fuse = s.fuse
  bad : t.bad = s.bad
  wr : t.writes = s.writes
  coh : Coh t
theorem Flushed.none {s : ArrS} (h : Coh s) : Flushed s [] s where
  drv := rfl
  now _ := rfl
  dur _ _ _ := by simp
  pend _ _ := by simp
  miss _ := rfl
  down := rfl
  fuse := rfl
  bad := rfl
  wr := rfl
  coh := h
theorem flC_miss {s : ArrS} {d : Nat} (hdn : s.down = false) (hd : d < s.drv.length) : flC s d = if miss s d then 6 else 0 := flC_of hdn hd
theorem flS_miss {s : ArrS} {d : Nat} (hdn : s.down = false) (hd : d < s.drv.length) : flS s d = if miss s d then s else fl1 s d := by
  have h := flC_miss hdn hd
  by_cases hm : miss s d = true
  · rw [if_pos hm] at h; rw [if_pos hm]
    unfold flS; rw [if_pos (by rw [h]; decide)]
  · rw [if_neg hm] at h; rw [if_neg hm]; exact flS_of h
theorem flushed : ∀ {ds : List Nat} {s : ArrS}, Coh s → s.down = false → (∀ d ∈ ds, d < s.drv.length) → Flushed s ds (flsS s ds) ∧ flsC s ds = if ds.any (fun d => miss s d) then 6 else 0
  | [], s, hc, _, _ => ⟨Flushed.none hc, rfl⟩
  | d :: ds, s, hc, hdn, hds => by
    have hd := hds d List.mem_cons_self
    have hC := flC_miss hdn hd
    have hS := flS_miss hdn hd
    show Flushed s (d :: ds) (flsS (flS s d) ds) ∧ (if flC s d = 0 then flsC (flS s d) ds else flC s d) = _
    by_cases hm : miss s d = true
    · rw [if_pos hm] at hC hS
      rw [hS, hC]
      obtain ⟨h1, -⟩ := flushed (ds := ds) hc hdn (fun e he => hds e (List.mem_cons_of_mem _ he))
      refine ⟨{ h1 with dur := fun e a ha => ?_, pend := fun e a => ?_ }, by simp [hm]⟩
      · rw [h1.dur e a ha]
        by_cases he : e = d
        · subst he; rw [if_neg (by simp [hm]), if_neg (by simp [hm])]
        · simp [he]
      · rw [h1.pend e a]
        by_cases he : e = d
        · subst he; rw [if_neg (by simp [hm]), if_neg (by simp [hm])]
        · simp [he]
    · have hm' : miss s d = false := by simpa using hm
      rw [if_neg hm] at hC hS
      rw [hS, hC]
      have hmm : ∀ e, miss (fl1 s d) e = miss s e := fun e => miss_fl1 hd
      obtain ⟨h1, h2⟩ := flushed (ds := ds) (s := fl1 s d) (hc.fl1 hd) hdn (fun e he => by rw [drv_fl1]; exact hds e (List.mem_cons_of_mem _ he))
      refine ⟨⟨by rw [h1.drv, drv_fl1], fun e => by rw [h1.now, nowL_fl1 hd], fun e a ha => ?_, fun e a => ?_, fun e => by rw [h1.miss, hmm], h1.down, h1.fuse, h1.bad, h1.wr, h1.coh⟩, ?_⟩
      · rw [h1.dur e a (by rw [size_fl1 hd]; exact ha), hmm, now_fl1 hd, dur_fl1 hc hd ha]
        by_cases he : e = d
        · subst he; simp [hm']
        · simp [he]
      · rw [h1.pend e a, hmm, pend_fl1]
        by_cases he : e = d
        · subst he; simp [hm']
        · simp [he]
      · rw [if_pos rfl, h2, List.any_cons, hm', Bool.false_or]
        congr 1
        simp only [hmm]
theorem Flushed.size {s t : ArrS} {ds : List Nat} (h : Flushed s ds t) {d : Nat} : t.size d = s.size d := by rw [size_nowL, size_nowL, h.now]
theorem Flushed.inSz {ns : List Nat} {s t : ArrS} {ds : List Nat} (h : Flushed s ds t) (hs : InSz ns s) : InSz ns t := ⟨by rw [h.drv]; exact hs.cnt, fun d hd => by rw [h.size]; exact hs.size d hd, by rw [h.wr]; exact hs.wr⟩
theorem Flushed.nowAt {s t : ArrS} {ds : List Nat} (h : Flushed s ds t) {d a : Nat} : Go.Proofs.now t d a = Go.Proofs.now s d a := by unfold Go.Proofs.now; rw [h.now]
/-- Another choice of missing disks. -/
structure Missed (s : ArrS) (p : Nat → Bool) (t : ArrS) : Prop where
  drv : t.drv.length = s.drv.length
  now : ∀ d, nowL t d = nowL s d
  dur : ∀ d, durL t d = durL s d
  log : t.log = s.log
  miss : ∀ d, d < s.drv.length → miss t d = p d
  down : t.down = s.down
  fuse : t.fuse = s.fuse
  bad : t.bad = s.bad
  wr : t.writes = s.writes
theorem Missed.coh {s t : ArrS} {p : Nat → Bool} (h : Missed s p t) (hc : Coh s) : Coh t where
  len d := by rw [h.now, h.dur]; exact hc.len d
  last d a ha := by
    have h1 := hc.last d a (by rw [size_nowL] at ha ⊢; rw [← h.now]; exact ha)
    unfold Go.Proofs.now Go.Proofs.dur pend at h1 ⊢
    rw [h.now, h.dur, h.log]; exact h1
  log r hr := by
    rw [h.log] at hr
    have := hc.log r hr
    rw [h.drv, size_nowL, h.now]; exact this
theorem Missed.size {s t : ArrS} {p : Nat → Bool} (h : Missed s p t) {d : Nat} : t.size d = s.size d := by rw [size_nowL, size_nowL, h.now]
theorem Missed.inSz {ns : List Nat} {s t : ArrS} {p : Nat → Bool} (h : Missed s p t) (hs : InSz ns s) : InSz ns t := ⟨by rw [h.drv]; exact hs.cnt, fun d hd => by rw [h.size]; exact hs.size d hd, by rw [h.wr]; exact hs.wr⟩
theorem Missed.self {s : ArrS} : Missed s (Go.Proofs.miss s) s := ⟨rfl, fun _ => rfl, fun _ => rfl, rfl, fun _ _ => rfl, rfl, rfl, rfl, rfl⟩
theorem smS_of {s : ArrS} {d : Nat} {b : Bool} (hd : d < s.drv.length) : smS s d b = { s with drv := s.drv.set d { s.drv.getD d d0 with miss := b } } := by
  rw [smS, if_pos (show inR s (d : Int) from ⟨by omega, by omega⟩)]; rfl
theorem Missed.set {s t : ArrS} {p : Nat → Bool} (h : Missed s p t) {d : Nat} {b : Bool} (hd : d < s.drv.length) : Missed s (fun e => if e = d then b else p e) (smS t d b) := by
  have hd' : d < t.drv.length := by rw [h.drv]; exact hd
  rw [smS_of hd']
  refine ⟨by simpa using h.drv, fun e => ?_, fun e => ?_, h.log, fun e he => ?_, h.down, h.fuse, h.bad, h.wr⟩
  · rw [← h.now]; unfold nowL; rw [drv_set hd']; split
    · rename_i x; subst x; rfl
    · rfl
  · rw [← h.dur]; unfold durL; rw [drv_set hd']; split
    · rename_i x; subst x; rfl
    · rfl
  · unfold Go.Proofs.miss; rw [drv_set hd']; split
    · rfl
    · exact h.miss e he
theorem imC_of {s : ArrS} {d : Nat} (hd : d < s.drv.length) : imC s d = 0 := by rw [imC, if_pos (show inR s (d : Int) from ⟨by omega, by omega⟩)]
theorem imL_of {s : ArrS} {d : Nat} (hd : d < s.drv.length) : imL s d = nowL s d := by rw [imL, if_pos (show inR s (d : Int) from ⟨by omega, by omega⟩)]; rfl
end Go.Proofs
