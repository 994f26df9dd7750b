/- Reads, writes, flushes and restarts of arrays whose disks may be missing: what is in the sectors, and what may be there behind a power failure. -/
import Derived.Test.YteboelcolfoddaaPFls
namespace Go.Proofs
open Go.VG
structure ArrOk (ns : List Nat) (K : Nat) (s : ArrS) : Prop where
  sz : InSz ns s
  wr : s.writes ≤ K
  coh : Coh s
  bad : s.bad = []
section
variable {ns : List Nat} {K d a : Nat} {s : ArrS} {v : UInt64}
theorem ArrOk.mono {K' : Nat} (h : ArrOk ns K s) (hK : K ≤ K') : ArrOk ns K' s := { h with wr := Nat.le_trans h.wr hK }
theorem ArrOk.disk (h : ArrOk ns K s) (hd : d < ns.length) : d < s.drv.length := by rw [h.sz.cnt]; exact hd
theorem ArrOk.sect (h : ArrOk ns K s) (hd : d < ns.length) (ha : a < ns.getD d 0) : a < s.size d := by rw [h.sz.size d hd]; exact ha
theorem ArrOk.now_cand (h : ArrOk ns K s) (hd : d < ns.length) (ha : a < ns.getD d 0) : now s d a ∈ cand s d a := by
  rw [← h.coh.last d a (h.sect hd ha)]; exact lastD_mem
theorem ArrOk.chk (h : ArrOk ns K s) (hdn : s.down = false) (hd : d < ns.length) (ha : a < ns.getD d 0) : cPow s = 0 ∧ cLoc s d = 0 ∧ cPla s d a = 0 ∧ cPre s d = (if miss s d then 6 else 0) ∧ cWho s d a = 0 := by
  have hdd := h.disk hd
  have haa := h.sect hd ha
  refine ⟨by simp [cPow, hdn], ?_, ?_, ?_, by simp [cWho, isBad, h.bad, lookM]⟩
  · rw [cLoc, if_pos (show inR s (d : Int) from ⟨by omega, by omega⟩)]
  · rw [cPla, sizeI_of hdd, if_pos (by omega)]
  · simp only [cPre, missI, Int.toNat_natCast, miss]; by_cases hh : (s.drv.getD d d0).miss = true <;> simp [hh]
theorem ArrOk.rdA (h : ArrOk ns K s) (hdn : s.down = false) (hd : d < ns.length) (ha : a < ns.getD d 0) (hm : miss s d = false) : rdV s d a = now s d a ∧ rdC s d a = 0 := by
  obtain ⟨h1, h2, h3, h4, h5⟩ := h.chk hdn hd ha
  rw [hm] at h4
  have hC : rdC s d a = 0 := by simp [rdC, fz, h1, h2, h3, h4, h5]
  exact ⟨by rw [rdV, if_pos hC]; rfl, hC⟩
theorem ArrOk.rdM (h : ArrOk ns K s) (hdn : s.down = false) (hd : d < ns.length) (ha : a < ns.getD d 0) (hm : miss s d = true) : rdC s d a = 6 := by
  obtain ⟨h1, h2, h3, h4, h5⟩ := h.chk hdn hd ha
  rw [hm] at h4
  simp [rdC, fz, h1, h2, h3, h4]
/-- What a write that succeeds leaves. -/
structure Wrote (ns : List Nat) (K : Nat) (s : ArrS) (d a : Nat) (v : UInt64) (t : ArrS) : Prop where
  ok : ArrOk ns (K + 1) t
  dn : t.down = false
  fuse : t.fuse = s.fuse - 1
  miss : ∀ e, Go.Proofs.miss t e = Go.Proofs.miss s e
  now : ∀ e b, Go.Proofs.now t e b = if d = e ∧ a = b then v else Go.Proofs.now s e b
  cand : ∀ e b, Go.Proofs.cand t e b = if d = e ∧ a = b then Go.Proofs.cand s e b ++ [v] else Go.Proofs.cand s e b
/-- Nothing has changed but the power. -/
structure Fell (ns : List Nat) (K : Nat) (s t : ArrS) : Prop where
  ok : ArrOk ns K t
  dn : t.down = true
  miss : ∀ e, Go.Proofs.miss t e = Go.Proofs.miss s e
  now : ∀ e b, Go.Proofs.now t e b = Go.Proofs.now s e b
  cand : ∀ e b, Go.Proofs.cand t e b = Go.Proofs.cand s e b
theorem ArrOk.wrA (h : ArrOk ns K s) (hK : K ≤ 1000000) (hdn : s.down = false) (hd : d < ns.length) (ha : a < ns.getD d 0) (hm : miss s d = false) :
    (s.fuse ≠ 1 ∧ wrR s d a = 0 ∧ Wrote ns K s d a v (wrS s d a v)) ∨ (s.fuse = 1 ∧ wrR s d a = 5 ∧ Fell ns K s (wrS s d a v)) := by
  obtain ⟨h1, h2, h3, h4, h5⟩ := h.chk hdn hd ha
  rw [hm] at h4
  have hdd := h.disk hd
  have haa := h.sect hd ha
  have hC : wrC s d a = 0 := by simp [wrC, fz, h1, h2, h3, h4]
  have hC' : ¬ wrC s d a ≠ 0 := fun x => x hC
  by_cases hf : s.fuse = 1
  · refine .inr ⟨hf, by rw [wrR, if_neg hC', if_pos hf], ?_⟩
    rw [wrS, if_neg hC', if_pos hf]
    exact ⟨⟨⟨h.sz.cnt, h.sz.size, h.sz.wr⟩, h.wr, ⟨h.coh.len, h.coh.last, h.coh.log⟩, h.bad⟩, rfl, fun _ => rfl, fun _ _ => rfl, fun _ _ => rfl⟩
  · refine .inl ⟨hf, by rw [wrR, if_neg hC', if_neg hf], ?_⟩
    rw [wrS, if_neg hC', if_neg hf]
    have hbad : delM s.bad ((d : Int), (a : Int)) = [] := by rw [h.bad]; rfl
    have hs' : ({ s with drv := setNow s (d : Int).toNat (a : Int).toNat v, bad := delM s.bad ((d : Int), (a : Int)), log := s.log ++ [⟨(d : Int).toNat, (a : Int).toNat, v⟩], fuse := s.fuse - 1, writes := s.writes + 1 } : ArrS) = { wr1 s d a v with bad := [], fuse := s.fuse - 1 } := by
      simp only [wr1, Int.toNat_natCast, hbad]
    rw [hs']
    have hcoh := h.coh.wr1 (v := v) hdd haa
    refine ⟨⟨⟨by show (wr1 s _ _ _).drv.length = _; rw [drv_wr1]; exact h.sz.cnt, fun e he => by show (wr1 s _ _ _).size e = _; rw [size_wr1 hdd]; exact h.sz.size e he, by show s.writes + 1 ≤ _; have := h.wr; omega⟩, by show s.writes + 1 ≤ _; have := h.wr; omega, ⟨hcoh.len, hcoh.last, hcoh.log⟩, rfl⟩, hdn, rfl, fun e => ?_, fun e b => now_wr1 hdd haa, fun e b => ?_⟩
    · show (((setNow s d a v).getD e d0)).miss = _
      unfold setNow Go.Proofs.miss; rw [drv_set hdd]; split
      · rename_i x; subst x; rfl
      · rfl
    · show dur (wr1 s d a v) e b :: pend (wr1 s d a v) e b = _
      rw [dur_wr1 hdd, pend_wr1]; split <;> rfl
/-- A flush of a disk that is there. -/
structure Flushed1 (ns : List Nat) (K : Nat) (s : ArrS) (d : Nat) (t : ArrS) : Prop where
  ok : ArrOk ns K t
  dn : t.down = false
  fuse : t.fuse = s.fuse
  miss : ∀ e, Go.Proofs.miss t e = Go.Proofs.miss s e
  now : ∀ e b, Go.Proofs.now t e b = Go.Proofs.now s e b
  cand : ∀ e b, e < ns.length → b < ns.getD e 0 → Go.Proofs.cand t e b = if d = e then [Go.Proofs.now s e b] else Go.Proofs.cand s e b
theorem ArrOk.flA (h : ArrOk ns K s) (hdn : s.down = false) (hd : d < ns.length) (hm : miss s d = false) : flC s d = 0 ∧ Flushed1 ns K s d (flS s d) := by
  have hdd := h.disk hd
  obtain ⟨h1, h2⟩ := flushed (ds := [d]) h.coh hdn (fun e he => by rw [List.mem_singleton.1 he]; exact hdd)
  have hany : [d].any (fun d => Go.Proofs.miss s d) = false := by simp [hm]
  rw [hany] at h2
  have h3 : flC s d = 0 := by
    have h4 : (if flC s d = 0 then (0 : Int) else flC s d) = 0 := h2
    by_cases h5 : flC s d = 0
    · exact h5
    · rwa [if_neg h5] at h4
  have h6 : flsS s [d] = flS s d := rfl
  rw [h6] at h1
  refine ⟨h3, ⟨⟨h1.inSz h.sz, by rw [h1.wr]; exact h.wr, h1.coh, by rw [h1.bad]; exact h.bad⟩, by rw [h1.down]; exact hdn, h1.fuse, h1.miss, fun e b => h1.nowAt, fun e b he hb => ?_⟩⟩
  show Go.Proofs.dur _ _ _ :: Go.Proofs.pend _ _ _ = _
  rw [h1.dur _ _ (h.sect he hb), h1.pend]
  by_cases e1 : d = e
  · subst e1; rw [if_pos ⟨List.mem_singleton.2 rfl, hm⟩, if_pos ⟨List.mem_singleton.2 rfl, hm⟩, if_pos rfl]
  · rw [if_neg (fun x => e1 (List.mem_singleton.1 x.1).symm), if_neg (fun x => e1 (List.mem_singleton.1 x.1).symm), if_neg e1]
/-- Behind a power failure. -/
structure Restarted (ns : List Nat) (K : Nat) (s t : ArrS) : Prop where
  ok : ArrOk ns K t
  dn : t.down = false
  fuse : t.fuse = 0
  miss : ∀ e, Go.Proofs.miss t e = Go.Proofs.miss s e
  now : ∀ e b, e < ns.length → b < ns.getD e 0 → Go.Proofs.now t e b ∈ Go.Proofs.cand s e b
  cand : ∀ e b, Go.Proofs.cand t e b = [Go.Proofs.now t e b]
  unfl : t.log = []
theorem ArrOk.rs (h : ArrOk ns K s) (ks : List Bool) : Restarted ns K s (rsS s ks) where
  ok := ⟨⟨by rw [drv_rs]; exact h.sz.cnt, fun d hd => by rw [size_rs h.coh]; exact h.sz.size d hd, h.sz.wr⟩, h.wr, h.coh.rs, h.bad⟩
  dn := rfl
  fuse := rfl
  miss e := by unfold Go.Proofs.miss; rw [miss_rs]
  now e b he hb := by rw [now_rs]; exact dur_rs h.coh (h.disk he) (h.sect he hb)
  cand e b := by
    show [dur (rsS s ks) e b] = _
    rw [now_rs]
  unfl := rfl
theorem ArrOk.fuse (h : ArrOk ns K s) {m : Nat} : ArrOk ns K { s with fuse := m } := ⟨⟨h.sz.cnt, h.sz.size, h.sz.wr⟩, h.wr, ⟨h.coh.len, h.coh.last, h.coh.log⟩, h.bad⟩
end
end Go.Proofs
