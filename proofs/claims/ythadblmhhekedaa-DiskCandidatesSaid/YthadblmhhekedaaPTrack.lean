/- What is known of the sectors of a device over an array's disks: kept through writes, reads, flushes and power failures. -/
import Derived.Test.YthadblmhhekedaaPFls
import Derived.Test.YthadblmhhekedaaLTAll
namespace Go.Proofs
open Go.VG
/-- The track t tells what the array has in the sectors f 0 .. f (n - 1). -/
structure SInv (ns : List Nat) (n : Nat) (f : Nat → Nat × Nat) (K : Nat) (s : ArrS) (t : List Sec) : Prop where
  sz : InSz ns s
  wr : s.writes ≤ K
  coh : Coh s
  miss : ∀ d, miss s d = false
  bad : s.bad = []
  len : t.length = n
  small : ∀ k, k < n → (t.getD k s0).some.length ≤ K + 1
  val : ∀ k, k < n → (t.getD k s0).known = true → now s (f k).1 (f k).2 = (t.getD k s0).value
  cnd : ∀ k, k < n → ∀ c, c ∈ cand s (f k).1 (f k).2 → c ∈ (t.getD k s0).some
section
variable {ns : List Nat} {n : Nat} {f : Nat → Nat × Nat} {ds : List Nat} {K : Nat} {s : ArrS} {t : List Sec} {x : Dvc}
theorem sec_set {t : List Sec} {i j : Nat} {y : Sec} (h : i < t.length) : (t.set i y).getD j s0 = if j = i then y else t.getD j s0 := by
  simp only [List.getD, List.getElem?_set]
  by_cases e : i = j
  · subst e; simp [h]
  · rw [if_neg e, if_neg (fun x => e x.symm)]
theorem sec_map {t : List Sec} {g : Sec → Sec} {j : Nat} (h : j < t.length) : (t.map g).getD j s0 = g (t.getD j s0) := by
  simp only [List.getD, List.getElem?_map]; rw [List.getElem?_eq_getElem h]; rfl
theorem now_mem_cand {d a : Nat} (hc : Coh s) (ha : a < s.size d) : now s d a ∈ cand s d a := by
  rw [← hc.last d a ha]; exact lastD_mem
theorem SInv.smallT (h : SInv ns n f K s t) (hK : K ≤ 1000) : smallT t = true := by
  unfold Go.Proofs.smallT
  rw [List.all_eq_true]
  intro y hy
  obtain ⟨i, hi, rfl⟩ := List.getElem_of_mem hy
  have := h.small i (by rw [← h.len]; exact hi)
  simp only [List.getD, List.getElem?_eq_getElem hi, Option.getD_some] at this
  rw [Nat.ble_eq]; omega
theorem SInv.at_ (h : SInv ns n f K s t) (hx : MapD ns x n f ds) {k : Nat} (hk : k < n) : (f k).1 < s.drv.length ∧ (f k).2 < s.size (f k).1 ∧ (f k).1 ∈ ds := by
  obtain ⟨h1, h2, h3⟩ := hx.at_ k hk
  exact ⟨by rw [h.sz.cnt]; exact h1, by rw [h.sz.size _ h1]; exact h2, h3⟩
theorem SInv.chk (h : SInv ns n f K s t) (hx : MapD ns x n f ds) (hdn : s.down = false) {k : Nat} (hk : k < n) : cPow s = 0 ∧ cLoc s (f k).1 = 0 ∧ cPla s (f k).1 (f k).2 = 0 ∧ cPre s (f k).1 = 0 ∧ cWho s (f k).1 (f k).2 = 0 := by
  obtain ⟨hd, ha, -⟩ := h.at_ hx hk
  refine ⟨by simp [cPow, hdn], ?_, ?_, ?_, by simp [cWho, isBad, h.bad, lookM]⟩
  · rw [cLoc, if_pos (show inR s ((f k).1 : Int) from ⟨by omega, by omega⟩)]
  · rw [cPla, sizeI_of hd, if_pos (by omega)]
  · have := h.miss (f k).1
    unfold Go.Proofs.miss at this
    simp only [cPre, missI, Int.toNat_natCast, this]; rfl
theorem SInv.rd (h : SInv ns n f K s t) (hx : MapD ns x n f ds) (hdn : s.down = false) {k : Nat} (hk : k < n) : x.rd s (k : Int) = some (now s (f k).1 (f k).2, 0) := by
  obtain ⟨h1, h2, h3, h4, h5⟩ := h.chk hx hdn hk
  have hC : rdC s (f k).1 (f k).2 = 0 := by simp [rdC, fz, h1, h2, h3, h4, h5]
  rw [hx.rd s k h.sz hk, hC, rdV, if_pos hC]; rfl
/-- A read that is noted. -/
theorem SInv.reads (h : SInv ns n f K s t) (hx : MapD ns x n f ds) {k : Nat} (hk : k < n) {q : Bool} (hq : q = true → ∀ c, c ∈ cand s (f k).1 (f k).2 → c = now s (f k).1 (f k).2) :
    rdTR t (k : Int) (now s (f k).1 (f k).2) = true ∧ SInv ns n f K s (rdTS t (k : Int) (now s (f k).1 (f k).2) q) ∧ ((rdTS t (k : Int) (now s (f k).1 (f k).2) q).getD k s0).known = true ∧
      ∀ j, (t.getD j s0).known = true → ((rdTS t (k : Int) (now s (f k).1 (f k).2) q).getD j s0).known = true := by
  obtain ⟨hd, ha, -⟩ := h.at_ hx hk
  have hk' : k < t.length := by rw [h.len]; exact hk
  have hR : 0 ≤ (k : Int) ∧ (k : Int) < t.length := ⟨by omega, by omega⟩
  unfold rdTR rdTS
  rw [if_pos hR, if_pos hR, Int.toNat_natCast]
  by_cases hkn : (t.getD k s0).known = true
  · rw [if_pos hkn, if_pos hkn]
    exact ⟨decide_eq_true (h.val k hk hkn), h, hkn, fun j hj => hj⟩
  · rw [if_neg hkn, if_neg hkn]
    have hmem := h.cnd k hk _ (now_mem_cand h.coh ha)
    refine ⟨List.any_eq_true.2 ⟨_, hmem, decide_eq_true rfl⟩, { h with len := by rw [List.length_set]; exact h.len, small := fun j hj => ?_, val := fun j hj => ?_, cnd := fun j hj c hc => ?_ }, ?_, fun j hj => ?_⟩
    · rw [sec_set hk']; split
      · have := h.small k hk
        cases q
        · exact this
        · show ([_] : List UInt64).length ≤ _; simp
      · exact h.small j hj
    · rw [sec_set hk']; split
      · rename_i e; subst e; exact fun _ => rfl
      · exact h.val j hj
    · rw [sec_set hk']; split
      · rename_i e; subst e
        cases q
        · exact h.cnd j hj c hc
        · show c ∈ [_]
          rw [hq rfl c hc]; exact List.mem_singleton.2 rfl
      · exact h.cnd j hj c hc
    · rw [sec_set hk', if_pos rfl]
    · rw [sec_set hk']; split
      · rfl
      · exact hj
theorem all_l1 (hx : MapD ns x n f ds) (hdn : s.down = false) (hK : K ≤ 1000) {q : Bool} (hq : q = true → ∀ k, k < n → ∀ c, c ∈ cand s (f k).1 (f k).2 → c = now s (f k).1 (f k).2) : ∀ (N i : Nat) (t : List Sec), n - i < N → i ≤ n → SInv ns n f K s t →
    ∃ t', SInv ns n f K s t' ∧ volumegroupmake_Track_All_l1 x q s N t i = some (.inl t')
  | 0, _, _, h, _, _ => absurd h (by omega)
  | N + 1, i, t, h, hi, ht => by
    show ∃ t', _ ∧ volumegroupmake_Track_All_l1_b _ _ _ _ _ _ = _
    unfold volumegroupmake_Track_All_l1_b
    have hn := hx.small
    by_cases hlt : i < n
    · rw [if_pos (by rw [ht.len]; omega), ht.rd hx hdn hlt]; simp only [Option.bind_some]
      obtain ⟨h1, h2, -⟩ := ht.reads hx hlt (q := q) (fun e => hq e i hlt)
      rw [if_neg (by simp), grd_t (decide_eq_true (ht.smallT hK)), if_neg (by rw [h1]; simp), grd_t (inN64_of (by omega))]
      exact all_l1 hx hdn hK hq N (i + 1) _ (by omega) (by omega) h2
    · rw [if_neg (by rw [ht.len]; omega)]
      exact ⟨t, ht, rfl⟩
theorem all_eq (hx : MapD ns x n f ds) (hdn : s.down = false) (hK : K ≤ 1000) {q : Bool} (hq : q = true → ∀ k, k < n → ∀ c, c ∈ cand s (f k).1 (f k).2 → c = now s (f k).1 (f k).2) (ht : SInv ns n f K s t) :
    ∃ t', SInv ns n f K s t' ∧ volumegroupmake_Track_All t x q s = some (true, t') := by
  unfold volumegroupmake_Track_All
  have hF := fuel_big
  have hn := hx.small
  generalize FUEL = N at hF ⊢
  obtain ⟨t', h1, h2⟩ := all_l1 hx hdn hK hq N 0 t (by omega) (by omega) ht
  exact ⟨t', h1, by rw [h2]; rfl⟩
/-- Behind a power failure. -/
theorem SInv.restart (h : SInv ns n f K s t) (hx : MapD ns x n f ds) (ks : List Bool) : SInv ns n f K (rsS s ks) (failedT t) ∧ (rsS s ks).down = false ∧ ∀ k, k < n → ∀ c, c ∈ cand (rsS s ks) (f k).1 (f k).2 → c = now (rsS s ks) (f k).1 (f k).2 := by
  have hc : ∀ k, k < n → ∀ c, c ∈ cand (rsS s ks) (f k).1 (f k).2 → c = now (rsS s ks) (f k).1 (f k).2 := fun k _ c hc => by
    have : c ∈ [dur (rsS s ks) (f k).1 (f k).2] := hc
    rw [now_rs]; exact List.mem_singleton.1 this
  refine ⟨⟨⟨by rw [drv_rs]; exact h.sz.cnt, fun d hd => by rw [size_rs h.coh]; exact h.sz.size d hd, h.sz.wr⟩, h.wr, h.coh.rs, fun d => ?_, h.bad, by simp [failedT, h.len], fun k hk => ?_, fun k hk hkn => ?_, fun k hk c hcc => ?_⟩, rfl, hc⟩
  · have := h.miss d
    unfold Go.Proofs.miss at this ⊢
    rw [miss_rs]; exact this
  · rw [failedT, sec_map (by rw [h.len]; exact hk)]; exact h.small k hk
  · rw [failedT, sec_map (by rw [h.len]; exact hk)] at hkn; cases hkn
  · rw [failedT, sec_map (by rw [h.len]; exact hk)]
    obtain ⟨hd, ha, -⟩ := h.at_ hx hk
    have := hc k hk c hcc
    rw [this, now_rs]
    exact h.cnd k hk _ (dur_rs h.coh hd ha)
theorem SInv.mono {K' : Nat} (h : SInv ns n f K s t) (hK : K ≤ K') : SInv ns n f K' s t := { h with wr := Nat.le_trans h.wr hK, small := fun k hk => Nat.le_trans (h.small k hk) (by omega) }
/-- A write, with its fuse, noted. -/
theorem SInv.write (h : SInv ns n f K s t) (hx : MapD ns x n f ds) (hdn : s.down = false) (hK : K ≤ 1000) (hinj : ∀ i j, i < n → j < n → f i = f j → i = j) {k : Nat} (hk : k < n) {v : UInt64} :
    ∃ e s', x.wr s (k : Int) v = some (e, s') ∧ SInv ns n f (K + 1) s' (wroteT t (k : Int) v (decide (e = 0))) ∧ (e = 0 ∧ s'.down = false ∨ e = 5) := by
  obtain ⟨hd, ha, -⟩ := h.at_ hx hk
  obtain ⟨h1, h2, h3, h4, h5⟩ := h.chk hx hdn hk
  have hk' : k < t.length := by rw [h.len]; exact hk
  have hC : wrC s (f k).1 (f k).2 = 0 := by simp [wrC, fz, h1, h2, h3, h4]
  refine ⟨_, _, hx.wr s k v h.sz hk, ?_⟩
  have hR : 0 ≤ (k : Int) ∧ (k : Int) < t.length := ⟨by omega, by omega⟩
  unfold wrR wrS wroteT
  have hC' : ¬ wrC s (f k).1 (f k).2 ≠ 0 := fun x => x hC
  rw [if_neg hC', if_neg hC', if_pos hR]
  by_cases hf : s.fuse = 1
  · rw [if_pos hf, if_pos hf, Int.toNat_natCast]
    refine ⟨{ h with wr := Nat.le_trans h.wr (Nat.le_succ _), len := by rw [List.length_set]; exact h.len, sz := ⟨h.sz.cnt, h.sz.size, h.sz.wr⟩, coh := ⟨h.coh.len, h.coh.last, h.coh.log⟩, small := fun j hj => ?_, val := fun j hj => ?_, cnd := fun j hj c hc => ?_ }, .inr rfl⟩
    · rw [sec_set hk']; split
      · simp only [List.length_append, List.length_singleton]; have := h.small k hk; omega
      · have := h.small j hj; omega
    · rw [sec_set hk']; split
      · intro e; cases e
      · exact h.val j hj
    · rw [sec_set hk']; split
      · rename_i e; subst e; exact List.mem_append_left _ (h.cnd j hj c hc)
      · exact h.cnd j hj c hc
  · rw [if_neg hf, if_neg hf]
    have hbad : delM s.bad (((f k).1 : Int), ((f k).2 : Int)) = [] := by rw [h.bad]; rfl
    have hs' : ({ s with drv := setNow s ((f k).1 : Int).toNat ((f k).2 : Int).toNat v, bad := delM s.bad (((f k).1 : Int), ((f k).2 : Int)), log := s.log ++ [⟨((f k).1 : Int).toNat, ((f k).2 : Int).toNat, v⟩], fuse := s.fuse - 1, writes := s.writes + 1 } : ArrS) = { wr1 s (f k).1 (f k).2 v with bad := [], fuse := s.fuse - 1 } := by
      simp only [wr1, Int.toNat_natCast, hbad]
    rw [hs', Int.toNat_natCast]
    have hcoh := h.coh.wr1 (v := v) hd ha
    have hnow : ∀ e b, now { wr1 s (f k).1 (f k).2 v with bad := [], fuse := s.fuse - 1 } e b = if (f k).1 = e ∧ (f k).2 = b then v else now s e b := fun e b => now_wr1 hd ha
    have hcand : ∀ e b, cand { wr1 s (f k).1 (f k).2 v with bad := [], fuse := s.fuse - 1 } e b = if (f k).1 = e ∧ (f k).2 = b then cand s e b ++ [v] else cand s e b := fun e b => by
      show dur (wr1 s (f k).1 (f k).2 v) e b :: pend (wr1 s (f k).1 (f k).2 v) e b = _
      rw [dur_wr1 hd, pend_wr1]; split <;> rfl
    refine ⟨⟨⟨by show (wr1 s _ _ _).drv.length = _; rw [drv_wr1]; exact h.sz.cnt, fun d hdd => by show (wr1 s _ _ _).size d = _; rw [size_wr1 hd]; exact h.sz.size d hdd, by show s.writes + 1 ≤ _; have := h.wr; omega⟩, by show s.writes + 1 ≤ _; have := h.wr; omega, ⟨hcoh.len, hcoh.last, hcoh.log⟩, fun d => ?_, rfl, by rw [List.length_set]; exact h.len, fun j hj => ?_, fun j hj hkn => ?_, fun j hj c hc => ?_⟩, .inl ⟨rfl, hdn⟩⟩
    · have h0 := h.miss d
      show (((setNow s (f k).1 (f k).2 v).getD d d0)).miss = false
      unfold setNow; rw [drv_set hd]; split
      · rename_i e; subst e; exact h0
      · exact h0
    · rw [sec_set hk']; split
      · simp only [List.length_append, List.length_singleton]; have := h.small k hk; omega
      · have := h.small j hj; omega
    · rw [sec_set hk'] at hkn ⊢
      rw [hnow]
      by_cases e : j = k
      · subst e; rw [if_pos ⟨rfl, rfl⟩, if_pos rfl]
      · rw [if_neg e] at hkn ⊢
        rw [if_neg (fun x => e (hinj j k hj hk (Prod.ext x.1.symm x.2.symm)))]
        exact h.val j hj hkn
    · rw [sec_set hk']
      rw [hcand] at hc
      by_cases e : j = k
      · subst e
        rw [if_pos ⟨rfl, rfl⟩] at hc; rw [if_pos rfl]
        rcases List.mem_append.1 hc with hc | hc
        · exact List.mem_append_left _ (h.cnd j hj c hc)
        · exact List.mem_append_right _ hc
      · rw [if_neg e]
        rw [if_neg (fun x => e (hinj j k hj hk (Prod.ext x.1.symm x.2.symm)))] at hc
        exact h.cnd j hj c hc
/-- A flush, noted. -/
theorem SInv.flush (h : SInv ns n f K s t) (hx : MapD ns x n f ds) (hdn : s.down = false) (hds : ∀ d ∈ ds, d < ns.length) : ∃ s', x.fl s = some (0, s') ∧ SInv ns n f K s' (flushedT t) ∧ s'.down = false := by
  obtain ⟨h1, h2⟩ := flushed (ds := ds) h.coh hdn (fun d hd => by rw [h.sz.cnt]; exact hds d hd)
  have hany : ds.any (fun d => Go.Proofs.miss s d) = false := by
    rw [List.any_eq_false]; intro d _; rw [h.miss d]; simp
  rw [hany] at h2
  refine ⟨flsS s ds, by rw [hx.fl s h.sz, h2]; rfl, ⟨h1.inSz h.sz, by rw [h1.wr]; exact h.wr, h1.coh, fun d => by rw [h1.miss]; exact h.miss d, by rw [h1.bad]; exact h.bad, by simp [flushedT, h.len], fun k hk => ?_, fun k hk hkn => ?_, fun k hk c hc => ?_⟩, by rw [h1.down]; exact hdn⟩
  · rw [flushedT, sec_map (by rw [h.len]; exact hk)]
    unfold flushX; split
    · show ([_] : List UInt64).length ≤ _; simp
    · exact h.small k hk
  · rw [flushedT, sec_map (by rw [h.len]; exact hk)] at hkn ⊢
    rw [h1.nowAt]
    by_cases hkk : (t.getD k s0).known = true
    · rw [flushX_t hkk]; exact h.val k hk hkk
    · rw [flushX_f (by simpa using hkk)] at hkn; exact absurd hkn hkk
  · obtain ⟨hd, ha, hm⟩ := h.at_ hx hk
    have hcand : cand (flsS s ds) (f k).1 (f k).2 = [now s (f k).1 (f k).2] := by
      show dur _ _ _ :: pend _ _ _ = _
      rw [h1.dur _ _ ha, h1.pend, if_pos ⟨hm, h.miss _⟩, if_pos ⟨hm, h.miss _⟩]
    rw [hcand] at hc
    rw [flushedT, sec_map (by rw [h.len]; exact hk), List.mem_singleton.1 hc]
    by_cases hkk : (t.getD k s0).known = true
    · rw [flushX_t hkk, h.val k hk hkk]; exact List.mem_singleton.2 rfl
    · rw [flushX_f (by simpa using hkk)]; exact h.cnd k hk _ (now_mem_cand h.coh ha)
theorem SInv.fuse (h : SInv ns n f K s t) {m : Nat} : SInv ns n f K { s with fuse := m } t := { h with sz := ⟨h.sz.cnt, h.sz.size, h.sz.wr⟩, coh := ⟨h.coh.len, h.coh.last, h.coh.log⟩ }
/-- The track of a device that has just been loaded. -/
theorem SInv.start {initial : List UInt64} (hx : MapD ns x n f ds) (hs : InSz ns s) (hw : s.writes = 0) (hc : Coh s) (hm : ∀ d, Go.Proofs.miss s d = false) (hb : s.bad = []) (hp : s.log = []) (hl : initial.length = n) (hv : ∀ k, k < n → now s (f k).1 (f k).2 = initial.getD k 0) : SInv ns n f 0 s (trkT initial) where
  sz := hs
  wr := by omega
  coh := hc
  miss := hm
  bad := hb
  len := by simp [trkT, hl]
  small k hk := by
    have e : (trkT initial).getD k s0 = mkSec (initial.getD k 0) := by
      simp only [trkT, List.getD, List.getElem?_map]; rw [List.getElem?_eq_getElem (by omega)]; rfl
    rw [e]; exact Nat.le_refl _
  val k hk _ := by
    have e : (trkT initial).getD k s0 = mkSec (initial.getD k 0) := by
      simp only [trkT, List.getD, List.getElem?_map]; rw [List.getElem?_eq_getElem (by omega)]; rfl
    rw [e]; exact hv k hk
  cnd k hk c hcc := by
    have e : (trkT initial).getD k s0 = mkSec (initial.getD k 0) := by
      simp only [trkT, List.getD, List.getElem?_map]; rw [List.getElem?_eq_getElem (by omega)]; rfl
    have hpe : pend s (f k).1 (f k).2 = [] := by unfold pend pendR; rw [hp]; rfl
    have ha : (f k).2 < s.size (f k).1 := by rw [hs.size _ (hx.at_ k hk).1]; exact (hx.at_ k hk).2.1
    have hl2 := hc.last _ _ ha
    rw [hpe] at hl2
    have h3 : c ∈ [dur s (f k).1 (f k).2] := by
      have h4 : c ∈ dur s (f k).1 (f k).2 :: pend s (f k).1 (f k).2 := hcc
      rw [hpe] at h4; exact h4
    rw [e, List.mem_singleton.1 h3]
    have h5 : dur s (f k).1 (f k).2 = initial.getD k 0 := by rw [← hv k hk, ← hl2]; rfl
    rw [h5]; exact List.mem_singleton.2 rfl
end
end Go.Proofs
