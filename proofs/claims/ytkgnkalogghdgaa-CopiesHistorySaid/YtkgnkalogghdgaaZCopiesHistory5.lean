/- CopiesHistory, part 5 of the proof: PFls, PUp, PAllR, POneR, PRing3, PSpansA, PFlat0, PDk, LAw12, PRing4, PRing5, LRef13, LCop, PCopC, LAw13, PCop1, PCop2, PChoose, PFlip, PKeep, VgDe, LCopS. -/
import Derived.WalkKit
import Derived.Orders
import Derived.RangeFuncLeaves
import Derived.RangeFuncCalls
import Derived.TacticsIn
import Derived.Handy
import Derived.OrdersHeld
import Derived.OrdersIn
import Derived.Below
import Derived.OpenShut
import Derived.Deep.Slices
import Derived.Scope
import Derived.KernelRfl
import Derived.RangeFuncRecord
import Derived.ChangeKeysEq
import Derived.Laws.BytesArg
import Derived.ProofKit
import Derived.ShutString
import Derived.ChangeOld
import Derived.Test.YtkgnkalogghdgaaChecked
import Derived.Test.YtkgnkalogghdgaaRows
import Derived.Test.YtkgnkalogghdgaaZCopiesHistory4
namespace Go.Proofs
open Go.VG
def miss (s : ArrS) (d : Nat) : Bool := (s.drv.getD d d0).miss
structure Flushed (s : ArrS) (ds : List Nat) (t : ArrS) : Prop where
  drv : t.drv.length = s.drv.length
  now : ∀ d, nowL t d = nowL s d
  dur : ∀ d a, a < s.size d → dur t d a = if d ∈ ds ∧ miss s d = false then Go.Proofs.now s d a else Go.Proofs.dur s d a
  pend : ∀ d a, pend t d a = if d ∈ ds ∧ miss s d = false then [] else Go.Proofs.pend s d a
  miss : ∀ d, miss t d = Go.Proofs.miss s d
  down : t.down = s.down
  fuse : t.fuse = s.fuse
  bad : t.bad = s.bad
  wr : t.writes = s.writes
  coh : Coh t
theorem Flushed.none {s : ArrS} (h : Coh s) : Flushed s [] s where
  drv := rfl
  now _ := rfl
  dur _ _ _ := by simp
  pend _ _ := by simp
  miss _ := rfl
  down := rfl
  fuse := rfl
  bad := rfl
  wr := rfl
  coh := h
theorem flC_miss {s : ArrS} {d : Nat} (hdn : s.down = false) (hd : d < s.drv.length) : flC s d = if miss s d then 6 else 0 := flC_of hdn hd
theorem flS_miss {s : ArrS} {d : Nat} (hdn : s.down = false) (hd : d < s.drv.length) : flS s d = if miss s d then s else fl1 s d := by
  have h := flC_miss hdn hd
  by_cases hm : miss s d = true
  · rw [if_pos hm] at h; rw [if_pos hm]
    unfold flS; rw [if_pos (by rw [h]; decide)]
  · rw [if_neg hm] at h; rw [if_neg hm]; exact flS_of h
theorem flushed : ∀ {ds : List Nat} {s : ArrS}, Coh s → s.down = false → (∀ d ∈ ds, d < s.drv.length) → Flushed s ds (flsS s ds) ∧ flsC s ds = if ds.any (fun d => miss s d) then 6 else 0
  | [], s, hc, _, _ => ⟨Flushed.none hc, rfl⟩
  | d :: ds, s, hc, hdn, hds => by
    have hd := hds d List.mem_cons_self
    have hC := flC_miss hdn hd
    have hS := flS_miss hdn hd
    show Flushed s (d :: ds) (flsS (flS s d) ds) ∧ (if flC s d = 0 then flsC (flS s d) ds else flC s d) = _
    by_cases hm : miss s d = true
    · rw [if_pos hm] at hC hS
      rw [hS, hC]
      obtain ⟨h1, -⟩ := flushed (ds := ds) hc hdn (fun e he => hds e (List.mem_cons_of_mem _ he))
      refine ⟨{ h1 with dur := fun e a ha => ?_, pend := fun e a => ?_ }, by simp [hm]⟩
      · rw [h1.dur e a ha]
        by_cases he : e = d
        · subst he; rw [if_neg (by simp [hm]), if_neg (by simp [hm])]
        · simp [he]
      · rw [h1.pend e a]
        by_cases he : e = d
        · subst he; rw [if_neg (by simp [hm]), if_neg (by simp [hm])]
        · simp [he]
    · have hm' : miss s d = false := by simpa using hm
      rw [if_neg hm] at hC hS
      rw [hS, hC]
      have hmm : ∀ e, miss (fl1 s d) e = miss s e := fun e => miss_fl1 hd
      obtain ⟨h1, h2⟩ := flushed (ds := ds) (s := fl1 s d) (hc.fl1 hd) hdn (fun e he => by rw [drv_fl1]; exact hds e (List.mem_cons_of_mem _ he))
      refine ⟨⟨by rw [h1.drv, drv_fl1], fun e => by rw [h1.now, nowL_fl1 hd], fun e a ha => ?_, fun e a => ?_, fun e => by rw [h1.miss, hmm], h1.down, h1.fuse, h1.bad, h1.wr, h1.coh⟩, ?_⟩
      · rw [h1.dur e a (by rw [size_fl1 hd]; exact ha), hmm, now_fl1 hd, dur_fl1 hc hd ha]
        by_cases he : e = d
        · subst he; simp [hm']
        · simp [he]
      · rw [h1.pend e a, hmm, pend_fl1]
        by_cases he : e = d
        · subst he; simp [hm']
        · simp [he]
      · rw [if_pos rfl, h2, List.any_cons, hm', Bool.false_or]
        congr 1
        simp only [hmm]
theorem Flushed.size {s t : ArrS} {ds : List Nat} (h : Flushed s ds t) {d : Nat} : t.size d = s.size d := by rw [size_nowL, size_nowL, h.now]
theorem Flushed.inSz {ns : List Nat} {s t : ArrS} {ds : List Nat} (h : Flushed s ds t) (hs : InSz ns s) : InSz ns t := ⟨by rw [h.drv]; exact hs.cnt, fun d hd => by rw [h.size]; exact hs.size d hd, by rw [h.wr]; exact hs.wr⟩
theorem Flushed.nowAt {s t : ArrS} {ds : List Nat} (h : Flushed s ds t) {d a : Nat} : Go.Proofs.now t d a = Go.Proofs.now s d a := by unfold Go.Proofs.now; rw [h.now]
structure Missed (s : ArrS) (p : Nat → Bool) (t : ArrS) : Prop where
  drv : t.drv.length = s.drv.length
  now : ∀ d, nowL t d = nowL s d
  dur : ∀ d, durL t d = durL s d
  log : t.log = s.log
  miss : ∀ d, d < s.drv.length → miss t d = p d
  down : t.down = s.down
  fuse : t.fuse = s.fuse
  bad : t.bad = s.bad
  wr : t.writes = s.writes
theorem Missed.coh {s t : ArrS} {p : Nat → Bool} (h : Missed s p t) (hc : Coh s) : Coh t where
  len d := by rw [h.now, h.dur]; exact hc.len d
  last d a ha := by
    have h1 := hc.last d a (by rw [size_nowL] at ha ⊢; rw [← h.now]; exact ha)
    unfold Go.Proofs.now Go.Proofs.dur pend at h1 ⊢
    rw [h.now, h.dur, h.log]; exact h1
  log r hr := by
    rw [h.log] at hr
    have := hc.log r hr
    rw [h.drv, size_nowL, h.now]; exact this
theorem Missed.size {s t : ArrS} {p : Nat → Bool} (h : Missed s p t) {d : Nat} : t.size d = s.size d := by rw [size_nowL, size_nowL, h.now]
theorem Missed.inSz {ns : List Nat} {s t : ArrS} {p : Nat → Bool} (h : Missed s p t) (hs : InSz ns s) : InSz ns t := ⟨by rw [h.drv]; exact hs.cnt, fun d hd => by rw [h.size]; exact hs.size d hd, by rw [h.wr]; exact hs.wr⟩
theorem Missed.self {s : ArrS} : Missed s (Go.Proofs.miss s) s := ⟨rfl, fun _ => rfl, fun _ => rfl, rfl, fun _ _ => rfl, rfl, rfl, rfl, rfl⟩
theorem smS_of {s : ArrS} {d : Nat} {b : Bool} (hd : d < s.drv.length) : smS s d b = { s with drv := s.drv.set d { s.drv.getD d d0 with miss := b } } := by
  rw [smS, if_pos (show inR s (d : Int) from ⟨by omega, by omega⟩)]; rfl
theorem Missed.set {s t : ArrS} {p : Nat → Bool} (h : Missed s p t) {d : Nat} {b : Bool} (hd : d < s.drv.length) : Missed s (fun e => if e = d then b else p e) (smS t d b) := by
  have hd' : d < t.drv.length := by rw [h.drv]; exact hd
  rw [smS_of hd']
  refine ⟨by simpa using h.drv, fun e => ?_, fun e => ?_, h.log, fun e he => ?_, h.down, h.fuse, h.bad, h.wr⟩
  · rw [← h.now]; unfold nowL; rw [drv_set hd']; split
    · rename_i x; subst x; rfl
    · rfl
  · rw [← h.dur]; unfold durL; rw [drv_set hd']; split
    · rename_i x; subst x; rfl
    · rfl
  · unfold Go.Proofs.miss; rw [drv_set hd']; split
    · rfl
    · exact h.miss e he
end Go.Proofs
namespace Go.Proofs
open Go.VG
structure ArrOk (ns : List Nat) (K : Nat) (s : ArrS) : Prop where
  sz : InSz ns s
  wr : s.writes ≤ K
  coh : Coh s
  bad : s.bad = []
section
variable {ns : List Nat} {K d a : Nat} {s : ArrS} {v : UInt64}
theorem ArrOk.mono {K' : Nat} (h : ArrOk ns K s) (hK : K ≤ K') : ArrOk ns K' s := { h with wr := Nat.le_trans h.wr hK }
theorem ArrOk.disk (h : ArrOk ns K s) (hd : d < ns.length) : d < s.drv.length := by rw [h.sz.cnt]; exact hd
theorem ArrOk.sect (h : ArrOk ns K s) (hd : d < ns.length) (ha : a < ns.getD d 0) : a < s.size d := by rw [h.sz.size d hd]; exact ha
theorem ArrOk.chk (h : ArrOk ns K s) (hdn : s.down = false) (hd : d < ns.length) (ha : a < ns.getD d 0) : cPow s = 0 ∧ cLoc s d = 0 ∧ cPla s d a = 0 ∧ cPre s d = (if miss s d then 6 else 0) ∧ cWho s d a = 0 := by
  have hdd := h.disk hd
  have haa := h.sect hd ha
  refine ⟨by simp [cPow, hdn], ?_, ?_, ?_, by simp [cWho, isBad, h.bad, lookM]⟩
  · rw [cLoc, if_pos (show inR s (d : Int) from ⟨by omega, by omega⟩)]
  · rw [cPla, sizeI_of hdd, if_pos (by omega)]
  · simp only [cPre, missI, Int.toNat_natCast, miss]; by_cases hh : (s.drv.getD d d0).miss = true <;> simp
theorem ArrOk.rdA (h : ArrOk ns K s) (hdn : s.down = false) (hd : d < ns.length) (ha : a < ns.getD d 0) (hm : miss s d = false) : rdV s d a = now s d a ∧ rdC s d a = 0 := by
  obtain ⟨h1, h2, h3, h4, h5⟩ := h.chk hdn hd ha
  rw [hm] at h4
  have hC : rdC s d a = 0 := by simp [rdC, fz, h1, h2, h3, h4, h5]
  exact ⟨by rw [rdV, if_pos hC]; rfl, hC⟩
structure Wrote (ns : List Nat) (K : Nat) (s : ArrS) (d a : Nat) (v : UInt64) (t : ArrS) : Prop where
  ok : ArrOk ns (K + 1) t
  dn : t.down = false
  fuse : t.fuse = s.fuse - 1
  miss : ∀ e, Go.Proofs.miss t e = Go.Proofs.miss s e
  now : ∀ e b, Go.Proofs.now t e b = if d = e ∧ a = b then v else Go.Proofs.now s e b
  cand : ∀ e b, Go.Proofs.cand t e b = if d = e ∧ a = b then Go.Proofs.cand s e b ++ [v] else Go.Proofs.cand s e b
structure Fell (ns : List Nat) (K : Nat) (s t : ArrS) : Prop where
  ok : ArrOk ns K t
  dn : t.down = true
  miss : ∀ e, Go.Proofs.miss t e = Go.Proofs.miss s e
  now : ∀ e b, Go.Proofs.now t e b = Go.Proofs.now s e b
  cand : ∀ e b, Go.Proofs.cand t e b = Go.Proofs.cand s e b
theorem ArrOk.wrA (h : ArrOk ns K s) (hK : K ≤ 1000000) (hdn : s.down = false) (hd : d < ns.length) (ha : a < ns.getD d 0) (hm : miss s d = false) :
    (s.fuse ≠ 1 ∧ wrR s d a = 0 ∧ Wrote ns K s d a v (wrS s d a v)) ∨ (s.fuse = 1 ∧ wrR s d a = 5 ∧ Fell ns K s (wrS s d a v)) := by
  obtain ⟨h1, h2, h3, h4, h5⟩ := h.chk hdn hd ha
  rw [hm] at h4
  have hdd := h.disk hd
  have haa := h.sect hd ha
  have hC : wrC s d a = 0 := by simp [wrC, fz, h1, h2, h3, h4]
  have hC' : ¬ wrC s d a ≠ 0 := fun x => x hC
  by_cases hf : s.fuse = 1
  · refine .inr ⟨hf, by rw [wrR, if_neg hC', if_pos hf], ?_⟩
    rw [wrS, if_neg hC', if_pos hf]
    exact ⟨⟨⟨h.sz.cnt, h.sz.size, h.sz.wr⟩, h.wr, ⟨h.coh.len, h.coh.last, h.coh.log⟩, h.bad⟩, rfl, fun _ => rfl, fun _ _ => rfl, fun _ _ => rfl⟩
  · refine .inl ⟨hf, by rw [wrR, if_neg hC', if_neg hf], ?_⟩
    rw [wrS, if_neg hC', if_neg hf]
    have hbad : delM s.bad ((d : Int), (a : Int)) = [] := by rw [h.bad]; rfl
    have hs' : ({ s with drv := setNow s (d : Int).toNat (a : Int).toNat v, bad := delM s.bad ((d : Int), (a : Int)), log := s.log ++ [⟨(d : Int).toNat, (a : Int).toNat, v⟩], fuse := s.fuse - 1, writes := s.writes + 1 } : ArrS) = { wr1 s d a v with bad := [], fuse := s.fuse - 1 } := by
      simp only [wr1, Int.toNat_natCast, hbad]
    rw [hs']
    have hcoh := h.coh.wr1 (v := v) hdd haa
    refine ⟨⟨⟨by show (wr1 s _ _ _).drv.length = _; rw [drv_wr1]; exact h.sz.cnt, fun e he => by show (wr1 s _ _ _).size e = _; rw [size_wr1 hdd]; exact h.sz.size e he, by show s.writes + 1 ≤ _; have := h.wr; omega⟩, by show s.writes + 1 ≤ _; have := h.wr; omega, ⟨hcoh.len, hcoh.last, hcoh.log⟩, rfl⟩, hdn, rfl, fun e => ?_, fun e b => now_wr1 hdd haa, fun e b => ?_⟩
    · show (((setNow s d a v).getD e d0)).miss = _
      unfold setNow Go.Proofs.miss; rw [drv_set hdd]; split
      · rename_i x; subst x; rfl
      · rfl
    · show dur (wr1 s d a v) e b :: pend (wr1 s d a v) e b = _
      rw [dur_wr1 hdd, pend_wr1]; split <;> rfl
structure Flushed1 (ns : List Nat) (K : Nat) (s : ArrS) (d : Nat) (t : ArrS) : Prop where
  ok : ArrOk ns K t
  dn : t.down = false
  fuse : t.fuse = s.fuse
  miss : ∀ e, Go.Proofs.miss t e = Go.Proofs.miss s e
  now : ∀ e b, Go.Proofs.now t e b = Go.Proofs.now s e b
  cand : ∀ e b, e < ns.length → b < ns.getD e 0 → Go.Proofs.cand t e b = if d = e then [Go.Proofs.now s e b] else Go.Proofs.cand s e b
theorem ArrOk.flA (h : ArrOk ns K s) (hdn : s.down = false) (hd : d < ns.length) (hm : miss s d = false) : flC s d = 0 ∧ Flushed1 ns K s d (flS s d) := by
  have hdd := h.disk hd
  obtain ⟨h1, h2⟩ := flushed (ds := [d]) h.coh hdn (fun e he => by rw [List.mem_singleton.1 he]; exact hdd)
  have hany : [d].any (fun d => Go.Proofs.miss s d) = false := by simp [hm]
  rw [hany] at h2
  have h3 : flC s d = 0 := by
    have h4 : (if flC s d = 0 then (0 : Int) else flC s d) = 0 := h2
    by_cases h5 : flC s d = 0
    · exact h5
    · rwa [if_neg h5] at h4
  have h6 : flsS s [d] = flS s d := rfl
  rw [h6] at h1
  refine ⟨h3, ⟨⟨h1.inSz h.sz, by rw [h1.wr]; exact h.wr, h1.coh, by rw [h1.bad]; exact h.bad⟩, by rw [h1.down]; exact hdn, h1.fuse, h1.miss, fun e b => h1.nowAt, fun e b he hb => ?_⟩⟩
  show Go.Proofs.dur _ _ _ :: Go.Proofs.pend _ _ _ = _
  rw [h1.dur _ _ (h.sect he hb), h1.pend]
  by_cases e1 : d = e
  · subst e1; rw [if_pos ⟨List.mem_singleton.2 rfl, hm⟩, if_pos ⟨List.mem_singleton.2 rfl, hm⟩, if_pos rfl]
  · rw [if_neg (fun x => e1 (List.mem_singleton.1 x.1).symm), if_neg (fun x => e1 (List.mem_singleton.1 x.1).symm), if_neg e1]
structure Restarted (ns : List Nat) (K : Nat) (s t : ArrS) : Prop where
  ok : ArrOk ns K t
  dn : t.down = false
  fuse : t.fuse = 0
  miss : ∀ e, Go.Proofs.miss t e = Go.Proofs.miss s e
  now : ∀ e b, e < ns.length → b < ns.getD e 0 → Go.Proofs.now t e b ∈ Go.Proofs.cand s e b
  cand : ∀ e b, Go.Proofs.cand t e b = [Go.Proofs.now t e b]
  unfl : t.log = []
theorem ArrOk.rs (h : ArrOk ns K s) (ks : List Bool) : Restarted ns K s (rsS s ks) where
  ok := ⟨⟨by rw [drv_rs]; exact h.sz.cnt, fun d hd => by rw [size_rs h.coh]; exact h.sz.size d hd, h.sz.wr⟩, h.wr, h.coh.rs, h.bad⟩
  dn := rfl
  fuse := rfl
  miss e := by unfold Go.Proofs.miss; rw [miss_rs]
  now e b he hb := by rw [now_rs]; exact dur_rs h.coh (h.disk he) (h.sect he hb)
  cand e b := by
    show [dur (rsS s ks) e b] = _
    rw [now_rs]
  unfl := rfl
theorem ArrOk.fuse (h : ArrOk ns K s) {m : Nat} : ArrOk ns K { s with fuse := m } := ⟨⟨h.sz.cnt, h.sz.size, h.sz.wr⟩, h.wr, ⟨h.coh.len, h.coh.last, h.coh.log⟩, h.bad⟩
end
end Go.Proofs
namespace Go.Proofs
open Go.VG
section
variable {x y : Dvc} {s : ArrS} {at_ : Int} {n : Nat}
theorem readAll_l1 {f : Nat → UInt64} (ha : 0 ≤ at_ ∧ at_ + n ≤ 1000000000) (hr : ∀ i, i < n → x.rd s (at_ + i) = some (f i, 0)) : ∀ (N i : Nat) (acc : List UInt64), n - i < N → i ≤ n → acc = (List.range i).map f →
    block_ReadAll_l1 x at_ (n : Int) s N i acc = some (.inl ((List.range n).map f))
  | 0, _, _, h, _, _ => absurd h (by omega)
  | N + 1, i, acc, h, hi, he => by
    show block_ReadAll_l1_b _ _ _ _ _ _ _ = _
    unfold block_ReadAll_l1_b
    subst he
    by_cases hlt : i < n
    · rw [if_pos (by omega), grd_t (inI64_of (by omega)), hr i hlt]
      simp only [Option.bind_some]
      rw [if_neg (by simp), grd_t (inLen_of (by simp; omega)), grd_t (inN64_of (by omega))]
      exact readAll_l1 ha hr N (i + 1) _ (by omega) (by omega) (by simp [List.range_succ])
    · rw [if_neg (by omega)]
      have : i = n := by omega
      rw [this]
theorem readAll_eq {m : Int} {f : Nat → UInt64} (hs : x.size s = some m) (hm : m ≤ 1000000000) (ha : 0 ≤ at_ ∧ at_ + n ≤ m) (hr : ∀ i, i < n → x.rd s (at_ + i) = some (f i, 0)) : block_ReadAll x at_ (n : Int) s = some ((List.range n).map f, 0) := by
  unfold block_ReadAll
  have hF := fuel_big
  generalize FUEL = N at hF ⊢
  rw [hs]; simp only [Option.bind_some]
  rw [inside_t hm (by omega)]; simp only [Option.bind_some]
  rw [if_neg (by simp), readAll_l1 (by omega) hr N 0 [] (by omega) (by omega) (by simp)]; rfl
end
end Go.Proofs
namespace Go.Proofs
open Go.VG
abbrev Dk (d n : Nat) : Dvc := Dvc.span (d : Int) 0 (n : Int)
section
variable {ns : List Nat} {K d n k : Nat} {s : ArrS} {v : UInt64}
theorem Dk.sz : (Dk d n).size s = some (n : Int) := rfl
theorem Dk.rd0 (hn : n ≤ 1000000000) (hk : k < n) : (Dk d n).rd s (k : Int) = some (rdV s d k, rdC s d k) := by
  rw [span_rd (by omega) (by omega), if_pos (by omega), Int.zero_add]
theorem Dk.wr0 (hn : n ≤ 1000000000) (hk : k < n) (hw : s.writes ≤ 1000000000) : (Dk d n).wr s (k : Int) v = some (wrR s d k, wrS s d k v) := by
  rw [span_wr (by omega) (by omega) hw, if_pos (by omega), Int.zero_add]
theorem Dk.fl0 (hw : s.writes ≤ 1000000000) : (Dk d n).fl s = some (flC s d, flS s d) := span_fl hw
theorem Dk.rd (h : ArrOk ns K s) (hdn : s.down = false) (hd : d < ns.length) (hn : ns.getD d 0 = n) (hb : n ≤ 1000000000) (hm : miss s d = false) (hk : k < n) : (Dk d n).rd s (k : Int) = some (now s d k, 0) := by
  obtain ⟨h1, h2⟩ := h.rdA hdn hd (a := k) (by rw [hn]; exact hk) hm
  rw [Dk.rd0 hb hk, h1, h2]
theorem Dk.wr (h : ArrOk ns K s) (hK : K ≤ 1000000) (hdn : s.down = false) (hd : d < ns.length) (hn : ns.getD d 0 = n) (hb : n ≤ 1000000000) (hm : miss s d = false) (hk : k < n) :
    (s.fuse ≠ 1 ∧ ∃ t, (Dk d n).wr s (k : Int) v = some (0, t) ∧ Wrote ns K s d k v t) ∨ (s.fuse = 1 ∧ ∃ t, (Dk d n).wr s (k : Int) v = some (5, t) ∧ Fell ns K s t) := by
  have hw := h.wr
  rcases h.wrA (v := v) hK hdn hd (a := k) (by rw [hn]; exact hk) hm with ⟨h1, h2, h3⟩ | ⟨h1, h2, h3⟩
  · exact .inl ⟨h1, _, by rw [Dk.wr0 hb hk (by omega), h2], h3⟩
  · exact .inr ⟨h1, _, by rw [Dk.wr0 hb hk (by omega), h2], h3⟩
theorem Dk.fl (h : ArrOk ns K s) (hK : K ≤ 1000000) (hdn : s.down = false) (hd : d < ns.length) (hm : miss s d = false) : ∃ t, (Dk d n).fl s = some (0, t) ∧ Flushed1 ns K s d t := by
  have hw := h.wr
  obtain ⟨h1, h2⟩ := h.flA hdn hd hm
  exact ⟨_, by rw [Dk.fl0 (by omega), h1], h2⟩
end
structure WroteL (ns : List Nat) (K : Nat) (s : ArrS) (d a : Nat) (l : List UInt64) (t : ArrS) : Prop where
  ok : ArrOk ns (K + l.length) t
  dn : t.down = false
  fuse : t.fuse = s.fuse - l.length
  miss : ∀ e, Go.Proofs.miss t e = Go.Proofs.miss s e
  now : ∀ e b, Go.Proofs.now t e b = if d = e ∧ a ≤ b ∧ b < a + l.length then l.getD (b - a) 0 else Go.Proofs.now s e b
  cand : ∀ e b, ¬ (d = e ∧ a ≤ b ∧ b < a + l.length) → Go.Proofs.cand t e b = Go.Proofs.cand s e b
section
variable {ns : List Nat} {K d n a : Nat} {s : ArrS}
theorem WroteL.nil (h : ArrOk ns K s) (hdn : s.down = false) : WroteL ns K s d a [] s :=
  ⟨by simpa using h, hdn, by simp, fun _ => rfl, fun e b => by rw [if_neg (fun x => by have h2 := x.2.2; rw [List.length_nil] at h2; omega)], fun _ _ _ => rfl⟩
theorem Dk.readAll {m : Nat} (h : ArrOk ns K s) (hdn : s.down = false) (hd : d < ns.length) (hn : ns.getD d 0 = n) (hb : n ≤ 1000000) (hm : miss s d = false) (ha : a + m ≤ n) :
    block_ReadAll (Dk d n) (a : Int) (m : Int) s = some ((List.range m).map fun i => now s d (a + i), 0) :=
  readAll_eq Dk.sz (by omega) (by omega) fun i hi => by
    have e0 : (a : Int) + ((i : Nat) : Int) = ((a + i : Nat) : Int) := by omega
    rw [e0]; exact Dk.rd h hdn hd hn (by omega) hm (by omega)
end
end Go.Proofs
namespace Go.Proofs
open Go.VG
structure Lv (ns : List Nat) (K d n : Nat) (s : ArrS) : Prop where
  ok : ArrOk ns K s
  dn : s.down = false
  hd : d < ns.length
  hn : ns.getD d 0 = n
  h4 : 4 ≤ n
  hb : n ≤ 1000
  ms : miss s d = false
  cl : ∀ b, b < n → cand s d b = [now s d b]
  hK : K ≤ 900000
theorem rg_le {n : Nat} (h4 : 4 ≤ n) (hb : n ≤ 1000) : 2 ≤ rgR n ∧ 2 + rgR n ≤ n ∧ rgR n = n - 2 := by unfold rgR; omega
section
variable {ns : List Nat} {K d n : Nat} {s : ArrS}
theorem open_eq (h4 : 4 ≤ n) (hb : n ≤ 1000) : ring_open (Dk d n) s = some (some (Dk d n), ((rgR n : Nat) : Int), 0) := by
  unfold ring_open
  rw [Dk.sz]; simp only [Option.bind_some]
  rw [if_neg (by omega), grd_pos (inI64_of (by omega))]
  have e : min ((n : Int) - (2 : Int)) (65535 : Int) = ((rgR n : Nat) : Int) := by unfold rgR; omega
  rw [e]
theorem sectors_drop {m st r i : Nat} (h : i < m) : (sectorsL (m : Int) (st : Int) (r : Int)).drop i = ((i : Int), ((plc r st i : Nat) : Int)) :: (sectorsL (m : Int) (st : Int) (r : Int)).drop (i + 1) := by
  have hl : i < (sectorsL (m : Int) (st : Int) (r : Int)).length := by rw [sectorsL_len]; omega
  rw [List.drop_eq_getElem_cons hl]
  congr 1
  simp only [sectorsL, List.getElem_map, List.getElem_range, Prod.mk.injEq, true_and]
  have e : ((st : Int) + (i : Int)) = ((st + i : Nat) : Int) := by omega
  unfold plc
  rw [e]
  omega
theorem sectors_end {m st r : Nat} : (sectorsL (m : Int) (st : Int) (r : Int)).drop m = [] := List.drop_eq_nil_of_le (by rw [sectorsL_len]; omega)
def readP (A : Nat → UInt64) (r st m i : Nat) : List UInt64 := (List.range m).map fun k => if k < i then A (plc r st k) else 0
theorem readP_zero {A : Nat → UInt64} {r st m : Nat} : List.replicate m (0 : UInt64) = readP A r st m 0 := List.ext_getElem (by simp [readP]) fun i h1 h2 => by simp [readP]
theorem readP_len {A : Nat → UInt64} {r st m i : Nat} : (readP A r st m i).length = m := by simp [readP]
theorem readP_full {A : Nat → UInt64} {r st m : Nat} : readP A r st m m = ringW A r st m := List.map_congr_left fun _i hi => if_pos (List.mem_range.1 hi)
theorem readP_step {A : Nat → UInt64} {r st m i : Nat} : (readP A r st m i).set i (A (plc r st i)) = readP A r st m (i + 1) := by
  refine List.ext_getElem (by simp [readP]) fun k h1 h2 => ?_
  rw [List.getElem_set]
  split
  · rename_i e; subst e; simp [readP]
  · rename_i e
    simp only [readP, List.getElem_map, List.getElem_range]
    by_cases h3 : k < i
    · rw [if_pos h3, if_pos (by omega)]
    · rw [if_neg h3, if_neg (by omega)]
theorem Lv.rd (h : Lv ns K d n s) {k : Nat} (hk : k < n) : (Dk d n).rd s (k : Int) = some (now s d k, 0) := Dk.rd h.ok h.dn h.hd h.hn (by have := h.hb; omega) h.ms hk
theorem text_l1_eq (h : Lv ns K d n s) {st m : Nat} : ∀ (N i : Nat), m - i = N → i ≤ m → ring_area_text_l1 (Dk d n) s ((sectorsL (m : Int) (st : Int) ((rgR n : Nat) : Int)).drop i) (readP (now s d) (rgR n) st m i) = some (.inl (ringW (now s d) (rgR n) st m))
  | 0, i, hN, hi => by
    have e : i = m := by omega
    rw [e, sectors_end, readP_full]; rfl
  | N + 1, i, hN, hi => by
    obtain ⟨r1, r2, r3⟩ := rg_le h.h4 h.hb
    rw [sectors_drop (by omega)]
    show ring_area_text_l1_b _ _ _ _ _ = _
    unfold ring_area_text_l1_b
    have hp := plc_lt (r := rgR n) (st := st) (i := i) (by omega)
    simp only
    rw [h.rd (by omega)]; simp only [Option.bind_some]
    rw [if_neg (by simp), grd_pos (decide_eq_true (by rw [readP_len]; omega)), show (((i : Nat) : Int)).toNat = i by omega, readP_step]
    exact text_l1_eq h N (i + 1) (by omega) (by omega)
theorem area_text_eq (h : Lv ns K d n s) (w : UInt64) : ring_area_text (Dk d n) ((rgR n : Nat) : Int) w s = some ((wholeR (now s d) (rgR n) w).1, (wholeR (now s d) (rgR n) w).2, 0) := by
  obtain ⟨r1, r2, r3⟩ := rg_le h.h4 h.hb
  have hb := h.hb
  unfold ring_area_text wholeR
  rw [parts_eq]; simp only [Option.bind_some]
  simp only [nz_iff]
  have hiff : (((dQ w = 0 ∨ dN w = 0) ∨ ((rgR n : Nat) : Int) ≤ ((dS w).toNat : Int)) ∨ ((rgR n : Nat) : Int) < ((dN w).toNat : Int)) ↔ (dQ w = 0 ∨ dN w = 0 ∨ rgR n ≤ (dS w).toNat ∨ rgR n < (dN w).toNat) := by
    rw [Int.ofNat_le, Int.ofNat_lt, or_assoc, or_assoc]
  by_cases hc : dQ w = 0 ∨ dN w = 0 ∨ rgR n ≤ (dS w).toNat ∨ rgR n < (dN w).toNat
  · rw [if_pos (hiff.2 hc), if_pos hc]
  · rw [if_neg (fun x => hc (hiff.1 x)), if_neg hc]
    have c1 : (dS w).toNat < rgR n := Nat.lt_of_not_le fun x => hc (.inr (.inr (.inl x)))
    have c2 : (dN w).toNat ≤ rgR n := Nat.le_of_not_lt fun x => hc (.inr (.inr (.inr x)))
    rw [grd_pos (decide_eq_true (by omega))]
    unfold ring_area_sectors
    simp only [Option.bind_some]
    rw [grd_pos (decide_eq_true (by omega)), show ((((dN w).toNat : Nat) : Int)).toNat = (dN w).toNat by omega]
    have hl := text_l1_eq h (st := (dS w).toNat) (m := (dN w).toNat) (dN w).toNat 0 (by omega) (by omega)
    rw [List.drop_zero, ← readP_zero] at hl
    rw [hl]; simp only [Option.bind_some]
    show Option.bind (pack_FromText (ringW (now s d) (rgR n) (dS w).toNat (dN w).toNat)) _ = _
    rw [fromText_eq (by rw [ringW_len]; omega)]; simp only [Option.bind_some]
    by_cases h2 : (decT (ringW (now s d) (rgR n) (dS w).toNat (dN w).toNat)).2 = 0
    · rw [if_pos h2, check_eq _ (by rw [ringW_len]; omega)]; simp only [Option.bind_some]
      simp only [to_u64_self, h2, decide_true, Bool.true_and]
      congr 3
      rw [decide_eq_decide]
      rw [← UInt64.toNat_inj]
      omega
    · rw [if_neg h2]
      simp [h2]
noncomputable def readR (A : Nat → UInt64) (r : Nat) : api_Copy × Int :=
  open Classical in
  if A 0 = 0 then (⟨false, 0, ByteArray.empty⟩, 12) else if (wholeR A r (A 0)).2 = true then (⟨true, ((dQ (A 0)).toNat : Int), (wholeR A r (A 0)).1⟩, 0) else (⟨false, ((dQ (A 0)).toNat : Int), ByteArray.empty⟩, 11)
theorem read_eq (h : Lv ns K d n s) : ring_Read (Dk d n) s = some (readR (now s d) (rgR n)) := by
  have h4 := h.h4
  unfold ring_Read readR
  rw [open_eq h.h4 h.hb]; simp only [Option.bind_some]
  rw [if_neg (by simp)]; simp only [Option.elim]
  have hr := h.rd (k := 0) (by omega)
  have hr' : (Dk d n).rd s (0 : Int) = some (now s d 0, 0) := hr
  rw [hr']; simp only [Option.bind_some]
  rw [if_neg (by simp)]
  by_cases h0 : now s d 0 = 0
  · rw [if_pos h0, if_pos h0]
  · rw [if_neg h0, if_neg h0, area_text_eq h]; simp only [Option.bind_some]
    rw [if_neg (by simp)]
    by_cases hw : (wholeR (now s d) (rgR n) (now s d 0)).2 = true
    · rw [if_neg (by simpa using hw), if_pos hw, parts_eq]; rfl
    · rw [if_pos hw, if_neg hw, parts_eq]; rfl
theorem seqs_eq (h : Lv ns K d n s) : ring_Seqs (Dk d n) s = some (((dQ (now s d 0)).toNat : Int), ((dQ (now s d 1)).toNat : Int), 0) := by
  have h4 := h.h4; have hb := h.hb
  unfold ring_Seqs
  rw [open_eq h.h4 h.hb]; simp only [Option.bind_some]
  rw [if_neg (by simp)]; simp only [Option.elim]
  have hr : block_ReadAll (Dk d n) (0 : Int) (2 : Int) s = _ := Dk.readAll (a := 0) (m := 2) h.ok h.dn h.hd h.hn (by omega) h.ms (by omega)
  rw [hr]; simp only [Option.bind_some]
  rw [if_neg (by simp), grd_pos (by rfl), grd_pos (by rfl)]
  show Option.bind (ring_descriptor_parts (now s d 0)) _ = _
  rw [parts_eq]; simp only [Option.bind_some]
  show Option.bind (ring_descriptor_parts (now s d 1)) _ = _
  rw [parts_eq]; rfl
structure Put1 (ns : List Nat) (K : Nat) (s : ArrS) (d k : Nat) (v : UInt64) (t : ArrS) : Prop where
  ok : ArrOk ns (K + 1) t
  dn : t.down = false
  fuse : t.fuse = s.fuse - 1
  miss : ∀ e, Go.Proofs.miss t e = Go.Proofs.miss s e
  now : ∀ e b, Go.Proofs.now t e b = if d = e ∧ k = b then v else Go.Proofs.now s e b
  cand : ∀ e b, e < ns.length → b < ns.getD e 0 → Go.Proofs.cand t e b = if d = e then [Go.Proofs.now t e b] else Go.Proofs.cand s e b
theorem Lv.put (h : Lv ns K d n s) {k : Nat} (hk : k < n) {v : UInt64} {pl : Int} :
    (s.fuse ≠ 1 ∧ ∃ t, ring_area_put (Dk d n) pl (k : Int) v s = some (0, t) ∧ Put1 ns K s d k v t) ∨ (s.fuse = 1 ∧ ∃ t, ring_area_put (Dk d n) pl (k : Int) v s = some (5, t) ∧ Fell ns K s t) := by
  have hb := h.hb; have hK := h.hK
  unfold ring_area_put
  rcases Dk.wr (v := v) h.ok (by omega) h.dn h.hd h.hn (by omega) h.ms hk with ⟨hf, t, w1, W1⟩ | ⟨hf, t, w1, W1⟩
  · rw [w1]; simp only [Option.bind_some]
    rw [if_neg (by simp)]
    obtain ⟨u, w2, W2⟩ := Dk.fl (n := n) W1.ok (by omega) W1.dn h.hd (by rw [W1.miss]; exact h.ms)
    rw [w2]; simp only [Option.bind_some]
    refine .inl ⟨hf, u, rfl, W2.ok, W2.dn, by rw [W2.fuse, W1.fuse], fun e => by rw [W2.miss, W1.miss], fun e b => by rw [W2.now, W1.now], fun e b he hb => ?_⟩
    rw [W2.cand e b he hb]
    by_cases hde : d = e
    · rw [if_pos hde, if_pos hde, W2.now]
    · rw [if_neg hde, if_neg hde, W1.cand, if_neg (fun x => hde x.1)]
  · rw [w1]; simp only [Option.bind_some]
    rw [if_pos (by simp)]
    exact .inr ⟨hf, t, rfl, W1⟩
theorem Put1.lv {t : ArrS} {k : Nat} {v : UInt64} (h : Lv ns K d n s) (hp : Put1 ns K s d k v t) (hK : K + 1 ≤ 900000) : Lv ns (K + 1) d n t :=
  ⟨hp.ok, hp.dn, h.hd, h.hn, h.h4, h.hb, by rw [hp.miss]; exact h.ms, fun b hb => by rw [hp.cand d b h.hd (by rw [h.hn]; exact hb), if_pos rfl], hK⟩
theorem Put1.nowD {t : ArrS} {k : Nat} {v : UInt64} (hp : Put1 ns K s d k v t) : Go.Proofs.now t d = upd (Go.Proofs.now s d) k v := by
  funext b
  rw [hp.now]
  unfold upd
  by_cases hb : b = k
  · rw [if_pos ⟨rfl, hb.symm⟩, if_pos hb]
  · rw [if_neg (fun x => hb x.2.symm), if_neg hb]
structure PutR (ns : List Nat) (K : Nat) (s : ArrS) (d r st : Nat) (l : List UInt64) (i : Nat) (t : ArrS) : Prop where
  ok : ArrOk ns (K + i) t
  dn : t.down = false
  fuse : t.fuse = s.fuse - i
  fz : s.fuse = 0 ∨ i < s.fuse
  miss : ∀ e, Go.Proofs.miss t e = Go.Proofs.miss s e
  now : ∀ e b, Go.Proofs.now t e b = if d = e then putN (Go.Proofs.now s d) r st l i b else Go.Proofs.now s e b
  cand : ∀ e b, (d = e → ∀ j, j < i → b ≠ plc r st j) → Go.Proofs.cand t e b = Go.Proofs.cand s e b
structure FellR (ns : List Nat) (K : Nat) (s : ArrS) (d r st m : Nat) (t : ArrS) : Prop where
  ok : ArrOk ns (K + m) t
  dn : t.down = true
  miss : ∀ e, Go.Proofs.miss t e = Go.Proofs.miss s e
  cand : ∀ e b, e < ns.length → b < ns.getD e 0 → (d = e → ∀ j, j < m → b ≠ plc r st j) → Go.Proofs.cand t e b = Go.Proofs.cand s e b
theorem prep_l2_eq (h : Lv ns K d n s) {st : Nat} {l : List UInt64} {e0 : Int} (hl : l.length ≤ 100000) : ∀ (N i : Nat) (t : ArrS), l.length - i = N → i ≤ l.length → PutR ns K s d (rgR n) st l i t →
    (∃ u, ring_Prepare_l2 (l, e0) (Dk d n) ((sectorsL (l.length : Int) (st : Int) ((rgR n : Nat) : Int)).drop i) t = some (.inl u) ∧ PutR ns K s d (rgR n) st l l.length u) ∨
    (s.fuse ≠ 0 ∧ s.fuse ≤ l.length ∧ ∃ u, ring_Prepare_l2 (l, e0) (Dk d n) ((sectorsL (l.length : Int) (st : Int) ((rgR n : Nat) : Int)).drop i) t = some (.inr (5, u)) ∧ FellR ns K s d (rgR n) st l.length u)
  | 0, i, t, hN, hi, ht => by
    have e : i = l.length := by omega
    subst e
    rw [sectors_end]
    exact .inl ⟨t, rfl, ht⟩
  | N + 1, i, t, hN, hi, ht => by
    obtain ⟨r1, r2, r3⟩ := rg_le h.h4 h.hb
    have hK := h.hK; have hb := h.hb
    rw [sectors_drop (by omega)]
    have hp := plc_lt (r := rgR n) (st := st) (i := i) (by omega)
    have e : ∀ z, ring_Prepare_l2 (l, e0) (Dk d n) (((i : Int), ((plc (rgR n) st i : Nat) : Int)) :: z) t = ring_Prepare_l2_b (l, e0) (Dk d n) (ring_Prepare_l2 (l, e0) (Dk d n) z) ((i : Int), ((plc (rgR n) st i : Nat) : Int)) t := fun _ => rfl
    rw [e]
    unfold ring_Prepare_l2_b
    simp only
    rw [grd_pos (decide_eq_true (by omega)), show (((i : Nat) : Int)).toNat = i by omega]
    rcases Dk.wr (v := l.getD i 0) ht.ok (by omega) ht.dn h.hd h.hn (by omega) (by rw [ht.miss]; exact h.ms) (k := plc (rgR n) st i) (by omega) with ⟨hf, u, w1, W1⟩ | ⟨hf, u, w1, W1⟩
    · rw [w1]; simp only [Option.bind_some]
      rw [if_neg (by simp)]
      have hfz := ht.fz; have hfu := ht.fuse
      refine prep_l2_eq h hl N (i + 1) u (by omega) (by omega) ⟨W1.ok, W1.dn, by rw [W1.fuse, ht.fuse]; omega, by omega, fun e => by rw [W1.miss, ht.miss], fun e b => ?_, fun e b hne => ?_⟩
      · rw [W1.now, ht.now]
        by_cases hde : d = e
        · rw [if_pos hde, if_pos hde]
          show _ = upd _ _ _ b
          unfold upd
          by_cases hbp : plc (rgR n) st i = b
          · rw [if_pos ⟨hde, hbp⟩, if_pos hbp.symm]
          · rw [if_neg (fun x => hbp x.2), if_neg (fun x => hbp x.symm)]
        · rw [if_neg (fun x => hde x.1), if_neg hde, if_neg hde]
      · rw [W1.cand, if_neg (fun x => hne x.1 i (by omega) x.2.symm), ht.cand e b (fun hde j hj => hne hde j (by omega))]
    · rw [w1]; simp only [Option.bind_some]
      rw [if_pos (by simp)]
      have hfz := ht.fz; have hfu := ht.fuse
      refine .inr ⟨by omega, by omega, u, rfl, W1.ok.mono (by omega), W1.dn, fun e => by rw [W1.miss, ht.miss], fun e b _ _ hne => ?_⟩
      rw [W1.cand, ht.cand e b (fun hde j hj => hne hde j (by omega))]
structure Prepd (ns : List Nat) (K : Nat) (s : ArrS) (d n st : Nat) (q : Nat) (x : ByteArray) (t : ArrS) : Prop where
  ok : ArrOk ns (K + (encT x).length + 1) t
  dn : t.down = false
  fuse : t.fuse = s.fuse - ((encT x).length + 1)
  miss : ∀ e, Go.Proofs.miss t e = Go.Proofs.miss s e
  now : ∀ e b, Go.Proofs.now t e b = if d = e then upd (putN (Go.Proofs.now s d) (rgR n) st (encT x) (encT x).length) 1 (descT q st x) b else Go.Proofs.now s e b
  cand : ∀ e b, e < ns.length → b < ns.getD e 0 → Go.Proofs.cand t e b = if d = e then [Go.Proofs.now t e b] else Go.Proofs.cand s e b
def oldS (w : UInt64) : Nat := if w = 0 then 0 else (dS w).toNat
def oldN (w : UInt64) : Nat := if w = 0 then 0 else (dN w).toNat
theorem prep_out (h : Lv ns K d n s) (hK8 : K ≤ 800000) {q : Nat} {x : ByteArray} (hq : 1 ≤ q ∧ q ≤ 1048575) (hx : x.size ≤ 8192) (hw : now s d 0 ≠ 0 → (wholeR (now s d) (rgR n) (now s d 0)).2 = true) :
    (rgR n < (encT x).length + oldN (now s d 0) ∧ ring_Prepare (Dk d n) (q : Int) x s = some (14, s)) ∨
    ((encT x).length + oldN (now s d 0) ≤ rgR n ∧ ((∃ t, ring_Prepare (Dk d n) (q : Int) x s = some (0, t) ∧ Prepd ns K s d n ((oldS (now s d 0) + oldN (now s d 0)) % rgR n) q x t) ∨
      (s.fuse ≠ 0 ∧ s.fuse ≤ (encT x).length + 1 ∧ ∃ t, ring_Prepare (Dk d n) (q : Int) x s = some (5, t) ∧ FellR ns K s d (rgR n) ((oldS (now s d 0) + oldN (now s d 0)) % rgR n) (encT x).length t))) := by
  obtain ⟨r1, r2, r3⟩ := rg_le h.h4 h.hb
  have h4 := h.h4; have hb := h.hb; have hK := h.hK
  have hE := encT_lt hx
  have hr : (Dk d n).rd s (0 : Int) = some (now s d 0, 0) := h.rd (k := 0) (by omega)
  have hfS : (dS (now s d 0)).toNat < 2 ^ 16 := fieldU_lt _ _ _
  have hfN : (dN (now s d 0)).toNat < 2 ^ 12 := fieldU_lt _ _ _
  have hoS : oldS (now s d 0) < 2 ^ 16 := by unfold oldS; split <;> omega
  have hoN : oldN (now s d 0) < 2 ^ 12 := by unfold oldN; split <;> omega
  -- what is old
  have hold : ∃ a c : Int, (if now s d 0 ≠ (0 : UInt64) then
              Option.bind (ring_area_text (Dk d n) ((rgR n : Nat) : Int) (now s d 0) s) fun r30 =>
              if (r30.2.2 ≠ (0 : Int)) then
                some (.inr (r30.2.2, s))
              else
                if (¬ r30.2.1 = true) then
                  some (.inr (((11 : Int), s)))
                else
                  Option.bind (ring_descriptor_parts (now s d 0)) fun r32 =>
                  some (.inl (r32.seq, r32.start, r32.length, r32.sum))
            else
              some (.inl ((0 : Int), (0 : Int), (0 : Int), (0 : Int))) : Option ((Int × Int × Int × Int) ⊕ (Int × ArrS))) = some (.inl (a, ((oldS (now s d 0) : Nat) : Int), ((oldN (now s d 0) : Nat) : Int), c)) := by
    by_cases h0 : now s d 0 = 0
    · refine ⟨0, 0, ?_⟩
      rw [if_neg (fun x => x h0)]
      unfold oldS oldN
      rw [if_pos h0, if_pos h0]; rfl
    · refine ⟨((dQ (now s d 0)).toNat : Int), ((dC (now s d 0)).toNat : Int), ?_⟩
      rw [if_pos h0, area_text_eq h]; simp only [Option.bind_some]
      rw [if_neg (by simp), if_neg (by simp [hw h0]), parts_eq]
      unfold oldS oldN
      rw [if_neg h0, if_neg h0]; rfl
  obtain ⟨ha, hc, hold⟩ := hold
  unfold ring_Prepare
  rw [open_eq h.h4 h.hb]; simp only [Option.bind_some]
  rw [if_neg (by simp), if_neg (by omega), text_eq, if_neg (by omega)]; simp only [Option.bind_some]
  rw [if_neg (by simp)]; simp only [Option.elim]
  rw [hr]; simp only [Option.bind_some]
  rw [if_neg (by simp), hold]
  show (_ ∧ grd _ _ = _) ∨ (_ ∧ ((∃ t, grd _ _ = _ ∧ _) ∨ (_ ∧ _ ∧ ∃ t, grd _ _ = _ ∧ _)))
  dsimp only
  rw [grd_pos (inI64_of (by omega))]
  by_cases hsp : rgR n < (encT x).length + oldN (now s d 0)
  · rw [if_pos (by omega)]
    exact .inl ⟨hsp, rfl⟩
  · rw [if_neg (by omega), grd_pos (inI64_of (by omega)), grd_pos (decide_eq_true (by omega))]
    refine .inr ⟨by omega, ?_⟩
    have e1 : (((oldS (now s d 0) : Nat) : Int) + ((oldN (now s d 0) : Nat) : Int)) = ((oldS (now s d 0) + oldN (now s d 0) : Nat) : Int) := by omega
    rw [e1, tmodN]
    have hst := Nat.mod_lt (oldS (now s d 0) + oldN (now s d 0)) (show 0 < rgR n by omega)
    generalize hst' : (oldS (now s d 0) + oldN (now s d 0)) % rgR n = st at hst ⊢
    rw [check_eq _ (by omega)]; simp only [Option.bind_some]
    unfold ring_area_sectors
    simp only [Option.bind_some]
    rw [grd_pos (decide_eq_true (by omega))]
    have h0 : PutR ns K s d (rgR n) st (encT x) 0 s := ⟨h.ok, h.dn, by omega, by omega, fun _ => rfl, fun e b => by
      by_cases hde : d = e
      · rw [if_pos hde, ← hde]; rfl
      · rw [if_neg hde], fun _ _ _ => rfl⟩
    rcases prep_l2_eq h (e0 := 0) (by omega) _ 0 s rfl (Nat.zero_le _) h0 with ⟨t, w1, W1⟩ | ⟨hf1, hf2, t, w1, W1⟩
    · rw [List.drop_zero] at w1
      rw [w1]; simp only [Option.bind_some]
      show (∃ t', (Option.bind ((Dk d n).fl t) fun r65 => _) = _ ∧ _) ∨ (_ ∧ _ ∧ ∃ t', (Option.bind ((Dk d n).fl t) fun r65 => _) = _ ∧ _)
      obtain ⟨u, w2, W2⟩ := Dk.fl (n := n) W1.ok (by omega) W1.dn h.hd (by rw [W1.miss]; exact h.ms)
      rw [w2]; simp only [Option.bind_some]
      rw [if_neg (by simp), partsWord_eq (p := ⟨(q : Int), (st : Int), (((encT x).length : Nat) : Int), ((sumW (to_u64 (q : Int)) (to_u64 (st : Int)) (to_u64 (((encT x).length : Nat) : Int)) (encT x)).toNat : Int)⟩) (to_u64_lt (by omega) (by omega)) (to_u64_lt (by omega) (by omega)) (to_u64_lt hE (by omega)) (by rw [to_u64_self]; exact sumW_lt)]
      simp only [Option.bind_some, to_u64_self]
      have hLu : Lv ns (K + (encT x).length) d n u := ⟨W2.ok, W2.dn, h.hd, h.hn, h.h4, h.hb, by rw [W2.miss, W1.miss]; exact h.ms, fun b hb => by rw [W2.cand d b h.hd (by rw [h.hn]; exact hb), if_pos rfl, W2.now], by omega⟩
      have hfz := W1.fz; have hfu := W1.fuse; have hfu2 := W2.fuse
      rcases hLu.put (k := 1) (by omega) (v := descT q st x) (pl := ((rgR n : Nat) : Int)) with ⟨hf3, v, w3, W3⟩ | ⟨hf3, v, w3, W3⟩
      · have w3' : ring_area_put (Dk d n) ((rgR n : Nat) : Int) (1 : Int) (descW (to_u64 (q : Int)) (to_u64 (st : Int)) (to_u64 (((encT x).length : Nat) : Int)) (sumW (to_u64 (q : Int)) (to_u64 (st : Int)) (to_u64 (((encT x).length : Nat) : Int)) (encT x))) u = some (0, v) := w3
        rw [w3']; simp only [Option.bind_some]
        refine .inl ⟨v, rfl, W3.ok, W3.dn, by have := W3.fuse; omega, fun e => by rw [W3.miss, W2.miss, W1.miss], fun e b => ?_, fun e b he hb => ?_⟩
        · rw [W3.now, W2.now, W1.now]
          by_cases hde : d = e
          · rw [if_pos hde, if_pos hde]
            unfold upd
            by_cases hb1 : b = 1
            · rw [if_pos ⟨hde, hb1.symm⟩, if_pos hb1]
            · rw [if_neg (fun x => hb1 x.2.symm), if_neg hb1]
          · rw [if_neg (fun x => hde x.1), if_neg hde, if_neg hde]
        · rw [W3.cand e b he hb]
          by_cases hde : d = e
          · rw [if_pos hde, if_pos hde]
          · rw [if_neg hde, if_neg hde, W2.cand e b he hb, if_neg hde, W1.cand e b (fun x => absurd x hde)]
      · have w3' : ring_area_put (Dk d n) ((rgR n : Nat) : Int) (1 : Int) (descW (to_u64 (q : Int)) (to_u64 (st : Int)) (to_u64 (((encT x).length : Nat) : Int)) (sumW (to_u64 (q : Int)) (to_u64 (st : Int)) (to_u64 (((encT x).length : Nat) : Int)) (encT x))) u = some (5, v) := w3
        rw [w3']; simp only [Option.bind_some]
        refine .inr ⟨by omega, by omega, v, rfl, W3.ok, W3.dn, fun e => by rw [W3.miss, W2.miss, W1.miss], fun e b he hb hne => ?_⟩
        rw [W3.cand, W2.cand e b he hb]
        by_cases hde : d = e
        · have hne' := hne hde
          subst hde
          rw [if_pos rfl, W1.now, if_pos rfl, putN_out hne', h.cl b (by rw [h.hn] at hb; exact hb)]
        · rw [if_neg hde, W1.cand e b (fun x => absurd x hde)]
    · rw [List.drop_zero] at w1
      rw [w1]; simp only [Option.bind_some]
      exact .inr ⟨hf1, by omega, t, rfl, W1⟩
end
end Go.Proofs
namespace Go.Proofs
open Go.VG
theorem spans_l1 {s : ArrS} (h8 : s.drv.length ≤ 1000) (hz : ∀ i, i < s.drv.length → 1 ≤ s.size i ∧ s.size i ≤ 65536) : ∀ (N i : Nat) (acc : List Dvc), s.drv.length - i < N → i ≤ s.drv.length →
    acc = (List.range i).map (fun i => Dvc.span ((i : Nat) : Int) 0 ((s.size i : Nat) : Int)) → volumegroupmake_Spans_l1 s N acc i = some (.inl (spansA s))
  | 0, _, _, h, _, _ => absurd h (by omega)
  | N + 1, i, acc, h, hi, ha => by
    show volumegroupmake_Spans_l1_b _ _ _ _ = _
    unfold volumegroupmake_Spans_l1_b
    subst ha
    by_cases hlt : i < s.drv.length
    · have h1 := hz i hlt
      rw [if_pos (by omega), sizeI_of hlt, span_mk (by omega) (by omega) (by rw [sizeI_of hlt]; omega) (by rw [sizeI_of hlt]; omega)]
      simp only [Option.bind_some, Option.elim]
      rw [if_neg (by simp), grd_t (inLen_of (by simp; omega)), grd_t (inN64_of (by omega))]
      refine spans_l1 h8 hz N (i + 1) _ (by omega) (by omega) ?_
      simp [List.range_succ]
    · rw [if_neg (by omega)]
      have : i = s.drv.length := by omega
      rw [this]; rfl
theorem spans_eq {s : ArrS} (h8 : s.drv.length ≤ 1000) (hz : ∀ i, i < s.drv.length → 1 ≤ s.size i ∧ s.size i ≤ 65536) : volumegroupmake_Spans s = some (spansA s) := by
  unfold volumegroupmake_Spans
  have hF := fuel_big
  generalize FUEL = N at hF ⊢
  rw [spans_l1 h8 hz N 0 _ (by omega) (by omega) (by simp)]; rfl
end Go.Proofs
namespace Go.Proofs
open Go.VG
def lensN (ims : List (List UInt64)) : List Nat := ims.map List.length
theorem lensN_getD {ims : List (List UInt64)} {i : Nat} : (lensN ims).getD i 0 = (ims.getD i []).length := by
  simp only [lensN, List.getD, List.getElem?_map]; cases ims[i]? <;> rfl
@[simp] theorem lensN_length {ims : List (List UInt64)} : (lensN ims).length = ims.length := by simp [lensN]
theorem inSz_mkS {ims : List (List UInt64)} : InSz (lensN ims) (mkS ims) := ⟨by simp, fun d _ => by rw [size_nowL, nowL_mkS, lensN_getD], Nat.zero_le _⟩
end Go.Proofs
namespace Go.Proofs
open Go.VG
section
variable {ns : List Nat} {K d n : Nat} {s : ArrS}
theorem miss_mkS {ims : List (List UInt64)} {d : Nat} : miss (mkS ims) d = false := good_mkS.miss d
theorem cand_mkS {ims : List (List UInt64)} {d b : Nat} : cand (mkS ims) d b = [now (mkS ims) d b] := by
  show dur _ _ _ :: [] = _
  unfold dur now durL nowL
  simp only [mkS, List.getD, List.getElem?_map]
  cases ims[d]? <;> rfl
end
end Go.Proofs
set_option linter.unusedSimpArgs false
set_option linter.unusedVariables false
set_option maxRecDepth 20000
set_option maxHeartbeats 4000000
namespace Go.Proofs
open Go.VG
theorem bs_62_1_0 (v0 : (Option Addr)) (v1 : Nat) (v2 : Nat) : BuildsSlice Try.prog 62 1 [(0, .slice v0 v1 v2)] 29 [.slice v0 v1 v2] := fun w => by kernel_rfl
end Go.Proofs
namespace Go.Proofs
open Go.VG
section
variable {ns : List Nat} {K d n : Nat} {s : ArrS} {c : Option Txt} {t : Txt}
theorem switch_out (h : Lv ns K d n s) (h1 : now s d 1 ≠ 0) (hw : (wholeR (now s d) (rgR n) (now s d 1)).2 = true) :
    (s.fuse ≠ 1 ∧ ∃ t, ring_Switch (Dk d n) s = some (0, t) ∧ Put1 ns K s d 0 (now s d 1) t) ∨ (s.fuse = 1 ∧ ∃ t, ring_Switch (Dk d n) s = some (5, t) ∧ Fell ns K s t) := by
  have h4 := h.h4
  unfold ring_Switch
  rw [open_eq h.h4 h.hb]; simp only [Option.bind_some]
  rw [if_neg (by simp)]; simp only [Option.elim]
  have hr : (Dk d n).rd s (1 : Int) = some (now s d 1, 0) := h.rd (k := 1) (by omega)
  rw [hr]; simp only [Option.bind_some]
  rw [if_neg (by simp), if_neg h1, area_text_eq h]; simp only [Option.bind_some]
  rw [if_neg (by simp), if_neg (by simp [hw])]
  rcases h.put (k := 0) (by omega) (v := now s d 1) (pl := ((rgR n : Nat) : Int)) with ⟨hf, u, w, W⟩ | ⟨hf, u, w, W⟩
  · have w' : ring_area_put (Dk d n) ((rgR n : Nat) : Int) (0 : Int) (now s d 1) s = some (0, u) := w
    rw [w']; exact .inl ⟨hf, u, rfl, W⟩
  · have w' : ring_area_put (Dk d n) ((rgR n : Nat) : Int) (0 : Int) (now s d 1) s = some (5, u) := w
    rw [w']; exact .inr ⟨hf, u, rfl, W⟩
theorem hold_old (hh : Hold (now s d) (rgR n) 0 c) : oldS (now s d 0) = oSt c ∧ oldN (now s d 0) = oLen c ∧ (now s d 0 ≠ 0 → (wholeR (now s d) (rgR n) (now s d 0)).2 = true) := by
  unfold oldS oldN
  cases c with
  | none => rw [if_pos (show now s d 0 = 0 from hh), if_pos (show now s d 0 = 0 from hh)]; exact ⟨rfl, rfl, fun x => absurd hh x⟩
  | some t =>
    have h0 : now s d 0 ≠ 0 := fun x => nomatch hh.ne.1 x
    rw [if_neg h0, if_neg h0, hh.whole]
    exact ⟨hh.dS.1, hh.dS.2.1, fun _ => rfl⟩
theorem Prepd.lv {u : ArrS} {st q : Nat} {x : ByteArray} (h : Lv ns K d n s) (p : Prepd ns K s d n st q x u) (hK : K + (encT x).length + 1 ≤ 900000) : Lv ns (K + (encT x).length + 1) d n u :=
  ⟨p.ok, p.dn, h.hd, h.hn, h.h4, h.hb, by rw [p.miss]; exact h.ms, fun b hb => by rw [p.cand d b h.hd (by rw [h.hn]; exact hb), if_pos rfl], hK⟩
theorem Prepd.nowD {u : ArrS} {st q : Nat} {x : ByteArray} (p : Prepd ns K s d n st q x u) : Go.Proofs.now u d = upd (putN (Go.Proofs.now s d) (rgR n) st (encT x) (encT x).length) 1 (descT q st x) := by
  funext b; rw [p.now, if_pos rfl]
theorem prep_hold (h : Lv ns K d n s) (hK : K ≤ 800000) (hh : Hold (now s d) (rgR n) 0 c) {q : Nat} {x : ByteArray} (hq : 1 ≤ q ∧ q ≤ 1048575) (hx : x.size ≤ 8192) :
    (rgR n < (encT x).length + oLen c ∧ ring_Prepare (Dk d n) (q : Int) x s = some (14, s)) ∨
    ((encT x).length + oLen c ≤ rgR n ∧ ((∃ t, ring_Prepare (Dk d n) (q : Int) x s = some (0, t) ∧ Prepd ns K s d n (nextSt (rgR n) c) q x t ∧ Lv ns (K + (encT x).length + 1) d n t ∧ Hold (now t d) (rgR n) 0 c ∧ Hold (now t d) (rgR n) 1 (some ⟨q, nextSt (rgR n) c, x⟩)) ∨
      (s.fuse ≠ 0 ∧ s.fuse ≤ (encT x).length + 1 ∧ ∃ t, ring_Prepare (Dk d n) (q : Int) x s = some (5, t) ∧ FellR ns K s d (rgR n) (nextSt (rgR n) c) (encT x).length t))) := by
  obtain ⟨r1, r2, r3⟩ := rg_le h.h4 h.hb
  have hb := h.hb
  obtain ⟨e1, e2, e3⟩ := hold_old hh
  have := prep_out h hK hq hx e3
  rw [e1, e2] at this
  have hE := encT_lt hx
  rcases this with h1 | ⟨h1, ⟨t, h2, h3⟩ | h2⟩
  · exact .inl h1
  · refine .inr ⟨h1, .inl ⟨t, h2, h3, h3.lv h (by omega), ?_⟩⟩
    rw [h3.nowD]
    exact hh.prep ⟨by omega, by unfold rgR; omega⟩ ⟨hq.1, by omega⟩ hx h1
  · exact .inr ⟨h1, .inr h2⟩
theorem switch_hold (h : Lv ns K d n s) (hK : K ≤ 800000) (hh : Hold (now s d) (rgR n) 1 (some t)) :
    (s.fuse ≠ 1 ∧ ∃ u, ring_Switch (Dk d n) s = some (0, u) ∧ Put1 ns K s d 0 (now s d 1) u ∧ Lv ns (K + 1) d n u ∧ Hold (now u d) (rgR n) 0 (some t)) ∨ (s.fuse = 1 ∧ ∃ u, ring_Switch (Dk d n) s = some (5, u) ∧ Fell ns K s u) := by
  rcases switch_out h (fun x => nomatch hh.ne.1 x) (by rw [hh.whole]) with ⟨hf, u, h1, h2⟩ | h1
  · refine .inl ⟨hf, u, h1, h2, h2.lv h (by omega), ?_⟩
    rw [h2.nowD]
    exact hh.switch
  · exact .inr h1
end
end Go.Proofs
namespace Go.Proofs
open Go.VG
section
variable {K n : Nat} {s : ArrS}
theorem Lv.len0 (h : Lv [n] K 0 n s) : (nowL s 0).length = n := h.ok.sz.size 0 (by simp)
end
end Go.Proofs
set_option linter.unusedSimpArgs false
set_option linter.unusedVariables false
set_option maxRecDepth 20000
set_option maxHeartbeats 4000000
namespace Go.Proofs
open Go.VG
end Go.Proofs
set_option linter.unusedSimpArgs false
set_option linter.unusedVariables false
set_option maxRecDepth 20000
set_option maxHeartbeats 4000000
namespace Go.Proofs
open Go.VG
@[ext] structure copies_found where
  copy : api_Copy
  error : Int
  failed : Bool
  seq : Int
  deriving DecidableEq
theorem bs_66_1_0 (v0 : Bool) (v1 : Int) (v2 : ByteArray) : BuildsSlice Try.prog 66 1 [(0, .agg #[.bool v0, .int .i64 v1, .string v2])] 34 [.bool v0, .int .i64 v1, .string v2] := fun w => by kernel_rfl
def copies_look (x_0 : Dvc) (s : ArrS) : Option (copies_found) :=
  Option.bind (ring_Read x_0 s) fun r2 =>
  Option.bind ((
    if ((r2.2 ≠ (0 : Int)) ∧ (r2.2 ≠ (11 : Int))) then
      some ((false, (0 : Int), ByteArray.empty))
    else
      some (r2.1.Valid, r2.1.Seq, r2.1.Text) : Option (Bool × Int × ByteArray))) fun a16 =>
  Option.bind (ring_Seqs x_0 s) fun r18 =>
  if (¬ ((r18.2.2 ≠ (0 : Int)) ∨ (((r2.2 ≠ (0 : Int)) ∧ (r2.2 ≠ (12 : Int))) ∧ (r2.2 ≠ (11 : Int))))) then
    some ((⟨(⟨a16.1, a16.2.1, a16.2.2⟩ : api_Copy), r2.2, ((decide (r18.2.2 ≠ (0 : Int))) || (((decide (r2.2 ≠ (0 : Int))) && (decide (r2.2 ≠ (12 : Int)))) && (decide (r2.2 ≠ (11 : Int))))), (max r18.1 r18.2.1)⟩ : copies_found))
  else
    some ((⟨(⟨a16.1, a16.2.1, a16.2.2⟩ : api_Copy), r2.2, ((decide (r18.2.2 ≠ (0 : Int))) || (((decide (r2.2 ≠ (0 : Int))) && (decide (r2.2 ≠ (12 : Int)))) && (decide (r2.2 ≠ (11 : Int))))), (0 : Int)⟩ : copies_found))
theorem L_copies_look {W : World} {vx_0 : IfH} {bs : Nat} {x_0 : Dvc} {s : ArrS} {r : copies_found} (h : copies_look x_0 s = some r) :
    CSpec Try.prog W 73 [IfH.v vx_0] [DevP bs x_0 vx_0, Arr bs s] (fun x : Unit => .agg #[.bool r.copy.Valid, .int .i64 r.copy.Seq, .string r.copy.Text, .int .i64 r.error, .bool r.failed, .int .i64 r.seq]) (fun _ => True) (fun x F => DevP bs x_0 vx_0 :: Arr bs s :: F) := by
 refine CSpec.of_body Try.func73 rfl Try.ntmps73 rfl fun F => ?_
 show CJ _ _ _ _ _ _ (_ :: _ :: F)
 unfold copies_look at h
 refine sR <| oO <| O_alloc Try.zeroValue140 rfl rfl fun b1 => nT <| sR <| oM rfl rfl ?_
 obtain ⟨r2, hr3, h⟩ := bind_e h
 refine oO <| O_call (L_ring_Read hr3) rfl Try.call18 (Dels.cons del1 (Dels.cons del1 Dels.nil)) rfl fun _ _ => oM rfl rfl <| oP (P_extract rfl rfl) rfl <| oP (P_extract rfl rfl) rfl <| oP (P_fieldAddr rfl ⟨_, _, _, Try.runUnderlying140, rfl, rfl, Try.sizeOf34, rfl⟩) rfl <| oO <| O_storeN rfl rfl foc2 Try.sizeOf34 rfl rfl rfl <| oP (P_fieldAddr rfl ⟨_, _, _, Try.runUnderlying140, rfl, rfl, Try.sizeOf30, rfl⟩) rfl <| oO <| O_store rfl rfl foc2 rfl rfl Try.sizeOf30 <| nT <| CJ_seq <| sR <| oP (P_fieldAddr rfl ⟨_, _, _, Try.runUnderlying140, rfl, rfl, Try.sizeOf30, rfl⟩) rfl <| oV (V_load rfl foc2 rfl Try.isAgg30) rfl <| oP (P_neq (a := r2.2) (b := (0 : Int)) rfl rfl) rfl <| oM rfl rfl <| RJ_mbT rfl rfl rfl (fun hG4 => have hP5 : (r2.2 ≠ (0 : Int)) := (bT_dec).1 hG4; VJ_P (P_fieldAddr rfl ⟨_, _, _, Try.runUnderlying140, rfl, rfl, Try.sizeOf30, rfl⟩)) <| RJ_mbT rfl rfl rfl (fun hG6 => have hP7 : (r2.2 ≠ (0 : Int)) := (bT_dec).1 hG6; V_load (mbx hG6 rfl) foc2 rfl Try.isAgg30) <| RJ_mbT rfl rfl rfl (fun hG8 => have hP9 : (r2.2 ≠ (0 : Int)) := (bT_dec).1 hG8; VJ_P (P_neq (a := r2.2) (b := (11 : Int)) (mbx hG8 rfl) rfl)) <| oP (P_pickAnd rfl (fun hh => mbx hh rfl) rfl) rfl <| nT ?_
 obtain ⟨y12, hl10, hK11⟩ := bind_c h
 refine CJ_cutT (X := Bool × Int × ByteArray) [21, 22] (fun a16 => ([] : Slots)) (fun a16 R => blk b1 140 [.bool a16.1, .int .i64 a16.2.1, .string a16.2.2, .int .i64 r2.2, .bool false, .int .i64 (0 : Int)] :: R) (fun a16 => y12 = a16) (Dels.cons del2 Dels.nil) ?_ ?_
 ·
  have h := hl10
  refine CJ_condP rfl (bT_and bT_dec bT_dec) (fun hg1 => ?_) (fun hg1 => ?_)
  ·
   replace h := ite_t hg1 h
   exact CJ_region <| oP (P_build rfl (bld_34)) rfl <| oP (P_fieldAddr rfl ⟨_, _, _, Try.runUnderlying140, rfl, rfl, Try.sizeOf34, rfl⟩) rfl <| oO <| O_storeN rfl rfl foc2 Try.sizeOf34 rfl rfl rfl <| RJ_nil <| cR (false, (0 : Int), ByteArray.empty) (Option.some.inj h).symm True.intro (t2_ eR)
  ·
   replace h := ite_f hg1 h
   exact CJ_skip <| cR (r2.1.Valid, r2.1.Seq, r2.1.Text) (Option.some.inj h).symm True.intro (t2_ eR)
 ·
  rintro a16 hy17
  replace h := bindK_at hK11 hy17
  show CJ _ _ _ _ _ (([] : Slots) ++ forget _ _) (blk b1 140 [.bool a16.1, .int .i64 a16.2.1, .string a16.2.2, .int .i64 r2.2, .bool false, .int .i64 (0 : Int)] :: _)
  refine sR <| oM rfl rfl ?_
  obtain ⟨r18, hr19, h⟩ := bind_e h
  refine oO <| O_call (L_ring_Seqs hr19) rfl Try.call25 (Dels.cons del1 (Dels.cons del1 Dels.nil)) rfl fun _ _ => oM rfl rfl <| oP (P_extract rfl rfl) rfl <| oP (P_extract rfl rfl) rfl <| oP (P_extract rfl rfl) rfl <| oA rfl rfl <| oA rfl rfl <| oA rfl rfl <| nT <| sR <| oM rfl rfl <| oP (P_neq (a := r18.2.2) (b := (0 : Int)) rfl rfl) rfl <| oM rfl rfl <| RJ_mbF rfl rfl rfl (fun hG20 => have hP21 : ¬ (r18.2.2 ≠ (0 : Int)) := nP (bT_dec) hG20; VJ_P (P_fieldAddr rfl ⟨_, _, _, Try.runUnderlying140, rfl, rfl, Try.sizeOf30, rfl⟩)) <| RJ_mbF rfl rfl rfl (fun hG22 => have hP23 : ¬ (r18.2.2 ≠ (0 : Int)) := nP (bT_dec) hG22; V_load (mbx hG22 rfl) foc2 rfl Try.isAgg30) <| RJ_mbF rfl rfl rfl (fun hG24 => have hP25 : ¬ (r18.2.2 ≠ (0 : Int)) := nP (bT_dec) hG24; VJ_P (P_neq (a := r2.2) (b := (0 : Int)) (mbx hG24 rfl) rfl)) <| RJ_mbF rfl rfl rfl (fun hG26 => have hP27 : ¬ (r18.2.2 ≠ (0 : Int)) := nP (bT_dec) hG26; VJ_P (P_move (mbx hG26 rfl))) <| RJ_mbGT rfl rfl rfl (fun hG28 => have hP29 : ¬ (r18.2.2 ≠ (0 : Int)) := nP (bT_dec) (and_l hG28); have hP30 : (r2.2 ≠ (0 : Int)) := (bT_dec).1 (and_r hG28); VJ_P (P_fieldAddr rfl ⟨_, _, _, Try.runUnderlying140, rfl, rfl, Try.sizeOf30, rfl⟩)) <| RJ_mbGT rfl rfl rfl (fun hG31 => have hP32 : ¬ (r18.2.2 ≠ (0 : Int)) := nP (bT_dec) (and_l hG31); have hP33 : (r2.2 ≠ (0 : Int)) := (bT_dec).1 (and_r hG31); V_load (mbx hG31 rfl) foc2 rfl Try.isAgg30) ?_
  refine RJ_mbGT rfl rfl rfl (fun hG34 => have hP35 : ¬ (r18.2.2 ≠ (0 : Int)) := nP (bT_dec) (and_l hG34); have hP36 : (r2.2 ≠ (0 : Int)) := (bT_dec).1 (and_r hG34); VJ_P (P_neq (a := r2.2) (b := (12 : Int)) (mbx hG34 rfl) rfl)) <| RJ_mbF rfl rfl rfl (fun hG37 => have hP38 : ¬ (r18.2.2 ≠ (0 : Int)) := nP (bT_dec) hG37; VJ_P (P_pickAnd (mbx hG37 rfl) (fun hh => mbx (and_i hG37 hh) rfl) rfl)) <| RJ_mbF rfl rfl rfl (fun hG39 => have hP40 : ¬ (r18.2.2 ≠ (0 : Int)) := nP (bT_dec) hG39; VJ_P (P_move (mbx hG39 rfl))) <| RJ_mbGT rfl rfl rfl (fun hG41 => have hP42 : ¬ (r18.2.2 ≠ (0 : Int)) := nP (bT_dec) (and_l hG41); have hP43 : ((r2.2 ≠ (0 : Int)) ∧ (r2.2 ≠ (12 : Int))) := ((bT_and bT_dec bT_dec)).1 (and_r hG41); VJ_P (P_fieldAddr rfl ⟨_, _, _, Try.runUnderlying140, rfl, rfl, Try.sizeOf30, rfl⟩)) <| RJ_mbGT rfl rfl rfl (fun hG44 => have hP45 : ¬ (r18.2.2 ≠ (0 : Int)) := nP (bT_dec) (and_l hG44); have hP46 : ((r2.2 ≠ (0 : Int)) ∧ (r2.2 ≠ (12 : Int))) := ((bT_and bT_dec bT_dec)).1 (and_r hG44); V_load (mbx hG44 rfl) foc2 rfl Try.isAgg30) <| RJ_mbGT rfl rfl rfl (fun hG47 => have hP48 : ¬ (r18.2.2 ≠ (0 : Int)) := nP (bT_dec) (and_l hG47); have hP49 : ((r2.2 ≠ (0 : Int)) ∧ (r2.2 ≠ (12 : Int))) := ((bT_and bT_dec bT_dec)).1 (and_r hG47); VJ_P (P_neq (a := r2.2) (b := (11 : Int)) (mbx hG47 rfl) rfl)) <| RJ_mbF rfl rfl rfl (fun hG50 => have hP51 : ¬ (r18.2.2 ≠ (0 : Int)) := nP (bT_dec) hG50; VJ_P (P_pickAnd (mbx hG50 rfl) (fun hh => mbx (and_i hG50 hh) rfl) rfl)) ?_
  refine oP (P_pickOr rfl rfl (fun hh => mbx (not_f hh) rfl)) rfl <| oP (P_fieldAddr rfl ⟨_, _, _, Try.runUnderlying140, rfl, rfl, Try.sizeOf4, rfl⟩) rfl <| oO <| O_store rfl rfl foc2 rfl rfl Try.sizeOf4 <| nT <| CJ_seq <| sR <| oP (P_fieldAddr rfl ⟨_, _, _, Try.runUnderlying140, rfl, rfl, Try.sizeOf4, rfl⟩) rfl <| oV (V_load rfl foc2 rfl Try.isAgg4) rfl <| oP (P_not rfl) rfl <| nT <| CJ_condP rfl (bT_not (bT_or bT_dec (bT_and (bT_and bT_dec bT_dec) bT_dec))) (fun hg2 => ?_) (fun hg2 => ?_)
  ·
   replace h := ite_t hg2 h
   refine CJ_region <| oM rfl rfl <| oM rfl rfl <| oP (P_max (a := r18.1) (b := r18.2.1) rfl rfl) rfl <| oP (P_fieldAddr rfl ⟨_, _, _, Try.runUnderlying140, rfl, rfl, Try.sizeOf3, rfl⟩) rfl <| oO <| O_store rfl rfl foc2 rfl rfl Try.sizeOf3 <| nT <| sR <| oV (V_loadN rfl foc2 Try.isAgg140 Try.sizeOf140 rfl rfl) rfl <| oO <| O_storeN rfl rfl foc2 Try.sizeOf140 rfl rfl rfl <| nT <| CJ_ret ?_
   cases h
   exact fE (resA1 Try.results73 (RV_cellN rfl foc2 Try.isAgg140 Try.sizeOf140 rfl rfl)) () (t0_ (t0_ (eD eR)))
  ·
   replace h := ite_f hg2 h
   refine kT <| sR <| oV (V_loadN rfl foc2 Try.isAgg140 Try.sizeOf140 rfl rfl) rfl <| oO <| O_storeN rfl rfl foc2 Try.sizeOf140 rfl rfl rfl <| nT <| CJ_ret ?_
   cases h
   exact fE (resA1 Try.results73 (RV_cellN rfl foc2 Try.isAgg140 Try.sizeOf140 rfl rfl)) () (t0_ (t0_ (eD eR)))
def copies_Scan_l1_b (l : List Dvc) (s : ArrS) (rec : Nat → (List api_Copy) → (List Int) → Int → Option ((List api_Copy) × (List Int) × Int)) (x14 : Nat) (x15 : List api_Copy) (x17 : List Int) (x19 : Int) : Option ((List api_Copy) × (List Int) × Int) :=
  if (((x14 : Nat) : Int) < ((l.length : Nat) : Int)) then
    Option.bind (copies_look (l.getD x14 dv0) s) fun r23 =>
    grd (inLen (x15.length + 1)) <|
    if r23.failed = true then
      grd (inLen (x17.length + 1)) <|
      rec (x14 + 1) ((x15 ++ [(⟨r23.copy.Valid, r23.copy.Seq, r23.copy.Text⟩ : api_Copy)])) ((x17 ++ [((x14 : Nat) : Int)])) (max x19 r23.seq)
    else
      rec (x14 + 1) ((x15 ++ [(⟨r23.copy.Valid, r23.copy.Seq, r23.copy.Text⟩ : api_Copy)])) x17 (max x19 r23.seq)
  else
    some (x15, x17, x19)
def copies_Scan_l1 (l : List Dvc) (s : ArrS) : Nat → Nat → (List api_Copy) → (List Int) → Int → Option ((List api_Copy) × (List Int) × Int)
  | 0, _, _, _, _ => none
  | n + 1, x14, x15, x17, x19 => copies_Scan_l1_b l s (copies_Scan_l1 l s n) x14 x15 x17 x19
def copies_Scan (l : List Dvc) (s : ArrS) : Option ((List api_Copy) × (List Int) × Int) :=
  Option.bind (copies_Scan_l1 l s FUEL 0 ([]) ([]) (0 : Int)) fun a13 =>
  some (a13.1, a13.2.1, a13.2.2)
theorem L_copies_Scan {W : World} {Al : HP} {vl : Value} {hsl : List IfH} {bs : Nat} {l : List Dvc} {s : ArrS} {r : (List api_Copy) × (List Int) × Int} (rl : Reads Al tyDev vl hsl) (h : copies_Scan l s = some r) :
    CSpec Try.prog W 41 [vl] [Al, Rs (DevP bs) l hsl, Arr bs s] (fun x : Sl3 × Sl3 => .tuple #[x.1.v, x.2.v, .int .i64 r.2.2]) (fun _ => True) (fun x F => Al :: Rs (DevP bs) l hsl :: Arr bs s :: sl tyapi_Copy x.1.v r.1 :: sl tyI x.2.v r.2.1 :: F) := by
 refine CSpec.of_body Try.func41 rfl Try.ntmps41 rfl fun F => ?_
 show CJ _ _ _ _ _ _ (_ :: _ :: _ :: F)
 unfold copies_Scan at h
 refine CJ_pure (len_of rl del0) fun hlen1 => CJ_pure (fun h hh => Rs_len (stars_perm (del1 (A := Rs (DevP bs) l hsl)).out h hh)) fun hdl2 => sR <| oA rfl rfl <| oA rfl rfl <| oA rfl rfl <| nT <| sR <| oA rfl rfl <| nT <| sR <| oA rfl rfl <| nT <| sR <| oA rfl rfl <| nT <| CJ_seq <| sR <| oM rfl rfl <| oV (VJ_eq (V_len rfl foc0 rl Try.runUnderlying67) (congrArg (fun z : Nat => Value.int .i64 (z : Int)) (hdl2).symm)) rfl <| oM rfl rfl <| nT <| CJ_ent (fun h hh => sl_nil (t := tyapi_Copy) h hh) <| CJ_ent (fun h hh => sl_nil (t := tyI) h hh) ?_
 obtain ⟨y7, hl5, hK6⟩ := bind_c h
 refine CJ_cutT (X := ((List api_Copy) × (List Int) × Int) × Sl3 × Sl3) [5, 6, 7, 8, 9, 10, 13, 14, 15, 16, 17, 18, 19, 20, 21, 22, 23, 24, 25, 26, 27, 28, 29, 30, 31, 32, 33, 34, 35] (fun ⟨a13, hd9, hd11⟩ => ([(5, hd9.v), (6, hd11.v), (7, .int .i64 a13.2.2)] : Slots)) (fun ⟨a13, hd9, hd11⟩ R => sl tyapi_Copy hd9.v a13.1 :: sl tyI hd11.v a13.2.1 :: R) (fun ⟨a13, hd9, hd11⟩ => y7 = a13) (Dels.cons del1 (Dels.cons del0 Dels.nil)) ?_ ?_
 ·
  refine CJ_block <| CJ_loopR (X := Nat × Nat × (List api_Copy) × (List Int) × Int × Sl3 × Sl3) [5, 6, 7, 8, 9, 10, 13, 14, 15, 16, 17, 18, 19, 20, 21, 22, 23, 24, 25, 26, 27, 28, 29, 30, 31, 32, 33, 34, 35] (fun ⟨n, x14, x15, x17, x19, hd16, hd18⟩ => ([(5, hd16.v), (6, hd18.v), (7, .int .i64 x19), (13, .int .i64 (((x14 : Nat) : Int)))] : Slots)) (fun ⟨n, x14, x15, x17, x19, hd16, hd18⟩ R => sl tyapi_Copy hd16.v x15 :: sl tyI hd18.v x17 :: R) (fun ⟨n, x14, x15, x17, x19, hd16, hd18⟩ => copies_Scan_l1 l s n x14 x15 x17 x19 = some y7) (fun ⟨n, x14, x15, x17, x19, hd16, hd18⟩ => n) ⟨FUEL, 0, [], [], (0 : Int), ⟨none, 0, 0⟩, ⟨none, 0, 0⟩⟩ ?_ ?_ (t1_ eR) ?_
  · exact hl5
  · exact ⟨rfl, rfl, rfl, rfl, True.intro⟩
  ·
   rintro ⟨n, x14, x15, x17, x19, hd16, hd18⟩ h
   cases n with
   | zero => exact none_e h
   | succ n => ?_
   replace h : copies_Scan_l1_b l s (copies_Scan_l1 l s n) x14 x15 x17 x19 = some y7 := h
   unfold copies_Scan_l1_b at h
   show CJ _ _ _ _ _ (([(5, hd16.v), (6, hd18.v), (7, .int .i64 x19), (13, .int .i64 (((x14 : Nat) : Int)))] : Slots) ++ forget _ _) (sl tyapi_Copy hd16.v x15 :: sl tyI hd18.v x17 :: _)
   refine lC del0 fun hlen20 => lC del1 fun hlen21 => sR <| oP (P_lss (a := ((x14 : Nat) : Int)) (b := ((l.length : Nat) : Int)) rfl rfl) rfl <| nT <| CJ_seq <| CJ_condP rfl bT_dec (fun hg1 => ?_) (fun hg1 => ?_)
   ·
    replace h := ite_t hg1 h
    refine kT <| CJ_seq <| CJ_block <| sR <| oM rfl rfl <| oV (V_index (i := x14) rfl rfl rfl (by have hz : x14 < l.length := (by omega); have hy := hdl2; omega) foc2 rl Try.runUnderlying67 Try.sizeOf26) rfl <| RJ_ent (Ent.trans (t3_ eR) (Rs_at (fun _ _ => Dup_DevP) (dx := dv0) (dh := tyDev.dflt) (i := x14) (by omega))) <| oV (V_loadE rfl rfl (by have hz : x14 < l.length := (by omega); have hy := hdl2; omega) foc4 rl rfl rfl Try.isAgg26) rfl <| oA rfl rfl <| oA rfl rfl <| nT <| sR <| oM rfl rfl ?_
    obtain ⟨r23, hr24, h⟩ := bind_e h
    refine oO <| O_call (L_copies_look hr24) rfl Try.call73 (Dels.cons del0 (Dels.cons del4 Dels.nil)) rfl fun _ _ => oO <| O_alloc Try.zeroValue140 rfl rfl fun b25 => oO <| O_storeN rfl rfl foc0 Try.sizeOf140 rfl rfl rfl <| RJ_nil <| QJ_ent (t0_ (t1_ (t1_ (t1_ (t1_ (t1_ (eD eR))))))) <| QJ_then <| sR <| oM rfl rfl <| oP (P_fieldAddr rfl ⟨_, _, _, Try.runUnderlying140, rfl, rfl, Try.sizeOf34, rfl⟩) rfl <| oV (V_loadN rfl foc0 Try.isAgg34 Try.sizeOf34 rfl rfl) rfl <| oO <| O_buildSlice rfl (bs_66_1_0 _ _ _) rfl fun b26 => ?_
    obtain ⟨hg2, h⟩ := grd_Le h
    refine oO <| O_append (t := tyapi_Copy) (bytes := 32) rfl rfl del4 foc0 (Reads.lit (t := tyapi_Copy) (ys := [(⟨r23.copy.Valid, r23.copy.Seq, r23.copy.Text⟩ : api_Copy)]) rfl rfl (by decide) (by decide) rfl) Try.underlying66 ok_tyapi_Copy (apl (m := 1) (b := 32) hg2 (by decide)).1 (apl (m := 1) (b := 32) hg2 (by decide)).2 rfl fun p28 c29 => oA rfl rfl <| RJ_nil <| QJ_ent (t0_ (t1_ (t1_ (t1_ (t1_ (t1_ (eD eR))))))) <| QJ_then <| CJ_seq <| sR <| oP (P_fieldAddr rfl ⟨_, _, _, Try.runUnderlying140, rfl, rfl, Try.sizeOf4, rfl⟩) rfl <| oV (V_load rfl foc1 rfl Try.isAgg4) rfl <| nT <| CJ_condP rfl Iff.rfl (fun hg3 => ?_) (fun hg3 => ?_)
    ·
     replace h := ite_t hg3 h
     refine CJ_region <| oM rfl rfl <| oM rfl rfl <| oO <| O_buildSlice rfl (bs_38_1_0 _) rfl fun b30 => ?_
     obtain ⟨hg4, h⟩ := grd_Le h
     exact oO <| O_append (t := tyI) (bytes := 8) rfl rfl del5 foc0 (Reads.lit (t := tyI) (ys := [((x14 : Nat) : Int)]) rfl rfl (by decide) (by decide) rfl) Try.underlying38 ok_tyI (apl (m := 1) (b := 8) hg4 (by decide)).1 (apl (m := 1) (b := 8) hg4 (by decide)).2 rfl fun p32 c33 => oA rfl rfl <| RJ_nil <| QJ_ent (t0_ (t1_ (t1_ (t1_ (t1_ (t1_ (eD eR))))))) <| QJ_then <| CJ_region <| oM rfl rfl <| oP (P_fieldAddr rfl ⟨_, _, _, Try.runUnderlying140, rfl, rfl, Try.sizeOf3, rfl⟩) rfl <| oV (V_load rfl foc2 rfl Try.isAgg3) rfl <| oP (P_max (a := x19) (b := r23.seq) rfl rfl) rfl <| oA rfl rfl <| RJ_nil <| QJ_block_normal <| QJ_then <| CJ_region <| oP (PJ_eq (P_add (a := ((x14 : Nat) : Int)) (b := (1 : Int)) rfl rfl (by omega)) rfl) rfl <| oM rfl rfl <| RJ_nil <| nR ⟨n, (x14 + 1), (x15 ++ [(⟨r23.copy.Valid, r23.copy.Seq, r23.copy.Text⟩ : api_Copy)]), (x17 ++ [((x14 : Nat) : Int)]), (max x19 r23.seq), ⟨p28, (x15 ++ [(⟨r23.copy.Valid, r23.copy.Seq, r23.copy.Text⟩ : api_Copy)]).length, c29⟩, ⟨p32, (x17 ++ [((x14 : Nat) : Int)]).length, c33⟩⟩ h ⟨rfl, rfl, rfl, rfl, True.intro⟩ (t1_ (t0_ (t3_ (t2_ (t1_ (eD eR))))))
    ·
     replace h := ite_f hg3 h
     exact kT <| CJ_region <| oM rfl rfl <| oP (P_fieldAddr rfl ⟨_, _, _, Try.runUnderlying140, rfl, rfl, Try.sizeOf3, rfl⟩) rfl <| oV (V_load rfl foc1 rfl Try.isAgg3) rfl <| oP (P_max (a := x19) (b := r23.seq) rfl rfl) rfl <| oA rfl rfl <| RJ_nil <| QJ_block_normal <| QJ_then <| CJ_region <| oP (PJ_eq (P_add (a := ((x14 : Nat) : Int)) (b := (1 : Int)) rfl rfl (by omega)) rfl) rfl <| oM rfl rfl <| RJ_nil <| nR ⟨n, (x14 + 1), (x15 ++ [(⟨r23.copy.Valid, r23.copy.Seq, r23.copy.Text⟩ : api_Copy)]), x17, (max x19 r23.seq), ⟨p28, (x15 ++ [(⟨r23.copy.Valid, r23.copy.Seq, r23.copy.Text⟩ : api_Copy)]).length, c29⟩, hd18⟩ h ⟨rfl, rfl, rfl, rfl, True.intro⟩ (t0_ (t3_ (t3_ (t2_ (t1_ (eD eR))))))
   ·
    replace h := ite_f hg1 h
    exact CJ_exit <| QJ_then_exit <| QJ_round_exit <| QJ_block_here <| cR ⟨(x15, x17, x19), hd16, hd18⟩ (Option.some.inj h).symm ⟨rfl, rfl, rfl, True.intro⟩ eR
 ·
  rintro ⟨a13, hd9, hd11⟩ hy34
  replace h := bindK_at hK6 hy34
  show CJ _ _ _ _ _ (([(5, hd9.v), (6, hd11.v), (7, .int .i64 a13.2.2)] : Slots) ++ forget _ _) (sl tyapi_Copy hd9.v a13.1 :: sl tyI hd11.v a13.2.1 :: _)
  refine lC del0 fun hlen35 => lC del1 fun hlen36 => sR <| oM rfl rfl <| oM rfl rfl <| oM rfl rfl <| oA rfl rfl <| oA rfl rfl <| oA rfl rfl <| nT <| CJ_ret ?_
  cases h
  exact fE (res3 Try.results41 rfl rfl rfl) ⟨hd9, hd11⟩ (t2_ (t2_ (t2_ eR)))
def copies_Choose_1 (c : api_Copy) : Option (Bool) :=
  some c.Valid
theorem L_copies_Choose_1 {W : World} {c : api_Copy} {r : Bool} (h : copies_Choose_1 c = some r) :
    CSpec Try.prog W 74 [.agg #[.bool c.Valid, .int .i64 c.Seq, .string c.Text]] [] (fun x : Unit => .bool r) (fun _ => True) (fun x F => F) := by
 refine CSpec.of_body Try.func74 rfl Try.ntmps74 rfl fun F => ?_
 show CJ _ _ _ _ _ _ (F)
 unfold copies_Choose_1 at h
 refine sR <| oO <| O_box rfl rfl rfl fun b1 => oA rfl rfl <| nT <| sR <| oP (P_fieldAddr rfl ⟨_, _, _, Try.runUnderlying34, rfl, rfl, Try.sizeOf4, rfl⟩) rfl <| oV (V_load rfl foc0 rfl Try.isAgg4) rfl <| oA rfl rfl <| nT <| CJ_ret ?_
 cases h
 exact fE (res1 Try.results74 rfl) () (eD eR)
def copies_Choose_2 (a : api_Copy) (b : api_Copy) : Option (Bool) :=
  some ((decide (b.Seq < a.Seq)))
theorem L_copies_Choose_2 {W : World} {a : api_Copy} {b : api_Copy} {r : Bool} (h : copies_Choose_2 a b = some r) :
    CSpec Try.prog W 76 [.agg #[.bool a.Valid, .int .i64 a.Seq, .string a.Text], .agg #[.bool b.Valid, .int .i64 b.Seq, .string b.Text]] [] (fun x : Unit => .bool r) (fun _ => True) (fun x F => F) := by
 refine CSpec.of_body Try.func76 rfl Try.ntmps76 rfl fun F => ?_
 show CJ _ _ _ _ _ _ (F)
 unfold copies_Choose_2 at h
 refine sR <| oO <| O_box rfl rfl rfl fun b1 => oO <| O_box rfl rfl rfl fun b2 => oA rfl rfl <| nT <| sR <| oP (P_fieldAddr rfl ⟨_, _, _, Try.runUnderlying34, rfl, rfl, Try.sizeOf3, rfl⟩) rfl <| oV (V_load rfl foc1 rfl Try.isAgg3) rfl <| oP (P_fieldAddr rfl ⟨_, _, _, Try.runUnderlying34, rfl, rfl, Try.sizeOf3, rfl⟩) rfl <| oV (V_load rfl foc0 rfl Try.isAgg3) rfl <| oP (P_gtr (a := a.Seq) (b := b.Seq) rfl rfl) rfl <| oA rfl rfl <| nT <| CJ_ret ?_
 cases h
 exact fE (res1 Try.results76 rfl) () (eD (eD eR))
def copies_best__copies_Choose_1_l1_b (l : List api_Copy) (rec : Nat → Int → Option (Int)) (x7 : Nat) (x8 : Int) : Option (Int) :=
  if (((x7 : Nat) : Int) < ((l.length : Nat) : Int)) then
    Option.bind (copies_Choose_1 ((l.getD x7 (⟨false, 0, ByteArray.empty⟩ : api_Copy)))) fun r10 =>
    if r10 = true then
      if (x8 < (0 : Int)) then
        rec (x7 + 1) (((x7 : Nat) : Int))
      else
        grd (decide (0 ≤ x8 ∧ x8 < (l.length : Int))) <|
        Option.bind (copies_Choose_2 ((l.getD x7 (⟨false, 0, ByteArray.empty⟩ : api_Copy))) ((l.getD ((x8).toNat) (⟨false, 0, ByteArray.empty⟩ : api_Copy)))) fun r12 =>
        if r12 = true then
          rec (x7 + 1) (((x7 : Nat) : Int))
        else
          rec (x7 + 1) x8
    else
      rec (x7 + 1) x8
  else
    some x8
def copies_best__copies_Choose_1_l1 (l : List api_Copy) : Nat → Nat → Int → Option (Int)
  | 0, _, _ => none
  | n + 1, x7, x8 => copies_best__copies_Choose_1_l1_b l (copies_best__copies_Choose_1_l1 l n) x7 x8
def copies_best__copies_Choose_1 (l : List api_Copy) : Option (Int) :=
  Option.bind (copies_best__copies_Choose_1_l1 l FUEL 0 (-1 : Int)) fun a6 =>
  some a6
theorem L_copies_best__copies_Choose_1 {W : World} {Al : HP} {vl : Value} {l : List api_Copy} {r : Int} (rl : Reads Al tyapi_Copy vl l) (h : copies_best__copies_Choose_1 l = some r) :
    CSpec Try.prog W 75 [vl, .func (.func 74) #[] #[], .func (.func 76) #[] #[]] [Al] (fun x : Unit => .int .i64 r) (fun _ => True) (fun x F => Al :: F) := by
 refine CSpec.of_body Try.func75 rfl Try.ntmps75 rfl fun F => ?_
 show CJ _ _ _ _ _ _ (_ :: F)
 unfold copies_best__copies_Choose_1 at h
 refine CJ_pure (len_of rl del0) fun hlen1 => sR <| oA rfl rfl <| nT <| sR <| oA rfl rfl <| nT <| CJ_seq <| sR <| oM rfl rfl <| oV (V_len rfl foc0 rl Try.runUnderlying66) rfl <| oM rfl rfl <| nT ?_
 obtain ⟨y4, hl2, hK3⟩ := bind_c h
 refine CJ_cutT (X := Int) [7, 8, 9, 12, 13, 14, 15, 16, 17, 18, 19, 20, 21, 22, 23, 24, 25, 26, 27, 28, 29, 30, 31, 32, 33, 34] (fun a6 => ([(7, .int .i64 a6)] : Slots)) (fun a6 R => R) (fun a6 => y4 = a6) Dels.nil ?_ ?_
 ·
  refine CJ_block <| CJ_loopR (X := Nat × Nat × Int) [7, 8, 9, 12, 13, 14, 15, 16, 17, 18, 19, 20, 21, 22, 23, 24, 25, 26, 27, 28, 29, 30, 31, 32, 33, 34] (fun ⟨n, x7, x8⟩ => ([(7, .int .i64 x8), (12, .int .i64 (((x7 : Nat) : Int)))] : Slots)) (fun ⟨n, x7, x8⟩ R => R) (fun ⟨n, x7, x8⟩ => copies_best__copies_Choose_1_l1 l n x7 x8 = some y4) (fun ⟨n, x7, x8⟩ => n) ⟨FUEL, 0, (-1 : Int)⟩ ?_ ?_ eR ?_
  · exact hl2
  · exact ⟨rfl, rfl, True.intro⟩
  ·
   rintro ⟨n, x7, x8⟩ h
   cases n with
   | zero => exact none_e h
   | succ n => ?_
   replace h : copies_best__copies_Choose_1_l1_b l (copies_best__copies_Choose_1_l1 l n) x7 x8 = some y4 := h
   unfold copies_best__copies_Choose_1_l1_b at h
   show CJ _ _ _ _ _ (([(7, .int .i64 x8), (12, .int .i64 (((x7 : Nat) : Int)))] : Slots) ++ forget _ _) (_)
   refine sR <| oP (P_lss (a := ((x7 : Nat) : Int)) (b := ((l.length : Nat) : Int)) rfl rfl) rfl <| nT <| CJ_seq <| CJ_condP rfl bT_dec (fun hg1 => ?_) (fun hg1 => ?_)
   ·
    replace h := ite_t hg1 h
    refine kT <| CJ_seq <| CJ_block <| sR <| oM rfl rfl <| oV (V_index (i := x7) rfl rfl rfl (by omega) foc0 rl Try.runUnderlying66 Try.sizeOf34) rfl <| oV (V_loadEN rfl rfl (by omega) foc0 rl rfl rfl Try.isAgg34 Try.sizeOf34) rfl <| oO <| O_alloc Try.zeroValue34 rfl rfl fun b9 => oA rfl rfl <| oO <| O_storeN rfl rfl foc0 Try.sizeOf34 rfl rfl rfl <| nT <| CJ_seq <| AJ_startH 8192 (by kernel_rfl) rfl <| aN 0 1 rfl rfl (P_move rfl) rfl <| aV 1 3 rfl rfl (GY_none rfl) eR (V_loadN rfl foc0 Try.isAgg34 Try.sizeOf34 rfl rfl) rfl ?_
    obtain ⟨r10, hr11, h⟩ := bind_e h
    refine AJ_op 2 7 rfl (by kernel_rfl) rfl (GY_none rfl) <| O_callV rfl rfl (L_copies_Choose_1 hr11) Try.call74 Dels.nil rfl fun _ _ => ⟨fun _ => eR, ?_⟩
    refine aN 3 15 rfl rfl (P_move rfl) rfl <| AJ_splitP 20 rfl Iff.rfl (fun hg2B hg2 => ?_) (fun hg2B hg2 => ?_)
    ·
     replace h := ite_t hg2 h
     refine aP 4 31 rfl rfl (GY_yes rfl rfl rfl hg2B) (P_move rfl) rfl <| aP 5 63 rfl rfl (GY_yes rfl rfl rfl hg2B) (P_lss (a := x8) (b := (0 : Int)) rfl rfl) rfl <| aP 6 127 rfl rfl (GY_yes rfl rfl rfl hg2B) (P_move rfl) rfl <| AJ_splitP 23 rfl bT_dec (fun hg3B hg3 => ?_) (fun hg3B hg3 => ?_)
     ·
      replace h := ite_t hg3 h
      exact aS 7 255 rfl rfl (GY_no rfl rfl rfl hg3B) rfl <| aS 8 511 rfl rfl (GY_no rfl rfl rfl hg3B) rfl <| aS 9 1023 rfl rfl (GY_no rfl rfl rfl hg3B) rfl <| aS 10 2047 rfl rfl (GY_no rfl rfl rfl hg3B) rfl <| aS 11 4095 rfl rfl (GY_no rfl rfl rfl hg3B) rfl <| aS 12 8191 rfl rfl (GY_no rfl rfl rfl hg3B) rfl <| aS 13 16383 rfl rfl (GY_no rfl rfl rfl hg3B) rfl <| aP 14 32767 rfl rfl (GY_yes rfl rfl rfl hg2B) (P_pickT rfl hg3B rfl) rfl <| aN 15 65535 rfl rfl (P_pickT rfl hg2B rfl) rfl <| aD <| CJ_condT rfl rfl <| CJ_region <| oM rfl rfl <| oA rfl rfl <| RJ_nil <| QJ_block_normal <| QJ_then <| CJ_region <| oP (PJ_eq (P_add (a := ((x7 : Nat) : Int)) (b := (1 : Int)) rfl rfl (by omega)) rfl) rfl <| oM rfl rfl <| RJ_nil <| nR ⟨n, (x7 + 1), ((x7 : Nat) : Int)⟩ h ⟨rfl, rfl, True.intro⟩ (t1_ (eD eR))
     ·
      replace h := ite_f hg3 h
      refine aP 7 255 rfl rfl (GY_yes rfl rfl rfl hg3B) (P_move rfl) rfl <| aV 8 511 rfl rfl (GY_yes rfl rfl rfl hg3B) eR (V_loadN rfl foc0 Try.isAgg34 Try.sizeOf34 rfl rfl) rfl <| aP 9 1023 rfl rfl (GY_yes rfl rfl rfl hg3B) (P_move rfl) rfl <| aP 10 2047 rfl rfl (GY_yes rfl rfl rfl hg3B) (P_move rfl) rfl ?_
      obtain ⟨hg4, h⟩ := grd_de h
      refine aV 11 4095 rfl rfl (GY_yes rfl rfl rfl hg3B) eR (V_index (i := (x8).toNat) rfl rfl (Int.toNat_of_nonneg (hg4.1)).symm (by omega) foc1 rl Try.runUnderlying66 Try.sizeOf34) rfl <| aV 12 8191 rfl rfl (GY_yes rfl rfl rfl hg3B) eR (V_loadEN rfl rfl (by omega) foc1 rl rfl rfl Try.isAgg34 Try.sizeOf34) rfl ?_
      obtain ⟨r12, hr13, h⟩ := bind_e h
      refine AJ_op 13 16383 rfl (by kernel_rfl) rfl (GY_yes rfl rfl rfl hg3B) <| O_callV rfl rfl (L_copies_Choose_2 hr13) Try.call76 Dels.nil rfl fun _ _ => ⟨fun h => absurd h (by decide), ?_⟩
      refine aP 14 32767 rfl rfl (GY_yes rfl rfl rfl hg2B) (P_pickF rfl hg3B rfl) rfl <| aN 15 65535 rfl rfl (P_pickT rfl hg2B rfl) rfl <| aD <| CJ_condP rfl Iff.rfl (fun hg5 => ?_) (fun hg5 => ?_)
      ·
       replace h := ite_t hg5 h
       exact CJ_region <| oM rfl rfl <| oA rfl rfl <| RJ_nil <| QJ_block_normal <| QJ_then <| CJ_region <| oP (PJ_eq (P_add (a := ((x7 : Nat) : Int)) (b := (1 : Int)) rfl rfl (by omega)) rfl) rfl <| oM rfl rfl <| RJ_nil <| nR ⟨n, (x7 + 1), ((x7 : Nat) : Int)⟩ h ⟨rfl, rfl, True.intro⟩ (t1_ (eD eR))
      ·
       replace h := ite_f hg5 h
       exact CJ_skip <| QJ_block_normal <| QJ_then <| CJ_region <| oP (PJ_eq (P_add (a := ((x7 : Nat) : Int)) (b := (1 : Int)) rfl rfl (by omega)) rfl) rfl <| oM rfl rfl <| RJ_nil <| nR ⟨n, (x7 + 1), x8⟩ h ⟨rfl, rfl, True.intro⟩ (t1_ (eD eR))
    ·
     replace h := ite_f hg2 h
     exact aS 4 31 rfl rfl (GY_no rfl rfl rfl hg2B) rfl <| aS 5 63 rfl rfl (GY_no rfl rfl rfl hg2B) rfl <| aS 6 127 rfl rfl (GY_no rfl rfl rfl hg2B) rfl <| aS 7 255 rfl rfl (GY_undef rfl rfl rfl) rfl <| aS 8 511 rfl rfl (GY_undef rfl rfl rfl) rfl <| aS 9 1023 rfl rfl (GY_undef rfl rfl rfl) rfl <| aS 10 2047 rfl rfl (GY_undef rfl rfl rfl) rfl <| aS 11 4095 rfl rfl (GY_undef rfl rfl rfl) rfl <| aS 12 8191 rfl rfl (GY_undef rfl rfl rfl) rfl <| aS 13 16383 rfl rfl (GY_undef rfl rfl rfl) rfl <| aS 14 32767 rfl rfl (GY_no rfl rfl rfl hg2B) rfl <| aN 15 65535 rfl rfl (P_pickF rfl hg2B rfl) rfl <| aD <| CJ_condF rfl rfl <| CJ_skip <| QJ_block_normal <| QJ_then <| CJ_region <| oP (PJ_eq (P_add (a := ((x7 : Nat) : Int)) (b := (1 : Int)) rfl rfl (by omega)) rfl) rfl <| oM rfl rfl <| RJ_nil <| nR ⟨n, (x7 + 1), x8⟩ h ⟨rfl, rfl, True.intro⟩ (t1_ (eD eR))
   ·
    replace h := ite_f hg1 h
    exact CJ_exit <| QJ_then_exit <| QJ_round_exit <| QJ_block_here <| cR x8 (Option.some.inj h).symm ⟨rfl, True.intro⟩ eR
 ·
  rintro a6 hy14
  replace h := bindK_at hK3 hy14
  show CJ _ _ _ _ _ (([(7, .int .i64 a6)] : Slots) ++ forget _ _) (_)
  refine sR <| oM rfl rfl <| oA rfl rfl <| nT <| CJ_ret ?_
  cases h
  exact fE (res1 Try.results75 rfl) () eR
def copies_Choose_l1_b (l : List api_Copy) (r2 : Int) (rec : Nat → Option ((Unit) ⊕ (Int × Int))) (x8 : Nat) : Option ((Unit) ⊕ (Int × Int)) :=
  if (((x8 : Nat) : Int) < ((l.length : Nat) : Int)) then
    if ((l.getD x8 (⟨false, 0, ByteArray.empty⟩ : api_Copy))).Valid = true then
      grd (decide (0 ≤ r2 ∧ r2 < (l.length : Int))) <|
      if (((l.getD x8 (⟨false, 0, ByteArray.empty⟩ : api_Copy))).Seq = ((l.getD ((r2).toNat) (⟨false, 0, ByteArray.empty⟩ : api_Copy))).Seq) then
        grd (decide (0 ≤ r2 ∧ r2 < (l.length : Int))) <|
        if (((l.getD x8 (⟨false, 0, ByteArray.empty⟩ : api_Copy))).Text ≠ ((l.getD ((r2).toNat) (⟨false, 0, ByteArray.empty⟩ : api_Copy))).Text) then
          some (.inr (((-1 : Int), (13 : Int))))
        else
          rec (x8 + 1)
      else
        rec (x8 + 1)
    else
      if false = true then
        grd (decide (0 ≤ r2 ∧ r2 < (l.length : Int))) <|
        if (((l.getD x8 (⟨false, 0, ByteArray.empty⟩ : api_Copy))).Text ≠ ((l.getD ((r2).toNat) (⟨false, 0, ByteArray.empty⟩ : api_Copy))).Text) then
          some (.inr (((-1 : Int), (13 : Int))))
        else
          rec (x8 + 1)
      else
        rec (x8 + 1)
  else
    some (.inl ())
def copies_Choose_l1 (l : List api_Copy) (r2 : Int) : Nat → Nat → Option ((Unit) ⊕ (Int × Int))
  | 0, _ => none
  | n + 1, x8 => copies_Choose_l1_b l r2 (copies_Choose_l1 l r2 n) x8
def copies_Choose (l : List api_Copy) : Option (Int × Int) :=
  Option.bind (copies_best__copies_Choose_1 l) fun r2 =>
  if (r2 < (0 : Int)) then
    some (((-1 : Int), (12 : Int)))
  else
    seqO (copies_Choose_l1 l r2 FUEL 0) fun a7 =>
    some ((r2, (0 : Int)))
theorem L_copies_Choose {W : World} {Al : HP} {vl : Value} {l : List api_Copy} {r : Int × Int} (rl : Reads Al tyapi_Copy vl l) (h : copies_Choose l = some r) :
    CSpec Try.prog W 48 [vl] [Al] (fun x : Unit => .tuple #[.int .i64 r.1, .int .i64 r.2]) (fun _ => True) (fun x F => Al :: F) := by
 refine CSpec.of_body Try.func48 rfl Try.ntmps48 rfl fun F => ?_
 show CJ _ _ _ _ _ _ (_ :: F)
 unfold copies_Choose at h
 refine CJ_pure (len_of rl del0) fun hlen1 => sR <| oA rfl rfl <| oA rfl rfl <| nT <| sR <| oA rfl rfl <| nT <| sR <| oM rfl rfl <| oM rfl rfl ?_
 obtain ⟨r2, hr3, h⟩ := bind_e h
 refine oO <| O_call (L_copies_best__copies_Choose_1 rl hr3) rfl Try.call75 (Dels.cons del0 Dels.nil) rfl fun _ _ => oA rfl rfl <| nT <| CJ_seq <| sR <| oM rfl rfl <| oP (P_lss (a := r2) (b := (0 : Int)) rfl rfl) rfl <| nT <| CJ_condP rfl bT_dec (fun hg1 => ?_) (fun hg1 => ?_)
 ·
  replace h := ite_t hg1 h
  refine sR <| oA rfl rfl <| oA rfl rfl <| nT <| CJ_ret <| QJ_then_ret ?_
  cases h
  exact fE (res2 Try.results48 rfl rfl) () eR
 ·
  replace h := ite_f hg1 h
  refine kT <| CJ_seq <| sR <| oM rfl rfl <| oV (V_len rfl foc0 rl Try.runUnderlying66) rfl <| oM rfl rfl <| nT ?_
  obtain ⟨y6, hl4, hK5⟩ := seq_e h
  refine CJ_cutT (X := Unit) [2, 3, 7, 15, 16, 17, 18, 19, 20, 21, 22, 23, 24, 25, 26, 27, 28, 29, 30, 31, 32, 33, 34, 35, 36, 37, 38, 39, 40, 41] (fun _ => ([] : Slots)) (fun _ R => R) (fun _ => y6 = .inl ()) Dels.nil ?_ ?_
  ·
   refine CJ_block <| CJ_loopR (X := Nat × Nat) [2, 3, 7, 15, 16, 17, 18, 19, 20, 21, 22, 23, 24, 25, 26, 27, 28, 29, 30, 31, 32, 33, 34, 35, 36, 37, 38, 39, 40, 41] (fun ⟨n, x8⟩ => ([(15, .int .i64 (((x8 : Nat) : Int)))] : Slots)) (fun ⟨n, x8⟩ R => R) (fun ⟨n, x8⟩ => copies_Choose_l1 l r2 n x8 = some y6) (fun ⟨n, x8⟩ => n) ⟨FUEL, 0⟩ ?_ ?_ eR ?_
   · exact hl4
   · exact ⟨rfl, True.intro⟩
   ·
    rintro ⟨n, x8⟩ h
    cases n with
    | zero => exact none_e h
    | succ n => ?_
    replace h : copies_Choose_l1_b l r2 (copies_Choose_l1 l r2 n) x8 = some y6 := h
    unfold copies_Choose_l1_b at h
    show CJ _ _ _ _ _ (([(15, .int .i64 (((x8 : Nat) : Int)))] : Slots) ++ forget _ _) (_)
    refine sR <| oP (P_lss (a := ((x8 : Nat) : Int)) (b := ((l.length : Nat) : Int)) rfl rfl) rfl <| nT <| CJ_seq <| CJ_condP rfl bT_dec (fun hg2 => ?_) (fun hg2 => ?_)
    ·
     replace h := ite_t hg2 h
     refine kT <| CJ_seq <| CJ_block <| sR <| oV (V_index (i := x8) rfl rfl rfl (by omega) foc0 rl Try.runUnderlying66 Try.sizeOf34) rfl <| oV (V_loadEN rfl rfl (by omega) foc0 rl rfl rfl Try.isAgg34 Try.sizeOf34) rfl <| oO <| O_alloc Try.zeroValue34 rfl rfl fun b9 => oO <| O_storeN rfl rfl foc0 Try.sizeOf34 rfl rfl rfl <| nT <| CJ_seq <| AJ_startH 0 (by kernel_rfl) rfl <| aN 0 1 rfl rfl (P_fieldAddr rfl ⟨_, _, _, Try.runUnderlying34, rfl, rfl, Try.sizeOf4, rfl⟩) rfl <| aV 1 3 rfl rfl (GY_none rfl) eR (V_load rfl foc0 rfl Try.isAgg4) rfl <| aN 2 7 rfl rfl (P_move rfl) rfl <| AJ_splitP 21 rfl Iff.rfl (fun hg3B hg3 => ?_) (fun hg3B hg3 => ?_)
     ·
      replace h := ite_t hg3 h
      refine aP 3 15 rfl rfl (GY_yes rfl rfl rfl hg3B) (P_fieldAddr rfl ⟨_, _, _, Try.runUnderlying34, rfl, rfl, Try.sizeOf3, rfl⟩) rfl <| aV 4 31 rfl rfl (GY_yes rfl rfl rfl hg3B) eR (V_load rfl foc0 rfl Try.isAgg3) rfl <| aP 5 63 rfl rfl (GY_yes rfl rfl rfl hg3B) (P_move rfl) rfl <| aP 6 127 rfl rfl (GY_yes rfl rfl rfl hg3B) (P_move rfl) rfl ?_
      obtain ⟨hg4, h⟩ := grd_de h
      refine aV 7 255 rfl rfl (GY_yes rfl rfl rfl hg3B) eR (V_index (i := (r2).toNat) rfl rfl (Int.toNat_of_nonneg (hg4.1)).symm (by omega) foc1 rl Try.runUnderlying66 Try.sizeOf34) rfl <| aP 8 511 rfl rfl (GY_yes rfl rfl rfl hg3B) (P_fieldE rfl ⟨_, _, _, Try.runUnderlying34, rfl, rfl, Try.sizeOf3, rfl⟩) rfl <| aV 9 1023 rfl rfl (GY_yes rfl rfl rfl hg3B) eR (V_loadE rfl rfl (by omega) foc1 rl rfl rfl Try.isAgg3) rfl <| aP 10 2047 rfl rfl (GY_yes rfl rfl rfl hg3B) (P_eql (a := ((l.getD x8 (⟨false, 0, ByteArray.empty⟩ : api_Copy))).Seq) (b := ((l.getD ((r2).toNat) (⟨false, 0, ByteArray.empty⟩ : api_Copy))).Seq) rfl rfl) rfl <| aN 11 4095 rfl rfl (P_pickT rfl hg3B rfl) rfl <| aN 12 8191 rfl rfl (P_move rfl) rfl <| AJ_splitP 31 rfl bT_dec (fun hg5B hg5 => ?_) (fun hg5B hg5 => ?_)
      ·
       replace h := ite_t hg5 h
       refine aP 13 16383 rfl rfl (GY_yes rfl rfl rfl hg5B) (P_fieldAddr rfl ⟨_, _, _, Try.runUnderlying34, rfl, rfl, Try.sizeOf9, rfl⟩) rfl <| aV 14 32767 rfl rfl (GY_yes rfl rfl rfl hg5B) eR (V_load rfl foc0 rfl Try.isAgg9) rfl <| aP 15 65535 rfl rfl (GY_yes rfl rfl rfl hg5B) (P_move rfl) rfl <| aP 16 131071 rfl rfl (GY_yes rfl rfl rfl hg5B) (P_move rfl) rfl ?_
       obtain ⟨hg6, h⟩ := grd_de h
       refine aV 17 262143 rfl rfl (GY_yes rfl rfl rfl hg5B) eR (V_index (i := (r2).toNat) rfl rfl (Int.toNat_of_nonneg (hg6.1)).symm (by omega) foc1 rl Try.runUnderlying66 Try.sizeOf34) rfl <| aP 18 524287 rfl rfl (GY_yes rfl rfl rfl hg5B) (P_fieldE rfl ⟨_, _, _, Try.runUnderlying34, rfl, rfl, Try.sizeOf9, rfl⟩) rfl <| aV 19 1048575 rfl rfl (GY_yes rfl rfl rfl hg5B) eR (V_loadE rfl rfl (by omega) foc1 rl rfl rfl Try.isAgg9) rfl <| aP 20 2097151 rfl rfl (GY_yes rfl rfl rfl hg5B) (P_neqStr (a := ((l.getD x8 (⟨false, 0, ByteArray.empty⟩ : api_Copy))).Text) (b := ((l.getD ((r2).toNat) (⟨false, 0, ByteArray.empty⟩ : api_Copy))).Text) rfl rfl Try.underlying9) rfl <| aN 21 4194303 rfl rfl (P_pickT rfl hg5B rfl) rfl <| aD <| CJ_condP rfl bT_dec (fun hg7 => ?_) (fun hg7 => ?_)
       ·
        replace h := ite_t hg7 h
        refine sR <| oA rfl rfl <| oA rfl rfl <| nT <| CJ_ret <| QJ_block_ret <| QJ_then_ret <| QJ_round_ret <| QJ_block_ret <| QJ_then_ret ?_
        have hE := Option.some.inj h
        replace hE := seq_inr hK5 hE.symm
        subst hE
        exact fE (res2 Try.results48 rfl rfl) () (t1_ (eD eR))
       ·
        replace h := ite_f hg7 h
        exact CJ_skip <| QJ_block_normal <| QJ_then <| CJ_region <| oP (PJ_eq (P_add (a := ((x8 : Nat) : Int)) (b := (1 : Int)) rfl rfl (by omega)) rfl) rfl <| oM rfl rfl <| RJ_nil <| nR ⟨n, (x8 + 1)⟩ h ⟨rfl, True.intro⟩ (t1_ (eD eR))
      ·
       replace h := ite_f hg5 h
       exact aS 13 16383 rfl rfl (GY_no rfl rfl rfl hg5B) rfl <| aS 14 32767 rfl rfl (GY_no rfl rfl rfl hg5B) rfl <| aS 15 65535 rfl rfl (GY_no rfl rfl rfl hg5B) rfl <| aS 16 131071 rfl rfl (GY_no rfl rfl rfl hg5B) rfl <| aS 17 262143 rfl rfl (GY_no rfl rfl rfl hg5B) rfl <| aS 18 524287 rfl rfl (GY_no rfl rfl rfl hg5B) rfl <| aS 19 1048575 rfl rfl (GY_no rfl rfl rfl hg5B) rfl <| aS 20 2097151 rfl rfl (GY_no rfl rfl rfl hg5B) rfl <| aN 21 4194303 rfl rfl (P_pickF rfl hg5B rfl) rfl <| aD <| CJ_condF rfl rfl <| CJ_skip <| QJ_block_normal <| QJ_then <| CJ_region <| oP (PJ_eq (P_add (a := ((x8 : Nat) : Int)) (b := (1 : Int)) rfl rfl (by omega)) rfl) rfl <| oM rfl rfl <| RJ_nil <| nR ⟨n, (x8 + 1)⟩ h ⟨rfl, True.intro⟩ (t1_ (eD eR))
     ·
      replace h := ite_f hg3 h
      refine aS 3 15 rfl rfl (GY_no rfl rfl rfl hg3B) rfl <| aS 4 31 rfl rfl (GY_no rfl rfl rfl hg3B) rfl <| aS 5 63 rfl rfl (GY_no rfl rfl rfl hg3B) rfl <| aS 6 127 rfl rfl (GY_no rfl rfl rfl hg3B) rfl <| aS 7 255 rfl rfl (GY_no rfl rfl rfl hg3B) rfl <| aS 8 511 rfl rfl (GY_no rfl rfl rfl hg3B) rfl <| aS 9 1023 rfl rfl (GY_no rfl rfl rfl hg3B) rfl <| aS 10 2047 rfl rfl (GY_no rfl rfl rfl hg3B) rfl <| aN 11 4095 rfl rfl (P_pickF rfl hg3B rfl) rfl <| aN 12 8191 rfl rfl (P_move rfl) rfl <| AJ_splitP 31 rfl Iff.rfl (fun hg8B hg8 => ?_) (fun hg8B hg8 => ?_)
      ·
       replace h := ite_t hg8 h
       refine aP 13 16383 rfl rfl (GY_yes rfl rfl rfl hg8B) (P_fieldAddr rfl ⟨_, _, _, Try.runUnderlying34, rfl, rfl, Try.sizeOf9, rfl⟩) rfl <| aV 14 32767 rfl rfl (GY_yes rfl rfl rfl hg8B) eR (V_load rfl foc0 rfl Try.isAgg9) rfl <| aP 15 65535 rfl rfl (GY_yes rfl rfl rfl hg8B) (P_move rfl) rfl <| aP 16 131071 rfl rfl (GY_yes rfl rfl rfl hg8B) (P_move rfl) rfl ?_
       obtain ⟨hg9, h⟩ := grd_de h
       refine aV 17 262143 rfl rfl (GY_yes rfl rfl rfl hg8B) eR (V_index (i := (r2).toNat) rfl rfl (Int.toNat_of_nonneg (hg9.1)).symm (by omega) foc1 rl Try.runUnderlying66 Try.sizeOf34) rfl <| aP 18 524287 rfl rfl (GY_yes rfl rfl rfl hg8B) (P_fieldE rfl ⟨_, _, _, Try.runUnderlying34, rfl, rfl, Try.sizeOf9, rfl⟩) rfl <| aV 19 1048575 rfl rfl (GY_yes rfl rfl rfl hg8B) eR (V_loadE rfl rfl (by omega) foc1 rl rfl rfl Try.isAgg9) rfl <| aP 20 2097151 rfl rfl (GY_yes rfl rfl rfl hg8B) (P_neqStr (a := ((l.getD x8 (⟨false, 0, ByteArray.empty⟩ : api_Copy))).Text) (b := ((l.getD ((r2).toNat) (⟨false, 0, ByteArray.empty⟩ : api_Copy))).Text) rfl rfl Try.underlying9) rfl <| aN 21 4194303 rfl rfl (P_pickT rfl hg8B rfl) rfl <| aD <| CJ_condP rfl bT_dec (fun hg10 => ?_) (fun hg10 => ?_)
       ·
        replace h := ite_t hg10 h
        refine sR <| oA rfl rfl <| oA rfl rfl <| nT <| CJ_ret <| QJ_block_ret <| QJ_then_ret <| QJ_round_ret <| QJ_block_ret <| QJ_then_ret ?_
        have hE := Option.some.inj h
        replace hE := seq_inr hK5 hE.symm
        subst hE
        exact fE (res2 Try.results48 rfl rfl) () (t1_ (eD eR))
       ·
        replace h := ite_f hg10 h
        exact CJ_skip <| QJ_block_normal <| QJ_then <| CJ_region <| oP (PJ_eq (P_add (a := ((x8 : Nat) : Int)) (b := (1 : Int)) rfl rfl (by omega)) rfl) rfl <| oM rfl rfl <| RJ_nil <| nR ⟨n, (x8 + 1)⟩ h ⟨rfl, True.intro⟩ (t1_ (eD eR))
      ·
       replace h := ite_f hg8 h
       exact aS 13 16383 rfl rfl (GY_no rfl rfl rfl hg8B) rfl <| aS 14 32767 rfl rfl (GY_no rfl rfl rfl hg8B) rfl <| aS 15 65535 rfl rfl (GY_no rfl rfl rfl hg8B) rfl <| aS 16 131071 rfl rfl (GY_no rfl rfl rfl hg8B) rfl <| aS 17 262143 rfl rfl (GY_no rfl rfl rfl hg8B) rfl <| aS 18 524287 rfl rfl (GY_no rfl rfl rfl hg8B) rfl <| aS 19 1048575 rfl rfl (GY_no rfl rfl rfl hg8B) rfl <| aS 20 2097151 rfl rfl (GY_no rfl rfl rfl hg8B) rfl <| aN 21 4194303 rfl rfl (P_pickF rfl hg8B rfl) rfl <| aD <| CJ_condF rfl rfl <| CJ_skip <| QJ_block_normal <| QJ_then <| CJ_region <| oP (PJ_eq (P_add (a := ((x8 : Nat) : Int)) (b := (1 : Int)) rfl rfl (by omega)) rfl) rfl <| oM rfl rfl <| RJ_nil <| nR ⟨n, (x8 + 1)⟩ h ⟨rfl, True.intro⟩ (t1_ (eD eR))
    ·
     replace h := ite_f hg2 h
     exact CJ_exit <| QJ_then_exit <| QJ_round_exit <| QJ_block_here <| cR () (Option.some.inj h).symm True.intro eR
  ·
   rintro _ hy10
   replace h := seq_inl hK5 hy10
   show CJ _ _ _ _ _ (([] : Slots) ++ forget _ _) (_)
   refine sR <| oM rfl rfl <| oA rfl rfl <| oA rfl rfl <| nT <| CJ_ret ?_
   cases h
   exact fE (res2 Try.results48 rfl rfl) () eR
def copies_Next (greatest : Int) : Option (Int × Int) :=
  if (greatest < (0 : Int)) then
    some (((0 : Int), (1 : Int)))
  else
    if ((1048575 : Int) ≤ greatest) then
      some (((0 : Int), (4 : Int)))
    else
      some (((greatest + (1 : Int)), (0 : Int)))
theorem L_copies_Next {W : World} {greatest : Int} {r : Int × Int} (h : copies_Next greatest = some r) :
    CSpec Try.prog W 50 [.int .i64 greatest] [] (fun x : Unit => .tuple #[.int .i64 r.1, .int .i64 r.2]) (fun _ => True) (fun x F => F) := by
 refine CSpec.of_body Try.func50 rfl Try.ntmps50 rfl fun F => ?_
 show CJ _ _ _ _ _ _ (F)
 unfold copies_Next at h
 refine sR <| oA rfl rfl <| oA rfl rfl <| nT <| CJ_seq <| CJ_block <| sR <| oM rfl rfl <| oP (P_lss (a := greatest) (b := (0 : Int)) rfl rfl) rfl <| oA rfl rfl <| nT <| CJ_condP rfl bT_dec (fun hg1 => ?_) (fun hg1 => ?_)
 ·
  replace h := ite_t hg1 h
  refine sR <| oA rfl rfl <| oA rfl rfl <| nT <| CJ_ret <| QJ_block_ret <| QJ_then_ret ?_
  cases h
  exact fE (res2 Try.results50 rfl rfl) () eR
 ·
  replace h := ite_f hg1 h
  refine sR <| oM rfl rfl <| oP (P_geq (a := greatest) (b := (1048575 : Int)) rfl rfl) rfl <| oA rfl rfl <| nT <| CJ_condP rfl bT_dec (fun hg2 => ?_) (fun hg2 => ?_)
  ·
   replace h := ite_t hg2 h
   refine sR <| oA rfl rfl <| oA rfl rfl <| nT <| CJ_ret <| QJ_block_ret <| QJ_then_ret ?_
   cases h
   exact fE (res2 Try.results50 rfl rfl) () eR
  ·
   replace h := ite_f hg2 h
   refine CJ_skip <| QJ_block_normal <| QJ_then <| sR <| oM rfl rfl <| oP (P_add (a := greatest) (b := (1 : Int)) rfl rfl (by omega)) rfl <| oA rfl rfl <| oA rfl rfl <| nT <| CJ_ret ?_
   cases h
   exact fE (res2 Try.results50 rfl rfl) () eR
def copies_Commit_l1_b (l : List Dvc) (seq : Int) (text : ByteArray) (rec : ArrS → Nat → Option ((ArrS) ⊕ (Bool × Int × ArrS))) (x8 : ArrS) (x9 : Nat) : Option ((ArrS) ⊕ (Bool × Int × ArrS)) :=
  if (((x9 : Nat) : Int) < ((l.length : Nat) : Int)) then
    Option.bind (ring_Prepare (l.getD x9 dv0) seq text x8) fun r11 =>
    if (r11.1 ≠ (0 : Int)) then
      some (.inr (false, r11.1, r11.2))
    else
      rec r11.2 (x9 + 1)
  else
    some (.inl x8)
def copies_Commit_l1 (l : List Dvc) (seq : Int) (text : ByteArray) : Nat → ArrS → Nat → Option ((ArrS) ⊕ (Bool × Int × ArrS))
  | 0, _, _ => none
  | n + 1, x8, x9 => copies_Commit_l1_b l seq text (copies_Commit_l1 l seq text n) x8 x9
def copies_Commit_l2_b (l : List Dvc) (rec : ArrS → Nat → Option ((ArrS) ⊕ (Bool × Int × ArrS))) (x19 : ArrS) (x20 : Nat) : Option ((ArrS) ⊕ (Bool × Int × ArrS)) :=
  if (((x20 : Nat) : Int) < ((l.length : Nat) : Int)) then
    Option.bind (ring_Switch (l.getD x20 dv0) x19) fun r22 =>
    if (r22.1 ≠ (0 : Int)) then
      some (.inr (true, r22.1, r22.2))
    else
      rec r22.2 (x20 + 1)
  else
    some (.inl x19)
def copies_Commit_l2 (l : List Dvc) : Nat → ArrS → Nat → Option ((ArrS) ⊕ (Bool × Int × ArrS))
  | 0, _, _ => none
  | n + 1, x19, x20 => copies_Commit_l2_b l (copies_Commit_l2 l n) x19 x20
def copies_Commit (l : List Dvc) (seq : Int) (text : ByteArray) (s : ArrS) : Option (Bool × Int × ArrS) :=
  if (((l.length : Nat) : Int) = (0 : Int)) then
    some ((false, (12 : Int), s))
  else
    seqO (copies_Commit_l1 l seq text FUEL s 0) fun a7 =>
    seqO (copies_Commit_l2 l FUEL a7 0) fun a18 =>
    some ((true, (0 : Int), a18))
theorem L_copies_Commit {W : World} {Al : HP} {vl : Value} {hsl : List IfH} {bs : Nat} {l : List Dvc} {seq : Int} {text : ByteArray} {s : ArrS} {r : Bool × Int × ArrS} (rl : Reads Al tyDev vl hsl) (h : copies_Commit l seq text s = some r) :
    CSpec Try.prog W 45 [vl, .int .i64 seq, .string text] [Al, Rs (DevP bs) l hsl, Arr bs s] (fun x : Unit => .tuple #[.bool r.1, .int .i64 r.2.1]) (fun _ => True) (fun x F => Al :: Rs (DevP bs) l hsl :: Arr bs r.2.2 :: F) := by
 refine CSpec.of_body Try.func45 rfl Try.ntmps45 rfl fun F => ?_
 show CJ _ _ _ _ _ _ (_ :: _ :: _ :: F)
 unfold copies_Commit at h
 refine CJ_pure (len_of rl del0) fun hlen1 => CJ_pure (fun h hh => Rs_len (stars_perm (del1 (A := Rs (DevP bs) l hsl)).out h hh)) fun hdl2 => sR <| oA rfl rfl <| oA rfl rfl <| nT <| CJ_seq <| sR <| oM rfl rfl <| oV (VJ_eq (V_len rfl foc0 rl Try.runUnderlying67) (congrArg (fun z : Nat => Value.int .i64 (z : Int)) (hdl2).symm)) rfl <| oP (P_eql (a := ((l.length : Nat) : Int)) (b := (0 : Int)) rfl rfl) rfl <| nT <| CJ_condP rfl bT_dec (fun hg1 => ?_) (fun hg1 => ?_)
 ·
  replace h := ite_t hg1 h
  refine sR <| oA rfl rfl <| oA rfl rfl <| nT <| CJ_ret <| QJ_then_ret ?_
  cases h
  exact fE (res2 Try.results45 rfl rfl) () eR
 ·
  replace h := ite_f hg1 h
  refine kT <| CJ_seq <| sR <| oM rfl rfl <| oV (VJ_eq (V_len rfl foc0 rl Try.runUnderlying67) (congrArg (fun z : Nat => Value.int .i64 (z : Int)) (hdl2).symm)) rfl <| oM rfl rfl <| nT ?_
  obtain ⟨y5, hl3, hK4⟩ := seq_e h
  refine CJ_cutT (X := ArrS) [6, 7, 9, 10, 19, 20, 21, 22, 23, 24, 25, 26, 27, 28, 29, 30] (fun a7 => ([] : Slots)) (fun a7 R => Arr bs a7 :: R) (fun a7 => y5 = .inl a7) (Dels.cons del2 Dels.nil) ?_ ?_
  ·
   refine CJ_block <| CJ_loopR (X := Nat × ArrS × Nat) [6, 7, 9, 10, 19, 20, 21, 22, 23, 24, 25, 26, 27, 28, 29, 30] (fun ⟨n, x8, x9⟩ => ([(19, .int .i64 (((x9 : Nat) : Int)))] : Slots)) (fun ⟨n, x8, x9⟩ R => Arr bs x8 :: R) (fun ⟨n, x8, x9⟩ => copies_Commit_l1 l seq text n x8 x9 = some y5) (fun ⟨n, x8, x9⟩ => n) ⟨FUEL, s, 0⟩ ?_ ?_ (t2_ eR) ?_
   · exact hl3
   · exact ⟨rfl, True.intro⟩
   ·
    rintro ⟨n, x8, x9⟩ h
    cases n with
    | zero => exact none_e h
    | succ n => ?_
    replace h : copies_Commit_l1_b l seq text (copies_Commit_l1 l seq text n) x8 x9 = some y5 := h
    unfold copies_Commit_l1_b at h
    show CJ _ _ _ _ _ (([(19, .int .i64 (((x9 : Nat) : Int)))] : Slots) ++ forget _ _) (Arr bs x8 :: _)
    refine sR <| oP (P_lss (a := ((x9 : Nat) : Int)) (b := ((l.length : Nat) : Int)) rfl rfl) rfl <| nT <| CJ_seq <| CJ_condP rfl bT_dec (fun hg2 => ?_) (fun hg2 => ?_)
    ·
     replace h := ite_t hg2 h
     refine kT <| CJ_seq <| CJ_block <| sR <| oV (V_index (i := x9) rfl rfl rfl (by have hz : x9 < l.length := (by omega); have hy := hdl2; omega) foc1 rl Try.runUnderlying67 Try.sizeOf26) rfl <| RJ_ent (Ent.trans (t2_ eR) (Rs_at (fun _ _ => Dup_DevP) (dx := dv0) (dh := tyDev.dflt) (i := x9) (by omega))) <| oV (V_loadE rfl rfl (by have hz : x9 < l.length := (by omega); have hy := hdl2; omega) foc3 rl rfl rfl Try.isAgg26) rfl <| oA rfl rfl <| nT <| sR <| oM rfl rfl <| oM rfl rfl <| oM rfl rfl ?_
     obtain ⟨r11, hr12, h⟩ := bind_e h
     refine oO <| O_call (L_ring_Prepare hr12) rfl Try.call16 (Dels.cons del0 (Dels.cons del1 Dels.nil)) rfl fun _ _ => oA rfl rfl <| nT <| sR <| oM rfl rfl <| oP (P_neq (a := r11.1) (b := (0 : Int)) rfl rfl) rfl <| nT <| CJ_condP rfl bT_dec (fun hg3 => ?_) (fun hg3 => ?_)
     ·
      replace h := ite_t hg3 h
      refine sR <| oM rfl rfl <| oA rfl rfl <| oA rfl rfl <| nT <| CJ_ret <| QJ_block_ret <| QJ_then_ret <| QJ_round_ret <| QJ_block_ret <| QJ_then_ret ?_
      have hE := Option.some.inj h
      replace hE := seq_inr hK4 hE.symm
      subst hE
      exact fE (res2 Try.results45 rfl rfl) () (t3_ (t2_ (t1_ (eD eR))))
     ·
      replace h := ite_f hg3 h
      exact CJ_skip <| QJ_block_normal <| QJ_then <| CJ_region <| oP (PJ_eq (P_add (a := ((x9 : Nat) : Int)) (b := (1 : Int)) rfl rfl (by omega)) rfl) rfl <| oM rfl rfl <| RJ_nil <| nR ⟨n, r11.2, (x9 + 1)⟩ h ⟨rfl, True.intro⟩ (t1_ (t2_ (t1_ (eD eR))))
    ·
     replace h := ite_f hg2 h
     exact CJ_exit <| QJ_then_exit <| QJ_round_exit <| QJ_block_here <| cR x8 (Option.some.inj h).symm True.intro eR
  ·
   rintro a7 hy13
   replace h := seq_inl hK4 hy13
   show CJ _ _ _ _ _ (([] : Slots) ++ forget _ _) (Arr bs a7 :: _)
   refine CJ_seq <| sR <| oM rfl rfl <| oV (VJ_eq (V_len rfl foc1 rl Try.runUnderlying67) (congrArg (fun z : Nat => Value.int .i64 (z : Int)) (hdl2).symm)) rfl <| oM rfl rfl <| nT ?_
   obtain ⟨y16, hl14, hK15⟩ := seq_e h
   refine CJ_cutT (X := ArrS) [6, 7, 12, 13, 33, 34, 35, 36, 37, 38, 39, 40, 41, 42] (fun a18 => ([] : Slots)) (fun a18 R => Arr bs a18 :: R) (fun a18 => y16 = .inl a18) (Dels.cons del0 Dels.nil) ?_ ?_
   ·
    refine CJ_block <| CJ_loopR (X := Nat × ArrS × Nat) [6, 7, 12, 13, 33, 34, 35, 36, 37, 38, 39, 40, 41, 42] (fun ⟨n, x19, x20⟩ => ([(33, .int .i64 (((x20 : Nat) : Int)))] : Slots)) (fun ⟨n, x19, x20⟩ R => Arr bs x19 :: R) (fun ⟨n, x19, x20⟩ => copies_Commit_l2 l n x19 x20 = some y16) (fun ⟨n, x19, x20⟩ => n) ⟨FUEL, a7, 0⟩ ?_ ?_ eR ?_
    · exact hl14
    · exact ⟨rfl, True.intro⟩
    ·
     rintro ⟨n, x19, x20⟩ h
     cases n with
     | zero => exact none_e h
     | succ n => ?_
     replace h : copies_Commit_l2_b l (copies_Commit_l2 l n) x19 x20 = some y16 := h
     unfold copies_Commit_l2_b at h
     show CJ _ _ _ _ _ (([(33, .int .i64 (((x20 : Nat) : Int)))] : Slots) ++ forget _ _) (Arr bs x19 :: _)
     refine sR <| oP (P_lss (a := ((x20 : Nat) : Int)) (b := ((l.length : Nat) : Int)) rfl rfl) rfl <| nT <| CJ_seq <| CJ_condP rfl bT_dec (fun hg4 => ?_) (fun hg4 => ?_)
     ·
      replace h := ite_t hg4 h
      refine kT <| CJ_seq <| CJ_block <| sR <| oV (V_index (i := x20) rfl rfl rfl (by have hz : x20 < l.length := (by omega); have hy := hdl2; omega) foc1 rl Try.runUnderlying67 Try.sizeOf26) rfl <| RJ_ent (Ent.trans (t2_ eR) (Rs_at (fun _ _ => Dup_DevP) (dx := dv0) (dh := tyDev.dflt) (i := x20) (by omega))) <| oV (V_loadE rfl rfl (by have hz : x20 < l.length := (by omega); have hy := hdl2; omega) foc3 rl rfl rfl Try.isAgg26) rfl <| oA rfl rfl <| nT <| sR <| oM rfl rfl ?_
      obtain ⟨r22, hr23, h⟩ := bind_e h
      refine oO <| O_call (L_ring_Switch hr23) rfl Try.call17 (Dels.cons del0 (Dels.cons del1 Dels.nil)) rfl fun _ _ => oA rfl rfl <| nT <| sR <| oM rfl rfl <| oP (P_neq (a := r22.1) (b := (0 : Int)) rfl rfl) rfl <| nT <| CJ_condP rfl bT_dec (fun hg5 => ?_) (fun hg5 => ?_)
      ·
       replace h := ite_t hg5 h
       refine sR <| oM rfl rfl <| oA rfl rfl <| oA rfl rfl <| nT <| CJ_ret <| QJ_block_ret <| QJ_then_ret <| QJ_round_ret <| QJ_block_ret <| QJ_then_ret ?_
       have hE := Option.some.inj h
       replace hE := seq_inr hK15 hE.symm
       subst hE
       exact fE (res2 Try.results45 rfl rfl) () (t3_ (t2_ (t1_ (eD eR))))
      ·
       replace h := ite_f hg5 h
       exact CJ_skip <| QJ_block_normal <| QJ_then <| CJ_region <| oP (PJ_eq (P_add (a := ((x20 : Nat) : Int)) (b := (1 : Int)) rfl rfl (by omega)) rfl) rfl <| oM rfl rfl <| RJ_nil <| nR ⟨n, r22.2, (x20 + 1)⟩ h ⟨rfl, True.intro⟩ (t1_ (t2_ (t1_ (eD eR))))
     ·
      replace h := ite_f hg4 h
      exact CJ_exit <| QJ_then_exit <| QJ_round_exit <| QJ_block_here <| cR x19 (Option.some.inj h).symm True.intro eR
   ·
    rintro a18 hy24
    replace h := seq_inl hK15 hy24
    show CJ _ _ _ _ _ (([] : Slots) ++ forget _ _) (Arr bs a18 :: _)
    refine sR <| oA rfl rfl <| oA rfl rfl <| nT <| CJ_ret ?_
    cases h
    exact fE (res2 Try.results45 rfl rfl) () (t1_ (t1_ eR))
end Go.Proofs
namespace Go.Proofs
open Go.VG
abbrev zC : api_Copy := ⟨false, 0, ByteArray.empty⟩
theorem best_same {l : List api_Copy} {c : api_Copy} (hc : ∀ i, i < l.length → l.getD i zC = c) : ∀ (N i : Nat), l.length - i < N → 0 < l.length → copies_best__copies_Choose_1_l1 l N i 0 = some 0
  | 0, _, h, _ => absurd h (by omega)
  | N + 1, i, h, h0 => by
    have e1 : copies_best__copies_Choose_1_l1 l (N + 1) i 0 = copies_best__copies_Choose_1_l1_b l (copies_best__copies_Choose_1_l1 l N) i 0 := rfl
    rw [e1]
    unfold copies_best__copies_Choose_1_l1_b copies_Choose_1 copies_Choose_2
    by_cases hlt : i < l.length
    · rw [if_pos (by omega)]; simp only [Option.bind_some]
      have ih := best_same hc N (i + 1) (by omega) h0
      split
      · rw [if_neg (by omega), grd_pos (decide_eq_true (by omega)), show ((0 : Int)).toNat = 0 from rfl, hc i hlt, hc 0 h0, if_neg (by simp)]
        exact ih
      · exact ih
    · rw [if_neg (by omega)]
theorem conf_same {l : List api_Copy} {c : api_Copy} (hc : ∀ i, i < l.length → l.getD i zC = c) (h0 : 0 < l.length) : ∀ (N i : Nat), l.length - i < N → copies_Choose_l1 l 0 N i = some (.inl ())
  | 0, _, h => absurd h (by omega)
  | N + 1, i, h => by
    show copies_Choose_l1_b l 0 (copies_Choose_l1 l 0 N) i = _
    unfold copies_Choose_l1_b
    by_cases hlt : i < l.length
    · have ih := conf_same hc h0 N (i + 1) (by omega)
      rw [if_pos (by omega), grd_pos (decide_eq_true (by omega)), grd_pos (decide_eq_true (by omega)), if_neg (show ¬ false = true by decide), show ((0 : Int)).toNat = 0 from rfl, hc i hlt, hc 0 h0]
      split
      · rw [if_pos rfl, if_neg (fun x => x rfl)]; exact ih
      · exact ih
    · rw [if_neg (by omega)]
theorem choose_same {l : List api_Copy} {c : api_Copy} (hc : ∀ i, i < l.length → l.getD i zC = c) (h0 : 0 < l.length) (hl : l.length ≤ 1000) (hv : c.Valid = true) : copies_Choose l = some (0, 0) := by
  unfold copies_Choose copies_best__copies_Choose_1
  have hF := fuel_big
  generalize FUEL = N at hF ⊢
  obtain ⟨M, rfl⟩ : ∃ M, N = M + 1 := ⟨N - 1, by omega⟩
  have e1 : copies_best__copies_Choose_1_l1 l (M + 1) 0 (-1) = copies_best__copies_Choose_1_l1_b l (copies_best__copies_Choose_1_l1 l M) 0 (-1) := rfl
  have e2 : copies_best__copies_Choose_1_l1 l (M + 1) 0 (-1) = some 0 := by
    rw [e1]
    unfold copies_best__copies_Choose_1_l1_b copies_Choose_1
    rw [if_pos (by omega)]; simp only [Option.bind_some]
    rw [if_pos (by rw [show l.getD 0 (⟨false, 0, ByteArray.empty⟩ : api_Copy) = c from hc 0 h0]; exact hv), if_pos (by omega)]
    exact best_same hc M 1 (by omega) h0
  rw [e2]; simp only [Option.bind_some]
  rw [if_neg (by omega), conf_same hc h0 (M + 1) 0 (by omega)]; rfl
end Go.Proofs
set_option linter.unusedSimpArgs false
set_option linter.unusedVariables false
set_option maxRecDepth 20000
set_option maxHeartbeats 4000000
namespace Go.Proofs
open Go.VG
def volumegrouplaw13_areas_l1_b (n_0 : Int) (size : Int) (rec : (List (List UInt64)) → Nat → Option ((List (List UInt64)))) (x10 : List (List UInt64)) (x13 : Nat) : Option ((List (List UInt64))) :=
  if (((x13 : Nat) : Int) < n_0) then
    grd (decide (0 ≤ size ∧ size ≤ 1000000000)) <|
    grd (inLen (x10.length + 1)) <|
    grd (inN64 (x13 + 1)) <|
    rec ((x10 ++ [(List.replicate ((size).toNat) (0 : UInt64))])) (x13 + 1)
  else
    some x10
def volumegrouplaw13_areas_l1 (n_0 : Int) (size : Int) : Nat → (List (List UInt64)) → Nat → Option ((List (List UInt64)))
  | 0, _, _ => none
  | n + 1, x10, x13 => volumegrouplaw13_areas_l1_b n_0 size (volumegrouplaw13_areas_l1 n_0 size n) x10 x13
def volumegrouplaw13_areas (n_0 : Int) (size : Int) : Option ((Option ArrS)) :=
  Option.bind (volumegrouplaw13_areas_l1 n_0 size FUEL (([] : List (List UInt64))) 0) fun a9 =>
  Option.bind (volumegroupmake_Loaded a9) fun r26 =>
  some r26
theorem L_volumegrouplaw13_areas {W : World} {n_0 : Int} {size : Int} {r : (Option ArrS)} (h : volumegrouplaw13_areas n_0 size = some r) :
    CSpec Try.prog W 44 [.int .i64 n_0, .int .i64 size] [] (fun x : Nat => oval r x) (fun _ => True) (fun x F => optP (Arr x) r :: F) := by
 refine CSpec.of_body Try.func44 rfl Try.ntmps44 rfl fun F => ?_
 show CJ _ _ _ _ _ _ (F)
 unfold volumegrouplaw13_areas at h
 refine sR <| oA rfl rfl <| nT <| sR <| oA rfl rfl <| nT <| CJ_seq <| sR <| oA rfl rfl <| nT <| CJ_ent (fun h hh => sl_nil (t := tyRow) h (rs_nil (RP := RowP) h hh)) ?_
 obtain ⟨y5, hl3, hK4⟩ := bind_c h
 refine CJ_cutT (X := (List (List UInt64)) × Sl3 × (List Sl3)) [5, 6, 7, 8, 9, 10, 11, 12, 13, 14, 15, 16] (fun ⟨a9, hd7, hs8⟩ => ([(5, hd7.v)] : Slots)) (fun ⟨a9, hd7, hs8⟩ R => sl tyRow hd7.v hs8 :: Rs RowP a9 hs8 :: R) (fun ⟨a9, hd7, hs8⟩ => y5 = a9) (Dels.cons del0 (Dels.cons del0 Dels.nil)) ?_ ?_
 ·
  refine CJ_block <| CJ_loopR (X := Nat × (List (List UInt64)) × Nat × Sl3 × (List Sl3)) [5, 6, 7, 8, 9, 10, 11, 12, 13, 14, 15, 16] (fun ⟨n, x10, x13, hd11, hs12⟩ => ([(5, hd11.v), (6, .int .i64 (((x13 : Nat) : Int)))] : Slots)) (fun ⟨n, x10, x13, hd11, hs12⟩ R => sl tyRow hd11.v hs12 :: Rs RowP x10 hs12 :: R) (fun ⟨n, x10, x13, hd11, hs12⟩ => volumegrouplaw13_areas_l1 n_0 size n x10 x13 = some y5) (fun ⟨n, x10, x13, hd11, hs12⟩ => n) ⟨FUEL, ([] : List (List UInt64)), 0, ⟨none, 0, 0⟩, ([] : List Sl3)⟩ ?_ ?_ eR ?_
  · exact hl3
  · exact ⟨rfl, rfl, True.intro⟩
  ·
   rintro ⟨n, x10, x13, hd11, hs12⟩ h
   cases n with
   | zero => exact none_e h
   | succ n => ?_
   replace h : volumegrouplaw13_areas_l1_b n_0 size (volumegrouplaw13_areas_l1 n_0 size n) x10 x13 = some y5 := h
   unfold volumegrouplaw13_areas_l1_b at h
   show CJ _ _ _ _ _ (([(5, hd11.v), (6, .int .i64 (((x13 : Nat) : Int)))] : Slots) ++ forget _ _) (sl tyRow hd11.v hs12 :: Rs RowP x10 hs12 :: _)
   refine lC del0 fun hlen14 => CJ_pure (fun h hh => Rs_len (stars_perm (del1 (A := Rs RowP x10 hs12)).out h hh)) fun hdl15 => CJ_seq <| sR <| oM rfl rfl <| oM rfl rfl <| oP (P_lss (a := ((x13 : Nat) : Int)) (b := n_0) rfl rfl) rfl <| nT <| CJ_condP rfl bT_dec (fun hg1 => ?_) (fun hg1 => ?_)
   ·
    replace h := ite_t hg1 h
    refine kT <| CJ_seq <| CJ_block <| CJ_region <| oM rfl rfl <| oM rfl rfl ?_
    obtain ⟨hg2, h⟩ := grd_de h
    refine oO <| O_make (t := tyU) (m := (size).toNat) (x0 := 0) (z := _) (bytes := _) rfl rfl (Int.toNat_of_nonneg (hg2.1)).symm (Int.toNat_of_nonneg (hg2.1)).symm Try.underlying29 ⟨Try.t39, by kernel_rfl, rfl, rfl, rfl⟩ rfl (by omega) (by decide) rfl fun b16 => oO <| O_buildSlice rfl (bs_62_1_0 _ _ _) rfl fun b17 => RJ_shareS del1 <| RJ_ent (Ent.trans (t0_ eR) (fun h hh => stars_dup Dup.slR hh)) <| RJ_ent (Ent.take1 del0 (RowP_of (h := (⟨some ⟨b16, 0, none⟩, (size).toNat, (size).toNat⟩ : Sl3)) Dup.slR (Reads.slR _ _ _)) eR) ?_
    obtain ⟨hg3, h⟩ := grd_Le h
    refine oO <| O_append (t := tyRow) (bytes := 24) rfl rfl del3 foc2 (Reads.lit (t := tyRow) (ys := [(⟨some ⟨b16, 0, none⟩, (size).toNat, (size).toNat⟩ : Sl3)]) rfl rfl (by decide) (by decide) rfl) Try.underlying62 ok_tyRow (apl (m := 1) (b := 24) (by have hz : _ ≤ 1000000000 := hg3; have := hdl15; omega) (by decide)).1 (apl (m := 1) (b := 24) (by have hz : _ ≤ 1000000000 := hg3; have := hdl15; omega) (by decide)).2 rfl fun p20 c21 => RJ_ent (Ent.trans (t4_ (t1_ eR)) (Rs_push (x := (List.replicate ((size).toNat) (0 : UInt64))) (g := (⟨some ⟨b16, 0, none⟩, (size).toNat, (size).toNat⟩ : Sl3)) Dup_RowP)) <| RJ_pure (fun h hh => Rs_len (stars_perm (del0 (A := Rs RowP ((x10 ++ [(List.replicate ((size).toNat) (0 : UInt64))])) ((hs12 ++ [(⟨some ⟨b16, 0, none⟩, (size).toNat, (size).toNat⟩ : Sl3)])))).out h hh)) fun hdl22 => oA rfl rfl <| RJ_nil <| QJ_block_normal <| QJ_then <| CJ_region <| oM rfl rfl ?_
    obtain ⟨hg4, h⟩ := grd_Ne h
    exact oP (PJ_eq (P_add (a := ((x13 : Nat) : Int)) (b := (1 : Int)) rfl rfl (nat_in hg4)) rfl) rfl <| oA rfl rfl <| RJ_nil <| nR ⟨n, (x10 ++ [(List.replicate ((size).toNat) (0 : UInt64))]), (x13 + 1), ⟨p20, (hs12 ++ [(⟨some ⟨b16, 0, none⟩, (size).toNat, (size).toNat⟩ : Sl3)]).length, c21⟩, (hs12 ++ [(⟨some ⟨b16, 0, none⟩, (size).toNat, (size).toNat⟩ : Sl3)])⟩ h ⟨rfl, rfl, True.intro⟩ (t2_ (t0_ (eD (eD (eD eR)))))
   ·
    replace h := ite_f hg1 h
    exact CJ_exit <| QJ_then_exit <| QJ_round_exit <| QJ_block_here <| cR ⟨x10, hd11, hs12⟩ (Option.some.inj h).symm ⟨rfl, True.intro⟩ eR
 ·
  rintro ⟨a9, hd7, hs8⟩ hy23
  replace h := bindK_at hK4 hy23
  show CJ _ _ _ _ _ (([(5, hd7.v)] : Slots) ++ forget _ _) (sl tyRow hd7.v hs8 :: Rs RowP a9 hs8 :: _)
  refine lC del0 fun hlen24 => CJ_pure (fun h hh => Rs_len (stars_perm (del1 (A := Rs RowP a9 hs8)).out h hh)) fun hdl25 => sR <| oM rfl rfl ?_
  obtain ⟨r26, hr27, h⟩ := bind_e h
  refine oO <| O_call (L_volumegroupmake_Loaded (Reads.sl _ _ _) (RowsR.rs hdl25) hr27) rfl Try.call36 (Dels.cons del0 (Dels.cons del0 Dels.nil)) rfl fun X28 _ => oA rfl rfl <| nT <| CJ_ret ?_
  cases h
  exact fE (res1 Try.results44 rfl) X28 (t2_ (eD (eD eR)))
def volumegrouplaw13_some_l1_b (bits : Int) (r1 : (List Dvc)) (rec : (List Dvc) → Nat → Option ((List Dvc))) (x16 : List Dvc) (x19 : Nat) : Option ((List Dvc)) :=
  if (((x19 : Nat) : Int) < ((r1.length : Nat) : Int)) then
    if ((andI (shrI bits x19) (1 : Int)) = (1 : Int)) then
      grd (inLen (x16.length + 1)) <|
      grd (inN64 (x19 + 1)) <|
      rec ((x16 ++ [(r1.getD x19 dv0)])) (x19 + 1)
    else
      grd (inN64 (x19 + 1)) <|
      rec x16 (x19 + 1)
  else
    some x16
def volumegrouplaw13_some_l1 (bits : Int) (r1 : (List Dvc)) : Nat → (List Dvc) → Nat → Option ((List Dvc))
  | 0, _, _ => none
  | n + 1, x16, x19 => volumegrouplaw13_some_l1_b bits r1 (volumegrouplaw13_some_l1 bits r1 n) x16 x19
def volumegrouplaw13_some (a : ArrS) (bits : Int) : Option ((List Dvc)) :=
  Option.bind (volumegroupmake_Spans a) fun r1 =>
  Option.bind (volumegrouplaw13_some_l1 bits r1 FUEL ([] : List Dvc) 0) fun a15 =>
  some a15
theorem L_volumegrouplaw13_some {W : World} {ba : Nat} {a : ArrS} {bits : Int} {r : (List Dvc)} (h : volumegrouplaw13_some a bits = some r) :
    CSpec Try.prog W 46 [ptr ba 0, .int .i64 bits] [Arr ba a] (fun x : (Sl3 × List IfH) => x.1.v) (fun _ => True) (fun x F => Arr ba a :: sl tyDev x.1.v x.2 :: Rs (DevP ba) r x.2 :: F) := by
 refine CSpec.of_body Try.func46 rfl Try.ntmps46 rfl fun F => ?_
 show CJ _ _ _ _ _ _ (_ :: F)
 unfold volumegrouplaw13_some at h
 refine sR <| oA rfl rfl <| nT <| sR <| oM rfl rfl ?_
 obtain ⟨r1, hr2, h⟩ := bind_e h
 refine oO <| O_call (L_volumegroupmake_Spans hr2) rfl Try.call37 (Dels.cons del0 Dels.nil) rfl fun X3 _ => RJ_pure (fun h hh => Rs_len (stars_perm (del2 (A := Rs (DevP ba) r1 X3.2)).out h hh)) fun hdl6 => oA rfl rfl <| nT <| sR <| oA rfl rfl <| nT <| CJ_seq <| sR <| oA rfl rfl <| nT <| CJ_ent (fun h hh => sl_nil (t := tyDev) h (rs_nil (RP := DevP ba) h hh)) ?_
 obtain ⟨y11, hl9, hK10⟩ := bind_c h
 refine CJ_cutT (X := (List Dvc) × Sl3 × (List IfH)) [6, 7, 10, 11, 12, 13, 14, 15, 16, 17, 18, 19, 20, 21, 22, 23, 24, 25, 26, 27] (fun ⟨a15, hd13, hs14⟩ => ([(6, hd13.v)] : Slots)) (fun ⟨a15, hd13, hs14⟩ R => sl tyDev hd13.v hs14 :: Rs (DevP ba) a15 hs14 :: R) (fun ⟨a15, hd13, hs14⟩ => y11 = a15) (Dels.cons del0 (Dels.cons del0 Dels.nil)) ?_ ?_
 ·
  refine CJ_block <| CJ_loopR (X := Nat × (List Dvc) × Nat × Sl3 × (List IfH)) [6, 7, 10, 11, 12, 13, 14, 15, 16, 17, 18, 19, 20, 21, 22, 23, 24, 25, 26, 27] (fun ⟨n, x16, x19, hd17, hs18⟩ => ([(6, hd17.v), (7, .int .i64 (((x19 : Nat) : Int)))] : Slots)) (fun ⟨n, x16, x19, hd17, hs18⟩ R => sl tyDev hd17.v hs18 :: Rs (DevP ba) x16 hs18 :: R) (fun ⟨n, x16, x19, hd17, hs18⟩ => volumegrouplaw13_some_l1 bits r1 n x16 x19 = some y11) (fun ⟨n, x16, x19, hd17, hs18⟩ => n) ⟨FUEL, ([] : List Dvc), 0, ⟨none, 0, 0⟩, ([] : List IfH)⟩ ?_ ?_ eR ?_
  · exact hl9
  · exact ⟨rfl, rfl, True.intro⟩
  ·
   rintro ⟨n, x16, x19, hd17, hs18⟩ h
   cases n with
   | zero => exact none_e h
   | succ n => ?_
   replace h : volumegrouplaw13_some_l1_b bits r1 (volumegrouplaw13_some_l1 bits r1 n) x16 x19 = some y11 := h
   unfold volumegrouplaw13_some_l1_b at h
   show CJ _ _ _ _ _ (([(6, hd17.v), (7, .int .i64 (((x19 : Nat) : Int)))] : Slots) ++ forget _ _) (sl tyDev hd17.v hs18 :: Rs (DevP ba) x16 hs18 :: _)
   refine lC del0 fun hlen20 => CJ_pure (fun h hh => Rs_len (stars_perm (del1 (A := Rs (DevP ba) x16 hs18)).out h hh)) fun hdl21 => CJ_seq <| sR <| oM rfl rfl <| oM rfl rfl <| oV (VJ_eq (V_len rfl foc3 (Reads.sl _ _ _) Try.runUnderlying67) (congrArg (fun z : Nat => Value.int .i64 (z : Int)) (hdl6).symm)) rfl <| oP (P_lss (a := ((x19 : Nat) : Int)) (b := ((r1.length : Nat) : Int)) rfl rfl) rfl <| nT <| CJ_condP rfl bT_dec (fun hg1 => ?_) (fun hg1 => ?_)
   ·
    replace h := ite_t hg1 h
    refine kT <| CJ_seq <| CJ_block <| sR <| oM rfl rfl <| oM rfl rfl <| oP (P_shr_i64 (a := bits) (m := x19) rfl rfl rfl) rfl <| oP (P_and (a := (shrI bits x19)) (m := (1 : Int)) rfl rfl (by decide)) rfl <| oP (P_eql (a := (andI (shrI bits x19) (1 : Int))) (b := (1 : Int)) rfl rfl) rfl <| nT <| CJ_condP rfl bT_dec (fun hg3 => ?_) (fun hg3 => ?_)
    ·
     replace h := ite_t hg3 h
     refine CJ_region <| oM rfl rfl <| oM rfl rfl <| oM rfl rfl <| oV (V_index (i := x19) rfl rfl rfl (by have hz : x19 < r1.length := (by omega); have hy := hdl6; omega) foc3 (Reads.sl _ _ _) Try.runUnderlying67 Try.sizeOf26) rfl <| RJ_ent (Ent.trans (t4_ eR) (Rs_at (fun _ _ => Dup_DevP) (dx := dv0) (dh := tyDev.dflt) (i := x19) (by omega))) <| oV (V_loadE rfl rfl (by have hz : x19 < r1.length := (by omega); have hy := hdl6; omega) foc5 (Reads.sl _ _ _) rfl rfl Try.isAgg26) rfl <| oO <| O_buildSlice rfl (bs_67_1_0 _ _) rfl fun b23 => ?_
     obtain ⟨hg4, h⟩ := grd_Le h
     refine oO <| O_append (t := tyDev) (bytes := 16) rfl rfl del3 foc0 (Reads.lit (t := tyDev) (ys := [(X3.2.getD x19 tyDev.dflt)]) rfl rfl (by decide) (by decide) rfl) Try.underlying67 ok_tyDev (apl (m := 1) (b := 16) (by have hz : _ ≤ 1000000000 := hg4; have := hdl21; omega) (by decide)).1 (apl (m := 1) (b := 16) (by have hz : _ ≤ 1000000000 := hg4; have := hdl21; omega) (by decide)).2 rfl fun p25 c26 => RJ_ent (Ent.trans (t4_ (t2_ eR)) (Rs_push (x := (r1.getD x19 dv0)) (g := (X3.2.getD x19 tyDev.dflt)) (fun _ _ => Dup_DevP))) <| RJ_pure (fun h hh => Rs_len (stars_perm (del0 (A := Rs (DevP ba) ((x16 ++ [(r1.getD x19 dv0)])) ((hs18 ++ [(X3.2.getD x19 tyDev.dflt)])))).out h hh)) fun hdl27 => oA rfl rfl <| RJ_nil <| QJ_block_normal <| QJ_ent (t0_ (t1_ (t2_ (t2_ (t2_ (eD (eD eR))))))) <| QJ_then <| CJ_region <| oM rfl rfl ?_
     obtain ⟨hg5, h⟩ := grd_Ne h
     exact oP (PJ_eq (P_add (a := ((x19 : Nat) : Int)) (b := (1 : Int)) rfl rfl (nat_in hg5)) rfl) rfl <| oA rfl rfl <| RJ_nil <| nR ⟨n, (x16 ++ [(r1.getD x19 dv0)]), (x19 + 1), ⟨p25, (hs18 ++ [(X3.2.getD x19 tyDev.dflt)]).length, c26⟩, (hs18 ++ [(X3.2.getD x19 tyDev.dflt)])⟩ h ⟨rfl, rfl, True.intro⟩ (t1_ (t0_ (t1_ (t1_ eR))))
    ·
     replace h := ite_f hg3 h
     refine CJ_skip <| QJ_block_normal <| QJ_then <| CJ_region <| oM rfl rfl ?_
     obtain ⟨hg6, h⟩ := grd_Ne h
     exact oP (PJ_eq (P_add (a := ((x19 : Nat) : Int)) (b := (1 : Int)) rfl rfl (nat_in hg6)) rfl) rfl <| oA rfl rfl <| RJ_nil <| nR ⟨n, x16, (x19 + 1), hd17, hs18⟩ h ⟨rfl, rfl, True.intro⟩ eR
   ·
    replace h := ite_f hg1 h
    exact CJ_exit <| QJ_then_exit <| QJ_round_exit <| QJ_block_here <| cR ⟨x16, hd17, hs18⟩ (Option.some.inj h).symm ⟨rfl, True.intro⟩ eR
 ·
  rintro ⟨a15, hd13, hs14⟩ hy28
  replace h := bindK_at hK10 hy28
  show CJ _ _ _ _ _ (([(6, hd13.v)] : Slots) ++ forget _ _) (sl tyDev hd13.v hs14 :: Rs (DevP ba) a15 hs14 :: _)
  refine lC del0 fun hlen29 => CJ_pure (fun h hh => Rs_len (stars_perm (del1 (A := Rs (DevP ba) a15 hs14)).out h hh)) fun hdl30 => sR <| oM rfl rfl <| oA rfl rfl <| nT <| CJ_ret ?_
  cases h
  exact fE (res1 Try.results46 rfl) (hd13, hs14) (t2_ (t0_ (t0_ (eD (eD eR)))))
def volumegrouplaw13_awake : Option (Bool) :=
  Option.bind (volumegrouplaw13_areas (2 : Int) (12 : Int)) fun r1 =>
  Option.elim r1 (
    some false) fun o6 =>
  Option.bind (volumegrouplaw13_some o6 (3 : Int)) fun r7 =>
  Option.bind (copies_Commit r7 (1 : Int) (ByteArray.mk #[116, 101, 120, 116]) o6) fun r13 =>
  Option.bind (volumegrouplaw13_some r13.2.2 (3 : Int)) fun r15 =>
  Option.bind (copies_Scan r15 r13.2.2) fun r21 =>
  Option.bind (copies_Choose r21.1) fun r26 =>
  some (((((((((decide (r13.2.1 = (0 : Int))) && r13.1) && (decide (r26.2 = (0 : Int)))) && (decide (r26.1 = (0 : Int)))) && (decide (((r21.1.length : Nat) : Int) = (2 : Int)))) && (decide (((r21.1.getD 1 (⟨false, 0, ByteArray.empty⟩ : api_Copy))).Text = (ByteArray.mk #[116, 101, 120, 116])))) && (decide (((r21.2.1.length : Nat) : Int) = (0 : Int)))) && (decide (r21.2.2 = (1 : Int)))))
theorem L_volumegrouplaw13_awake {W : World} {r : Bool} (h : volumegrouplaw13_awake = some r) :
    CSpec Try.prog W 43 [] [] (fun x : Unit => .bool r) (fun _ => True) (fun x F => F) := by
 refine CSpec.of_body Try.func43 rfl Try.ntmps43 rfl fun F => ?_
 show CJ _ _ _ _ _ _ (F)
 unfold volumegrouplaw13_awake at h
 refine sR <| oA rfl rfl <| nT <| sR ?_
 obtain ⟨r1, hr2, h⟩ := bind_e h
 refine oO <| O_call (L_volumegrouplaw13_areas hr2) rfl Try.call44 Dels.nil rfl fun X3 _ => oA rfl rfl <| nT <| CJ_seq <| sR <| oM rfl rfl ?_
 rcases opt_e h with ⟨ht5, h⟩ | ⟨o6, ht5, h⟩
 ·
  rw [ht5]
  refine RJ_ent (eD eR) <| oP (P_eqlNN rfl rfl Try.underlying24) rfl <| nT <| CJ_condT rfl rfl <| sR <| oA rfl rfl <| nT <| CJ_ret <| QJ_then_ret ?_
  cases h
  exact fE (res1 Try.results43 rfl) () eR
 ·
  rw [ht5]
  refine RJ_ent (Ent.takeC (A' := Arr X3 o6) del0 rfl eR) <| oP (P_eqlPN rfl rfl Try.underlying24) rfl <| nT <| CJ_condF rfl rfl <| kT <| sR <| oM rfl rfl ?_
  obtain ⟨r7, hr8, h⟩ := bind_e h
  refine oO <| O_call (L_volumegrouplaw13_some hr8) rfl Try.call46 (Dels.cons del0 Dels.nil) rfl fun X9 _ => RJ_pure (fun h hh => Rs_len (stars_perm (del2 (A := Rs (DevP X3) r7 X9.2)).out h hh)) fun hdl12 => ?_
  obtain ⟨r13, hr14, h⟩ := bind_e h
  refine oO <| O_call (L_copies_Commit (Reads.sl _ _ _) hr14) rfl Try.call45 (Dels.cons del1 (Dels.cons del1 (Dels.cons del0 Dels.nil))) rfl fun _ _ => oM rfl rfl <| oP (P_extract rfl rfl) rfl <| oP (P_extract rfl rfl) rfl <| oA rfl rfl <| oA rfl rfl <| nT <| sR <| oM rfl rfl ?_
  obtain ⟨r15, hr16, h⟩ := bind_e h
  refine oO <| O_call (L_volumegrouplaw13_some hr16) rfl Try.call46 (Dels.cons del2 Dels.nil) rfl fun X17 _ => RJ_pure (fun h hh => Rs_len (stars_perm (del2 (A := Rs (DevP X3) r15 X17.2)).out h hh)) fun hdl20 => ?_
  obtain ⟨r21, hr22, h⟩ := bind_e h
  refine oO <| O_call (L_copies_Scan (Reads.sl _ _ _) hr22) rfl Try.call41 (Dels.cons del1 (Dels.cons del1 (Dels.cons del0 Dels.nil))) rfl fun X23 _ => oM rfl rfl <| oP (P_extract (v := X23.1.v) rfl rfl) rfl <| oP (P_extract (v := X23.2.v) rfl rfl) rfl <| oP (P_extract rfl rfl) rfl <| oA rfl rfl <| oA rfl rfl <| oA rfl rfl <| RJ_nil <| QJ_ent (t2_ (t2_ (t2_ (eD (eD (eD (eD eR))))))) <| QJ_then <| sR <| oM rfl rfl ?_
  obtain ⟨r26, hr27, h⟩ := bind_e h
  refine oO <| O_call (L_copies_Choose (Reads.sl _ _ _) hr27) rfl Try.call48 (Dels.cons del1 Dels.nil) rfl fun _ _ => oM rfl rfl <| oP (P_extract rfl rfl) rfl <| oP (P_extract rfl rfl) rfl <| oA rfl rfl <| oA rfl rfl <| nT <| sR <| oM rfl rfl <| oP (P_eql (a := r13.2.1) (b := (0 : Int)) rfl rfl) rfl <| oM rfl rfl <| RJ_mbT rfl rfl rfl (fun hG28 => have hP29 : (r13.2.1 = (0 : Int)) := (bT_dec).1 hG28; VJ_P (P_move rfl)) <| oP (P_pickAnd rfl (fun hh => mbx hh rfl) rfl) rfl <| oM rfl rfl <| RJ_mbT rfl rfl rfl (fun hG30 => have hP31 : ((r13.2.1 = (0 : Int)) ∧ r13.1 = true) := ((bT_and bT_dec Iff.rfl)).1 hG30; VJ_P (P_move rfl)) <| RJ_mbT rfl rfl rfl (fun hG32 => have hP33 : ((r13.2.1 = (0 : Int)) ∧ r13.1 = true) := ((bT_and bT_dec Iff.rfl)).1 hG32; VJ_P (P_eql (a := r26.2) (b := (0 : Int)) (mbx hG32 rfl) rfl)) <| oP (P_pickAnd rfl (fun hh => mbx hh rfl) rfl) rfl <| oM rfl rfl <| RJ_mbT rfl rfl rfl (fun hG34 => have hP35 : (((r13.2.1 = (0 : Int)) ∧ r13.1 = true) ∧ (r26.2 = (0 : Int))) := ((bT_and (bT_and bT_dec Iff.rfl) bT_dec)).1 hG34; VJ_P (P_move rfl)) <| RJ_mbT rfl rfl rfl (fun hG36 => have hP37 : (((r13.2.1 = (0 : Int)) ∧ r13.1 = true) ∧ (r26.2 = (0 : Int))) := ((bT_and (bT_and bT_dec Iff.rfl) bT_dec)).1 hG36; VJ_P (P_eql (a := r26.1) (b := (0 : Int)) (mbx hG36 rfl) rfl)) <| oP (P_pickAnd rfl (fun hh => mbx hh rfl) rfl) rfl <| oM rfl rfl ?_
  refine RJ_mbT rfl rfl rfl (fun hG38 => have hP39 : ((((r13.2.1 = (0 : Int)) ∧ r13.1 = true) ∧ (r26.2 = (0 : Int))) ∧ (r26.1 = (0 : Int))) := ((bT_and (bT_and (bT_and bT_dec Iff.rfl) bT_dec) bT_dec)).1 hG38; VJ_P (P_move rfl)) <| RJ_mbT rfl rfl rfl (fun hG40 => have hP41 : ((((r13.2.1 = (0 : Int)) ∧ r13.1 = true) ∧ (r26.2 = (0 : Int))) ∧ (r26.1 = (0 : Int))) := ((bT_and (bT_and (bT_and bT_dec Iff.rfl) bT_dec) bT_dec)).1 hG40; V_len (mbx hG40 rfl) foc0 (Reads.sl _ _ _) Try.runUnderlying66) <| RJ_mbT rfl rfl rfl (fun hG42 => have hP43 : ((((r13.2.1 = (0 : Int)) ∧ r13.1 = true) ∧ (r26.2 = (0 : Int))) ∧ (r26.1 = (0 : Int))) := ((bT_and (bT_and (bT_and bT_dec Iff.rfl) bT_dec) bT_dec)).1 hG42; VJ_P (P_eql (a := ((r21.1.length : Nat) : Int)) (b := (2 : Int)) (mbx hG42 rfl) rfl)) <| oP (P_pickAnd rfl (fun hh => mbx hh rfl) rfl) rfl <| oM rfl rfl <| RJ_mbT rfl rfl rfl (fun hG44 => have hP45 : (((((r13.2.1 = (0 : Int)) ∧ r13.1 = true) ∧ (r26.2 = (0 : Int))) ∧ (r26.1 = (0 : Int))) ∧ (((r21.1.length : Nat) : Int) = (2 : Int))) := ((bT_and (bT_and (bT_and (bT_and bT_dec Iff.rfl) bT_dec) bT_dec) bT_dec)).1 hG44; VJ_P (P_move rfl)) <| RJ_mbT rfl rfl rfl (fun hG46 => have hP47 : (((((r13.2.1 = (0 : Int)) ∧ r13.1 = true) ∧ (r26.2 = (0 : Int))) ∧ (r26.1 = (0 : Int))) ∧ (((r21.1.length : Nat) : Int) = (2 : Int))) := ((bT_and (bT_and (bT_and (bT_and bT_dec Iff.rfl) bT_dec) bT_dec) bT_dec)).1 hG46; V_index (i := 1) (mbx hG46 rfl) rfl rfl (by omega) foc0 (Reads.sl _ _ _) Try.runUnderlying66 Try.sizeOf34) ?_
  refine RJ_mbT rfl rfl rfl (fun hG48 => have hP49 : (((((r13.2.1 = (0 : Int)) ∧ r13.1 = true) ∧ (r26.2 = (0 : Int))) ∧ (r26.1 = (0 : Int))) ∧ (((r21.1.length : Nat) : Int) = (2 : Int))) := ((bT_and (bT_and (bT_and (bT_and bT_dec Iff.rfl) bT_dec) bT_dec) bT_dec)).1 hG48; VJ_P (P_fieldE (mbx hG48 rfl) ⟨_, _, _, Try.runUnderlying34, rfl, rfl, Try.sizeOf9, rfl⟩)) <| RJ_mbT rfl rfl rfl (fun hG50 => have hP51 : (((((r13.2.1 = (0 : Int)) ∧ r13.1 = true) ∧ (r26.2 = (0 : Int))) ∧ (r26.1 = (0 : Int))) ∧ (((r21.1.length : Nat) : Int) = (2 : Int))) := ((bT_and (bT_and (bT_and (bT_and bT_dec Iff.rfl) bT_dec) bT_dec) bT_dec)).1 hG50; V_loadE (mbx hG50 rfl) rfl (by omega) foc0 (Reads.sl _ _ _) rfl rfl Try.isAgg9) <| RJ_mbT rfl rfl rfl (fun hG52 => have hP53 : (((((r13.2.1 = (0 : Int)) ∧ r13.1 = true) ∧ (r26.2 = (0 : Int))) ∧ (r26.1 = (0 : Int))) ∧ (((r21.1.length : Nat) : Int) = (2 : Int))) := ((bT_and (bT_and (bT_and (bT_and bT_dec Iff.rfl) bT_dec) bT_dec) bT_dec)).1 hG52; VJ_P (P_eqlStr (a := ((r21.1.getD 1 (⟨false, 0, ByteArray.empty⟩ : api_Copy))).Text) (b := (ByteArray.mk #[116, 101, 120, 116])) (mbx hG52 rfl) rfl Try.underlying9)) <| oP (P_pickAnd rfl (fun hh => mbx hh rfl) rfl) rfl <| oM rfl rfl ?_
  refine RJ_mbT rfl rfl rfl (fun hG54 => have hP55 : ((((((r13.2.1 = (0 : Int)) ∧ r13.1 = true) ∧ (r26.2 = (0 : Int))) ∧ (r26.1 = (0 : Int))) ∧ (((r21.1.length : Nat) : Int) = (2 : Int))) ∧ (((r21.1.getD 1 (⟨false, 0, ByteArray.empty⟩ : api_Copy))).Text = (ByteArray.mk #[116, 101, 120, 116]))) := ((bT_and (bT_and (bT_and (bT_and (bT_and bT_dec Iff.rfl) bT_dec) bT_dec) bT_dec) bT_dec)).1 hG54; VJ_P (P_move rfl)) <| RJ_mbT rfl rfl rfl (fun hG56 => have hP57 : ((((((r13.2.1 = (0 : Int)) ∧ r13.1 = true) ∧ (r26.2 = (0 : Int))) ∧ (r26.1 = (0 : Int))) ∧ (((r21.1.length : Nat) : Int) = (2 : Int))) ∧ (((r21.1.getD 1 (⟨false, 0, ByteArray.empty⟩ : api_Copy))).Text = (ByteArray.mk #[116, 101, 120, 116]))) := ((bT_and (bT_and (bT_and (bT_and (bT_and bT_dec Iff.rfl) bT_dec) bT_dec) bT_dec) bT_dec)).1 hG56; V_len (mbx hG56 rfl) foc2 (Reads.sl _ _ _) Try.runUnderlying38) <| RJ_mbT rfl rfl rfl (fun hG58 => have hP59 : ((((((r13.2.1 = (0 : Int)) ∧ r13.1 = true) ∧ (r26.2 = (0 : Int))) ∧ (r26.1 = (0 : Int))) ∧ (((r21.1.length : Nat) : Int) = (2 : Int))) ∧ (((r21.1.getD 1 (⟨false, 0, ByteArray.empty⟩ : api_Copy))).Text = (ByteArray.mk #[116, 101, 120, 116]))) := ((bT_and (bT_and (bT_and (bT_and (bT_and bT_dec Iff.rfl) bT_dec) bT_dec) bT_dec) bT_dec)).1 hG58; VJ_P (P_eql (a := ((r21.2.1.length : Nat) : Int)) (b := (0 : Int)) (mbx hG58 rfl) rfl)) <| oP (P_pickAnd rfl (fun hh => mbx hh rfl) rfl) rfl <| oM rfl rfl ?_
  refine RJ_mbT rfl rfl rfl (fun hG60 => have hP61 : (((((((r13.2.1 = (0 : Int)) ∧ r13.1 = true) ∧ (r26.2 = (0 : Int))) ∧ (r26.1 = (0 : Int))) ∧ (((r21.1.length : Nat) : Int) = (2 : Int))) ∧ (((r21.1.getD 1 (⟨false, 0, ByteArray.empty⟩ : api_Copy))).Text = (ByteArray.mk #[116, 101, 120, 116]))) ∧ (((r21.2.1.length : Nat) : Int) = (0 : Int))) := ((bT_and (bT_and (bT_and (bT_and (bT_and (bT_and bT_dec Iff.rfl) bT_dec) bT_dec) bT_dec) bT_dec) bT_dec)).1 hG60; VJ_P (P_move rfl)) <| RJ_mbT rfl rfl rfl (fun hG62 => have hP63 : (((((((r13.2.1 = (0 : Int)) ∧ r13.1 = true) ∧ (r26.2 = (0 : Int))) ∧ (r26.1 = (0 : Int))) ∧ (((r21.1.length : Nat) : Int) = (2 : Int))) ∧ (((r21.1.getD 1 (⟨false, 0, ByteArray.empty⟩ : api_Copy))).Text = (ByteArray.mk #[116, 101, 120, 116]))) ∧ (((r21.2.1.length : Nat) : Int) = (0 : Int))) := ((bT_and (bT_and (bT_and (bT_and (bT_and (bT_and bT_dec Iff.rfl) bT_dec) bT_dec) bT_dec) bT_dec) bT_dec)).1 hG62; VJ_P (P_eql (a := r21.2.2) (b := (1 : Int)) (mbx hG62 rfl) rfl)) <| oP (P_pickAnd rfl (fun hh => mbx hh rfl) rfl) rfl <| oA rfl rfl <| nT <| CJ_ret ?_
  cases h
  exact fE (res1 Try.results43 rfl) () (eD (eD (eD eR)))
end Go.Proofs
namespace Go.Proofs
open Go.VG
abbrev dks (ds : List Nat) (n : Nat) : List Dvc := ds.map fun d => Dk d n
theorem dks_getD {ds : List Nat} {n i : Nat} (h : i < ds.length) : (dks ds n).getD i dv0 = Dk (ds.getD i 0) n := by
  simp [dks, List.getD_eq_getElem?_getD, h]
theorem dks_len {ds : List Nat} {n : Nat} : (dks ds n).length = ds.length := by simp [dks]
section
variable {ns : List Nat} {K n : Nat} {s t : ArrS}
theorem Prepd.other {d e st q : Nat} {x : ByteArray} (p : Prepd ns K s d n st q x t) (hde : d ≠ e) (h : Lv ns K e n s) (hK : K + (encT x).length + 1 ≤ 900000) : Lv ns (K + (encT x).length + 1) e n t ∧ Go.Proofs.now t e = Go.Proofs.now s e := by
  have hn : Go.Proofs.now t e = Go.Proofs.now s e := funext fun b => by rw [p.now, if_neg hde]
  exact ⟨⟨p.ok, p.dn, h.hd, h.hn, h.h4, h.hb, by rw [p.miss]; exact h.ms, fun b hb => by rw [p.cand e b h.hd (by rw [h.hn]; exact hb), if_neg hde, h.cl b hb, hn], hK⟩, hn⟩
theorem Put1.other {d e k : Nat} {v : UInt64} (p : Put1 ns K s d k v t) (hde : d ≠ e) (h : Lv ns K e n s) (hK : K + 1 ≤ 900000) : Lv ns (K + 1) e n t ∧ Go.Proofs.now t e = Go.Proofs.now s e := by
  have hn : Go.Proofs.now t e = Go.Proofs.now s e := funext fun b => by rw [p.now, if_neg (fun x => hde x.1)]
  exact ⟨⟨p.ok, p.dn, h.hd, h.hn, h.h4, h.hb, by rw [p.miss]; exact h.ms, fun b hb => by rw [p.cand e b h.hd (by rw [h.hn]; exact hb), if_neg hde, h.cl b hb, hn], hK⟩, hn⟩
def Dist (ds : List Nat) : Prop := ∀ i j, i < j → j < ds.length → ds.getD i 0 ≠ ds.getD j 0
theorem commit_l1 {ds : List Nat} {q : Nat} {x : ByteArray} {c : Nat → Option Txt} {L : Nat} (hx : x.size ≤ 8192) (hq : 1 ≤ q ∧ q ≤ 1048575) (hL : (encT x).length = L) (hd : Dist ds) (hin : ∀ i, i < ds.length → ds.getD i 0 < ns.length)
    (hfit : ∀ i, i < ds.length → L + oLen (c (ds.getD i 0)) ≤ rgR n) : ∀ (N i K : Nat) (s : ArrS), ds.length - i < N → i ≤ ds.length → K + (ds.length - i) * (L + 1) ≤ 700000 → (∀ e, e < ns.length → Lv ns K e n s) → s.fuse = 0 →
    (∀ e, e < ns.length → Hold (now s e) (rgR n) 0 (c e)) → (∀ j, j < i → Hold (now s (ds.getD j 0)) (rgR n) 1 (some ⟨q, nextSt (rgR n) (c (ds.getD j 0)), x⟩)) →
    ∃ t, copies_Commit_l1 (dks ds n) (q : Int) x N s i = some (.inl t) ∧ (∀ e, e < ns.length → Lv ns (K + (ds.length - i) * (L + 1)) e n t) ∧ t.fuse = 0 ∧ (∀ e, e < ns.length → Hold (now t e) (rgR n) 0 (c e)) ∧
      (∀ j, j < ds.length → Hold (now t (ds.getD j 0)) (rgR n) 1 (some ⟨q, nextSt (rgR n) (c (ds.getD j 0)), x⟩)) ∧ (∀ e, (∀ j, i ≤ j → j < ds.length → ds.getD j 0 ≠ e) → now t e = now s e)
  | 0, _, _, _, h, _, _, _, _, _, _ => absurd h (by omega)
  | N + 1, i, K, s, h, hi, hK, hl, hf, h0, h1 => by
    show ∃ t, copies_Commit_l1_b _ _ _ _ _ _ = _ ∧ _
    unfold copies_Commit_l1_b
    rw [dks_len]
    by_cases hlt : i < ds.length
    · rw [if_pos (by omega), dks_getD hlt]
      have hmul : (ds.length - i) * (L + 1) = (L + 1) + (ds.length - (i + 1)) * (L + 1) := by
        rw [show ds.length - i = (ds.length - (i + 1)) + 1 by omega, Nat.add_mul, Nat.one_mul, Nat.add_comm]
      rcases prep_hold (hl _ (hin i hlt)) (by omega) (h0 _ (hin i hlt)) hq hx with ⟨h2, _⟩ | ⟨_, ⟨t, h2, h3, h4, h5, h6⟩ | ⟨h2, _⟩⟩
      · have := hfit i hlt; omega
      · rw [h2]; simp only [Option.bind_some]
        rw [if_neg (by simp)]
        rw [hL] at h4
        have hoth : ∀ e, ds.getD i 0 ≠ e → e < ns.length → Lv ns (K + L + 1) e n t ∧ now t e = now s e := fun e hne he => by
          have := h3.other hne (hl e he) (by omega)
          rw [hL] at this; exact this
        obtain ⟨u, u1, u2, u3, u4, u5, u6⟩ := commit_l1 hx hq hL hd hin hfit N (i + 1) (K + L + 1) t (by omega) (by omega) (by omega) (fun e he => by
          by_cases hne : ds.getD i 0 = e
          · rw [← hne]; exact h4
          · exact (hoth e hne he).1) (by rw [h3.fuse, hf]; omega) (fun e he => by
          by_cases hne : ds.getD i 0 = e
          · rw [← hne]; exact h5
          · rw [(hoth e hne he).2]; exact h0 e he) (fun j hj => by
          rcases Nat.lt_or_ge j i with hji | hji
          · have hne := hd j i hji hlt
            rw [(hoth _ (fun e => hne e.symm) (hin j (by omega))).2]
            exact h1 j hji
          · have : j = i := by omega
            rw [this]; exact h6)
        refine ⟨u, u1, fun e he => ?_, u3, u4, u5, fun e he => ?_⟩
        · have := u2 e he
          rw [show K + (ds.length - i) * (L + 1) = K + L + 1 + (ds.length - (i + 1)) * (L + 1) by omega]
          exact this
        · rw [u6 e (fun j hj hjl => he j (by omega) hjl)]
          funext b
          rw [h3.now, if_neg (he i (Nat.le_refl _) hlt)]
      · exact absurd hf h2
    · rw [if_neg (by omega)]
      have e : i = ds.length := by omega
      refine ⟨s, rfl, fun e he => ?_, hf, h0, fun j hj => h1 j (by omega), fun _ _ => rfl⟩
      rw [show ds.length - i = 0 by omega, Nat.zero_mul]; exact hl e he
theorem commit_l2 {ds : List Nat} {T : Nat → Txt} (hd : Dist ds) (hin : ∀ i, i < ds.length → ds.getD i 0 < ns.length) : ∀ (N i K : Nat) (s : ArrS), ds.length - i < N → i ≤ ds.length → K + (ds.length - i) ≤ 700000 → (∀ e, e < ns.length → Lv ns K e n s) → s.fuse = 0 →
    (∀ j, j < ds.length → Hold (now s (ds.getD j 0)) (rgR n) 1 (some (T (ds.getD j 0)))) → (∀ j, j < i → Hold (now s (ds.getD j 0)) (rgR n) 0 (some (T (ds.getD j 0)))) →
    ∃ t, copies_Commit_l2 (dks ds n) N s i = some (.inl t) ∧ (∀ e, e < ns.length → Lv ns (K + (ds.length - i)) e n t) ∧ t.fuse = 0 ∧ (∀ j, j < ds.length → Hold (now t (ds.getD j 0)) (rgR n) 0 (some (T (ds.getD j 0))) ∧ Hold (now t (ds.getD j 0)) (rgR n) 1 (some (T (ds.getD j 0)))) ∧
      (∀ e, (∀ j, i ≤ j → j < ds.length → ds.getD j 0 ≠ e) → now t e = now s e)
  | 0, _, _, _, h, _, _, _, _, _, _ => absurd h (by omega)
  | N + 1, i, K, s, h, hi, hK, hl, hf, h1, h0 => by
    show ∃ t, copies_Commit_l2_b _ _ _ _ = _ ∧ _
    unfold copies_Commit_l2_b
    rw [dks_len]
    by_cases hlt : i < ds.length
    · rw [if_pos (by omega), dks_getD hlt]
      rcases switch_hold (hl _ (hin i hlt)) (by omega) (h1 i hlt) with ⟨_, t, h2, h3, h4, h5⟩ | ⟨h2, _⟩
      · rw [h2]; simp only [Option.bind_some]
        rw [if_neg (by simp)]
        have hoth : ∀ e, ds.getD i 0 ≠ e → e < ns.length → Lv ns (K + 1) e n t ∧ now t e = now s e := fun e hne he => h3.other hne (hl e he) (by omega)
        have hown : Hold (now t (ds.getD i 0)) (rgR n) 1 (some (T (ds.getD i 0))) := by
          refine (h1 i hlt).congr (by rw [h3.nowD]; rfl) fun k _ => ?_
          rw [h3.nowD]
          unfold upd
          rw [if_neg (by have := plc_ge (r := rgR n) (st := oSt (some (T (ds.getD i 0)))) (i := k); omega)]
        obtain ⟨u, u1, u2, u3, u4, u5⟩ := commit_l2 hd hin N (i + 1) (K + 1) t (by omega) (by omega) (by omega) (fun e he => by
          by_cases hne : ds.getD i 0 = e
          · rw [← hne]; exact h4
          · exact (hoth e hne he).1) (by rw [h3.fuse, hf]) (fun j hj => by
          by_cases hne : ds.getD i 0 = ds.getD j 0
          · rw [← hne]; exact hown
          · rw [(hoth _ hne (hin j hj)).2]; exact h1 j hj) (fun j hj => by
          rcases Nat.lt_or_ge j i with hji | hji
          · have hne := hd j i hji hlt
            rw [(hoth _ (fun e => hne e.symm) (hin j (by omega))).2]
            exact h0 j hji
          · have : j = i := by omega
            rw [this]; exact h5)
        refine ⟨u, u1, fun e he => ?_, u3, u4, fun e he => ?_⟩
        · have := u2 e he
          rw [show K + (ds.length - i) = K + 1 + (ds.length - (i + 1)) by omega]
          exact this
        · rw [u5 e (fun j hj hjl => he j (by omega) hjl)]
          funext b
          rw [h3.now, if_neg (fun x => he i (Nat.le_refl _) hlt x.1)]
      · omega
    · rw [if_neg (by omega)]
      refine ⟨s, rfl, fun e he => ?_, hf, fun j hj => ⟨h0 j (by omega), h1 j hj⟩, fun _ _ => rfl⟩
      rw [show ds.length - i = 0 by omega]; exact hl e he
theorem commit_ok {ds : List Nat} {q : Nat} {x : ByteArray} {c : Nat → Option Txt} {L : Nat} (hx : x.size ≤ 8192) (hq : 1 ≤ q ∧ q ≤ 1048575) (hL : (encT x).length = L) (hd : Dist ds) (hin : ∀ i, i < ds.length → ds.getD i 0 < ns.length) (h0 : ds.length ≠ 0) (h100 : ds.length ≤ 100)
    (hfit : ∀ i, i < ds.length → L + oLen (c (ds.getD i 0)) ≤ rgR n) (hK : K ≤ 100000) (hl : ∀ e, e < ns.length → Lv ns K e n s) (hf : s.fuse = 0) (hh : ∀ e, e < ns.length → Hold (now s e) (rgR n) 0 (c e)) :
    ∃ t, copies_Commit (dks ds n) (q : Int) x s = some (true, 0, t) ∧ (∀ e, e < ns.length → Lv ns (K + ds.length * (L + 1) + ds.length) e n t) ∧ t.fuse = 0 ∧
      (∀ j, j < ds.length → Hold (now t (ds.getD j 0)) (rgR n) 0 (some ⟨q, nextSt (rgR n) (c (ds.getD j 0)), x⟩) ∧ Hold (now t (ds.getD j 0)) (rgR n) 1 (some ⟨q, nextSt (rgR n) (c (ds.getD j 0)), x⟩)) ∧
      (∀ e, (∀ j, j < ds.length → ds.getD j 0 ≠ e) → now t e = now s e) := by
  unfold copies_Commit
  rw [dks_len, if_neg (by omega)]
  have hF := fuel_big
  generalize FUEL = N at hF ⊢
  have hE := encT_lt hx
  have hb : ds.length * (L + 1) ≤ 100 * 4096 := Nat.mul_le_mul h100 (by omega)
  obtain ⟨t, t1, t2, t3, t4, t5, t6⟩ := commit_l1 (ns := ns) (n := n) hx hq hL hd hin hfit N 0 K s (by omega) (by omega) (by simp only [Nat.sub_zero]; omega) hl hf hh (fun j hj => absurd hj (by omega))
  rw [t1]
  simp only [seqO, Option.bind_some, Sum.elim_inl]
  simp only [Nat.sub_zero] at t2
  obtain ⟨u, u1, u2, u3, u4, u5⟩ := commit_l2 (ns := ns) (n := n) (ds := ds) (T := fun d => ⟨q, nextSt (rgR n) (c d), x⟩) hd hin N 0 _ t (by omega) (by omega) (by simp only [Nat.sub_zero]; omega) t2 t3 t5 (fun j hj => absurd hj (by omega))
  rw [u1]
  simp only [Option.bind_some, Sum.elim_inl]
  simp only [Nat.sub_zero] at u2
  exact ⟨u, rfl, u2, u3, u4, fun e he => by rw [u5 e (fun j _ hj => he j hj), t6 e (fun j _ hj => he j hj)]⟩
noncomputable def foundR (A : Nat → UInt64) (r : Nat) : copies_found := ⟨(readR A r).1, (readR A r).2, false, max ((dQ (A 0)).toNat : Int) ((dQ (A 1)).toNat : Int)⟩
theorem readR_cases (A : Nat → UInt64) (r : Nat) : (readR A r).2 = 0 ∨ (readR A r).2 = 11 ∨ ((readR A r).2 = 12 ∧ (readR A r).1 = ⟨false, 0, ByteArray.empty⟩) := by
  unfold readR
  split
  · exact .inr (.inr ⟨rfl, rfl⟩)
  · split
    · exact .inl rfl
    · exact .inr (.inl rfl)
theorem look_eq {d : Nat} (h : Lv ns K d n s) : copies_look (Dk d n) s = some (foundR (now s d) (rgR n)) := by
  unfold copies_look
  rw [read_eq h]; simp only [Option.bind_some]
  rw [seqs_eq h]
  unfold foundR
  rcases readR_cases (now s d) (rgR n) with h1 | h1 | ⟨h1, h2⟩
  · rw [if_neg (fun x => x.1 h1)]; simp only [Option.bind_some]
    rw [if_pos (by simp [h1])]; simp [h1]
  · rw [if_neg (fun x => x.2 h1)]; simp only [Option.bind_some]
    rw [if_pos (by simp [h1])]; simp [h1]
  · rw [if_pos (by rw [h1]; decide)]; simp only [Option.bind_some]
    rw [if_pos (by simp [h1])]; simp [h1, h2]
noncomputable def greatR (s : ArrS) (ds : List Nat) : Int := ds.foldl (fun m d => max m (max ((dQ (now s d 0)).toNat : Int) ((dQ (now s d 1)).toNat : Int))) 0
noncomputable def copiesR (s : ArrS) (n : Nat) (ds : List Nat) : List api_Copy := ds.map fun d => (readR (now s d) (rgR n)).1
theorem scan_l1 {ds : List Nat} (hl : ∀ i, i < ds.length → Lv ns K (ds.getD i 0) n s) (h100 : ds.length ≤ 1000) : ∀ (N i : Nat), ds.length - i < N → i ≤ ds.length →
    copies_Scan_l1 (dks ds n) s N i (copiesR s n (ds.take i)) [] (greatR s (ds.take i)) = some (copiesR s n ds, [], greatR s ds)
  | 0, _, h, _ => absurd h (by omega)
  | N + 1, i, h, hi => by
    show copies_Scan_l1_b _ _ _ _ _ _ _ = _
    unfold copies_Scan_l1_b
    rw [dks_len]
    by_cases hlt : i < ds.length
    · rw [if_pos (by omega), dks_getD hlt, look_eq (hl i hlt)]; simp only [Option.bind_some]
      have ht : ds.take (i + 1) = ds.take i ++ [ds.getD i 0] := by
        rw [List.take_succ_eq_append_getElem hlt]; simp [List.getD_eq_getElem?_getD, hlt]
      have e1 : copiesR s n (ds.take (i + 1)) = copiesR s n (ds.take i) ++ [(readR (now s (ds.getD i 0)) (rgR n)).1] := by unfold copiesR; rw [ht, List.map_append]; rfl
      have e2 : greatR s (ds.take (i + 1)) = max (greatR s (ds.take i)) (max ((dQ (now s (ds.getD i 0) 0)).toNat : Int) ((dQ (now s (ds.getD i 0) 1)).toNat : Int)) := by unfold greatR; rw [ht, List.foldl_append]; rfl
      rw [grd_pos (inLen_of (by unfold copiesR; simp; omega)), if_neg (by simp [foundR])]
      have ih := scan_l1 hl h100 N (i + 1) (by omega) (by omega)
      rw [e1, e2] at ih
      exact ih
    · rw [if_neg (by omega), List.take_of_length_le (by omega)]
theorem scan_eq {ds : List Nat} (hl : ∀ i, i < ds.length → Lv ns K (ds.getD i 0) n s) (h100 : ds.length ≤ 1000) : copies_Scan (dks ds n) s = some (copiesR s n ds, [], greatR s ds) := by
  unfold copies_Scan
  have hF := fuel_big
  generalize FUEL = N at hF ⊢
  have := scan_l1 hl h100 N 0 (by omega) (by omega)
  rw [List.take_zero] at this
  rw [show (copiesR s n [] : List api_Copy) = [] from rfl, show greatR s [] = 0 from rfl] at this
  rw [this]; rfl
end
theorem areas_eq {m n : Nat} (hm : m ≤ 8) (hn : 1 ≤ n ∧ n ≤ 1000) : volumegrouplaw13_areas (m : Int) (n : Int) = some (some (mkS (List.replicate m (List.replicate n 0)))) := by
  have hl : ∀ (N i : Nat), m - i < N → i ≤ m → volumegrouplaw13_areas_l1 (m : Int) (n : Int) N (List.replicate i (List.replicate n 0)) i = some (List.replicate m (List.replicate n 0)) := by
    intro N
    induction N with
    | zero => intro i h; exact absurd h (by omega)
    | succ N ih =>
      intro i h hi
      show volumegrouplaw13_areas_l1_b _ _ _ _ _ = _
      unfold volumegrouplaw13_areas_l1_b
      by_cases hlt : i < m
      · rw [if_pos (by omega), grd_pos (decide_eq_true (by omega)), grd_pos (inLen_of (by simp; omega)), grd_pos (inN64_of (by omega)), show ((n : Nat) : Int).toNat = n by omega]
        have e : List.replicate i (List.replicate n (0 : UInt64)) ++ [List.replicate n 0] = List.replicate (i + 1) (List.replicate n 0) := by rw [List.replicate_succ']
        rw [e]; exact ih (i + 1) (by omega) (by omega)
      · rw [if_neg (by omega), show i = m by omega]
  unfold volumegrouplaw13_areas
  have hF := fuel_big
  generalize FUEL = N at hF ⊢
  have := hl N 0 (by omega) (by omega)
  rw [List.replicate_zero] at this
  rw [this]; simp only [Option.bind_some]
  rw [loaded_eq (by simp; omega) (by intro im him; rw [List.eq_of_mem_replicate him]; simp; omega)]; rfl
theorem lvA_mkS {m n e : Nat} (he : e < m) (hn : 4 ≤ n ∧ n ≤ 1000) : Lv (List.replicate m n) 0 e n (mkS (List.replicate m (List.replicate n 0))) := by
  have hS : InSz (List.replicate m n) (mkS (List.replicate m (List.replicate n 0))) := by have := inSz_mkS (ims := List.replicate m (List.replicate n (0 : UInt64))); simpa [lensN] using this
  exact ⟨⟨hS, Nat.le_refl _, coh_mkS, rfl⟩, rfl, by simpa using he, by simp [List.getD_eq_getElem?_getD, List.getElem?_replicate, he], hn.1, hn.2, miss_mkS, fun b _ => cand_mkS, by omega⟩
theorem now0A {m n e b : Nat} : now (mkS (List.replicate m (List.replicate n 0))) e b = 0 := by
  unfold now nowL
  simp only [mkS, List.getD_eq_getElem?_getD, List.getElem?_map, List.getElem?_replicate]
  split
  · simp only [Option.map_some, Option.getD_some, List.getElem?_replicate]
    split <;> rfl
  · rfl
theorem spansA_eq {m n K e : Nat} {s : ArrS} (h : Lv (List.replicate m n) K e n s) (hm : m ≤ 8) : volumegroupmake_Spans s = some (dks (List.range m) n) := by
  have hc : s.drv.length = m := by have := h.ok.sz.cnt; simpa using this
  have hz : ∀ i, i < m → s.size i = n := fun i hi => by
    have := h.ok.sz.size i (by simpa using hi)
    simpa [List.getD_eq_getElem?_getD, List.getElem?_replicate, hi] using this
  have h4 := h.h4; have hb := h.hb
  rw [spans_eq (by omega) (fun i hi => by rw [hz i (by omega)]; omega)]
  show some ((List.range s.drv.length).map _) = _
  rw [hc]
  refine congrArg some (List.map_congr_left fun i hi => ?_)
  show Dvc.span ((i : Nat) : Int) 0 ((s.size i : Nat) : Int) = _
  rw [hz i (List.mem_range.1 hi)]
def bitsL (bits : Int) (m : Nat) : List Nat := (List.range m).filter fun i => decide (andI (shrI bits i) 1 = 1)
theorem some_eq {m n K e : Nat} {s : ArrS} {bits : Int} (h : Lv (List.replicate m n) K e n s) (hm : m ≤ 8) : volumegrouplaw13_some s bits = some (dks (bitsL bits m) n) := by
  have hl : ∀ (N i : Nat), m - i < N → i ≤ m → volumegrouplaw13_some_l1 bits (dks (List.range m) n) N (dks (bitsL bits i) n) i = some (dks (bitsL bits m) n) := by
    intro N
    induction N with
    | zero => intro i h; exact absurd h (by omega)
    | succ N ih =>
      intro i h hi
      show volumegrouplaw13_some_l1_b _ _ _ _ _ = _
      unfold volumegrouplaw13_some_l1_b
      rw [dks_len, List.length_range]
      by_cases hlt : i < m
      · have hlb : (dks (bitsL bits i) n).length ≤ i := by rw [dks_len]; unfold bitsL; exact Nat.le_trans (List.length_filter_le _ _) (by simp)
        have hgd : (List.range m).getD i 0 = i := by simp [List.getD_eq_getElem?_getD, hlt]
        rw [if_pos (by omega), dks_getD (by simpa using hlt), hgd]
        by_cases hb : andI (shrI bits i) 1 = 1
        · rw [if_pos hb, grd_pos (inLen_of (by omega)), grd_pos (inN64_of (by omega))]
          have e : dks (bitsL bits i) n ++ [Dk i n] = dks (bitsL bits (i + 1)) n := by unfold bitsL dks; rw [List.range_succ, List.filter_append]; simp [hb]
          rw [e]; exact ih (i + 1) (by omega) (by omega)
        · rw [if_neg hb, grd_pos (inN64_of (by omega))]
          have e : dks (bitsL bits i) n = dks (bitsL bits (i + 1)) n := by unfold bitsL dks; rw [List.range_succ, List.filter_append]; simp [hb]
          rw [e]; exact ih (i + 1) (by omega) (by omega)
      · rw [if_neg (by omega), show i = m by omega]
  unfold volumegrouplaw13_some
  rw [spansA_eq h hm]; simp only [Option.bind_some]
  have hF := fuel_big
  generalize FUEL = N at hF ⊢
  have := hl N 0 (by omega) (by omega)
  rw [show (dks (bitsL bits 0) n : List Dvc) = [] from rfl] at this
  rw [this]; rfl
abbrev txt4 : ByteArray := ByteArray.mk #[116, 101, 120, 116]
theorem txt4_len : (encT txt4).length = 2 := by rw [encT_len]; rfl
theorem awake13 : volumegrouplaw13_awake = some true := by
  unfold volumegrouplaw13_awake
  rw [show volumegrouplaw13_areas (2 : Int) (12 : Int) = _ from areas_eq (m := 2) (n := 12) (by omega) (by omega)]; simp only [Option.bind_some, Option.elim]
  have hL : ∀ e, e < (List.replicate 2 12).length → Lv (List.replicate 2 12) 0 e 12 (mkS (List.replicate 2 (List.replicate 12 0))) := fun e he => lvA_mkS (by simpa using he) (by omega)
  rw [some_eq (hL 0 (by simp)) (by omega)]; simp only [Option.bind_some]
  have hb : bitsL 3 2 = [0, 1] := by decide
  rw [hb]
  have hr : rgR 12 = 10 := rfl
  obtain ⟨t, t1, t2, t3, t4, _⟩ := commit_ok (ns := List.replicate 2 12) (n := 12) (K := 0) (ds := [0, 1]) (q := 1) (x := txt4) (c := fun _ => none) (L := 2) (by decide) (by omega) txt4_len (by
    intro i j h1 h2
    have : i = 0 ∧ j = 1 := by simp at h2; omega
    rw [this.1, this.2]; decide) (by
    intro i hi
    have : i = 0 ∨ i = 1 := by simp at hi; omega
    rcases this with rfl | rfl <;> decide) (by decide) (by decide) (fun i _ => by rw [hr]; show 2 + 0 ≤ 10; omega) (by omega) hL rfl (fun e _ => by show now _ e 0 = 0; exact now0A)
  rw [show copies_Commit (dks [0, 1] 12) (1 : Int) txt4 _ = _ from t1]; simp only [Option.bind_some]
  rw [some_eq (t2 0 (by simp)) (by omega), hb]; simp only [Option.bind_some]
  have h0 := t4 0 (by decide); have h1 := t4 1 (by decide)
  have g0 : ([0, 1] : List Nat).getD 0 0 = 0 := rfl
  have g1 : ([0, 1] : List Nat).getD 1 0 = 1 := rfl
  rw [g0] at h0; rw [g1] at h1
  rw [scan_eq (ds := [0, 1]) (fun i hi => by
    have : i = 0 ∨ i = 1 := by simp at hi; omega
    rcases this with rfl | rfl
    · exact t2 0 (by simp)
    · exact t2 1 (by simp)) (by decide)]
  simp only [Option.bind_some]
  have hrd : ∀ d, Hold (now t d) (rgR 12) 0 (some ⟨1, nextSt (rgR 12) none, txt4⟩) → (readR (now t d) (rgR 12)).1 = ⟨true, 1, txt4⟩ := fun d hh => by
    unfold readR
    rw [if_neg (fun x => nomatch hh.ne.1 x), hh.whole, if_pos rfl, hh.dS.2.2]; rfl
  have hc : copiesR t 12 [0, 1] = [⟨true, 1, txt4⟩, ⟨true, 1, txt4⟩] := by
    show [(readR (now t 0) (rgR 12)).1, (readR (now t 1) (rgR 12)).1] = _
    rw [hrd 0 h0.1, hrd 1 h1.1]
  have hg : greatR t [0, 1] = 1 := by
    show max (max 0 (max ((dQ (now t 0 0)).toNat : Int) ((dQ (now t 0 1)).toNat : Int))) (max ((dQ (now t 1 0)).toNat : Int) ((dQ (now t 1 1)).toNat : Int)) = 1
    rw [h0.1.dS.2.2, h0.2.dS.2.2, h1.1.dS.2.2, h1.2.dS.2.2]; rfl
  rw [hc, hg, choose_same (c := ⟨true, 1, txt4⟩) (by
    intro i hi
    have : i = 0 ∨ i = 1 := by simp at hi; omega
    rcases this with rfl | rfl <;> rfl) (by decide) (by decide) rfl]
  rfl
end Go.Proofs
namespace Go.Proofs
open Go.VG
structure LvX (ns : List Nat) (K d n : Nat) (s : ArrS) : Prop where
  ok : ArrOk ns K s
  dn : s.down = false
  hd : d < ns.length
  hn : ns.getD d 0 = n
  h4 : 4 ≤ n
  hb : n ≤ 1000
  cl : ∀ b, b < n → cand s d b = [now s d b]
  hK : K ≤ 900000
section
variable {ns : List Nat} {K d n : Nat} {s t : ArrS}
theorem LvX.lv (h : LvX ns K d n s) (hm : miss s d = false) : Lv ns K d n s := ⟨h.ok, h.dn, h.hd, h.hn, h.h4, h.hb, hm, h.cl, h.hK⟩
theorem Lv.x (h : Lv ns K d n s) : LvX ns K d n s := ⟨h.ok, h.dn, h.hd, h.hn, h.h4, h.hb, h.cl, h.hK⟩
end
end Go.Proofs
namespace Go.Proofs
open Go.VG
def BestAt (l : List api_Copy) (i : Nat) (x : Int) : Prop :=
  (x = -1 ∧ ∀ j, j < i → (l.getD j zC).Valid = false) ∨ (0 ≤ x ∧ x < (l.length : Int) ∧ (l.getD x.toNat zC).Valid = true ∧ ∀ j, j < i → (l.getD j zC).Valid = true → (l.getD j zC).Seq ≤ (l.getD x.toNat zC).Seq)
theorem best_spec {l : List api_Copy} : ∀ (N i : Nat) (x : Int), BestAt l i x → l.length - i < N → i ≤ l.length → ∃ y, copies_best__copies_Choose_1_l1 l N i x = some y ∧ BestAt l l.length y
  | 0, _, _, _, h, _ => absurd h (by omega)
  | N + 1, i, x, hx, h, hi => by
    have e1 : copies_best__copies_Choose_1_l1 l (N + 1) i x = copies_best__copies_Choose_1_l1_b l (copies_best__copies_Choose_1_l1 l N) i x := rfl
    rw [e1]
    unfold copies_best__copies_Choose_1_l1_b copies_Choose_1 copies_Choose_2
    by_cases hlt : i < l.length
    · have hI : (((i : Nat) : Int) < ((l.length : Nat) : Int)) := by omega
      rw [if_pos hI]; simp only [Option.bind_some]
      have hsn : ∀ {p : Nat → Prop}, (∀ j, j < i → p j) → p i → ∀ j, j < i + 1 → p j := fun h1 h2 j hj => by
        rcases Nat.lt_or_ge j i with h3 | h3
        · exact h1 j h3
        · rw [show j = i by omega]; exact h2
      by_cases hv : (l.getD i (⟨false, 0, ByteArray.empty⟩ : api_Copy)).Valid = true
      · rw [if_pos hv]
        by_cases h0 : x < 0
        · rw [if_pos h0]
          refine best_spec N (i + 1) _ (.inr ⟨by omega, hI, hv, ?_⟩) (by omega) (by omega)
          refine hsn (fun j hj hvj => ?_) (fun _ => Int.le_refl _)
          rcases hx with ⟨_, h1⟩ | ⟨h1, _⟩
          · rw [h1 j hj] at hvj; cases hvj
          · omega
        · have hx' : 0 ≤ x ∧ x < (l.length : Int) ∧ (l.getD x.toNat zC).Valid = true ∧ ∀ j, j < i → (l.getD j zC).Valid = true → (l.getD j zC).Seq ≤ (l.getD x.toNat zC).Seq := by
            rcases hx with ⟨h1, _⟩ | h1
            · omega
            · exact h1
          rw [if_neg h0, grd_pos (decide_eq_true ⟨hx'.1, hx'.2.1⟩)]
          by_cases hs : (l.getD x.toNat (⟨false, 0, ByteArray.empty⟩ : api_Copy)).Seq < (l.getD i (⟨false, 0, ByteArray.empty⟩ : api_Copy)).Seq
          · rw [if_pos (decide_eq_true hs)]
            exact best_spec N (i + 1) _ (.inr ⟨by omega, hI, hv, hsn (fun j hj hvj => Int.le_trans (hx'.2.2.2 j hj hvj) (Int.le_of_lt hs)) (fun _ => Int.le_refl _)⟩) (by omega) (by omega)
          · rw [if_neg (by simpa using hs)]
            exact best_spec N (i + 1) _ (.inr ⟨hx'.1, hx'.2.1, hx'.2.2.1, hsn hx'.2.2.2 (fun _ => Int.not_lt.1 hs)⟩) (by omega) (by omega)
      · rw [if_neg hv]
        have hvf : (l.getD i zC).Valid = false := by simpa using hv
        refine best_spec N (i + 1) _ ?_ (by omega) (by omega)
        rcases hx with ⟨h1, h2⟩ | ⟨h1, h2, h3, h4⟩
        · exact .inl ⟨h1, hsn h2 hvf⟩
        · exact .inr ⟨h1, h2, h3, hsn h4 (fun x => by rw [hvf] at x; cases x)⟩
    · have hI : ¬ (((i : Nat) : Int) < ((l.length : Nat) : Int)) := by omega
      rw [if_neg hI]
      exact ⟨x, rfl, by rw [show l.length = i by omega]; exact hx⟩
def Clash (l : List api_Copy) (k : Nat) (j : Nat) : Prop := (l.getD j zC).Valid = true ∧ (l.getD j zC).Seq = (l.getD k zC).Seq ∧ (l.getD j zC).Text ≠ (l.getD k zC).Text
theorem conf_spec {l : List api_Copy} {k : Int} (hk : 0 ≤ k ∧ k < (l.length : Int)) : ∀ (N i : Nat), l.length - i < N → i ≤ l.length → (∀ j, j < i → ¬ Clash l k.toNat j) →
    (copies_Choose_l1 l k N i = some (.inl ()) ∧ ∀ j, j < l.length → ¬ Clash l k.toNat j) ∨ (copies_Choose_l1 l k N i = some (.inr (-1, 13)) ∧ ∃ j, j < l.length ∧ Clash l k.toNat j)
  | 0, _, h, _, _ => absurd h (by omega)
  | N + 1, i, h, hi, hj => by
    have e1 : copies_Choose_l1 l k (N + 1) i = copies_Choose_l1_b l k (copies_Choose_l1 l k N) i := rfl
    rw [e1]
    unfold copies_Choose_l1_b
    by_cases hlt : i < l.length
    · rw [if_pos (by omega), grd_pos (decide_eq_true hk), grd_pos (decide_eq_true hk), if_neg (show ¬ false = true by decide)]
      have ih := fun (hc : ¬ Clash l k.toNat i) => conf_spec hk N (i + 1) (by omega) (by omega) (fun j h1 => by
        rcases Nat.lt_or_ge j i with h3 | h3
        · exact hj j h3
        · rw [show j = i by omega]; exact hc)
      by_cases c1 : (l.getD i (⟨false, 0, ByteArray.empty⟩ : api_Copy)).Valid = true
      · rw [if_pos c1]
        by_cases c2 : (l.getD i (⟨false, 0, ByteArray.empty⟩ : api_Copy)).Seq = (l.getD k.toNat (⟨false, 0, ByteArray.empty⟩ : api_Copy)).Seq
        · rw [if_pos c2]
          by_cases c3 : (l.getD i (⟨false, 0, ByteArray.empty⟩ : api_Copy)).Text = (l.getD k.toNat (⟨false, 0, ByteArray.empty⟩ : api_Copy)).Text
          · rw [if_neg (fun x => x c3)]
            exact ih (fun x => x.2.2 c3)
          · rw [if_pos c3]
            exact .inr ⟨rfl, i, hlt, c1, c2, c3⟩
        · rw [if_neg c2]
          exact ih (fun x => c2 x.2.1)
      · rw [if_neg c1]
        exact ih (fun x => c1 x.1)
    · rw [if_neg (by omega)]
      exact .inl ⟨rfl, fun j h1 => hj j (by omega)⟩
theorem choose_spec (l : List api_Copy) (hl : l.length ≤ 1000) :
    (copies_Choose l = some (-1, 12) ∧ ∀ j, j < l.length → (l.getD j zC).Valid = false) ∨
    (∃ k : Nat, k < l.length ∧ (l.getD k zC).Valid = true ∧ (∀ j, j < l.length → (l.getD j zC).Valid = true → (l.getD j zC).Seq ≤ (l.getD k zC).Seq) ∧
      ((copies_Choose l = some (-1, 13) ∧ ∃ j, j < l.length ∧ Clash l k j) ∨ (copies_Choose l = some ((k : Int), 0) ∧ ∀ j, j < l.length → ¬ Clash l k j))) := by
  unfold copies_Choose copies_best__copies_Choose_1
  have hF := fuel_big
  generalize FUEL = N at hF ⊢
  obtain ⟨y, h1, h2⟩ := best_spec (l := l) N 0 (-1) (.inl ⟨rfl, fun j h => absurd h (by omega)⟩) (by omega) (by omega)
  rw [h1]; simp only [Option.bind_some]
  rcases h2 with ⟨h2, h3⟩ | ⟨h2, h3, h4, h5⟩
  · rw [if_pos (by omega)]
    exact .inl ⟨rfl, h3⟩
  · rw [if_neg (by omega)]
    refine .inr ⟨y.toNat, by omega, h4, h5, ?_⟩
    rcases conf_spec (l := l) (k := y) ⟨h2, h3⟩ N 0 (by omega) (by omega) (fun j h => absurd h (by omega)) with ⟨h6, h7⟩ | ⟨h6, h7⟩
    · rw [h6]
      refine .inr ⟨?_, h7⟩
      rw [Int.toNat_of_nonneg h2]; rfl
    · rw [h6]
      exact .inl ⟨rfl, h7⟩
end Go.Proofs
namespace Go.Proofs
open Go.VG
end Go.Proofs
namespace Go.Proofs
open Go.VG
theorem keep_l1 {w : UInt64} : ∀ (N i : Nat) (acc : List Bool), 192 - i < N → i ≤ 192 → acc.length = i → ∃ ks, volumegroupmake_Keep_l1 w N acc i = some ks
  | 0, _, _, h, _, _ => absurd h (by omega)
  | N + 1, i, acc, h, hi, ha => by
    show ∃ ks, volumegroupmake_Keep_l1_b _ _ _ _ = _
    unfold volumegroupmake_Keep_l1_b
    by_cases hlt : i < 192
    · rw [if_pos (by omega), grd_t (inLen_of (by omega))]
      exact keep_l1 N (i + 1) _ (by omega) (by omega) (by simp [ha])
    · rw [if_neg (by omega)]; exact ⟨_, rfl⟩
theorem keep_ok (w : UInt64) : ∃ ks, volumegroupmake_Keep w = some ks := by
  unfold volumegroupmake_Keep
  have hF := fuel_big
  generalize FUEL = N at hF ⊢
  obtain ⟨ks, h⟩ := keep_l1 (w := w) N 0 [] (by omega) (by omega) rfl
  exact ⟨ks, by rw [h]; rfl⟩
end Go.Proofs
namespace Go.VG
def ddef (f : FuncId) (cap : List Value) : Deferred := { target := .fn (.func f) cap.toArray, args := #[] }
def DSpec (P : Program) (W : World) (f : FuncId) (cap : List Value) (pre post : List HP) : Prop :=
  ∀ F w, St W w (pre ++ F) → ∀ u, CallsDIn (fw none) 0 P f cap.toArray u w fun e u' w' => u' = u ∧ (∃ v, e = .returned v) ∧ St W w' (post ++ F)
section
variable {P : Program} {n : Env} {W : World} {s : Slots} {H : List HP} {ops : Array Oper} {Q : Exit → Act → World → Prop} {ty : TypeId} {pos : String} {after : Array Edge}
theorem DSpec.of_body {f : FuncId} {fn : Func} {c : Code} {cap : List Value} {pre post : List HP} {X : Type} {res : X → Value} {pf : X → Prop}
    (hf : P.funcs[f]? = some fn) (hb : fn.body = some c) {m : Nat} (hn : fn.ntmps = m) (hargs : Nat.ble cap.length m = true)
    (h : ∀ F, CJ P ⟨m, none, []⟩ W (bodyPost P fn (CPost W res pf (fun _ F => post ++ F) F)) c (args0 0 cap) (pre ++ F)) : DSpec P W f cap pre post := by
  intro F w hs u
  refine CallsDIn.mono (callsDIn_of_wp (u := u) hf hb trivial (h F _ w ⟨?_, rfl, ?_⟩ hs)) ?_
  · have : cap.length ≤ m := by simpa using hargs
    simp [hn]; omega
  · intro i v hl
    obtain ⟨_, h2⟩ := look_args0 cap 0 i v hl
    have hlt : i < cap.length := by
      rcases Nat.lt_or_ge i cap.length with h' | h'
      · exact h'
      · simp [List.getElem?_eq_none h'] at h2
    simp only [Nat.sub_zero] at h2
    rw [Array.getElem?_append_left (by simpa using hlt)]
    simpa using h2
  · rintro e u' w' ⟨h1, x, h2, _, h3⟩
    exact ⟨h1, ⟨_, h2⟩, h3⟩
theorem RJ_defer {fo : Operand} {f : FuncId} {cap : List Value} {rest : List Oper} (hfo : ev s fo = some (.func (.func f) #[] cap.toArray)) (hr : n.r = none)
    (h : RJ P ⟨n.n, none, ddef f cap :: n.ds⟩ W ops Q rest s H) : RJ P n W ops Q (⟨none, .defer { callee := .value fo, args := #[], argTypes := #[] }, ty, pos, after, none⟩ :: rest) s H := by
  intro a w hf hs
  refine wpListIn_plain rfl fun K hK => ?_
  refine ⟨fun _ _ => trivial, ?_⟩
  obtain ⟨nn, r, ds⟩ := n
  simp only at hr
  subst hr
  have he : (execOp a.eval ⟨none, .defer { callee := .value fo, args := #[], argTypes := #[] }, ty, pos, after, none⟩).run P w = .ok (.defer (ddef f cap)) w := by
    simp [execOp, resolve, hf.eval hfo, Deferred.ofValue, ddef]
  have h1 : Oper.semAt none a.eval ⟨none, .defer { callee := .value fo, args := #[], argTypes := #[] }, ty, pos, after, none⟩ = execOp a.eval ⟨none, .defer { callee := .value fo, args := #[], argTypes := #[] }, ty, pos, after, none⟩ := rfl
  show Oper.uponIn _ _ _ _ _ _ _ ((Oper.semAt none a.eval _).run P w)
  rw [h1, he, Oper.uponIn_defer]
  refine hK _ w (h _ w ⟨hf.size, ?_, hf.slot⟩ hs)
  show ddef f cap :: a.defers = _
  rw [hf.defers]
theorem QJ_endD1 {fn : Func} {R : Ending → World → Prop} {v : Value} {m : Nat} {f : FuncId} {cap : List Value} {pre post F : List HP} {e : Exit} (he : e = .ret ∨ e = .normal) (hen : Enters P f) (hp : Ent H (pre ++ F)) (hd : DSpec P W f cap pre post)
    (hr : ∀ a w, Fits ⟨m, none, [ddef f cap]⟩ s a → St W w (post ++ F) → (results fn a.tmps).run P w = .ok v w) (h : ∀ w, St W w (post ++ F) → R (.returned v) w) :
    QJ ⟨m, none, [ddef f cap]⟩ W (bodyPostM (fw none) 0 P fn R) e s H := fun a w hf hs => by
  have h1 : LeavesInM (fw none) 0 P fn a.tmps R a.defers .returning w := by
    rw [hf.defers]
    refine ⟨by simp, .inr ⟨(fun h => by cases h), .func f, cap.toArray, f, cap.toArray, rfl, (by simp only [ddef, invoke, Array.append_empty, Array.empty_append]; exact hen _ _), fun _ _ => trivial, ?_⟩⟩
    refine (hd F w (hs.imp hp) .returning).mono ?_
    rintro e u' w' ⟨rfl, ⟨x, rfl⟩, h3⟩
    exact ⟨v, hr a w' hf h3, h w' h3⟩
  rcases he with rfl | rfl
  · exact h1
  · exact h1
end
end Go.VG
set_option linter.unusedSimpArgs false
set_option linter.unusedVariables false
set_option maxRecDepth 20000
set_option maxHeartbeats 4000000
namespace Go.Proofs
open Go.VG
def copies_Settle_1 (p0 : Int) (p1_Valid : Bool) (p1_Seq : Int) (p1_Text : ByteArray) : Option (Bool × Int × ByteArray) :=
  if (p0 ≠ (0 : Int)) then
    some ((false, (0 : Int), ByteArray.empty))
  else
    some (p1_Valid, p1_Seq, p1_Text)
theorem LD_copies_Settle_1 {W : World} {bp0 : Nat} {bp1 : Nat} {p0 : Int} {p1_Valid : Bool} {p1_Seq : Int} {p1_Text : ByteArray} {r : Bool × Int × ByteArray} (h : copies_Settle_1 p0 p1_Valid p1_Seq p1_Text = some r) :
    DSpec Try.prog W 77 [ptr bp0 0, ptr bp1 0] [blk bp0 30 [.int .i64 p0], blk bp1 34 [.bool p1_Valid, .int .i64 p1_Seq, .string p1_Text]] [blk bp0 30 [.int .i64 p0], blk bp1 34 [.bool r.1, .int .i64 r.2.1, .string r.2.2]] := by
  refine DSpec.of_body (X := Unit) (res := fun _ => .tuple #[]) (pf := fun _ => True) Try.func77 rfl Try.ntmps77 rfl (fun F => ?_)
  show CJ _ _ _ _ _ _ (_ :: _ :: F)
  unfold copies_Settle_1 at h
  refine CJ_seq ?_
  refine CJ_region ?_
  refine RJ_op rfl (OJ_V (V_load rfl foc0 rfl Try.isAgg30) rfl ?_)
  refine RJ_op rfl (OJ_P (P_neq (a := p0) (b := (0 : Int)) rfl rfl) rfl ?_)
  refine RJ_nil ?_
  refine QJ_then ?_
  refine CJ_condP rfl bT_dec (fun hg1 => ?_) (fun hg1 => ?_)
  ·
    replace h := ite_t hg1 h
    refine CJ_region ?_
    refine RJ_op rfl (OJ_P (P_build rfl (bld_34)) rfl ?_)
    refine RJ_op rfl (O_storeN rfl rfl foc1 Try.sizeOf34 rfl rfl rfl ?_)
    refine RJ_nil ?_
    have hE := Option.some.inj h
    subst hE
    refine QJ_endN (res0 Try.results77) ?_
    refine CSpec.close () ?_ ?_ Ent.refl
    · rfl
    · trivial
  ·
    replace h := ite_f hg1 h
    refine CJ_skip ?_
    have hE := Option.some.inj h
    subst hE
    refine QJ_endN (res0 Try.results77) ?_
    refine CSpec.close () ?_ ?_ Ent.refl
    · rfl
    · trivial
def copies_Settle_l1_b (l : List Dvc) (rec : ArrS → Nat → Option ((ArrS) ⊕ (api_Copy × Int × ArrS))) (x25 : ArrS) (x26 : Nat) : Option ((ArrS) ⊕ (api_Copy × Int × ArrS)) :=
  if (((x26 : Nat) : Int) < ((l.length : Nat) : Int)) then
    Option.bind (copies_look (l.getD x26 dv0) x25) fun r28 =>
    if (r28.error = (11 : Int)) then
      Option.bind (ring_Clear (l.getD x26 dv0) x25) fun r31 =>
      if (r31.1 ≠ (0 : Int)) then
        Option.bind (copies_Settle_1 r31.1 false (0 : Int) ByteArray.empty) fun r33 =>
        some (.inr (((⟨r33.1, r33.2.1, r33.2.2⟩ : api_Copy), r31.1, r31.2)))
      else
        rec r31.2 (x26 + 1)
    else
      rec x25 (x26 + 1)
  else
    some (.inl x25)
def copies_Settle_l1 (l : List Dvc) : Nat → ArrS → Nat → Option ((ArrS) ⊕ (api_Copy × Int × ArrS))
  | 0, _, _ => none
  | n + 1, x25, x26 => copies_Settle_l1_b l (copies_Settle_l1 l n) x25 x26
def copies_Settle (l : List Dvc) (s : ArrS) : Option (api_Copy × Int × ArrS) :=
  Option.bind (copies_Scan l s) fun r5 =>
  if ((0 : Int) < ((r5.2.1.length : Nat) : Int)) then
    Option.bind (copies_Settle_1 (6 : Int) false (0 : Int) ByteArray.empty) fun r10 =>
    some (((⟨r10.1, r10.2.1, r10.2.2⟩ : api_Copy), (6 : Int), s))
  else
    Option.bind (copies_Choose r5.1) fun r12 =>
    if (r12.2 ≠ (0 : Int)) then
      Option.bind (copies_Settle_1 r12.2 false (0 : Int) ByteArray.empty) fun r14 =>
      some (((⟨r14.1, r14.2.1, r14.2.2⟩ : api_Copy), r12.2, s))
    else
      Option.bind (copies_Next r5.2.2) fun r16 =>
      if (r16.2 ≠ (0 : Int)) then
        Option.bind (copies_Settle_1 r16.2 false (0 : Int) ByteArray.empty) fun r18 =>
        some (((⟨r18.1, r18.2.1, r18.2.2⟩ : api_Copy), r16.2, s))
      else
        seqO (copies_Settle_l1 l FUEL s 0) fun a24 =>
        grd (decide (0 ≤ r12.1 ∧ r12.1 < (r5.1.length : Int))) <|
        Option.bind (copies_Commit l r16.1 (((r5.1.getD ((r12.1).toNat) (⟨false, 0, ByteArray.empty⟩ : api_Copy))).Text) a24) fun r36 =>
        grd (decide (0 ≤ r12.1 ∧ r12.1 < (r5.1.length : Int))) <|
        Option.bind (copies_Settle_1 r36.2.1 true r16.1 (((r5.1.getD ((r12.1).toNat) (⟨false, 0, ByteArray.empty⟩ : api_Copy))).Text)) fun r38 =>
        some (((⟨r38.1, r38.2.1, r38.2.2⟩ : api_Copy), r36.2.1, r36.2.2))
theorem L_copies_Settle {W : World} {Al : HP} {vl : Value} {hsl : List IfH} {bs : Nat} {l : List Dvc} {s : ArrS} {r : api_Copy × Int × ArrS} (rl : Reads Al tyDev vl hsl) (h : copies_Settle l s = some r) :
    CSpec Try.prog W 52 [vl] [Al, Rs (DevP bs) l hsl, Arr bs s] (fun x : Unit => .tuple #[.agg #[.bool r.1.Valid, .int .i64 r.1.Seq, .string r.1.Text], .int .i64 r.2.1]) (fun _ => True) (fun x F => Al :: Rs (DevP bs) l hsl :: Arr bs r.2.2 :: F) := by
  refine CSpec.of_bodyM Try.func52 rfl Try.ntmps52 rfl (fun F => ?_)
  show CJ _ _ _ _ _ _ (_ :: _ :: _ :: F)
  unfold copies_Settle at h
  refine CJ_pure (len_of rl del0) (fun hlen1 => ?_)
  refine CJ_pure (fun h hh => Rs_len (stars_perm (del1 (A := Rs (DevP bs) l hsl)).out h hh)) (fun hdl2 => ?_)
  refine CJ_seq ?_
  refine CJ_region ?_
  refine RJ_op rfl (O_alloc Try.zeroValue34 rfl rfl (fun b3 => ?_))
  refine RJ_op rfl (O_alloc Try.zeroValue30 rfl rfl (fun b4 => ?_))
  refine RJ_nil ?_
  refine QJ_then ?_
  refine CJ_seq ?_
  refine CJ_region ?_
  refine RJ_op rfl (OJ_P (P_makeFunc rfl rfl) rfl ?_)
  refine RJ_defer rfl rfl ?_
  refine RJ_nil ?_
  refine QJ_then ?_
  refine CJ_seq ?_
  refine CJ_region ?_
  refine RJ_op rfl (OJ_P (P_move rfl) rfl ?_)
  obtain ⟨r5, hr6, h⟩ := bind_e h
  refine RJ_op rfl (O_call (L_copies_Scan rl hr6) rfl Try.call41 (Dels.cons del2 (Dels.cons del2 (Dels.cons del2 Dels.nil))) rfl (fun X7 _ => ?_))
  refine RJ_op rfl (OJ_P (P_move rfl) rfl ?_)
  refine RJ_op rfl (OJ_P (P_extract (v := X7.1.v) rfl rfl) rfl ?_)
  refine RJ_op rfl (OJ_P (P_extract (v := X7.2.v) rfl rfl) rfl ?_)
  refine RJ_op rfl (OJ_P (P_extract rfl rfl) rfl ?_)
  refine RJ_op rfl (OJ_P (P_assign rfl) rfl ?_)
  refine RJ_op rfl (OJ_P (P_assign rfl) rfl ?_)
  refine RJ_op rfl (OJ_P (P_assign rfl) rfl ?_)
  refine RJ_nil ?_
  refine QJ_then ?_
  refine CJ_seq ?_
  refine CJ_seq ?_
  refine CJ_region ?_
  refine RJ_op rfl (OJ_P (P_move rfl) rfl ?_)
  refine RJ_op rfl (OJ_V (V_len rfl foc4 (Reads.sl _ _ _) Try.runUnderlying38) rfl ?_)
  refine RJ_op rfl (OJ_P (P_gtr (a := ((r5.2.1.length : Nat) : Int)) (b := (0 : Int)) rfl rfl) rfl ?_)
  refine RJ_nil ?_
  refine QJ_ent (Ent.take del0 (Ent.take del0 (Ent.take del0 (Ent.take del0 (Ent.take del1 (Ent.take del1 (Ent.drop Ent.refl))))))) ?_
  refine QJ_then ?_
  refine CJ_condP rfl bT_dec (fun hg1 => ?_) (fun hg1 => ?_)
  ·
    replace h := ite_t hg1 h
    refine CJ_seq ?_
    refine CJ_region ?_
    refine RJ_op rfl (OJ_V (V_loadN rfl foc5 Try.isAgg34 Try.sizeOf34 rfl rfl) rfl ?_)
    refine RJ_op rfl (O_storeN rfl rfl foc5 Try.sizeOf34 rfl rfl rfl ?_)
    refine RJ_op rfl (O_store rfl rfl foc4 rfl rfl Try.sizeOf30 ?_)
    refine RJ_nil ?_
    refine QJ_then ?_
    refine CJ_ret ?_
    refine QJ_then_ret ?_
    obtain ⟨r10, hr11, h⟩ := bind_e h
    have hE := Option.some.inj h
    subst hE
    refine QJ_endD1 (.inl rfl) Try.call77 (Ent.take del4 (Ent.take del4 Ent.refl)) (LD_copies_Settle_1 hr11) (resA2 Try.results52 (RV_cellN rfl foc1 Try.isAgg34 Try.sizeOf34 rfl rfl) (RV_cell rfl foc0 rfl Try.isAgg30)) ?_
    refine CSpec.close () ?_ ?_ (Ent.take del2 (Ent.take del2 (Ent.take del2 (Ent.drop (Ent.drop (Ent.drop Ent.refl))))))
    · rfl
    · trivial
  ·
    replace h := ite_f hg1 h
    refine CJ_skip ?_
    refine QJ_then ?_
    refine CJ_seq ?_
    refine CJ_region ?_
    refine RJ_op rfl (OJ_P (P_move rfl) rfl ?_)
    obtain ⟨r12, hr13, h⟩ := bind_e h
    refine RJ_op rfl (O_call (L_copies_Choose (Reads.sl _ _ _) hr13) rfl Try.call48 (Dels.cons del3 Dels.nil) rfl (fun _ _ => ?_))
    refine RJ_op rfl (OJ_P (P_move rfl) rfl ?_)
    refine RJ_op rfl (OJ_P (P_extract rfl rfl) rfl ?_)
    refine RJ_op rfl (OJ_P (P_extract rfl rfl) rfl ?_)
    refine RJ_op rfl (OJ_P (P_assign rfl) rfl ?_)
    refine RJ_op rfl (O_store rfl rfl foc4 rfl rfl Try.sizeOf30 ?_)
    refine RJ_nil ?_
    refine QJ_then ?_
    refine CJ_seq ?_
    refine CJ_seq ?_
    refine CJ_region ?_
    refine RJ_op rfl (OJ_V (V_load rfl foc4 rfl Try.isAgg30) rfl ?_)
    refine RJ_op rfl (OJ_P (P_neq (a := r12.2) (b := (0 : Int)) rfl rfl) rfl ?_)
    refine RJ_nil ?_
    refine QJ_then ?_
    refine CJ_condP rfl bT_dec (fun hg2 => ?_) (fun hg2 => ?_)
    ·
      replace h := ite_t hg2 h
      refine CJ_seq ?_
      refine AJ_startH 8 (by kernel_rfl) rfl ?_
      refine AJ_takeV 0 1 rfl (by kernel_rfl) rfl (by kernel_rfl) (by kernel_rfl) (GY_none rfl) Ent.refl (V_loadN rfl foc5 Try.isAgg34 Try.sizeOf34 rfl rfl) rfl (fun _ _ _ _ h => h) ?_
      refine AJ_takeV 1 3 rfl (by kernel_rfl) rfl (by kernel_rfl) (by kernel_rfl) (GY_none rfl) Ent.refl (V_load rfl foc4 rfl Try.isAgg30) rfl (fun _ _ _ _ h => h) ?_
      refine AJ_op 2 7 rfl (by kernel_rfl) rfl (GY_none rfl) (O_storeN rfl rfl foc5 Try.sizeOf34 rfl rfl rfl ?_)
      refine ⟨fun _ => Ent.refl, ?_⟩
      refine AJ_op 3 15 rfl (by kernel_rfl) rfl (GY_none rfl) (O_store rfl rfl foc4 rfl rfl Try.sizeOf30 ?_)
      refine ⟨fun h => absurd h (by decide), ?_⟩
      refine AJ_done (by kernel_rfl) ?_
      refine QJ_then ?_
      refine CJ_ret ?_
      refine QJ_then_ret ?_
      obtain ⟨r14, hr15, h⟩ := bind_e h
      have hE := Option.some.inj h
      subst hE
      refine QJ_endD1 (.inl rfl) Try.call77 (Ent.take del4 (Ent.take del4 Ent.refl)) (LD_copies_Settle_1 hr15) (resA2 Try.results52 (RV_cellN rfl foc1 Try.isAgg34 Try.sizeOf34 rfl rfl) (RV_cell rfl foc0 rfl Try.isAgg30)) ?_
      refine CSpec.close () ?_ ?_ (Ent.take del3 (Ent.take del3 (Ent.take del3 (Ent.drop (Ent.drop (Ent.drop Ent.refl))))))
      · rfl
      · trivial
    ·
      replace h := ite_f hg2 h
      refine CJ_skip ?_
      refine QJ_then ?_
      refine CJ_seq ?_
      refine CJ_region ?_
      refine RJ_op rfl (OJ_P (P_move rfl) rfl ?_)
      obtain ⟨r16, hr17, h⟩ := bind_e h
      refine RJ_op rfl (O_call (L_copies_Next hr17) rfl Try.call50 Dels.nil rfl (fun _ _ => ?_))
      refine RJ_op rfl (OJ_P (P_move rfl) rfl ?_)
      refine RJ_op rfl (OJ_P (P_extract rfl rfl) rfl ?_)
      refine RJ_op rfl (OJ_P (P_extract rfl rfl) rfl ?_)
      refine RJ_op rfl (OJ_P (P_assign rfl) rfl ?_)
      refine RJ_op rfl (O_store rfl rfl foc4 rfl rfl Try.sizeOf30 ?_)
      refine RJ_nil ?_
      refine QJ_then ?_
      refine CJ_seq ?_
      refine CJ_seq ?_
      refine CJ_region ?_
      refine RJ_op rfl (OJ_V (V_load rfl foc4 rfl Try.isAgg30) rfl ?_)
      refine RJ_op rfl (OJ_P (P_neq (a := r16.2) (b := (0 : Int)) rfl rfl) rfl ?_)
      refine RJ_nil ?_
      refine QJ_then ?_
      refine CJ_condP rfl bT_dec (fun hg3 => ?_) (fun hg3 => ?_)
      ·
        replace h := ite_t hg3 h
        refine CJ_seq ?_
        refine AJ_startH 8 (by kernel_rfl) rfl ?_
        refine AJ_takeV 0 1 rfl (by kernel_rfl) rfl (by kernel_rfl) (by kernel_rfl) (GY_none rfl) Ent.refl (V_loadN rfl foc5 Try.isAgg34 Try.sizeOf34 rfl rfl) rfl (fun _ _ _ _ h => h) ?_
        refine AJ_takeV 1 3 rfl (by kernel_rfl) rfl (by kernel_rfl) (by kernel_rfl) (GY_none rfl) Ent.refl (V_load rfl foc4 rfl Try.isAgg30) rfl (fun _ _ _ _ h => h) ?_
        refine AJ_op 2 7 rfl (by kernel_rfl) rfl (GY_none rfl) (O_storeN rfl rfl foc5 Try.sizeOf34 rfl rfl rfl ?_)
        refine ⟨fun _ => Ent.refl, ?_⟩
        refine AJ_op 3 15 rfl (by kernel_rfl) rfl (GY_none rfl) (O_store rfl rfl foc4 rfl rfl Try.sizeOf30 ?_)
        refine ⟨fun h => absurd h (by decide), ?_⟩
        refine AJ_done (by kernel_rfl) ?_
        refine QJ_then ?_
        refine CJ_ret ?_
        refine QJ_then_ret ?_
        obtain ⟨r18, hr19, h⟩ := bind_e h
        have hE := Option.some.inj h
        subst hE
        refine QJ_endD1 (.inl rfl) Try.call77 (Ent.take del4 (Ent.take del4 Ent.refl)) (LD_copies_Settle_1 hr19) (resA2 Try.results52 (RV_cellN rfl foc1 Try.isAgg34 Try.sizeOf34 rfl rfl) (RV_cell rfl foc0 rfl Try.isAgg30)) ?_
        refine CSpec.close () ?_ ?_ (Ent.take del3 (Ent.take del3 (Ent.take del3 (Ent.drop (Ent.drop (Ent.drop Ent.refl))))))
        · rfl
        · trivial
      ·
        replace h := ite_f hg3 h
        refine CJ_skip ?_
        refine QJ_then ?_
        refine CJ_seq ?_
        refine CJ_seq ?_
        refine CJ_region ?_
        refine RJ_op rfl (OJ_P (P_move rfl) rfl ?_)
        refine RJ_op rfl (OJ_V (VJ_eq (V_len rfl foc1 rl Try.runUnderlying67) (congrArg (fun z : Nat => Value.int .i64 (z : Int)) (hdl2).symm)) rfl ?_)
        refine RJ_op rfl (OJ_P (P_move rfl) rfl ?_)
        refine RJ_nil ?_
        refine QJ_then ?_
        obtain ⟨y22, hl20, hK21⟩ := seq_e h
        refine CJ_cutT (X := ArrS) [10, 11, 12, 44, 45, 46, 47, 48, 49, 50, 51, 52, 53, 54, 55, 56, 57, 58, 59] (fun a24 => ([] : Slots)) (fun a24 R => Arr bs a24 :: R) (fun a24 => y22 = .inl a24) (Dels.cons del3 Dels.nil) ?_ ?_
        ·
          refine CJ_block ?_
          refine CJ_loopR (X := Nat × ArrS × Nat) [10, 11, 12, 44, 45, 46, 47, 48, 49, 50, 51, 52, 53, 54, 55, 56, 57, 58, 59] (fun ⟨n, x25, x26⟩ => ([(44, .int .i64 (((x26 : Nat) : Int)))] : Slots)) (fun ⟨n, x25, x26⟩ R => Arr bs x25 :: R) (fun ⟨n, x25, x26⟩ => copies_Settle_l1 l n x25 x26 = some y22) (fun ⟨n, x25, x26⟩ => n) ⟨FUEL, s, 0⟩ ?_ ?_ (Ent.take del3 Ent.refl) ?_
          · exact hl20
          · exact ⟨rfl, True.intro⟩
          ·
            rintro ⟨n, x25, x26⟩ h
            cases n with
            | zero => exact none_e h
            | succ n => ?_
            replace h : copies_Settle_l1_b l (copies_Settle_l1 l n) x25 x26 = some y22 := h
            unfold copies_Settle_l1_b at h
            show CJ _ _ _ _ _ (([(44, .int .i64 (((x26 : Nat) : Int)))] : Slots) ++ forget _ _) (Arr bs x25 :: _)
            refine CJ_seq ?_
            refine CJ_region ?_
            refine RJ_op rfl (OJ_P (P_lss (a := ((x26 : Nat) : Int)) (b := ((l.length : Nat) : Int)) rfl rfl) rfl ?_)
            refine RJ_nil ?_
            refine QJ_then ?_
            refine CJ_seq ?_
            refine CJ_condP rfl bT_dec (fun hg4 => ?_) (fun hg4 => ?_)
            ·
              replace h := ite_t hg4 h
              refine CJ_skip ?_
              refine QJ_then ?_
              refine CJ_seq ?_
              refine CJ_block ?_
              refine CJ_seq ?_
              refine CJ_region ?_
              refine RJ_op rfl (OJ_V (V_index (i := x26) rfl rfl rfl (by have hz : x26 < l.length := (by omega); have hy := hdl2; omega) foc2 rl Try.runUnderlying67 Try.sizeOf26) rfl ?_)
              refine RJ_ent (Ent.trans (Ent.take del3 Ent.refl) (Rs_at (fun _ _ => Dup_DevP) (dx := dv0) (dh := tyDev.dflt) (i := x26) (by omega))) ?_
              refine RJ_op rfl (OJ_V (V_loadE rfl rfl (by have hz : x26 < l.length := (by omega); have hy := hdl2; omega) foc4 rl rfl rfl Try.isAgg26) rfl ?_)
              refine RJ_op rfl (OJ_P (P_assign rfl) rfl ?_)
              refine RJ_nil ?_
              refine QJ_then ?_
              refine CJ_seq ?_
              refine CJ_region ?_
              refine RJ_op rfl (OJ_P (P_move rfl) rfl ?_)
              obtain ⟨r28, hr29, h⟩ := bind_e h
              refine RJ_op rfl (O_call (L_copies_look hr29) rfl Try.call73 (Dels.cons del0 (Dels.cons del1 Dels.nil)) rfl (fun _ _ => ?_))
              refine RJ_op rfl (O_alloc Try.zeroValue140 rfl rfl (fun b30 => ?_))
              refine RJ_op rfl (O_storeN rfl rfl foc0 Try.sizeOf140 rfl rfl rfl ?_)
              refine RJ_nil ?_
              refine QJ_then ?_
              refine CJ_seq ?_
              refine CJ_region ?_
              refine RJ_op rfl (OJ_P (P_fieldAddr rfl ⟨_, _, _, Try.runUnderlying140, rfl, rfl, Try.sizeOf30, rfl⟩) rfl ?_)
              refine RJ_op rfl (OJ_V (V_load rfl foc0 rfl Try.isAgg30) rfl ?_)
              refine RJ_op rfl (OJ_P (P_eql (a := r28.error) (b := (11 : Int)) rfl rfl) rfl ?_)
              refine RJ_nil ?_
              refine QJ_ent (Ent.take del1 (Ent.take del1 (Ent.take del1 (Ent.take del1 (Ent.take del1 (Ent.take del1 (Ent.take del1 (Ent.drop Ent.refl)))))))) ?_
              refine QJ_then ?_
              refine CJ_condP rfl bT_dec (fun hg5 => ?_) (fun hg5 => ?_)
              ·
                replace h := ite_t hg5 h
                refine CJ_seq ?_
                refine CJ_region ?_
                refine RJ_op rfl (OJ_P (P_move rfl) rfl ?_)
                obtain ⟨r31, hr32, h⟩ := bind_e h
                refine RJ_op rfl (O_call (L_ring_Clear hr32) rfl Try.call29 (Dels.cons del0 (Dels.cons del0 Dels.nil)) rfl (fun _ _ => ?_))
                refine RJ_op rfl (OJ_P (P_assign rfl) rfl ?_)
                refine RJ_nil ?_
                refine QJ_ent (Ent.take del1 (Ent.take del1 (Ent.take del1 (Ent.take del1 (Ent.take del1 (Ent.take del1 (Ent.drop Ent.refl))))))) ?_
                refine QJ_then ?_
                refine CJ_seq ?_
                refine CJ_region ?_
                refine RJ_op rfl (OJ_P (P_move rfl) rfl ?_)
                refine RJ_op rfl (OJ_P (P_neq (a := r31.1) (b := (0 : Int)) rfl rfl) rfl ?_)
                refine RJ_nil ?_
                refine QJ_then ?_
                refine CJ_condP rfl bT_dec (fun hg6 => ?_) (fun hg6 => ?_)
                ·
                  replace h := ite_t hg6 h
                  refine CJ_seq ?_
                  refine CJ_region ?_
                  refine RJ_op rfl (OJ_V (V_loadN rfl foc5 Try.isAgg34 Try.sizeOf34 rfl rfl) rfl ?_)
                  refine RJ_op rfl (OJ_P (P_move rfl) rfl ?_)
                  refine RJ_op rfl (O_storeN rfl rfl foc5 Try.sizeOf34 rfl rfl rfl ?_)
                  refine RJ_op rfl (O_store rfl rfl foc4 rfl rfl Try.sizeOf30 ?_)
                  refine RJ_nil ?_
                  refine QJ_then ?_
                  refine CJ_ret ?_
                  refine QJ_block_ret ?_
                  refine QJ_then_ret ?_
                  refine QJ_round_ret ?_
                  refine QJ_block_ret ?_
                  refine QJ_then_ret ?_
                  obtain ⟨r33, hr34, h⟩ := bind_e h
                  have hE := Option.some.inj h
                  replace hE := seq_inr hK21 hE.symm
                  subst hE
                  refine QJ_endD1 (.inl rfl) Try.call77 (Ent.take del4 (Ent.take del4 Ent.refl)) (LD_copies_Settle_1 hr34) (resA2 Try.results52 (RV_cellN rfl foc1 Try.isAgg34 Try.sizeOf34 rfl rfl) (RV_cell rfl foc0 rfl Try.isAgg30)) ?_
                  refine CSpec.close () ?_ ?_ (Ent.take del5 (Ent.take del3 (Ent.take del2 (Ent.drop (Ent.drop (Ent.drop Ent.refl))))))
                  · rfl
                  · trivial
                ·
                  replace h := ite_f hg6 h
                  refine CJ_skip ?_
                  refine QJ_block_normal ?_
                  refine QJ_then ?_
                  refine CJ_region ?_
                  refine RJ_op rfl (OJ_P (PJ_eq (P_add (a := ((x26 : Nat) : Int)) (b := (1 : Int)) rfl rfl (by omega)) rfl) rfl ?_)
                  refine RJ_op rfl (OJ_P (P_move rfl) rfl ?_)
                  refine RJ_nil ?_
                  refine QJ_nextR ⟨n, r31.2, (x26 + 1)⟩ (Nat.lt_succ_self _) ?_ (by repeat (first | exact Kp.base | exact Kp.self | refine Kp.cons rfl ?_ | refine Kp.forget rfl ?_)) ?_ (Ent.take del0 (Ent.take del1 (Ent.take del1 Ent.refl)))
                  · exact h
                  · exact ⟨rfl, True.intro⟩
              ·
                replace h := ite_f hg5 h
                refine CJ_skip ?_
                refine QJ_block_normal ?_
                refine QJ_ent (Ent.take del1 (Ent.take del1 (Ent.take del1 (Ent.take del1 (Ent.take del1 (Ent.take del1 (Ent.drop Ent.refl))))))) ?_
                refine QJ_then ?_
                refine CJ_region ?_
                refine RJ_op rfl (OJ_P (PJ_eq (P_add (a := ((x26 : Nat) : Int)) (b := (1 : Int)) rfl rfl (by omega)) rfl) rfl ?_)
                refine RJ_op rfl (OJ_P (P_move rfl) rfl ?_)
                refine RJ_nil ?_
                refine QJ_nextR ⟨n, x25, (x26 + 1)⟩ (Nat.lt_succ_self _) ?_ (by repeat (first | exact Kp.base | exact Kp.self | refine Kp.cons rfl ?_ | refine Kp.forget rfl ?_)) ?_ (Ent.take del0 (Ent.take del1 (Ent.take del1 Ent.refl)))
                · exact h
                · exact ⟨rfl, True.intro⟩
            ·
              replace h := ite_f hg4 h
              refine CJ_exit ?_
              refine QJ_then_exit ?_
              refine QJ_round_exit ?_
              refine QJ_block_here ?_
              refine QJ_cutR x25 ?_ (by repeat (first | exact Kp.base | exact Kp.self | refine Kp.cons rfl ?_ | refine Kp.forget rfl ?_)) ?_ Ent.refl
              · exact (Option.some.inj h).symm
              · exact True.intro
        ·
          rintro a24 hy35
          replace h := seq_inl hK21 hy35
          show CJ _ _ _ _ _ (([] : Slots) ++ forget _ _) (Arr bs a24 :: _)
          refine CJ_seq ?_
          refine CJ_region ?_
          refine RJ_op rfl (OJ_P (P_move rfl) rfl ?_)
          refine RJ_op rfl (OJ_P (P_move rfl) rfl ?_)
          refine RJ_op rfl (OJ_P (P_move rfl) rfl ?_)
          refine RJ_op rfl (OJ_P (P_move rfl) rfl ?_)
          obtain ⟨hg7, h⟩ := grd_de h
          refine RJ_op rfl (OJ_V (V_index (i := (r12.1).toNat) rfl rfl (Int.toNat_of_nonneg (hg7.1)).symm (by omega) foc1 (Reads.sl _ _ _) Try.runUnderlying66 Try.sizeOf34) rfl ?_)
          refine RJ_op rfl (OJ_P (P_fieldE rfl ⟨_, _, _, Try.runUnderlying34, rfl, rfl, Try.sizeOf9, rfl⟩) rfl ?_)
          refine RJ_op rfl (OJ_V (V_loadE rfl rfl (by omega) foc1 (Reads.sl _ _ _) rfl rfl Try.isAgg9) rfl ?_)
          obtain ⟨r36, hr37, h⟩ := bind_e h
          refine RJ_op rfl (O_call (L_copies_Commit rl hr37) rfl Try.call45 (Dels.cons del2 (Dels.cons del2 (Dels.cons del0 Dels.nil))) rfl (fun _ _ => ?_))
          refine RJ_op rfl (OJ_P (P_move rfl) rfl ?_)
          refine RJ_op rfl (OJ_P (P_extract rfl rfl) rfl ?_)
          refine RJ_op rfl (OJ_P (P_extract rfl rfl) rfl ?_)
          refine RJ_op rfl (O_store rfl rfl foc4 rfl rfl Try.sizeOf30 ?_)
          refine RJ_nil ?_
          refine QJ_then ?_
          refine CJ_seq ?_
          refine AJ_start [Al, Rs (DevP bs) l hsl, Arr bs r36.2.2, sl tyapi_Copy X7.1.v r5.1, blk b4 30 [.int .i64 r36.2.1]] 512 (by kernel_rfl) rfl ?_
          refine AJ_takeP 0 1 rfl (by kernel_rfl) rfl (GY_none rfl) (P_move rfl) rfl (fun _ _ _ _ h => h) ?_
          refine AJ_takeP 1 3 rfl (by kernel_rfl) rfl (GY_none rfl) (P_move rfl) rfl (fun _ _ _ _ h => h) ?_
          refine AJ_takeP 2 7 rfl (by kernel_rfl) rfl (GY_none rfl) (P_move rfl) rfl (fun _ _ _ _ h => h) ?_
          obtain ⟨hg8, h⟩ := grd_de h
          refine AJ_takeV 3 15 rfl (by kernel_rfl) rfl (by kernel_rfl) (by kernel_rfl) (GY_none rfl) (Ent.take del0 (Ent.take del0 (Ent.take del0 (Ent.take del0 (Ent.take del0 Ent.done))))) (V_index (i := (r12.1).toNat) rfl rfl (Int.toNat_of_nonneg (hg8.1)).symm (by omega) foc3 (Reads.sl _ _ _) Try.runUnderlying66 Try.sizeOf34) rfl (fun _ _ _ _ h => h) ?_
          refine AJ_takeP 4 31 rfl (by kernel_rfl) rfl (GY_none rfl) (P_fieldE rfl ⟨_, _, _, Try.runUnderlying34, rfl, rfl, Try.sizeOf9, rfl⟩) rfl (fun _ _ _ _ h => h) ?_
          refine AJ_takeV 5 63 rfl (by kernel_rfl) rfl (by kernel_rfl) (by kernel_rfl) (GY_none rfl) (Ent.take del0 (Ent.take del0 (Ent.take del0 (Ent.take del0 (Ent.take del0 Ent.done))))) (V_loadE rfl rfl (by omega) foc3 (Reads.sl _ _ _) rfl rfl Try.isAgg9) rfl (fun _ _ _ _ h => h) ?_
          refine AJ_takeP 6 127 rfl (by kernel_rfl) rfl (GY_none rfl) (P_build rfl (bld_34_0_1_2 _ _ _)) rfl (fun _ _ _ _ h => h) ?_
          refine AJ_takeV 7 255 rfl (by kernel_rfl) rfl (by kernel_rfl) (by kernel_rfl) (GY_none rfl) (Ent.take del0 (Ent.take del0 (Ent.take del0 (Ent.take del0 (Ent.take del0 Ent.done))))) (V_load rfl foc4 rfl Try.isAgg30) rfl (fun _ _ _ _ h => h) ?_
          refine AJ_op 8 511 rfl (by kernel_rfl) rfl (GY_none rfl) (O_storeN rfl rfl foc5 Try.sizeOf34 rfl rfl rfl ?_)
          refine ⟨fun _ => (Ent.take del0 (Ent.take del0 (Ent.take del0 (Ent.take del0 (Ent.take del0 Ent.done))))), ?_⟩
          refine AJ_op 9 1023 rfl (by kernel_rfl) rfl (GY_none rfl) (O_store rfl rfl foc4 rfl rfl Try.sizeOf30 ?_)
          refine ⟨fun h => absurd h (by decide), ?_⟩
          refine AJ_done (by kernel_rfl) ?_
          refine QJ_then ?_
          refine CJ_ret ?_
          obtain ⟨r38, hr39, h⟩ := bind_e h
          have hE := Option.some.inj h
          subst hE
          refine QJ_endD1 (.inl rfl) Try.call77 (Ent.take del4 (Ent.take del4 Ent.refl)) (LD_copies_Settle_1 hr39) (resA2 Try.results52 (RV_cellN rfl foc1 Try.isAgg34 Try.sizeOf34 rfl rfl) (RV_cell rfl foc0 rfl Try.isAgg30)) ?_
          refine CSpec.close () ?_ ?_ (Ent.take del2 (Ent.take del2 (Ent.take del2 (Ent.drop (Ent.drop (Ent.drop Ent.refl))))))
          · rfl
          · trivial
end Go.Proofs
