/- DiskCandidates: what a disk's sectors have behind power failures. -/
import Derived.Test.YthadblmhhekedaaPTrack
import Derived.Test.YthadblmhhekedaaPFlat
import Derived.Test.YthadblmhhekedaaPDiskBad
import Derived.Test.YthadblmhhekedaaLDiskCandidates
import Derived.Test.YthadblmhhekedaaPKeep
namespace Go.Proofs
open Go.VG
def nsC : List Nat := [5]
def fC (k : Nat) : Nat × Nat := (0, k)
abbrev xC : Dvc := Dvc.span ((0 : Nat) : Int) ((0 : Nat) : Int) ((5 : Nat) : Int)
theorem mapC : MapD nsC xC 5 fC [0] := by
  have h := MapD.span (ns := nsC) (d := 0) (st := 0) (n := 5) (by decide) (by decide) (by decide)
  have e : (fun k => (0, 0 + k)) = fC := by funext k; simp [fC]
  rw [e] at h; exact h
theorem rdLoop {s : ArrS} {K : Nat} (hK : K ≤ 1000) (hdn : s.down = false) (hq : ∀ k, k < 5 → ∀ c, c ∈ cand s (fC k).1 (fC k).2 → c = now s (fC k).1 (fC k).2) {α : Type} {L : Nat → List Sec → Nat → Option (List Sec ⊕ α)} {b1 b2 : α}
    (hL : ∀ N t (k : Nat), L (N + 1) t k = if ((k : Nat) : Int) < (5 : Int) then (if rdC s (0 : Int) (k : Int) ≠ (0 : Int) then some (.inr b1) else grd (decide (smallT t = true)) <| if (¬ (rdTR t (k : Int) (rdV s (0 : Int) (k : Int))) = true) then some (.inr b2) else L N (rdTS t (k : Int) (rdV s (0 : Int) (k : Int)) true) (k + 1)) else some (.inl t)) :
    ∀ (N k : Nat) (t : List Sec), 5 - k < N → k ≤ 5 → SInv nsC 5 fC K s t → ∃ t', SInv nsC 5 fC K s t' ∧ L N t k = some (.inl t')
  | 0, _, _, h, _, _ => absurd h (by omega)
  | N + 1, k, t, h, hk, ht => by
    rw [hL]
    by_cases hlt : k < 5
    · have h1 := ht.rd mapC hdn hlt
      have h2 := mapC.rd s k ht.sz hlt
      rw [h1] at h2
      have h3 := Prod.mk.inj (Option.some.inj h2)
      have hv : rdV s (0 : Int) (k : Int) = now s (fC k).1 (fC k).2 := h3.1.symm
      have hc : rdC s (0 : Int) (k : Int) = 0 := h3.2.symm
      obtain ⟨g1, g2, -⟩ := ht.reads mapC hlt (q := true) (fun _ => hq k hlt)
      rw [if_pos (by omega), if_neg (by rw [hc]; simp), hv, grd_t (decide_eq_true (ht.smallT hK)), if_neg (by rw [g1]; simp)]
      exact rdLoop hK hdn hq hL N (k + 1) _ (by omega) (by omega) g2
    · rw [if_neg (by omega)]
      exact ⟨t, ht, rfl⟩
theorem cands_l1 {l : List volumegroupmake_Step} (hl : l.length ≤ 100) : ∀ (N i : Nat) (t : List Sec) (s : ArrS), l.length - i < N → i ≤ l.length → SInv nsC 5 fC i s t → s.down = false →
    ∃ r, volumegrouplaw04_DiskCandidates_l1 l N t s i = some (.inl r)
  | 0, _, _, _, h, _, _, _ => absurd h (by omega)
  | N + 1, i, t, s, h, hi, hs, hdn => by
    show ∃ r, volumegrouplaw04_DiskCandidates_l1_b _ _ _ _ _ = _
    unfold volumegrouplaw04_DiskCandidates_l1_b
    have hF := fuel_big
    by_cases hlt : i < l.length
    · have hrec : ∀ t s, SInv nsC 5 fC (i + 1) s t → s.down = false → ∃ r, volumegrouplaw04_DiskCandidates_l1 l N t s (i + 1) = some (.inl r) := fun t s h1 h2 => cands_l1 hl N (i + 1) t s (by omega) (by omega) h1 h2
      generalize hS : l.getD i (⟨0, 0, 0, 0⟩ : volumegroupmake_Step) = S
      obtain ⟨k, hk1, hk, hlo, hhi⟩ := at_ok S.At (n := 5) (by omega) (by omega)
      have hk1' : (S.At.tmod 5 + 5).tmod 5 = (k : Int) := hk1
      have hlo' : -65536 < S.At.tmod 5 := hlo
      have hhi' : S.At.tmod 5 < 65536 := hhi
      simp only [lt]
      rw [if_pos (by omega), grd_t (inI64_of (by omega)), hk1']
      have hs1 := hs.mono (Nat.le_succ i)
      have hfail : ∀ t s, SInv nsC 5 fC (i + 1) s t → ∀ (ks : List Bool), SInv nsC 5 fC (i + 1) (rsS s ks) (failedT t) ∧ (rsS s ks).down = false ∧ (∀ k, k < 5 → ∀ c, c ∈ cand (rsS s ks) (fC k).1 (fC k).2 → c = now (rsS s ks) (fC k).1 (fC k).2) ∧ inLen s.writes = true := fun t s h1 ks => by
        obtain ⟨a, b, c⟩ := h1.restart mapC ks
        exact ⟨a, b, c, inLen_of (by have := h1.wr; omega)⟩
      obtain ⟨ks, hks⟩ := keep_ok S.Keep
      rw [hks]; simp only [Option.bind_some]
      by_cases k0 : S.Kind = 0
      · rw [if_pos k0, grd_t (inLen_of (by have := hs.wr; omega)), grd_t (decide_eq_true (hs.smallT (by omega)))]
        obtain ⟨e, s', h1, h2, h3⟩ := hs.write mapC hdn (by omega) (fun i j _ _ e => (Prod.mk.inj e).2) hk (v := S.Value)
        have h4 := mapC.wr s k S.Value hs.sz hk
        rw [h1] at h4
        have h5 := Prod.mk.inj (Option.some.inj h4)
        have he : wrR s (0 : Int) (k : Int) = e := h5.1.symm
        have hs' : wrS s (0 : Int) (k : Int) S.Value = s' := h5.2.symm
        rw [he, hs']
        obtain ⟨f1, f2, f3, f4⟩ := hfail _ _ h2 ks
        split
        · obtain ⟨t', g1, g2⟩ := rdLoop (b1 := .inr false) (b2 := .inr false) (L := volumegrouplaw04_DiskCandidates_l2 l s i (S.At.tmod 5 + 5) ks) (by omega) f2 f3 (fun N t k => by
            show volumegrouplaw04_DiskCandidates_l2_b _ _ _ _ _ _ _ _ = _
            unfold volumegrouplaw04_DiskCandidates_l2_b
            simp only [lt, hS, hk1', hs']) FUEL 0 _ (by omega) (by omega) f1
          rw [grd_t f4, g2, seqO_inl]
          exact hrec _ _ g1 f2
        · rename_i hno
          exact hrec _ _ h2 (by
            cases hd : s'.down
            · rfl
            · exact absurd (.inl hd) hno)
      · rw [if_neg k0]
        by_cases k2 : S.Kind = 2
        · rw [if_pos k2, grd_t (inLen_of (by have := hs.wr; omega))]
          obtain ⟨s', h1, h2, h3⟩ := hs1.flush mapC hdn (fun d hd => by rw [List.mem_singleton.1 hd]; decide)
          have h4 := mapC.fl s hs.sz
          rw [h1] at h4
          have h5 := Prod.mk.inj (Option.some.inj h4)
          have he : flC s (0 : Int) = 0 := by
            have h6 : (0 : Int) = if flC s ((0 : Nat) : Int) = 0 then 0 else flC s ((0 : Nat) : Int) := h5.1
            by_cases h7 : flC s ((0 : Nat) : Int) = 0
            · exact h7
            · rw [if_neg h7] at h6; exact h6.symm
          have hs' : flS s (0 : Int) = s' := h5.2.symm
          rw [if_pos he, hs']
          obtain ⟨f1, f2, f3, f4⟩ := hfail _ _ h2 ks
          split
          · obtain ⟨t', g1, g2⟩ := rdLoop (b1 := .inr false) (b2 := .inr false) (L := volumegrouplaw04_DiskCandidates_l3 s ks) (by omega) f2 f3 (fun N t k => by
              show volumegrouplaw04_DiskCandidates_l3_b _ _ _ _ _ = _
              unfold volumegrouplaw04_DiskCandidates_l3_b
              simp only [hs']) FUEL 0 _ (by omega) (by omega) f1
            rw [grd_t f4, g2, seqO_inl]
            exact hrec _ _ g1 f2
          · exact hrec _ _ h2 h3
        · rw [if_neg k2]
          by_cases k4 : S.Kind = 4
          · rw [if_pos k4, grd_t (inI64_of (by have := Int.tmod_lt_of_pos (S.At.tmod 5 + 5) (show (0 : Int) < 5 by omega); omega)), grd_t (inI64_of (by omega))]
            have h2 := hs1.fuse (m := (1 + (k : Int)).toNat)
            obtain ⟨f1, f2, f3, f4⟩ := hfail _ _ h2 ks
            split
            · obtain ⟨t', g1, g2⟩ := rdLoop (b1 := .inr false) (b2 := .inr false) (L := volumegrouplaw04_DiskCandidates_l5 s (S.At.tmod 5 + 5) ks) (by omega) f2 f3 (fun N t k => by
                show volumegrouplaw04_DiskCandidates_l5_b _ _ _ _ _ _ = _
                unfold volumegrouplaw04_DiskCandidates_l5_b
                simp only [lt, hk1']) FUEL 0 _ (by omega) (by omega) f1
              rw [grd_t f4, g2, seqO_inl]
              exact hrec _ _ g1 f2
            · exact hrec _ _ h2 hdn
          · rw [if_neg k4]
            obtain ⟨f1, f2, f3, f4⟩ := hfail _ _ hs1 ks
            split
            · obtain ⟨t', g1, g2⟩ := rdLoop (b1 := .inr false) (b2 := .inr false) (L := volumegrouplaw04_DiskCandidates_l6 s ks) (by omega) f2 f3 (fun N t k => rfl) FUEL 0 _ (by omega) (by omega) f1
              rw [grd_t f4, g2, seqO_inl]
              exact hrec _ _ g1 f2
            · exact hrec _ _ hs1 hdn
    · rw [if_neg (by omega)]
      exact ⟨_, rfl⟩
theorem diskCandidates (l : List volumegroupmake_Step) : volumegrouplaw04_DiskCandidates l = some true := by
  unfold volumegrouplaw04_DiskCandidates volumegroupmake_Few
  simp only [Option.bind_some, awake04]
  by_cases hst : ((l.length : Nat) : Int) ≤ 24
  · rw [if_neg (by simpa using hst), grd_t (inLen_of (by simp)), if_neg (by decide +kernel)]
    have e : newO [(5 : Int)] = some (mkS [List.replicate 5 0]) := by rfl
    rw [e, Option.elim_some, grd_t (by decide)]
    have hsz : InSz nsC (mkS [List.replicate 5 0]) := inSz_mkS (ims := [List.replicate 5 0])
    have h0 := SInv.start (initial := List.replicate 5 0) mapC hsz rfl coh_mkS (fun d => good_mkS.miss d) rfl rfl rfl (fun k hk => by
      show (nowL (mkS [List.replicate 5 0]) 0).getD k 0 = _
      rw [nowL_mkS]; rfl)
    have hF := fuel_big
    obtain ⟨r, hr⟩ := cands_l1 (l := l) (by omega) FUEL 0 _ _ (by omega) (by omega) h0 rfl
    rw [hr, seqO_inl]
  · rw [if_pos (by simpa using hst)]
end Go.Proofs
