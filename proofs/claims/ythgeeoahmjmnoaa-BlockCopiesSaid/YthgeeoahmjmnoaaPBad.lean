/- Arrays of which only sectors are bad. -/
import Derived.Test.YthgeeoahmjmnoaaPGood2
namespace Go.Proofs
open Go.VG
structure Fine (s : ArrS) : Prop where
  down : s.down = false
  fuse : s.fuse = 0
  miss : ∀ d, (s.drv.getD d d0).miss = false
  nd : (s.bad.map (·.1)).Nodup
theorem Good.fine {s : ArrS} (h : Good s) : Fine s := ⟨h.down, h.fuse, h.miss, by rw [h.bad]; exact List.nodup_nil⟩
section
variable {s : ArrS} {d a : Nat} {v : UInt64}
theorem Fine.chk (hg : Fine s) (hd : d < s.drv.length) (ha : a < s.size d) : cPow s = 0 ∧ cLoc s d = 0 ∧ cPla s d a = 0 ∧ cPre s d = 0 := by
  refine ⟨by simp [cPow, hg.down], ?_, ?_, by simp only [cPre, missI, Int.toNat_natCast, hg.miss d]; rfl⟩
  · rw [cLoc, if_pos (show inR s (d : Int) from ⟨by omega, by omega⟩)]
  · rw [cPla, sizeI_of hd, if_pos (by omega)]
theorem Fine.rdC (hg : Fine s) (hd : d < s.drv.length) (ha : a < s.size d) : rdC s d a = if isBad s d a then 7 else 0 := by
  obtain ⟨h1, h2, h3, h4⟩ := hg.chk hd ha
  simp only [Go.Proofs.rdC, fz, h1, h2, h3, h4, cWho, if_true]
  by_cases h : isBad s d a = true
  · simp [h]
  · simp [h]
theorem Fine.rdV (hg : Fine s) (hd : d < s.drv.length) (ha : a < s.size d) (hb : isBad s d a = false) : rdV s d a = (nowL s d).getD a 0 := by
  rw [Go.Proofs.rdV, if_pos (by rw [hg.rdC hd ha, hb]; rfl)]; rfl
def wrB (s : ArrS) (d a : Nat) (v : UInt64) : ArrS := { wr1 s d a v with bad := delM s.bad ((d : Int), (a : Int)) }
theorem Fine.wr (hg : Fine s) (hd : d < s.drv.length) (ha : a < s.size d) : wrR s d a = 0 ∧ wrS s d a v = wrB s d a v := by
  obtain ⟨h1, h2, h3, h4⟩ := hg.chk hd ha
  have hc : wrC s d a = 0 := by simp [wrC, fz, h1, h2, h3, h4]
  refine ⟨by rw [wrR, if_neg (by simp [hc]), if_neg (by rw [hg.fuse]; decide)], ?_⟩
  rw [wrS, if_neg (by simp [hc]), if_neg (by rw [hg.fuse]; decide)]
  simp only [wrB, wr1, Int.toNat_natCast, hg.fuse]
@[simp] theorem drv_wrB : (wrB s d a v).drv.length = s.drv.length := drv_wr1
@[simp] theorem writes_wrB : (wrB s d a v).writes = s.writes + 1 := rfl
theorem nowL_wrB {e : Nat} (hd : d < s.drv.length) : nowL (wrB s d a v) e = if e = d then (nowL s d).set a v else nowL s e := nowL_wr1 hd
theorem size_wrB {e : Nat} (hd : d < s.drv.length) : (wrB s d a v).size e = s.size e := size_wr1 hd
theorem isBad_wrB (hg : Fine s) {e b : Int} : isBad (wrB s d a v) e b = if (e, b) = ((d : Int), (a : Int)) then false else isBad s e b := by
  show (lookM (delM s.bad ((d : Int), (a : Int))) (e, b)).isSome = _
  rw [lookM_delM _ _ _ hg.nd]; split <;> rfl
theorem Fine.wrB (hg : Fine s) : Fine (wrB s d a v) where
  down := hg.down
  fuse := hg.fuse
  miss e := by
    have h0 := hg.miss e
    simp only [Go.Proofs.wrB, Go.Proofs.wr1, setNow, List.getD, List.getElem?_set] at h0 ⊢
    by_cases h : d = e
    · subst h
      by_cases hl : d < s.drv.length
      · have h1 := hg.miss d
        simp [hl, List.getD] at h1 ⊢
        exact h1
      · simp [hl]
    · rw [if_neg h]; exact h0
  nd := nodup_delM _ _ hg.nd
def sbB (s : ArrS) (d a : Nat) : ArrS := { s with bad := setM s.bad ((d : Int), (a : Int)) () }
theorem sbS_of (hd : d < s.drv.length) (ha : a < s.size d) : sbC s d a = 0 ∧ sbS s d a true = sbB s d a := by
  have hc : sbC s d a = 0 := by
    have h2 : cLoc s d = 0 := by rw [cLoc, if_pos (show inR s (d : Int) from ⟨by omega, by omega⟩)]
    have h3 : cPla s d a = 0 := by rw [cPla, sizeI_of hd, if_pos (by omega)]
    simp [sbC, fz, h2, h3]
  exact ⟨hc, by rw [sbS, if_neg (by simp [hc])]; rfl⟩
theorem isBad_sbB {e b : Int} : isBad (sbB s d a) e b = if (e, b) = ((d : Int), (a : Int)) then true else isBad s e b := by
  show (lookM (setM s.bad ((d : Int), (a : Int)) ()) (e, b)).isSome = _
  rw [lookM_setM]; split <;> rfl
theorem Fine.sbB (hg : Fine s) : Fine (sbB s d a) := ⟨hg.down, hg.fuse, hg.miss, nodup_setM _ _ _ hg.nd⟩
theorem isBad_good (hg : Good s) {e b : Int} : isBad s e b = false := by simp [isBad, hg.bad, lookM]
/-- Several sectors of one disk written. -/
def wrBN (s : ArrS) (d a : Nat) (f : Nat → UInt64) : Nat → ArrS
  | 0 => s
  | n + 1 => wrB (wrBN s d a f n) d (a + n) (f n)
theorem Fine.wrBN {f : Nat → UInt64} (hg : Fine s) : ∀ n, Fine (wrBN s d a f n)
  | 0 => hg
  | n + 1 => (Fine.wrBN hg n).wrB
@[simp] theorem drv_wrBN {f : Nat → UInt64} : ∀ {n}, (wrBN s d a f n).drv.length = s.drv.length
  | 0 => rfl
  | n + 1 => by rw [wrBN, drv_wrB, drv_wrBN]
@[simp] theorem writes_wrBN {f : Nat → UInt64} : ∀ {n}, (wrBN s d a f n).writes = s.writes + n
  | 0 => rfl
  | n + 1 => by rw [wrBN, writes_wrB, writes_wrBN]; omega
theorem size_wrBN {f : Nat → UInt64} {e : Nat} (hd : d < s.drv.length) : ∀ {n}, (wrBN s d a f n).size e = s.size e
  | 0 => rfl
  | n + 1 => by rw [wrBN, size_wrB (by rw [drv_wrBN]; exact hd), size_wrBN hd]
theorem nowL_wrBN {f : Nat → UInt64} {e : Nat} (hd : d < s.drv.length) (he : e ≠ d) : ∀ {n}, nowL (wrBN s d a f n) e = nowL s e
  | 0 => rfl
  | n + 1 => by rw [wrBN, nowL_wrB (by rw [drv_wrBN]; exact hd), if_neg he, nowL_wrBN hd he]
theorem nowL_wrBN_at {f : Nat → UInt64} (hd : d < s.drv.length) : ∀ {n k}, a + n ≤ s.size d → (nowL (wrBN s d a f n) d).getD k 0 = if a ≤ k ∧ k < a + n then f (k - a) else (nowL s d).getD k 0
  | 0, k, _ => by rw [if_neg (by omega)]; rfl
  | n + 1, k, h => by
    rw [wrBN, nowL_wrB (by rw [drv_wrBN]; exact hd), if_pos rfl]
    have hlen : (nowL (wrBN s d a f n) d).length = s.size d := by rw [← size_nowL, size_wrBN hd]
    by_cases hk : k = a + n
    · subst hk
      rw [getD_set_eq (by omega), if_pos (by omega)]; congr 1; omega
    · rw [getD_set_ne (fun e => hk e.symm), nowL_wrBN_at hd (by omega)]
      by_cases h2 : a ≤ k ∧ k < a + n
      · rw [if_pos h2, if_pos (by omega)]
      · rw [if_neg h2, if_neg (by omega)]
theorem isBad_wrBN {f : Nat → UInt64} (hg : Fine s) {e b : Int} (he : e ≠ (d : Int)) : ∀ {n}, isBad (wrBN s d a f n) e b = isBad s e b
  | 0 => rfl
  | n + 1 => by
    rw [wrBN, isBad_wrB (Fine.wrBN hg n), if_neg (fun h => he (Prod.mk.inj h).1), isBad_wrBN hg he]
theorem isBad_wrBN_d {f : Nat → UInt64} (hg : Fine s) {b : Int} (hb : isBad s d b = false) : ∀ {n}, isBad (wrBN s d a f n) d b = false
  | 0 => hb
  | n + 1 => by
    rw [wrBN, isBad_wrB (Fine.wrBN hg n)]; split
    · rfl
    · exact isBad_wrBN_d hg hb
theorem Fine.span_rd {st n k : Nat} (hg : Fine s) (hd : d < s.drv.length) (hk : k < n) (hn : st + n ≤ s.size d) (hb : s.size d ≤ 1000000000) : (Dvc.span (d : Int) (st : Int) (n : Int)).rd s (k : Int) = some (if isBad s d ((st + k : Nat) : Int) then (0, 7) else ((nowL s d).getD (st + k) 0, 0)) := by
  rw [Go.Proofs.span_rd (by omega) (by omega), if_pos (by omega)]
  have e : (st : Int) + (k : Int) = ((st + k : Nat) : Int) := by omega
  rw [e, hg.rdC hd (by omega)]
  by_cases h : isBad s d ((st + k : Nat) : Int) = true
  · rw [if_pos h, if_pos h, Go.Proofs.rdV, if_neg (by rw [hg.rdC hd (by omega), if_pos h]; decide)]
  · rw [if_neg h, if_neg h, hg.rdV hd (by omega) (by simpa using h)]
theorem Fine.span_wr {st n k : Nat} {v : UInt64} (hg : Fine s) (hd : d < s.drv.length) (hk : k < n) (hn : st + n ≤ s.size d) (hb : s.size d ≤ 1000000000) (hw : s.writes ≤ 1000000000) : (Dvc.span (d : Int) (st : Int) (n : Int)).wr s (k : Int) v = some (0, Go.Proofs.wrB s d (st + k) v) := by
  rw [Go.Proofs.span_wr (by omega) (by omega) hw, if_pos (by omega)]
  have e : (st : Int) + (k : Int) = ((st + k : Nat) : Int) := by omega
  rw [e, (hg.wr (v := v) hd (by omega)).1, (hg.wr hd (by omega)).2]
end
end Go.Proofs
