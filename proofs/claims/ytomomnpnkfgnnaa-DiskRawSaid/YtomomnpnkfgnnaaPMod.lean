/- The reference of an array as plain data: what its calls return and leave. -/
import Derived.Test.YtomomnpnkfgnnaaCDiskI
import Derived.Test.YtomomnpnkfgnnaaPRef1
namespace Go.Proofs
open Go.VG
/-- An array and its reference. -/
structure Rel (s : ArrS) (m : ModS) : Prop where
  coh : Coh s
  nd : (s.bad.map (·.1)).Nodup
  st : m.st = s.drv.map Drive.dur
  wr : m.wr = s.log
  mi : m.mi = s.drv.map Drive.miss
  bl : m.ba.length = s.drv.length
  br : ∀ i, i < s.drv.length → (m.ba.getD i []).length = s.size i
  bb : ∀ i a, i < s.drv.length → a < s.size i → (m.ba.getD i []).getD a false = isBad s i a
  dn : m.dn = s.down
  fu : m.fu = s.fuse
  ct : m.ct = s.writes
section
variable {s s' : ArrS} {m : ModS} {d a : Int} {v : UInt64} {t : Bool} {im : List UInt64} {ks : List Bool} {zs : List Int} {i k : Nat}
theorem Rel.cnt (h : Rel s m) : m.st.length = s.drv.length := by rw [h.st]; simp
theorem Rel.row (h : Rel s m) : m.st.getD i [] = durL s i := by
  rw [h.st]; unfold durL
  simp only [List.getD, List.getElem?_map]
  cases s.drv[i]? <;> rfl
theorem Rel.size (h : Rel s m) : m.size i = s.size i := by unfold ModS.size; rw [h.row, h.coh.len]; rfl
theorem Rel.mis (h : Rel s m) : m.mi.getD i false = missI s (i : Int) := by
  rw [h.mi]; unfold missI
  simp only [List.getD, List.getElem?_map, Int.toNat_natCast]
  cases s.drv[i]? <;> rfl
theorem Rel.in_ (h : Rel s m) : mIn m d ↔ inR s d := by unfold mIn inR; rw [h.cnt]
theorem Rel.has (h : Rel s m) : mHas m d a ↔ cLoc s d = 0 ∧ cPla s d a = 0 := by
  unfold mHas cLoc cPla
  rw [h.cnt, h.size]
  by_cases h1 : inR s d
  · have h2 : sizeI s d = (s.size d.toNat : Int) := if_pos h1
    rw [if_pos h1, h2]
    have h3 : 0 ≤ d ∧ d < (s.drv.length : Int) := h1
    constructor
    · rintro ⟨-, h4⟩
      exact ⟨rfl, if_pos h4⟩
    · rintro ⟨-, h4⟩
      refine ⟨h3, ?_⟩
      by_cases h5 : 0 ≤ a ∧ a < (s.size d.toNat : Int)
      · exact h5
      · rw [if_neg h5] at h4; cases h4
  · rw [if_neg h1]
    constructor
    · rintro ⟨h4, -⟩
      exact absurd h4 h1
    · rintro ⟨h4, -⟩; cases h4
theorem cLoc01 : cLoc s d = 0 ∨ cLoc s d = 1 := by unfold cLoc; split <;> simp
theorem cPla01 : cPla s d a = 0 ∨ cPla s d a = 1 := by unfold cPla; split <;> simp
theorem Rel.wrC (h : Rel s m) : mWrC m d a = Go.Proofs.wrC s d a := by
  unfold mWrC Go.Proofs.wrC
  rw [h.dn]
  cases hd : s.down
  · have hp : cPow s = 0 := by simp [cPow, hd]
    rw [if_neg (by simp)]
    by_cases hh : mHas m d a
    · obtain ⟨g1, g2⟩ := h.has.1 hh
      have g3 : 0 ≤ d := hh.1.1
      have g4 : m.mi.getD d.toNat false = missI s d := by rw [h.mis, Int.toNat_of_nonneg g3]
      rw [if_pos hh, g4]
      simp only [fz, hp, g1, g2, cPre]
      by_cases hq : missI s d = true <;> simp [hq]
    · rw [if_neg hh]
      simp only [fz, hp]
      rcases cLoc01 (s := s) (d := d) with g1 | g1
      · rcases cPla01 (s := s) (d := d) (a := a) with g2 | g2
        · exact absurd (h.has.2 ⟨g1, g2⟩) hh
        · simp [g1, g2]
      · simp [g1]
  · have hp : cPow s = 5 := by simp [cPow, hd]
    simp [fz, hp]
theorem Rel.rdE (h : Rel s m) : mRdE m d a = Go.Proofs.rdC s d a := by
  unfold mRdE Go.Proofs.rdC
  rw [h.dn]
  cases hd : s.down
  · have hp : cPow s = 0 := by simp [cPow, hd]
    rw [if_neg (by simp)]
    by_cases hh : mHas m d a
    · obtain ⟨g1, g2⟩ := h.has.1 hh
      obtain ⟨i, k, rfl, rfl, g5, g6⟩ := locpla g1 g2
      have g4 : m.mi.getD ((i : Int)).toNat false = missI s (i : Int) := by rw [Int.toNat_natCast, h.mis]
      have g7 : (m.ba.getD ((i : Int)).toNat []).getD ((k : Int)).toNat false = isBad s (i : Int) (k : Int) := by rw [Int.toNat_natCast, Int.toNat_natCast, h.bb i k g5 g6]
      rw [if_pos hh, g4, g7]
      simp only [fz, hp, g1, g2, cPre, cWho]
      by_cases hq : missI s (i : Int) = true <;> by_cases hq2 : isBad s (i : Int) (k : Int) = true <;> simp [hq, hq2]
    · rw [if_neg hh]
      simp only [fz, hp]
      rcases cLoc01 (s := s) (d := d) with g1 | g1
      · rcases cPla01 (s := s) (d := d) (a := a) with g2 | g2
        · exact absurd (h.has.2 ⟨g1, g2⟩) hh
        · simp [g1, g2]
      · simp [g1]
  · have hp : cPow s = 5 := by simp [cPow, hd]
    simp [fz, hp]
theorem Rel.flC (h : Rel s m) : mFlC m d = Go.Proofs.flC s d := by
  unfold mFlC Go.Proofs.flC
  rw [h.dn]
  cases hd : s.down
  · have hp : cPow s = 0 := by simp [cPow, hd]
    rw [if_neg (by simp)]
    by_cases hh : mIn m d
    · have g3 : 0 ≤ d := hh.1
      have g1 : cLoc s d = 0 := if_pos (h.in_.1 hh)
      have g4 : m.mi.getD d.toNat false = missI s d := by rw [h.mis, Int.toNat_of_nonneg g3]
      rw [if_pos hh, g4]
      simp only [fz, hp, g1, cPre]
      by_cases hq : missI s d = true <;> simp [hq]
    · have g1 : cLoc s d = 1 := if_neg (fun y => hh (h.in_.2 y))
      rw [if_neg hh]
      simp [fz, hp, g1]
  · have hp : cPow s = 5 := by simp [cPow, hd]
    simp [fz, hp]
theorem Rel.sbC (h : Rel s m) : mSbC m d a = Go.Proofs.sbC s d a := by
  unfold mSbC Go.Proofs.sbC
  by_cases hh : mHas m d a
  · obtain ⟨g1, g2⟩ := h.has.1 hh
    rw [if_pos hh]; simp [fz, g1, g2]
  · rw [if_neg hh]
    rcases cLoc01 (s := s) (d := d) with g1 | g1
    · rcases cPla01 (s := s) (d := d) (a := a) with g2 | g2
      · exact absurd (h.has.2 ⟨g1, g2⟩) hh
      · simp [fz, g1, g2]
    · simp [fz, g1]
theorem Rel.smC (h : Rel s m) : mSmC m d = smR s d := by
  unfold mSmC smR
  by_cases hh : mIn m d
  · rw [if_pos hh, if_pos (h.in_.1 hh)]
  · rw [if_neg hh, if_neg (fun y => hh (h.in_.2 y))]
/-- The value that is read. -/
theorem Rel.rdV (h : Rel s m) : mRdV m d a = Go.Proofs.rdV s d a := by
  unfold mRdV Go.Proofs.rdV
  rw [h.rdE]
  by_cases hc : Go.Proofs.rdC s d a = 0
  · obtain ⟨-, i, k, rfl, rfl, g1, g2⟩ := rd_ok hc
    rw [if_pos hc, if_pos hc]
    unfold mNow nowAt
    rw [Int.toNat_natCast, Int.toNat_natCast, h.wr, h.row]
    exact lastW_now h.coh g2
  · rw [if_neg hc, if_neg hc]
theorem Rel.wrE (h : Rel s m) : mWrE m d a = wrR s d a := by
  unfold mWrE wrR
  rw [h.wrC, h.fu]
theorem Rel.imL (h : Rel s m) : mImL m d = Go.Proofs.imL s d := by
  unfold mImL Go.Proofs.imL
  by_cases hh : mIn m d
  · obtain ⟨i, rfl⟩ := Int.eq_ofNat_of_zero_le hh.1
    rw [if_pos hh, if_pos (h.in_.1 hh), Int.toNat_natCast, h.wr, h.row]
    exact setAll_now h.coh
  · rw [if_neg hh, if_neg (fun y => hh (h.in_.2 y))]
theorem Rel.ldC (h : Rel s m) : mLdC m d im = Go.Proofs.ldC s d im := by
  unfold mLdC Go.Proofs.ldC
  by_cases hh : mIn m d
  · rw [if_pos hh, if_pos (h.in_.1 hh), h.size]; rfl
  · rw [if_neg hh, if_neg (fun y => hh (h.in_.2 y))]
end
end Go.Proofs
