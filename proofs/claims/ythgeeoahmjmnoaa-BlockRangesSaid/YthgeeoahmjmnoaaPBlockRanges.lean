/- BlockRanges: which sectors a span, a window, a zero device and a failing one have, and the errors outside of them. -/
import Derived.Test.YthgeeoahmjmnoaaPAwake05
import Derived.Test.YthgeeoahmjmnoaaPMap
import Derived.Test.YthgeeoahmjmnoaaLBlockRanges
namespace Go.Proofs
open Go.VG
theorem span_gen {s : ArrS} {d st n : Int} (h : sizeI s d ≤ 1000000000) (h0 : 0 ≤ sizeI s d) : block_Span s d st n = some (if 1 ≤ n ∧ 0 ≤ st ∧ st + n ≤ sizeI s d then (some (Dvc.span d st n), 0) else (none, 1)) := by
  unfold block_Span
  by_cases h1 : n < 1
  · rw [if_pos h1, if_neg (by omega)]
  · rw [if_neg h1, insideB (by omega)]; simp only [Option.bind_some]
    by_cases h2 : 0 ≤ st ∧ st + n ≤ sizeI s d
    · rw [if_neg (by simp; omega), if_pos (by omega)]
    · rw [if_pos (by simp; omega), if_neg (by omega)]
theorem window_gen {x : Dvc} {s : ArrS} {st n m : Int} (hs : x.size s = some m) (hm : 0 ≤ m ∧ m ≤ 1000000000) (hd : x.dep < 60) : block_Window x st n s = some (if 0 ≤ st ∧ st ≤ m ∧ 0 ≤ n ∧ n ≤ m - st then (some (Dvc.window x st n), 0) else (none, 1)) := by
  unfold block_Window
  rw [hs]; simp only [Option.bind_some]
  rw [insideB (by omega)]; simp only [Option.bind_some]
  by_cases h : 0 ≤ st ∧ st ≤ m ∧ 0 ≤ n ∧ n ≤ m - st
  · rw [if_neg (by simpa using h), if_pos h, grd_t (decide_eq_true (by omega))]
  · rw [if_pos (by simpa using h), if_neg h]
theorem iff_tf {p q : Prop} (h : ¬ p) (h' : ¬ q) : ¬ ¬ (p ↔ q) := fun x => x ⟨fun y => (h y).elim, fun y => (h' y).elim⟩
theorem iff_tt {p q : Prop} (h : p) (h' : q) : ¬ ¬ (p ↔ q) := fun x => x ⟨fun _ => h', fun _ => h⟩
section
variable {s : ArrS} {d st n at_ k : Int}
theorem zero_rd : (Dvc.plain_Zero n).rd s k = (block_inside n k 1).bind fun b => if ¬ b = true then some (0, 1) else some (0, 0) := rfl
theorem fail_rd : (Dvc.plain_Fail n).rd s k = (block_inside n k 1).bind fun b => if ¬ b = true then some (0, 1) else some (0, 7) := rfl
theorem zero_wr {v : UInt64} : (Dvc.plain_Zero n).wr s k v = ((block_inside n k 1).bind fun b => if ¬ b = true then some 1 else some 22).map fun e => (e, s) := rfl
theorem fail_wr {v : UInt64} : (Dvc.plain_Fail n).wr s k v = ((block_inside n k 1).bind fun b => if ¬ b = true then some 1 else some 7).map fun e => (e, s) := rfl
end
def brS : ArrS := mkS [wordsL 6 1, wordsL 4 9]
theorem brS_good : Good brS := good_mkS
theorem brS_size {d : Int} : sizeI brS d = if d = 0 then 6 else if d = 1 then 4 else 0 := by
  by_cases h0 : d = 0
  · subst h0; rw [if_pos rfl]; rfl
  · rw [if_neg h0]
    by_cases h1 : d = 1
    · subst h1; rw [if_pos rfl]; rfl
    · rw [if_neg h1, sizeI, if_neg]
      rintro ⟨h2, h3⟩
      have : brS.drv.length = 2 := rfl
      omega
theorem brS_wr : brS.writes = 0 := rfl
theorem br_step {d start length at_ : Int} {rec : ArrS → Nat → Int → Option ((Int × ArrS) ⊕ Bool)} {i : Nat} {z d' s' n' : Int} (hi : i < 2)
    (hq : ([(⟨d, start, length⟩ : Arr51), ⟨andI d 1, andI start 7, andI length 7⟩]).getD i ⟨0, 0, 0⟩ = ⟨d', s', n'⟩) :
    volumegrouplaw05_BlockRanges_l1_b d start length at_ rec brS i z = rec brS (i + 1) n' := by
  have hk := andI_bd at_ 7 (by decide) (by decide)
  have hn : inN64 (i + 1) = true := inN64_of (by omega)
  unfold volumegrouplaw05_BlockRanges_l1_b
  simp only [lt, hq]
  rw [if_pos (by simp; omega)]
  have hsz := brS_size (d := d')
  have hz0 : 0 ≤ sizeI brS d' ∧ sizeI brS d' ≤ 6 := by rw [hsz]; split <;> (try split) <;> omega
  rw [span_gen (by omega) (by omega)]; simp only [Option.bind_some]
  by_cases hf : 1 ≤ n' ∧ 0 ≤ s' ∧ s' + n' ≤ sizeI brS d'
  · -- it fits
    rw [if_pos hf]
    have hd : 0 ≤ d' ∧ d' < 2 := by
      rw [hsz] at hf
      split at hf
      · omega
      · split at hf <;> omega
    rw [if_pos (by omega), if_pos (by omega), grd_t (inI64_of (by omega)), if_neg (iff_tt rfl (by omega))]
    simp only [Option.elim_some]
    rw [if_neg (by rintro (h | h); exact h ⟨fun _ => by omega, fun _ => by trivial⟩; omega), if_neg (by omega), span_rd (by omega) (by omega)]
    simp only [Option.bind_some]
    rw [grd_t (inI64_of (by omega)), span_size]
    simp only [Option.bind_some]
    obtain ⟨dn, rfl⟩ := Int.eq_ofNat_of_zero_le hd.1
    obtain ⟨sn, rfl⟩ := Int.eq_ofNat_of_zero_le hf.2.1
    have hx : ∀ (w : ArrS) (k : Int), block_Window (Dvc.span (dn : Int) (sn : Int) n') k n' w = some (if 0 ≤ k ∧ k ≤ n' ∧ 0 ≤ n' ∧ n' ≤ n' - k then (some (Dvc.window (Dvc.span (dn : Int) (sn : Int) n') k n'), 0) else (none, 1)) := fun w k => window_gen span_size (by omega) (show (1 : Nat) < 60 by decide)
    have hdl : dn < brS.drv.length := by show dn < 2; omega
    have hsz2 : (brS.size dn : Int) = sizeI brS (dn : Int) := (sizeI_of hdl).symm
    generalize hka : andI at_ 7 = k at *
    obtain ⟨kn, rfl⟩ := Int.eq_ofNat_of_zero_le hk.1
    have hin : ∀ w : ArrS, w.writes = 0 → (Dvc.span (dn : Int) (sn : Int) n').wr w (kn : Int) 1 = some (if 0 ≤ (kn : Int) ∧ (kn : Int) < n' then (wrR w dn (sn + kn), wrS w dn (sn + kn) 1) else (1, w)) := fun w hw => span_wr (by omega) (by omega) (by omega)
    by_cases hkn : (kn : Int) < n'
    · have e : (sn : Int) + (kn : Int) = ((sn + kn : Nat) : Int) := by omega
      rw [if_pos (show 0 ≤ (kn : Int) ∧ (kn : Int) < n' from ⟨by omega, hkn⟩), e, brS_good.rdC hdl (by omega)]
      rw [if_neg (by simp), if_neg (by omega), hx]
      simp only [Option.bind_some, span_size]
      by_cases h0 : 0 ≤ at_
      · rw [if_pos h0]
        by_cases h1 : at_ ≤ n'
        · rw [if_pos h1, grd_t (inI64_of (by omega))]
          by_cases h2 : n' ≤ n' - at_
          · rw [if_pos (show 0 ≤ at_ ∧ at_ ≤ n' ∧ 0 ≤ n' ∧ n' ≤ n' - at_ from ⟨h0, h1, by omega, h2⟩), if_neg (iff_tt rfl h2)]; simp [h2, hn]
          · rw [if_neg (show ¬ (0 ≤ at_ ∧ at_ ≤ n' ∧ 0 ≤ n' ∧ n' ≤ n' - at_) by omega), if_neg (iff_tf (by simp) h2)]; simp [h2, hn]
        · rw [if_neg h1, if_neg (show ¬ (0 ≤ at_ ∧ at_ ≤ n' ∧ 0 ≤ n' ∧ n' ≤ n' - at_) by omega), if_neg (iff_tf (by simp) (by simp))]; simp [hn]
      · rw [if_neg h0, if_neg (show ¬ (0 ≤ at_ ∧ at_ ≤ n' ∧ 0 ≤ n' ∧ n' ≤ n' - at_) by omega), if_neg (iff_tf (by simp) (by simp))]; simp [hn]
    · rw [if_neg (show ¬ (0 ≤ (kn : Int) ∧ (kn : Int) < n') from fun h => hkn h.2), if_neg (by rintro (h | h); exact h rfl; exact hkn h.1), if_pos (by omega), if_neg (by simp), hin brS rfl]
      simp only [Option.bind_some]
      rw [if_neg (show ¬ (0 ≤ (kn : Int) ∧ (kn : Int) < n') from fun h => hkn h.2), if_neg (by simp), hx]
      simp only [Option.bind_some, span_size]
      by_cases h0 : 0 ≤ at_
      · rw [if_pos h0]
        by_cases h1 : at_ ≤ n'
        · rw [if_pos h1, grd_t (inI64_of (by omega))]
          by_cases h2 : n' ≤ n' - at_
          · rw [if_pos (show 0 ≤ at_ ∧ at_ ≤ n' ∧ 0 ≤ n' ∧ n' ≤ n' - at_ from ⟨h0, h1, by omega, h2⟩), if_neg (iff_tt rfl h2)]; simp [h2, hn]
          · rw [if_neg (show ¬ (0 ≤ at_ ∧ at_ ≤ n' ∧ 0 ≤ n' ∧ n' ≤ n' - at_) by omega), if_neg (iff_tf (by simp) h2)]; simp [h2, hn]
        · rw [if_neg h1, if_neg (show ¬ (0 ≤ at_ ∧ at_ ≤ n' ∧ 0 ≤ n' ∧ n' ≤ n' - at_) by omega), if_neg (iff_tf (by simp) (by simp))]; simp [hn]
      · rw [if_neg h0, if_neg (show ¬ (0 ≤ at_ ∧ at_ ≤ n' ∧ 0 ≤ n' ∧ n' ≤ n' - at_) by omega), if_neg (iff_tf (by simp) (by simp))]; simp [hn]
  · -- it does not fit
    rw [if_neg hf]
    by_cases h1 : (((0 ≤ d' ∧ d' < 2) ∧ 0 ≤ s') ∧ 1 ≤ n')
    · rw [if_pos h1]
      by_cases h2 : s' < sizeI brS d'
      · rw [if_pos h2, grd_t (inI64_of (by omega)), if_neg (iff_tf (by simp) (by omega))]
        have h3 : ¬ n' ≤ sizeI brS d' - s' := by omega
        simp [h3, hn]
      · rw [if_neg h2, if_neg (iff_tf (by simp) (by simp))]; simp [hn]
    · rw [if_neg h1, if_neg (iff_tf (by simp) (by simp))]; simp [hn]
theorem br_l1 {d start length at_ : Int} {N : Nat} : volumegrouplaw05_BlockRanges_l1 d start length at_ (N + 3) brS 0 length = some (.inl (andI length 7, brS)) := by
  show volumegrouplaw05_BlockRanges_l1_b _ _ _ _ _ _ _ _ = _
  rw [br_step (by omega) rfl]
  show volumegrouplaw05_BlockRanges_l1_b _ _ _ _ _ _ _ _ = _
  rw [br_step (by omega) rfl]
  rfl
theorem blockRanges (d start length at_ : Int) : volumegrouplaw05_BlockRanges d start length at_ = some true := by
  unfold volumegrouplaw05_BlockRanges
  have h1 : volumegroupmake_Words 6 1 = some (wordsL 6 1) := words_eq (n := 6) (by omega)
  have h2 : volumegroupmake_Words 4 9 = some (wordsL 4 9) := words_eq (n := 4) (by omega)
  rw [h1, h2]; simp only [Option.bind_some]
  rw [loaded_eq (by simp) (by intro im h; simp only [List.mem_cons, List.not_mem_nil, or_false] at h; rcases h with rfl | rfl <;> simp)]
  simp only [Option.bind_some, Option.elim_some]
  have hF := fuel_big
  obtain ⟨N, hN⟩ : ∃ N, FUEL = N + 3 := ⟨FUEL - 3, by omega⟩
  rw [hN]
  have hl := br_l1 (d := d) (start := start) (length := length) (at_ := at_) (N := N)
  rw [show mkS [wordsL 6 1, wordsL 4 9] = brS from rfl, hl]
  clear hl hN
  have hk := andI_bd (andI length 7) 7 (by decide) (by decide)
  rw [seqO_inl]
  show Option.bind (block_Zero (andI (andI length 7) 7) brS) _ = _
  generalize andI (andI length 7) 7 = m at *
  have e1 : max m (0 : Int) = m := by omega
  have hz : block_Zero m brS = some (Dvc.plain_Zero m) := by unfold block_Zero; rw [e1]
  have hf : block_Fail m brS = some (Dvc.plain_Fail m) := by unfold block_Fail; rw [e1]
  have hz3 : block_Zero (-3) brS = some (Dvc.plain_Zero 0) := rfl
  have hf1 : block_Fail (-1) brS = some (Dvc.plain_Fail 0) := rfl
  have q1 : ∀ n, (Dvc.plain_Zero n).size brS = some n := fun _ => rfl
  have q2 : ∀ n, (Dvc.plain_Fail n).size brS = some n := fun _ => rfl
  have q3 : ∀ n, (Dvc.plain_Zero n).fl brS = some (0, brS) := fun _ => rfl
  have q4 : ∀ n, (Dvc.plain_Fail n).fl brS = some (0, brS) := fun _ => rfl
  simp only [hz, hf, hz3, hf1, q1, q2, q3, q4, Option.bind_some, ne_eq, not_true, if_false]
  rw [zero_rd, fail_rd, inside1 (by omega)]; simp only [Option.bind_some, zero_wr, fail_wr]
  rw [inside1 (by omega)]; simp only [Option.bind_some]
  by_cases h : 0 ≤ at_ ∧ at_ < m
  · rw [if_neg (by simpa using h), if_neg (by simpa using h), if_neg (by simpa using h), if_neg (by simpa using h)]
    simp only [Option.bind_some, Option.map_some]
    rw [if_neg (by omega)]; simp [awake05]
  · rw [if_pos (by simpa using h), if_pos (by simpa using h), if_pos (by simpa using h), if_pos (by simpa using h)]
    simp only [Option.bind_some, Option.map_some]
    rw [if_pos (by omega)]; simp [awake05]
end Go.Proofs
