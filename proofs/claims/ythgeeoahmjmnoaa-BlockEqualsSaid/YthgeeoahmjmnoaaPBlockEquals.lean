/- BlockEquals: behind Copy the sectors are equal, and Equal finds a single one that differs. -/
import Derived.Test.YthgeeoahmjmnoaaPAwake05
import Derived.Test.YthgeeoahmjmnoaaPGood2
import Derived.Test.YthgeeoahmjmnoaaLBlockEquals
namespace Go.Proofs
open Go.VG
theorem tmod_nat {a : Nat} {b : Int} (hb : 0 < b) : ∃ m : Nat, (a : Int).tmod b = (m : Int) ∧ (m : Int) < b := by
  have h1 : 0 ≤ (a : Int).tmod b := Int.tmod_nonneg _ (by omega)
  have h2 := Int.tmod_lt_of_pos (a : Int) hb
  obtain ⟨m, hm⟩ := Int.eq_ofNat_of_zero_le h1
  exact ⟨m, hm, by omega⟩
theorem blockEquals (a n k : UInt8) (v : UInt64) : volumegrouplaw05_BlockEquals a n k v = some true := by
  unfold volumegrouplaw05_BlockEquals
  rw [show volumegroupmake_Words (8 : Int) 3 = some (wordsL 8 3) from words_eq (n := 8) (by decide)]
  rw [show volumegroupmake_Words (8 : Int) 900 = some (wordsL 8 900) from words_eq (n := 8) (by decide)]
  simp only [Option.bind_some]
  rw [loaded_eq (by simp) (by simp)]
  simp only [Option.bind_some, Option.elim]
  generalize hS : mkS [wordsL 8 3, wordsL 8 900] = S
  have hg : Good S := hS ▸ good_mkS
  have hd : S.drv.length = 2 := by rw [← hS]; simp
  have hW : S.writes = 0 := by rw [← hS]; rfl
  have hz0 : S.size 0 = 8 := by rw [size_nowL, ← hS, nowL_mkS]; simp
  have hz1 : S.size 1 = 8 := by rw [size_nowL, ← hS, nowL_mkS]; simp
  rw [spans_eq (by omega) (fun i hi => by
    obtain rfl | rfl : i = 0 ∨ i = 1 := by omega
    · omega
    · omega)]
  simp only [Option.bind_some]
  rw [if_neg (by simp [hd])]
  rw [spansA_getD (i := 0) (by omega), spansA_getD (i := 1) (by omega), hz0, hz1]
  have hs : (a % 9).toNat < 9 := by simp only [UInt8.toNat_mod]; exact Nat.mod_lt _ (by decide)
  generalize (a % 9).toNat = s at hs ⊢
  have hk : (k % 8).toNat < 8 := by simp only [UInt8.toNat_mod]; exact Nat.mod_lt _ (by decide)
  generalize (k % 8).toNat = i at hk ⊢
  obtain ⟨m, hm, hm2⟩ := tmod_nat (a := n.toNat) (b := 9 - (s : Int)) (by omega)
  rw [grd_t (inI64_of (by omega)), grd_t (decide_eq_true (by omega)), hm]
  let f : Nat → UInt64 := fun j => (nowL S 0).getD (s + j) 0
  let st : Nat → ArrS := fun j => wrN S 1 s f j
  have hst0 : st 0 = S := rfl
  have hrd0 : ∀ (T : ArrS), Good T → T.drv.length = 2 → T.size 0 = 8 → ∀ j, j < 8 → (Dvc.span ((0 : Nat) : Int) 0 ((8 : Nat) : Int)).rd T ((j : Nat) : Int) = some ((nowL T 0).getD j 0, 0) := by
    intro T hT h2 h8 j hj
    have := hT.span_rd (d := 0) (st := 0) (n := 8) (k := j) (by omega) hj (by omega) (by omega)
    simpa using this
  have hrd1 : ∀ (T : ArrS), Good T → T.drv.length = 2 → T.size 1 = 8 → ∀ j, j < 8 → (Dvc.span ((1 : Nat) : Int) 0 ((8 : Nat) : Int)).rd T ((j : Nat) : Int) = some ((nowL T 1).getD j 0, 0) := by
    intro T hT h2 h8 j hj
    have := hT.span_rd (d := 1) (st := 0) (n := 8) (k := j) (by omega) hj (by omega) (by omega)
    simpa using this
  have hwr1 : ∀ (T : ArrS), Good T → T.drv.length = 2 → T.size 1 = 8 → T.writes ≤ 1000 → ∀ j v, j < 8 → (Dvc.span ((1 : Nat) : Int) 0 ((8 : Nat) : Int)).wr T ((j : Nat) : Int) v = some (0, wr1 T 1 j v) := by
    intro T hT h2 h8 hw j v hj
    have := hT.span_wr (d := 1) (st := 0) (n := 8) (k := j) (v := v) (by omega) hj (by omega) (by omega) (by omega)
    simpa using this
  have hcast : ∀ j : Nat, (s : Int) + (j : Int) = ((s + j : Nat) : Int) := fun j => by omega
  have hcopy := copy_eq (x := Dvc.span ((0 : Nat) : Int) 0 ((8 : Nat) : Int)) (y := Dvc.span ((1 : Nat) : Int) 0 ((8 : Nat) : Int)) (at_ := (s : Int)) (n := m) (m := 8) (k := 8) (f := f) (st := st) rfl rfl (by omega) (by omega) (by omega)
    (fun j hj => by
      rw [hcast, hrd0 _ (hg.wrN j) (by simp [hd]) (by rw [size_wrN (by omega)]; exact hz0) _ (by omega), nowL_wrN (by omega) (by omega)])
    (fun j hj => by
      rw [hcast, hwr1 _ (hg.wrN j) (by simp [hd]) (by rw [size_wrN (by omega)]; exact hz1) (by simp; omega) _ _ (by omega)]
      rfl)
  rw [hst0] at hcopy
  rw [hcopy]
  simp only [Option.bind_some]
  rw [if_neg (by simp)]
  have hgm : Good (st m) := hg.wrN m
  have hdm : (st m).drv.length = 2 := by simp [st, hd]
  have hm0 : (st m).size 0 = 8 := by show (wrN S 1 s f m).size 0 = 8; rw [size_wrN (by omega)]; exact hz0
  have hm1 : (st m).size 1 = 8 := by show (wrN S 1 s f m).size 1 = 8; rw [size_wrN (by omega)]; exact hz1
  have hn0 : nowL (st m) 0 = nowL S 0 := nowL_wrN (by omega) (by omega)
  have hn1 : ∀ j, (nowL (st m) 1).getD j 0 = if s ≤ j ∧ j < s + m then f (j - s) else (nowL S 1).getD j 0 := fun j => nowL_wrN_at (by omega) (by omega)
  have heq : ∀ (T : ArrS), Good T → T.drv.length = 2 → T.size 0 = 8 → T.size 1 = 8 → block_Equal (Dvc.span ((0 : Nat) : Int) 0 ((8 : Nat) : Int)) (Dvc.span ((1 : Nat) : Int) 0 ((8 : Nat) : Int)) (s : Int) (m : Int) T = some (decide (∀ j, j < m → (nowL T 0).getD (s + j) 0 = (nowL T 1).getD (s + j) 0), 0) := fun T hT h2 h0 h1 =>
    equal_eq (m := 8) (k := 8) rfl rfl (by omega) (by omega) (by omega) (fun j hj => by rw [hcast, hrd0 T hT h2 h0 _ (by omega)]) (fun j hj => by rw [hcast, hrd1 T hT h2 h1 _ (by omega)])
  rw [heq _ hgm hdm hm0 hm1]
  simp only [Option.bind_some]
  rw [hrd1 _ hgm hdm hm1 i hk]
  simp only [Option.bind_some]
  have hall : ∀ j, j < m → (nowL (st m) 0).getD (s + j) 0 = (nowL (st m) 1).getD (s + j) 0 := by
    intro j hj
    rw [hn0, hn1, if_pos (by omega)]
    show _ = (nowL S 0).getD (s + (s + j - s)) 0
    congr 1; omega
  rw [if_neg (by rw [decide_eq_true hall]; simp)]
  rw [hwr1 _ hgm hdm hm1 (by show (wrN S 1 s f m).writes ≤ 1000; simp; omega) i v hk]
  simp only [Option.bind_some]
  rw [if_neg (by simp), heq _ hgm.wr1 (by simp [hdm]) (by rw [size_wr1 (by omega)]; exact hm0) (by rw [size_wr1 (by omega)]; exact hm1)]
  simp only [Option.bind_some]
  have hA : (∀ j, j < m → (nowL (wr1 (st m) 1 i v) 0).getD (s + j) 0 = (nowL (wr1 (st m) 1 i v) 1).getD (s + j) 0) ↔ (i < s ∨ s + m ≤ i ∨ v = (nowL (st m) 1).getD i 0) := by
    rw [nowL_wr1 (by omega), if_neg (by omega), nowL_wr1 (by omega), if_pos rfl]
    have hl : (nowL (st m) 1).length = 8 := by rw [← size_nowL]; exact hm1
    constructor
    · intro h
      by_cases h1 : i < s ∨ s + m ≤ i
      · rcases h1 with h1 | h1
        · exact .inl h1
        · exact .inr (.inl h1)
      · have h2 := h (i - s) (by omega)
        have e : s + (i - s) = i := by omega
        rw [e, getD_set_eq (by omega)] at h2
        have h3 := hall (i - s) (by omega)
        rw [e] at h3
        exact .inr (.inr (h2.symm.trans h3))
    · intro h j hj
      by_cases hji : i = s + j
      · have hv : v = (nowL (st m) 1).getD i 0 := by
          rcases h with h | h | h
          · omega
          · omega
          · exact h
        rw [← hji, getD_set_eq (by omega), hv, hji]; exact hall j hj
      · rw [getD_set_ne hji]; exact hall j hj
  rw [if_pos ?_, awake05]
  · rfl
  · refine ⟨trivial, ?_⟩
    rw [decide_eq_true_iff, hA, wrap64_in (by omega) (by omega)]
    constructor
    · rintro (h | h | h)
      · exact .inl (.inl (by omega))
      · exact .inl (.inr (by omega))
      · exact .inr h
    · rintro ((h | h) | h)
      · exact .inl (by omega)
      · exact .inr (.inl (by omega))
      · exact .inr (.inr h)
end Go.Proofs
