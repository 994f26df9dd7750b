/- BlockNested: a window of a window is a window. -/
import Derived.Test.YthgeeoahmjmnoaaPAwake05
import Derived.Test.YthgeeoahmjmnoaaPWindow
import Derived.Test.YthgeeoahmjmnoaaPSame05
import Derived.Test.YthgeeoahmjmnoaaLBlockNested
namespace Go.Proofs
open Go.VG
theorem tmodN {a : Nat} {b : Int} (hb : 0 < b) : ∃ m : Nat, (a : Int).tmod b = (m : Int) ∧ (m : Int) < b := by
  have h1 : 0 ≤ (a : Int).tmod b := Int.tmod_nonneg _ (by omega)
  have h2 := Int.tmod_lt_of_pos (a : Int) hb
  obtain ⟨m, hm⟩ := Int.eq_ofNat_of_zero_le h1
  exact ⟨m, hm, by omega⟩
theorem blockNested (a b c d e : UInt8) (v : UInt64) : volumegrouplaw05_BlockNested a b c d e v = some true := by
  unfold volumegrouplaw05_BlockNested
  rw [show volumegroupmake_Words (20 : Int) 3 = some (wordsL 20 3) from words_eq (n := 20) (by decide)]
  simp only [Option.bind_some]
  rw [loaded_eq (by simp) (by simp)]
  simp only [Option.bind_some, Option.elim]
  generalize hS : mkS [wordsL 20 3] = S
  have hg : Good S := hS ▸ good_mkS
  have hd : S.drv.length = 1 := by rw [← hS]; simp
  have hW : S.writes = 0 := by rw [← hS]; rfl
  have hn : nowL S 0 = wordsL 20 3 := by rw [← hS, nowL_mkS]; rfl
  have hz : S.size 0 = 20 := by rw [size_nowL, hn]; simp
  rw [spans_eq (by omega) (fun i hi => by
    obtain rfl : i = 0 := by omega
    omega)]
  simp only [Option.bind_some]
  rw [if_neg (by simp [hd])]
  rw [spansA_getD (i := 0) (by omega), hz]
  have hs : (a % 10).toNat < 10 := by simp only [UInt8.toNat_mod]; exact Nat.mod_lt _ (by decide)
  generalize (a % 10).toNat = s at hs ⊢
  obtain ⟨n, en, hn2⟩ := tmodN (a := b.toNat) (b := 20 - (s : Int)) (by omega)
  rw [en]
  obtain ⟨t, et, ht2⟩ := tmodN (a := c.toNat) (b := 1 + (n : Int)) (by omega)
  rw [et]
  obtain ⟨m, em, hm2⟩ := tmodN (a := d.toNat) (b := 1 + (n : Int) - (t : Int)) (by omega)
  rw [em]
  obtain ⟨k, ek, hk2⟩ := tmodN (a := e.toNat) (b := 1 + (m : Int)) (by omega)
  rw [ek]
  rw [grd_t (inI64_of (by omega)), grd_t (decide_eq_true (by omega)), grd_t (inI64_of (by omega)), grd_t (decide_eq_true (by omega)), grd_t (inI64_of (by omega)), grd_t (decide_eq_true (by omega)), grd_t (inI64_of (by omega))]
  have hD : ∀ T, (Dvc.span ((0 : Nat) : Int) 0 ((20 : Nat) : Int)).size T = some 20 := fun _ => rfl
  rw [window_mk (hD S) (by omega) (by decide) (by omega)]
  simp only [Option.bind_some, Option.elim]
  rw [if_neg (by simp)]
  rw [window_mk (m := 1 + (n : Int)) rfl (by omega) (show 1 + 1 < 60 by decide) (by omega)]
  simp only [Option.bind_some, Option.elim]
  rw [grd_t (inI64_of (by omega)), window_mk (hD S) (by omega) (by decide) (by omega)]
  simp only [Option.bind_some, Option.elim]
  rw [if_neg (by simp)]
  have hsz : ∀ (x : Dvc) (p q : Int) (T : ArrS), (Dvc.window x p q).size T = some q := fun _ _ _ _ => rfl
  rw [hsz, hsz]
  simp only [Option.bind_some]
  rw [if_neg (by simp), grd_t (decide_eq_true (by omega))]
  rw [window_wr (by omega) (by omega) (by omega), window_wr (by omega) (by omega) (by omega)]
  have e1 : (s : Int) + ((t : Int) + (k : Int)) = ((s + t + k : Nat) : Int) := by omega
  have e2 : (s : Int) + (t : Int) + (k : Int) = ((s + t + k : Nat) : Int) := by omega
  have hw := hg.span_wr (d := 0) (st := 0) (n := 20) (k := s + t + k) (v := v) (by omega) (by omega) (by omega) (by omega) (by omega)
  rw [e1, show (Dvc.span ((0 : Nat) : Int) 0 ((20 : Nat) : Int)).wr S ((s + t + k : Nat) : Int) v = some (0, wr1 S 0 (s + t + k) v) by simpa using hw]
  simp only [Option.bind_some]
  rw [if_neg (by simp)]
  have hr := (hg.wr1 (d := 0) (a := s + t + k) (v := v)).span_rd (d := 0) (st := 0) (n := 20) (k := s + t + k) (by simp [hd]) (by omega) (by rw [size_wr1 (by omega)]; omega) (by rw [size_wr1 (by omega)]; omega)
  have hnow : nowL (wr1 S 0 (s + t + k) v) 0 = (wordsL 20 3).set (s + t + k) v := by rw [nowL_wr1 (by omega), if_pos rfl, hn]
  rw [window_rd (by omega) (by omega) (by omega), e2, show (Dvc.span ((0 : Nat) : Int) 0 ((20 : Nat) : Int)).rd (wr1 S 0 (s + t + k) v) ((s + t + k : Nat) : Int) = some (v, 0) by
    have h3 : (nowL (wr1 S 0 (s + t + k) v) 0).getD (s + t + k) 0 = v := by rw [hnow, getD_set_eq (by simp; omega)]
    rw [Nat.zero_add, h3] at hr
    exact hr]
  simp only [Option.bind_some]
  rw [grd_t (inI64_of (by omega)), grd_t (inI64_of (by omega)), grd_t (decide_eq_true (by simp; omega))]
  have hin : inR (wr1 S 0 (s + t + k) v) 0 := ⟨by omega, by rw [drv_wr1]; omega⟩
  have himC : imC (wr1 S 0 (s + t + k) v) 0 = 0 := by rw [imC, if_pos hin]
  have himL : imL (wr1 S 0 (s + t + k) v) 0 = (wordsL 20 3).set (s + t + k) v := by rw [imL, if_pos hin]; exact hnow
  rw [if_pos ⟨⟨trivial, trivial⟩, himC⟩, himL, same05_eq (by simp)]
  simp only [Option.bind_some, Int.toNat_natCast]
  rw [if_pos (by simp), awake05]; rfl
end Go.Proofs
