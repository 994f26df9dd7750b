/- BlockCopies: what ReadAll, WriteAll, Copy and Equal do, and that they do nothing if the sectors are not all there. -/
import Derived.Test.YthgeeoahmjmnoaaPAwake05
import Derived.Test.YthgeeoahmjmnoaaPBad
import Derived.Test.YthgeeoahmjmnoaaPSame05
import Derived.Test.YthgeeoahmjmnoaaLBlockCopies
namespace Go.Proofs
open Go.VG
/-- A copy that ends at a sector that cannot be read. -/
theorem copy_fail_l1 {x y : Dvc} {at_ : Int} {n b : Nat} {c : Int} {u : UInt64} {f : Nat → UInt64} {st : Nat → ArrS} (hb : b < n) (hc : c ≠ 0) (ha : 0 ≤ at_ ∧ at_ + n ≤ 1000000000) (hr : ∀ i, i < b → x.rd (st i) (at_ + i) = some (f i, 0)) (hf : x.rd (st b) (at_ + b) = some (u, c)) (hw : ∀ i, i < b → y.wr (st i) (at_ + i) (f i) = some (0, st (i + 1))) : ∀ (N i : Nat), b - i < N → i ≤ b →
    block_Copy_l1 x y at_ (n : Int) N (st i) i = some (.inr (c, st b))
  | 0, _, h, _ => absurd h (by omega)
  | N + 1, i, h, hi => by
    show block_Copy_l1_b _ _ _ _ _ _ _ = _
    unfold block_Copy_l1_b
    rw [if_pos (by omega), grd_t (inI64_of (by omega))]
    by_cases hlt : i < b
    · rw [hr i hlt]
      simp only [Option.bind_some]
      rw [if_pos trivial, grd_t (inI64_of (by omega)), hw i hlt]
      simp only [Option.bind_some]
      rw [if_neg (by simp), grd_t (inN64_of (by omega))]
      exact copy_fail_l1 hb hc ha hr hf hw N (i + 1) (by omega) (by omega)
    · have : i = b := by omega
      subst this
      rw [hf]
      simp only [Option.bind_some]
      rw [if_neg hc, if_pos hc]
theorem copy_fail {x y : Dvc} {at_ : Int} {n b : Nat} {c : Int} {u : UInt64} {m k : Int} {f : Nat → UInt64} {st : Nat → ArrS} (hs : x.size (st 0) = some m) (hs2 : y.size (st 0) = some k) (hm : m ≤ 1000000000) (hk : k ≤ 1000000000) (ha : 0 ≤ at_ ∧ at_ + n ≤ m ∧ at_ + n ≤ k) (hb : b < n) (hc : c ≠ 0)
    (hr : ∀ i, i < b → x.rd (st i) (at_ + i) = some (f i, 0)) (hf : x.rd (st b) (at_ + b) = some (u, c)) (hw : ∀ i, i < b → y.wr (st i) (at_ + i) (f i) = some (0, st (i + 1))) : block_Copy x y at_ (n : Int) (st 0) = some (c, st b) := by
  unfold block_Copy
  have hF := fuel_big
  generalize FUEL = N at hF ⊢
  rw [hs]; simp only [Option.bind_some]
  rw [inside_t hm (by omega)]; simp only [Option.bind_some]
  rw [if_neg (by simp), hs2]; simp only [Option.bind_some]
  rw [inside_t hk (by omega)]; simp only [Option.bind_some]
  rw [if_neg (by simp), copy_fail_l1 hb hc (by omega) hr hf hw N 0 (by omega) (by omega)]; rfl
def cpS : ArrS := mkS [wordsL 6 7, wordsL 6 500]
theorem cpS_good : Good cpS := good_mkS
theorem cpS_now0 : nowL cpS 0 = wordsL 6 7 := rfl
theorem cpS_now1 : nowL cpS 1 = wordsL 6 500 := rfl
theorem list_ext1 {a b : List UInt64} (hl : a.length = b.length) (h : ∀ i, i < a.length → a.getD i 0 = b.getD i 0) : a = b := by
  apply List.ext_getElem hl
  intro i h1 h2
  have := h i h1
  simpa [List.getD, h1, h2] using this
theorem getD_copiedAt {xs ys : List UInt64} {l h k : Nat} (hlh : l ≤ h) (hh : h ≤ xs.length) : (copiedAt xs l h ys).getD k 0 = if l ≤ k ∧ k < l + min ys.length (h - l) then ys.getD (k - l) 0 else xs.getD k 0 := by
  unfold copiedAt
  simp only [List.getD, List.getElem?_append, List.getElem?_take, List.getElem?_drop, List.length_take]
  have e1 : min l xs.length = l := by omega
  have e2 : min (min ys.length (h - l)) ys.length = min ys.length (h - l) := by omega
  rw [e1, e2]
  by_cases h1 : k < l
  · rw [if_pos h1, if_pos h1, if_neg (by omega)]
  · rw [if_neg h1]
    by_cases h2 : k - l < min ys.length (h - l)
    · rw [if_pos h2, if_pos h2, if_pos (by omega)]
    · rw [if_neg h2, if_neg (by omega)]; congr 2; omega
theorem getD_slice {xs : List UInt64} {l h k : Nat} : ((xs.take h).drop l).getD k 0 = if l + k < h then xs.getD (l + k) 0 else 0 := by
  simp only [List.getD, List.getElem?_drop, List.getElem?_take]; split <;> rfl
theorem not_iff_tt {p q : Prop} (h : p) (h' : q) : ¬ (¬ (p ↔ q) ∨ ¬ q ∧ ¬ p) := by rintro (x | x); exact x ⟨fun _ => h', fun _ => h⟩; exact x.1 h'
section
variable {s : ArrS} {a m : Nat} {v : UInt64}
/-- The array with two disks of six sectors. -/
structure Two (s : ArrS) : Prop where
  cnt : s.drv.length = 2
  z0 : s.size 0 = 6
  z1 : s.size 1 = 6
  wr : s.writes ≤ 1000
theorem two_cpS : Two cpS := ⟨rfl, rfl, rfl, by decide⟩
theorem Two.len0 (h : Two s) : (nowL s 0).length = 6 := h.z0
theorem Two.len1 (h : Two s) : (nowL s 1).length = 6 := h.z1
theorem l4_eq : ∀ (N i : Nat) (s0 : ArrS), Fine s0 → Two s0 → m - i < N → i ≤ m → a + m ≤ 6 → s0.writes ≤ 100 →
    volumegrouplaw05_BlockCopies_l4 (a : Int) (m : Int) N (wrBN s0 1 a (fun _ => 1) i) ((a + i : Nat) : Int) = some (wrBN s0 1 a (fun _ => 1) m)
  | 0, _, _, _, _, h, _, _, _ => absurd h (by omega)
  | N + 1, i, s0, hg, ht, h, hi, hm, hw => by
    show volumegrouplaw05_BlockCopies_l4_b _ _ _ _ _ = _
    unfold volumegrouplaw05_BlockCopies_l4_b
    by_cases hlt : i < m
    · rw [if_pos (by omega), grd_t (inLen_of (by simp; omega)), grd_t (inI64_of (by omega))]
      have hd : 1 < (wrBN s0 1 a (fun _ => 1) i).drv.length := by rw [drv_wrBN, ht.cnt]; omega
      have e : wrS (wrBN s0 1 a (fun _ => 1) i) 1 ((a + i : Nat) : Int) 1 = wrBN s0 1 a (fun _ => 1) (i + 1) := ((Fine.wrBN hg i).wr hd (by rw [size_wrBN (by rw [ht.cnt]; omega), ht.z1]; omega)).2
      rw [e]
      have e2 : ((a + i : Nat) : Int) + 1 = ((a + (i + 1) : Nat) : Int) := by omega
      rw [e2]
      exact l4_eq N (i + 1) s0 hg ht (by omega) (by omega) hm hw
    · rw [if_neg (by omega)]
      have : i = m := by omega
      rw [this]
abbrev x0 : Dvc := Dvc.span (0 : Int) (0 : Int) ((6 : Nat) : Int)
abbrev x1 : Dvc := Dvc.span (1 : Int) (0 : Int) ((6 : Nat) : Int)
theorem rd0 {k : Nat} (hg : Fine s) (ht : Two s) (hk : k < 6) : x0.rd s (k : Int) = some (if isBad s 0 (k : Int) then (0, 7) else ((nowL s 0).getD k 0, 0)) := by
  have := hg.span_rd (d := 0) (st := 0) (n := 6) (k := k) (by rw [ht.cnt]; omega) hk (by rw [ht.z0]; omega) (by rw [ht.z0]; omega)
  rw [Nat.zero_add] at this; exact this
theorem rd1 {k : Nat} (hg : Fine s) (ht : Two s) (hk : k < 6) : x1.rd s (k : Int) = some (if isBad s 1 (k : Int) then (0, 7) else ((nowL s 1).getD k 0, 0)) := by
  have := hg.span_rd (d := 1) (st := 0) (n := 6) (k := k) (by rw [ht.cnt]; omega) hk (by rw [ht.z1]; omega) (by rw [ht.z1]; omega)
  rw [Nat.zero_add] at this; exact this
theorem wr0 {k : Nat} (hg : Fine s) (ht : Two s) (hk : k < 6) : x0.wr s (k : Int) v = some (0, wrB s 0 k v) := by
  have := hg.span_wr (d := 0) (st := 0) (n := 6) (k := k) (v := v) (by rw [ht.cnt]; omega) hk (by rw [ht.z0]; omega) (by rw [ht.z0]; omega) (by have := ht.wr; omega)
  rw [Nat.zero_add] at this; exact this
theorem wr1' {k : Nat} (hg : Fine s) (ht : Two s) (hk : k < 6) : x1.wr s (k : Int) v = some (0, wrB s 1 k v) := by
  have := hg.span_wr (d := 1) (st := 0) (n := 6) (k := k) (v := v) (by rw [ht.cnt]; omega) hk (by rw [ht.z1]; omega) (by rw [ht.z1]; omega) (by have := ht.wr; omega)
  rw [Nat.zero_add] at this; exact this
theorem Two.wrBN {d : Nat} {f : Nat → UInt64} (h : Two s) (hd : d < 2) {n : Nat} (hw : s.writes + n ≤ 1000) : Two (wrBN s d a f n) :=
  ⟨by rw [drv_wrBN]; exact h.cnt, by rw [size_wrBN (by rw [h.cnt]; exact hd)]; exact h.z0, by rw [size_wrBN (by rw [h.cnt]; exact hd)]; exact h.z1, by rw [writes_wrBN]; exact hw⟩
theorem l5_eq {bad : UInt8} {r : Int × ArrS} {l : List Dvc} {P : List UInt64} {b : Nat} (h1 : l.getD 1 dv0 = x1) (hP : P.length = 6) (hm : a + m ≤ 6) (hb : (b : Int) = (a : Int) + (bad.toNat : Int) % (m : Int)) (hv : ∀ k, a ≤ k → k < a + m → x1.rd r.2 (k : Int) = some (if k < b then P.getD k 0 else 1, 0)) : ∀ (N i : Nat), m - i < N → i ≤ m →
    volumegrouplaw05_BlockCopies_l5 bad r (a : Int) (m : Int) l P N ((a + i : Nat) : Int) = some (.inl ())
  | 0, _, h, _ => absurd h (by omega)
  | N + 1, i, h, hi => by
    show volumegrouplaw05_BlockCopies_l5_b _ _ _ _ _ _ _ _ = _
    unfold volumegrouplaw05_BlockCopies_l5_b
    rw [h1, ← hb]
    by_cases hlt : i < m
    · rw [if_pos (by omega), hv (a + i) (by omega) (by omega)]; simp only [Option.bind_some]
      rw [grd_t (decide_eq_true (fun _ _ => by omega)), if_neg, grd_t (inI64_of (by omega))]
      · have e2 : ((a + i : Nat) : Int) + 1 = ((a + (i + 1) : Nat) : Int) := by omega
        rw [e2]
        exact l5_eq h1 hP hm hb hv N (i + 1) (by omega) (by omega)
      · rintro ((h2 | h2) | h2)
        · exact h2 rfl
        · rw [if_pos (by omega)] at h2; exact h2.2 (by rw [Int.toNat_natCast])
        · rw [if_neg (by omega)] at h2; exact h2.2 rfl
    · rw [if_neg (by omega)]
end
/-- Behind WriteAll. -/
def fitsP (a : Int) (l : List UInt64) : Prop := (0 ≤ a ∧ a ≤ 6) ∧ (l.length : Int) ≤ 6 - a
instance {a : Int} {l : List UInt64} : Decidable (fitsP a l) := inferInstanceAs (Decidable (_ ∧ _))
def S1 (a : Int) (l : List UInt64) : ArrS := if fitsP a l then wrBN cpS 0 a.toNat (fun i => l.getD i 0) l.length else cpS
def P1 (a : Int) (l : List UInt64) : List UInt64 := if fitsP a l then copiedAt (wordsL 6 7) a.toNat 6 l else wordsL 6 7
section
variable {a : Int} {l : List UInt64}
theorem S1_fine : Fine (S1 a l) := by unfold S1; split; exact Fine.wrBN cpS_good.fine _; exact cpS_good.fine
theorem S1_two (hl : l.length ≤ 12) : Two (S1 a l) := by unfold S1; split; exact two_cpS.wrBN (by omega) (by show 0 + l.length ≤ 1000; omega); exact two_cpS
theorem S1_wr (hl : l.length ≤ 12) : (S1 a l).writes ≤ 12 := by unfold S1; split; rw [writes_wrBN]; show 0 + _ ≤ _; omega; exact Nat.zero_le _
theorem S1_bad0 {b : Int} : isBad (S1 a l) 0 b = false := by
  unfold S1; split
  · exact isBad_wrBN_d (d := 0) cpS_good.fine (isBad_good cpS_good)
  · exact isBad_good cpS_good
theorem S1_bad1 {b : Int} : isBad (S1 a l) 1 b = false := by
  unfold S1; split
  · rw [isBad_wrBN cpS_good.fine (by decide)]; exact isBad_good cpS_good
  · exact isBad_good cpS_good
theorem S1_now1 : nowL (S1 a l) 1 = wordsL 6 500 := by
  unfold S1; split
  · rw [nowL_wrBN (by decide) (by decide)]; rfl
  · rfl
theorem P1_len : (P1 a l).length = 6 := by
  unfold P1; split
  · rename_i h; unfold fitsP at h; rw [copiedAt_length (by omega) (by simp)]; simp
  · simp
theorem S1_now0 (hl : l.length ≤ 12) : nowL (S1 a l) 0 = P1 a l := by
  refine list_ext1 (by rw [(S1_two hl).len0, P1_len]) fun k hk => ?_
  rw [(S1_two hl).len0] at hk
  unfold S1 P1
  by_cases h : fitsP a l
  · have h' := h
    unfold fitsP at h'
    rw [if_pos h, if_pos h, nowL_wrBN_at (by decide) (by show _ ≤ 6; omega), getD_copiedAt (by omega) (by simp), Nat.min_eq_left (by omega)]
    rfl
  · rw [if_neg h, if_neg h]; rfl
theorem wa_eq (hl : l.length ≤ 12) : block_WriteAll x0 a l cpS = some (if fitsP a l then 0 else 1, S1 a l) := by
  unfold S1
  by_cases h : fitsP a l
  · have h' := h
    unfold fitsP at h'
    rw [if_pos h, if_pos h]
    obtain ⟨an, rfl⟩ := Int.eq_ofNat_of_zero_le h'.1.1
    refine writeAll_eq (x := x0) (at_ := (an : Int)) (m := 6) (st := fun i => wrBN cpS 0 an (fun i => l.getD i 0) i) rfl (by omega) (by omega) fun i hi => ?_
    have e : (an : Int) + (i : Int) = ((an + i : Nat) : Int) := by omega
    rw [e]
    exact wr0 (Fine.wrBN cpS_good.fine _) (two_cpS.wrBN (by omega) (by show 0 + i ≤ 1000; omega)) (by omega)
  · rw [if_neg h, if_neg h]
    unfold fitsP at h
    exact writeAll_out (x := x0) (m := 6) rfl (by omega) (by omega)
end
theorem cp_l1 {at_ n : Int} {l : List UInt64} {bad : UInt8} {rec : Nat → Option (Unit ⊕ Bool)} {i : Nat} {a' n' : Int} (hi : i < 2) (hl : l.length ≤ 12)
    (hq : ([(⟨at_, n⟩ : Arr72), ⟨andI at_ 7, andI n 7⟩]).getD i ⟨0, 0⟩ = ⟨a', n'⟩) : volumegrouplaw05_BlockCopies_l1_b at_ n l bad rec i = rec (i + 1) := by
  unfold volumegrouplaw05_BlockCopies_l1_b
  simp only [lt, hq]
  have hn : inN64 (i + 1) = true := inN64_of (by omega)
  have w1 : volumegroupmake_Words 6 7 = some (wordsL 6 7) := words_eq (n := 6) (by omega)
  have w2 : volumegroupmake_Words 6 500 = some (wordsL 6 500) := words_eq (n := 6) (by omega)
  rw [if_pos (by simp; omega), w1]; simp only [Option.bind_some]
  rw [w2]; simp only [Option.bind_some]
  rw [loaded_eq (by simp) (by intro im h; simp only [List.mem_cons, List.not_mem_nil, or_false] at h; rcases h with rfl | rfl <;> simp)]
  simp only [Option.bind_some, Option.elim_some]
  have hspans : volumegroupmake_Spans (mkS [wordsL 6 7, wordsL 6 500]) = some [x0, x1] := by
    rw [spans_eq (by simp) (by intro i hi; have : i = 0 ∨ i = 1 := by (simp at hi; omega)
                               rcases this with rfl | rfl <;> exact ⟨by decide, by decide⟩)]
    rfl
  rw [hspans]; simp only [Option.bind_some]
  rw [if_neg (by simp)]
  have g0 : [x0, x1].getD 0 dv0 = x0 := rfl
  have g1 : [x0, x1].getD 1 dv0 = x1 := rfl
  rw [g0, g1, show mkS [wordsL 6 7, wordsL 6 500] = cpS from rfl]
  have hsz0 : ∀ w, x0.size w = some 6 := fun _ => rfl
  have hsz1 : ∀ w, x1.size w = some 6 := fun _ => rfl
  have hwa := wa_eq (a := a') hl
  have hF1 := S1_fine (a := a') (l := l)
  have hT1 := S1_two (a := a') hl
  have hW1 := S1_wr (a := a') hl
  have hN0 := S1_now0 (a := a') hl
  have hN1 := S1_now1 (a := a') (l := l)
  have hB0 := fun b => S1_bad0 (a := a') (l := l) (b := b)
  have hB1 := fun b => S1_bad1 (a := a') (l := l) (b := b)
  have hPl := P1_len (a := a') (l := l)
  have hPe : (if (0 ≤ a' ∧ a' ≤ 6) ∧ ((l.length : Nat) : Int) ≤ 6 - a' then grd (decide (0 ≤ a' ∧ a'.toNat ≤ (wordsL 6 7).length ∧ (wordsL 6 7).length ≤ (wordsL 6 7).length)) (some (copiedAt (wordsL 6 7) a'.toNat (wordsL 6 7).length l)) else some (wordsL 6 7)) = some (P1 a' l) := by
    unfold P1
    by_cases h : fitsP a' l
    · rw [if_pos h]
      unfold fitsP at h
      rw [if_pos h, grd_t (decide_eq_true ⟨by omega, by simp; omega, Nat.le_refl _⟩)]; simp
    · rw [if_neg h]; unfold fitsP at h; rw [if_neg h]
  have hfi : ∀ x : Int, x = (if fitsP a' l then 0 else 1) → ¬ (¬ (x = 0 ↔ (0 ≤ a' ∧ a' ≤ 6) ∧ ((l.length : Nat) : Int) ≤ 6 - a') ∨ ¬ ((0 ≤ a' ∧ a' ≤ 6) ∧ ((l.length : Nat) : Int) ≤ 6 - a') ∧ x ≠ 1) := fun x hx => by
    by_cases h : fitsP a' l
    · rw [if_pos h] at hx; unfold fitsP at h; subst hx; simp [h]
    · rw [if_neg h] at hx; unfold fitsP at h; subst hx; simp [h]
  by_cases hT : (((0 ≤ a' ∧ a' ≤ 6) ∧ 0 ≤ n') ∧ n' ≤ 6 - a')
  · obtain ⟨a, rfl⟩ := Int.eq_ofNat_of_zero_le hT.1.1.1
    obtain ⟨m, rfl⟩ := Int.eq_ofNat_of_zero_le hT.1.2
    have hm : a + m ≤ 6 := by omega
    have hra : block_ReadAll x0 (a : Int) (m : Int) cpS = some ((List.range m).map (fun i => (wordsL 6 7).getD (a + i) 0), 0) :=
      readAll_eq (x := x0) (m := 6) (hsz0 _) (by omega) (by omega) fun i hi => by
        have e : (a : Int) + (i : Int) = ((a + i : Nat) : Int) := by omega
        rw [e, rd0 cpS_good.fine two_cpS (by omega), isBad_good cpS_good]; rfl
    rw [hra]; simp only [Option.bind_some]
    rw [if_neg (by simp [hT]), if_pos hT, grd_t (decide_eq_true ⟨by omega, by omega, by omega, by simp; omega⟩)]
    have e1 : ((a : Int) + (m : Int)).toNat = a + m := by omega
    rw [same05_eq (by simp; omega), e1, Int.toNat_natCast]; simp only [Option.bind_some]
    have hsl : (List.range m).map (fun i => (wordsL 6 7).getD (a + i) 0) = ((wordsL 6 7).take (a + m)).drop a := by
      refine list_ext1 (by simp; omega) fun i hi => ?_
      have hi' : i < m := by simpa using hi
      rw [getD_slice, if_pos (by omega)]
      simp [List.getD, hi']
    rw [decide_eq_true hsl, if_neg (by simp), hwa]; simp only [Option.bind_some]
    rw [if_neg (hfi _ rfl)]
    have hPe' := hPe
    rw [Int.toNat_natCast] at hPe'
    rw [hPe']; simp only [Option.bind_some]
    generalize hS : S1 (a : Int) l = s1 at *
    generalize hP : P1 (a : Int) l = P at *
    have hcp : block_Copy x0 x1 (a : Int) (m : Int) s1 = some (0, wrBN s1 1 a (fun i => P.getD (a + i) 0) m) := by
      refine copy_eq (x := x0) (y := x1) (m := 6) (k := 6) (f := fun i => P.getD (a + i) 0) (st := fun i => wrBN s1 1 a (fun i => P.getD (a + i) 0) i) (hsz0 _) (hsz1 _) (by omega) (by omega) (by omega) (fun i hi => ?_) (fun i hi => ?_)
      · have e : (a : Int) + (i : Int) = ((a + i : Nat) : Int) := by omega
        rw [e, rd0 (Fine.wrBN hF1 _) (hT1.wrBN (by omega) (by omega)) (by omega), isBad_wrBN hF1 (by decide), hB0, nowL_wrBN (by rw [hT1.cnt]; omega) (by decide), hN0]; rfl
      · have e : (a : Int) + (i : Int) = ((a + i : Nat) : Int) := by omega
        rw [e]
        exact wr1' (Fine.wrBN hF1 _) (hT1.wrBN (by omega) (by omega)) (by omega)
    rw [hcp]; simp only [Option.bind_some]
    rw [if_neg (by simp [hT]), if_pos hT, grd_t (decide_eq_true ⟨by omega, by omega, by omega, by simp; omega⟩), grd_t (decide_eq_true ⟨by omega, by omega, by omega, by omega⟩)]
    simp only [Option.bind_some]
    have hF2 : Fine (wrBN s1 1 a (fun i => P.getD (a + i) 0) m) := Fine.wrBN hF1 _
    have hT2 : Two (wrBN s1 1 a (fun i => P.getD (a + i) 0) m) := hT1.wrBN (by omega) (by omega)
    have hW2 : (wrBN s1 1 a (fun i => P.getD (a + i) 0) m).writes ≤ 18 := by rw [writes_wrBN]; omega
    have h20 : nowL (wrBN s1 1 a (fun i => P.getD (a + i) 0) m) 0 = P := by rw [nowL_wrBN (by rw [hT1.cnt]; omega) (by decide), hN0]
    have h21 : nowL (wrBN s1 1 a (fun i => P.getD (a + i) 0) m) 1 = copiedAt (wordsL 6 500) a (a + m) ((P.take (a + m)).drop a) := by
      refine list_ext1 (by rw [hT2.len1, copiedAt_length (by omega) (by simp; omega)]; simp) fun k hk => ?_
      rw [hT2.len1] at hk
      rw [nowL_wrBN_at (by rw [hT1.cnt]; omega) (by rw [hT1.z1]; omega), getD_copiedAt (by omega) (by simp; omega), hN1]
      have e : min ((P.take (a + m)).drop a).length (a + m - a) = m := by simp [hPl]; omega
      rw [e]
      by_cases hk2 : a ≤ k ∧ k < a + m
      · rw [if_pos hk2, if_pos hk2, getD_slice, if_pos (by omega)]
      · rw [if_neg hk2, if_neg hk2]
    have hb20 : ∀ b, isBad (wrBN s1 1 a (fun i => P.getD (a + i) 0) m) 0 b = false := fun b => by rw [isBad_wrBN hF1 (by decide)]; exact hB0 b
    have hb21 : ∀ b, isBad (wrBN s1 1 a (fun i => P.getD (a + i) 0) m) 1 b = false := fun b => isBad_wrBN_d (d := 1) hF1 (hB1 b)
    rw [← h21]
    generalize wrBN s1 1 a (fun i => P.getD (a + i) 0) m = s2 at *
    have h21' : ∀ j, j < m → (nowL s2 1).getD (a + j) 0 = P.getD (a + j) 0 := fun j hj => by
      rw [h21, getD_copiedAt (by omega) (by simp; omega)]
      have e : min ((P.take (a + m)).drop a).length (a + m - a) = m := by simp [hPl]; omega
      rw [e, if_pos (by omega), getD_slice, if_pos (by omega)]; congr 1; omega
    have heq : block_Equal x0 x1 (a : Int) (m : Int) s2 = some (true, 0) := by
      rw [equal_eq (x := x0) (y := x1) (m := 6) (k := 6) (f := fun j => P.getD (a + j) 0) (g := fun j => (nowL s2 1).getD (a + j) 0) (hsz0 _) (hsz1 _) (by omega) (by omega) (by omega) (fun i hi => ?_) (fun i hi => ?_)]
      · rw [decide_eq_true (fun j hj => (h21' j hj).symm)]
      · have e : (a : Int) + (i : Int) = ((a + i : Nat) : Int) := by omega
        rw [e, rd0 hF2 hT2 (by omega), hb20, h20]; rfl
      · have e : (a : Int) + (i : Int) = ((a + i : Nat) : Int) := by omega
        rw [e, rd1 hF2 hT2 (by omega), hb21]; rfl
    have hd0 : 0 < s2.drv.length := by rw [hT2.cnt]; omega
    have hd1 : 1 < s2.drv.length := by rw [hT2.cnt]; omega
    have c0 : imC s2 0 = 0 := by rw [imC, if_pos (show inR s2 0 from ⟨by omega, by omega⟩)]
    have c1 : imC s2 1 = 0 := by rw [imC, if_pos (show inR s2 1 from ⟨by omega, by omega⟩)]
    have l0 : imL s2 0 = nowL s2 0 := by rw [imL, if_pos (show inR s2 0 from ⟨by omega, by omega⟩)]; rfl
    have l1 : imL s2 1 = nowL s2 1 := by rw [imL, if_pos (show inR s2 1 from ⟨by omega, by omega⟩)]; rfl
    rw [heq]; simp only [Option.bind_some]
    rw [if_neg (by simp [hT, c0, c1]), l0, l1, h20, same05_eq (by omega)]; simp only [Option.bind_some]
    rw [if_neg (by simp), same05_eq (by rw [hT2.len1]; omega)]; simp only [Option.bind_some]
    rw [if_neg (by simp)]
    by_cases hm0 : m = 0
    · rw [if_pos (.inr (by omega)), hn]; rfl
    · have hmod : (bad.toNat : Int) % (m : Int) = ((bad.toNat % m : Nat) : Int) := by omega
      have hlt : bad.toNat % m < m := Nat.mod_lt _ (by omega)
      generalize hc : bad.toNat % m = c at *
      rw [if_neg (by rintro (h | h); exact h hT; omega), hmod, grd_t (inI64_of (by omega))]
      have e2 : (a : Int) + (c : Int) = ((a + c : Nat) : Int) := by omega
      have hsb : sbS s2 0 ((a : Int) + (c : Int)) true = sbB s2 0 (a + c) := by rw [e2]; exact (sbS_of (d := 0) hd0 (by rw [hT2.z0]; omega)).2
      rw [hsb]
      have hF3 : Fine (sbB s2 0 (a + c)) := hF2.sbB
      have hT3 : Two (sbB s2 0 (a + c)) := ⟨hT2.cnt, hT2.z0, hT2.z1, hT2.wr⟩
      have hW3 : (sbB s2 0 (a + c)).writes ≤ 18 := hW2
      have h30 : nowL (sbB s2 0 (a + c)) 0 = P := h20
      have hb30 : ∀ k : Nat, isBad (sbB s2 0 (a + c)) 0 (k : Int) = decide (k = a + c) := fun k => by
        rw [isBad_sbB, hb20]
        by_cases hk : k = a + c
        · subst hk; simp
        · rw [if_neg (fun h => hk (by have := (Prod.mk.inj h).2; omega)), decide_eq_false hk]
      have hb31 : ∀ k : Int, isBad (sbB s2 0 (a + c)) 1 k = false := fun k => by
        rw [isBad_sbB, hb21, if_neg (fun h => by have := (Prod.mk.inj h).1; omega)]
      generalize sbB s2 0 (a + c) = s3 at *
      have hF := fuel_big
      have h4 := l4_eq (a := a) (m := m) FUEL 0 s3 hF3 hT3 (by omega) (by omega) hm (by omega)
      rw [Nat.add_zero] at h4
      rw [show wrBN s3 1 a (fun _ => 1) 0 = s3 from rfl] at h4
      rw [h4]; simp only [Option.bind_some]
      have hF4 : Fine (wrBN s3 1 a (fun _ => 1) m) := Fine.wrBN hF3 _
      have hT4 : Two (wrBN s3 1 a (fun _ => 1) m) := hT3.wrBN (by omega) (by omega)
      have hW4 : (wrBN s3 1 a (fun _ => 1) m).writes ≤ 24 := by rw [writes_wrBN]; omega
      have h40 : nowL (wrBN s3 1 a (fun _ => 1) m) 0 = P := by rw [nowL_wrBN (by rw [hT3.cnt]; omega) (by decide), h30]
      have h41 : ∀ k, a ≤ k → k < a + m → (nowL (wrBN s3 1 a (fun _ => 1) m) 1).getD k 0 = 1 := fun k h1 h2 => by
        rw [nowL_wrBN_at (by rw [hT3.cnt]; omega) (by rw [hT3.z1]; omega), if_pos ⟨h1, h2⟩]
      have hb40 : ∀ k : Nat, isBad (wrBN s3 1 a (fun _ => 1) m) 0 (k : Int) = decide (k = a + c) := fun k => by rw [isBad_wrBN hF3 (by decide)]; exact hb30 k
      have hb41 : ∀ b, isBad (wrBN s3 1 a (fun _ => 1) m) 1 b = false := fun b => isBad_wrBN_d (d := 1) hF3 (hb31 b)
      generalize wrBN s3 1 a (fun _ => 1) m = s4 at *
      have hcf : block_Copy x0 x1 (a : Int) (m : Int) s4 = some (7, wrBN s4 1 a (fun i => P.getD (a + i) 0) c) := by
        refine copy_fail (x := x0) (y := x1) (m := 6) (k := 6) (u := 0) (f := fun i => P.getD (a + i) 0) (st := fun i => wrBN s4 1 a (fun i => P.getD (a + i) 0) i) (hsz0 _) (hsz1 _) (by omega) (by omega) (by omega) hlt (by decide) (fun i hi => ?_) ?_ (fun i hi => ?_)
        · have e : (a : Int) + (i : Int) = ((a + i : Nat) : Int) := by omega
          rw [e, rd0 (Fine.wrBN hF4 _) (hT4.wrBN (by omega) (by omega)) (by omega), isBad_wrBN hF4 (by decide), hb40, decide_eq_false (by omega), nowL_wrBN (by rw [hT4.cnt]; omega) (by decide), h40]; rfl
        · rw [e2, rd0 (Fine.wrBN hF4 _) (hT4.wrBN (by omega) (by omega)) (by omega), isBad_wrBN hF4 (by decide), hb40, decide_eq_true rfl]; rfl
        · have e : (a : Int) + (i : Int) = ((a + i : Nat) : Int) := by omega
          rw [e]
          exact wr1' (Fine.wrBN hF4 _) (hT4.wrBN (by omega) (by omega)) (by omega)
      rw [hcf]; simp only [Option.bind_some]
      rw [if_neg (by simp)]
      have h5 := l5_eq (a := a) (m := m) (bad := bad) (r := (7, wrBN s4 1 a (fun i => P.getD (a + i) 0) c)) (l := [x0, x1]) (P := P) (b := a + c) rfl hPl hm (by omega) (fun k h1 h2 => by
        rw [rd1 (Fine.wrBN hF4 _) (hT4.wrBN (by omega) (by omega)) (by omega), show isBad (wrBN s4 1 a (fun i => P.getD (a + i) 0) c) 1 (k : Int) = false from isBad_wrBN_d (d := 1) hF4 (hb41 _), if_neg Bool.false_ne_true, nowL_wrBN_at (by rw [hT4.cnt]; omega) (by rw [hT4.z1]; omega), h41 k h1 h2]
        by_cases hk : k < a + c
        · rw [if_pos (by omega), if_pos hk]; show some (P.getD (a + (k - a)) 0, _) = _; rw [show a + (k - a) = k by omega]
        · rw [if_neg (by omega), if_neg hk]) FUEL 0 (by omega) (by omega)
      rw [Nat.add_zero] at h5
      rw [h5, seqO_inl, hn]; rfl
  · have hout : ¬ (0 ≤ a' ∧ a' ≤ 6 ∧ 0 ≤ n' ∧ n' ≤ 6 - a') := fun h => hT ⟨⟨⟨h.1, h.2.1⟩, h.2.2.1⟩, h.2.2.2⟩
    rw [readAll_out (x := x0) (m := 6) (hsz0 _) (by omega) hout]; simp only [Option.bind_some]
    rw [if_neg (by simp [hT]), if_neg hT, hwa]; simp only [Option.bind_some]
    rw [if_neg (hfi _ rfl), hPe]; simp only [Option.bind_some]
    rw [copy_out (x := x0) (y := x1) (m := 6) (k := 6) (hsz0 _) (hsz1 _) (by omega) (by omega) (.inl hout)]; simp only [Option.bind_some]
    rw [if_neg (by simp [hT]), if_neg hT]; simp only [Option.bind_some]
    rw [equal_out (x := x0) (y := x1) (m := 6) (k := 6) (hsz0 _) (hsz1 _) (by omega) (by omega) (.inl hout)]; simp only [Option.bind_some]
    generalize hS : S1 a' l = s1 at *
    have c0 : imC s1 0 = 0 := by rw [imC, if_pos (show inR s1 0 from ⟨by omega, by rw [hT1.cnt]; omega⟩)]
    have c1 : imC s1 1 = 0 := by rw [imC, if_pos (show inR s1 1 from ⟨by omega, by rw [hT1.cnt]; omega⟩)]
    have l0 : imL s1 0 = nowL s1 0 := by rw [imL, if_pos (show inR s1 0 from ⟨by omega, by rw [hT1.cnt]; omega⟩)]; rfl
    have l1 : imL s1 1 = nowL s1 1 := by rw [imL, if_pos (show inR s1 1 from ⟨by omega, by rw [hT1.cnt]; omega⟩)]; rfl
    rw [if_neg (by simp [hT, c0, c1]), l0, l1, hN0, hN1, same05_eq (by rw [hPl]; omega)]; simp only [Option.bind_some]
    rw [if_neg (by simp), same05_eq (by simp)]; simp only [Option.bind_some]
    rw [if_neg (by simp), if_pos (.inl hT), hn]; rfl
theorem blockCopies (at_ n : Int) (l : List UInt64) (bad : UInt8) : volumegrouplaw05_BlockCopies at_ n l bad = some true := by
  unfold volumegrouplaw05_BlockCopies
  rcases Nat.lt_or_ge 12 l.length with h | h
  · rw [if_pos (by omega), awake05]; rfl
  · rw [if_neg (by omega)]
    have hF := fuel_big
    obtain ⟨N, hN⟩ : ∃ N, FUEL = N + 3 := ⟨FUEL - 3, by omega⟩
    rw [hN]
    show seqO (volumegrouplaw05_BlockCopies_l1_b _ _ _ _ _ _) _ = _
    rw [cp_l1 (by omega) h rfl]
    show seqO (volumegrouplaw05_BlockCopies_l1_b _ _ _ _ _ _) _ = _
    rw [cp_l1 (by omega) h rfl]
    show seqO (some (.inl ())) _ = _
    rw [seqO_inl, awake05]; rfl
end Go.Proofs
