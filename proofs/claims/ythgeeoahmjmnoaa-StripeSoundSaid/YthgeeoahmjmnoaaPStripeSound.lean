/- StripeSound: stripes over whole disks are sound. -/
import Derived.Test.YthgeeoahmjmnoaaPStripe
import Derived.Test.YthgeeoahmjmnoaaPSound17
namespace Go.Proofs
open Go.VG
theorem awake17 : volumegrouplaw17_awake = some true := by kernel_rfl
def szS (x : UInt8) : Nat := 1 + (x % 9).toNat
theorem szS_le {x : UInt8} : 1 ≤ szS x ∧ szS x ≤ 9 := by
  have : (x % 9).toNat < 9 := by rw [UInt8.toNat_mod]; exact Nat.mod_lt _ (by decide)
  unfold szS; omega
def imsS (sizes : List UInt8) (i : Nat) : List (List UInt64) := (List.range i).map fun j => wordsL (szS (sizes.getD j 0)) (to_u64 ((j : Nat) : Int) * 1000)
def lenS (sizes : List UInt8) (i : Nat) : List Int := (List.range i).map fun j => ((szS (sizes.getD j 0) : Nat) : Int)
theorem strL1 {sizes : List UInt8} (h4 : sizes.length ≤ 4) : ∀ (N i : Nat), sizes.length - i < N → i ≤ sizes.length → volumegrouplaw17_StripeSound_l1 sizes N (imsS sizes i) (lenS sizes i) i = some (imsS sizes sizes.length, lenS sizes sizes.length)
  | 0, _, h, _ => absurd h (by omega)
  | N + 1, i, h, hi => by
    show volumegrouplaw17_StripeSound_l1_b _ _ _ _ _ = _
    unfold volumegrouplaw17_StripeSound_l1_b
    by_cases hlt : i < sizes.length
    · have hsz := @szS_le (sizes.getD i 0)
      have e : (1 + (sizes.getD i 0 % 9).toNat) = szS (sizes.getD i 0) := rfl
      have hll : (lenS sizes i).length = i := by simp [lenS]
      have hli : (imsS sizes i).length = i := by simp [imsS]
      have e2 : (lenS sizes i ++ [((szS (sizes.getD i 0) : Nat) : Int)]).getD i 0 = ((szS (sizes.getD i 0) : Nat) : Int) := by
        simp only [List.getD]; rw [List.getElem?_append_right (by omega)]; simp [hll]
      rw [if_pos (by omega), e, grd_t (inN64_of (by omega)), grd_t (inLen_of (by rw [hll]; omega)), grd_t (decide_eq_true (by simp [hll])), e2]
      simp only [lt]
      rw [words_eq (by omega)]; simp only [Option.bind_some]
      rw [grd_t (inLen_of (by rw [hli]; omega))]
      have e3 : imsS sizes i ++ [wordsL (szS (sizes.getD i 0)) (to_u64 ((i : Nat) : Int) * 1000)] = imsS sizes (i + 1) := by simp [imsS, List.range_succ]
      have e4 : lenS sizes i ++ [((szS (sizes.getD i 0) : Nat) : Int)] = lenS sizes (i + 1) := by simp [lenS, List.range_succ]
      rw [e3, e4]
      exact strL1 h4 N (i + 1) (by omega) (by omega)
    · rw [if_neg (by omega)]
      have : i = sizes.length := by omega
      subst this; rfl
theorem strN1 {s : ArrS} (h8 : s.drv.length ≤ 1000) : ∀ (N i : Nat), s.drv.length - i < N → i ≤ s.drv.length → stripe_New_l1 (spansA s) s N i ((List.range i).map fun j => ((s.size j : Nat) : Int)) = some ((List.range s.drv.length).map fun j => ((s.size j : Nat) : Int))
  | 0, _, h, _ => absurd h (by omega)
  | N + 1, i, h, hi => by
    show stripe_New_l1_b _ _ _ _ _ = _
    unfold stripe_New_l1_b
    by_cases hlt : i < s.drv.length
    · rw [if_pos (by rw [spansA_length]; omega), spansA_getD hlt, span_size]; simp only [Option.bind_some]
      rw [grd_t (inLen_of (by simp; omega))]
      have e : ((List.range i).map fun j => ((s.size j : Nat) : Int)) ++ [((s.size i : Nat) : Int)] = (List.range (i + 1)).map fun j => ((s.size j : Nat) : Int) := by simp [List.range_succ]
      rw [e]
      exact strN1 h8 N (i + 1) (by omega) (by omega)
    · rw [if_neg (by rw [spansA_length]; omega)]
      have : i = s.drv.length := by omega
      subst this; rfl
theorem drop_getD_cons {α : Type} {l : List α} {i : Nat} {d : α} (h : i < l.length) : l.drop i = l.getD i d :: l.drop (i + 1) := by
  rw [List.drop_eq_getElem_cons h]; simp [List.getD, h]
theorem idx17 {l : List Int} (h8 : l.length ≤ 1000) (hl : ∀ i, i < l.length → 0 ≤ l.getD i 0 ∧ l.getD i 0 ≤ 1000) : ∀ (N i : Nat), l.length - i < N → i ≤ l.length → slices_IndexFunc_int__stripe_Size_1_l1 l N i = some (.inl ())
  | 0, _, h, _ => absurd h (by omega)
  | N + 1, i, h, hi => by
    show slices_IndexFunc_int__stripe_Size_1_l1_b _ _ _ = _
    unfold slices_IndexFunc_int__stripe_Size_1_l1_b
    by_cases hlt : i < l.length
    · have := hl i hlt
      rw [if_pos (by omega), show stripe_Size_1 (l.getD i 0) = some false from by unfold stripe_Size_1; rw [decide_eq_false (by omega), decide_eq_false (by omega)]; rfl]; simp only [Option.bind_some]
      rw [if_neg (by decide)]
      exact idx17 h8 hl N (i + 1) (by omega) (by omega)
    · rw [if_neg (by omega)]
theorem min17 {l : List Int} : ∀ (N i : Nat) (x : Int), l.length - i < N → i ≤ l.length → slices_Min_int_l2 l N x i = some ((l.drop i).foldl min x)
  | 0, _, _, h, _ => absurd h (by omega)
  | N + 1, i, x, h, hi => by
    show slices_Min_int_l2_b _ _ _ _ = _
    unfold slices_Min_int_l2_b
    by_cases hlt : i < l.length
    · rw [if_pos (by omega), min17 N (i + 1) _ (by omega) (by omega), drop_getD_cons (d := 0) hlt, List.foldl_cons]
    · rw [if_neg (by omega), List.drop_eq_nil_of_le (by omega)]; rfl
theorem ref17 {l : List Int} (hl : ∀ i, i < l.length → 0 ≤ l.getD i 0 ∧ l.getD i 0 ≤ 1000) : ∀ (N i : Nat) (x : Int), l.length - i < N → i ≤ l.length → volumegroupref17_Size_l1 l N x i = some (.inl ((l.drop i).foldl min x))
  | 0, _, _, h, _ => absurd h (by omega)
  | N + 1, i, x, h, hi => by
    show volumegroupref17_Size_l1_b _ _ _ _ = _
    unfold volumegroupref17_Size_l1_b
    by_cases hlt : i < l.length
    · have := hl i hlt
      rw [if_pos (by omega), if_neg (by omega), ref17 hl N (i + 1) _ (by omega) (by omega), drop_getD_cons (d := 0) hlt, List.foldl_cons]
    · rw [if_neg (by omega), List.drop_eq_nil_of_le (by omega)]; rfl
theorem foldl_min : ∀ {l : List Int} {x : Int}, l.foldl min x ≤ x ∧ (∀ y ∈ l, l.foldl min x ≤ y) ∧ ((∀ y ∈ l, 0 ≤ y) → 0 ≤ x → 0 ≤ l.foldl min x)
  | [], x => ⟨Int.le_refl _, by simp, fun _ h => h⟩
  | a :: l, x => by
    obtain ⟨h1, h2, h3⟩ := @foldl_min l (min x a)
    rw [List.foldl_cons]
    refine ⟨by omega, fun y hy => ?_, fun h h0 => h3 (fun y hy => h y (List.mem_cons_of_mem _ hy)) (by have := h a (List.mem_cons_self ..); omega)⟩
    rcases List.mem_cons.1 hy with rfl | hy
    · omega
    · exact h2 y hy
theorem size17 {l : List Int} {c : Nat} (hc : 1 ≤ c ∧ c ≤ 4) (h8 : l.length ≤ 4) (h0 : 0 < l.length) (hl : ∀ i, i < l.length → 0 ≤ l.getD i 0 ∧ l.getD i 0 ≤ 1000) : ∃ m : Nat, (∀ i, i < l.length → (m : Int) ≤ l.getD i 0) ∧ stripe_Size (c : Int) l = some (((l.length * (m / c * c) : Nat) : Int), 0) ∧ volumegroupref17_Size (c : Int) l = some (((l.length * (m / c * c) : Nat) : Int), 0) := by
  have hz := hl 0 h0
  have hd0 : l = l.getD 0 0 :: l.drop 1 := by have := drop_getD_cons (d := (0 : Int)) h0; simpa using this
  obtain ⟨f1, f2, f3⟩ := @foldl_min (l.drop 1) (l.getD 0 0)
  have hmem : ∀ y ∈ l.drop 1, ∃ i, i < l.length ∧ l.getD i 0 = y := fun y hy => by
    obtain ⟨i, hi, rfl⟩ := List.getElem_of_mem (List.mem_of_mem_drop hy)
    exact ⟨i, hi, by simp [List.getD, hi]⟩
  have h1 := f3 (fun y hy => by obtain ⟨i, hi, rfl⟩ := hmem y hy; exact (hl i hi).1) hz.1
  obtain ⟨m, hm⟩ := Int.eq_ofNat_of_zero_le h1
  rw [hm] at f1 f2
  have hmle : ∀ i, i < l.length → (m : Int) ≤ l.getD i 0 := fun i hi => by
    rcases Nat.eq_zero_or_pos i with rfl | hp
    · exact f1
    · refine f2 _ ?_
      have e : l.getD i 0 = (l.drop 1).getD (i - 1) 0 := by simp only [List.getD, List.getElem?_drop]; rw [show 1 + (i - 1) = i by omega]
      rw [e]
      have hlt : i - 1 < (l.drop 1).length := by simp; omega
      simp only [List.getD, List.getElem?_eq_getElem hlt, Option.getD_some]
      exact List.getElem_mem hlt
  have hmb : m ≤ 1000 := by omega
  have ht : (m : Int).tdiv (c : Int) = ((m / c : Nat) : Int) := (Int.ofNat_tdiv m c).symm
  have hq : m / c ≤ m := Nat.div_le_self _ _
  have hqc : m / c * c ≤ m := Nat.div_mul_le_self _ _
  have hll : l.length * (m / c * c) ≤ 4 * 1000 := Nat.mul_le_mul h8 (by omega)
  have hw : IntKind.i64.wrap ((m : Int).tdiv (c : Int)) = ((m / c : Nat) : Int) := by
    rw [ht]; generalize m / c = q at *; exact wrap64_in (by omega) (by omega)
  have e1 : ((m / c : Nat) : Int) * (c : Int) = ((m / c * c : Nat) : Int) := (Int.natCast_mul _ _).symm
  have e2 : ((l.length : Nat) : Int) * ((m / c * c : Nat) : Int) = ((l.length * (m / c * c) : Nat) : Int) := (Int.natCast_mul _ _).symm
  have hF := fuel_big
  refine ⟨m, hmle, ?_, ?_⟩
  · unfold stripe_Size slices_ContainsFunc_int__stripe_Size_1 slices_IndexFunc_int__stripe_Size_1 slices_Min_int
    rw [show stripe_layout_valid (⟨(c : Int), ((l.length : Nat) : Int)⟩ : stripe_layout) 0 = some true from by
      unfold stripe_layout_valid
      rw [decide_eq_true (show (1 : Int) ≤ (c : Int) by omega), decide_eq_true (show (c : Int) ≤ 65536 by omega), decide_eq_true (show (1 : Int) ≤ ((l.length : Nat) : Int) by omega), decide_eq_true (show ((l.length : Nat) : Int) ≤ 6 by omega)]; rfl]
    simp only [Option.bind_some]
    rw [if_neg (by simp), idx17 (by omega) hl FUEL 0 (by omega) (by omega), seqO_inl]
    simp only [Option.bind_some]
    rw [if_neg (by decide), if_neg (by omega)]; simp only [Option.bind_some]
    rw [grd_t (decide_eq_true h0), min17 FUEL 1 _ (by omega) (by omega)]; simp only [Option.bind_some]
    rw [hm, grd_t (decide_eq_true (by omega)), hw, e1, e2]
    generalize l.length * (m / c * c) = t at *
    generalize m / c * c = v at *
    rw [grd_t (inI64_of (by omega)), grd_t (inI64_of (by omega))]
  · unfold volumegroupref17_Size
    rw [if_neg (by omega), ref17 hl FUEL 0 _ (by omega) (by omega), seqO_inl, List.drop_zero]
    have : l.foldl min 1073741824 = (m : Int) := by
      rw [hd0, List.foldl_cons, ← hm]; congr 1; omega
    rw [this, hw, e1, e2]
    generalize l.length * (m / c * c) = t at *
    generalize m / c * c = v at *
    rw [grd_t (inI64_of (by omega)), grd_t (inI64_of (by omega))]
theorem refPlace {c n k : Nat} (hc : 1 ≤ c ∧ c ≤ 65536) (hn : 1 ≤ n ∧ n ≤ 6) (hk : k ≤ 1073741824) : volumegroupref17_Place (c : Int) (n : Int) (k : Int) = some (((strF c n k).1 : Int), ((strF c n k).2 : Int), 0) := by
  have h1 : (k : Int) / (c : Int) = ((k / c : Nat) : Int) := (Int.natCast_ediv k c).symm
  have h2 : (k : Int) % (c : Int) = ((k % c : Nat) : Int) := (Int.natCast_emod k c).symm
  have h3 : ((k / c : Nat) : Int).tdiv (n : Int) = ((k / c / n : Nat) : Int) := (Int.ofNat_tdiv _ n).symm
  have h4 : ((k / c : Nat) : Int).tmod (n : Int) = ((k / c % n : Nat) : Int) := (Int.ofNat_tmod _ n).symm
  have h5 : k / c ≤ k := Nat.div_le_self _ _
  have h6 : k / c / n ≤ k / c := Nat.div_le_self _ _
  have h7 : k / c * c ≤ k := Nat.div_mul_le_self _ _
  have h8 : k / c / n * c ≤ k / c * c := Nat.mul_le_mul_right _ h6
  have h10 : k / c / n * c + k % c ≤ k := by have := Nat.div_add_mod k c; rw [Nat.mul_comm] at this; omega
  unfold volumegroupref17_Place strF
  rw [if_neg (by omega)]
  simp only [h1, h2, h3, h4]
  generalize k / c = q at *
  generalize k % c = r at *
  generalize q / n = w at *
  rw [wrap64_in (x := (w : Int)) (by omega) (by omega)]
  have e : (w : Int) * (c : Int) = ((w * c : Nat) : Int) := by rw [Int.natCast_mul]
  rw [e]
  generalize w * c = x at *
  rw [grd_t (inI64_of (by omega)), grd_t (inI64_of (by omega))]
  simp only [Int.natCast_add]
theorem spansA_congr {ns : List Nat} {s s' : ArrS} (h : InSz ns s) (h' : InSz ns s') : spansA s = spansA s' := by
  unfold spansA
  rw [h.cnt, h'.cnt]
  apply List.map_congr_left
  intro i hi
  rw [h.size i (List.mem_range.1 hi), h'.size i (List.mem_range.1 hi)]
section
variable {sizes : List UInt8} (h4 : sizes.length ≤ 4)
abbrev imS (sizes : List UInt8) := imsS sizes sizes.length
theorem imS_getD {i : Nat} (hi : i < sizes.length) : (imS sizes).getD i [] = wordsL (szS (sizes.getD i 0)) (to_u64 ((i : Nat) : Int) * 1000) := by
  simp [imS, imsS, List.getD, hi]
theorem imS_len : (imS sizes).length = sizes.length := by simp [imS, imsS]
theorem nsS_len : (lensN (imS sizes)).length = sizes.length := by simp [lensN, imS_len]
theorem nsS_getD {i : Nat} (hi : i < sizes.length) : (lensN (imS sizes)).getD i 0 = szS (sizes.getD i 0) := by
  rw [lensN_getD, imS_getD hi, wordsL_length]
theorem lenS_len : (lenS sizes sizes.length).length = sizes.length := by simp [lenS]
theorem lenS_getD {i : Nat} (hi : i < sizes.length) : (lenS sizes sizes.length).getD i 0 = ((szS (sizes.getD i 0) : Nat) : Int) := by simp [lenS, List.getD, hi]
theorem lens_of {s : ArrS} (hs : InSz (lensN (imS sizes)) s) : ((List.range s.drv.length).map fun j => ((s.size j : Nat) : Int)) = lenS sizes sizes.length := by
  unfold lenS
  rw [hs.cnt, nsS_len]
  apply List.map_congr_left
  intro i hi
  have hi := List.mem_range.1 hi
  rw [hs.size i (by rw [nsS_len]; exact hi), nsS_getD hi]
include h4
theorem new17 {s : ArrS} (hs : InSz (lensN (imS sizes)) s) {c : Int} : stripe_New (spansA s) c s = Option.bind (stripe_Size c (lenS sizes sizes.length)) fun r24 => if r24.2 ≠ (0 : Int) then some (none, r24.2) else some ((some (Dvc.stripe c ((sizes.length : Nat) : Int) (spansA s) r24.1)), (0 : Int)) := by
  unfold stripe_New
  have hF := fuel_big
  generalize FUEL = N at hF ⊢
  have hl : (spansA s).length = sizes.length := by rw [spansA_length, hs.cnt, nsS_len]
  have hd : s.drv.length = sizes.length := by rw [hs.cnt, nsS_len]
  have h := strN1 (s := s) (by omega) N 0 (by omega) (by omega)
  rw [List.range_zero, List.map_nil] at h
  rw [h, lens_of hs]; simp only [Option.bind_some, hl, grd_t (inLen_of (show sizes.length ≤ 1000000000 by omega))]
theorem ini17 {c n t : Nat} (hc : 1 ≤ c ∧ c ≤ 4) (hn : n = sizes.length) (h0 : 0 < n) (hF : ∀ k, k < t → (strF c n k).1 < n ∧ (strF c n k).2 < szS (sizes.getD (strF c n k).1 0)) (ht : t ≤ 4000) {ch : UInt8} (hch : 1 + (ch % (4 : UInt8)).toNat = c) {e : Int} :
    ∀ (N i : Nat), t - i < N → i ≤ t → volumegrouplaw17_StripeSound_l3 ch (imS sizes, lenS sizes sizes.length) ((t : Int), e) N ((List.range i).map fun k => now (mkS (imS sizes)) (strF c n k).1 (strF c n k).2) i = some ((List.range t).map fun k => now (mkS (imS sizes)) (strF c n k).1 (strF c n k).2)
  | 0, _, h, _ => absurd h (by omega)
  | N + 1, i, h, hi => by
    subst hn
    show volumegrouplaw17_StripeSound_l3_b _ _ _ _ _ _ = _
    unfold volumegrouplaw17_StripeSound_l3_b
    by_cases hlt : i < t
    · obtain ⟨h1, h2⟩ := hF i hlt
      simp only [hch, lenS_len]
      rw [if_pos (by omega), refPlace (by omega) (by omega) (by omega)]; simp only [Option.bind_some, Int.toNat_natCast]
      rw [grd_t (decide_eq_true (by rw [imS_len]; omega)), grd_t (decide_eq_true (by rw [imS_getD (by omega), wordsL_length]; omega)), imS_getD (by omega), grd_t (inLen_of (by simp; omega)), grd_t (inN64_of (by omega))]
      have e : ((List.range i).map fun k => now (mkS (imS sizes)) (strF c sizes.length k).1 (strF c sizes.length k).2) ++ [(wordsL (szS (sizes.getD (strF c sizes.length i).1 0)) (to_u64 (((strF c sizes.length i).1 : Nat) : Int) * 1000)).getD (strF c sizes.length i).2 0] = (List.range (i + 1)).map fun k => now (mkS (imS sizes)) (strF c sizes.length k).1 (strF c sizes.length k).2 := by
        rw [List.range_succ, List.map_append]
        show _ = _ ++ [(nowL (mkS (imS sizes)) (strF c sizes.length i).1).getD (strF c sizes.length i).2 0]
        rw [nowL_mkS, imS_getD (by omega)]
      rw [e]
      exact ini17 hc rfl h0 hF ht hch N (i + 1) (by omega) (by omega)
    · rw [if_neg (by show ¬ ((i : Int) < (t : Int)); omega)]
      have : i = t := by omega
      subst this; rfl
end
theorem stripeSound (sizes : List UInt8) (chunk : UInt8) (steps : List volumegroupmake_Step) : volumegrouplaw17_StripeSound sizes chunk steps = some true := by
  unfold volumegrouplaw17_StripeSound volumegroupmake_Few
  simp only [awake17, Option.bind_some]
  by_cases h4 : sizes.length ≤ 4
  · rw [if_neg (by omega)]
    by_cases hst : ((steps.length : Nat) : Int) ≤ 24
    · rw [if_neg (by simpa using hst)]
      have hF := fuel_big
      have e0 := strL1 h4 FUEL 0 (by omega) (by omega)
      have e1 : imsS sizes 0 = [] := rfl
      have e2 : lenS sizes 0 = [] := rfl
      rw [e1, e2] at e0
      rw [e0]; simp only [Option.bind_some]
      have hsz : InSz (lensN (imS sizes)) (mkS (imS sizes)) := inSz_mkS
      have hmk : (mkS (imS sizes)).drv.length = sizes.length := by rw [hsz.cnt, nsS_len]
      rw [loaded_eq (by rw [imS_len]; omega) (fun im him => by
        obtain ⟨i, hi, rfl⟩ := List.getElem_of_mem him
        have hi' : i < sizes.length := by rwa [imS_len] at hi
        have := imS_getD hi'
        simp only [List.getD, List.getElem?_eq_getElem hi, Option.getD_some] at this
        rw [this, wordsL_length]
        have := @szS_le ((sizes[i]?).getD 0)
        omega)]
      simp only [Option.bind_some, Option.elim_some]
      obtain ⟨c, hc⟩ : ∃ c, 1 + (chunk % (4 : UInt8)).toNat = c := ⟨_, rfl⟩
      have hcb : 1 ≤ c ∧ c ≤ 4 := by
        have : (chunk % (4 : UInt8)).toNat < 4 := by rw [UInt8.toNat_mod]; exact Nat.mod_lt _ (by decide)
        omega
      simp only [hc]
      rw [grd_t (inN64_of (by omega))]
      have hspans : ∀ s, InSz (lensN (imS sizes)) s → volumegroupmake_Spans s = some (spansA s) := fun s hs => spans_eq (by rw [hs.cnt, nsS_len]; omega) (fun i hi => by
        rw [hs.cnt, nsS_len] at hi
        rw [hs.size i (by rw [nsS_len]; exact hi), nsS_getD hi]
        have := @szS_le (sizes.getD i 0); omega)
      rw [hspans _ hsz]; simp only [Option.bind_some]
      rw [new17 h4 hsz]
      rcases Nat.eq_zero_or_pos sizes.length with h0 | h0
      · have hn : lenS sizes sizes.length = [] := by rw [h0]; rfl
        rw [hn, show stripe_Size (c : Int) [] = some (0, 1) from by
          unfold stripe_Size
          rw [show stripe_layout_valid (⟨(c : Int), ((([] : List Int).length : Nat) : Int)⟩ : stripe_layout) 0 = some false from by
            unfold stripe_layout_valid
            rw [decide_eq_false (show ¬ ((1 : Int) ≤ ((([] : List Int).length : Nat) : Int)) by decide)]
            simp]
          rfl, show volumegroupref17_Size (c : Int) [] = some (0, 1) from by
          unfold volumegroupref17_Size
          rw [if_pos (by simp)]]
        rfl
      · obtain ⟨m, hm, hs1, hs2⟩ := size17 (l := lenS sizes sizes.length) (c := c) hcb (by rw [lenS_len]; exact h4) (by rw [lenS_len]; exact h0) (fun i hi => by
          rw [lenS_len] at hi
          rw [lenS_getD hi]
          have := @szS_le (sizes.getD i 0); omega)
        rw [lenS_len] at hs1 hs2
        have hm' : ∀ i, i < sizes.length → m ≤ szS (sizes.getD i 0) := fun i hi => by
          have := hm i (by rw [lenS_len]; exact hi)
          rw [lenS_getD hi] at this; omega
        have hmb : m ≤ 9 := by have := hm' 0 h0; have := @szS_le (sizes.getD 0 0); omega
        have hmc := Nat.div_mul_le_self m c
        rw [hs1, hs2]; simp only [Option.bind_some, Option.elim_some]
        have hT : sizes.length * (m / c * c) ≤ 4 * 9 := Nat.mul_le_mul h4 (by omega)
        have hx := mapD_stripe (ns := lensN (imS sizes)) hsz (c := c) (m := m) ⟨by omega, by omega⟩ ⟨by rw [nsS_len]; omega, by rw [nsS_len]; omega⟩ (fun i hi => by
          rw [nsS_len] at hi; rw [nsS_getD hi]; exact hm' i hi) (fun i hi => by
          rw [nsS_len] at hi; rw [nsS_getD hi]; have := @szS_le (sizes.getD i 0); omega)
        rw [nsS_len] at hx
        have hFk : ∀ k, k < sizes.length * (m / c * c) → (strF c sizes.length k).1 < sizes.length ∧ (strF c sizes.length k).2 < szS (sizes.getD (strF c sizes.length k).1 0) := fun k hk => by
          obtain ⟨h1, h2, -⟩ := hx.at_ k hk
          rw [nsS_len] at h1
          rw [nsS_getD h1] at h2
          exact ⟨h1, h2⟩
        generalize hT2 : sizes.length * (m / c * c) = T at *
        rw [if_neg (by decide)]; simp only [Option.bind_some]
        rw [if_neg (by decide)]; simp only [Option.elim_some]
        rw [if_neg (by decide), if_neg (by decide)]
        have e3 := ini17 h4 hcb rfl h0 hFk (by omega) hc FUEL 0 (e := 0) (by omega) (by omega)
        rw [List.range_zero, List.map_nil] at e3
        rw [e3]; simp only [Option.bind_some]
        have hrd := hx.rdo (mkS (imS sizes)) (T : Int) hsz (by omega)
        have hwr := hx.wro (mkS (imS sizes)) (-1) 5 hsz (by omega)
        rw [hrd]; simp only [Option.bind_some]
        rw [if_neg (by simp), hwr]; simp only [Option.bind_some]
        rw [if_neg (by simp)]
        have hopen : ∀ s, InSz (lensN (imS sizes)) s → volumegrouplaw17_StripeSound_1 s (c : Int) = some (some (Dvc.stripe (c : Int) ((sizes.length : Nat) : Int) (spansA (mkS (imS sizes))) ((T : Nat) : Int)), true) := fun s hs => by
          unfold volumegrouplaw17_StripeSound_1
          rw [hspans s hs]; simp only [Option.bind_some]
          rw [new17 h4 hs, hs1]; simp only [Option.bind_some]
          rw [if_neg (by simp), spansA_congr hs hsz]; rfl
        have h0s := SInv.start (initial := (List.range T).map fun k => now (mkS (imS sizes)) (strF c sizes.length k).1 (strF c sizes.length k).2) hx hsz rfl coh_mkS (fun d => good_mkS.miss d) rfl rfl (by simp) (fun k hk => by rw [getD_map_range hk])
        obtain ⟨s', h5⟩ := sound_eq (c1 := (c : Int)) hx hopen (fun i j _ _ he => strF_inj (by omega) he) (fun d hd => by rw [nsS_len]; exact List.mem_range.1 hd) (by omega) (by simp) (l := steps) (by omega) h0s rfl
        rw [h5]; rfl
    · rw [if_pos (by simpa using hst)]
  · rw [if_pos (by omega)]
end Go.Proofs
