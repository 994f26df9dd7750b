/- BlockConcat: a concatenation has the sectors of its parts one behind the other, and its flush reaches all parts. -/
import Derived.Test.YthgeeoahmjmnoaaPAwake05
import Derived.Test.YthgeeoahmjmnoaaPFls
import Derived.Test.YthgeeoahmjmnoaaLBlockConcat
namespace Go.Proofs
open Go.VG
theorem getD_map_range {α : Type} {f : Nat → α} {n i : Nat} {d : α} (h : i < n) : ((List.range n).map f).getD i d = f i := by simp [List.getD, h]
theorem mapD_spansA {ns : List Nat} {s : ArrS} (hs : InSz ns s) (hb : ∀ i, i < ns.length → ns.getD i 0 ≤ 1000000000) {i : Nat} (hi : i < ns.length) : MapD ns ((spansA s).getD i dv0) (ns.getD i 0) (fun k => (i, k)) [i] := by
  rw [spansA_getD (by rw [hs.cnt]; exact hi), hs.size i hi]
  have := MapD.span (ns := ns) (d := i) (st := 0) (n := ns.getD i 0) hi (by omega) (hb i hi)
  simpa using this
theorem flatten_single : ∀ {l : List Nat}, (l.map fun i => [i]).flatten = l
  | [] => rfl
  | x :: l => by rw [List.map_cons, List.flatten_cons, flatten_single]; rfl
/-- All disks of an array one behind the other. -/
theorem mapD_all {ns : List Nat} {s : ArrS} (hs : InSz ns s) (h8 : ns.length ≤ 1000) (hb : ∀ i, i < ns.length → ns.getD i 0 ≤ 1000000000) (ht : sumTo ns ns.length ≤ 1000000000) :
    MapD ns (Dvc.concat (spansA s) (endsL ns)) (sumTo ns ns.length) (fun k => (partAt ns k, k - sumTo ns (partAt ns k))) (List.range ns.length) := by
  have hl : (spansA s).length = ns.length := by rw [spansA_length, hs.cnt]
  have h := MapD.concat (ns := ns) (l := spansA s) (ms := ns) (fs := (List.range ns.length).map fun i => fun k => (i, k)) (dss := (List.range ns.length).map fun i => [i]) (by omega) hl (by simp [hl])
    (fun i hi => by
      rw [getD_map_range (by omega), getD_map_range (by omega)]
      exact mapD_spansA hs hb (by omega)) ht
  rw [flatten_single] at h
  have e : ∀ k, k < sumTo ns ns.length → (((List.range ns.length).map fun i => fun k => ((i, k) : Nat × Nat)).getD (partAt ns k) fun _ => (0, 0)) (k - sumTo ns (partAt ns k)) = (partAt ns k, k - sumTo ns (partAt ns k)) := fun k hk => by
    obtain ⟨i, hi, h5, h6, -⟩ := concat_find (l := spansA s) (ns := ns) (s := s) hl h8 ht hk
    rw [partAt_eq hi h5 h6, getD_map_range hi]
  exact { small := h.small, at_ := fun k hk => by have := h.at_ k hk; rwa [e k hk] at this, size := h.size, rd := fun s k hs hk => by rw [h.rd s k hs hk, e k hk], rdo := h.rdo, wr := fun s k v hs hk => by rw [h.wr s k v hs hk, e k hk], wro := h.wro, fl := h.fl }
theorem partAt_spec {ns : List Nat} {k : Nat} (hk : k < sumTo ns ns.length) (h8 : ns.length ≤ 1000) (ht : sumTo ns ns.length ≤ 1000000000) : partAt ns k < ns.length ∧ sumTo ns (partAt ns k) ≤ k ∧ k < sumTo ns (partAt ns k + 1) := by
  obtain ⟨i, hi, h5, h6, -⟩ := concat_find (l := List.replicate ns.length dv0) (ns := ns) (s := newS []) (by simp) h8 ht hk
  rw [partAt_eq hi h5 h6]; exact ⟨hi, h5, h6⟩
theorem map_getD0 {l : List UInt64} {f : UInt64 → UInt64} {j : Nat} (h : j < l.length) : (l.map f).getD j 0 = f (l.getD j 0) := by
  simp only [List.getD, List.getElem?_map]; rw [List.getElem?_eq_getElem h]; rfl
/-- The lengths of some lists. -/
def lensN (ims : List (List UInt64)) : List Nat := ims.map List.length
theorem lensN_getD {ims : List (List UInt64)} {i : Nat} : (lensN ims).getD i 0 = (ims.getD i []).length := by
  simp only [lensN, List.getD, List.getElem?_map]; cases ims[i]? <;> rfl
@[simp] theorem lensN_length {ims : List (List UInt64)} : (lensN ims).length = ims.length := by simp [lensN]
theorem sumTo_flatten {ims : List (List UInt64)} : ∀ {i : Nat}, i ≤ ims.length → sumTo (lensN ims) i = (ims.take i).flatten.length
  | 0, _ => by simp [sumTo]
  | i + 1, h => by
    rw [sumTo_succ (by rw [lensN_length]; omega), sumTo_flatten (by omega), lensN_getD, List.take_succ_eq_append_getElem (show i < ims.length by omega), List.flatten_append, List.length_append]
    simp [List.getD, show i < ims.length by omega]
theorem flatten_at {ims : List (List UInt64)} {i j : Nat} (hi : i < ims.length) (hj : j < (ims.getD i []).length) : ims.flatten.getD (sumTo (lensN ims) i + j) 0 = (ims.getD i []).getD j 0 := by
  rw [sumTo_flatten (by omega)]
  have e : ims.flatten = (ims.take i).flatten ++ (ims.getD i [] ++ (ims.drop (i + 1)).flatten) := by
    conv => lhs; rw [← List.take_append_drop i ims, List.drop_eq_getElem_cons hi, List.flatten_append, List.flatten_cons]
    simp [List.getD, hi]
  rw [e]
  simp only [List.getD]
  rw [List.getElem?_append_right (by omega), Nat.add_sub_cancel_left, List.getElem?_append_left (by simpa [List.getD] using hj)]
theorem inSz_mkS {ims : List (List UInt64)} : InSz (lensN ims) (mkS ims) := ⟨by simp, fun d _ => by rw [size_nowL, nowL_mkS, lensN_getD], Nat.zero_le _⟩
/-- The images. -/
def imgs (sizes : List UInt8) (m : Nat) : List (List UInt64) := (List.range m).map fun i => wordsL (1 + (sizes.getD i 0 % 4).toNat) (to_u64 (1000 * ((i : Nat) : Int) + 1))
theorem imgs_succ {sizes : List UInt8} {m : Nat} : imgs sizes (m + 1) = imgs sizes m ++ [wordsL (1 + (sizes.getD m 0 % 4).toNat) (to_u64 (1000 * ((m : Nat) : Int) + 1))] := by simp [imgs, List.range_succ]
theorem mod4 (x : UInt8) : (x % 4).toNat < 4 := by rw [UInt8.toNat_mod]; exact Nat.mod_lt _ (by decide)
theorem imgs_len {sizes : List UInt8} : ∀ {m : Nat}, (imgs sizes m).flatten.length ≤ 4 * m
  | 0 => by simp [imgs]
  | m + 1 => by
    have := imgs_len (sizes := sizes) (m := m)
    have := mod4 (sizes.getD m 0)
    rw [imgs_succ, List.flatten_append, List.length_append]; simp only [List.flatten_cons, List.flatten_nil, List.append_nil, wordsL_length]; omega
theorem bc_l1 {sizes : List UInt8} (h6 : sizes.length ≤ 6) : ∀ (N i : Nat), sizes.length - i < N → i ≤ sizes.length → volumegrouplaw05_BlockConcat_l1 sizes N (imgs sizes i) (imgs sizes i).flatten i = some (imgs sizes sizes.length, (imgs sizes sizes.length).flatten)
  | 0, _, h, _ => absurd h (by omega)
  | N + 1, i, h, hi => by
    show volumegrouplaw05_BlockConcat_l1_b _ _ _ _ _ = _
    unfold volumegrouplaw05_BlockConcat_l1_b
    by_cases hlt : i < sizes.length
    · have h4 := mod4 (sizes.getD i 0)
      have h5 := imgs_len (sizes := sizes) (m := i)
      rw [if_pos (by omega), grd_t (inN64_of (by omega)), words_eq (by omega)]; simp only [Option.bind_some]
      rw [grd_t (inLen_of (by simp [imgs]; omega)), grd_t (inLen_of (by rw [wordsL_length]; omega))]
      have := bc_l1 h6 N (i + 1) (by omega) (by omega)
      rw [imgs_succ, List.flatten_append] at this
      simpa using this
    · rw [if_neg (by omega)]
      have : i = sizes.length := by omega
      rw [this]
section
variable {ims : List (List UInt64)} {v : UInt64}
abbrev T (ims : List (List UInt64)) : Nat := sumTo (lensN ims) ims.length
/-- The array when k sectors were written. -/
structure At (ims : List (List UInt64)) (v : UInt64) (k : Nat) (s : ArrS) : Prop where
  good : Good s
  coh : Coh s
  sz : InSz (lensN ims) s
  wr : s.writes = k
  now : ∀ i j, i < ims.length → j < (ims.getD i []).length → now s i j = if sumTo (lensN ims) i + j < k then (ims.getD i []).getD j 0 ^^^ v else (ims.getD i []).getD j 0
  dur : ∀ i j, i < ims.length → j < (ims.getD i []).length → dur s i j = (ims.getD i []).getD j 0
theorem at_mkS : At ims v 0 (mkS ims) where
  good := good_mkS
  coh := coh_mkS
  sz := inSz_mkS
  wr := rfl
  now i j _ _ := by rw [if_neg (by omega)]; show (nowL (mkS ims) i).getD j 0 = _; rw [nowL_mkS]
  dur i j _ _ := by
    show (durL (mkS ims) i).getD j 0 = _
    have : durL (mkS ims) i = ims.getD i [] := by simp only [durL, mkS, List.getD, List.getElem?_map]; cases ims[i]? <;> rfl
    rw [this]
theorem At.size {k : Nat} {s : ArrS} (h : At ims v k s) {i : Nat} (hi : i < ims.length) : s.size i = (ims.getD i []).length := by rw [h.sz.size i (by simpa using hi), lensN_getD]
theorem sum_le {i : Nat} (hi : i < ims.length) : sumTo (lensN ims) i + (ims.getD i []).length ≤ T ims := by
  have h1 := sumTo_succ (ns := lensN ims) (i := i) (by simpa using hi)
  rw [lensN_getD] at h1
  have := sumTo_mono (ns := lensN ims) (i := i + 1) (j := ims.length) (by omega) (by simp)
  show _ ≤ sumTo (lensN ims) ims.length
  omega
theorem At.next {s : ArrS} {i j : Nat} (h : At ims v (sumTo (lensN ims) i + j) s) (hi : i < ims.length) (hj : j < (ims.getD i []).length) (hT : T ims ≤ 1000000) : At ims v (sumTo (lensN ims) i + j + 1) (wr1 s i j ((ims.getD i []).getD j 0 ^^^ v)) := by
  have hd : i < s.drv.length := by rw [h.sz.cnt]; simpa using hi
  have ha : j < s.size i := by rw [h.size hi]; exact hj
  have hsl := sum_le hi
  refine ⟨h.good.wr1, h.coh.wr1 hd ha, ⟨by rw [drv_wr1]; exact h.sz.cnt, fun e he => by rw [size_wr1 hd]; exact h.sz.size e he, by rw [writes_wr1, h.wr]; omega⟩, by rw [writes_wr1, h.wr], fun a b h1 h2 => ?_, fun a b h1 h2 => ?_⟩
  · rw [now_wr1 hd ha]
    by_cases e : i = a ∧ j = b
    · obtain ⟨rfl, rfl⟩ := e
      rw [if_pos ⟨rfl, rfl⟩, if_pos (by omega)]
    · rw [if_neg e, h.now a b h1 h2]
      have hne : ¬ sumTo (lensN ims) a + b = sumTo (lensN ims) i + j := by
        intro e2
        rcases Nat.lt_trichotomy a i with hl | hl | hl
        · have h5 := sumTo_succ (ns := lensN ims) (i := a) (by simpa using h1)
          have h6 := sumTo_mono (ns := lensN ims) (i := a + 1) (j := i) (by omega) (by simp; omega)
          rw [lensN_getD] at h5; omega
        · exact e ⟨hl.symm, by rw [hl] at e2; omega⟩
        · have h5 := sumTo_succ (ns := lensN ims) (i := i) (by simpa using hi)
          have h6 := sumTo_mono (ns := lensN ims) (i := i + 1) (j := a) (by omega) (by simp; omega)
          rw [lensN_getD] at h5; omega
      by_cases hl : sumTo (lensN ims) a + b < sumTo (lensN ims) i + j
      · rw [if_pos hl, if_pos (by omega)]
      · rw [if_neg hl, if_neg (by omega)]
  · rw [dur_wr1 hd]; exact h.dur a b h1 h2
theorem bc_l2 {x : Dvc} (hT : T ims ≤ 1000000) (h8 : ims.length ≤ 1000) (hx : MapD (lensN ims) x (T ims) (fun k => (partAt (lensN ims) k, k - sumTo (lensN ims) (partAt (lensN ims) k))) (List.range ims.length)) :
    ∀ (N k : Nat) (s : ArrS), T ims - k < N → k ≤ T ims → At ims v k s → ∃ s', At ims v (T ims) s' ∧ volumegrouplaw05_BlockConcat_l2 v (ims, ims.flatten) x N s k = some (.inl s')
  | 0, _, _, h, _, _ => absurd h (by omega)
  | N + 1, k, s, h, hk, hs => by
    show ∃ s', _ ∧ volumegrouplaw05_BlockConcat_l2_b _ _ _ _ _ _ = _
    unfold volumegrouplaw05_BlockConcat_l2_b
    have hfl : ims.flatten.length = T ims := by rw [T, sumTo_flatten (Nat.le_refl _), List.take_length]
    simp only [hfl]
    by_cases hlt : k < T ims
    · obtain ⟨hp, hlo, hhi⟩ := partAt_spec (ns := lensN ims) (k := k) (by simpa using hlt) (by simpa using h8) (by rw [lensN_length]; exact Nat.le_trans hT (by decide))
      have hp' : partAt (lensN ims) k < ims.length := by simpa using hp
      have h5 := sumTo_succ (ns := lensN ims) hp
      rw [lensN_getD] at h5
      obtain ⟨j, hj⟩ : ∃ j, k = sumTo (lensN ims) (partAt (lensN ims) k) + j := ⟨k - sumTo (lensN ims) (partAt (lensN ims) k), by omega⟩
      have hrd := hx.rd s k hs.sz hlt
      have hwr := hx.wr s k (ims.flatten.getD k 0 ^^^ v) hs.sz hlt
      simp only at hrd hwr
      generalize partAt (lensN ims) k = i at *
      have e0 : k - sumTo (lensN ims) i = j := by omega
      have hd : i < s.drv.length := by rw [hs.sz.cnt]; exact hp
      have ha : j < s.size i := by rw [hs.size hp']; omega
      have hj' : j < (ims.getD i []).length := by omega
      rw [e0, hs.good.rdC hd ha, hs.good.rdV hd ha] at hrd
      have hnow : (nowL s i).getD j 0 = (ims.getD i []).getD j 0 := by
        have := hs.now i j hp' hj'
        rw [if_neg (by omega)] at this; exact this
      rw [if_pos (by omega), hrd]; simp only [Option.bind_some]
      have hf : ims.flatten.getD k 0 = (ims.getD i []).getD j 0 := by rw [hj]; exact flatten_at hp' hj'
      rw [if_neg (by simp), hf, if_neg (by rw [hnow]; simp)]
      rw [hf] at hwr
      rw [e0, (hs.good.wr (v := (ims.getD i []).getD j 0 ^^^ v) hd ha).1, (hs.good.wr hd ha).2] at hwr
      rw [hwr]; simp only [Option.bind_some]
      rw [if_neg (by simp)]
      subst hj
      exact bc_l2 hT h8 hx N _ _ (by omega) (by omega) (hs.next hp' hj' hT)
    · rw [if_neg (by omega)]
      have : k = T ims := by omega
      exact ⟨s, this ▸ hs, rfl⟩
/-- Is disk i to go? -/
def bitM (m : UInt8) (i : Nat) : Bool := decide ((shr_u8 m i &&& 1) = 1)
theorem bit01 (x : UInt8) : x &&& 1 = 1 ∨ x &&& 1 = 0 := by
  have h : (x &&& 1).toNat = x.toNat % 2 := by rw [UInt8.toNat_and]; exact Nat.and_one_is_mod _
  have : x.toNat % 2 = 0 ∨ x.toNat % 2 = 1 := by omega
  rcases this with e | e
  · exact .inr (UInt8.toNat_inj.1 (by rw [h, e]; rfl))
  · exact .inl (UInt8.toNat_inj.1 (by rw [h, e]; rfl))
theorem bc_l3 {m : UInt8} {all : List UInt64} {s0 : ArrS} (hd : s0.drv.length = ims.length) (h8 : ims.length ≤ 1000) (h0 : ∀ d, d < ims.length → miss s0 d = false) : ∀ (N i : Nat) (s : ArrS) (w : Nat), ims.length - i < N → i ≤ ims.length → Missed s0 (fun d => decide (d < i) && bitM m d) s → w = (if (List.range i).any (bitM m) then 6 else 0) →
    ∃ s', Missed s0 (fun d => decide (d < ims.length) && bitM m d) s' ∧ volumegrouplaw05_BlockConcat_l3 m (ims, all) N s w i = some ((if (List.range ims.length).any (bitM m) then 6 else 0), s')
  | 0, _, _, _, h, _, _, _ => absurd h (by omega)
  | N + 1, i, s, w, h, hi, hs, hw => by
    show ∃ s', _ ∧ volumegrouplaw05_BlockConcat_l3_b _ _ _ _ _ _ = _
    unfold volumegrouplaw05_BlockConcat_l3_b
    by_cases hlt : i < ims.length
    · rw [if_pos (by simpa using hlt)]
      have hany : (List.range (i + 1)).any (bitM m) = ((List.range i).any (bitM m) || bitM m i) := by rw [List.range_succ, List.any_append]; simp
      by_cases hb : (shr_u8 m i &&& 1) = 1
      · have hb' : bitM m i = true := decide_eq_true hb
        rw [if_pos hb]
        refine bc_l3 hd h8 h0 N (i + 1) _ _ (by omega) (by omega) ?_ (by rw [hany, hb']; simp)
        have := hs.set (d := i) (b := true) (by omega)
        refine { this with miss := fun d hd' => ?_ }
        rw [this.miss d hd']
        by_cases e : d = i
        · subst e; simp [hb']
        · rw [if_neg e]; congr 1; exact decide_eq_decide.2 (by omega)
      · have hb' : bitM m i = false := decide_eq_false hb
        rw [if_neg hb]
        refine bc_l3 hd h8 h0 N (i + 1) _ _ (by omega) (by omega) ?_ (by rw [hany, hb', Bool.or_false]; exact hw)
        refine { hs with miss := fun d hd' => ?_ }
        rw [hs.miss d hd']
        by_cases e : d = i
        · subst e; simp [hb']
        · congr 1; exact decide_eq_decide.2 (by omega)
    · rw [if_neg (by simpa using hlt)]
      have : i = ims.length := by omega
      subst this
      exact ⟨s, hs, by rw [hw]⟩
section
variable {m : UInt8} {r : Int × ArrS} {i : Nat}
theorem bc_l5 (hi : i < ims.length) (hT : T ims ≤ 1000000) (hL : imL (rsS r.2 []) (i : Int) = (if bitM m i then ims.getD i [] else (ims.getD i []).map (· ^^^ v))) : ∀ (N j : Nat), (ims.getD i []).length - j < N → j ≤ (ims.getD i []).length →
    volumegrouplaw05_BlockConcat_l5 m v (ims, ims.flatten) r i N (sumTo (lensN ims) i + j) j = some (.inl (sumTo (lensN ims) i + (ims.getD i []).length))
  | 0, _, h, _ => absurd h (by omega)
  | N + 1, j, h, hj => by
    show volumegrouplaw05_BlockConcat_l5_b _ _ _ _ _ _ _ _ = _
    unfold volumegrouplaw05_BlockConcat_l5_b
    have hlen : (imL (rsS r.2 []) (i : Int)).length = (ims.getD i []).length := by rw [hL]; split <;> simp
    have hsl := sum_le hi
    have hfl : ims.flatten.length = T ims := by rw [T, sumTo_flatten (Nat.le_refl _), List.take_length]
    rw [hlen]
    by_cases hlt : j < (ims.getD i []).length
    · rw [if_pos (by omega)]
      have hf : ims.flatten.getD (sumTo (lensN ims) i + j) 0 = (ims.getD i []).getD j 0 := flatten_at hi hlt
      have hnext := bc_l5 hi hT hL N (j + 1) (by omega) (by omega)
      rw [show sumTo (lensN ims) i + (j + 1) = sumTo (lensN ims) i + j + 1 by omega] at hnext
      rw [hL, hf, hfl]
      by_cases hb : (shr_u8 m i &&& 1) = 1
      · have hb' : bitM m i = true := decide_eq_true hb
        rw [if_pos hb, grd_t (decide_eq_true (by omega)), if_pos hb', if_neg (by simp), hb, if_neg (by decide), grd_t (inN64_of (by omega))]
        exact hnext
      · have hb' : bitM m i = false := decide_eq_false hb
        have h0 : (shr_u8 m i &&& 1) = 0 := (bit01 _).resolve_left hb
        have hx : ((ims.getD i []).map (· ^^^ v)).getD j 0 = (ims.getD i []).getD j 0 ^^^ v := map_getD0 hlt
        rw [if_neg hb, if_neg (by simp), if_pos h0, grd_t (decide_eq_true (by omega)), if_neg (show ¬ bitM m i = true by simp [hb']), hx, if_neg (by simp), grd_t (inN64_of (by omega))]
        exact hnext
    · rw [if_neg (by omega)]
      have : j = (ims.getD i []).length := by omega
      rw [this]
theorem bc_l4 (hT : T ims ≤ 1000000) (h8 : ims.length ≤ 1000) (hz : ∀ i, i < ims.length → (ims.getD i []).length ≤ 1000000) (hd : r.2.drv.length = ims.length) (hL : ∀ i, i < ims.length → imL (rsS r.2 []) (i : Int) = (if bitM m i then ims.getD i [] else (ims.getD i []).map (· ^^^ v))) :
    ∀ (N i : Nat), ims.length - i < N → i ≤ ims.length → volumegrouplaw05_BlockConcat_l4 m v (ims, ims.flatten) r N (sumTo (lensN ims) i) i = some (.inl ())
  | 0, _, h, _ => absurd h (by omega)
  | N + 1, i, h, hi => by
    show volumegrouplaw05_BlockConcat_l4_b _ _ _ _ _ _ _ = _
    unfold volumegrouplaw05_BlockConcat_l4_b
    by_cases hlt : i < ims.length
    · have hlen : (imL (rsS r.2 []) (i : Int)).length = (ims.getD i []).length := by rw [hL i hlt]; split <;> simp
      rw [if_pos (by simpa using hlt), if_neg (by rw [imC_of (by rw [drv_rs]; omega), hlen]; simp)]
      have hF := fuel_big
      have h5 := bc_l5 (v := v) hlt hT (hL i hlt) FUEL 0 (by have := hz i hlt; omega) (by omega)
      rw [Nat.add_zero] at h5
      rw [h5]
      have := sumTo_succ (ns := lensN ims) (i := i) (by simpa using hlt)
      rw [lensN_getD] at this
      rw [← this]
      exact bc_l4 hT h8 hz hd hL N (i + 1) (by omega) (by omega)
    · rw [if_neg (by simpa using hlt)]
end
end
theorem imgs_getD {sizes : List UInt8} {m i : Nat} (h : i < m) : (imgs sizes m).getD i [] = wordsL (1 + (sizes.getD i 0 % 4).toNat) (to_u64 (1000 * ((i : Nat) : Int) + 1)) := getD_map_range h
@[simp] theorem imgs_length {sizes : List UInt8} {m : Nat} : (imgs sizes m).length = m := by simp [imgs]
theorem list_ext0 {a b : List UInt64} (hl : a.length = b.length) (h : ∀ i, i < a.length → a.getD i 0 = b.getD i 0) : a = b := by
  apply List.ext_getElem hl
  intro i h1 h2
  have := h i h1
  simpa [List.getD, h1, h2] using this
theorem blockConcat (sizes : List UInt8) (m : UInt8) (v : UInt64) : volumegrouplaw05_BlockConcat sizes m v = some true := by
  unfold volumegrouplaw05_BlockConcat
  rcases Nat.lt_or_ge 6 sizes.length with h6 | h6
  · rw [if_pos (by omega), awake05]; rfl
  rw [if_neg (by omega)]
  have hF := fuel_big
  have h1 := bc_l1 (sizes := sizes) h6 FUEL 0 (by omega) (by omega)
  rw [show imgs sizes 0 = [] from rfl] at h1
  simp only [List.flatten_nil] at h1
  rw [h1]; simp only [Option.bind_some]
  have hilen : (imgs sizes sizes.length).length = sizes.length := by simp
  have hz : ∀ i, i < (imgs sizes sizes.length).length → 1 ≤ ((imgs sizes sizes.length).getD i []).length ∧ ((imgs sizes sizes.length).getD i []).length ≤ 4 := fun i hi => by
    rw [imgs_getD (by simpa using hi)]; have := mod4 (sizes.getD i 0); simp; omega
  have hT : T (imgs sizes sizes.length) ≤ 1000000 := by
    have := imgs_len (sizes := sizes) (m := sizes.length)
    rw [T, sumTo_flatten (Nat.le_refl _), List.take_length]; omega
  generalize imgs sizes sizes.length = ims at *
  have hz' : ∀ im ∈ ims, 1 ≤ im.length ∧ im.length ≤ 65536 := fun im him => by
    obtain ⟨i, hi, rfl⟩ := List.getElem_of_mem him
    have := hz i hi
    simp [List.getD, hi] at this; omega
  rw [loaded_eq (by omega) hz']; simp only [Option.bind_some, Option.elim_some]
  have hsz : ∀ i, i < (mkS ims).drv.length → 1 ≤ (mkS ims).size i ∧ (mkS ims).size i ≤ 65536 := fun i hi => by
    rw [size_nowL, nowL_mkS]; have := hz i (by simpa using hi); omega
  rw [spans_eq (by simp; omega) hsz]; simp only [Option.bind_some]
  have hsp : (spansA (mkS ims)).length = (lensN ims).length := by simp
  have hb : ∀ i, i < (lensN ims).length → (lensN ims).getD i 0 ≤ 1000000000 := fun i hi => by rw [lensN_getD]; have := hz i (by simpa using hi); omega
  have hT' : sumTo (lensN ims) (lensN ims).length ≤ 1000000000 := by rw [lensN_length]; exact Nat.le_trans hT (by decide)
  rw [concat_mk (ns := lensN ims) hsp (by simp; omega) (fun i hi => (mapD_spansA inSz_mkS hb hi).size _ inSz_mkS) hT']; simp only [Option.bind_some]
  have hx := mapD_all (inSz_mkS (ims := ims)) (by simp; omega) hb hT'
  rw [lensN_length] at hx
  generalize Dvc.concat (spansA (mkS ims)) (endsL (lensN ims)) = x at *
  rw [if_neg (by simp), hx.size _ inSz_mkS]; simp only [Option.bind_some]
  have hfl : ims.flatten.length = T ims := by rw [T, sumTo_flatten (Nat.le_refl _), List.take_length]
  rw [if_neg (by rw [hfl]; simp)]
  obtain ⟨s1, hs1, h2⟩ := bc_l2 (v := v) hT (by omega) hx FUEL 0 (mkS ims) (by omega) (by omega) at_mkS
  rw [h2]
  show Option.bind (volumegrouplaw05_BlockConcat_l3 _ _ _ _ _ _) _ = _
  have hd1 : s1.drv.length = ims.length := by rw [hs1.sz.cnt]; simp
  have hm1 : ∀ d, miss s1 d = false := fun d => hs1.good.miss d
  obtain ⟨s2, hs2, h3⟩ := bc_l3 (m := m) (all := ims.flatten) hd1 (by omega) (fun d _ => hm1 d) FUEL 0 s1 0 (by omega) (by omega) { Missed.self with miss := fun d _ => by rw [hm1]; simp } rfl
  rw [h3]; simp only [Option.bind_some]
  have hc2 := hs2.coh hs1.coh
  have hi2 := hs2.inSz hs1.sz
  have hd2 : s2.drv.length = ims.length := by rw [hs2.drv, hd1]
  rw [hx.fl _ hi2]; simp only [Option.bind_some]
  obtain ⟨hf1, hf2⟩ := flushed (ds := List.range ims.length) hc2 (by rw [hs2.down]; exact hs1.good.down) (fun d hd => by rw [hd2]; exact List.mem_range.1 hd)
  have hany : (List.range ims.length).any (fun d => miss s2 d) = (List.range ims.length).any (bitM m) := by
    rw [Bool.eq_iff_iff, List.any_eq_true, List.any_eq_true]
    constructor <;> (rintro ⟨d, hd, h⟩; refine ⟨d, hd, ?_⟩; have hd' := List.mem_range.1 hd; have := hs2.miss d (by omega); simp_all)
  rw [if_neg (by rw [hf2, hany]; split <;> simp), grd_t (inLen_of (by rw [hf1.wr]; exact hi2.wr))]
  have hL : ∀ i, i < ims.length → imL (rsS (flsS s2 (List.range ims.length)) []) (i : Int) = (if bitM m i then ims.getD i [] else (ims.getD i []).map (· ^^^ v)) := fun i hi => by
    rw [imL_of (by rw [drv_rs, hf1.drv]; omega), nowL_rs]
    have hl1 : (durL (rsS (flsS s2 (List.range ims.length)) []) i).length = (ims.getD i []).length := by
      rw [durL_rs_len, hf1.coh.len, hf1.now, hs2.now]; exact hs1.size hi
    refine list_ext0 (by rw [hl1]; split <;> simp) fun j hj => ?_
    rw [hl1] at hj
    show dur _ i j = _
    have hsz2 : s2.size i = (ims.getD i []).length := by rw [hs2.size, hs1.size hi]
    rw [dur_rs_nil, hf1.dur i j (by rw [hsz2]; exact hj), hs2.miss i (by omega)]
    have hn : now s2 i j = (ims.getD i []).getD j 0 ^^^ v := by
      unfold now; rw [hs2.now]
      have := hs1.now i j hi hj
      rw [if_pos (by have := sum_le hi; omega)] at this; exact this
    have hdu : dur s2 i j = (ims.getD i []).getD j 0 := by
      unfold dur; rw [hs2.dur]; exact hs1.dur i j hi hj
    by_cases hb : bitM m i = true
    · rw [if_neg (by simp [hb, hi]), if_pos hb, hdu]
    · have hb' : bitM m i = false := by simpa using hb
      rw [if_pos (by simp [hb', hi]), if_neg hb, hn]; exact (map_getD0 (f := (· ^^^ v)) hj).symm
  have h4 := bc_l4 (r := (flsC s2 (List.range ims.length), flsS s2 (List.range ims.length))) hT (by omega) (fun i hi => by have := hz i hi; omega) (by show (flsS s2 _).drv.length = _; rw [hf1.drv, hd2]) hL FUEL 0 (by omega) (by omega)
  rw [show sumTo (lensN ims) 0 = 0 from rfl] at h4
  rw [h4]
  show Option.bind volumegrouplaw05_awake _ = _
  rw [awake05]; rfl
end Go.Proofs
