/- Stripes: a device whose sectors are spread over disks. -/
import Derived.Test.YthgeeoahmjmnoaaPFlat
import Derived.Test.YthgeeoahmjmnoaaLCls3
namespace Go.Proofs
open Go.VG
def strF (c n k : Nat) : Nat × Nat := (k / c % n, k / c / n * c + k % c)
theorem place_eq {c n k : Nat} (hc : 1 ≤ c ∧ c ≤ 65536) (hn : 1 ≤ n ∧ n ≤ 6) (hk : k ≤ 1073741824) : stripe_layout_place ⟨(c : Int), (n : Int)⟩ (k : Int) = some (((strF c n k).1 : Int), ((strF c n k).2 : Int)) := by
  have h1 : (k : Int).tdiv (c : Int) = ((k / c : Nat) : Int) := (Int.ofNat_tdiv k c).symm
  have h2 : (k : Int).tmod (c : Int) = ((k % c : Nat) : Int) := (Int.ofNat_tmod k c).symm
  have h3 : ((k / c : Nat) : Int).tdiv (n : Int) = ((k / c / n : Nat) : Int) := (Int.ofNat_tdiv _ n).symm
  have h4 : ((k / c : Nat) : Int).tmod (n : Int) = ((k / c % n : Nat) : Int) := (Int.ofNat_tmod _ n).symm
  have h5 : k / c ≤ k := Nat.div_le_self _ _
  have h6 : k / c / n ≤ k / c := Nat.div_le_self _ _
  have h7 : k / c * c ≤ k := Nat.div_mul_le_self _ _
  have h8 : k / c / n * c ≤ k / c * c := Nat.mul_le_mul_right _ h6
  have h9 : k % c ≤ k := Nat.mod_le _ _
  have h10 : k / c / n * c + k % c ≤ k := by have := Nat.div_add_mod k c; rw [Nat.mul_comm] at this; omega
  unfold stripe_layout_place strF
  simp only [lt, h1, h2]
  generalize k / c = q at *
  generalize k % c = r at *
  rw [wrap64_in (x := (q : Int)) (by omega) (by omega), h3, h4]
  generalize q / n = w at *
  generalize q % n = v at *
  rw [wrap64_in (x := (w : Int)) (by omega) (by omega)]
  have e : (w : Int) * (c : Int) = ((w * c : Nat) : Int) := by rw [Int.natCast_mul]
  rw [grd_t (decide_eq_true (by omega)), grd_t (decide_eq_true (by omega)), grd_t (decide_eq_true (by omega)), e]
  generalize w * c = x at *
  rw [grd_t (inI64_of (by omega)), grd_t (decide_eq_true (by omega)), grd_t (inI64_of (by omega))]
  simp only [Int.natCast_add]
theorem strF_inj {c n k k' : Nat} (hc : 1 ≤ c) (h : strF c n k = strF c n k') : k = k' := by
  have h1 : k / c % n = k' / c % n := (Prod.mk.inj h).1
  have h2 : k / c / n * c + k % c = k' / c / n * c + k' % c := (Prod.mk.inj h).2
  have hr := Nat.mod_lt k (show 0 < c by omega)
  have hr' := Nat.mod_lt k' (show 0 < c by omega)
  have h3 : k / c / n = k' / c / n := by
    have e1 := congrArg (· / c) h2
    simp only [Nat.mul_comm _ c, Nat.mul_add_div (show 0 < c by omega), Nat.div_eq_of_lt hr, Nat.div_eq_of_lt hr'] at e1
    omega
  have h4 : k % c = k' % c := by rw [h3] at h2; omega
  have h5 : k / c = k' / c := by rw [← Nat.div_add_mod (k / c) n, ← Nat.div_add_mod (k' / c) n, h3, h1]
  rw [← Nat.div_add_mod k c, ← Nat.div_add_mod k' c, h5, h4]
theorem strF_lt {c n m k : Nat} (hc : 1 ≤ c) (hn : 1 ≤ n) (hk : k < n * (m / c * c)) : (strF c n k).1 < n ∧ (strF c n k).2 < m := by
  refine ⟨Nat.mod_lt _ (by omega), ?_⟩
  have h1 : k / c < n * (m / c) := by
    rw [Nat.div_lt_iff_lt_mul (by omega)]; rw [Nat.mul_assoc]; exact hk
  have h2 : k / c / n < m / c := by
    rw [Nat.div_lt_iff_lt_mul (by omega), Nat.mul_comm]; exact h1
  have hr := Nat.mod_lt k (show 0 < c by omega)
  have h3 : (k / c / n + 1) * c ≤ m / c * c := Nat.mul_le_mul_right _ h2
  have h4 := Nat.div_mul_le_self m c
  rw [Nat.add_mul, Nat.one_mul] at h3
  show k / c / n * c + k % c < m
  omega
theorem flsS_l1 {ns : List Nat} {l : List Dvc} {dss : List (List Nat)} (h8 : l.length ≤ 1000) (hl : l.length = dss.length) (hf : ∀ i, i < l.length → ∀ s, InSz ns s → (l.getD i dv0).fl s = some (flsC s (dss.getD i []), flsS s (dss.getD i []))) :
    ∀ (N i : Nat) (s : ArrS) (c : Int), l.length - i < N → i ≤ l.length → InSz ns s → dvc_stripe_Flush_l1 l N s i c = some (if c = 0 then flsC s (dss.drop i).flatten else c, flsS s (dss.drop i).flatten)
  | 0, _, _, _, h, _, _ => absurd h (by omega)
  | N + 1, i, s, c, h, hi, hs => by
    show dvc_stripe_Flush_l1_b _ _ _ _ _ = _
    unfold dvc_stripe_Flush_l1_b
    by_cases hlt : i < l.length
    · rw [if_pos (by omega), hf i hlt s hs]; simp only [Option.bind_some]
      have e : (dss.drop i).flatten = dss.getD i [] ++ (dss.drop (i + 1)).flatten := by
        rw [List.drop_eq_getElem_cons (by omega), List.flatten_cons]; simp [List.getD, show i < dss.length by omega]
      rw [e, flsC_append, flsS_append]
      by_cases hc : c = 0
      · rw [if_pos hc, grd_t (inN64_of (by omega)), flsS_l1 h8 hl hf N (i + 1) _ _ (by omega) (by omega) hs.flsS, if_pos hc]
      · rw [if_neg hc, grd_t (inN64_of (by omega)), flsS_l1 h8 hl hf N (i + 1) _ _ (by omega) (by omega) hs.flsS, if_neg hc, if_neg hc]
    · rw [if_neg (by omega)]
      have : i = dss.length := by omega
      subst this
      rw [List.drop_length]
      show some (c, s) = some (if c = 0 then (0 : Int) else c, s)
      split
      · rename_i h0; rw [h0]
      · rfl
/-- Stripes over whole disks. -/
theorem mapD_stripe {ns : List Nat} {s0 : ArrS} (hs0 : InSz ns s0) {c m : Nat} (hc : 1 ≤ c ∧ c ≤ 65536) (hn : 1 ≤ ns.length ∧ ns.length ≤ 6) (hm : ∀ i, i < ns.length → m ≤ ns.getD i 0) (hb : ∀ i, i < ns.length → ns.getD i 0 ≤ 1000000) :
    MapD ns (Dvc.stripe (c : Int) (ns.length : Int) (spansA s0) ((ns.length * (m / c * c) : Nat) : Int)) (ns.length * (m / c * c)) (strF c ns.length) (List.range ns.length) := by
  have hl : (spansA s0).length = ns.length := by rw [spansA_length, hs0.cnt]
  have hm1 : m ≤ 1000000 := by have := hm 0 (by omega); have := hb 0 (by omega); omega
  have hmc := Nat.div_mul_le_self m c
  have htot : ns.length * (m / c * c) ≤ 6 * 1000000 := Nat.mul_le_mul hn.2 (by omega)
  have hpart : ∀ i, i < ns.length → MapD ns ((spansA s0).getD i dv0) (ns.getD i 0) (fun k => (i, k)) [i] := fun i hi => mapD_spansA hs0 (fun i hi => by have := hb i hi; omega) hi
  have hF : ∀ k, k < ns.length * (m / c * c) → (strF c ns.length k).1 < ns.length ∧ (strF c ns.length k).2 < ns.getD (strF c ns.length k).1 0 := fun k hk => by
    have h := strF_lt hc.1 hn.1 hk
    exact ⟨h.1, Nat.lt_of_lt_of_le h.2 (hm _ h.1)⟩
  exact {
    small := by omega
    at_ := fun k hk => ⟨(hF k hk).1, (hF k hk).2, List.mem_range.2 (hF k hk).1⟩
    size := fun s h => rfl
    rd := fun s k h hk => by
      show dvc_stripe_Read _ _ _ _ _ _ = _
      unfold dvc_stripe_Read
      rw [if_neg (by omega), place_eq hc hn (by omega)]; simp only [Option.bind_some]
      rw [grd_t (decide_eq_true (by rw [hl]; have := (hF k hk).1; omega)), Int.toNat_natCast, (hpart _ (hF k hk).1).rd s _ h (hF k hk).2]; rfl
    rdo := fun s k h hk => by
      show dvc_stripe_Read _ _ _ _ _ _ = _
      unfold dvc_stripe_Read
      rw [if_pos (by omega)]
    wr := fun s k v h hk => by
      show dvc_stripe_Write _ _ _ _ _ _ _ = _
      unfold dvc_stripe_Write
      rw [if_neg (by omega), place_eq hc hn (by omega)]; simp only [Option.bind_some]
      rw [grd_t (decide_eq_true (by rw [hl]; have := (hF k hk).1; omega)), Int.toNat_natCast, (hpart _ (hF k hk).1).wr s _ v h (hF k hk).2]; rfl
    wro := fun s k v h hk => by
      show dvc_stripe_Write _ _ _ _ _ _ _ = _
      unfold dvc_stripe_Write
      rw [if_pos (by omega)]
    fl := fun s h => by
      show dvc_stripe_Flush (c : Int) (ns.length : Int) (spansA s0) ((ns.length * (m / c * c) : Nat) : Int) s = _
      unfold dvc_stripe_Flush
      have hFu := fuel_big
      generalize FUEL = N at hFu ⊢
      rw [flsS_l1 (ns := ns) (dss := (List.range ns.length).map fun i => [i]) (by omega) (by simp [hl]) (fun i hi s hs => by
        rw [getD_map_range (by omega)]; exact (hpart i (by omega)).fl s hs) N 0 s 0 (by omega) (by omega) h, if_pos rfl, List.drop_zero, flatten_single]; rfl }
end Go.Proofs
