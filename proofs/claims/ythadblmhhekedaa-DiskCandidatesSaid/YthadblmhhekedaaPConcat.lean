/- Devices one behind the other. -/
import Derived.Test.YthadblmhhekedaaPGood2
import Derived.Test.YthadblmhhekedaaLBlk
namespace Go.Proofs
open Go.VG
def sumTo (ns : List Nat) (i : Nat) : Nat := (ns.take i).sum
theorem sumTo_succ {ns : List Nat} {i : Nat} (h : i < ns.length) : sumTo ns (i + 1) = sumTo ns i + ns.getD i 0 := by
  unfold sumTo
  rw [List.take_succ_eq_append_getElem h, List.sum_append]; simp [List.getD, h]
theorem sumTo_mono {ns : List Nat} {i : Nat} : ∀ {j}, i ≤ j → j ≤ ns.length → sumTo ns i ≤ sumTo ns j
  | 0, h, _ => by have : i = 0 := by omega
                  rw [this]; exact Nat.le_refl _
  | j + 1, h, hj => by
    by_cases e : i = j + 1
    · rw [e]; exact Nat.le_refl _
    · have := sumTo_mono (ns := ns) (i := i) (j := j) (by omega) (by omega)
      rw [sumTo_succ (by omega)]; omega
def endsL (ns : List Nat) : List Int := (List.range ns.length).map fun i => ((sumTo ns (i + 1) : Nat) : Int)
@[simp] theorem endsL_length {ns : List Nat} : (endsL ns).length = ns.length := by simp [endsL]
theorem endsL_getD {ns : List Nat} {i : Nat} (h : i < ns.length) : (endsL ns).getD i 0 = ((sumTo ns (i + 1) : Nat) : Int) := by simp [endsL, List.getD, h]
theorem concat_l1 {l : List Dvc} {ns : List Nat} {s : ArrS} (hl : l.length = ns.length) (h8 : ns.length ≤ 1000) (hz : ∀ i, i < ns.length → (l.getD i dv0).size s = some ((ns.getD i 0 : Nat) : Int)) (hs : sumTo ns ns.length ≤ 1000000000) :
    ∀ (N i : Nat) (acc : List Int) (e : Int), ns.length - i < N → i ≤ ns.length → acc = (List.range i).map (fun i => ((sumTo ns (i + 1) : Nat) : Int)) → e = ((sumTo ns i : Nat) : Int) → block_Concat_l1 l s N acc i e = some (endsL ns)
  | 0, _, _, _, h, _, _, _ => absurd h (by omega)
  | N + 1, i, acc, e, h, hi, ha, he => by
    show block_Concat_l1_b _ _ _ _ _ _ = _
    unfold block_Concat_l1_b
    subst ha he
    by_cases hlt : i < ns.length
    · have h1 := sumTo_succ (ns := ns) hlt
      have h2 := sumTo_mono (ns := ns) (i := i + 1) (j := ns.length) (by omega) (by omega)
      rw [if_pos (by omega), hz i hlt]
      simp only [Option.bind_some]
      rw [grd_t (inI64_of (by omega)), grd_t (inLen_of (by simp; omega))]
      refine concat_l1 hl h8 hz hs N (i + 1) _ _ (by omega) (by omega) ?_ (by omega)
      rw [List.range_succ, List.map_append]
      simp only [List.map_cons, List.map_nil]
      congr 2; omega
    · rw [if_neg (by omega)]
      have : i = ns.length := by omega
      rw [this]; rfl
theorem concat_mk {l : List Dvc} {ns : List Nat} {s : ArrS} (hl : l.length = ns.length) (h8 : ns.length ≤ 1000) (hz : ∀ i, i < ns.length → (l.getD i dv0).size s = some ((ns.getD i 0 : Nat) : Int)) (hs : sumTo ns ns.length ≤ 1000000000) :
    block_Concat l s = some (Dvc.concat l (endsL ns)) := by
  unfold block_Concat
  have hF := fuel_big
  generalize FUEL = N at hF ⊢
  rw [grd_t (inLen_of (by omega)), concat_l1 hl h8 hz hs N 0 [] 0 (by omega) (by omega) (by simp) (by simp [sumTo])]; rfl
theorem concat_size0 {l : List Dvc} {ns : List Nat} {s : ArrS} (h8 : ns.length ≤ 1000) : block_concat_Size l (endsL ns) s = some ((sumTo ns ns.length : Nat) : Int) := by
  unfold block_concat_Size
  rw [endsL_length]
  by_cases h : ns.length = 0
  · rw [if_pos (by omega), h]; rfl
  · rw [if_neg (by omega), grd_t (inI64_of (by omega))]
    have e : ((ns.length : Int) - 1).toNat = ns.length - 1 := by omega
    rw [e, endsL_getD (by omega)]
    congr 3; omega
theorem concat_size {l : List Dvc} {ns : List Nat} {s : ArrS} (h8 : ns.length ≤ 1000) : (Dvc.concat l (endsL ns)).size s = some ((sumTo ns ns.length : Nat) : Int) := concat_size0 (l := l) (s := s) h8
theorem half {a : Nat} (h : a ≤ 1000000000) : IntKind.i64.wrap ((shr_u64 (to_u64 (a : Int)) 1).toNat : Int) = ((a / 2 : Nat) : Int) := by
  have e : (shr_u64 (to_u64 (a : Int)) 1).toNat = a / 2 := by
    unfold shr_u64 to_u64
    simp
    omega
  rw [e, wrap64_in (by omega) (by omega)]
theorem find1 {l : List Dvc} {ns : List Nat} {s : ArrS} {at_ k : Nat} (hk : k < ns.length) : block_concat_find_1 (k : Int) l (endsL ns) (at_ : Int) s = some (decide (at_ < sumTo ns (k + 1))) := by
  unfold block_concat_find_1
  rw [grd_t (decide_eq_true (by rw [endsL_length]; omega)), Int.toNat_natCast, endsL_getD hk]
  exact congrArg some (decide_eq_decide.2 (by omega))
theorem search_l1 {l : List Dvc} {ns : List Nat} {s : ArrS} {at_ : Nat} (h8 : ns.length ≤ 1000) : ∀ (N i j : Nat), j - i < N → i ≤ j → j ≤ ns.length → (∀ q, q < i → sumTo ns (q + 1) ≤ at_) → (∀ q, j ≤ q → q < ns.length → at_ < sumTo ns (q + 1)) →
    ∃ r : Nat, sort_Search__block_concat_find_1_l1 l (endsL ns) (at_ : Int) s N (i : Int) (j : Int) = some (r : Int) ∧ r ≤ ns.length ∧ (∀ q, q < r → sumTo ns (q + 1) ≤ at_) ∧ (∀ q, r ≤ q → q < ns.length → at_ < sumTo ns (q + 1))
  | 0, _, _, h, _, _, _, _ => absurd h (by omega)
  | N + 1, i, j, h, hij, hj, hlo, hhi => by
    show ∃ r : Nat, sort_Search__block_concat_find_1_l1_b _ _ _ _ _ _ _ = _ ∧ _
    unfold sort_Search__block_concat_find_1_l1_b
    by_cases hlt : i < j
    · rw [if_pos (by omega), grd_t (inI64_of (by omega))]
      have e : (i : Int) + (j : Int) = ((i + j : Nat) : Int) := by omega
      rw [e, half (by omega), find1 (by omega)]
      simp only [Option.bind_some]
      by_cases hp : at_ < sumTo ns ((i + j) / 2 + 1)
      · rw [if_neg (by simp [hp])]
        refine search_l1 h8 N i ((i + j) / 2) (by omega) (by omega) (by omega) hlo fun q hq hq2 => ?_
        have := sumTo_mono (ns := ns) (i := (i + j) / 2 + 1) (j := q + 1) (by omega) (by omega)
        omega
      · rw [if_pos (by simpa using hp), grd_t (inI64_of (by omega))]
        have e2 : (((i + j) / 2 : Nat) : Int) + 1 = (((i + j) / 2 + 1 : Nat) : Int) := by omega
        rw [e2]
        refine search_l1 h8 N ((i + j) / 2 + 1) j (by omega) (by omega) hj (fun q hq => ?_) hhi
        have := sumTo_mono (ns := ns) (i := q + 1) (j := (i + j) / 2 + 1) (by omega) (by omega)
        omega
    · rw [if_neg (by omega)]
      have : i = j := by omega
      subst this
      exact ⟨i, rfl, hj, hlo, hhi⟩
/-- Each sector is one of a part. -/
theorem concat_find {l : List Dvc} {ns : List Nat} {s : ArrS} {at_ : Nat} (hl : l.length = ns.length) (h8 : ns.length ≤ 1000) (hs : sumTo ns ns.length ≤ 1000000000) (ha : at_ < sumTo ns ns.length) :
    ∃ i, i < ns.length ∧ sumTo ns i ≤ at_ ∧ at_ < sumTo ns (i + 1) ∧ block_concat_find l (endsL ns) (at_ : Int) s = some (l.getD i dv0, ((at_ - sumTo ns i : Nat) : Int)) := by
  unfold block_concat_find sort_Search__block_concat_find_1
  have hF := fuel_big
  generalize FUEL = N at hF ⊢
  obtain ⟨r, h1, h2, h3, h4⟩ := search_l1 (l := l) (s := s) (at_ := at_) h8 N 0 ns.length (by omega) (by omega) (by omega) (fun q h => absurd h (by omega)) (fun q h h' => absurd h (by omega))
  have hr : r < ns.length := by
    rcases Nat.lt_or_ge r ns.length with h | h
    · exact h
    · have e : r = ns.length := by omega
      have h0 : ns.length ≠ 0 := by
        intro e0
        have : sumTo ns ns.length = 0 := by rw [e0]; rfl
        omega
      have := h3 (ns.length - 1) (by omega)
      rw [show ns.length - 1 + 1 = ns.length by omega] at this
      omega
  have hlo : sumTo ns r ≤ at_ := by
    rcases Nat.eq_zero_or_pos r with e | e
    · rw [e]; exact Nat.zero_le _
    · have := h3 (r - 1) (by omega)
      rwa [show r - 1 + 1 = r by omega] at this
  refine ⟨r, hr, hlo, h4 r (by omega) hr, ?_⟩
  rw [endsL_length]
  have h1' : sort_Search__block_concat_find_1_l1 l (endsL ns) (at_ : Int) s N 0 (ns.length : Int) = some (r : Int) := h1
  rw [h1']
  simp only [Option.bind_some]
  have hb := sumTo_mono (ns := ns) (i := r) (j := ns.length) (by omega) (by omega)
  by_cases h0 : 0 < r
  · rw [if_pos (by omega), grd_t (inI64_of (by omega)), grd_t (decide_eq_true (by omega))]
    have e : ((r : Int) - 1).toNat = r - 1 := by omega
    rw [e, endsL_getD (by omega), show r - 1 + 1 = r by omega, grd_t (inI64_of (by omega)), grd_t (decide_eq_true (by omega)), Int.toNat_natCast]
    congr 2; omega
  · rw [if_neg (by omega), grd_t (decide_eq_true (by omega)), Int.toNat_natCast]
    have e : r = 0 := by omega
    subst e
    rfl
theorem concat_rd {l : List Dvc} {ns : List Nat} {s : ArrS} {at_ : Nat} (hl : l.length = ns.length) (h8 : ns.length ≤ 1000) (hs : sumTo ns ns.length ≤ 1000000000) (ha : at_ < sumTo ns ns.length) :
    ∃ i, i < ns.length ∧ sumTo ns i ≤ at_ ∧ at_ < sumTo ns (i + 1) ∧ (Dvc.concat l (endsL ns)).rd s (at_ : Int) = (l.getD i dv0).rd s ((at_ - sumTo ns i : Nat) : Int) ∧ ∀ v, (Dvc.concat l (endsL ns)).wr s (at_ : Int) v = (l.getD i dv0).wr s ((at_ - sumTo ns i : Nat) : Int) v := by
  obtain ⟨i, h1, h2, h3, h4⟩ := concat_find (s := s) hl h8 hs ha
  refine ⟨i, h1, h2, h3, ?_, fun v => ?_⟩
  · show dvc_concat_Read _ _ _ _ = _
    unfold dvc_concat_Read
    rw [concat_size0 h8]; simp only [Option.bind_some]
    rw [inside1 (by omega)]; simp only [Option.bind_some]
    rw [if_neg (by simp; omega), h4]; simp only [Option.bind_some]
    cases (l.getD i dv0).rd s ((at_ - sumTo ns i : Nat) : Int) <;> rfl
  · show dvc_concat_Write _ _ _ _ _ = _
    unfold dvc_concat_Write
    rw [concat_size0 h8]; simp only [Option.bind_some]
    rw [inside1 (by omega)]; simp only [Option.bind_some]
    rw [if_neg (by simp; omega), h4]; simp only [Option.bind_some]
    cases (l.getD i dv0).wr s ((at_ - sumTo ns i : Nat) : Int) v <;> rfl
end Go.Proofs
