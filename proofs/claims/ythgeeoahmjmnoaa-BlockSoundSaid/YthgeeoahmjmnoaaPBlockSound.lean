/- BlockSound: windows of concatenations of spans are sound. -/
import Derived.Test.YthgeeoahmjmnoaaPAwake05
import Derived.Test.YthgeeoahmjmnoaaPSrc
import Derived.Test.YthgeeoahmjmnoaaPSound05
namespace Go.Proofs
open Go.VG
abbrev Sp := volumegrouplaw05_span
abbrev z0 : Sp := ⟨0, 0, 0⟩
def imsB : List (List UInt64) := [wordsL 6 100, wordsL 5 200, wordsL 7 300]
abbrev nsB : List Nat := [6, 5, 7]
theorem lensN_imsB : lensN imsB = nsB := by simp [lensN, imsB]
def valB (y : Sp) : List UInt64 := ((imsB.getD y.d.toNat []).take (y.start + y.length).toNat).drop y.start.toNat
/-- What spans that lie one behind the other on each disk look like. -/
structure SpOk (sp : List Sp) (at_ : List Int) (ini : List UInt64) : Prop where
  len : at_.length = 3
  bd : ∀ d, d < 3 → 0 ≤ at_.getD d 0 ∧ at_.getD d 0 ≤ ((nsB.getD d 0 : Nat) : Int)
  ok : ∀ i, i < sp.length → (0 ≤ (sp.getD i z0).d ∧ (sp.getD i z0).d < 3) ∧ 0 ≤ (sp.getD i z0).start ∧ 1 ≤ (sp.getD i z0).length ∧ (sp.getD i z0).start + (sp.getD i z0).length ≤ at_.getD (sp.getD i z0).d.toNat 0
  dj : ∀ i j, i < j → j < sp.length → (sp.getD i z0).d = (sp.getD j z0).d → (sp.getD i z0).start + (sp.getD i z0).length ≤ (sp.getD j z0).start
  ini : ini = (sp.map valB).flatten
theorem SpOk.nil : SpOk [] [0, 0, 0] [] where
  len := rfl
  bd d hd := by
    have : d = 0 ∨ d = 1 ∨ d = 2 := by omega
    rcases this with rfl | rfl | rfl <;> simp
  ok i h := absurd h (by simp)
  dj i j _ h := absurd h (by simp)
  ini := rfl
theorem nsB_le {d : Nat} (h : d < 3) : nsB.getD d 0 ≤ 7 := by
  have : d = 0 ∨ d = 1 ∨ d = 2 := by omega
  rcases this with rfl | rfl | rfl <;> simp
theorem imsB_len {d : Nat} : (imsB.getD d []).length = nsB.getD d 0 := by rw [← lensN_imsB, lensN_getD]
theorem getD_snoc {α : Type} {l : List α} {x d : α} {i : Nat} : (l ++ [x]).getD i d = if i = l.length then x else l.getD i d := by
  simp only [List.getD, List.getElem?_append]
  by_cases h : i < l.length
  · rw [if_pos h, if_neg (by omega)]
  · rw [if_neg h]
    by_cases h2 : i = l.length
    · subst h2; simp
    · rw [if_neg h2, List.getElem?_eq_none (by simp; omega), List.getElem?_eq_none (by omega)]
theorem getDI_set {l : List Int} {i j : Nat} {v : Int} (h : i < l.length) : (l.set i v).getD j 0 = if j = i then v else l.getD j 0 := by
  simp only [List.getD, List.getElem?_set]
  by_cases e : i = j
  · subst e; simp [h]
  · rw [if_neg e, if_neg (fun x => e x.symm)]
theorem valB_len {y : Sp} (h1 : 0 ≤ y.start) (h2 : 1 ≤ y.length) (h3 : y.start + y.length ≤ ((nsB.getD y.d.toNat 0 : Nat) : Int)) : (valB y).length = y.length.toNat := by
  unfold valB
  simp only [List.length_drop, List.length_take, imsB_len]; omega
theorem SpOk.snoc {sp : List Sp} {at_ : List Int} {ini : List UInt64} (h : SpOk sp at_ ini) {d : Nat} {r n : Int} (hd : d < 3) (hr : 0 ≤ r) (hn : 1 ≤ n) (hf : at_.getD d 0 + r + n ≤ ((nsB.getD d 0 : Nat) : Int)) :
    SpOk (sp ++ [⟨(d : Int), at_.getD d 0 + r, n⟩]) (at_.set d (at_.getD d 0 + r + n)) (ini ++ valB ⟨(d : Int), at_.getD d 0 + r, n⟩) where
  len := by rw [List.length_set]; exact h.len
  bd e he := by
    rw [getDI_set (by rw [h.len]; exact hd)]
    have := h.bd d hd
    split
    · rename_i x; subst x; exact ⟨by omega, hf⟩
    · exact h.bd e he
  ok i hi := by
    rw [getD_snoc]
    by_cases e : i = sp.length
    · rw [if_pos e]
      have := h.bd d hd
      refine ⟨⟨by show (0 : Int) ≤ (d : Int); omega, by show (d : Int) < 3; omega⟩, by show 0 ≤ at_.getD d 0 + r; omega, hn, ?_⟩
      rw [Int.toNat_natCast, getDI_set (by rw [h.len]; exact hd), if_pos rfl]; exact Int.le_refl _
    · rw [if_neg e]
      have hi' : i < sp.length := by simp at hi; omega
      obtain ⟨h1, h2, h3, h4⟩ := h.ok i hi'
      refine ⟨h1, h2, h3, ?_⟩
      rw [getDI_set (by rw [h.len]; exact hd)]
      split
      · rename_i x; rw [x] at h4; omega
      · exact h4
  dj i j hij hj hdd := by
    have hj' : j < sp.length + 1 := by simpa using hj
    rw [getD_snoc] at hdd ⊢
    rw [if_neg (by omega)] at hdd ⊢
    rw [getD_snoc] at hdd ⊢
    by_cases e : j = sp.length
    · rw [if_pos e] at hdd ⊢
      obtain ⟨h1, h2, h3, h4⟩ := h.ok i (by omega)
      have e2 : (sp.getD i z0).d.toNat = d := by have : (sp.getD i z0).d = (d : Int) := hdd; omega
      rw [e2] at h4
      show _ ≤ at_.getD d 0 + r
      omega
    · rw [if_neg e] at hdd ⊢
      exact h.dj i j hij (by omega) hdd
  ini := by rw [h.ini, List.map_append, List.flatten_append]; simp
theorem stk_l1 {L : List Int} {r : List Int × Nat} (hr : r.1 = L) (hL : L.length ≤ 1000) : ∀ (N : Nat) (sp : List Sp) (b : Int) (at_ : List Int) (c : Int) (ini : List UInt64), c.toNat < N → SpOk sp at_ ini → 0 ≤ b ∧ b ≤ 1000 → c ≤ 4 → sp.length + c.toNat ≤ 4 → ini.length ≤ 28 - 7 * c.toNat →
    ∃ sp' b' at' ini', SpOk sp' at' ini' ∧ (0 ≤ b' ∧ b' ≤ 1000) ∧ sp'.length ≤ 4 ∧ ini'.length ≤ 28 ∧ volumegrouplaw05_stack_l1 (wordsL 6 100) (wordsL 5 200) (wordsL 7 300) r N sp b at_ c ini = some (ini', b', at', sp')
  | 0, _, _, _, _, _, h, _, _, _, _, _ => absurd h (by omega)
  | N + 1, sp, b, at_, c, ini, h, hok, hb, hc, hlen, hini => by
    show ∃ sp' b' at' ini', _ ∧ _ ∧ _ ∧ _ ∧ volumegrouplaw05_stack_l1_b _ _ _ _ _ _ _ _ _ _ = _
    unfold volumegrouplaw05_stack_l1_b
    by_cases hlt : 0 < c
    · rw [if_pos hlt, hr]
      obtain ⟨v1, b1, h1, hb1, h1a, h1b, -⟩ := srcN_ok (n := 3) hL hb (by omega)
      have h1c := h1b (by omega)
      obtain ⟨d, rfl⟩ := Int.eq_ofNat_of_zero_le h1a
      have hd : d < 3 := by omega
      obtain ⟨v2, b2, h2, hb2, h2a, h2b, -⟩ := srcN_ok (n := 2) hL hb1 (by omega)
      have h2c := h2b (by omega)
      obtain ⟨v3, b3, h3, hb3, h3a, h3b⟩ := srcRange_ok (lo := 1) (hi := 3) hL hb2 (by omega)
      rw [h1]; simp only [Option.bind_some, Int.toNat_natCast]
      rw [grd_t (decide_eq_true (by rw [hok.len]; omega)), h2]; simp only [Option.bind_some]
      have hbd := hok.bd d hd
      have h7 := nsB_le hd
      rw [grd_t (inI64_of (by omega)), h3]; simp only [Option.bind_some, lt]
      have him : (([wordsL 6 100, wordsL 5 200, wordsL 7 300] : List (List UInt64)).getD d []).length = nsB.getD d 0 := imsB_len
      rw [grd_t (inI64_of (by omega)), grd_t (decide_eq_true (by simp; omega))]
      by_cases hf : ((nsB.getD d 0 : Nat) : Int) < at_.getD d 0 + v2 + v3
      · rw [if_pos (by omega), grd_t (inI64_of (by omega))]
        exact stk_l1 hr hL N _ _ _ _ _ (by omega) hok hb3 (by omega) (by omega) (by omega)
      · rw [if_neg (by omega)]
        have hvl := valB_len (y := ⟨(d : Int), at_.getD d 0 + v2, v3⟩) (by show 0 ≤ at_.getD d 0 + v2; omega) h3a (by show at_.getD d 0 + v2 + v3 ≤ ((nsB.getD ((d : Int)).toNat 0 : Nat) : Int); rw [Int.toNat_natCast]; omega)
        have hv : ((([wordsL 6 100, wordsL 5 200, wordsL 7 300] : List (List UInt64)).getD d []).take (at_.getD d 0 + v2 + v3).toNat).drop (at_.getD d 0 + v2).toNat = valB ⟨(d : Int), at_.getD d 0 + v2, v3⟩ := by
          unfold valB; simp only [Int.toNat_natCast]; rfl
        have hvl' : (valB ⟨(d : Int), at_.getD d 0 + v2, v3⟩).length ≤ 3 := by rw [hvl]; show v3.toNat ≤ 3; omega
        rw [grd_t (inLen_of (by omega)), grd_t (decide_eq_true (by simp; omega)), grd_t (decide_eq_true ⟨by omega, by omega, by omega, by omega⟩), hv, grd_t (inLen_of (by omega)), grd_t (inI64_of (by omega))]
        exact stk_l1 hr hL N _ _ _ _ _ (by omega) (hok.snoc hd h2a h3a (by omega)) hb3 (by omega) (by simp; omega) (by rw [List.length_append]; omega)
    · rw [if_neg hlt]
      exact ⟨sp, b, at_, ini, hok, hb, by omega, by omega, rfl⟩
section
variable {sp : List Sp} {at_ : List Int} {ini : List UInt64} (h : SpOk sp at_ ini)
def dvcs (sp : List Sp) : List Dvc := sp.map fun y => Dvc.span y.d y.start y.length
def msB (sp : List Sp) : List Nat := sp.map fun y => y.length.toNat
def fsB (sp : List Sp) : List (Nat → Nat × Nat) := sp.map fun y => fun k => (y.d.toNat, y.start.toNat + k)
theorem getD_mapB {β : Type} {g : Sp → β} {e : β} {i : Nat} (hi : i < sp.length) : (sp.map g).getD i e = g (sp.getD i z0) := by
  simp only [List.getD, List.getElem?_map]; rw [List.getElem?_eq_getElem hi]; rfl
include h
theorem SpOk.at_i {i : Nat} (hi : i < sp.length) : ∃ d st n : Nat, sp.getD i z0 = ⟨(d : Int), (st : Int), (n : Int)⟩ ∧ d < 3 ∧ 1 ≤ n ∧ st + n ≤ nsB.getD d 0 := by
  obtain ⟨⟨h1, h2⟩, h3, h4, h5⟩ := h.ok i hi
  have := h.bd (sp.getD i z0).d.toNat (by omega)
  refine ⟨(sp.getD i z0).d.toNat, (sp.getD i z0).start.toNat, (sp.getD i z0).length.toNat, ?_, by omega, by omega, by omega⟩
  have e1 : (((sp.getD i z0).d.toNat : Nat) : Int) = (sp.getD i z0).d := by omega
  have e2 : (((sp.getD i z0).start.toNat : Nat) : Int) = (sp.getD i z0).start := by omega
  have e3 : (((sp.getD i z0).length.toNat : Nat) : Int) = (sp.getD i z0).length := by omega
  rw [e1, e2, e3]
theorem SpOk.part {i : Nat} (hi : i < sp.length) : MapD nsB ((dvcs sp).getD i dv0) ((msB sp).getD i 0) ((fsB sp).getD i fun _ => (0, 0)) (((sp.map fun y => [y.d.toNat]) : List (List Nat)).getD i []) := by
  obtain ⟨d, st, n, e, h1, h2, h3⟩ := h.at_i hi
  unfold dvcs msB fsB
  rw [getD_mapB hi, getD_mapB hi, getD_mapB hi, getD_mapB hi, e]
  simp only [Int.toNat_natCast]
  exact MapD.span (by show d < 3; exact h1) h3 (by have := nsB_le h1; omega)
theorem SpOk.sum_le : ∀ {m : Nat}, m ≤ sp.length → sumTo (msB sp) m ≤ 7 * m
  | 0, _ => by simp [sumTo]
  | m + 1, hm => by
    have := SpOk.sum_le (m := m) (by omega)
    rw [sumTo_succ (by simp [msB]; omega)]
    obtain ⟨d, st, n, e, h1, h2, h3⟩ := h.at_i (i := m) (by omega)
    have h4 : (msB sp).getD m 0 = n := by unfold msB; rw [getD_mapB (by omega), e]; rfl
    have := nsB_le h1
    omega
theorem SpOk.conc (h4 : sp.length ≤ 4) : MapD nsB (Dvc.concat (dvcs sp) (endsL (msB sp))) (sumTo (msB sp) (msB sp).length) (fun k => ((fsB sp).getD (partAt (msB sp) k) fun _ => (0, 0)) (k - sumTo (msB sp) (partAt (msB sp) k))) (sp.map fun y => [y.d.toNat]).flatten := by
  refine MapD.concat (by simp [dvcs]; omega) (by simp [dvcs, msB]) (by simp [dvcs]) (fun i hi => h.part (by simpa [dvcs] using hi)) ?_
  have := h.sum_le (m := sp.length) (Nat.le_refl _)
  rw [show (msB sp).length = sp.length by simp [msB]]
  omega
theorem SpOk.sums {m : Nat} (hm : m ≤ sp.length) : sumTo (msB sp) m = sumTo (lensN (sp.map valB)) m := by
  have e : msB sp = lensN (sp.map valB) := by
    unfold msB lensN
    rw [List.map_map]
    apply List.ext_getElem (by simp)
    intro i h1 h2
    have hi : i < sp.length := by simpa using h1
    obtain ⟨⟨h3, h4⟩, h5, h6, h7⟩ := h.ok i hi
    have hb := h.bd (sp.getD i z0).d.toNat (by omega)
    have hv := valB_len (y := sp.getD i z0) h5 h6 (by omega)
    simp only [List.getElem_map, Function.comp]
    have e2 : sp.getD i z0 = sp[i] := by simp [List.getD, hi]
    rw [e2] at hv
    exact hv.symm
  rw [e]
theorem SpOk.total : sumTo (msB sp) (msB sp).length = ini.length := by
  rw [show (msB sp).length = sp.length by simp [msB], h.sums (Nat.le_refl _), show sp.length = (sp.map valB).length by simp, sumTo_flatten (Nat.le_refl _), List.take_length, h.ini]
/-- Where a sector lies. -/
theorem SpOk.where (h4 : sp.length ≤ 4) {k : Nat} (hk : k < ini.length) : ∃ i, i < sp.length ∧ partAt (msB sp) k = i ∧ sumTo (msB sp) i ≤ k ∧ k < sumTo (msB sp) (i + 1) := by
  have hl : (msB sp).length = sp.length := by simp [msB]
  have h1 := h.sum_le (m := sp.length) (Nat.le_refl _)
  obtain ⟨h2, h3, h5⟩ := partAt_spec (ns := msB sp) (k := k) (by rw [h.total]; exact hk) (by omega) (by rw [hl]; omega)
  exact ⟨_, by omega, rfl, h3, h5⟩
theorem SpOk.val (h4 : sp.length ≤ 4) {k : Nat} (hk : k < ini.length) : now (mkS imsB) (((fsB sp).getD (partAt (msB sp) k) fun _ => (0, 0)) (k - sumTo (msB sp) (partAt (msB sp) k))).1 (((fsB sp).getD (partAt (msB sp) k) fun _ => (0, 0)) (k - sumTo (msB sp) (partAt (msB sp) k))).2 = ini.getD k 0 := by
  obtain ⟨i, hi, e, h1, h2⟩ := h.where h4 hk
  rw [e]
  obtain ⟨d, st, n, e2, h5, h6, h7⟩ := h.at_i hi
  have e3 : (fsB sp).getD i (fun _ => (0, 0)) = fun k => (d, st + k) := by unfold fsB; rw [getD_mapB hi, e2]; rfl
  rw [e3]
  have hsu := sumTo_succ (ns := msB sp) (i := i) (by simpa [msB] using hi)
  have h8 : (msB sp).getD i 0 = n := by unfold msB; rw [getD_mapB hi, e2]; rfl
  have hfa := flatten_at (ims := sp.map valB) (i := i) (j := k - sumTo (msB sp) i) (by simpa using hi) (by
    rw [getD_mapB hi, e2, valB_len (by show (0 : Int) ≤ (st : Int); omega) (by show (1 : Int) ≤ (n : Int); omega) (by show (st : Int) + (n : Int) ≤ _; rw [Int.toNat_natCast]; omega)]
    show _ < ((n : Int)).toNat
    omega)
  rw [← h.sums (by omega), show sumTo (msB sp) i + (k - sumTo (msB sp) i) = k by omega, ← h.ini, getD_mapB hi, e2] at hfa
  rw [hfa]
  show (nowL (mkS imsB) d).getD (st + (k - sumTo (msB sp) i)) 0 = (valB ⟨(d : Int), (st : Int), (n : Int)⟩).getD (k - sumTo (msB sp) i) 0
  rw [nowL_mkS]
  unfold valB
  have e4 : ((st : Int) + (n : Int)).toNat = st + n := by omega
  simp only [Int.toNat_natCast, e4, List.getD, List.getElem?_drop, List.getElem?_take]
  rw [if_pos (by omega)]
theorem SpOk.inj (h4 : sp.length ≤ 4) {k k' : Nat} (hk : k < ini.length) (hk' : k' < ini.length) (he : ((fsB sp).getD (partAt (msB sp) k) fun _ => (0, 0)) (k - sumTo (msB sp) (partAt (msB sp) k)) = ((fsB sp).getD (partAt (msB sp) k') fun _ => (0, 0)) (k' - sumTo (msB sp) (partAt (msB sp) k'))) : k = k' := by
  obtain ⟨i, hi, e, h1, h2⟩ := h.where h4 hk
  obtain ⟨j, hj, e', h1', h2'⟩ := h.where h4 hk'
  rw [e, e'] at he
  obtain ⟨d, st, n, e2, h5, h6, h7⟩ := h.at_i hi
  obtain ⟨d', st', n', e2', h5', h6', h7'⟩ := h.at_i hj
  have e3 : (fsB sp).getD i (fun _ => (0, 0)) = fun k => (d, st + k) := by unfold fsB; rw [getD_mapB hi, e2]; rfl
  have e3' : (fsB sp).getD j (fun _ => (0, 0)) = fun k => (d', st' + k) := by unfold fsB; rw [getD_mapB hj, e2']; rfl
  rw [e3, e3'] at he
  have hsu := sumTo_succ (ns := msB sp) (i := i) (by simpa [msB] using hi)
  have hsu' := sumTo_succ (ns := msB sp) (i := j) (by simpa [msB] using hj)
  have h8 : (msB sp).getD i 0 = n := by unfold msB; rw [getD_mapB hi, e2]; rfl
  have h8' : (msB sp).getD j 0 = n' := by unfold msB; rw [getD_mapB hj, e2']; rfl
  have q1 : d = d' := (Prod.mk.inj he).1
  have q2 : st + (k - sumTo (msB sp) i) = st' + (k' - sumTo (msB sp) j) := (Prod.mk.inj he).2
  rcases Nat.lt_trichotomy i j with hl | hl | hl
  · have := h.dj i j hl hj (by rw [e2, e2', q1])
    rw [e2, e2'] at this
    have : (st : Int) + (n : Int) ≤ (st' : Int) := this
    omega
  · subst hl
    rw [e2] at e2'
    have : (st : Int) = (st' : Int) := congrArg volumegrouplaw05_span.start e2'
    omega
  · have := h.dj j i hl hi (by rw [e2, e2', q1])
    rw [e2, e2'] at this
    have : (st' : Int) + (n' : Int) ≤ (st : Int) := this
    omega
theorem stk1_l1 (h4 : sp.length ≤ 4) {s : ArrS} (hs : InSz nsB s) : ∀ (N i : Nat), sp.length - i < N → i ≤ sp.length → volumegrouplaw05_stack_1_l1 sp s N ((dvcs sp).take i) i = some (.inl (dvcs sp))
  | 0, _, hh, _ => absurd hh (by omega)
  | N + 1, i, hh, hi => by
    show volumegrouplaw05_stack_1_l1_b _ _ _ _ _ = _
    unfold volumegrouplaw05_stack_1_l1_b
    have hl : (dvcs sp).length = sp.length := by simp [dvcs]
    by_cases hlt : i < sp.length
    · obtain ⟨d, st, n, e, h1, h2, h3⟩ := h.at_i hlt
      have e0 : sp.getD i (⟨0, 0, 0⟩ : Sp) = ⟨(d : Int), (st : Int), (n : Int)⟩ := e
      have hd : d < s.drv.length := by rw [hs.cnt]; exact h1
      have h7 := nsB_le h1
      have hz : sizeI s (d : Int) = ((nsB.getD d 0 : Nat) : Int) := by rw [sizeI_of hd, hs.size d h1]
      rw [if_pos (by omega), e0]
      simp only
      rw [span_mk (by omega) (by omega) (by rw [hz]; omega) (by rw [hz]; omega)]; simp only [Option.bind_some, Option.elim_some]
      rw [if_neg (by simp), grd_t (inLen_of (by simp; omega))]
      have e5 : (dvcs sp).take i ++ [Dvc.span (d : Int) (st : Int) (n : Int)] = (dvcs sp).take (i + 1) := by
        rw [List.take_succ_eq_append_getElem (by omega)]
        congr 2
        have : (dvcs sp).getD i dv0 = Dvc.span (d : Int) (st : Int) (n : Int) := by unfold dvcs; rw [getD_mapB hlt, e]
        rw [← this]; simp [List.getD, hl, hlt]
      rw [e5]
      exact stk1_l1 h4 hs N (i + 1) (by omega) (by omega)
    · rw [if_neg (by omega)]
      have : i = (dvcs sp).length := by omega
      rw [this, List.take_length]
theorem SpOk.opens (h4 : sp.length ≤ 4) {lo n : Nat} (hn : lo + n ≤ ini.length) {s : ArrS} (hs : InSz nsB s) : volumegrouplaw05_stack_1 sp s (lo : Int) ((lo + n : Nat) : Int) = some (some (Dvc.window (Dvc.concat (dvcs sp) (endsL (msB sp))) (lo : Int) (n : Int)), true) := by
  unfold volumegrouplaw05_stack_1
  have hF := fuel_big
  generalize FUEL = N at hF ⊢
  have hl := stk1_l1 h h4 hs N 0 (by omega) (by omega)
  rw [List.take_zero] at hl
  rw [hl, seqO_inl]
  have hc := h.conc h4
  have htot := h.total
  have hsl := h.sum_le (m := sp.length) (Nat.le_refl _)
  have hml : (msB sp).length = sp.length := by simp [msB]
  rw [concat_mk (ns := msB sp) (by simp [dvcs, msB]) (by omega) (fun i hi => (h.part (by simpa [msB] using hi)).size s hs) (by rw [hml]; omega)]; simp only [Option.bind_some]
  rw [grd_t (inI64_of (by rw [hml] at htot; omega))]
  have e : ((lo + n : Nat) : Int) - (lo : Int) = (n : Int) := by omega
  rw [e, window_mk (hc.size s hs) (by rw [hml] at htot ⊢; omega) (show (1 : Nat) < 60 by decide) (by rw [htot]; omega)]; simp only [Option.bind_some]
  rw [if_pos trivial]; rfl
end
theorem blockSound (l : List Int) (steps : List volumegroupmake_Step) : volumegrouplaw05_BlockSound l steps = some true := by
  unfold volumegrouplaw05_BlockSound volumegroupmake_Few
  simp only [Option.bind_some]
  by_cases hs : ((steps.length : Nat) : Int) ≤ 24
  · rw [if_neg (by simpa using hs)]
    have hstk : ∃ sp lo n ini, (∃ at_ ini0, SpOk sp at_ ini0 ∧ sp.length ≤ 4 ∧ lo + n ≤ ini0.length ∧ ini0.length ≤ 28 ∧ ini = (ini0.take (lo + n)).drop lo) ∧ volumegrouplaw05_stack l = some (some (mkS imsB), sp, ((lo : Nat) : Int), ((lo + n : Nat) : Int), ini) := by
      unfold volumegrouplaw05_stack
      rw [show volumegroupmake_Words 6 100 = some (wordsL 6 100) from words_eq (n := 6) (by omega), show volumegroupmake_Words 5 200 = some (wordsL 5 200) from words_eq (n := 5) (by omega), show volumegroupmake_Words 7 300 = some (wordsL 7 300) from words_eq (n := 7) (by omega)]
      simp only [Option.bind_some]
      rw [loaded_eq (by simp) (by intro im h; simp only [List.mem_cons, List.not_mem_nil, or_false] at h; rcases h with rfl | rfl | rfl <;> simp)]
      obtain ⟨L, h1, hL⟩ := new_ok l
      rw [h1]; simp only [Option.bind_some]
      obtain ⟨v2, b2, h2, hb2, h2a, h2b⟩ := srcRange_ok (a := ((0 : Nat) : Int)) (lo := 1) (hi := 4) hL (by omega) (by omega)
      rw [h2]; simp only [Option.bind_some]
      have hF := fuel_big
      obtain ⟨sp, b3, at3, ini3, hok, hb3, h4, h28, h5⟩ := stk_l1 (r := (L, 0)) rfl hL FUEL [] b2 [0, 0, 0] v2 [] (by omega) SpOk.nil hb2 h2b (by simp; omega) (by simp)
      rw [h5]; simp only [Option.bind_some]
      rw [grd_t (inN64_of (by omega))]
      obtain ⟨v6, b6, h6, hb6, h6a, h6b, -⟩ := srcN_ok (n := ((ini3.length + 1 : Nat) : Int)) hL hb3 (by omega)
      have h6c := h6b (by omega)
      rw [h6]; simp only [Option.bind_some]
      rw [grd_t (inI64_of (by omega)), grd_t (inI64_of (by omega))]
      obtain ⟨v7, b7, h7, hb7, h7a, h7b, -⟩ := srcN_ok (n := ((ini3.length : Nat) : Int) - v6 + 1) hL hb6 (by omega)
      have h7c := h7b (by omega)
      rw [h7]; simp only [Option.bind_some]
      obtain ⟨lo, rfl⟩ := Int.eq_ofNat_of_zero_le h6a
      obtain ⟨n, rfl⟩ := Int.eq_ofNat_of_zero_le h7a
      have e : (lo : Int) + (n : Int) = ((lo + n : Nat) : Int) := by omega
      rw [grd_t (inI64_of (by omega)), grd_t (decide_eq_true ⟨by omega, by omega, by omega, by omega⟩), e, Int.toNat_natCast, Int.toNat_natCast]
      exact ⟨sp, lo, n, _, ⟨at3, ini3, hok, h4, by omega, h28, rfl⟩, rfl⟩
    obtain ⟨sp, lo, n, ini, ⟨at_, ini0, hok, h4, hn, h28, hi⟩, hst⟩ := hstk
    rw [hst]; simp only [Option.bind_some, Option.elim_some]
    have hc := hok.conc h4
    have hw := hc.window (st := lo) (n := n) (by rw [hok.total]; exact hn)
    have hsz : InSz nsB (mkS imsB) := by have := inSz_mkS (ims := imsB); rwa [lensN_imsB] at this
    have hil : ini.length = n := by rw [hi]; simp; omega
    have h0 := SInv.start (initial := ini) hw hsz rfl coh_mkS (fun d => good_mkS.miss d) rfl rfl hil (fun k hk => by
      have := hok.val h4 (k := lo + k) (by omega)
      rw [this, hi]
      simp only [List.getD, List.getElem?_drop, List.getElem?_take]
      rw [if_pos (by omega)])
    obtain ⟨s', h5⟩ := sound_eq (c0 := sp) (c2 := ((lo : Nat) : Int)) (c3 := ((lo + n : Nat) : Int)) hw (fun s hs => hok.opens h4 hn hs) (fun i j hi hj he => by
      have := hok.inj h4 (k := lo + i) (k' := lo + j) (by omega) (by omega) he
      omega) (fun d hd => by
      obtain ⟨l, hl, hd⟩ := List.mem_flatten.1 hd
      obtain ⟨y, hy, rfl⟩ := List.mem_map.1 hl
      obtain ⟨i, hi, rfl⟩ := List.getElem_of_mem hy
      have := (hok.ok i hi).1
      have e : sp.getD i z0 = sp[i] := by simp [List.getD, hi]
      rw [e] at this
      rw [List.mem_singleton.1 hd]
      show _ < 3
      omega) (by omega) hil (l := steps) (by omega) h0 rfl
    rw [h5]; simp only [Option.bind_some]
    rw [if_pos trivial, awake05]; rfl
  · rw [if_pos (by simpa using hs), awake05]; rfl
end Go.Proofs
