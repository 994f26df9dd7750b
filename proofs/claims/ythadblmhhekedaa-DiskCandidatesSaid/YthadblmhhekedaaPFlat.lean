/- Lists of lists, one behind the other; all disks of an array one behind the other. -/
import Derived.Test.YthadblmhhekedaaPFls
namespace Go.Proofs
open Go.VG
theorem getD_map_range {α : Type} {f : Nat → α} {n i : Nat} {d : α} (h : i < n) : ((List.range n).map f).getD i d = f i := by simp [List.getD, h]
theorem mapD_spansA {ns : List Nat} {s : ArrS} (hs : InSz ns s) (hb : ∀ i, i < ns.length → ns.getD i 0 ≤ 1000000000) {i : Nat} (hi : i < ns.length) : MapD ns ((spansA s).getD i dv0) (ns.getD i 0) (fun k => (i, k)) [i] := by
  rw [spansA_getD (by rw [hs.cnt]; exact hi), hs.size i hi]
  have := MapD.span (ns := ns) (d := i) (st := 0) (n := ns.getD i 0) hi (by omega) (hb i hi)
  simpa using this
theorem flatten_single : ∀ {l : List Nat}, (l.map fun i => [i]).flatten = l
  | [] => rfl
  | x :: l => by rw [List.map_cons, List.flatten_cons, flatten_single]; rfl
/-- All disks of an array one behind the other. -/
theorem mapD_all {ns : List Nat} {s : ArrS} (hs : InSz ns s) (h8 : ns.length ≤ 1000) (hb : ∀ i, i < ns.length → ns.getD i 0 ≤ 1000000000) (ht : sumTo ns ns.length ≤ 1000000000) :
    MapD ns (Dvc.concat (spansA s) (endsL ns)) (sumTo ns ns.length) (fun k => (partAt ns k, k - sumTo ns (partAt ns k))) (List.range ns.length) := by
  have hl : (spansA s).length = ns.length := by rw [spansA_length, hs.cnt]
  have h := MapD.concat (ns := ns) (l := spansA s) (ms := ns) (fs := (List.range ns.length).map fun i => fun k => (i, k)) (dss := (List.range ns.length).map fun i => [i]) (by omega) hl (by simp [hl])
    (fun i hi => by
      rw [getD_map_range (by omega), getD_map_range (by omega)]
      exact mapD_spansA hs hb (by omega)) ht
  rw [flatten_single] at h
  have e : ∀ k, k < sumTo ns ns.length → (((List.range ns.length).map fun i => fun k => ((i, k) : Nat × Nat)).getD (partAt ns k) fun _ => (0, 0)) (k - sumTo ns (partAt ns k)) = (partAt ns k, k - sumTo ns (partAt ns k)) := fun k hk => by
    obtain ⟨i, hi, h5, h6, -⟩ := concat_find (l := spansA s) (ns := ns) (s := s) hl h8 ht hk
    rw [partAt_eq hi h5 h6, getD_map_range hi]
  exact { small := h.small, at_ := fun k hk => by have := h.at_ k hk; rwa [e k hk] at this, size := h.size, rd := fun s k hs hk => by rw [h.rd s k hs hk, e k hk], rdo := h.rdo, wr := fun s k v hs hk => by rw [h.wr s k v hs hk, e k hk], wro := h.wro, fl := h.fl }
theorem partAt_spec {ns : List Nat} {k : Nat} (hk : k < sumTo ns ns.length) (h8 : ns.length ≤ 1000) (ht : sumTo ns ns.length ≤ 1000000000) : partAt ns k < ns.length ∧ sumTo ns (partAt ns k) ≤ k ∧ k < sumTo ns (partAt ns k + 1) := by
  obtain ⟨i, hi, h5, h6, -⟩ := concat_find (l := List.replicate ns.length dv0) (ns := ns) (s := newS []) (by simp) h8 ht hk
  rw [partAt_eq hi h5 h6]; exact ⟨hi, h5, h6⟩
theorem map_getD0 {l : List UInt64} {f : UInt64 → UInt64} {j : Nat} (h : j < l.length) : (l.map f).getD j 0 = f (l.getD j 0) := by
  simp only [List.getD, List.getElem?_map]; rw [List.getElem?_eq_getElem h]; rfl
/-- The lengths of some lists. -/
def lensN (ims : List (List UInt64)) : List Nat := ims.map List.length
theorem lensN_getD {ims : List (List UInt64)} {i : Nat} : (lensN ims).getD i 0 = (ims.getD i []).length := by
  simp only [lensN, List.getD, List.getElem?_map]; cases ims[i]? <;> rfl
@[simp] theorem lensN_length {ims : List (List UInt64)} : (lensN ims).length = ims.length := by simp [lensN]
theorem sumTo_flatten {ims : List (List UInt64)} : ∀ {i : Nat}, i ≤ ims.length → sumTo (lensN ims) i = (ims.take i).flatten.length
  | 0, _ => by simp [sumTo]
  | i + 1, h => by
    rw [sumTo_succ (by rw [lensN_length]; omega), sumTo_flatten (by omega), lensN_getD, List.take_succ_eq_append_getElem (show i < ims.length by omega), List.flatten_append, List.length_append]
    simp [List.getD, show i < ims.length by omega]
theorem flatten_at {ims : List (List UInt64)} {i j : Nat} (hi : i < ims.length) (hj : j < (ims.getD i []).length) : ims.flatten.getD (sumTo (lensN ims) i + j) 0 = (ims.getD i []).getD j 0 := by
  rw [sumTo_flatten (by omega)]
  have e : ims.flatten = (ims.take i).flatten ++ (ims.getD i [] ++ (ims.drop (i + 1)).flatten) := by
    conv => lhs; rw [← List.take_append_drop i ims, List.drop_eq_getElem_cons hi, List.flatten_append, List.flatten_cons]
    simp [List.getD, hi]
  rw [e]
  simp only [List.getD]
  rw [List.getElem?_append_right (by omega), Nat.add_sub_cancel_left, List.getElem?_append_left (by simpa [List.getD] using hj)]
theorem inSz_mkS {ims : List (List UInt64)} : InSz (lensN ims) (mkS ims) := ⟨by simp, fun d _ => by rw [size_nowL, nowL_mkS, lensN_getD], Nat.zero_le _⟩
theorem list_ext0 {a b : List UInt64} (hl : a.length = b.length) (h : ∀ i, i < a.length → a.getD i 0 = b.getD i 0) : a = b := by
  apply List.ext_getElem hl
  intro i h1 h2
  have := h i h1
  simpa [List.getD, h1, h2] using this
end Go.Proofs
