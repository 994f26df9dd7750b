/- Lists of lists; whole disks as devices. -/
import Derived.Test.YteboelcolfoddaaPFls
namespace Go.Proofs
open Go.VG
theorem getD_map_range {α : Type} {f : Nat → α} {n i : Nat} {d : α} (h : i < n) : ((List.range n).map f).getD i d = f i := by simp [List.getD, h]
theorem mapD_spansA {ns : List Nat} {s : ArrS} (hs : InSz ns s) (hb : ∀ i, i < ns.length → ns.getD i 0 ≤ 1000000000) {i : Nat} (hi : i < ns.length) : MapD ns ((spansA s).getD i dv0) (ns.getD i 0) (fun k => (i, k)) [i] := by
  rw [spansA_getD (by rw [hs.cnt]; exact hi), hs.size i hi]
  have := MapD.span (ns := ns) (d := i) (st := 0) (n := ns.getD i 0) hi (by omega) (hb i hi)
  simpa using this
theorem flatten_single : ∀ {l : List Nat}, (l.map fun i => [i]).flatten = l
  | [] => rfl
  | x :: l => by rw [List.map_cons, List.flatten_cons, flatten_single]; rfl
theorem map_getD0 {l : List UInt64} {f : UInt64 → UInt64} {j : Nat} (h : j < l.length) : (l.map f).getD j 0 = f (l.getD j 0) := by
  simp only [List.getD, List.getElem?_map]; rw [List.getElem?_eq_getElem h]; rfl
/-- The lengths of some lists. -/
def lensN (ims : List (List UInt64)) : List Nat := ims.map List.length
theorem lensN_getD {ims : List (List UInt64)} {i : Nat} : (lensN ims).getD i 0 = (ims.getD i []).length := by
  simp only [lensN, List.getD, List.getElem?_map]; cases ims[i]? <;> rfl
@[simp] theorem lensN_length {ims : List (List UInt64)} : (lensN ims).length = ims.length := by simp [lensN]
theorem inSz_mkS {ims : List (List UInt64)} : InSz (lensN ims) (mkS ims) := ⟨by simp, fun d _ => by rw [size_nowL, nowL_mkS, lensN_getD], Nat.zero_le _⟩
theorem list_ext0 {a b : List UInt64} (hl : a.length = b.length) (h : ∀ i, i < a.length → a.getD i 0 = b.getD i 0) : a = b := by
  apply List.ext_getElem hl
  intro i h1 h2
  have := h i h1
  simpa [List.getD, h1, h2] using this
end Go.Proofs
