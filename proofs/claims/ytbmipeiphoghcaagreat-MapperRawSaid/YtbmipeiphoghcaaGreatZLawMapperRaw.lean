/- MapperRaw: the statement, as its row has it. -/
import Derived.WalkKit
import Derived.Orders
import Derived.RangeFuncLeaves
import Derived.RangeFuncCalls
import Derived.TacticsIn
import Derived.Handy
import Derived.OrdersHeld
import Derived.OrdersIn
import Derived.Below
import Derived.OpenShut
import Derived.Deep.Slices
import Derived.Scope
import Derived.RangeFuncRecord
import Derived.ChangeKeysEq
import Derived.Laws.BytesArg
import Derived.KernelRfl
import Derived.Maps.RangeRun
import Derived.LaidEql
import Derived.ProofKit
import Derived.ShutString
import Derived.ChangeOld
import Derived.Test.YtbmipeiphoghcaaGreatChecked
import Derived.Test.YtbmipeiphoghcaaGreatRows
import Derived.Test.YtbmipeiphoghcaaGreatZMapperRaw9
namespace Go.Proofs.YtbmipeiphoghcaaGreat.mapperRaw
open Go.ChangeShapes Go.WideShapes Go.ChangeAt Go.RowKit
open Go.ChangeMaps (open_string shut_string)
set_option linter.unusedVariables false
theorem own : ownKnob Tryz.prog.godebug = none := by kernel_rfl
theorem zy9 : laidOutB Tryz.prog = true := by kernel_rfl
open Go.VG
theorem zv2 : Shown Tryz.prog 9 tyS := fun H enc w base spare held n cs x h => by
  obtain ⟨m, rfl, _⟩ := DataW.trod_string Tryz.underlying9 h; exact ⟨m, rfl⟩
set_option maxRecDepth 100000 in
theorem zli : Shown Tryz.prog 37 tyapi_Target := fun H enc w base spare held n cs x h => by
  obtain ⟨xs, n', _, _, hcl, hxl, hf⟩ := DataW.trod_struct Tryz.underlying37 h
  have hc : cs.length = 5 := hcl.trans (by kernel_rfl)
  have hl : xs.length = 5 := hxl
  obtain ⟨y0, h0⟩ := zhi zkl (hf 0 _ rfl) (by omega)
  obtain ⟨y1, h1⟩ := zhi zkl (hf 1 _ rfl) (by omega)
  obtain ⟨y2, h2⟩ := zhi zv2 (hf 2 _ rfl) (by omega)
  obtain ⟨y3, h3⟩ := zhi zkl (hf 3 _ rfl) (by omega)
  obtain ⟨y4, h4⟩ := zhi zt5 (hf 4 _ rfl) (by omega)
  match cs, hc with
  | [c0, c1, c2, c3, c4], _ =>
    change List.take (Tryz.prog.cellsOf 3) (List.drop 0 _) = _ at h0
    rw [show Tryz.prog.cellsOf 3 = 1 by kernel_rfl] at h0
    obtain rfl := (List.cons.inj (show [c0] = tyI.enc y0 from h0)).1
    change List.take (Tryz.prog.cellsOf 3) (List.drop 1 _) = _ at h1
    rw [show Tryz.prog.cellsOf 3 = 1 by kernel_rfl] at h1
    obtain rfl := (List.cons.inj (show [c1] = tyI.enc y1 from h1)).1
    change List.take (Tryz.prog.cellsOf 9) (List.drop 2 _) = _ at h2
    rw [show Tryz.prog.cellsOf 9 = 1 by kernel_rfl] at h2
    obtain rfl := (List.cons.inj (show [c2] = tyS.enc y2 from h2)).1
    change List.take (Tryz.prog.cellsOf 3) (List.drop 3 _) = _ at h3
    rw [show Tryz.prog.cellsOf 3 = 1 by kernel_rfl] at h3
    obtain rfl := (List.cons.inj (show [c3] = tyI.enc y3 from h3)).1
    change List.take (Tryz.prog.cellsOf 4) (List.drop 4 _) = _ at h4
    rw [show Tryz.prog.cellsOf 4 = 1 by kernel_rfl] at h4
    obtain rfl := (List.cons.inj (show [c4] = tyB.enc y4 from h4)).1
    exact ⟨⟨y0, y1, y2, y3, y4⟩, rfl⟩
def CQ (w : World) (y : CallS) : Prop := inT y.t ∧ ∃ tbl, Reads (old w) tyapi_Target y.tb.v tbl
set_option maxRecDepth 100000 in
theorem zro : zv0 Tryz.prog 35 tyCall CQ := fun H enc w spare held n cs x h => by
  obtain ⟨xs, n', _, _, hcl, hxl, hf⟩ := DataW.trod_struct Tryz.underlying35 h
  have hc : cs.length = 7 := hcl.trans (by kernel_rfl)
  have hl : xs.length = 5 := hxl
  have h0 := hf 0 _ rfl
  rw [List.getElem?_eq_getElem (by omega)] at h0
  have h1 := hf 1 _ rfl
  rw [List.getElem?_eq_getElem (by omega)] at h1
  have h2 := hf 2 _ rfl
  rw [List.getElem?_eq_getElem (by omega)] at h2
  have h3 := hf 3 _ rfl
  rw [List.getElem?_eq_getElem (by omega)] at h3
  have h4 := hf 4 _ rfl
  rw [List.getElem?_eq_getElem (by omega)] at h4
  match cs, hc with
  | [c0, c1, c2, c3, c4, c5, c6], _ =>
    change DataW.trod _ _ _ _ _ _ _ 3 (List.take (Tryz.prog.cellsOf 3) (List.drop 0 _)) = _ at h0
    rw [show Tryz.prog.cellsOf 3 = 1 by kernel_rfl] at h0
    change DataW.trod _ _ _ _ _ _ _ 3 [c0] = _ at h0
    change DataW.trod _ _ _ _ _ _ _ 9 (List.take (Tryz.prog.cellsOf 9) (List.drop 1 _)) = _ at h1
    rw [show Tryz.prog.cellsOf 9 = 1 by kernel_rfl] at h1
    change DataW.trod _ _ _ _ _ _ _ 9 [c1] = _ at h1
    change DataW.trod _ _ _ _ _ _ _ 9 (List.take (Tryz.prog.cellsOf 9) (List.drop 2 _)) = _ at h2
    rw [show Tryz.prog.cellsOf 9 = 1 by kernel_rfl] at h2
    change DataW.trod _ _ _ _ _ _ _ 9 [c2] = _ at h2
    change DataW.trod _ _ _ _ _ _ _ 30 (List.take (Tryz.prog.cellsOf 30) (List.drop 3 _)) = _ at h3
    rw [show Tryz.prog.cellsOf 30 = 1 by kernel_rfl] at h3
    change DataW.trod _ _ _ _ _ _ _ 30 [c3] = _ at h3
    change DataW.trod _ _ _ _ _ _ _ 33 (List.take (Tryz.prog.cellsOf 33) (List.drop 4 _)) = _ at h4
    rw [show Tryz.prog.cellsOf 33 = 3 by kernel_rfl] at h4
    change DataW.trod _ _ _ _ _ _ _ 33 [c4, c5, c6] = _ at h4
    obtain ⟨y0, e0, _, _⟩ := DataW.trod_int Tryz.underlying3 h0
    obtain ⟨y1, e1, _⟩ := DataW.trod_string Tryz.underlying9 h1
    obtain ⟨y2, e2, _⟩ := DataW.trod_string Tryz.underlying9 h2
    obtain ⟨p, l, k, e3⟩ : ∃ p l k, c3 = Value.slice p l k := by
      rcases Go.Deep.open_slice Tryz.underlying30 h3 with ⟨e, _⟩ | ⟨a, l, k, _, _, _, _, e, _⟩
      · exact ⟨none, 0, 0, (List.cons.inj e).1⟩
      · exact ⟨some a, l, k, (List.cons.inj e).1⟩
    subst e3
    obtain ⟨tbl, _, _, hr⟩ := zv5 Tryz.underlying30 (by kernel_rfl) zli h3
    obtain ⟨ys, n2, _, _, _, hyl, hg⟩ := DataW.trod_struct Tryz.underlying33 h4
    have hl2 : ys.length = 3 := hyl
    have g0 := hg 0 _ rfl
    rw [List.getElem?_eq_getElem (by omega)] at g0
    change DataW.trod _ _ _ _ _ _ _ 3 (List.take (Tryz.prog.cellsOf 3) (List.drop 0 _)) = _ at g0
    rw [show Tryz.prog.cellsOf 3 = 1 by kernel_rfl] at g0
    change DataW.trod _ _ _ _ _ _ _ 3 [c4] = _ at g0
    have g1 := hg 1 _ rfl
    rw [List.getElem?_eq_getElem (by omega)] at g1
    change DataW.trod _ _ _ _ _ _ _ 3 (List.take (Tryz.prog.cellsOf 3) (List.drop 1 _)) = _ at g1
    rw [show Tryz.prog.cellsOf 3 = 1 by kernel_rfl] at g1
    change DataW.trod _ _ _ _ _ _ _ 3 [c5] = _ at g1
    have g2 := hg 2 _ rfl
    rw [List.getElem?_eq_getElem (by omega)] at g2
    change DataW.trod _ _ _ _ _ _ _ 31 (List.take (Tryz.prog.cellsOf 31) (List.drop 2 _)) = _ at g2
    rw [show Tryz.prog.cellsOf 31 = 1 by kernel_rfl] at g2
    change DataW.trod _ _ _ _ _ _ _ 31 [c6] = _ at g2
    obtain ⟨k0, q0, _, _⟩ := DataW.trod_int Tryz.underlying3 g0
    obtain ⟨k1, q1, _, w1⟩ := DataW.trod_int Tryz.underlying3 g1
    obtain ⟨k2, q2, _, w2⟩ := DataW.trod_int Tryz.underlying31 g2
    have b2 := bounds_u64 w2
    obtain rfl := (List.cons.inj e0).1
    obtain rfl := (List.cons.inj e1).1
    obtain rfl := (List.cons.inj e2).1
    obtain rfl := (List.cons.inj q0).1
    obtain rfl := (List.cons.inj q1).1
    obtain rfl := (List.cons.inj q2).1
    refine ⟨⟨y0, y1, y2, ⟨p, l, k⟩, ⟨k0, k1, UInt64.ofNat k2.toNat⟩⟩, ?_, bounds_i64 w1, tbl, hr⟩
    have e : ((UInt64.ofNat k2.toNat).toNat : Int) = k2 := by
      rw [UInt64.toNat_ofNat', Nat.mod_eq_of_lt (by omega)]; omega
    show _ = [Value.int .i64 y0, .string y1, .string y2, .slice p l k, .int .i64 k0, .int .i64 k1, .int .u64 ((UInt64.ofNat k2.toNat).toNat : Int)]
    rw [e]
theorem walk (a0 : Option Addr) (len0 cap0 : Nat) (w : World) (w0 : ∃ xs, xs.length = len0 ∧ len0 ≤ maxLen ∧ Reads (old w) tyCall (.slice a0 len0 cap0) xs ∧ ∀ i, i < xs.length → CQ w (xs.getD i tyCall.dflt)) :
    Calls Tryz.prog 4 #[.slice a0 len0 cap0] w fun e w' => e = .returned (.bool true) ∧ Below w.heap.size w w' := by
  obtain ⟨xs0, hl0, hm0, hr0, hq0⟩ := w0
  exact CSpec.lawN 1 (zrn (tb := fun i => if h : i < xs0.length then Classical.choose (hq0 i h).2 else []) hr0.oldR (fun i h => by simp only [dif_pos h]; exact (Classical.choose_spec (hq0 i h).2).oldR) (fun i h => (hq0 i h).1))
set_option maxRecDepth 100000 in
theorem lifted (os : Os) (started : os.Started) (H : Type) (enc : TypeId × Value → H) :
    ReturnsInHanded {} Tryz.checked os 4 .any (Rows.mapperRawSpec.pre6 enc Tryz.prog Tryz.f4 Rows.mapperRawRow.domain false) (Rows.mapperRawSpec.post enc Tryz.prog Tryz.f4 false true false false) := by
  refine returnsInHanded_of_change (C := Tryz.checked) own started (by kernel_rfl) Tryz.func4
    (ChangeSpec.witness6 (enc := enc) (C := Tryz.checked) false ⟨#[], #[.slice none 0 0], []⟩ 8 (by kernel_rfl) (by kernel_rfl) (by kernel_rfl) (by kernel_rfl)) ?_
  intro W base args ds gs before hval0 hW hcnd _
  have hval : ∀ (j : Nat) t v, Tryz.f4.params[j]? = some t → args[j]? = some v → Value.okWide Tryz.prog W .any base t v := hval0
  have hW' := hW
  obtain ⟨p, q, hA0, hV, rfl, hfz, hnd⟩ := hW
  have hA : DataW.TrodAll enc Tryz.prog W 0 (fun _ => true) true Tryz.f4.params.toList args.toList ds p := hA0
  rw [Tryz.params4] at hA hval
  obtain ⟨v0, vs0, d0, ds0, p0, q0, hargs, rfl, rfl, h0, r0⟩ := trodAll_cons hA
  obtain ⟨rfl, rfl, rfl⟩ := trodAll_nil r0
  obtain rfl : args = #[v0] := by cases args; simp_all
  obtain ⟨rfl, rfl⟩ := trodVars_none hV
  obtain ⟨a0, len0, cap0, rfl⟩ := okWide_slice Tryz.underlying58 (hval 0 58 v0 rfl rfl)
  have k0 := h0
  have lt0 : ∀ x ∈ p0, x.block < W.heap.size := by obtain ⟨m, hm⟩ := k0; exact DataW.trod_lt m _ _ _ hm
  have w0 : ∃ xs, xs.length = len0 ∧ len0 ≤ maxLen ∧ Reads (old W) tyCall (.slice a0 len0 cap0) xs ∧ ∀ i, i < xs.length → CQ W (xs.getD i tyCall.dflt) := by
    obtain ⟨fuel, hf⟩ := h0
    exact zv1 Tryz.underlying58 (by kernel_rfl) zro (by simpa [Value.cells] using hf)
  clear hA0 hval0
  refine (walk a0 len0 cap0 W w0).mono fun e W' ⟨he, bel⟩ => ?_
  subst he
  exact ⟨_, rfl, _, _, _, [], _, [], hW', trodAll_mk1 (shut_bool Tryz.underlying4 _), (trodAll_cons_mk (Below.trod zy9 (by kernel_rfl) (of_decide_eq_true (by kernel_rfl)) k0 bel lt0) trodAll_mk0), rfl, bel.frame _, fun h => by cases h⟩
theorem over : Rows.mapperRawRow.holds Tryz.pinned (OpenSpec.ofChange Rows.mapperRawSpec) :=
  OpenClaim.holds_of_wide 4 Tryz.f4 rfl rfl rfl rfl rfl rfl rfl ⟨rfl, rfl, rfl, rfl, rfl⟩ rfl rfl rfl rfl rfl (by kernel_rfl) Tryz.func4 (by kernel_rfl)
    (of_decide_eq_true (by kernel_rfl)) (by unfold Func.isWrapper; first | (rw [if_pos (by decide +kernel)]; kernel_rfl) | (rw [if_neg (by decide +kernel)]; exact ⟨rfl, rfl⟩))
    (fun os started H enc _ => lifted os started H enc)
theorem proved : Rows.MapperRawSaid := over
#print axioms proved
end Go.Proofs.YtbmipeiphoghcaaGreat.mapperRaw
