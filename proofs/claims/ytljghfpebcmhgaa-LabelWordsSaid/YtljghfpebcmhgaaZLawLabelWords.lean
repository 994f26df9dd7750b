/- LabelWords: the statement, as its row has it. -/
import Derived.WalkKit
import Derived.Orders
import Derived.RangeFuncLeaves
import Derived.RangeFuncCalls
import Derived.TacticsIn
import Derived.Handy
import Derived.OrdersHeld
import Derived.OrdersIn
import Derived.Below
import Derived.OpenShut
import Derived.Deep.Slices
import Derived.Scope
import Derived.RangeFuncRecord
import Derived.ChangeKeysEq
import Derived.KernelRfl
import Derived.ProofKit
import Derived.ShutString
import Derived.ChangeOld
import Derived.Test.YtljghfpebcmhgaaChecked
import Derived.Test.YtljghfpebcmhgaaRows
import Derived.Test.YtljghfpebcmhgaaZLabelWords4
namespace Go.Proofs.Ytljghfpebcmhgaa.labelWords
open Go.ChangeShapes Go.WideShapes Go.ChangeAt Go.RowKit
open Go.ChangeMaps (open_string shut_string)
set_option linter.unusedVariables false
theorem own : ownKnob Try.prog.godebug = none := by kernel_rfl
theorem laidOut : laidOutB Try.prog = true := by kernel_rfl
open Go.VG
set_option maxRecDepth 100000 in
theorem shown_tyapi_Label : Shown Try.prog 24 tyapi_Label := fun H enc w base spare held n cs x h => by
  obtain ⟨xs, n', _, _, hcl, hxl, hf⟩ := DataW.trod_struct Try.underlying24 h
  have hc : cs.length = 5 := hcl.trans (by kernel_rfl)
  have hl : xs.length = 5 := hxl
  obtain ⟨y0, h0⟩ := shown_fld shown_tyU (hf 0 _ rfl) (by omega)
  obtain ⟨y1, h1⟩ := shown_fld shown_tyI (hf 1 _ rfl) (by omega)
  obtain ⟨y2, h2⟩ := shown_fld shown_tyI (hf 2 _ rfl) (by omega)
  obtain ⟨y3, h3⟩ := shown_fld shown_tyI (hf 3 _ rfl) (by omega)
  obtain ⟨y4, h4⟩ := shown_fld shown_tyU (hf 4 _ rfl) (by omega)
  match cs, hc with
  | [c0, c1, c2, c3, c4], _ =>
    change List.take (Try.prog.cellsOf 22) (List.drop 0 _) = _ at h0
    rw [show Try.prog.cellsOf 22 = 1 by kernel_rfl] at h0
    obtain rfl := (List.cons.inj (show [c0] = tyU.enc y0 from h0)).1
    change List.take (Try.prog.cellsOf 3) (List.drop 1 _) = _ at h1
    rw [show Try.prog.cellsOf 3 = 1 by kernel_rfl] at h1
    obtain rfl := (List.cons.inj (show [c1] = tyI.enc y1 from h1)).1
    change List.take (Try.prog.cellsOf 3) (List.drop 2 _) = _ at h2
    rw [show Try.prog.cellsOf 3 = 1 by kernel_rfl] at h2
    obtain rfl := (List.cons.inj (show [c2] = tyI.enc y2 from h2)).1
    change List.take (Try.prog.cellsOf 3) (List.drop 3 _) = _ at h3
    rw [show Try.prog.cellsOf 3 = 1 by kernel_rfl] at h3
    obtain rfl := (List.cons.inj (show [c3] = tyI.enc y3 from h3)).1
    change List.take (Try.prog.cellsOf 22) (List.drop 4 _) = _ at h4
    rw [show Try.prog.cellsOf 22 = 1 by kernel_rfl] at h4
    obtain rfl := (List.cons.inj (show [c4] = tyU.enc y4 from h4)).1
    exact ⟨⟨y0, y1, y2, y3, y4⟩, rfl⟩
theorem walk (x0 : api_Label) (a1 : Option Addr) (len1 cap1 : Nat) (a2 : Int) (a3 : Int) (w : World) (w1 : ∃ xs, xs.length = len1 ∧ len1 ≤ maxLen ∧ Reads (old w) tyU (.slice a1 len1 cap1) xs) (w2 : (Lit.int .u8 a2).wf = true) (w3 : (Lit.int .u64 a3).wf = true) :
    Calls Try.prog 4 #[.agg ((tyapi_Label).enc x0).toArray, .slice a1 len1 cap1, .int .u8 a2, .int .u64 a3] w fun e w' => e = .returned (.bool true) ∧ Below w.heap.size w w' := by
  obtain ⟨xs1, hl1, hm1, hr1⟩ := w1
  obtain ⟨v2, rfl⟩ := of_wf_u8 w2
  obtain ⟨v3, rfl⟩ := of_wf_u64 w3
  exact CSpec.lawN 1 (L_volumegrouplaw11_LabelWords hr1.oldR Dup_oldR (PLabelWords x0 xs1 v2 v3))
set_option maxRecDepth 100000 in
theorem lifted (os : Os) (started : os.Started) (H : Type) (enc : TypeId × Value → H) :
    ReturnsInHanded {} Try.checked os 4 .any (Rows.labelWordsSpec.pre6 enc Try.prog Try.f4 Rows.labelWordsRow.domain false) (Rows.labelWordsSpec.post enc Try.prog Try.f4 false true false false) := by
  refine returnsInHanded_of_change (C := Try.checked) own started (by kernel_rfl) Try.func4
    (ChangeSpec.witness6 (enc := enc) (C := Try.checked) false ⟨#[], #[.agg #[.int .u64 0, .int .i64 0, .int .i64 0, .int .i64 0, .int .u64 0], .slice none 0 0, .int .u8 0, .int .u64 0], []⟩ 8 (by kernel_rfl) (by kernel_rfl) (by kernel_rfl) (by kernel_rfl)) ?_
  intro W base args ds gs before hval0 hW hcnd _
  have hval : ∀ (j : Nat) t v, Try.f4.params[j]? = some t → args[j]? = some v → Value.okWide Try.prog W .any base t v := hval0
  have hW' := hW
  obtain ⟨p, q, hA0, hV, rfl, hfz, hnd⟩ := hW
  have hA : DataW.TrodAll enc Try.prog W 0 (fun _ => true) true Try.f4.params.toList args.toList ds p := hA0
  rw [Try.params4] at hA hval
  obtain ⟨v0, vs0, d0, ds0, p0, q0, hargs, rfl, rfl, h0, r0⟩ := trodAll_cons hA
  obtain ⟨v1, vs1, d1, ds1, p1, q1, rfl, rfl, rfl, h1, r1⟩ := trodAll_cons r0
  obtain ⟨v2, vs2, d2, ds2, p2, q2, rfl, rfl, rfl, h2, r2⟩ := trodAll_cons r1
  obtain ⟨v3, vs3, d3, ds3, p3, q3, rfl, rfl, rfl, h3, r3⟩ := trodAll_cons r2
  obtain ⟨rfl, rfl, rfl⟩ := trodAll_nil r3
  obtain rfl : args = #[v0, v1, v2, v3] := by cases args; simp_all
  obtain ⟨rfl, rfl⟩ := trodVars_none hV
  have k0 := h0
  have lt0 : ∀ x ∈ p0, x.block < W.heap.size := by obtain ⟨m, hm⟩ := k0; exact DataW.trod_lt m _ _ _ hm
  obtain ⟨x0, hx0⟩ : ∃ y, v0.cells.toList = (tyapi_Label).enc y := by
    obtain ⟨fuel, hf⟩ := h0
    exact shown_tyapi_Label _ _ _ _ _ _ _ _ _ hf
  obtain rfl := agg_of_cells hx0 (by simp)
  obtain ⟨a1, len1, cap1, rfl⟩ := okWide_slice Try.underlying27 (hval 1 27 v1 rfl rfl)
  have k1 := h1
  have lt1 : ∀ x ∈ p1, x.block < W.heap.size := by obtain ⟨m, hm⟩ := k1; exact DataW.trod_lt m _ _ _ hm
  have w1 : ∃ xs, xs.length = len1 ∧ len1 ≤ maxLen ∧ Reads (old W) tyU (.slice a1 len1 cap1) xs := by
    obtain ⟨fuel, hf⟩ := h1
    exact reads_in Try.underlying27 (by kernel_rfl) shown_tyU (by simpa [Value.cells] using hf)
  obtain ⟨a2, rfl, rfl, rfl, w2⟩ := open_int Try.underlying5 (hval 2 5 v2 rfl rfl) h2
  obtain ⟨a3, rfl, rfl, rfl, w3⟩ := open_int Try.underlying22 (hval 3 22 v3 rfl rfl) h3
  clear hA0 hval0
  refine (walk x0 a1 len1 cap1 a2 a3 W w1 w2 w3).mono fun e W' ⟨he, bel⟩ => ?_
  subst he
  exact ⟨_, rfl, _, _, _, [], _, [], hW', trodAll_mk1 (shut_bool Try.underlying4 _), (trodAll_cons_mk (Below.trod laidOut (by kernel_rfl) (of_decide_eq_true (by kernel_rfl)) k0 bel lt0) (trodAll_cons_mk (Below.trod laidOut (by kernel_rfl) (of_decide_eq_true (by kernel_rfl)) k1 bel lt1) (trodAll_cons_mk (shut_int Try.underlying5 w2) (trodAll_cons_mk (shut_int Try.underlying22 w3) trodAll_mk0)))), rfl, bel.frame _, fun h => by cases h⟩
theorem over : Rows.labelWordsRow.holds Try.pinned (OpenSpec.ofChange Rows.labelWordsSpec) :=
  OpenClaim.holds_of_wide 4 Try.f4 rfl rfl rfl rfl rfl rfl rfl ⟨rfl, rfl, rfl, rfl, rfl⟩ rfl rfl rfl rfl rfl (by kernel_rfl) Try.func4 (by kernel_rfl)
    (of_decide_eq_true (by kernel_rfl)) (by unfold Func.isWrapper; first | (rw [if_pos (by decide +kernel)]; kernel_rfl) | (rw [if_neg (by decide +kernel)]; exact ⟨rfl, rfl⟩))
    (fun os started H enc _ => lifted os started H enc)
theorem proved : Rows.LabelWordsSaid := over
#print axioms proved
end Go.Proofs.Ytljghfpebcmhgaa.labelWords
