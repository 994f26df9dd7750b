/- CopiesHistory: the statement, as its row has it. -/
import Derived.WalkKit
import Derived.Orders
import Derived.RangeFuncLeaves
import Derived.RangeFuncCalls
import Derived.TacticsIn
import Derived.Handy
import Derived.OrdersHeld
import Derived.OrdersIn
import Derived.Below
import Derived.OpenShut
import Derived.Deep.Slices
import Derived.Scope
import Derived.KernelRfl
import Derived.RangeFuncRecord
import Derived.ChangeKeysEq
import Derived.Laws.BytesArg
import Derived.ProofKit
import Derived.ShutString
import Derived.ChangeOld
import Derived.Test.YtkgnkalogghdgaaChecked
import Derived.Test.YtkgnkalogghdgaaRows
import Derived.Test.YtkgnkalogghdgaaZCopiesHistory6
namespace Go.Proofs.Ytkgnkalogghdgaa.copiesHistory
open Go.ChangeShapes Go.WideShapes Go.ChangeAt Go.RowKit
open Go.ChangeMaps (open_string shut_string)
set_option linter.unusedVariables false
theorem own : ownKnob Try.prog.godebug = none := by kernel_rfl
theorem laidOut : laidOutB Try.prog = true := by kernel_rfl
open Go.VG
theorem shown_tyU8 : Shown Try.prog 5 tyU8 := fun H enc w base spare held n cs x h => by
  obtain ⟨m, rfl, _, hw⟩ := DataW.trod_int Try.underlying5 h
  have hb := bounds_u8 hw
  refine ⟨UInt8.ofNat m.toNat, ?_⟩
  have : ((UInt8.ofNat m.toNat).toNat : Int) = m := by
    rw [UInt8.toNat_ofNat', Nat.mod_eq_of_lt (by omega)]; omega
  show [Value.int .u8 m] = [Value.int .u8 ((UInt8.ofNat m.toNat).toNat : Int)]
  rw [this]
set_option maxRecDepth 100000 in
theorem shown_tyvolumegrouplaw13_Try : Shown Try.prog 90 tyvolumegrouplaw13_Try := fun H enc w base spare held n cs x h => by
  obtain ⟨xs, n', _, _, hcl, hxl, hf⟩ := DataW.trod_struct Try.underlying90 h
  have hc : cs.length = 4 := hcl.trans (by kernel_rfl)
  have hl : xs.length = 4 := hxl
  obtain ⟨y0, h0⟩ := shown_fld shown_tyU8 (hf 0 _ rfl) (by omega)
  obtain ⟨y1, h1⟩ := shown_fld shown_tyU8 (hf 1 _ rfl) (by omega)
  obtain ⟨y2, h2⟩ := shown_fld shown_tyB (hf 2 _ rfl) (by omega)
  obtain ⟨y3, h3⟩ := shown_fld shown_tyU (hf 3 _ rfl) (by omega)
  match cs, hc with
  | [c0, c1, c2, c3], _ =>
    change List.take (Try.prog.cellsOf 5) (List.drop 0 _) = _ at h0
    rw [show Try.prog.cellsOf 5 = 1 by kernel_rfl] at h0
    obtain rfl := (List.cons.inj (show [c0] = tyU8.enc y0 from h0)).1
    change List.take (Try.prog.cellsOf 5) (List.drop 1 _) = _ at h1
    rw [show Try.prog.cellsOf 5 = 1 by kernel_rfl] at h1
    obtain rfl := (List.cons.inj (show [c1] = tyU8.enc y1 from h1)).1
    change List.take (Try.prog.cellsOf 4) (List.drop 2 _) = _ at h2
    rw [show Try.prog.cellsOf 4 = 1 by kernel_rfl] at h2
    obtain rfl := (List.cons.inj (show [c2] = tyB.enc y2 from h2)).1
    change List.take (Try.prog.cellsOf 39) (List.drop 3 _) = _ at h3
    rw [show Try.prog.cellsOf 39 = 1 by kernel_rfl] at h3
    obtain rfl := (List.cons.inj (show [c3] = tyU.enc y3 from h3)).1
    exact ⟨⟨y0, y1, y2, y3⟩, rfl⟩
theorem walk (a0 : Option Addr) (len0 cap0 : Nat) (w : World) (w0 : ∃ xs, xs.length = len0 ∧ len0 ≤ maxLen ∧ Reads (old w) tyvolumegrouplaw13_Try (.slice a0 len0 cap0) xs) :
    Calls Try.prog 11 #[.slice a0 len0 cap0] w fun e w' => e = .returned (.bool true) ∧ Below w.heap.size w w' := by
  obtain ⟨xs0, hl0, hm0, hr0⟩ := w0
  exact CSpec.lawN 1 (L_volumegrouplaw13_CopiesHistory hr0.oldR (PCopiesHistory xs0))
set_option maxRecDepth 100000 in
theorem lifted (os : Os) (started : os.Started) (H : Type) (enc : TypeId × Value → H) :
    ReturnsInHanded {} Try.checked os 11 .any (Rows.copiesHistorySpec.pre6 enc Try.prog Try.f11 Rows.copiesHistoryRow.domain false) (Rows.copiesHistorySpec.post enc Try.prog Try.f11 false true false false) := by
  refine returnsInHanded_of_change (C := Try.checked) own started (by kernel_rfl) Try.func11
    (ChangeSpec.witness6 (enc := enc) (C := Try.checked) false ⟨#[], #[.slice none 0 0], []⟩ 8 (by kernel_rfl) (by kernel_rfl) (by kernel_rfl) (by kernel_rfl)) ?_
  intro W base args ds gs before hval0 hW hcnd _
  have hval : ∀ (j : Nat) t v, Try.f11.params[j]? = some t → args[j]? = some v → Value.okWide Try.prog W .any base t v := hval0
  have hW' := hW
  obtain ⟨p, q, hA0, hV, rfl, hfz, hnd⟩ := hW
  have hA : DataW.TrodAll enc Try.prog W 0 (fun _ => true) true Try.f11.params.toList args.toList ds p := hA0
  rw [Try.params11] at hA hval
  obtain ⟨v0, vs0, d0, ds0, p0, q0, hargs, rfl, rfl, h0, r0⟩ := trodAll_cons hA
  obtain ⟨rfl, rfl, rfl⟩ := trodAll_nil r0
  obtain rfl : args = #[v0] := by cases args; simp_all
  obtain ⟨rfl, rfl⟩ := trodVars_none hV
  obtain ⟨a0, len0, cap0, rfl⟩ := okWide_slice Try.underlying88 (hval 0 88 v0 rfl rfl)
  have k0 := h0
  have lt0 : ∀ x ∈ p0, x.block < W.heap.size := by obtain ⟨m, hm⟩ := k0; exact DataW.trod_lt m _ _ _ hm
  have w0 : ∃ xs, xs.length = len0 ∧ len0 ≤ maxLen ∧ Reads (old W) tyvolumegrouplaw13_Try (.slice a0 len0 cap0) xs := by
    obtain ⟨fuel, hf⟩ := h0
    exact reads_in Try.underlying88 (by kernel_rfl) shown_tyvolumegrouplaw13_Try (by simpa [Value.cells] using hf)
  clear hA0 hval0
  refine (walk a0 len0 cap0 W w0).mono fun e W' ⟨he, bel⟩ => ?_
  subst he
  exact ⟨_, rfl, _, _, _, [], _, [], hW', trodAll_mk1 (shut_bool Try.underlying4 _), (trodAll_cons_mk (Below.trod laidOut (by kernel_rfl) (of_decide_eq_true (by kernel_rfl)) k0 bel lt0) trodAll_mk0), rfl, bel.frame _, fun h => by cases h⟩
theorem over : Rows.copiesHistoryRow.holds Try.pinned (OpenSpec.ofChange Rows.copiesHistorySpec) :=
  OpenClaim.holds_of_wide 11 Try.f11 rfl rfl rfl rfl rfl rfl rfl ⟨rfl, rfl, rfl, rfl, rfl⟩ rfl rfl rfl rfl rfl (by kernel_rfl) Try.func11 (by kernel_rfl)
    (of_decide_eq_true (by kernel_rfl)) (by unfold Func.isWrapper; first | (rw [if_pos (by decide +kernel)]; kernel_rfl) | (rw [if_neg (by decide +kernel)]; exact ⟨rfl, rfl⟩))
    (fun os started H enc _ => lifted os started H enc)
theorem proved : Rows.CopiesHistorySaid := over
#print axioms proved
end Go.Proofs.Ytkgnkalogghdgaa.copiesHistory
