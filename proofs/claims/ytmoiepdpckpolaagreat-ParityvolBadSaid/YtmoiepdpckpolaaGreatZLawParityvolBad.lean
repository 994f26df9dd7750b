/- ParityvolBad: the statement, as its row has it. -/
import Derived.WalkKit
import Derived.Orders
import Derived.RangeFuncLeaves
import Derived.RangeFuncCalls
import Derived.TacticsIn
import Derived.Handy
import Derived.OrdersHeld
import Derived.OrdersIn
import Derived.Below
import Derived.OpenShut
import Derived.Deep.Slices
import Derived.Scope
import Derived.KernelRfl
import Derived.RangeFuncRecord
import Derived.ChangeKeysEq
import Derived.ProofKit
import Derived.ShutString
import Derived.ChangeOld
import Derived.Test.YtmoiepdpckpolaaGreatChecked
import Derived.Test.YtmoiepdpckpolaaGreatRows
import Derived.Test.YtmoiepdpckpolaaGreatZParityvolBad7
namespace Go.Proofs.YtmoiepdpckpolaaGreat.parityvolBad
open Go.ChangeShapes Go.WideShapes Go.ChangeAt Go.RowKit
open Go.ChangeMaps (open_string shut_string)
set_option linter.unusedVariables false
theorem own : ownKnob Tryz.prog.godebug = none := by kernel_rfl
theorem laidOut : laidOutB Tryz.prog = true := by kernel_rfl
open Go.VG
set_option maxRecDepth 100000 in
theorem shown_tyvolumegroupmake_Step : Shown Tryz.prog 49 tyvolumegroupmake_Step := fun H enc w base spare held n cs x h => by
  obtain ⟨xs, n', _, _, hcl, hxl, hf⟩ := DataW.trod_struct Tryz.underlying49 h
  have hc : cs.length = 4 := hcl.trans (by kernel_rfl)
  have hl : xs.length = 4 := hxl
  obtain ⟨y0, h0⟩ := shown_fld shown_tyI (hf 0 _ rfl) (by omega)
  obtain ⟨y1, h1⟩ := shown_fld shown_tyI (hf 1 _ rfl) (by omega)
  obtain ⟨y2, h2⟩ := shown_fld shown_tyU (hf 2 _ rfl) (by omega)
  obtain ⟨y3, h3⟩ := shown_fld shown_tyU (hf 3 _ rfl) (by omega)
  match cs, hc with
  | [c0, c1, c2, c3], _ =>
    change List.take (Tryz.prog.cellsOf 3) (List.drop 0 _) = _ at h0
    rw [show Tryz.prog.cellsOf 3 = 1 by kernel_rfl] at h0
    obtain rfl := (List.cons.inj (show [c0] = tyI.enc y0 from h0)).1
    change List.take (Tryz.prog.cellsOf 3) (List.drop 1 _) = _ at h1
    rw [show Tryz.prog.cellsOf 3 = 1 by kernel_rfl] at h1
    obtain rfl := (List.cons.inj (show [c1] = tyI.enc y1 from h1)).1
    change List.take (Tryz.prog.cellsOf 44) (List.drop 2 _) = _ at h2
    rw [show Tryz.prog.cellsOf 44 = 1 by kernel_rfl] at h2
    obtain rfl := (List.cons.inj (show [c2] = tyU.enc y2 from h2)).1
    change List.take (Tryz.prog.cellsOf 44) (List.drop 3 _) = _ at h3
    rw [show Tryz.prog.cellsOf 44 = 1 by kernel_rfl] at h3
    obtain rfl := (List.cons.inj (show [c3] = tyU.enc y3 from h3)).1
    exact ⟨⟨y0, y1, y2, y3⟩, rfl⟩
theorem walk (a0 : Int) (a1 : Int) (a2 : Int) (a3 : Option Addr) (len3 cap3 : Nat) (w : World) (w0 : (Lit.int .u8 a0).wf = true) (w1 : (Lit.int .u8 a1).wf = true) (w2 : (Lit.int .u8 a2).wf = true) (w3 : ∃ xs, xs.length = len3 ∧ len3 ≤ maxLen ∧ Reads (old w) tyvolumegroupmake_Step (.slice a3 len3 cap3) xs) :
    Calls Tryz.prog 6 #[.int .u8 a0, .int .u8 a1, .int .u8 a2, .slice a3 len3 cap3] w fun e w' => e = .returned (.bool true) ∧ Below w.heap.size w w' := by
  obtain ⟨xs3, hl3, hm3, hr3⟩ := w3
  obtain ⟨v0, rfl⟩ := of_wf_u8 w0
  obtain ⟨v1, rfl⟩ := of_wf_u8 w1
  obtain ⟨v2, rfl⟩ := of_wf_u8 w2
  exact CSpec.lawN 1 (L_volumegrouplaw19_ParityvolBad hr3.oldR (parityvolBad v0 v1 v2 xs3))
set_option maxRecDepth 100000 in
theorem lifted (os : Os) (started : os.Started) (H : Type) (enc : TypeId × Value → H) :
    ReturnsInHanded {} Tryz.checked os 6 .any (Rows.parityvolBadSpec.pre6 enc Tryz.prog Tryz.f6 Rows.parityvolBadRow.domain false) (Rows.parityvolBadSpec.post enc Tryz.prog Tryz.f6 false true false false) := by
  refine returnsInHanded_of_change (C := Tryz.checked) own started (by kernel_rfl) Tryz.func6
    (ChangeSpec.witness6 (enc := enc) (C := Tryz.checked) false ⟨#[], #[.int .u8 0, .int .u8 0, .int .u8 0, .slice none 0 0], []⟩ 8 (by kernel_rfl) (by kernel_rfl) (by kernel_rfl) (by kernel_rfl)) ?_
  intro W base args ds gs before hval0 hW hcnd _
  have hval : ∀ (j : Nat) t v, Tryz.f6.params[j]? = some t → args[j]? = some v → Value.okWide Tryz.prog W .any base t v := hval0
  have hW' := hW
  obtain ⟨p, q, hA0, hV, rfl, hfz, hnd⟩ := hW
  have hA : DataW.TrodAll enc Tryz.prog W 0 (fun _ => true) true Tryz.f6.params.toList args.toList ds p := hA0
  rw [Tryz.params6] at hA hval
  obtain ⟨v0, vs0, d0, ds0, p0, q0, hargs, rfl, rfl, h0, r0⟩ := trodAll_cons hA
  obtain ⟨v1, vs1, d1, ds1, p1, q1, rfl, rfl, rfl, h1, r1⟩ := trodAll_cons r0
  obtain ⟨v2, vs2, d2, ds2, p2, q2, rfl, rfl, rfl, h2, r2⟩ := trodAll_cons r1
  obtain ⟨v3, vs3, d3, ds3, p3, q3, rfl, rfl, rfl, h3, r3⟩ := trodAll_cons r2
  obtain ⟨rfl, rfl, rfl⟩ := trodAll_nil r3
  obtain rfl : args = #[v0, v1, v2, v3] := by cases args; simp_all
  obtain ⟨rfl, rfl⟩ := trodVars_none hV
  obtain ⟨a0, rfl, rfl, rfl, w0⟩ := open_int Tryz.underlying5 (hval 0 5 v0 rfl rfl) h0
  obtain ⟨a1, rfl, rfl, rfl, w1⟩ := open_int Tryz.underlying5 (hval 1 5 v1 rfl rfl) h1
  obtain ⟨a2, rfl, rfl, rfl, w2⟩ := open_int Tryz.underlying5 (hval 2 5 v2 rfl rfl) h2
  obtain ⟨a3, len3, cap3, rfl⟩ := okWide_slice Tryz.underlying22 (hval 3 22 v3 rfl rfl)
  have k3 := h3
  have lt3 : ∀ x ∈ p3, x.block < W.heap.size := by obtain ⟨m, hm⟩ := k3; exact DataW.trod_lt m _ _ _ hm
  have w3 : ∃ xs, xs.length = len3 ∧ len3 ≤ maxLen ∧ Reads (old W) tyvolumegroupmake_Step (.slice a3 len3 cap3) xs := by
    obtain ⟨fuel, hf⟩ := h3
    exact reads_in Tryz.underlying22 (by kernel_rfl) shown_tyvolumegroupmake_Step (by simpa [Value.cells] using hf)
  clear hA0 hval0
  refine (walk a0 a1 a2 a3 len3 cap3 W w0 w1 w2 w3).mono fun e W' ⟨he, bel⟩ => ?_
  subst he
  exact ⟨_, rfl, _, _, _, [], _, [], hW', trodAll_mk1 (shut_bool Tryz.underlying4 _), (trodAll_cons_mk (shut_int Tryz.underlying5 w0) (trodAll_cons_mk (shut_int Tryz.underlying5 w1) (trodAll_cons_mk (shut_int Tryz.underlying5 w2) (trodAll_cons_mk (Below.trod laidOut (by kernel_rfl) (of_decide_eq_true (by kernel_rfl)) k3 bel lt3) trodAll_mk0)))), rfl, bel.frame _, fun h => by cases h⟩
theorem over : Rows.parityvolBadRow.holds Tryz.pinned (OpenSpec.ofChange Rows.parityvolBadSpec) :=
  OpenClaim.holds_of_wide 6 Tryz.f6 rfl rfl rfl rfl rfl rfl rfl ⟨rfl, rfl, rfl, rfl, rfl⟩ rfl rfl rfl rfl rfl (by kernel_rfl) Tryz.func6 (by kernel_rfl)
    (of_decide_eq_true (by kernel_rfl)) (by unfold Func.isWrapper; first | (rw [if_pos (by decide +kernel)]; kernel_rfl) | (rw [if_neg (by decide +kernel)]; exact ⟨rfl, rfl⟩))
    (fun os started H enc _ => lifted os started H enc)
theorem proved : Rows.ParityvolBadSaid := over
#print axioms proved
end Go.Proofs.YtmoiepdpckpolaaGreat.parityvolBad
