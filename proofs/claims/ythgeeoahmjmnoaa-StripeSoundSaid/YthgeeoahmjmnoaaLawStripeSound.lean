/- The law StripeSound holds of the program for every input: its contract, laid into the row's frame. -/
import Derived.Test.YthgeeoahmjmnoaaRows
import Derived.Test.YthgeeoahmjmnoaaPStripeSound
import Derived.Test.YthgeeoahmjmnoaaVgG
import Derived.Test.YthgeeoahmjmnoaaVgO
import Derived.Test.YthgeeoahmjmnoaaLStripeSound
import Derived.Test.YthgeeoahmjmnoaaVgP
import Derived.WalkKit
import Derived.ProofKit
import Derived.OpenShut
import Derived.ShutString
import Derived.ChangeOld
import Derived.Below
namespace Go.Proofs.Ythgeeoahmjmnoaa.stripeSound
open Go.ChangeShapes Go.WideShapes Go.ChangeAt Go.RowKit
open Go.ChangeMaps (open_string shut_string)
set_option linter.unusedVariables false

theorem own : ownKnob Try.prog.godebug = none := by kernel_rfl
theorem laidOut : laidOutB Try.prog = true := by kernel_rfl

open Go.VG
theorem shown_tyU8 : Shown Try.prog 5 tyU8 := fun H enc w base spare held n cs x h => by
  obtain ⟨m, rfl, _, hw⟩ := DataW.trod_int Try.underlying5 h
  have hb := bounds_u8 hw
  refine ⟨UInt8.ofNat m.toNat, ?_⟩
  have : ((UInt8.ofNat m.toNat).toNat : Int) = m := by
    rw [UInt8.toNat_ofNat', Nat.mod_eq_of_lt (by omega)]; omega
  show [Value.int .u8 m] = [Value.int .u8 ((UInt8.ofNat m.toNat).toNat : Int)]
  rw [this]
set_option maxRecDepth 100000 in
theorem shown_tyvolumegroupmake_Step : Shown Try.prog 142 tyvolumegroupmake_Step := fun H enc w base spare held n cs x h => by
  obtain ⟨xs, n', _, _, hcl, hxl, hf⟩ := DataW.trod_struct Try.underlying142 h
  have hc : cs.length = 4 := hcl.trans (by kernel_rfl)
  have hl : xs.length = 4 := hxl
  obtain ⟨y0, h0⟩ := shown_fld shown_tyI (hf 0 _ rfl) (by omega)
  obtain ⟨y1, h1⟩ := shown_fld shown_tyI (hf 1 _ rfl) (by omega)
  obtain ⟨y2, h2⟩ := shown_fld shown_tyU (hf 2 _ rfl) (by omega)
  obtain ⟨y3, h3⟩ := shown_fld shown_tyU (hf 3 _ rfl) (by omega)
  match cs, hc with
  | [c0, c1, c2, c3], _ =>
    change List.take (Try.prog.cellsOf 3) (List.drop 0 _) = _ at h0
    rw [show Try.prog.cellsOf 3 = 1 by kernel_rfl] at h0
    obtain rfl := (List.cons.inj (show [c0] = tyI.enc y0 from h0)).1
    change List.take (Try.prog.cellsOf 3) (List.drop 1 _) = _ at h1
    rw [show Try.prog.cellsOf 3 = 1 by kernel_rfl] at h1
    obtain rfl := (List.cons.inj (show [c1] = tyI.enc y1 from h1)).1
    change List.take (Try.prog.cellsOf 22) (List.drop 2 _) = _ at h2
    rw [show Try.prog.cellsOf 22 = 1 by kernel_rfl] at h2
    obtain rfl := (List.cons.inj (show [c2] = tyU.enc y2 from h2)).1
    change List.take (Try.prog.cellsOf 22) (List.drop 3 _) = _ at h3
    rw [show Try.prog.cellsOf 22 = 1 by kernel_rfl] at h3
    obtain rfl := (List.cons.inj (show [c3] = tyU.enc y3 from h3)).1
    exact ⟨⟨y0, y1, y2, y3⟩, rfl⟩
theorem walk (a0 : Option Addr) (len0 cap0 : Nat) (a1 : Int) (a2 : Option Addr) (len2 cap2 : Nat) (w : World) (w0 : ∃ xs, xs.length = len0 ∧ len0 ≤ maxLen ∧ Reads (old w) tyU8 (.slice a0 len0 cap0) xs) (w1 : (Lit.int .u8 a1).wf = true) (w2 : ∃ xs, xs.length = len2 ∧ len2 ≤ maxLen ∧ Reads (old w) tyvolumegroupmake_Step (.slice a2 len2 cap2) xs) :
    Calls Try.prog 10 #[.slice a0 len0 cap0, .int .u8 a1, .slice a2 len2 cap2] w fun e w' => e = .returned (.bool true) ∧ Below w.heap.size w w' := by
  obtain ⟨xs0, hl0, hm0, hr0⟩ := w0
  obtain ⟨xs2, hl2, hm2, hr2⟩ := w2
  obtain ⟨v1, rfl⟩ := of_wf_u8 w1
  exact CSpec.lawN 2 (L_volumegrouplaw17_StripeSound hr0.oldR hr2.oldR (stripeSound xs0 v1 xs2))

set_option maxRecDepth 100000 in
theorem lifted (os : Os) (started : os.Started) (H : Type) (enc : TypeId × Value → H) :
    ReturnsInHanded {} Try.checked os 10 .any (Rows.stripeSoundSpec.pre6 enc Try.prog Try.f10 Rows.stripeSoundRow.domain false) (Rows.stripeSoundSpec.post enc Try.prog Try.f10 false true false false) := by
  refine returnsInHanded_of_change (C := Try.checked) own started (by kernel_rfl) Try.func10
    (ChangeSpec.witness6 (enc := enc) (C := Try.checked) false ⟨#[], #[.slice none 0 0, .int .u8 0, .slice none 0 0], []⟩ 8 (by kernel_rfl) (by kernel_rfl) (by kernel_rfl) (by kernel_rfl)) ?_
  intro W base args ds gs before hval0 hW hcnd _
  have hval : ∀ (j : Nat) t v, Try.f10.params[j]? = some t → args[j]? = some v → Value.okWide Try.prog W .any base t v := hval0
  have hW' := hW
  obtain ⟨p, q, hA0, hV, rfl, hfz, hnd⟩ := hW
  have hA : DataW.TrodAll enc Try.prog W 0 (fun _ => true) true Try.f10.params.toList args.toList ds p := hA0
  rw [Try.params10] at hA hval
  obtain ⟨v0, vs0, d0, ds0, p0, q0, hargs, rfl, rfl, h0, r0⟩ := trodAll_cons hA
  obtain ⟨v1, vs1, d1, ds1, p1, q1, rfl, rfl, rfl, h1, r1⟩ := trodAll_cons r0
  obtain ⟨v2, vs2, d2, ds2, p2, q2, rfl, rfl, rfl, h2, r2⟩ := trodAll_cons r1
  obtain ⟨rfl, rfl, rfl⟩ := trodAll_nil r2
  obtain rfl : args = #[v0, v1, v2] := by cases args; simp_all
  obtain ⟨rfl, rfl⟩ := trodVars_none hV
  obtain ⟨a0, len0, cap0, rfl⟩ := okWide_slice Try.underlying67 (hval 0 67 v0 rfl rfl)
  have k0 := h0
  have lt0 : ∀ x ∈ p0, x.block < W.heap.size := by obtain ⟨m, hm⟩ := k0; exact DataW.trod_lt m _ _ _ hm
  have w0 : ∃ xs, xs.length = len0 ∧ len0 ≤ maxLen ∧ Reads (old W) tyU8 (.slice a0 len0 cap0) xs := by
    obtain ⟨fuel, hf⟩ := h0
    exact reads_in Try.underlying67 (by kernel_rfl) shown_tyU8 (by simpa [Value.cells] using hf)
  obtain ⟨a1, rfl, rfl, rfl, w1⟩ := open_int Try.underlying5 (hval 1 5 v1 rfl rfl) h1
  obtain ⟨a2, len2, cap2, rfl⟩ := okWide_slice Try.underlying59 (hval 2 59 v2 rfl rfl)
  have k2 := h2
  have lt2 : ∀ x ∈ p2, x.block < W.heap.size := by obtain ⟨m, hm⟩ := k2; exact DataW.trod_lt m _ _ _ hm
  have w2 : ∃ xs, xs.length = len2 ∧ len2 ≤ maxLen ∧ Reads (old W) tyvolumegroupmake_Step (.slice a2 len2 cap2) xs := by
    obtain ⟨fuel, hf⟩ := h2
    exact reads_in Try.underlying59 (by kernel_rfl) shown_tyvolumegroupmake_Step (by simpa [Value.cells] using hf)
  clear hA0 hval0
  refine (walk a0 len0 cap0 a1 a2 len2 cap2 W w0 w1 w2).mono fun e W' ⟨he, bel⟩ => ?_
  subst he
  exact ⟨_, rfl, _, _, _, [], _, [], hW', trodAll_mk1 (shut_bool Try.underlying4 _), (trodAll_cons_mk (Below.trod laidOut (by kernel_rfl) (of_decide_eq_true (by kernel_rfl)) k0 bel lt0) (trodAll_cons_mk (shut_int Try.underlying5 w1) (trodAll_cons_mk (Below.trod laidOut (by kernel_rfl) (of_decide_eq_true (by kernel_rfl)) k2 bel lt2) trodAll_mk0))), rfl, bel.frame _, fun h => by cases h⟩

theorem over : Rows.stripeSoundRow.holds Try.pinned (OpenSpec.ofChange Rows.stripeSoundSpec) :=
  OpenClaim.holds_of_wide 10 Try.f10 rfl rfl rfl rfl rfl rfl rfl ⟨rfl, rfl, rfl, rfl, rfl⟩ rfl rfl rfl rfl rfl (by kernel_rfl) Try.func10 (by kernel_rfl)
    (of_decide_eq_true (by kernel_rfl)) (by unfold Func.isWrapper; first | (rw [if_pos (by decide +kernel)]; kernel_rfl) | (rw [if_neg (by decide +kernel)]; exact ⟨rfl, rfl⟩))
    (fun os started H enc _ => lifted os started H enc)

theorem proved : Rows.StripeSoundSaid := over
#print axioms proved
end Go.Proofs.Ythgeeoahmjmnoaa.stripeSound
