/- YtomomnpnkfgnnaaCRaw1: contracts of functions of the program, walked rule by rule; printed by vg.py. -/
import Derived.Test.YtomomnpnkfgnnaaCRaw0
import Derived.Test.YtomomnpnkfgnnaaVgS
set_option linter.unusedSimpArgs false
set_option maxRecDepth 20000
namespace Go.Proofs
open Go.VG
open Go.ChangeShapes Go.WideShapes Go.ChangeAt Go.RowKit
/-- An int as the machine has it. -/
abbrev I64 := { x : Int // -9223372036854775808 ≤ x ∧ x ≤ 9223372036854775807 }
abbrev tyJ : Ty I64 := { T := 3, sz := 1, enc := fun x => [.int .i64 x.1], dflt := ⟨0, by decide⟩, len := fun _ => rfl, one := fun _ => rfl, pos := by decide }
theorem shown_tyJ : Shown Try.prog 3 tyJ := fun H enc w base spare held n cs x h => by
  obtain ⟨m, rfl, _, hw⟩ := DataW.trod_int Try.underlying3 h; exact ⟨⟨m, bounds_i64 hw⟩, rfl⟩
structure CallJV where
  f0 : I64
  f1 : I64
  f2 : I64
  f3 : UInt64
  f4 : Bool
abbrev tyCallJ : Ty CallJV := { T := 28, sz := 5, enc := fun x => [.int .i64 x.f0.1, .int .i64 x.f1.1, .int .i64 x.f2.1, .int .u64 (x.f3.toNat : Int), .bool x.f4], dflt := ⟨⟨0, by decide⟩, ⟨0, by decide⟩, ⟨0, by decide⟩, 0, false⟩, len := fun _ => rfl, one := fun _ => rfl, pos := by decide }
theorem shown_tyCallJ : Shown Try.prog 28 tyCallJ := fun H enc w base spare held n cs x h => by
  obtain ⟨xs, n', _, _, hcl, hxl, hf⟩ := DataW.trod_struct Try.underlying28 h
  have hc : cs.length = 5 := hcl.trans (by kernel_rfl)
  have hl : xs.length = 5 := hxl
  obtain ⟨y0, h0⟩ := shown_fld shown_tyJ (hf 0 _ rfl) (by omega)
  obtain ⟨y1, h1⟩ := shown_fld shown_tyJ (hf 1 _ rfl) (by omega)
  obtain ⟨y2, h2⟩ := shown_fld shown_tyJ (hf 2 _ rfl) (by omega)
  obtain ⟨y3, h3⟩ := shown_fld shown_tyU (hf 3 _ rfl) (by omega)
  obtain ⟨y4, h4⟩ := shown_fld shown_tyB (hf 4 _ rfl) (by omega)
  match cs, hc with
  | [c0, c1, c2, c3, c4], _ =>
    change List.take (Try.prog.cellsOf 3) (List.drop 0 _) = _ at h0
    rw [show Try.prog.cellsOf 3 = 1 by kernel_rfl] at h0
    obtain rfl := (List.cons.inj (show [c0] = tyJ.enc y0 from h0)).1
    change List.take (Try.prog.cellsOf 3) (List.drop 1 _) = _ at h1
    rw [show Try.prog.cellsOf 3 = 1 by kernel_rfl] at h1
    obtain rfl := (List.cons.inj (show [c1] = tyJ.enc y1 from h1)).1
    change List.take (Try.prog.cellsOf 3) (List.drop 2 _) = _ at h2
    rw [show Try.prog.cellsOf 3 = 1 by kernel_rfl] at h2
    obtain rfl := (List.cons.inj (show [c2] = tyJ.enc y2 from h2)).1
    change List.take (Try.prog.cellsOf 26) (List.drop 3 _) = _ at h3
    rw [show Try.prog.cellsOf 26 = 1 by kernel_rfl] at h3
    obtain rfl := (List.cons.inj (show [c3] = tyU.enc y3 from h3)).1
    change List.take (Try.prog.cellsOf 4) (List.drop 4 _) = _ at h4
    rw [show Try.prog.cellsOf 4 = 1 by kernel_rfl] at h4
    obtain rfl := (List.cons.inj (show [c4] = tyB.enc y4 from h4)).1
    exact ⟨⟨y0, y1, y2, y3, y4⟩, rfl⟩

theorem c_playsN {W : World} {A B : HP} {v u : Value} {zs : List Int} {ls : List CallJV} (hA : Reads A tyI v zs) (hB : Reads B tyCallJ u ls) (hL : ls.length ≤ 100000) (hN : NewOk zs) :
    CSpec Try.prog W 6 [v, u] [A, B] (fun _ : Unit => .bool true) (fun _ => True) (fun _ F => A :: B :: F) := by
  refine CSpec.of_body Try.func6 rfl Try.ntmps6 rfl (fun F => ?_)
  show CJ _ _ _ _ _ _ (_ :: _ :: F)
  refine CJ_seq ?_
  refine CJ_region ?_
  refine RJ_op rfl (OJ_P (P_assign rfl) rfl ?_)
  refine RJ_nil ?_
  refine QJ_then ?_
  refine CJ_seq ?_
  refine CJ_region ?_
  refine RJ_op rfl (OJ_P (P_move rfl) rfl ?_)
  refine RJ_op rfl (O_call (c_New hA hN) rfl Try.call7 (Dels.cons del0 Dels.nil) rfl (fun a0 hc3 => ?_))
  refine RJ_op rfl (OJ_P (P_move rfl) rfl ?_)
  refine RJ_op rfl (OJ_P (P_extract rfl rfl) rfl ?_)
  refine RJ_op rfl (OJ_P (P_extract rfl rfl) rfl ?_)
  refine RJ_op rfl (OJ_P (P_assign rfl) rfl ?_)
  refine RJ_op rfl (OJ_P (P_assign rfl) rfl ?_)
  refine RJ_nil ?_
  refine QJ_then ?_
  refine CJ_seq ?_
  refine CJ_region ?_
  refine RJ_op rfl (OJ_P (P_move rfl) rfl ?_)
  refine RJ_op rfl (O_call (c_mNew hA hN) rfl Try.call12 (Dels.cons del1 Dels.nil) rfl (fun c hc4 => ?_))
  refine RJ_op rfl (OJ_P (P_move rfl) rfl ?_)
  refine RJ_op rfl (OJ_P (P_extract rfl rfl) rfl ?_)
  refine RJ_op rfl (OJ_P (P_extract rfl rfl) rfl ?_)
  refine RJ_op rfl (O_alloc Try.zeroValue44 rfl rfl (fun b5 => ?_))
  refine RJ_op rfl (O_storeN rfl rfl foc0 Try.sizeOf44 rfl rfl rfl ?_)
  refine RJ_op rfl (OJ_P (P_assign rfl) rfl ?_)
  refine RJ_nil ?_
  refine QJ_then ?_
  refine CJ_seq ?_
  refine CJ_seq ?_
  refine CJ_ent (Ent.trans (Ent.take del0 (Ent.take del0 Ent.refl)) (Mod_close (m := mNewS zs) (c := c))) ?_
  refine CJ_region ?_
  refine RJ_op rfl (OJ_P (P_move rfl) rfl ?_)
  refine RJ_op rfl (OJ_P (P_move rfl) rfl ?_)
  refine RJ_op rfl (OJ_P (P_neq rfl rfl) rfl ?_)
  refine RJ_op rfl (OJ_P (P_move rfl) rfl ?_)
  first | (refine RJ_know 24 false rfl (decide_eq_false (by decide)) (fun hg1B => ?_)) | (refine RJ_know 24 false rfl (by decide) (fun hg1B => ?_))
  refine RJ_gy (GY_yes rfl rfl rfl hg1B) (OJ_P (P_move rfl) rfl ?_)
  refine RJ_gy (GY_yes rfl rfl rfl hg1B) (OJ_P (P_eqlPN rfl rfl Try.underlying30) rfl ?_)
  refine RJ_gy (GY_yes rfl rfl rfl hg1B) (OJ_P (P_move rfl) rfl ?_)
  refine RJ_gy (GY_yes rfl rfl rfl hg1B) (OJ_P (P_neq rfl rfl) rfl ?_)
  refine RJ_gy (GY_yes rfl rfl rfl hg1B) (OJ_P (P_neqB rfl rfl Try.underlying4) rfl ?_)
  refine RJ_op rfl (OJ_P (P_pickF rfl hg1B rfl) rfl ?_)
  refine RJ_nil ?_
  refine QJ_then ?_
  first | (refine CJ_condF rfl (decide_eq_false (by decide)) ?_) | (refine CJ_condF rfl (by decide) ?_)
  refine CJ_skip ?_
  refine QJ_then ?_
  refine CJ_seq ?_
  refine CJ_region ?_
  refine RJ_op rfl (OJ_P (P_assign rfl) rfl ?_)
  refine RJ_nil ?_
  refine QJ_then ?_
  refine CJ_seq ?_
  refine CJ_seq ?_
  refine CJ_region ?_
  refine RJ_op rfl (OJ_P (P_assign rfl) rfl ?_)
  refine RJ_nil ?_
  refine QJ_then ?_
  refine CJ_block ?_
  refine CJ_loopR (X := Nat × Nat × ArrS × ModS) [4, 5, 9, 10, 31, 32, 33, 34, 35, 36, 37, 38, 39, 40, 41, 42, 43, 44, 45, 46, 47, 48, 49, 50, 51, 52, 53, 54, 55, 56] (fun ⟨i, a, s, m⟩  => ([(10, .int .i64 (i : Nat)), (5, ptr a 0)] : Slots)) (fun ⟨i, a, s, m⟩ R => Arr a s :: Mod b5 m :: R) (fun ⟨i, a, s, m⟩  => i ≤ ls.length ∧ Rel s m ∧ m.ct ≤ i) (fun ⟨i, a, s, m⟩  => ls.length - i) ⟨0, a0, newS zs, mNewS zs⟩ ?_ ?_ (Ent.take del2 (Ent.take del0 (Ent.take del0 (Ent.take del0 Ent.refl)))) ?_
  · exact ⟨Nat.zero_le _, Rel.newS, Nat.le_refl _⟩
  · exact ⟨rfl, rfl, True.intro⟩
  ·
    rintro ⟨i, a, s, m⟩ ⟨hi, hr, hb⟩
    show CJ _ _ _ _ _ (([(10, .int .i64 (i : Nat)), (5, ptr a 0)] : Slots) ++ forget _ _) (Arr a s :: Mod b5 m :: _)
    have hct := hr.ct
    refine CJ_seq ?_
    refine CJ_seq ?_
    refine CJ_region ?_
    refine RJ_op rfl (OJ_P (P_move rfl) rfl ?_)
    refine RJ_op rfl (OJ_P (P_move rfl) rfl ?_)
    refine RJ_op rfl (OJ_V (V_len rfl foc3 hB Try.runUnderlying23) rfl ?_)
    refine RJ_op rfl (OJ_P (P_lss rfl rfl) rfl ?_)
    refine RJ_op rfl (OJ_P (P_move rfl) rfl ?_)
    first | (refine RJ_splitD 35 rfl (fun hg3B hg3 => ?_) (fun hg3B hg3 => ?_)) | (refine RJ_splitN 35 rfl (fun hg3B hg3 => ?_) (fun hg3B hg3 => ?_)) | (refine RJ_split 35 rfl (fun hg3B => ?_) (fun hg3B => ?_))
    ·
      refine RJ_gy (GY_yes rfl rfl rfl hg3B) (OJ_P (P_move rfl) rfl ?_)
      refine RJ_gy (GY_yes rfl rfl rfl hg3B) (OJ_P (P_eql rfl rfl) rfl ?_)
      refine RJ_op rfl (OJ_P (P_pickT rfl hg3B rfl) rfl ?_)
      refine RJ_nil ?_
      refine QJ_then ?_
      first | (refine CJ_condT rfl (decide_eq_true (by decide)) ?_) | (refine CJ_condT rfl (by decide) ?_)
      refine CJ_skip ?_
      refine QJ_then ?_
      refine CJ_seq ?_
      refine CJ_block ?_
      refine CJ_seq ?_
      refine CJ_region ?_
      refine RJ_op rfl (OJ_P (P_move rfl) rfl ?_)
      refine RJ_op rfl (OJ_P (P_move rfl) rfl ?_)
      refine RJ_op rfl (OJ_P (P_move rfl) rfl ?_)
      first | (refine RJ_op rfl (OJ_V (V_index rfl rfl rfl (by omega) foc3 hB Try.runUnderlying23 Try.sizeOf28) rfl ?_)) | (refine RJ_op rfl (OJ_V (V_index rfl rfl (Int.toNat_of_nonneg (by omega)).symm (by omega) foc3 hB Try.runUnderlying23 Try.sizeOf28) rfl ?_))
      refine RJ_op rfl (OJ_V (V_loadEN rfl rfl (by omega) foc3 hB rfl rfl Try.isAgg28 Try.sizeOf28) rfl ?_)
      refine RJ_op rfl (O_call (c_step (by omega) hr (ls.getD i tyCallJ.dflt).f2.2.2) rfl Try.call13 (Dels.cons del0 (Dels.cons del0 Dels.nil)) rfl (fun q hq => ?_))
      refine RJ_op rfl (OJ_P (P_move rfl) rfl ?_)
      refine RJ_op rfl (OJ_P (P_extract rfl rfl) rfl ?_)
      refine RJ_op rfl (OJ_P (P_extract rfl rfl) rfl ?_)
      refine RJ_op rfl (OJ_P (P_assign rfl) rfl ?_)
      refine RJ_op rfl (OJ_P (P_assign rfl) rfl ?_)
      refine RJ_nil ?_
      refine QJ_then ?_
      refine CJ_seq ?_
      have hct2 := hq.1.ct
      have hr := hq.1
      have hq2 := hq.2
      refine CJ_region ?_
      refine RJ_op rfl (OJ_P (P_move rfl) rfl ?_)
      refine RJ_op rfl (OJ_P (P_not rfl) rfl ?_)
      refine RJ_op rfl (OJ_P (P_move rfl) rfl ?_)
      refine RJ_gy (GY_yes rfl rfl rfl rfl) (OJ_P (P_move rfl) rfl ?_)
      refine RJ_gy (GY_yes rfl rfl rfl rfl) (O_call (c_same (by first | assumption | omega) hr) rfl Try.call14 (Dels.cons del0 (Dels.cons del0 Dels.nil)) rfl (fun _ hc8 => ?_))
      refine RJ_gy (GY_yes rfl rfl rfl rfl) (OJ_P (P_not rfl) rfl ?_)
      refine RJ_op rfl (OJ_P (P_pickF rfl rfl rfl) rfl ?_)
      refine RJ_nil ?_
      refine QJ_then ?_
      refine CJ_condF rfl rfl ?_
      refine CJ_skip ?_
      refine QJ_block_normal ?_
      refine QJ_then ?_
      refine CJ_region ?_
      refine RJ_op rfl (OJ_P (P_move rfl) rfl ?_)
      refine RJ_op rfl (OJ_P (P_add rfl rfl (by omega)) rfl ?_)
      refine RJ_op rfl (OJ_P (P_assign rfl) rfl ?_)
      refine RJ_nil ?_
      refine QJ_nextR ⟨i + 1, q.1, q.2.1, q.2.2⟩ (by first | omega | (simp only []; omega)) ?_ (by repeat (first | exact Kp.base | exact Kp.self | refine Kp.cons rfl ?_ | refine Kp.forget rfl ?_)) ?_ (Ent.take del0 (Ent.take del0 (Ent.take del0 (Ent.take del0 Ent.refl))))
      · exact ⟨by omega, hq.1, by have := hq.2; omega⟩
      · exact ⟨rfl, rfl, True.intro⟩
    ·
      refine RJ_gn (GY_no rfl rfl rfl hg3B) rfl rfl ?_
      refine RJ_gn (GY_no rfl rfl rfl hg3B) rfl rfl ?_
      refine RJ_op rfl (OJ_P (P_pickF rfl hg3B rfl) rfl ?_)
      refine RJ_nil ?_
      refine QJ_then ?_
      refine CJ_condF rfl rfl ?_
      refine CJ_exit ?_
      refine QJ_then_exit ?_
      refine QJ_round_exit ?_
      refine QJ_block_here ?_
      refine QJ_then ?_
      refine CJ_seq ?_
      refine CJ_region ?_
      refine RJ_op rfl (OJ_P (P_move rfl) rfl ?_)
      refine RJ_op rfl (OJ_P (P_neq rfl rfl) rfl ?_)
      refine RJ_op rfl (OJ_P (P_move rfl) rfl ?_)
      first | (refine RJ_know 59 false rfl (decide_eq_false (by decide)) (fun hg5B => ?_)) | (refine RJ_know 59 false rfl (by decide) (fun hg5B => ?_))
      refine RJ_gy (GY_yes rfl rfl rfl hg5B) (OJ_P (P_move rfl) rfl ?_)
      refine RJ_gy (GY_yes rfl rfl rfl hg5B) (O_call (c_same (by first | assumption | omega) hr) rfl Try.call14 (Dels.cons del0 (Dels.cons del0 Dels.nil)) rfl (fun _ hc9 => ?_))
      refine RJ_op rfl (OJ_P (P_pickF rfl hg5B rfl) rfl ?_)
      refine RJ_op rfl (OJ_P (P_assign rfl) rfl ?_)
      refine RJ_nil ?_
      refine QJ_then ?_
      refine CJ_ret ?_
      refine QJ_end (res1 Try.results6 rfl) ?_
      refine CSpec.close () ?_ ?_ (Ent.take del2 (Ent.take del2 (Ent.drop (Ent.drop Ent.refl))))
      · rfl
      · trivial

theorem c_playsB {W : World} {A B : HP} {v u : Value} {zs : List Int} {ls : List CallJV} (hA : Reads A tyI v zs) (hB : Reads B tyCallJ u ls) (h63 : zs.length ≤ 4611686018427387904) (hN : ¬ NewOk zs) :
    CSpec Try.prog W 6 [v, u] [A, B] (fun _ : Unit => .bool true) (fun _ => True) (fun _ F => A :: B :: F) := by
  refine CSpec.of_body Try.func6 rfl Try.ntmps6 rfl (fun F => ?_)
  show CJ _ _ _ _ _ _ (_ :: _ :: F)
  have hE : ¬ ((if 8 < zs.length then (4 : Int) else 1) = 0) := by split <;> decide
  refine CJ_seq ?_
  refine CJ_region ?_
  refine RJ_op rfl (OJ_P (P_assign rfl) rfl ?_)
  refine RJ_nil ?_
  refine QJ_then ?_
  refine CJ_seq ?_
  refine CJ_region ?_
  refine RJ_op rfl (OJ_P (P_move rfl) rfl ?_)
  refine RJ_op rfl (O_call (c_NewBad hA hN h63) rfl Try.call7 (Dels.cons del0 Dels.nil) rfl (fun _ hc1 => ?_))
  refine RJ_op rfl (OJ_P (P_move rfl) rfl ?_)
  refine RJ_op rfl (OJ_P (P_extract rfl rfl) rfl ?_)
  refine RJ_op rfl (OJ_P (P_extract rfl rfl) rfl ?_)
  refine RJ_op rfl (OJ_P (P_assign rfl) rfl ?_)
  refine RJ_op rfl (OJ_P (P_assign rfl) rfl ?_)
  refine RJ_nil ?_
  refine QJ_then ?_
  refine CJ_seq ?_
  refine CJ_region ?_
  refine RJ_op rfl (OJ_P (P_move rfl) rfl ?_)
  refine RJ_op rfl (O_call (c_mNewBad hA hN h63) rfl Try.call12 (Dels.cons del0 Dels.nil) rfl (fun _ hc2 => ?_))
  refine RJ_op rfl (OJ_P (P_move rfl) rfl ?_)
  refine RJ_op rfl (OJ_P (P_extract rfl rfl) rfl ?_)
  refine RJ_op rfl (OJ_P (P_extract rfl rfl) rfl ?_)
  refine RJ_op rfl (O_alloc Try.zeroValue44 rfl rfl (fun b3 => ?_))
  refine RJ_op rfl (O_storeN rfl rfl foc0 Try.sizeOf44 rfl rfl rfl ?_)
  refine RJ_op rfl (OJ_P (P_assign rfl) rfl ?_)
  refine RJ_nil ?_
  refine QJ_then ?_
  refine CJ_seq ?_
  refine CJ_seq ?_
  refine CJ_region ?_
  refine RJ_op rfl (OJ_P (P_move rfl) rfl ?_)
  refine RJ_op rfl (OJ_P (P_move rfl) rfl ?_)
  refine RJ_op rfl (OJ_P (P_neq rfl rfl) rfl ?_)
  refine RJ_op rfl (OJ_P (P_move rfl) rfl ?_)
  first | (refine RJ_know 24 false rfl (decide_eq_false (by simp)) (fun hg1B => ?_)) | (refine RJ_know 24 false rfl (by simp) (fun hg1B => ?_))
  refine RJ_gy (GY_yes rfl rfl rfl hg1B) (OJ_P (P_move rfl) rfl ?_)
  refine RJ_gy (GY_yes rfl rfl rfl hg1B) (OJ_P (P_eqlNN rfl rfl Try.underlying30) rfl ?_)
  refine RJ_gy (GY_yes rfl rfl rfl hg1B) (OJ_P (P_move rfl) rfl ?_)
  refine RJ_gy (GY_yes rfl rfl rfl hg1B) (OJ_P (P_neq rfl rfl) rfl ?_)
  refine RJ_gy (GY_yes rfl rfl rfl hg1B) (OJ_P (P_neqB rfl rfl Try.underlying4) rfl ?_)
  refine RJ_op rfl (OJ_P (P_pickF rfl hg1B rfl) rfl ?_)
  refine RJ_nil ?_
  refine QJ_then ?_
  first | (refine CJ_condF rfl (decide_eq_false (by simp [hE])) ?_) | (refine CJ_condF rfl (by simp [hE]) ?_)
  refine CJ_skip ?_
  refine QJ_then ?_
  refine CJ_seq ?_
  refine CJ_region ?_
  refine RJ_op rfl (OJ_P (P_assign rfl) rfl ?_)
  refine RJ_nil ?_
  refine QJ_then ?_
  refine CJ_seq ?_
  refine CJ_seq ?_
  refine CJ_region ?_
  refine RJ_op rfl (OJ_P (P_assign rfl) rfl ?_)
  refine RJ_nil ?_
  refine QJ_then ?_
  refine CJ_block ?_
  refine CJ_loopR (X := Nat) [4, 5, 9, 10, 31, 32, 33, 34, 35, 36, 37, 38, 39, 40, 41, 42, 43, 44, 45, 46, 47, 48, 49, 50, 51, 52, 53, 54, 55, 56] (fun i  => ([(10, .int .i64 (i : Nat))] : Slots)) (fun i R => R) (fun i  => i = 0) (fun i  => 0) (0) ?_ ?_ (Ent.take del0 (Ent.take del0 (Ent.take del0 Ent.refl))) ?_
  · rfl
  · exact ⟨rfl, True.intro⟩
  ·
    intro i hi
    show CJ _ _ _ _ _ (([(10, .int .i64 (i : Nat))] : Slots) ++ forget _ _) (_)
    refine CJ_seq ?_
    refine CJ_seq ?_
    refine CJ_region ?_
    refine RJ_op rfl (OJ_P (P_move rfl) rfl ?_)
    refine RJ_op rfl (OJ_P (P_move rfl) rfl ?_)
    refine RJ_op rfl (OJ_V (V_len rfl foc2 hB Try.runUnderlying23) rfl ?_)
    refine RJ_op rfl (OJ_P (P_lss rfl rfl) rfl ?_)
    refine RJ_op rfl (OJ_P (P_move rfl) rfl ?_)
    first | (refine RJ_splitD 35 rfl (fun hg3B hg3 => ?_) (fun hg3B hg3 => ?_)) | (refine RJ_splitN 35 rfl (fun hg3B hg3 => ?_) (fun hg3B hg3 => ?_)) | (refine RJ_split 35 rfl (fun hg3B => ?_) (fun hg3B => ?_))
    ·
      refine RJ_gy (GY_yes rfl rfl rfl hg3B) (OJ_P (P_move rfl) rfl ?_)
      refine RJ_gy (GY_yes rfl rfl rfl hg3B) (OJ_P (P_eql rfl rfl) rfl ?_)
      refine RJ_op rfl (OJ_P (P_pickT rfl hg3B rfl) rfl ?_)
      refine RJ_nil ?_
      refine QJ_then ?_
      first | (refine CJ_condF rfl (decide_eq_false (by exact hE)) ?_) | (refine CJ_condF rfl (by exact hE) ?_)
      refine CJ_exit ?_
      refine QJ_then_exit ?_
      refine QJ_round_exit ?_
      refine QJ_block_here ?_
      refine QJ_then ?_
      refine CJ_seq ?_
      refine CJ_region ?_
      refine RJ_op rfl (OJ_P (P_move rfl) rfl ?_)
      refine RJ_op rfl (OJ_P (P_neq rfl rfl) rfl ?_)
      refine RJ_op rfl (OJ_P (P_move rfl) rfl ?_)
      first | (refine RJ_know 59 true rfl (decide_eq_true (by exact hE)) (fun hg5B => ?_)) | (refine RJ_know 59 true rfl (by exact hE) (fun hg5B => ?_))
      refine RJ_gn (GY_no rfl rfl rfl hg5B) rfl rfl ?_
      refine RJ_gn (GY_no rfl rfl rfl hg5B) rfl rfl ?_
      refine RJ_op rfl (OJ_P (P_pickT rfl hg5B rfl) rfl ?_)
      refine RJ_op rfl (OJ_P (P_assign rfl) rfl ?_)
      refine RJ_nil ?_
      refine QJ_then ?_
      refine CJ_ret ?_
      refine QJ_end (res1 Try.results6 rfl) ?_
      refine CSpec.close () ?_ ?_ (Ent.take del1 (Ent.take del1 (Ent.drop Ent.refl)))
      · rfl
      · trivial
    ·
      refine RJ_gn (GY_no rfl rfl rfl hg3B) rfl rfl ?_
      refine RJ_gn (GY_no rfl rfl rfl hg3B) rfl rfl ?_
      refine RJ_op rfl (OJ_P (P_pickF rfl hg3B rfl) rfl ?_)
      refine RJ_nil ?_
      refine QJ_then ?_
      refine CJ_condF rfl rfl ?_
      refine CJ_exit ?_
      refine QJ_then_exit ?_
      refine QJ_round_exit ?_
      refine QJ_block_here ?_
      refine QJ_then ?_
      refine CJ_seq ?_
      refine CJ_region ?_
      refine RJ_op rfl (OJ_P (P_move rfl) rfl ?_)
      refine RJ_op rfl (OJ_P (P_neq rfl rfl) rfl ?_)
      refine RJ_op rfl (OJ_P (P_move rfl) rfl ?_)
      first | (refine RJ_know 59 true rfl (decide_eq_true (by exact hE)) (fun hg6B => ?_)) | (refine RJ_know 59 true rfl (by exact hE) (fun hg6B => ?_))
      refine RJ_gn (GY_no rfl rfl rfl hg6B) rfl rfl ?_
      refine RJ_gn (GY_no rfl rfl rfl hg6B) rfl rfl ?_
      refine RJ_op rfl (OJ_P (P_pickT rfl hg6B rfl) rfl ?_)
      refine RJ_op rfl (OJ_P (P_assign rfl) rfl ?_)
      refine RJ_nil ?_
      refine QJ_then ?_
      refine CJ_ret ?_
      refine QJ_end (res1 Try.results6 rfl) ?_
      refine CSpec.close () ?_ ?_ (Ent.take del1 (Ent.take del1 (Ent.drop Ent.refl)))
      · rfl
      · trivial

end Go.Proofs
