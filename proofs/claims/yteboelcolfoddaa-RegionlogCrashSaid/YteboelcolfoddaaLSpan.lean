/- YteboelcolfoddaaLSpan: lifted functions of the program; printed by lift.py. -/
import Derived.Test.YteboelcolfoddaaLDev
set_option linter.unusedSimpArgs false
set_option linter.unusedVariables false
set_option maxRecDepth 20000
set_option maxHeartbeats 4000000
namespace Go.Proofs
open Go.VG

def dvc_span_Size (x_0_a : ArrS) (x_0_d : Int) (x_0_start : Int) (x_0_length : Int) : Option (Int) :=
  some x_0_length

theorem L_dvc_span_Size {W : World} {bx_0 : Nat} {bx_0_a : Nat} {x_0_a : ArrS} {x_0_d : Int} {x_0_start : Int} {x_0_length : Int} {r : Int} (h : dvc_span_Size x_0_a x_0_d x_0_start x_0_length = some r) :
    CSpec Try.prog W 69 [ptr bx_0 0] [blkR bx_0 90 [ptr bx_0_a 0, .int .i64 x_0_d, .int .i64 x_0_start, .int .i64 x_0_length], Arr bx_0_a x_0_a] (fun x : Unit => .int .i64 r) (fun _ => True) (fun x F => blkR bx_0 90 [ptr bx_0_a 0, .int .i64 x_0_d, .int .i64 x_0_start, .int .i64 x_0_length] :: Arr bx_0_a x_0_a :: F) := by
  refine CSpec.of_body Try.func69 rfl Try.ntmps69 rfl (fun F => ?_)
  show CJ _ _ _ _ _ _ (_ :: _ :: F)
  unfold dvc_span_Size at h
  refine CJ_seq ?_
  refine CJ_region ?_
  refine RJ_op rfl (OJ_P (P_assign rfl) rfl ?_)
  refine RJ_nil ?_
  refine QJ_then ?_
  refine CJ_seq ?_
  refine CJ_region ?_
  refine RJ_op rfl (OJ_P (P_move rfl) rfl ?_)
  refine RJ_op rfl (OJ_P (P_nilCheck rfl) rfl ?_)
  refine RJ_op rfl (OJ_P (P_fieldAddr rfl ⟨_, _, _, Try.runUnderlying90, rfl, rfl, Try.sizeOf3, rfl⟩) rfl ?_)
  refine RJ_op rfl (OJ_V (V_loadR rfl foc0 rfl Try.isAgg3) rfl ?_)
  refine RJ_op rfl (OJ_P (P_assign rfl) rfl ?_)
  refine RJ_nil ?_
  refine QJ_then ?_
  refine CJ_ret ?_
  have hE := Option.some.inj h
  subst hE
  refine QJ_end (res1 Try.results69 rfl) ?_
  refine CSpec.close () ?_ ?_ Ent.refl
  · rfl
  · trivial

def block_inside (size : Int) (at_1 : Int) (n_2 : Int) : Option (Bool) :=
  some (((((decide ((0 : Int) ≤ at_1)) && (decide (at_1 ≤ size))) && (decide ((0 : Int) ≤ n_2))) && (decide (n_2 ≤ (IntKind.i64.wrap (size - at_1))))))

theorem L_block_inside {W : World} {size : Int} {at_1 : Int} {n_2 : Int} {r : Bool} (h : block_inside size at_1 n_2 = some r) :
    CSpec Try.prog W 37 [.int .i64 size, .int .i64 at_1, .int .i64 n_2] [] (fun x : Unit => .bool r) (fun _ => True) (fun x F => F) := by
  refine CSpec.of_body Try.func37 rfl Try.ntmps37 rfl (fun F => ?_)
  show CJ _ _ _ _ _ _ (F)
  unfold block_inside at h
  refine CJ_seq ?_
  refine CJ_region ?_
  refine RJ_op rfl (OJ_P (P_assign rfl) rfl ?_)
  refine RJ_nil ?_
  refine QJ_then ?_
  refine CJ_seq ?_
  refine CJ_region ?_
  refine RJ_op rfl (OJ_P (P_move rfl) rfl ?_)
  refine RJ_op rfl (OJ_P (P_geq (a := at_1) (b := (0 : Int)) rfl rfl) rfl ?_)
  refine RJ_op rfl (OJ_P (P_move rfl) rfl ?_)
  refine RJ_mbT rfl rfl rfl (fun hG1 => have hP2 : ((0 : Int) ≤ at_1) := (bT_dec).1 hG1; VJ_P (P_move rfl)) ?_
  refine RJ_mbT rfl rfl rfl (fun hG3 => have hP4 : ((0 : Int) ≤ at_1) := (bT_dec).1 hG3; VJ_P (P_move rfl)) ?_
  refine RJ_mbT rfl rfl rfl (fun hG5 => have hP6 : ((0 : Int) ≤ at_1) := (bT_dec).1 hG5; VJ_P (P_leq (a := at_1) (b := size) (mbx hG5 rfl) (mbx hG5 rfl))) ?_
  refine RJ_op rfl (OJ_P (P_pickAnd rfl (fun hh => mbx hh rfl) rfl) rfl ?_)
  refine RJ_op rfl (OJ_P (P_move rfl) rfl ?_)
  refine RJ_mbT rfl rfl rfl (fun hG7 => have hP8 : (((0 : Int) ≤ at_1) ∧ (at_1 ≤ size)) := ((bT_and bT_dec bT_dec)).1 hG7; VJ_P (P_move rfl)) ?_
  refine RJ_mbT rfl rfl rfl (fun hG9 => have hP10 : (((0 : Int) ≤ at_1) ∧ (at_1 ≤ size)) := ((bT_and bT_dec bT_dec)).1 hG9; VJ_P (P_geq (a := n_2) (b := (0 : Int)) (mbx hG9 rfl) rfl)) ?_
  refine RJ_op rfl (OJ_P (P_pickAnd rfl (fun hh => mbx hh rfl) rfl) rfl ?_)
  refine RJ_op rfl (OJ_P (P_move rfl) rfl ?_)
  refine RJ_mbT rfl rfl rfl (fun hG11 => have hP12 : ((((0 : Int) ≤ at_1) ∧ (at_1 ≤ size)) ∧ ((0 : Int) ≤ n_2)) := ((bT_and (bT_and bT_dec bT_dec) bT_dec)).1 hG11; VJ_P (P_move rfl)) ?_
  refine RJ_mbT rfl rfl rfl (fun hG13 => have hP14 : ((((0 : Int) ≤ at_1) ∧ (at_1 ≤ size)) ∧ ((0 : Int) ≤ n_2)) := ((bT_and (bT_and bT_dec bT_dec) bT_dec)).1 hG13; VJ_P (P_move rfl)) ?_
  refine RJ_mbT rfl rfl rfl (fun hG15 => have hP16 : ((((0 : Int) ≤ at_1) ∧ (at_1 ≤ size)) ∧ ((0 : Int) ≤ n_2)) := ((bT_and (bT_and bT_dec bT_dec) bT_dec)).1 hG15; VJ_P (P_move rfl)) ?_
  refine RJ_mbT rfl rfl rfl (fun hG17 => have hP18 : ((((0 : Int) ≤ at_1) ∧ (at_1 ≤ size)) ∧ ((0 : Int) ≤ n_2)) := ((bT_and (bT_and bT_dec bT_dec) bT_dec)).1 hG17; VJ_P (P_subW (a := size) (b := at_1) (mbx hG17 rfl) (mbx hG17 rfl))) ?_
  refine RJ_mbT rfl rfl rfl (fun hG19 => have hP20 : ((((0 : Int) ≤ at_1) ∧ (at_1 ≤ size)) ∧ ((0 : Int) ≤ n_2)) := ((bT_and (bT_and bT_dec bT_dec) bT_dec)).1 hG19; VJ_P (P_leq (a := n_2) (b := (IntKind.i64.wrap (size - at_1))) (mbx hG19 rfl) (mbx hG19 rfl))) ?_
  refine RJ_op rfl (OJ_P (P_pickAnd rfl (fun hh => mbx hh rfl) rfl) rfl ?_)
  refine RJ_op rfl (OJ_P (P_assign rfl) rfl ?_)
  refine RJ_nil ?_
  refine QJ_then ?_
  refine CJ_ret ?_
  have hE := Option.some.inj h
  subst hE
  refine QJ_end (res1 Try.results37 rfl) ?_
  refine CSpec.close () ?_ ?_ Ent.refl
  · rfl
  · trivial

def dvc_span_Read (x_0_a : ArrS) (x_0_d : Int) (x_0_start : Int) (x_0_length : Int) (at_1 : Int) : Option (UInt64 × Int) :=
  Option.bind (block_inside x_0_length at_1 (1 : Int)) fun r1 =>
  if (¬ r1 = true) then
    some (((0 : UInt64), (1 : Int)))
  else
    grd (inI64 (x_0_start + at_1)) <|
    some (((rdV x_0_a x_0_d (x_0_start + at_1)), (rdC x_0_a x_0_d (x_0_start + at_1))))

theorem L_dvc_span_Read {W : World} {bx_0 : Nat} {bx_0_a : Nat} {x_0_a : ArrS} {x_0_d : Int} {x_0_start : Int} {x_0_length : Int} {at_1 : Int} {r : UInt64 × Int} (h : dvc_span_Read x_0_a x_0_d x_0_start x_0_length at_1 = some r) :
    CSpec Try.prog W 68 [ptr bx_0 0, .int .i64 at_1] [blkR bx_0 90 [ptr bx_0_a 0, .int .i64 x_0_d, .int .i64 x_0_start, .int .i64 x_0_length], Arr bx_0_a x_0_a] (fun x : Unit => .tuple #[.int .u64 (r.1.toNat : Int), .int .i64 r.2]) (fun _ => True) (fun x F => blkR bx_0 90 [ptr bx_0_a 0, .int .i64 x_0_d, .int .i64 x_0_start, .int .i64 x_0_length] :: Arr bx_0_a x_0_a :: F) := by
  refine CSpec.of_body Try.func68 rfl Try.ntmps68 rfl (fun F => ?_)
  show CJ _ _ _ _ _ _ (_ :: _ :: F)
  unfold dvc_span_Read at h
  refine CJ_seq ?_
  refine CJ_region ?_
  refine RJ_op rfl (OJ_P (P_assign rfl) rfl ?_)
  refine RJ_op rfl (OJ_P (P_assign rfl) rfl ?_)
  refine RJ_nil ?_
  refine QJ_then ?_
  refine CJ_seq ?_
  refine CJ_seq ?_
  refine CJ_region ?_
  refine RJ_op rfl (OJ_P (P_move rfl) rfl ?_)
  refine RJ_op rfl (OJ_P (P_nilCheck rfl) rfl ?_)
  refine RJ_op rfl (OJ_P (P_fieldAddr rfl ⟨_, _, _, Try.runUnderlying90, rfl, rfl, Try.sizeOf3, rfl⟩) rfl ?_)
  refine RJ_op rfl (OJ_V (V_loadR rfl foc0 rfl Try.isAgg3) rfl ?_)
  refine RJ_op rfl (OJ_P (P_move rfl) rfl ?_)
  obtain ⟨r1, hr2, h⟩ := bind_e h
  refine RJ_op rfl (O_call (L_block_inside hr2) rfl Try.call37 Dels.nil rfl (fun _ _ => ?_))
  refine RJ_op rfl (OJ_P (P_not rfl) rfl ?_)
  refine RJ_nil ?_
  refine QJ_then ?_
  refine CJ_condP rfl (bT_not Iff.rfl) (fun hg1 => ?_) (fun hg1 => ?_)
  ·
    replace h := ite_t hg1 h
    refine CJ_seq ?_
    refine CJ_region ?_
    refine RJ_op rfl (OJ_P (P_assign rfl) rfl ?_)
    refine RJ_op rfl (OJ_P (P_assign rfl) rfl ?_)
    refine RJ_nil ?_
    refine QJ_then ?_
    refine CJ_ret ?_
    refine QJ_then_ret ?_
    have hE := Option.some.inj h
    subst hE
    refine QJ_end (res2 Try.results68 rfl rfl) ?_
    refine CSpec.close () ?_ ?_ Ent.refl
    · rfl
    · trivial
  ·
    replace h := ite_f hg1 h
    refine CJ_skip ?_
    refine QJ_then ?_
    refine CJ_seq ?_
    refine AJ_startH 16384 (by kernel_rfl) rfl ?_
    refine AJ_takeP 0 1 rfl (by kernel_rfl) rfl (GY_none rfl) (P_move rfl) rfl (fun _ _ _ _ h => h) ?_
    refine AJ_takeP 1 3 rfl (by kernel_rfl) rfl (GY_none rfl) (P_nilCheck rfl) rfl (fun _ _ _ _ h => h) ?_
    refine AJ_takeP 2 7 rfl (by kernel_rfl) rfl (GY_none rfl) (P_fieldAddr rfl ⟨_, _, _, Try.runUnderlying90, rfl, rfl, Try.sizeOf29, rfl⟩) rfl (fun _ _ _ _ h => h) ?_
    refine AJ_takeV 3 15 rfl (by kernel_rfl) rfl (by kernel_rfl) (by kernel_rfl) (GY_none rfl) Ent.refl (V_loadR rfl foc0 rfl Try.isAgg29) rfl (fun _ _ _ _ h => h) ?_
    refine AJ_takeP 4 31 rfl (by kernel_rfl) rfl (GY_none rfl) (P_move rfl) rfl (fun _ _ _ _ h => h) ?_
    refine AJ_takeP 5 63 rfl (by kernel_rfl) rfl (GY_none rfl) (P_nilCheck rfl) rfl (fun _ _ _ _ h => h) ?_
    refine AJ_takeP 6 127 rfl (by kernel_rfl) rfl (GY_none rfl) (P_fieldAddr rfl ⟨_, _, _, Try.runUnderlying90, rfl, rfl, Try.sizeOf3, rfl⟩) rfl (fun _ _ _ _ h => h) ?_
    refine AJ_takeV 7 255 rfl (by kernel_rfl) rfl (by kernel_rfl) (by kernel_rfl) (GY_none rfl) Ent.refl (V_loadR rfl foc0 rfl Try.isAgg3) rfl (fun _ _ _ _ h => h) ?_
    refine AJ_takeP 8 511 rfl (by kernel_rfl) rfl (GY_none rfl) (P_move rfl) rfl (fun _ _ _ _ h => h) ?_
    refine AJ_takeP 9 1023 rfl (by kernel_rfl) rfl (GY_none rfl) (P_nilCheck rfl) rfl (fun _ _ _ _ h => h) ?_
    refine AJ_takeP 10 2047 rfl (by kernel_rfl) rfl (GY_none rfl) (P_fieldAddr rfl ⟨_, _, _, Try.runUnderlying90, rfl, rfl, Try.sizeOf3, rfl⟩) rfl (fun _ _ _ _ h => h) ?_
    refine AJ_takeV 11 4095 rfl (by kernel_rfl) rfl (by kernel_rfl) (by kernel_rfl) (GY_none rfl) Ent.refl (V_loadR rfl foc0 rfl Try.isAgg3) rfl (fun _ _ _ _ h => h) ?_
    refine AJ_takeP 12 8191 rfl (by kernel_rfl) rfl (GY_none rfl) (P_move rfl) rfl (fun _ _ _ _ h => h) ?_
    obtain ⟨hg2, h⟩ := grd_Ie h
    refine AJ_takeP 13 16383 rfl (by kernel_rfl) rfl (GY_none rfl) (P_add (a := x_0_start) (b := at_1) rfl rfl hg2) rfl (fun _ _ _ _ h => h) ?_
    refine AJ_op 14 32767 rfl (by kernel_rfl) rfl (GY_none rfl) (O_call (c_Read) rfl Try.call58 (Dels.cons del1 Dels.nil) rfl (fun _ _ => ?_))
    refine ⟨fun h => absurd h (by decide), ?_⟩
    refine AJ_takeP 15 65535 rfl (by kernel_rfl) rfl (GY_none rfl) (P_extract rfl rfl) rfl (fun _ _ _ _ h => h) ?_
    refine AJ_takeP 16 131071 rfl (by kernel_rfl) rfl (GY_none rfl) (P_extract rfl rfl) rfl (fun _ _ _ _ h => h) ?_
    refine AJ_takeP 17 262143 rfl (by kernel_rfl) rfl (GY_none rfl) (P_assign rfl) rfl (fun _ _ _ _ h => h) ?_
    refine AJ_takeP 18 524287 rfl (by kernel_rfl) rfl (GY_none rfl) (P_assign rfl) rfl (fun _ _ _ _ h => h) ?_
    refine AJ_done (by kernel_rfl) ?_
    refine QJ_then ?_
    refine CJ_ret ?_
    have hE := Option.some.inj h
    subst hE
    refine QJ_end (res2 Try.results68 rfl rfl) ?_
    refine CSpec.close () ?_ ?_ (Ent.take del1 Ent.refl)
    · rfl
    · trivial

def dvc_span_Write (x_0_a : ArrS) (x_0_d : Int) (x_0_start : Int) (x_0_length : Int) (at_1 : Int) (v : UInt64) : Option (Int × ArrS) :=
  Option.bind (block_inside x_0_length at_1 (1 : Int)) fun r1 =>
  if (¬ r1 = true) then
    some (((1 : Int), x_0_a))
  else
    grd (inI64 (x_0_start + at_1)) <|
    grd (inLen x_0_a.writes) <|
    some (((wrR x_0_a x_0_d (x_0_start + at_1)), (wrS x_0_a x_0_d (x_0_start + at_1) v)))

theorem L_dvc_span_Write {W : World} {bx_0 : Nat} {bx_0_a : Nat} {x_0_a : ArrS} {x_0_d : Int} {x_0_start : Int} {x_0_length : Int} {at_1 : Int} {v : UInt64} {r : Int × ArrS} (h : dvc_span_Write x_0_a x_0_d x_0_start x_0_length at_1 v = some r) :
    CSpec Try.prog W 70 [ptr bx_0 0, .int .i64 at_1, .int .u64 (v.toNat : Int)] [blkR bx_0 90 [ptr bx_0_a 0, .int .i64 x_0_d, .int .i64 x_0_start, .int .i64 x_0_length], Arr bx_0_a x_0_a] (fun x : Unit => .int .i64 r.1) (fun _ => True) (fun x F => blkR bx_0 90 [ptr bx_0_a 0, .int .i64 x_0_d, .int .i64 x_0_start, .int .i64 x_0_length] :: Arr bx_0_a r.2 :: F) := by
  refine CSpec.of_body Try.func70 rfl Try.ntmps70 rfl (fun F => ?_)
  show CJ _ _ _ _ _ _ (_ :: _ :: F)
  unfold dvc_span_Write at h
  refine CJ_seq ?_
  refine CJ_region ?_
  refine RJ_op rfl (OJ_P (P_assign rfl) rfl ?_)
  refine RJ_nil ?_
  refine QJ_then ?_
  refine CJ_seq ?_
  refine CJ_seq ?_
  refine CJ_region ?_
  refine RJ_op rfl (OJ_P (P_move rfl) rfl ?_)
  refine RJ_op rfl (OJ_P (P_nilCheck rfl) rfl ?_)
  refine RJ_op rfl (OJ_P (P_fieldAddr rfl ⟨_, _, _, Try.runUnderlying90, rfl, rfl, Try.sizeOf3, rfl⟩) rfl ?_)
  refine RJ_op rfl (OJ_V (V_loadR rfl foc0 rfl Try.isAgg3) rfl ?_)
  refine RJ_op rfl (OJ_P (P_move rfl) rfl ?_)
  obtain ⟨r1, hr2, h⟩ := bind_e h
  refine RJ_op rfl (O_call (L_block_inside hr2) rfl Try.call37 Dels.nil rfl (fun _ _ => ?_))
  refine RJ_op rfl (OJ_P (P_not rfl) rfl ?_)
  refine RJ_nil ?_
  refine QJ_then ?_
  refine CJ_condP rfl (bT_not Iff.rfl) (fun hg1 => ?_) (fun hg1 => ?_)
  ·
    replace h := ite_t hg1 h
    refine CJ_seq ?_
    refine CJ_region ?_
    refine RJ_op rfl (OJ_P (P_assign rfl) rfl ?_)
    refine RJ_nil ?_
    refine QJ_then ?_
    refine CJ_ret ?_
    refine QJ_then_ret ?_
    have hE := Option.some.inj h
    subst hE
    refine QJ_end (res1 Try.results70 rfl) ?_
    refine CSpec.close () ?_ ?_ Ent.refl
    · rfl
    · trivial
  ·
    replace h := ite_f hg1 h
    refine CJ_skip ?_
    refine QJ_then ?_
    refine CJ_seq ?_
    refine AJ_startH 32768 (by kernel_rfl) rfl ?_
    refine AJ_takeP 0 1 rfl (by kernel_rfl) rfl (GY_none rfl) (P_move rfl) rfl (fun _ _ _ _ h => h) ?_
    refine AJ_takeP 1 3 rfl (by kernel_rfl) rfl (GY_none rfl) (P_nilCheck rfl) rfl (fun _ _ _ _ h => h) ?_
    refine AJ_takeP 2 7 rfl (by kernel_rfl) rfl (GY_none rfl) (P_fieldAddr rfl ⟨_, _, _, Try.runUnderlying90, rfl, rfl, Try.sizeOf29, rfl⟩) rfl (fun _ _ _ _ h => h) ?_
    refine AJ_takeV 3 15 rfl (by kernel_rfl) rfl (by kernel_rfl) (by kernel_rfl) (GY_none rfl) Ent.refl (V_loadR rfl foc0 rfl Try.isAgg29) rfl (fun _ _ _ _ h => h) ?_
    refine AJ_takeP 4 31 rfl (by kernel_rfl) rfl (GY_none rfl) (P_move rfl) rfl (fun _ _ _ _ h => h) ?_
    refine AJ_takeP 5 63 rfl (by kernel_rfl) rfl (GY_none rfl) (P_nilCheck rfl) rfl (fun _ _ _ _ h => h) ?_
    refine AJ_takeP 6 127 rfl (by kernel_rfl) rfl (GY_none rfl) (P_fieldAddr rfl ⟨_, _, _, Try.runUnderlying90, rfl, rfl, Try.sizeOf3, rfl⟩) rfl (fun _ _ _ _ h => h) ?_
    refine AJ_takeV 7 255 rfl (by kernel_rfl) rfl (by kernel_rfl) (by kernel_rfl) (GY_none rfl) Ent.refl (V_loadR rfl foc0 rfl Try.isAgg3) rfl (fun _ _ _ _ h => h) ?_
    refine AJ_takeP 8 511 rfl (by kernel_rfl) rfl (GY_none rfl) (P_move rfl) rfl (fun _ _ _ _ h => h) ?_
    refine AJ_takeP 9 1023 rfl (by kernel_rfl) rfl (GY_none rfl) (P_nilCheck rfl) rfl (fun _ _ _ _ h => h) ?_
    refine AJ_takeP 10 2047 rfl (by kernel_rfl) rfl (GY_none rfl) (P_fieldAddr rfl ⟨_, _, _, Try.runUnderlying90, rfl, rfl, Try.sizeOf3, rfl⟩) rfl (fun _ _ _ _ h => h) ?_
    refine AJ_takeV 11 4095 rfl (by kernel_rfl) rfl (by kernel_rfl) (by kernel_rfl) (GY_none rfl) Ent.refl (V_loadR rfl foc0 rfl Try.isAgg3) rfl (fun _ _ _ _ h => h) ?_
    refine AJ_takeP 12 8191 rfl (by kernel_rfl) rfl (GY_none rfl) (P_move rfl) rfl (fun _ _ _ _ h => h) ?_
    obtain ⟨hg2, h⟩ := grd_Ie h
    refine AJ_takeP 13 16383 rfl (by kernel_rfl) rfl (GY_none rfl) (P_add (a := x_0_start) (b := at_1) rfl rfl hg2) rfl (fun _ _ _ _ h => h) ?_
    refine AJ_takeP 14 32767 rfl (by kernel_rfl) rfl (GY_none rfl) (P_move rfl) rfl (fun _ _ _ _ h => h) ?_
    obtain ⟨hg3, h⟩ := grd_Le h
    refine AJ_op 15 65535 rfl (by kernel_rfl) rfl (GY_none rfl) (O_call (c_Write hg3 (v := v)) rfl Try.call59 (Dels.cons del1 Dels.nil) rfl (fun _ _ => ?_))
    refine ⟨fun h => absurd h (by decide), ?_⟩
    refine AJ_takeP 16 131071 rfl (by kernel_rfl) rfl (GY_none rfl) (P_assign rfl) rfl (fun _ _ _ _ h => h) ?_
    refine AJ_done (by kernel_rfl) ?_
    refine QJ_then ?_
    refine CJ_ret ?_
    have hE := Option.some.inj h
    subst hE
    refine QJ_end (res1 Try.results70 rfl) ?_
    refine CSpec.close () ?_ ?_ (Ent.take del1 Ent.refl)
    · rfl
    · trivial

def dvc_span_Flush (x_0_a : ArrS) (x_0_d : Int) (x_0_start : Int) (x_0_length : Int) : Option (Int × ArrS) :=
  grd (inLen x_0_a.writes) <|
  some (((flC x_0_a x_0_d), (flS x_0_a x_0_d)))

theorem L_dvc_span_Flush {W : World} {bx_0 : Nat} {bx_0_a : Nat} {x_0_a : ArrS} {x_0_d : Int} {x_0_start : Int} {x_0_length : Int} {r : Int × ArrS} (h : dvc_span_Flush x_0_a x_0_d x_0_start x_0_length = some r) :
    CSpec Try.prog W 67 [ptr bx_0 0] [blkR bx_0 90 [ptr bx_0_a 0, .int .i64 x_0_d, .int .i64 x_0_start, .int .i64 x_0_length], Arr bx_0_a x_0_a] (fun x : Unit => .int .i64 r.1) (fun _ => True) (fun x F => blkR bx_0 90 [ptr bx_0_a 0, .int .i64 x_0_d, .int .i64 x_0_start, .int .i64 x_0_length] :: Arr bx_0_a r.2 :: F) := by
  refine CSpec.of_body Try.func67 rfl Try.ntmps67 rfl (fun F => ?_)
  show CJ _ _ _ _ _ _ (_ :: _ :: F)
  unfold dvc_span_Flush at h
  refine CJ_seq ?_
  refine CJ_region ?_
  refine RJ_op rfl (OJ_P (P_assign rfl) rfl ?_)
  refine RJ_nil ?_
  refine QJ_then ?_
  refine CJ_seq ?_
  refine AJ_startH 256 (by kernel_rfl) rfl ?_
  refine AJ_takeP 0 1 rfl (by kernel_rfl) rfl (GY_none rfl) (P_move rfl) rfl (fun _ _ _ _ h => h) ?_
  refine AJ_takeP 1 3 rfl (by kernel_rfl) rfl (GY_none rfl) (P_nilCheck rfl) rfl (fun _ _ _ _ h => h) ?_
  refine AJ_takeP 2 7 rfl (by kernel_rfl) rfl (GY_none rfl) (P_fieldAddr rfl ⟨_, _, _, Try.runUnderlying90, rfl, rfl, Try.sizeOf29, rfl⟩) rfl (fun _ _ _ _ h => h) ?_
  refine AJ_takeV 3 15 rfl (by kernel_rfl) rfl (by kernel_rfl) (by kernel_rfl) (GY_none rfl) Ent.refl (V_loadR rfl foc0 rfl Try.isAgg29) rfl (fun _ _ _ _ h => h) ?_
  refine AJ_takeP 4 31 rfl (by kernel_rfl) rfl (GY_none rfl) (P_move rfl) rfl (fun _ _ _ _ h => h) ?_
  refine AJ_takeP 5 63 rfl (by kernel_rfl) rfl (GY_none rfl) (P_nilCheck rfl) rfl (fun _ _ _ _ h => h) ?_
  refine AJ_takeP 6 127 rfl (by kernel_rfl) rfl (GY_none rfl) (P_fieldAddr rfl ⟨_, _, _, Try.runUnderlying90, rfl, rfl, Try.sizeOf3, rfl⟩) rfl (fun _ _ _ _ h => h) ?_
  refine AJ_takeV 7 255 rfl (by kernel_rfl) rfl (by kernel_rfl) (by kernel_rfl) (GY_none rfl) Ent.refl (V_loadR rfl foc0 rfl Try.isAgg3) rfl (fun _ _ _ _ h => h) ?_
  obtain ⟨hg1, h⟩ := grd_Le h
  refine AJ_op 8 511 rfl (by kernel_rfl) rfl (GY_none rfl) (O_call (c_FlushD hg1) rfl Try.call57 (Dels.cons del1 Dels.nil) rfl (fun _ _ => ?_))
  refine ⟨fun h => absurd h (by decide), ?_⟩
  refine AJ_takeP 9 1023 rfl (by kernel_rfl) rfl (GY_none rfl) (P_assign rfl) rfl (fun _ _ _ _ h => h) ?_
  refine AJ_done (by kernel_rfl) ?_
  refine QJ_then ?_
  refine CJ_ret ?_
  have hE := Option.some.inj h
  subst hE
  refine QJ_end (res1 Try.results67 rfl) ?_
  refine CSpec.close () ?_ ?_ (Ent.take del1 Ent.refl)
  · rfl
  · trivial

def Dvc.span (x_d : Int) (x_start : Int) (x_length : Int) : Dvc := { dep := 1, size := fun s => dvc_span_Size s x_d x_start x_length, rd := fun s k => dvc_span_Read s x_d x_start x_length k, wr := fun s k v => dvc_span_Write s x_d x_start x_length k v, fl := fun s => dvc_span_Flush s x_d x_start x_length }
theorem ok_Dvc_span {a : Nat} {bx : Nat} {x_d : Int} {x_start : Int} {x_length : Int} : DevOk a (Dvc.span x_d x_start x_length) ⟨88, ptr bx 0⟩ (starX [blkR bx 90 [ptr a 0, .int .i64 x_d, .int .i64 x_start, .int .i64 x_length]]) where
  dup := Dup.starX (by intro A hA; simp only [List.mem_cons, List.not_mem_nil, or_false] at hA; subst hA; exact Dup.blkR)
  dep := by simp [Dvc.span]
  nil := fun n hn w => by
    obtain ⟨m, rfl⟩ : ∃ m, n = m + 1 := ⟨n - 1, by omega⟩
    kernel_rfl
  size := fun {W s r} e => IOk.conseq (G := []) (IOk.of (fun n w => by kernel_rfl) Try.call69 (L_dvc_span_Size e)) (fun F => Ent.starE (Ent.take del0 (Ent.take del0 Ent.refl))) (fun _ F => Ent.starI (Ent.take del0 (Ent.take del0 Ent.refl)))
  rd := fun {W s k r} e => IOk.conseq (G := []) (IOk.of (fun n w => by kernel_rfl) Try.call68 (L_dvc_span_Read e)) (fun F => Ent.starE (Ent.take del0 (Ent.take del0 Ent.refl))) (fun _ F => Ent.starI (Ent.take del0 (Ent.take del0 Ent.refl)))
  wr := fun {W s k v r} e => IOk.conseq (G := []) (IOk.of (fun n w => by kernel_rfl) Try.call70 (L_dvc_span_Write e)) (fun F => Ent.starE (Ent.take del0 (Ent.take del0 Ent.refl))) (fun _ F => Ent.starI (Ent.take del0 (Ent.take del0 Ent.refl)))
  fl := fun {W s r} e => IOk.conseq (G := []) (IOk.of (fun n w => by kernel_rfl) Try.call67 (L_dvc_span_Flush e)) (fun F => Ent.starE (Ent.take del0 (Ent.take del0 Ent.refl))) (fun _ F => Ent.starI (Ent.take del0 (Ent.take del0 Ent.refl)))

end Go.Proofs
