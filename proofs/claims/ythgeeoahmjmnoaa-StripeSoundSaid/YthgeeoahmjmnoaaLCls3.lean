/- YthgeeoahmjmnoaaLCls3: lifted functions of the program; printed by lift.py. -/
import Derived.Test.YthgeeoahmjmnoaaLTAll
set_option linter.unusedSimpArgs false
set_option linter.unusedVariables false
set_option maxRecDepth 20000
set_option maxHeartbeats 4000000
namespace Go.Proofs
open Go.VG

@[ext] structure stripe_layout where
  chunk : Int
  n : Int
  deriving DecidableEq
abbrev tystripe_layout : Ty stripe_layout := { T := 155, sz := 2, enc := fun x => [.int .i64 x.chunk, .int .i64 x.n], dflt := ⟨0, 0⟩, len := fun _ => rfl, one := fun _ => rfl, pos := by decide }
theorem ok_tystripe_layout : ElemOk Try.prog tystripe_layout 16 := ⟨Try.t155, .agg #[.int .i64 0, .int .i64 0], by kernel_rfl, rfl, rfl, rfl, rfl⟩

def dvc_stripe_Size (x_0_layout_chunk : Int) (x_0_layout_n : Int) (x_0_legs : List Dvc) (x_0_size : Int) (s : ArrS) : Option (Int) :=
  some x_0_size

theorem L_dvc_stripe_Size {W : World} {bx_0 : Nat} {hdx_0_legs : Sl3} {hsx_0_legs : List IfH} {bs : Nat} {x_0_layout_chunk : Int} {x_0_layout_n : Int} {x_0_legs : List Dvc} {x_0_size : Int} {s : ArrS} {r : Int} (h : dvc_stripe_Size x_0_layout_chunk x_0_layout_n x_0_legs x_0_size s = some r) :
    CSpec Try.prog W 154 [ptr bx_0 0] [blkR bx_0 157 [.int .i64 x_0_layout_chunk, .int .i64 x_0_layout_n, (Sl3.v hdx_0_legs), .int .i64 x_0_size], slR tyDev (Sl3.v hdx_0_legs) hsx_0_legs, Rs (DevP bs) x_0_legs hsx_0_legs, Arr bs s] (fun x : Unit => .int .i64 r) (fun _ => True) (fun x F => blkR bx_0 157 [.int .i64 x_0_layout_chunk, .int .i64 x_0_layout_n, (Sl3.v hdx_0_legs), .int .i64 x_0_size] :: slR tyDev (Sl3.v hdx_0_legs) hsx_0_legs :: Rs (DevP bs) x_0_legs hsx_0_legs :: Arr bs s :: F) := by
  refine CSpec.of_body Try.func154 rfl Try.ntmps154 rfl (fun F => ?_)
  show CJ _ _ _ _ _ _ (_ :: _ :: _ :: _ :: F)
  unfold dvc_stripe_Size at h
  refine CJ_pure (fun h hh => Rs_len (stars_perm (del2 (A := Rs (DevP bs) x_0_legs hsx_0_legs)).out h hh)) (fun hdl1 => ?_)
  refine CJ_seq ?_
  refine CJ_region ?_
  refine RJ_op rfl (OJ_P (P_assign rfl) rfl ?_)
  refine RJ_nil ?_
  refine QJ_then ?_
  refine CJ_seq ?_
  refine CJ_region ?_
  refine RJ_op rfl (OJ_P (P_move rfl) rfl ?_)
  refine RJ_op rfl (OJ_P (P_nilCheck rfl) rfl ?_)
  refine RJ_op rfl (OJ_P (P_fieldAddr rfl ⟨_, _, _, Try.runUnderlying157, rfl, rfl, Try.sizeOf3, rfl⟩) rfl ?_)
  refine RJ_op rfl (OJ_V (V_loadR rfl foc0 rfl Try.isAgg3) rfl ?_)
  refine RJ_op rfl (OJ_P (P_assign rfl) rfl ?_)
  refine RJ_nil ?_
  refine QJ_then ?_
  refine CJ_ret ?_
  have hE := Option.some.inj h
  subst hE
  refine QJ_end (res1 Try.results154 rfl) ?_
  refine CSpec.close () ?_ ?_ Ent.refl
  · rfl
  · trivial

def stripe_layout_place (x_0 : stripe_layout) (at_1 : Int) : Option (Int × Int) :=
  grd (decide (¬ x_0.chunk = 0)) <|
  grd (decide (¬ x_0.n = 0)) <|
  grd (decide (¬ x_0.n = 0)) <|
  grd (inI64 (((IntKind.i64.wrap (((IntKind.i64.wrap (at_1.tdiv x_0.chunk))).tdiv x_0.n)) * x_0.chunk))) <|
  lt (((IntKind.i64.wrap (((IntKind.i64.wrap (at_1.tdiv x_0.chunk))).tdiv x_0.n)) * x_0.chunk)) fun w2 =>
  grd (decide (¬ x_0.chunk = 0)) <|
  grd (inI64 ((w2 + (at_1.tmod x_0.chunk)))) <|
  some (((((IntKind.i64.wrap (at_1.tdiv x_0.chunk))).tmod x_0.n), (w2 + (at_1.tmod x_0.chunk))))

theorem L_stripe_layout_place {W : World} {x_0 : stripe_layout} {at_1 : Int} {r : Int × Int} (h : stripe_layout_place x_0 at_1 = some r) :
    CSpec Try.prog W 99 [.agg #[.int .i64 x_0.chunk, .int .i64 x_0.n], .int .i64 at_1] [] (fun x : Unit => .tuple #[.int .i64 r.1, .int .i64 r.2]) (fun _ => True) (fun x F => F) := by
  refine CSpec.of_body Try.func99 rfl Try.ntmps99 rfl (fun F => ?_)
  show CJ _ _ _ _ _ _ (F)
  unfold stripe_layout_place at h
  refine CJ_seq ?_
  refine CJ_region ?_
  refine RJ_op rfl (O_box rfl rfl rfl (fun b1 => ?_))
  refine RJ_op rfl (OJ_P (P_assign rfl) rfl ?_)
  refine RJ_op rfl (OJ_P (P_assign rfl) rfl ?_)
  refine RJ_nil ?_
  refine QJ_then ?_
  refine CJ_seq ?_
  refine CJ_region ?_
  refine RJ_op rfl (OJ_P (P_move rfl) rfl ?_)
  refine RJ_op rfl (OJ_P (P_fieldAddr rfl ⟨_, _, _, Try.runUnderlying155, rfl, rfl, Try.sizeOf3, rfl⟩) rfl ?_)
  refine RJ_op rfl (OJ_V (V_load rfl foc0 rfl Try.isAgg3) rfl ?_)
  obtain ⟨hg1, h⟩ := grd_de h
  refine RJ_op rfl (OJ_P (P_quoT (a := at_1) (b := x_0.chunk) rfl rfl hg1) rfl ?_)
  refine RJ_op rfl (OJ_P (P_assign rfl) rfl ?_)
  refine RJ_nil ?_
  refine QJ_then ?_
  refine CJ_seq ?_
  refine AJ_startH 0 (by kernel_rfl) rfl ?_
  refine AJ_takeP 0 1 rfl (by kernel_rfl) rfl (GY_none rfl) (P_move rfl) rfl (fun _ _ _ _ h => h) ?_
  refine AJ_takeP 1 3 rfl (by kernel_rfl) rfl (GY_none rfl) (P_fieldAddr rfl ⟨_, _, _, Try.runUnderlying155, rfl, rfl, Try.sizeOf3, rfl⟩) rfl (fun _ _ _ _ h => h) ?_
  refine AJ_takeV 2 7 rfl (by kernel_rfl) rfl (by kernel_rfl) (by kernel_rfl) (GY_none rfl) Ent.refl (V_load rfl foc0 rfl Try.isAgg3) rfl (fun _ _ _ _ h => h) ?_
  obtain ⟨hg2, h⟩ := grd_de h
  refine AJ_takeP 3 15 rfl (by kernel_rfl) rfl (GY_none rfl) (P_remT (a := (IntKind.i64.wrap (at_1.tdiv x_0.chunk))) (b := x_0.n) rfl rfl hg2) rfl (fun _ _ _ _ h => h) ?_
  refine AJ_takeP 4 31 rfl (by kernel_rfl) rfl (GY_none rfl) (P_move rfl) rfl (fun _ _ _ _ h => h) ?_
  refine AJ_takeP 5 63 rfl (by kernel_rfl) rfl (GY_none rfl) (P_fieldAddr rfl ⟨_, _, _, Try.runUnderlying155, rfl, rfl, Try.sizeOf3, rfl⟩) rfl (fun _ _ _ _ h => h) ?_
  refine AJ_takeV 6 127 rfl (by kernel_rfl) rfl (by kernel_rfl) (by kernel_rfl) (GY_none rfl) Ent.refl (V_load rfl foc0 rfl Try.isAgg3) rfl (fun _ _ _ _ h => h) ?_
  obtain ⟨hg3, h⟩ := grd_de h
  refine AJ_takeP 7 255 rfl (by kernel_rfl) rfl (GY_none rfl) (P_quoT (a := (IntKind.i64.wrap (at_1.tdiv x_0.chunk))) (b := x_0.n) rfl rfl hg3) rfl (fun _ _ _ _ h => h) ?_
  refine AJ_takeP 8 511 rfl (by kernel_rfl) rfl (GY_none rfl) (P_fieldAddr rfl ⟨_, _, _, Try.runUnderlying155, rfl, rfl, Try.sizeOf3, rfl⟩) rfl (fun _ _ _ _ h => h) ?_
  refine AJ_takeV 9 1023 rfl (by kernel_rfl) rfl (by kernel_rfl) (by kernel_rfl) (GY_none rfl) Ent.refl (V_load rfl foc0 rfl Try.isAgg3) rfl (fun _ _ _ _ h => h) ?_
  obtain ⟨hg4, h⟩ := grd_Ie h
  refine AJ_takeP 10 2047 rfl (by kernel_rfl) rfl (GY_none rfl) (P_mul (a := (IntKind.i64.wrap (((IntKind.i64.wrap (at_1.tdiv x_0.chunk))).tdiv x_0.n))) (b := x_0.chunk) rfl rfl hg4) rfl (fun _ _ _ _ h => h) ?_
  obtain ⟨w2, hw2, h⟩ := lt_e h
  rw [← hw2]
  refine AJ_takeP 11 4095 rfl (by kernel_rfl) rfl (GY_none rfl) (P_move rfl) rfl (fun _ _ _ _ h => h) ?_
  refine AJ_takeP 12 8191 rfl (by kernel_rfl) rfl (GY_none rfl) (P_fieldAddr rfl ⟨_, _, _, Try.runUnderlying155, rfl, rfl, Try.sizeOf3, rfl⟩) rfl (fun _ _ _ _ h => h) ?_
  refine AJ_takeV 13 16383 rfl (by kernel_rfl) rfl (by kernel_rfl) (by kernel_rfl) (GY_none rfl) Ent.refl (V_load rfl foc0 rfl Try.isAgg3) rfl (fun _ _ _ _ h => h) ?_
  obtain ⟨hg5, h⟩ := grd_de h
  refine AJ_takeP 14 32767 rfl (by kernel_rfl) rfl (GY_none rfl) (P_remT (a := at_1) (b := x_0.chunk) rfl rfl hg5) rfl (fun _ _ _ _ h => h) ?_
  obtain ⟨hg6, h⟩ := grd_Ie h
  refine AJ_takeP 15 65535 rfl (by kernel_rfl) rfl (GY_none rfl) (P_add (a := w2) (b := (at_1.tmod x_0.chunk)) rfl rfl hg6) rfl (fun _ _ _ _ h => h) ?_
  refine AJ_takeP 16 131071 rfl (by kernel_rfl) rfl (GY_none rfl) (P_assign rfl) rfl (fun _ _ _ _ h => h) ?_
  refine AJ_takeP 17 262143 rfl (by kernel_rfl) rfl (GY_none rfl) (P_assign rfl) rfl (fun _ _ _ _ h => h) ?_
  refine AJ_done (by kernel_rfl) ?_
  refine QJ_then ?_
  refine CJ_ret ?_
  have hE := Option.some.inj h
  subst hE
  refine QJ_end (res2 Try.results99 rfl rfl) ?_
  refine CSpec.close () ?_ ?_ (Ent.drop Ent.refl)
  · rfl
  · trivial

def dvc_stripe_Read (x_0_layout_chunk : Int) (x_0_layout_n : Int) (x_0_legs : List Dvc) (x_0_size : Int) (at_1 : Int) (s : ArrS) : Option (UInt64 × Int) :=
  if ((at_1 < (0 : Int)) ∨ (x_0_size ≤ at_1)) then
    some (((0 : UInt64), (1 : Int)))
  else
    Option.bind (stripe_layout_place (⟨x_0_layout_chunk, x_0_layout_n⟩ : stripe_layout) at_1) fun r14 =>
    grd (decide (0 ≤ r14.1 ∧ r14.1 < (x_0_legs.length : Int))) <|
    Option.bind (Dvc.rd ((x_0_legs.getD ((r14.1).toNat) dv0)) s r14.2) fun r18 =>
    some (r18.1, r18.2)

theorem L_dvc_stripe_Read {W : World} {bx_0 : Nat} {hdx_0_legs : Sl3} {hsx_0_legs : List IfH} {bs : Nat} {x_0_layout_chunk : Int} {x_0_layout_n : Int} {x_0_legs : List Dvc} {x_0_size : Int} {at_1 : Int} {s : ArrS} {r : UInt64 × Int} (h : dvc_stripe_Read x_0_layout_chunk x_0_layout_n x_0_legs x_0_size at_1 s = some r) :
    CSpec Try.prog W 153 [ptr bx_0 0, .int .i64 at_1] [blkR bx_0 157 [.int .i64 x_0_layout_chunk, .int .i64 x_0_layout_n, (Sl3.v hdx_0_legs), .int .i64 x_0_size], slR tyDev (Sl3.v hdx_0_legs) hsx_0_legs, Rs (DevP bs) x_0_legs hsx_0_legs, Arr bs s] (fun x : Unit => .tuple #[.int .u64 (r.1.toNat : Int), .int .i64 r.2]) (fun _ => True) (fun x F => blkR bx_0 157 [.int .i64 x_0_layout_chunk, .int .i64 x_0_layout_n, (Sl3.v hdx_0_legs), .int .i64 x_0_size] :: slR tyDev (Sl3.v hdx_0_legs) hsx_0_legs :: Rs (DevP bs) x_0_legs hsx_0_legs :: Arr bs s :: F) := by
  refine CSpec.of_body Try.func153 rfl Try.ntmps153 rfl (fun F => ?_)
  show CJ _ _ _ _ _ _ (_ :: _ :: _ :: _ :: F)
  unfold dvc_stripe_Read at h
  refine CJ_pure (fun h hh => Rs_len (stars_perm (del2 (A := Rs (DevP bs) x_0_legs hsx_0_legs)).out h hh)) (fun hdl1 => ?_)
  refine CJ_seq ?_
  refine CJ_region ?_
  refine RJ_op rfl (OJ_P (P_assign rfl) rfl ?_)
  refine RJ_op rfl (OJ_P (P_assign rfl) rfl ?_)
  refine RJ_nil ?_
  refine QJ_then ?_
  refine CJ_seq ?_
  refine CJ_seq ?_
  refine CJ_region ?_
  refine RJ_op rfl (OJ_P (P_move rfl) rfl ?_)
  refine RJ_op rfl (OJ_P (P_lss (a := at_1) (b := (0 : Int)) rfl rfl) rfl ?_)
  refine RJ_op rfl (OJ_P (P_move rfl) rfl ?_)
  refine RJ_mbF rfl rfl rfl (fun hG2 => have hP3 : ¬ (at_1 < (0 : Int)) := nP (bT_dec) hG2; VJ_P (P_move rfl)) ?_
  refine RJ_mbF rfl rfl rfl (fun hG4 => have hP5 : ¬ (at_1 < (0 : Int)) := nP (bT_dec) hG4; VJ_P (P_move rfl)) ?_
  refine RJ_mbF rfl rfl rfl (fun hG6 => have hP7 : ¬ (at_1 < (0 : Int)) := nP (bT_dec) hG6; VJ_P (P_nilCheck (mbx hG6 rfl))) ?_
  refine RJ_mbF rfl rfl rfl (fun hG8 => have hP9 : ¬ (at_1 < (0 : Int)) := nP (bT_dec) hG8; VJ_P (P_fieldAddr (mbx hG8 rfl) ⟨_, _, _, Try.runUnderlying157, rfl, rfl, Try.sizeOf3, rfl⟩)) ?_
  refine RJ_mbF rfl rfl rfl (fun hG10 => have hP11 : ¬ (at_1 < (0 : Int)) := nP (bT_dec) hG10; V_loadR (mbx hG10 rfl) foc0 rfl Try.isAgg3) ?_
  refine RJ_mbF rfl rfl rfl (fun hG12 => have hP13 : ¬ (at_1 < (0 : Int)) := nP (bT_dec) hG12; VJ_P (P_geq (a := at_1) (b := x_0_size) (mbx hG12 rfl) (mbx hG12 rfl))) ?_
  refine RJ_op rfl (OJ_P (P_pickOr rfl rfl (fun hh => mbx (not_f hh) rfl)) rfl ?_)
  refine RJ_nil ?_
  refine QJ_then ?_
  refine CJ_condP rfl (bT_or bT_dec bT_dec) (fun hg1 => ?_) (fun hg1 => ?_)
  ·
    replace h := ite_t hg1 h
    refine CJ_seq ?_
    refine CJ_region ?_
    refine RJ_op rfl (OJ_P (P_assign rfl) rfl ?_)
    refine RJ_op rfl (OJ_P (P_assign rfl) rfl ?_)
    refine RJ_nil ?_
    refine QJ_then ?_
    refine CJ_ret ?_
    refine QJ_then_ret ?_
    have hE := Option.some.inj h
    subst hE
    refine QJ_end (res2 Try.results153 rfl rfl) ?_
    refine CSpec.close () ?_ ?_ Ent.refl
    · rfl
    · trivial
  ·
    replace h := ite_f hg1 h
    refine CJ_skip ?_
    refine QJ_then ?_
    refine CJ_seq ?_
    refine CJ_region ?_
    refine RJ_op rfl (OJ_P (P_move rfl) rfl ?_)
    refine RJ_op rfl (OJ_P (P_nilCheck rfl) rfl ?_)
    refine RJ_op rfl (OJ_P (P_fieldAddr rfl ⟨_, _, _, Try.runUnderlying157, rfl, rfl, Try.sizeOf155, rfl⟩) rfl ?_)
    refine RJ_op rfl (OJ_V (V_loadNR rfl foc0 Try.isAgg155 Try.sizeOf155 rfl rfl) rfl ?_)
    refine RJ_op rfl (OJ_P (P_move rfl) rfl ?_)
    obtain ⟨r14, hr15, h⟩ := bind_e h
    refine RJ_op rfl (O_call (L_stripe_layout_place hr15) rfl Try.call99 Dels.nil rfl (fun _ _ => ?_))
    refine RJ_op rfl (OJ_P (P_move rfl) rfl ?_)
    refine RJ_op rfl (OJ_P (P_extract rfl rfl) rfl ?_)
    refine RJ_op rfl (OJ_P (P_extract rfl rfl) rfl ?_)
    refine RJ_op rfl (OJ_P (P_assign rfl) rfl ?_)
    refine RJ_op rfl (OJ_P (P_assign rfl) rfl ?_)
    refine RJ_nil ?_
    refine QJ_then ?_
    refine CJ_seq ?_
    refine CJ_region ?_
    refine RJ_op rfl (OJ_P (P_move rfl) rfl ?_)
    refine RJ_op rfl (OJ_P (P_nilCheck rfl) rfl ?_)
    refine RJ_op rfl (OJ_P (P_fieldAddr rfl ⟨_, _, _, Try.runUnderlying157, rfl, rfl, Try.sizeOf28, rfl⟩) rfl ?_)
    refine RJ_op rfl (OJ_V (V_loadR rfl foc0 rfl Try.isAgg28) rfl ?_)
    refine RJ_op rfl (OJ_P (P_move rfl) rfl ?_)
    obtain ⟨hg2, h⟩ := grd_de h
    refine RJ_op rfl (OJ_V (V_index (i := (r14.1).toNat) rfl rfl (Int.toNat_of_nonneg (hg2.1)).symm (by have hz : (r14.1).toNat < x_0_legs.length := (by omega); have hy := hdl1; omega) foc1 (Reads.slR _ _ _) Try.runUnderlying28 Try.sizeOf31) rfl ?_)
    refine RJ_ent (Ent.trans (Ent.take del2 Ent.refl) (Rs_at (fun _ _ => Dup_DevP) (dx := dv0) (dh := tyDev.dflt) (i := (r14.1).toNat) (by omega))) ?_
    refine RJ_op rfl (OJ_V (V_loadE rfl rfl (by have hz : (r14.1).toNat < x_0_legs.length := (by omega); have hy := hdl1; omega) foc3 (Reads.slR _ _ _) rfl rfl Try.isAgg31) rfl ?_)
    refine RJ_op rfl (OJ_P (P_move rfl) rfl ?_)
    refine RJ_pure (fun h hh => DevP_dep h (stars_perm (del0 (A := DevP bs ((x_0_legs.getD ((r14.1).toNat) dv0)) ((hsx_0_legs.getD ((r14.1).toNat) tyDev.dflt)))).out h hh)) (fun hdp17 => ?_)
    obtain ⟨r18, hr19, h⟩ := bind_e h
    refine RJ_op rfl (O_callI rfl (dev_Read hr19 hdp17) rfl (Dels.cons del0 (Dels.cons del3 Dels.nil)) rfl (fun _ _ => ?_))
    refine RJ_op rfl (OJ_P (P_extract rfl rfl) rfl ?_)
    refine RJ_op rfl (OJ_P (P_extract rfl rfl) rfl ?_)
    refine RJ_op rfl (OJ_P (P_assign rfl) rfl ?_)
    refine RJ_op rfl (OJ_P (P_assign rfl) rfl ?_)
    refine RJ_nil ?_
    refine QJ_then ?_
    refine CJ_ret ?_
    have hE := Option.some.inj h
    subst hE
    refine QJ_end (res2 Try.results153 rfl rfl) ?_
    refine CSpec.close () ?_ ?_ (Ent.take del3 (Ent.take del3 (Ent.take del2 (Ent.take del1 (Ent.drop Ent.refl)))))
    · rfl
    · trivial

def dvc_stripe_Write (x_0_layout_chunk : Int) (x_0_layout_n : Int) (x_0_legs : List Dvc) (x_0_size : Int) (at_1 : Int) (v : UInt64) (s : ArrS) : Option (Int × ArrS) :=
  if ((at_1 < (0 : Int)) ∨ (x_0_size ≤ at_1)) then
    some (((1 : Int), s))
  else
    Option.bind (stripe_layout_place (⟨x_0_layout_chunk, x_0_layout_n⟩ : stripe_layout) at_1) fun r14 =>
    grd (decide (0 ≤ r14.1 ∧ r14.1 < (x_0_legs.length : Int))) <|
    Option.bind (Dvc.wr ((x_0_legs.getD ((r14.1).toNat) dv0)) s r14.2 v) fun r18 =>
    some (r18.1, r18.2)

theorem L_dvc_stripe_Write {W : World} {bx_0 : Nat} {hdx_0_legs : Sl3} {hsx_0_legs : List IfH} {bs : Nat} {x_0_layout_chunk : Int} {x_0_layout_n : Int} {x_0_legs : List Dvc} {x_0_size : Int} {at_1 : Int} {v : UInt64} {s : ArrS} {r : Int × ArrS} (h : dvc_stripe_Write x_0_layout_chunk x_0_layout_n x_0_legs x_0_size at_1 v s = some r) :
    CSpec Try.prog W 155 [ptr bx_0 0, .int .i64 at_1, .int .u64 (v.toNat : Int)] [blkR bx_0 157 [.int .i64 x_0_layout_chunk, .int .i64 x_0_layout_n, (Sl3.v hdx_0_legs), .int .i64 x_0_size], slR tyDev (Sl3.v hdx_0_legs) hsx_0_legs, Rs (DevP bs) x_0_legs hsx_0_legs, Arr bs s] (fun x : Unit => .int .i64 r.1) (fun _ => True) (fun x F => blkR bx_0 157 [.int .i64 x_0_layout_chunk, .int .i64 x_0_layout_n, (Sl3.v hdx_0_legs), .int .i64 x_0_size] :: slR tyDev (Sl3.v hdx_0_legs) hsx_0_legs :: Rs (DevP bs) x_0_legs hsx_0_legs :: Arr bs r.2 :: F) := by
  refine CSpec.of_body Try.func155 rfl Try.ntmps155 rfl (fun F => ?_)
  show CJ _ _ _ _ _ _ (_ :: _ :: _ :: _ :: F)
  unfold dvc_stripe_Write at h
  refine CJ_pure (fun h hh => Rs_len (stars_perm (del2 (A := Rs (DevP bs) x_0_legs hsx_0_legs)).out h hh)) (fun hdl1 => ?_)
  refine CJ_seq ?_
  refine CJ_region ?_
  refine RJ_op rfl (OJ_P (P_assign rfl) rfl ?_)
  refine RJ_nil ?_
  refine QJ_then ?_
  refine CJ_seq ?_
  refine CJ_seq ?_
  refine CJ_region ?_
  refine RJ_op rfl (OJ_P (P_move rfl) rfl ?_)
  refine RJ_op rfl (OJ_P (P_lss (a := at_1) (b := (0 : Int)) rfl rfl) rfl ?_)
  refine RJ_op rfl (OJ_P (P_move rfl) rfl ?_)
  refine RJ_mbF rfl rfl rfl (fun hG2 => have hP3 : ¬ (at_1 < (0 : Int)) := nP (bT_dec) hG2; VJ_P (P_move rfl)) ?_
  refine RJ_mbF rfl rfl rfl (fun hG4 => have hP5 : ¬ (at_1 < (0 : Int)) := nP (bT_dec) hG4; VJ_P (P_move rfl)) ?_
  refine RJ_mbF rfl rfl rfl (fun hG6 => have hP7 : ¬ (at_1 < (0 : Int)) := nP (bT_dec) hG6; VJ_P (P_nilCheck (mbx hG6 rfl))) ?_
  refine RJ_mbF rfl rfl rfl (fun hG8 => have hP9 : ¬ (at_1 < (0 : Int)) := nP (bT_dec) hG8; VJ_P (P_fieldAddr (mbx hG8 rfl) ⟨_, _, _, Try.runUnderlying157, rfl, rfl, Try.sizeOf3, rfl⟩)) ?_
  refine RJ_mbF rfl rfl rfl (fun hG10 => have hP11 : ¬ (at_1 < (0 : Int)) := nP (bT_dec) hG10; V_loadR (mbx hG10 rfl) foc0 rfl Try.isAgg3) ?_
  refine RJ_mbF rfl rfl rfl (fun hG12 => have hP13 : ¬ (at_1 < (0 : Int)) := nP (bT_dec) hG12; VJ_P (P_geq (a := at_1) (b := x_0_size) (mbx hG12 rfl) (mbx hG12 rfl))) ?_
  refine RJ_op rfl (OJ_P (P_pickOr rfl rfl (fun hh => mbx (not_f hh) rfl)) rfl ?_)
  refine RJ_nil ?_
  refine QJ_then ?_
  refine CJ_condP rfl (bT_or bT_dec bT_dec) (fun hg1 => ?_) (fun hg1 => ?_)
  ·
    replace h := ite_t hg1 h
    refine CJ_seq ?_
    refine CJ_region ?_
    refine RJ_op rfl (OJ_P (P_assign rfl) rfl ?_)
    refine RJ_nil ?_
    refine QJ_then ?_
    refine CJ_ret ?_
    refine QJ_then_ret ?_
    have hE := Option.some.inj h
    subst hE
    refine QJ_end (res1 Try.results155 rfl) ?_
    refine CSpec.close () ?_ ?_ Ent.refl
    · rfl
    · trivial
  ·
    replace h := ite_f hg1 h
    refine CJ_skip ?_
    refine QJ_then ?_
    refine CJ_seq ?_
    refine CJ_region ?_
    refine RJ_op rfl (OJ_P (P_move rfl) rfl ?_)
    refine RJ_op rfl (OJ_P (P_nilCheck rfl) rfl ?_)
    refine RJ_op rfl (OJ_P (P_fieldAddr rfl ⟨_, _, _, Try.runUnderlying157, rfl, rfl, Try.sizeOf155, rfl⟩) rfl ?_)
    refine RJ_op rfl (OJ_V (V_loadNR rfl foc0 Try.isAgg155 Try.sizeOf155 rfl rfl) rfl ?_)
    refine RJ_op rfl (OJ_P (P_move rfl) rfl ?_)
    obtain ⟨r14, hr15, h⟩ := bind_e h
    refine RJ_op rfl (O_call (L_stripe_layout_place hr15) rfl Try.call99 Dels.nil rfl (fun _ _ => ?_))
    refine RJ_op rfl (OJ_P (P_move rfl) rfl ?_)
    refine RJ_op rfl (OJ_P (P_extract rfl rfl) rfl ?_)
    refine RJ_op rfl (OJ_P (P_extract rfl rfl) rfl ?_)
    refine RJ_op rfl (OJ_P (P_assign rfl) rfl ?_)
    refine RJ_op rfl (OJ_P (P_assign rfl) rfl ?_)
    refine RJ_nil ?_
    refine QJ_then ?_
    refine CJ_seq ?_
    refine CJ_region ?_
    refine RJ_op rfl (OJ_P (P_move rfl) rfl ?_)
    refine RJ_op rfl (OJ_P (P_nilCheck rfl) rfl ?_)
    refine RJ_op rfl (OJ_P (P_fieldAddr rfl ⟨_, _, _, Try.runUnderlying157, rfl, rfl, Try.sizeOf28, rfl⟩) rfl ?_)
    refine RJ_op rfl (OJ_V (V_loadR rfl foc0 rfl Try.isAgg28) rfl ?_)
    refine RJ_op rfl (OJ_P (P_move rfl) rfl ?_)
    obtain ⟨hg2, h⟩ := grd_de h
    refine RJ_op rfl (OJ_V (V_index (i := (r14.1).toNat) rfl rfl (Int.toNat_of_nonneg (hg2.1)).symm (by have hz : (r14.1).toNat < x_0_legs.length := (by omega); have hy := hdl1; omega) foc1 (Reads.slR _ _ _) Try.runUnderlying28 Try.sizeOf31) rfl ?_)
    refine RJ_ent (Ent.trans (Ent.take del2 Ent.refl) (Rs_at (fun _ _ => Dup_DevP) (dx := dv0) (dh := tyDev.dflt) (i := (r14.1).toNat) (by omega))) ?_
    refine RJ_op rfl (OJ_V (V_loadE rfl rfl (by have hz : (r14.1).toNat < x_0_legs.length := (by omega); have hy := hdl1; omega) foc3 (Reads.slR _ _ _) rfl rfl Try.isAgg31) rfl ?_)
    refine RJ_op rfl (OJ_P (P_move rfl) rfl ?_)
    refine RJ_op rfl (OJ_P (P_move rfl) rfl ?_)
    refine RJ_pure (fun h hh => DevP_dep h (stars_perm (del0 (A := DevP bs ((x_0_legs.getD ((r14.1).toNat) dv0)) ((hsx_0_legs.getD ((r14.1).toNat) tyDev.dflt)))).out h hh)) (fun hdp17 => ?_)
    obtain ⟨r18, hr19, h⟩ := bind_e h
    refine RJ_op rfl (O_callI rfl (dev_Write hr19 hdp17) rfl (Dels.cons del0 (Dels.cons del3 Dels.nil)) rfl (fun _ _ => ?_))
    refine RJ_op rfl (OJ_P (P_assign rfl) rfl ?_)
    refine RJ_nil ?_
    refine QJ_then ?_
    refine CJ_ret ?_
    have hE := Option.some.inj h
    subst hE
    refine QJ_end (res1 Try.results155 rfl) ?_
    refine CSpec.close () ?_ ?_ (Ent.take del3 (Ent.take del3 (Ent.take del2 (Ent.take del1 (Ent.drop Ent.refl)))))
    · rfl
    · trivial

def dvc_stripe_Flush_l1_b (x_0_legs : List Dvc) (rec : ArrS → Nat → Int → Option (Int × ArrS)) (x8 : ArrS) (x9 : Nat) (x10 : Int) : Option (Int × ArrS) :=
  if (((x9 : Nat) : Int) < ((x_0_legs.length : Nat) : Int)) then
    Option.bind (Dvc.fl (x_0_legs.getD x9 dv0) x8) fun r13 =>
    if (x10 = (0 : Int)) then
      grd (inN64 (x9 + 1)) <|
      rec r13.2 (x9 + 1) r13.1
    else
      grd (inN64 (x9 + 1)) <|
      rec r13.2 (x9 + 1) x10
  else
    some (x10, x8)

def dvc_stripe_Flush_l1 (x_0_legs : List Dvc) : Nat → ArrS → Nat → Int → Option (Int × ArrS)
  | 0, _, _, _ => none
  | n + 1, x8, x9, x10 => dvc_stripe_Flush_l1_b x_0_legs (dvc_stripe_Flush_l1 x_0_legs n) x8 x9 x10

def dvc_stripe_Flush (x_0_layout_chunk : Int) (x_0_layout_n : Int) (x_0_legs : List Dvc) (x_0_size : Int) (s : ArrS) : Option (Int × ArrS) :=
  Option.bind (dvc_stripe_Flush_l1 x_0_legs FUEL s 0 (0 : Int)) fun a7 =>
  some (a7.1, a7.2)

theorem L_dvc_stripe_Flush {W : World} {bx_0 : Nat} {hdx_0_legs : Sl3} {hsx_0_legs : List IfH} {bs : Nat} {x_0_layout_chunk : Int} {x_0_layout_n : Int} {x_0_legs : List Dvc} {x_0_size : Int} {s : ArrS} {r : Int × ArrS} (h : dvc_stripe_Flush x_0_layout_chunk x_0_layout_n x_0_legs x_0_size s = some r) :
    CSpec Try.prog W 152 [ptr bx_0 0] [blkR bx_0 157 [.int .i64 x_0_layout_chunk, .int .i64 x_0_layout_n, (Sl3.v hdx_0_legs), .int .i64 x_0_size], slR tyDev (Sl3.v hdx_0_legs) hsx_0_legs, Rs (DevP bs) x_0_legs hsx_0_legs, Arr bs s] (fun x : Unit => .int .i64 r.1) (fun _ => True) (fun x F => blkR bx_0 157 [.int .i64 x_0_layout_chunk, .int .i64 x_0_layout_n, (Sl3.v hdx_0_legs), .int .i64 x_0_size] :: slR tyDev (Sl3.v hdx_0_legs) hsx_0_legs :: Rs (DevP bs) x_0_legs hsx_0_legs :: Arr bs r.2 :: F) := by
  refine CSpec.of_body Try.func152 rfl Try.ntmps152 rfl (fun F => ?_)
  show CJ _ _ _ _ _ _ (_ :: _ :: _ :: _ :: F)
  unfold dvc_stripe_Flush at h
  refine CJ_pure (fun h hh => Rs_len (stars_perm (del2 (A := Rs (DevP bs) x_0_legs hsx_0_legs)).out h hh)) (fun hdl1 => ?_)
  refine CJ_seq ?_
  refine CJ_region ?_
  refine RJ_op rfl (OJ_P (P_assign rfl) rfl ?_)
  refine RJ_nil ?_
  refine QJ_then ?_
  refine CJ_seq ?_
  refine CJ_region ?_
  refine RJ_op rfl (OJ_P (P_assign rfl) rfl ?_)
  refine RJ_nil ?_
  refine QJ_then ?_
  refine CJ_seq ?_
  refine CJ_seq ?_
  refine CJ_region ?_
  refine RJ_op rfl (OJ_P (P_move rfl) rfl ?_)
  refine RJ_op rfl (OJ_P (P_nilCheck rfl) rfl ?_)
  refine RJ_op rfl (OJ_P (P_fieldAddr rfl ⟨_, _, _, Try.runUnderlying157, rfl, rfl, Try.sizeOf28, rfl⟩) rfl ?_)
  refine RJ_op rfl (OJ_V (V_loadR rfl foc0 rfl Try.isAgg28) rfl ?_)
  refine RJ_op rfl (OJ_V (VJ_eq (V_len rfl foc1 (Reads.slR _ _ _) Try.runUnderlying28) (congrArg (fun z : Nat => Value.int .i64 (z : Int)) (hdl1).symm)) rfl ?_)
  refine RJ_op rfl (OJ_P (P_move rfl) rfl ?_)
  refine RJ_nil ?_
  refine QJ_then ?_
  obtain ⟨y4, hl2, hK3⟩ := bind_c h
  refine CJ_cutT (X := Int × ArrS) [3, 5, 6, 12, 13, 14, 15, 16, 17, 18, 19, 20, 21] (fun a7 => ([(3, .int .i64 a7.1)] : Slots)) (fun a7 R => Arr bs a7.2 :: R) (fun a7 => y4 = a7) (Dels.cons del3 Dels.nil) ?_ ?_
  ·
    refine CJ_block ?_
    refine CJ_loopR (X := Nat × ArrS × Nat × Int) [3, 5, 6, 12, 13, 14, 15, 16, 17, 18, 19, 20, 21] (fun ⟨n, x8, x9, x10⟩ => ([(3, .int .i64 x10), (12, .int .i64 (((x9 : Nat) : Int)))] : Slots)) (fun ⟨n, x8, x9, x10⟩ R => Arr bs x8 :: R) (fun ⟨n, x8, x9, x10⟩ => dvc_stripe_Flush_l1 x_0_legs n x8 x9 x10 = some y4) (fun ⟨n, x8, x9, x10⟩ => n) ⟨FUEL, s, 0, (0 : Int)⟩ ?_ ?_ (Ent.take del3 Ent.refl) ?_
    · exact hl2
    · exact ⟨rfl, rfl, True.intro⟩
    ·
      rintro ⟨n, x8, x9, x10⟩ h
      cases n with
      | zero => exact none_e h
      | succ n => ?_
      replace h : dvc_stripe_Flush_l1_b x_0_legs (dvc_stripe_Flush_l1 x_0_legs n) x8 x9 x10 = some y4 := h
      unfold dvc_stripe_Flush_l1_b at h
      show CJ _ _ _ _ _ (([(3, .int .i64 x10), (12, .int .i64 (((x9 : Nat) : Int)))] : Slots) ++ forget _ _) (Arr bs x8 :: _)
      refine CJ_seq ?_
      refine CJ_region ?_
      refine RJ_op rfl (OJ_P (P_lss (a := ((x9 : Nat) : Int)) (b := ((x_0_legs.length : Nat) : Int)) rfl rfl) rfl ?_)
      refine RJ_nil ?_
      refine QJ_then ?_
      refine CJ_seq ?_
      refine CJ_condP rfl bT_dec (fun hg1 => ?_) (fun hg1 => ?_)
      ·
        replace h := ite_t hg1 h
        refine CJ_skip ?_
        refine QJ_then ?_
        refine CJ_seq ?_
        refine CJ_block ?_
        refine CJ_seq ?_
        refine CJ_region ?_
        refine RJ_op rfl (OJ_V (V_index (i := x9) rfl rfl rfl (by have hz : x9 < x_0_legs.length := (by omega); have hy := hdl1; omega) foc2 (Reads.slR _ _ _) Try.runUnderlying28 Try.sizeOf31) rfl ?_)
        refine RJ_ent (Ent.trans (Ent.take del3 Ent.refl) (Rs_at (fun _ _ => Dup_DevP) (dx := dv0) (dh := tyDev.dflt) (i := x9) (by omega))) ?_
        refine RJ_op rfl (OJ_V (V_loadE rfl rfl (by have hz : x9 < x_0_legs.length := (by omega); have hy := hdl1; omega) foc4 (Reads.slR _ _ _) rfl rfl Try.isAgg31) rfl ?_)
        refine RJ_op rfl (OJ_P (P_assign rfl) rfl ?_)
        refine RJ_nil ?_
        refine QJ_then ?_
        refine CJ_seq ?_
        refine CJ_region ?_
        refine RJ_op rfl (OJ_P (P_move rfl) rfl ?_)
        refine RJ_pure (fun h hh => DevP_dep h (stars_perm (del0 (A := DevP bs (x_0_legs.getD x9 dv0) (hsx_0_legs.getD x9 tyDev.dflt))).out h hh)) (fun hdp12 => ?_)
        obtain ⟨r13, hr14, h⟩ := bind_e h
        refine RJ_op rfl (O_callI rfl (dev_Flush hr14 hdp12) rfl (Dels.cons del0 (Dels.cons del1 Dels.nil)) rfl (fun _ _ => ?_))
        refine RJ_op rfl (OJ_P (P_assign rfl) rfl ?_)
        refine RJ_nil ?_
        refine QJ_then ?_
        refine CJ_seq ?_
        refine CJ_region ?_
        refine RJ_op rfl (OJ_P (P_move rfl) rfl ?_)
        refine RJ_op rfl (OJ_P (P_eql (a := x10) (b := (0 : Int)) rfl rfl) rfl ?_)
        refine RJ_nil ?_
        refine QJ_then ?_
        refine CJ_condP rfl bT_dec (fun hg2 => ?_) (fun hg2 => ?_)
        ·
          replace h := ite_t hg2 h
          refine CJ_region ?_
          refine RJ_op rfl (OJ_P (P_move rfl) rfl ?_)
          refine RJ_op rfl (OJ_P (P_assign rfl) rfl ?_)
          refine RJ_nil ?_
          refine QJ_block_normal ?_
          refine QJ_then ?_
          refine CJ_region ?_
          obtain ⟨hg3, h⟩ := grd_Ne h
          refine RJ_op rfl (OJ_P (PJ_eq (P_add (a := ((x9 : Nat) : Int)) (b := (1 : Int)) rfl rfl (nat_in hg3)) rfl) rfl ?_)
          refine RJ_op rfl (OJ_P (P_move rfl) rfl ?_)
          refine RJ_nil ?_
          refine QJ_nextR ⟨n, r13.2, (x9 + 1), r13.1⟩ (Nat.lt_succ_self _) ?_ (by repeat (first | exact Kp.base | exact Kp.self | refine Kp.cons rfl ?_ | refine Kp.forget rfl ?_)) ?_ (Ent.take del1 (Ent.take del2 (Ent.take del2 (Ent.take del1 (Ent.drop Ent.refl)))))
          · exact h
          · exact ⟨rfl, rfl, True.intro⟩
        ·
          replace h := ite_f hg2 h
          refine CJ_skip ?_
          refine QJ_block_normal ?_
          refine QJ_then ?_
          refine CJ_region ?_
          obtain ⟨hg4, h⟩ := grd_Ne h
          refine RJ_op rfl (OJ_P (PJ_eq (P_add (a := ((x9 : Nat) : Int)) (b := (1 : Int)) rfl rfl (nat_in hg4)) rfl) rfl ?_)
          refine RJ_op rfl (OJ_P (P_move rfl) rfl ?_)
          refine RJ_nil ?_
          refine QJ_nextR ⟨n, r13.2, (x9 + 1), x10⟩ (Nat.lt_succ_self _) ?_ (by repeat (first | exact Kp.base | exact Kp.self | refine Kp.cons rfl ?_ | refine Kp.forget rfl ?_)) ?_ (Ent.take del1 (Ent.take del2 (Ent.take del2 (Ent.take del1 (Ent.drop Ent.refl)))))
          · exact h
          · exact ⟨rfl, rfl, True.intro⟩
      ·
        replace h := ite_f hg1 h
        refine CJ_exit ?_
        refine QJ_then_exit ?_
        refine QJ_round_exit ?_
        refine QJ_block_here ?_
        refine QJ_cutR (x10, x8) ?_ (by repeat (first | exact Kp.base | exact Kp.self | refine Kp.cons rfl ?_ | refine Kp.forget rfl ?_)) ?_ Ent.refl
        · exact (Option.some.inj h).symm
        · exact ⟨rfl, True.intro⟩
  ·
    rintro a7 hy15
    replace h := bindK_at hK3 hy15
    show CJ _ _ _ _ _ (([(3, .int .i64 a7.1)] : Slots) ++ forget _ _) (Arr bs a7.2 :: _)
    refine CJ_seq ?_
    refine CJ_region ?_
    refine RJ_op rfl (OJ_P (P_move rfl) rfl ?_)
    refine RJ_op rfl (OJ_P (P_assign rfl) rfl ?_)
    refine RJ_nil ?_
    refine QJ_then ?_
    refine CJ_ret ?_
    have hE := Option.some.inj h
    subst hE
    refine QJ_end (res1 Try.results152 rfl) ?_
    refine CSpec.close () ?_ ?_ (Ent.take del1 (Ent.take del1 (Ent.take del1 Ent.refl)))
    · rfl
    · trivial

def Dvc.stripe (x_layout_chunk : Int) (x_layout_n : Int) (x_legs : List Dvc) (x_size : Int) : Dvc := { dep := 1, size := fun s => dvc_stripe_Size x_layout_chunk x_layout_n x_legs x_size s, rd := fun s k => dvc_stripe_Read x_layout_chunk x_layout_n x_legs x_size k s, wr := fun s k v => dvc_stripe_Write x_layout_chunk x_layout_n x_legs x_size k v s, fl := fun s => dvc_stripe_Flush x_layout_chunk x_layout_n x_legs x_size s }
theorem ok_Dvc_stripe {a : Nat} {bx : Nat} {hdx_legs : Sl3} {hsx_legs : List IfH} {x_layout_chunk : Int} {x_layout_n : Int} {x_legs : List Dvc} {x_size : Int} : DevOk a (Dvc.stripe x_layout_chunk x_layout_n x_legs x_size) ⟨153, ptr bx 0⟩ (starX [blkR bx 157 [.int .i64 x_layout_chunk, .int .i64 x_layout_n, (Sl3.v hdx_legs), .int .i64 x_size], slR tyDev (Sl3.v hdx_legs) hsx_legs, Rs (DevP a) x_legs hsx_legs]) where
  dup := Dup.starX (by intro A hA; simp only [List.mem_cons, List.not_mem_nil, or_false] at hA; rcases hA with rfl | rfl | rfl; exact Dup.blkR; exact Dup.slR; exact Dup_Rs (fun _ _ => Dup_DevP))
  dep := by simp [Dvc.stripe]
  nil := fun n hn w => by
    obtain ⟨m, rfl⟩ : ∃ m, n = m + 1 := ⟨n - 1, by omega⟩
    kernel_rfl
  size := fun {W s r} e => IOk.conseq (G := []) (IOk.of (fun n w => by kernel_rfl) Try.call154 (L_dvc_stripe_Size e)) (fun F => Ent.starE (Ent.take del0 (Ent.take del0 (Ent.take del0 (Ent.take del0 Ent.refl))))) (fun _ F => Ent.starI (Ent.take del0 (Ent.take del0 (Ent.take del0 (Ent.take del0 Ent.refl)))))
  rd := fun {W s k r} e => IOk.conseq (G := []) (IOk.of (fun n w => by kernel_rfl) Try.call153 (L_dvc_stripe_Read e)) (fun F => Ent.starE (Ent.take del0 (Ent.take del0 (Ent.take del0 (Ent.take del0 Ent.refl))))) (fun _ F => Ent.starI (Ent.take del0 (Ent.take del0 (Ent.take del0 (Ent.take del0 Ent.refl)))))
  wr := fun {W s k v r} e => IOk.conseq (G := []) (IOk.of (fun n w => by kernel_rfl) Try.call155 (L_dvc_stripe_Write e)) (fun F => Ent.starE (Ent.take del0 (Ent.take del0 (Ent.take del0 (Ent.take del0 Ent.refl))))) (fun _ F => Ent.starI (Ent.take del0 (Ent.take del0 (Ent.take del0 (Ent.take del0 Ent.refl)))))
  fl := fun {W s r} e => IOk.conseq (G := []) (IOk.of (fun n w => by kernel_rfl) Try.call152 (L_dvc_stripe_Flush e)) (fun F => Ent.starE (Ent.take del0 (Ent.take del0 (Ent.take del0 (Ent.take del0 Ent.refl))))) (fun _ F => Ent.starI (Ent.take del0 (Ent.take del0 (Ent.take del0 (Ent.take del0 Ent.refl)))))

end Go.Proofs
