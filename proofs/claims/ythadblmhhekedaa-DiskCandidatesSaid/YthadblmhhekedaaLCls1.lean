/- YthadblmhhekedaaLCls1: lifted functions of the program; printed by lift.py. -/
import Derived.Test.YthadblmhhekedaaLMake
set_option linter.unusedSimpArgs false
set_option linter.unusedVariables false
set_option maxRecDepth 20000
set_option maxHeartbeats 4000000
namespace Go.Proofs
open Go.VG

def dvc_concat_Size (x_0_parts : List Dvc) (x_0_ends : List Int) (s : ArrS) : Option (Int) :=
  if (((x_0_ends.length : Nat) : Int) = (0 : Int)) then
    some (0 : Int)
  else
    grd (inI64 ((((x_0_ends.length : Nat) : Int) - (1 : Int)))) <|
    some ((x_0_ends.getD (((((x_0_ends.length : Nat) : Int) - (1 : Int))).toNat) 0))

theorem L_dvc_concat_Size {W : World} {bx_0 : Nat} {hdx_0_parts : Sl3} {hsx_0_parts : List IfH} {hdx_0_ends : Sl3} {bs : Nat} {x_0_parts : List Dvc} {x_0_ends : List Int} {s : ArrS} {r : Int} (h : dvc_concat_Size x_0_parts x_0_ends s = some r) :
    CSpec Try.prog W 101 [ptr bx_0 0] [blkR bx_0 139 [(Sl3.v hdx_0_parts), (Sl3.v hdx_0_ends)], slR tyDev (Sl3.v hdx_0_parts) hsx_0_parts, Rs (DevP bs) x_0_parts hsx_0_parts, slR tyI (Sl3.v hdx_0_ends) x_0_ends, Arr bs s] (fun x : Unit => .int .i64 r) (fun _ => True) (fun x F => blkR bx_0 139 [(Sl3.v hdx_0_parts), (Sl3.v hdx_0_ends)] :: slR tyDev (Sl3.v hdx_0_parts) hsx_0_parts :: Rs (DevP bs) x_0_parts hsx_0_parts :: slR tyI (Sl3.v hdx_0_ends) x_0_ends :: Arr bs s :: F) := by
  refine CSpec.of_body Try.func101 rfl Try.ntmps101 rfl (fun F => ?_)
  show CJ _ _ _ _ _ _ (_ :: _ :: _ :: _ :: _ :: F)
  unfold dvc_concat_Size at h
  refine CJ_pure (fun h hh => Rs_len (stars_perm (del2 (A := Rs (DevP bs) x_0_parts hsx_0_parts)).out h hh)) (fun hdl1 => ?_)
  refine CJ_seq ?_
  refine CJ_region ?_
  refine RJ_op rfl (OJ_P (P_assign rfl) rfl ?_)
  refine RJ_nil ?_
  refine QJ_then ?_
  refine CJ_seq ?_
  refine CJ_seq ?_
  refine CJ_region ?_
  refine RJ_op rfl (OJ_P (P_move rfl) rfl ?_)
  refine RJ_op rfl (OJ_P (P_nilCheck rfl) rfl ?_)
  refine RJ_op rfl (OJ_P (P_fieldAddr rfl ⟨_, _, _, Try.runUnderlying139, rfl, rfl, Try.sizeOf29, rfl⟩) rfl ?_)
  refine RJ_op rfl (OJ_V (V_loadR rfl foc0 rfl Try.isAgg29) rfl ?_)
  refine RJ_op rfl (OJ_V (V_len rfl foc3 (Reads.slR _ _ _) Try.runUnderlying29) rfl ?_)
  refine RJ_op rfl (OJ_P (P_eql (a := ((x_0_ends.length : Nat) : Int)) (b := (0 : Int)) rfl rfl) rfl ?_)
  refine RJ_nil ?_
  refine QJ_then ?_
  refine CJ_condP rfl bT_dec (fun hg1 => ?_) (fun hg1 => ?_)
  ·
    replace h := ite_t hg1 h
    refine CJ_seq ?_
    refine CJ_region ?_
    refine RJ_op rfl (OJ_P (P_assign rfl) rfl ?_)
    refine RJ_nil ?_
    refine QJ_then ?_
    refine CJ_ret ?_
    refine QJ_then_ret ?_
    have hE := Option.some.inj h
    subst hE
    refine QJ_end (res1 Try.results101 rfl) ?_
    refine CSpec.close () ?_ ?_ Ent.refl
    · rfl
    · trivial
  ·
    replace h := ite_f hg1 h
    refine CJ_skip ?_
    refine QJ_then ?_
    refine CJ_seq ?_
    refine AJ_startH 0 (by kernel_rfl) rfl ?_
    refine AJ_takeP 0 1 rfl (by kernel_rfl) rfl (GY_none rfl) (P_move rfl) rfl (fun _ _ _ _ h => h) ?_
    refine AJ_takeP 1 3 rfl (by kernel_rfl) rfl (GY_none rfl) (P_nilCheck rfl) rfl (fun _ _ _ _ h => h) ?_
    refine AJ_takeP 2 7 rfl (by kernel_rfl) rfl (GY_none rfl) (P_fieldAddr rfl ⟨_, _, _, Try.runUnderlying139, rfl, rfl, Try.sizeOf29, rfl⟩) rfl (fun _ _ _ _ h => h) ?_
    refine AJ_takeV 3 15 rfl (by kernel_rfl) rfl (by kernel_rfl) (by kernel_rfl) (GY_none rfl) Ent.refl (V_loadR rfl foc0 rfl Try.isAgg29) rfl (fun _ _ _ _ h => h) ?_
    refine AJ_takeP 4 31 rfl (by kernel_rfl) rfl (GY_none rfl) (P_move rfl) rfl (fun _ _ _ _ h => h) ?_
    refine AJ_takeP 5 63 rfl (by kernel_rfl) rfl (GY_none rfl) (P_nilCheck rfl) rfl (fun _ _ _ _ h => h) ?_
    refine AJ_takeP 6 127 rfl (by kernel_rfl) rfl (GY_none rfl) (P_fieldAddr rfl ⟨_, _, _, Try.runUnderlying139, rfl, rfl, Try.sizeOf29, rfl⟩) rfl (fun _ _ _ _ h => h) ?_
    refine AJ_takeV 7 255 rfl (by kernel_rfl) rfl (by kernel_rfl) (by kernel_rfl) (GY_none rfl) Ent.refl (V_loadR rfl foc0 rfl Try.isAgg29) rfl (fun _ _ _ _ h => h) ?_
    refine AJ_takeV 8 511 rfl (by kernel_rfl) rfl (by kernel_rfl) (by kernel_rfl) (GY_none rfl) Ent.refl (V_len rfl foc3 (Reads.slR _ _ _) Try.runUnderlying29) rfl (fun _ _ _ _ h => h) ?_
    obtain ⟨hg2, h⟩ := grd_Ie h
    refine AJ_takeP 9 1023 rfl (by kernel_rfl) rfl (GY_none rfl) (P_sub (a := ((x_0_ends.length : Nat) : Int)) (b := (1 : Int)) rfl rfl hg2) rfl (fun _ _ _ _ h => h) ?_
    refine AJ_takeV 10 2047 rfl (by kernel_rfl) rfl (by kernel_rfl) (by kernel_rfl) (GY_none rfl) Ent.refl (V_index (i := ((((x_0_ends.length : Nat) : Int) - (1 : Int))).toNat) rfl rfl (Int.toNat_of_nonneg (by omega)).symm (by omega) foc3 (Reads.slR _ _ _) Try.runUnderlying29 Try.sizeOf3) rfl (fun _ _ _ _ h => h) ?_
    refine AJ_takeV 11 4095 rfl (by kernel_rfl) rfl (by kernel_rfl) (by kernel_rfl) (GY_none rfl) Ent.refl (V_loadE rfl rfl (by omega) foc3 (Reads.slR _ _ _) rfl rfl Try.isAgg3) rfl (fun _ _ _ _ h => h) ?_
    refine AJ_takeP 12 8191 rfl (by kernel_rfl) rfl (GY_none rfl) (P_assign rfl) rfl (fun _ _ _ _ h => h) ?_
    refine AJ_done (by kernel_rfl) ?_
    refine QJ_then ?_
    refine CJ_ret ?_
    have hE := Option.some.inj h
    subst hE
    refine QJ_end (res1 Try.results101 rfl) ?_
    refine CSpec.close () ?_ ?_ Ent.refl
    · rfl
    · trivial

def block_concat_Size (x_0_parts : List Dvc) (x_0_ends : List Int) (s : ArrS) : Option (Int) :=
  if (((x_0_ends.length : Nat) : Int) = (0 : Int)) then
    some (0 : Int)
  else
    grd (inI64 ((((x_0_ends.length : Nat) : Int) - (1 : Int)))) <|
    some ((x_0_ends.getD (((((x_0_ends.length : Nat) : Int) - (1 : Int))).toNat) 0))

theorem L_block_concat_Size {W : World} {bx_0 : Nat} {hdx_0_parts : Sl3} {hsx_0_parts : List IfH} {hdx_0_ends : Sl3} {bs : Nat} {x_0_parts : List Dvc} {x_0_ends : List Int} {s : ArrS} {r : Int} (h : block_concat_Size x_0_parts x_0_ends s = some r) :
    CSpec Try.prog W 101 [ptr bx_0 0] [blkR bx_0 139 [(Sl3.v hdx_0_parts), (Sl3.v hdx_0_ends)], slR tyDev (Sl3.v hdx_0_parts) hsx_0_parts, Rs (DevP bs) x_0_parts hsx_0_parts, slR tyI (Sl3.v hdx_0_ends) x_0_ends, Arr bs s] (fun x : Unit => .int .i64 r) (fun _ => True) (fun x F => blkR bx_0 139 [(Sl3.v hdx_0_parts), (Sl3.v hdx_0_ends)] :: slR tyDev (Sl3.v hdx_0_parts) hsx_0_parts :: Rs (DevP bs) x_0_parts hsx_0_parts :: slR tyI (Sl3.v hdx_0_ends) x_0_ends :: Arr bs s :: F) := by
  refine CSpec.of_body Try.func101 rfl Try.ntmps101 rfl (fun F => ?_)
  show CJ _ _ _ _ _ _ (_ :: _ :: _ :: _ :: _ :: F)
  unfold block_concat_Size at h
  refine CJ_pure (fun h hh => Rs_len (stars_perm (del2 (A := Rs (DevP bs) x_0_parts hsx_0_parts)).out h hh)) (fun hdl1 => ?_)
  refine CJ_seq ?_
  refine CJ_region ?_
  refine RJ_op rfl (OJ_P (P_assign rfl) rfl ?_)
  refine RJ_nil ?_
  refine QJ_then ?_
  refine CJ_seq ?_
  refine CJ_seq ?_
  refine CJ_region ?_
  refine RJ_op rfl (OJ_P (P_move rfl) rfl ?_)
  refine RJ_op rfl (OJ_P (P_nilCheck rfl) rfl ?_)
  refine RJ_op rfl (OJ_P (P_fieldAddr rfl ⟨_, _, _, Try.runUnderlying139, rfl, rfl, Try.sizeOf29, rfl⟩) rfl ?_)
  refine RJ_op rfl (OJ_V (V_loadR rfl foc0 rfl Try.isAgg29) rfl ?_)
  refine RJ_op rfl (OJ_V (V_len rfl foc3 (Reads.slR _ _ _) Try.runUnderlying29) rfl ?_)
  refine RJ_op rfl (OJ_P (P_eql (a := ((x_0_ends.length : Nat) : Int)) (b := (0 : Int)) rfl rfl) rfl ?_)
  refine RJ_nil ?_
  refine QJ_then ?_
  refine CJ_condP rfl bT_dec (fun hg1 => ?_) (fun hg1 => ?_)
  ·
    replace h := ite_t hg1 h
    refine CJ_seq ?_
    refine CJ_region ?_
    refine RJ_op rfl (OJ_P (P_assign rfl) rfl ?_)
    refine RJ_nil ?_
    refine QJ_then ?_
    refine CJ_ret ?_
    refine QJ_then_ret ?_
    have hE := Option.some.inj h
    subst hE
    refine QJ_end (res1 Try.results101 rfl) ?_
    refine CSpec.close () ?_ ?_ Ent.refl
    · rfl
    · trivial
  ·
    replace h := ite_f hg1 h
    refine CJ_skip ?_
    refine QJ_then ?_
    refine CJ_seq ?_
    refine AJ_startH 0 (by kernel_rfl) rfl ?_
    refine AJ_takeP 0 1 rfl (by kernel_rfl) rfl (GY_none rfl) (P_move rfl) rfl (fun _ _ _ _ h => h) ?_
    refine AJ_takeP 1 3 rfl (by kernel_rfl) rfl (GY_none rfl) (P_nilCheck rfl) rfl (fun _ _ _ _ h => h) ?_
    refine AJ_takeP 2 7 rfl (by kernel_rfl) rfl (GY_none rfl) (P_fieldAddr rfl ⟨_, _, _, Try.runUnderlying139, rfl, rfl, Try.sizeOf29, rfl⟩) rfl (fun _ _ _ _ h => h) ?_
    refine AJ_takeV 3 15 rfl (by kernel_rfl) rfl (by kernel_rfl) (by kernel_rfl) (GY_none rfl) Ent.refl (V_loadR rfl foc0 rfl Try.isAgg29) rfl (fun _ _ _ _ h => h) ?_
    refine AJ_takeP 4 31 rfl (by kernel_rfl) rfl (GY_none rfl) (P_move rfl) rfl (fun _ _ _ _ h => h) ?_
    refine AJ_takeP 5 63 rfl (by kernel_rfl) rfl (GY_none rfl) (P_nilCheck rfl) rfl (fun _ _ _ _ h => h) ?_
    refine AJ_takeP 6 127 rfl (by kernel_rfl) rfl (GY_none rfl) (P_fieldAddr rfl ⟨_, _, _, Try.runUnderlying139, rfl, rfl, Try.sizeOf29, rfl⟩) rfl (fun _ _ _ _ h => h) ?_
    refine AJ_takeV 7 255 rfl (by kernel_rfl) rfl (by kernel_rfl) (by kernel_rfl) (GY_none rfl) Ent.refl (V_loadR rfl foc0 rfl Try.isAgg29) rfl (fun _ _ _ _ h => h) ?_
    refine AJ_takeV 8 511 rfl (by kernel_rfl) rfl (by kernel_rfl) (by kernel_rfl) (GY_none rfl) Ent.refl (V_len rfl foc3 (Reads.slR _ _ _) Try.runUnderlying29) rfl (fun _ _ _ _ h => h) ?_
    obtain ⟨hg2, h⟩ := grd_Ie h
    refine AJ_takeP 9 1023 rfl (by kernel_rfl) rfl (GY_none rfl) (P_sub (a := ((x_0_ends.length : Nat) : Int)) (b := (1 : Int)) rfl rfl hg2) rfl (fun _ _ _ _ h => h) ?_
    refine AJ_takeV 10 2047 rfl (by kernel_rfl) rfl (by kernel_rfl) (by kernel_rfl) (GY_none rfl) Ent.refl (V_index (i := ((((x_0_ends.length : Nat) : Int) - (1 : Int))).toNat) rfl rfl (Int.toNat_of_nonneg (by omega)).symm (by omega) foc3 (Reads.slR _ _ _) Try.runUnderlying29 Try.sizeOf3) rfl (fun _ _ _ _ h => h) ?_
    refine AJ_takeV 11 4095 rfl (by kernel_rfl) rfl (by kernel_rfl) (by kernel_rfl) (GY_none rfl) Ent.refl (V_loadE rfl rfl (by omega) foc3 (Reads.slR _ _ _) rfl rfl Try.isAgg3) rfl (fun _ _ _ _ h => h) ?_
    refine AJ_takeP 12 8191 rfl (by kernel_rfl) rfl (GY_none rfl) (P_assign rfl) rfl (fun _ _ _ _ h => h) ?_
    refine AJ_done (by kernel_rfl) ?_
    refine QJ_then ?_
    refine CJ_ret ?_
    have hE := Option.some.inj h
    subst hE
    refine QJ_end (res1 Try.results101 rfl) ?_
    refine CSpec.close () ?_ ?_ Ent.refl
    · rfl
    · trivial

def block_concat_find_1 (k : Int) (p1_v_parts : List Dvc) (p1_v_ends : List Int) (p2 : Int) (s : ArrS) : Option (Bool) :=
  grd (decide (0 ≤ k ∧ k < (p1_v_ends.length : Int))) <|
  some ((decide (p2 < (p1_v_ends.getD ((k).toNat) 0))))

theorem L_block_concat_find_1 {W : World} {bp1 : Nat} {bp1_v : Nat} {hdp1_v_parts : Sl3} {hsp1_v_parts : List IfH} {hdp1_v_ends : Sl3} {bp2 : Nat} {bs : Nat} {k : Int} {p1_v_parts : List Dvc} {p1_v_ends : List Int} {p2 : Int} {s : ArrS} {r : Bool} (h : block_concat_find_1 k p1_v_parts p1_v_ends p2 s = some r) :
    CSpec Try.prog W 105 [.int .i64 k, ptr bp1 0, ptr bp2 0] [blk bp1 136 [ptr bp1_v 0], blkR bp1_v 139 [(Sl3.v hdp1_v_parts), (Sl3.v hdp1_v_ends)], slR tyDev (Sl3.v hdp1_v_parts) hsp1_v_parts, Rs (DevP bs) p1_v_parts hsp1_v_parts, slR tyI (Sl3.v hdp1_v_ends) p1_v_ends, blk bp2 3 [.int .i64 p2], Arr bs s] (fun x : Unit => .bool r) (fun _ => True) (fun x F => blk bp1 136 [ptr bp1_v 0] :: blkR bp1_v 139 [(Sl3.v hdp1_v_parts), (Sl3.v hdp1_v_ends)] :: slR tyDev (Sl3.v hdp1_v_parts) hsp1_v_parts :: Rs (DevP bs) p1_v_parts hsp1_v_parts :: slR tyI (Sl3.v hdp1_v_ends) p1_v_ends :: blk bp2 3 [.int .i64 p2] :: Arr bs s :: F) := by
  refine CSpec.of_body Try.func105 rfl Try.ntmps105 rfl (fun F => ?_)
  show CJ _ _ _ _ _ _ (_ :: _ :: _ :: _ :: _ :: _ :: _ :: F)
  unfold block_concat_find_1 at h
  refine CJ_pure (fun h hh => Rs_len (stars_perm (del3 (A := Rs (DevP bs) p1_v_parts hsp1_v_parts)).out h hh)) (fun hdl1 => ?_)
  refine CJ_seq ?_
  refine CJ_region ?_
  refine RJ_op rfl (OJ_P (P_assign rfl) rfl ?_)
  refine RJ_nil ?_
  refine QJ_then ?_
  refine CJ_seq ?_
  refine AJ_startH 0 (by kernel_rfl) rfl ?_
  refine AJ_takeV 0 1 rfl (by kernel_rfl) rfl (by kernel_rfl) (by kernel_rfl) (GY_none rfl) Ent.refl (V_load rfl foc0 rfl Try.isAgg136) rfl (fun _ _ _ _ h => h) ?_
  refine AJ_takeP 1 3 rfl (by kernel_rfl) rfl (GY_none rfl) (P_nilCheck rfl) rfl (fun _ _ _ _ h => h) ?_
  refine AJ_takeP 2 7 rfl (by kernel_rfl) rfl (GY_none rfl) (P_fieldAddr rfl ⟨_, _, _, Try.runUnderlying139, rfl, rfl, Try.sizeOf29, rfl⟩) rfl (fun _ _ _ _ h => h) ?_
  refine AJ_takeV 3 15 rfl (by kernel_rfl) rfl (by kernel_rfl) (by kernel_rfl) (GY_none rfl) Ent.refl (V_loadR rfl foc1 rfl Try.isAgg29) rfl (fun _ _ _ _ h => h) ?_
  refine AJ_takeP 4 31 rfl (by kernel_rfl) rfl (GY_none rfl) (P_move rfl) rfl (fun _ _ _ _ h => h) ?_
  obtain ⟨hg1, h⟩ := grd_de h
  refine AJ_takeV 5 63 rfl (by kernel_rfl) rfl (by kernel_rfl) (by kernel_rfl) (GY_none rfl) Ent.refl (V_index (i := (k).toNat) rfl rfl (Int.toNat_of_nonneg (hg1.1)).symm (by omega) foc4 (Reads.slR _ _ _) Try.runUnderlying29 Try.sizeOf3) rfl (fun _ _ _ _ h => h) ?_
  refine AJ_takeV 6 127 rfl (by kernel_rfl) rfl (by kernel_rfl) (by kernel_rfl) (GY_none rfl) Ent.refl (V_loadE rfl rfl (by omega) foc4 (Reads.slR _ _ _) rfl rfl Try.isAgg3) rfl (fun _ _ _ _ h => h) ?_
  refine AJ_takeV 7 255 rfl (by kernel_rfl) rfl (by kernel_rfl) (by kernel_rfl) (GY_none rfl) Ent.refl (V_load rfl foc5 rfl Try.isAgg3) rfl (fun _ _ _ _ h => h) ?_
  refine AJ_takeP 8 511 rfl (by kernel_rfl) rfl (GY_none rfl) (P_gtr (a := (p1_v_ends.getD ((k).toNat) 0)) (b := p2) rfl rfl) rfl (fun _ _ _ _ h => h) ?_
  refine AJ_takeP 9 1023 rfl (by kernel_rfl) rfl (GY_none rfl) (P_assign rfl) rfl (fun _ _ _ _ h => h) ?_
  refine AJ_done (by kernel_rfl) ?_
  refine QJ_then ?_
  refine CJ_ret ?_
  have hE := Option.some.inj h
  subst hE
  refine QJ_end (res1 Try.results105 rfl) ?_
  refine CSpec.close () ?_ ?_ Ent.refl
  · rfl
  · trivial

def sort_Search__block_concat_find_1_l1_b (f_c0_v_parts : List Dvc) (f_c0_v_ends : List Int) (f_c1 : Int) (s : ArrS) (rec : Int → Int → Option (Int)) (x7 : Int) (x8 : Int) : Option (Int) :=
  if (x7 < x8) then
    grd (inI64 (x7 + x8)) <|
    Option.bind (block_concat_find_1 ((IntKind.i64.wrap (((shr_u64 ((to_u64 (x7 + x8))) 1)).toNat : Int))) f_c0_v_parts f_c0_v_ends f_c1 s) fun r9 =>
    if (¬ r9 = true) then
      grd (inI64 (((IntKind.i64.wrap (((shr_u64 ((to_u64 (x7 + x8))) 1)).toNat : Int)) + (1 : Int)))) <|
      lt (((IntKind.i64.wrap (((shr_u64 ((to_u64 (x7 + x8))) 1)).toNat : Int)) + (1 : Int))) fun w11 =>
      rec w11 x8
    else
      rec x7 ((IntKind.i64.wrap (((shr_u64 ((to_u64 (x7 + x8))) 1)).toNat : Int)))
  else
    some x7

def sort_Search__block_concat_find_1_l1 (f_c0_v_parts : List Dvc) (f_c0_v_ends : List Int) (f_c1 : Int) (s : ArrS) : Nat → Int → Int → Option (Int)
  | 0, _, _ => none
  | n + 1, x7, x8 => sort_Search__block_concat_find_1_l1_b f_c0_v_parts f_c0_v_ends f_c1 s (sort_Search__block_concat_find_1_l1 f_c0_v_parts f_c0_v_ends f_c1 s n) x7 x8

def sort_Search__block_concat_find_1 (n_0 : Int) (f_c0_v_parts : List Dvc) (f_c0_v_ends : List Int) (f_c1 : Int) (s : ArrS) : Option (Int) :=
  Option.bind (sort_Search__block_concat_find_1_l1 f_c0_v_parts f_c0_v_ends f_c1 s FUEL (0 : Int) n_0) fun a6 =>
  some a6

theorem L_sort_Search__block_concat_find_1 {W : World} {bf_c0 : Nat} {bf_c0_v : Nat} {hdf_c0_v_parts : Sl3} {hsf_c0_v_parts : List IfH} {hdf_c0_v_ends : Sl3} {bf_c1 : Nat} {bs : Nat} {n_0 : Int} {f_c0_v_parts : List Dvc} {f_c0_v_ends : List Int} {f_c1 : Int} {s : ArrS} {r : Int} (h : sort_Search__block_concat_find_1 n_0 f_c0_v_parts f_c0_v_ends f_c1 s = some r) :
    CSpec Try.prog W 104 [.int .i64 n_0, .func (.func 105) #[] #[ptr bf_c0 0, ptr bf_c1 0]] [blk bf_c0 136 [ptr bf_c0_v 0], blkR bf_c0_v 139 [(Sl3.v hdf_c0_v_parts), (Sl3.v hdf_c0_v_ends)], slR tyDev (Sl3.v hdf_c0_v_parts) hsf_c0_v_parts, Rs (DevP bs) f_c0_v_parts hsf_c0_v_parts, slR tyI (Sl3.v hdf_c0_v_ends) f_c0_v_ends, blk bf_c1 3 [.int .i64 f_c1], Arr bs s] (fun x : Unit => .int .i64 r) (fun _ => True) (fun x F => blk bf_c0 136 [ptr bf_c0_v 0] :: blkR bf_c0_v 139 [(Sl3.v hdf_c0_v_parts), (Sl3.v hdf_c0_v_ends)] :: slR tyDev (Sl3.v hdf_c0_v_parts) hsf_c0_v_parts :: Rs (DevP bs) f_c0_v_parts hsf_c0_v_parts :: slR tyI (Sl3.v hdf_c0_v_ends) f_c0_v_ends :: blk bf_c1 3 [.int .i64 f_c1] :: Arr bs s :: F) := by
  refine CSpec.of_body Try.func104 rfl Try.ntmps104 rfl (fun F => ?_)
  show CJ _ _ _ _ _ _ (_ :: _ :: _ :: _ :: _ :: _ :: _ :: F)
  unfold sort_Search__block_concat_find_1 at h
  refine CJ_pure (fun h hh => Rs_len (stars_perm (del3 (A := Rs (DevP bs) f_c0_v_parts hsf_c0_v_parts)).out h hh)) (fun hdl1 => ?_)
  refine CJ_seq ?_
  refine CJ_region ?_
  refine RJ_op rfl (OJ_P (P_assign rfl) rfl ?_)
  refine RJ_nil ?_
  refine QJ_then ?_
  refine CJ_seq ?_
  refine CJ_region ?_
  refine RJ_op rfl (OJ_P (P_move rfl) rfl ?_)
  refine RJ_op rfl (OJ_P (P_assign rfl) rfl ?_)
  refine RJ_op rfl (OJ_P (P_assign rfl) rfl ?_)
  refine RJ_nil ?_
  refine QJ_then ?_
  refine CJ_seq ?_
  obtain ⟨y4, hl2, hK3⟩ := bind_c h
  refine CJ_cutT (X := Int) [5, 6, 7, 9, 10, 11, 12, 13, 14, 15, 16, 17, 18, 19, 20, 21, 22, 23, 24] (fun a6 => ([(5, .int .i64 a6)] : Slots)) (fun a6 R => R) (fun a6 => y4 = a6) Dels.nil ?_ ?_
  ·
    refine CJ_block ?_
    refine CJ_loopR (X := Nat × Int × Int) [5, 6, 7, 9, 10, 11, 12, 13, 14, 15, 16, 17, 18, 19, 20, 21, 22, 23, 24] (fun ⟨n, x7, x8⟩ => ([(5, .int .i64 x7), (6, .int .i64 x8)] : Slots)) (fun ⟨n, x7, x8⟩ R => R) (fun ⟨n, x7, x8⟩ => sort_Search__block_concat_find_1_l1 f_c0_v_parts f_c0_v_ends f_c1 s n x7 x8 = some y4) (fun ⟨n, x7, x8⟩ => n) ⟨FUEL, (0 : Int), n_0⟩ ?_ ?_ Ent.refl ?_
    · exact hl2
    · exact ⟨rfl, rfl, True.intro⟩
    ·
      rintro ⟨n, x7, x8⟩ h
      cases n with
      | zero => exact none_e h
      | succ n => ?_
      replace h : sort_Search__block_concat_find_1_l1_b f_c0_v_parts f_c0_v_ends f_c1 s (sort_Search__block_concat_find_1_l1 f_c0_v_parts f_c0_v_ends f_c1 s n) x7 x8 = some y4 := h
      unfold sort_Search__block_concat_find_1_l1_b at h
      show CJ _ _ _ _ _ (([(5, .int .i64 x7), (6, .int .i64 x8)] : Slots) ++ forget _ _) (_)
      refine CJ_seq ?_
      refine CJ_seq ?_
      refine CJ_region ?_
      refine RJ_op rfl (OJ_P (P_move rfl) rfl ?_)
      refine RJ_op rfl (OJ_P (P_move rfl) rfl ?_)
      refine RJ_op rfl (OJ_P (P_lss (a := x7) (b := x8) rfl rfl) rfl ?_)
      refine RJ_nil ?_
      refine QJ_then ?_
      refine CJ_condP rfl bT_dec (fun hg1 => ?_) (fun hg1 => ?_)
      ·
        replace h := ite_t hg1 h
        refine CJ_skip ?_
        refine QJ_then ?_
        refine CJ_block ?_
        refine CJ_seq ?_
        refine CJ_region ?_
        refine RJ_op rfl (OJ_P (P_move rfl) rfl ?_)
        refine RJ_op rfl (OJ_P (P_move rfl) rfl ?_)
        obtain ⟨hg2, h⟩ := grd_Ie h
        refine RJ_op rfl (OJ_P (P_add (a := x7) (b := x8) rfl rfl hg2) rfl ?_)
        refine RJ_op rfl (OJ_P (P_conv_u64 (a := (x7 + x8)) rfl Try.runUnderlying3 Try.runUnderlying172) rfl ?_)
        refine RJ_op rfl (OJ_P (P_shr_u64 (a := (to_u64 (x7 + x8))) (m := 1) rfl rfl rfl) rfl ?_)
        refine RJ_op rfl (OJ_P (P_conv rfl Try.runUnderlying172 Try.runUnderlying3) rfl ?_)
        refine RJ_op rfl (OJ_P (P_assign rfl) rfl ?_)
        refine RJ_nil ?_
        refine QJ_then ?_
        refine CJ_seq ?_
        refine CJ_region ?_
        refine RJ_op rfl (OJ_P (P_move rfl) rfl ?_)
        refine RJ_op rfl (OJ_P (P_move rfl) rfl ?_)
        obtain ⟨r9, hr10, h⟩ := bind_e h
        refine RJ_op rfl (O_callV rfl rfl (L_block_concat_find_1 hr10) Try.call105 (Dels.cons del0 (Dels.cons del0 (Dels.cons del0 (Dels.cons del0 (Dels.cons del0 (Dels.cons del0 (Dels.cons del0 Dels.nil))))))) rfl (fun _ _ => ?_))
        refine RJ_op rfl (OJ_P (P_not rfl) rfl ?_)
        refine RJ_nil ?_
        refine QJ_then ?_
        refine CJ_condP rfl (bT_not Iff.rfl) (fun hg3 => ?_) (fun hg3 => ?_)
        ·
          replace h := ite_t hg3 h
          refine CJ_region ?_
          refine RJ_op rfl (OJ_P (P_move rfl) rfl ?_)
          obtain ⟨hg4, h⟩ := grd_Ie h
          refine RJ_op rfl (OJ_P (P_add (a := (IntKind.i64.wrap (((shr_u64 ((to_u64 (x7 + x8))) 1)).toNat : Int))) (b := (1 : Int)) rfl rfl hg4) rfl ?_)
          obtain ⟨w11, hw11, h⟩ := lt_e h
          rw [← hw11]
          refine RJ_op rfl (OJ_P (P_assign rfl) rfl ?_)
          refine RJ_nil ?_
          refine QJ_block_normal ?_
          refine QJ_nextR ⟨n, w11, x8⟩ (Nat.lt_succ_self _) ?_ (by repeat (first | exact Kp.base | exact Kp.self | refine Kp.cons rfl ?_ | refine Kp.forget rfl ?_)) ?_ Ent.refl
          · exact h
          · exact ⟨rfl, rfl, True.intro⟩
        ·
          replace h := ite_f hg3 h
          refine CJ_region ?_
          refine RJ_op rfl (OJ_P (P_move rfl) rfl ?_)
          refine RJ_op rfl (OJ_P (P_assign rfl) rfl ?_)
          refine RJ_nil ?_
          refine QJ_block_normal ?_
          refine QJ_nextR ⟨n, x7, (IntKind.i64.wrap (((shr_u64 ((to_u64 (x7 + x8))) 1)).toNat : Int))⟩ (Nat.lt_succ_self _) ?_ (by repeat (first | exact Kp.base | exact Kp.self | refine Kp.cons rfl ?_ | refine Kp.forget rfl ?_)) ?_ Ent.refl
          · exact h
          · exact ⟨rfl, rfl, True.intro⟩
      ·
        replace h := ite_f hg1 h
        refine CJ_exit ?_
        refine QJ_then_exit ?_
        refine QJ_round_exit ?_
        refine QJ_block_here ?_
        refine QJ_cutR x7 ?_ (by repeat (first | exact Kp.base | exact Kp.self | refine Kp.cons rfl ?_ | refine Kp.forget rfl ?_)) ?_ Ent.refl
        · exact (Option.some.inj h).symm
        · exact ⟨rfl, True.intro⟩
  ·
    rintro a6 hy12
    replace h := bindK_at hK3 hy12
    show CJ _ _ _ _ _ (([(5, .int .i64 a6)] : Slots) ++ forget _ _) (_)
    refine CJ_seq ?_
    refine CJ_region ?_
    refine RJ_op rfl (OJ_P (P_move rfl) rfl ?_)
    refine RJ_op rfl (OJ_P (P_assign rfl) rfl ?_)
    refine RJ_nil ?_
    refine QJ_then ?_
    refine CJ_ret ?_
    have hE := Option.some.inj h
    subst hE
    refine QJ_end (res1 Try.results104 rfl) ?_
    refine CSpec.close () ?_ ?_ Ent.refl
    · rfl
    · trivial

def block_concat_find (x_0_parts : List Dvc) (x_0_ends : List Int) (at_1 : Int) (s : ArrS) : Option (Dvc × Int) :=
  Option.bind (sort_Search__block_concat_find_1 (((x_0_ends.length : Nat) : Int)) x_0_parts x_0_ends at_1 s) fun r4 =>
  if ((0 : Int) < r4) then
    grd (inI64 ((r4 - (1 : Int)))) <|
    grd (decide (0 ≤ (r4 - (1 : Int)) ∧ (r4 - (1 : Int)) < (x_0_ends.length : Int))) <|
    grd (inI64 ((at_1 - (x_0_ends.getD (((r4 - (1 : Int))).toNat) 0)))) <|
    grd (decide (0 ≤ r4 ∧ r4 < (x_0_parts.length : Int))) <|
    some (((x_0_parts.getD ((r4).toNat) dv0), (at_1 - (x_0_ends.getD (((r4 - (1 : Int))).toNat) 0))))
  else
    grd (decide (0 ≤ r4 ∧ r4 < (x_0_parts.length : Int))) <|
    some (((x_0_parts.getD ((r4).toNat) dv0), at_1))

theorem L_block_concat_find {W : World} {bx_0 : Nat} {hdx_0_parts : Sl3} {hsx_0_parts : List IfH} {hdx_0_ends : Sl3} {bs : Nat} {x_0_parts : List Dvc} {x_0_ends : List Int} {at_1 : Int} {s : ArrS} {r : Dvc × Int} (h : block_concat_find x_0_parts x_0_ends at_1 s = some r) :
    CSpec Try.prog W 103 [ptr bx_0 0, .int .i64 at_1] [blkR bx_0 139 [(Sl3.v hdx_0_parts), (Sl3.v hdx_0_ends)], slR tyDev (Sl3.v hdx_0_parts) hsx_0_parts, Rs (DevP bs) x_0_parts hsx_0_parts, slR tyI (Sl3.v hdx_0_ends) x_0_ends, Arr bs s] (fun x : IfH => .tuple #[IfH.v x, .int .i64 r.2]) (fun _ => True) (fun x F => blkR bx_0 139 [(Sl3.v hdx_0_parts), (Sl3.v hdx_0_ends)] :: slR tyDev (Sl3.v hdx_0_parts) hsx_0_parts :: Rs (DevP bs) x_0_parts hsx_0_parts :: slR tyI (Sl3.v hdx_0_ends) x_0_ends :: Arr bs s :: DevP bs r.1 x :: F) := by
  refine CSpec.of_body Try.func103 rfl Try.ntmps103 rfl (fun F => ?_)
  show CJ _ _ _ _ _ _ (_ :: _ :: _ :: _ :: _ :: F)
  unfold block_concat_find at h
  refine CJ_pure (fun h hh => Rs_len (stars_perm (del2 (A := Rs (DevP bs) x_0_parts hsx_0_parts)).out h hh)) (fun hdl1 => ?_)
  refine CJ_seq ?_
  refine CJ_region ?_
  refine RJ_op rfl (O_box rfl rfl rfl (fun b2 => ?_))
  refine RJ_op rfl (O_box rfl rfl rfl (fun b3 => ?_))
  refine RJ_op rfl (OJ_P (P_assign rfl) rfl ?_)
  refine RJ_op rfl (OJ_P (P_assign rfl) rfl ?_)
  refine RJ_nil ?_
  refine QJ_then ?_
  refine CJ_seq ?_
  refine CJ_region ?_
  refine RJ_op rfl (OJ_V (V_load rfl foc1 rfl Try.isAgg136) rfl ?_)
  refine RJ_op rfl (OJ_P (P_nilCheck rfl) rfl ?_)
  refine RJ_op rfl (OJ_P (P_fieldAddr rfl ⟨_, _, _, Try.runUnderlying139, rfl, rfl, Try.sizeOf29, rfl⟩) rfl ?_)
  refine RJ_op rfl (OJ_V (V_loadR rfl foc2 rfl Try.isAgg29) rfl ?_)
  refine RJ_op rfl (OJ_V (V_len rfl foc5 (Reads.slR _ _ _) Try.runUnderlying29) rfl ?_)
  refine RJ_op rfl (OJ_P (P_makeFunc rfl rfl) rfl ?_)
  obtain ⟨r4, hr5, h⟩ := bind_e h
  refine RJ_op rfl (O_call (L_sort_Search__block_concat_find_1 hr5) rfl Try.call104 (Dels.cons del1 (Dels.cons del1 (Dels.cons del1 (Dels.cons del1 (Dels.cons del1 (Dels.cons del0 (Dels.cons del0 Dels.nil))))))) rfl (fun _ _ => ?_))
  refine RJ_op rfl (OJ_P (P_assign rfl) rfl ?_)
  refine RJ_nil ?_
  refine QJ_then ?_
  refine CJ_seq ?_
  refine CJ_seq ?_
  refine CJ_region ?_
  refine RJ_op rfl (OJ_P (P_move rfl) rfl ?_)
  refine RJ_op rfl (OJ_P (P_gtr (a := r4) (b := (0 : Int)) rfl rfl) rfl ?_)
  refine RJ_nil ?_
  refine QJ_then ?_
  refine CJ_condP rfl bT_dec (fun hg1 => ?_) (fun hg1 => ?_)
  ·
    replace h := ite_t hg1 h
    refine AJ_startH 1024 (by kernel_rfl) rfl ?_
    refine AJ_takeV 0 1 rfl (by kernel_rfl) rfl (by kernel_rfl) (by kernel_rfl) (GY_none rfl) Ent.refl (V_load rfl foc5 rfl Try.isAgg3) rfl (fun _ _ _ _ h => h) ?_
    refine AJ_takeV 1 3 rfl (by kernel_rfl) rfl (by kernel_rfl) (by kernel_rfl) (GY_none rfl) Ent.refl (V_load rfl foc0 rfl Try.isAgg136) rfl (fun _ _ _ _ h => h) ?_
    refine AJ_takeP 2 7 rfl (by kernel_rfl) rfl (GY_none rfl) (P_nilCheck rfl) rfl (fun _ _ _ _ h => h) ?_
    refine AJ_takeP 3 15 rfl (by kernel_rfl) rfl (GY_none rfl) (P_fieldAddr rfl ⟨_, _, _, Try.runUnderlying139, rfl, rfl, Try.sizeOf29, rfl⟩) rfl (fun _ _ _ _ h => h) ?_
    refine AJ_takeV 4 31 rfl (by kernel_rfl) rfl (by kernel_rfl) (by kernel_rfl) (GY_none rfl) Ent.refl (V_loadR rfl foc1 rfl Try.isAgg29) rfl (fun _ _ _ _ h => h) ?_
    refine AJ_takeP 5 63 rfl (by kernel_rfl) rfl (GY_none rfl) (P_move rfl) rfl (fun _ _ _ _ h => h) ?_
    obtain ⟨hg2, h⟩ := grd_Ie h
    refine AJ_takeP 6 127 rfl (by kernel_rfl) rfl (GY_none rfl) (P_sub (a := r4) (b := (1 : Int)) rfl rfl hg2) rfl (fun _ _ _ _ h => h) ?_
    obtain ⟨hg3, h⟩ := grd_de h
    refine AJ_takeV 7 255 rfl (by kernel_rfl) rfl (by kernel_rfl) (by kernel_rfl) (GY_none rfl) Ent.refl (V_index (i := ((r4 - (1 : Int))).toNat) rfl rfl (Int.toNat_of_nonneg (hg3.1)).symm (by omega) foc4 (Reads.slR _ _ _) Try.runUnderlying29 Try.sizeOf3) rfl (fun _ _ _ _ h => h) ?_
    refine AJ_takeV 8 511 rfl (by kernel_rfl) rfl (by kernel_rfl) (by kernel_rfl) (GY_none rfl) Ent.refl (V_loadE rfl rfl (by omega) foc4 (Reads.slR _ _ _) rfl rfl Try.isAgg3) rfl (fun _ _ _ _ h => h) ?_
    obtain ⟨hg4, h⟩ := grd_Ie h
    refine AJ_takeP 9 1023 rfl (by kernel_rfl) rfl (GY_none rfl) (P_sub (a := at_1) (b := (x_0_ends.getD (((r4 - (1 : Int))).toNat) 0)) rfl rfl hg4) rfl (fun _ _ _ _ h => h) ?_
    refine AJ_op 10 2047 rfl (by kernel_rfl) rfl (GY_none rfl) (O_store rfl rfl foc5 rfl rfl Try.sizeOf3 ?_)
    refine ⟨fun h => absurd h (by decide), ?_⟩
    refine AJ_done (by kernel_rfl) ?_
    refine QJ_then ?_
    refine CJ_seq ?_
    refine AJ_startH 0 (by kernel_rfl) rfl ?_
    refine AJ_takeV 0 1 rfl (by kernel_rfl) rfl (by kernel_rfl) (by kernel_rfl) (GY_none rfl) Ent.refl (V_load rfl foc0 rfl Try.isAgg136) rfl (fun _ _ _ _ h => h) ?_
    refine AJ_takeP 1 3 rfl (by kernel_rfl) rfl (GY_none rfl) (P_nilCheck rfl) rfl (fun _ _ _ _ h => h) ?_
    refine AJ_takeP 2 7 rfl (by kernel_rfl) rfl (GY_none rfl) (P_fieldAddr rfl ⟨_, _, _, Try.runUnderlying139, rfl, rfl, Try.sizeOf97, rfl⟩) rfl (fun _ _ _ _ h => h) ?_
    refine AJ_takeV 3 15 rfl (by kernel_rfl) rfl (by kernel_rfl) (by kernel_rfl) (GY_none rfl) Ent.refl (V_loadR rfl foc1 rfl Try.isAgg97) rfl (fun _ _ _ _ h => h) ?_
    refine AJ_takeP 4 31 rfl (by kernel_rfl) rfl (GY_none rfl) (P_move rfl) rfl (fun _ _ _ _ h => h) ?_
    obtain ⟨hg5, h⟩ := grd_de h
    refine AJ_takeV 5 63 rfl (by kernel_rfl) rfl (by kernel_rfl) (by kernel_rfl) (GY_none rfl) Ent.refl (V_index (i := (r4).toNat) rfl rfl (Int.toNat_of_nonneg (hg5.1)).symm (by have hz : (r4).toNat < x_0_parts.length := (by omega); have hy := hdl1; omega) foc2 (Reads.slR _ _ _) Try.runUnderlying97 Try.sizeOf93) rfl (fun _ _ _ _ h => h) ?_
    refine AJ_ent (Ent.trans (Ent.take del3 Ent.refl) (Rs_at (fun _ _ => Dup_DevP) (dx := dv0) (dh := tyDev.dflt) (i := (r4).toNat) (by omega))) ?_
    refine AJ_takeV 6 127 rfl (by kernel_rfl) rfl (by kernel_rfl) (by kernel_rfl) (GY_none rfl) (Ent.take del2 (Ent.take del2 (Ent.take del2 (Ent.take del1 (Ent.take del1 (Ent.take del1 (Ent.take del1 (Ent.drop Ent.refl)))))))) (V_loadE rfl rfl (by have hz : (r4).toNat < x_0_parts.length := (by omega); have hy := hdl1; omega) foc2 (Reads.slR _ _ _) rfl rfl Try.isAgg93) rfl (fun _ _ _ _ h => h) ?_
    refine AJ_takeV 7 255 rfl (by kernel_rfl) rfl (by kernel_rfl) (by kernel_rfl) (GY_none rfl) (Ent.take del2 (Ent.take del2 (Ent.take del2 (Ent.take del1 (Ent.take del1 (Ent.take del1 (Ent.take del1 (Ent.drop Ent.refl)))))))) (V_load rfl foc5 rfl Try.isAgg3) rfl (fun _ _ _ _ h => h) ?_
    refine AJ_takeP 8 511 rfl (by kernel_rfl) rfl (GY_none rfl) (P_assign rfl) rfl (fun _ _ _ _ h => h) ?_
    refine AJ_takeP 9 1023 rfl (by kernel_rfl) rfl (GY_none rfl) (P_assign rfl) rfl (fun _ _ _ _ h => h) ?_
    refine AJ_done (by kernel_rfl) ?_
    refine QJ_ent (Ent.take del0 (Ent.take del0 (Ent.take del1 (Ent.take del1 (Ent.take del1 (Ent.take del2 (Ent.drop (Ent.drop Ent.refl)))))))) ?_
    refine QJ_then ?_
    refine CJ_ret ?_
    have hE := Option.some.inj h
    subst hE
    refine QJ_end (res2 Try.results103 rfl rfl) ?_
    refine CSpec.close (hsx_0_parts.getD ((r4).toNat) tyDev.dflt) ?_ ?_ (Ent.take del2 (Ent.take del2 (Ent.take del1 (Ent.take del1 (Ent.take del1 Ent.refl)))))
    · rfl
    · trivial
  ·
    replace h := ite_f hg1 h
    refine CJ_skip ?_
    refine QJ_then ?_
    refine CJ_seq ?_
    refine AJ_startH 0 (by kernel_rfl) rfl ?_
    refine AJ_takeV 0 1 rfl (by kernel_rfl) rfl (by kernel_rfl) (by kernel_rfl) (GY_none rfl) Ent.refl (V_load rfl foc0 rfl Try.isAgg136) rfl (fun _ _ _ _ h => h) ?_
    refine AJ_takeP 1 3 rfl (by kernel_rfl) rfl (GY_none rfl) (P_nilCheck rfl) rfl (fun _ _ _ _ h => h) ?_
    refine AJ_takeP 2 7 rfl (by kernel_rfl) rfl (GY_none rfl) (P_fieldAddr rfl ⟨_, _, _, Try.runUnderlying139, rfl, rfl, Try.sizeOf97, rfl⟩) rfl (fun _ _ _ _ h => h) ?_
    refine AJ_takeV 3 15 rfl (by kernel_rfl) rfl (by kernel_rfl) (by kernel_rfl) (GY_none rfl) Ent.refl (V_loadR rfl foc1 rfl Try.isAgg97) rfl (fun _ _ _ _ h => h) ?_
    refine AJ_takeP 4 31 rfl (by kernel_rfl) rfl (GY_none rfl) (P_move rfl) rfl (fun _ _ _ _ h => h) ?_
    obtain ⟨hg6, h⟩ := grd_de h
    refine AJ_takeV 5 63 rfl (by kernel_rfl) rfl (by kernel_rfl) (by kernel_rfl) (GY_none rfl) Ent.refl (V_index (i := (r4).toNat) rfl rfl (Int.toNat_of_nonneg (hg6.1)).symm (by have hz : (r4).toNat < x_0_parts.length := (by omega); have hy := hdl1; omega) foc2 (Reads.slR _ _ _) Try.runUnderlying97 Try.sizeOf93) rfl (fun _ _ _ _ h => h) ?_
    refine AJ_ent (Ent.trans (Ent.take del3 Ent.refl) (Rs_at (fun _ _ => Dup_DevP) (dx := dv0) (dh := tyDev.dflt) (i := (r4).toNat) (by omega))) ?_
    refine AJ_takeV 6 127 rfl (by kernel_rfl) rfl (by kernel_rfl) (by kernel_rfl) (GY_none rfl) (Ent.take del2 (Ent.take del2 (Ent.take del2 (Ent.take del1 (Ent.take del1 (Ent.take del1 (Ent.take del1 (Ent.drop Ent.refl)))))))) (V_loadE rfl rfl (by have hz : (r4).toNat < x_0_parts.length := (by omega); have hy := hdl1; omega) foc2 (Reads.slR _ _ _) rfl rfl Try.isAgg93) rfl (fun _ _ _ _ h => h) ?_
    refine AJ_takeV 7 255 rfl (by kernel_rfl) rfl (by kernel_rfl) (by kernel_rfl) (GY_none rfl) (Ent.take del2 (Ent.take del2 (Ent.take del2 (Ent.take del1 (Ent.take del1 (Ent.take del1 (Ent.take del1 (Ent.drop Ent.refl)))))))) (V_load rfl foc5 rfl Try.isAgg3) rfl (fun _ _ _ _ h => h) ?_
    refine AJ_takeP 8 511 rfl (by kernel_rfl) rfl (GY_none rfl) (P_assign rfl) rfl (fun _ _ _ _ h => h) ?_
    refine AJ_takeP 9 1023 rfl (by kernel_rfl) rfl (GY_none rfl) (P_assign rfl) rfl (fun _ _ _ _ h => h) ?_
    refine AJ_done (by kernel_rfl) ?_
    refine QJ_ent (Ent.take del0 (Ent.take del0 (Ent.take del1 (Ent.take del1 (Ent.take del1 (Ent.take del2 (Ent.drop (Ent.drop Ent.refl)))))))) ?_
    refine QJ_then ?_
    refine CJ_ret ?_
    have hE := Option.some.inj h
    subst hE
    refine QJ_end (res2 Try.results103 rfl rfl) ?_
    refine CSpec.close (hsx_0_parts.getD ((r4).toNat) tyDev.dflt) ?_ ?_ (Ent.take del2 (Ent.take del2 (Ent.take del1 (Ent.take del1 (Ent.take del1 Ent.refl)))))
    · rfl
    · trivial

def dvc_concat_Read (x_0_parts : List Dvc) (x_0_ends : List Int) (at_1 : Int) (s : ArrS) : Option (UInt64 × Int) :=
  Option.bind (block_concat_Size x_0_parts x_0_ends s) fun r2 =>
  Option.bind (block_inside r2 at_1 (1 : Int)) fun r4 =>
  if (¬ r4 = true) then
    some (((0 : UInt64), (1 : Int)))
  else
    Option.bind (block_concat_find x_0_parts x_0_ends at_1 s) fun r6 =>
    Option.bind (Dvc.rd r6.1 s r6.2) fun r11 =>
    some (r11.1, r11.2)

theorem L_dvc_concat_Read {W : World} {bx_0 : Nat} {hdx_0_parts : Sl3} {hsx_0_parts : List IfH} {hdx_0_ends : Sl3} {bs : Nat} {x_0_parts : List Dvc} {x_0_ends : List Int} {at_1 : Int} {s : ArrS} {r : UInt64 × Int} (h : dvc_concat_Read x_0_parts x_0_ends at_1 s = some r) :
    CSpec Try.prog W 100 [ptr bx_0 0, .int .i64 at_1] [blkR bx_0 139 [(Sl3.v hdx_0_parts), (Sl3.v hdx_0_ends)], slR tyDev (Sl3.v hdx_0_parts) hsx_0_parts, Rs (DevP bs) x_0_parts hsx_0_parts, slR tyI (Sl3.v hdx_0_ends) x_0_ends, Arr bs s] (fun x : Unit => .tuple #[.int .u64 (r.1.toNat : Int), .int .i64 r.2]) (fun _ => True) (fun x F => blkR bx_0 139 [(Sl3.v hdx_0_parts), (Sl3.v hdx_0_ends)] :: slR tyDev (Sl3.v hdx_0_parts) hsx_0_parts :: Rs (DevP bs) x_0_parts hsx_0_parts :: slR tyI (Sl3.v hdx_0_ends) x_0_ends :: Arr bs s :: F) := by
  refine CSpec.of_body Try.func100 rfl Try.ntmps100 rfl (fun F => ?_)
  show CJ _ _ _ _ _ _ (_ :: _ :: _ :: _ :: _ :: F)
  unfold dvc_concat_Read at h
  refine CJ_pure (fun h hh => Rs_len (stars_perm (del2 (A := Rs (DevP bs) x_0_parts hsx_0_parts)).out h hh)) (fun hdl1 => ?_)
  refine CJ_seq ?_
  refine CJ_region ?_
  refine RJ_op rfl (OJ_P (P_assign rfl) rfl ?_)
  refine RJ_op rfl (OJ_P (P_assign rfl) rfl ?_)
  refine RJ_nil ?_
  refine QJ_then ?_
  refine CJ_seq ?_
  refine CJ_seq ?_
  refine CJ_region ?_
  refine RJ_op rfl (OJ_P (P_move rfl) rfl ?_)
  obtain ⟨r2, hr3, h⟩ := bind_e h
  refine RJ_op rfl (O_call (L_block_concat_Size hr3) rfl Try.call101 (Dels.cons del0 (Dels.cons del0 (Dels.cons del0 (Dels.cons del0 (Dels.cons del0 Dels.nil))))) rfl (fun _ _ => ?_))
  refine RJ_op rfl (OJ_P (P_move rfl) rfl ?_)
  obtain ⟨r4, hr5, h⟩ := bind_e h
  refine RJ_op rfl (O_call (L_block_inside hr5) rfl Try.call70 Dels.nil rfl (fun _ _ => ?_))
  refine RJ_op rfl (OJ_P (P_not rfl) rfl ?_)
  refine RJ_nil ?_
  refine QJ_then ?_
  refine CJ_condP rfl (bT_not Iff.rfl) (fun hg1 => ?_) (fun hg1 => ?_)
  ·
    replace h := ite_t hg1 h
    refine CJ_seq ?_
    refine CJ_region ?_
    refine RJ_op rfl (OJ_P (P_assign rfl) rfl ?_)
    refine RJ_op rfl (OJ_P (P_assign rfl) rfl ?_)
    refine RJ_nil ?_
    refine QJ_then ?_
    refine CJ_ret ?_
    refine QJ_then_ret ?_
    have hE := Option.some.inj h
    subst hE
    refine QJ_end (res2 Try.results100 rfl rfl) ?_
    refine CSpec.close () ?_ ?_ Ent.refl
    · rfl
    · trivial
  ·
    replace h := ite_f hg1 h
    refine CJ_skip ?_
    refine QJ_then ?_
    refine CJ_seq ?_
    refine CJ_region ?_
    refine RJ_op rfl (OJ_P (P_move rfl) rfl ?_)
    refine RJ_op rfl (OJ_P (P_move rfl) rfl ?_)
    obtain ⟨r6, hr7, h⟩ := bind_e h
    refine RJ_op rfl (O_call (L_block_concat_find hr7) rfl Try.call103 (Dels.cons del0 (Dels.cons del0 (Dels.cons del0 (Dels.cons del0 (Dels.cons del0 Dels.nil))))) rfl (fun X8 _ => ?_))
    refine RJ_op rfl (OJ_P (P_move rfl) rfl ?_)
    refine RJ_op rfl (OJ_P (P_extract rfl rfl) rfl ?_)
    refine RJ_op rfl (OJ_P (P_extract rfl rfl) rfl ?_)
    refine RJ_op rfl (OJ_P (P_assign rfl) rfl ?_)
    refine RJ_op rfl (OJ_P (P_assign rfl) rfl ?_)
    refine RJ_nil ?_
    refine QJ_then ?_
    refine CJ_seq ?_
    refine CJ_region ?_
    refine RJ_op rfl (OJ_P (P_move rfl) rfl ?_)
    refine RJ_op rfl (OJ_P (P_move rfl) rfl ?_)
    refine RJ_pure (fun h hh => DevP_dep h (stars_perm (del5 (A := DevP bs r6.1 X8)).out h hh)) (fun hdp10 => ?_)
    obtain ⟨r11, hr12, h⟩ := bind_e h
    refine RJ_op rfl (O_callI rfl (dev_Read hr12 hdp10) rfl (Dels.cons del5 (Dels.cons del4 Dels.nil)) rfl (fun _ _ => ?_))
    refine RJ_op rfl (OJ_P (P_extract rfl rfl) rfl ?_)
    refine RJ_op rfl (OJ_P (P_extract rfl rfl) rfl ?_)
    refine RJ_op rfl (OJ_P (P_assign rfl) rfl ?_)
    refine RJ_op rfl (OJ_P (P_assign rfl) rfl ?_)
    refine RJ_nil ?_
    refine QJ_then ?_
    refine CJ_ret ?_
    have hE := Option.some.inj h
    subst hE
    refine QJ_end (res2 Try.results100 rfl rfl) ?_
    refine CSpec.close () ?_ ?_ (Ent.take del2 (Ent.take del2 (Ent.take del2 (Ent.take del2 (Ent.take del1 (Ent.drop Ent.refl))))))
    · rfl
    · trivial

def dvc_concat_Write (x_0_parts : List Dvc) (x_0_ends : List Int) (at_1 : Int) (v : UInt64) (s : ArrS) : Option (Int × ArrS) :=
  Option.bind (block_concat_Size x_0_parts x_0_ends s) fun r2 =>
  Option.bind (block_inside r2 at_1 (1 : Int)) fun r4 =>
  if (¬ r4 = true) then
    some (((1 : Int), s))
  else
    Option.bind (block_concat_find x_0_parts x_0_ends at_1 s) fun r6 =>
    Option.bind (Dvc.wr r6.1 s r6.2 v) fun r11 =>
    some (r11.1, r11.2)

theorem L_dvc_concat_Write {W : World} {bx_0 : Nat} {hdx_0_parts : Sl3} {hsx_0_parts : List IfH} {hdx_0_ends : Sl3} {bs : Nat} {x_0_parts : List Dvc} {x_0_ends : List Int} {at_1 : Int} {v : UInt64} {s : ArrS} {r : Int × ArrS} (h : dvc_concat_Write x_0_parts x_0_ends at_1 v s = some r) :
    CSpec Try.prog W 102 [ptr bx_0 0, .int .i64 at_1, .int .u64 (v.toNat : Int)] [blkR bx_0 139 [(Sl3.v hdx_0_parts), (Sl3.v hdx_0_ends)], slR tyDev (Sl3.v hdx_0_parts) hsx_0_parts, Rs (DevP bs) x_0_parts hsx_0_parts, slR tyI (Sl3.v hdx_0_ends) x_0_ends, Arr bs s] (fun x : Unit => .int .i64 r.1) (fun _ => True) (fun x F => blkR bx_0 139 [(Sl3.v hdx_0_parts), (Sl3.v hdx_0_ends)] :: slR tyDev (Sl3.v hdx_0_parts) hsx_0_parts :: Rs (DevP bs) x_0_parts hsx_0_parts :: slR tyI (Sl3.v hdx_0_ends) x_0_ends :: Arr bs r.2 :: F) := by
  refine CSpec.of_body Try.func102 rfl Try.ntmps102 rfl (fun F => ?_)
  show CJ _ _ _ _ _ _ (_ :: _ :: _ :: _ :: _ :: F)
  unfold dvc_concat_Write at h
  refine CJ_pure (fun h hh => Rs_len (stars_perm (del2 (A := Rs (DevP bs) x_0_parts hsx_0_parts)).out h hh)) (fun hdl1 => ?_)
  refine CJ_seq ?_
  refine CJ_region ?_
  refine RJ_op rfl (OJ_P (P_assign rfl) rfl ?_)
  refine RJ_nil ?_
  refine QJ_then ?_
  refine CJ_seq ?_
  refine CJ_seq ?_
  refine CJ_region ?_
  refine RJ_op rfl (OJ_P (P_move rfl) rfl ?_)
  obtain ⟨r2, hr3, h⟩ := bind_e h
  refine RJ_op rfl (O_call (L_block_concat_Size hr3) rfl Try.call101 (Dels.cons del0 (Dels.cons del0 (Dels.cons del0 (Dels.cons del0 (Dels.cons del0 Dels.nil))))) rfl (fun _ _ => ?_))
  refine RJ_op rfl (OJ_P (P_move rfl) rfl ?_)
  obtain ⟨r4, hr5, h⟩ := bind_e h
  refine RJ_op rfl (O_call (L_block_inside hr5) rfl Try.call70 Dels.nil rfl (fun _ _ => ?_))
  refine RJ_op rfl (OJ_P (P_not rfl) rfl ?_)
  refine RJ_nil ?_
  refine QJ_then ?_
  refine CJ_condP rfl (bT_not Iff.rfl) (fun hg1 => ?_) (fun hg1 => ?_)
  ·
    replace h := ite_t hg1 h
    refine CJ_seq ?_
    refine CJ_region ?_
    refine RJ_op rfl (OJ_P (P_assign rfl) rfl ?_)
    refine RJ_nil ?_
    refine QJ_then ?_
    refine CJ_ret ?_
    refine QJ_then_ret ?_
    have hE := Option.some.inj h
    subst hE
    refine QJ_end (res1 Try.results102 rfl) ?_
    refine CSpec.close () ?_ ?_ Ent.refl
    · rfl
    · trivial
  ·
    replace h := ite_f hg1 h
    refine CJ_skip ?_
    refine QJ_then ?_
    refine CJ_seq ?_
    refine CJ_region ?_
    refine RJ_op rfl (OJ_P (P_move rfl) rfl ?_)
    refine RJ_op rfl (OJ_P (P_move rfl) rfl ?_)
    obtain ⟨r6, hr7, h⟩ := bind_e h
    refine RJ_op rfl (O_call (L_block_concat_find hr7) rfl Try.call103 (Dels.cons del0 (Dels.cons del0 (Dels.cons del0 (Dels.cons del0 (Dels.cons del0 Dels.nil))))) rfl (fun X8 _ => ?_))
    refine RJ_op rfl (OJ_P (P_move rfl) rfl ?_)
    refine RJ_op rfl (OJ_P (P_extract rfl rfl) rfl ?_)
    refine RJ_op rfl (OJ_P (P_extract rfl rfl) rfl ?_)
    refine RJ_op rfl (OJ_P (P_assign rfl) rfl ?_)
    refine RJ_op rfl (OJ_P (P_assign rfl) rfl ?_)
    refine RJ_nil ?_
    refine QJ_then ?_
    refine CJ_seq ?_
    refine CJ_region ?_
    refine RJ_op rfl (OJ_P (P_move rfl) rfl ?_)
    refine RJ_op rfl (OJ_P (P_move rfl) rfl ?_)
    refine RJ_op rfl (OJ_P (P_move rfl) rfl ?_)
    refine RJ_pure (fun h hh => DevP_dep h (stars_perm (del5 (A := DevP bs r6.1 X8)).out h hh)) (fun hdp10 => ?_)
    obtain ⟨r11, hr12, h⟩ := bind_e h
    refine RJ_op rfl (O_callI rfl (dev_Write hr12 hdp10) rfl (Dels.cons del5 (Dels.cons del4 Dels.nil)) rfl (fun _ _ => ?_))
    refine RJ_op rfl (OJ_P (P_assign rfl) rfl ?_)
    refine RJ_nil ?_
    refine QJ_then ?_
    refine CJ_ret ?_
    have hE := Option.some.inj h
    subst hE
    refine QJ_end (res1 Try.results102 rfl) ?_
    refine CSpec.close () ?_ ?_ (Ent.take del2 (Ent.take del2 (Ent.take del2 (Ent.take del2 (Ent.take del1 (Ent.drop Ent.refl))))))
    · rfl
    · trivial

def dvc_concat_Flush_l1_b (x_0_parts : List Dvc) (rec : ArrS → Nat → Int → Option (Int × ArrS)) (x8 : ArrS) (x9 : Nat) (x10 : Int) : Option (Int × ArrS) :=
  if (((x9 : Nat) : Int) < ((x_0_parts.length : Nat) : Int)) then
    Option.bind (Dvc.fl (x_0_parts.getD x9 dv0) x8) fun r13 =>
    if (x10 = (0 : Int)) then
      grd (inN64 (x9 + 1)) <|
      rec r13.2 (x9 + 1) r13.1
    else
      grd (inN64 (x9 + 1)) <|
      rec r13.2 (x9 + 1) x10
  else
    some (x10, x8)

def dvc_concat_Flush_l1 (x_0_parts : List Dvc) : Nat → ArrS → Nat → Int → Option (Int × ArrS)
  | 0, _, _, _ => none
  | n + 1, x8, x9, x10 => dvc_concat_Flush_l1_b x_0_parts (dvc_concat_Flush_l1 x_0_parts n) x8 x9 x10

def dvc_concat_Flush (x_0_parts : List Dvc) (x_0_ends : List Int) (s : ArrS) : Option (Int × ArrS) :=
  Option.bind (dvc_concat_Flush_l1 x_0_parts FUEL s 0 (0 : Int)) fun a7 =>
  some (a7.1, a7.2)

theorem L_dvc_concat_Flush {W : World} {bx_0 : Nat} {hdx_0_parts : Sl3} {hsx_0_parts : List IfH} {hdx_0_ends : Sl3} {bs : Nat} {x_0_parts : List Dvc} {x_0_ends : List Int} {s : ArrS} {r : Int × ArrS} (h : dvc_concat_Flush x_0_parts x_0_ends s = some r) :
    CSpec Try.prog W 99 [ptr bx_0 0] [blkR bx_0 139 [(Sl3.v hdx_0_parts), (Sl3.v hdx_0_ends)], slR tyDev (Sl3.v hdx_0_parts) hsx_0_parts, Rs (DevP bs) x_0_parts hsx_0_parts, slR tyI (Sl3.v hdx_0_ends) x_0_ends, Arr bs s] (fun x : Unit => .int .i64 r.1) (fun _ => True) (fun x F => blkR bx_0 139 [(Sl3.v hdx_0_parts), (Sl3.v hdx_0_ends)] :: slR tyDev (Sl3.v hdx_0_parts) hsx_0_parts :: Rs (DevP bs) x_0_parts hsx_0_parts :: slR tyI (Sl3.v hdx_0_ends) x_0_ends :: Arr bs r.2 :: F) := by
  refine CSpec.of_body Try.func99 rfl Try.ntmps99 rfl (fun F => ?_)
  show CJ _ _ _ _ _ _ (_ :: _ :: _ :: _ :: _ :: F)
  unfold dvc_concat_Flush at h
  refine CJ_pure (fun h hh => Rs_len (stars_perm (del2 (A := Rs (DevP bs) x_0_parts hsx_0_parts)).out h hh)) (fun hdl1 => ?_)
  refine CJ_seq ?_
  refine CJ_region ?_
  refine RJ_op rfl (OJ_P (P_assign rfl) rfl ?_)
  refine RJ_nil ?_
  refine QJ_then ?_
  refine CJ_seq ?_
  refine CJ_region ?_
  refine RJ_op rfl (OJ_P (P_assign rfl) rfl ?_)
  refine RJ_nil ?_
  refine QJ_then ?_
  refine CJ_seq ?_
  refine CJ_seq ?_
  refine CJ_region ?_
  refine RJ_op rfl (OJ_P (P_move rfl) rfl ?_)
  refine RJ_op rfl (OJ_P (P_nilCheck rfl) rfl ?_)
  refine RJ_op rfl (OJ_P (P_fieldAddr rfl ⟨_, _, _, Try.runUnderlying139, rfl, rfl, Try.sizeOf97, rfl⟩) rfl ?_)
  refine RJ_op rfl (OJ_V (V_loadR rfl foc0 rfl Try.isAgg97) rfl ?_)
  refine RJ_op rfl (OJ_V (VJ_eq (V_len rfl foc1 (Reads.slR _ _ _) Try.runUnderlying97) (congrArg (fun z : Nat => Value.int .i64 (z : Int)) (hdl1).symm)) rfl ?_)
  refine RJ_op rfl (OJ_P (P_move rfl) rfl ?_)
  refine RJ_nil ?_
  refine QJ_then ?_
  obtain ⟨y4, hl2, hK3⟩ := bind_c h
  refine CJ_cutT (X := Int × ArrS) [3, 5, 6, 12, 13, 14, 15, 16, 17, 18, 19, 20, 21] (fun a7 => ([(3, .int .i64 a7.1)] : Slots)) (fun a7 R => Arr bs a7.2 :: R) (fun a7 => y4 = a7) (Dels.cons del4 Dels.nil) ?_ ?_
  ·
    refine CJ_block ?_
    refine CJ_loopR (X := Nat × ArrS × Nat × Int) [3, 5, 6, 12, 13, 14, 15, 16, 17, 18, 19, 20, 21] (fun ⟨n, x8, x9, x10⟩ => ([(3, .int .i64 x10), (12, .int .i64 (((x9 : Nat) : Int)))] : Slots)) (fun ⟨n, x8, x9, x10⟩ R => Arr bs x8 :: R) (fun ⟨n, x8, x9, x10⟩ => dvc_concat_Flush_l1 x_0_parts n x8 x9 x10 = some y4) (fun ⟨n, x8, x9, x10⟩ => n) ⟨FUEL, s, 0, (0 : Int)⟩ ?_ ?_ (Ent.take del4 Ent.refl) ?_
    · exact hl2
    · exact ⟨rfl, rfl, True.intro⟩
    ·
      rintro ⟨n, x8, x9, x10⟩ h
      cases n with
      | zero => exact none_e h
      | succ n => ?_
      replace h : dvc_concat_Flush_l1_b x_0_parts (dvc_concat_Flush_l1 x_0_parts n) x8 x9 x10 = some y4 := h
      unfold dvc_concat_Flush_l1_b at h
      show CJ _ _ _ _ _ (([(3, .int .i64 x10), (12, .int .i64 (((x9 : Nat) : Int)))] : Slots) ++ forget _ _) (Arr bs x8 :: _)
      refine CJ_seq ?_
      refine CJ_region ?_
      refine RJ_op rfl (OJ_P (P_lss (a := ((x9 : Nat) : Int)) (b := ((x_0_parts.length : Nat) : Int)) rfl rfl) rfl ?_)
      refine RJ_nil ?_
      refine QJ_then ?_
      refine CJ_seq ?_
      refine CJ_condP rfl bT_dec (fun hg1 => ?_) (fun hg1 => ?_)
      ·
        replace h := ite_t hg1 h
        refine CJ_skip ?_
        refine QJ_then ?_
        refine CJ_seq ?_
        refine CJ_block ?_
        refine CJ_seq ?_
        refine CJ_region ?_
        refine RJ_op rfl (OJ_V (V_index (i := x9) rfl rfl rfl (by have hz : x9 < x_0_parts.length := (by omega); have hy := hdl1; omega) foc2 (Reads.slR _ _ _) Try.runUnderlying97 Try.sizeOf93) rfl ?_)
        refine RJ_ent (Ent.trans (Ent.take del3 Ent.refl) (Rs_at (fun _ _ => Dup_DevP) (dx := dv0) (dh := tyDev.dflt) (i := x9) (by omega))) ?_
        refine RJ_op rfl (OJ_V (V_loadE rfl rfl (by have hz : x9 < x_0_parts.length := (by omega); have hy := hdl1; omega) foc4 (Reads.slR _ _ _) rfl rfl Try.isAgg93) rfl ?_)
        refine RJ_op rfl (OJ_P (P_assign rfl) rfl ?_)
        refine RJ_nil ?_
        refine QJ_then ?_
        refine CJ_seq ?_
        refine CJ_region ?_
        refine RJ_op rfl (OJ_P (P_move rfl) rfl ?_)
        refine RJ_pure (fun h hh => DevP_dep h (stars_perm (del0 (A := DevP bs (x_0_parts.getD x9 dv0) (hsx_0_parts.getD x9 tyDev.dflt))).out h hh)) (fun hdp12 => ?_)
        obtain ⟨r13, hr14, h⟩ := bind_e h
        refine RJ_op rfl (O_callI rfl (dev_Flush hr14 hdp12) rfl (Dels.cons del0 (Dels.cons del1 Dels.nil)) rfl (fun _ _ => ?_))
        refine RJ_op rfl (OJ_P (P_assign rfl) rfl ?_)
        refine RJ_nil ?_
        refine QJ_then ?_
        refine CJ_seq ?_
        refine CJ_region ?_
        refine RJ_op rfl (OJ_P (P_move rfl) rfl ?_)
        refine RJ_op rfl (OJ_P (P_eql (a := x10) (b := (0 : Int)) rfl rfl) rfl ?_)
        refine RJ_nil ?_
        refine QJ_then ?_
        refine CJ_condP rfl bT_dec (fun hg2 => ?_) (fun hg2 => ?_)
        ·
          replace h := ite_t hg2 h
          refine CJ_region ?_
          refine RJ_op rfl (OJ_P (P_move rfl) rfl ?_)
          refine RJ_op rfl (OJ_P (P_assign rfl) rfl ?_)
          refine RJ_nil ?_
          refine QJ_block_normal ?_
          refine QJ_then ?_
          refine CJ_region ?_
          obtain ⟨hg3, h⟩ := grd_Ne h
          refine RJ_op rfl (OJ_P (PJ_eq (P_add (a := ((x9 : Nat) : Int)) (b := (1 : Int)) rfl rfl (nat_in hg3)) rfl) rfl ?_)
          refine RJ_op rfl (OJ_P (P_move rfl) rfl ?_)
          refine RJ_nil ?_
          refine QJ_nextR ⟨n, r13.2, (x9 + 1), r13.1⟩ (Nat.lt_succ_self _) ?_ (by repeat (first | exact Kp.base | exact Kp.self | refine Kp.cons rfl ?_ | refine Kp.forget rfl ?_)) ?_ (Ent.take del1 (Ent.take del2 (Ent.take del2 (Ent.take del1 (Ent.take del1 (Ent.drop Ent.refl))))))
          · exact h
          · exact ⟨rfl, rfl, True.intro⟩
        ·
          replace h := ite_f hg2 h
          refine CJ_skip ?_
          refine QJ_block_normal ?_
          refine QJ_then ?_
          refine CJ_region ?_
          obtain ⟨hg4, h⟩ := grd_Ne h
          refine RJ_op rfl (OJ_P (PJ_eq (P_add (a := ((x9 : Nat) : Int)) (b := (1 : Int)) rfl rfl (nat_in hg4)) rfl) rfl ?_)
          refine RJ_op rfl (OJ_P (P_move rfl) rfl ?_)
          refine RJ_nil ?_
          refine QJ_nextR ⟨n, r13.2, (x9 + 1), x10⟩ (Nat.lt_succ_self _) ?_ (by repeat (first | exact Kp.base | exact Kp.self | refine Kp.cons rfl ?_ | refine Kp.forget rfl ?_)) ?_ (Ent.take del1 (Ent.take del2 (Ent.take del2 (Ent.take del1 (Ent.take del1 (Ent.drop Ent.refl))))))
          · exact h
          · exact ⟨rfl, rfl, True.intro⟩
      ·
        replace h := ite_f hg1 h
        refine CJ_exit ?_
        refine QJ_then_exit ?_
        refine QJ_round_exit ?_
        refine QJ_block_here ?_
        refine QJ_cutR (x10, x8) ?_ (by repeat (first | exact Kp.base | exact Kp.self | refine Kp.cons rfl ?_ | refine Kp.forget rfl ?_)) ?_ Ent.refl
        · exact (Option.some.inj h).symm
        · exact ⟨rfl, True.intro⟩
  ·
    rintro a7 hy15
    replace h := bindK_at hK3 hy15
    show CJ _ _ _ _ _ (([(3, .int .i64 a7.1)] : Slots) ++ forget _ _) (Arr bs a7.2 :: _)
    refine CJ_seq ?_
    refine CJ_region ?_
    refine RJ_op rfl (OJ_P (P_move rfl) rfl ?_)
    refine RJ_op rfl (OJ_P (P_assign rfl) rfl ?_)
    refine RJ_nil ?_
    refine QJ_then ?_
    refine CJ_ret ?_
    have hE := Option.some.inj h
    subst hE
    refine QJ_end (res1 Try.results99 rfl) ?_
    refine CSpec.close () ?_ ?_ (Ent.take del1 (Ent.take del1 (Ent.take del1 (Ent.take del1 Ent.refl))))
    · rfl
    · trivial

def Dvc.concat (x_parts : List Dvc) (x_ends : List Int) : Dvc := { dep := 1, size := fun s => dvc_concat_Size x_parts x_ends s, rd := fun s k => dvc_concat_Read x_parts x_ends k s, wr := fun s k v => dvc_concat_Write x_parts x_ends k v s, fl := fun s => dvc_concat_Flush x_parts x_ends s }
theorem ok_Dvc_concat {a : Nat} {bx : Nat} {hdx_parts : Sl3} {hsx_parts : List IfH} {hdx_ends : Sl3} {x_parts : List Dvc} {x_ends : List Int} : DevOk a (Dvc.concat x_parts x_ends) ⟨136, ptr bx 0⟩ (starX [blkR bx 139 [(Sl3.v hdx_parts), (Sl3.v hdx_ends)], slR tyDev (Sl3.v hdx_parts) hsx_parts, Rs (DevP a) x_parts hsx_parts, slR tyI (Sl3.v hdx_ends) x_ends]) where
  dup := Dup.starX (by intro A hA; simp only [List.mem_cons, List.not_mem_nil, or_false] at hA; rcases hA with rfl | rfl | rfl | rfl; exact Dup.blkR; exact Dup.slR; exact Dup_Rs (fun _ _ => Dup_DevP); exact Dup.slR)
  dep := by simp [Dvc.concat]
  nil := fun n hn w => by
    obtain ⟨m, rfl⟩ : ∃ m, n = m + 1 := ⟨n - 1, by omega⟩
    kernel_rfl
  size := fun {W s r} e => IOk.conseq (G := []) (IOk.of (fun n w => by kernel_rfl) Try.call101 (L_dvc_concat_Size e)) (fun F => Ent.starE (Ent.take del0 (Ent.take del0 (Ent.take del0 (Ent.take del0 (Ent.take del0 Ent.refl)))))) (fun _ F => Ent.starI (Ent.take del0 (Ent.take del0 (Ent.take del0 (Ent.take del0 (Ent.take del0 Ent.refl))))))
  rd := fun {W s k r} e => IOk.conseq (G := []) (IOk.of (fun n w => by kernel_rfl) Try.call100 (L_dvc_concat_Read e)) (fun F => Ent.starE (Ent.take del0 (Ent.take del0 (Ent.take del0 (Ent.take del0 (Ent.take del0 Ent.refl)))))) (fun _ F => Ent.starI (Ent.take del0 (Ent.take del0 (Ent.take del0 (Ent.take del0 (Ent.take del0 Ent.refl))))))
  wr := fun {W s k v r} e => IOk.conseq (G := []) (IOk.of (fun n w => by kernel_rfl) Try.call102 (L_dvc_concat_Write e)) (fun F => Ent.starE (Ent.take del0 (Ent.take del0 (Ent.take del0 (Ent.take del0 (Ent.take del0 Ent.refl)))))) (fun _ F => Ent.starI (Ent.take del0 (Ent.take del0 (Ent.take del0 (Ent.take del0 (Ent.take del0 Ent.refl))))))
  fl := fun {W s r} e => IOk.conseq (G := []) (IOk.of (fun n w => by kernel_rfl) Try.call99 (L_dvc_concat_Flush e)) (fun F => Ent.starE (Ent.take del0 (Ent.take del0 (Ent.take del0 (Ent.take del0 (Ent.take del0 Ent.refl)))))) (fun _ F => Ent.starI (Ent.take del0 (Ent.take del0 (Ent.take del0 (Ent.take del0 (Ent.take del0 Ent.refl))))))

def dvc_window_Size (x_0_Device : Dvc) (x_0_start : Int) (x_0_length : Int) (s : ArrS) : Option (Int) :=
  some x_0_length

theorem L_dvc_window_Size {W : World} {bx_0 : Nat} {vx_0_Device : IfH} {bs : Nat} {x_0_Device : Dvc} {x_0_start : Int} {x_0_length : Int} {s : ArrS} {r : Int} (h : dvc_window_Size x_0_Device x_0_start x_0_length s = some r) :
    CSpec Try.prog W 107 [ptr bx_0 0] [blkR bx_0 144 [IfH.v vx_0_Device, .int .i64 x_0_start, .int .i64 x_0_length], DevP bs x_0_Device vx_0_Device, Arr bs s] (fun x : Unit => .int .i64 r) (fun _ => True) (fun x F => blkR bx_0 144 [IfH.v vx_0_Device, .int .i64 x_0_start, .int .i64 x_0_length] :: DevP bs x_0_Device vx_0_Device :: Arr bs s :: F) := by
  refine CSpec.of_body Try.func107 rfl Try.ntmps107 rfl (fun F => ?_)
  show CJ _ _ _ _ _ _ (_ :: _ :: _ :: F)
  unfold dvc_window_Size at h
  refine CJ_seq ?_
  refine CJ_region ?_
  refine RJ_op rfl (OJ_P (P_assign rfl) rfl ?_)
  refine RJ_nil ?_
  refine QJ_then ?_
  refine CJ_seq ?_
  refine CJ_region ?_
  refine RJ_op rfl (OJ_P (P_move rfl) rfl ?_)
  refine RJ_op rfl (OJ_P (P_nilCheck rfl) rfl ?_)
  refine RJ_op rfl (OJ_P (P_fieldAddr rfl ⟨_, _, _, Try.runUnderlying144, rfl, rfl, Try.sizeOf3, rfl⟩) rfl ?_)
  refine RJ_op rfl (OJ_V (V_loadR rfl foc0 rfl Try.isAgg3) rfl ?_)
  refine RJ_op rfl (OJ_P (P_assign rfl) rfl ?_)
  refine RJ_nil ?_
  refine QJ_then ?_
  refine CJ_ret ?_
  have hE := Option.some.inj h
  subst hE
  refine QJ_end (res1 Try.results107 rfl) ?_
  refine CSpec.close () ?_ ?_ Ent.refl
  · rfl
  · trivial

def dvc_window_Read (x_0_Device : Dvc) (x_0_start : Int) (x_0_length : Int) (at_1 : Int) (s : ArrS) : Option (UInt64 × Int) :=
  Option.bind (block_inside x_0_length at_1 (1 : Int)) fun r1 =>
  if (¬ r1 = true) then
    some (((0 : UInt64), (1 : Int)))
  else
    grd (inI64 (x_0_start + at_1)) <|
    Option.bind (Dvc.rd x_0_Device s (x_0_start + at_1)) fun r4 =>
    some (r4.1, r4.2)

theorem L_dvc_window_Read {W : World} {bx_0 : Nat} {vx_0_Device : IfH} {bs : Nat} {x_0_Device : Dvc} {x_0_start : Int} {x_0_length : Int} {at_1 : Int} {s : ArrS} {r : UInt64 × Int} (h : dvc_window_Read x_0_Device x_0_start x_0_length at_1 s = some r) :
    CSpec Try.prog W 106 [ptr bx_0 0, .int .i64 at_1] [blkR bx_0 144 [IfH.v vx_0_Device, .int .i64 x_0_start, .int .i64 x_0_length], DevP bs x_0_Device vx_0_Device, Arr bs s] (fun x : Unit => .tuple #[.int .u64 (r.1.toNat : Int), .int .i64 r.2]) (fun _ => True) (fun x F => blkR bx_0 144 [IfH.v vx_0_Device, .int .i64 x_0_start, .int .i64 x_0_length] :: DevP bs x_0_Device vx_0_Device :: Arr bs s :: F) := by
  refine CSpec.of_body Try.func106 rfl Try.ntmps106 rfl (fun F => ?_)
  show CJ _ _ _ _ _ _ (_ :: _ :: _ :: F)
  unfold dvc_window_Read at h
  refine CJ_seq ?_
  refine CJ_region ?_
  refine RJ_op rfl (OJ_P (P_assign rfl) rfl ?_)
  refine RJ_op rfl (OJ_P (P_assign rfl) rfl ?_)
  refine RJ_nil ?_
  refine QJ_then ?_
  refine CJ_seq ?_
  refine CJ_seq ?_
  refine CJ_region ?_
  refine RJ_op rfl (OJ_P (P_move rfl) rfl ?_)
  refine RJ_op rfl (OJ_P (P_nilCheck rfl) rfl ?_)
  refine RJ_op rfl (OJ_P (P_fieldAddr rfl ⟨_, _, _, Try.runUnderlying144, rfl, rfl, Try.sizeOf3, rfl⟩) rfl ?_)
  refine RJ_op rfl (OJ_V (V_loadR rfl foc0 rfl Try.isAgg3) rfl ?_)
  refine RJ_op rfl (OJ_P (P_move rfl) rfl ?_)
  obtain ⟨r1, hr2, h⟩ := bind_e h
  refine RJ_op rfl (O_call (L_block_inside hr2) rfl Try.call70 Dels.nil rfl (fun _ _ => ?_))
  refine RJ_op rfl (OJ_P (P_not rfl) rfl ?_)
  refine RJ_nil ?_
  refine QJ_then ?_
  refine CJ_condP rfl (bT_not Iff.rfl) (fun hg1 => ?_) (fun hg1 => ?_)
  ·
    replace h := ite_t hg1 h
    refine CJ_seq ?_
    refine CJ_region ?_
    refine RJ_op rfl (OJ_P (P_assign rfl) rfl ?_)
    refine RJ_op rfl (OJ_P (P_assign rfl) rfl ?_)
    refine RJ_nil ?_
    refine QJ_then ?_
    refine CJ_ret ?_
    refine QJ_then_ret ?_
    have hE := Option.some.inj h
    subst hE
    refine QJ_end (res2 Try.results106 rfl rfl) ?_
    refine CSpec.close () ?_ ?_ Ent.refl
    · rfl
    · trivial
  ·
    replace h := ite_f hg1 h
    refine CJ_skip ?_
    refine QJ_then ?_
    refine CJ_seq ?_
    refine AJ_startH 4096 (by kernel_rfl) rfl ?_
    refine AJ_takeP 0 1 rfl (by kernel_rfl) rfl (GY_none rfl) (P_move rfl) rfl (fun _ _ _ _ h => h) ?_
    refine AJ_takeP 1 3 rfl (by kernel_rfl) rfl (GY_none rfl) (P_nilCheck rfl) rfl (fun _ _ _ _ h => h) ?_
    refine AJ_takeP 2 7 rfl (by kernel_rfl) rfl (GY_none rfl) (P_fieldAddr rfl ⟨_, _, _, Try.runUnderlying144, rfl, rfl, Try.sizeOf93, rfl⟩) rfl (fun _ _ _ _ h => h) ?_
    refine AJ_takeV 3 15 rfl (by kernel_rfl) rfl (by kernel_rfl) (by kernel_rfl) (GY_none rfl) Ent.refl (V_loadR rfl foc0 rfl Try.isAgg93) rfl (fun _ _ _ _ h => h) ?_
    refine AJ_takeP 4 31 rfl (by kernel_rfl) rfl (GY_none rfl) (P_move rfl) rfl (fun _ _ _ _ h => h) ?_
    refine AJ_takeP 5 63 rfl (by kernel_rfl) rfl (GY_none rfl) (P_nilCheck rfl) rfl (fun _ _ _ _ h => h) ?_
    refine AJ_takeP 6 127 rfl (by kernel_rfl) rfl (GY_none rfl) (P_fieldAddr rfl ⟨_, _, _, Try.runUnderlying144, rfl, rfl, Try.sizeOf3, rfl⟩) rfl (fun _ _ _ _ h => h) ?_
    refine AJ_takeV 7 255 rfl (by kernel_rfl) rfl (by kernel_rfl) (by kernel_rfl) (GY_none rfl) Ent.refl (V_loadR rfl foc0 rfl Try.isAgg3) rfl (fun _ _ _ _ h => h) ?_
    refine AJ_takeP 8 511 rfl (by kernel_rfl) rfl (GY_none rfl) (P_move rfl) rfl (fun _ _ _ _ h => h) ?_
    obtain ⟨hg2, h⟩ := grd_Ie h
    refine AJ_takeP 9 1023 rfl (by kernel_rfl) rfl (GY_none rfl) (P_add (a := x_0_start) (b := at_1) rfl rfl hg2) rfl (fun _ _ _ _ h => h) ?_
    refine AJ_takeP 10 2047 rfl (by kernel_rfl) rfl (GY_none rfl) (P_nilCheckI rfl) rfl (fun _ _ _ _ h => h) ?_
    refine AJ_takeP 11 4095 rfl (by kernel_rfl) rfl (GY_none rfl) (P_move rfl) rfl (fun _ _ _ _ h => h) ?_
    refine AJ_pure (fun h hh => DevP_dep h (stars_perm (del1 (A := DevP bs x_0_Device vx_0_Device)).out h hh)) (fun hdp3 => ?_)
    obtain ⟨r4, hr5, h⟩ := bind_e h
    refine AJ_op 12 8191 rfl (by kernel_rfl) rfl (GY_none rfl) (O_callI rfl (dev_Read hr5 hdp3) rfl (Dels.cons del1 (Dels.cons del1 Dels.nil)) rfl (fun _ _ => ?_))
    refine ⟨fun h => absurd h (by decide), ?_⟩
    refine AJ_takeP 13 16383 rfl (by kernel_rfl) rfl (GY_none rfl) (P_extract rfl rfl) rfl (fun _ _ _ _ h => h) ?_
    refine AJ_takeP 14 32767 rfl (by kernel_rfl) rfl (GY_none rfl) (P_extract rfl rfl) rfl (fun _ _ _ _ h => h) ?_
    refine AJ_takeP 15 65535 rfl (by kernel_rfl) rfl (GY_none rfl) (P_assign rfl) rfl (fun _ _ _ _ h => h) ?_
    refine AJ_takeP 16 131071 rfl (by kernel_rfl) rfl (GY_none rfl) (P_assign rfl) rfl (fun _ _ _ _ h => h) ?_
    refine AJ_done (by kernel_rfl) ?_
    refine QJ_then ?_
    refine CJ_ret ?_
    have hE := Option.some.inj h
    subst hE
    refine QJ_end (res2 Try.results106 rfl rfl) ?_
    refine CSpec.close () ?_ ?_ (Ent.take del2 Ent.refl)
    · rfl
    · trivial

def dvc_window_Write (x_0_Device : Dvc) (x_0_start : Int) (x_0_length : Int) (at_1 : Int) (v : UInt64) (s : ArrS) : Option (Int × ArrS) :=
  Option.bind (block_inside x_0_length at_1 (1 : Int)) fun r1 =>
  if (¬ r1 = true) then
    some (((1 : Int), s))
  else
    grd (inI64 (x_0_start + at_1)) <|
    Option.bind (Dvc.wr x_0_Device s (x_0_start + at_1) v) fun r4 =>
    some (r4.1, r4.2)

theorem L_dvc_window_Write {W : World} {bx_0 : Nat} {vx_0_Device : IfH} {bs : Nat} {x_0_Device : Dvc} {x_0_start : Int} {x_0_length : Int} {at_1 : Int} {v : UInt64} {s : ArrS} {r : Int × ArrS} (h : dvc_window_Write x_0_Device x_0_start x_0_length at_1 v s = some r) :
    CSpec Try.prog W 108 [ptr bx_0 0, .int .i64 at_1, .int .u64 (v.toNat : Int)] [blkR bx_0 144 [IfH.v vx_0_Device, .int .i64 x_0_start, .int .i64 x_0_length], DevP bs x_0_Device vx_0_Device, Arr bs s] (fun x : Unit => .int .i64 r.1) (fun _ => True) (fun x F => blkR bx_0 144 [IfH.v vx_0_Device, .int .i64 x_0_start, .int .i64 x_0_length] :: DevP bs x_0_Device vx_0_Device :: Arr bs r.2 :: F) := by
  refine CSpec.of_body Try.func108 rfl Try.ntmps108 rfl (fun F => ?_)
  show CJ _ _ _ _ _ _ (_ :: _ :: _ :: F)
  unfold dvc_window_Write at h
  refine CJ_seq ?_
  refine CJ_region ?_
  refine RJ_op rfl (OJ_P (P_assign rfl) rfl ?_)
  refine RJ_nil ?_
  refine QJ_then ?_
  refine CJ_seq ?_
  refine CJ_seq ?_
  refine CJ_region ?_
  refine RJ_op rfl (OJ_P (P_move rfl) rfl ?_)
  refine RJ_op rfl (OJ_P (P_nilCheck rfl) rfl ?_)
  refine RJ_op rfl (OJ_P (P_fieldAddr rfl ⟨_, _, _, Try.runUnderlying144, rfl, rfl, Try.sizeOf3, rfl⟩) rfl ?_)
  refine RJ_op rfl (OJ_V (V_loadR rfl foc0 rfl Try.isAgg3) rfl ?_)
  refine RJ_op rfl (OJ_P (P_move rfl) rfl ?_)
  obtain ⟨r1, hr2, h⟩ := bind_e h
  refine RJ_op rfl (O_call (L_block_inside hr2) rfl Try.call70 Dels.nil rfl (fun _ _ => ?_))
  refine RJ_op rfl (OJ_P (P_not rfl) rfl ?_)
  refine RJ_nil ?_
  refine QJ_then ?_
  refine CJ_condP rfl (bT_not Iff.rfl) (fun hg1 => ?_) (fun hg1 => ?_)
  ·
    replace h := ite_t hg1 h
    refine CJ_seq ?_
    refine CJ_region ?_
    refine RJ_op rfl (OJ_P (P_assign rfl) rfl ?_)
    refine RJ_nil ?_
    refine QJ_then ?_
    refine CJ_ret ?_
    refine QJ_then_ret ?_
    have hE := Option.some.inj h
    subst hE
    refine QJ_end (res1 Try.results108 rfl) ?_
    refine CSpec.close () ?_ ?_ Ent.refl
    · rfl
    · trivial
  ·
    replace h := ite_f hg1 h
    refine CJ_skip ?_
    refine QJ_then ?_
    refine CJ_seq ?_
    refine AJ_startH 8192 (by kernel_rfl) rfl ?_
    refine AJ_takeP 0 1 rfl (by kernel_rfl) rfl (GY_none rfl) (P_move rfl) rfl (fun _ _ _ _ h => h) ?_
    refine AJ_takeP 1 3 rfl (by kernel_rfl) rfl (GY_none rfl) (P_nilCheck rfl) rfl (fun _ _ _ _ h => h) ?_
    refine AJ_takeP 2 7 rfl (by kernel_rfl) rfl (GY_none rfl) (P_fieldAddr rfl ⟨_, _, _, Try.runUnderlying144, rfl, rfl, Try.sizeOf93, rfl⟩) rfl (fun _ _ _ _ h => h) ?_
    refine AJ_takeV 3 15 rfl (by kernel_rfl) rfl (by kernel_rfl) (by kernel_rfl) (GY_none rfl) Ent.refl (V_loadR rfl foc0 rfl Try.isAgg93) rfl (fun _ _ _ _ h => h) ?_
    refine AJ_takeP 4 31 rfl (by kernel_rfl) rfl (GY_none rfl) (P_move rfl) rfl (fun _ _ _ _ h => h) ?_
    refine AJ_takeP 5 63 rfl (by kernel_rfl) rfl (GY_none rfl) (P_nilCheck rfl) rfl (fun _ _ _ _ h => h) ?_
    refine AJ_takeP 6 127 rfl (by kernel_rfl) rfl (GY_none rfl) (P_fieldAddr rfl ⟨_, _, _, Try.runUnderlying144, rfl, rfl, Try.sizeOf3, rfl⟩) rfl (fun _ _ _ _ h => h) ?_
    refine AJ_takeV 7 255 rfl (by kernel_rfl) rfl (by kernel_rfl) (by kernel_rfl) (GY_none rfl) Ent.refl (V_loadR rfl foc0 rfl Try.isAgg3) rfl (fun _ _ _ _ h => h) ?_
    refine AJ_takeP 8 511 rfl (by kernel_rfl) rfl (GY_none rfl) (P_move rfl) rfl (fun _ _ _ _ h => h) ?_
    obtain ⟨hg2, h⟩ := grd_Ie h
    refine AJ_takeP 9 1023 rfl (by kernel_rfl) rfl (GY_none rfl) (P_add (a := x_0_start) (b := at_1) rfl rfl hg2) rfl (fun _ _ _ _ h => h) ?_
    refine AJ_takeP 10 2047 rfl (by kernel_rfl) rfl (GY_none rfl) (P_move rfl) rfl (fun _ _ _ _ h => h) ?_
    refine AJ_takeP 11 4095 rfl (by kernel_rfl) rfl (GY_none rfl) (P_nilCheckI rfl) rfl (fun _ _ _ _ h => h) ?_
    refine AJ_takeP 12 8191 rfl (by kernel_rfl) rfl (GY_none rfl) (P_move rfl) rfl (fun _ _ _ _ h => h) ?_
    refine AJ_pure (fun h hh => DevP_dep h (stars_perm (del1 (A := DevP bs x_0_Device vx_0_Device)).out h hh)) (fun hdp3 => ?_)
    obtain ⟨r4, hr5, h⟩ := bind_e h
    refine AJ_op 13 16383 rfl (by kernel_rfl) rfl (GY_none rfl) (O_callI rfl (dev_Write hr5 hdp3) rfl (Dels.cons del1 (Dels.cons del1 Dels.nil)) rfl (fun _ _ => ?_))
    refine ⟨fun h => absurd h (by decide), ?_⟩
    refine AJ_takeP 14 32767 rfl (by kernel_rfl) rfl (GY_none rfl) (P_assign rfl) rfl (fun _ _ _ _ h => h) ?_
    refine AJ_done (by kernel_rfl) ?_
    refine QJ_then ?_
    refine CJ_ret ?_
    have hE := Option.some.inj h
    subst hE
    refine QJ_end (res1 Try.results108 rfl) ?_
    refine CSpec.close () ?_ ?_ (Ent.take del2 Ent.refl)
    · rfl
    · trivial

def Dvc.window (x_Device : Dvc) (x_start : Int) (x_length : Int) : Dvc := { dep := (Dvc.dep x_Device + 1), size := fun s => dvc_window_Size x_Device x_start x_length s, rd := fun s k => dvc_window_Read x_Device x_start x_length k s, wr := fun s k v => dvc_window_Write x_Device x_start x_length k v s, fl := x_Device.fl }
theorem prom_window_Flush {W : World} {a : Nat} {bx : Nat} {vx_Device : IfH} {x_Device : Dvc} {x_start : Int} {x_length : Int} {R F : List HP} (n : Nat) (w : World) (hs : St W w ((starX [blkR bx 144 [IfH.v vx_Device, .int .i64 x_start, .int .i64 x_length], DevP a x_Device vx_Device] :: R) ++ F)) : (method (n + 1) 142 (ptr bx 0) "Flush").run Try.prog w = (method n (IfH.t vx_Device) (IfH.u vx_Device) "Flush").run Try.prog w := by
  have hs2 : St W w (blkR bx 144 [IfH.v vx_Device, .int .i64 x_start, .int .i64 x_length] :: _) := hs.imp (Ent.starE Ent.refl)
  have hc := cell_of_blk (i := 0) hs2.blkR
  have hl := run_loadVar1 (P := Try.prog) (T := 93) (a := ⟨bx, 0, none⟩) (v := IfH.v vx_Device) (Try.isAgg93 w) (by rw [hc]; rfl)
  have hm : (method (n + 1) 142 (ptr bx 0) "Flush").run Try.prog w = ((loadVar 93 ⟨bx, 0, none⟩ >>= fun y => match y with | .iface t' v' => method n t' v' "Flush" | .nilIface => runtimePanic .nilDeref | _ => stuck "method row: interface value expected" : Sem (FuncId × Value))).run Try.prog w := by kernel_rfl
  rw [hm]; simp only [Sem.run_bind, hl, Result.andThen_ok]
theorem ok_Dvc_window {a : Nat} {bx : Nat} {vx_Device : IfH} {x_Device : Dvc} {x_start : Int} {x_length : Int} (hd : Dvc.dep x_Device + 1 ≤ 60) : DevOk a (Dvc.window x_Device x_start x_length) ⟨142, ptr bx 0⟩ (starX [blkR bx 144 [IfH.v vx_Device, .int .i64 x_start, .int .i64 x_length], DevP a x_Device vx_Device]) where
  dup := Dup.starX (by intro A hA; simp only [List.mem_cons, List.not_mem_nil, or_false] at hA; rcases hA with rfl | rfl; exact Dup.blkR; exact Dup_DevP)
  dep := by simpa [Dvc.window] using hd
  nil := fun n hn w => by
    obtain ⟨m, rfl⟩ : ∃ m, n = m + 1 := ⟨n - 1, by omega⟩
    kernel_rfl
  size := fun {W s r} e => IOk.conseq (G := []) (IOk.of (fun n w => by kernel_rfl) Try.call107 (L_dvc_window_Size e)) (fun F => Ent.starE (Ent.take del0 (Ent.take del0 (Ent.take del0 Ent.refl)))) (fun _ F => Ent.starI (Ent.take del0 (Ent.take del0 (Ent.take del0 Ent.refl))))
  rd := fun {W s k r} e => IOk.conseq (G := []) (IOk.of (fun n w => by kernel_rfl) Try.call106 (L_dvc_window_Read e)) (fun F => Ent.starE (Ent.take del0 (Ent.take del0 (Ent.take del0 Ent.refl)))) (fun _ F => Ent.starI (Ent.take del0 (Ent.take del0 (Ent.take del0 Ent.refl))))
  wr := fun {W s k v r} e => IOk.conseq (G := []) (IOk.of (fun n w => by kernel_rfl) Try.call108 (L_dvc_window_Write e)) (fun F => Ent.starE (Ent.take del0 (Ent.take del0 (Ent.take del0 Ent.refl)))) (fun _ F => Ent.starI (Ent.take del0 (Ent.take del0 (Ent.take del0 Ent.refl))))
  fl := fun {W s r} e => IOk.prom (h' := vx_Device) (fun n F w hs => prom_window_Flush n w hs) (IOk.conseq (G := [blkR bx 144 [IfH.v vx_Device, .int .i64 x_start, .int .i64 x_length]]) (DevP_E fun _ hk => hk.fl e) (fun F => Ent.starE (Ent.take del1 (Ent.take del1 (Ent.take del0 Ent.refl)))) (fun _ F => Ent.starI (Ent.take del2 (Ent.take del0 (Ent.take del0 Ent.refl)))))

end Go.Proofs
