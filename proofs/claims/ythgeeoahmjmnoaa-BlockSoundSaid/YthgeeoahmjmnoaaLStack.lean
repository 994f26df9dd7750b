/- YthgeeoahmjmnoaaLStack: lifted functions of the program; printed by lift.py. -/
import Derived.Test.YthgeeoahmjmnoaaLTrk
set_option linter.unusedSimpArgs false
set_option linter.unusedVariables false
set_option maxRecDepth 20000
set_option maxHeartbeats 4000000
namespace Go.Proofs
open Go.VG

@[ext] structure volumegroupmake_Step where
  Kind : Int
  At : Int
  Value : UInt64
  Keep : UInt64
  deriving DecidableEq
abbrev tyvolumegroupmake_Step : Ty volumegroupmake_Step := { T := 142, sz := 4, enc := fun x => [.int .i64 x.Kind, .int .i64 x.At, .int .u64 (x.Value.toNat : Int), .int .u64 (x.Keep.toNat : Int)], dflt := ⟨0, 0, 0, 0⟩, len := fun _ => rfl, one := fun _ => rfl, pos := by decide }
theorem ok_tyvolumegroupmake_Step : ElemOk Try.prog tyvolumegroupmake_Step 32 := ⟨Try.t142, .agg #[.int .i64 0, .int .i64 0, .int .u64 0, .int .u64 0], by kernel_rfl, rfl, rfl, rfl, rfl⟩

@[ext] structure volumegrouplaw05_span where
  d : Int
  start : Int
  length : Int
  deriving DecidableEq
abbrev tyvolumegrouplaw05_span : Ty volumegrouplaw05_span := { T := 138, sz := 3, enc := fun x => [.int .i64 x.d, .int .i64 x.start, .int .i64 x.length], dflt := ⟨0, 0, 0⟩, len := fun _ => rfl, one := fun _ => rfl, pos := by decide }
theorem ok_tyvolumegrouplaw05_span : ElemOk Try.prog tyvolumegrouplaw05_span 24 := ⟨Try.t138, .agg #[.int .i64 0, .int .i64 0, .int .i64 0], by kernel_rfl, rfl, rfl, rfl, rfl⟩

theorem bs_27_3_0_1_2 (v0 : (Option Addr)) (v1 : Nat) (v2 : Nat) (v3 : (Option Addr)) (v4 : Nat) (v5 : Nat) (v6 : (Option Addr)) (v7 : Nat) (v8 : Nat) : BuildsSlice Try.prog 27 3 [(0, .slice v0 v1 v2), (1, .slice v3 v4 v5), (2, .slice v6 v7 v8)] 25 [.slice v0 v1 v2, .slice v3 v4 v5, .slice v6 v7 v8] := fun w => by kernel_rfl
theorem bld_169_0 (v0 : (Option Addr)) (v1 : Nat) (v2 : Nat) : ∀ w, (Instr.build 169 (#[(0, .slice v0 v1 v2)] : Array (Nat × Value))).run Try.prog w = .ok (.agg #[.slice v0 v1 v2, .int .i64 (0 : Int)]) w := fun w => by kernel_rfl
theorem bs_58_3_0_1_2 (v0 : Int) (v1 : Int) (v2 : Int) : BuildsSlice Try.prog 58 3 [(0, .int .i64 v0), (1, .int .i64 v1), (2, .int .i64 v2)] 3 [.int .i64 v0, .int .i64 v1, .int .i64 v2] := fun w => by kernel_rfl
theorem bld_138_0_1_2 (v0 : Int) (v1 : Int) (v2 : Int) : ∀ w, (Instr.build 138 (#[(0, .int .i64 v0), (1, .int .i64 v1), (2, .int .i64 v2)] : Array (Nat × Value))).run Try.prog w = .ok (.agg #[.int .i64 v0, .int .i64 v1, .int .i64 v2]) w := fun w => by kernel_rfl
theorem bs_135_1_0 (v0 : Int) (v1 : Int) (v2 : Int) : BuildsSlice Try.prog 135 1 [(0, .agg #[.int .i64 v0, .int .i64 v1, .int .i64 v2])] 138 [.int .i64 v0, .int .i64 v1, .int .i64 v2] := fun w => by kernel_rfl
def volumegroupmake_Few (l : List volumegroupmake_Step) : Option (Bool) :=
  some ((decide (((l.length : Nat) : Int) ≤ (24 : Int))))

theorem L_volumegroupmake_Few {W : World} {Al : HP} {vl : Value} {l : List volumegroupmake_Step} {r : Bool} (rl : Reads Al tyvolumegroupmake_Step vl l) (h : volumegroupmake_Few l = some r) :
    CSpec Try.prog W 30 [vl] [Al] (fun x : Unit => .bool r) (fun _ => True) (fun x F => Al :: F) := by
  refine CSpec.of_body Try.func30 rfl Try.ntmps30 rfl (fun F => ?_)
  show CJ _ _ _ _ _ _ (_ :: F)
  unfold volumegroupmake_Few at h
  refine CJ_pure (len_of rl del0) (fun hlen1 => ?_)
  refine CJ_seq ?_
  refine CJ_region ?_
  refine RJ_op rfl (OJ_P (P_assign rfl) rfl ?_)
  refine RJ_nil ?_
  refine QJ_then ?_
  refine CJ_seq ?_
  refine CJ_region ?_
  refine RJ_op rfl (OJ_P (P_move rfl) rfl ?_)
  refine RJ_op rfl (OJ_V (V_len rfl foc0 rl Try.runUnderlying59) rfl ?_)
  refine RJ_op rfl (OJ_P (P_leq (a := ((l.length : Nat) : Int)) (b := (24 : Int)) rfl rfl) rfl ?_)
  refine RJ_op rfl (OJ_P (P_assign rfl) rfl ?_)
  refine RJ_nil ?_
  refine QJ_then ?_
  refine CJ_ret ?_
  have hE := Option.some.inj h
  subst hE
  refine QJ_end (res1 Try.results30 rfl) ?_
  refine CSpec.close () ?_ ?_ (Ent.take del0 Ent.refl)
  · rfl
  · trivial

def volumegroupmake_New (l : List Int) : Option ((List Int) × Nat) :=
  if ((1000 : Int) < ((l.length : Nat) : Int)) then
    some ((((l.take 1000).drop 0), 0))
  else
    some (l, 0)

theorem L_volumegroupmake_New {W : World} {Al : HP} {vl : Value} {l : List Int} {r : (List Int) × Nat} (rl : Reads Al tyI vl l) (h : volumegroupmake_New l = some r) :
    CSpec Try.prog W 74 [vl] [Al] (fun x : Nat × Value => ptr x.1 0) (fun _ => True) (fun x F => Al :: blk x.1 169 [x.2, .int .i64 (((r.2 : Nat) : Int))] :: pur (Reads Al tyI x.2 r.1) :: F) := by
  refine CSpec.of_body Try.func74 rfl Try.ntmps74 rfl (fun F => ?_)
  show CJ _ _ _ _ _ _ (_ :: F)
  unfold volumegroupmake_New at h
  refine CJ_pure (len_of rl del0) (fun hlen1 => ?_)
  refine CJ_seq ?_
  refine CJ_region ?_
  refine RJ_op rfl (OJ_P (P_assign rfl) rfl ?_)
  refine RJ_nil ?_
  refine QJ_then ?_
  refine CJ_seq ?_
  refine CJ_seq ?_
  refine CJ_region ?_
  refine RJ_op rfl (OJ_P (P_move rfl) rfl ?_)
  refine RJ_op rfl (OJ_V (V_len rfl foc0 rl Try.runUnderlying58) rfl ?_)
  refine RJ_op rfl (OJ_P (P_gtr (a := ((l.length : Nat) : Int)) (b := (1000 : Int)) rfl rfl) rfl ?_)
  refine RJ_nil ?_
  refine QJ_then ?_
  refine CJ_condP rfl bT_dec (fun hg1 => ?_) (fun hg1 => ?_)
  ·
    replace h := ite_t hg1 h
    refine CJ_region ?_
    refine RJ_op rfl (OJ_P (P_move rfl) rfl ?_)
    refine RJ_op rfl (OJ_V (V_slice (l := 0) (h := 1000) rfl foc0 rl rfl ⟨_, rfl⟩ (by omega) (by omega) Try.underlying58 Try.sizeOf3) rfl ?_)
    refine RJ_op rfl (OJ_P (P_assign rfl) rfl ?_)
    refine RJ_nil ?_
    refine QJ_then ?_
    refine CJ_seq ?_
    refine CJ_region ?_
    refine RJ_op rfl (OJ_P (P_move rfl) rfl ?_)
    refine RJ_pure (reads_sl3 rl del0) (fun hsv3 => ?_)
    obtain ⟨sv2, hsv3⟩ := hsv3
    subst hsv3
    refine RJ_op rfl (OJ_P (P_build rfl (bld_169_0 _ _ _)) rfl ?_)
    refine RJ_op rfl (O_box rfl rfl rfl (fun b4 => ?_))
    refine RJ_op rfl (OJ_P (P_assign rfl) rfl ?_)
    refine RJ_nil ?_
    refine QJ_then ?_
    refine CJ_ret ?_
    have hE := Option.some.inj h
    subst hE
    refine QJ_end (res1 Try.results74 rfl) ?_
    refine CSpec.close ⟨b4, sliceV tyI.sz (Sl3.v sv2) 0 1000⟩ ?_ ?_ (Ent.take del1 (Ent.take del0 (Ent.trans (fun h hh => stars_pur.2 ⟨(Reads.sliceV rl (by omega) (by omega)), hh⟩) <| Ent.take del0 Ent.refl)))
    · rfl
    · trivial
  ·
    replace h := ite_f hg1 h
    refine CJ_skip ?_
    refine QJ_then ?_
    refine CJ_seq ?_
    refine CJ_region ?_
    refine RJ_op rfl (OJ_P (P_move rfl) rfl ?_)
    refine RJ_pure (reads_sl3 rl del0) (fun hsv6 => ?_)
    obtain ⟨sv5, hsv6⟩ := hsv6
    subst hsv6
    refine RJ_op rfl (OJ_P (P_build rfl (bld_169_0 _ _ _)) rfl ?_)
    refine RJ_op rfl (O_box rfl rfl rfl (fun b7 => ?_))
    refine RJ_op rfl (OJ_P (P_assign rfl) rfl ?_)
    refine RJ_nil ?_
    refine QJ_then ?_
    refine CJ_ret ?_
    have hE := Option.some.inj h
    subst hE
    refine QJ_end (res1 Try.results74 rfl) ?_
    refine CSpec.close ⟨b7, (Sl3.v sv5)⟩ ?_ ?_ (Ent.take del1 (Ent.take del0 (Ent.trans (fun h hh => stars_pur.2 ⟨rl, hh⟩) <| Ent.take del0 Ent.refl)))
    · rfl
    · trivial

def volumegroupmake_Src_Raw (s_0_L : List Int) (s_0_At : Int) : Option (Int × Int) :=
  if (((s_0_L.length : Nat) : Int) ≤ s_0_At) then
    some (((0 : Int), s_0_At))
  else
    grd (inI64 ((s_0_At + (1 : Int)))) <|
    grd (inI64 (((s_0_At + (1 : Int)) - (1 : Int)))) <|
    grd (decide (0 ≤ ((s_0_At + (1 : Int)) - (1 : Int)) ∧ ((s_0_At + (1 : Int)) - (1 : Int)) < (s_0_L.length : Int))) <|
    some (((s_0_L.getD ((((s_0_At + (1 : Int)) - (1 : Int))).toNat) 0), (s_0_At + (1 : Int))))

theorem L_volumegroupmake_Src_Raw {W : World} {bs_0 : Nat} {As_0_L : HP} {vs_0_L : Value} {s_0_L : List Int} {s_0_At : Int} {r : Int × Int} (rs_0_L : Reads As_0_L tyI vs_0_L s_0_L) (h : volumegroupmake_Src_Raw s_0_L s_0_At = some r) :
    CSpec Try.prog W 96 [ptr bs_0 0] [blk bs_0 169 [vs_0_L, .int .i64 s_0_At], As_0_L] (fun x : Unit => .int .i64 r.1) (fun _ => True) (fun x F => blk bs_0 169 [vs_0_L, .int .i64 r.2] :: As_0_L :: F) := by
  refine CSpec.of_body Try.func96 rfl Try.ntmps96 rfl (fun F => ?_)
  show CJ _ _ _ _ _ _ (_ :: _ :: F)
  unfold volumegroupmake_Src_Raw at h
  refine CJ_pure (len_of rs_0_L del1) (fun hlen1 => ?_)
  refine CJ_seq ?_
  refine CJ_region ?_
  refine RJ_op rfl (OJ_P (P_assign rfl) rfl ?_)
  refine RJ_nil ?_
  refine QJ_then ?_
  refine CJ_seq ?_
  refine CJ_seq ?_
  refine AJ_startH 0 (by kernel_rfl) rfl ?_
  refine AJ_takeP 0 1 rfl (by kernel_rfl) rfl (GY_none rfl) (P_move rfl) rfl (fun _ _ _ _ h => h) ?_
  refine AJ_takeP 1 3 rfl (by kernel_rfl) rfl (GY_none rfl) (P_nilCheck rfl) rfl (fun _ _ _ _ h => h) ?_
  refine AJ_takeP 2 7 rfl (by kernel_rfl) rfl (GY_none rfl) (P_fieldAddr rfl ⟨_, _, _, Try.runUnderlying169, rfl, rfl, Try.sizeOf3, rfl⟩) rfl (fun _ _ _ _ h => h) ?_
  refine AJ_takeV 3 15 rfl (by kernel_rfl) rfl (by kernel_rfl) (by kernel_rfl) (GY_none rfl) (Ent.take del0 (Ent.take del0 Ent.refl)) (V_load rfl foc0 rfl Try.isAgg3) rfl (fun _ _ _ _ h => h) ?_
  refine AJ_takeP 4 31 rfl (by kernel_rfl) rfl (GY_none rfl) (P_move rfl) rfl (fun _ _ _ _ h => h) ?_
  refine AJ_takeP 5 63 rfl (by kernel_rfl) rfl (GY_none rfl) (P_nilCheck rfl) rfl (fun _ _ _ _ h => h) ?_
  refine AJ_takeP 6 127 rfl (by kernel_rfl) rfl (GY_none rfl) (P_fieldAddr rfl ⟨_, _, _, Try.runUnderlying169, rfl, rfl, Try.sizeOf58, rfl⟩) rfl (fun _ _ _ _ h => h) ?_
  refine AJ_takeV 7 255 rfl (by kernel_rfl) rfl (by kernel_rfl) (by kernel_rfl) (GY_none rfl) (Ent.take del0 (Ent.take del0 Ent.refl)) (V_load rfl foc0 rfl Try.isAgg58) rfl (fun _ _ _ _ h => h) ?_
  refine AJ_takeV 8 511 rfl (by kernel_rfl) rfl (by kernel_rfl) (by kernel_rfl) (GY_none rfl) (Ent.take del0 (Ent.take del0 Ent.refl)) (V_len rfl foc1 rs_0_L Try.runUnderlying58) rfl (fun _ _ _ _ h => h) ?_
  refine AJ_takeP 9 1023 rfl (by kernel_rfl) rfl (GY_none rfl) (P_geq (a := s_0_At) (b := ((s_0_L.length : Nat) : Int)) rfl rfl) rfl (fun _ _ _ _ h => h) ?_
  refine AJ_done (by kernel_rfl) ?_
  refine QJ_then ?_
  refine CJ_condP rfl bT_dec (fun hg1 => ?_) (fun hg1 => ?_)
  ·
    replace h := ite_t hg1 h
    refine CJ_seq ?_
    refine CJ_region ?_
    refine RJ_op rfl (OJ_P (P_assign rfl) rfl ?_)
    refine RJ_nil ?_
    refine QJ_then ?_
    refine CJ_ret ?_
    refine QJ_then_ret ?_
    have hE := Option.some.inj h
    subst hE
    refine QJ_end (res1 Try.results96 rfl) ?_
    refine CSpec.close () ?_ ?_ (Ent.take del0 (Ent.take del0 Ent.refl))
    · rfl
    · trivial
  ·
    replace h := ite_f hg1 h
    refine CJ_skip ?_
    refine QJ_then ?_
    refine CJ_seq ?_
    refine CJ_region ?_
    refine RJ_op rfl (OJ_P (P_move rfl) rfl ?_)
    refine RJ_op rfl (OJ_P (P_nilCheck rfl) rfl ?_)
    refine RJ_op rfl (OJ_P (P_fieldAddr rfl ⟨_, _, _, Try.runUnderlying169, rfl, rfl, Try.sizeOf3, rfl⟩) rfl ?_)
    refine RJ_op rfl (OJ_V (V_load rfl foc0 rfl Try.isAgg3) rfl ?_)
    obtain ⟨hg2, h⟩ := grd_Ie h
    refine RJ_op rfl (OJ_P (P_add (a := s_0_At) (b := (1 : Int)) rfl rfl hg2) rfl ?_)
    refine RJ_op rfl (OJ_P (P_nilCheck rfl) rfl ?_)
    refine RJ_op rfl (OJ_P (P_fieldAddr rfl ⟨_, _, _, Try.runUnderlying169, rfl, rfl, Try.sizeOf3, rfl⟩) rfl ?_)
    refine RJ_op rfl (O_store rfl rfl foc0 rfl rfl Try.sizeOf3 ?_)
    refine RJ_nil ?_
    refine QJ_then ?_
    refine CJ_seq ?_
    refine AJ_startH 0 (by kernel_rfl) rfl ?_
    refine AJ_takeP 0 1 rfl (by kernel_rfl) rfl (GY_none rfl) (P_move rfl) rfl (fun _ _ _ _ h => h) ?_
    refine AJ_takeP 1 3 rfl (by kernel_rfl) rfl (GY_none rfl) (P_nilCheck rfl) rfl (fun _ _ _ _ h => h) ?_
    refine AJ_takeP 2 7 rfl (by kernel_rfl) rfl (GY_none rfl) (P_fieldAddr rfl ⟨_, _, _, Try.runUnderlying169, rfl, rfl, Try.sizeOf58, rfl⟩) rfl (fun _ _ _ _ h => h) ?_
    refine AJ_takeV 3 15 rfl (by kernel_rfl) rfl (by kernel_rfl) (by kernel_rfl) (GY_none rfl) (Ent.take del0 (Ent.take del0 Ent.refl)) (V_load rfl foc0 rfl Try.isAgg58) rfl (fun _ _ _ _ h => h) ?_
    refine AJ_takeP 4 31 rfl (by kernel_rfl) rfl (GY_none rfl) (P_move rfl) rfl (fun _ _ _ _ h => h) ?_
    refine AJ_takeP 5 63 rfl (by kernel_rfl) rfl (GY_none rfl) (P_nilCheck rfl) rfl (fun _ _ _ _ h => h) ?_
    refine AJ_takeP 6 127 rfl (by kernel_rfl) rfl (GY_none rfl) (P_fieldAddr rfl ⟨_, _, _, Try.runUnderlying169, rfl, rfl, Try.sizeOf3, rfl⟩) rfl (fun _ _ _ _ h => h) ?_
    refine AJ_takeV 7 255 rfl (by kernel_rfl) rfl (by kernel_rfl) (by kernel_rfl) (GY_none rfl) (Ent.take del0 (Ent.take del0 Ent.refl)) (V_load rfl foc0 rfl Try.isAgg3) rfl (fun _ _ _ _ h => h) ?_
    obtain ⟨hg3, h⟩ := grd_Ie h
    refine AJ_takeP 8 511 rfl (by kernel_rfl) rfl (GY_none rfl) (P_sub (a := (s_0_At + (1 : Int))) (b := (1 : Int)) rfl rfl hg3) rfl (fun _ _ _ _ h => h) ?_
    obtain ⟨hg4, h⟩ := grd_de h
    refine AJ_takeV 9 1023 rfl (by kernel_rfl) rfl (by kernel_rfl) (by kernel_rfl) (GY_none rfl) (Ent.take del0 (Ent.take del0 Ent.refl)) (V_index (i := (((s_0_At + (1 : Int)) - (1 : Int))).toNat) rfl rfl (Int.toNat_of_nonneg (hg4.1)).symm (by omega) foc1 rs_0_L Try.runUnderlying58 Try.sizeOf3) rfl (fun _ _ _ _ h => h) ?_
    refine AJ_takeV 10 2047 rfl (by kernel_rfl) rfl (by kernel_rfl) (by kernel_rfl) (GY_none rfl) (Ent.take del0 (Ent.take del0 Ent.refl)) (V_loadE rfl rfl (by omega) foc1 rs_0_L rfl rfl Try.isAgg3) rfl (fun _ _ _ _ h => h) ?_
    refine AJ_takeP 11 4095 rfl (by kernel_rfl) rfl (GY_none rfl) (P_assign rfl) rfl (fun _ _ _ _ h => h) ?_
    refine AJ_done (by kernel_rfl) ?_
    refine QJ_then ?_
    refine CJ_ret ?_
    have hE := Option.some.inj h
    subst hE
    refine QJ_end (res1 Try.results96 rfl) ?_
    refine CSpec.close () ?_ ?_ (Ent.take del0 (Ent.take del0 Ent.refl))
    · rfl
    · trivial

def volumegroupmake_Src_N (s_0_L : List Int) (s_0_At : Int) (n_1 : Int) : Option (Int × Int) :=
  if (n_1 < (1 : Int)) then
    some (((0 : Int), s_0_At))
  else
    Option.bind (volumegroupmake_Src_Raw s_0_L s_0_At) fun r2 =>
    if ((r2.1.tmod n_1) < (0 : Int)) then
      grd (inI64 (((r2.1.tmod n_1) + n_1))) <|
      some ((((r2.1.tmod n_1) + n_1), r2.2))
    else
      some (((r2.1.tmod n_1), r2.2))

theorem L_volumegroupmake_Src_N {W : World} {bs_0 : Nat} {As_0_L : HP} {vs_0_L : Value} {s_0_L : List Int} {s_0_At : Int} {n_1 : Int} {r : Int × Int} (rs_0_L : Reads As_0_L tyI vs_0_L s_0_L) (h : volumegroupmake_Src_N s_0_L s_0_At n_1 = some r) :
    CSpec Try.prog W 76 [ptr bs_0 0, .int .i64 n_1] [blk bs_0 169 [vs_0_L, .int .i64 s_0_At], As_0_L] (fun x : Unit => .int .i64 r.1) (fun _ => True) (fun x F => blk bs_0 169 [vs_0_L, .int .i64 r.2] :: As_0_L :: F) := by
  refine CSpec.of_body Try.func76 rfl Try.ntmps76 rfl (fun F => ?_)
  show CJ _ _ _ _ _ _ (_ :: _ :: F)
  unfold volumegroupmake_Src_N at h
  refine CJ_pure (len_of rs_0_L del1) (fun hlen1 => ?_)
  refine CJ_seq ?_
  refine CJ_region ?_
  refine RJ_op rfl (OJ_P (P_assign rfl) rfl ?_)
  refine RJ_nil ?_
  refine QJ_then ?_
  refine CJ_seq ?_
  refine CJ_seq ?_
  refine CJ_region ?_
  refine RJ_op rfl (OJ_P (P_move rfl) rfl ?_)
  refine RJ_op rfl (OJ_P (P_lss (a := n_1) (b := (1 : Int)) rfl rfl) rfl ?_)
  refine RJ_nil ?_
  refine QJ_then ?_
  refine CJ_condP rfl bT_dec (fun hg1 => ?_) (fun hg1 => ?_)
  ·
    replace h := ite_t hg1 h
    refine CJ_seq ?_
    refine CJ_region ?_
    refine RJ_op rfl (OJ_P (P_assign rfl) rfl ?_)
    refine RJ_nil ?_
    refine QJ_then ?_
    refine CJ_ret ?_
    refine QJ_then_ret ?_
    have hE := Option.some.inj h
    subst hE
    refine QJ_end (res1 Try.results76 rfl) ?_
    refine CSpec.close () ?_ ?_ (Ent.take del0 (Ent.take del0 Ent.refl))
    · rfl
    · trivial
  ·
    replace h := ite_f hg1 h
    refine CJ_skip ?_
    refine QJ_then ?_
    refine CJ_seq ?_
    refine CJ_region ?_
    refine RJ_op rfl (OJ_P (P_move rfl) rfl ?_)
    obtain ⟨r2, hr3, h⟩ := bind_e h
    refine RJ_op rfl (O_call (L_volumegroupmake_Src_Raw rs_0_L hr3) rfl Try.call96 (Dels.cons del0 (Dels.cons del0 Dels.nil)) rfl (fun _ _ => ?_))
    refine RJ_op rfl (OJ_P (P_move rfl) rfl ?_)
    refine RJ_op rfl (OJ_P (P_remT (a := r2.1) (b := n_1) rfl rfl (by omega)) rfl ?_)
    refine RJ_op rfl (OJ_P (P_assign rfl) rfl ?_)
    refine RJ_nil ?_
    refine QJ_then ?_
    refine CJ_seq ?_
    refine CJ_seq ?_
    refine CJ_region ?_
    refine RJ_op rfl (OJ_P (P_move rfl) rfl ?_)
    refine RJ_op rfl (OJ_P (P_lss (a := (r2.1.tmod n_1)) (b := (0 : Int)) rfl rfl) rfl ?_)
    refine RJ_nil ?_
    refine QJ_then ?_
    refine CJ_condP rfl bT_dec (fun hg2 => ?_) (fun hg2 => ?_)
    ·
      replace h := ite_t hg2 h
      refine CJ_region ?_
      refine RJ_op rfl (OJ_P (P_move rfl) rfl ?_)
      refine RJ_op rfl (OJ_P (P_move rfl) rfl ?_)
      obtain ⟨hg3, h⟩ := grd_Ie h
      refine RJ_op rfl (OJ_P (P_add (a := (r2.1.tmod n_1)) (b := n_1) rfl rfl hg3) rfl ?_)
      refine RJ_op rfl (OJ_P (P_assign rfl) rfl ?_)
      refine RJ_nil ?_
      refine QJ_then ?_
      refine CJ_seq ?_
      refine CJ_region ?_
      refine RJ_op rfl (OJ_P (P_move rfl) rfl ?_)
      refine RJ_op rfl (OJ_P (P_assign rfl) rfl ?_)
      refine RJ_nil ?_
      refine QJ_then ?_
      refine CJ_ret ?_
      have hE := Option.some.inj h
      subst hE
      refine QJ_end (res1 Try.results76 rfl) ?_
      refine CSpec.close () ?_ ?_ (Ent.take del0 (Ent.take del0 Ent.refl))
      · rfl
      · trivial
    ·
      replace h := ite_f hg2 h
      refine CJ_skip ?_
      refine QJ_then ?_
      refine CJ_seq ?_
      refine CJ_region ?_
      refine RJ_op rfl (OJ_P (P_move rfl) rfl ?_)
      refine RJ_op rfl (OJ_P (P_assign rfl) rfl ?_)
      refine RJ_nil ?_
      refine QJ_then ?_
      refine CJ_ret ?_
      have hE := Option.some.inj h
      subst hE
      refine QJ_end (res1 Try.results76 rfl) ?_
      refine CSpec.close () ?_ ?_ (Ent.take del0 (Ent.take del0 Ent.refl))
      · rfl
      · trivial

def volumegroupmake_Src_Range (s_0_L : List Int) (s_0_At : Int) (low : Int) (high : Int) : Option (Int × Int) :=
  grd (inI64 (high - low)) <|
  grd (inI64 (((high - low) + (1 : Int)))) <|
  Option.bind (volumegroupmake_Src_N s_0_L s_0_At (((high - low) + (1 : Int)))) fun r2 =>
  grd (inI64 (low + r2.1)) <|
  some (((low + r2.1), r2.2))

theorem L_volumegroupmake_Src_Range {W : World} {bs_0 : Nat} {As_0_L : HP} {vs_0_L : Value} {s_0_L : List Int} {s_0_At : Int} {low : Int} {high : Int} {r : Int × Int} (rs_0_L : Reads As_0_L tyI vs_0_L s_0_L) (h : volumegroupmake_Src_Range s_0_L s_0_At low high = some r) :
    CSpec Try.prog W 75 [ptr bs_0 0, .int .i64 low, .int .i64 high] [blk bs_0 169 [vs_0_L, .int .i64 s_0_At], As_0_L] (fun x : Unit => .int .i64 r.1) (fun _ => True) (fun x F => blk bs_0 169 [vs_0_L, .int .i64 r.2] :: As_0_L :: F) := by
  refine CSpec.of_body Try.func75 rfl Try.ntmps75 rfl (fun F => ?_)
  show CJ _ _ _ _ _ _ (_ :: _ :: F)
  unfold volumegroupmake_Src_Range at h
  refine CJ_pure (len_of rs_0_L del1) (fun hlen1 => ?_)
  refine CJ_seq ?_
  refine CJ_region ?_
  refine RJ_op rfl (OJ_P (P_assign rfl) rfl ?_)
  refine RJ_nil ?_
  refine QJ_then ?_
  refine CJ_seq ?_
  refine CJ_region ?_
  refine RJ_op rfl (OJ_P (P_move rfl) rfl ?_)
  refine RJ_op rfl (OJ_P (P_move rfl) rfl ?_)
  refine RJ_op rfl (OJ_P (P_move rfl) rfl ?_)
  refine RJ_op rfl (OJ_P (P_move rfl) rfl ?_)
  obtain ⟨hg1, h⟩ := grd_Ie h
  refine RJ_op rfl (OJ_P (P_sub (a := high) (b := low) rfl rfl hg1) rfl ?_)
  obtain ⟨hg2, h⟩ := grd_Ie h
  refine RJ_op rfl (OJ_P (P_add (a := (high - low)) (b := (1 : Int)) rfl rfl hg2) rfl ?_)
  obtain ⟨r2, hr3, h⟩ := bind_e h
  refine RJ_op rfl (O_call (L_volumegroupmake_Src_N rs_0_L hr3) rfl Try.call76 (Dels.cons del0 (Dels.cons del0 Dels.nil)) rfl (fun _ _ => ?_))
  obtain ⟨hg3, h⟩ := grd_Ie h
  refine RJ_op rfl (OJ_P (P_add (a := low) (b := r2.1) rfl rfl hg3) rfl ?_)
  refine RJ_op rfl (OJ_P (P_assign rfl) rfl ?_)
  refine RJ_nil ?_
  refine QJ_then ?_
  refine CJ_ret ?_
  have hE := Option.some.inj h
  subst hE
  refine QJ_end (res1 Try.results75 rfl) ?_
  refine CSpec.close () ?_ ?_ (Ent.take del0 (Ent.take del0 Ent.refl))
  · rfl
  · trivial

def volumegrouplaw05_stack_l1_b (r2 : (List UInt64)) (r6 : (List UInt64)) (r10 : (List UInt64)) (r21 : (List Int) × Nat) (rec : (List volumegrouplaw05_span) → Int → (List Int) → Int → (List UInt64) → Option ((List UInt64) × Int × (List Int) × (List volumegrouplaw05_span))) (x43 : List volumegrouplaw05_span) (x45 : Int) (x46 : List Int) (x47 : Int) (x48 : List UInt64) : Option ((List UInt64) × Int × (List Int) × (List volumegrouplaw05_span)) :=
  if ((0 : Int) < x47) then
    Option.bind (volumegroupmake_Src_N r21.1 x45 (3 : Int)) fun r53 =>
    grd (decide (0 ≤ r53.1 ∧ r53.1 < (x46.length : Int))) <|
    Option.bind (volumegroupmake_Src_N r21.1 r53.2 (2 : Int)) fun r55 =>
    grd (inI64 (((x46.getD ((r53.1).toNat) 0) + r55.1))) <|
    Option.bind (volumegroupmake_Src_Range r21.1 r55.2 (1 : Int) (3 : Int)) fun r57 =>
    grd (inI64 ((((x46.getD ((r53.1).toNat) 0) + r55.1) + r57.1))) <|
    grd (decide (0 ≤ r53.1 ∧ r53.1 < ((([r2, r6, r10] : List (List UInt64))).length : Int))) <|
    lt ((((([r2, r6, r10] : List (List UInt64))).getD ((r53.1).toNat) [])).length) fun w59 =>
    if (((w59 : Nat) : Int) < (((x46.getD ((r53.1).toNat) 0) + r55.1) + r57.1)) then
      grd (inI64 ((x47 - (1 : Int)))) <|
      rec x43 r57.2 x46 ((x47 - (1 : Int))) x48
    else
      grd (inLen (x43.length + 1)) <|
      grd (decide (0 ≤ r53.1 ∧ r53.1 < ((([r2, r6, r10] : List (List UInt64))).length : Int))) <|
      grd (decide (0 ≤ ((x46.getD ((r53.1).toNat) 0) + r55.1) ∧ 0 ≤ (((x46.getD ((r53.1).toNat) 0) + r55.1) + r57.1) ∧ (((x46.getD ((r53.1).toNat) 0) + r55.1)).toNat ≤ ((((x46.getD ((r53.1).toNat) 0) + r55.1) + r57.1)).toNat ∧ ((((x46.getD ((r53.1).toNat) 0) + r55.1) + r57.1)).toNat ≤ (((([r2, r6, r10] : List (List UInt64))).getD ((r53.1).toNat) [])).length)) <|
      grd (inLen (x48.length + ((((((([r2, r6, r10] : List (List UInt64))).getD ((r53.1).toNat) [])).take (((((x46.getD ((r53.1).toNat) 0) + r55.1) + r57.1)).toNat)).drop ((((x46.getD ((r53.1).toNat) 0) + r55.1)).toNat))).length)) <|
      grd (inI64 ((x47 - (1 : Int)))) <|
      rec ((x43 ++ [(⟨r53.1, ((x46.getD ((r53.1).toNat) 0) + r55.1), r57.1⟩ : volumegrouplaw05_span)])) r57.2 ((x46.set ((r53.1).toNat) ((((x46.getD ((r53.1).toNat) 0) + r55.1) + r57.1)))) ((x47 - (1 : Int))) ((x48 ++ (((((([r2, r6, r10] : List (List UInt64))).getD ((r53.1).toNat) [])).take (((((x46.getD ((r53.1).toNat) 0) + r55.1) + r57.1)).toNat)).drop ((((x46.getD ((r53.1).toNat) 0) + r55.1)).toNat))))
  else
    some (x48, x45, x46, x43)

def volumegrouplaw05_stack_l1 (r2 : (List UInt64)) (r6 : (List UInt64)) (r10 : (List UInt64)) (r21 : (List Int) × Nat) : Nat → (List volumegrouplaw05_span) → Int → (List Int) → Int → (List UInt64) → Option ((List UInt64) × Int × (List Int) × (List volumegrouplaw05_span))
  | 0, _, _, _, _, _ => none
  | n + 1, x43, x45, x46, x47, x48 => volumegrouplaw05_stack_l1_b r2 r6 r10 r21 (volumegrouplaw05_stack_l1 r2 r6 r10 r21 n) x43 x45 x46 x47 x48

def volumegrouplaw05_stack (l : List Int) : Option ((Option ArrS) × (List volumegrouplaw05_span) × Int × Int × (List UInt64)) :=
  Option.bind (volumegroupmake_Words (6 : Int) (100 : UInt64)) fun r2 =>
  Option.bind (volumegroupmake_Words (5 : Int) (200 : UInt64)) fun r6 =>
  Option.bind (volumegroupmake_Words (7 : Int) (300 : UInt64)) fun r10 =>
  Option.bind (volumegroupmake_Loaded (([r2, r6, r10] : List (List UInt64)))) fun r16 =>
  Option.bind (volumegroupmake_New l) fun r21 =>
  Option.bind (volumegroupmake_Src_Range r21.1 (((r21.2 : Nat) : Int)) (1 : Int) (4 : Int)) fun r28 =>
  Option.bind (volumegrouplaw05_stack_l1 r2 r6 r10 r21 FUEL ([]) r28.2 ([(0 : Int), (0 : Int), (0 : Int)]) r28.1 ([])) fun a42 =>
  grd (inN64 (a42.1.length + 1)) <|
  Option.bind (volumegroupmake_Src_N r21.1 a42.2.1 ((((a42.1.length + 1) : Nat) : Int))) fun r71 =>
  grd (inI64 ((((a42.1.length : Nat) : Int) - r71.1))) <|
  grd (inI64 (((((a42.1.length : Nat) : Int) - r71.1) + (1 : Int)))) <|
  Option.bind (volumegroupmake_Src_N r21.1 r71.2 (((((a42.1.length : Nat) : Int) - r71.1) + (1 : Int)))) fun r74 =>
  grd (inI64 (r71.1 + r74.1)) <|
  grd (decide (0 ≤ r71.1 ∧ 0 ≤ (r71.1 + r74.1) ∧ (r71.1).toNat ≤ ((r71.1 + r74.1)).toNat ∧ ((r71.1 + r74.1)).toNat ≤ a42.1.length)) <|
  some ((r16, a42.2.2.2, r71.1, (r71.1 + r74.1), ((a42.1.take (((r71.1 + r74.1)).toNat)).drop ((r71.1).toNat))))

theorem L_volumegrouplaw05_stack {W : World} {Al : HP} {vl : Value} {l : List Int} {r : (Option ArrS) × (List volumegrouplaw05_span) × Int × Int × (List UInt64)} (rl : Reads Al tyI vl l) (h : volumegrouplaw05_stack l = some r) :
    CSpec Try.prog W 31 [vl] [Al] (fun x : Nat × Nat × Sl3 × Nat × Nat × Nat × Value => .tuple #[oval r.1 x.1, .func (.func 77) #[] #[ptr x.2.1 0, ptr x.2.2.2.1 0, ptr x.2.2.2.2.1 0, ptr x.2.2.2.2.2.1 0], x.2.2.2.2.2.2]) (fun _ => True) (fun x F => Al :: optP (Arr x.1) r.1 :: blk x.2.1 135 [x.2.2.1.v] :: sl tyvolumegrouplaw05_span x.2.2.1.v r.2.1 :: blk x.2.2.2.1 23 [oval r.1 x.1] :: blk x.2.2.2.2.1 3 [.int .i64 r.2.2.1] :: blk x.2.2.2.2.2.1 3 [.int .i64 r.2.2.2.1] :: RdP tyU x.2.2.2.2.2.2 r.2.2.2.2 :: F) := by
  refine CSpec.of_body Try.func31 rfl Try.ntmps31 rfl (fun F => ?_)
  show CJ _ _ _ _ _ _ (_ :: F)
  unfold volumegrouplaw05_stack at h
  refine CJ_pure (len_of rl del0) (fun hlen1 => ?_)
  refine CJ_seq ?_
  refine CJ_region ?_
  refine RJ_op rfl (OJ_P (P_assign rfl) rfl ?_)
  refine RJ_op rfl (OJ_P (P_assign rfl) rfl ?_)
  refine RJ_op rfl (OJ_P (P_assign rfl) rfl ?_)
  refine RJ_nil ?_
  refine QJ_then ?_
  refine CJ_seq ?_
  refine CJ_region ?_
  obtain ⟨r2, hr3, h⟩ := bind_e h
  refine RJ_op rfl (O_call (L_volumegroupmake_Words hr3) rfl Try.call16 Dels.nil rfl (fun X4 _ => ?_))
  obtain ⟨r6, hr7, h⟩ := bind_e h
  refine RJ_op rfl (O_call (L_volumegroupmake_Words hr7) rfl Try.call16 Dels.nil rfl (fun X8 _ => ?_))
  obtain ⟨r10, hr11, h⟩ := bind_e h
  refine RJ_op rfl (O_call (L_volumegroupmake_Words hr11) rfl Try.call16 Dels.nil rfl (fun X12 _ => ?_))
  refine RJ_op rfl (O_buildSlice rfl (bs_27_3_0_1_2 _ _ _ _ _ _ _ _ _) rfl (fun b14 => ?_))
  refine RJ_ent (Ent.trans (Ent.take del0 Ent.refl) (sl_of_lit (t := tyRow) (m := 3) [(X4 : Sl3), (X8 : Sl3), (X12 : Sl3)] rfl rfl rfl (by decide))) ?_
  refine RJ_op rfl (OJ_P (P_assign rfl) rfl ?_)
  refine RJ_nil ?_
  refine QJ_then ?_
  refine CJ_seq ?_
  refine CJ_region ?_
  refine RJ_op rfl (OJ_P (P_move rfl) rfl ?_)
  refine RJ_ent (Ent.starI (l := [sl tyU X4.v r2, sl tyU X8.v r6, sl tyU X12.v r10]) (Ent.take del3 (Ent.take del2 (Ent.take del1 Ent.refl)))) ?_
  obtain ⟨r16, hr17, h⟩ := bind_e h
  refine RJ_op rfl (O_call (L_volumegroupmake_Loaded (Reads.sl _ _ _) (RowsR.cons (Reads.sl _ _ _) (RowsR.cons (Reads.sl _ _ _) (RowsR.cons (Reads.sl _ _ _) RowsR.nil))) hr17) rfl Try.call15 (Dels.cons del1 (Dels.cons del0 Dels.nil)) rfl (fun X18 _ => ?_))
  refine RJ_ent (Ent.trans (Ent.take del1 Ent.refl) (Ent.starE (l := [sl tyU X4.v r2, sl tyU X8.v r6, sl tyU X12.v r10]) Ent.refl)) ?_
  refine RJ_op rfl (O_alloc Try.zeroValue23 rfl rfl (fun b20 => ?_))
  refine RJ_op rfl (O_store rfl rfl foc0 rfl oneCell_oval Try.sizeOf23 ?_)
  refine RJ_nil ?_
  refine QJ_then ?_
  refine CJ_seq ?_
  refine CJ_region ?_
  refine RJ_op rfl (OJ_P (P_move rfl) rfl ?_)
  obtain ⟨r21, hr22, h⟩ := bind_e h
  refine RJ_op rfl (O_call (L_volumegroupmake_New rl hr22) rfl Try.call74 (Dels.cons del6 Dels.nil) rfl (fun X23 _ => ?_))
  refine RJ_ent (Ent.take del2 Ent.refl) ?_
  refine RJ_pur (fun hpur_q25 => ?_)
  refine RJ_op rfl (OJ_P (P_assign rfl) rfl ?_)
  refine RJ_nil ?_
  refine QJ_then ?_
  refine CJ_seq ?_
  refine CJ_region ?_
  refine RJ_op rfl (O_alloc Try.zeroValue135 rfl rfl (fun b26 => ?_))
  refine RJ_nil ?_
  refine QJ_then ?_
  refine CJ_seq ?_
  refine CJ_region ?_
  refine RJ_op rfl (OJ_P (P_assign rfl) rfl ?_)
  refine RJ_nil ?_
  refine QJ_then ?_
  refine CJ_seq ?_
  refine CJ_region ?_
  refine RJ_op rfl (O_buildSlice rfl (bs_58_3_0_1_2 _ _ _) rfl (fun b27 => ?_))
  refine RJ_ent (Ent.trans (Ent.take del0 Ent.refl) (sl_of_lit (t := tyI) (m := 3) [(0 : Int), (0 : Int), (0 : Int)] rfl rfl rfl (by decide))) ?_
  refine RJ_op rfl (OJ_P (P_assign rfl) rfl ?_)
  refine RJ_nil ?_
  refine QJ_then ?_
  refine CJ_seq ?_
  refine CJ_seq ?_
  refine CJ_region ?_
  refine RJ_op rfl (OJ_P (P_move rfl) rfl ?_)
  obtain ⟨r28, hr29, h⟩ := bind_e h
  refine RJ_op rfl (O_call (L_volumegroupmake_Src_Range hpur_q25 hr29) rfl Try.call75 (Dels.cons del3 (Dels.cons del2 Dels.nil)) rfl (fun _ _ => ?_))
  refine RJ_op rfl (OJ_P (P_assign rfl) rfl ?_)
  refine RJ_nil ?_
  refine QJ_then ?_
  refine CJ_shareS del5 ?_
  refine CJ_shareS del6 ?_
  refine CJ_shareS del7 ?_
  refine CJ_ent (fun h hh => rs_nil (RP := RowP) h hh) ?_
  refine CJ_ent (Ent.trans (Ent.take del0 (Ent.take del2 Ent.refl)) (Rs_push (x := r2) (g := (X4 : Sl3)) Dup_RowP)) ?_
  refine CJ_ent (Ent.trans (Ent.take del0 (Ent.take del2 Ent.refl)) (Rs_push (x := r6) (g := (X8 : Sl3)) Dup_RowP)) ?_
  refine CJ_ent (Ent.trans (Ent.take del0 (Ent.take del2 Ent.refl)) (Rs_push (x := r10) (g := (X12 : Sl3)) Dup_RowP)) ?_
  refine CJ_ent (Ent.takeC (A' := Rs RowP (([r2, r6, r10] : List (List UInt64))) ([(X4 : Sl3), (X8 : Sl3), (X12 : Sl3)])) del0 rfl Ent.refl) ?_
  refine CJ_ent (fun h hh => sl_nil (t := tyvolumegrouplaw05_span) h hh) ?_
  refine CJ_ent (fun h hh => sl_nil (t := tyU) h hh) ?_
  obtain ⟨y35, hl33, hK34⟩ := bind_c h
  refine CJ_cutT (X := ((List UInt64) × Int × (List Int) × (List volumegrouplaw05_span)) × Sl3 × Sl3) [9, 11, 12, 13, 14, 29, 30, 31, 32, 33, 34, 35, 36, 37, 38, 39, 40, 41, 42, 43, 44, 45, 46, 47, 48, 49, 50, 51, 52, 53, 54, 55, 56, 57, 58, 59, 60, 61, 62, 63, 64, 65, 66, 67, 68, 69, 70, 71, 72, 73, 74, 75, 76] (fun ⟨a42, hd37, hd41⟩ => ([(9, hd37.v)] : Slots)) (fun ⟨a42, hd37, hd41⟩ R => sl tyU hd37.v a42.1 :: blk X23.1 169 [X23.2, .int .i64 a42.2.1] :: sl tyI (.slice (some ⟨b27, 0, none⟩) 3 3) a42.2.2.1 :: sl tyvolumegrouplaw05_span hd41.v a42.2.2.2 :: blk b26 135 [hd41.v] :: R) (fun ⟨a42, hd37, hd41⟩ => y35 = a42) (Dels.cons del0 (Dels.cons del5 (Dels.cons del6 (Dels.cons del0 (Dels.cons del5 (Dels.cons del1 (Dels.cons del1 (Dels.cons del1 Dels.nil)))))))) ?_ ?_
  ·
    refine CJ_block ?_
    refine CJ_loopR (X := Nat × (List volumegrouplaw05_span) × Int × (List Int) × Int × (List UInt64) × Sl3 × Sl3) [9, 11, 12, 13, 14, 29, 30, 31, 32, 33, 34, 35, 36, 37, 38, 39, 40, 41, 42, 43, 44, 45, 46, 47, 48, 49, 50, 51, 52, 53, 54, 55, 56, 57, 58, 59, 60, 61, 62, 63, 64, 65, 66, 67, 68, 69, 70, 71, 72, 73, 74, 75, 76] (fun ⟨n, x43, x45, x46, x47, x48, hd44, hd49⟩ => ([(9, hd49.v), (11, .int .i64 x47)] : Slots)) (fun ⟨n, x43, x45, x46, x47, x48, hd44, hd49⟩ R => sl tyvolumegrouplaw05_span hd44.v x43 :: blk b26 135 [hd44.v] :: blk X23.1 169 [X23.2, .int .i64 x45] :: sl tyI (.slice (some ⟨b27, 0, none⟩) 3 3) x46 :: sl tyU hd49.v x48 :: R) (fun ⟨n, x43, x45, x46, x47, x48, hd44, hd49⟩ => volumegrouplaw05_stack_l1 r2 r6 r10 r21 n x43 x45 x46 x47 x48 = some y35) (fun ⟨n, x43, x45, x46, x47, x48, hd44, hd49⟩ => n) ⟨FUEL, [], r28.2, [(0 : Int), (0 : Int), (0 : Int)], r28.1, [], ⟨none, 0, 0⟩, ⟨none, 0, 0⟩⟩ ?_ ?_ (Ent.take del1 (Ent.take del8 (Ent.take del5 (Ent.take del6 (Ent.take del0 (Ent.take del0 (Ent.take del3 (Ent.take del3 (Ent.take del3 (Ent.take del3 (Ent.drop (Ent.drop (Ent.drop Ent.refl))))))))))))) ?_
    · exact hl33
    · exact ⟨rfl, rfl, True.intro⟩
    ·
      rintro ⟨n, x43, x45, x46, x47, x48, hd44, hd49⟩ h
      cases n with
      | zero => exact none_e h
      | succ n => ?_
      replace h : volumegrouplaw05_stack_l1_b r2 r6 r10 r21 (volumegrouplaw05_stack_l1 r2 r6 r10 r21 n) x43 x45 x46 x47 x48 = some y35 := h
      unfold volumegrouplaw05_stack_l1_b at h
      show CJ _ _ _ _ _ (([(9, hd49.v), (11, .int .i64 x47)] : Slots) ++ forget _ _) (sl tyvolumegrouplaw05_span hd44.v x43 :: blk b26 135 [hd44.v] :: blk X23.1 169 [X23.2, .int .i64 x45] :: sl tyI (.slice (some ⟨b27, 0, none⟩) 3 3) x46 :: sl tyU hd49.v x48 :: _)
      refine CJ_pure (len_of (Reads.sl _ _ _) del0) (fun hlen50 => ?_)
      refine CJ_pure (len_of (Reads.sl _ _ _) del3) (fun hlen51 => ?_)
      refine CJ_pure (len_of (Reads.sl _ _ _) del4) (fun hlen52 => ?_)
      refine CJ_seq ?_
      refine CJ_seq ?_
      refine CJ_region ?_
      refine RJ_op rfl (OJ_P (P_move rfl) rfl ?_)
      refine RJ_op rfl (OJ_P (P_gtr (a := x47) (b := (0 : Int)) rfl rfl) rfl ?_)
      refine RJ_nil ?_
      refine QJ_then ?_
      refine CJ_condP rfl bT_dec (fun hg1 => ?_) (fun hg1 => ?_)
      ·
        replace h := ite_t hg1 h
        refine CJ_skip ?_
        refine QJ_then ?_
        refine CJ_seq ?_
        refine CJ_block ?_
        refine CJ_seq ?_
        refine CJ_region ?_
        refine RJ_op rfl (OJ_P (P_move rfl) rfl ?_)
        obtain ⟨r53, hr54, h⟩ := bind_e h
        refine RJ_op rfl (O_call (L_volumegroupmake_Src_N hpur_q25 hr54) rfl Try.call76 (Dels.cons del2 (Dels.cons del5 Dels.nil)) rfl (fun _ _ => ?_))
        refine RJ_op rfl (OJ_P (P_assign rfl) rfl ?_)
        refine RJ_nil ?_
        refine QJ_then ?_
        refine CJ_seq ?_
        refine AJ_start [Al, sl tyvolumegrouplaw05_span hd44.v x43, blk b26 135 [hd44.v], sl tyI (.slice (some ⟨b27, 0, none⟩) 3 3) x46, sl tyU hd49.v x48, Rs RowP (([r2, r6, r10] : List (List UInt64))) ([(X4 : Sl3), (X8 : Sl3), (X12 : Sl3)]), blk b20 23 [oval r16 X18], sl tyRow (.slice (some ⟨b14, 0, none⟩) 3 3) ([(X4 : Sl3), (X8 : Sl3), (X12 : Sl3)]), optP (Arr X18) r16] 0 (by kernel_rfl) rfl ?_
        refine AJ_takeP 0 1 rfl (by kernel_rfl) rfl (GY_none rfl) (P_move rfl) rfl (fun _ _ _ _ h => h) ?_
        refine AJ_takeP 1 3 rfl (by kernel_rfl) rfl (GY_none rfl) (P_move rfl) rfl (fun _ _ _ _ h => h) ?_
        obtain ⟨hg2, h⟩ := grd_de h
        refine AJ_takeV 2 7 rfl (by kernel_rfl) rfl (by kernel_rfl) (by kernel_rfl) (GY_none rfl) (Ent.take del1 (Ent.take del1 (Ent.take del1 (Ent.take del1 (Ent.take del1 (Ent.take del1 (Ent.take del1 (Ent.take del1 (Ent.take del1 Ent.done))))))))) (V_index (i := (r53.1).toNat) rfl rfl (Int.toNat_of_nonneg (hg2.1)).symm (by omega) foc3 (Reads.sl _ _ _) Try.runUnderlying58 Try.sizeOf3) rfl (fun _ _ _ _ h => h) ?_
        refine AJ_takeV 3 15 rfl (by kernel_rfl) rfl (by kernel_rfl) (by kernel_rfl) (GY_none rfl) (Ent.take del1 (Ent.take del1 (Ent.take del1 (Ent.take del1 (Ent.take del1 (Ent.take del1 (Ent.take del1 (Ent.take del1 (Ent.take del1 Ent.done))))))))) (V_loadE rfl rfl (by omega) foc3 (Reads.sl _ _ _) rfl rfl Try.isAgg3) rfl (fun _ _ _ _ h => h) ?_
        refine AJ_takeP 4 31 rfl (by kernel_rfl) rfl (GY_none rfl) (P_move rfl) rfl (fun _ _ _ _ h => h) ?_
        obtain ⟨r55, hr56, h⟩ := bind_e h
        refine AJ_op 5 63 rfl (by kernel_rfl) rfl (GY_none rfl) (O_call (L_volumegroupmake_Src_N hpur_q25 hr56) rfl Try.call76 (Dels.cons del0 (Dels.cons del0 Dels.nil)) rfl (fun _ _ => ?_))
        refine ⟨fun _ => (Ent.take del1 (Ent.take del1 (Ent.take del1 (Ent.take del1 (Ent.take del1 (Ent.take del1 (Ent.take del1 (Ent.take del1 (Ent.take del1 Ent.done))))))))), ?_⟩
        obtain ⟨hg3, h⟩ := grd_Ie h
        refine AJ_takeP 6 127 rfl (by kernel_rfl) rfl (GY_none rfl) (P_add (a := (x46.getD ((r53.1).toNat) 0)) (b := r55.1) rfl rfl hg3) rfl (fun _ _ _ _ h => h) ?_
        refine AJ_takeP 7 255 rfl (by kernel_rfl) rfl (GY_none rfl) (P_assign rfl) rfl (fun _ _ _ _ h => h) ?_
        refine AJ_done (by kernel_rfl) ?_
        refine QJ_then ?_
        refine CJ_seq ?_
        refine CJ_region ?_
        refine RJ_op rfl (OJ_P (P_move rfl) rfl ?_)
        obtain ⟨r57, hr58, h⟩ := bind_e h
        refine RJ_op rfl (O_call (L_volumegroupmake_Src_Range hpur_q25 hr58) rfl Try.call75 (Dels.cons del0 (Dels.cons del0 Dels.nil)) rfl (fun _ _ => ?_))
        refine RJ_op rfl (OJ_P (P_assign rfl) rfl ?_)
        refine RJ_nil ?_
        refine QJ_then ?_
        refine CJ_seq ?_
        refine CJ_seq ?_
        refine CJ_region ?_
        refine RJ_op rfl (OJ_P (P_move rfl) rfl ?_)
        refine RJ_op rfl (OJ_P (P_move rfl) rfl ?_)
        obtain ⟨hg4, h⟩ := grd_Ie h
        refine RJ_op rfl (OJ_P (P_add (a := ((x46.getD ((r53.1).toNat) 0) + r55.1)) (b := r57.1) rfl rfl hg4) rfl ?_)
        refine RJ_op rfl (OJ_P (P_move rfl) rfl ?_)
        refine RJ_op rfl (OJ_P (P_move rfl) rfl ?_)
        obtain ⟨hg5, h⟩ := grd_de h
        refine RJ_op rfl (OJ_V (V_index (i := (r53.1).toNat) rfl rfl (Int.toNat_of_nonneg (hg5.1)).symm (by have hz : (r53.1).toNat < (([r2, r6, r10] : List (List UInt64))).length := (by omega); have hy := (rfl : ([(X4 : Sl3), (X8 : Sl3), (X12 : Sl3)] : List Sl3).length = ([r2, r6, r10] : List (List UInt64)).length); omega) foc8 (Reads.sl _ _ _) Try.runUnderlying27 Try.sizeOf25) rfl ?_)
        refine RJ_op rfl (OJ_V (V_loadE rfl rfl (by have hz : (r53.1).toNat < (([r2, r6, r10] : List (List UInt64))).length := (by omega); have hy := (rfl : ([(X4 : Sl3), (X8 : Sl3), (X12 : Sl3)] : List Sl3).length = ([r2, r6, r10] : List (List UInt64)).length); omega) foc8 (Reads.sl _ _ _) rfl rfl Try.isAgg25) rfl ?_)
        refine RJ_op rfl (OJ_V (V_len rfl foc6 ((RowsR.rs (rfl : ([(X4 : Sl3), (X8 : Sl3), (X12 : Sl3)] : List Sl3).length = ([r2, r6, r10] : List (List UInt64)).length)).2 _ (by omega)) Try.runUnderlying25) rfl ?_)
        obtain ⟨w59, hw59, h⟩ := lt_e h
        rw [← hw59]
        refine RJ_op rfl (OJ_P (P_gtr (a := (((x46.getD ((r53.1).toNat) 0) + r55.1) + r57.1)) (b := ((w59 : Nat) : Int)) rfl rfl) rfl ?_)
        refine RJ_nil ?_
        refine QJ_then ?_
        refine CJ_condP rfl bT_dec (fun hg6 => ?_) (fun hg6 => ?_)
        ·
          replace h := ite_t hg6 h
          refine CJ_exit ?_
          refine QJ_then_exit ?_
          refine QJ_block_here ?_
          refine QJ_then ?_
          refine CJ_region ?_
          refine RJ_op rfl (OJ_P (P_move rfl) rfl ?_)
          obtain ⟨hg7, h⟩ := grd_Ie h
          refine RJ_op rfl (OJ_P (P_sub (a := x47) (b := (1 : Int)) rfl rfl hg7) rfl ?_)
          refine RJ_op rfl (OJ_P (P_assign rfl) rfl ?_)
          refine RJ_nil ?_
          refine QJ_nextR ⟨n, x43, r57.2, x46, (x47 - (1 : Int)), x48, hd44, hd49⟩ (Nat.lt_succ_self _) ?_ (by repeat (first | exact Kp.base | exact Kp.self | refine Kp.cons rfl ?_ | refine Kp.forget rfl ?_)) ?_ (Ent.take del2 (Ent.take del2 (Ent.take del0 (Ent.take del1 (Ent.take del1 (Ent.take del1 (Ent.take del0 (Ent.take del0 (Ent.take del0 (Ent.take del0 Ent.refl))))))))))
          · exact h
          · exact ⟨rfl, rfl, True.intro⟩
        ·
          replace h := ite_f hg6 h
          refine CJ_skip ?_
          refine QJ_then ?_
          refine CJ_seq ?_
          refine CJ_region ?_
          refine RJ_op rfl (OJ_P (P_move rfl) rfl ?_)
          refine RJ_op rfl (OJ_P (P_move rfl) rfl ?_)
          refine RJ_op rfl (OJ_P (P_move rfl) rfl ?_)
          refine RJ_op rfl (OJ_P (P_move rfl) rfl ?_)
          refine RJ_op rfl (OJ_P (P_add (a := ((x46.getD ((r53.1).toNat) 0) + r55.1)) (b := r57.1) rfl rfl (by omega)) rfl ?_)
          refine RJ_op rfl (OJ_V (V_index (i := (r53.1).toNat) rfl rfl (Int.toNat_of_nonneg (by omega)).symm (by omega) foc4 (Reads.sl _ _ _) Try.runUnderlying58 Try.sizeOf3) rfl ?_)
          refine RJ_op rfl (O_storeE (x' := (((x46.getD ((r53.1).toNat) 0) + r55.1) + r57.1)) rfl rfl rfl (by omega) foc4 rfl rfl rfl Try.sizeOf3 ?_)
          refine RJ_nil ?_
          refine QJ_then ?_
          refine CJ_seq ?_
          refine CJ_region ?_
          refine RJ_op rfl (OJ_V (V_load rfl foc3 rfl Try.isAgg135) rfl ?_)
          refine RJ_op rfl (OJ_P (P_move rfl) rfl ?_)
          refine RJ_op rfl (OJ_P (P_move rfl) rfl ?_)
          refine RJ_op rfl (OJ_P (P_move rfl) rfl ?_)
          refine RJ_op rfl (OJ_P (P_build rfl (bld_138_0_1_2 _ _ _)) rfl ?_)
          refine RJ_op rfl (O_buildSlice rfl (bs_135_1_0 _ _ _) rfl (fun b60 => ?_))
          obtain ⟨hg8, h⟩ := grd_Le h
          refine RJ_op rfl (O_append (t := tyvolumegrouplaw05_span) (bytes := 24) rfl rfl del3 foc0 (Reads.lit (t := tyvolumegrouplaw05_span) (ys := [(⟨r53.1, ((x46.getD ((r53.1).toNat) 0) + r55.1), r57.1⟩ : volumegrouplaw05_span)]) rfl rfl (by decide) (by decide) rfl) Try.underlying135 ok_tyvolumegrouplaw05_span (apl (m := 1) (b := 24) hg8 (by decide)).1 (apl (m := 1) (b := 24) hg8 (by decide)).2 rfl (fun p62 c63 => ?_))
          refine RJ_op rfl (O_store rfl rfl foc4 rfl rfl Try.sizeOf135 ?_)
          refine RJ_nil ?_
          refine QJ_ent (Ent.take del0 (Ent.take del1 (Ent.take del1 (Ent.take del1 (Ent.take del1 (Ent.take del1 (Ent.take del1 (Ent.take del1 (Ent.take del1 (Ent.take del1 (Ent.drop Ent.refl))))))))))) ?_
          refine QJ_then ?_
          refine CJ_region ?_
          refine RJ_op rfl (OJ_P (P_move rfl) rfl ?_)
          refine RJ_op rfl (OJ_P (P_move rfl) rfl ?_)
          refine RJ_op rfl (OJ_P (P_move rfl) rfl ?_)
          obtain ⟨hg9, h⟩ := grd_de h
          refine RJ_op rfl (OJ_V (V_index (i := (r53.1).toNat) rfl rfl (Int.toNat_of_nonneg (hg9.1)).symm (by have hz : (r53.1).toNat < (([r2, r6, r10] : List (List UInt64))).length := (by omega); have hy := (rfl : ([(X4 : Sl3), (X8 : Sl3), (X12 : Sl3)] : List Sl3).length = ([r2, r6, r10] : List (List UInt64)).length); omega) foc8 (Reads.sl _ _ _) Try.runUnderlying27 Try.sizeOf25) rfl ?_)
          refine RJ_op rfl (OJ_V (V_loadE rfl rfl (by have hz : (r53.1).toNat < (([r2, r6, r10] : List (List UInt64))).length := (by omega); have hy := (rfl : ([(X4 : Sl3), (X8 : Sl3), (X12 : Sl3)] : List Sl3).length = ([r2, r6, r10] : List (List UInt64)).length); omega) foc8 (Reads.sl _ _ _) rfl rfl Try.isAgg25) rfl ?_)
          refine RJ_op rfl (OJ_P (P_move rfl) rfl ?_)
          refine RJ_op rfl (OJ_P (P_move rfl) rfl ?_)
          refine RJ_op rfl (OJ_P (P_move rfl) rfl ?_)
          refine RJ_op rfl (OJ_P (P_add (a := ((x46.getD ((r53.1).toNat) 0) + r55.1)) (b := r57.1) rfl rfl (by omega)) rfl ?_)
          obtain ⟨hg10, h⟩ := grd_de h
          refine RJ_op rfl (OJ_V (V_slice (l := (((x46.getD ((r53.1).toNat) 0) + r55.1)).toNat) (h := ((((x46.getD ((r53.1).toNat) 0) + r55.1) + r57.1)).toNat) rfl foc6 ((RowsR.rs (rfl : ([(X4 : Sl3), (X8 : Sl3), (X12 : Sl3)] : List Sl3).length = ([r2, r6, r10] : List (List UInt64)).length)).2 _ (by omega)) ⟨_, by rw [Int.toNat_of_nonneg (by omega)]; exact rfl⟩ ⟨_, by rw [Int.toNat_of_nonneg (by omega)]; exact rfl⟩ (by omega) (by omega) Try.underlying25 Try.sizeOf22) rfl ?_)
          obtain ⟨hg11, h⟩ := grd_Le h
          refine RJ_op rfl (O_append (t := tyU) (bytes := 8) rfl rfl del5 foc5 (Reads.sliceV ((RowsR.rs (rfl : ([(X4 : Sl3), (X8 : Sl3), (X12 : Sl3)] : List Sl3).length = ([r2, r6, r10] : List (List UInt64)).length)).2 _ (by omega)) (by omega) (by omega)) Try.underlying25 ok_tyU (apl (m := ((((((([r2, r6, r10] : List (List UInt64))).getD ((r53.1).toNat) [])).take (((((x46.getD ((r53.1).toNat) 0) + r55.1) + r57.1)).toNat)).drop ((((x46.getD ((r53.1).toNat) 0) + r55.1)).toNat))).length) (b := 8) hg11 (by decide)).1 (apl (m := ((((((([r2, r6, r10] : List (List UInt64))).getD ((r53.1).toNat) [])).take (((((x46.getD ((r53.1).toNat) 0) + r55.1) + r57.1)).toNat)).drop ((((x46.getD ((r53.1).toNat) 0) + r55.1)).toNat))).length) (b := 8) hg11 (by decide)).2 rfl (fun p65 c66 => ?_))
          refine RJ_op rfl (OJ_P (P_assign rfl) rfl ?_)
          refine RJ_nil ?_
          refine QJ_block_normal ?_
          refine QJ_then ?_
          refine CJ_region ?_
          refine RJ_op rfl (OJ_P (P_move rfl) rfl ?_)
          obtain ⟨hg12, h⟩ := grd_Ie h
          refine RJ_op rfl (OJ_P (P_sub (a := x47) (b := (1 : Int)) rfl rfl hg12) rfl ?_)
          refine RJ_op rfl (OJ_P (P_assign rfl) rfl ?_)
          refine RJ_nil ?_
          refine QJ_nextR ⟨n, (x43 ++ [(⟨r53.1, ((x46.getD ((r53.1).toNat) 0) + r55.1), r57.1⟩ : volumegrouplaw05_span)]), r57.2, (x46.set ((r53.1).toNat) ((((x46.getD ((r53.1).toNat) 0) + r55.1) + r57.1))), (x47 - (1 : Int)), (x48 ++ (((((([r2, r6, r10] : List (List UInt64))).getD ((r53.1).toNat) [])).take (((((x46.getD ((r53.1).toNat) 0) + r55.1) + r57.1)).toNat)).drop ((((x46.getD ((r53.1).toNat) 0) + r55.1)).toNat))), ⟨p62, (x43 ++ [(⟨r53.1, ((x46.getD ((r53.1).toNat) 0) + r55.1), r57.1⟩ : volumegrouplaw05_span)]).length, c63⟩, ⟨p65, (x48 ++ (((((([r2, r6, r10] : List (List UInt64))).getD ((r53.1).toNat) [])).take (((((x46.getD ((r53.1).toNat) 0) + r55.1) + r57.1)).toNat)).drop ((((x46.getD ((r53.1).toNat) 0) + r55.1)).toNat))).length, c66⟩⟩ (Nat.lt_succ_self _) ?_ (by repeat (first | exact Kp.base | exact Kp.self | refine Kp.cons rfl ?_ | refine Kp.forget rfl ?_)) ?_ (Ent.take del1 (Ent.take del3 (Ent.take del1 (Ent.take del2 (Ent.take del0 (Ent.take del1 (Ent.take del0 (Ent.take del0 (Ent.take del0 (Ent.take del0 Ent.refl))))))))))
          · exact h
          · exact ⟨rfl, rfl, True.intro⟩
      ·
        replace h := ite_f hg1 h
        refine CJ_exit ?_
        refine QJ_then_exit ?_
        refine QJ_round_exit ?_
        refine QJ_block_here ?_
        refine QJ_cutR ⟨(x48, x45, x46, x43), hd49, hd44⟩ ?_ (by repeat (first | exact Kp.base | exact Kp.self | refine Kp.cons rfl ?_ | refine Kp.forget rfl ?_)) ?_ (Ent.take del4 (Ent.take del2 (Ent.take del2 (Ent.take del0 (Ent.take del0 (Ent.take del0 (Ent.take del0 (Ent.take del0 (Ent.take del0 (Ent.take del0 Ent.refl))))))))))
        · exact (Option.some.inj h).symm
        · exact ⟨rfl, True.intro⟩
  ·
    rintro ⟨a42, hd37, hd41⟩ hy67
    replace h := bindK_at hK34 hy67
    show CJ _ _ _ _ _ (([(9, hd37.v)] : Slots) ++ forget _ _) (sl tyU hd37.v a42.1 :: blk X23.1 169 [X23.2, .int .i64 a42.2.1] :: sl tyI (.slice (some ⟨b27, 0, none⟩) 3 3) a42.2.2.1 :: sl tyvolumegrouplaw05_span hd41.v a42.2.2.2 :: blk b26 135 [hd41.v] :: _)
    refine CJ_pure (len_of (Reads.sl _ _ _) del0) (fun hlen68 => ?_)
    refine CJ_pure (len_of (Reads.sl _ _ _) del2) (fun hlen69 => ?_)
    refine CJ_pure (len_of (Reads.sl _ _ _) del3) (fun hlen70 => ?_)
    refine CJ_seq ?_
    refine CJ_region ?_
    refine RJ_op rfl (OJ_P (P_move rfl) rfl ?_)
    refine RJ_op rfl (OJ_P (P_move rfl) rfl ?_)
    refine RJ_op rfl (OJ_V (V_len rfl foc0 (Reads.sl _ _ _) Try.runUnderlying25) rfl ?_)
    obtain ⟨hg13, h⟩ := grd_Ne h
    refine RJ_op rfl (OJ_P (PJ_eq (P_add (a := ((a42.1.length : Nat) : Int)) (b := (1 : Int)) rfl rfl (nat_in hg13)) rfl) rfl ?_)
    obtain ⟨r71, hr72, h⟩ := bind_e h
    refine RJ_op rfl (O_call (L_volumegroupmake_Src_N hpur_q25 hr72) rfl Try.call76 (Dels.cons del1 (Dels.cons del5 Dels.nil)) rfl (fun _ _ => ?_))
    refine RJ_op rfl (O_alloc Try.zeroValue3 rfl rfl (fun b73 => ?_))
    refine RJ_op rfl (O_store rfl rfl foc0 rfl rfl Try.sizeOf3 ?_)
    refine RJ_nil ?_
    refine QJ_ent (Ent.take del0 (Ent.take del0 (Ent.take del0 (Ent.take del0 (Ent.take del1 (Ent.take del1 (Ent.take del2 (Ent.take del3 (Ent.drop (Ent.drop (Ent.drop Ent.refl))))))))))) ?_
    refine QJ_then ?_
    refine CJ_seq ?_
    refine AJ_start [blk b73 3 [.int .i64 r71.1], Al, sl tyU hd37.v a42.1, sl tyvolumegrouplaw05_span hd41.v a42.2.2.2, blk b26 135 [hd41.v], blk b20 23 [oval r16 X18], optP (Arr X18) r16] 1024 (by kernel_rfl) rfl ?_
    refine AJ_takeV 0 1 rfl (by kernel_rfl) rfl (by kernel_rfl) (by kernel_rfl) (GY_none rfl) (Ent.take del0 (Ent.take del1 (Ent.take del1 (Ent.take del1 (Ent.take del1 (Ent.take del1 (Ent.take del1 Ent.done))))))) (V_load rfl foc0 rfl Try.isAgg3) rfl (fun _ _ _ _ h => h) ?_
    refine AJ_takeP 1 3 rfl (by kernel_rfl) rfl (GY_none rfl) (P_move rfl) rfl (fun _ _ _ _ h => h) ?_
    refine AJ_takeP 2 7 rfl (by kernel_rfl) rfl (GY_none rfl) (P_move rfl) rfl (fun _ _ _ _ h => h) ?_
    refine AJ_takeV 3 15 rfl (by kernel_rfl) rfl (by kernel_rfl) (by kernel_rfl) (GY_none rfl) (Ent.take del0 (Ent.take del1 (Ent.take del1 (Ent.take del1 (Ent.take del1 (Ent.take del1 (Ent.take del1 Ent.done))))))) (V_len rfl foc2 (Reads.sl _ _ _) Try.runUnderlying25) rfl (fun _ _ _ _ h => h) ?_
    refine AJ_takeV 4 31 rfl (by kernel_rfl) rfl (by kernel_rfl) (by kernel_rfl) (GY_none rfl) (Ent.take del0 (Ent.take del1 (Ent.take del1 (Ent.take del1 (Ent.take del1 (Ent.take del1 (Ent.take del1 Ent.done))))))) (V_load rfl foc0 rfl Try.isAgg3) rfl (fun _ _ _ _ h => h) ?_
    obtain ⟨hg14, h⟩ := grd_Ie h
    refine AJ_takeP 5 63 rfl (by kernel_rfl) rfl (GY_none rfl) (P_sub (a := ((a42.1.length : Nat) : Int)) (b := r71.1) rfl rfl hg14) rfl (fun _ _ _ _ h => h) ?_
    obtain ⟨hg15, h⟩ := grd_Ie h
    refine AJ_takeP 6 127 rfl (by kernel_rfl) rfl (GY_none rfl) (P_add (a := (((a42.1.length : Nat) : Int) - r71.1)) (b := (1 : Int)) rfl rfl hg15) rfl (fun _ _ _ _ h => h) ?_
    refine AJ_two 7 9 255 639 rfl rfl (by kernel_rfl) rfl rfl (GY_none rfl) (GY_none rfl) ?_ ?_
    ·
      obtain ⟨r74, hr75, h⟩ := bind_e h
      refine O_call (L_volumegroupmake_Src_N hpur_q25 hr75) rfl Try.call76 (Dels.cons del1 (Dels.cons del1 Dels.nil)) rfl (fun _ _ => ?_)
      refine ⟨fun _ => (Ent.take del2 (Ent.take del1 (Ent.take del1 (Ent.take del1 (Ent.take del1 (Ent.take del1 (Ent.take del1 Ent.done))))))), ?_⟩
      obtain ⟨hg16, h⟩ := grd_Ie h
      refine AJ_takeP 8 511 rfl (by kernel_rfl) rfl (GY_none rfl) (P_add (a := r71.1) (b := r74.1) rfl rfl hg16) rfl (fun _ _ _ _ h => h) ?_
      refine AJ_op 9 1023 rfl (by kernel_rfl) rfl (GY_none rfl) (O_alloc Try.zeroValue3 rfl rfl (fun b76 => ?_))
      refine ⟨fun _ => (Ent.take del3 (Ent.take del2 (Ent.take del2 (Ent.take del2 (Ent.take del2 (Ent.take del2 (Ent.take del2 Ent.done))))))), ?_⟩
      refine AJ_op 10 2047 rfl (by kernel_rfl) rfl (GY_none rfl) (O_store rfl rfl foc0 rfl rfl Try.sizeOf3 ?_)
      refine ⟨fun h => absurd h (by decide), ?_⟩
      refine AJ_done (by kernel_rfl) ?_
      refine QJ_ent (Ent.take del0 (Ent.take del1 (Ent.take del1 (Ent.take del1 (Ent.take del1 (Ent.take del1 (Ent.take del1 (Ent.take del1 (Ent.drop Ent.refl))))))))) ?_
      refine QJ_then ?_
      refine CJ_seq ?_
      refine CJ_region ?_
      refine RJ_op rfl (OJ_P (P_makeFunc rfl rfl) rfl ?_)
      refine RJ_op rfl (OJ_P (P_assign rfl) rfl ?_)
      refine RJ_nil ?_
      refine QJ_then ?_
      refine CJ_seq ?_
      refine AJ_startH 0 (by kernel_rfl) rfl ?_
      refine AJ_takeV 0 1 rfl (by kernel_rfl) rfl (by kernel_rfl) (by kernel_rfl) (GY_none rfl) (Ent.take del0 (Ent.take del0 (Ent.take del0 (Ent.take del0 (Ent.take del0 (Ent.take del0 (Ent.take del0 (Ent.take del0 Ent.refl)))))))) (V_load rfl foc6 rfl Try.isAgg23) rfl (fun _ _ _ _ h => h) ?_
      refine AJ_takeP 1 3 rfl (by kernel_rfl) rfl (GY_none rfl) (P_move rfl) rfl (fun _ _ _ _ h => h) ?_
      refine AJ_takeP 2 7 rfl (by kernel_rfl) rfl (GY_none rfl) (P_move rfl) rfl (fun _ _ _ _ h => h) ?_
      refine AJ_takeV 3 15 rfl (by kernel_rfl) rfl (by kernel_rfl) (by kernel_rfl) (GY_none rfl) (Ent.take del0 (Ent.take del0 (Ent.take del0 (Ent.take del0 (Ent.take del0 (Ent.take del0 (Ent.take del0 (Ent.take del0 Ent.refl)))))))) (V_load rfl foc2 rfl Try.isAgg3) rfl (fun _ _ _ _ h => h) ?_
      refine AJ_takeV 4 31 rfl (by kernel_rfl) rfl (by kernel_rfl) (by kernel_rfl) (GY_none rfl) (Ent.take del0 (Ent.take del0 (Ent.take del0 (Ent.take del0 (Ent.take del0 (Ent.take del0 (Ent.take del0 (Ent.take del0 Ent.refl)))))))) (V_load rfl foc0 rfl Try.isAgg3) rfl (fun _ _ _ _ h => h) ?_
      obtain ⟨hg17, h⟩ := grd_de h
      refine AJ_takeV 5 63 rfl (by kernel_rfl) rfl (by kernel_rfl) (by kernel_rfl) (GY_none rfl) (Ent.take del0 (Ent.take del0 (Ent.take del0 (Ent.take del0 (Ent.take del0 (Ent.take del0 (Ent.take del0 (Ent.take del0 Ent.refl)))))))) (V_slice (l := (r71.1).toNat) (h := ((r71.1 + r74.1)).toNat) rfl foc3 (Reads.sl _ _ _) ⟨_, by rw [Int.toNat_of_nonneg (by omega)]; exact rfl⟩ ⟨_, by rw [Int.toNat_of_nonneg (by omega)]; exact rfl⟩ (by omega) (by omega) Try.underlying25 Try.sizeOf22) rfl (fun _ _ _ _ h => h) ?_
      refine AJ_takeP 6 127 rfl (by kernel_rfl) rfl (GY_none rfl) (P_assign rfl) rfl (fun _ _ _ _ h => h) ?_
      refine AJ_takeP 7 255 rfl (by kernel_rfl) rfl (GY_none rfl) (P_assign rfl) rfl (fun _ _ _ _ h => h) ?_
      refine AJ_takeP 8 511 rfl (by kernel_rfl) rfl (GY_none rfl) (P_assign rfl) rfl (fun _ _ _ _ h => h) ?_
      refine AJ_done (by kernel_rfl) ?_
      refine QJ_then ?_
      refine CJ_ret ?_
      refine QJ_ent (Ent.trans (Ent.take del3 Ent.refl) (RdP_mk (t := tyU) (v := sliceV tyU.sz hd37.v ((r71.1).toNat) (((r71.1 + r74.1)).toNat)) (xs := ((a42.1.take (((r71.1 + r74.1)).toNat)).drop ((r71.1).toNat))) (Reads.sliceV (Reads.sl _ _ _) (by omega) (by omega)))) ?_
      have hE := Option.some.inj h
      subst hE
      refine QJ_end (res3 Try.results31 rfl rfl rfl) ?_
      refine CSpec.close ⟨X18, b26, hd41, b20, b73, b76, sliceV tyU.sz hd37.v ((r71.1).toNat) (((r71.1 + r74.1)).toNat)⟩ ?_ ?_ (Ent.take del2 (Ent.take del6 (Ent.take del4 (Ent.take del3 (Ent.take del3 (Ent.take del2 (Ent.take del1 (Ent.take del0 Ent.refl))))))))
      · rfl
      · trivial
    ·
      refine O_alloc Try.zeroValue3 rfl rfl (fun b78 => ?_)
      refine ⟨fun _ => (Ent.take del1 (Ent.take del2 (Ent.take del2 (Ent.take del2 (Ent.take del2 (Ent.take del2 (Ent.take del2 Ent.done))))))), ?_⟩
      obtain ⟨r79, hr80, h⟩ := bind_e h
      refine AJ_op 7 767 rfl (by kernel_rfl) rfl (GY_none rfl) (O_call (L_volumegroupmake_Src_N hpur_q25 hr80) rfl Try.call76 (Dels.cons del2 (Dels.cons del2 Dels.nil)) rfl (fun _ _ => ?_))
      refine ⟨fun _ => (Ent.take del3 (Ent.take del1 (Ent.take del2 (Ent.take del2 (Ent.take del2 (Ent.take del2 (Ent.take del2 Ent.done))))))), ?_⟩
      obtain ⟨hg18, h⟩ := grd_Ie h
      refine AJ_takeP 8 1023 rfl (by kernel_rfl) rfl (GY_none rfl) (P_add (a := r71.1) (b := r79.1) rfl rfl hg18) rfl (fun _ _ _ _ h => h) ?_
      refine AJ_op 10 2047 rfl (by kernel_rfl) rfl (GY_none rfl) (O_store rfl rfl foc2 rfl rfl Try.sizeOf3 ?_)
      refine ⟨fun h => absurd h (by decide), ?_⟩
      refine AJ_done (by kernel_rfl) ?_
      refine QJ_ent (Ent.take del1 (Ent.take del1 (Ent.take del1 (Ent.take del1 (Ent.take del1 (Ent.take del1 (Ent.take del1 (Ent.take del1 (Ent.drop Ent.refl))))))))) ?_
      refine QJ_then ?_
      refine CJ_seq ?_
      refine CJ_region ?_
      refine RJ_op rfl (OJ_P (P_makeFunc rfl rfl) rfl ?_)
      refine RJ_op rfl (OJ_P (P_assign rfl) rfl ?_)
      refine RJ_nil ?_
      refine QJ_then ?_
      refine CJ_seq ?_
      refine AJ_startH 0 (by kernel_rfl) rfl ?_
      refine AJ_takeV 0 1 rfl (by kernel_rfl) rfl (by kernel_rfl) (by kernel_rfl) (GY_none rfl) (Ent.take del0 (Ent.take del0 (Ent.take del0 (Ent.take del0 (Ent.take del0 (Ent.take del0 (Ent.take del0 (Ent.take del0 Ent.refl)))))))) (V_load rfl foc6 rfl Try.isAgg23) rfl (fun _ _ _ _ h => h) ?_
      refine AJ_takeP 1 3 rfl (by kernel_rfl) rfl (GY_none rfl) (P_move rfl) rfl (fun _ _ _ _ h => h) ?_
      refine AJ_takeP 2 7 rfl (by kernel_rfl) rfl (GY_none rfl) (P_move rfl) rfl (fun _ _ _ _ h => h) ?_
      refine AJ_takeV 3 15 rfl (by kernel_rfl) rfl (by kernel_rfl) (by kernel_rfl) (GY_none rfl) (Ent.take del0 (Ent.take del0 (Ent.take del0 (Ent.take del0 (Ent.take del0 (Ent.take del0 (Ent.take del0 (Ent.take del0 Ent.refl)))))))) (V_load rfl foc2 rfl Try.isAgg3) rfl (fun _ _ _ _ h => h) ?_
      refine AJ_takeV 4 31 rfl (by kernel_rfl) rfl (by kernel_rfl) (by kernel_rfl) (GY_none rfl) (Ent.take del0 (Ent.take del0 (Ent.take del0 (Ent.take del0 (Ent.take del0 (Ent.take del0 (Ent.take del0 (Ent.take del0 Ent.refl)))))))) (V_load rfl foc1 rfl Try.isAgg3) rfl (fun _ _ _ _ h => h) ?_
      obtain ⟨hg19, h⟩ := grd_de h
      refine AJ_takeV 5 63 rfl (by kernel_rfl) rfl (by kernel_rfl) (by kernel_rfl) (GY_none rfl) (Ent.take del0 (Ent.take del0 (Ent.take del0 (Ent.take del0 (Ent.take del0 (Ent.take del0 (Ent.take del0 (Ent.take del0 Ent.refl)))))))) (V_slice (l := (r71.1).toNat) (h := ((r71.1 + r79.1)).toNat) rfl foc3 (Reads.sl _ _ _) ⟨_, by rw [Int.toNat_of_nonneg (by omega)]; exact rfl⟩ ⟨_, by rw [Int.toNat_of_nonneg (by omega)]; exact rfl⟩ (by omega) (by omega) Try.underlying25 Try.sizeOf22) rfl (fun _ _ _ _ h => h) ?_
      refine AJ_takeP 6 127 rfl (by kernel_rfl) rfl (GY_none rfl) (P_assign rfl) rfl (fun _ _ _ _ h => h) ?_
      refine AJ_takeP 7 255 rfl (by kernel_rfl) rfl (GY_none rfl) (P_assign rfl) rfl (fun _ _ _ _ h => h) ?_
      refine AJ_takeP 8 511 rfl (by kernel_rfl) rfl (GY_none rfl) (P_assign rfl) rfl (fun _ _ _ _ h => h) ?_
      refine AJ_done (by kernel_rfl) ?_
      refine QJ_then ?_
      refine CJ_ret ?_
      refine QJ_ent (Ent.trans (Ent.take del3 Ent.refl) (RdP_mk (t := tyU) (v := sliceV tyU.sz hd37.v ((r71.1).toNat) (((r71.1 + r79.1)).toNat)) (xs := ((a42.1.take (((r71.1 + r79.1)).toNat)).drop ((r71.1).toNat))) (Reads.sliceV (Reads.sl _ _ _) (by omega) (by omega)))) ?_
      have hE := Option.some.inj h
      subst hE
      refine QJ_end (res3 Try.results31 rfl rfl rfl) ?_
      refine CSpec.close ⟨X18, b26, hd41, b20, b73, b78, sliceV tyU.sz hd37.v ((r71.1).toNat) (((r71.1 + r79.1)).toNat)⟩ ?_ ?_ (Ent.take del1 (Ent.take del6 (Ent.take del4 (Ent.take del3 (Ent.take del3 (Ent.take del2 (Ent.take del1 (Ent.take del0 Ent.refl))))))))
      · rfl
      · trivial

def volumegroupmake_Track_All_l1_b (x_1 : Dvc) (settled : Bool) (s : ArrS) (rec : (List Sec) → Nat → Option (((List Sec)) ⊕ (Bool × (List Sec)))) (x6 : List Sec) (x7 : Nat) : Option (((List Sec)) ⊕ (Bool × (List Sec))) :=
  if (((x7 : Nat) : Int) < ((x6.length : Nat) : Int)) then
    Option.bind (Dvc.rd x_1 s (((x7 : Nat) : Int))) fun r11 =>
    if (r11.2 ≠ (0 : Int)) then
      some (.inr (false, x6))
    else
      grd (decide (smallT x6 = true)) <|
      if (¬ (rdTR x6 (((x7 : Nat) : Int)) r11.1) = true) then
        some (.inr ((false, (rdTS x6 (((x7 : Nat) : Int)) r11.1 settled))))
      else
        grd (inN64 (x7 + 1)) <|
        rec ((rdTS x6 (((x7 : Nat) : Int)) r11.1 settled)) (x7 + 1)
  else
    some (.inl x6)

def volumegroupmake_Track_All_l1 (x_1 : Dvc) (settled : Bool) (s : ArrS) : Nat → (List Sec) → Nat → Option (((List Sec)) ⊕ (Bool × (List Sec)))
  | 0, _, _ => none
  | n + 1, x6, x7 => volumegroupmake_Track_All_l1_b x_1 settled s (volumegroupmake_Track_All_l1 x_1 settled s n) x6 x7

def volumegroupmake_Track_All (t : List Sec) (x_1 : Dvc) (settled : Bool) (s : ArrS) : Option (Bool × (List Sec)) :=
  seqO (volumegroupmake_Track_All_l1 x_1 settled s FUEL t 0) fun a5 =>
  some (true, a5)

theorem L_volumegroupmake_Track_All {W : World} {bt : Nat} {vx_1 : IfH} {bs : Nat} {t : List Sec} {x_1 : Dvc} {settled : Bool} {s : ArrS} {r : Bool × (List Sec)} (h : volumegroupmake_Track_All t x_1 settled s = some r) :
    CSpec Try.prog W 83 [ptr bt 0, IfH.v vx_1, .bool settled] [Trk bt t, DevP bs x_1 vx_1, Arr bs s] (fun x : Unit => .bool r.1) (fun _ => True) (fun x F => Trk bt r.2 :: DevP bs x_1 vx_1 :: Arr bs s :: F) := by
  refine CSpec.of_body Try.func83 rfl Try.ntmps83 rfl (fun F => ?_)
  show CJ _ _ _ _ _ _ (_ :: _ :: _ :: F)
  unfold volumegroupmake_Track_All at h
  refine CJ_seq ?_
  refine CJ_region ?_
  refine RJ_op rfl (OJ_P (P_assign rfl) rfl ?_)
  refine RJ_nil ?_
  refine QJ_then ?_
  refine CJ_seq ?_
  refine CJ_seq ?_
  refine CJ_region ?_
  refine RJ_op rfl (OJ_P (P_assign rfl) rfl ?_)
  refine RJ_nil ?_
  refine QJ_then ?_
  obtain ⟨y3, hl1, hK2⟩ := seq_e h
  refine CJ_cutT (X := (List Sec)) [6, 7, 8, 9, 10, 11, 12, 13, 14, 15, 16, 17, 18, 19, 20, 21, 22, 23, 24, 25, 26, 27, 28, 29, 30, 31, 32, 33, 34] (fun a5 => ([] : Slots)) (fun a5 R => Trk bt a5 :: R) (fun a5 => y3 = .inl a5) (Dels.cons del0 Dels.nil) ?_ ?_
  ·
    refine CJ_block ?_
    refine CJ_loopR (X := Nat × (List Sec) × Nat) [6, 7, 8, 9, 10, 11, 12, 13, 14, 15, 16, 17, 18, 19, 20, 21, 22, 23, 24, 25, 26, 27, 28, 29, 30, 31, 32, 33, 34] (fun ⟨n, x6, x7⟩ => ([(7, .int .i64 (((x7 : Nat) : Int)))] : Slots)) (fun ⟨n, x6, x7⟩ R => Trk bt x6 :: R) (fun ⟨n, x6, x7⟩ => volumegroupmake_Track_All_l1 x_1 settled s n x6 x7 = some y3) (fun ⟨n, x6, x7⟩ => n) ⟨FUEL, t, 0⟩ ?_ ?_ (Ent.take del0 (Ent.take del0 (Ent.take del0 Ent.refl))) ?_
    · exact hl1
    · exact ⟨rfl, True.intro⟩
    ·
      rintro ⟨n, x6, x7⟩ h
      cases n with
      | zero => exact none_e h
      | succ n => ?_
      replace h : volumegroupmake_Track_All_l1_b x_1 settled s (volumegroupmake_Track_All_l1 x_1 settled s n) x6 x7 = some y3 := h
      unfold volumegroupmake_Track_All_l1_b at h
      show CJ _ _ _ _ _ (([(7, .int .i64 (((x7 : Nat) : Int)))] : Slots) ++ forget _ _) (Trk bt x6 :: _)
      refine CJ_seq ?_
      refine CJ_seq ?_
      refine CJ_entX (Ent.transX (Ent.take del0 Ent.refl) Trk_open) (fun tc8 => ?_)
      refine CJ_pur (fun hS9 => ?_)
      refine CJ_region ?_
      refine RJ_op rfl (OJ_P (P_move rfl) rfl ?_)
      refine RJ_op rfl (OJ_P (P_move rfl) rfl ?_)
      refine RJ_op rfl (OJ_P (P_nilCheck rfl) rfl ?_)
      refine RJ_op rfl (OJ_P (P_fieldAddr rfl ⟨_, _, _, Try.runUnderlying172, rfl, rfl, Try.sizeOf170, rfl⟩) rfl ?_)
      refine RJ_op rfl (OJ_V (V_load rfl foc0 rfl Try.isAgg170) rfl ?_)
      refine RJ_op rfl (OJ_V (VJ_eq (V_len rfl foc1 (Reads.sl _ _ _) Try.runUnderlying170) (congrArg (fun z : Nat => Value.int .i64 (z : Int)) hS9.len.symm)) rfl ?_)
      refine RJ_op rfl (OJ_P (P_lss (a := ((x7 : Nat) : Int)) (b := ((x6.length : Nat) : Int)) rfl rfl) rfl ?_)
      refine RJ_nil ?_
      refine QJ_ent (Ent.trans (Ent.take del0 (Ent.take del0 (Ent.take del0 Ent.refl))) (Trk_close hS9)) ?_
      refine QJ_then ?_
      refine CJ_condP rfl bT_dec (fun hg1 => ?_) (fun hg1 => ?_)
      ·
        replace h := ite_t hg1 h
        refine CJ_skip ?_
        refine QJ_then ?_
        refine CJ_seq ?_
        refine CJ_block ?_
        refine CJ_seq ?_
        refine CJ_region ?_
        refine RJ_op rfl (OJ_P (P_move rfl) rfl ?_)
        refine RJ_op rfl (OJ_P (P_move rfl) rfl ?_)
        refine RJ_pure (fun h hh => DevP_dep h (stars_perm (del1 (A := DevP bs x_1 vx_1)).out h hh)) (fun hdp10 => ?_)
        obtain ⟨r11, hr12, h⟩ := bind_e h
        refine RJ_op rfl (O_callI rfl (dev_Read hr12 hdp10) rfl (Dels.cons del1 (Dels.cons del1 Dels.nil)) rfl (fun _ _ => ?_))
        refine RJ_op rfl (OJ_P (P_move rfl) rfl ?_)
        refine RJ_op rfl (OJ_P (P_extract rfl rfl) rfl ?_)
        refine RJ_op rfl (OJ_P (P_extract rfl rfl) rfl ?_)
        refine RJ_op rfl (OJ_P (P_assign rfl) rfl ?_)
        refine RJ_op rfl (OJ_P (P_assign rfl) rfl ?_)
        refine RJ_nil ?_
        refine QJ_then ?_
        refine CJ_seq ?_
        refine CJ_region ?_
        refine RJ_op rfl (OJ_P (P_move rfl) rfl ?_)
        refine RJ_op rfl (OJ_P (P_neq (a := r11.2) (b := (0 : Int)) rfl rfl) rfl ?_)
        refine RJ_op rfl (OJ_P (P_move rfl) rfl ?_)
        refine RJ_splitP 27 rfl bT_dec (fun hg2B hg2 => ?_) (fun hg2B hg2 => ?_)
        ·
          replace h := ite_t hg2 h
          refine RJ_gn (GY_no rfl rfl rfl hg2B) rfl rfl ?_
          refine RJ_gn (GY_no rfl rfl rfl hg2B) rfl rfl ?_
          refine RJ_gn (GY_no rfl rfl rfl hg2B) rfl rfl ?_
          refine RJ_gn (GY_no rfl rfl rfl hg2B) rfl rfl ?_
          refine RJ_gn (GY_no rfl rfl rfl hg2B) rfl rfl ?_
          refine RJ_gn (GY_no rfl rfl rfl hg2B) rfl rfl ?_
          refine RJ_op rfl (OJ_P (P_pickT rfl hg2B rfl) rfl ?_)
          refine RJ_nil ?_
          refine QJ_then ?_
          refine CJ_condT rfl rfl ?_
          refine CJ_seq ?_
          refine CJ_region ?_
          refine RJ_op rfl (OJ_P (P_assign rfl) rfl ?_)
          refine RJ_nil ?_
          refine QJ_then ?_
          refine CJ_ret ?_
          refine QJ_block_ret ?_
          refine QJ_then_ret ?_
          refine QJ_round_ret ?_
          refine QJ_block_ret ?_
          refine QJ_then_ret ?_
          have hE := Option.some.inj h
          replace hE := seq_inr hK2 hE.symm
          subst hE
          refine QJ_end (res1 Try.results83 rfl) ?_
          refine CSpec.close () ?_ ?_ (Ent.take del2 (Ent.take del0 (Ent.take del0 Ent.refl)))
          · rfl
          · trivial
        ·
          replace h := ite_f hg2 h
          refine RJ_gy (GY_yes rfl rfl rfl hg2B) (OJ_P (P_move rfl) rfl ?_)
          refine RJ_gy (GY_yes rfl rfl rfl hg2B) (OJ_P (P_move rfl) rfl ?_)
          refine RJ_gy (GY_yes rfl rfl rfl hg2B) (OJ_P (P_move rfl) rfl ?_)
          refine RJ_gy (GY_yes rfl rfl rfl hg2B) (OJ_P (P_move rfl) rfl ?_)
          obtain ⟨hg3, h⟩ := grd_de h
          refine RJ_gy (GY_yes rfl rfl rfl hg2B) (O_call (c_Reads (smallT_at hg3) (v := r11.1)) rfl Try.call80 (Dels.cons del2 Dels.nil) rfl (fun _ _ => ?_))
          refine RJ_gy (GY_yes rfl rfl rfl hg2B) (OJ_P (P_not rfl) rfl ?_)
          refine RJ_op rfl (OJ_P (P_pickF rfl hg2B rfl) rfl ?_)
          refine RJ_nil ?_
          refine QJ_then ?_
          refine CJ_condP rfl (bT_not Iff.rfl) (fun hg4 => ?_) (fun hg4 => ?_)
          ·
            replace h := ite_t hg4 h
            refine CJ_seq ?_
            refine CJ_region ?_
            refine RJ_op rfl (OJ_P (P_assign rfl) rfl ?_)
            refine RJ_nil ?_
            refine QJ_then ?_
            refine CJ_ret ?_
            refine QJ_block_ret ?_
            refine QJ_then_ret ?_
            refine QJ_round_ret ?_
            refine QJ_block_ret ?_
            refine QJ_then_ret ?_
            have hE := Option.some.inj h
            replace hE := seq_inr hK2 hE.symm
            subst hE
            refine QJ_end (res1 Try.results83 rfl) ?_
            refine CSpec.close () ?_ ?_ (Ent.take del0 (Ent.take del0 (Ent.take del0 Ent.refl)))
            · rfl
            · trivial
          ·
            replace h := ite_f hg4 h
            refine CJ_skip ?_
            refine QJ_block_normal ?_
            refine QJ_then ?_
            refine CJ_region ?_
            refine RJ_op rfl (OJ_P (P_move rfl) rfl ?_)
            obtain ⟨hg5, h⟩ := grd_Ne h
            refine RJ_op rfl (OJ_P (PJ_eq (P_add (a := ((x7 : Nat) : Int)) (b := (1 : Int)) rfl rfl (nat_in hg5)) rfl) rfl ?_)
            refine RJ_op rfl (OJ_P (P_assign rfl) rfl ?_)
            refine RJ_nil ?_
            refine QJ_nextR ⟨n, (rdTS x6 (((x7 : Nat) : Int)) r11.1 settled), (x7 + 1)⟩ (Nat.lt_succ_self _) ?_ (by repeat (first | exact Kp.base | exact Kp.self | refine Kp.cons rfl ?_ | refine Kp.forget rfl ?_)) ?_ (Ent.take del0 (Ent.take del0 (Ent.take del0 Ent.refl)))
            · exact h
            · exact ⟨rfl, True.intro⟩
      ·
        replace h := ite_f hg1 h
        refine CJ_exit ?_
        refine QJ_then_exit ?_
        refine QJ_round_exit ?_
        refine QJ_block_here ?_
        refine QJ_cutR x6 ?_ (by repeat (first | exact Kp.base | exact Kp.self | refine Kp.cons rfl ?_ | refine Kp.forget rfl ?_)) ?_ (Ent.take del0 (Ent.take del0 (Ent.take del0 Ent.refl)))
        · exact (Option.some.inj h).symm
        · exact True.intro
  ·
    rintro a5 hy13
    replace h := seq_inl hK2 hy13
    show CJ _ _ _ _ _ (([] : Slots) ++ forget _ _) (Trk bt a5 :: _)
    refine CJ_seq ?_
    refine CJ_region ?_
    refine RJ_op rfl (OJ_P (P_assign rfl) rfl ?_)
    refine RJ_nil ?_
    refine QJ_then ?_
    refine CJ_ret ?_
    have hE := Option.some.inj h
    subst hE
    refine QJ_end (res1 Try.results83 rfl) ?_
    refine CSpec.close () ?_ ?_ (Ent.take del0 (Ent.take del0 (Ent.take del0 Ent.refl)))
    · rfl
    · trivial

end Go.Proofs
