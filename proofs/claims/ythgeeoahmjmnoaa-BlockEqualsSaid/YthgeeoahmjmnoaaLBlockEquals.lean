/- YthgeeoahmjmnoaaLBlockEquals: lifted functions of the program; printed by lift.py. -/
import Derived.Test.YthgeeoahmjmnoaaLCopy
set_option linter.unusedSimpArgs false
set_option linter.unusedVariables false
set_option maxRecDepth 20000
set_option maxHeartbeats 4000000
namespace Go.Proofs
open Go.VG

def volumegrouplaw05_BlockEquals (at_0 : UInt8) (n_1 : UInt8) (k : UInt8) (v : UInt64) : Option (Bool) :=
  Option.bind (volumegroupmake_Words (8 : Int) (3 : UInt64)) fun r1 =>
  Option.bind (volumegroupmake_Words (8 : Int) (900 : UInt64)) fun r5 =>
  Option.bind (volumegroupmake_Loaded (([r1, r5] : List (List UInt64)))) fun r11 =>
  Option.elim r11 (
    some false) fun o16 =>
  Option.bind (volumegroupmake_Spans o16) fun r17 =>
  if (((r17.length : Nat) : Int) ≠ (2 : Int)) then
    some false
  else
    grd (inI64 (((9 : Int) - ((((at_0 % (9 : UInt8))).toNat : Nat) : Int)))) <|
    grd (decide (¬ ((9 : Int) - ((((at_0 % (9 : UInt8))).toNat : Nat) : Int)) = 0)) <|
    Option.bind (block_Copy (r17.getD 0 dv0) (r17.getD 1 dv0) (((((at_0 % (9 : UInt8))).toNat : Nat) : Int)) (((((n_1.toNat : Nat) : Int)).tmod (((9 : Int) - ((((at_0 % (9 : UInt8))).toNat : Nat) : Int))))) o16) fun r25 =>
    if (r25.1 ≠ (0 : Int)) then
      some false
    else
      Option.bind (block_Equal (r17.getD 0 dv0) (r17.getD 1 dv0) (((((at_0 % (9 : UInt8))).toNat : Nat) : Int)) (((((n_1.toNat : Nat) : Int)).tmod (((9 : Int) - ((((at_0 % (9 : UInt8))).toNat : Nat) : Int))))) r25.2) fun r29 =>
      Option.bind (Dvc.rd (r17.getD 1 dv0) r25.2 (((((k % (8 : UInt8))).toNat : Nat) : Int))) fun r33 =>
      if (((r29.2 ≠ (0 : Int)) ∨ (¬ r29.1 = true)) ∨ (r33.2 ≠ (0 : Int))) then
        some false
      else
        Option.bind (Dvc.wr (r17.getD 1 dv0) r25.2 (((((k % (8 : UInt8))).toNat : Nat) : Int)) v) fun r45 =>
        if (r45.1 ≠ (0 : Int)) then
          some false
        else
          Option.bind (block_Equal (r17.getD 0 dv0) (r17.getD 1 dv0) (((((at_0 % (9 : UInt8))).toNat : Nat) : Int)) (((((n_1.toNat : Nat) : Int)).tmod (((9 : Int) - ((((at_0 % (9 : UInt8))).toNat : Nat) : Int))))) r45.2) fun r49 =>
          if ((r49.2 = (0 : Int)) ∧ (r49.1 = true ↔ (((((((k % (8 : UInt8))).toNat : Nat) : Int) < ((((at_0 % (9 : UInt8))).toNat : Nat) : Int)) ∨ ((IntKind.i64.wrap (((((at_0 % (9 : UInt8))).toNat : Nat) : Int) + ((((n_1.toNat : Nat) : Int)).tmod (((9 : Int) - ((((at_0 % (9 : UInt8))).toNat : Nat) : Int)))))) ≤ ((((k % (8 : UInt8))).toNat : Nat) : Int))) ∨ (v = r33.1)))) then
            Option.bind (volumegrouplaw05_awake) fun r93 =>
            some r93
          else
            some false

theorem L_volumegrouplaw05_BlockEquals {W : World} {at_0 : UInt8} {n_1 : UInt8} {k : UInt8} {v : UInt64} {r : Bool} (h : volumegrouplaw05_BlockEquals at_0 n_1 k v = some r) :
    CSpec Try.prog W 5 [.int .u8 (at_0.toNat : Int), .int .u8 (n_1.toNat : Int), .int .u8 (k.toNat : Int), .int .u64 (v.toNat : Int)] [] (fun x : Unit => .bool r) (fun _ => True) (fun x F => F) := by
  refine CSpec.of_body Try.func5 rfl Try.ntmps5 rfl (fun F => ?_)
  show CJ _ _ _ _ _ _ (F)
  unfold volumegrouplaw05_BlockEquals at h
  refine CJ_seq ?_
  refine CJ_region ?_
  refine RJ_op rfl (OJ_P (P_assign rfl) rfl ?_)
  refine RJ_nil ?_
  refine QJ_then ?_
  refine CJ_seq ?_
  refine CJ_region ?_
  obtain ⟨r1, hr2, h⟩ := bind_e h
  refine RJ_op rfl (O_call (L_volumegroupmake_Words hr2) rfl Try.call16 Dels.nil rfl (fun X3 _ => ?_))
  obtain ⟨r5, hr6, h⟩ := bind_e h
  refine RJ_op rfl (O_call (L_volumegroupmake_Words hr6) rfl Try.call16 Dels.nil rfl (fun X7 _ => ?_))
  refine RJ_op rfl (O_buildSlice rfl (bs_27_2_0_1 _ _ _ _ _ _) rfl (fun b9 => ?_))
  refine RJ_ent (Ent.trans (Ent.take del0 Ent.refl) (sl_of_lit (t := tyRow) (m := 2) [(X3 : Sl3), (X7 : Sl3)] rfl rfl rfl (by decide))) ?_
  refine RJ_ent (Ent.starI (l := [sl tyU X3.v r1, sl tyU X7.v r5]) (Ent.take del2 (Ent.take del1 Ent.refl))) ?_
  obtain ⟨r11, hr12, h⟩ := bind_e h
  refine RJ_op rfl (O_call (L_volumegroupmake_Loaded (Reads.sl _ _ _) (RowsR.cons (Reads.sl _ _ _) (RowsR.cons (Reads.sl _ _ _) RowsR.nil)) hr12) rfl Try.call15 (Dels.cons del1 (Dels.cons del0 Dels.nil)) rfl (fun X13 _ => ?_))
  refine RJ_ent (Ent.trans (Ent.take del1 Ent.refl) (Ent.starE (l := [sl tyU X3.v r1, sl tyU X7.v r5]) Ent.refl)) ?_
  refine RJ_op rfl (OJ_P (P_assign rfl) rfl ?_)
  refine RJ_nil ?_
  refine QJ_then ?_
  refine CJ_seq ?_
  refine CJ_seq ?_
  refine CJ_region ?_
  refine RJ_op rfl (OJ_P (P_move rfl) rfl ?_)
  rcases opt_e h with ⟨ht15, h⟩ | ⟨o16, ht15, h⟩
  ·
    rw [ht15]
    refine RJ_ent (Ent.take del0 (Ent.take del0 (Ent.take del0 (Ent.drop Ent.refl)))) ?_
    refine RJ_op rfl (OJ_P (P_eqlNN rfl rfl Try.underlying23) rfl ?_)
    refine RJ_nil ?_
    refine QJ_then ?_
    refine CJ_condT rfl rfl ?_
    refine CJ_seq ?_
    refine CJ_region ?_
    refine RJ_op rfl (OJ_P (P_assign rfl) rfl ?_)
    refine RJ_nil ?_
    refine QJ_then ?_
    refine CJ_ret ?_
    refine QJ_then_ret ?_
    have hE := Option.some.inj h
    subst hE
    refine QJ_end (res1 Try.results5 rfl) ?_
    refine CSpec.close () ?_ ?_ (Ent.drop (Ent.drop (Ent.drop Ent.refl)))
    · rfl
    · trivial
  ·
    rw [ht15]
    refine RJ_ent (Ent.takeC (A' := Arr X13 o16) del3 rfl Ent.refl) ?_
    refine RJ_op rfl (OJ_P (P_eqlPN rfl rfl Try.underlying23) rfl ?_)
    refine RJ_nil ?_
    refine QJ_then ?_
    refine CJ_condF rfl rfl ?_
    refine CJ_skip ?_
    refine QJ_then ?_
    refine CJ_seq ?_
    refine CJ_region ?_
    refine RJ_op rfl (OJ_P (P_move rfl) rfl ?_)
    obtain ⟨r17, hr18, h⟩ := bind_e h
    refine RJ_op rfl (O_call (L_volumegroupmake_Spans hr18) rfl Try.call17 (Dels.cons del0 Dels.nil) rfl (fun X19 _ => ?_))
    refine RJ_pure (fun h hh => Rs_len (stars_perm (del2 (A := Rs (DevP X13) r17 X19.2)).out h hh)) (fun hdl22 => ?_)
    refine RJ_op rfl (OJ_P (P_assign rfl) rfl ?_)
    refine RJ_nil ?_
    refine QJ_then ?_
    refine CJ_seq ?_
    refine CJ_seq ?_
    refine CJ_region ?_
    refine RJ_op rfl (OJ_P (P_move rfl) rfl ?_)
    refine RJ_op rfl (OJ_V (VJ_eq (V_len rfl foc1 (Reads.sl _ _ _) Try.runUnderlying28) (congrArg (fun z : Nat => Value.int .i64 (z : Int)) (hdl22).symm)) rfl ?_)
    refine RJ_op rfl (OJ_P (P_neq (a := ((r17.length : Nat) : Int)) (b := (2 : Int)) rfl rfl) rfl ?_)
    refine RJ_nil ?_
    refine QJ_then ?_
    refine CJ_condP rfl bT_dec (fun hg1 => ?_) (fun hg1 => ?_)
    ·
      replace h := ite_t hg1 h
      refine CJ_seq ?_
      refine CJ_region ?_
      refine RJ_op rfl (OJ_P (P_assign rfl) rfl ?_)
      refine RJ_nil ?_
      refine QJ_then ?_
      refine CJ_ret ?_
      refine QJ_then_ret ?_
      have hE := Option.some.inj h
      subst hE
      refine QJ_end (res1 Try.results5 rfl) ?_
      refine CSpec.close () ?_ ?_ (Ent.drop (Ent.drop (Ent.drop (Ent.drop (Ent.drop (Ent.drop Ent.refl))))))
      · rfl
      · trivial
    ·
      replace h := ite_f hg1 h
      refine CJ_skip ?_
      refine QJ_then ?_
      refine CJ_seq ?_
      refine CJ_region ?_
      refine RJ_op rfl (OJ_P (P_move rfl) rfl ?_)
      refine RJ_op rfl (OJ_P (P_rem_u8 (a := at_0) (b := (9 : UInt8)) rfl rfl (by decide)) rfl ?_)
      refine RJ_op rfl (OJ_P (P_convSame rfl Try.runUnderlying5 Try.runUnderlying3 (wrap64_u _ (by have := ((at_0 % (9 : UInt8))).toNat_lt; omega))) rfl ?_)
      refine RJ_op rfl (OJ_P (P_assign rfl) rfl ?_)
      refine RJ_nil ?_
      refine QJ_then ?_
      refine CJ_seq ?_
      refine CJ_region ?_
      refine RJ_op rfl (OJ_P (P_move rfl) rfl ?_)
      refine RJ_op rfl (OJ_P (P_convSame rfl Try.runUnderlying5 Try.runUnderlying3 (wrap64_u _ (by have := n_1.toNat_lt; omega))) rfl ?_)
      refine RJ_op rfl (OJ_P (P_move rfl) rfl ?_)
      obtain ⟨hg2, h⟩ := grd_Ie h
      refine RJ_op rfl (OJ_P (P_sub (a := (9 : Int)) (b := ((((at_0 % (9 : UInt8))).toNat : Nat) : Int)) rfl rfl hg2) rfl ?_)
      obtain ⟨hg3, h⟩ := grd_de h
      refine RJ_op rfl (OJ_P (P_remT (a := ((n_1.toNat : Nat) : Int)) (b := ((9 : Int) - ((((at_0 % (9 : UInt8))).toNat : Nat) : Int))) rfl rfl hg3) rfl ?_)
      refine RJ_op rfl (OJ_P (P_assign rfl) rfl ?_)
      refine RJ_nil ?_
      refine QJ_then ?_
      refine CJ_seq ?_
      refine CJ_seq ?_
      refine AJ_startH 256 (by kernel_rfl) rfl ?_
      refine AJ_takeP 0 1 rfl (by kernel_rfl) rfl (GY_none rfl) (P_move rfl) rfl (fun _ _ _ _ h => h) ?_
      refine AJ_takeV 1 3 rfl (by kernel_rfl) rfl (by kernel_rfl) (by kernel_rfl) (GY_none rfl) (Ent.take del0 (Ent.take del0 (Ent.take del0 (Ent.take del0 (Ent.take del0 (Ent.take del0 Ent.refl)))))) (V_index (i := 0) rfl rfl rfl ((hdl22).symm ▸ (by omega)) foc1 (Reads.sl _ _ _) Try.runUnderlying28 Try.sizeOf31) rfl (fun _ _ _ _ h => h) ?_
      refine AJ_ent (Ent.trans (Ent.take del2 Ent.refl) (Rs_at (fun _ _ => Dup_DevP) (dx := dv0) (dh := tyDev.dflt) (i := 0) (by omega))) ?_
      refine AJ_takeV 2 7 rfl (by kernel_rfl) rfl (by kernel_rfl) (by kernel_rfl) (GY_none rfl) (Ent.take del2 (Ent.take del2 (Ent.take del1 (Ent.take del1 (Ent.take del1 (Ent.take del1 (Ent.drop Ent.refl))))))) (V_loadE rfl rfl ((hdl22).symm ▸ (by omega)) foc1 (Reads.sl _ _ _) rfl rfl Try.isAgg31) rfl (fun _ _ _ _ h => h) ?_
      refine AJ_takeP 3 15 rfl (by kernel_rfl) rfl (GY_none rfl) (P_move rfl) rfl (fun _ _ _ _ h => h) ?_
      refine AJ_takeV 4 31 rfl (by kernel_rfl) rfl (by kernel_rfl) (by kernel_rfl) (GY_none rfl) (Ent.take del2 (Ent.take del2 (Ent.take del1 (Ent.take del1 (Ent.take del1 (Ent.take del1 (Ent.drop Ent.refl))))))) (V_index (i := 1) rfl rfl rfl ((hdl22).symm ▸ (by omega)) foc1 (Reads.sl _ _ _) Try.runUnderlying28 Try.sizeOf31) rfl (fun _ _ _ _ h => h) ?_
      refine AJ_ent (Ent.trans (Ent.take del1 Ent.refl) (Rs_at (fun _ _ => Dup_DevP) (dx := dv0) (dh := tyDev.dflt) (i := 1) (by omega))) ?_
      refine AJ_takeV 5 63 rfl (by kernel_rfl) rfl (by kernel_rfl) (by kernel_rfl) (GY_none rfl) (Ent.take del3 (Ent.take del3 (Ent.take del1 (Ent.take del2 (Ent.take del2 (Ent.take del2 (Ent.drop (Ent.drop Ent.refl)))))))) (V_loadE rfl rfl ((hdl22).symm ▸ (by omega)) foc1 (Reads.sl _ _ _) rfl rfl Try.isAgg31) rfl (fun _ _ _ _ h => h) ?_
      refine AJ_takeP 6 127 rfl (by kernel_rfl) rfl (GY_none rfl) (P_move rfl) rfl (fun _ _ _ _ h => h) ?_
      refine AJ_takeP 7 255 rfl (by kernel_rfl) rfl (GY_none rfl) (P_move rfl) rfl (fun _ _ _ _ h => h) ?_
      obtain ⟨r25, hr26, h⟩ := bind_e h
      refine AJ_op 8 511 rfl (by kernel_rfl) rfl (GY_none rfl) (O_call (L_block_Copy hr26) rfl Try.call23 (Dels.cons del2 (Dels.cons del0 (Dels.cons del1 Dels.nil))) rfl (fun _ _ => ?_))
      refine ⟨fun h => absurd h (by decide), ?_⟩
      refine AJ_takeP 9 1023 rfl (by kernel_rfl) rfl (GY_none rfl) (P_neq (a := r25.1) (b := (0 : Int)) rfl rfl) rfl (fun _ _ _ _ h => h) ?_
      refine AJ_done (by kernel_rfl) ?_
      refine QJ_then ?_
      refine CJ_condP rfl bT_dec (fun hg4 => ?_) (fun hg4 => ?_)
      ·
        replace h := ite_t hg4 h
        refine CJ_seq ?_
        refine CJ_region ?_
        refine RJ_op rfl (OJ_P (P_assign rfl) rfl ?_)
        refine RJ_nil ?_
        refine QJ_then ?_
        refine CJ_ret ?_
        refine QJ_then_ret ?_
        have hE := Option.some.inj h
        subst hE
        refine QJ_end (res1 Try.results5 rfl) ?_
        refine CSpec.close () ?_ ?_ (Ent.drop (Ent.drop (Ent.drop (Ent.drop (Ent.drop (Ent.drop (Ent.drop (Ent.drop Ent.refl))))))))
        · rfl
        · trivial
      ·
        replace h := ite_f hg4 h
        refine CJ_skip ?_
        refine QJ_then ?_
        refine CJ_seq ?_
        refine AJ_startH 256 (by kernel_rfl) rfl ?_
        refine AJ_takeP 0 1 rfl (by kernel_rfl) rfl (GY_none rfl) (P_move rfl) rfl (fun _ _ _ _ h => h) ?_
        refine AJ_takeV 1 3 rfl (by kernel_rfl) rfl (by kernel_rfl) (by kernel_rfl) (GY_none rfl) (Ent.take del0 (Ent.take del0 (Ent.take del0 (Ent.take del0 (Ent.take del0 (Ent.take del0 (Ent.take del0 (Ent.take del0 Ent.refl)))))))) (V_index (i := 0) rfl rfl rfl ((hdl22).symm ▸ (by omega)) foc4 (Reads.sl _ _ _) Try.runUnderlying28 Try.sizeOf31) rfl (fun _ _ _ _ h => h) ?_
        refine AJ_ent (Ent.trans (Ent.take del3 Ent.refl) (Rs_at (fun _ _ => Dup_DevP) (dx := dv0) (dh := tyDev.dflt) (i := 0) (by omega))) ?_
        refine AJ_takeV 2 7 rfl (by kernel_rfl) rfl (by kernel_rfl) (by kernel_rfl) (GY_none rfl) (Ent.take del2 (Ent.take del2 (Ent.take del2 (Ent.take del1 (Ent.take del1 (Ent.take del1 (Ent.take del1 (Ent.take del1 (Ent.drop Ent.refl))))))))) (V_loadE rfl rfl ((hdl22).symm ▸ (by omega)) foc4 (Reads.sl _ _ _) rfl rfl Try.isAgg31) rfl (fun _ _ _ _ h => h) ?_
        refine AJ_takeP 3 15 rfl (by kernel_rfl) rfl (GY_none rfl) (P_move rfl) rfl (fun _ _ _ _ h => h) ?_
        refine AJ_takeV 4 31 rfl (by kernel_rfl) rfl (by kernel_rfl) (by kernel_rfl) (GY_none rfl) (Ent.take del2 (Ent.take del2 (Ent.take del2 (Ent.take del1 (Ent.take del1 (Ent.take del1 (Ent.take del1 (Ent.take del1 (Ent.drop Ent.refl))))))))) (V_index (i := 1) rfl rfl rfl ((hdl22).symm ▸ (by omega)) foc4 (Reads.sl _ _ _) Try.runUnderlying28 Try.sizeOf31) rfl (fun _ _ _ _ h => h) ?_
        refine AJ_ent (Ent.trans (Ent.take del1 Ent.refl) (Rs_at (fun _ _ => Dup_DevP) (dx := dv0) (dh := tyDev.dflt) (i := 1) (by omega))) ?_
        refine AJ_takeV 5 63 rfl (by kernel_rfl) rfl (by kernel_rfl) (by kernel_rfl) (GY_none rfl) (Ent.take del3 (Ent.take del3 (Ent.take del3 (Ent.take del1 (Ent.take del2 (Ent.take del2 (Ent.take del2 (Ent.take del2 (Ent.drop (Ent.drop Ent.refl)))))))))) (V_loadE rfl rfl ((hdl22).symm ▸ (by omega)) foc4 (Reads.sl _ _ _) rfl rfl Try.isAgg31) rfl (fun _ _ _ _ h => h) ?_
        refine AJ_takeP 6 127 rfl (by kernel_rfl) rfl (GY_none rfl) (P_move rfl) rfl (fun _ _ _ _ h => h) ?_
        refine AJ_takeP 7 255 rfl (by kernel_rfl) rfl (GY_none rfl) (P_move rfl) rfl (fun _ _ _ _ h => h) ?_
        obtain ⟨r29, hr30, h⟩ := bind_e h
        refine AJ_op 8 511 rfl (by kernel_rfl) rfl (GY_none rfl) (O_call (L_block_Equal hr30) rfl Try.call24 (Dels.cons del2 (Dels.cons del0 (Dels.cons del3 Dels.nil))) rfl (fun _ _ => ?_))
        refine ⟨fun h => absurd h (by decide), ?_⟩
        refine AJ_takeP 9 1023 rfl (by kernel_rfl) rfl (GY_none rfl) (P_move rfl) rfl (fun _ _ _ _ h => h) ?_
        refine AJ_takeP 10 2047 rfl (by kernel_rfl) rfl (GY_none rfl) (P_extract rfl rfl) rfl (fun _ _ _ _ h => h) ?_
        refine AJ_takeP 11 4095 rfl (by kernel_rfl) rfl (GY_none rfl) (P_extract rfl rfl) rfl (fun _ _ _ _ h => h) ?_
        refine AJ_takeP 12 8191 rfl (by kernel_rfl) rfl (GY_none rfl) (P_assign rfl) rfl (fun _ _ _ _ h => h) ?_
        refine AJ_takeP 13 16383 rfl (by kernel_rfl) rfl (GY_none rfl) (P_assign rfl) rfl (fun _ _ _ _ h => h) ?_
        refine AJ_done (by kernel_rfl) ?_
        refine QJ_then ?_
        refine CJ_seq ?_
        refine CJ_region ?_
        refine RJ_op rfl (OJ_P (P_move rfl) rfl ?_)
        refine RJ_op rfl (OJ_P (P_rem_u8 (a := k) (b := (8 : UInt8)) rfl rfl (by decide)) rfl ?_)
        refine RJ_op rfl (OJ_P (P_convSame rfl Try.runUnderlying5 Try.runUnderlying3 (wrap64_u _ (by have := ((k % (8 : UInt8))).toNat_lt; omega))) rfl ?_)
        refine RJ_op rfl (OJ_P (P_assign rfl) rfl ?_)
        refine RJ_nil ?_
        refine QJ_then ?_
        refine CJ_seq ?_
        refine CJ_region ?_
        refine RJ_op rfl (OJ_P (P_move rfl) rfl ?_)
        refine RJ_op rfl (OJ_V (V_index (i := 1) rfl rfl rfl ((hdl22).symm ▸ (by omega)) foc6 (Reads.sl _ _ _) Try.runUnderlying28 Try.sizeOf31) rfl ?_)
        refine RJ_ent (Ent.trans (Ent.take del3 Ent.refl) (Rs_at (fun _ _ => Dup_DevP) (dx := dv0) (dh := tyDev.dflt) (i := 1) (by omega))) ?_
        refine RJ_op rfl (OJ_V (V_loadE rfl rfl ((hdl22).symm ▸ (by omega)) foc7 (Reads.sl _ _ _) rfl rfl Try.isAgg31) rfl ?_)
        refine RJ_op rfl (OJ_P (P_move rfl) rfl ?_)
        refine RJ_pure (fun h hh => DevP_dep h (stars_perm (del0 (A := DevP X13 (r17.getD 1 dv0) (X19.2.getD 1 tyDev.dflt))).out h hh)) (fun hdp32 => ?_)
        obtain ⟨r33, hr34, h⟩ := bind_e h
        refine RJ_op rfl (O_callI rfl (dev_Read hr34 hdp32) rfl (Dels.cons del0 (Dels.cons del3 Dels.nil)) rfl (fun _ _ => ?_))
        refine RJ_op rfl (OJ_P (P_move rfl) rfl ?_)
        refine RJ_op rfl (OJ_P (P_extract rfl rfl) rfl ?_)
        refine RJ_op rfl (OJ_P (P_extract rfl rfl) rfl ?_)
        refine RJ_op rfl (OJ_P (P_assign rfl) rfl ?_)
        refine RJ_op rfl (OJ_P (P_assign rfl) rfl ?_)
        refine RJ_nil ?_
        refine QJ_then ?_
        refine CJ_seq ?_
        refine CJ_seq ?_
        refine CJ_region ?_
        refine RJ_op rfl (OJ_P (P_move rfl) rfl ?_)
        refine RJ_op rfl (OJ_P (P_neq (a := r29.2) (b := (0 : Int)) rfl rfl) rfl ?_)
        refine RJ_op rfl (OJ_P (P_move rfl) rfl ?_)
        refine RJ_mbF rfl rfl rfl (fun hG35 => have hP36 : ¬ (r29.2 ≠ (0 : Int)) := nP (bT_dec) hG35; VJ_P (P_move rfl)) ?_
        refine RJ_mbF rfl rfl rfl (fun hG37 => have hP38 : ¬ (r29.2 ≠ (0 : Int)) := nP (bT_dec) hG37; VJ_P (P_not (mbx hG37 rfl))) ?_
        refine RJ_op rfl (OJ_P (P_pickOr rfl rfl (fun hh => mbx (not_f hh) rfl)) rfl ?_)
        refine RJ_op rfl (OJ_P (P_move rfl) rfl ?_)
        refine RJ_mbF rfl rfl rfl (fun hG39 => have hP40 : ¬ ((r29.2 ≠ (0 : Int)) ∨ (¬ r29.1 = true)) := nP ((bT_or bT_dec (bT_not Iff.rfl))) hG39; VJ_P (P_move rfl)) ?_
        refine RJ_mbF rfl rfl rfl (fun hG41 => have hP42 : ¬ ((r29.2 ≠ (0 : Int)) ∨ (¬ r29.1 = true)) := nP ((bT_or bT_dec (bT_not Iff.rfl))) hG41; VJ_P (P_neq (a := r33.2) (b := (0 : Int)) (mbx hG41 rfl) rfl)) ?_
        refine RJ_op rfl (OJ_P (P_pickOr rfl rfl (fun hh => mbx (not_f hh) rfl)) rfl ?_)
        refine RJ_op rfl (OJ_P (P_move rfl) rfl ?_)
        refine RJ_splitP 80 rfl (bT_or (bT_or bT_dec (bT_not Iff.rfl)) bT_dec) (fun hg5B hg5 => ?_) (fun hg5B hg5 => ?_)
        ·
          replace h := ite_t hg5 h
          refine RJ_gn (GY_no rfl rfl rfl hg5B) rfl rfl ?_
          refine RJ_gn (GY_no rfl rfl rfl hg5B) rfl rfl ?_
          refine RJ_gn (GY_no rfl rfl rfl hg5B) rfl rfl ?_
          refine RJ_gn (GY_no rfl rfl rfl hg5B) rfl rfl ?_
          refine RJ_gn (GY_no rfl rfl rfl hg5B) rfl rfl ?_
          refine RJ_gn (GY_no rfl rfl rfl hg5B) rfl rfl ?_
          refine RJ_gn (GY_no rfl rfl rfl hg5B) rfl rfl ?_
          refine RJ_op rfl (OJ_P (P_pickT rfl hg5B rfl) rfl ?_)
          refine RJ_nil ?_
          refine QJ_then ?_
          refine CJ_condT rfl rfl ?_
          refine CJ_seq ?_
          refine CJ_region ?_
          refine RJ_op rfl (OJ_P (P_assign rfl) rfl ?_)
          refine RJ_nil ?_
          refine QJ_then ?_
          refine CJ_ret ?_
          refine QJ_then_ret ?_
          have hE := Option.some.inj h
          subst hE
          refine QJ_end (res1 Try.results5 rfl) ?_
          refine CSpec.close () ?_ ?_ (Ent.drop (Ent.drop (Ent.drop (Ent.drop (Ent.drop (Ent.drop (Ent.drop (Ent.drop (Ent.drop (Ent.drop (Ent.drop Ent.refl)))))))))))
          · rfl
          · trivial
        ·
          replace h := ite_f hg5 h
          refine RJ_gy (GY_yes rfl rfl rfl hg5B) (OJ_P (P_move rfl) rfl ?_)
          refine RJ_gy (GY_yes rfl rfl rfl hg5B) (OJ_V (V_index (i := 1) rfl rfl rfl ((hdl22).symm ▸ (by omega)) foc7 (Reads.sl _ _ _) Try.runUnderlying28 Try.sizeOf31) rfl ?_)
          refine RJ_ent (Ent.trans (Ent.take del2 Ent.refl) (Rs_at (fun _ _ => Dup_DevP) (dx := dv0) (dh := tyDev.dflt) (i := 1) (by omega))) ?_
          refine RJ_gy (GY_yes rfl rfl rfl hg5B) (OJ_V (V_loadE rfl rfl ((hdl22).symm ▸ (by omega)) foc8 (Reads.sl _ _ _) rfl rfl Try.isAgg31) rfl ?_)
          refine RJ_gy (GY_yes rfl rfl rfl hg5B) (OJ_P (P_move rfl) rfl ?_)
          refine RJ_gy (GY_yes rfl rfl rfl hg5B) (OJ_P (P_move rfl) rfl ?_)
          refine RJ_pure (fun h hh => DevP_dep h (stars_perm (del0 (A := DevP X13 (r17.getD 1 dv0) (X19.2.getD 1 tyDev.dflt))).out h hh)) (fun hdp44 => ?_)
          obtain ⟨r45, hr46, h⟩ := bind_e h
          refine RJ_gy (GY_yes rfl rfl rfl hg5B) (O_callI rfl (dev_Write hr46 hdp44) rfl (Dels.cons del0 (Dels.cons del2 Dels.nil)) rfl (fun _ _ => ?_))
          refine RJ_gy (GY_yes rfl rfl rfl hg5B) (OJ_P (P_neq (a := r45.1) (b := (0 : Int)) rfl rfl) rfl ?_)
          refine RJ_op rfl (OJ_P (P_pickF rfl hg5B rfl) rfl ?_)
          refine RJ_nil ?_
          refine QJ_then ?_
          refine CJ_condP rfl bT_dec (fun hg6 => ?_) (fun hg6 => ?_)
          ·
            replace h := ite_t hg6 h
            refine CJ_seq ?_
            refine CJ_region ?_
            refine RJ_op rfl (OJ_P (P_assign rfl) rfl ?_)
            refine RJ_nil ?_
            refine QJ_then ?_
            refine CJ_ret ?_
            refine QJ_then_ret ?_
            have hE := Option.some.inj h
            subst hE
            refine QJ_end (res1 Try.results5 rfl) ?_
            refine CSpec.close () ?_ ?_ (Ent.drop (Ent.drop (Ent.drop (Ent.drop (Ent.drop (Ent.drop (Ent.drop (Ent.drop (Ent.drop (Ent.drop (Ent.drop (Ent.drop Ent.refl))))))))))))
            · rfl
            · trivial
          ·
            replace h := ite_f hg6 h
            refine CJ_skip ?_
            refine QJ_then ?_
            refine CJ_seq ?_
            refine AJ_startH 256 (by kernel_rfl) rfl ?_
            refine AJ_takeP 0 1 rfl (by kernel_rfl) rfl (GY_none rfl) (P_move rfl) rfl (fun _ _ _ _ h => h) ?_
            refine AJ_takeV 1 3 rfl (by kernel_rfl) rfl (by kernel_rfl) (by kernel_rfl) (GY_none rfl) (Ent.take del0 (Ent.take del0 (Ent.take del0 (Ent.take del0 (Ent.take del0 (Ent.take del0 (Ent.take del0 (Ent.take del0 (Ent.take del0 (Ent.take del0 (Ent.take del0 (Ent.take del0 Ent.refl)))))))))))) (V_index (i := 0) rfl rfl rfl ((hdl22).symm ▸ (by omega)) foc8 (Reads.sl _ _ _) Try.runUnderlying28 Try.sizeOf31) rfl (fun _ _ _ _ h => h) ?_
            refine AJ_ent (Ent.trans (Ent.take del2 Ent.refl) (Rs_at (fun _ _ => Dup_DevP) (dx := dv0) (dh := tyDev.dflt) (i := 0) (by omega))) ?_
            refine AJ_takeV 2 7 rfl (by kernel_rfl) rfl (by kernel_rfl) (by kernel_rfl) (GY_none rfl) (Ent.take del2 (Ent.take del2 (Ent.take del1 (Ent.take del1 (Ent.take del1 (Ent.take del1 (Ent.take del1 (Ent.take del1 (Ent.take del1 (Ent.take del1 (Ent.take del1 (Ent.take del1 (Ent.drop Ent.refl))))))))))))) (V_loadE rfl rfl ((hdl22).symm ▸ (by omega)) foc8 (Reads.sl _ _ _) rfl rfl Try.isAgg31) rfl (fun _ _ _ _ h => h) ?_
            refine AJ_takeP 3 15 rfl (by kernel_rfl) rfl (GY_none rfl) (P_move rfl) rfl (fun _ _ _ _ h => h) ?_
            refine AJ_takeV 4 31 rfl (by kernel_rfl) rfl (by kernel_rfl) (by kernel_rfl) (GY_none rfl) (Ent.take del2 (Ent.take del2 (Ent.take del1 (Ent.take del1 (Ent.take del1 (Ent.take del1 (Ent.take del1 (Ent.take del1 (Ent.take del1 (Ent.take del1 (Ent.take del1 (Ent.take del1 (Ent.drop Ent.refl))))))))))))) (V_index (i := 1) rfl rfl rfl ((hdl22).symm ▸ (by omega)) foc8 (Reads.sl _ _ _) Try.runUnderlying28 Try.sizeOf31) rfl (fun _ _ _ _ h => h) ?_
            refine AJ_ent (Ent.trans (Ent.take del1 Ent.refl) (Rs_at (fun _ _ => Dup_DevP) (dx := dv0) (dh := tyDev.dflt) (i := 1) (by omega))) ?_
            refine AJ_takeV 5 63 rfl (by kernel_rfl) rfl (by kernel_rfl) (by kernel_rfl) (GY_none rfl) (Ent.take del3 (Ent.take del3 (Ent.take del1 (Ent.take del2 (Ent.take del2 (Ent.take del2 (Ent.take del2 (Ent.take del2 (Ent.take del2 (Ent.take del2 (Ent.take del2 (Ent.take del2 (Ent.drop (Ent.drop Ent.refl)))))))))))))) (V_loadE rfl rfl ((hdl22).symm ▸ (by omega)) foc8 (Reads.sl _ _ _) rfl rfl Try.isAgg31) rfl (fun _ _ _ _ h => h) ?_
            refine AJ_takeP 6 127 rfl (by kernel_rfl) rfl (GY_none rfl) (P_move rfl) rfl (fun _ _ _ _ h => h) ?_
            refine AJ_takeP 7 255 rfl (by kernel_rfl) rfl (GY_none rfl) (P_move rfl) rfl (fun _ _ _ _ h => h) ?_
            obtain ⟨r49, hr50, h⟩ := bind_e h
            refine AJ_op 8 511 rfl (by kernel_rfl) rfl (GY_none rfl) (O_call (L_block_Equal hr50) rfl Try.call24 (Dels.cons del2 (Dels.cons del0 (Dels.cons del2 Dels.nil))) rfl (fun _ _ => ?_))
            refine ⟨fun h => absurd h (by decide), ?_⟩
            refine AJ_takeP 9 1023 rfl (by kernel_rfl) rfl (GY_none rfl) (P_move rfl) rfl (fun _ _ _ _ h => h) ?_
            refine AJ_takeP 10 2047 rfl (by kernel_rfl) rfl (GY_none rfl) (P_extract rfl rfl) rfl (fun _ _ _ _ h => h) ?_
            refine AJ_takeP 11 4095 rfl (by kernel_rfl) rfl (GY_none rfl) (P_extract rfl rfl) rfl (fun _ _ _ _ h => h) ?_
            refine AJ_takeP 12 8191 rfl (by kernel_rfl) rfl (GY_none rfl) (P_assign rfl) rfl (fun _ _ _ _ h => h) ?_
            refine AJ_takeP 13 16383 rfl (by kernel_rfl) rfl (GY_none rfl) (P_assign rfl) rfl (fun _ _ _ _ h => h) ?_
            refine AJ_done (by kernel_rfl) ?_
            refine QJ_then ?_
            refine CJ_seq ?_
            refine CJ_region ?_
            refine RJ_op rfl (OJ_P (P_move rfl) rfl ?_)
            refine RJ_op rfl (OJ_P (P_eql (a := r49.2) (b := (0 : Int)) rfl rfl) rfl ?_)
            refine RJ_op rfl (OJ_P (P_move rfl) rfl ?_)
            refine RJ_mbT rfl rfl rfl (fun hG51 => have hP52 : (r49.2 = (0 : Int)) := (bT_dec).1 hG51; VJ_P (P_move rfl)) ?_
            refine RJ_mbT rfl rfl rfl (fun hG53 => have hP54 : (r49.2 = (0 : Int)) := (bT_dec).1 hG53; VJ_P (P_move rfl)) ?_
            refine RJ_mbT rfl rfl rfl (fun hG55 => have hP56 : (r49.2 = (0 : Int)) := (bT_dec).1 hG55; VJ_P (P_move rfl)) ?_
            refine RJ_mbT rfl rfl rfl (fun hG57 => have hP58 : (r49.2 = (0 : Int)) := (bT_dec).1 hG57; VJ_P (P_lss (a := ((((k % (8 : UInt8))).toNat : Nat) : Int)) (b := ((((at_0 % (9 : UInt8))).toNat : Nat) : Int)) (mbx hG57 rfl) (mbx hG57 rfl))) ?_
            refine RJ_mbT rfl rfl rfl (fun hG59 => have hP60 : (r49.2 = (0 : Int)) := (bT_dec).1 hG59; VJ_P (P_move (mbx hG59 rfl))) ?_
            refine RJ_mbGF rfl rfl rfl (fun hG61 => have hP62 : (r49.2 = (0 : Int)) := (bT_dec).1 (and_l hG61); have hP63 : ¬ (((((k % (8 : UInt8))).toNat : Nat) : Int) < ((((at_0 % (9 : UInt8))).toNat : Nat) : Int)) := nP (bT_dec) (and_r hG61); VJ_P (P_move rfl)) ?_
            refine RJ_mbGF rfl rfl rfl (fun hG64 => have hP65 : (r49.2 = (0 : Int)) := (bT_dec).1 (and_l hG64); have hP66 : ¬ (((((k % (8 : UInt8))).toNat : Nat) : Int) < ((((at_0 % (9 : UInt8))).toNat : Nat) : Int)) := nP (bT_dec) (and_r hG64); VJ_P (P_move rfl)) ?_
            refine RJ_mbGF rfl rfl rfl (fun hG67 => have hP68 : (r49.2 = (0 : Int)) := (bT_dec).1 (and_l hG67); have hP69 : ¬ (((((k % (8 : UInt8))).toNat : Nat) : Int) < ((((at_0 % (9 : UInt8))).toNat : Nat) : Int)) := nP (bT_dec) (and_r hG67); VJ_P (P_move rfl)) ?_
            refine RJ_mbGF rfl rfl rfl (fun hG70 => have hP71 : (r49.2 = (0 : Int)) := (bT_dec).1 (and_l hG70); have hP72 : ¬ (((((k % (8 : UInt8))).toNat : Nat) : Int) < ((((at_0 % (9 : UInt8))).toNat : Nat) : Int)) := nP (bT_dec) (and_r hG70); VJ_P (P_addW (a := ((((at_0 % (9 : UInt8))).toNat : Nat) : Int)) (b := ((((n_1.toNat : Nat) : Int)).tmod (((9 : Int) - ((((at_0 % (9 : UInt8))).toNat : Nat) : Int))))) (mbx hG70 rfl) (mbx hG70 rfl))) ?_
            refine RJ_mbGF rfl rfl rfl (fun hG73 => have hP74 : (r49.2 = (0 : Int)) := (bT_dec).1 (and_l hG73); have hP75 : ¬ (((((k % (8 : UInt8))).toNat : Nat) : Int) < ((((at_0 % (9 : UInt8))).toNat : Nat) : Int)) := nP (bT_dec) (and_r hG73); VJ_P (P_geq (a := ((((k % (8 : UInt8))).toNat : Nat) : Int)) (b := (IntKind.i64.wrap (((((at_0 % (9 : UInt8))).toNat : Nat) : Int) + ((((n_1.toNat : Nat) : Int)).tmod (((9 : Int) - ((((at_0 % (9 : UInt8))).toNat : Nat) : Int))))))) (mbx hG73 rfl) (mbx hG73 rfl))) ?_
            refine RJ_mbT rfl rfl rfl (fun hG76 => have hP77 : (r49.2 = (0 : Int)) := (bT_dec).1 hG76; VJ_P (P_pickOr (mbx hG76 rfl) rfl (fun hh => mbx (and_i hG76 (not_f hh)) rfl))) ?_
            refine RJ_mbT rfl rfl rfl (fun hG78 => have hP79 : (r49.2 = (0 : Int)) := (bT_dec).1 hG78; VJ_P (P_move (mbx hG78 rfl))) ?_
            refine RJ_mbGF rfl rfl rfl (fun hG80 => have hP81 : (r49.2 = (0 : Int)) := (bT_dec).1 (and_l hG80); have hP82 : ¬ ((((((k % (8 : UInt8))).toNat : Nat) : Int) < ((((at_0 % (9 : UInt8))).toNat : Nat) : Int)) ∨ ((IntKind.i64.wrap (((((at_0 % (9 : UInt8))).toNat : Nat) : Int) + ((((n_1.toNat : Nat) : Int)).tmod (((9 : Int) - ((((at_0 % (9 : UInt8))).toNat : Nat) : Int)))))) ≤ ((((k % (8 : UInt8))).toNat : Nat) : Int))) := nP ((bT_or bT_dec bT_dec)) (and_r hG80); VJ_P (P_move rfl)) ?_
            refine RJ_mbGF rfl rfl rfl (fun hG83 => have hP84 : (r49.2 = (0 : Int)) := (bT_dec).1 (and_l hG83); have hP85 : ¬ ((((((k % (8 : UInt8))).toNat : Nat) : Int) < ((((at_0 % (9 : UInt8))).toNat : Nat) : Int)) ∨ ((IntKind.i64.wrap (((((at_0 % (9 : UInt8))).toNat : Nat) : Int) + ((((n_1.toNat : Nat) : Int)).tmod (((9 : Int) - ((((at_0 % (9 : UInt8))).toNat : Nat) : Int)))))) ≤ ((((k % (8 : UInt8))).toNat : Nat) : Int))) := nP ((bT_or bT_dec bT_dec)) (and_r hG83); VJ_P (P_move rfl)) ?_
            refine RJ_mbGF rfl rfl rfl (fun hG86 => have hP87 : (r49.2 = (0 : Int)) := (bT_dec).1 (and_l hG86); have hP88 : ¬ ((((((k % (8 : UInt8))).toNat : Nat) : Int) < ((((at_0 % (9 : UInt8))).toNat : Nat) : Int)) ∨ ((IntKind.i64.wrap (((((at_0 % (9 : UInt8))).toNat : Nat) : Int) + ((((n_1.toNat : Nat) : Int)).tmod (((9 : Int) - ((((at_0 % (9 : UInt8))).toNat : Nat) : Int)))))) ≤ ((((k % (8 : UInt8))).toNat : Nat) : Int))) := nP ((bT_or bT_dec bT_dec)) (and_r hG86); VJ_P (P_eq_u64 (a := v) (b := r33.1) (mbx hG86 rfl) (mbx hG86 rfl))) ?_
            refine RJ_mbT rfl rfl rfl (fun hG89 => have hP90 : (r49.2 = (0 : Int)) := (bT_dec).1 hG89; VJ_P (P_pickOr (mbx hG89 rfl) rfl (fun hh => mbx (and_i hG89 (not_f hh)) rfl))) ?_
            refine RJ_mbT rfl rfl rfl (fun hG91 => have hP92 : (r49.2 = (0 : Int)) := (bT_dec).1 hG91; VJ_P (P_eqlB (mbx hG91 rfl) (mbx hG91 rfl) Try.underlying4)) ?_
            refine RJ_op rfl (OJ_P (P_pickAnd rfl (fun hh => mbx hh rfl) rfl) rfl ?_)
            refine RJ_op rfl (OJ_P (P_move rfl) rfl ?_)
            refine RJ_splitP 122 rfl (bT_and bT_dec (bT_beq Iff.rfl (bT_or (bT_or bT_dec bT_dec) bT_dec))) (fun hg7B hg7 => ?_) (fun hg7B hg7 => ?_)
            ·
              replace h := ite_t hg7 h
              obtain ⟨r93, hr94, h⟩ := bind_e h
              refine RJ_gy (GY_yes rfl rfl rfl hg7B) (O_call (L_volumegrouplaw05_awake hr94) rfl Try.call21 Dels.nil rfl (fun _ _ => ?_))
              refine RJ_op rfl (OJ_P (P_pickT rfl hg7B rfl) rfl ?_)
              refine RJ_op rfl (OJ_P (P_assign rfl) rfl ?_)
              refine RJ_nil ?_
              refine QJ_then ?_
              refine CJ_ret ?_
              have hE := Option.some.inj h
              subst hE
              refine QJ_end (res1 Try.results5 rfl) ?_
              refine CSpec.close () ?_ ?_ (Ent.drop (Ent.drop (Ent.drop (Ent.drop (Ent.drop (Ent.drop (Ent.drop (Ent.drop (Ent.drop (Ent.drop (Ent.drop (Ent.drop (Ent.drop (Ent.drop Ent.refl))))))))))))))
              · rfl
              · trivial
            ·
              replace h := ite_f hg7 h
              refine RJ_gn (GY_no rfl rfl rfl hg7B) rfl rfl ?_
              refine RJ_op rfl (OJ_P (P_pickF rfl hg7B rfl) rfl ?_)
              refine RJ_op rfl (OJ_P (P_assign rfl) rfl ?_)
              refine RJ_nil ?_
              refine QJ_then ?_
              refine CJ_ret ?_
              have hE := Option.some.inj h
              subst hE
              refine QJ_end (res1 Try.results5 rfl) ?_
              refine CSpec.close () ?_ ?_ (Ent.drop (Ent.drop (Ent.drop (Ent.drop (Ent.drop (Ent.drop (Ent.drop (Ent.drop (Ent.drop (Ent.drop (Ent.drop (Ent.drop (Ent.drop (Ent.drop Ent.refl))))))))))))))
              · rfl
              · trivial

end Go.Proofs
