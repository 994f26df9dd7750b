/- YthadblmhhekedaaLDiskBad: lifted functions of the program; printed by lift.py. -/
import Derived.Test.YthadblmhhekedaaLAw4
set_option linter.unusedSimpArgs false
set_option linter.unusedVariables false
set_option maxRecDepth 20000
set_option maxHeartbeats 4000000
namespace Go.Proofs
open Go.VG

theorem bs_48_1_0 (v0 : (Option Addr)) (v1 : Nat) (v2 : Nat) : BuildsSlice Try.prog 48 1 [(0, .slice v0 v1 v2)] 32 [.slice v0 v1 v2] := fun w => by kernel_rfl
def volumegrouplaw04_DiskBad (at_0 : UInt8) (v : UInt64) (keep : Bool) : Option (Bool) :=
  Option.bind (volumegroupmake_Words (4 : Int) (9 : UInt64)) fun r1 =>
  Option.bind (volumegroupmake_Loaded (([r1] : List (List UInt64)))) fun r7 =>
  Option.elim r7 (
    some false) fun o12 =>
  if ((rdC o12 (0 : Int) (((((at_0 % (4 : UInt8))).toNat : Nat) : Int))) ≠ (0 : Int)) then
    some false
  else
    if ((sbC o12 (0 : Int) (((((at_0 % (4 : UInt8))).toNat : Nat) : Int))) ≠ (0 : Int)) then
      some false
    else
      lt ((rdV ((sbS o12 (0 : Int) (((((at_0 % (4 : UInt8))).toNat : Nat) : Int)) true)) (0 : Int) (((((at_0 % (4 : UInt8))).toNat : Nat) : Int)))) fun w13 =>
      lt ((rdC ((sbS o12 (0 : Int) (((((at_0 % (4 : UInt8))).toNat : Nat) : Int)) true)) (0 : Int) (((((at_0 % (4 : UInt8))).toNat : Nat) : Int)))) fun w14 =>
      if (w14 ≠ (7 : Int)) then
        some false
      else
        grd (inLen ((sbS o12 (0 : Int) (((((at_0 % (4 : UInt8))).toNat : Nat) : Int)) true)).writes) <|
        lt ((wrR ((sbS o12 (0 : Int) (((((at_0 % (4 : UInt8))).toNat : Nat) : Int)) true)) (0 : Int) (((((at_0 % (4 : UInt8))).toNat : Nat) : Int)))) fun w15 =>
        if (w15 ≠ (0 : Int)) then
          some false
        else
          grd (inLen ((wrS ((sbS o12 (0 : Int) (((((at_0 % (4 : UInt8))).toNat : Nat) : Int)) true)) (0 : Int) (((((at_0 % (4 : UInt8))).toNat : Nat) : Int)) v)).writes) <|
          lt ((rdV ((rsS ((wrS ((sbS o12 (0 : Int) (((((at_0 % (4 : UInt8))).toNat : Nat) : Int)) true)) (0 : Int) (((((at_0 % (4 : UInt8))).toNat : Nat) : Int)) v)) ([keep]))) (0 : Int) (((((at_0 % (4 : UInt8))).toNat : Nat) : Int)))) fun w17 =>
          lt ((rdC ((rsS ((wrS ((sbS o12 (0 : Int) (((((at_0 % (4 : UInt8))).toNat : Nat) : Int)) true)) (0 : Int) (((((at_0 % (4 : UInt8))).toNat : Nat) : Int)) v)) ([keep]))) (0 : Int) (((((at_0 % (4 : UInt8))).toNat : Nat) : Int)))) fun w18 =>
          if ((w18 = (0 : Int)) ∧ ((keep = true ∧ (w17 = v)) ∨ ((¬ keep = true) ∧ (w17 = (rdV o12 (0 : Int) (((((at_0 % (4 : UInt8))).toNat : Nat) : Int))))))) then
            Option.bind (volumegrouplaw04_awake) fun r62 =>
            some r62
          else
            some false

theorem L_volumegrouplaw04_DiskBad {W : World} {at_0 : UInt8} {v : UInt64} {keep : Bool} {r : Bool} (h : volumegrouplaw04_DiskBad at_0 v keep = some r) :
    CSpec Try.prog W 4 [.int .u8 (at_0.toNat : Int), .int .u64 (v.toNat : Int), .bool keep] [] (fun x : Unit => .bool r) (fun _ => True) (fun x F => F) := by
  refine CSpec.of_body Try.func4 rfl Try.ntmps4 rfl (fun F => ?_)
  show CJ _ _ _ _ _ _ (F)
  unfold volumegrouplaw04_DiskBad at h
  refine CJ_seq ?_
  refine CJ_region ?_
  refine RJ_op rfl (OJ_P (P_assign rfl) rfl ?_)
  refine RJ_nil ?_
  refine QJ_then ?_
  refine CJ_seq ?_
  refine CJ_region ?_
  obtain ⟨r1, hr2, h⟩ := bind_e h
  refine RJ_op rfl (O_call (L_volumegroupmake_Words hr2) rfl Try.call24 Dels.nil rfl (fun X3 _ => ?_))
  refine RJ_op rfl (O_buildSlice rfl (bs_48_1_0 _ _ _) rfl (fun b5 => ?_))
  refine RJ_ent (Ent.trans (Ent.take del0 Ent.refl) (sl_of_lit (t := tyRow) (m := 1) [(X3 : Sl3)] rfl rfl rfl (by decide))) ?_
  refine RJ_ent (Ent.starI (l := [sl tyU X3.v r1]) (Ent.take del1 Ent.refl)) ?_
  obtain ⟨r7, hr8, h⟩ := bind_e h
  refine RJ_op rfl (O_call (L_volumegroupmake_Loaded (Reads.sl _ _ _) (RowsR.cons (Reads.sl _ _ _) RowsR.nil) hr8) rfl Try.call23 (Dels.cons del1 (Dels.cons del0 Dels.nil)) rfl (fun X9 _ => ?_))
  refine RJ_ent (Ent.trans (Ent.take del1 Ent.refl) (Ent.starE (l := [sl tyU X3.v r1]) Ent.refl)) ?_
  refine RJ_op rfl (OJ_P (P_assign rfl) rfl ?_)
  refine RJ_nil ?_
  refine QJ_then ?_
  refine CJ_seq ?_
  refine CJ_seq ?_
  refine CJ_region ?_
  refine RJ_op rfl (OJ_P (P_move rfl) rfl ?_)
  rcases opt_e h with ⟨ht11, h⟩ | ⟨o12, ht11, h⟩
  ·
    rw [ht11]
    refine RJ_ent (Ent.take del0 (Ent.take del0 (Ent.drop Ent.refl))) ?_
    refine RJ_op rfl (OJ_P (P_eqlNN rfl rfl Try.underlying25) rfl ?_)
    refine RJ_nil ?_
    refine QJ_then ?_
    refine CJ_condT rfl rfl ?_
    refine CJ_seq ?_
    refine CJ_region ?_
    refine RJ_op rfl (OJ_P (P_assign rfl) rfl ?_)
    refine RJ_nil ?_
    refine QJ_then ?_
    refine CJ_ret ?_
    refine QJ_then_ret ?_
    have hE := Option.some.inj h
    subst hE
    refine QJ_end (res1 Try.results4 rfl) ?_
    refine CSpec.close () ?_ ?_ (Ent.drop (Ent.drop Ent.refl))
    · rfl
    · trivial
  ·
    rw [ht11]
    refine RJ_ent (Ent.takeC (A' := Arr X9 o12) del2 rfl Ent.refl) ?_
    refine RJ_op rfl (OJ_P (P_eqlPN rfl rfl Try.underlying25) rfl ?_)
    refine RJ_nil ?_
    refine QJ_then ?_
    refine CJ_condF rfl rfl ?_
    refine CJ_skip ?_
    refine QJ_then ?_
    refine CJ_seq ?_
    refine CJ_region ?_
    refine RJ_op rfl (OJ_P (P_move rfl) rfl ?_)
    refine RJ_op rfl (OJ_P (P_rem_u8 (a := at_0) (b := (4 : UInt8)) rfl rfl (by decide)) rfl ?_)
    refine RJ_op rfl (OJ_P (P_convSame rfl Try.runUnderlying5 Try.runUnderlying3 (wrap64_u _ (by have := ((at_0 % (4 : UInt8))).toNat_lt; omega))) rfl ?_)
    refine RJ_op rfl (OJ_P (P_assign rfl) rfl ?_)
    refine RJ_nil ?_
    refine QJ_then ?_
    refine CJ_seq ?_
    refine CJ_region ?_
    refine RJ_op rfl (OJ_P (P_move rfl) rfl ?_)
    refine RJ_op rfl (OJ_P (P_move rfl) rfl ?_)
    refine RJ_op rfl (O_call (c_Read) rfl Try.call21 (Dels.cons del0 Dels.nil) rfl (fun _ _ => ?_))
    refine RJ_op rfl (OJ_P (P_move rfl) rfl ?_)
    refine RJ_op rfl (OJ_P (P_extract rfl rfl) rfl ?_)
    refine RJ_op rfl (OJ_P (P_extract rfl rfl) rfl ?_)
    refine RJ_op rfl (OJ_P (P_assign rfl) rfl ?_)
    refine RJ_op rfl (OJ_P (P_assign rfl) rfl ?_)
    refine RJ_nil ?_
    refine QJ_then ?_
    refine CJ_seq ?_
    refine CJ_seq ?_
    refine CJ_region ?_
    refine RJ_op rfl (OJ_P (P_move rfl) rfl ?_)
    refine RJ_op rfl (OJ_P (P_neq (a := (rdC o12 (0 : Int) (((((at_0 % (4 : UInt8))).toNat : Nat) : Int)))) (b := (0 : Int)) rfl rfl) rfl ?_)
    refine RJ_op rfl (OJ_P (P_move rfl) rfl ?_)
    refine RJ_splitP 31 rfl bT_dec (fun hg1B hg1 => ?_) (fun hg1B hg1 => ?_)
    ·
      replace h := ite_t hg1 h
      refine RJ_gn (GY_no rfl rfl rfl hg1B) rfl rfl ?_
      refine RJ_gn (GY_no rfl rfl rfl hg1B) rfl rfl ?_
      refine RJ_gn (GY_no rfl rfl rfl hg1B) rfl rfl ?_
      refine RJ_gn (GY_no rfl rfl rfl hg1B) rfl rfl ?_
      refine RJ_op rfl (OJ_P (P_pickT rfl hg1B rfl) rfl ?_)
      refine RJ_nil ?_
      refine QJ_then ?_
      refine CJ_condT rfl rfl ?_
      refine CJ_seq ?_
      refine CJ_region ?_
      refine RJ_op rfl (OJ_P (P_assign rfl) rfl ?_)
      refine RJ_nil ?_
      refine QJ_then ?_
      refine CJ_ret ?_
      refine QJ_then_ret ?_
      have hE := Option.some.inj h
      subst hE
      refine QJ_end (res1 Try.results4 rfl) ?_
      refine CSpec.close () ?_ ?_ (Ent.drop (Ent.drop (Ent.drop Ent.refl)))
      · rfl
      · trivial
    ·
      replace h := ite_f hg1 h
      refine RJ_gy (GY_yes rfl rfl rfl hg1B) (OJ_P (P_move rfl) rfl ?_)
      refine RJ_gy (GY_yes rfl rfl rfl hg1B) (OJ_P (P_move rfl) rfl ?_)
      refine RJ_gy (GY_yes rfl rfl rfl hg1B) (O_call (c_SetBad) rfl Try.call25 (Dels.cons del0 Dels.nil) rfl (fun _ _ => ?_))
      refine RJ_gy (GY_yes rfl rfl rfl hg1B) (OJ_P (P_neq (a := (sbC o12 (0 : Int) (((((at_0 % (4 : UInt8))).toNat : Nat) : Int)))) (b := (0 : Int)) rfl rfl) rfl ?_)
      refine RJ_op rfl (OJ_P (P_pickF rfl hg1B rfl) rfl ?_)
      refine RJ_nil ?_
      refine QJ_then ?_
      refine CJ_condP rfl bT_dec (fun hg2 => ?_) (fun hg2 => ?_)
      ·
        replace h := ite_t hg2 h
        refine CJ_seq ?_
        refine CJ_region ?_
        refine RJ_op rfl (OJ_P (P_assign rfl) rfl ?_)
        refine RJ_nil ?_
        refine QJ_then ?_
        refine CJ_ret ?_
        refine QJ_then_ret ?_
        have hE := Option.some.inj h
        subst hE
        refine QJ_end (res1 Try.results4 rfl) ?_
        refine CSpec.close () ?_ ?_ (Ent.drop (Ent.drop (Ent.drop Ent.refl)))
        · rfl
        · trivial
      ·
        replace h := ite_f hg2 h
        refine CJ_skip ?_
        refine QJ_then ?_
        refine CJ_seq ?_
        refine CJ_region ?_
        refine RJ_op rfl (OJ_P (P_move rfl) rfl ?_)
        refine RJ_op rfl (OJ_P (P_move rfl) rfl ?_)
        refine RJ_op rfl (O_call (c_Read) rfl Try.call21 (Dels.cons del0 Dels.nil) rfl (fun _ _ => ?_))
        refine RJ_op rfl (OJ_P (P_move rfl) rfl ?_)
        refine RJ_op rfl (OJ_P (P_extract rfl rfl) rfl ?_)
        obtain ⟨w13, hw13, h⟩ := lt_e h
        rw [← hw13]
        refine RJ_op rfl (OJ_P (P_extract rfl rfl) rfl ?_)
        obtain ⟨w14, hw14, h⟩ := lt_e h
        rw [← hw14]
        refine RJ_op rfl (OJ_P (P_assign rfl) rfl ?_)
        refine RJ_op rfl (OJ_P (P_assign rfl) rfl ?_)
        refine RJ_nil ?_
        refine QJ_then ?_
        refine CJ_seq ?_
        refine CJ_seq ?_
        refine CJ_region ?_
        refine RJ_op rfl (OJ_P (P_move rfl) rfl ?_)
        refine RJ_op rfl (OJ_P (P_neq (a := w14) (b := (7 : Int)) rfl rfl) rfl ?_)
        refine RJ_op rfl (OJ_P (P_move rfl) rfl ?_)
        refine RJ_splitP 45 rfl bT_dec (fun hg3B hg3 => ?_) (fun hg3B hg3 => ?_)
        ·
          replace h := ite_t hg3 h
          refine RJ_gn (GY_no rfl rfl rfl hg3B) rfl rfl ?_
          refine RJ_gn (GY_no rfl rfl rfl hg3B) rfl rfl ?_
          refine RJ_gn (GY_no rfl rfl rfl hg3B) rfl rfl ?_
          refine RJ_gn (GY_no rfl rfl rfl hg3B) rfl rfl ?_
          refine RJ_gn (GY_no rfl rfl rfl hg3B) rfl rfl ?_
          refine RJ_op rfl (OJ_P (P_pickT rfl hg3B rfl) rfl ?_)
          refine RJ_nil ?_
          refine QJ_then ?_
          refine CJ_condT rfl rfl ?_
          refine CJ_seq ?_
          refine CJ_region ?_
          refine RJ_op rfl (OJ_P (P_assign rfl) rfl ?_)
          refine RJ_nil ?_
          refine QJ_then ?_
          refine CJ_ret ?_
          refine QJ_then_ret ?_
          have hE := Option.some.inj h
          subst hE
          refine QJ_end (res1 Try.results4 rfl) ?_
          refine CSpec.close () ?_ ?_ (Ent.drop (Ent.drop (Ent.drop Ent.refl)))
          · rfl
          · trivial
        ·
          replace h := ite_f hg3 h
          refine RJ_gy (GY_yes rfl rfl rfl hg3B) (OJ_P (P_move rfl) rfl ?_)
          refine RJ_gy (GY_yes rfl rfl rfl hg3B) (OJ_P (P_move rfl) rfl ?_)
          refine RJ_gy (GY_yes rfl rfl rfl hg3B) (OJ_P (P_move rfl) rfl ?_)
          obtain ⟨hg4, h⟩ := grd_Le h
          refine RJ_gy (GY_yes rfl rfl rfl hg3B) (O_call (c_Write hg4 (v := v)) rfl Try.call13 (Dels.cons del0 Dels.nil) rfl (fun _ _ => ?_))
          obtain ⟨w15, hw15, h⟩ := lt_e h
          rw [← hw15]
          refine RJ_gy (GY_yes rfl rfl rfl hg3B) (OJ_P (P_neq (a := w15) (b := (0 : Int)) rfl rfl) rfl ?_)
          refine RJ_op rfl (OJ_P (P_pickF rfl hg3B rfl) rfl ?_)
          refine RJ_nil ?_
          refine QJ_then ?_
          refine CJ_condP rfl bT_dec (fun hg5 => ?_) (fun hg5 => ?_)
          ·
            replace h := ite_t hg5 h
            refine CJ_seq ?_
            refine CJ_region ?_
            refine RJ_op rfl (OJ_P (P_assign rfl) rfl ?_)
            refine RJ_nil ?_
            refine QJ_then ?_
            refine CJ_ret ?_
            refine QJ_then_ret ?_
            have hE := Option.some.inj h
            subst hE
            refine QJ_end (res1 Try.results4 rfl) ?_
            refine CSpec.close () ?_ ?_ (Ent.drop (Ent.drop (Ent.drop Ent.refl)))
            · rfl
            · trivial
          ·
            replace h := ite_f hg5 h
            refine CJ_skip ?_
            refine QJ_then ?_
            refine CJ_seq ?_
            refine CJ_region ?_
            refine RJ_op rfl (OJ_P (P_move rfl) rfl ?_)
            refine RJ_op rfl (OJ_P (P_move rfl) rfl ?_)
            refine RJ_op rfl (O_buildSlice rfl (bs_41_1_0 _) rfl (fun b16 => ?_))
            refine RJ_ent (Ent.trans (Ent.take del0 Ent.refl) (sl_of_lit (t := tyB) (m := 1) [keep] rfl rfl rfl (by decide))) ?_
            obtain ⟨hg6, h⟩ := grd_Le h
            refine RJ_op rfl (O_call (c_Restart (Reads.sl _ _ _) hg6) rfl Try.call19 (Dels.cons del1 (Dels.cons del0 Dels.nil)) rfl (fun _ _ => ?_))
            refine RJ_nil ?_
            refine QJ_then ?_
            refine CJ_seq ?_
            refine CJ_region ?_
            refine RJ_op rfl (OJ_P (P_move rfl) rfl ?_)
            refine RJ_op rfl (OJ_P (P_move rfl) rfl ?_)
            refine RJ_op rfl (O_call (c_Read) rfl Try.call21 (Dels.cons del0 Dels.nil) rfl (fun _ _ => ?_))
            refine RJ_op rfl (OJ_P (P_move rfl) rfl ?_)
            refine RJ_op rfl (OJ_P (P_extract rfl rfl) rfl ?_)
            obtain ⟨w17, hw17, h⟩ := lt_e h
            rw [← hw17]
            refine RJ_op rfl (OJ_P (P_extract rfl rfl) rfl ?_)
            obtain ⟨w18, hw18, h⟩ := lt_e h
            rw [← hw18]
            refine RJ_op rfl (OJ_P (P_assign rfl) rfl ?_)
            refine RJ_op rfl (OJ_P (P_assign rfl) rfl ?_)
            refine RJ_nil ?_
            refine QJ_then ?_
            refine CJ_seq ?_
            refine CJ_region ?_
            refine RJ_op rfl (OJ_P (P_move rfl) rfl ?_)
            refine RJ_op rfl (OJ_P (P_eql (a := w18) (b := (0 : Int)) rfl rfl) rfl ?_)
            refine RJ_op rfl (OJ_P (P_move rfl) rfl ?_)
            refine RJ_mbT rfl rfl rfl (fun hG19 => have hP20 : (w18 = (0 : Int)) := (bT_dec).1 hG19; VJ_P (P_move rfl)) ?_
            refine RJ_mbT rfl rfl rfl (fun hG21 => have hP22 : (w18 = (0 : Int)) := (bT_dec).1 hG21; VJ_P (P_move (mbx hG21 rfl))) ?_
            refine RJ_mbGT rfl rfl rfl (fun hG23 => have hP24 : (w18 = (0 : Int)) := (bT_dec).1 (and_l hG23); have hP25 : keep = true := (Iff.rfl).1 (and_r hG23); VJ_P (P_move rfl)) ?_
            refine RJ_mbGT rfl rfl rfl (fun hG26 => have hP27 : (w18 = (0 : Int)) := (bT_dec).1 (and_l hG26); have hP28 : keep = true := (Iff.rfl).1 (and_r hG26); VJ_P (P_move rfl)) ?_
            refine RJ_mbGT rfl rfl rfl (fun hG29 => have hP30 : (w18 = (0 : Int)) := (bT_dec).1 (and_l hG29); have hP31 : keep = true := (Iff.rfl).1 (and_r hG29); VJ_P (P_eq_u64 (a := w17) (b := v) (mbx hG29 rfl) (mbx hG29 rfl))) ?_
            refine RJ_mbT rfl rfl rfl (fun hG32 => have hP33 : (w18 = (0 : Int)) := (bT_dec).1 hG32; VJ_P (P_pickAnd (mbx hG32 rfl) (fun hh => mbx (and_i hG32 hh) rfl) rfl)) ?_
            refine RJ_mbT rfl rfl rfl (fun hG34 => have hP35 : (w18 = (0 : Int)) := (bT_dec).1 hG34; VJ_P (P_move (mbx hG34 rfl))) ?_
            refine RJ_mbGF rfl rfl rfl (fun hG36 => have hP37 : (w18 = (0 : Int)) := (bT_dec).1 (and_l hG36); have hP38 : ¬ (keep = true ∧ (w17 = v)) := nP ((bT_and Iff.rfl bT_dec)) (and_r hG36); VJ_P (P_move rfl)) ?_
            refine RJ_mbGF rfl rfl rfl (fun hG39 => have hP40 : (w18 = (0 : Int)) := (bT_dec).1 (and_l hG39); have hP41 : ¬ (keep = true ∧ (w17 = v)) := nP ((bT_and Iff.rfl bT_dec)) (and_r hG39); VJ_P (P_not (mbx hG39 rfl))) ?_
            refine RJ_mbGF rfl rfl rfl (fun hG42 => have hP43 : (w18 = (0 : Int)) := (bT_dec).1 (and_l hG42); have hP44 : ¬ (keep = true ∧ (w17 = v)) := nP ((bT_and Iff.rfl bT_dec)) (and_r hG42); VJ_P (P_move (mbx hG42 rfl))) ?_
            refine RJ_mbGT rfl rfl rfl (fun hG45 => have hP46 : (w18 = (0 : Int)) := (bT_dec).1 (and_l (and_l hG45)); have hP47 : ¬ (keep = true ∧ (w17 = v)) := nP ((bT_and Iff.rfl bT_dec)) (and_r (and_l hG45)); have hP48 : (¬ keep = true) := ((bT_not Iff.rfl)).1 (and_r hG45); VJ_P (P_move rfl)) ?_
            refine RJ_mbGT rfl rfl rfl (fun hG49 => have hP50 : (w18 = (0 : Int)) := (bT_dec).1 (and_l (and_l hG49)); have hP51 : ¬ (keep = true ∧ (w17 = v)) := nP ((bT_and Iff.rfl bT_dec)) (and_r (and_l hG49)); have hP52 : (¬ keep = true) := ((bT_not Iff.rfl)).1 (and_r hG49); VJ_P (P_move rfl)) ?_
            refine RJ_mbGT rfl rfl rfl (fun hG53 => have hP54 : (w18 = (0 : Int)) := (bT_dec).1 (and_l (and_l hG53)); have hP55 : ¬ (keep = true ∧ (w17 = v)) := nP ((bT_and Iff.rfl bT_dec)) (and_r (and_l hG53)); have hP56 : (¬ keep = true) := ((bT_not Iff.rfl)).1 (and_r hG53); VJ_P (P_eq_u64 (a := w17) (b := (rdV o12 (0 : Int) (((((at_0 % (4 : UInt8))).toNat : Nat) : Int)))) (mbx hG53 rfl) (mbx hG53 rfl))) ?_
            refine RJ_mbGF rfl rfl rfl (fun hG57 => have hP58 : (w18 = (0 : Int)) := (bT_dec).1 (and_l hG57); have hP59 : ¬ (keep = true ∧ (w17 = v)) := nP ((bT_and Iff.rfl bT_dec)) (and_r hG57); VJ_P (P_pickAnd (mbx hG57 rfl) (fun hh => mbx (and_i hG57 hh) rfl) rfl)) ?_
            refine RJ_mbT rfl rfl rfl (fun hG60 => have hP61 : (w18 = (0 : Int)) := (bT_dec).1 hG60; VJ_P (P_pickOr (mbx hG60 rfl) rfl (fun hh => mbx (and_i hG60 (not_f hh)) rfl))) ?_
            refine RJ_op rfl (OJ_P (P_pickAnd rfl (fun hh => mbx hh rfl) rfl) rfl ?_)
            refine RJ_op rfl (OJ_P (P_move rfl) rfl ?_)
            refine RJ_splitP 81 rfl (bT_and bT_dec (bT_or (bT_and Iff.rfl bT_dec) (bT_and (bT_not Iff.rfl) bT_dec))) (fun hg7B hg7 => ?_) (fun hg7B hg7 => ?_)
            ·
              replace h := ite_t hg7 h
              obtain ⟨r62, hr63, h⟩ := bind_e h
              refine RJ_gy (GY_yes rfl rfl rfl hg7B) (O_call (L_volumegrouplaw04_awake hr63) rfl Try.call9 Dels.nil rfl (fun _ _ => ?_))
              refine RJ_op rfl (OJ_P (P_pickT rfl hg7B rfl) rfl ?_)
              refine RJ_op rfl (OJ_P (P_assign rfl) rfl ?_)
              refine RJ_nil ?_
              refine QJ_then ?_
              refine CJ_ret ?_
              have hE := Option.some.inj h
              subst hE
              refine QJ_end (res1 Try.results4 rfl) ?_
              refine CSpec.close () ?_ ?_ (Ent.drop (Ent.drop (Ent.drop (Ent.drop Ent.refl))))
              · rfl
              · trivial
            ·
              replace h := ite_f hg7 h
              refine RJ_gn (GY_no rfl rfl rfl hg7B) rfl rfl ?_
              refine RJ_op rfl (OJ_P (P_pickF rfl hg7B rfl) rfl ?_)
              refine RJ_op rfl (OJ_P (P_assign rfl) rfl ?_)
              refine RJ_nil ?_
              refine QJ_then ?_
              refine CJ_ret ?_
              have hE := Option.some.inj h
              subst hE
              refine QJ_end (res1 Try.results4 rfl) ?_
              refine CSpec.close () ?_ ?_ (Ent.drop (Ent.drop (Ent.drop (Ent.drop Ent.refl))))
              · rfl
              · trivial

end Go.Proofs
