/- YthgeeoahmjmnoaaLBlockReader: lifted functions of the program; printed by lift.py. -/
import Derived.Test.YthgeeoahmjmnoaaLBlk
set_option linter.unusedSimpArgs false
set_option linter.unusedVariables false
set_option maxRecDepth 20000
set_option maxHeartbeats 4000000
namespace Go.Proofs
open Go.VG

theorem bs_27_1_0 (v0 : (Option Addr)) (v1 : Nat) (v2 : Nat) : BuildsSlice Try.prog 27 1 [(0, .slice v0 v1 v2)] 25 [.slice v0 v1 v2] := fun w => by kernel_rfl
def volumegrouplaw05_BlockReader (at_0 : Int) (v : UInt64) : Option (Bool) :=
  Option.bind (volumegroupmake_Words (5 : Int) (3 : UInt64)) fun r1 =>
  Option.bind (volumegroupmake_Loaded (([r1] : List (List UInt64)))) fun r7 =>
  Option.elim r7 (
    some false) fun o12 =>
  Option.bind (volumegroupmake_Spans o12) fun r13 =>
  if (((r13.length : Nat) : Int) ≠ (1 : Int)) then
    some false
  else
    Option.bind (block_Reader (r13.getD 0 dv0) o12) fun r20 =>
    Option.bind (Dvc.size r20 o12) fun r25 =>
    if (r25 ≠ (5 : Int)) then
      some false
    else
      Option.bind (Dvc.fl r20 o12) fun r28 =>
      if (r28.1 ≠ (0 : Int)) then
        some false
      else
        Option.bind (Dvc.rd r20 r28.2 ((andI at_0 (7 : Int)))) fun r31 =>
        Option.bind (Dvc.rd (r13.getD 0 dv0) r28.2 ((andI at_0 (7 : Int)))) fun r35 =>
        Option.bind (Dvc.wr r20 r28.2 ((andI at_0 (7 : Int))) v) fun r38 =>
        Option.bind (Dvc.rd (r13.getD 0 dv0) r38.2 ((andI at_0 (7 : Int)))) fun r42 =>
        if (((((r31.2 = r35.2) ∧ (r31.1 = r35.1)) ∧ (r35.2 = r42.2)) ∧ (r35.1 = r42.1)) ∧ ((((andI at_0 (7 : Int)) < (5 : Int)) ∧ (r38.1 = (22 : Int))) ∨ (((5 : Int) ≤ (andI at_0 (7 : Int))) ∧ (r38.1 = (1 : Int))))) then
          Option.bind (volumegrouplaw05_awake) fun r100 =>
          some r100
        else
          some false

theorem L_volumegrouplaw05_BlockReader {W : World} {at_0 : Int} {v : UInt64} {r : Bool} (h : volumegrouplaw05_BlockReader at_0 v = some r) :
    CSpec Try.prog W 4 [.int .i64 at_0, .int .u64 (v.toNat : Int)] [] (fun x : Unit => .bool r) (fun _ => True) (fun x F => F) := by
  refine CSpec.of_body Try.func4 rfl Try.ntmps4 rfl (fun F => ?_)
  show CJ _ _ _ _ _ _ (F)
  unfold volumegrouplaw05_BlockReader at h
  refine CJ_seq ?_
  refine CJ_region ?_
  refine RJ_op rfl (OJ_P (P_assign rfl) rfl ?_)
  refine RJ_nil ?_
  refine QJ_then ?_
  refine CJ_seq ?_
  refine CJ_region ?_
  obtain ⟨r1, hr2, h⟩ := bind_e h
  refine RJ_op rfl (O_call (L_volumegroupmake_Words hr2) rfl Try.call16 Dels.nil rfl (fun X3 _ => ?_))
  refine RJ_op rfl (O_buildSlice rfl (bs_27_1_0 _ _ _) rfl (fun b5 => ?_))
  refine RJ_ent (Ent.trans (Ent.take del0 Ent.refl) (sl_of_lit (t := tyRow) (m := 1) [(X3 : Sl3)] rfl rfl rfl (by decide))) ?_
  refine RJ_ent (Ent.starI (l := [sl tyU X3.v r1]) (Ent.take del1 Ent.refl)) ?_
  obtain ⟨r7, hr8, h⟩ := bind_e h
  refine RJ_op rfl (O_call (L_volumegroupmake_Loaded (Reads.sl _ _ _) (RowsR.cons (Reads.sl _ _ _) RowsR.nil) hr8) rfl Try.call15 (Dels.cons del1 (Dels.cons del0 Dels.nil)) rfl (fun X9 _ => ?_))
  refine RJ_ent (Ent.trans (Ent.take del1 Ent.refl) (Ent.starE (l := [sl tyU X3.v r1]) Ent.refl)) ?_
  refine RJ_op rfl (OJ_P (P_assign rfl) rfl ?_)
  refine RJ_nil ?_
  refine QJ_then ?_
  refine CJ_seq ?_
  refine CJ_seq ?_
  refine CJ_region ?_
  refine RJ_op rfl (OJ_P (P_move rfl) rfl ?_)
  rcases opt_e h with ⟨ht11, h⟩ | ⟨o12, ht11, h⟩
  ·
    rw [ht11]
    refine RJ_ent (Ent.take del0 (Ent.take del0 (Ent.drop Ent.refl))) ?_
    refine RJ_op rfl (OJ_P (P_eqlNN rfl rfl Try.underlying23) rfl ?_)
    refine RJ_nil ?_
    refine QJ_then ?_
    refine CJ_condT rfl rfl ?_
    refine CJ_seq ?_
    refine CJ_region ?_
    refine RJ_op rfl (OJ_P (P_assign rfl) rfl ?_)
    refine RJ_nil ?_
    refine QJ_then ?_
    refine CJ_ret ?_
    refine QJ_then_ret ?_
    have hE := Option.some.inj h
    subst hE
    refine QJ_end (res1 Try.results4 rfl) ?_
    refine CSpec.close () ?_ ?_ (Ent.drop (Ent.drop Ent.refl))
    · rfl
    · trivial
  ·
    rw [ht11]
    refine RJ_ent (Ent.takeC (A' := Arr X9 o12) del2 rfl Ent.refl) ?_
    refine RJ_op rfl (OJ_P (P_eqlPN rfl rfl Try.underlying23) rfl ?_)
    refine RJ_nil ?_
    refine QJ_then ?_
    refine CJ_condF rfl rfl ?_
    refine CJ_skip ?_
    refine QJ_then ?_
    refine CJ_seq ?_
    refine CJ_region ?_
    refine RJ_op rfl (OJ_P (P_move rfl) rfl ?_)
    obtain ⟨r13, hr14, h⟩ := bind_e h
    refine RJ_op rfl (O_call (L_volumegroupmake_Spans hr14) rfl Try.call17 (Dels.cons del0 Dels.nil) rfl (fun X15 _ => ?_))
    refine RJ_pure (fun h hh => Rs_len (stars_perm (del2 (A := Rs (DevP X9) r13 X15.2)).out h hh)) (fun hdl18 => ?_)
    refine RJ_op rfl (OJ_P (P_assign rfl) rfl ?_)
    refine RJ_nil ?_
    refine QJ_then ?_
    refine CJ_seq ?_
    refine CJ_seq ?_
    refine CJ_region ?_
    refine RJ_op rfl (OJ_P (P_move rfl) rfl ?_)
    refine RJ_op rfl (OJ_V (VJ_eq (V_len rfl foc1 (Reads.sl _ _ _) Try.runUnderlying28) (congrArg (fun z : Nat => Value.int .i64 (z : Int)) (hdl18).symm)) rfl ?_)
    refine RJ_op rfl (OJ_P (P_neq (a := ((r13.length : Nat) : Int)) (b := (1 : Int)) rfl rfl) rfl ?_)
    refine RJ_nil ?_
    refine QJ_then ?_
    refine CJ_condP rfl bT_dec (fun hg1 => ?_) (fun hg1 => ?_)
    ·
      replace h := ite_t hg1 h
      refine CJ_seq ?_
      refine CJ_region ?_
      refine RJ_op rfl (OJ_P (P_assign rfl) rfl ?_)
      refine RJ_nil ?_
      refine QJ_then ?_
      refine CJ_ret ?_
      refine QJ_then_ret ?_
      have hE := Option.some.inj h
      subst hE
      refine QJ_end (res1 Try.results4 rfl) ?_
      refine CSpec.close () ?_ ?_ (Ent.drop (Ent.drop (Ent.drop (Ent.drop (Ent.drop Ent.refl)))))
      · rfl
      · trivial
    ·
      replace h := ite_f hg1 h
      refine CJ_skip ?_
      refine QJ_then ?_
      refine CJ_seq ?_
      refine CJ_region ?_
      refine RJ_op rfl (OJ_P (P_move rfl) rfl ?_)
      refine RJ_op rfl (OJ_V (V_index (i := 0) rfl rfl rfl ((hdl18).symm ▸ (by omega)) foc1 (Reads.sl _ _ _) Try.runUnderlying28 Try.sizeOf31) rfl ?_)
      refine RJ_ent (Ent.trans (Ent.take del2 Ent.refl) (Rs_at (fun _ _ => Dup_DevP) (dx := dv0) (dh := tyDev.dflt) (i := 0) (by omega))) ?_
      refine RJ_op rfl (OJ_V (V_loadE rfl rfl ((hdl18).symm ▸ (by omega)) foc3 (Reads.sl _ _ _) rfl rfl Try.isAgg31) rfl ?_)
      obtain ⟨r20, hr21, h⟩ := bind_e h
      refine RJ_op rfl (O_call (L_block_Reader hr21) rfl Try.call22 (Dels.cons del0 (Dels.cons del1 Dels.nil)) rfl (fun X22 _ => ?_))
      refine RJ_op rfl (OJ_P (P_assign rfl) rfl ?_)
      refine RJ_nil ?_
      refine QJ_then ?_
      refine CJ_seq ?_
      refine CJ_seq ?_
      refine CJ_region ?_
      refine RJ_op rfl (OJ_P (P_move rfl) rfl ?_)
      refine RJ_op rfl (OJ_P (P_eqlIfN rfl rfl Try.underlying31) rfl ?_)
      refine RJ_op rfl (OJ_P (P_move rfl) rfl ?_)
      refine RJ_gy (GY_yes rfl rfl rfl rfl) (OJ_P (P_move rfl) rfl ?_)
      refine RJ_pure (fun h hh => DevP_dep h (stars_perm (del2 (A := DevP X9 r20 X22)).out h hh)) (fun hdp24 => ?_)
      obtain ⟨r25, hr26, h⟩ := bind_e h
      refine RJ_gy (GY_yes rfl rfl rfl rfl) (O_callI rfl (dev_Size hr26 hdp24) rfl (Dels.cons del2 (Dels.cons del1 Dels.nil)) rfl (fun _ _ => ?_))
      refine RJ_gy (GY_yes rfl rfl rfl rfl) (OJ_P (P_neq (a := r25) (b := (5 : Int)) rfl rfl) rfl ?_)
      refine RJ_op rfl (OJ_P (P_pickF rfl rfl rfl) rfl ?_)
      refine RJ_op rfl (OJ_P (P_move rfl) rfl ?_)
      refine RJ_splitP 37 rfl bT_dec (fun hg2B hg2 => ?_) (fun hg2B hg2 => ?_)
      ·
        replace h := ite_t hg2 h
        refine RJ_gn (GY_no rfl rfl rfl hg2B) rfl rfl ?_
        refine RJ_gn (GY_no rfl rfl rfl hg2B) rfl rfl ?_
        refine RJ_gn (GY_no rfl rfl rfl hg2B) rfl rfl ?_
        refine RJ_op rfl (OJ_P (P_pickT rfl hg2B rfl) rfl ?_)
        refine RJ_nil ?_
        refine QJ_then ?_
        refine CJ_condT rfl rfl ?_
        refine CJ_seq ?_
        refine CJ_region ?_
        refine RJ_op rfl (OJ_P (P_assign rfl) rfl ?_)
        refine RJ_nil ?_
        refine QJ_then ?_
        refine CJ_ret ?_
        refine QJ_then_ret ?_
        have hE := Option.some.inj h
        subst hE
        refine QJ_end (res1 Try.results4 rfl) ?_
        refine CSpec.close () ?_ ?_ (Ent.drop (Ent.drop (Ent.drop (Ent.drop (Ent.drop (Ent.drop (Ent.drop Ent.refl)))))))
        · rfl
        · trivial
      ·
        replace h := ite_f hg2 h
        refine RJ_gy (GY_yes rfl rfl rfl hg2B) (OJ_P (P_move rfl) rfl ?_)
        refine RJ_pure (fun h hh => DevP_dep h (stars_perm (del0 (A := DevP X9 r20 X22)).out h hh)) (fun hdp27 => ?_)
        obtain ⟨r28, hr29, h⟩ := bind_e h
        refine RJ_gy (GY_yes rfl rfl rfl hg2B) (O_callI rfl (dev_Flush hr29 hdp27) rfl (Dels.cons del0 (Dels.cons del0 Dels.nil)) rfl (fun _ _ => ?_))
        refine RJ_gy (GY_yes rfl rfl rfl hg2B) (OJ_P (P_neq (a := r28.1) (b := (0 : Int)) rfl rfl) rfl ?_)
        refine RJ_op rfl (OJ_P (P_pickF rfl hg2B rfl) rfl ?_)
        refine RJ_nil ?_
        refine QJ_then ?_
        refine CJ_condP rfl bT_dec (fun hg3 => ?_) (fun hg3 => ?_)
        ·
          replace h := ite_t hg3 h
          refine CJ_seq ?_
          refine CJ_region ?_
          refine RJ_op rfl (OJ_P (P_assign rfl) rfl ?_)
          refine RJ_nil ?_
          refine QJ_then ?_
          refine CJ_ret ?_
          refine QJ_then_ret ?_
          have hE := Option.some.inj h
          subst hE
          refine QJ_end (res1 Try.results4 rfl) ?_
          refine CSpec.close () ?_ ?_ (Ent.drop (Ent.drop (Ent.drop (Ent.drop (Ent.drop (Ent.drop (Ent.drop Ent.refl)))))))
          · rfl
          · trivial
        ·
          replace h := ite_f hg3 h
          refine CJ_skip ?_
          refine QJ_then ?_
          refine CJ_seq ?_
          refine CJ_region ?_
          refine RJ_op rfl (OJ_P (P_move rfl) rfl ?_)
          refine RJ_op rfl (OJ_P (P_and (a := at_0) (m := (7 : Int)) rfl rfl (by decide)) rfl ?_)
          refine RJ_op rfl (OJ_P (P_assign rfl) rfl ?_)
          refine RJ_nil ?_
          refine QJ_then ?_
          refine CJ_seq ?_
          refine CJ_region ?_
          refine RJ_op rfl (OJ_P (P_move rfl) rfl ?_)
          refine RJ_op rfl (OJ_P (P_move rfl) rfl ?_)
          refine RJ_pure (fun h hh => DevP_dep h (stars_perm (del0 (A := DevP X9 r20 X22)).out h hh)) (fun hdp30 => ?_)
          obtain ⟨r31, hr32, h⟩ := bind_e h
          refine RJ_op rfl (O_callI rfl (dev_Read hr32 hdp30) rfl (Dels.cons del0 (Dels.cons del0 Dels.nil)) rfl (fun _ _ => ?_))
          refine RJ_op rfl (OJ_P (P_move rfl) rfl ?_)
          refine RJ_op rfl (OJ_P (P_extract rfl rfl) rfl ?_)
          refine RJ_op rfl (OJ_P (P_extract rfl rfl) rfl ?_)
          refine RJ_op rfl (OJ_P (P_assign rfl) rfl ?_)
          refine RJ_op rfl (OJ_P (P_assign rfl) rfl ?_)
          refine RJ_nil ?_
          refine QJ_then ?_
          refine CJ_seq ?_
          refine CJ_region ?_
          refine RJ_op rfl (OJ_P (P_move rfl) rfl ?_)
          refine RJ_op rfl (OJ_V (V_index (i := 0) rfl rfl rfl ((hdl18).symm ▸ (by omega)) foc4 (Reads.sl _ _ _) Try.runUnderlying28 Try.sizeOf31) rfl ?_)
          refine RJ_ent (Ent.trans (Ent.take del3 Ent.refl) (Rs_at (fun _ _ => Dup_DevP) (dx := dv0) (dh := tyDev.dflt) (i := 0) (by omega))) ?_
          refine RJ_op rfl (OJ_V (V_loadE rfl rfl ((hdl18).symm ▸ (by omega)) foc5 (Reads.sl _ _ _) rfl rfl Try.isAgg31) rfl ?_)
          refine RJ_op rfl (OJ_P (P_move rfl) rfl ?_)
          refine RJ_pure (fun h hh => DevP_dep h (stars_perm (del0 (A := DevP X9 (r13.getD 0 dv0) (X15.2.getD 0 tyDev.dflt))).out h hh)) (fun hdp34 => ?_)
          obtain ⟨r35, hr36, h⟩ := bind_e h
          refine RJ_op rfl (O_callI rfl (dev_Read hr36 hdp34) rfl (Dels.cons del0 (Dels.cons del2 Dels.nil)) rfl (fun _ _ => ?_))
          refine RJ_op rfl (OJ_P (P_move rfl) rfl ?_)
          refine RJ_op rfl (OJ_P (P_extract rfl rfl) rfl ?_)
          refine RJ_op rfl (OJ_P (P_extract rfl rfl) rfl ?_)
          refine RJ_op rfl (OJ_P (P_assign rfl) rfl ?_)
          refine RJ_op rfl (OJ_P (P_assign rfl) rfl ?_)
          refine RJ_nil ?_
          refine QJ_then ?_
          refine CJ_seq ?_
          refine CJ_region ?_
          refine RJ_op rfl (OJ_P (P_move rfl) rfl ?_)
          refine RJ_op rfl (OJ_P (P_move rfl) rfl ?_)
          refine RJ_op rfl (OJ_P (P_move rfl) rfl ?_)
          refine RJ_pure (fun h hh => DevP_dep h (stars_perm (del3 (A := DevP X9 r20 X22)).out h hh)) (fun hdp37 => ?_)
          obtain ⟨r38, hr39, h⟩ := bind_e h
          refine RJ_op rfl (O_callI rfl (dev_Write hr39 hdp37) rfl (Dels.cons del3 (Dels.cons del1 Dels.nil)) rfl (fun _ _ => ?_))
          refine RJ_op rfl (OJ_P (P_assign rfl) rfl ?_)
          refine RJ_nil ?_
          refine QJ_then ?_
          refine CJ_seq ?_
          refine CJ_region ?_
          refine RJ_op rfl (OJ_P (P_move rfl) rfl ?_)
          refine RJ_op rfl (OJ_V (V_index (i := 0) rfl rfl rfl ((hdl18).symm ▸ (by omega)) foc5 (Reads.sl _ _ _) Try.runUnderlying28 Try.sizeOf31) rfl ?_)
          refine RJ_ent (Ent.trans (Ent.take del3 Ent.refl) (Rs_at (fun _ _ => Dup_DevP) (dx := dv0) (dh := tyDev.dflt) (i := 0) (by omega))) ?_
          refine RJ_op rfl (OJ_V (V_loadE rfl rfl ((hdl18).symm ▸ (by omega)) foc6 (Reads.sl _ _ _) rfl rfl Try.isAgg31) rfl ?_)
          refine RJ_op rfl (OJ_P (P_move rfl) rfl ?_)
          refine RJ_pure (fun h hh => DevP_dep h (stars_perm (del0 (A := DevP X9 (r13.getD 0 dv0) (X15.2.getD 0 tyDev.dflt))).out h hh)) (fun hdp41 => ?_)
          obtain ⟨r42, hr43, h⟩ := bind_e h
          refine RJ_op rfl (O_callI rfl (dev_Read hr43 hdp41) rfl (Dels.cons del0 (Dels.cons del2 Dels.nil)) rfl (fun _ _ => ?_))
          refine RJ_op rfl (OJ_P (P_move rfl) rfl ?_)
          refine RJ_op rfl (OJ_P (P_extract rfl rfl) rfl ?_)
          refine RJ_op rfl (OJ_P (P_extract rfl rfl) rfl ?_)
          refine RJ_op rfl (OJ_P (P_assign rfl) rfl ?_)
          refine RJ_op rfl (OJ_P (P_assign rfl) rfl ?_)
          refine RJ_nil ?_
          refine QJ_then ?_
          refine CJ_seq ?_
          refine CJ_region ?_
          refine RJ_op rfl (OJ_P (P_move rfl) rfl ?_)
          refine RJ_op rfl (OJ_P (P_move rfl) rfl ?_)
          refine RJ_op rfl (OJ_P (P_eql (a := r31.2) (b := r35.2) rfl rfl) rfl ?_)
          refine RJ_op rfl (OJ_P (P_move rfl) rfl ?_)
          refine RJ_mbT rfl rfl rfl (fun hG44 => have hP45 : (r31.2 = r35.2) := (bT_dec).1 hG44; VJ_P (P_move rfl)) ?_
          refine RJ_mbT rfl rfl rfl (fun hG46 => have hP47 : (r31.2 = r35.2) := (bT_dec).1 hG46; VJ_P (P_move rfl)) ?_
          refine RJ_mbT rfl rfl rfl (fun hG48 => have hP49 : (r31.2 = r35.2) := (bT_dec).1 hG48; VJ_P (P_eq_u64 (a := r31.1) (b := r35.1) (mbx hG48 rfl) (mbx hG48 rfl))) ?_
          refine RJ_op rfl (OJ_P (P_pickAnd rfl (fun hh => mbx hh rfl) rfl) rfl ?_)
          refine RJ_op rfl (OJ_P (P_move rfl) rfl ?_)
          refine RJ_mbT rfl rfl rfl (fun hG50 => have hP51 : ((r31.2 = r35.2) ∧ (r31.1 = r35.1)) := ((bT_and bT_dec bT_dec)).1 hG50; VJ_P (P_move rfl)) ?_
          refine RJ_mbT rfl rfl rfl (fun hG52 => have hP53 : ((r31.2 = r35.2) ∧ (r31.1 = r35.1)) := ((bT_and bT_dec bT_dec)).1 hG52; VJ_P (P_move rfl)) ?_
          refine RJ_mbT rfl rfl rfl (fun hG54 => have hP55 : ((r31.2 = r35.2) ∧ (r31.1 = r35.1)) := ((bT_and bT_dec bT_dec)).1 hG54; VJ_P (P_eql (a := r35.2) (b := r42.2) (mbx hG54 rfl) (mbx hG54 rfl))) ?_
          refine RJ_op rfl (OJ_P (P_pickAnd rfl (fun hh => mbx hh rfl) rfl) rfl ?_)
          refine RJ_op rfl (OJ_P (P_move rfl) rfl ?_)
          refine RJ_mbT rfl rfl rfl (fun hG56 => have hP57 : (((r31.2 = r35.2) ∧ (r31.1 = r35.1)) ∧ (r35.2 = r42.2)) := ((bT_and (bT_and bT_dec bT_dec) bT_dec)).1 hG56; VJ_P (P_move rfl)) ?_
          refine RJ_mbT rfl rfl rfl (fun hG58 => have hP59 : (((r31.2 = r35.2) ∧ (r31.1 = r35.1)) ∧ (r35.2 = r42.2)) := ((bT_and (bT_and bT_dec bT_dec) bT_dec)).1 hG58; VJ_P (P_move rfl)) ?_
          refine RJ_mbT rfl rfl rfl (fun hG60 => have hP61 : (((r31.2 = r35.2) ∧ (r31.1 = r35.1)) ∧ (r35.2 = r42.2)) := ((bT_and (bT_and bT_dec bT_dec) bT_dec)).1 hG60; VJ_P (P_eq_u64 (a := r35.1) (b := r42.1) (mbx hG60 rfl) (mbx hG60 rfl))) ?_
          refine RJ_op rfl (OJ_P (P_pickAnd rfl (fun hh => mbx hh rfl) rfl) rfl ?_)
          refine RJ_op rfl (OJ_P (P_move rfl) rfl ?_)
          refine RJ_mbT rfl rfl rfl (fun hG62 => have hP63 : ((((r31.2 = r35.2) ∧ (r31.1 = r35.1)) ∧ (r35.2 = r42.2)) ∧ (r35.1 = r42.1)) := ((bT_and (bT_and (bT_and bT_dec bT_dec) bT_dec) bT_dec)).1 hG62; VJ_P (P_move rfl)) ?_
          refine RJ_mbT rfl rfl rfl (fun hG64 => have hP65 : ((((r31.2 = r35.2) ∧ (r31.1 = r35.1)) ∧ (r35.2 = r42.2)) ∧ (r35.1 = r42.1)) := ((bT_and (bT_and (bT_and bT_dec bT_dec) bT_dec) bT_dec)).1 hG64; VJ_P (P_lss (a := (andI at_0 (7 : Int))) (b := (5 : Int)) (mbx hG64 rfl) rfl)) ?_
          refine RJ_mbT rfl rfl rfl (fun hG66 => have hP67 : ((((r31.2 = r35.2) ∧ (r31.1 = r35.1)) ∧ (r35.2 = r42.2)) ∧ (r35.1 = r42.1)) := ((bT_and (bT_and (bT_and bT_dec bT_dec) bT_dec) bT_dec)).1 hG66; VJ_P (P_move (mbx hG66 rfl))) ?_
          refine RJ_mbGT rfl rfl rfl (fun hG68 => have hP69 : ((((r31.2 = r35.2) ∧ (r31.1 = r35.1)) ∧ (r35.2 = r42.2)) ∧ (r35.1 = r42.1)) := ((bT_and (bT_and (bT_and bT_dec bT_dec) bT_dec) bT_dec)).1 (and_l hG68); have hP70 : ((andI at_0 (7 : Int)) < (5 : Int)) := (bT_dec).1 (and_r hG68); VJ_P (P_move rfl)) ?_
          refine RJ_mbGT rfl rfl rfl (fun hG71 => have hP72 : ((((r31.2 = r35.2) ∧ (r31.1 = r35.1)) ∧ (r35.2 = r42.2)) ∧ (r35.1 = r42.1)) := ((bT_and (bT_and (bT_and bT_dec bT_dec) bT_dec) bT_dec)).1 (and_l hG71); have hP73 : ((andI at_0 (7 : Int)) < (5 : Int)) := (bT_dec).1 (and_r hG71); VJ_P (P_eql (a := r38.1) (b := (22 : Int)) (mbx hG71 rfl) rfl)) ?_
          refine RJ_mbT rfl rfl rfl (fun hG74 => have hP75 : ((((r31.2 = r35.2) ∧ (r31.1 = r35.1)) ∧ (r35.2 = r42.2)) ∧ (r35.1 = r42.1)) := ((bT_and (bT_and (bT_and bT_dec bT_dec) bT_dec) bT_dec)).1 hG74; VJ_P (P_pickAnd (mbx hG74 rfl) (fun hh => mbx (and_i hG74 hh) rfl) rfl)) ?_
          refine RJ_mbT rfl rfl rfl (fun hG76 => have hP77 : ((((r31.2 = r35.2) ∧ (r31.1 = r35.1)) ∧ (r35.2 = r42.2)) ∧ (r35.1 = r42.1)) := ((bT_and (bT_and (bT_and bT_dec bT_dec) bT_dec) bT_dec)).1 hG76; VJ_P (P_move (mbx hG76 rfl))) ?_
          refine RJ_mbGF rfl rfl rfl (fun hG78 => have hP79 : ((((r31.2 = r35.2) ∧ (r31.1 = r35.1)) ∧ (r35.2 = r42.2)) ∧ (r35.1 = r42.1)) := ((bT_and (bT_and (bT_and bT_dec bT_dec) bT_dec) bT_dec)).1 (and_l hG78); have hP80 : ¬ (((andI at_0 (7 : Int)) < (5 : Int)) ∧ (r38.1 = (22 : Int))) := nP ((bT_and bT_dec bT_dec)) (and_r hG78); VJ_P (P_move rfl)) ?_
          refine RJ_mbGF rfl rfl rfl (fun hG81 => have hP82 : ((((r31.2 = r35.2) ∧ (r31.1 = r35.1)) ∧ (r35.2 = r42.2)) ∧ (r35.1 = r42.1)) := ((bT_and (bT_and (bT_and bT_dec bT_dec) bT_dec) bT_dec)).1 (and_l hG81); have hP83 : ¬ (((andI at_0 (7 : Int)) < (5 : Int)) ∧ (r38.1 = (22 : Int))) := nP ((bT_and bT_dec bT_dec)) (and_r hG81); VJ_P (P_geq (a := (andI at_0 (7 : Int))) (b := (5 : Int)) (mbx hG81 rfl) rfl)) ?_
          refine RJ_mbGF rfl rfl rfl (fun hG84 => have hP85 : ((((r31.2 = r35.2) ∧ (r31.1 = r35.1)) ∧ (r35.2 = r42.2)) ∧ (r35.1 = r42.1)) := ((bT_and (bT_and (bT_and bT_dec bT_dec) bT_dec) bT_dec)).1 (and_l hG84); have hP86 : ¬ (((andI at_0 (7 : Int)) < (5 : Int)) ∧ (r38.1 = (22 : Int))) := nP ((bT_and bT_dec bT_dec)) (and_r hG84); VJ_P (P_move (mbx hG84 rfl))) ?_
          refine RJ_mbGT rfl rfl rfl (fun hG87 => have hP88 : ((((r31.2 = r35.2) ∧ (r31.1 = r35.1)) ∧ (r35.2 = r42.2)) ∧ (r35.1 = r42.1)) := ((bT_and (bT_and (bT_and bT_dec bT_dec) bT_dec) bT_dec)).1 (and_l (and_l hG87)); have hP89 : ¬ (((andI at_0 (7 : Int)) < (5 : Int)) ∧ (r38.1 = (22 : Int))) := nP ((bT_and bT_dec bT_dec)) (and_r (and_l hG87)); have hP90 : ((5 : Int) ≤ (andI at_0 (7 : Int))) := (bT_dec).1 (and_r hG87); VJ_P (P_move rfl)) ?_
          refine RJ_mbGT rfl rfl rfl (fun hG91 => have hP92 : ((((r31.2 = r35.2) ∧ (r31.1 = r35.1)) ∧ (r35.2 = r42.2)) ∧ (r35.1 = r42.1)) := ((bT_and (bT_and (bT_and bT_dec bT_dec) bT_dec) bT_dec)).1 (and_l (and_l hG91)); have hP93 : ¬ (((andI at_0 (7 : Int)) < (5 : Int)) ∧ (r38.1 = (22 : Int))) := nP ((bT_and bT_dec bT_dec)) (and_r (and_l hG91)); have hP94 : ((5 : Int) ≤ (andI at_0 (7 : Int))) := (bT_dec).1 (and_r hG91); VJ_P (P_eql (a := r38.1) (b := (1 : Int)) (mbx hG91 rfl) rfl)) ?_
          refine RJ_mbGF rfl rfl rfl (fun hG95 => have hP96 : ((((r31.2 = r35.2) ∧ (r31.1 = r35.1)) ∧ (r35.2 = r42.2)) ∧ (r35.1 = r42.1)) := ((bT_and (bT_and (bT_and bT_dec bT_dec) bT_dec) bT_dec)).1 (and_l hG95); have hP97 : ¬ (((andI at_0 (7 : Int)) < (5 : Int)) ∧ (r38.1 = (22 : Int))) := nP ((bT_and bT_dec bT_dec)) (and_r hG95); VJ_P (P_pickAnd (mbx hG95 rfl) (fun hh => mbx (and_i hG95 hh) rfl) rfl)) ?_
          refine RJ_mbT rfl rfl rfl (fun hG98 => have hP99 : ((((r31.2 = r35.2) ∧ (r31.1 = r35.1)) ∧ (r35.2 = r42.2)) ∧ (r35.1 = r42.1)) := ((bT_and (bT_and (bT_and bT_dec bT_dec) bT_dec) bT_dec)).1 hG98; VJ_P (P_pickOr (mbx hG98 rfl) rfl (fun hh => mbx (and_i hG98 (not_f hh)) rfl))) ?_
          refine RJ_op rfl (OJ_P (P_pickAnd rfl (fun hh => mbx hh rfl) rfl) rfl ?_)
          refine RJ_op rfl (OJ_P (P_move rfl) rfl ?_)
          refine RJ_splitP 104 rfl (bT_and (bT_and (bT_and (bT_and bT_dec bT_dec) bT_dec) bT_dec) (bT_or (bT_and bT_dec bT_dec) (bT_and bT_dec bT_dec))) (fun hg5B hg5 => ?_) (fun hg5B hg5 => ?_)
          ·
            replace h := ite_t hg5 h
            obtain ⟨r100, hr101, h⟩ := bind_e h
            refine RJ_gy (GY_yes rfl rfl rfl hg5B) (O_call (L_volumegrouplaw05_awake hr101) rfl Try.call21 Dels.nil rfl (fun _ _ => ?_))
            refine RJ_op rfl (OJ_P (P_pickT rfl hg5B rfl) rfl ?_)
            refine RJ_op rfl (OJ_P (P_assign rfl) rfl ?_)
            refine RJ_nil ?_
            refine QJ_then ?_
            refine CJ_ret ?_
            have hE := Option.some.inj h
            subst hE
            refine QJ_end (res1 Try.results4 rfl) ?_
            refine CSpec.close () ?_ ?_ (Ent.drop (Ent.drop (Ent.drop (Ent.drop (Ent.drop (Ent.drop (Ent.drop (Ent.drop (Ent.drop Ent.refl)))))))))
            · rfl
            · trivial
          ·
            replace h := ite_f hg5 h
            refine RJ_gn (GY_no rfl rfl rfl hg5B) rfl rfl ?_
            refine RJ_op rfl (OJ_P (P_pickF rfl hg5B rfl) rfl ?_)
            refine RJ_op rfl (OJ_P (P_assign rfl) rfl ?_)
            refine RJ_nil ?_
            refine QJ_then ?_
            refine CJ_ret ?_
            have hE := Option.some.inj h
            subst hE
            refine QJ_end (res1 Try.results4 rfl) ?_
            refine CSpec.close () ?_ ?_ (Ent.drop (Ent.drop (Ent.drop (Ent.drop (Ent.drop (Ent.drop (Ent.drop (Ent.drop (Ent.drop Ent.refl)))))))))
            · rfl
            · trivial

end Go.Proofs
