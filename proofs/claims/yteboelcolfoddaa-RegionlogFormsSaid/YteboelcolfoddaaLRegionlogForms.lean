/- YteboelcolfoddaaLRegionlogForms: lifted functions of the program; printed by lift.py. -/
import Derived.Test.YteboelcolfoddaaLRef20
set_option linter.unusedSimpArgs false
set_option linter.unusedVariables false
set_option maxRecDepth 20000
set_option maxHeartbeats 4000000
namespace Go.Proofs
open Go.VG

theorem bs_31_1_0 (v0 : (Option Addr)) (v1 : Nat) (v2 : Nat) : BuildsSlice Try.prog 31 1 [(0, .slice v0 v1 v2)] 22 [.slice v0 v1 v2] := fun w => by kernel_rfl
theorem bs_24_4_0_1_2_3 (v0 : Int) (v1 : Int) (v2 : Int) (v3 : Int) : BuildsSlice Try.prog 24 4 [(0, .int .i64 v0), (1, .int .i64 v1), (2, .int .i64 v2), (3, .int .i64 v3)] 3 [.int .i64 v0, .int .i64 v1, .int .i64 v2, .int .i64 v3] := fun w => by kernel_rfl
def volumegrouplaw20_awake : Option (Bool) :=
 Option.bind (volumegroupmake_Loaded (([(List.replicate 3 0)] : List (List UInt64)))) fun r4 =>
 Option.elim r4 (
  some false) fun o9 =>
 Option.bind (volumegroupmake_Spans o9) fun r10 =>
  if (((r10.length : Nat) : Int) ≠ (1 : Int)) then
  some false
 else
  Option.bind (regionlog_Format (r10.getD 0 dv0) (70 : Int) o9) fun r17 =>
  if (r17.1 ≠ (0 : Int)) then
   some false
  else
   Option.bind (regionlog_Open (r10.getD 0 dv0) (70 : Int) r17.2) fun r20 =>
   if (r20.2 ≠ (0 : Int)) then
    some false
   else
    Option.elim r20.1 (
     some false) fun o29 =>
    Option.bind (regionlog_Log_Mark o29 (65 : Int) r17.2) fun r30 =>
    if (r30.1 ≠ (0 : Int)) then
     some false
    else
     Option.bind (regionlog_Open (r10.getD 0 dv0) (70 : Int) r30.2.2) fun r33 =>
     if (r33.2 = (0 : Int)) then
      Option.elim r33.1 (
       some false) fun o42 =>
      Option.bind (regionlog_Log_IsDirty o42 (65 : Int) r30.2.2) fun r43 =>
      if r43 = true then
       Option.bind (regionlog_Log_IsDirty o42 (64 : Int) r30.2.2) fun r45 =>
       if (¬ r45 = true) then
        Option.bind (regionlog_Words (64 : Int)) fun r47 =>
        if (r47 = (2 : Int)) then
         Option.bind (regionlog_Words (65 : Int)) fun r49 =>
         some ((decide (r49 = (3 : Int))))
        else
         some false
       else
        some false
      else
       some false
     else
      some false

theorem L_volumegrouplaw20_awake {W : World} {r : Bool} (h : volumegrouplaw20_awake = some r) :
  CSpec Try.prog W 6 [] [] (fun x : Unit => .bool r) (fun _ => True) (fun x F => F) := by
 refine CSpec.of_body Try.func6 rfl Try.ntmps6 rfl fun F => ?_
 show CJ _ _ _ _ _ _ (F)
 unfold volumegrouplaw20_awake at h
 refine CJ_seq <| CJ_region <| RJ_op rfl <| OJ_P (P_assign rfl) rfl <| RJ_nil <| QJ_then <| CJ_seq <| CJ_region <| RJ_op rfl <| O_make (t := tyU) (m := 3) (x0 := 0) (z := _) (bytes := _) rfl rfl rfl rfl Try.underlying22 ⟨Try.t27, by kernel_rfl, rfl, rfl, rfl⟩ rfl (by omega) (by decide) rfl fun b1 => RJ_op rfl <| O_buildSlice rfl (bs_31_1_0 _ _ _) rfl fun b2 => RJ_ent (Ent.trans (Ent.take del0 Ent.refl) (sl_of_lit (t := tyRow) (m := 1) [(⟨some ⟨b1, 0, none⟩, 3, 3⟩ : Sl3)] rfl rfl rfl (by decide))) <| RJ_ent (Ent.starI (l := [sl tyU (.slice (some ⟨b1, 0, none⟩) 3 3) (List.replicate 3 0)]) (Ent.take del1 Ent.refl)) ?_
 obtain ⟨r4, hr5, h⟩ := bind_e h
 refine RJ_op rfl <| O_call (L_volumegroupmake_Loaded (Reads.sl _ _ _) (RowsR.cons (Reads.sl _ _ _) RowsR.nil) hr5) rfl Try.call9 (Dels.cons del1 (Dels.cons del0 Dels.nil)) rfl fun X6 _ => RJ_ent (Ent.trans (Ent.take del1 Ent.refl) (Ent.starE (l := [sl tyU (.slice (some ⟨b1, 0, none⟩) 3 3) (List.replicate 3 0)]) Ent.refl)) <| RJ_op rfl <| OJ_P (P_assign rfl) rfl <| RJ_nil <| QJ_then <| CJ_seq <| CJ_seq <| CJ_region <| RJ_op rfl <| OJ_P (P_move rfl) rfl ?_
 rcases opt_e h with ⟨ht8, h⟩ | ⟨o9, ht8, h⟩
 ·
  rw [ht8]
  refine RJ_ent (Ent.take del0 (Ent.take del0 (Ent.drop Ent.refl))) <| RJ_op rfl <| OJ_P (P_eqlNN rfl rfl Try.underlying29) rfl <| RJ_nil <| QJ_then <| CJ_condT rfl rfl <| CJ_seq <| CJ_region <| RJ_op rfl <| OJ_P (P_assign rfl) rfl <| RJ_nil <| QJ_then <| CJ_ret <| QJ_then_ret ?_
  have hE := Option.some.inj h
  subst hE
  refine QJ_end (res1 Try.results6 rfl) <| CSpec.close () ?_ ?_ (Ent.drop (Ent.drop Ent.refl))
  · rfl
  · trivial
 ·
  rw [ht8]
  refine RJ_ent (Ent.takeC (A' := Arr X6 o9) del2 rfl Ent.refl) <| RJ_op rfl <| OJ_P (P_eqlPN rfl rfl Try.underlying29) rfl <| RJ_nil <| QJ_then <| CJ_condF rfl rfl <| CJ_skip <| QJ_then <| CJ_seq <| CJ_region <| RJ_op rfl <| OJ_P (P_move rfl) rfl ?_
  obtain ⟨r10, hr11, h⟩ := bind_e h
  refine RJ_op rfl <| O_call (L_volumegroupmake_Spans hr11) rfl Try.call11 (Dels.cons del0 Dels.nil) rfl fun X12 _ => RJ_pure (fun h hh => Rs_len (stars_perm (del2 (A := Rs (DevP X6) r10 X12.2)).out h hh)) fun hdl15 => RJ_op rfl <| OJ_P (P_assign rfl) rfl <| RJ_nil <| QJ_then <| CJ_seq <| CJ_seq <| CJ_region <| RJ_op rfl <| OJ_P (P_move rfl) rfl <| RJ_op rfl <| OJ_V (VJ_eq (V_len rfl foc1 (Reads.sl _ _ _) Try.runUnderlying32) (congrArg (fun z : Nat => Value.int .i64 (z : Int)) (hdl15).symm)) rfl <| RJ_op rfl <| OJ_P (P_neq (a := ((r10.length : Nat) : Int)) (b := (1 : Int)) rfl rfl) rfl <| RJ_op rfl <| OJ_P (P_move rfl) rfl <| RJ_splitP 17 rfl bT_dec (fun hg1B hg1 => ?_) (fun hg1B hg1 => ?_)
  ·
   replace h := ite_t hg1 h
   refine RJ_gn (GY_no rfl rfl rfl hg1B) rfl rfl <| RJ_gn (GY_no rfl rfl rfl hg1B) rfl rfl <| RJ_gn (GY_no rfl rfl rfl hg1B) rfl rfl <| RJ_gn (GY_no rfl rfl rfl hg1B) rfl rfl <| RJ_gn (GY_no rfl rfl rfl hg1B) rfl rfl <| RJ_op rfl <| OJ_P (P_pickT rfl hg1B rfl) rfl <| RJ_nil <| QJ_then <| CJ_condT rfl rfl <| CJ_seq <| CJ_region <| RJ_op rfl <| OJ_P (P_assign rfl) rfl <| RJ_nil <| QJ_then <| CJ_ret <| QJ_then_ret ?_
   have hE := Option.some.inj h
   subst hE
   refine QJ_end (res1 Try.results6 rfl) <| CSpec.close () ?_ ?_ (Ent.drop (Ent.drop (Ent.drop (Ent.drop (Ent.drop Ent.refl)))))
   · rfl
   · trivial
  ·
   replace h := ite_f hg1 h
   refine RJ_gy (GY_yes rfl rfl rfl hg1B) <| OJ_P (P_move rfl) rfl <| RJ_gy (GY_yes rfl rfl rfl hg1B) <| OJ_V (V_index (i := 0) rfl rfl rfl (by have hz : 0 < r10.length := (by omega); have hy := hdl15; omega) foc1 (Reads.sl _ _ _) Try.runUnderlying32 Try.sizeOf38) rfl <| RJ_ent (Ent.trans (Ent.take del2 Ent.refl) (Rs_at (fun _ _ => Dup_DevP) (dx := dv0) (dh := tyDev.dflt) (i := 0) (by omega))) <| RJ_gy (GY_yes rfl rfl rfl hg1B) <| OJ_V (V_loadE rfl rfl (by have hz : 0 < r10.length := (by omega); have hy := hdl15; omega) foc3 (Reads.sl _ _ _) rfl rfl Try.isAgg38) rfl ?_
   obtain ⟨r17, hr18, h⟩ := bind_e h
   refine RJ_gy (GY_yes rfl rfl rfl hg1B) <| O_call (L_regionlog_Format hr18) rfl Try.call17 (Dels.cons del0 (Dels.cons del1 Dels.nil)) rfl fun _ _ => RJ_gy (GY_yes rfl rfl rfl hg1B) <| OJ_P (P_neq (a := r17.1) (b := (0 : Int)) rfl rfl) rfl <| RJ_op rfl <| OJ_P (P_pickF rfl hg1B rfl) rfl <| RJ_nil <| QJ_then <| CJ_condP rfl bT_dec (fun hg2 => ?_) (fun hg2 => ?_)
   ·
    replace h := ite_t hg2 h
    refine CJ_seq <| CJ_region <| RJ_op rfl <| OJ_P (P_assign rfl) rfl <| RJ_nil <| QJ_then <| CJ_ret <| QJ_then_ret ?_
    have hE := Option.some.inj h
    subst hE
    refine QJ_end (res1 Try.results6 rfl) <| CSpec.close () ?_ ?_ (Ent.drop (Ent.drop (Ent.drop (Ent.drop (Ent.drop (Ent.drop Ent.refl))))))
    · rfl
    · trivial
   ·
    replace h := ite_f hg2 h
    refine CJ_skip <| QJ_then <| CJ_seq <| CJ_region <| RJ_op rfl <| OJ_P (P_move rfl) rfl <| RJ_op rfl <| OJ_V (V_index (i := 0) rfl rfl rfl (by have hz : 0 < r10.length := (by omega); have hy := hdl15; omega) foc3 (Reads.sl _ _ _) Try.runUnderlying32 Try.sizeOf38) rfl <| RJ_ent (Ent.trans (Ent.take del2 Ent.refl) (Rs_at (fun _ _ => Dup_DevP) (dx := dv0) (dh := tyDev.dflt) (i := 0) (by omega))) <| RJ_op rfl <| OJ_V (V_loadE rfl rfl (by have hz : 0 < r10.length := (by omega); have hy := hdl15; omega) foc4 (Reads.sl _ _ _) rfl rfl Try.isAgg38) rfl ?_
    obtain ⟨r20, hr21, h⟩ := bind_e h
    refine RJ_op rfl <| O_call (L_regionlog_Open hr21) rfl Try.call12 (Dels.cons del0 (Dels.cons del2 Dels.nil)) rfl fun X22 _ => RJ_op rfl <| OJ_P (P_move rfl) rfl <| RJ_op rfl <| OJ_P (P_extract rfl rfl) rfl <| RJ_op rfl <| OJ_P (P_extract rfl rfl) rfl <| RJ_op rfl <| OJ_P (P_assign rfl) rfl <| RJ_op rfl <| OJ_P (P_assign rfl) rfl <| RJ_nil <| QJ_ent (Ent.take del1 (Ent.take del1 (Ent.take del1 (Ent.take del2 (Ent.drop (Ent.drop (Ent.drop (Ent.drop Ent.refl)))))))) <| QJ_then <| CJ_seq <| CJ_seq <| CJ_region <| RJ_op rfl <| OJ_P (P_move rfl) rfl <| RJ_op rfl <| OJ_P (P_neq (a := r20.2) (b := (0 : Int)) rfl rfl) rfl <| RJ_op rfl <| OJ_P (P_move rfl) rfl <| RJ_mbF rfl rfl rfl (fun hG24 => have hP25 : ¬ (r20.2 ≠ (0 : Int)) := nP (bT_dec) hG24; VJ_P (P_move rfl)) <| RJ_splitP 33 rfl bT_dec (fun hg3B hg3 => ?_) (fun hg3B hg3 => ?_)
    ·
     replace h := ite_t hg3 h
     refine RJ_gn (GY_no rfl rfl rfl hg3B) rfl rfl <| RJ_op rfl <| OJ_P (P_pickT rfl hg3B rfl) rfl <| RJ_op rfl <| OJ_P (P_move rfl) rfl <| RJ_gn (GY_no rfl rfl rfl rfl) rfl rfl <| RJ_gn (GY_no rfl rfl rfl rfl) rfl rfl <| RJ_gn (GY_no rfl rfl rfl rfl) rfl rfl <| RJ_op rfl <| OJ_P (P_pickT rfl rfl rfl) rfl <| RJ_nil <| QJ_then <| CJ_condT rfl rfl <| CJ_seq <| CJ_region <| RJ_op rfl <| OJ_P (P_assign rfl) rfl <| RJ_nil <| QJ_then <| CJ_ret <| QJ_then_ret ?_
     have hE := Option.some.inj h
     subst hE
     refine QJ_end (res1 Try.results6 rfl) <| CSpec.close () ?_ ?_ (Ent.drop (Ent.drop (Ent.drop (Ent.drop Ent.refl))))
     · rfl
     · trivial
    ·
     replace h := ite_f hg3 h
     rcases opt_e h with ⟨ht28, h⟩ | ⟨o29, ht28, h⟩
     ·
      rw [ht28]
      refine RJ_ent (Ent.take del0 (Ent.take del1 (Ent.take del1 (Ent.drop Ent.refl)))) <| RJ_gy (GY_yes rfl rfl rfl hg3B) <| OJ_P (P_eqlNN (mbx (not_f hg3B) rfl) rfl Try.underlying34) rfl <| RJ_op rfl <| OJ_P (P_pickF rfl hg3B rfl) rfl <| RJ_op rfl <| OJ_P (P_move rfl) rfl <| RJ_gn (GY_no rfl rfl rfl rfl) rfl rfl <| RJ_gn (GY_no rfl rfl rfl rfl) rfl rfl <| RJ_gn (GY_no rfl rfl rfl rfl) rfl rfl <| RJ_op rfl <| OJ_P (P_pickT rfl rfl rfl) rfl <| RJ_nil <| QJ_then <| CJ_condT rfl rfl <| CJ_seq <| CJ_region <| RJ_op rfl <| OJ_P (P_assign rfl) rfl <| RJ_nil <| QJ_then <| CJ_ret <| QJ_then_ret ?_
      have hE := Option.some.inj h
      subst hE
      refine QJ_end (res1 Try.results6 rfl) <| CSpec.close () ?_ ?_ (Ent.drop (Ent.drop (Ent.drop Ent.refl)))
      · rfl
      · trivial
     ·
      rw [ht28]
      refine RJ_ent (Ent.takeC (A' := LogP X6 X22 o29) del1 rfl Ent.refl) <| RJ_gy (GY_yes rfl rfl rfl hg3B) <| OJ_P (P_eqlPN (mbx (not_f hg3B) rfl) rfl Try.underlying34) rfl <| RJ_op rfl <| OJ_P (P_pickF rfl hg3B rfl) rfl <| RJ_op rfl <| OJ_P (P_move rfl) rfl <| RJ_gy (GY_yes rfl rfl rfl rfl) <| OJ_P (P_move rfl) rfl ?_
      obtain ⟨r30, hr31, h⟩ := bind_e h
      refine RJ_gy (GY_yes rfl rfl rfl rfl) <| O_call (L_regionlog_Log_Mark hr31) rfl Try.call19 (Dels.cons del0 (Dels.cons del0 Dels.nil)) rfl fun _ _ => RJ_gy (GY_yes rfl rfl rfl rfl) <| OJ_P (P_neq (a := r30.1) (b := (0 : Int)) rfl rfl) rfl <| RJ_op rfl <| OJ_P (P_pickF rfl rfl rfl) rfl <| RJ_nil <| QJ_then <| CJ_condP rfl bT_dec (fun hg4 => ?_) (fun hg4 => ?_)
      ·
       replace h := ite_t hg4 h
       refine CJ_seq <| CJ_region <| RJ_op rfl <| OJ_P (P_assign rfl) rfl <| RJ_nil <| QJ_then <| CJ_ret <| QJ_then_ret ?_
       have hE := Option.some.inj h
       subst hE
       refine QJ_end (res1 Try.results6 rfl) <| CSpec.close () ?_ ?_ (Ent.drop (Ent.drop (Ent.drop (Ent.drop Ent.refl))))
       · rfl
       · trivial
      ·
       replace h := ite_f hg4 h
       refine CJ_skip <| QJ_then <| CJ_seq <| CJ_region <| RJ_op rfl <| OJ_P (P_move rfl) rfl <| RJ_op rfl <| OJ_V (V_index (i := 0) rfl rfl rfl (by have hz : 0 < r10.length := (by omega); have hy := hdl15; omega) foc3 (Reads.sl _ _ _) Try.runUnderlying32 Try.sizeOf38) rfl <| RJ_ent (Ent.trans (Ent.take del2 Ent.refl) (Rs_at (fun _ _ => Dup_DevP) (dx := dv0) (dh := tyDev.dflt) (i := 0) (by omega))) <| RJ_op rfl <| OJ_V (V_loadE rfl rfl (by have hz : 0 < r10.length := (by omega); have hy := hdl15; omega) foc4 (Reads.sl _ _ _) rfl rfl Try.isAgg38) rfl ?_
       obtain ⟨r33, hr34, h⟩ := bind_e h
       refine RJ_op rfl <| O_call (L_regionlog_Open hr34) rfl Try.call12 (Dels.cons del0 (Dels.cons del2 Dels.nil)) rfl fun X35 _ => RJ_op rfl <| OJ_P (P_move rfl) rfl <| RJ_op rfl <| OJ_P (P_extract rfl rfl) rfl <| RJ_op rfl <| OJ_P (P_extract rfl rfl) rfl <| RJ_op rfl <| OJ_P (P_assign rfl) rfl <| RJ_op rfl <| OJ_P (P_assign rfl) rfl <| RJ_nil <| QJ_then <| CJ_seq <| CJ_region <| RJ_op rfl <| OJ_P (P_move rfl) rfl <| RJ_op rfl <| OJ_P (P_eql (a := r33.2) (b := (0 : Int)) rfl rfl) rfl <| RJ_op rfl <| OJ_P (P_move rfl) rfl <| RJ_mbT rfl rfl rfl (fun hG37 => have hP38 : (r33.2 = (0 : Int)) := (bT_dec).1 hG37; VJ_P (P_move rfl)) <| RJ_splitP 51 rfl bT_dec (fun hg5B hg5 => ?_) (fun hg5B hg5 => ?_)
       ·
        replace h := ite_t hg5 h
        rcases opt_e h with ⟨ht41, h⟩ | ⟨o42, ht41, h⟩
        ·
         rw [ht41]
         refine RJ_ent (Ent.take del0 (Ent.take del0 (Ent.take del1 (Ent.take del1 (Ent.take del1 (Ent.drop Ent.refl)))))) <| RJ_gy (GY_yes rfl rfl rfl hg5B) <| OJ_P (P_neqNN (mbx hg5B rfl) rfl Try.underlying34) rfl <| RJ_op rfl <| OJ_P (P_pickT rfl hg5B rfl) rfl <| RJ_op rfl <| OJ_P (P_move rfl) rfl <| RJ_gn (GY_no rfl rfl rfl rfl) rfl rfl <| RJ_gn (GY_no rfl rfl rfl rfl) rfl rfl <| RJ_op rfl <| OJ_P (P_pickF rfl rfl rfl) rfl <| RJ_op rfl <| OJ_P (P_move rfl) rfl <| RJ_gn (GY_no rfl rfl rfl rfl) rfl rfl <| RJ_gn (GY_no rfl rfl rfl rfl) rfl rfl <| RJ_gn (GY_no rfl rfl rfl rfl) rfl rfl <| RJ_op rfl <| OJ_P (P_pickF rfl rfl rfl) rfl <| RJ_op rfl <| OJ_P (P_move rfl) rfl <| RJ_gn (GY_no rfl rfl rfl rfl) rfl rfl <| RJ_gn (GY_no rfl rfl rfl rfl) rfl rfl <| RJ_op rfl <| OJ_P (P_pickF rfl rfl rfl) rfl <| RJ_op rfl <| OJ_P (P_move rfl) rfl <| RJ_gn (GY_no rfl rfl rfl rfl) rfl rfl <| RJ_gn (GY_no rfl rfl rfl rfl) rfl rfl <| RJ_op rfl <| OJ_P (P_pickF rfl rfl rfl) rfl <| RJ_op rfl <| OJ_P (P_assign rfl) rfl <| RJ_nil <| QJ_then <| CJ_ret ?_
         have hE := Option.some.inj h
         subst hE
         refine QJ_end (res1 Try.results6 rfl) <| CSpec.close () ?_ ?_ (Ent.drop (Ent.drop (Ent.drop (Ent.drop (Ent.drop Ent.refl)))))
         · rfl
         · trivial
        ·
         rw [ht41]
         refine RJ_ent (Ent.takeC (A' := LogP X6 X35 o42) del2 rfl Ent.refl) <| RJ_gy (GY_yes rfl rfl rfl hg5B) <| OJ_P (P_neqPN (mbx hg5B rfl) rfl Try.underlying34) rfl <| RJ_op rfl <| OJ_P (P_pickT rfl hg5B rfl) rfl <| RJ_op rfl <| OJ_P (P_move rfl) rfl <| RJ_gy (GY_yes rfl rfl rfl rfl) <| OJ_P (P_move rfl) rfl ?_
         obtain ⟨r43, hr44, h⟩ := bind_e h
         refine RJ_gy (GY_yes rfl rfl rfl rfl) <| O_call (L_regionlog_Log_IsDirty hr44) rfl Try.call16 (Dels.cons del0 (Dels.cons del1 Dels.nil)) rfl fun _ _ => RJ_op rfl <| OJ_P (P_pickT rfl rfl rfl) rfl <| RJ_op rfl <| OJ_P (P_move rfl) rfl <| RJ_splitP 59 rfl Iff.rfl (fun hg6B hg6 => ?_) (fun hg6B hg6 => ?_)
         ·
          replace h := ite_t hg6 h
          refine RJ_gy (GY_yes rfl rfl rfl hg6B) <| OJ_P (P_move rfl) rfl ?_
          obtain ⟨r45, hr46, h⟩ := bind_e h
          refine RJ_gy (GY_yes rfl rfl rfl hg6B) <| O_call (L_regionlog_Log_IsDirty hr46) rfl Try.call16 (Dels.cons del0 (Dels.cons del0 Dels.nil)) rfl fun _ _ => RJ_gy (GY_yes rfl rfl rfl hg6B) <| OJ_P (P_not rfl) rfl <| RJ_op rfl <| OJ_P (P_pickT rfl hg6B rfl) rfl <| RJ_op rfl <| OJ_P (P_move rfl) rfl <| RJ_splitP 64 rfl (bT_not Iff.rfl) (fun hg7B hg7 => ?_) (fun hg7B hg7 => ?_)
          ·
           replace h := ite_t hg7 h
           obtain ⟨r47, hr48, h⟩ := bind_e h
           refine RJ_gy (GY_yes rfl rfl rfl hg7B) <| O_call (L_regionlog_Words hr48) rfl Try.call10 Dels.nil rfl fun _ _ => RJ_gy (GY_yes rfl rfl rfl hg7B) <| OJ_P (P_eql (a := r47) (b := (2 : Int)) rfl rfl) rfl <| RJ_op rfl <| OJ_P (P_pickT rfl hg7B rfl) rfl <| RJ_op rfl <| OJ_P (P_move rfl) rfl <| RJ_splitP 68 rfl bT_dec (fun hg8B hg8 => ?_) (fun hg8B hg8 => ?_)
           ·
            replace h := ite_t hg8 h
            obtain ⟨r49, hr50, h⟩ := bind_e h
            refine RJ_gy (GY_yes rfl rfl rfl hg8B) <| O_call (L_regionlog_Words hr50) rfl Try.call10 Dels.nil rfl fun _ _ => RJ_gy (GY_yes rfl rfl rfl hg8B) <| OJ_P (P_eql (a := r49) (b := (3 : Int)) rfl rfl) rfl <| RJ_op rfl <| OJ_P (P_pickT rfl hg8B rfl) rfl <| RJ_op rfl <| OJ_P (P_assign rfl) rfl <| RJ_nil <| QJ_then <| CJ_ret ?_
            have hE := Option.some.inj h
            subst hE
            refine QJ_end (res1 Try.results6 rfl) <| CSpec.close () ?_ ?_ (Ent.drop (Ent.drop (Ent.drop (Ent.drop (Ent.drop (Ent.drop Ent.refl))))))
            · rfl
            · trivial
           ·
            replace h := ite_f hg8 h
            refine RJ_gn (GY_no rfl rfl rfl hg8B) rfl rfl <| RJ_gn (GY_no rfl rfl rfl hg8B) rfl rfl <| RJ_op rfl <| OJ_P (P_pickF rfl hg8B rfl) rfl <| RJ_op rfl <| OJ_P (P_assign rfl) rfl <| RJ_nil <| QJ_then <| CJ_ret ?_
            have hE := Option.some.inj h
            subst hE
            refine QJ_end (res1 Try.results6 rfl) <| CSpec.close () ?_ ?_ (Ent.drop (Ent.drop (Ent.drop (Ent.drop (Ent.drop (Ent.drop Ent.refl))))))
            · rfl
            · trivial
          ·
           replace h := ite_f hg7 h
           refine RJ_gn (GY_no rfl rfl rfl hg7B) rfl rfl <| RJ_gn (GY_no rfl rfl rfl hg7B) rfl rfl <| RJ_op rfl <| OJ_P (P_pickF rfl hg7B rfl) rfl <| RJ_op rfl <| OJ_P (P_move rfl) rfl <| RJ_gn (GY_no rfl rfl rfl rfl) rfl rfl <| RJ_gn (GY_no rfl rfl rfl rfl) rfl rfl <| RJ_op rfl <| OJ_P (P_pickF rfl rfl rfl) rfl <| RJ_op rfl <| OJ_P (P_assign rfl) rfl <| RJ_nil <| QJ_then <| CJ_ret ?_
           have hE := Option.some.inj h
           subst hE
           refine QJ_end (res1 Try.results6 rfl) <| CSpec.close () ?_ ?_ (Ent.drop (Ent.drop (Ent.drop (Ent.drop (Ent.drop (Ent.drop Ent.refl))))))
           · rfl
           · trivial
         ·
          replace h := ite_f hg6 h
          refine RJ_gn (GY_no rfl rfl rfl hg6B) rfl rfl <| RJ_gn (GY_no rfl rfl rfl hg6B) rfl rfl <| RJ_gn (GY_no rfl rfl rfl hg6B) rfl rfl <| RJ_op rfl <| OJ_P (P_pickF rfl hg6B rfl) rfl <| RJ_op rfl <| OJ_P (P_move rfl) rfl <| RJ_gn (GY_no rfl rfl rfl rfl) rfl rfl <| RJ_gn (GY_no rfl rfl rfl rfl) rfl rfl <| RJ_op rfl <| OJ_P (P_pickF rfl rfl rfl) rfl <| RJ_op rfl <| OJ_P (P_move rfl) rfl <| RJ_gn (GY_no rfl rfl rfl rfl) rfl rfl <| RJ_gn (GY_no rfl rfl rfl rfl) rfl rfl <| RJ_op rfl <| OJ_P (P_pickF rfl rfl rfl) rfl <| RJ_op rfl <| OJ_P (P_assign rfl) rfl <| RJ_nil <| QJ_then <| CJ_ret ?_
          have hE := Option.some.inj h
          subst hE
          refine QJ_end (res1 Try.results6 rfl) <| CSpec.close () ?_ ?_ (Ent.drop (Ent.drop (Ent.drop (Ent.drop (Ent.drop (Ent.drop Ent.refl))))))
          · rfl
          · trivial
       ·
        replace h := ite_f hg5 h
        refine RJ_gn (GY_no rfl rfl rfl hg5B) rfl rfl <| RJ_op rfl <| OJ_P (P_pickF rfl hg5B rfl) rfl <| RJ_op rfl <| OJ_P (P_move rfl) rfl <| RJ_gn (GY_no rfl rfl rfl rfl) rfl rfl <| RJ_gn (GY_no rfl rfl rfl rfl) rfl rfl <| RJ_op rfl <| OJ_P (P_pickF rfl rfl rfl) rfl <| RJ_op rfl <| OJ_P (P_move rfl) rfl <| RJ_gn (GY_no rfl rfl rfl rfl) rfl rfl <| RJ_gn (GY_no rfl rfl rfl rfl) rfl rfl <| RJ_gn (GY_no rfl rfl rfl rfl) rfl rfl <| RJ_op rfl <| OJ_P (P_pickF rfl rfl rfl) rfl <| RJ_op rfl <| OJ_P (P_move rfl) rfl <| RJ_gn (GY_no rfl rfl rfl rfl) rfl rfl <| RJ_gn (GY_no rfl rfl rfl rfl) rfl rfl <| RJ_op rfl <| OJ_P (P_pickF rfl rfl rfl) rfl <| RJ_op rfl <| OJ_P (P_move rfl) rfl <| RJ_gn (GY_no rfl rfl rfl rfl) rfl rfl <| RJ_gn (GY_no rfl rfl rfl rfl) rfl rfl <| RJ_op rfl <| OJ_P (P_pickF rfl rfl rfl) rfl <| RJ_op rfl <| OJ_P (P_assign rfl) rfl <| RJ_nil <| QJ_then <| CJ_ret ?_
        have hE := Option.some.inj h
        subst hE
        refine QJ_end (res1 Try.results6 rfl) <| CSpec.close () ?_ ?_ (Ent.drop (Ent.drop (Ent.drop (Ent.drop (Ent.drop (Ent.drop Ent.refl))))))
        · rfl
        · trivial

def volumegrouplaw20_RegionlogForms_l1_b (words : List UInt64) (regions : Int) (n_2 : UInt8) (rec : Nat → Option ((Unit) ⊕ Bool)) (x15 : Nat) : Option ((Unit) ⊕ Bool) :=
 lt (([regions, (((n_2.toNat : Nat) : Int) * (3 : Int)), ((64 : Int) * (((words.length : Nat) : Int) - (1 : Int))), (((64 : Int) * (((words.length : Nat) : Int) - (1 : Int))) + (1 : Int))]).length) fun w16 =>
  if (((x15 : Nat) : Int) < ((w16 : Nat) : Int)) then
  lt ((([regions, (((n_2.toNat : Nat) : Int) * (3 : Int)), ((64 : Int) * (((words.length : Nat) : Int) - (1 : Int))), (((64 : Int) * (((words.length : Nat) : Int) - (1 : Int))) + (1 : Int))]).getD x15 0)) fun w17 =>
  Option.bind (volumegroupref20_Words w17) fun r18 =>
  Option.bind ((
   if (r18 = (0 : Int)) then
    some 1
   else
    if (((words.length : Nat) : Int) < r18) then
     some 3
    else
     some 0 : Option (Nat))) fun a24 =>
  grd (inLen (0 + words.length)) <|
  Option.bind ((
   if (((((x15 % 2) : Nat) : Int) = (0 : Int)) ∧ ((0 : Int) < r18)) then
    Option.bind (volumegroupref20_Head w17) fun r39 =>
    grd (decide (0 < ([] ++ words).length)) <|
    some ((([] ++ words).set 0 r39))
   else
    some ([] ++ words) : Option ((List UInt64)))) fun a38 =>
  Option.bind (volumegroupmake_Loaded (([a38] : List (List UInt64)))) fun r44 =>
  Option.elim r44 (
   some (.inr false)) fun o49 =>
  Option.bind (regionlog_Words w17) fun r50 =>
  if (r50 ≠ r18) then
   some (.inr false)
  else
   Option.bind (volumegroupmake_Spans o49) fun r52 =>
   if (((r52.length : Nat) : Int) ≠ (1 : Int)) then
    some (.inr false)
   else
    Option.bind (regionlog_Open (r52.getD 0 dv0) w17 o49) fun r59 =>
    if (((a24 : Nat) : Int) = (0 : Int)) then
     grd (decide (0 < a38.length)) <|
     Option.bind (volumegroupref20_Head w17) fun r63 =>
     Option.bind ((
      if ((a38.getD 0 0) ≠ r63) then
       some 2
      else
       some a24 : Option (Nat))) fun a69 =>
     if (r59.2 ≠ ((a69 : Nat) : Int)) then
      some (.inr false)
     else
      Option.elim r59.1 (
       if (¬ (true = true ↔ (r59.2 ≠ (0 : Int)))) then
        some (.inr false)
       else
        if (r59.2 = (0 : Int)) then
         grd (decide (1 ≤ a38.length ∧ a38.length ≤ a38.length)) <|
         none
        else
         Option.bind (regionlog_Format (r52.getD 0 dv0) w17 o49) fun r78 =>
         if (r78.1 ≠ ((a24 : Nat) : Int)) then
          some (.inr false)
         else
          if (((r78.2.log.length : Nat) : Int) ≠ (0 : Int)) then
           some (.inr false)
          else
           Option.bind (regionlog_Open (r52.getD 0 dv0) w17 r78.2) fun r81 =>
           if (((a24 : Nat) : Int) = (0 : Int)) then
            if (r81.2 ≠ (0 : Int)) then
             some (.inr false)
            else
             Option.elim r81.1 (
              some (.inr false)) fun o90 =>
             Option.bind (regionlog_Log_Dirty o90 r78.2) fun r91 =>
             if (((r91.length : Nat) : Int) ≠ (0 : Int)) then
              some (.inr false)
             else
              grd (inN64 (x15 + 1)) <|
              rec (x15 + 1)
           else
            grd (inN64 (x15 + 1)) <|
            rec (x15 + 1)) fun o76 =>
      if (¬ (false = true ↔ (r59.2 ≠ (0 : Int)))) then
       some (.inr false)
      else
       if (r59.2 = (0 : Int)) then
        grd (decide (1 ≤ a38.length ∧ a38.length ≤ a38.length)) <|
        Option.bind (regionlog_Log_Dirty o76 o49) fun r95 =>
        Option.bind (volumegroupref20_Dirty (((a38.take a38.length).drop 1)) w17) fun r99 =>
        Option.bind (volumegroupref20_Same r95 r99) fun r103 =>
        if (¬ r103 = true) then
         if true = true then
          some (.inr false)
         else
          Option.bind (regionlog_Log_IsDirty o76 w17 o49) fun r105 =>
          if r105 = true then
           some (.inr false)
          else
           Option.bind (regionlog_Format (r52.getD 0 dv0) w17 o49) fun r108 =>
           if (r108.1 ≠ ((a24 : Nat) : Int)) then
            some (.inr false)
           else
            if (((r108.2.log.length : Nat) : Int) ≠ (0 : Int)) then
             some (.inr false)
            else
             Option.bind (regionlog_Open (r52.getD 0 dv0) w17 r108.2) fun r111 =>
             if (((a24 : Nat) : Int) = (0 : Int)) then
              if (r111.2 ≠ (0 : Int)) then
               some (.inr false)
              else
               Option.elim r111.1 (
                some (.inr false)) fun o120 =>
               Option.bind (regionlog_Log_Dirty o120 r108.2) fun r121 =>
               if (((r121.length : Nat) : Int) ≠ (0 : Int)) then
                some (.inr false)
               else
                grd (inN64 (x15 + 1)) <|
                rec (x15 + 1)
             else
              grd (inN64 (x15 + 1)) <|
              rec (x15 + 1)
        else
         Option.bind (regionlog_Log_IsDirty o76 (-1 : Int) o49) fun r125 =>
         if r125 = true then
          some (.inr false)
         else
          Option.bind (regionlog_Log_IsDirty o76 w17 o49) fun r127 =>
          if r127 = true then
           some (.inr false)
          else
           Option.bind (regionlog_Format (r52.getD 0 dv0) w17 o49) fun r130 =>
           if (r130.1 ≠ ((a24 : Nat) : Int)) then
            some (.inr false)
           else
            if (((r130.2.log.length : Nat) : Int) ≠ (0 : Int)) then
             some (.inr false)
            else
             Option.bind (regionlog_Open (r52.getD 0 dv0) w17 r130.2) fun r133 =>
             if (((a24 : Nat) : Int) = (0 : Int)) then
              if (r133.2 ≠ (0 : Int)) then
               some (.inr false)
              else
               Option.elim r133.1 (
                some (.inr false)) fun o142 =>
               Option.bind (regionlog_Log_Dirty o142 r130.2) fun r143 =>
               if (((r143.length : Nat) : Int) ≠ (0 : Int)) then
                some (.inr false)
               else
                grd (inN64 (x15 + 1)) <|
                rec (x15 + 1)
             else
              grd (inN64 (x15 + 1)) <|
              rec (x15 + 1)
       else
        Option.bind (regionlog_Format (r52.getD 0 dv0) w17 o49) fun r148 =>
        if (r148.1 ≠ ((a24 : Nat) : Int)) then
         some (.inr false)
        else
         if (((r148.2.log.length : Nat) : Int) ≠ (0 : Int)) then
          some (.inr false)
         else
          Option.bind (regionlog_Open (r52.getD 0 dv0) w17 r148.2) fun r151 =>
          if (((a24 : Nat) : Int) = (0 : Int)) then
           if (r151.2 ≠ (0 : Int)) then
            some (.inr false)
           else
            Option.elim r151.1 (
             some (.inr false)) fun o160 =>
            Option.bind (regionlog_Log_Dirty o160 r148.2) fun r161 =>
            if (((r161.length : Nat) : Int) ≠ (0 : Int)) then
             some (.inr false)
            else
             grd (inN64 (x15 + 1)) <|
             rec (x15 + 1)
          else
           grd (inN64 (x15 + 1)) <|
           rec (x15 + 1)
    else
     if (r59.2 ≠ ((a24 : Nat) : Int)) then
      some (.inr false)
     else
      Option.elim r59.1 (
       if (¬ (true = true ↔ (r59.2 ≠ (0 : Int)))) then
        some (.inr false)
       else
        if (r59.2 = (0 : Int)) then
         grd (decide (1 ≤ a38.length ∧ a38.length ≤ a38.length)) <|
         none
        else
         Option.bind (regionlog_Format (r52.getD 0 dv0) w17 o49) fun r172 =>
         if (r172.1 ≠ ((a24 : Nat) : Int)) then
          some (.inr false)
         else
          if (((r172.2.log.length : Nat) : Int) ≠ (0 : Int)) then
           some (.inr false)
          else
           Option.bind (regionlog_Open (r52.getD 0 dv0) w17 r172.2) fun r175 =>
           if (((a24 : Nat) : Int) = (0 : Int)) then
            if (r175.2 ≠ (0 : Int)) then
             some (.inr false)
            else
             Option.elim r175.1 (
              some (.inr false)) fun o184 =>
             Option.bind (regionlog_Log_Dirty o184 r172.2) fun r185 =>
             if (((r185.length : Nat) : Int) ≠ (0 : Int)) then
              some (.inr false)
             else
              grd (inN64 (x15 + 1)) <|
              rec (x15 + 1)
           else
            grd (inN64 (x15 + 1)) <|
            rec (x15 + 1)) fun o170 =>
      if (¬ (false = true ↔ (r59.2 ≠ (0 : Int)))) then
       some (.inr false)
      else
       if (r59.2 = (0 : Int)) then
        grd (decide (1 ≤ a38.length ∧ a38.length ≤ a38.length)) <|
        Option.bind (regionlog_Log_Dirty o170 o49) fun r189 =>
        Option.bind (volumegroupref20_Dirty (((a38.take a38.length).drop 1)) w17) fun r193 =>
        Option.bind (volumegroupref20_Same r189 r193) fun r197 =>
        if (¬ r197 = true) then
         if true = true then
          some (.inr false)
         else
          Option.bind (regionlog_Log_IsDirty o170 w17 o49) fun r199 =>
          if r199 = true then
           some (.inr false)
          else
           Option.bind (regionlog_Format (r52.getD 0 dv0) w17 o49) fun r202 =>
           if (r202.1 ≠ ((a24 : Nat) : Int)) then
            some (.inr false)
           else
            if (((r202.2.log.length : Nat) : Int) ≠ (0 : Int)) then
             some (.inr false)
            else
             Option.bind (regionlog_Open (r52.getD 0 dv0) w17 r202.2) fun r205 =>
             if (((a24 : Nat) : Int) = (0 : Int)) then
              if (r205.2 ≠ (0 : Int)) then
               some (.inr false)
              else
               Option.elim r205.1 (
                some (.inr false)) fun o214 =>
               Option.bind (regionlog_Log_Dirty o214 r202.2) fun r215 =>
               if (((r215.length : Nat) : Int) ≠ (0 : Int)) then
                some (.inr false)
               else
                grd (inN64 (x15 + 1)) <|
                rec (x15 + 1)
             else
              grd (inN64 (x15 + 1)) <|
              rec (x15 + 1)
        else
         Option.bind (regionlog_Log_IsDirty o170 (-1 : Int) o49) fun r219 =>
         if r219 = true then
          some (.inr false)
         else
          Option.bind (regionlog_Log_IsDirty o170 w17 o49) fun r221 =>
          if r221 = true then
           some (.inr false)
          else
           Option.bind (regionlog_Format (r52.getD 0 dv0) w17 o49) fun r224 =>
           if (r224.1 ≠ ((a24 : Nat) : Int)) then
            some (.inr false)
           else
            if (((r224.2.log.length : Nat) : Int) ≠ (0 : Int)) then
             some (.inr false)
            else
             Option.bind (regionlog_Open (r52.getD 0 dv0) w17 r224.2) fun r227 =>
             if (((a24 : Nat) : Int) = (0 : Int)) then
              if (r227.2 ≠ (0 : Int)) then
               some (.inr false)
              else
               Option.elim r227.1 (
                some (.inr false)) fun o236 =>
               Option.bind (regionlog_Log_Dirty o236 r224.2) fun r237 =>
               if (((r237.length : Nat) : Int) ≠ (0 : Int)) then
                some (.inr false)
               else
                grd (inN64 (x15 + 1)) <|
                rec (x15 + 1)
             else
              grd (inN64 (x15 + 1)) <|
              rec (x15 + 1)
       else
        Option.bind (regionlog_Format (r52.getD 0 dv0) w17 o49) fun r242 =>
        if (r242.1 ≠ ((a24 : Nat) : Int)) then
         some (.inr false)
        else
         if (((r242.2.log.length : Nat) : Int) ≠ (0 : Int)) then
          some (.inr false)
         else
          Option.bind (regionlog_Open (r52.getD 0 dv0) w17 r242.2) fun r245 =>
          if (((a24 : Nat) : Int) = (0 : Int)) then
           if (r245.2 ≠ (0 : Int)) then
            some (.inr false)
           else
            Option.elim r245.1 (
             some (.inr false)) fun o254 =>
            Option.bind (regionlog_Log_Dirty o254 r242.2) fun r255 =>
            if (((r255.length : Nat) : Int) ≠ (0 : Int)) then
             some (.inr false)
            else
             grd (inN64 (x15 + 1)) <|
             rec (x15 + 1)
          else
           grd (inN64 (x15 + 1)) <|
           rec (x15 + 1)
 else
  some (.inl ())

def volumegrouplaw20_RegionlogForms_l1 (words : List UInt64) (regions : Int) (n_2 : UInt8) : Nat → Nat → Option ((Unit) ⊕ Bool)
 | 0, _ => none
 | n + 1, x15 => volumegrouplaw20_RegionlogForms_l1_b words regions n_2 (volumegrouplaw20_RegionlogForms_l1 words regions n_2 n) x15

def volumegrouplaw20_RegionlogForms (words : List UInt64) (regions : Int) (n_2 : UInt8) : Option (Bool) :=
  if ((((words.length : Nat) : Int) = (0 : Int)) ∨ ((12 : Int) < ((words.length : Nat) : Int))) then
  Option.bind (volumegrouplaw20_awake) fun r8 =>
  some r8
 else
  grd (inI64 ((((n_2.toNat : Nat) : Int) * (3 : Int)))) <|
  seqO (volumegrouplaw20_RegionlogForms_l1 words regions n_2 FUEL 0) fun a14 =>
  Option.bind (volumegrouplaw20_awake) fun r260 =>
  some r260

theorem L_volumegrouplaw20_RegionlogForms {W : World} {Awords : HP} {vwords : Value} {words : List UInt64} {regions : Int} {n_2 : UInt8} {r : Bool} (rwords : Reads Awords tyU vwords words) (h : volumegrouplaw20_RegionlogForms words regions n_2 = some r) :
  CSpec Try.prog W 3 [vwords, .int .i64 regions, .int .u8 (n_2.toNat : Int)] [Awords] (fun x : Unit => .bool r) (fun _ => True) (fun x F => Awords :: F) := by
 refine CSpec.of_body Try.func3 rfl Try.ntmps3 rfl fun F => ?_
 show CJ _ _ _ _ _ _ (_ :: F)
 unfold volumegrouplaw20_RegionlogForms at h
 refine CJ_pure (len_of rwords del0) fun hlen1 => CJ_seq <| CJ_region <| RJ_op rfl <| OJ_P (P_assign rfl) rfl <| RJ_nil <| QJ_then <| CJ_seq <| CJ_seq <| CJ_region <| RJ_op rfl <| OJ_P (P_move rfl) rfl <| RJ_op rfl <| OJ_V (V_len rfl foc0 rwords Try.runUnderlying22) rfl <| RJ_op rfl <| OJ_P (P_eql (a := ((words.length : Nat) : Int)) (b := (0 : Int)) rfl rfl) rfl <| RJ_op rfl <| OJ_P (P_move rfl) rfl <| RJ_mbF rfl rfl rfl (fun hG2 => have hP3 : ¬ (((words.length : Nat) : Int) = (0 : Int)) := nP (bT_dec) hG2; VJ_P (P_move rfl)) <| RJ_mbF rfl rfl rfl (fun hG4 => have hP5 : ¬ (((words.length : Nat) : Int) = (0 : Int)) := nP (bT_dec) hG4; V_len (mbx hG4 rfl) foc0 rwords Try.runUnderlying22) <| RJ_mbF rfl rfl rfl (fun hG6 => have hP7 : ¬ (((words.length : Nat) : Int) = (0 : Int)) := nP (bT_dec) hG6; VJ_P (P_gtr (a := ((words.length : Nat) : Int)) (b := (12 : Int)) (mbx hG6 rfl) rfl)) <| RJ_op rfl <| OJ_P (P_pickOr rfl rfl (fun hh => mbx (not_f hh) rfl)) rfl <| RJ_nil <| QJ_then <| CJ_condP rfl (bT_or bT_dec bT_dec) (fun hg1 => ?_) (fun hg1 => ?_)
 ·
  replace h := ite_t hg1 h
  refine CJ_seq <| CJ_region ?_
  obtain ⟨r8, hr9, h⟩ := bind_e h
  refine RJ_op rfl <| O_call (L_volumegrouplaw20_awake hr9) rfl Try.call6 Dels.nil rfl fun _ _ => RJ_op rfl <| OJ_P (P_assign rfl) rfl <| RJ_nil <| QJ_then <| CJ_ret <| QJ_then_ret ?_
  have hE := Option.some.inj h
  subst hE
  refine QJ_end (res1 Try.results3 rfl) <| CSpec.close () ?_ ?_ Ent.refl
  · rfl
  · trivial
 ·
  replace h := ite_f hg1 h
  refine CJ_skip <| QJ_then <| CJ_seq <| CJ_region <| RJ_op rfl <| OJ_P (P_move rfl) rfl <| RJ_op rfl <| OJ_P (P_move rfl) rfl <| RJ_op rfl <| OJ_P (P_convSame rfl Try.runUnderlying5 Try.runUnderlying3 (wrap64_u _ (by have := n_2.toNat_lt; omega))) rfl ?_
  obtain ⟨hg2, h⟩ := grd_Ie h
  refine RJ_op rfl <| OJ_P (P_mul (a := ((n_2.toNat : Nat) : Int)) (b := (3 : Int)) rfl rfl hg2) rfl <| RJ_op rfl <| OJ_P (P_move rfl) rfl <| RJ_op rfl <| OJ_V (V_len rfl foc0 rwords Try.runUnderlying22) rfl <| RJ_op rfl <| OJ_P (P_sub (a := ((words.length : Nat) : Int)) (b := (1 : Int)) rfl rfl (by omega)) rfl <| RJ_op rfl <| OJ_P (P_mul (a := (64 : Int)) (b := (((words.length : Nat) : Int) - (1 : Int))) rfl rfl (by omega)) rfl <| RJ_op rfl <| OJ_P (P_move rfl) rfl <| RJ_op rfl <| OJ_V (V_len rfl foc0 rwords Try.runUnderlying22) rfl <| RJ_op rfl <| OJ_P (P_sub (a := ((words.length : Nat) : Int)) (b := (1 : Int)) rfl rfl (by omega)) rfl <| RJ_op rfl <| OJ_P (P_mul (a := (64 : Int)) (b := (((words.length : Nat) : Int) - (1 : Int))) rfl rfl (by omega)) rfl <| RJ_op rfl <| OJ_P (P_add (a := ((64 : Int) * (((words.length : Nat) : Int) - (1 : Int)))) (b := (1 : Int)) rfl rfl (by omega)) rfl <| RJ_op rfl <| O_buildSlice rfl (bs_24_4_0_1_2_3 _ _ _ _) rfl fun b10 => RJ_ent (Ent.trans (Ent.take del0 Ent.refl) (sl_of_lit (t := tyI) (m := 4) [regions, (((n_2.toNat : Nat) : Int) * (3 : Int)), ((64 : Int) * (((words.length : Nat) : Int) - (1 : Int))), (((64 : Int) * (((words.length : Nat) : Int) - (1 : Int))) + (1 : Int))] rfl rfl rfl (by decide))) <| RJ_op rfl <| OJ_P (P_assign rfl) rfl <| RJ_nil <| QJ_then <| CJ_seq <| CJ_seq <| CJ_region <| RJ_op rfl <| OJ_P (P_assign rfl) rfl <| RJ_nil <| QJ_then ?_
  obtain ⟨y13, hl11, hK12⟩ := seq_e h
  refine CJ_cutT (X := Unit) [6, 8, 9, 10, 11, 12, 13, 14, 15, 16, 17, 18, 19, 43, 44, 45, 46, 47, 48, 49, 50, 51, 52, 53, 54, 55, 56, 57, 58, 59, 60, 61, 62, 63, 64, 65, 66, 67, 68, 69, 70, 71, 72, 73, 74, 75, 76, 77, 78, 79, 80, 81, 82, 83, 84, 85, 86, 87, 88, 89, 90, 91, 92, 93, 94, 95, 96, 97, 98, 99, 100, 101, 102, 103, 104, 105, 106, 107, 108, 109, 110, 111, 112, 113, 114, 115, 116, 117, 118, 119, 120, 121, 122, 123, 124, 125, 126, 127, 128, 129, 130, 131, 132, 133, 134, 135, 136, 137, 138, 139, 140, 141, 142, 143, 144, 145, 146, 147, 148, 149, 150, 151, 152, 153, 154, 155, 156, 157, 158, 159, 160, 161, 162, 163, 164, 165, 166, 167, 168, 169, 170, 171, 172, 173, 174, 175] (fun _ => ([] : Slots)) (fun _ R => R) (fun _ => y13 = .inl ()) Dels.nil ?_ ?_
  ·
   refine CJ_block <| CJ_loopR (X := Nat × Nat) [6, 8, 9, 10, 11, 12, 13, 14, 15, 16, 17, 18, 19, 43, 44, 45, 46, 47, 48, 49, 50, 51, 52, 53, 54, 55, 56, 57, 58, 59, 60, 61, 62, 63, 64, 65, 66, 67, 68, 69, 70, 71, 72, 73, 74, 75, 76, 77, 78, 79, 80, 81, 82, 83, 84, 85, 86, 87, 88, 89, 90, 91, 92, 93, 94, 95, 96, 97, 98, 99, 100, 101, 102, 103, 104, 105, 106, 107, 108, 109, 110, 111, 112, 113, 114, 115, 116, 117, 118, 119, 120, 121, 122, 123, 124, 125, 126, 127, 128, 129, 130, 131, 132, 133, 134, 135, 136, 137, 138, 139, 140, 141, 142, 143, 144, 145, 146, 147, 148, 149, 150, 151, 152, 153, 154, 155, 156, 157, 158, 159, 160, 161, 162, 163, 164, 165, 166, 167, 168, 169, 170, 171, 172, 173, 174, 175] (fun ⟨n, x15⟩ => ([(8, .int .i64 (((x15 : Nat) : Int)))] : Slots)) (fun ⟨n, x15⟩ R => R) (fun ⟨n, x15⟩ => volumegrouplaw20_RegionlogForms_l1 words regions n_2 n x15 = some y13) (fun ⟨n, x15⟩ => n) ⟨FUEL, 0⟩ ?_ ?_ Ent.refl ?_
   · exact hl11
   · exact ⟨rfl, True.intro⟩
   ·
    rintro ⟨n, x15⟩ h
    cases n with
    | zero => exact none_e h
    | succ n => ?_
    replace h : volumegrouplaw20_RegionlogForms_l1_b words regions n_2 (volumegrouplaw20_RegionlogForms_l1 words regions n_2 n) x15 = some y13 := h
    unfold volumegrouplaw20_RegionlogForms_l1_b at h
    show CJ _ _ _ _ _ (([(8, .int .i64 (((x15 : Nat) : Int)))] : Slots) ++ forget _ _) (_)
    refine CJ_seq <| CJ_seq <| CJ_region <| RJ_op rfl <| OJ_P (P_move rfl) rfl <| RJ_op rfl <| OJ_P (P_move rfl) rfl <| RJ_op rfl <| OJ_V (V_len rfl foc0 (Reads.sl _ _ _) Try.runUnderlying24) rfl ?_
    obtain ⟨w16, hw16, h⟩ := lt_e h
    rw [← hw16]
    refine RJ_op rfl <| OJ_P (P_lss (a := ((x15 : Nat) : Int)) (b := ((w16 : Nat) : Int)) rfl rfl) rfl <| RJ_nil <| QJ_then <| CJ_condP rfl bT_dec (fun hg3 => ?_) (fun hg3 => ?_)
    ·
     replace h := ite_t hg3 h
     refine CJ_skip <| QJ_then <| CJ_seq <| CJ_block <| CJ_seq <| CJ_region <| RJ_op rfl <| OJ_P (P_move rfl) rfl <| RJ_op rfl <| OJ_P (P_move rfl) rfl <| RJ_op rfl <| OJ_V (V_index (i := x15) rfl rfl rfl (by omega) foc0 (Reads.sl _ _ _) Try.runUnderlying24 Try.sizeOf3) rfl <| RJ_op rfl <| OJ_V (V_loadE rfl rfl (by omega) foc0 (Reads.sl _ _ _) rfl rfl Try.isAgg3) rfl ?_
     obtain ⟨w17, hw17, h⟩ := lt_e h
     rw [← hw17]
     refine RJ_op rfl <| OJ_P (P_assign rfl) rfl <| RJ_nil <| QJ_then <| CJ_seq <| CJ_region <| RJ_op rfl <| OJ_P (P_move rfl) rfl ?_
     obtain ⟨r18, hr19, h⟩ := bind_e h
     refine RJ_op rfl <| O_call (L_volumegroupref20_Words hr19) rfl Try.call7 Dels.nil rfl fun _ _ => RJ_op rfl <| OJ_P (P_assign rfl) rfl <| RJ_nil <| QJ_then <| CJ_seq <| CJ_region <| RJ_op rfl <| OJ_P (P_assign rfl) rfl <| RJ_nil <| QJ_then <| CJ_seq <| CJ_seq <| CJ_region <| RJ_op rfl <| OJ_P (P_move rfl) rfl <| RJ_op rfl <| OJ_P (P_eql (a := r18) (b := (0 : Int)) rfl rfl) rfl <| RJ_nil <| QJ_then ?_
     obtain ⟨y22, hl20, hK21⟩ := bind_c h
     refine CJ_cutT (X := Nat) [11, 57, 58, 59, 60] (fun a24 => ([(11, .int .i64 (((a24 : Nat) : Int)))] : Slots)) (fun a24 R => R) (fun a24 => y22 = a24) Dels.nil ?_ ?_
     ·
      have h := hl20
      refine CJ_condP rfl bT_dec (fun hg4 => ?_) (fun hg4 => ?_)
      ·
       replace h := ite_t hg4 h
       refine CJ_region <| RJ_op rfl <| OJ_P (P_assign rfl) rfl <| RJ_nil <| QJ_cutR 1 ?_ (by repeat (first | exact Kp.base | exact Kp.self | refine Kp.cons rfl ?_ | refine Kp.forget rfl ?_)) ?_ Ent.refl
       · exact (Option.some.inj h).symm
       · exact ⟨rfl, True.intro⟩
      ·
       replace h := ite_f hg4 h
       refine CJ_seq <| CJ_region <| RJ_op rfl <| OJ_P (P_move rfl) rfl <| RJ_op rfl <| OJ_V (V_len rfl foc1 rwords Try.runUnderlying22) rfl <| RJ_op rfl <| OJ_P (P_move rfl) rfl <| RJ_op rfl <| OJ_P (P_lss (a := ((words.length : Nat) : Int)) (b := r18) rfl rfl) rfl <| RJ_nil <| QJ_then <| CJ_condP rfl bT_dec (fun hg5 => ?_) (fun hg5 => ?_)
       ·
        replace h := ite_t hg5 h
        refine CJ_region <| RJ_op rfl <| OJ_P (P_assign rfl) rfl <| RJ_nil <| QJ_cutR 3 ?_ (by repeat (first | exact Kp.base | exact Kp.self | refine Kp.cons rfl ?_ | refine Kp.forget rfl ?_)) ?_ Ent.refl
        · exact (Option.some.inj h).symm
        · exact ⟨rfl, True.intro⟩
       ·
        replace h := ite_f hg5 h
        refine CJ_skip <| QJ_cutR 0 ?_ (by repeat (first | exact Kp.base | exact Kp.self | refine Kp.cons rfl ?_ | refine Kp.forget rfl ?_)) ?_ Ent.refl
        · exact (Option.some.inj h).symm
        · exact ⟨rfl, True.intro⟩
     ·
      rintro a24 hy25
      replace h := bindK_at hK21 hy25
      show CJ _ _ _ _ _ (([(11, .int .i64 (((a24 : Nat) : Int)))] : Slots) ++ forget _ _) (_)
      refine CJ_seq <| CJ_region <| RJ_op rfl <| OJ_P (P_move rfl) rfl ?_
      obtain ⟨hg6, h⟩ := grd_Le h
      refine RJ_ent (fun h hh => sl_nil (t := tyU) h hh) <| RJ_op rfl <| O_append (t := tyU) (bytes := 8) rfl rfl del0 foc1 rwords Try.underlying22 ok_tyU (apl (m := words.length) (b := 8) hg6 (by decide)).1 (apl (m := words.length) (b := 8) hg6 (by decide)).2 rfl fun p28 c29 => RJ_op rfl <| OJ_P (P_assign rfl) rfl <| RJ_nil <| QJ_then <| CJ_seq <| CJ_seq <| CJ_region <| RJ_op rfl <| OJ_P (P_move rfl) rfl <| RJ_op rfl <| OJ_P (PJ_eq (P_rem (a := ((x15 : Nat) : Int)) (b := (2 : Int)) rfl rfl (by omega)) rfl) rfl <| RJ_op rfl <| OJ_P (P_eql (a := (((x15 % 2) : Nat) : Int)) (b := (0 : Int)) rfl rfl) rfl <| RJ_op rfl <| OJ_P (P_move rfl) rfl <| RJ_mbT rfl rfl rfl (fun hG30 => have hP31 : ((((x15 % 2) : Nat) : Int) = (0 : Int)) := (bT_dec).1 hG30; VJ_P (P_move rfl)) <| RJ_mbT rfl rfl rfl (fun hG32 => have hP33 : ((((x15 % 2) : Nat) : Int) = (0 : Int)) := (bT_dec).1 hG32; VJ_P (P_gtr (a := r18) (b := (0 : Int)) (mbx hG32 rfl) rfl)) <| RJ_op rfl <| OJ_P (P_pickAnd rfl (fun hh => mbx hh rfl) rfl) rfl <| RJ_nil <| QJ_then ?_
      obtain ⟨y36, hl34, hK35⟩ := bind_c h
      refine CJ_cutT (X := (List UInt64)) [70, 71, 72, 73] (fun a38 => ([] : Slots)) (fun a38 R => sl tyU (.slice p28 ([] ++ words).length c29) a38 :: R) (fun a38 => y36 = a38) (Dels.cons del0 Dels.nil) ?_ ?_
      ·
       have h := hl34
       refine CJ_condP rfl (bT_and bT_dec bT_dec) (fun hg7 => ?_) (fun hg7 => ?_)
       ·
        replace h := ite_t hg7 h
        refine CJ_region <| RJ_op rfl <| OJ_P (P_move rfl) rfl <| RJ_op rfl <| OJ_P (P_move rfl) rfl ?_
        obtain ⟨r39, hr40, h⟩ := bind_e h
        refine RJ_op rfl <| O_call (L_volumegroupref20_Head hr40) rfl Try.call8 Dels.nil rfl fun _ _ => ?_
        obtain ⟨hg8, h⟩ := grd_de h
        refine RJ_op rfl <| OJ_V (V_index (i := 0) rfl rfl rfl hg8 foc0 (Reads.sl _ _ _) Try.runUnderlying22 Try.sizeOf27) rfl <| RJ_op rfl <| O_storeE (x' := r39) rfl rfl rfl hg8 foc0 rfl rfl rfl Try.sizeOf27 <| RJ_nil <| QJ_cutR (([] ++ words).set 0 r39) ?_ (by repeat (first | exact Kp.base | exact Kp.self | refine Kp.cons rfl ?_ | refine Kp.forget rfl ?_)) ?_ Ent.refl
        · exact (Option.some.inj h).symm
        · exact True.intro
       ·
        replace h := ite_f hg7 h
        refine CJ_skip <| QJ_cutR ([] ++ words) ?_ (by repeat (first | exact Kp.base | exact Kp.self | refine Kp.cons rfl ?_ | refine Kp.forget rfl ?_)) ?_ Ent.refl
        · exact (Option.some.inj h).symm
        · exact True.intro
      ·
       rintro a38 hy41
       replace h := bindK_at hK35 hy41
       show CJ _ _ _ _ _ (([] : Slots) ++ forget _ _) (sl tyU (.slice p28 ([] ++ words).length c29) a38 :: _)
       refine CJ_seq <| CJ_region <| RJ_op rfl <| OJ_P (P_move rfl) rfl <| RJ_op rfl <| O_buildSlice rfl (bs_31_1_0 _ _ _) rfl fun b42 => RJ_ent (Ent.trans (Ent.take del0 Ent.refl) (sl_of_lit (t := tyRow) (m := 1) [(⟨p28, ([] ++ words).length, c29⟩ : Sl3)] rfl rfl rfl (by decide))) <| RJ_ent (Ent.starI (l := [sl tyU (.slice p28 ([] ++ words).length c29) a38]) (Ent.take del1 Ent.refl)) ?_
       obtain ⟨r44, hr45, h⟩ := bind_e h
       refine RJ_op rfl <| O_call (L_volumegroupmake_Loaded (Reads.sl _ _ _) (RowsR.cons (Reads.sl _ _ _) RowsR.nil) hr45) rfl Try.call9 (Dels.cons del1 (Dels.cons del0 Dels.nil)) rfl fun X46 _ => RJ_ent (Ent.trans (Ent.take del1 Ent.refl) (Ent.starE (l := [sl tyU (.slice p28 ([] ++ words).length c29) a38]) Ent.refl)) <| RJ_op rfl <| OJ_P (P_assign rfl) rfl <| RJ_nil <| QJ_then <| CJ_seq <| CJ_seq <| CJ_region <| RJ_op rfl <| OJ_P (P_move rfl) rfl ?_
       rcases opt_e h with ⟨ht48, h⟩ | ⟨o49, ht48, h⟩
       ·
        rw [ht48]
        refine RJ_ent (Ent.take del0 (Ent.take del0 (Ent.take del1 (Ent.take del1 (Ent.drop Ent.refl))))) <| RJ_op rfl <| OJ_P (P_eqlNN rfl rfl Try.underlying29) rfl <| RJ_op rfl <| OJ_P (P_move rfl) rfl <| RJ_gn (GY_no rfl rfl rfl rfl) rfl rfl <| RJ_gn (GY_no rfl rfl rfl rfl) rfl rfl <| RJ_gn (GY_no rfl rfl rfl rfl) rfl rfl <| RJ_gn (GY_no rfl rfl rfl rfl) rfl rfl <| RJ_op rfl <| OJ_P (P_pickT rfl rfl rfl) rfl <| RJ_nil <| QJ_then <| CJ_condT rfl rfl <| CJ_seq <| CJ_region <| RJ_op rfl <| OJ_P (P_assign rfl) rfl <| RJ_nil <| QJ_then <| CJ_ret <| QJ_then_ret <| QJ_block_ret <| QJ_then_ret <| QJ_round_ret <| QJ_block_ret <| QJ_then_ret ?_
        have hE := Option.some.inj h
        replace hE := seq_inr hK12 hE.symm
        subst hE
        refine QJ_end (res1 Try.results3 rfl) <| CSpec.close () ?_ ?_ (Ent.take del3 (Ent.drop (Ent.drop (Ent.drop Ent.refl))))
        · rfl
        · trivial
       ·
        rw [ht48]
        refine RJ_ent (Ent.takeC (A' := Arr X46 o49) del2 rfl Ent.refl) <| RJ_op rfl <| OJ_P (P_eqlPN rfl rfl Try.underlying29) rfl <| RJ_op rfl <| OJ_P (P_move rfl) rfl <| RJ_gy (GY_yes rfl rfl rfl rfl) <| OJ_P (P_move rfl) rfl ?_
        obtain ⟨r50, hr51, h⟩ := bind_e h
        refine RJ_gy (GY_yes rfl rfl rfl rfl) <| O_call (L_regionlog_Words hr51) rfl Try.call10 Dels.nil rfl fun _ _ => RJ_gy (GY_yes rfl rfl rfl rfl) <| OJ_P (P_move rfl) rfl <| RJ_gy (GY_yes rfl rfl rfl rfl) <| OJ_P (P_neq (a := r50) (b := r18) rfl rfl) rfl <| RJ_op rfl <| OJ_P (P_pickF rfl rfl rfl) rfl <| RJ_nil <| QJ_then <| CJ_condP rfl bT_dec (fun hg9 => ?_) (fun hg9 => ?_)
        ·
         replace h := ite_t hg9 h
         refine CJ_seq <| CJ_region <| RJ_op rfl <| OJ_P (P_assign rfl) rfl <| RJ_nil <| QJ_then <| CJ_ret <| QJ_then_ret <| QJ_block_ret <| QJ_then_ret <| QJ_round_ret <| QJ_block_ret <| QJ_then_ret ?_
         have hE := Option.some.inj h
         replace hE := seq_inr hK12 hE.symm
         subst hE
         refine QJ_end (res1 Try.results3 rfl) <| CSpec.close () ?_ ?_ (Ent.take del4 (Ent.drop (Ent.drop (Ent.drop (Ent.drop Ent.refl)))))
         · rfl
         · trivial
        ·
         replace h := ite_f hg9 h
         refine CJ_skip <| QJ_then <| CJ_seq <| CJ_region <| RJ_op rfl <| OJ_P (P_move rfl) rfl ?_
         obtain ⟨r52, hr53, h⟩ := bind_e h
         refine RJ_op rfl <| O_call (L_volumegroupmake_Spans hr53) rfl Try.call11 (Dels.cons del0 Dels.nil) rfl fun X54 _ => RJ_pure (fun h hh => Rs_len (stars_perm (del2 (A := Rs (DevP X46) r52 X54.2)).out h hh)) fun hdl57 => RJ_op rfl <| OJ_P (P_assign rfl) rfl <| RJ_nil <| QJ_ent (Ent.take del0 (Ent.take del0 (Ent.take del0 (Ent.take del0 (Ent.take del1 (Ent.take del1 (Ent.drop Ent.refl))))))) <| QJ_then <| CJ_seq <| CJ_seq <| CJ_region <| RJ_op rfl <| OJ_P (P_move rfl) rfl <| RJ_op rfl <| OJ_V (VJ_eq (V_len rfl foc1 (Reads.sl _ _ _) Try.runUnderlying32) (congrArg (fun z : Nat => Value.int .i64 (z : Int)) (hdl57).symm)) rfl <| RJ_op rfl <| OJ_P (P_neq (a := ((r52.length : Nat) : Int)) (b := (1 : Int)) rfl rfl) rfl <| RJ_nil <| QJ_then <| CJ_condP rfl bT_dec (fun hg10 => ?_) (fun hg10 => ?_)
         ·
          replace h := ite_t hg10 h
          refine CJ_seq <| CJ_region <| RJ_op rfl <| OJ_P (P_assign rfl) rfl <| RJ_nil <| QJ_then <| CJ_ret <| QJ_then_ret <| QJ_block_ret <| QJ_then_ret <| QJ_round_ret <| QJ_block_ret <| QJ_then_ret ?_
          have hE := Option.some.inj h
          replace hE := seq_inr hK12 hE.symm
          subst hE
          refine QJ_end (res1 Try.results3 rfl) <| CSpec.close () ?_ ?_ (Ent.take del5 (Ent.drop (Ent.drop (Ent.drop (Ent.drop (Ent.drop Ent.refl))))))
          · rfl
          · trivial
         ·
          replace h := ite_f hg10 h
          refine CJ_skip <| QJ_then <| CJ_seq <| CJ_region <| RJ_op rfl <| OJ_P (P_move rfl) rfl <| RJ_op rfl <| OJ_V (V_index (i := 0) rfl rfl rfl (by have hz : 0 < r52.length := (by omega); have hy := hdl57; omega) foc1 (Reads.sl _ _ _) Try.runUnderlying32 Try.sizeOf38) rfl <| RJ_ent (Ent.trans (Ent.take del2 Ent.refl) (Rs_at (fun _ _ => Dup_DevP) (dx := dv0) (dh := tyDev.dflt) (i := 0) (by omega))) <| RJ_op rfl <| OJ_V (V_loadE rfl rfl (by have hz : 0 < r52.length := (by omega); have hy := hdl57; omega) foc3 (Reads.sl _ _ _) rfl rfl Try.isAgg38) rfl <| RJ_op rfl <| OJ_P (P_move rfl) rfl ?_
          obtain ⟨r59, hr60, h⟩ := bind_e h
          refine RJ_op rfl <| O_call (L_regionlog_Open hr60) rfl Try.call12 (Dels.cons del0 (Dels.cons del1 Dels.nil)) rfl fun X61 _ => RJ_op rfl <| OJ_P (P_move rfl) rfl <| RJ_op rfl <| OJ_P (P_extract rfl rfl) rfl <| RJ_op rfl <| OJ_P (P_extract rfl rfl) rfl <| RJ_op rfl <| OJ_P (P_assign rfl) rfl <| RJ_op rfl <| OJ_P (P_assign rfl) rfl <| RJ_nil <| QJ_ent (Ent.take del1 (Ent.take del1 (Ent.take del1 (Ent.take del1 (Ent.take del1 (Ent.take del1 (Ent.take del1 (Ent.drop Ent.refl)))))))) <| QJ_then <| CJ_seq <| CJ_region <| RJ_op rfl <| OJ_P (P_move rfl) rfl <| RJ_op rfl <| OJ_P (P_assign rfl) rfl <| RJ_nil <| QJ_then <| CJ_seq <| CJ_seq <| AJ_startH 0 (by kernel_rfl) rfl <| AJ_takeP 0 1 rfl (by kernel_rfl) rfl (GY_none rfl) (P_move rfl) rfl (fun _ _ _ _ h => h) <| AJ_takeP 1 3 rfl (by kernel_rfl) rfl (GY_none rfl) (P_eql (a := ((a24 : Nat) : Int)) (b := (0 : Int)) rfl rfl) rfl (fun _ _ _ _ h => h) <| AJ_takeP 2 7 rfl (by kernel_rfl) rfl (GY_none rfl) (P_move rfl) rfl (fun _ _ _ _ h => h) <| AJ_splitP 101 rfl bT_dec (fun hg11B hg11 => ?_) (fun hg11B hg11 => ?_)
          ·
           replace h := ite_t hg11 h
           refine AJ_takeP 3 15 rfl (by kernel_rfl) rfl (GY_yes rfl rfl rfl hg11B) (P_move rfl) rfl (fun _ _ _ _ h => h) ?_
           obtain ⟨hg12, h⟩ := grd_de h
           refine AJ_takeV 4 31 rfl (by kernel_rfl) rfl (by kernel_rfl) (by kernel_rfl) (GY_yes rfl rfl rfl hg11B) Ent.refl (V_index (i := 0) rfl rfl rfl hg12 foc4 (Reads.sl _ _ _) Try.runUnderlying22 Try.sizeOf27) rfl (fun _ _ _ _ h => h) <| AJ_takeV 5 63 rfl (by kernel_rfl) rfl (by kernel_rfl) (by kernel_rfl) (GY_yes rfl rfl rfl hg11B) Ent.refl (V_loadE rfl rfl hg12 foc4 (Reads.sl _ _ _) rfl rfl Try.isAgg27) rfl (fun _ _ _ _ h => h) <| AJ_takeP 6 127 rfl (by kernel_rfl) rfl (GY_yes rfl rfl rfl hg11B) (P_move rfl) rfl (fun _ _ _ _ h => h) ?_
           obtain ⟨r63, hr64, h⟩ := bind_e h
           refine AJ_op 7 255 rfl (by kernel_rfl) rfl (GY_yes rfl rfl rfl hg11B) <| O_call (L_volumegroupref20_Head hr64) rfl Try.call8 Dels.nil rfl fun _ _ => ⟨fun _ => Ent.refl, ?_⟩
           refine AJ_takeP 8 511 rfl (by kernel_rfl) rfl (GY_yes rfl rfl rfl hg11B) (P_ne_u64 (a := (a38.getD 0 0)) (b := r63) rfl rfl) rfl (fun _ _ _ _ h => h) <| AJ_takeP 9 1023 rfl (by kernel_rfl) rfl (GY_none rfl) (P_pickT rfl hg11B rfl) rfl (fun _ _ _ _ h => h) <| AJ_done (by kernel_rfl) <| QJ_then ?_
           obtain ⟨y67, hl65, hK66⟩ := bind_c h
           refine CJ_cutT (X := Nat) [17] (fun a69 => ([(17, .int .i64 (((a69 : Nat) : Int)))] : Slots)) (fun a69 R => R) (fun a69 => y67 = a69) Dels.nil ?_ ?_
           ·
            have h := hl65
            refine CJ_condP rfl bT_dec (fun hg13 => ?_) (fun hg13 => ?_)
            ·
             replace h := ite_t hg13 h
             refine CJ_region <| RJ_op rfl <| OJ_P (P_assign rfl) rfl <| RJ_nil <| QJ_cutR 2 ?_ (by repeat (first | exact Kp.base | exact Kp.self | refine Kp.cons rfl ?_ | refine Kp.forget rfl ?_)) ?_ Ent.refl
             · exact (Option.some.inj h).symm
             · exact ⟨rfl, True.intro⟩
            ·
             replace h := ite_f hg13 h
             refine CJ_skip <| QJ_cutR a24 ?_ (by repeat (first | exact Kp.base | exact Kp.self | refine Kp.cons rfl ?_ | refine Kp.forget rfl ?_)) ?_ Ent.refl
             · exact (Option.some.inj h).symm
             · exact ⟨rfl, True.intro⟩
           ·
            rintro a69 hy70
            replace h := bindK_at hK66 hy70
            show CJ _ _ _ _ _ (([(17, .int .i64 (((a69 : Nat) : Int)))] : Slots) ++ forget _ _) (_)
            refine CJ_seq <| CJ_seq <| CJ_region <| RJ_op rfl <| OJ_P (P_move rfl) rfl <| RJ_op rfl <| OJ_P (P_move rfl) rfl <| RJ_op rfl <| OJ_P (P_neq (a := r59.2) (b := ((a69 : Nat) : Int)) rfl rfl) rfl <| RJ_op rfl <| OJ_P (P_move rfl) rfl <| RJ_mbF rfl rfl rfl (fun hG71 => have hP72 : ¬ (r59.2 ≠ ((a69 : Nat) : Int)) := nP (bT_dec) hG71; VJ_P (P_move rfl)) <| RJ_splitP 112 rfl bT_dec (fun hg14B hg14 => ?_) (fun hg14B hg14 => ?_)
            ·
             replace h := ite_t hg14 h
             refine RJ_gn (GY_no rfl rfl rfl hg14B) rfl rfl <| RJ_gn (GY_no rfl rfl rfl hg14B) rfl rfl <| RJ_gn (GY_no rfl rfl rfl hg14B) rfl rfl <| RJ_gn (GY_no rfl rfl rfl hg14B) rfl rfl <| RJ_op rfl <| OJ_P (P_pickT rfl hg14B rfl) rfl <| RJ_nil <| QJ_then <| CJ_condT rfl rfl <| CJ_seq <| CJ_region <| RJ_op rfl <| OJ_P (P_assign rfl) rfl <| RJ_nil <| QJ_ent (Ent.take del0 (Ent.take del4 (Ent.take del4 (Ent.drop (Ent.drop (Ent.drop (Ent.drop Ent.refl))))))) <| QJ_then <| CJ_ret <| QJ_then_ret <| QJ_block_ret <| QJ_then_ret <| QJ_round_ret <| QJ_block_ret <| QJ_then_ret ?_
             have hE := Option.some.inj h
             replace hE := seq_inr hK12 hE.symm
             subst hE
             refine QJ_end (res1 Try.results3 rfl) <| CSpec.close () ?_ ?_ (Ent.take del2 (Ent.drop (Ent.drop Ent.refl)))
             · rfl
             · trivial
            ·
             replace h := ite_f hg14 h
             rcases opt_e h with ⟨ht75, h⟩ | ⟨o76, ht75, h⟩
             ·
              rw [ht75]
              refine RJ_ent (Ent.take del0 (Ent.take del1 (Ent.take del1 (Ent.take del1 (Ent.take del1 (Ent.take del1 (Ent.drop Ent.refl))))))) <| RJ_gy (GY_yes rfl rfl rfl hg14B) <| OJ_P (P_eqlNN (mbx (not_f hg14B) rfl) rfl Try.underlying34) rfl <| RJ_gy (GY_yes rfl rfl rfl hg14B) <| OJ_P (P_move rfl) rfl <| RJ_gy (GY_yes rfl rfl rfl hg14B) <| OJ_P (P_neq (a := r59.2) (b := (0 : Int)) rfl rfl) rfl <| RJ_gy (GY_yes rfl rfl rfl hg14B) <| OJ_P (P_neqB rfl rfl Try.underlying4) rfl <| RJ_op rfl <| OJ_P (P_pickF rfl hg14B rfl) rfl <| RJ_nil <| QJ_then <| CJ_condP rfl (bT_not (bT_beq Iff.rfl bT_dec)) (fun hg15 => ?_) (fun hg15 => ?_)
              ·
               replace h := ite_t hg15 h
               refine CJ_seq <| CJ_region <| RJ_op rfl <| OJ_P (P_assign rfl) rfl <| RJ_nil <| QJ_then <| CJ_ret <| QJ_then_ret <| QJ_block_ret <| QJ_then_ret <| QJ_round_ret <| QJ_block_ret <| QJ_then_ret ?_
               have hE := Option.some.inj h
               replace hE := seq_inr hK12 hE.symm
               subst hE
               refine QJ_end (res1 Try.results3 rfl) <| CSpec.close () ?_ ?_ (Ent.take del5 (Ent.drop (Ent.drop (Ent.drop (Ent.drop (Ent.drop Ent.refl))))))
               · rfl
               · trivial
              ·
               replace h := ite_f hg15 h
               refine CJ_skip <| QJ_then <| CJ_seq <| CJ_seq <| AJ_startH 271104 (by kernel_rfl) rfl <| AJ_takeP 0 1 rfl (by kernel_rfl) rfl (GY_none rfl) (P_move rfl) rfl (fun _ _ _ _ h => h) <| AJ_takeP 1 3 rfl (by kernel_rfl) rfl (GY_none rfl) (P_eql (a := r59.2) (b := (0 : Int)) rfl rfl) rfl (fun _ _ _ _ h => h) <| AJ_takeP 2 7 rfl (by kernel_rfl) rfl (GY_none rfl) (P_move rfl) rfl (fun _ _ _ _ h => h) <| AJ_splitP 121 rfl bT_dec (fun hg16B hg16 => ?_) (fun hg16B hg16 => ?_)
               ·
                replace h := ite_t hg16 h
                refine AJ_takeP 3 15 rfl (by kernel_rfl) rfl (GY_yes rfl rfl rfl hg16B) (P_move rfl) rfl (fun _ _ _ _ h => h) <| AJ_takeP 5 47 rfl (by kernel_rfl) rfl (GY_yes rfl rfl rfl hg16B) (P_move rfl) rfl (fun _ _ _ _ h => h) ?_
                obtain ⟨hg17, h⟩ := grd_de h
                refine AJ_takeV 6 111 rfl (by kernel_rfl) rfl (by kernel_rfl) (by kernel_rfl) (GY_yes rfl rfl rfl hg16B) Ent.refl (V_slice (l := 1) (h := a38.length) rfl foc3 (Reads.sl _ _ _) ⟨_, rfl⟩ rfl (by omega) (by omega) Try.underlying22 Try.sizeOf27) rfl (fun _ _ _ _ h => h) <| AJ_takeP 7 239 rfl (by kernel_rfl) rfl (GY_yes rfl rfl rfl hg16B) (P_move rfl) rfl (fun _ _ _ _ h => h) ?_
                exact none_e h
               ·
                replace h := ite_f hg16 h
                refine AJ_skip 3 15 rfl (by kernel_rfl) rfl (GY_no rfl rfl rfl hg16B) rfl (fun _ _ _ _ h => h) <| AJ_skip 5 47 rfl (by kernel_rfl) rfl (GY_no rfl rfl rfl hg16B) rfl (fun _ _ _ _ h => h) <| AJ_skip 6 111 rfl (by kernel_rfl) rfl (GY_no rfl rfl rfl hg16B) rfl (fun _ _ _ _ h => h) <| AJ_skip 7 239 rfl (by kernel_rfl) rfl (GY_no rfl rfl rfl hg16B) rfl (fun _ _ _ _ h => h) <| AJ_skip 4 255 rfl (by kernel_rfl) rfl (GY_no rfl rfl rfl hg16B) rfl (fun _ _ _ _ h => h) <| AJ_skip 8 511 rfl (by kernel_rfl) rfl (GY_no rfl rfl rfl hg16B) rfl (fun _ _ _ _ h => h) <| AJ_skip 9 1023 rfl (by kernel_rfl) rfl (GY_no rfl rfl rfl hg16B) rfl (fun _ _ _ _ h => h) <| AJ_skip 10 2047 rfl (by kernel_rfl) rfl (GY_no rfl rfl rfl hg16B) rfl (fun _ _ _ _ h => h) <| AJ_skip 11 4095 rfl (by kernel_rfl) rfl (GY_no rfl rfl rfl hg16B) rfl (fun _ _ _ _ h => h) <| AJ_skip 12 8191 rfl (by kernel_rfl) rfl (GY_undef rfl rfl rfl) rfl (fun _ _ _ _ h => h) <| AJ_skip 13 16383 rfl (by kernel_rfl) rfl (GY_undef rfl rfl rfl) rfl (fun _ _ _ _ h => h) <| AJ_skip 14 32767 rfl (by kernel_rfl) rfl (GY_no rfl rfl rfl hg16B) rfl (fun _ _ _ _ h => h) <| AJ_skip 15 65535 rfl (by kernel_rfl) rfl (GY_no rfl rfl rfl hg16B) rfl (fun _ _ _ _ h => h) <| AJ_skip 16 131071 rfl (by kernel_rfl) rfl (GY_undef rfl rfl rfl) rfl (fun _ _ _ _ h => h) <| AJ_skip 17 262143 rfl (by kernel_rfl) rfl (GY_undef rfl rfl rfl) rfl (fun _ _ _ _ h => h) <| AJ_skip 18 524287 rfl (by kernel_rfl) rfl (GY_undef rfl rfl rfl) rfl (fun _ _ _ _ h => h) ?_
                refine AJ_skip 19 1048575 rfl (by kernel_rfl) rfl (GY_no rfl rfl rfl hg16B) rfl (fun _ _ _ _ h => h) <| AJ_takeP 20 2097151 rfl (by kernel_rfl) rfl (GY_none rfl) (P_pickF rfl hg16B rfl) rfl (fun _ _ _ _ h => h) <| AJ_done (by kernel_rfl) <| QJ_then <| CJ_condF rfl rfl <| CJ_skip <| QJ_then <| CJ_seq <| CJ_seq <| CJ_region <| RJ_op rfl <| OJ_P (P_move rfl) rfl <| RJ_op rfl <| OJ_V (V_index (i := 0) rfl rfl rfl (by have hz : 0 < r52.length := (by omega); have hy := hdl57; omega) foc2 (Reads.sl _ _ _) Try.runUnderlying32 Try.sizeOf38) rfl <| RJ_ent (Ent.trans (Ent.take del1 Ent.refl) (Rs_at (fun _ _ => Dup_DevP) (dx := dv0) (dh := tyDev.dflt) (i := 0) (by omega))) <| RJ_op rfl <| OJ_V (V_loadE rfl rfl (by have hz : 0 < r52.length := (by omega); have hy := hdl57; omega) foc3 (Reads.sl _ _ _) rfl rfl Try.isAgg38) rfl <| RJ_op rfl <| OJ_P (P_move rfl) rfl ?_
                obtain ⟨r78, hr79, h⟩ := bind_e h
                refine RJ_op rfl <| O_call (L_regionlog_Format hr79) rfl Try.call17 (Dels.cons del0 (Dels.cons del1 Dels.nil)) rfl fun _ _ => RJ_op rfl <| OJ_P (P_move rfl) rfl <| RJ_op rfl <| OJ_P (P_neq (a := r78.1) (b := ((a24 : Nat) : Int)) rfl rfl) rfl <| RJ_op rfl <| OJ_P (P_move rfl) rfl <| RJ_splitP 147 rfl bT_dec (fun hg18B hg18 => ?_) (fun hg18B hg18 => ?_)
                ·
                 replace h := ite_t hg18 h
                 refine RJ_gn (GY_no rfl rfl rfl hg18B) rfl rfl <| RJ_gn (GY_no rfl rfl rfl hg18B) rfl rfl <| RJ_gn (GY_no rfl rfl rfl hg18B) rfl rfl <| RJ_op rfl <| OJ_P (P_pickT rfl hg18B rfl) rfl <| RJ_nil <| QJ_ent (Ent.take del1 (Ent.take del1 (Ent.take del1 (Ent.take del2 (Ent.take del2 (Ent.drop (Ent.drop Ent.refl))))))) <| QJ_then <| CJ_condT rfl rfl <| CJ_seq <| CJ_region <| RJ_op rfl <| OJ_P (P_assign rfl) rfl <| RJ_nil <| QJ_then <| CJ_ret <| QJ_then_ret <| QJ_block_ret <| QJ_then_ret <| QJ_round_ret <| QJ_block_ret <| QJ_then_ret ?_
                 have hE := Option.some.inj h
                 replace hE := seq_inr hK12 hE.symm
                 subst hE
                 refine QJ_end (res1 Try.results3 rfl) <| CSpec.close () ?_ ?_ (Ent.take del4 (Ent.drop (Ent.drop (Ent.drop (Ent.drop Ent.refl)))))
                 · rfl
                 · trivial
                ·
                 replace h := ite_f hg18 h
                 refine RJ_gy (GY_yes rfl rfl rfl hg18B) <| OJ_P (P_move rfl) rfl <| RJ_gy (GY_yes rfl rfl rfl hg18B) <| O_call (c_Unflushed) rfl Try.call18 (Dels.cons del1 Dels.nil) rfl fun _ _ => RJ_gy (GY_yes rfl rfl rfl hg18B) <| OJ_P (P_neq (a := ((r78.2.log.length : Nat) : Int)) (b := (0 : Int)) rfl rfl) rfl <| RJ_op rfl <| OJ_P (P_pickF rfl hg18B rfl) rfl <| RJ_nil <| QJ_ent (Ent.take del0 (Ent.take del1 (Ent.take del1 (Ent.take del2 (Ent.take del2 (Ent.drop (Ent.drop Ent.refl))))))) <| QJ_then <| CJ_condP rfl bT_dec (fun hg19 => ?_) (fun hg19 => ?_)
                 ·
                  replace h := ite_t hg19 h
                  refine CJ_seq <| CJ_region <| RJ_op rfl <| OJ_P (P_assign rfl) rfl <| RJ_nil <| QJ_then <| CJ_ret <| QJ_then_ret <| QJ_block_ret <| QJ_then_ret <| QJ_round_ret <| QJ_block_ret <| QJ_then_ret ?_
                  have hE := Option.some.inj h
                  replace hE := seq_inr hK12 hE.symm
                  subst hE
                  refine QJ_end (res1 Try.results3 rfl) <| CSpec.close () ?_ ?_ (Ent.take del4 (Ent.drop (Ent.drop (Ent.drop (Ent.drop Ent.refl)))))
                  · rfl
                  · trivial
                 ·
                  replace h := ite_f hg19 h
                  refine CJ_skip <| QJ_then <| CJ_seq <| CJ_region <| RJ_op rfl <| OJ_P (P_move rfl) rfl <| RJ_op rfl <| OJ_V (V_index (i := 0) rfl rfl rfl (by have hz : 0 < r52.length := (by omega); have hy := hdl57; omega) foc2 (Reads.sl _ _ _) Try.runUnderlying32 Try.sizeOf38) rfl <| RJ_ent (Ent.trans (Ent.take del1 Ent.refl) (Rs_at (fun _ _ => Dup_DevP) (dx := dv0) (dh := tyDev.dflt) (i := 0) (by omega))) <| RJ_op rfl <| OJ_V (V_loadE rfl rfl (by have hz : 0 < r52.length := (by omega); have hy := hdl57; omega) foc3 (Reads.sl _ _ _) rfl rfl Try.isAgg38) rfl <| RJ_op rfl <| OJ_P (P_move rfl) rfl ?_
                  obtain ⟨r81, hr82, h⟩ := bind_e h
                  refine RJ_op rfl <| O_call (L_regionlog_Open hr82) rfl Try.call12 (Dels.cons del0 (Dels.cons del1 Dels.nil)) rfl fun X83 _ => RJ_op rfl <| OJ_P (P_move rfl) rfl <| RJ_op rfl <| OJ_P (P_extract rfl rfl) rfl <| RJ_op rfl <| OJ_P (P_extract rfl rfl) rfl <| RJ_op rfl <| OJ_P (P_assign rfl) rfl <| RJ_op rfl <| OJ_P (P_assign rfl) rfl <| RJ_nil <| QJ_ent (Ent.take del1 (Ent.take del1 (Ent.take del3 (Ent.take del3 (Ent.drop (Ent.drop (Ent.drop Ent.refl))))))) <| QJ_then <| CJ_seq <| CJ_region <| RJ_op rfl <| OJ_P (P_move rfl) rfl <| RJ_op rfl <| OJ_P (P_eql (a := ((a24 : Nat) : Int)) (b := (0 : Int)) rfl rfl) rfl <| RJ_op rfl <| OJ_P (P_move rfl) rfl <| RJ_splitP 162 rfl bT_dec (fun hg20B hg20 => ?_) (fun hg20B hg20 => ?_)
                  ·
                   replace h := ite_t hg20 h
                   refine RJ_gy (GY_yes rfl rfl rfl hg20B) <| OJ_P (P_move rfl) rfl <| RJ_gy (GY_yes rfl rfl rfl hg20B) <| OJ_P (P_neq (a := r81.2) (b := (0 : Int)) rfl rfl) rfl <| RJ_gy (GY_yes rfl rfl rfl hg20B) <| OJ_P (P_move rfl) rfl <| RJ_mbF rfl rfl rfl (fun hG85 => have hP86 : ¬ (r81.2 ≠ (0 : Int)) := nP (bT_dec) hG85; VJ_P (P_move rfl)) <| RJ_splitP 165 rfl bT_dec (fun hg21B hg21 => ?_) (fun hg21B hg21 => ?_)
                   ·
                    replace h := ite_t hg21 h
                    refine RJ_gn (GY_no rfl rfl rfl hg21B) rfl rfl <| RJ_gy (GY_yes rfl rfl rfl hg20B) <| OJ_P (P_pickT rfl hg21B rfl) rfl <| RJ_gy (GY_yes rfl rfl rfl hg20B) <| OJ_P (P_move rfl) rfl <| RJ_gn (GY_no rfl rfl rfl rfl) rfl rfl <| RJ_gn (GY_no rfl rfl rfl rfl) rfl rfl <| RJ_gn (GY_no rfl rfl rfl rfl) rfl rfl <| RJ_gn (GY_no rfl rfl rfl rfl) rfl rfl <| RJ_gy (GY_yes rfl rfl rfl hg20B) <| OJ_P (P_pickT rfl rfl rfl) rfl <| RJ_op rfl <| OJ_P (P_pickT rfl hg20B rfl) rfl <| RJ_nil <| QJ_then <| CJ_condT rfl rfl <| CJ_seq <| CJ_region <| RJ_op rfl <| OJ_P (P_assign rfl) rfl <| RJ_nil <| QJ_then <| CJ_ret <| QJ_block_ret <| QJ_then_ret <| QJ_round_ret <| QJ_block_ret <| QJ_then_ret ?_
                    have hE := Option.some.inj h
                    replace hE := seq_inr hK12 hE.symm
                    subst hE
                    refine QJ_end (res1 Try.results3 rfl) <| CSpec.close () ?_ ?_ (Ent.take del3 (Ent.drop (Ent.drop (Ent.drop Ent.refl))))
                    · rfl
                    · trivial
                   ·
                    replace h := ite_f hg21 h
                    rcases opt_e h with ⟨ht89, h⟩ | ⟨o90, ht89, h⟩
                    ·
                     rw [ht89]
                     refine RJ_ent (Ent.take del0 (Ent.take del1 (Ent.take del1 (Ent.drop Ent.refl)))) <| RJ_gy (GY_yes rfl rfl rfl hg21B) <| OJ_P (P_eqlNN (mbx (not_f hg21B) rfl) rfl Try.underlying34) rfl <| RJ_gy (GY_yes rfl rfl rfl hg20B) <| OJ_P (P_pickF rfl hg21B rfl) rfl <| RJ_gy (GY_yes rfl rfl rfl hg20B) <| OJ_P (P_move rfl) rfl <| RJ_gn (GY_no rfl rfl rfl rfl) rfl rfl <| RJ_gn (GY_no rfl rfl rfl rfl) rfl rfl <| RJ_gn (GY_no rfl rfl rfl rfl) rfl rfl <| RJ_gn (GY_no rfl rfl rfl rfl) rfl rfl <| RJ_gy (GY_yes rfl rfl rfl hg20B) <| OJ_P (P_pickT rfl rfl rfl) rfl <| RJ_op rfl <| OJ_P (P_pickT rfl hg20B rfl) rfl <| RJ_nil <| QJ_then <| CJ_condT rfl rfl <| CJ_seq <| CJ_region <| RJ_op rfl <| OJ_P (P_assign rfl) rfl <| RJ_nil <| QJ_then <| CJ_ret <| QJ_block_ret <| QJ_then_ret <| QJ_round_ret <| QJ_block_ret <| QJ_then_ret ?_
                     have hE := Option.some.inj h
                     replace hE := seq_inr hK12 hE.symm
                     subst hE
                     refine QJ_end (res1 Try.results3 rfl) <| CSpec.close () ?_ ?_ (Ent.take del2 (Ent.drop (Ent.drop Ent.refl)))
                     · rfl
                     · trivial
                    ·
                     rw [ht89]
                     refine RJ_ent (Ent.takeC (A' := LogP X46 X83 o90) del1 rfl Ent.refl) <| RJ_gy (GY_yes rfl rfl rfl hg21B) <| OJ_P (P_eqlPN (mbx (not_f hg21B) rfl) rfl Try.underlying34) rfl <| RJ_gy (GY_yes rfl rfl rfl hg20B) <| OJ_P (P_pickF rfl hg21B rfl) rfl <| RJ_gy (GY_yes rfl rfl rfl hg20B) <| OJ_P (P_move rfl) rfl <| RJ_gy (GY_yes rfl rfl rfl rfl) <| OJ_P (P_move rfl) rfl ?_
                     obtain ⟨r91, hr92, h⟩ := bind_e h
                     refine RJ_gy (GY_yes rfl rfl rfl rfl) <| O_call (L_regionlog_Log_Dirty hr92) rfl Try.call14 (Dels.cons del0 (Dels.cons del0 Dels.nil)) rfl fun X93 _ => RJ_gy (GY_yes rfl rfl rfl rfl) <| OJ_V (V_len rfl foc2 (Reads.sl _ _ _) Try.runUnderlying24) rfl <| RJ_gy (GY_yes rfl rfl rfl rfl) <| OJ_P (P_neq (a := ((r91.length : Nat) : Int)) (b := (0 : Int)) rfl rfl) rfl <| RJ_gy (GY_yes rfl rfl rfl hg20B) <| OJ_P (P_pickF rfl rfl rfl) rfl <| RJ_op rfl <| OJ_P (P_pickT rfl hg20B rfl) rfl <| RJ_nil <| QJ_then <| CJ_condP rfl bT_dec (fun hg22 => ?_) (fun hg22 => ?_)
                     ·
                      replace h := ite_t hg22 h
                      refine CJ_seq <| CJ_region <| RJ_op rfl <| OJ_P (P_assign rfl) rfl <| RJ_nil <| QJ_then <| CJ_ret <| QJ_block_ret <| QJ_then_ret <| QJ_round_ret <| QJ_block_ret <| QJ_then_ret ?_
                      have hE := Option.some.inj h
                      replace hE := seq_inr hK12 hE.symm
                      subst hE
                      refine QJ_end (res1 Try.results3 rfl) <| CSpec.close () ?_ ?_ (Ent.take del4 (Ent.drop (Ent.drop (Ent.drop (Ent.drop Ent.refl)))))
                      · rfl
                      · trivial
                     ·
                      replace h := ite_f hg22 h
                      refine CJ_skip <| QJ_block_normal <| QJ_then <| CJ_region <| RJ_op rfl <| OJ_P (P_move rfl) rfl ?_
                      obtain ⟨hg23, h⟩ := grd_Ne h
                      refine RJ_op rfl <| OJ_P (PJ_eq (P_add (a := ((x15 : Nat) : Int)) (b := (1 : Int)) rfl rfl (nat_in hg23)) rfl) rfl <| RJ_op rfl <| OJ_P (P_assign rfl) rfl <| RJ_nil <| QJ_nextR ⟨n, (x15 + 1)⟩ (Nat.lt_succ_self _) ?_ (by repeat (first | exact Kp.base | exact Kp.self | refine Kp.cons rfl ?_ | refine Kp.forget rfl ?_)) ?_ (Ent.take del3 (Ent.take del3 (Ent.drop (Ent.drop (Ent.drop Ent.refl)))))
                      · exact h
                      · exact ⟨rfl, True.intro⟩
                  ·
                   replace h := ite_f hg20 h
                   refine RJ_gn (GY_no rfl rfl rfl hg20B) rfl rfl <| RJ_gn (GY_no rfl rfl rfl hg20B) rfl rfl <| RJ_gn (GY_no rfl rfl rfl hg20B) rfl rfl <| RJ_gn (GY_undef rfl rfl rfl) rfl rfl <| RJ_gn (GY_undef rfl rfl rfl) rfl rfl <| RJ_gn (GY_no rfl rfl rfl hg20B) rfl rfl <| RJ_gn (GY_no rfl rfl rfl hg20B) rfl rfl <| RJ_gn (GY_undef rfl rfl rfl) rfl rfl <| RJ_gn (GY_undef rfl rfl rfl) rfl rfl <| RJ_gn (GY_undef rfl rfl rfl) rfl rfl <| RJ_gn (GY_undef rfl rfl rfl) rfl rfl <| RJ_gn (GY_no rfl rfl rfl hg20B) rfl rfl <| RJ_op rfl <| OJ_P (P_pickF rfl hg20B rfl) rfl <| RJ_nil <| QJ_then <| CJ_condF rfl rfl <| CJ_skip <| QJ_block_normal <| QJ_then <| CJ_region <| RJ_op rfl <| OJ_P (P_move rfl) rfl ?_
                   obtain ⟨hg24, h⟩ := grd_Ne h
                   refine RJ_op rfl <| OJ_P (PJ_eq (P_add (a := ((x15 : Nat) : Int)) (b := (1 : Int)) rfl rfl (nat_in hg24)) rfl) rfl <| RJ_op rfl <| OJ_P (P_assign rfl) rfl <| RJ_nil <| QJ_nextR ⟨n, (x15 + 1)⟩ (Nat.lt_succ_self _) ?_ (by repeat (first | exact Kp.base | exact Kp.self | refine Kp.cons rfl ?_ | refine Kp.forget rfl ?_)) ?_ (Ent.take del2 (Ent.take del2 (Ent.drop (Ent.drop Ent.refl))))
                   · exact h
                   · exact ⟨rfl, True.intro⟩
             ·
              rw [ht75]
              refine RJ_ent (Ent.takeC (A' := LogP X46 X61 o76) del1 rfl Ent.refl) <| RJ_gy (GY_yes rfl rfl rfl hg14B) <| OJ_P (P_eqlPN (mbx (not_f hg14B) rfl) rfl Try.underlying34) rfl <| RJ_gy (GY_yes rfl rfl rfl hg14B) <| OJ_P (P_move rfl) rfl <| RJ_gy (GY_yes rfl rfl rfl hg14B) <| OJ_P (P_neq (a := r59.2) (b := (0 : Int)) rfl rfl) rfl <| RJ_gy (GY_yes rfl rfl rfl hg14B) <| OJ_P (P_neqB rfl rfl Try.underlying4) rfl <| RJ_op rfl <| OJ_P (P_pickF rfl hg14B rfl) rfl <| RJ_nil <| QJ_then <| CJ_condP rfl (bT_not (bT_beq Iff.rfl bT_dec)) (fun hg25 => ?_) (fun hg25 => ?_)
              ·
               replace h := ite_t hg25 h
               refine CJ_seq <| CJ_region <| RJ_op rfl <| OJ_P (P_assign rfl) rfl <| RJ_nil <| QJ_ent (Ent.take del1 (Ent.take del4 (Ent.take del4 (Ent.drop (Ent.drop (Ent.drop (Ent.drop Ent.refl))))))) <| QJ_then <| CJ_ret <| QJ_then_ret <| QJ_block_ret <| QJ_then_ret <| QJ_round_ret <| QJ_block_ret <| QJ_then_ret ?_
               have hE := Option.some.inj h
               replace hE := seq_inr hK12 hE.symm
               subst hE
               refine QJ_end (res1 Try.results3 rfl) <| CSpec.close () ?_ ?_ (Ent.take del2 (Ent.drop (Ent.drop Ent.refl)))
               · rfl
               · trivial
              ·
               replace h := ite_f hg25 h
               refine CJ_skip <| QJ_then <| CJ_seq <| CJ_seq <| AJ_startH 271104 (by kernel_rfl) rfl <| AJ_takeP 0 1 rfl (by kernel_rfl) rfl (GY_none rfl) (P_move rfl) rfl (fun _ _ _ _ h => h) <| AJ_takeP 1 3 rfl (by kernel_rfl) rfl (GY_none rfl) (P_eql (a := r59.2) (b := (0 : Int)) rfl rfl) rfl (fun _ _ _ _ h => h) <| AJ_takeP 2 7 rfl (by kernel_rfl) rfl (GY_none rfl) (P_move rfl) rfl (fun _ _ _ _ h => h) <| AJ_splitP 121 rfl bT_dec (fun hg26B hg26 => ?_) (fun hg26B hg26 => ?_)
               ·
                replace h := ite_t hg26 h
                refine AJ_takeP 3 15 rfl (by kernel_rfl) rfl (GY_yes rfl rfl rfl hg26B) (P_move rfl) rfl (fun _ _ _ _ h => h) <| AJ_takeP 5 47 rfl (by kernel_rfl) rfl (GY_yes rfl rfl rfl hg26B) (P_move rfl) rfl (fun _ _ _ _ h => h) ?_
                obtain ⟨hg27, h⟩ := grd_de h
                refine AJ_takeV 6 111 rfl (by kernel_rfl) rfl (by kernel_rfl) (by kernel_rfl) (GY_yes rfl rfl rfl hg26B) Ent.refl (V_slice (l := 1) (h := a38.length) rfl foc4 (Reads.sl _ _ _) ⟨_, rfl⟩ rfl (by omega) (by omega) Try.underlying22 Try.sizeOf27) rfl (fun _ _ _ _ h => h) <| AJ_takeP 7 239 rfl (by kernel_rfl) rfl (GY_yes rfl rfl rfl hg26B) (P_move rfl) rfl (fun _ _ _ _ h => h) ?_
                obtain ⟨r95, hr96, h⟩ := bind_e h
                refine AJ_op 4 255 rfl (by kernel_rfl) rfl (GY_yes rfl rfl rfl hg26B) <| O_call (L_regionlog_Log_Dirty hr96) rfl Try.call14 (Dels.cons del0 (Dels.cons del0 Dels.nil)) rfl fun X97 _ => ⟨fun _ => (Ent.take del0 (Ent.take del0 (Ent.take del1 (Ent.take del1 (Ent.take del1 (Ent.take del1 (Ent.take del1 (Ent.drop Ent.refl)))))))), ?_⟩
                obtain ⟨r99, hr100, h⟩ := bind_e h
                refine AJ_op 8 511 rfl (by kernel_rfl) rfl (GY_yes rfl rfl rfl hg26B) <| O_call (L_volumegroupref20_Dirty (Reads.sliceV (l := 1) (h := a38.length) (Reads.sl _ _ _) (by omega) (by omega)) hr100) rfl Try.call15 (Dels.cons del5 Dels.nil) rfl fun X101 _ => ⟨fun h => absurd h (by decide), ?_⟩
                obtain ⟨r103, hr104, h⟩ := bind_e h
                refine AJ_op 9 1023 rfl (by kernel_rfl) rfl (GY_yes rfl rfl rfl hg26B) <| O_call (L_volumegroupref20_Same (Reads.sl _ _ _) (Reads.sl _ _ _) hr104) rfl Try.call13 (Dels.cons del4 (Dels.cons del1 Dels.nil)) rfl fun _ _ => ⟨fun h => absurd h (by decide), ?_⟩
                refine AJ_takeP 10 2047 rfl (by kernel_rfl) rfl (GY_yes rfl rfl rfl hg26B) (P_not rfl) rfl (fun _ _ _ _ h => h) <| AJ_takeP 11 4095 rfl (by kernel_rfl) rfl (GY_yes rfl rfl rfl hg26B) (P_move rfl) rfl (fun _ _ _ _ h => h) <| AJ_splitP 130 rfl (bT_not Iff.rfl) (fun hg28B hg28 => ?_) (fun hg28B hg28 => ?_)
                ·
                 replace h := ite_t hg28 h
                 refine AJ_skip 12 8191 rfl (by kernel_rfl) rfl (GY_no rfl rfl rfl hg28B) rfl (fun _ _ _ _ h => h) <| AJ_skip 13 16383 rfl (by kernel_rfl) rfl (GY_no rfl rfl rfl hg28B) rfl (fun _ _ _ _ h => h) <| AJ_takeP 14 32767 rfl (by kernel_rfl) rfl (GY_yes rfl rfl rfl hg26B) (P_pickT rfl hg28B rfl) rfl (fun _ _ _ _ h => h) <| AJ_takeP 15 65535 rfl (by kernel_rfl) rfl (GY_yes rfl rfl rfl hg26B) (P_move rfl) rfl (fun _ _ _ _ h => h) <| AJ_splitP 134 rfl Iff.rfl (fun hg29B hg29 => ?_) (fun hg29B hg29 => ?_)
                 ·
                  replace h := ite_t hg29 h
                  refine AJ_skip 16 131071 rfl (by kernel_rfl) rfl (GY_no rfl rfl rfl hg29B) rfl (fun _ _ _ _ h => h) <| AJ_skip 17 262143 rfl (by kernel_rfl) rfl (GY_no rfl rfl rfl hg29B) rfl (fun _ _ _ _ h => h) <| AJ_skip 18 524287 rfl (by kernel_rfl) rfl (GY_no rfl rfl rfl hg29B) rfl (fun _ _ _ _ h => h) <| AJ_takeP 19 1048575 rfl (by kernel_rfl) rfl (GY_yes rfl rfl rfl hg26B) (P_pickT rfl hg29B rfl) rfl (fun _ _ _ _ h => h) <| AJ_takeP 20 2097151 rfl (by kernel_rfl) rfl (GY_none rfl) (P_pickT rfl hg26B rfl) rfl (fun _ _ _ _ h => h) <| AJ_done (by kernel_rfl) <| QJ_ent (Ent.take del4 (Ent.take del4 (Ent.take del4 (Ent.take del4 (Ent.take del4 (Ent.drop (Ent.drop (Ent.drop (Ent.drop Ent.refl))))))))) <| QJ_then <| CJ_condT rfl rfl <| CJ_seq <| CJ_region <| RJ_op rfl <| OJ_P (P_assign rfl) rfl <| RJ_nil <| QJ_then <| CJ_ret <| QJ_then_ret <| QJ_block_ret <| QJ_then_ret <| QJ_round_ret <| QJ_block_ret <| QJ_then_ret ?_
                  have hE := Option.some.inj h
                  replace hE := seq_inr hK12 hE.symm
                  subst hE
                  refine QJ_end (res1 Try.results3 rfl) <| CSpec.close () ?_ ?_ (Ent.take del4 (Ent.drop (Ent.drop (Ent.drop (Ent.drop Ent.refl)))))
                  · rfl
                  · trivial
                 ·
                  replace h := ite_f hg29 h
                  refine AJ_takeP 16 131071 rfl (by kernel_rfl) rfl (GY_yes rfl rfl rfl hg29B) (P_move rfl) rfl (fun _ _ _ _ h => h) <| AJ_takeP 17 262143 rfl (by kernel_rfl) rfl (GY_yes rfl rfl rfl hg29B) (P_move rfl) rfl (fun _ _ _ _ h => h) ?_
                  obtain ⟨r105, hr106, h⟩ := bind_e h
                  refine AJ_op 18 524287 rfl (by kernel_rfl) rfl (GY_yes rfl rfl rfl hg29B) <| O_call (L_regionlog_Log_IsDirty hr106) rfl Try.call16 (Dels.cons del3 (Dels.cons del3 Dels.nil)) rfl fun _ _ => ⟨fun h => absurd h (by decide), ?_⟩
                  refine AJ_takeP 19 1048575 rfl (by kernel_rfl) rfl (GY_yes rfl rfl rfl hg26B) (P_pickF rfl hg29B rfl) rfl (fun _ _ _ _ h => h) <| AJ_takeP 20 2097151 rfl (by kernel_rfl) rfl (GY_none rfl) (P_pickT rfl hg26B rfl) rfl (fun _ _ _ _ h => h) <| AJ_done (by kernel_rfl) <| QJ_ent (Ent.take del1 (Ent.take del4 (Ent.take del4 (Ent.take del4 (Ent.take del4 (Ent.drop (Ent.drop (Ent.drop (Ent.drop Ent.refl))))))))) <| QJ_then <| CJ_condP rfl Iff.rfl (fun hg30 => ?_) (fun hg30 => ?_)
                  ·
                   replace h := ite_t hg30 h
                   refine CJ_seq <| CJ_region <| RJ_op rfl <| OJ_P (P_assign rfl) rfl <| RJ_nil <| QJ_then <| CJ_ret <| QJ_then_ret <| QJ_block_ret <| QJ_then_ret <| QJ_round_ret <| QJ_block_ret <| QJ_then_ret ?_
                   have hE := Option.some.inj h
                   replace hE := seq_inr hK12 hE.symm
                   subst hE
                   refine QJ_end (res1 Try.results3 rfl) <| CSpec.close () ?_ ?_ (Ent.take del4 (Ent.drop (Ent.drop (Ent.drop (Ent.drop Ent.refl)))))
                   · rfl
                   · trivial
                  ·
                   replace h := ite_f hg30 h
                   refine CJ_skip <| QJ_then <| CJ_seq <| CJ_seq <| CJ_region <| RJ_op rfl <| OJ_P (P_move rfl) rfl <| RJ_op rfl <| OJ_V (V_index (i := 0) rfl rfl rfl (by have hz : 0 < r52.length := (by omega); have hy := hdl57; omega) foc2 (Reads.sl _ _ _) Try.runUnderlying32 Try.sizeOf38) rfl <| RJ_ent (Ent.trans (Ent.take del1 Ent.refl) (Rs_at (fun _ _ => Dup_DevP) (dx := dv0) (dh := tyDev.dflt) (i := 0) (by omega))) <| RJ_op rfl <| OJ_V (V_loadE rfl rfl (by have hz : 0 < r52.length := (by omega); have hy := hdl57; omega) foc3 (Reads.sl _ _ _) rfl rfl Try.isAgg38) rfl <| RJ_op rfl <| OJ_P (P_move rfl) rfl ?_
                   obtain ⟨r108, hr109, h⟩ := bind_e h
                   refine RJ_op rfl <| O_call (L_regionlog_Format hr109) rfl Try.call17 (Dels.cons del0 (Dels.cons del1 Dels.nil)) rfl fun _ _ => RJ_op rfl <| OJ_P (P_move rfl) rfl <| RJ_op rfl <| OJ_P (P_neq (a := r108.1) (b := ((a24 : Nat) : Int)) rfl rfl) rfl <| RJ_op rfl <| OJ_P (P_move rfl) rfl <| RJ_splitP 147 rfl bT_dec (fun hg31B hg31 => ?_) (fun hg31B hg31 => ?_)
                   ·
                    replace h := ite_t hg31 h
                    refine RJ_gn (GY_no rfl rfl rfl hg31B) rfl rfl <| RJ_gn (GY_no rfl rfl rfl hg31B) rfl rfl <| RJ_gn (GY_no rfl rfl rfl hg31B) rfl rfl <| RJ_op rfl <| OJ_P (P_pickT rfl hg31B rfl) rfl <| RJ_nil <| QJ_then <| CJ_condT rfl rfl <| CJ_seq <| CJ_region <| RJ_op rfl <| OJ_P (P_assign rfl) rfl <| RJ_nil <| QJ_then <| CJ_ret <| QJ_then_ret <| QJ_block_ret <| QJ_then_ret <| QJ_round_ret <| QJ_block_ret <| QJ_then_ret ?_
                    have hE := Option.some.inj h
                    replace hE := seq_inr hK12 hE.symm
                    subst hE
                    refine QJ_end (res1 Try.results3 rfl) <| CSpec.close () ?_ ?_ (Ent.take del5 (Ent.drop (Ent.drop (Ent.drop (Ent.drop (Ent.drop Ent.refl))))))
                    · rfl
                    · trivial
                   ·
                    replace h := ite_f hg31 h
                    refine RJ_gy (GY_yes rfl rfl rfl hg31B) <| OJ_P (P_move rfl) rfl <| RJ_gy (GY_yes rfl rfl rfl hg31B) <| O_call (c_Unflushed) rfl Try.call18 (Dels.cons del1 Dels.nil) rfl fun _ _ => RJ_gy (GY_yes rfl rfl rfl hg31B) <| OJ_P (P_neq (a := ((r108.2.log.length : Nat) : Int)) (b := (0 : Int)) rfl rfl) rfl <| RJ_op rfl <| OJ_P (P_pickF rfl hg31B rfl) rfl <| RJ_nil <| QJ_then <| CJ_condP rfl bT_dec (fun hg32 => ?_) (fun hg32 => ?_)
                    ·
                     replace h := ite_t hg32 h
                     refine CJ_seq <| CJ_region <| RJ_op rfl <| OJ_P (P_assign rfl) rfl <| RJ_nil <| QJ_then <| CJ_ret <| QJ_then_ret <| QJ_block_ret <| QJ_then_ret <| QJ_round_ret <| QJ_block_ret <| QJ_then_ret ?_
                     have hE := Option.some.inj h
                     replace hE := seq_inr hK12 hE.symm
                     subst hE
                     refine QJ_end (res1 Try.results3 rfl) <| CSpec.close () ?_ ?_ (Ent.take del5 (Ent.drop (Ent.drop (Ent.drop (Ent.drop (Ent.drop Ent.refl))))))
                     · rfl
                     · trivial
                    ·
                     replace h := ite_f hg32 h
                     refine CJ_skip <| QJ_then <| CJ_seq <| CJ_region <| RJ_op rfl <| OJ_P (P_move rfl) rfl <| RJ_op rfl <| OJ_V (V_index (i := 0) rfl rfl rfl (by have hz : 0 < r52.length := (by omega); have hy := hdl57; omega) foc3 (Reads.sl _ _ _) Try.runUnderlying32 Try.sizeOf38) rfl <| RJ_ent (Ent.trans (Ent.take del2 Ent.refl) (Rs_at (fun _ _ => Dup_DevP) (dx := dv0) (dh := tyDev.dflt) (i := 0) (by omega))) <| RJ_op rfl <| OJ_V (V_loadE rfl rfl (by have hz : 0 < r52.length := (by omega); have hy := hdl57; omega) foc4 (Reads.sl _ _ _) rfl rfl Try.isAgg38) rfl <| RJ_op rfl <| OJ_P (P_move rfl) rfl ?_
                     obtain ⟨r111, hr112, h⟩ := bind_e h
                     refine RJ_op rfl <| O_call (L_regionlog_Open hr112) rfl Try.call12 (Dels.cons del0 (Dels.cons del1 Dels.nil)) rfl fun X113 _ => RJ_op rfl <| OJ_P (P_move rfl) rfl <| RJ_op rfl <| OJ_P (P_extract rfl rfl) rfl <| RJ_op rfl <| OJ_P (P_extract rfl rfl) rfl <| RJ_op rfl <| OJ_P (P_assign rfl) rfl <| RJ_op rfl <| OJ_P (P_assign rfl) rfl <| RJ_nil <| QJ_ent (Ent.take del1 (Ent.take del1 (Ent.take del4 (Ent.take del4 (Ent.drop (Ent.drop (Ent.drop (Ent.drop Ent.refl)))))))) <| QJ_then <| CJ_seq <| CJ_region <| RJ_op rfl <| OJ_P (P_move rfl) rfl <| RJ_op rfl <| OJ_P (P_eql (a := ((a24 : Nat) : Int)) (b := (0 : Int)) rfl rfl) rfl <| RJ_op rfl <| OJ_P (P_move rfl) rfl <| RJ_splitP 162 rfl bT_dec (fun hg33B hg33 => ?_) (fun hg33B hg33 => ?_)
                     ·
                      replace h := ite_t hg33 h
                      refine RJ_gy (GY_yes rfl rfl rfl hg33B) <| OJ_P (P_move rfl) rfl <| RJ_gy (GY_yes rfl rfl rfl hg33B) <| OJ_P (P_neq (a := r111.2) (b := (0 : Int)) rfl rfl) rfl <| RJ_gy (GY_yes rfl rfl rfl hg33B) <| OJ_P (P_move rfl) rfl <| RJ_mbF rfl rfl rfl (fun hG115 => have hP116 : ¬ (r111.2 ≠ (0 : Int)) := nP (bT_dec) hG115; VJ_P (P_move rfl)) <| RJ_splitP 165 rfl bT_dec (fun hg34B hg34 => ?_) (fun hg34B hg34 => ?_)
                      ·
                       replace h := ite_t hg34 h
                       refine RJ_gn (GY_no rfl rfl rfl hg34B) rfl rfl <| RJ_gy (GY_yes rfl rfl rfl hg33B) <| OJ_P (P_pickT rfl hg34B rfl) rfl <| RJ_gy (GY_yes rfl rfl rfl hg33B) <| OJ_P (P_move rfl) rfl <| RJ_gn (GY_no rfl rfl rfl rfl) rfl rfl <| RJ_gn (GY_no rfl rfl rfl rfl) rfl rfl <| RJ_gn (GY_no rfl rfl rfl rfl) rfl rfl <| RJ_gn (GY_no rfl rfl rfl rfl) rfl rfl <| RJ_gy (GY_yes rfl rfl rfl hg33B) <| OJ_P (P_pickT rfl rfl rfl) rfl <| RJ_op rfl <| OJ_P (P_pickT rfl hg33B rfl) rfl <| RJ_nil <| QJ_then <| CJ_condT rfl rfl <| CJ_seq <| CJ_region <| RJ_op rfl <| OJ_P (P_assign rfl) rfl <| RJ_nil <| QJ_then <| CJ_ret <| QJ_block_ret <| QJ_then_ret <| QJ_round_ret <| QJ_block_ret <| QJ_then_ret ?_
                       have hE := Option.some.inj h
                       replace hE := seq_inr hK12 hE.symm
                       subst hE
                       refine QJ_end (res1 Try.results3 rfl) <| CSpec.close () ?_ ?_ (Ent.take del3 (Ent.drop (Ent.drop (Ent.drop Ent.refl))))
                       · rfl
                       · trivial
                      ·
                       replace h := ite_f hg34 h
                       rcases opt_e h with ⟨ht119, h⟩ | ⟨o120, ht119, h⟩
                       ·
                        rw [ht119]
                        refine RJ_ent (Ent.take del0 (Ent.take del1 (Ent.take del1 (Ent.drop Ent.refl)))) <| RJ_gy (GY_yes rfl rfl rfl hg34B) <| OJ_P (P_eqlNN (mbx (not_f hg34B) rfl) rfl Try.underlying34) rfl <| RJ_gy (GY_yes rfl rfl rfl hg33B) <| OJ_P (P_pickF rfl hg34B rfl) rfl <| RJ_gy (GY_yes rfl rfl rfl hg33B) <| OJ_P (P_move rfl) rfl <| RJ_gn (GY_no rfl rfl rfl rfl) rfl rfl <| RJ_gn (GY_no rfl rfl rfl rfl) rfl rfl <| RJ_gn (GY_no rfl rfl rfl rfl) rfl rfl <| RJ_gn (GY_no rfl rfl rfl rfl) rfl rfl <| RJ_gy (GY_yes rfl rfl rfl hg33B) <| OJ_P (P_pickT rfl rfl rfl) rfl <| RJ_op rfl <| OJ_P (P_pickT rfl hg33B rfl) rfl <| RJ_nil <| QJ_then <| CJ_condT rfl rfl <| CJ_seq <| CJ_region <| RJ_op rfl <| OJ_P (P_assign rfl) rfl <| RJ_nil <| QJ_then <| CJ_ret <| QJ_block_ret <| QJ_then_ret <| QJ_round_ret <| QJ_block_ret <| QJ_then_ret ?_
                        have hE := Option.some.inj h
                        replace hE := seq_inr hK12 hE.symm
                        subst hE
                        refine QJ_end (res1 Try.results3 rfl) <| CSpec.close () ?_ ?_ (Ent.take del2 (Ent.drop (Ent.drop Ent.refl)))
                        · rfl
                        · trivial
                       ·
                        rw [ht119]
                        refine RJ_ent (Ent.takeC (A' := LogP X46 X113 o120) del1 rfl Ent.refl) <| RJ_gy (GY_yes rfl rfl rfl hg34B) <| OJ_P (P_eqlPN (mbx (not_f hg34B) rfl) rfl Try.underlying34) rfl <| RJ_gy (GY_yes rfl rfl rfl hg33B) <| OJ_P (P_pickF rfl hg34B rfl) rfl <| RJ_gy (GY_yes rfl rfl rfl hg33B) <| OJ_P (P_move rfl) rfl <| RJ_gy (GY_yes rfl rfl rfl rfl) <| OJ_P (P_move rfl) rfl ?_
                        obtain ⟨r121, hr122, h⟩ := bind_e h
                        refine RJ_gy (GY_yes rfl rfl rfl rfl) <| O_call (L_regionlog_Log_Dirty hr122) rfl Try.call14 (Dels.cons del0 (Dels.cons del0 Dels.nil)) rfl fun X123 _ => RJ_gy (GY_yes rfl rfl rfl rfl) <| OJ_V (V_len rfl foc2 (Reads.sl _ _ _) Try.runUnderlying24) rfl <| RJ_gy (GY_yes rfl rfl rfl rfl) <| OJ_P (P_neq (a := ((r121.length : Nat) : Int)) (b := (0 : Int)) rfl rfl) rfl <| RJ_gy (GY_yes rfl rfl rfl hg33B) <| OJ_P (P_pickF rfl rfl rfl) rfl <| RJ_op rfl <| OJ_P (P_pickT rfl hg33B rfl) rfl <| RJ_nil <| QJ_then <| CJ_condP rfl bT_dec (fun hg35 => ?_) (fun hg35 => ?_)
                        ·
                         replace h := ite_t hg35 h
                         refine CJ_seq <| CJ_region <| RJ_op rfl <| OJ_P (P_assign rfl) rfl <| RJ_nil <| QJ_then <| CJ_ret <| QJ_block_ret <| QJ_then_ret <| QJ_round_ret <| QJ_block_ret <| QJ_then_ret ?_
                         have hE := Option.some.inj h
                         replace hE := seq_inr hK12 hE.symm
                         subst hE
                         refine QJ_end (res1 Try.results3 rfl) <| CSpec.close () ?_ ?_ (Ent.take del4 (Ent.drop (Ent.drop (Ent.drop (Ent.drop Ent.refl)))))
                         · rfl
                         · trivial
                        ·
                         replace h := ite_f hg35 h
                         refine CJ_skip <| QJ_block_normal <| QJ_then <| CJ_region <| RJ_op rfl <| OJ_P (P_move rfl) rfl ?_
                         obtain ⟨hg36, h⟩ := grd_Ne h
                         refine RJ_op rfl <| OJ_P (PJ_eq (P_add (a := ((x15 : Nat) : Int)) (b := (1 : Int)) rfl rfl (nat_in hg36)) rfl) rfl <| RJ_op rfl <| OJ_P (P_assign rfl) rfl <| RJ_nil <| QJ_nextR ⟨n, (x15 + 1)⟩ (Nat.lt_succ_self _) ?_ (by repeat (first | exact Kp.base | exact Kp.self | refine Kp.cons rfl ?_ | refine Kp.forget rfl ?_)) ?_ (Ent.take del3 (Ent.take del3 (Ent.drop (Ent.drop (Ent.drop Ent.refl)))))
                         · exact h
                         · exact ⟨rfl, True.intro⟩
                     ·
                      replace h := ite_f hg33 h
                      refine RJ_gn (GY_no rfl rfl rfl hg33B) rfl rfl <| RJ_gn (GY_no rfl rfl rfl hg33B) rfl rfl <| RJ_gn (GY_no rfl rfl rfl hg33B) rfl rfl <| RJ_gn (GY_undef rfl rfl rfl) rfl rfl <| RJ_gn (GY_undef rfl rfl rfl) rfl rfl <| RJ_gn (GY_no rfl rfl rfl hg33B) rfl rfl <| RJ_gn (GY_no rfl rfl rfl hg33B) rfl rfl <| RJ_gn (GY_undef rfl rfl rfl) rfl rfl <| RJ_gn (GY_undef rfl rfl rfl) rfl rfl <| RJ_gn (GY_undef rfl rfl rfl) rfl rfl <| RJ_gn (GY_undef rfl rfl rfl) rfl rfl <| RJ_gn (GY_no rfl rfl rfl hg33B) rfl rfl <| RJ_op rfl <| OJ_P (P_pickF rfl hg33B rfl) rfl <| RJ_nil <| QJ_then <| CJ_condF rfl rfl <| CJ_skip <| QJ_block_normal <| QJ_then <| CJ_region <| RJ_op rfl <| OJ_P (P_move rfl) rfl ?_
                      obtain ⟨hg37, h⟩ := grd_Ne h
                      refine RJ_op rfl <| OJ_P (PJ_eq (P_add (a := ((x15 : Nat) : Int)) (b := (1 : Int)) rfl rfl (nat_in hg37)) rfl) rfl <| RJ_op rfl <| OJ_P (P_assign rfl) rfl <| RJ_nil <| QJ_nextR ⟨n, (x15 + 1)⟩ (Nat.lt_succ_self _) ?_ (by repeat (first | exact Kp.base | exact Kp.self | refine Kp.cons rfl ?_ | refine Kp.forget rfl ?_)) ?_ (Ent.take del2 (Ent.take del2 (Ent.drop (Ent.drop Ent.refl))))
                      · exact h
                      · exact ⟨rfl, True.intro⟩
                ·
                 replace h := ite_f hg28 h
                 refine AJ_takeP 12 8191 rfl (by kernel_rfl) rfl (GY_yes rfl rfl rfl hg28B) (P_move rfl) rfl (fun _ _ _ _ h => h) ?_
                 obtain ⟨r125, hr126, h⟩ := bind_e h
                 refine AJ_op 13 16383 rfl (by kernel_rfl) rfl (GY_yes rfl rfl rfl hg28B) <| O_call (L_regionlog_Log_IsDirty hr126) rfl Try.call16 (Dels.cons del3 (Dels.cons del3 Dels.nil)) rfl fun _ _ => ⟨fun h => absurd h (by decide), ?_⟩
                 refine AJ_takeP 14 32767 rfl (by kernel_rfl) rfl (GY_yes rfl rfl rfl hg26B) (P_pickF rfl hg28B rfl) rfl (fun _ _ _ _ h => h) <| AJ_takeP 15 65535 rfl (by kernel_rfl) rfl (GY_yes rfl rfl rfl hg26B) (P_move rfl) rfl (fun _ _ _ _ h => h) <| AJ_splitP 134 rfl Iff.rfl (fun hg38B hg38 => ?_) (fun hg38B hg38 => ?_)
                 ·
                  replace h := ite_t hg38 h
                  refine AJ_skip 16 131071 rfl (by kernel_rfl) rfl (GY_no rfl rfl rfl hg38B) rfl (fun _ _ _ _ h => h) <| AJ_skip 17 262143 rfl (by kernel_rfl) rfl (GY_no rfl rfl rfl hg38B) rfl (fun _ _ _ _ h => h) <| AJ_skip 18 524287 rfl (by kernel_rfl) rfl (GY_no rfl rfl rfl hg38B) rfl (fun _ _ _ _ h => h) <| AJ_takeP 19 1048575 rfl (by kernel_rfl) rfl (GY_yes rfl rfl rfl hg26B) (P_pickT rfl hg38B rfl) rfl (fun _ _ _ _ h => h) <| AJ_takeP 20 2097151 rfl (by kernel_rfl) rfl (GY_none rfl) (P_pickT rfl hg26B rfl) rfl (fun _ _ _ _ h => h) <| AJ_done (by kernel_rfl) <| QJ_ent (Ent.take del1 (Ent.take del4 (Ent.take del4 (Ent.take del4 (Ent.take del4 (Ent.drop (Ent.drop (Ent.drop (Ent.drop Ent.refl))))))))) <| QJ_then <| CJ_condT rfl rfl <| CJ_seq <| CJ_region <| RJ_op rfl <| OJ_P (P_assign rfl) rfl <| RJ_nil <| QJ_then <| CJ_ret <| QJ_then_ret <| QJ_block_ret <| QJ_then_ret <| QJ_round_ret <| QJ_block_ret <| QJ_then_ret ?_
                  have hE := Option.some.inj h
                  replace hE := seq_inr hK12 hE.symm
                  subst hE
                  refine QJ_end (res1 Try.results3 rfl) <| CSpec.close () ?_ ?_ (Ent.take del4 (Ent.drop (Ent.drop (Ent.drop (Ent.drop Ent.refl)))))
                  · rfl
                  · trivial
                 ·
                  replace h := ite_f hg38 h
                  refine AJ_takeP 16 131071 rfl (by kernel_rfl) rfl (GY_yes rfl rfl rfl hg38B) (P_move rfl) rfl (fun _ _ _ _ h => h) <| AJ_takeP 17 262143 rfl (by kernel_rfl) rfl (GY_yes rfl rfl rfl hg38B) (P_move rfl) rfl (fun _ _ _ _ h => h) ?_
                  obtain ⟨r127, hr128, h⟩ := bind_e h
                  refine AJ_op 18 524287 rfl (by kernel_rfl) rfl (GY_yes rfl rfl rfl hg38B) <| O_call (L_regionlog_Log_IsDirty hr128) rfl Try.call16 (Dels.cons del0 (Dels.cons del0 Dels.nil)) rfl fun _ _ => ⟨fun h => absurd h (by decide), ?_⟩
                  refine AJ_takeP 19 1048575 rfl (by kernel_rfl) rfl (GY_yes rfl rfl rfl hg26B) (P_pickF rfl hg38B rfl) rfl (fun _ _ _ _ h => h) <| AJ_takeP 20 2097151 rfl (by kernel_rfl) rfl (GY_none rfl) (P_pickT rfl hg26B rfl) rfl (fun _ _ _ _ h => h) <| AJ_done (by kernel_rfl) <| QJ_ent (Ent.take del1 (Ent.take del4 (Ent.take del4 (Ent.take del4 (Ent.take del4 (Ent.drop (Ent.drop (Ent.drop (Ent.drop Ent.refl))))))))) <| QJ_then <| CJ_condP rfl Iff.rfl (fun hg39 => ?_) (fun hg39 => ?_)
                  ·
                   replace h := ite_t hg39 h
                   refine CJ_seq <| CJ_region <| RJ_op rfl <| OJ_P (P_assign rfl) rfl <| RJ_nil <| QJ_then <| CJ_ret <| QJ_then_ret <| QJ_block_ret <| QJ_then_ret <| QJ_round_ret <| QJ_block_ret <| QJ_then_ret ?_
                   have hE := Option.some.inj h
                   replace hE := seq_inr hK12 hE.symm
                   subst hE
                   refine QJ_end (res1 Try.results3 rfl) <| CSpec.close () ?_ ?_ (Ent.take del4 (Ent.drop (Ent.drop (Ent.drop (Ent.drop Ent.refl)))))
                   · rfl
                   · trivial
                  ·
                   replace h := ite_f hg39 h
                   refine CJ_skip <| QJ_then <| CJ_seq <| CJ_seq <| CJ_region <| RJ_op rfl <| OJ_P (P_move rfl) rfl <| RJ_op rfl <| OJ_V (V_index (i := 0) rfl rfl rfl (by have hz : 0 < r52.length := (by omega); have hy := hdl57; omega) foc2 (Reads.sl _ _ _) Try.runUnderlying32 Try.sizeOf38) rfl <| RJ_ent (Ent.trans (Ent.take del1 Ent.refl) (Rs_at (fun _ _ => Dup_DevP) (dx := dv0) (dh := tyDev.dflt) (i := 0) (by omega))) <| RJ_op rfl <| OJ_V (V_loadE rfl rfl (by have hz : 0 < r52.length := (by omega); have hy := hdl57; omega) foc3 (Reads.sl _ _ _) rfl rfl Try.isAgg38) rfl <| RJ_op rfl <| OJ_P (P_move rfl) rfl ?_
                   obtain ⟨r130, hr131, h⟩ := bind_e h
                   refine RJ_op rfl <| O_call (L_regionlog_Format hr131) rfl Try.call17 (Dels.cons del0 (Dels.cons del1 Dels.nil)) rfl fun _ _ => RJ_op rfl <| OJ_P (P_move rfl) rfl <| RJ_op rfl <| OJ_P (P_neq (a := r130.1) (b := ((a24 : Nat) : Int)) rfl rfl) rfl <| RJ_op rfl <| OJ_P (P_move rfl) rfl <| RJ_splitP 147 rfl bT_dec (fun hg40B hg40 => ?_) (fun hg40B hg40 => ?_)
                   ·
                    replace h := ite_t hg40 h
                    refine RJ_gn (GY_no rfl rfl rfl hg40B) rfl rfl <| RJ_gn (GY_no rfl rfl rfl hg40B) rfl rfl <| RJ_gn (GY_no rfl rfl rfl hg40B) rfl rfl <| RJ_op rfl <| OJ_P (P_pickT rfl hg40B rfl) rfl <| RJ_nil <| QJ_then <| CJ_condT rfl rfl <| CJ_seq <| CJ_region <| RJ_op rfl <| OJ_P (P_assign rfl) rfl <| RJ_nil <| QJ_then <| CJ_ret <| QJ_then_ret <| QJ_block_ret <| QJ_then_ret <| QJ_round_ret <| QJ_block_ret <| QJ_then_ret ?_
                    have hE := Option.some.inj h
                    replace hE := seq_inr hK12 hE.symm
                    subst hE
                    refine QJ_end (res1 Try.results3 rfl) <| CSpec.close () ?_ ?_ (Ent.take del5 (Ent.drop (Ent.drop (Ent.drop (Ent.drop (Ent.drop Ent.refl))))))
                    · rfl
                    · trivial
                   ·
                    replace h := ite_f hg40 h
                    refine RJ_gy (GY_yes rfl rfl rfl hg40B) <| OJ_P (P_move rfl) rfl <| RJ_gy (GY_yes rfl rfl rfl hg40B) <| O_call (c_Unflushed) rfl Try.call18 (Dels.cons del1 Dels.nil) rfl fun _ _ => RJ_gy (GY_yes rfl rfl rfl hg40B) <| OJ_P (P_neq (a := ((r130.2.log.length : Nat) : Int)) (b := (0 : Int)) rfl rfl) rfl <| RJ_op rfl <| OJ_P (P_pickF rfl hg40B rfl) rfl <| RJ_nil <| QJ_then <| CJ_condP rfl bT_dec (fun hg41 => ?_) (fun hg41 => ?_)
                    ·
                     replace h := ite_t hg41 h
                     refine CJ_seq <| CJ_region <| RJ_op rfl <| OJ_P (P_assign rfl) rfl <| RJ_nil <| QJ_then <| CJ_ret <| QJ_then_ret <| QJ_block_ret <| QJ_then_ret <| QJ_round_ret <| QJ_block_ret <| QJ_then_ret ?_
                     have hE := Option.some.inj h
                     replace hE := seq_inr hK12 hE.symm
                     subst hE
                     refine QJ_end (res1 Try.results3 rfl) <| CSpec.close () ?_ ?_ (Ent.take del5 (Ent.drop (Ent.drop (Ent.drop (Ent.drop (Ent.drop Ent.refl))))))
                     · rfl
                     · trivial
                    ·
                     replace h := ite_f hg41 h
                     refine CJ_skip <| QJ_then <| CJ_seq <| CJ_region <| RJ_op rfl <| OJ_P (P_move rfl) rfl <| RJ_op rfl <| OJ_V (V_index (i := 0) rfl rfl rfl (by have hz : 0 < r52.length := (by omega); have hy := hdl57; omega) foc3 (Reads.sl _ _ _) Try.runUnderlying32 Try.sizeOf38) rfl <| RJ_ent (Ent.trans (Ent.take del2 Ent.refl) (Rs_at (fun _ _ => Dup_DevP) (dx := dv0) (dh := tyDev.dflt) (i := 0) (by omega))) <| RJ_op rfl <| OJ_V (V_loadE rfl rfl (by have hz : 0 < r52.length := (by omega); have hy := hdl57; omega) foc4 (Reads.sl _ _ _) rfl rfl Try.isAgg38) rfl <| RJ_op rfl <| OJ_P (P_move rfl) rfl ?_
                     obtain ⟨r133, hr134, h⟩ := bind_e h
                     refine RJ_op rfl <| O_call (L_regionlog_Open hr134) rfl Try.call12 (Dels.cons del0 (Dels.cons del1 Dels.nil)) rfl fun X135 _ => RJ_op rfl <| OJ_P (P_move rfl) rfl <| RJ_op rfl <| OJ_P (P_extract rfl rfl) rfl <| RJ_op rfl <| OJ_P (P_extract rfl rfl) rfl <| RJ_op rfl <| OJ_P (P_assign rfl) rfl <| RJ_op rfl <| OJ_P (P_assign rfl) rfl <| RJ_nil <| QJ_ent (Ent.take del1 (Ent.take del1 (Ent.take del4 (Ent.take del4 (Ent.drop (Ent.drop (Ent.drop (Ent.drop Ent.refl)))))))) <| QJ_then <| CJ_seq <| CJ_region <| RJ_op rfl <| OJ_P (P_move rfl) rfl <| RJ_op rfl <| OJ_P (P_eql (a := ((a24 : Nat) : Int)) (b := (0 : Int)) rfl rfl) rfl <| RJ_op rfl <| OJ_P (P_move rfl) rfl <| RJ_splitP 162 rfl bT_dec (fun hg42B hg42 => ?_) (fun hg42B hg42 => ?_)
                     ·
                      replace h := ite_t hg42 h
                      refine RJ_gy (GY_yes rfl rfl rfl hg42B) <| OJ_P (P_move rfl) rfl <| RJ_gy (GY_yes rfl rfl rfl hg42B) <| OJ_P (P_neq (a := r133.2) (b := (0 : Int)) rfl rfl) rfl <| RJ_gy (GY_yes rfl rfl rfl hg42B) <| OJ_P (P_move rfl) rfl <| RJ_mbF rfl rfl rfl (fun hG137 => have hP138 : ¬ (r133.2 ≠ (0 : Int)) := nP (bT_dec) hG137; VJ_P (P_move rfl)) <| RJ_splitP 165 rfl bT_dec (fun hg43B hg43 => ?_) (fun hg43B hg43 => ?_)
                      ·
                       replace h := ite_t hg43 h
                       refine RJ_gn (GY_no rfl rfl rfl hg43B) rfl rfl <| RJ_gy (GY_yes rfl rfl rfl hg42B) <| OJ_P (P_pickT rfl hg43B rfl) rfl <| RJ_gy (GY_yes rfl rfl rfl hg42B) <| OJ_P (P_move rfl) rfl <| RJ_gn (GY_no rfl rfl rfl rfl) rfl rfl <| RJ_gn (GY_no rfl rfl rfl rfl) rfl rfl <| RJ_gn (GY_no rfl rfl rfl rfl) rfl rfl <| RJ_gn (GY_no rfl rfl rfl rfl) rfl rfl <| RJ_gy (GY_yes rfl rfl rfl hg42B) <| OJ_P (P_pickT rfl rfl rfl) rfl <| RJ_op rfl <| OJ_P (P_pickT rfl hg42B rfl) rfl <| RJ_nil <| QJ_then <| CJ_condT rfl rfl <| CJ_seq <| CJ_region <| RJ_op rfl <| OJ_P (P_assign rfl) rfl <| RJ_nil <| QJ_then <| CJ_ret <| QJ_block_ret <| QJ_then_ret <| QJ_round_ret <| QJ_block_ret <| QJ_then_ret ?_
                       have hE := Option.some.inj h
                       replace hE := seq_inr hK12 hE.symm
                       subst hE
                       refine QJ_end (res1 Try.results3 rfl) <| CSpec.close () ?_ ?_ (Ent.take del3 (Ent.drop (Ent.drop (Ent.drop Ent.refl))))
                       · rfl
                       · trivial
                      ·
                       replace h := ite_f hg43 h
                       rcases opt_e h with ⟨ht141, h⟩ | ⟨o142, ht141, h⟩
                       ·
                        rw [ht141]
                        refine RJ_ent (Ent.take del0 (Ent.take del1 (Ent.take del1 (Ent.drop Ent.refl)))) <| RJ_gy (GY_yes rfl rfl rfl hg43B) <| OJ_P (P_eqlNN (mbx (not_f hg43B) rfl) rfl Try.underlying34) rfl <| RJ_gy (GY_yes rfl rfl rfl hg42B) <| OJ_P (P_pickF rfl hg43B rfl) rfl <| RJ_gy (GY_yes rfl rfl rfl hg42B) <| OJ_P (P_move rfl) rfl <| RJ_gn (GY_no rfl rfl rfl rfl) rfl rfl <| RJ_gn (GY_no rfl rfl rfl rfl) rfl rfl <| RJ_gn (GY_no rfl rfl rfl rfl) rfl rfl <| RJ_gn (GY_no rfl rfl rfl rfl) rfl rfl <| RJ_gy (GY_yes rfl rfl rfl hg42B) <| OJ_P (P_pickT rfl rfl rfl) rfl <| RJ_op rfl <| OJ_P (P_pickT rfl hg42B rfl) rfl <| RJ_nil <| QJ_then <| CJ_condT rfl rfl <| CJ_seq <| CJ_region <| RJ_op rfl <| OJ_P (P_assign rfl) rfl <| RJ_nil <| QJ_then <| CJ_ret <| QJ_block_ret <| QJ_then_ret <| QJ_round_ret <| QJ_block_ret <| QJ_then_ret ?_
                        have hE := Option.some.inj h
                        replace hE := seq_inr hK12 hE.symm
                        subst hE
                        refine QJ_end (res1 Try.results3 rfl) <| CSpec.close () ?_ ?_ (Ent.take del2 (Ent.drop (Ent.drop Ent.refl)))
                        · rfl
                        · trivial
                       ·
                        rw [ht141]
                        refine RJ_ent (Ent.takeC (A' := LogP X46 X135 o142) del1 rfl Ent.refl) <| RJ_gy (GY_yes rfl rfl rfl hg43B) <| OJ_P (P_eqlPN (mbx (not_f hg43B) rfl) rfl Try.underlying34) rfl <| RJ_gy (GY_yes rfl rfl rfl hg42B) <| OJ_P (P_pickF rfl hg43B rfl) rfl <| RJ_gy (GY_yes rfl rfl rfl hg42B) <| OJ_P (P_move rfl) rfl <| RJ_gy (GY_yes rfl rfl rfl rfl) <| OJ_P (P_move rfl) rfl ?_
                        obtain ⟨r143, hr144, h⟩ := bind_e h
                        refine RJ_gy (GY_yes rfl rfl rfl rfl) <| O_call (L_regionlog_Log_Dirty hr144) rfl Try.call14 (Dels.cons del0 (Dels.cons del0 Dels.nil)) rfl fun X145 _ => RJ_gy (GY_yes rfl rfl rfl rfl) <| OJ_V (V_len rfl foc2 (Reads.sl _ _ _) Try.runUnderlying24) rfl <| RJ_gy (GY_yes rfl rfl rfl rfl) <| OJ_P (P_neq (a := ((r143.length : Nat) : Int)) (b := (0 : Int)) rfl rfl) rfl <| RJ_gy (GY_yes rfl rfl rfl hg42B) <| OJ_P (P_pickF rfl rfl rfl) rfl <| RJ_op rfl <| OJ_P (P_pickT rfl hg42B rfl) rfl <| RJ_nil <| QJ_then <| CJ_condP rfl bT_dec (fun hg44 => ?_) (fun hg44 => ?_)
                        ·
                         replace h := ite_t hg44 h
                         refine CJ_seq <| CJ_region <| RJ_op rfl <| OJ_P (P_assign rfl) rfl <| RJ_nil <| QJ_then <| CJ_ret <| QJ_block_ret <| QJ_then_ret <| QJ_round_ret <| QJ_block_ret <| QJ_then_ret ?_
                         have hE := Option.some.inj h
                         replace hE := seq_inr hK12 hE.symm
                         subst hE
                         refine QJ_end (res1 Try.results3 rfl) <| CSpec.close () ?_ ?_ (Ent.take del4 (Ent.drop (Ent.drop (Ent.drop (Ent.drop Ent.refl)))))
                         · rfl
                         · trivial
                        ·
                         replace h := ite_f hg44 h
                         refine CJ_skip <| QJ_block_normal <| QJ_then <| CJ_region <| RJ_op rfl <| OJ_P (P_move rfl) rfl ?_
                         obtain ⟨hg45, h⟩ := grd_Ne h
                         refine RJ_op rfl <| OJ_P (PJ_eq (P_add (a := ((x15 : Nat) : Int)) (b := (1 : Int)) rfl rfl (nat_in hg45)) rfl) rfl <| RJ_op rfl <| OJ_P (P_assign rfl) rfl <| RJ_nil <| QJ_nextR ⟨n, (x15 + 1)⟩ (Nat.lt_succ_self _) ?_ (by repeat (first | exact Kp.base | exact Kp.self | refine Kp.cons rfl ?_ | refine Kp.forget rfl ?_)) ?_ (Ent.take del3 (Ent.take del3 (Ent.drop (Ent.drop (Ent.drop Ent.refl)))))
                         · exact h
                         · exact ⟨rfl, True.intro⟩
                     ·
                      replace h := ite_f hg42 h
                      refine RJ_gn (GY_no rfl rfl rfl hg42B) rfl rfl <| RJ_gn (GY_no rfl rfl rfl hg42B) rfl rfl <| RJ_gn (GY_no rfl rfl rfl hg42B) rfl rfl <| RJ_gn (GY_undef rfl rfl rfl) rfl rfl <| RJ_gn (GY_undef rfl rfl rfl) rfl rfl <| RJ_gn (GY_no rfl rfl rfl hg42B) rfl rfl <| RJ_gn (GY_no rfl rfl rfl hg42B) rfl rfl <| RJ_gn (GY_undef rfl rfl rfl) rfl rfl <| RJ_gn (GY_undef rfl rfl rfl) rfl rfl <| RJ_gn (GY_undef rfl rfl rfl) rfl rfl <| RJ_gn (GY_undef rfl rfl rfl) rfl rfl <| RJ_gn (GY_no rfl rfl rfl hg42B) rfl rfl <| RJ_op rfl <| OJ_P (P_pickF rfl hg42B rfl) rfl <| RJ_nil <| QJ_then <| CJ_condF rfl rfl <| CJ_skip <| QJ_block_normal <| QJ_then <| CJ_region <| RJ_op rfl <| OJ_P (P_move rfl) rfl ?_
                      obtain ⟨hg46, h⟩ := grd_Ne h
                      refine RJ_op rfl <| OJ_P (PJ_eq (P_add (a := ((x15 : Nat) : Int)) (b := (1 : Int)) rfl rfl (nat_in hg46)) rfl) rfl <| RJ_op rfl <| OJ_P (P_assign rfl) rfl <| RJ_nil <| QJ_nextR ⟨n, (x15 + 1)⟩ (Nat.lt_succ_self _) ?_ (by repeat (first | exact Kp.base | exact Kp.self | refine Kp.cons rfl ?_ | refine Kp.forget rfl ?_)) ?_ (Ent.take del2 (Ent.take del2 (Ent.drop (Ent.drop Ent.refl))))
                      · exact h
                      · exact ⟨rfl, True.intro⟩
               ·
                replace h := ite_f hg26 h
                refine AJ_skip 3 15 rfl (by kernel_rfl) rfl (GY_no rfl rfl rfl hg26B) rfl (fun _ _ _ _ h => h) <| AJ_skip 5 47 rfl (by kernel_rfl) rfl (GY_no rfl rfl rfl hg26B) rfl (fun _ _ _ _ h => h) <| AJ_skip 6 111 rfl (by kernel_rfl) rfl (GY_no rfl rfl rfl hg26B) rfl (fun _ _ _ _ h => h) <| AJ_skip 7 239 rfl (by kernel_rfl) rfl (GY_no rfl rfl rfl hg26B) rfl (fun _ _ _ _ h => h) <| AJ_skip 4 255 rfl (by kernel_rfl) rfl (GY_no rfl rfl rfl hg26B) rfl (fun _ _ _ _ h => h) <| AJ_skip 8 511 rfl (by kernel_rfl) rfl (GY_no rfl rfl rfl hg26B) rfl (fun _ _ _ _ h => h) <| AJ_skip 9 1023 rfl (by kernel_rfl) rfl (GY_no rfl rfl rfl hg26B) rfl (fun _ _ _ _ h => h) <| AJ_skip 10 2047 rfl (by kernel_rfl) rfl (GY_no rfl rfl rfl hg26B) rfl (fun _ _ _ _ h => h) <| AJ_skip 11 4095 rfl (by kernel_rfl) rfl (GY_no rfl rfl rfl hg26B) rfl (fun _ _ _ _ h => h) <| AJ_skip 12 8191 rfl (by kernel_rfl) rfl (GY_undef rfl rfl rfl) rfl (fun _ _ _ _ h => h) <| AJ_skip 13 16383 rfl (by kernel_rfl) rfl (GY_undef rfl rfl rfl) rfl (fun _ _ _ _ h => h) <| AJ_skip 14 32767 rfl (by kernel_rfl) rfl (GY_no rfl rfl rfl hg26B) rfl (fun _ _ _ _ h => h) <| AJ_skip 15 65535 rfl (by kernel_rfl) rfl (GY_no rfl rfl rfl hg26B) rfl (fun _ _ _ _ h => h) <| AJ_skip 16 131071 rfl (by kernel_rfl) rfl (GY_undef rfl rfl rfl) rfl (fun _ _ _ _ h => h) <| AJ_skip 17 262143 rfl (by kernel_rfl) rfl (GY_undef rfl rfl rfl) rfl (fun _ _ _ _ h => h) <| AJ_skip 18 524287 rfl (by kernel_rfl) rfl (GY_undef rfl rfl rfl) rfl (fun _ _ _ _ h => h) ?_
                refine AJ_skip 19 1048575 rfl (by kernel_rfl) rfl (GY_no rfl rfl rfl hg26B) rfl (fun _ _ _ _ h => h) <| AJ_takeP 20 2097151 rfl (by kernel_rfl) rfl (GY_none rfl) (P_pickF rfl hg26B rfl) rfl (fun _ _ _ _ h => h) <| AJ_done (by kernel_rfl) <| QJ_ent (Ent.take del1 (Ent.take del1 (Ent.take del1 (Ent.take del2 (Ent.take del2 (Ent.drop (Ent.drop Ent.refl))))))) <| QJ_then <| CJ_condF rfl rfl <| CJ_skip <| QJ_then <| CJ_seq <| CJ_seq <| CJ_region <| RJ_op rfl <| OJ_P (P_move rfl) rfl <| RJ_op rfl <| OJ_V (V_index (i := 0) rfl rfl rfl (by have hz : 0 < r52.length := (by omega); have hy := hdl57; omega) foc2 (Reads.sl _ _ _) Try.runUnderlying32 Try.sizeOf38) rfl <| RJ_ent (Ent.trans (Ent.take del1 Ent.refl) (Rs_at (fun _ _ => Dup_DevP) (dx := dv0) (dh := tyDev.dflt) (i := 0) (by omega))) <| RJ_op rfl <| OJ_V (V_loadE rfl rfl (by have hz : 0 < r52.length := (by omega); have hy := hdl57; omega) foc3 (Reads.sl _ _ _) rfl rfl Try.isAgg38) rfl <| RJ_op rfl <| OJ_P (P_move rfl) rfl ?_
                obtain ⟨r148, hr149, h⟩ := bind_e h
                refine RJ_op rfl <| O_call (L_regionlog_Format hr149) rfl Try.call17 (Dels.cons del0 (Dels.cons del1 Dels.nil)) rfl fun _ _ => RJ_op rfl <| OJ_P (P_move rfl) rfl <| RJ_op rfl <| OJ_P (P_neq (a := r148.1) (b := ((a24 : Nat) : Int)) rfl rfl) rfl <| RJ_op rfl <| OJ_P (P_move rfl) rfl <| RJ_splitP 147 rfl bT_dec (fun hg47B hg47 => ?_) (fun hg47B hg47 => ?_)
                ·
                 replace h := ite_t hg47 h
                 refine RJ_gn (GY_no rfl rfl rfl hg47B) rfl rfl <| RJ_gn (GY_no rfl rfl rfl hg47B) rfl rfl <| RJ_gn (GY_no rfl rfl rfl hg47B) rfl rfl <| RJ_op rfl <| OJ_P (P_pickT rfl hg47B rfl) rfl <| RJ_nil <| QJ_then <| CJ_condT rfl rfl <| CJ_seq <| CJ_region <| RJ_op rfl <| OJ_P (P_assign rfl) rfl <| RJ_nil <| QJ_then <| CJ_ret <| QJ_then_ret <| QJ_block_ret <| QJ_then_ret <| QJ_round_ret <| QJ_block_ret <| QJ_then_ret ?_
                 have hE := Option.some.inj h
                 replace hE := seq_inr hK12 hE.symm
                 subst hE
                 refine QJ_end (res1 Try.results3 rfl) <| CSpec.close () ?_ ?_ (Ent.take del5 (Ent.drop (Ent.drop (Ent.drop (Ent.drop (Ent.drop Ent.refl))))))
                 · rfl
                 · trivial
                ·
                 replace h := ite_f hg47 h
                 refine RJ_gy (GY_yes rfl rfl rfl hg47B) <| OJ_P (P_move rfl) rfl <| RJ_gy (GY_yes rfl rfl rfl hg47B) <| O_call (c_Unflushed) rfl Try.call18 (Dels.cons del1 Dels.nil) rfl fun _ _ => RJ_gy (GY_yes rfl rfl rfl hg47B) <| OJ_P (P_neq (a := ((r148.2.log.length : Nat) : Int)) (b := (0 : Int)) rfl rfl) rfl <| RJ_op rfl <| OJ_P (P_pickF rfl hg47B rfl) rfl <| RJ_nil <| QJ_then <| CJ_condP rfl bT_dec (fun hg48 => ?_) (fun hg48 => ?_)
                 ·
                  replace h := ite_t hg48 h
                  refine CJ_seq <| CJ_region <| RJ_op rfl <| OJ_P (P_assign rfl) rfl <| RJ_nil <| QJ_then <| CJ_ret <| QJ_then_ret <| QJ_block_ret <| QJ_then_ret <| QJ_round_ret <| QJ_block_ret <| QJ_then_ret ?_
                  have hE := Option.some.inj h
                  replace hE := seq_inr hK12 hE.symm
                  subst hE
                  refine QJ_end (res1 Try.results3 rfl) <| CSpec.close () ?_ ?_ (Ent.take del5 (Ent.drop (Ent.drop (Ent.drop (Ent.drop (Ent.drop Ent.refl))))))
                  · rfl
                  · trivial
                 ·
                  replace h := ite_f hg48 h
                  refine CJ_skip <| QJ_then <| CJ_seq <| CJ_region <| RJ_op rfl <| OJ_P (P_move rfl) rfl <| RJ_op rfl <| OJ_V (V_index (i := 0) rfl rfl rfl (by have hz : 0 < r52.length := (by omega); have hy := hdl57; omega) foc3 (Reads.sl _ _ _) Try.runUnderlying32 Try.sizeOf38) rfl <| RJ_ent (Ent.trans (Ent.take del2 Ent.refl) (Rs_at (fun _ _ => Dup_DevP) (dx := dv0) (dh := tyDev.dflt) (i := 0) (by omega))) <| RJ_op rfl <| OJ_V (V_loadE rfl rfl (by have hz : 0 < r52.length := (by omega); have hy := hdl57; omega) foc4 (Reads.sl _ _ _) rfl rfl Try.isAgg38) rfl <| RJ_op rfl <| OJ_P (P_move rfl) rfl ?_
                  obtain ⟨r151, hr152, h⟩ := bind_e h
                  refine RJ_op rfl <| O_call (L_regionlog_Open hr152) rfl Try.call12 (Dels.cons del0 (Dels.cons del1 Dels.nil)) rfl fun X153 _ => RJ_op rfl <| OJ_P (P_move rfl) rfl <| RJ_op rfl <| OJ_P (P_extract rfl rfl) rfl <| RJ_op rfl <| OJ_P (P_extract rfl rfl) rfl <| RJ_op rfl <| OJ_P (P_assign rfl) rfl <| RJ_op rfl <| OJ_P (P_assign rfl) rfl <| RJ_nil <| QJ_ent (Ent.take del1 (Ent.take del1 (Ent.take del4 (Ent.take del4 (Ent.drop (Ent.drop (Ent.drop (Ent.drop Ent.refl)))))))) <| QJ_then <| CJ_seq <| CJ_region <| RJ_op rfl <| OJ_P (P_move rfl) rfl <| RJ_op rfl <| OJ_P (P_eql (a := ((a24 : Nat) : Int)) (b := (0 : Int)) rfl rfl) rfl <| RJ_op rfl <| OJ_P (P_move rfl) rfl <| RJ_splitP 162 rfl bT_dec (fun hg49B hg49 => ?_) (fun hg49B hg49 => ?_)
                  ·
                   replace h := ite_t hg49 h
                   refine RJ_gy (GY_yes rfl rfl rfl hg49B) <| OJ_P (P_move rfl) rfl <| RJ_gy (GY_yes rfl rfl rfl hg49B) <| OJ_P (P_neq (a := r151.2) (b := (0 : Int)) rfl rfl) rfl <| RJ_gy (GY_yes rfl rfl rfl hg49B) <| OJ_P (P_move rfl) rfl <| RJ_mbF rfl rfl rfl (fun hG155 => have hP156 : ¬ (r151.2 ≠ (0 : Int)) := nP (bT_dec) hG155; VJ_P (P_move rfl)) <| RJ_splitP 165 rfl bT_dec (fun hg50B hg50 => ?_) (fun hg50B hg50 => ?_)
                   ·
                    replace h := ite_t hg50 h
                    refine RJ_gn (GY_no rfl rfl rfl hg50B) rfl rfl <| RJ_gy (GY_yes rfl rfl rfl hg49B) <| OJ_P (P_pickT rfl hg50B rfl) rfl <| RJ_gy (GY_yes rfl rfl rfl hg49B) <| OJ_P (P_move rfl) rfl <| RJ_gn (GY_no rfl rfl rfl rfl) rfl rfl <| RJ_gn (GY_no rfl rfl rfl rfl) rfl rfl <| RJ_gn (GY_no rfl rfl rfl rfl) rfl rfl <| RJ_gn (GY_no rfl rfl rfl rfl) rfl rfl <| RJ_gy (GY_yes rfl rfl rfl hg49B) <| OJ_P (P_pickT rfl rfl rfl) rfl <| RJ_op rfl <| OJ_P (P_pickT rfl hg49B rfl) rfl <| RJ_nil <| QJ_then <| CJ_condT rfl rfl <| CJ_seq <| CJ_region <| RJ_op rfl <| OJ_P (P_assign rfl) rfl <| RJ_nil <| QJ_then <| CJ_ret <| QJ_block_ret <| QJ_then_ret <| QJ_round_ret <| QJ_block_ret <| QJ_then_ret ?_
                    have hE := Option.some.inj h
                    replace hE := seq_inr hK12 hE.symm
                    subst hE
                    refine QJ_end (res1 Try.results3 rfl) <| CSpec.close () ?_ ?_ (Ent.take del3 (Ent.drop (Ent.drop (Ent.drop Ent.refl))))
                    · rfl
                    · trivial
                   ·
                    replace h := ite_f hg50 h
                    rcases opt_e h with ⟨ht159, h⟩ | ⟨o160, ht159, h⟩
                    ·
                     rw [ht159]
                     refine RJ_ent (Ent.take del0 (Ent.take del1 (Ent.take del1 (Ent.drop Ent.refl)))) <| RJ_gy (GY_yes rfl rfl rfl hg50B) <| OJ_P (P_eqlNN (mbx (not_f hg50B) rfl) rfl Try.underlying34) rfl <| RJ_gy (GY_yes rfl rfl rfl hg49B) <| OJ_P (P_pickF rfl hg50B rfl) rfl <| RJ_gy (GY_yes rfl rfl rfl hg49B) <| OJ_P (P_move rfl) rfl <| RJ_gn (GY_no rfl rfl rfl rfl) rfl rfl <| RJ_gn (GY_no rfl rfl rfl rfl) rfl rfl <| RJ_gn (GY_no rfl rfl rfl rfl) rfl rfl <| RJ_gn (GY_no rfl rfl rfl rfl) rfl rfl <| RJ_gy (GY_yes rfl rfl rfl hg49B) <| OJ_P (P_pickT rfl rfl rfl) rfl <| RJ_op rfl <| OJ_P (P_pickT rfl hg49B rfl) rfl <| RJ_nil <| QJ_then <| CJ_condT rfl rfl <| CJ_seq <| CJ_region <| RJ_op rfl <| OJ_P (P_assign rfl) rfl <| RJ_nil <| QJ_then <| CJ_ret <| QJ_block_ret <| QJ_then_ret <| QJ_round_ret <| QJ_block_ret <| QJ_then_ret ?_
                     have hE := Option.some.inj h
                     replace hE := seq_inr hK12 hE.symm
                     subst hE
                     refine QJ_end (res1 Try.results3 rfl) <| CSpec.close () ?_ ?_ (Ent.take del2 (Ent.drop (Ent.drop Ent.refl)))
                     · rfl
                     · trivial
                    ·
                     rw [ht159]
                     refine RJ_ent (Ent.takeC (A' := LogP X46 X153 o160) del1 rfl Ent.refl) <| RJ_gy (GY_yes rfl rfl rfl hg50B) <| OJ_P (P_eqlPN (mbx (not_f hg50B) rfl) rfl Try.underlying34) rfl <| RJ_gy (GY_yes rfl rfl rfl hg49B) <| OJ_P (P_pickF rfl hg50B rfl) rfl <| RJ_gy (GY_yes rfl rfl rfl hg49B) <| OJ_P (P_move rfl) rfl <| RJ_gy (GY_yes rfl rfl rfl rfl) <| OJ_P (P_move rfl) rfl ?_
                     obtain ⟨r161, hr162, h⟩ := bind_e h
                     refine RJ_gy (GY_yes rfl rfl rfl rfl) <| O_call (L_regionlog_Log_Dirty hr162) rfl Try.call14 (Dels.cons del0 (Dels.cons del0 Dels.nil)) rfl fun X163 _ => RJ_gy (GY_yes rfl rfl rfl rfl) <| OJ_V (V_len rfl foc2 (Reads.sl _ _ _) Try.runUnderlying24) rfl <| RJ_gy (GY_yes rfl rfl rfl rfl) <| OJ_P (P_neq (a := ((r161.length : Nat) : Int)) (b := (0 : Int)) rfl rfl) rfl <| RJ_gy (GY_yes rfl rfl rfl hg49B) <| OJ_P (P_pickF rfl rfl rfl) rfl <| RJ_op rfl <| OJ_P (P_pickT rfl hg49B rfl) rfl <| RJ_nil <| QJ_then <| CJ_condP rfl bT_dec (fun hg51 => ?_) (fun hg51 => ?_)
                     ·
                      replace h := ite_t hg51 h
                      refine CJ_seq <| CJ_region <| RJ_op rfl <| OJ_P (P_assign rfl) rfl <| RJ_nil <| QJ_then <| CJ_ret <| QJ_block_ret <| QJ_then_ret <| QJ_round_ret <| QJ_block_ret <| QJ_then_ret ?_
                      have hE := Option.some.inj h
                      replace hE := seq_inr hK12 hE.symm
                      subst hE
                      refine QJ_end (res1 Try.results3 rfl) <| CSpec.close () ?_ ?_ (Ent.take del4 (Ent.drop (Ent.drop (Ent.drop (Ent.drop Ent.refl)))))
                      · rfl
                      · trivial
                     ·
                      replace h := ite_f hg51 h
                      refine CJ_skip <| QJ_block_normal <| QJ_then <| CJ_region <| RJ_op rfl <| OJ_P (P_move rfl) rfl ?_
                      obtain ⟨hg52, h⟩ := grd_Ne h
                      refine RJ_op rfl <| OJ_P (PJ_eq (P_add (a := ((x15 : Nat) : Int)) (b := (1 : Int)) rfl rfl (nat_in hg52)) rfl) rfl <| RJ_op rfl <| OJ_P (P_assign rfl) rfl <| RJ_nil <| QJ_nextR ⟨n, (x15 + 1)⟩ (Nat.lt_succ_self _) ?_ (by repeat (first | exact Kp.base | exact Kp.self | refine Kp.cons rfl ?_ | refine Kp.forget rfl ?_)) ?_ (Ent.take del3 (Ent.take del3 (Ent.drop (Ent.drop (Ent.drop Ent.refl)))))
                      · exact h
                      · exact ⟨rfl, True.intro⟩
                  ·
                   replace h := ite_f hg49 h
                   refine RJ_gn (GY_no rfl rfl rfl hg49B) rfl rfl <| RJ_gn (GY_no rfl rfl rfl hg49B) rfl rfl <| RJ_gn (GY_no rfl rfl rfl hg49B) rfl rfl <| RJ_gn (GY_undef rfl rfl rfl) rfl rfl <| RJ_gn (GY_undef rfl rfl rfl) rfl rfl <| RJ_gn (GY_no rfl rfl rfl hg49B) rfl rfl <| RJ_gn (GY_no rfl rfl rfl hg49B) rfl rfl <| RJ_gn (GY_undef rfl rfl rfl) rfl rfl <| RJ_gn (GY_undef rfl rfl rfl) rfl rfl <| RJ_gn (GY_undef rfl rfl rfl) rfl rfl <| RJ_gn (GY_undef rfl rfl rfl) rfl rfl <| RJ_gn (GY_no rfl rfl rfl hg49B) rfl rfl <| RJ_op rfl <| OJ_P (P_pickF rfl hg49B rfl) rfl <| RJ_nil <| QJ_then <| CJ_condF rfl rfl <| CJ_skip <| QJ_block_normal <| QJ_then <| CJ_region <| RJ_op rfl <| OJ_P (P_move rfl) rfl ?_
                   obtain ⟨hg53, h⟩ := grd_Ne h
                   refine RJ_op rfl <| OJ_P (PJ_eq (P_add (a := ((x15 : Nat) : Int)) (b := (1 : Int)) rfl rfl (nat_in hg53)) rfl) rfl <| RJ_op rfl <| OJ_P (P_assign rfl) rfl <| RJ_nil <| QJ_nextR ⟨n, (x15 + 1)⟩ (Nat.lt_succ_self _) ?_ (by repeat (first | exact Kp.base | exact Kp.self | refine Kp.cons rfl ?_ | refine Kp.forget rfl ?_)) ?_ (Ent.take del2 (Ent.take del2 (Ent.drop (Ent.drop Ent.refl))))
                   · exact h
                   · exact ⟨rfl, True.intro⟩
          ·
           replace h := ite_f hg11 h
           refine AJ_skip 3 15 rfl (by kernel_rfl) rfl (GY_no rfl rfl rfl hg11B) rfl (fun _ _ _ _ h => h) <| AJ_skip 4 31 rfl (by kernel_rfl) rfl (GY_no rfl rfl rfl hg11B) rfl (fun _ _ _ _ h => h) <| AJ_skip 5 63 rfl (by kernel_rfl) rfl (GY_no rfl rfl rfl hg11B) rfl (fun _ _ _ _ h => h) <| AJ_skip 6 127 rfl (by kernel_rfl) rfl (GY_no rfl rfl rfl hg11B) rfl (fun _ _ _ _ h => h) <| AJ_skip 7 255 rfl (by kernel_rfl) rfl (GY_no rfl rfl rfl hg11B) rfl (fun _ _ _ _ h => h) <| AJ_skip 8 511 rfl (by kernel_rfl) rfl (GY_no rfl rfl rfl hg11B) rfl (fun _ _ _ _ h => h) <| AJ_takeP 9 1023 rfl (by kernel_rfl) rfl (GY_none rfl) (P_pickF rfl hg11B rfl) rfl (fun _ _ _ _ h => h) <| AJ_done (by kernel_rfl) <| QJ_then <| CJ_condF rfl rfl <| CJ_skip <| QJ_then <| CJ_seq <| CJ_seq <| CJ_region <| RJ_op rfl <| OJ_P (P_move rfl) rfl <| RJ_op rfl <| OJ_P (P_move rfl) rfl <| RJ_op rfl <| OJ_P (P_neq (a := r59.2) (b := ((a24 : Nat) : Int)) rfl rfl) rfl <| RJ_op rfl <| OJ_P (P_move rfl) rfl <| RJ_mbF rfl rfl rfl (fun hG165 => have hP166 : ¬ (r59.2 ≠ ((a24 : Nat) : Int)) := nP (bT_dec) hG165; VJ_P (P_move rfl)) <| RJ_splitP 112 rfl bT_dec (fun hg54B hg54 => ?_) (fun hg54B hg54 => ?_)
           ·
            replace h := ite_t hg54 h
            refine RJ_gn (GY_no rfl rfl rfl hg54B) rfl rfl <| RJ_gn (GY_no rfl rfl rfl hg54B) rfl rfl <| RJ_gn (GY_no rfl rfl rfl hg54B) rfl rfl <| RJ_gn (GY_no rfl rfl rfl hg54B) rfl rfl <| RJ_op rfl <| OJ_P (P_pickT rfl hg54B rfl) rfl <| RJ_nil <| QJ_then <| CJ_condT rfl rfl <| CJ_seq <| CJ_region <| RJ_op rfl <| OJ_P (P_assign rfl) rfl <| RJ_nil <| QJ_ent (Ent.take del0 (Ent.take del4 (Ent.take del4 (Ent.drop (Ent.drop (Ent.drop (Ent.drop Ent.refl))))))) <| QJ_then <| CJ_ret <| QJ_then_ret <| QJ_block_ret <| QJ_then_ret <| QJ_round_ret <| QJ_block_ret <| QJ_then_ret ?_
            have hE := Option.some.inj h
            replace hE := seq_inr hK12 hE.symm
            subst hE
            refine QJ_end (res1 Try.results3 rfl) <| CSpec.close () ?_ ?_ (Ent.take del2 (Ent.drop (Ent.drop Ent.refl)))
            · rfl
            · trivial
           ·
            replace h := ite_f hg54 h
            rcases opt_e h with ⟨ht169, h⟩ | ⟨o170, ht169, h⟩
            ·
             rw [ht169]
             refine RJ_ent (Ent.take del0 (Ent.take del1 (Ent.take del1 (Ent.take del1 (Ent.take del1 (Ent.take del1 (Ent.drop Ent.refl))))))) <| RJ_gy (GY_yes rfl rfl rfl hg54B) <| OJ_P (P_eqlNN (mbx (not_f hg54B) rfl) rfl Try.underlying34) rfl <| RJ_gy (GY_yes rfl rfl rfl hg54B) <| OJ_P (P_move rfl) rfl <| RJ_gy (GY_yes rfl rfl rfl hg54B) <| OJ_P (P_neq (a := r59.2) (b := (0 : Int)) rfl rfl) rfl <| RJ_gy (GY_yes rfl rfl rfl hg54B) <| OJ_P (P_neqB rfl rfl Try.underlying4) rfl <| RJ_op rfl <| OJ_P (P_pickF rfl hg54B rfl) rfl <| RJ_nil <| QJ_then <| CJ_condP rfl (bT_not (bT_beq Iff.rfl bT_dec)) (fun hg55 => ?_) (fun hg55 => ?_)
             ·
              replace h := ite_t hg55 h
              refine CJ_seq <| CJ_region <| RJ_op rfl <| OJ_P (P_assign rfl) rfl <| RJ_nil <| QJ_then <| CJ_ret <| QJ_then_ret <| QJ_block_ret <| QJ_then_ret <| QJ_round_ret <| QJ_block_ret <| QJ_then_ret ?_
              have hE := Option.some.inj h
              replace hE := seq_inr hK12 hE.symm
              subst hE
              refine QJ_end (res1 Try.results3 rfl) <| CSpec.close () ?_ ?_ (Ent.take del5 (Ent.drop (Ent.drop (Ent.drop (Ent.drop (Ent.drop Ent.refl))))))
              · rfl
              · trivial
             ·
              replace h := ite_f hg55 h
              refine CJ_skip <| QJ_then <| CJ_seq <| CJ_seq <| AJ_startH 271104 (by kernel_rfl) rfl <| AJ_takeP 0 1 rfl (by kernel_rfl) rfl (GY_none rfl) (P_move rfl) rfl (fun _ _ _ _ h => h) <| AJ_takeP 1 3 rfl (by kernel_rfl) rfl (GY_none rfl) (P_eql (a := r59.2) (b := (0 : Int)) rfl rfl) rfl (fun _ _ _ _ h => h) <| AJ_takeP 2 7 rfl (by kernel_rfl) rfl (GY_none rfl) (P_move rfl) rfl (fun _ _ _ _ h => h) <| AJ_splitP 121 rfl bT_dec (fun hg56B hg56 => ?_) (fun hg56B hg56 => ?_)
              ·
               replace h := ite_t hg56 h
               refine AJ_takeP 3 15 rfl (by kernel_rfl) rfl (GY_yes rfl rfl rfl hg56B) (P_move rfl) rfl (fun _ _ _ _ h => h) <| AJ_takeP 5 47 rfl (by kernel_rfl) rfl (GY_yes rfl rfl rfl hg56B) (P_move rfl) rfl (fun _ _ _ _ h => h) ?_
               obtain ⟨hg57, h⟩ := grd_de h
               refine AJ_takeV 6 111 rfl (by kernel_rfl) rfl (by kernel_rfl) (by kernel_rfl) (GY_yes rfl rfl rfl hg56B) Ent.refl (V_slice (l := 1) (h := a38.length) rfl foc3 (Reads.sl _ _ _) ⟨_, rfl⟩ rfl (by omega) (by omega) Try.underlying22 Try.sizeOf27) rfl (fun _ _ _ _ h => h) <| AJ_takeP 7 239 rfl (by kernel_rfl) rfl (GY_yes rfl rfl rfl hg56B) (P_move rfl) rfl (fun _ _ _ _ h => h) ?_
               exact none_e h
              ·
               replace h := ite_f hg56 h
               refine AJ_skip 3 15 rfl (by kernel_rfl) rfl (GY_no rfl rfl rfl hg56B) rfl (fun _ _ _ _ h => h) <| AJ_skip 5 47 rfl (by kernel_rfl) rfl (GY_no rfl rfl rfl hg56B) rfl (fun _ _ _ _ h => h) <| AJ_skip 6 111 rfl (by kernel_rfl) rfl (GY_no rfl rfl rfl hg56B) rfl (fun _ _ _ _ h => h) <| AJ_skip 7 239 rfl (by kernel_rfl) rfl (GY_no rfl rfl rfl hg56B) rfl (fun _ _ _ _ h => h) <| AJ_skip 4 255 rfl (by kernel_rfl) rfl (GY_no rfl rfl rfl hg56B) rfl (fun _ _ _ _ h => h) <| AJ_skip 8 511 rfl (by kernel_rfl) rfl (GY_no rfl rfl rfl hg56B) rfl (fun _ _ _ _ h => h) <| AJ_skip 9 1023 rfl (by kernel_rfl) rfl (GY_no rfl rfl rfl hg56B) rfl (fun _ _ _ _ h => h) <| AJ_skip 10 2047 rfl (by kernel_rfl) rfl (GY_no rfl rfl rfl hg56B) rfl (fun _ _ _ _ h => h) <| AJ_skip 11 4095 rfl (by kernel_rfl) rfl (GY_no rfl rfl rfl hg56B) rfl (fun _ _ _ _ h => h) <| AJ_skip 12 8191 rfl (by kernel_rfl) rfl (GY_undef rfl rfl rfl) rfl (fun _ _ _ _ h => h) <| AJ_skip 13 16383 rfl (by kernel_rfl) rfl (GY_undef rfl rfl rfl) rfl (fun _ _ _ _ h => h) <| AJ_skip 14 32767 rfl (by kernel_rfl) rfl (GY_no rfl rfl rfl hg56B) rfl (fun _ _ _ _ h => h) <| AJ_skip 15 65535 rfl (by kernel_rfl) rfl (GY_no rfl rfl rfl hg56B) rfl (fun _ _ _ _ h => h) <| AJ_skip 16 131071 rfl (by kernel_rfl) rfl (GY_undef rfl rfl rfl) rfl (fun _ _ _ _ h => h) <| AJ_skip 17 262143 rfl (by kernel_rfl) rfl (GY_undef rfl rfl rfl) rfl (fun _ _ _ _ h => h) <| AJ_skip 18 524287 rfl (by kernel_rfl) rfl (GY_undef rfl rfl rfl) rfl (fun _ _ _ _ h => h) ?_
               refine AJ_skip 19 1048575 rfl (by kernel_rfl) rfl (GY_no rfl rfl rfl hg56B) rfl (fun _ _ _ _ h => h) <| AJ_takeP 20 2097151 rfl (by kernel_rfl) rfl (GY_none rfl) (P_pickF rfl hg56B rfl) rfl (fun _ _ _ _ h => h) <| AJ_done (by kernel_rfl) <| QJ_then <| CJ_condF rfl rfl <| CJ_skip <| QJ_then <| CJ_seq <| CJ_seq <| CJ_region <| RJ_op rfl <| OJ_P (P_move rfl) rfl <| RJ_op rfl <| OJ_V (V_index (i := 0) rfl rfl rfl (by have hz : 0 < r52.length := (by omega); have hy := hdl57; omega) foc2 (Reads.sl _ _ _) Try.runUnderlying32 Try.sizeOf38) rfl <| RJ_ent (Ent.trans (Ent.take del1 Ent.refl) (Rs_at (fun _ _ => Dup_DevP) (dx := dv0) (dh := tyDev.dflt) (i := 0) (by omega))) <| RJ_op rfl <| OJ_V (V_loadE rfl rfl (by have hz : 0 < r52.length := (by omega); have hy := hdl57; omega) foc3 (Reads.sl _ _ _) rfl rfl Try.isAgg38) rfl <| RJ_op rfl <| OJ_P (P_move rfl) rfl ?_
               obtain ⟨r172, hr173, h⟩ := bind_e h
               refine RJ_op rfl <| O_call (L_regionlog_Format hr173) rfl Try.call17 (Dels.cons del0 (Dels.cons del1 Dels.nil)) rfl fun _ _ => RJ_op rfl <| OJ_P (P_move rfl) rfl <| RJ_op rfl <| OJ_P (P_neq (a := r172.1) (b := ((a24 : Nat) : Int)) rfl rfl) rfl <| RJ_op rfl <| OJ_P (P_move rfl) rfl <| RJ_splitP 147 rfl bT_dec (fun hg58B hg58 => ?_) (fun hg58B hg58 => ?_)
               ·
                replace h := ite_t hg58 h
                refine RJ_gn (GY_no rfl rfl rfl hg58B) rfl rfl <| RJ_gn (GY_no rfl rfl rfl hg58B) rfl rfl <| RJ_gn (GY_no rfl rfl rfl hg58B) rfl rfl <| RJ_op rfl <| OJ_P (P_pickT rfl hg58B rfl) rfl <| RJ_nil <| QJ_ent (Ent.take del1 (Ent.take del1 (Ent.take del1 (Ent.take del2 (Ent.take del2 (Ent.drop (Ent.drop Ent.refl))))))) <| QJ_then <| CJ_condT rfl rfl <| CJ_seq <| CJ_region <| RJ_op rfl <| OJ_P (P_assign rfl) rfl <| RJ_nil <| QJ_then <| CJ_ret <| QJ_then_ret <| QJ_block_ret <| QJ_then_ret <| QJ_round_ret <| QJ_block_ret <| QJ_then_ret ?_
                have hE := Option.some.inj h
                replace hE := seq_inr hK12 hE.symm
                subst hE
                refine QJ_end (res1 Try.results3 rfl) <| CSpec.close () ?_ ?_ (Ent.take del4 (Ent.drop (Ent.drop (Ent.drop (Ent.drop Ent.refl)))))
                · rfl
                · trivial
               ·
                replace h := ite_f hg58 h
                refine RJ_gy (GY_yes rfl rfl rfl hg58B) <| OJ_P (P_move rfl) rfl <| RJ_gy (GY_yes rfl rfl rfl hg58B) <| O_call (c_Unflushed) rfl Try.call18 (Dels.cons del1 Dels.nil) rfl fun _ _ => RJ_gy (GY_yes rfl rfl rfl hg58B) <| OJ_P (P_neq (a := ((r172.2.log.length : Nat) : Int)) (b := (0 : Int)) rfl rfl) rfl <| RJ_op rfl <| OJ_P (P_pickF rfl hg58B rfl) rfl <| RJ_nil <| QJ_ent (Ent.take del0 (Ent.take del1 (Ent.take del1 (Ent.take del2 (Ent.take del2 (Ent.drop (Ent.drop Ent.refl))))))) <| QJ_then <| CJ_condP rfl bT_dec (fun hg59 => ?_) (fun hg59 => ?_)
                ·
                 replace h := ite_t hg59 h
                 refine CJ_seq <| CJ_region <| RJ_op rfl <| OJ_P (P_assign rfl) rfl <| RJ_nil <| QJ_then <| CJ_ret <| QJ_then_ret <| QJ_block_ret <| QJ_then_ret <| QJ_round_ret <| QJ_block_ret <| QJ_then_ret ?_
                 have hE := Option.some.inj h
                 replace hE := seq_inr hK12 hE.symm
                 subst hE
                 refine QJ_end (res1 Try.results3 rfl) <| CSpec.close () ?_ ?_ (Ent.take del4 (Ent.drop (Ent.drop (Ent.drop (Ent.drop Ent.refl)))))
                 · rfl
                 · trivial
                ·
                 replace h := ite_f hg59 h
                 refine CJ_skip <| QJ_then <| CJ_seq <| CJ_region <| RJ_op rfl <| OJ_P (P_move rfl) rfl <| RJ_op rfl <| OJ_V (V_index (i := 0) rfl rfl rfl (by have hz : 0 < r52.length := (by omega); have hy := hdl57; omega) foc2 (Reads.sl _ _ _) Try.runUnderlying32 Try.sizeOf38) rfl <| RJ_ent (Ent.trans (Ent.take del1 Ent.refl) (Rs_at (fun _ _ => Dup_DevP) (dx := dv0) (dh := tyDev.dflt) (i := 0) (by omega))) <| RJ_op rfl <| OJ_V (V_loadE rfl rfl (by have hz : 0 < r52.length := (by omega); have hy := hdl57; omega) foc3 (Reads.sl _ _ _) rfl rfl Try.isAgg38) rfl <| RJ_op rfl <| OJ_P (P_move rfl) rfl ?_
                 obtain ⟨r175, hr176, h⟩ := bind_e h
                 refine RJ_op rfl <| O_call (L_regionlog_Open hr176) rfl Try.call12 (Dels.cons del0 (Dels.cons del1 Dels.nil)) rfl fun X177 _ => RJ_op rfl <| OJ_P (P_move rfl) rfl <| RJ_op rfl <| OJ_P (P_extract rfl rfl) rfl <| RJ_op rfl <| OJ_P (P_extract rfl rfl) rfl <| RJ_op rfl <| OJ_P (P_assign rfl) rfl <| RJ_op rfl <| OJ_P (P_assign rfl) rfl <| RJ_nil <| QJ_ent (Ent.take del1 (Ent.take del1 (Ent.take del3 (Ent.take del3 (Ent.drop (Ent.drop (Ent.drop Ent.refl))))))) <| QJ_then <| CJ_seq <| CJ_region <| RJ_op rfl <| OJ_P (P_move rfl) rfl <| RJ_op rfl <| OJ_P (P_eql (a := ((a24 : Nat) : Int)) (b := (0 : Int)) rfl rfl) rfl <| RJ_op rfl <| OJ_P (P_move rfl) rfl <| RJ_splitP 162 rfl bT_dec (fun hg60B hg60 => ?_) (fun hg60B hg60 => ?_)
                 ·
                  replace h := ite_t hg60 h
                  refine RJ_gy (GY_yes rfl rfl rfl hg60B) <| OJ_P (P_move rfl) rfl <| RJ_gy (GY_yes rfl rfl rfl hg60B) <| OJ_P (P_neq (a := r175.2) (b := (0 : Int)) rfl rfl) rfl <| RJ_gy (GY_yes rfl rfl rfl hg60B) <| OJ_P (P_move rfl) rfl <| RJ_mbF rfl rfl rfl (fun hG179 => have hP180 : ¬ (r175.2 ≠ (0 : Int)) := nP (bT_dec) hG179; VJ_P (P_move rfl)) <| RJ_splitP 165 rfl bT_dec (fun hg61B hg61 => ?_) (fun hg61B hg61 => ?_)
                  ·
                   replace h := ite_t hg61 h
                   refine RJ_gn (GY_no rfl rfl rfl hg61B) rfl rfl <| RJ_gy (GY_yes rfl rfl rfl hg60B) <| OJ_P (P_pickT rfl hg61B rfl) rfl <| RJ_gy (GY_yes rfl rfl rfl hg60B) <| OJ_P (P_move rfl) rfl <| RJ_gn (GY_no rfl rfl rfl rfl) rfl rfl <| RJ_gn (GY_no rfl rfl rfl rfl) rfl rfl <| RJ_gn (GY_no rfl rfl rfl rfl) rfl rfl <| RJ_gn (GY_no rfl rfl rfl rfl) rfl rfl <| RJ_gy (GY_yes rfl rfl rfl hg60B) <| OJ_P (P_pickT rfl rfl rfl) rfl <| RJ_op rfl <| OJ_P (P_pickT rfl hg60B rfl) rfl <| RJ_nil <| QJ_then <| CJ_condT rfl rfl <| CJ_seq <| CJ_region <| RJ_op rfl <| OJ_P (P_assign rfl) rfl <| RJ_nil <| QJ_then <| CJ_ret <| QJ_block_ret <| QJ_then_ret <| QJ_round_ret <| QJ_block_ret <| QJ_then_ret ?_
                   have hE := Option.some.inj h
                   replace hE := seq_inr hK12 hE.symm
                   subst hE
                   refine QJ_end (res1 Try.results3 rfl) <| CSpec.close () ?_ ?_ (Ent.take del3 (Ent.drop (Ent.drop (Ent.drop Ent.refl))))
                   · rfl
                   · trivial
                  ·
                   replace h := ite_f hg61 h
                   rcases opt_e h with ⟨ht183, h⟩ | ⟨o184, ht183, h⟩
                   ·
                    rw [ht183]
                    refine RJ_ent (Ent.take del0 (Ent.take del1 (Ent.take del1 (Ent.drop Ent.refl)))) <| RJ_gy (GY_yes rfl rfl rfl hg61B) <| OJ_P (P_eqlNN (mbx (not_f hg61B) rfl) rfl Try.underlying34) rfl <| RJ_gy (GY_yes rfl rfl rfl hg60B) <| OJ_P (P_pickF rfl hg61B rfl) rfl <| RJ_gy (GY_yes rfl rfl rfl hg60B) <| OJ_P (P_move rfl) rfl <| RJ_gn (GY_no rfl rfl rfl rfl) rfl rfl <| RJ_gn (GY_no rfl rfl rfl rfl) rfl rfl <| RJ_gn (GY_no rfl rfl rfl rfl) rfl rfl <| RJ_gn (GY_no rfl rfl rfl rfl) rfl rfl <| RJ_gy (GY_yes rfl rfl rfl hg60B) <| OJ_P (P_pickT rfl rfl rfl) rfl <| RJ_op rfl <| OJ_P (P_pickT rfl hg60B rfl) rfl <| RJ_nil <| QJ_then <| CJ_condT rfl rfl <| CJ_seq <| CJ_region <| RJ_op rfl <| OJ_P (P_assign rfl) rfl <| RJ_nil <| QJ_then <| CJ_ret <| QJ_block_ret <| QJ_then_ret <| QJ_round_ret <| QJ_block_ret <| QJ_then_ret ?_
                    have hE := Option.some.inj h
                    replace hE := seq_inr hK12 hE.symm
                    subst hE
                    refine QJ_end (res1 Try.results3 rfl) <| CSpec.close () ?_ ?_ (Ent.take del2 (Ent.drop (Ent.drop Ent.refl)))
                    · rfl
                    · trivial
                   ·
                    rw [ht183]
                    refine RJ_ent (Ent.takeC (A' := LogP X46 X177 o184) del1 rfl Ent.refl) <| RJ_gy (GY_yes rfl rfl rfl hg61B) <| OJ_P (P_eqlPN (mbx (not_f hg61B) rfl) rfl Try.underlying34) rfl <| RJ_gy (GY_yes rfl rfl rfl hg60B) <| OJ_P (P_pickF rfl hg61B rfl) rfl <| RJ_gy (GY_yes rfl rfl rfl hg60B) <| OJ_P (P_move rfl) rfl <| RJ_gy (GY_yes rfl rfl rfl rfl) <| OJ_P (P_move rfl) rfl ?_
                    obtain ⟨r185, hr186, h⟩ := bind_e h
                    refine RJ_gy (GY_yes rfl rfl rfl rfl) <| O_call (L_regionlog_Log_Dirty hr186) rfl Try.call14 (Dels.cons del0 (Dels.cons del0 Dels.nil)) rfl fun X187 _ => RJ_gy (GY_yes rfl rfl rfl rfl) <| OJ_V (V_len rfl foc2 (Reads.sl _ _ _) Try.runUnderlying24) rfl <| RJ_gy (GY_yes rfl rfl rfl rfl) <| OJ_P (P_neq (a := ((r185.length : Nat) : Int)) (b := (0 : Int)) rfl rfl) rfl <| RJ_gy (GY_yes rfl rfl rfl hg60B) <| OJ_P (P_pickF rfl rfl rfl) rfl <| RJ_op rfl <| OJ_P (P_pickT rfl hg60B rfl) rfl <| RJ_nil <| QJ_then <| CJ_condP rfl bT_dec (fun hg62 => ?_) (fun hg62 => ?_)
                    ·
                     replace h := ite_t hg62 h
                     refine CJ_seq <| CJ_region <| RJ_op rfl <| OJ_P (P_assign rfl) rfl <| RJ_nil <| QJ_then <| CJ_ret <| QJ_block_ret <| QJ_then_ret <| QJ_round_ret <| QJ_block_ret <| QJ_then_ret ?_
                     have hE := Option.some.inj h
                     replace hE := seq_inr hK12 hE.symm
                     subst hE
                     refine QJ_end (res1 Try.results3 rfl) <| CSpec.close () ?_ ?_ (Ent.take del4 (Ent.drop (Ent.drop (Ent.drop (Ent.drop Ent.refl)))))
                     · rfl
                     · trivial
                    ·
                     replace h := ite_f hg62 h
                     refine CJ_skip <| QJ_block_normal <| QJ_then <| CJ_region <| RJ_op rfl <| OJ_P (P_move rfl) rfl ?_
                     obtain ⟨hg63, h⟩ := grd_Ne h
                     refine RJ_op rfl <| OJ_P (PJ_eq (P_add (a := ((x15 : Nat) : Int)) (b := (1 : Int)) rfl rfl (nat_in hg63)) rfl) rfl <| RJ_op rfl <| OJ_P (P_assign rfl) rfl <| RJ_nil <| QJ_nextR ⟨n, (x15 + 1)⟩ (Nat.lt_succ_self _) ?_ (by repeat (first | exact Kp.base | exact Kp.self | refine Kp.cons rfl ?_ | refine Kp.forget rfl ?_)) ?_ (Ent.take del3 (Ent.take del3 (Ent.drop (Ent.drop (Ent.drop Ent.refl)))))
                     · exact h
                     · exact ⟨rfl, True.intro⟩
                 ·
                  replace h := ite_f hg60 h
                  refine RJ_gn (GY_no rfl rfl rfl hg60B) rfl rfl <| RJ_gn (GY_no rfl rfl rfl hg60B) rfl rfl <| RJ_gn (GY_no rfl rfl rfl hg60B) rfl rfl <| RJ_gn (GY_undef rfl rfl rfl) rfl rfl <| RJ_gn (GY_undef rfl rfl rfl) rfl rfl <| RJ_gn (GY_no rfl rfl rfl hg60B) rfl rfl <| RJ_gn (GY_no rfl rfl rfl hg60B) rfl rfl <| RJ_gn (GY_undef rfl rfl rfl) rfl rfl <| RJ_gn (GY_undef rfl rfl rfl) rfl rfl <| RJ_gn (GY_undef rfl rfl rfl) rfl rfl <| RJ_gn (GY_undef rfl rfl rfl) rfl rfl <| RJ_gn (GY_no rfl rfl rfl hg60B) rfl rfl <| RJ_op rfl <| OJ_P (P_pickF rfl hg60B rfl) rfl <| RJ_nil <| QJ_then <| CJ_condF rfl rfl <| CJ_skip <| QJ_block_normal <| QJ_then <| CJ_region <| RJ_op rfl <| OJ_P (P_move rfl) rfl ?_
                  obtain ⟨hg64, h⟩ := grd_Ne h
                  refine RJ_op rfl <| OJ_P (PJ_eq (P_add (a := ((x15 : Nat) : Int)) (b := (1 : Int)) rfl rfl (nat_in hg64)) rfl) rfl <| RJ_op rfl <| OJ_P (P_assign rfl) rfl <| RJ_nil <| QJ_nextR ⟨n, (x15 + 1)⟩ (Nat.lt_succ_self _) ?_ (by repeat (first | exact Kp.base | exact Kp.self | refine Kp.cons rfl ?_ | refine Kp.forget rfl ?_)) ?_ (Ent.take del2 (Ent.take del2 (Ent.drop (Ent.drop Ent.refl))))
                  · exact h
                  · exact ⟨rfl, True.intro⟩
            ·
             rw [ht169]
             refine RJ_ent (Ent.takeC (A' := LogP X46 X61 o170) del1 rfl Ent.refl) <| RJ_gy (GY_yes rfl rfl rfl hg54B) <| OJ_P (P_eqlPN (mbx (not_f hg54B) rfl) rfl Try.underlying34) rfl <| RJ_gy (GY_yes rfl rfl rfl hg54B) <| OJ_P (P_move rfl) rfl <| RJ_gy (GY_yes rfl rfl rfl hg54B) <| OJ_P (P_neq (a := r59.2) (b := (0 : Int)) rfl rfl) rfl <| RJ_gy (GY_yes rfl rfl rfl hg54B) <| OJ_P (P_neqB rfl rfl Try.underlying4) rfl <| RJ_op rfl <| OJ_P (P_pickF rfl hg54B rfl) rfl <| RJ_nil <| QJ_then <| CJ_condP rfl (bT_not (bT_beq Iff.rfl bT_dec)) (fun hg65 => ?_) (fun hg65 => ?_)
             ·
              replace h := ite_t hg65 h
              refine CJ_seq <| CJ_region <| RJ_op rfl <| OJ_P (P_assign rfl) rfl <| RJ_nil <| QJ_ent (Ent.take del1 (Ent.take del4 (Ent.take del4 (Ent.drop (Ent.drop (Ent.drop (Ent.drop Ent.refl))))))) <| QJ_then <| CJ_ret <| QJ_then_ret <| QJ_block_ret <| QJ_then_ret <| QJ_round_ret <| QJ_block_ret <| QJ_then_ret ?_
              have hE := Option.some.inj h
              replace hE := seq_inr hK12 hE.symm
              subst hE
              refine QJ_end (res1 Try.results3 rfl) <| CSpec.close () ?_ ?_ (Ent.take del2 (Ent.drop (Ent.drop Ent.refl)))
              · rfl
              · trivial
             ·
              replace h := ite_f hg65 h
              refine CJ_skip <| QJ_then <| CJ_seq <| CJ_seq <| AJ_startH 271104 (by kernel_rfl) rfl <| AJ_takeP 0 1 rfl (by kernel_rfl) rfl (GY_none rfl) (P_move rfl) rfl (fun _ _ _ _ h => h) <| AJ_takeP 1 3 rfl (by kernel_rfl) rfl (GY_none rfl) (P_eql (a := r59.2) (b := (0 : Int)) rfl rfl) rfl (fun _ _ _ _ h => h) <| AJ_takeP 2 7 rfl (by kernel_rfl) rfl (GY_none rfl) (P_move rfl) rfl (fun _ _ _ _ h => h) <| AJ_splitP 121 rfl bT_dec (fun hg66B hg66 => ?_) (fun hg66B hg66 => ?_)
              ·
               replace h := ite_t hg66 h
               refine AJ_takeP 3 15 rfl (by kernel_rfl) rfl (GY_yes rfl rfl rfl hg66B) (P_move rfl) rfl (fun _ _ _ _ h => h) <| AJ_takeP 5 47 rfl (by kernel_rfl) rfl (GY_yes rfl rfl rfl hg66B) (P_move rfl) rfl (fun _ _ _ _ h => h) ?_
               obtain ⟨hg67, h⟩ := grd_de h
               refine AJ_takeV 6 111 rfl (by kernel_rfl) rfl (by kernel_rfl) (by kernel_rfl) (GY_yes rfl rfl rfl hg66B) Ent.refl (V_slice (l := 1) (h := a38.length) rfl foc4 (Reads.sl _ _ _) ⟨_, rfl⟩ rfl (by omega) (by omega) Try.underlying22 Try.sizeOf27) rfl (fun _ _ _ _ h => h) <| AJ_takeP 7 239 rfl (by kernel_rfl) rfl (GY_yes rfl rfl rfl hg66B) (P_move rfl) rfl (fun _ _ _ _ h => h) ?_
               obtain ⟨r189, hr190, h⟩ := bind_e h
               refine AJ_op 4 255 rfl (by kernel_rfl) rfl (GY_yes rfl rfl rfl hg66B) <| O_call (L_regionlog_Log_Dirty hr190) rfl Try.call14 (Dels.cons del0 (Dels.cons del0 Dels.nil)) rfl fun X191 _ => ⟨fun _ => (Ent.take del0 (Ent.take del0 (Ent.take del1 (Ent.take del1 (Ent.take del1 (Ent.take del1 (Ent.take del1 (Ent.drop Ent.refl)))))))), ?_⟩
               obtain ⟨r193, hr194, h⟩ := bind_e h
               refine AJ_op 8 511 rfl (by kernel_rfl) rfl (GY_yes rfl rfl rfl hg66B) <| O_call (L_volumegroupref20_Dirty (Reads.sliceV (l := 1) (h := a38.length) (Reads.sl _ _ _) (by omega) (by omega)) hr194) rfl Try.call15 (Dels.cons del5 Dels.nil) rfl fun X195 _ => ⟨fun h => absurd h (by decide), ?_⟩
               obtain ⟨r197, hr198, h⟩ := bind_e h
               refine AJ_op 9 1023 rfl (by kernel_rfl) rfl (GY_yes rfl rfl rfl hg66B) <| O_call (L_volumegroupref20_Same (Reads.sl _ _ _) (Reads.sl _ _ _) hr198) rfl Try.call13 (Dels.cons del4 (Dels.cons del1 Dels.nil)) rfl fun _ _ => ⟨fun h => absurd h (by decide), ?_⟩
               refine AJ_takeP 10 2047 rfl (by kernel_rfl) rfl (GY_yes rfl rfl rfl hg66B) (P_not rfl) rfl (fun _ _ _ _ h => h) <| AJ_takeP 11 4095 rfl (by kernel_rfl) rfl (GY_yes rfl rfl rfl hg66B) (P_move rfl) rfl (fun _ _ _ _ h => h) <| AJ_splitP 130 rfl (bT_not Iff.rfl) (fun hg68B hg68 => ?_) (fun hg68B hg68 => ?_)
               ·
                replace h := ite_t hg68 h
                refine AJ_skip 12 8191 rfl (by kernel_rfl) rfl (GY_no rfl rfl rfl hg68B) rfl (fun _ _ _ _ h => h) <| AJ_skip 13 16383 rfl (by kernel_rfl) rfl (GY_no rfl rfl rfl hg68B) rfl (fun _ _ _ _ h => h) <| AJ_takeP 14 32767 rfl (by kernel_rfl) rfl (GY_yes rfl rfl rfl hg66B) (P_pickT rfl hg68B rfl) rfl (fun _ _ _ _ h => h) <| AJ_takeP 15 65535 rfl (by kernel_rfl) rfl (GY_yes rfl rfl rfl hg66B) (P_move rfl) rfl (fun _ _ _ _ h => h) <| AJ_splitP 134 rfl Iff.rfl (fun hg69B hg69 => ?_) (fun hg69B hg69 => ?_)
                ·
                 replace h := ite_t hg69 h
                 refine AJ_skip 16 131071 rfl (by kernel_rfl) rfl (GY_no rfl rfl rfl hg69B) rfl (fun _ _ _ _ h => h) <| AJ_skip 17 262143 rfl (by kernel_rfl) rfl (GY_no rfl rfl rfl hg69B) rfl (fun _ _ _ _ h => h) <| AJ_skip 18 524287 rfl (by kernel_rfl) rfl (GY_no rfl rfl rfl hg69B) rfl (fun _ _ _ _ h => h) <| AJ_takeP 19 1048575 rfl (by kernel_rfl) rfl (GY_yes rfl rfl rfl hg66B) (P_pickT rfl hg69B rfl) rfl (fun _ _ _ _ h => h) <| AJ_takeP 20 2097151 rfl (by kernel_rfl) rfl (GY_none rfl) (P_pickT rfl hg66B rfl) rfl (fun _ _ _ _ h => h) <| AJ_done (by kernel_rfl) <| QJ_ent (Ent.take del4 (Ent.take del4 (Ent.take del4 (Ent.take del4 (Ent.take del4 (Ent.drop (Ent.drop (Ent.drop (Ent.drop Ent.refl))))))))) <| QJ_then <| CJ_condT rfl rfl <| CJ_seq <| CJ_region <| RJ_op rfl <| OJ_P (P_assign rfl) rfl <| RJ_nil <| QJ_then <| CJ_ret <| QJ_then_ret <| QJ_block_ret <| QJ_then_ret <| QJ_round_ret <| QJ_block_ret <| QJ_then_ret ?_
                 have hE := Option.some.inj h
                 replace hE := seq_inr hK12 hE.symm
                 subst hE
                 refine QJ_end (res1 Try.results3 rfl) <| CSpec.close () ?_ ?_ (Ent.take del4 (Ent.drop (Ent.drop (Ent.drop (Ent.drop Ent.refl)))))
                 · rfl
                 · trivial
                ·
                 replace h := ite_f hg69 h
                 refine AJ_takeP 16 131071 rfl (by kernel_rfl) rfl (GY_yes rfl rfl rfl hg69B) (P_move rfl) rfl (fun _ _ _ _ h => h) <| AJ_takeP 17 262143 rfl (by kernel_rfl) rfl (GY_yes rfl rfl rfl hg69B) (P_move rfl) rfl (fun _ _ _ _ h => h) ?_
                 obtain ⟨r199, hr200, h⟩ := bind_e h
                 refine AJ_op 18 524287 rfl (by kernel_rfl) rfl (GY_yes rfl rfl rfl hg69B) <| O_call (L_regionlog_Log_IsDirty hr200) rfl Try.call16 (Dels.cons del3 (Dels.cons del3 Dels.nil)) rfl fun _ _ => ⟨fun h => absurd h (by decide), ?_⟩
                 refine AJ_takeP 19 1048575 rfl (by kernel_rfl) rfl (GY_yes rfl rfl rfl hg66B) (P_pickF rfl hg69B rfl) rfl (fun _ _ _ _ h => h) <| AJ_takeP 20 2097151 rfl (by kernel_rfl) rfl (GY_none rfl) (P_pickT rfl hg66B rfl) rfl (fun _ _ _ _ h => h) <| AJ_done (by kernel_rfl) <| QJ_ent (Ent.take del1 (Ent.take del4 (Ent.take del4 (Ent.take del4 (Ent.take del4 (Ent.drop (Ent.drop (Ent.drop (Ent.drop Ent.refl))))))))) <| QJ_then <| CJ_condP rfl Iff.rfl (fun hg70 => ?_) (fun hg70 => ?_)
                 ·
                  replace h := ite_t hg70 h
                  refine CJ_seq <| CJ_region <| RJ_op rfl <| OJ_P (P_assign rfl) rfl <| RJ_nil <| QJ_then <| CJ_ret <| QJ_then_ret <| QJ_block_ret <| QJ_then_ret <| QJ_round_ret <| QJ_block_ret <| QJ_then_ret ?_
                  have hE := Option.some.inj h
                  replace hE := seq_inr hK12 hE.symm
                  subst hE
                  refine QJ_end (res1 Try.results3 rfl) <| CSpec.close () ?_ ?_ (Ent.take del4 (Ent.drop (Ent.drop (Ent.drop (Ent.drop Ent.refl)))))
                  · rfl
                  · trivial
                 ·
                  replace h := ite_f hg70 h
                  refine CJ_skip <| QJ_then <| CJ_seq <| CJ_seq <| CJ_region <| RJ_op rfl <| OJ_P (P_move rfl) rfl <| RJ_op rfl <| OJ_V (V_index (i := 0) rfl rfl rfl (by have hz : 0 < r52.length := (by omega); have hy := hdl57; omega) foc2 (Reads.sl _ _ _) Try.runUnderlying32 Try.sizeOf38) rfl <| RJ_ent (Ent.trans (Ent.take del1 Ent.refl) (Rs_at (fun _ _ => Dup_DevP) (dx := dv0) (dh := tyDev.dflt) (i := 0) (by omega))) <| RJ_op rfl <| OJ_V (V_loadE rfl rfl (by have hz : 0 < r52.length := (by omega); have hy := hdl57; omega) foc3 (Reads.sl _ _ _) rfl rfl Try.isAgg38) rfl <| RJ_op rfl <| OJ_P (P_move rfl) rfl ?_
                  obtain ⟨r202, hr203, h⟩ := bind_e h
                  refine RJ_op rfl <| O_call (L_regionlog_Format hr203) rfl Try.call17 (Dels.cons del0 (Dels.cons del1 Dels.nil)) rfl fun _ _ => RJ_op rfl <| OJ_P (P_move rfl) rfl <| RJ_op rfl <| OJ_P (P_neq (a := r202.1) (b := ((a24 : Nat) : Int)) rfl rfl) rfl <| RJ_op rfl <| OJ_P (P_move rfl) rfl <| RJ_splitP 147 rfl bT_dec (fun hg71B hg71 => ?_) (fun hg71B hg71 => ?_)
                  ·
                   replace h := ite_t hg71 h
                   refine RJ_gn (GY_no rfl rfl rfl hg71B) rfl rfl <| RJ_gn (GY_no rfl rfl rfl hg71B) rfl rfl <| RJ_gn (GY_no rfl rfl rfl hg71B) rfl rfl <| RJ_op rfl <| OJ_P (P_pickT rfl hg71B rfl) rfl <| RJ_nil <| QJ_then <| CJ_condT rfl rfl <| CJ_seq <| CJ_region <| RJ_op rfl <| OJ_P (P_assign rfl) rfl <| RJ_nil <| QJ_then <| CJ_ret <| QJ_then_ret <| QJ_block_ret <| QJ_then_ret <| QJ_round_ret <| QJ_block_ret <| QJ_then_ret ?_
                   have hE := Option.some.inj h
                   replace hE := seq_inr hK12 hE.symm
                   subst hE
                   refine QJ_end (res1 Try.results3 rfl) <| CSpec.close () ?_ ?_ (Ent.take del5 (Ent.drop (Ent.drop (Ent.drop (Ent.drop (Ent.drop Ent.refl))))))
                   · rfl
                   · trivial
                  ·
                   replace h := ite_f hg71 h
                   refine RJ_gy (GY_yes rfl rfl rfl hg71B) <| OJ_P (P_move rfl) rfl <| RJ_gy (GY_yes rfl rfl rfl hg71B) <| O_call (c_Unflushed) rfl Try.call18 (Dels.cons del1 Dels.nil) rfl fun _ _ => RJ_gy (GY_yes rfl rfl rfl hg71B) <| OJ_P (P_neq (a := ((r202.2.log.length : Nat) : Int)) (b := (0 : Int)) rfl rfl) rfl <| RJ_op rfl <| OJ_P (P_pickF rfl hg71B rfl) rfl <| RJ_nil <| QJ_then <| CJ_condP rfl bT_dec (fun hg72 => ?_) (fun hg72 => ?_)
                   ·
                    replace h := ite_t hg72 h
                    refine CJ_seq <| CJ_region <| RJ_op rfl <| OJ_P (P_assign rfl) rfl <| RJ_nil <| QJ_then <| CJ_ret <| QJ_then_ret <| QJ_block_ret <| QJ_then_ret <| QJ_round_ret <| QJ_block_ret <| QJ_then_ret ?_
                    have hE := Option.some.inj h
                    replace hE := seq_inr hK12 hE.symm
                    subst hE
                    refine QJ_end (res1 Try.results3 rfl) <| CSpec.close () ?_ ?_ (Ent.take del5 (Ent.drop (Ent.drop (Ent.drop (Ent.drop (Ent.drop Ent.refl))))))
                    · rfl
                    · trivial
                   ·
                    replace h := ite_f hg72 h
                    refine CJ_skip <| QJ_then <| CJ_seq <| CJ_region <| RJ_op rfl <| OJ_P (P_move rfl) rfl <| RJ_op rfl <| OJ_V (V_index (i := 0) rfl rfl rfl (by have hz : 0 < r52.length := (by omega); have hy := hdl57; omega) foc3 (Reads.sl _ _ _) Try.runUnderlying32 Try.sizeOf38) rfl <| RJ_ent (Ent.trans (Ent.take del2 Ent.refl) (Rs_at (fun _ _ => Dup_DevP) (dx := dv0) (dh := tyDev.dflt) (i := 0) (by omega))) <| RJ_op rfl <| OJ_V (V_loadE rfl rfl (by have hz : 0 < r52.length := (by omega); have hy := hdl57; omega) foc4 (Reads.sl _ _ _) rfl rfl Try.isAgg38) rfl <| RJ_op rfl <| OJ_P (P_move rfl) rfl ?_
                    obtain ⟨r205, hr206, h⟩ := bind_e h
                    refine RJ_op rfl <| O_call (L_regionlog_Open hr206) rfl Try.call12 (Dels.cons del0 (Dels.cons del1 Dels.nil)) rfl fun X207 _ => RJ_op rfl <| OJ_P (P_move rfl) rfl <| RJ_op rfl <| OJ_P (P_extract rfl rfl) rfl <| RJ_op rfl <| OJ_P (P_extract rfl rfl) rfl <| RJ_op rfl <| OJ_P (P_assign rfl) rfl <| RJ_op rfl <| OJ_P (P_assign rfl) rfl <| RJ_nil <| QJ_ent (Ent.take del1 (Ent.take del1 (Ent.take del4 (Ent.take del4 (Ent.drop (Ent.drop (Ent.drop (Ent.drop Ent.refl)))))))) <| QJ_then <| CJ_seq <| CJ_region <| RJ_op rfl <| OJ_P (P_move rfl) rfl <| RJ_op rfl <| OJ_P (P_eql (a := ((a24 : Nat) : Int)) (b := (0 : Int)) rfl rfl) rfl <| RJ_op rfl <| OJ_P (P_move rfl) rfl <| RJ_splitP 162 rfl bT_dec (fun hg73B hg73 => ?_) (fun hg73B hg73 => ?_)
                    ·
                     replace h := ite_t hg73 h
                     refine RJ_gy (GY_yes rfl rfl rfl hg73B) <| OJ_P (P_move rfl) rfl <| RJ_gy (GY_yes rfl rfl rfl hg73B) <| OJ_P (P_neq (a := r205.2) (b := (0 : Int)) rfl rfl) rfl <| RJ_gy (GY_yes rfl rfl rfl hg73B) <| OJ_P (P_move rfl) rfl <| RJ_mbF rfl rfl rfl (fun hG209 => have hP210 : ¬ (r205.2 ≠ (0 : Int)) := nP (bT_dec) hG209; VJ_P (P_move rfl)) <| RJ_splitP 165 rfl bT_dec (fun hg74B hg74 => ?_) (fun hg74B hg74 => ?_)
                     ·
                      replace h := ite_t hg74 h
                      refine RJ_gn (GY_no rfl rfl rfl hg74B) rfl rfl <| RJ_gy (GY_yes rfl rfl rfl hg73B) <| OJ_P (P_pickT rfl hg74B rfl) rfl <| RJ_gy (GY_yes rfl rfl rfl hg73B) <| OJ_P (P_move rfl) rfl <| RJ_gn (GY_no rfl rfl rfl rfl) rfl rfl <| RJ_gn (GY_no rfl rfl rfl rfl) rfl rfl <| RJ_gn (GY_no rfl rfl rfl rfl) rfl rfl <| RJ_gn (GY_no rfl rfl rfl rfl) rfl rfl <| RJ_gy (GY_yes rfl rfl rfl hg73B) <| OJ_P (P_pickT rfl rfl rfl) rfl <| RJ_op rfl <| OJ_P (P_pickT rfl hg73B rfl) rfl <| RJ_nil <| QJ_then <| CJ_condT rfl rfl <| CJ_seq <| CJ_region <| RJ_op rfl <| OJ_P (P_assign rfl) rfl <| RJ_nil <| QJ_then <| CJ_ret <| QJ_block_ret <| QJ_then_ret <| QJ_round_ret <| QJ_block_ret <| QJ_then_ret ?_
                      have hE := Option.some.inj h
                      replace hE := seq_inr hK12 hE.symm
                      subst hE
                      refine QJ_end (res1 Try.results3 rfl) <| CSpec.close () ?_ ?_ (Ent.take del3 (Ent.drop (Ent.drop (Ent.drop Ent.refl))))
                      · rfl
                      · trivial
                     ·
                      replace h := ite_f hg74 h
                      rcases opt_e h with ⟨ht213, h⟩ | ⟨o214, ht213, h⟩
                      ·
                       rw [ht213]
                       refine RJ_ent (Ent.take del0 (Ent.take del1 (Ent.take del1 (Ent.drop Ent.refl)))) <| RJ_gy (GY_yes rfl rfl rfl hg74B) <| OJ_P (P_eqlNN (mbx (not_f hg74B) rfl) rfl Try.underlying34) rfl <| RJ_gy (GY_yes rfl rfl rfl hg73B) <| OJ_P (P_pickF rfl hg74B rfl) rfl <| RJ_gy (GY_yes rfl rfl rfl hg73B) <| OJ_P (P_move rfl) rfl <| RJ_gn (GY_no rfl rfl rfl rfl) rfl rfl <| RJ_gn (GY_no rfl rfl rfl rfl) rfl rfl <| RJ_gn (GY_no rfl rfl rfl rfl) rfl rfl <| RJ_gn (GY_no rfl rfl rfl rfl) rfl rfl <| RJ_gy (GY_yes rfl rfl rfl hg73B) <| OJ_P (P_pickT rfl rfl rfl) rfl <| RJ_op rfl <| OJ_P (P_pickT rfl hg73B rfl) rfl <| RJ_nil <| QJ_then <| CJ_condT rfl rfl <| CJ_seq <| CJ_region <| RJ_op rfl <| OJ_P (P_assign rfl) rfl <| RJ_nil <| QJ_then <| CJ_ret <| QJ_block_ret <| QJ_then_ret <| QJ_round_ret <| QJ_block_ret <| QJ_then_ret ?_
                       have hE := Option.some.inj h
                       replace hE := seq_inr hK12 hE.symm
                       subst hE
                       refine QJ_end (res1 Try.results3 rfl) <| CSpec.close () ?_ ?_ (Ent.take del2 (Ent.drop (Ent.drop Ent.refl)))
                       · rfl
                       · trivial
                      ·
                       rw [ht213]
                       refine RJ_ent (Ent.takeC (A' := LogP X46 X207 o214) del1 rfl Ent.refl) <| RJ_gy (GY_yes rfl rfl rfl hg74B) <| OJ_P (P_eqlPN (mbx (not_f hg74B) rfl) rfl Try.underlying34) rfl <| RJ_gy (GY_yes rfl rfl rfl hg73B) <| OJ_P (P_pickF rfl hg74B rfl) rfl <| RJ_gy (GY_yes rfl rfl rfl hg73B) <| OJ_P (P_move rfl) rfl <| RJ_gy (GY_yes rfl rfl rfl rfl) <| OJ_P (P_move rfl) rfl ?_
                       obtain ⟨r215, hr216, h⟩ := bind_e h
                       refine RJ_gy (GY_yes rfl rfl rfl rfl) <| O_call (L_regionlog_Log_Dirty hr216) rfl Try.call14 (Dels.cons del0 (Dels.cons del0 Dels.nil)) rfl fun X217 _ => RJ_gy (GY_yes rfl rfl rfl rfl) <| OJ_V (V_len rfl foc2 (Reads.sl _ _ _) Try.runUnderlying24) rfl <| RJ_gy (GY_yes rfl rfl rfl rfl) <| OJ_P (P_neq (a := ((r215.length : Nat) : Int)) (b := (0 : Int)) rfl rfl) rfl <| RJ_gy (GY_yes rfl rfl rfl hg73B) <| OJ_P (P_pickF rfl rfl rfl) rfl <| RJ_op rfl <| OJ_P (P_pickT rfl hg73B rfl) rfl <| RJ_nil <| QJ_then <| CJ_condP rfl bT_dec (fun hg75 => ?_) (fun hg75 => ?_)
                       ·
                        replace h := ite_t hg75 h
                        refine CJ_seq <| CJ_region <| RJ_op rfl <| OJ_P (P_assign rfl) rfl <| RJ_nil <| QJ_then <| CJ_ret <| QJ_block_ret <| QJ_then_ret <| QJ_round_ret <| QJ_block_ret <| QJ_then_ret ?_
                        have hE := Option.some.inj h
                        replace hE := seq_inr hK12 hE.symm
                        subst hE
                        refine QJ_end (res1 Try.results3 rfl) <| CSpec.close () ?_ ?_ (Ent.take del4 (Ent.drop (Ent.drop (Ent.drop (Ent.drop Ent.refl)))))
                        · rfl
                        · trivial
                       ·
                        replace h := ite_f hg75 h
                        refine CJ_skip <| QJ_block_normal <| QJ_then <| CJ_region <| RJ_op rfl <| OJ_P (P_move rfl) rfl ?_
                        obtain ⟨hg76, h⟩ := grd_Ne h
                        refine RJ_op rfl <| OJ_P (PJ_eq (P_add (a := ((x15 : Nat) : Int)) (b := (1 : Int)) rfl rfl (nat_in hg76)) rfl) rfl <| RJ_op rfl <| OJ_P (P_assign rfl) rfl <| RJ_nil <| QJ_nextR ⟨n, (x15 + 1)⟩ (Nat.lt_succ_self _) ?_ (by repeat (first | exact Kp.base | exact Kp.self | refine Kp.cons rfl ?_ | refine Kp.forget rfl ?_)) ?_ (Ent.take del3 (Ent.take del3 (Ent.drop (Ent.drop (Ent.drop Ent.refl)))))
                        · exact h
                        · exact ⟨rfl, True.intro⟩
                    ·
                     replace h := ite_f hg73 h
                     refine RJ_gn (GY_no rfl rfl rfl hg73B) rfl rfl <| RJ_gn (GY_no rfl rfl rfl hg73B) rfl rfl <| RJ_gn (GY_no rfl rfl rfl hg73B) rfl rfl <| RJ_gn (GY_undef rfl rfl rfl) rfl rfl <| RJ_gn (GY_undef rfl rfl rfl) rfl rfl <| RJ_gn (GY_no rfl rfl rfl hg73B) rfl rfl <| RJ_gn (GY_no rfl rfl rfl hg73B) rfl rfl <| RJ_gn (GY_undef rfl rfl rfl) rfl rfl <| RJ_gn (GY_undef rfl rfl rfl) rfl rfl <| RJ_gn (GY_undef rfl rfl rfl) rfl rfl <| RJ_gn (GY_undef rfl rfl rfl) rfl rfl <| RJ_gn (GY_no rfl rfl rfl hg73B) rfl rfl <| RJ_op rfl <| OJ_P (P_pickF rfl hg73B rfl) rfl <| RJ_nil <| QJ_then <| CJ_condF rfl rfl <| CJ_skip <| QJ_block_normal <| QJ_then <| CJ_region <| RJ_op rfl <| OJ_P (P_move rfl) rfl ?_
                     obtain ⟨hg77, h⟩ := grd_Ne h
                     refine RJ_op rfl <| OJ_P (PJ_eq (P_add (a := ((x15 : Nat) : Int)) (b := (1 : Int)) rfl rfl (nat_in hg77)) rfl) rfl <| RJ_op rfl <| OJ_P (P_assign rfl) rfl <| RJ_nil <| QJ_nextR ⟨n, (x15 + 1)⟩ (Nat.lt_succ_self _) ?_ (by repeat (first | exact Kp.base | exact Kp.self | refine Kp.cons rfl ?_ | refine Kp.forget rfl ?_)) ?_ (Ent.take del2 (Ent.take del2 (Ent.drop (Ent.drop Ent.refl))))
                     · exact h
                     · exact ⟨rfl, True.intro⟩
               ·
                replace h := ite_f hg68 h
                refine AJ_takeP 12 8191 rfl (by kernel_rfl) rfl (GY_yes rfl rfl rfl hg68B) (P_move rfl) rfl (fun _ _ _ _ h => h) ?_
                obtain ⟨r219, hr220, h⟩ := bind_e h
                refine AJ_op 13 16383 rfl (by kernel_rfl) rfl (GY_yes rfl rfl rfl hg68B) <| O_call (L_regionlog_Log_IsDirty hr220) rfl Try.call16 (Dels.cons del3 (Dels.cons del3 Dels.nil)) rfl fun _ _ => ⟨fun h => absurd h (by decide), ?_⟩
                refine AJ_takeP 14 32767 rfl (by kernel_rfl) rfl (GY_yes rfl rfl rfl hg66B) (P_pickF rfl hg68B rfl) rfl (fun _ _ _ _ h => h) <| AJ_takeP 15 65535 rfl (by kernel_rfl) rfl (GY_yes rfl rfl rfl hg66B) (P_move rfl) rfl (fun _ _ _ _ h => h) <| AJ_splitP 134 rfl Iff.rfl (fun hg78B hg78 => ?_) (fun hg78B hg78 => ?_)
                ·
                 replace h := ite_t hg78 h
                 refine AJ_skip 16 131071 rfl (by kernel_rfl) rfl (GY_no rfl rfl rfl hg78B) rfl (fun _ _ _ _ h => h) <| AJ_skip 17 262143 rfl (by kernel_rfl) rfl (GY_no rfl rfl rfl hg78B) rfl (fun _ _ _ _ h => h) <| AJ_skip 18 524287 rfl (by kernel_rfl) rfl (GY_no rfl rfl rfl hg78B) rfl (fun _ _ _ _ h => h) <| AJ_takeP 19 1048575 rfl (by kernel_rfl) rfl (GY_yes rfl rfl rfl hg66B) (P_pickT rfl hg78B rfl) rfl (fun _ _ _ _ h => h) <| AJ_takeP 20 2097151 rfl (by kernel_rfl) rfl (GY_none rfl) (P_pickT rfl hg66B rfl) rfl (fun _ _ _ _ h => h) <| AJ_done (by kernel_rfl) <| QJ_ent (Ent.take del1 (Ent.take del4 (Ent.take del4 (Ent.take del4 (Ent.take del4 (Ent.drop (Ent.drop (Ent.drop (Ent.drop Ent.refl))))))))) <| QJ_then <| CJ_condT rfl rfl <| CJ_seq <| CJ_region <| RJ_op rfl <| OJ_P (P_assign rfl) rfl <| RJ_nil <| QJ_then <| CJ_ret <| QJ_then_ret <| QJ_block_ret <| QJ_then_ret <| QJ_round_ret <| QJ_block_ret <| QJ_then_ret ?_
                 have hE := Option.some.inj h
                 replace hE := seq_inr hK12 hE.symm
                 subst hE
                 refine QJ_end (res1 Try.results3 rfl) <| CSpec.close () ?_ ?_ (Ent.take del4 (Ent.drop (Ent.drop (Ent.drop (Ent.drop Ent.refl)))))
                 · rfl
                 · trivial
                ·
                 replace h := ite_f hg78 h
                 refine AJ_takeP 16 131071 rfl (by kernel_rfl) rfl (GY_yes rfl rfl rfl hg78B) (P_move rfl) rfl (fun _ _ _ _ h => h) <| AJ_takeP 17 262143 rfl (by kernel_rfl) rfl (GY_yes rfl rfl rfl hg78B) (P_move rfl) rfl (fun _ _ _ _ h => h) ?_
                 obtain ⟨r221, hr222, h⟩ := bind_e h
                 refine AJ_op 18 524287 rfl (by kernel_rfl) rfl (GY_yes rfl rfl rfl hg78B) <| O_call (L_regionlog_Log_IsDirty hr222) rfl Try.call16 (Dels.cons del0 (Dels.cons del0 Dels.nil)) rfl fun _ _ => ⟨fun h => absurd h (by decide), ?_⟩
                 refine AJ_takeP 19 1048575 rfl (by kernel_rfl) rfl (GY_yes rfl rfl rfl hg66B) (P_pickF rfl hg78B rfl) rfl (fun _ _ _ _ h => h) <| AJ_takeP 20 2097151 rfl (by kernel_rfl) rfl (GY_none rfl) (P_pickT rfl hg66B rfl) rfl (fun _ _ _ _ h => h) <| AJ_done (by kernel_rfl) <| QJ_ent (Ent.take del1 (Ent.take del4 (Ent.take del4 (Ent.take del4 (Ent.take del4 (Ent.drop (Ent.drop (Ent.drop (Ent.drop Ent.refl))))))))) <| QJ_then <| CJ_condP rfl Iff.rfl (fun hg79 => ?_) (fun hg79 => ?_)
                 ·
                  replace h := ite_t hg79 h
                  refine CJ_seq <| CJ_region <| RJ_op rfl <| OJ_P (P_assign rfl) rfl <| RJ_nil <| QJ_then <| CJ_ret <| QJ_then_ret <| QJ_block_ret <| QJ_then_ret <| QJ_round_ret <| QJ_block_ret <| QJ_then_ret ?_
                  have hE := Option.some.inj h
                  replace hE := seq_inr hK12 hE.symm
                  subst hE
                  refine QJ_end (res1 Try.results3 rfl) <| CSpec.close () ?_ ?_ (Ent.take del4 (Ent.drop (Ent.drop (Ent.drop (Ent.drop Ent.refl)))))
                  · rfl
                  · trivial
                 ·
                  replace h := ite_f hg79 h
                  refine CJ_skip <| QJ_then <| CJ_seq <| CJ_seq <| CJ_region <| RJ_op rfl <| OJ_P (P_move rfl) rfl <| RJ_op rfl <| OJ_V (V_index (i := 0) rfl rfl rfl (by have hz : 0 < r52.length := (by omega); have hy := hdl57; omega) foc2 (Reads.sl _ _ _) Try.runUnderlying32 Try.sizeOf38) rfl <| RJ_ent (Ent.trans (Ent.take del1 Ent.refl) (Rs_at (fun _ _ => Dup_DevP) (dx := dv0) (dh := tyDev.dflt) (i := 0) (by omega))) <| RJ_op rfl <| OJ_V (V_loadE rfl rfl (by have hz : 0 < r52.length := (by omega); have hy := hdl57; omega) foc3 (Reads.sl _ _ _) rfl rfl Try.isAgg38) rfl <| RJ_op rfl <| OJ_P (P_move rfl) rfl ?_
                  obtain ⟨r224, hr225, h⟩ := bind_e h
                  refine RJ_op rfl <| O_call (L_regionlog_Format hr225) rfl Try.call17 (Dels.cons del0 (Dels.cons del1 Dels.nil)) rfl fun _ _ => RJ_op rfl <| OJ_P (P_move rfl) rfl <| RJ_op rfl <| OJ_P (P_neq (a := r224.1) (b := ((a24 : Nat) : Int)) rfl rfl) rfl <| RJ_op rfl <| OJ_P (P_move rfl) rfl <| RJ_splitP 147 rfl bT_dec (fun hg80B hg80 => ?_) (fun hg80B hg80 => ?_)
                  ·
                   replace h := ite_t hg80 h
                   refine RJ_gn (GY_no rfl rfl rfl hg80B) rfl rfl <| RJ_gn (GY_no rfl rfl rfl hg80B) rfl rfl <| RJ_gn (GY_no rfl rfl rfl hg80B) rfl rfl <| RJ_op rfl <| OJ_P (P_pickT rfl hg80B rfl) rfl <| RJ_nil <| QJ_then <| CJ_condT rfl rfl <| CJ_seq <| CJ_region <| RJ_op rfl <| OJ_P (P_assign rfl) rfl <| RJ_nil <| QJ_then <| CJ_ret <| QJ_then_ret <| QJ_block_ret <| QJ_then_ret <| QJ_round_ret <| QJ_block_ret <| QJ_then_ret ?_
                   have hE := Option.some.inj h
                   replace hE := seq_inr hK12 hE.symm
                   subst hE
                   refine QJ_end (res1 Try.results3 rfl) <| CSpec.close () ?_ ?_ (Ent.take del5 (Ent.drop (Ent.drop (Ent.drop (Ent.drop (Ent.drop Ent.refl))))))
                   · rfl
                   · trivial
                  ·
                   replace h := ite_f hg80 h
                   refine RJ_gy (GY_yes rfl rfl rfl hg80B) <| OJ_P (P_move rfl) rfl <| RJ_gy (GY_yes rfl rfl rfl hg80B) <| O_call (c_Unflushed) rfl Try.call18 (Dels.cons del1 Dels.nil) rfl fun _ _ => RJ_gy (GY_yes rfl rfl rfl hg80B) <| OJ_P (P_neq (a := ((r224.2.log.length : Nat) : Int)) (b := (0 : Int)) rfl rfl) rfl <| RJ_op rfl <| OJ_P (P_pickF rfl hg80B rfl) rfl <| RJ_nil <| QJ_then <| CJ_condP rfl bT_dec (fun hg81 => ?_) (fun hg81 => ?_)
                   ·
                    replace h := ite_t hg81 h
                    refine CJ_seq <| CJ_region <| RJ_op rfl <| OJ_P (P_assign rfl) rfl <| RJ_nil <| QJ_then <| CJ_ret <| QJ_then_ret <| QJ_block_ret <| QJ_then_ret <| QJ_round_ret <| QJ_block_ret <| QJ_then_ret ?_
                    have hE := Option.some.inj h
                    replace hE := seq_inr hK12 hE.symm
                    subst hE
                    refine QJ_end (res1 Try.results3 rfl) <| CSpec.close () ?_ ?_ (Ent.take del5 (Ent.drop (Ent.drop (Ent.drop (Ent.drop (Ent.drop Ent.refl))))))
                    · rfl
                    · trivial
                   ·
                    replace h := ite_f hg81 h
                    refine CJ_skip <| QJ_then <| CJ_seq <| CJ_region <| RJ_op rfl <| OJ_P (P_move rfl) rfl <| RJ_op rfl <| OJ_V (V_index (i := 0) rfl rfl rfl (by have hz : 0 < r52.length := (by omega); have hy := hdl57; omega) foc3 (Reads.sl _ _ _) Try.runUnderlying32 Try.sizeOf38) rfl <| RJ_ent (Ent.trans (Ent.take del2 Ent.refl) (Rs_at (fun _ _ => Dup_DevP) (dx := dv0) (dh := tyDev.dflt) (i := 0) (by omega))) <| RJ_op rfl <| OJ_V (V_loadE rfl rfl (by have hz : 0 < r52.length := (by omega); have hy := hdl57; omega) foc4 (Reads.sl _ _ _) rfl rfl Try.isAgg38) rfl <| RJ_op rfl <| OJ_P (P_move rfl) rfl ?_
                    obtain ⟨r227, hr228, h⟩ := bind_e h
                    refine RJ_op rfl <| O_call (L_regionlog_Open hr228) rfl Try.call12 (Dels.cons del0 (Dels.cons del1 Dels.nil)) rfl fun X229 _ => RJ_op rfl <| OJ_P (P_move rfl) rfl <| RJ_op rfl <| OJ_P (P_extract rfl rfl) rfl <| RJ_op rfl <| OJ_P (P_extract rfl rfl) rfl <| RJ_op rfl <| OJ_P (P_assign rfl) rfl <| RJ_op rfl <| OJ_P (P_assign rfl) rfl <| RJ_nil <| QJ_ent (Ent.take del1 (Ent.take del1 (Ent.take del4 (Ent.take del4 (Ent.drop (Ent.drop (Ent.drop (Ent.drop Ent.refl)))))))) <| QJ_then <| CJ_seq <| CJ_region <| RJ_op rfl <| OJ_P (P_move rfl) rfl <| RJ_op rfl <| OJ_P (P_eql (a := ((a24 : Nat) : Int)) (b := (0 : Int)) rfl rfl) rfl <| RJ_op rfl <| OJ_P (P_move rfl) rfl <| RJ_splitP 162 rfl bT_dec (fun hg82B hg82 => ?_) (fun hg82B hg82 => ?_)
                    ·
                     replace h := ite_t hg82 h
                     refine RJ_gy (GY_yes rfl rfl rfl hg82B) <| OJ_P (P_move rfl) rfl <| RJ_gy (GY_yes rfl rfl rfl hg82B) <| OJ_P (P_neq (a := r227.2) (b := (0 : Int)) rfl rfl) rfl <| RJ_gy (GY_yes rfl rfl rfl hg82B) <| OJ_P (P_move rfl) rfl <| RJ_mbF rfl rfl rfl (fun hG231 => have hP232 : ¬ (r227.2 ≠ (0 : Int)) := nP (bT_dec) hG231; VJ_P (P_move rfl)) <| RJ_splitP 165 rfl bT_dec (fun hg83B hg83 => ?_) (fun hg83B hg83 => ?_)
                     ·
                      replace h := ite_t hg83 h
                      refine RJ_gn (GY_no rfl rfl rfl hg83B) rfl rfl <| RJ_gy (GY_yes rfl rfl rfl hg82B) <| OJ_P (P_pickT rfl hg83B rfl) rfl <| RJ_gy (GY_yes rfl rfl rfl hg82B) <| OJ_P (P_move rfl) rfl <| RJ_gn (GY_no rfl rfl rfl rfl) rfl rfl <| RJ_gn (GY_no rfl rfl rfl rfl) rfl rfl <| RJ_gn (GY_no rfl rfl rfl rfl) rfl rfl <| RJ_gn (GY_no rfl rfl rfl rfl) rfl rfl <| RJ_gy (GY_yes rfl rfl rfl hg82B) <| OJ_P (P_pickT rfl rfl rfl) rfl <| RJ_op rfl <| OJ_P (P_pickT rfl hg82B rfl) rfl <| RJ_nil <| QJ_then <| CJ_condT rfl rfl <| CJ_seq <| CJ_region <| RJ_op rfl <| OJ_P (P_assign rfl) rfl <| RJ_nil <| QJ_then <| CJ_ret <| QJ_block_ret <| QJ_then_ret <| QJ_round_ret <| QJ_block_ret <| QJ_then_ret ?_
                      have hE := Option.some.inj h
                      replace hE := seq_inr hK12 hE.symm
                      subst hE
                      refine QJ_end (res1 Try.results3 rfl) <| CSpec.close () ?_ ?_ (Ent.take del3 (Ent.drop (Ent.drop (Ent.drop Ent.refl))))
                      · rfl
                      · trivial
                     ·
                      replace h := ite_f hg83 h
                      rcases opt_e h with ⟨ht235, h⟩ | ⟨o236, ht235, h⟩
                      ·
                       rw [ht235]
                       refine RJ_ent (Ent.take del0 (Ent.take del1 (Ent.take del1 (Ent.drop Ent.refl)))) <| RJ_gy (GY_yes rfl rfl rfl hg83B) <| OJ_P (P_eqlNN (mbx (not_f hg83B) rfl) rfl Try.underlying34) rfl <| RJ_gy (GY_yes rfl rfl rfl hg82B) <| OJ_P (P_pickF rfl hg83B rfl) rfl <| RJ_gy (GY_yes rfl rfl rfl hg82B) <| OJ_P (P_move rfl) rfl <| RJ_gn (GY_no rfl rfl rfl rfl) rfl rfl <| RJ_gn (GY_no rfl rfl rfl rfl) rfl rfl <| RJ_gn (GY_no rfl rfl rfl rfl) rfl rfl <| RJ_gn (GY_no rfl rfl rfl rfl) rfl rfl <| RJ_gy (GY_yes rfl rfl rfl hg82B) <| OJ_P (P_pickT rfl rfl rfl) rfl <| RJ_op rfl <| OJ_P (P_pickT rfl hg82B rfl) rfl <| RJ_nil <| QJ_then <| CJ_condT rfl rfl <| CJ_seq <| CJ_region <| RJ_op rfl <| OJ_P (P_assign rfl) rfl <| RJ_nil <| QJ_then <| CJ_ret <| QJ_block_ret <| QJ_then_ret <| QJ_round_ret <| QJ_block_ret <| QJ_then_ret ?_
                       have hE := Option.some.inj h
                       replace hE := seq_inr hK12 hE.symm
                       subst hE
                       refine QJ_end (res1 Try.results3 rfl) <| CSpec.close () ?_ ?_ (Ent.take del2 (Ent.drop (Ent.drop Ent.refl)))
                       · rfl
                       · trivial
                      ·
                       rw [ht235]
                       refine RJ_ent (Ent.takeC (A' := LogP X46 X229 o236) del1 rfl Ent.refl) <| RJ_gy (GY_yes rfl rfl rfl hg83B) <| OJ_P (P_eqlPN (mbx (not_f hg83B) rfl) rfl Try.underlying34) rfl <| RJ_gy (GY_yes rfl rfl rfl hg82B) <| OJ_P (P_pickF rfl hg83B rfl) rfl <| RJ_gy (GY_yes rfl rfl rfl hg82B) <| OJ_P (P_move rfl) rfl <| RJ_gy (GY_yes rfl rfl rfl rfl) <| OJ_P (P_move rfl) rfl ?_
                       obtain ⟨r237, hr238, h⟩ := bind_e h
                       refine RJ_gy (GY_yes rfl rfl rfl rfl) <| O_call (L_regionlog_Log_Dirty hr238) rfl Try.call14 (Dels.cons del0 (Dels.cons del0 Dels.nil)) rfl fun X239 _ => RJ_gy (GY_yes rfl rfl rfl rfl) <| OJ_V (V_len rfl foc2 (Reads.sl _ _ _) Try.runUnderlying24) rfl <| RJ_gy (GY_yes rfl rfl rfl rfl) <| OJ_P (P_neq (a := ((r237.length : Nat) : Int)) (b := (0 : Int)) rfl rfl) rfl <| RJ_gy (GY_yes rfl rfl rfl hg82B) <| OJ_P (P_pickF rfl rfl rfl) rfl <| RJ_op rfl <| OJ_P (P_pickT rfl hg82B rfl) rfl <| RJ_nil <| QJ_then <| CJ_condP rfl bT_dec (fun hg84 => ?_) (fun hg84 => ?_)
                       ·
                        replace h := ite_t hg84 h
                        refine CJ_seq <| CJ_region <| RJ_op rfl <| OJ_P (P_assign rfl) rfl <| RJ_nil <| QJ_then <| CJ_ret <| QJ_block_ret <| QJ_then_ret <| QJ_round_ret <| QJ_block_ret <| QJ_then_ret ?_
                        have hE := Option.some.inj h
                        replace hE := seq_inr hK12 hE.symm
                        subst hE
                        refine QJ_end (res1 Try.results3 rfl) <| CSpec.close () ?_ ?_ (Ent.take del4 (Ent.drop (Ent.drop (Ent.drop (Ent.drop Ent.refl)))))
                        · rfl
                        · trivial
                       ·
                        replace h := ite_f hg84 h
                        refine CJ_skip <| QJ_block_normal <| QJ_then <| CJ_region <| RJ_op rfl <| OJ_P (P_move rfl) rfl ?_
                        obtain ⟨hg85, h⟩ := grd_Ne h
                        refine RJ_op rfl <| OJ_P (PJ_eq (P_add (a := ((x15 : Nat) : Int)) (b := (1 : Int)) rfl rfl (nat_in hg85)) rfl) rfl <| RJ_op rfl <| OJ_P (P_assign rfl) rfl <| RJ_nil <| QJ_nextR ⟨n, (x15 + 1)⟩ (Nat.lt_succ_self _) ?_ (by repeat (first | exact Kp.base | exact Kp.self | refine Kp.cons rfl ?_ | refine Kp.forget rfl ?_)) ?_ (Ent.take del3 (Ent.take del3 (Ent.drop (Ent.drop (Ent.drop Ent.refl)))))
                        · exact h
                        · exact ⟨rfl, True.intro⟩
                    ·
                     replace h := ite_f hg82 h
                     refine RJ_gn (GY_no rfl rfl rfl hg82B) rfl rfl <| RJ_gn (GY_no rfl rfl rfl hg82B) rfl rfl <| RJ_gn (GY_no rfl rfl rfl hg82B) rfl rfl <| RJ_gn (GY_undef rfl rfl rfl) rfl rfl <| RJ_gn (GY_undef rfl rfl rfl) rfl rfl <| RJ_gn (GY_no rfl rfl rfl hg82B) rfl rfl <| RJ_gn (GY_no rfl rfl rfl hg82B) rfl rfl <| RJ_gn (GY_undef rfl rfl rfl) rfl rfl <| RJ_gn (GY_undef rfl rfl rfl) rfl rfl <| RJ_gn (GY_undef rfl rfl rfl) rfl rfl <| RJ_gn (GY_undef rfl rfl rfl) rfl rfl <| RJ_gn (GY_no rfl rfl rfl hg82B) rfl rfl <| RJ_op rfl <| OJ_P (P_pickF rfl hg82B rfl) rfl <| RJ_nil <| QJ_then <| CJ_condF rfl rfl <| CJ_skip <| QJ_block_normal <| QJ_then <| CJ_region <| RJ_op rfl <| OJ_P (P_move rfl) rfl ?_
                     obtain ⟨hg86, h⟩ := grd_Ne h
                     refine RJ_op rfl <| OJ_P (PJ_eq (P_add (a := ((x15 : Nat) : Int)) (b := (1 : Int)) rfl rfl (nat_in hg86)) rfl) rfl <| RJ_op rfl <| OJ_P (P_assign rfl) rfl <| RJ_nil <| QJ_nextR ⟨n, (x15 + 1)⟩ (Nat.lt_succ_self _) ?_ (by repeat (first | exact Kp.base | exact Kp.self | refine Kp.cons rfl ?_ | refine Kp.forget rfl ?_)) ?_ (Ent.take del2 (Ent.take del2 (Ent.drop (Ent.drop Ent.refl))))
                     · exact h
                     · exact ⟨rfl, True.intro⟩
              ·
               replace h := ite_f hg66 h
               refine AJ_skip 3 15 rfl (by kernel_rfl) rfl (GY_no rfl rfl rfl hg66B) rfl (fun _ _ _ _ h => h) <| AJ_skip 5 47 rfl (by kernel_rfl) rfl (GY_no rfl rfl rfl hg66B) rfl (fun _ _ _ _ h => h) <| AJ_skip 6 111 rfl (by kernel_rfl) rfl (GY_no rfl rfl rfl hg66B) rfl (fun _ _ _ _ h => h) <| AJ_skip 7 239 rfl (by kernel_rfl) rfl (GY_no rfl rfl rfl hg66B) rfl (fun _ _ _ _ h => h) <| AJ_skip 4 255 rfl (by kernel_rfl) rfl (GY_no rfl rfl rfl hg66B) rfl (fun _ _ _ _ h => h) <| AJ_skip 8 511 rfl (by kernel_rfl) rfl (GY_no rfl rfl rfl hg66B) rfl (fun _ _ _ _ h => h) <| AJ_skip 9 1023 rfl (by kernel_rfl) rfl (GY_no rfl rfl rfl hg66B) rfl (fun _ _ _ _ h => h) <| AJ_skip 10 2047 rfl (by kernel_rfl) rfl (GY_no rfl rfl rfl hg66B) rfl (fun _ _ _ _ h => h) <| AJ_skip 11 4095 rfl (by kernel_rfl) rfl (GY_no rfl rfl rfl hg66B) rfl (fun _ _ _ _ h => h) <| AJ_skip 12 8191 rfl (by kernel_rfl) rfl (GY_undef rfl rfl rfl) rfl (fun _ _ _ _ h => h) <| AJ_skip 13 16383 rfl (by kernel_rfl) rfl (GY_undef rfl rfl rfl) rfl (fun _ _ _ _ h => h) <| AJ_skip 14 32767 rfl (by kernel_rfl) rfl (GY_no rfl rfl rfl hg66B) rfl (fun _ _ _ _ h => h) <| AJ_skip 15 65535 rfl (by kernel_rfl) rfl (GY_no rfl rfl rfl hg66B) rfl (fun _ _ _ _ h => h) <| AJ_skip 16 131071 rfl (by kernel_rfl) rfl (GY_undef rfl rfl rfl) rfl (fun _ _ _ _ h => h) <| AJ_skip 17 262143 rfl (by kernel_rfl) rfl (GY_undef rfl rfl rfl) rfl (fun _ _ _ _ h => h) <| AJ_skip 18 524287 rfl (by kernel_rfl) rfl (GY_undef rfl rfl rfl) rfl (fun _ _ _ _ h => h) ?_
               refine AJ_skip 19 1048575 rfl (by kernel_rfl) rfl (GY_no rfl rfl rfl hg66B) rfl (fun _ _ _ _ h => h) <| AJ_takeP 20 2097151 rfl (by kernel_rfl) rfl (GY_none rfl) (P_pickF rfl hg66B rfl) rfl (fun _ _ _ _ h => h) <| AJ_done (by kernel_rfl) <| QJ_ent (Ent.take del1 (Ent.take del1 (Ent.take del1 (Ent.take del2 (Ent.take del2 (Ent.drop (Ent.drop Ent.refl))))))) <| QJ_then <| CJ_condF rfl rfl <| CJ_skip <| QJ_then <| CJ_seq <| CJ_seq <| CJ_region <| RJ_op rfl <| OJ_P (P_move rfl) rfl <| RJ_op rfl <| OJ_V (V_index (i := 0) rfl rfl rfl (by have hz : 0 < r52.length := (by omega); have hy := hdl57; omega) foc2 (Reads.sl _ _ _) Try.runUnderlying32 Try.sizeOf38) rfl <| RJ_ent (Ent.trans (Ent.take del1 Ent.refl) (Rs_at (fun _ _ => Dup_DevP) (dx := dv0) (dh := tyDev.dflt) (i := 0) (by omega))) <| RJ_op rfl <| OJ_V (V_loadE rfl rfl (by have hz : 0 < r52.length := (by omega); have hy := hdl57; omega) foc3 (Reads.sl _ _ _) rfl rfl Try.isAgg38) rfl <| RJ_op rfl <| OJ_P (P_move rfl) rfl ?_
               obtain ⟨r242, hr243, h⟩ := bind_e h
               refine RJ_op rfl <| O_call (L_regionlog_Format hr243) rfl Try.call17 (Dels.cons del0 (Dels.cons del1 Dels.nil)) rfl fun _ _ => RJ_op rfl <| OJ_P (P_move rfl) rfl <| RJ_op rfl <| OJ_P (P_neq (a := r242.1) (b := ((a24 : Nat) : Int)) rfl rfl) rfl <| RJ_op rfl <| OJ_P (P_move rfl) rfl <| RJ_splitP 147 rfl bT_dec (fun hg87B hg87 => ?_) (fun hg87B hg87 => ?_)
               ·
                replace h := ite_t hg87 h
                refine RJ_gn (GY_no rfl rfl rfl hg87B) rfl rfl <| RJ_gn (GY_no rfl rfl rfl hg87B) rfl rfl <| RJ_gn (GY_no rfl rfl rfl hg87B) rfl rfl <| RJ_op rfl <| OJ_P (P_pickT rfl hg87B rfl) rfl <| RJ_nil <| QJ_then <| CJ_condT rfl rfl <| CJ_seq <| CJ_region <| RJ_op rfl <| OJ_P (P_assign rfl) rfl <| RJ_nil <| QJ_then <| CJ_ret <| QJ_then_ret <| QJ_block_ret <| QJ_then_ret <| QJ_round_ret <| QJ_block_ret <| QJ_then_ret ?_
                have hE := Option.some.inj h
                replace hE := seq_inr hK12 hE.symm
                subst hE
                refine QJ_end (res1 Try.results3 rfl) <| CSpec.close () ?_ ?_ (Ent.take del5 (Ent.drop (Ent.drop (Ent.drop (Ent.drop (Ent.drop Ent.refl))))))
                · rfl
                · trivial
               ·
                replace h := ite_f hg87 h
                refine RJ_gy (GY_yes rfl rfl rfl hg87B) <| OJ_P (P_move rfl) rfl <| RJ_gy (GY_yes rfl rfl rfl hg87B) <| O_call (c_Unflushed) rfl Try.call18 (Dels.cons del1 Dels.nil) rfl fun _ _ => RJ_gy (GY_yes rfl rfl rfl hg87B) <| OJ_P (P_neq (a := ((r242.2.log.length : Nat) : Int)) (b := (0 : Int)) rfl rfl) rfl <| RJ_op rfl <| OJ_P (P_pickF rfl hg87B rfl) rfl <| RJ_nil <| QJ_then <| CJ_condP rfl bT_dec (fun hg88 => ?_) (fun hg88 => ?_)
                ·
                 replace h := ite_t hg88 h
                 refine CJ_seq <| CJ_region <| RJ_op rfl <| OJ_P (P_assign rfl) rfl <| RJ_nil <| QJ_then <| CJ_ret <| QJ_then_ret <| QJ_block_ret <| QJ_then_ret <| QJ_round_ret <| QJ_block_ret <| QJ_then_ret ?_
                 have hE := Option.some.inj h
                 replace hE := seq_inr hK12 hE.symm
                 subst hE
                 refine QJ_end (res1 Try.results3 rfl) <| CSpec.close () ?_ ?_ (Ent.take del5 (Ent.drop (Ent.drop (Ent.drop (Ent.drop (Ent.drop Ent.refl))))))
                 · rfl
                 · trivial
                ·
                 replace h := ite_f hg88 h
                 refine CJ_skip <| QJ_then <| CJ_seq <| CJ_region <| RJ_op rfl <| OJ_P (P_move rfl) rfl <| RJ_op rfl <| OJ_V (V_index (i := 0) rfl rfl rfl (by have hz : 0 < r52.length := (by omega); have hy := hdl57; omega) foc3 (Reads.sl _ _ _) Try.runUnderlying32 Try.sizeOf38) rfl <| RJ_ent (Ent.trans (Ent.take del2 Ent.refl) (Rs_at (fun _ _ => Dup_DevP) (dx := dv0) (dh := tyDev.dflt) (i := 0) (by omega))) <| RJ_op rfl <| OJ_V (V_loadE rfl rfl (by have hz : 0 < r52.length := (by omega); have hy := hdl57; omega) foc4 (Reads.sl _ _ _) rfl rfl Try.isAgg38) rfl <| RJ_op rfl <| OJ_P (P_move rfl) rfl ?_
                 obtain ⟨r245, hr246, h⟩ := bind_e h
                 refine RJ_op rfl <| O_call (L_regionlog_Open hr246) rfl Try.call12 (Dels.cons del0 (Dels.cons del1 Dels.nil)) rfl fun X247 _ => RJ_op rfl <| OJ_P (P_move rfl) rfl <| RJ_op rfl <| OJ_P (P_extract rfl rfl) rfl <| RJ_op rfl <| OJ_P (P_extract rfl rfl) rfl <| RJ_op rfl <| OJ_P (P_assign rfl) rfl <| RJ_op rfl <| OJ_P (P_assign rfl) rfl <| RJ_nil <| QJ_ent (Ent.take del1 (Ent.take del1 (Ent.take del4 (Ent.take del4 (Ent.drop (Ent.drop (Ent.drop (Ent.drop Ent.refl)))))))) <| QJ_then <| CJ_seq <| CJ_region <| RJ_op rfl <| OJ_P (P_move rfl) rfl <| RJ_op rfl <| OJ_P (P_eql (a := ((a24 : Nat) : Int)) (b := (0 : Int)) rfl rfl) rfl <| RJ_op rfl <| OJ_P (P_move rfl) rfl <| RJ_splitP 162 rfl bT_dec (fun hg89B hg89 => ?_) (fun hg89B hg89 => ?_)
                 ·
                  replace h := ite_t hg89 h
                  refine RJ_gy (GY_yes rfl rfl rfl hg89B) <| OJ_P (P_move rfl) rfl <| RJ_gy (GY_yes rfl rfl rfl hg89B) <| OJ_P (P_neq (a := r245.2) (b := (0 : Int)) rfl rfl) rfl <| RJ_gy (GY_yes rfl rfl rfl hg89B) <| OJ_P (P_move rfl) rfl <| RJ_mbF rfl rfl rfl (fun hG249 => have hP250 : ¬ (r245.2 ≠ (0 : Int)) := nP (bT_dec) hG249; VJ_P (P_move rfl)) <| RJ_splitP 165 rfl bT_dec (fun hg90B hg90 => ?_) (fun hg90B hg90 => ?_)
                  ·
                   replace h := ite_t hg90 h
                   refine RJ_gn (GY_no rfl rfl rfl hg90B) rfl rfl <| RJ_gy (GY_yes rfl rfl rfl hg89B) <| OJ_P (P_pickT rfl hg90B rfl) rfl <| RJ_gy (GY_yes rfl rfl rfl hg89B) <| OJ_P (P_move rfl) rfl <| RJ_gn (GY_no rfl rfl rfl rfl) rfl rfl <| RJ_gn (GY_no rfl rfl rfl rfl) rfl rfl <| RJ_gn (GY_no rfl rfl rfl rfl) rfl rfl <| RJ_gn (GY_no rfl rfl rfl rfl) rfl rfl <| RJ_gy (GY_yes rfl rfl rfl hg89B) <| OJ_P (P_pickT rfl rfl rfl) rfl <| RJ_op rfl <| OJ_P (P_pickT rfl hg89B rfl) rfl <| RJ_nil <| QJ_then <| CJ_condT rfl rfl <| CJ_seq <| CJ_region <| RJ_op rfl <| OJ_P (P_assign rfl) rfl <| RJ_nil <| QJ_then <| CJ_ret <| QJ_block_ret <| QJ_then_ret <| QJ_round_ret <| QJ_block_ret <| QJ_then_ret ?_
                   have hE := Option.some.inj h
                   replace hE := seq_inr hK12 hE.symm
                   subst hE
                   refine QJ_end (res1 Try.results3 rfl) <| CSpec.close () ?_ ?_ (Ent.take del3 (Ent.drop (Ent.drop (Ent.drop Ent.refl))))
                   · rfl
                   · trivial
                  ·
                   replace h := ite_f hg90 h
                   rcases opt_e h with ⟨ht253, h⟩ | ⟨o254, ht253, h⟩
                   ·
                    rw [ht253]
                    refine RJ_ent (Ent.take del0 (Ent.take del1 (Ent.take del1 (Ent.drop Ent.refl)))) <| RJ_gy (GY_yes rfl rfl rfl hg90B) <| OJ_P (P_eqlNN (mbx (not_f hg90B) rfl) rfl Try.underlying34) rfl <| RJ_gy (GY_yes rfl rfl rfl hg89B) <| OJ_P (P_pickF rfl hg90B rfl) rfl <| RJ_gy (GY_yes rfl rfl rfl hg89B) <| OJ_P (P_move rfl) rfl <| RJ_gn (GY_no rfl rfl rfl rfl) rfl rfl <| RJ_gn (GY_no rfl rfl rfl rfl) rfl rfl <| RJ_gn (GY_no rfl rfl rfl rfl) rfl rfl <| RJ_gn (GY_no rfl rfl rfl rfl) rfl rfl <| RJ_gy (GY_yes rfl rfl rfl hg89B) <| OJ_P (P_pickT rfl rfl rfl) rfl <| RJ_op rfl <| OJ_P (P_pickT rfl hg89B rfl) rfl <| RJ_nil <| QJ_then <| CJ_condT rfl rfl <| CJ_seq <| CJ_region <| RJ_op rfl <| OJ_P (P_assign rfl) rfl <| RJ_nil <| QJ_then <| CJ_ret <| QJ_block_ret <| QJ_then_ret <| QJ_round_ret <| QJ_block_ret <| QJ_then_ret ?_
                    have hE := Option.some.inj h
                    replace hE := seq_inr hK12 hE.symm
                    subst hE
                    refine QJ_end (res1 Try.results3 rfl) <| CSpec.close () ?_ ?_ (Ent.take del2 (Ent.drop (Ent.drop Ent.refl)))
                    · rfl
                    · trivial
                   ·
                    rw [ht253]
                    refine RJ_ent (Ent.takeC (A' := LogP X46 X247 o254) del1 rfl Ent.refl) <| RJ_gy (GY_yes rfl rfl rfl hg90B) <| OJ_P (P_eqlPN (mbx (not_f hg90B) rfl) rfl Try.underlying34) rfl <| RJ_gy (GY_yes rfl rfl rfl hg89B) <| OJ_P (P_pickF rfl hg90B rfl) rfl <| RJ_gy (GY_yes rfl rfl rfl hg89B) <| OJ_P (P_move rfl) rfl <| RJ_gy (GY_yes rfl rfl rfl rfl) <| OJ_P (P_move rfl) rfl ?_
                    obtain ⟨r255, hr256, h⟩ := bind_e h
                    refine RJ_gy (GY_yes rfl rfl rfl rfl) <| O_call (L_regionlog_Log_Dirty hr256) rfl Try.call14 (Dels.cons del0 (Dels.cons del0 Dels.nil)) rfl fun X257 _ => RJ_gy (GY_yes rfl rfl rfl rfl) <| OJ_V (V_len rfl foc2 (Reads.sl _ _ _) Try.runUnderlying24) rfl <| RJ_gy (GY_yes rfl rfl rfl rfl) <| OJ_P (P_neq (a := ((r255.length : Nat) : Int)) (b := (0 : Int)) rfl rfl) rfl <| RJ_gy (GY_yes rfl rfl rfl hg89B) <| OJ_P (P_pickF rfl rfl rfl) rfl <| RJ_op rfl <| OJ_P (P_pickT rfl hg89B rfl) rfl <| RJ_nil <| QJ_then <| CJ_condP rfl bT_dec (fun hg91 => ?_) (fun hg91 => ?_)
                    ·
                     replace h := ite_t hg91 h
                     refine CJ_seq <| CJ_region <| RJ_op rfl <| OJ_P (P_assign rfl) rfl <| RJ_nil <| QJ_then <| CJ_ret <| QJ_block_ret <| QJ_then_ret <| QJ_round_ret <| QJ_block_ret <| QJ_then_ret ?_
                     have hE := Option.some.inj h
                     replace hE := seq_inr hK12 hE.symm
                     subst hE
                     refine QJ_end (res1 Try.results3 rfl) <| CSpec.close () ?_ ?_ (Ent.take del4 (Ent.drop (Ent.drop (Ent.drop (Ent.drop Ent.refl)))))
                     · rfl
                     · trivial
                    ·
                     replace h := ite_f hg91 h
                     refine CJ_skip <| QJ_block_normal <| QJ_then <| CJ_region <| RJ_op rfl <| OJ_P (P_move rfl) rfl ?_
                     obtain ⟨hg92, h⟩ := grd_Ne h
                     refine RJ_op rfl <| OJ_P (PJ_eq (P_add (a := ((x15 : Nat) : Int)) (b := (1 : Int)) rfl rfl (nat_in hg92)) rfl) rfl <| RJ_op rfl <| OJ_P (P_assign rfl) rfl <| RJ_nil <| QJ_nextR ⟨n, (x15 + 1)⟩ (Nat.lt_succ_self _) ?_ (by repeat (first | exact Kp.base | exact Kp.self | refine Kp.cons rfl ?_ | refine Kp.forget rfl ?_)) ?_ (Ent.take del3 (Ent.take del3 (Ent.drop (Ent.drop (Ent.drop Ent.refl)))))
                     · exact h
                     · exact ⟨rfl, True.intro⟩
                 ·
                  replace h := ite_f hg89 h
                  refine RJ_gn (GY_no rfl rfl rfl hg89B) rfl rfl <| RJ_gn (GY_no rfl rfl rfl hg89B) rfl rfl <| RJ_gn (GY_no rfl rfl rfl hg89B) rfl rfl <| RJ_gn (GY_undef rfl rfl rfl) rfl rfl <| RJ_gn (GY_undef rfl rfl rfl) rfl rfl <| RJ_gn (GY_no rfl rfl rfl hg89B) rfl rfl <| RJ_gn (GY_no rfl rfl rfl hg89B) rfl rfl <| RJ_gn (GY_undef rfl rfl rfl) rfl rfl <| RJ_gn (GY_undef rfl rfl rfl) rfl rfl <| RJ_gn (GY_undef rfl rfl rfl) rfl rfl <| RJ_gn (GY_undef rfl rfl rfl) rfl rfl <| RJ_gn (GY_no rfl rfl rfl hg89B) rfl rfl <| RJ_op rfl <| OJ_P (P_pickF rfl hg89B rfl) rfl <| RJ_nil <| QJ_then <| CJ_condF rfl rfl <| CJ_skip <| QJ_block_normal <| QJ_then <| CJ_region <| RJ_op rfl <| OJ_P (P_move rfl) rfl ?_
                  obtain ⟨hg93, h⟩ := grd_Ne h
                  refine RJ_op rfl <| OJ_P (PJ_eq (P_add (a := ((x15 : Nat) : Int)) (b := (1 : Int)) rfl rfl (nat_in hg93)) rfl) rfl <| RJ_op rfl <| OJ_P (P_assign rfl) rfl <| RJ_nil <| QJ_nextR ⟨n, (x15 + 1)⟩ (Nat.lt_succ_self _) ?_ (by repeat (first | exact Kp.base | exact Kp.self | refine Kp.cons rfl ?_ | refine Kp.forget rfl ?_)) ?_ (Ent.take del2 (Ent.take del2 (Ent.drop (Ent.drop Ent.refl))))
                  · exact h
                  · exact ⟨rfl, True.intro⟩
    ·
     replace h := ite_f hg3 h
     refine CJ_exit <| QJ_then_exit <| QJ_round_exit <| QJ_block_here <| QJ_cutR () ?_ (by repeat (first | exact Kp.base | exact Kp.self | refine Kp.cons rfl ?_ | refine Kp.forget rfl ?_)) ?_ Ent.refl
     · exact (Option.some.inj h).symm
     · exact True.intro
  ·
   rintro _ hy259
   replace h := seq_inl hK12 hy259
   show CJ _ _ _ _ _ (([] : Slots) ++ forget _ _) (_)
   refine CJ_seq <| CJ_region ?_
   obtain ⟨r260, hr261, h⟩ := bind_e h
   refine RJ_op rfl <| O_call (L_volumegrouplaw20_awake hr261) rfl Try.call6 Dels.nil rfl fun _ _ => RJ_op rfl <| OJ_P (P_assign rfl) rfl <| RJ_nil <| QJ_then <| CJ_ret ?_
   have hE := Option.some.inj h
   subst hE
   refine QJ_end (res1 Try.results3 rfl) <| CSpec.close () ?_ ?_ (Ent.take del1 (Ent.drop Ent.refl))
   · rfl
   · trivial

end Go.Proofs
