/- YteboelcolfoddaaLRegionlogCrash: lifted functions of the program; printed by lift.py. -/
import Derived.Test.YteboelcolfoddaaLRef20
set_option linter.unusedSimpArgs false
set_option linter.unusedVariables false
set_option maxRecDepth 20000
set_option maxHeartbeats 4000000
namespace Go.Proofs
open Go.VG

@[ext] structure volumegrouplaw20_Call where
  Kind : Int
  Region : Int
  Keep : UInt64
  deriving DecidableEq
abbrev tyvolumegrouplaw20_Call : Ty volumegrouplaw20_Call := { T := 48, sz := 3, enc := fun x => [.int .i64 x.Kind, .int .i64 x.Region, .int .u64 (x.Keep.toNat : Int)], dflt := ⟨0, 0, 0⟩, len := fun _ => rfl, one := fun _ => rfl, pos := by decide }
theorem ok_tyvolumegrouplaw20_Call : ElemOk Try.prog tyvolumegrouplaw20_Call 24 := ⟨Try.t48, .agg #[.int .i64 0, .int .i64 0, .int .u64 0], by kernel_rfl, rfl, rfl, rfl, rfl⟩

theorem bs_31_1_0 (v0 : (Option Addr)) (v1 : Nat) (v2 : Nat) : BuildsSlice Try.prog 31 1 [(0, .slice v0 v1 v2)] 22 [.slice v0 v1 v2] := fun w => by kernel_rfl
def volumegrouplaw20_awake : Option (Bool) :=
  Option.bind (volumegroupmake_Loaded (([(List.replicate 3 0)] : List (List UInt64)))) fun r4 =>
  Option.elim r4 (
    some false) fun o9 =>
  Option.bind (volumegroupmake_Spans o9) fun r10 =>
  if (((r10.length : Nat) : Int) ≠ (1 : Int)) then
    some false
  else
    Option.bind (regionlog_Format (r10.getD 0 dv0) (70 : Int) o9) fun r17 =>
    if (r17.1 ≠ (0 : Int)) then
      some false
    else
      Option.bind (regionlog_Open (r10.getD 0 dv0) (70 : Int) r17.2) fun r20 =>
      if (r20.2 ≠ (0 : Int)) then
        some false
      else
        Option.elim r20.1 (
          some false) fun o29 =>
        Option.bind (regionlog_Log_Mark o29 (65 : Int) r17.2) fun r30 =>
        if (r30.1 ≠ (0 : Int)) then
          some false
        else
          Option.bind (regionlog_Open (r10.getD 0 dv0) (70 : Int) r30.2.2) fun r33 =>
          if (r33.2 = (0 : Int)) then
            Option.elim r33.1 (
              some false) fun o42 =>
            Option.bind (regionlog_Log_IsDirty o42 (65 : Int) r30.2.2) fun r43 =>
            if r43 = true then
              Option.bind (regionlog_Log_IsDirty o42 (64 : Int) r30.2.2) fun r45 =>
              if (¬ r45 = true) then
                Option.bind (regionlog_Words (64 : Int)) fun r47 =>
                if (r47 = (2 : Int)) then
                  Option.bind (regionlog_Words (65 : Int)) fun r49 =>
                  some ((decide (r49 = (3 : Int))))
                else
                  some false
              else
                some false
            else
              some false
          else
            some false

theorem L_volumegrouplaw20_awake {W : World} {r : Bool} (h : volumegrouplaw20_awake = some r) :
    CSpec Try.prog W 6 [] [] (fun x : Unit => .bool r) (fun _ => True) (fun x F => F) := by
  refine CSpec.of_body Try.func6 rfl Try.ntmps6 rfl (fun F => ?_)
  show CJ _ _ _ _ _ _ (F)
  unfold volumegrouplaw20_awake at h
  refine CJ_seq ?_
  refine CJ_region ?_
  refine RJ_op rfl (OJ_P (P_assign rfl) rfl ?_)
  refine RJ_nil ?_
  refine QJ_then ?_
  refine CJ_seq ?_
  refine CJ_region ?_
  refine RJ_op rfl (O_make (t := tyU) (m := 3) (x0 := 0) (z := _) (bytes := _) rfl rfl rfl rfl Try.underlying22 ⟨Try.t27, by kernel_rfl, rfl, rfl, rfl⟩ rfl (by omega) (by decide) rfl (fun b1 => ?_))
  refine RJ_op rfl (O_buildSlice rfl (bs_31_1_0 _ _ _) rfl (fun b2 => ?_))
  refine RJ_ent (Ent.trans (Ent.take del0 Ent.refl) (sl_of_lit (t := tyRow) (m := 1) [(⟨some ⟨b1, 0, none⟩, 3, 3⟩ : Sl3)] rfl rfl rfl (by decide))) ?_
  refine RJ_ent (Ent.starI (l := [sl tyU (.slice (some ⟨b1, 0, none⟩) 3 3) (List.replicate 3 0)]) (Ent.take del1 Ent.refl)) ?_
  obtain ⟨r4, hr5, h⟩ := bind_e h
  refine RJ_op rfl (O_call (L_volumegroupmake_Loaded (Reads.sl _ _ _) (RowsR.cons (Reads.sl _ _ _) RowsR.nil) hr5) rfl Try.call9 (Dels.cons del1 (Dels.cons del0 Dels.nil)) rfl (fun X6 _ => ?_))
  refine RJ_ent (Ent.trans (Ent.take del1 Ent.refl) (Ent.starE (l := [sl tyU (.slice (some ⟨b1, 0, none⟩) 3 3) (List.replicate 3 0)]) Ent.refl)) ?_
  refine RJ_op rfl (OJ_P (P_assign rfl) rfl ?_)
  refine RJ_nil ?_
  refine QJ_then ?_
  refine CJ_seq ?_
  refine CJ_seq ?_
  refine CJ_region ?_
  refine RJ_op rfl (OJ_P (P_move rfl) rfl ?_)
  rcases opt_e h with ⟨ht8, h⟩ | ⟨o9, ht8, h⟩
  ·
    rw [ht8]
    refine RJ_ent (Ent.take del0 (Ent.take del0 (Ent.drop Ent.refl))) ?_
    refine RJ_op rfl (OJ_P (P_eqlNN rfl rfl Try.underlying29) rfl ?_)
    refine RJ_nil ?_
    refine QJ_then ?_
    refine CJ_condT rfl rfl ?_
    refine CJ_seq ?_
    refine CJ_region ?_
    refine RJ_op rfl (OJ_P (P_assign rfl) rfl ?_)
    refine RJ_nil ?_
    refine QJ_then ?_
    refine CJ_ret ?_
    refine QJ_then_ret ?_
    have hE := Option.some.inj h
    subst hE
    refine QJ_end (res1 Try.results6 rfl) ?_
    refine CSpec.close () ?_ ?_ (Ent.drop (Ent.drop Ent.refl))
    · rfl
    · trivial
  ·
    rw [ht8]
    refine RJ_ent (Ent.takeC (A' := Arr X6 o9) del2 rfl Ent.refl) ?_
    refine RJ_op rfl (OJ_P (P_eqlPN rfl rfl Try.underlying29) rfl ?_)
    refine RJ_nil ?_
    refine QJ_then ?_
    refine CJ_condF rfl rfl ?_
    refine CJ_skip ?_
    refine QJ_then ?_
    refine CJ_seq ?_
    refine CJ_region ?_
    refine RJ_op rfl (OJ_P (P_move rfl) rfl ?_)
    obtain ⟨r10, hr11, h⟩ := bind_e h
    refine RJ_op rfl (O_call (L_volumegroupmake_Spans hr11) rfl Try.call11 (Dels.cons del0 Dels.nil) rfl (fun X12 _ => ?_))
    refine RJ_pure (fun h hh => Rs_len (stars_perm (del2 (A := Rs (DevP X6) r10 X12.2)).out h hh)) (fun hdl15 => ?_)
    refine RJ_op rfl (OJ_P (P_assign rfl) rfl ?_)
    refine RJ_nil ?_
    refine QJ_then ?_
    refine CJ_seq ?_
    refine CJ_seq ?_
    refine CJ_region ?_
    refine RJ_op rfl (OJ_P (P_move rfl) rfl ?_)
    refine RJ_op rfl (OJ_V (VJ_eq (V_len rfl foc1 (Reads.sl _ _ _) Try.runUnderlying32) (congrArg (fun z : Nat => Value.int .i64 (z : Int)) (hdl15).symm)) rfl ?_)
    refine RJ_op rfl (OJ_P (P_neq (a := ((r10.length : Nat) : Int)) (b := (1 : Int)) rfl rfl) rfl ?_)
    refine RJ_op rfl (OJ_P (P_move rfl) rfl ?_)
    refine RJ_splitP 17 rfl bT_dec (fun hg1B hg1 => ?_) (fun hg1B hg1 => ?_)
    ·
      replace h := ite_t hg1 h
      refine RJ_gn (GY_no rfl rfl rfl hg1B) rfl rfl ?_
      refine RJ_gn (GY_no rfl rfl rfl hg1B) rfl rfl ?_
      refine RJ_gn (GY_no rfl rfl rfl hg1B) rfl rfl ?_
      refine RJ_gn (GY_no rfl rfl rfl hg1B) rfl rfl ?_
      refine RJ_gn (GY_no rfl rfl rfl hg1B) rfl rfl ?_
      refine RJ_op rfl (OJ_P (P_pickT rfl hg1B rfl) rfl ?_)
      refine RJ_nil ?_
      refine QJ_then ?_
      refine CJ_condT rfl rfl ?_
      refine CJ_seq ?_
      refine CJ_region ?_
      refine RJ_op rfl (OJ_P (P_assign rfl) rfl ?_)
      refine RJ_nil ?_
      refine QJ_then ?_
      refine CJ_ret ?_
      refine QJ_then_ret ?_
      have hE := Option.some.inj h
      subst hE
      refine QJ_end (res1 Try.results6 rfl) ?_
      refine CSpec.close () ?_ ?_ (Ent.drop (Ent.drop (Ent.drop (Ent.drop (Ent.drop Ent.refl)))))
      · rfl
      · trivial
    ·
      replace h := ite_f hg1 h
      refine RJ_gy (GY_yes rfl rfl rfl hg1B) (OJ_P (P_move rfl) rfl ?_)
      refine RJ_gy (GY_yes rfl rfl rfl hg1B) (OJ_V (V_index (i := 0) rfl rfl rfl (by have hz : 0 < r10.length := (by omega); have hy := hdl15; omega) foc1 (Reads.sl _ _ _) Try.runUnderlying32 Try.sizeOf38) rfl ?_)
      refine RJ_ent (Ent.trans (Ent.take del2 Ent.refl) (Rs_at (fun _ _ => Dup_DevP) (dx := dv0) (dh := tyDev.dflt) (i := 0) (by omega))) ?_
      refine RJ_gy (GY_yes rfl rfl rfl hg1B) (OJ_V (V_loadE rfl rfl (by have hz : 0 < r10.length := (by omega); have hy := hdl15; omega) foc3 (Reads.sl _ _ _) rfl rfl Try.isAgg38) rfl ?_)
      obtain ⟨r17, hr18, h⟩ := bind_e h
      refine RJ_gy (GY_yes rfl rfl rfl hg1B) (O_call (L_regionlog_Format hr18) rfl Try.call17 (Dels.cons del0 (Dels.cons del1 Dels.nil)) rfl (fun _ _ => ?_))
      refine RJ_gy (GY_yes rfl rfl rfl hg1B) (OJ_P (P_neq (a := r17.1) (b := (0 : Int)) rfl rfl) rfl ?_)
      refine RJ_op rfl (OJ_P (P_pickF rfl hg1B rfl) rfl ?_)
      refine RJ_nil ?_
      refine QJ_then ?_
      refine CJ_condP rfl bT_dec (fun hg2 => ?_) (fun hg2 => ?_)
      ·
        replace h := ite_t hg2 h
        refine CJ_seq ?_
        refine CJ_region ?_
        refine RJ_op rfl (OJ_P (P_assign rfl) rfl ?_)
        refine RJ_nil ?_
        refine QJ_then ?_
        refine CJ_ret ?_
        refine QJ_then_ret ?_
        have hE := Option.some.inj h
        subst hE
        refine QJ_end (res1 Try.results6 rfl) ?_
        refine CSpec.close () ?_ ?_ (Ent.drop (Ent.drop (Ent.drop (Ent.drop (Ent.drop (Ent.drop Ent.refl))))))
        · rfl
        · trivial
      ·
        replace h := ite_f hg2 h
        refine CJ_skip ?_
        refine QJ_then ?_
        refine CJ_seq ?_
        refine CJ_region ?_
        refine RJ_op rfl (OJ_P (P_move rfl) rfl ?_)
        refine RJ_op rfl (OJ_V (V_index (i := 0) rfl rfl rfl (by have hz : 0 < r10.length := (by omega); have hy := hdl15; omega) foc3 (Reads.sl _ _ _) Try.runUnderlying32 Try.sizeOf38) rfl ?_)
        refine RJ_ent (Ent.trans (Ent.take del2 Ent.refl) (Rs_at (fun _ _ => Dup_DevP) (dx := dv0) (dh := tyDev.dflt) (i := 0) (by omega))) ?_
        refine RJ_op rfl (OJ_V (V_loadE rfl rfl (by have hz : 0 < r10.length := (by omega); have hy := hdl15; omega) foc4 (Reads.sl _ _ _) rfl rfl Try.isAgg38) rfl ?_)
        obtain ⟨r20, hr21, h⟩ := bind_e h
        refine RJ_op rfl (O_call (L_regionlog_Open hr21) rfl Try.call12 (Dels.cons del0 (Dels.cons del2 Dels.nil)) rfl (fun X22 _ => ?_))
        refine RJ_op rfl (OJ_P (P_move rfl) rfl ?_)
        refine RJ_op rfl (OJ_P (P_extract rfl rfl) rfl ?_)
        refine RJ_op rfl (OJ_P (P_extract rfl rfl) rfl ?_)
        refine RJ_op rfl (OJ_P (P_assign rfl) rfl ?_)
        refine RJ_op rfl (OJ_P (P_assign rfl) rfl ?_)
        refine RJ_nil ?_
        refine QJ_ent (Ent.take del1 (Ent.take del1 (Ent.take del1 (Ent.take del2 (Ent.drop (Ent.drop (Ent.drop (Ent.drop Ent.refl)))))))) ?_
        refine QJ_then ?_
        refine CJ_seq ?_
        refine CJ_seq ?_
        refine CJ_region ?_
        refine RJ_op rfl (OJ_P (P_move rfl) rfl ?_)
        refine RJ_op rfl (OJ_P (P_neq (a := r20.2) (b := (0 : Int)) rfl rfl) rfl ?_)
        refine RJ_op rfl (OJ_P (P_move rfl) rfl ?_)
        refine RJ_mbF rfl rfl rfl (fun hG24 => have hP25 : ¬ (r20.2 ≠ (0 : Int)) := nP (bT_dec) hG24; VJ_P (P_move rfl)) ?_
        refine RJ_splitP 33 rfl bT_dec (fun hg3B hg3 => ?_) (fun hg3B hg3 => ?_)
        ·
          replace h := ite_t hg3 h
          refine RJ_gn (GY_no rfl rfl rfl hg3B) rfl rfl ?_
          refine RJ_op rfl (OJ_P (P_pickT rfl hg3B rfl) rfl ?_)
          refine RJ_op rfl (OJ_P (P_move rfl) rfl ?_)
          refine RJ_gn (GY_no rfl rfl rfl rfl) rfl rfl ?_
          refine RJ_gn (GY_no rfl rfl rfl rfl) rfl rfl ?_
          refine RJ_gn (GY_no rfl rfl rfl rfl) rfl rfl ?_
          refine RJ_op rfl (OJ_P (P_pickT rfl rfl rfl) rfl ?_)
          refine RJ_nil ?_
          refine QJ_then ?_
          refine CJ_condT rfl rfl ?_
          refine CJ_seq ?_
          refine CJ_region ?_
          refine RJ_op rfl (OJ_P (P_assign rfl) rfl ?_)
          refine RJ_nil ?_
          refine QJ_then ?_
          refine CJ_ret ?_
          refine QJ_then_ret ?_
          have hE := Option.some.inj h
          subst hE
          refine QJ_end (res1 Try.results6 rfl) ?_
          refine CSpec.close () ?_ ?_ (Ent.drop (Ent.drop (Ent.drop (Ent.drop Ent.refl))))
          · rfl
          · trivial
        ·
          replace h := ite_f hg3 h
          rcases opt_e h with ⟨ht28, h⟩ | ⟨o29, ht28, h⟩
          ·
            rw [ht28]
            refine RJ_ent (Ent.take del0 (Ent.take del1 (Ent.take del1 (Ent.drop Ent.refl)))) ?_
            refine RJ_gy (GY_yes rfl rfl rfl hg3B) (OJ_P (P_eqlNN (mbx (not_f hg3B) rfl) rfl Try.underlying34) rfl ?_)
            refine RJ_op rfl (OJ_P (P_pickF rfl hg3B rfl) rfl ?_)
            refine RJ_op rfl (OJ_P (P_move rfl) rfl ?_)
            refine RJ_gn (GY_no rfl rfl rfl rfl) rfl rfl ?_
            refine RJ_gn (GY_no rfl rfl rfl rfl) rfl rfl ?_
            refine RJ_gn (GY_no rfl rfl rfl rfl) rfl rfl ?_
            refine RJ_op rfl (OJ_P (P_pickT rfl rfl rfl) rfl ?_)
            refine RJ_nil ?_
            refine QJ_then ?_
            refine CJ_condT rfl rfl ?_
            refine CJ_seq ?_
            refine CJ_region ?_
            refine RJ_op rfl (OJ_P (P_assign rfl) rfl ?_)
            refine RJ_nil ?_
            refine QJ_then ?_
            refine CJ_ret ?_
            refine QJ_then_ret ?_
            have hE := Option.some.inj h
            subst hE
            refine QJ_end (res1 Try.results6 rfl) ?_
            refine CSpec.close () ?_ ?_ (Ent.drop (Ent.drop (Ent.drop Ent.refl)))
            · rfl
            · trivial
          ·
            rw [ht28]
            refine RJ_ent (Ent.takeC (A' := LogP X6 X22 o29) del1 rfl Ent.refl) ?_
            refine RJ_gy (GY_yes rfl rfl rfl hg3B) (OJ_P (P_eqlPN (mbx (not_f hg3B) rfl) rfl Try.underlying34) rfl ?_)
            refine RJ_op rfl (OJ_P (P_pickF rfl hg3B rfl) rfl ?_)
            refine RJ_op rfl (OJ_P (P_move rfl) rfl ?_)
            refine RJ_gy (GY_yes rfl rfl rfl rfl) (OJ_P (P_move rfl) rfl ?_)
            obtain ⟨r30, hr31, h⟩ := bind_e h
            refine RJ_gy (GY_yes rfl rfl rfl rfl) (O_call (L_regionlog_Log_Mark hr31) rfl Try.call19 (Dels.cons del0 (Dels.cons del0 Dels.nil)) rfl (fun _ _ => ?_))
            refine RJ_gy (GY_yes rfl rfl rfl rfl) (OJ_P (P_neq (a := r30.1) (b := (0 : Int)) rfl rfl) rfl ?_)
            refine RJ_op rfl (OJ_P (P_pickF rfl rfl rfl) rfl ?_)
            refine RJ_nil ?_
            refine QJ_then ?_
            refine CJ_condP rfl bT_dec (fun hg4 => ?_) (fun hg4 => ?_)
            ·
              replace h := ite_t hg4 h
              refine CJ_seq ?_
              refine CJ_region ?_
              refine RJ_op rfl (OJ_P (P_assign rfl) rfl ?_)
              refine RJ_nil ?_
              refine QJ_then ?_
              refine CJ_ret ?_
              refine QJ_then_ret ?_
              have hE := Option.some.inj h
              subst hE
              refine QJ_end (res1 Try.results6 rfl) ?_
              refine CSpec.close () ?_ ?_ (Ent.drop (Ent.drop (Ent.drop (Ent.drop Ent.refl))))
              · rfl
              · trivial
            ·
              replace h := ite_f hg4 h
              refine CJ_skip ?_
              refine QJ_then ?_
              refine CJ_seq ?_
              refine CJ_region ?_
              refine RJ_op rfl (OJ_P (P_move rfl) rfl ?_)
              refine RJ_op rfl (OJ_V (V_index (i := 0) rfl rfl rfl (by have hz : 0 < r10.length := (by omega); have hy := hdl15; omega) foc3 (Reads.sl _ _ _) Try.runUnderlying32 Try.sizeOf38) rfl ?_)
              refine RJ_ent (Ent.trans (Ent.take del2 Ent.refl) (Rs_at (fun _ _ => Dup_DevP) (dx := dv0) (dh := tyDev.dflt) (i := 0) (by omega))) ?_
              refine RJ_op rfl (OJ_V (V_loadE rfl rfl (by have hz : 0 < r10.length := (by omega); have hy := hdl15; omega) foc4 (Reads.sl _ _ _) rfl rfl Try.isAgg38) rfl ?_)
              obtain ⟨r33, hr34, h⟩ := bind_e h
              refine RJ_op rfl (O_call (L_regionlog_Open hr34) rfl Try.call12 (Dels.cons del0 (Dels.cons del2 Dels.nil)) rfl (fun X35 _ => ?_))
              refine RJ_op rfl (OJ_P (P_move rfl) rfl ?_)
              refine RJ_op rfl (OJ_P (P_extract rfl rfl) rfl ?_)
              refine RJ_op rfl (OJ_P (P_extract rfl rfl) rfl ?_)
              refine RJ_op rfl (OJ_P (P_assign rfl) rfl ?_)
              refine RJ_op rfl (OJ_P (P_assign rfl) rfl ?_)
              refine RJ_nil ?_
              refine QJ_then ?_
              refine CJ_seq ?_
              refine CJ_region ?_
              refine RJ_op rfl (OJ_P (P_move rfl) rfl ?_)
              refine RJ_op rfl (OJ_P (P_eql (a := r33.2) (b := (0 : Int)) rfl rfl) rfl ?_)
              refine RJ_op rfl (OJ_P (P_move rfl) rfl ?_)
              refine RJ_mbT rfl rfl rfl (fun hG37 => have hP38 : (r33.2 = (0 : Int)) := (bT_dec).1 hG37; VJ_P (P_move rfl)) ?_
              refine RJ_splitP 51 rfl bT_dec (fun hg5B hg5 => ?_) (fun hg5B hg5 => ?_)
              ·
                replace h := ite_t hg5 h
                rcases opt_e h with ⟨ht41, h⟩ | ⟨o42, ht41, h⟩
                ·
                  rw [ht41]
                  refine RJ_ent (Ent.take del0 (Ent.take del0 (Ent.take del1 (Ent.take del1 (Ent.take del1 (Ent.drop Ent.refl)))))) ?_
                  refine RJ_gy (GY_yes rfl rfl rfl hg5B) (OJ_P (P_neqNN (mbx hg5B rfl) rfl Try.underlying34) rfl ?_)
                  refine RJ_op rfl (OJ_P (P_pickT rfl hg5B rfl) rfl ?_)
                  refine RJ_op rfl (OJ_P (P_move rfl) rfl ?_)
                  refine RJ_gn (GY_no rfl rfl rfl rfl) rfl rfl ?_
                  refine RJ_gn (GY_no rfl rfl rfl rfl) rfl rfl ?_
                  refine RJ_op rfl (OJ_P (P_pickF rfl rfl rfl) rfl ?_)
                  refine RJ_op rfl (OJ_P (P_move rfl) rfl ?_)
                  refine RJ_gn (GY_no rfl rfl rfl rfl) rfl rfl ?_
                  refine RJ_gn (GY_no rfl rfl rfl rfl) rfl rfl ?_
                  refine RJ_gn (GY_no rfl rfl rfl rfl) rfl rfl ?_
                  refine RJ_op rfl (OJ_P (P_pickF rfl rfl rfl) rfl ?_)
                  refine RJ_op rfl (OJ_P (P_move rfl) rfl ?_)
                  refine RJ_gn (GY_no rfl rfl rfl rfl) rfl rfl ?_
                  refine RJ_gn (GY_no rfl rfl rfl rfl) rfl rfl ?_
                  refine RJ_op rfl (OJ_P (P_pickF rfl rfl rfl) rfl ?_)
                  refine RJ_op rfl (OJ_P (P_move rfl) rfl ?_)
                  refine RJ_gn (GY_no rfl rfl rfl rfl) rfl rfl ?_
                  refine RJ_gn (GY_no rfl rfl rfl rfl) rfl rfl ?_
                  refine RJ_op rfl (OJ_P (P_pickF rfl rfl rfl) rfl ?_)
                  refine RJ_op rfl (OJ_P (P_assign rfl) rfl ?_)
                  refine RJ_nil ?_
                  refine QJ_then ?_
                  refine CJ_ret ?_
                  have hE := Option.some.inj h
                  subst hE
                  refine QJ_end (res1 Try.results6 rfl) ?_
                  refine CSpec.close () ?_ ?_ (Ent.drop (Ent.drop (Ent.drop (Ent.drop (Ent.drop Ent.refl)))))
                  · rfl
                  · trivial
                ·
                  rw [ht41]
                  refine RJ_ent (Ent.takeC (A' := LogP X6 X35 o42) del2 rfl Ent.refl) ?_
                  refine RJ_gy (GY_yes rfl rfl rfl hg5B) (OJ_P (P_neqPN (mbx hg5B rfl) rfl Try.underlying34) rfl ?_)
                  refine RJ_op rfl (OJ_P (P_pickT rfl hg5B rfl) rfl ?_)
                  refine RJ_op rfl (OJ_P (P_move rfl) rfl ?_)
                  refine RJ_gy (GY_yes rfl rfl rfl rfl) (OJ_P (P_move rfl) rfl ?_)
                  obtain ⟨r43, hr44, h⟩ := bind_e h
                  refine RJ_gy (GY_yes rfl rfl rfl rfl) (O_call (L_regionlog_Log_IsDirty hr44) rfl Try.call16 (Dels.cons del0 (Dels.cons del1 Dels.nil)) rfl (fun _ _ => ?_))
                  refine RJ_op rfl (OJ_P (P_pickT rfl rfl rfl) rfl ?_)
                  refine RJ_op rfl (OJ_P (P_move rfl) rfl ?_)
                  refine RJ_splitP 59 rfl Iff.rfl (fun hg6B hg6 => ?_) (fun hg6B hg6 => ?_)
                  ·
                    replace h := ite_t hg6 h
                    refine RJ_gy (GY_yes rfl rfl rfl hg6B) (OJ_P (P_move rfl) rfl ?_)
                    obtain ⟨r45, hr46, h⟩ := bind_e h
                    refine RJ_gy (GY_yes rfl rfl rfl hg6B) (O_call (L_regionlog_Log_IsDirty hr46) rfl Try.call16 (Dels.cons del0 (Dels.cons del0 Dels.nil)) rfl (fun _ _ => ?_))
                    refine RJ_gy (GY_yes rfl rfl rfl hg6B) (OJ_P (P_not rfl) rfl ?_)
                    refine RJ_op rfl (OJ_P (P_pickT rfl hg6B rfl) rfl ?_)
                    refine RJ_op rfl (OJ_P (P_move rfl) rfl ?_)
                    refine RJ_splitP 64 rfl (bT_not Iff.rfl) (fun hg7B hg7 => ?_) (fun hg7B hg7 => ?_)
                    ·
                      replace h := ite_t hg7 h
                      obtain ⟨r47, hr48, h⟩ := bind_e h
                      refine RJ_gy (GY_yes rfl rfl rfl hg7B) (O_call (L_regionlog_Words hr48) rfl Try.call10 Dels.nil rfl (fun _ _ => ?_))
                      refine RJ_gy (GY_yes rfl rfl rfl hg7B) (OJ_P (P_eql (a := r47) (b := (2 : Int)) rfl rfl) rfl ?_)
                      refine RJ_op rfl (OJ_P (P_pickT rfl hg7B rfl) rfl ?_)
                      refine RJ_op rfl (OJ_P (P_move rfl) rfl ?_)
                      refine RJ_splitP 68 rfl bT_dec (fun hg8B hg8 => ?_) (fun hg8B hg8 => ?_)
                      ·
                        replace h := ite_t hg8 h
                        obtain ⟨r49, hr50, h⟩ := bind_e h
                        refine RJ_gy (GY_yes rfl rfl rfl hg8B) (O_call (L_regionlog_Words hr50) rfl Try.call10 Dels.nil rfl (fun _ _ => ?_))
                        refine RJ_gy (GY_yes rfl rfl rfl hg8B) (OJ_P (P_eql (a := r49) (b := (3 : Int)) rfl rfl) rfl ?_)
                        refine RJ_op rfl (OJ_P (P_pickT rfl hg8B rfl) rfl ?_)
                        refine RJ_op rfl (OJ_P (P_assign rfl) rfl ?_)
                        refine RJ_nil ?_
                        refine QJ_then ?_
                        refine CJ_ret ?_
                        have hE := Option.some.inj h
                        subst hE
                        refine QJ_end (res1 Try.results6 rfl) ?_
                        refine CSpec.close () ?_ ?_ (Ent.drop (Ent.drop (Ent.drop (Ent.drop (Ent.drop (Ent.drop Ent.refl))))))
                        · rfl
                        · trivial
                      ·
                        replace h := ite_f hg8 h
                        refine RJ_gn (GY_no rfl rfl rfl hg8B) rfl rfl ?_
                        refine RJ_gn (GY_no rfl rfl rfl hg8B) rfl rfl ?_
                        refine RJ_op rfl (OJ_P (P_pickF rfl hg8B rfl) rfl ?_)
                        refine RJ_op rfl (OJ_P (P_assign rfl) rfl ?_)
                        refine RJ_nil ?_
                        refine QJ_then ?_
                        refine CJ_ret ?_
                        have hE := Option.some.inj h
                        subst hE
                        refine QJ_end (res1 Try.results6 rfl) ?_
                        refine CSpec.close () ?_ ?_ (Ent.drop (Ent.drop (Ent.drop (Ent.drop (Ent.drop (Ent.drop Ent.refl))))))
                        · rfl
                        · trivial
                    ·
                      replace h := ite_f hg7 h
                      refine RJ_gn (GY_no rfl rfl rfl hg7B) rfl rfl ?_
                      refine RJ_gn (GY_no rfl rfl rfl hg7B) rfl rfl ?_
                      refine RJ_op rfl (OJ_P (P_pickF rfl hg7B rfl) rfl ?_)
                      refine RJ_op rfl (OJ_P (P_move rfl) rfl ?_)
                      refine RJ_gn (GY_no rfl rfl rfl rfl) rfl rfl ?_
                      refine RJ_gn (GY_no rfl rfl rfl rfl) rfl rfl ?_
                      refine RJ_op rfl (OJ_P (P_pickF rfl rfl rfl) rfl ?_)
                      refine RJ_op rfl (OJ_P (P_assign rfl) rfl ?_)
                      refine RJ_nil ?_
                      refine QJ_then ?_
                      refine CJ_ret ?_
                      have hE := Option.some.inj h
                      subst hE
                      refine QJ_end (res1 Try.results6 rfl) ?_
                      refine CSpec.close () ?_ ?_ (Ent.drop (Ent.drop (Ent.drop (Ent.drop (Ent.drop (Ent.drop Ent.refl))))))
                      · rfl
                      · trivial
                  ·
                    replace h := ite_f hg6 h
                    refine RJ_gn (GY_no rfl rfl rfl hg6B) rfl rfl ?_
                    refine RJ_gn (GY_no rfl rfl rfl hg6B) rfl rfl ?_
                    refine RJ_gn (GY_no rfl rfl rfl hg6B) rfl rfl ?_
                    refine RJ_op rfl (OJ_P (P_pickF rfl hg6B rfl) rfl ?_)
                    refine RJ_op rfl (OJ_P (P_move rfl) rfl ?_)
                    refine RJ_gn (GY_no rfl rfl rfl rfl) rfl rfl ?_
                    refine RJ_gn (GY_no rfl rfl rfl rfl) rfl rfl ?_
                    refine RJ_op rfl (OJ_P (P_pickF rfl rfl rfl) rfl ?_)
                    refine RJ_op rfl (OJ_P (P_move rfl) rfl ?_)
                    refine RJ_gn (GY_no rfl rfl rfl rfl) rfl rfl ?_
                    refine RJ_gn (GY_no rfl rfl rfl rfl) rfl rfl ?_
                    refine RJ_op rfl (OJ_P (P_pickF rfl rfl rfl) rfl ?_)
                    refine RJ_op rfl (OJ_P (P_assign rfl) rfl ?_)
                    refine RJ_nil ?_
                    refine QJ_then ?_
                    refine CJ_ret ?_
                    have hE := Option.some.inj h
                    subst hE
                    refine QJ_end (res1 Try.results6 rfl) ?_
                    refine CSpec.close () ?_ ?_ (Ent.drop (Ent.drop (Ent.drop (Ent.drop (Ent.drop (Ent.drop Ent.refl))))))
                    · rfl
                    · trivial
              ·
                replace h := ite_f hg5 h
                refine RJ_gn (GY_no rfl rfl rfl hg5B) rfl rfl ?_
                refine RJ_op rfl (OJ_P (P_pickF rfl hg5B rfl) rfl ?_)
                refine RJ_op rfl (OJ_P (P_move rfl) rfl ?_)
                refine RJ_gn (GY_no rfl rfl rfl rfl) rfl rfl ?_
                refine RJ_gn (GY_no rfl rfl rfl rfl) rfl rfl ?_
                refine RJ_op rfl (OJ_P (P_pickF rfl rfl rfl) rfl ?_)
                refine RJ_op rfl (OJ_P (P_move rfl) rfl ?_)
                refine RJ_gn (GY_no rfl rfl rfl rfl) rfl rfl ?_
                refine RJ_gn (GY_no rfl rfl rfl rfl) rfl rfl ?_
                refine RJ_gn (GY_no rfl rfl rfl rfl) rfl rfl ?_
                refine RJ_op rfl (OJ_P (P_pickF rfl rfl rfl) rfl ?_)
                refine RJ_op rfl (OJ_P (P_move rfl) rfl ?_)
                refine RJ_gn (GY_no rfl rfl rfl rfl) rfl rfl ?_
                refine RJ_gn (GY_no rfl rfl rfl rfl) rfl rfl ?_
                refine RJ_op rfl (OJ_P (P_pickF rfl rfl rfl) rfl ?_)
                refine RJ_op rfl (OJ_P (P_move rfl) rfl ?_)
                refine RJ_gn (GY_no rfl rfl rfl rfl) rfl rfl ?_
                refine RJ_gn (GY_no rfl rfl rfl rfl) rfl rfl ?_
                refine RJ_op rfl (OJ_P (P_pickF rfl rfl rfl) rfl ?_)
                refine RJ_op rfl (OJ_P (P_assign rfl) rfl ?_)
                refine RJ_nil ?_
                refine QJ_then ?_
                refine CJ_ret ?_
                have hE := Option.some.inj h
                subst hE
                refine QJ_end (res1 Try.results6 rfl) ?_
                refine CSpec.close () ?_ ?_ (Ent.drop (Ent.drop (Ent.drop (Ent.drop (Ent.drop (Ent.drop Ent.refl))))))
                · rfl
                · trivial

def volumegrouplaw20_RegionlogCrash_l4_b (n_1 : UInt8) (a298 : LogS × ArrS × (List Bool) × (List Bool) × Int) (a317 : ArrS × LogS × Int) (rec : Nat → Option ((Unit) ⊕ ((ArrS × (List Bool) × (List Bool)) ⊕ Bool))) (x334 : Nat) : Option ((Unit) ⊕ ((ArrS × (List Bool) × (List Bool)) ⊕ Bool)) :=
  if (((x334 : Nat) : Int) < (((1 + n_1.toNat) : Nat) : Int)) then
    grd (decide (x334 < a298.2.2.2.1.length)) <|
    if (a298.2.2.2.1.getD x334 false) = true then
      Option.bind (regionlog_Log_IsDirty a317.2.1 (((x334 : Nat) : Int)) a317.1) fun r335 =>
      if (¬ r335 = true) then
        some (.inr (.inr false))
      else
        Option.bind (regionlog_Log_IsDirty a317.2.1 (((x334 : Nat) : Int)) a317.1) fun r337 =>
        grd (decide (r337 = true → x334 < a298.2.2.1.length)) <|
        grd (decide (r337 = true → x334 < a298.2.2.1.length)) <|
        if (r337 = true ∧ (¬ (a298.2.2.1.getD x334 false) = true)) then
          some (.inr (.inr false))
        else
          grd (inN64 (x334 + 1)) <|
          rec (x334 + 1)
    else
      Option.bind (regionlog_Log_IsDirty a317.2.1 (((x334 : Nat) : Int)) a317.1) fun r349 =>
      grd (decide (r349 = true → x334 < a298.2.2.1.length)) <|
      grd (decide (r349 = true → x334 < a298.2.2.1.length)) <|
      if (r349 = true ∧ (¬ (a298.2.2.1.getD x334 false) = true)) then
        some (.inr (.inr false))
      else
        grd (inN64 (x334 + 1)) <|
        rec (x334 + 1)
  else
    some (.inl ())

def volumegrouplaw20_RegionlogCrash_l4 (n_1 : UInt8) (a298 : LogS × ArrS × (List Bool) × (List Bool) × Int) (a317 : ArrS × LogS × Int) : Nat → Nat → Option ((Unit) ⊕ ((ArrS × (List Bool) × (List Bool)) ⊕ Bool))
  | 0, _ => none
  | n + 1, x334 => volumegrouplaw20_RegionlogCrash_l4_b n_1 a298 a317 (volumegrouplaw20_RegionlogCrash_l4 n_1 a298 a317 n) x334

def volumegrouplaw20_RegionlogCrash_l1_b (l : List volumegrouplaw20_Call) (n_1 : UInt8) (r13 : (List Dvc)) (rec : ArrS → (List Bool) → (List Bool) → Nat → LogS → Option ((ArrS × (List Bool) × (List Bool)) ⊕ Bool)) (x280 : ArrS) (x281 : List Bool) (x282 : List Bool) (x283 : Nat) (x284 : LogS) : Option ((ArrS × (List Bool) × (List Bool)) ⊕ Bool) :=
  if (((x283 : Nat) : Int) < ((l.length : Nat) : Int)) then
    lt (((((l.getD x283 (⟨0, 0, 0⟩ : volumegrouplaw20_Call))).Region).tmod ((((1 + n_1.toNat) : Nat) : Int)))) fun w288 =>
    grd (inI64 ((w288 + (((1 + n_1.toNat) : Nat) : Int)))) <|
    lt ((((w288 + (((1 + n_1.toNat) : Nat) : Int))).tmod ((((1 + n_1.toNat) : Nat) : Int)))) fun w289 =>
    Option.bind ((
      if (((l.getD x283 (⟨0, 0, 0⟩ : volumegrouplaw20_Call))).Kind = (0 : Int)) then
        Option.bind (regionlog_Log_Mark x284 w289 x280) fun r299 =>
        grd (decide (0 ≤ w289 ∧ w289 < (x282.length : Int))) <|
        grd (decide (0 ≤ w289 ∧ w289 < (x282.length : Int))) <|
        grd (decide (0 ≤ w289 ∧ w289 < (x281.length : Int))) <|
        some ((r299.2.1, r299.2.2, (x281.set ((w289).toNat) true), (x282.set ((w289).toNat) (((x282.getD ((w289).toNat) false) || (decide (r299.1 = (0 : Int)))))), r299.1))
      else
        if (((l.getD x283 (⟨0, 0, 0⟩ : volumegrouplaw20_Call))).Kind = (1 : Int)) then
          Option.bind (regionlog_Log_Clear x284 w289 x280) fun r305 =>
          grd (decide (0 ≤ w289 ∧ w289 < (x282.length : Int))) <|
          some ((r305.2.1, r305.2.2, x281, (x282.set ((w289).toNat) false), r305.1))
        else
          if (((l.getD x283 (⟨0, 0, 0⟩ : volumegrouplaw20_Call))).Kind = (2 : Int)) then
            Option.bind (regionlog_Log_Sync x284 x280) fun r307 =>
            some (x284, r307.2, x281, x282, r307.1)
          else
            if (((l.getD x283 (⟨0, 0, 0⟩ : volumegrouplaw20_Call))).Kind = (3 : Int)) then
              some ((x284, x280, x281, x282, (5 : Int)))
            else
              if (((l.getD x283 (⟨0, 0, 0⟩ : volumegrouplaw20_Call))).Kind = (4 : Int)) then
                grd (inI64 (((1 : Int) + (w289.tmod (5 : Int))))) <|
                grd (inI64 (((1 : Int) + (w289.tmod (5 : Int))))) <|
                some ((x284, { x280 with fuse := (((1 : Int) + (w289.tmod (5 : Int)))).toNat }, x281, x282, (0 : Int)))
              else
                some ((x284, x280, x281, x282, (0 : Int))) : Option (LogS × ArrS × (List Bool) × (List Bool) × Int))) fun a298 =>
    seqO ((
      if (a298.2.2.2.2 = (5 : Int)) then
        Option.bind (volumegroupmake_Keep (((l.getD x283 (⟨0, 0, 0⟩ : volumegrouplaw20_Call))).Keep)) fun r318 =>
        grd (inLen a298.2.1.writes) <|
        Option.bind (regionlog_Open (r13.getD 0 dv0) ((((1 + n_1.toNat) : Nat) : Int)) (rsS a298.2.1 r318)) fun r323 =>
        Option.elim r323.1 (
          some (.inr (.inr false))) fun o328 =>
        some (.inl ((rsS a298.2.1 r318), o328, r323.2))
      else
        some (.inl (a298.2.1, a298.1, a298.2.2.2.2)) : Option ((ArrS × LogS × Int) ⊕ ((ArrS × (List Bool) × (List Bool)) ⊕ Bool)))) fun a317 =>
    if (a317.2.2 ≠ (0 : Int)) then
      some (.inr false)
    else
      seqO (volumegrouplaw20_RegionlogCrash_l4 n_1 a298 a317 FUEL 0) fun a333 =>
      rec a317.1 a298.2.2.1 a298.2.2.2.1 (x283 + 1) a317.2.1
  else
    some (.inl (x280, x281, x282))

def volumegrouplaw20_RegionlogCrash_l1 (l : List volumegrouplaw20_Call) (n_1 : UInt8) (r13 : (List Dvc)) : Nat → ArrS → (List Bool) → (List Bool) → Nat → LogS → Option ((ArrS × (List Bool) × (List Bool)) ⊕ Bool)
  | 0, _, _, _, _, _ => none
  | n + 1, x280, x281, x282, x283, x284 => volumegrouplaw20_RegionlogCrash_l1_b l n_1 r13 (volumegrouplaw20_RegionlogCrash_l1 l n_1 r13 n) x280 x281 x282 x283 x284

def volumegrouplaw20_RegionlogCrash (l : List volumegrouplaw20_Call) (n_1 : UInt8) : Option (Bool) :=
  if ((30 : Int) < ((l.length : Nat) : Int)) then
    Option.bind (volumegrouplaw20_awake) fun r2 =>
    some r2
  else
    grd (inN64 (1 + n_1.toNat)) <|
    Option.bind (volumegroupmake_Loaded (([(List.replicate 6 0)] : List (List UInt64)))) fun r7 =>
    Option.elim r7 (
      some false) fun o12 =>
    Option.bind (volumegroupmake_Spans o12) fun r13 =>
    if (((r13.length : Nat) : Int) ≠ (1 : Int)) then
      some false
    else
      Option.bind (regionlog_Format (r13.getD 0 dv0) ((((1 + n_1.toNat) : Nat) : Int)) o12) fun r20 =>
      if (r20.1 ≠ (0 : Int)) then
        some false
      else
        Option.bind (regionlog_Open (r13.getD 0 dv0) ((((1 + n_1.toNat) : Nat) : Int)) r20.2) fun r23 =>
        if (r23.2 ≠ (0 : Int)) then
          some false
        else
          Option.elim r23.1 (
            some false) fun o32 =>
          grd (inLen (1 + n_1.toNat)) <|
          grd (inLen (1 + n_1.toNat)) <|
          seqO (volumegrouplaw20_RegionlogCrash_l1 l n_1 r13 FUEL r20.2 ((List.replicate (1 + n_1.toNat) false)) ((List.replicate (1 + n_1.toNat) false)) 0 o32) fun a279 =>
          Option.bind (volumegrouplaw20_awake) fun r365 =>
          some r365

theorem L_volumegrouplaw20_RegionlogCrash {W : World} {Al : HP} {vl : Value} {l : List volumegrouplaw20_Call} {n_1 : UInt8} {r : Bool} (rl : Reads Al tyvolumegrouplaw20_Call vl l) (h : volumegrouplaw20_RegionlogCrash l n_1 = some r) :
    CSpec Try.prog W 5 [vl, .int .u8 (n_1.toNat : Int)] [Al] (fun x : Unit => .bool r) (fun _ => True) (fun x F => Al :: F) := by
  refine CSpec.of_body Try.func5 rfl Try.ntmps5 rfl (fun F => ?_)
  show CJ _ _ _ _ _ _ (_ :: F)
  unfold volumegrouplaw20_RegionlogCrash at h
  refine CJ_pure (len_of rl del0) (fun hlen1 => ?_)
  refine CJ_seq ?_
  refine CJ_region ?_
  refine RJ_op rfl (OJ_P (P_assign rfl) rfl ?_)
  refine RJ_nil ?_
  refine QJ_then ?_
  refine CJ_seq ?_
  refine CJ_seq ?_
  refine CJ_region ?_
  refine RJ_op rfl (OJ_P (P_move rfl) rfl ?_)
  refine RJ_op rfl (OJ_V (V_len rfl foc0 rl Try.runUnderlying46) rfl ?_)
  refine RJ_op rfl (OJ_P (P_gtr (a := ((l.length : Nat) : Int)) (b := (30 : Int)) rfl rfl) rfl ?_)
  refine RJ_nil ?_
  refine QJ_then ?_
  refine CJ_condP rfl bT_dec (fun hg1 => ?_) (fun hg1 => ?_)
  ·
    replace h := ite_t hg1 h
    refine CJ_seq ?_
    refine CJ_region ?_
    obtain ⟨r2, hr3, h⟩ := bind_e h
    refine RJ_op rfl (O_call (L_volumegrouplaw20_awake hr3) rfl Try.call6 Dels.nil rfl (fun _ _ => ?_))
    refine RJ_op rfl (OJ_P (P_assign rfl) rfl ?_)
    refine RJ_nil ?_
    refine QJ_then ?_
    refine CJ_ret ?_
    refine QJ_then_ret ?_
    have hE := Option.some.inj h
    subst hE
    refine QJ_end (res1 Try.results5 rfl) ?_
    refine CSpec.close () ?_ ?_ Ent.refl
    · rfl
    · trivial
  ·
    replace h := ite_f hg1 h
    refine CJ_skip ?_
    refine QJ_then ?_
    refine CJ_seq ?_
    refine CJ_region ?_
    refine RJ_op rfl (OJ_P (P_move rfl) rfl ?_)
    refine RJ_op rfl (OJ_P (P_convSame rfl Try.runUnderlying5 Try.runUnderlying3 (wrap64_u _ (by have := n_1.toNat_lt; omega))) rfl ?_)
    obtain ⟨hg2, h⟩ := grd_Ne h
    refine RJ_op rfl (OJ_P (PJ_eq (P_add (a := (1 : Int)) (b := ((n_1.toNat : Nat) : Int)) rfl rfl (nat_in hg2)) rfl) rfl ?_)
    refine RJ_op rfl (OJ_P (P_assign rfl) rfl ?_)
    refine RJ_nil ?_
    refine QJ_then ?_
    refine CJ_seq ?_
    refine CJ_region ?_
    refine RJ_op rfl (O_make (t := tyU) (m := 6) (x0 := 0) (z := _) (bytes := _) rfl rfl rfl rfl Try.underlying22 ⟨Try.t27, by kernel_rfl, rfl, rfl, rfl⟩ rfl (by omega) (by decide) rfl (fun b4 => ?_))
    refine RJ_op rfl (O_buildSlice rfl (bs_31_1_0 _ _ _) rfl (fun b5 => ?_))
    refine RJ_ent (Ent.trans (Ent.take del0 Ent.refl) (sl_of_lit (t := tyRow) (m := 1) [(⟨some ⟨b4, 0, none⟩, 6, 6⟩ : Sl3)] rfl rfl rfl (by decide))) ?_
    refine RJ_ent (Ent.starI (l := [sl tyU (.slice (some ⟨b4, 0, none⟩) 6 6) (List.replicate 6 0)]) (Ent.take del1 Ent.refl)) ?_
    obtain ⟨r7, hr8, h⟩ := bind_e h
    refine RJ_op rfl (O_call (L_volumegroupmake_Loaded (Reads.sl _ _ _) (RowsR.cons (Reads.sl _ _ _) RowsR.nil) hr8) rfl Try.call9 (Dels.cons del1 (Dels.cons del0 Dels.nil)) rfl (fun X9 _ => ?_))
    refine RJ_ent (Ent.trans (Ent.take del1 Ent.refl) (Ent.starE (l := [sl tyU (.slice (some ⟨b4, 0, none⟩) 6 6) (List.replicate 6 0)]) Ent.refl)) ?_
    refine RJ_op rfl (OJ_P (P_assign rfl) rfl ?_)
    refine RJ_nil ?_
    refine QJ_then ?_
    refine CJ_seq ?_
    refine CJ_seq ?_
    refine CJ_region ?_
    refine RJ_op rfl (OJ_P (P_move rfl) rfl ?_)
    rcases opt_e h with ⟨ht11, h⟩ | ⟨o12, ht11, h⟩
    ·
      rw [ht11]
      refine RJ_ent (Ent.take del0 (Ent.take del0 (Ent.take del1 (Ent.drop Ent.refl)))) ?_
      refine RJ_op rfl (OJ_P (P_eqlNN rfl rfl Try.underlying29) rfl ?_)
      refine RJ_nil ?_
      refine QJ_then ?_
      refine CJ_condT rfl rfl ?_
      refine CJ_seq ?_
      refine CJ_region ?_
      refine RJ_op rfl (OJ_P (P_assign rfl) rfl ?_)
      refine RJ_nil ?_
      refine QJ_then ?_
      refine CJ_ret ?_
      refine QJ_then_ret ?_
      have hE := Option.some.inj h
      subst hE
      refine QJ_end (res1 Try.results5 rfl) ?_
      refine CSpec.close () ?_ ?_ (Ent.take del2 (Ent.drop (Ent.drop Ent.refl)))
      · rfl
      · trivial
    ·
      rw [ht11]
      refine RJ_ent (Ent.takeC (A' := Arr X9 o12) del2 rfl Ent.refl) ?_
      refine RJ_op rfl (OJ_P (P_eqlPN rfl rfl Try.underlying29) rfl ?_)
      refine RJ_nil ?_
      refine QJ_then ?_
      refine CJ_condF rfl rfl ?_
      refine CJ_skip ?_
      refine QJ_then ?_
      refine CJ_seq ?_
      refine CJ_region ?_
      refine RJ_op rfl (OJ_P (P_move rfl) rfl ?_)
      obtain ⟨r13, hr14, h⟩ := bind_e h
      refine RJ_op rfl (O_call (L_volumegroupmake_Spans hr14) rfl Try.call11 (Dels.cons del0 Dels.nil) rfl (fun X15 _ => ?_))
      refine RJ_pure (fun h hh => Rs_len (stars_perm (del2 (A := Rs (DevP X9) r13 X15.2)).out h hh)) (fun hdl18 => ?_)
      refine RJ_op rfl (OJ_P (P_assign rfl) rfl ?_)
      refine RJ_nil ?_
      refine QJ_then ?_
      refine CJ_seq ?_
      refine CJ_seq ?_
      refine CJ_region ?_
      refine RJ_op rfl (OJ_P (P_move rfl) rfl ?_)
      refine RJ_op rfl (OJ_V (VJ_eq (V_len rfl foc1 (Reads.sl _ _ _) Try.runUnderlying32) (congrArg (fun z : Nat => Value.int .i64 (z : Int)) (hdl18).symm)) rfl ?_)
      refine RJ_op rfl (OJ_P (P_neq (a := ((r13.length : Nat) : Int)) (b := (1 : Int)) rfl rfl) rfl ?_)
      refine RJ_op rfl (OJ_P (P_move rfl) rfl ?_)
      refine RJ_splitP 32 rfl bT_dec (fun hg3B hg3 => ?_) (fun hg3B hg3 => ?_)
      ·
        replace h := ite_t hg3 h
        refine RJ_gn (GY_no rfl rfl rfl hg3B) rfl rfl ?_
        refine RJ_gn (GY_no rfl rfl rfl hg3B) rfl rfl ?_
        refine RJ_gn (GY_no rfl rfl rfl hg3B) rfl rfl ?_
        refine RJ_gn (GY_no rfl rfl rfl hg3B) rfl rfl ?_
        refine RJ_gn (GY_no rfl rfl rfl hg3B) rfl rfl ?_
        refine RJ_gn (GY_no rfl rfl rfl hg3B) rfl rfl ?_
        refine RJ_op rfl (OJ_P (P_pickT rfl hg3B rfl) rfl ?_)
        refine RJ_nil ?_
        refine QJ_then ?_
        refine CJ_condT rfl rfl ?_
        refine CJ_seq ?_
        refine CJ_region ?_
        refine RJ_op rfl (OJ_P (P_assign rfl) rfl ?_)
        refine RJ_nil ?_
        refine QJ_then ?_
        refine CJ_ret ?_
        refine QJ_then_ret ?_
        have hE := Option.some.inj h
        subst hE
        refine QJ_end (res1 Try.results5 rfl) ?_
        refine CSpec.close () ?_ ?_ (Ent.take del5 (Ent.drop (Ent.drop (Ent.drop (Ent.drop (Ent.drop Ent.refl))))))
        · rfl
        · trivial
      ·
        replace h := ite_f hg3 h
        refine RJ_gy (GY_yes rfl rfl rfl hg3B) (OJ_P (P_move rfl) rfl ?_)
        refine RJ_gy (GY_yes rfl rfl rfl hg3B) (OJ_V (V_index (i := 0) rfl rfl rfl (by have hz : 0 < r13.length := (by omega); have hy := hdl18; omega) foc1 (Reads.sl _ _ _) Try.runUnderlying32 Try.sizeOf38) rfl ?_)
        refine RJ_ent (Ent.trans (Ent.take del2 Ent.refl) (Rs_at (fun _ _ => Dup_DevP) (dx := dv0) (dh := tyDev.dflt) (i := 0) (by omega))) ?_
        refine RJ_gy (GY_yes rfl rfl rfl hg3B) (OJ_V (V_loadE rfl rfl (by have hz : 0 < r13.length := (by omega); have hy := hdl18; omega) foc3 (Reads.sl _ _ _) rfl rfl Try.isAgg38) rfl ?_)
        refine RJ_gy (GY_yes rfl rfl rfl hg3B) (OJ_P (P_move rfl) rfl ?_)
        obtain ⟨r20, hr21, h⟩ := bind_e h
        refine RJ_gy (GY_yes rfl rfl rfl hg3B) (O_call (L_regionlog_Format hr21) rfl Try.call17 (Dels.cons del0 (Dels.cons del1 Dels.nil)) rfl (fun _ _ => ?_))
        refine RJ_gy (GY_yes rfl rfl rfl hg3B) (OJ_P (P_neq (a := r20.1) (b := (0 : Int)) rfl rfl) rfl ?_)
        refine RJ_op rfl (OJ_P (P_pickF rfl hg3B rfl) rfl ?_)
        refine RJ_nil ?_
        refine QJ_ent (Ent.take del1 (Ent.take del1 (Ent.take del1 (Ent.take del3 (Ent.drop (Ent.drop (Ent.drop Ent.refl))))))) ?_
        refine QJ_then ?_
        refine CJ_condP rfl bT_dec (fun hg4 => ?_) (fun hg4 => ?_)
        ·
          replace h := ite_t hg4 h
          refine CJ_seq ?_
          refine CJ_region ?_
          refine RJ_op rfl (OJ_P (P_assign rfl) rfl ?_)
          refine RJ_nil ?_
          refine QJ_then ?_
          refine CJ_ret ?_
          refine QJ_then_ret ?_
          have hE := Option.some.inj h
          subst hE
          refine QJ_end (res1 Try.results5 rfl) ?_
          refine CSpec.close () ?_ ?_ (Ent.take del3 (Ent.drop (Ent.drop (Ent.drop Ent.refl))))
          · rfl
          · trivial
        ·
          replace h := ite_f hg4 h
          refine CJ_skip ?_
          refine QJ_then ?_
          refine CJ_seq ?_
          refine CJ_region ?_
          refine RJ_op rfl (OJ_P (P_move rfl) rfl ?_)
          refine RJ_op rfl (OJ_V (V_index (i := 0) rfl rfl rfl (by have hz : 0 < r13.length := (by omega); have hy := hdl18; omega) foc2 (Reads.sl _ _ _) Try.runUnderlying32 Try.sizeOf38) rfl ?_)
          refine RJ_ent (Ent.trans (Ent.take del1 Ent.refl) (Rs_at (fun _ _ => Dup_DevP) (dx := dv0) (dh := tyDev.dflt) (i := 0) (by omega))) ?_
          refine RJ_op rfl (OJ_V (V_loadE rfl rfl (by have hz : 0 < r13.length := (by omega); have hy := hdl18; omega) foc3 (Reads.sl _ _ _) rfl rfl Try.isAgg38) rfl ?_)
          refine RJ_op rfl (OJ_P (P_move rfl) rfl ?_)
          obtain ⟨r23, hr24, h⟩ := bind_e h
          refine RJ_op rfl (O_call (L_regionlog_Open hr24) rfl Try.call12 (Dels.cons del0 (Dels.cons del1 Dels.nil)) rfl (fun X25 _ => ?_))
          refine RJ_op rfl (OJ_P (P_move rfl) rfl ?_)
          refine RJ_op rfl (OJ_P (P_extract rfl rfl) rfl ?_)
          refine RJ_op rfl (OJ_P (P_extract rfl rfl) rfl ?_)
          refine RJ_op rfl (OJ_P (P_assign rfl) rfl ?_)
          refine RJ_op rfl (OJ_P (P_assign rfl) rfl ?_)
          refine RJ_nil ?_
          refine QJ_then ?_
          refine CJ_seq ?_
          refine CJ_seq ?_
          refine CJ_region ?_
          refine RJ_op rfl (OJ_P (P_move rfl) rfl ?_)
          refine RJ_op rfl (OJ_P (P_neq (a := r23.2) (b := (0 : Int)) rfl rfl) rfl ?_)
          refine RJ_op rfl (OJ_P (P_move rfl) rfl ?_)
          refine RJ_mbF rfl rfl rfl (fun hG27 => have hP28 : ¬ (r23.2 ≠ (0 : Int)) := nP (bT_dec) hG27; VJ_P (P_move rfl)) ?_
          refine RJ_splitP 50 rfl bT_dec (fun hg5B hg5 => ?_) (fun hg5B hg5 => ?_)
          ·
            replace h := ite_t hg5 h
            refine RJ_gn (GY_no rfl rfl rfl hg5B) rfl rfl ?_
            refine RJ_op rfl (OJ_P (P_pickT rfl hg5B rfl) rfl ?_)
            refine RJ_nil ?_
            refine QJ_then ?_
            refine CJ_condT rfl rfl ?_
            refine CJ_seq ?_
            refine CJ_region ?_
            refine RJ_op rfl (OJ_P (P_assign rfl) rfl ?_)
            refine RJ_nil ?_
            refine QJ_then ?_
            refine CJ_ret ?_
            refine QJ_then_ret ?_
            have hE := Option.some.inj h
            subst hE
            refine QJ_end (res1 Try.results5 rfl) ?_
            refine CSpec.close () ?_ ?_ (Ent.take del5 (Ent.drop (Ent.drop (Ent.drop (Ent.drop (Ent.drop Ent.refl))))))
            · rfl
            · trivial
          ·
            replace h := ite_f hg5 h
            rcases opt_e h with ⟨ht31, h⟩ | ⟨o32, ht31, h⟩
            ·
              rw [ht31]
              refine RJ_ent (Ent.take del0 (Ent.take del0 (Ent.take del1 (Ent.take del1 (Ent.take del1 (Ent.drop Ent.refl)))))) ?_
              refine RJ_gy (GY_yes rfl rfl rfl hg5B) (OJ_P (P_eqlNN (mbx (not_f hg5B) rfl) rfl Try.underlying34) rfl ?_)
              refine RJ_op rfl (OJ_P (P_pickF rfl hg5B rfl) rfl ?_)
              refine RJ_nil ?_
              refine QJ_then ?_
              refine CJ_condT rfl rfl ?_
              refine CJ_seq ?_
              refine CJ_region ?_
              refine RJ_op rfl (OJ_P (P_assign rfl) rfl ?_)
              refine RJ_nil ?_
              refine QJ_then ?_
              refine CJ_ret ?_
              refine QJ_then_ret ?_
              have hE := Option.some.inj h
              subst hE
              refine QJ_end (res1 Try.results5 rfl) ?_
              refine CSpec.close () ?_ ?_ (Ent.take del4 (Ent.drop (Ent.drop (Ent.drop (Ent.drop Ent.refl)))))
              · rfl
              · trivial
            ·
              rw [ht31]
              refine RJ_ent (Ent.takeC (A' := LogP X9 X25 o32) del2 rfl Ent.refl) ?_
              refine RJ_gy (GY_yes rfl rfl rfl hg5B) (OJ_P (P_eqlPN (mbx (not_f hg5B) rfl) rfl Try.underlying34) rfl ?_)
              refine RJ_op rfl (OJ_P (P_pickF rfl hg5B rfl) rfl ?_)
              refine RJ_nil ?_
              refine QJ_then ?_
              refine CJ_condF rfl rfl ?_
              refine CJ_skip ?_
              refine QJ_then ?_
              refine CJ_seq ?_
              refine AJ_startH 10 (by kernel_rfl) rfl ?_
              refine AJ_takeP 0 1 rfl (by kernel_rfl) rfl (GY_none rfl) (P_move rfl) rfl (fun _ _ _ _ h => h) ?_
              refine AJ_takeP 2 5 rfl (by kernel_rfl) rfl (GY_none rfl) (P_move rfl) rfl (fun _ _ _ _ h => h) ?_
              refine AJ_two 1 3 7 13 rfl rfl (by kernel_rfl) rfl rfl (GY_none rfl) (GY_none rfl) ?_ ?_
              ·
                obtain ⟨hg6, h⟩ := grd_Le h
                refine O_make (t := tyB) (m := (1 + n_1.toNat)) (x0 := false) (z := _) (bytes := _) rfl rfl rfl rfl Try.underlying51 ⟨Try.t4, by kernel_rfl, rfl, rfl, rfl⟩ rfl hg6 (by decide) rfl (fun b73 => ?_)
                refine ⟨fun h => absurd h (by decide), ?_⟩
                refine AJ_takeP 4 23 rfl (by kernel_rfl) rfl (GY_none rfl) (P_assign rfl) rfl (fun _ _ _ _ h => h) ?_
                obtain ⟨hg7, h⟩ := grd_Le h
                refine AJ_op 3 31 rfl (by kernel_rfl) rfl (GY_none rfl) (O_make (t := tyB) (m := (1 + n_1.toNat)) (x0 := false) (z := _) (bytes := _) rfl rfl rfl rfl Try.underlying51 ⟨Try.t4, by kernel_rfl, rfl, rfl, rfl⟩ rfl hg7 (by decide) rfl (fun b153 => ?_))
                refine ⟨fun h => absurd h (by decide), ?_⟩
                refine AJ_takeP 5 63 rfl (by kernel_rfl) rfl (GY_none rfl) (P_assign rfl) rfl (fun _ _ _ _ h => h) ?_
                refine AJ_done (by kernel_rfl) ?_
                refine QJ_ent (Ent.take del0 (Ent.take del0 (Ent.take del0 (Ent.take del1 (Ent.take del1 (Ent.take del1 (Ent.take del1 (Ent.drop Ent.refl)))))))) ?_
                refine QJ_then ?_
                refine CJ_seq ?_
                refine CJ_seq ?_
                refine CJ_region ?_
                refine RJ_op rfl (OJ_P (P_assign rfl) rfl ?_)
                refine RJ_nil ?_
                refine QJ_then ?_
                obtain ⟨y275, hl273, hK274⟩ := seq_e h
                refine CJ_cutT (X := ArrS × (List Bool) × (List Bool)) [4, 8, 9, 12, 13, 14, 58, 59, 60, 61, 62, 63, 64, 65, 66, 67, 68, 69, 70, 71, 72, 73, 74, 75, 76, 77, 78, 79, 80, 81, 82, 83, 84, 85, 86, 87, 88, 89, 90, 91, 92, 93, 94, 95, 96, 97, 98, 99, 100, 101, 102, 103, 104, 105, 106, 107, 108, 109, 110, 111, 112, 113, 114, 115, 116, 117, 118, 119, 120, 121, 122, 123, 124, 125, 126, 127, 128, 129, 130, 131, 132, 133, 134, 135, 136, 137, 138, 139, 140, 141, 142, 143, 144, 145, 146, 147, 148, 149, 150, 151, 152, 153, 154, 155, 156, 157, 158, 159, 160, 161, 162, 163, 164, 165, 166, 167, 168] (fun a279 => ([] : Slots)) (fun a279 R => Arr X9 a279.1 :: sl tyB (.slice (some ⟨b153, 0, none⟩) (1 + n_1.toNat) (1 + n_1.toNat)) a279.2.1 :: sl tyB (.slice (some ⟨b73, 0, none⟩) (1 + n_1.toNat) (1 + n_1.toNat)) a279.2.2 :: R) (fun a279 => y275 = .inl a279) (Dels.cons del3 (Dels.cons del0 (Dels.cons del0 (Dels.cons del0 Dels.nil)))) ?_ ?_
                ·
                  refine CJ_block ?_
                  refine CJ_loopR (X := Nat × ArrS × (List Bool) × (List Bool) × Nat × LogS × Nat) [4, 8, 9, 12, 13, 14, 58, 59, 60, 61, 62, 63, 64, 65, 66, 67, 68, 69, 70, 71, 72, 73, 74, 75, 76, 77, 78, 79, 80, 81, 82, 83, 84, 85, 86, 87, 88, 89, 90, 91, 92, 93, 94, 95, 96, 97, 98, 99, 100, 101, 102, 103, 104, 105, 106, 107, 108, 109, 110, 111, 112, 113, 114, 115, 116, 117, 118, 119, 120, 121, 122, 123, 124, 125, 126, 127, 128, 129, 130, 131, 132, 133, 134, 135, 136, 137, 138, 139, 140, 141, 142, 143, 144, 145, 146, 147, 148, 149, 150, 151, 152, 153, 154, 155, 156, 157, 158, 159, 160, 161, 162, 163, 164, 165, 166, 167, 168] (fun ⟨n, x280, x281, x282, x283, x284, pb285⟩ => ([(8, ptr pb285 0), (12, .int .i64 (((x283 : Nat) : Int)))] : Slots)) (fun ⟨n, x280, x281, x282, x283, x284, pb285⟩ R => Arr X9 x280 :: sl tyB (.slice (some ⟨b153, 0, none⟩) (1 + n_1.toNat) (1 + n_1.toNat)) x281 :: sl tyB (.slice (some ⟨b73, 0, none⟩) (1 + n_1.toNat) (1 + n_1.toNat)) x282 :: LogP X9 pb285 x284 :: R) (fun ⟨n, x280, x281, x282, x283, x284, pb285⟩ => volumegrouplaw20_RegionlogCrash_l1 l n_1 r13 n x280 x281 x282 x283 x284 = some y275) (fun ⟨n, x280, x281, x282, x283, x284, pb285⟩ => n) ⟨FUEL, r20.2, (List.replicate (1 + n_1.toNat) false), (List.replicate (1 + n_1.toNat) false), 0, o32, X25⟩ ?_ ?_ (Ent.take del3 Ent.refl) ?_
                  · exact hl273
                  · exact ⟨rfl, rfl, True.intro⟩
                  ·
                    rintro ⟨n, x280, x281, x282, x283, x284, pb285⟩ h
                    cases n with
                    | zero => exact none_e h
                    | succ n => ?_
                    replace h : volumegrouplaw20_RegionlogCrash_l1_b l n_1 r13 (volumegrouplaw20_RegionlogCrash_l1 l n_1 r13 n) x280 x281 x282 x283 x284 = some y275 := h
                    unfold volumegrouplaw20_RegionlogCrash_l1_b at h
                    show CJ _ _ _ _ _ (([(8, ptr pb285 0), (12, .int .i64 (((x283 : Nat) : Int)))] : Slots) ++ forget _ _) (Arr X9 x280 :: sl tyB (.slice (some ⟨b153, 0, none⟩) (1 + n_1.toNat) (1 + n_1.toNat)) x281 :: sl tyB (.slice (some ⟨b73, 0, none⟩) (1 + n_1.toNat) (1 + n_1.toNat)) x282 :: LogP X9 pb285 x284 :: _)
                    refine CJ_pure (len_of (Reads.sl _ _ _) del1) (fun hlen286 => ?_)
                    refine CJ_pure (len_of (Reads.sl _ _ _) del2) (fun hlen287 => ?_)
                    refine CJ_seq ?_
                    refine CJ_seq ?_
                    refine CJ_region ?_
                    refine RJ_op rfl (OJ_P (P_move rfl) rfl ?_)
                    refine RJ_op rfl (OJ_P (P_move rfl) rfl ?_)
                    refine RJ_op rfl (OJ_V (V_len rfl foc6 rl Try.runUnderlying46) rfl ?_)
                    refine RJ_op rfl (OJ_P (P_lss (a := ((x283 : Nat) : Int)) (b := ((l.length : Nat) : Int)) rfl rfl) rfl ?_)
                    refine RJ_nil ?_
                    refine QJ_then ?_
                    refine CJ_condP rfl bT_dec (fun hg8 => ?_) (fun hg8 => ?_)
                    ·
                      replace h := ite_t hg8 h
                      refine CJ_skip ?_
                      refine QJ_then ?_
                      refine CJ_seq ?_
                      refine CJ_block ?_
                      refine CJ_seq ?_
                      refine CJ_region ?_
                      refine RJ_op rfl (OJ_P (P_move rfl) rfl ?_)
                      refine RJ_op rfl (OJ_P (P_move rfl) rfl ?_)
                      refine RJ_op rfl (OJ_V (V_index (i := x283) rfl rfl rfl (by omega) foc6 rl Try.runUnderlying46 Try.sizeOf48) rfl ?_)
                      refine RJ_op rfl (OJ_P (P_fieldE rfl ⟨_, _, _, Try.runUnderlying48, rfl, rfl, Try.sizeOf3, rfl⟩) rfl ?_)
                      refine RJ_op rfl (OJ_V (V_loadE rfl rfl (by omega) foc6 rl rfl rfl Try.isAgg3) rfl ?_)
                      refine RJ_op rfl (OJ_P (P_move rfl) rfl ?_)
                      refine RJ_op rfl (OJ_P (P_remT (a := ((l.getD x283 (⟨0, 0, 0⟩ : volumegrouplaw20_Call))).Region) (b := (((1 + n_1.toNat) : Nat) : Int)) rfl rfl (by omega)) rfl ?_)
                      obtain ⟨w288, hw288, h⟩ := lt_e h
                      rw [← hw288]
                      refine RJ_op rfl (OJ_P (P_move rfl) rfl ?_)
                      obtain ⟨hg9, h⟩ := grd_Ie h
                      refine RJ_op rfl (OJ_P (P_add (a := w288) (b := (((1 + n_1.toNat) : Nat) : Int)) rfl rfl hg9) rfl ?_)
                      refine RJ_op rfl (OJ_P (P_move rfl) rfl ?_)
                      refine RJ_op rfl (OJ_P (P_remT (a := (w288 + (((1 + n_1.toNat) : Nat) : Int))) (b := (((1 + n_1.toNat) : Nat) : Int)) rfl rfl (by omega)) rfl ?_)
                      obtain ⟨w289, hw289, h⟩ := lt_e h
                      rw [← hw289]
                      refine RJ_op rfl (OJ_P (P_assign rfl) rfl ?_)
                      refine RJ_nil ?_
                      refine QJ_then ?_
                      refine CJ_seq ?_
                      refine CJ_region ?_
                      refine RJ_op rfl (OJ_P (P_assign rfl) rfl ?_)
                      refine RJ_nil ?_
                      refine QJ_then ?_
                      refine CJ_seq ?_
                      refine CJ_seq ?_
                      refine CJ_region ?_
                      refine RJ_op rfl (OJ_P (P_move rfl) rfl ?_)
                      refine RJ_op rfl (OJ_P (P_move rfl) rfl ?_)
                      refine RJ_op rfl (OJ_V (V_index (i := x283) rfl rfl rfl (by omega) foc6 rl Try.runUnderlying46 Try.sizeOf48) rfl ?_)
                      refine RJ_op rfl (OJ_P (P_fieldE rfl ⟨_, _, _, Try.runUnderlying48, rfl, rfl, Try.sizeOf3, rfl⟩) rfl ?_)
                      refine RJ_op rfl (OJ_V (V_loadE rfl rfl (by omega) foc6 rl rfl rfl Try.isAgg3) rfl ?_)
                      refine RJ_nil ?_
                      refine QJ_then ?_
                      obtain ⟨y292, hl290, hK291⟩ := bind_c h
                      refine CJ_cutT (X := LogS × ArrS × (List Bool) × (List Bool) × Int) [9, 80, 81, 82, 83, 84, 85, 86, 87, 88, 89, 90, 91, 92, 93, 94, 95, 96, 97, 98, 99, 100, 101, 102, 103, 104, 105, 106, 107, 108, 109, 110, 111, 112, 113, 114, 115, 116, 117, 118, 119] (fun a298 => ([(9, .int .i64 a298.2.2.2.2)] : Slots)) (fun a298 R => LogP X9 pb285 a298.1 :: Arr X9 a298.2.1 :: sl tyB (.slice (some ⟨b153, 0, none⟩) (1 + n_1.toNat) (1 + n_1.toNat)) a298.2.2.1 :: sl tyB (.slice (some ⟨b73, 0, none⟩) (1 + n_1.toNat) (1 + n_1.toNat)) a298.2.2.2.1 :: R) (fun a298 => y292 = a298) (Dels.cons del3 (Dels.cons del0 (Dels.cons del0 (Dels.cons del0 Dels.nil)))) ?_ ?_
                      ·
                        have h := hl290
                        refine CJ_block ?_
                        refine CJ_seq ?_
                        refine CJ_region ?_
                        refine RJ_op rfl (OJ_P (P_eql (a := ((l.getD x283 (⟨0, 0, 0⟩ : volumegrouplaw20_Call))).Kind) (b := (0 : Int)) rfl rfl) rfl ?_)
                        refine RJ_op rfl (OJ_P (P_assign rfl) rfl ?_)
                        refine RJ_nil ?_
                        refine QJ_then ?_
                        refine CJ_condP rfl bT_dec (fun hg10 => ?_) (fun hg10 => ?_)
                        ·
                          replace h := ite_t hg10 h
                          refine CJ_seq ?_
                          refine CJ_region ?_
                          refine RJ_op rfl (OJ_P (P_move rfl) rfl ?_)
                          refine RJ_op rfl (OJ_P (P_move rfl) rfl ?_)
                          obtain ⟨r299, hr300, h⟩ := bind_e h
                          refine RJ_op rfl (O_call (L_regionlog_Log_Mark hr300) rfl Try.call19 (Dels.cons del3 (Dels.cons del0 Dels.nil)) rfl (fun _ _ => ?_))
                          refine RJ_op rfl (OJ_P (P_assign rfl) rfl ?_)
                          refine RJ_nil ?_
                          refine QJ_then ?_
                          refine CJ_region ?_
                          refine RJ_op rfl (OJ_P (P_move rfl) rfl ?_)
                          refine RJ_op rfl (OJ_P (P_move rfl) rfl ?_)
                          refine RJ_op rfl (OJ_P (P_move rfl) rfl ?_)
                          refine RJ_op rfl (OJ_P (P_move rfl) rfl ?_)
                          refine RJ_op rfl (OJ_P (P_move rfl) rfl ?_)
                          refine RJ_op rfl (OJ_P (P_move rfl) rfl ?_)
                          obtain ⟨hg11, h⟩ := grd_de h
                          refine RJ_op rfl (OJ_V (V_index (i := (w289).toNat) rfl rfl (Int.toNat_of_nonneg (hg11.1)).symm (by omega) foc3 (Reads.sl _ _ _) Try.runUnderlying51 Try.sizeOf4) rfl ?_)
                          refine RJ_op rfl (OJ_V (V_loadE rfl rfl (by omega) foc3 (Reads.sl _ _ _) rfl rfl Try.isAgg4) rfl ?_)
                          refine RJ_op rfl (OJ_P (P_move rfl) rfl ?_)
                          refine RJ_mbF rfl rfl rfl (fun hG301 => have hP302 : ¬ (x282.getD ((w289).toNat) false) = true := nP (Iff.rfl) hG301; VJ_P (P_move rfl)) ?_
                          refine RJ_mbF rfl rfl rfl (fun hG303 => have hP304 : ¬ (x282.getD ((w289).toNat) false) = true := nP (Iff.rfl) hG303; VJ_P (P_eql (a := r299.1) (b := (0 : Int)) (mbx hG303 rfl) rfl)) ?_
                          refine RJ_op rfl (OJ_P (P_pickOr rfl rfl (fun hh => mbx (not_f hh) rfl)) rfl ?_)
                          obtain ⟨hg12, h⟩ := grd_de h
                          refine RJ_op rfl (OJ_V (V_index (i := (w289).toNat) rfl rfl (Int.toNat_of_nonneg (hg12.1)).symm (by omega) foc3 (Reads.sl _ _ _) Try.runUnderlying51 Try.sizeOf4) rfl ?_)
                          refine RJ_op rfl (O_storeE (x' := ((x282.getD ((w289).toNat) false) || (decide (r299.1 = (0 : Int))))) rfl rfl rfl (by omega) foc3 rfl rfl rfl Try.sizeOf4 ?_)
                          obtain ⟨hg13, h⟩ := grd_de h
                          refine RJ_op rfl (OJ_V (V_index (i := (w289).toNat) rfl rfl (Int.toNat_of_nonneg (hg13.1)).symm (by omega) foc2 (Reads.sl _ _ _) Try.runUnderlying51 Try.sizeOf4) rfl ?_)
                          refine RJ_op rfl (O_storeE (x' := true) rfl rfl rfl (by omega) foc2 rfl rfl rfl Try.sizeOf4 ?_)
                          refine RJ_nil ?_
                          refine QJ_block_normal ?_
                          refine QJ_cutR (r299.2.1, r299.2.2, (x281.set ((w289).toNat) true), (x282.set ((w289).toNat) (((x282.getD ((w289).toNat) false) || (decide (r299.1 = (0 : Int)))))), r299.1) ?_ (by repeat (first | exact Kp.base | exact Kp.self | refine Kp.cons rfl ?_ | refine Kp.forget rfl ?_)) ?_ Ent.refl
                          · exact (Option.some.inj h).symm
                          · exact ⟨rfl, True.intro⟩
                        ·
                          replace h := ite_f hg10 h
                          refine CJ_seq ?_
                          refine CJ_region ?_
                          refine RJ_op rfl (OJ_P (P_eql (a := ((l.getD x283 (⟨0, 0, 0⟩ : volumegrouplaw20_Call))).Kind) (b := (1 : Int)) rfl rfl) rfl ?_)
                          refine RJ_op rfl (OJ_P (P_assign rfl) rfl ?_)
                          refine RJ_nil ?_
                          refine QJ_then ?_
                          refine CJ_condP rfl bT_dec (fun hg14 => ?_) (fun hg14 => ?_)
                          ·
                            replace h := ite_t hg14 h
                            refine CJ_seq ?_
                            refine CJ_region ?_
                            refine RJ_op rfl (OJ_P (P_move rfl) rfl ?_)
                            refine RJ_op rfl (OJ_P (P_move rfl) rfl ?_)
                            obtain ⟨r305, hr306, h⟩ := bind_e h
                            refine RJ_op rfl (O_call (L_regionlog_Log_Clear hr306) rfl Try.call20 (Dels.cons del3 (Dels.cons del0 Dels.nil)) rfl (fun _ _ => ?_))
                            refine RJ_op rfl (OJ_P (P_assign rfl) rfl ?_)
                            refine RJ_nil ?_
                            refine QJ_then ?_
                            refine CJ_region ?_
                            refine RJ_op rfl (OJ_P (P_move rfl) rfl ?_)
                            refine RJ_op rfl (OJ_P (P_move rfl) rfl ?_)
                            obtain ⟨hg15, h⟩ := grd_de h
                            refine RJ_op rfl (OJ_V (V_index (i := (w289).toNat) rfl rfl (Int.toNat_of_nonneg (hg15.1)).symm (by omega) foc3 (Reads.sl _ _ _) Try.runUnderlying51 Try.sizeOf4) rfl ?_)
                            refine RJ_op rfl (O_storeE (x' := false) rfl rfl rfl (by omega) foc3 rfl rfl rfl Try.sizeOf4 ?_)
                            refine RJ_nil ?_
                            refine QJ_block_normal ?_
                            refine QJ_cutR (r305.2.1, r305.2.2, x281, (x282.set ((w289).toNat) false), r305.1) ?_ (by repeat (first | exact Kp.base | exact Kp.self | refine Kp.cons rfl ?_ | refine Kp.forget rfl ?_)) ?_ Ent.refl
                            · exact (Option.some.inj h).symm
                            · exact ⟨rfl, True.intro⟩
                          ·
                            replace h := ite_f hg14 h
                            refine CJ_seq ?_
                            refine CJ_region ?_
                            refine RJ_op rfl (OJ_P (P_eql (a := ((l.getD x283 (⟨0, 0, 0⟩ : volumegrouplaw20_Call))).Kind) (b := (2 : Int)) rfl rfl) rfl ?_)
                            refine RJ_op rfl (OJ_P (P_assign rfl) rfl ?_)
                            refine RJ_nil ?_
                            refine QJ_then ?_
                            refine CJ_condP rfl bT_dec (fun hg16 => ?_) (fun hg16 => ?_)
                            ·
                              replace h := ite_t hg16 h
                              refine CJ_region ?_
                              refine RJ_op rfl (OJ_P (P_move rfl) rfl ?_)
                              obtain ⟨r307, hr308, h⟩ := bind_e h
                              refine RJ_op rfl (O_call (L_regionlog_Log_Sync hr308) rfl Try.call21 (Dels.cons del3 (Dels.cons del0 Dels.nil)) rfl (fun _ _ => ?_))
                              refine RJ_op rfl (OJ_P (P_assign rfl) rfl ?_)
                              refine RJ_nil ?_
                              refine QJ_block_normal ?_
                              refine QJ_cutR (x284, r307.2, x281, x282, r307.1) ?_ (by repeat (first | exact Kp.base | exact Kp.self | refine Kp.cons rfl ?_ | refine Kp.forget rfl ?_)) ?_ Ent.refl
                              · exact (Option.some.inj h).symm
                              · exact ⟨rfl, True.intro⟩
                            ·
                              replace h := ite_f hg16 h
                              refine CJ_seq ?_
                              refine CJ_region ?_
                              refine RJ_op rfl (OJ_P (P_eql (a := ((l.getD x283 (⟨0, 0, 0⟩ : volumegrouplaw20_Call))).Kind) (b := (3 : Int)) rfl rfl) rfl ?_)
                              refine RJ_op rfl (OJ_P (P_assign rfl) rfl ?_)
                              refine RJ_nil ?_
                              refine QJ_then ?_
                              refine CJ_condP rfl bT_dec (fun hg17 => ?_) (fun hg17 => ?_)
                              ·
                                replace h := ite_t hg17 h
                                refine CJ_region ?_
                                refine RJ_op rfl (OJ_P (P_assign rfl) rfl ?_)
                                refine RJ_nil ?_
                                refine QJ_block_normal ?_
                                refine QJ_cutR (x284, x280, x281, x282, (5 : Int)) ?_ (by repeat (first | exact Kp.base | exact Kp.self | refine Kp.cons rfl ?_ | refine Kp.forget rfl ?_)) ?_ (Ent.take del3 Ent.refl)
                                · exact (Option.some.inj h).symm
                                · exact ⟨rfl, True.intro⟩
                              ·
                                replace h := ite_f hg17 h
                                refine CJ_seq ?_
                                refine CJ_region ?_
                                refine RJ_op rfl (OJ_P (P_eql (a := ((l.getD x283 (⟨0, 0, 0⟩ : volumegrouplaw20_Call))).Kind) (b := (4 : Int)) rfl rfl) rfl ?_)
                                refine RJ_op rfl (OJ_P (P_assign rfl) rfl ?_)
                                refine RJ_nil ?_
                                refine QJ_then ?_
                                refine CJ_condP rfl bT_dec (fun hg18 => ?_) (fun hg18 => ?_)
                                ·
                                  replace h := ite_t hg18 h
                                  refine CJ_region ?_
                                  refine RJ_op rfl (OJ_P (P_move rfl) rfl ?_)
                                  refine RJ_op rfl (OJ_P (P_move rfl) rfl ?_)
                                  refine RJ_op rfl (OJ_P (P_remT (a := w289) (b := (5 : Int)) rfl rfl (by decide)) rfl ?_)
                                  obtain ⟨hg19, h⟩ := grd_Ie h
                                  refine RJ_op rfl (OJ_P (P_add (a := (1 : Int)) (b := (w289.tmod (5 : Int))) rfl rfl hg19) rfl ?_)
                                  obtain ⟨hg20, h⟩ := grd_Ie h
                                  refine RJ_op rfl (O_call (c_FuseD hg20.2) rfl Try.call22 (Dels.cons del0 Dels.nil) rfl (fun _ _ => ?_))
                                  refine RJ_nil ?_
                                  refine QJ_block_normal ?_
                                  refine QJ_cutR (x284, { x280 with fuse := (((1 : Int) + (w289.tmod (5 : Int)))).toNat }, x281, x282, (0 : Int)) ?_ (by repeat (first | exact Kp.base | exact Kp.self | refine Kp.cons rfl ?_ | refine Kp.forget rfl ?_)) ?_ (Ent.take del3 Ent.refl)
                                  · exact (Option.some.inj h).symm
                                  · exact ⟨rfl, True.intro⟩
                                ·
                                  replace h := ite_f hg18 h
                                  refine CJ_skip ?_
                                  refine QJ_block_normal ?_
                                  refine QJ_cutR (x284, x280, x281, x282, (0 : Int)) ?_ (by repeat (first | exact Kp.base | exact Kp.self | refine Kp.cons rfl ?_ | refine Kp.forget rfl ?_)) ?_ (Ent.take del3 Ent.refl)
                                  · exact (Option.some.inj h).symm
                                  · exact ⟨rfl, True.intro⟩
                      ·
                        rintro a298 hy309
                        replace h := bindK_at hK291 hy309
                        show CJ _ _ _ _ _ (([(9, .int .i64 a298.2.2.2.2)] : Slots) ++ forget _ _) (LogP X9 pb285 a298.1 :: Arr X9 a298.2.1 :: sl tyB (.slice (some ⟨b153, 0, none⟩) (1 + n_1.toNat) (1 + n_1.toNat)) a298.2.2.1 :: sl tyB (.slice (some ⟨b73, 0, none⟩) (1 + n_1.toNat) (1 + n_1.toNat)) a298.2.2.2.1 :: _)
                        refine CJ_seq ?_
                        refine CJ_seq ?_
                        refine CJ_region ?_
                        refine RJ_op rfl (OJ_P (P_move rfl) rfl ?_)
                        refine RJ_op rfl (OJ_P (P_eql (a := a298.2.2.2.2) (b := (5 : Int)) rfl rfl) rfl ?_)
                        refine RJ_nil ?_
                        refine QJ_then ?_
                        obtain ⟨y312, hl310, hK311⟩ := seq_e h
                        refine CJ_cutT (X := (ArrS × LogS × Int) × Nat) [4, 8, 9, 122, 123, 124, 125, 126, 127, 128, 129, 130, 131, 132, 133, 134, 135, 136, 137, 138, 139] (fun ⟨a317, pb315⟩ => ([(8, ptr pb315 0), (9, .int .i64 a317.2.2)] : Slots)) (fun ⟨a317, pb315⟩ R => Arr X9 a317.1 :: LogP X9 pb315 a317.2.1 :: R) (fun ⟨a317, pb315⟩ => y312 = .inl a317) (Dels.cons del1 (Dels.cons del0 Dels.nil)) ?_ ?_
                        ·
                          have h := hl310
                          refine CJ_condP rfl bT_dec (fun hg21 => ?_) (fun hg21 => ?_)
                          ·
                            replace h := ite_t hg21 h
                            refine CJ_seq ?_
                            refine CJ_region ?_
                            refine RJ_op rfl (OJ_P (P_move rfl) rfl ?_)
                            refine RJ_op rfl (OJ_P (P_move rfl) rfl ?_)
                            refine RJ_op rfl (OJ_P (P_move rfl) rfl ?_)
                            refine RJ_op rfl (OJ_V (V_index (i := x283) rfl rfl rfl (by omega) foc6 rl Try.runUnderlying46 Try.sizeOf48) rfl ?_)
                            refine RJ_op rfl (OJ_P (P_fieldE rfl ⟨_, _, _, Try.runUnderlying48, rfl, rfl, Try.sizeOf27, rfl⟩) rfl ?_)
                            refine RJ_op rfl (OJ_V (V_loadE rfl rfl (by omega) foc6 rl rfl rfl Try.isAgg27) rfl ?_)
                            obtain ⟨r318, hr319, h⟩ := bind_e h
                            refine RJ_op rfl (O_call (L_volumegroupmake_Keep hr319) rfl Try.call24 Dels.nil rfl (fun X320 _ => ?_))
                            obtain ⟨hg22, h⟩ := grd_Le h
                            refine RJ_op rfl (O_call (c_Restart (Reads.sl _ _ _) hg22) rfl Try.call23 (Dels.cons del2 (Dels.cons del0 Dels.nil)) rfl (fun _ _ => ?_))
                            refine RJ_nil ?_
                            refine QJ_ent (Ent.take del0 (Ent.take del1 (Ent.take del1 (Ent.take del1 (Ent.take del1 (Ent.take del1 (Ent.take del1 (Ent.drop Ent.refl)))))))) ?_
                            refine QJ_then ?_
                            refine CJ_seq ?_
                            refine CJ_region ?_
                            refine RJ_op rfl (OJ_P (P_move rfl) rfl ?_)
                            refine RJ_op rfl (OJ_V (V_index (i := 0) rfl rfl rfl (by have hz : 0 < r13.length := (by omega); have hy := hdl18; omega) foc5 (Reads.sl _ _ _) Try.runUnderlying32 Try.sizeOf38) rfl ?_)
                            refine RJ_ent (Ent.trans (Ent.take del4 Ent.refl) (Rs_at (fun _ _ => Dup_DevP) (dx := dv0) (dh := tyDev.dflt) (i := 0) (by omega))) ?_
                            refine RJ_op rfl (OJ_V (V_loadE rfl rfl (by have hz : 0 < r13.length := (by omega); have hy := hdl18; omega) foc6 (Reads.sl _ _ _) rfl rfl Try.isAgg38) rfl ?_)
                            refine RJ_op rfl (OJ_P (P_move rfl) rfl ?_)
                            obtain ⟨r323, hr324, h⟩ := bind_e h
                            refine RJ_op rfl (O_call (L_regionlog_Open hr324) rfl Try.call12 (Dels.cons del0 (Dels.cons del1 Dels.nil)) rfl (fun X325 _ => ?_))
                            refine RJ_op rfl (OJ_P (P_move rfl) rfl ?_)
                            refine RJ_op rfl (OJ_P (P_extract rfl rfl) rfl ?_)
                            refine RJ_op rfl (OJ_P (P_extract rfl rfl) rfl ?_)
                            refine RJ_op rfl (OJ_P (P_assign rfl) rfl ?_)
                            refine RJ_op rfl (OJ_P (P_assign rfl) rfl ?_)
                            refine RJ_nil ?_
                            refine QJ_ent (Ent.take del1 (Ent.take del1 (Ent.take del1 (Ent.take del1 (Ent.take del1 (Ent.take del1 (Ent.take del1 (Ent.take del1 (Ent.drop Ent.refl))))))))) ?_
                            refine QJ_then ?_
                            refine CJ_seq ?_
                            refine CJ_region ?_
                            refine RJ_op rfl (OJ_P (P_move rfl) rfl ?_)
                            rcases opt_e h with ⟨ht327, h⟩ | ⟨o328, ht327, h⟩
                            ·
                              rw [ht327]
                              refine RJ_ent (Ent.take del0 (Ent.take del1 (Ent.take del1 (Ent.take del1 (Ent.take del1 (Ent.take del1 (Ent.take del1 (Ent.drop Ent.refl)))))))) ?_
                              refine RJ_op rfl (OJ_P (P_eqlNN rfl rfl Try.underlying34) rfl ?_)
                              refine RJ_nil ?_
                              refine QJ_then ?_
                              refine CJ_condT rfl rfl ?_
                              refine CJ_seq ?_
                              refine CJ_region ?_
                              refine RJ_op rfl (OJ_P (P_assign rfl) rfl ?_)
                              refine RJ_nil ?_
                              refine QJ_then ?_
                              refine CJ_ret ?_
                              refine QJ_then_ret ?_
                              refine QJ_block_ret ?_
                              refine QJ_then_ret ?_
                              refine QJ_round_ret ?_
                              refine QJ_block_ret ?_
                              refine QJ_then_ret ?_
                              have hE := Option.some.inj h
                              replace hE := seq_inr hK311 hE.symm
                              replace hE := seq_inr hK274 hE.symm
                              subst hE
                              refine QJ_end (res1 Try.results5 rfl) ?_
                              refine CSpec.close () ?_ ?_ (Ent.take del6 (Ent.drop (Ent.drop (Ent.drop (Ent.drop (Ent.drop (Ent.drop Ent.refl)))))))
                              · rfl
                              · trivial
                            ·
                              rw [ht327]
                              refine RJ_ent (Ent.takeC (A' := LogP X9 X325 o328) del1 rfl Ent.refl) ?_
                              refine RJ_op rfl (OJ_P (P_eqlPN rfl rfl Try.underlying34) rfl ?_)
                              refine RJ_nil ?_
                              refine QJ_then ?_
                              refine CJ_condF rfl rfl ?_
                              refine CJ_skip ?_
                              refine QJ_cutR ⟨((rsS a298.2.1 r318), o328, r323.2), X325⟩ ?_ (by repeat (first | exact Kp.base | exact Kp.self | refine Kp.cons rfl ?_ | refine Kp.forget rfl ?_)) ?_ (Ent.take del1 (Ent.take del0 (Ent.take del2 (Ent.take del2 (Ent.take del0 (Ent.take del1 (Ent.take del1 (Ent.drop Ent.refl))))))))
                              · exact (Option.some.inj h).symm
                              · exact ⟨rfl, rfl, True.intro⟩
                          ·
                            replace h := ite_f hg21 h
                            refine CJ_skip ?_
                            refine QJ_cutR ⟨(a298.2.1, a298.1, a298.2.2.2.2), pb285⟩ ?_ (by repeat (first | exact Kp.base | exact Kp.self | refine Kp.cons rfl ?_ | refine Kp.forget rfl ?_)) ?_ (Ent.take del1 Ent.refl)
                            · exact (Option.some.inj h).symm
                            · exact ⟨rfl, rfl, True.intro⟩
                        ·
                          rintro ⟨a317, pb315⟩ hy329
                          replace h := seq_inl hK311 hy329
                          show CJ _ _ _ _ _ (([(8, ptr pb315 0), (9, .int .i64 a317.2.2)] : Slots) ++ forget _ _) (Arr X9 a317.1 :: LogP X9 pb315 a317.2.1 :: _)
                          refine CJ_seq ?_
                          refine CJ_seq ?_
                          refine CJ_region ?_
                          refine RJ_op rfl (OJ_P (P_move rfl) rfl ?_)
                          refine RJ_op rfl (OJ_P (P_neq (a := a317.2.2) (b := (0 : Int)) rfl rfl) rfl ?_)
                          refine RJ_nil ?_
                          refine QJ_then ?_
                          refine CJ_condP rfl bT_dec (fun hg23 => ?_) (fun hg23 => ?_)
                          ·
                            replace h := ite_t hg23 h
                            refine CJ_seq ?_
                            refine CJ_region ?_
                            refine RJ_op rfl (OJ_P (P_assign rfl) rfl ?_)
                            refine RJ_nil ?_
                            refine QJ_ent (Ent.take del0 (Ent.take del1 (Ent.take del1 (Ent.take del1 (Ent.take del1 (Ent.take del1 (Ent.drop Ent.refl))))))) ?_
                            refine QJ_then ?_
                            refine CJ_ret ?_
                            refine QJ_then_ret ?_
                            refine QJ_block_ret ?_
                            refine QJ_then_ret ?_
                            refine QJ_round_ret ?_
                            refine QJ_block_ret ?_
                            refine QJ_then_ret ?_
                            have hE := Option.some.inj h
                            replace hE := seq_inr hK274 hE.symm
                            subst hE
                            refine QJ_end (res1 Try.results5 rfl) ?_
                            refine CSpec.close () ?_ ?_ (Ent.take del5 (Ent.drop (Ent.drop (Ent.drop (Ent.drop (Ent.drop Ent.refl))))))
                            · rfl
                            · trivial
                          ·
                            replace h := ite_f hg23 h
                            refine CJ_skip ?_
                            refine QJ_then ?_
                            refine CJ_seq ?_
                            refine CJ_region ?_
                            refine RJ_op rfl (OJ_P (P_assign rfl) rfl ?_)
                            refine RJ_nil ?_
                            refine QJ_then ?_
                            obtain ⟨y332, hl330, hK331⟩ := seq_e h
                            refine CJ_cutQ (X := Unit) [4, 14, 142, 143, 144, 145, 146, 147, 148, 149, 150, 151, 152, 153, 154, 155, 156, 157, 158, 159, 160, 161, 162, 163, 164, 165, 166, 167, 168] (fun _ => ([] : Slots)) (fun _ R => R) (fun _ => y332 = .inl ()) Dels.nil ?_ ?_
                            ·
                              refine CJ_block ?_
                              refine CJ_loopR (X := Nat × Nat) [4, 14, 142, 143, 144, 145, 146, 147, 148, 149, 150, 151, 152, 153, 154, 155, 156, 157, 158, 159, 160, 161, 162, 163, 164, 165, 166, 167, 168] (fun ⟨n, x334⟩ => ([(14, .int .i64 (((x334 : Nat) : Int)))] : Slots)) (fun ⟨n, x334⟩ R => R) (fun ⟨n, x334⟩ => volumegrouplaw20_RegionlogCrash_l4 n_1 a298 a317 n x334 = some y332) (fun ⟨n, x334⟩ => n) ⟨FUEL, 0⟩ ?_ ?_ Ent.refl ?_
                              · exact hl330
                              · exact ⟨rfl, True.intro⟩
                              ·
                                rintro ⟨n, x334⟩ h
                                cases n with
                                | zero => exact none_e h
                                | succ n => ?_
                                replace h : volumegrouplaw20_RegionlogCrash_l4_b n_1 a298 a317 (volumegrouplaw20_RegionlogCrash_l4 n_1 a298 a317 n) x334 = some y332 := h
                                unfold volumegrouplaw20_RegionlogCrash_l4_b at h
                                show CJ _ _ _ _ _ (([(14, .int .i64 (((x334 : Nat) : Int)))] : Slots) ++ forget _ _) (_)
                                refine CJ_seq ?_
                                refine CJ_seq ?_
                                refine CJ_region ?_
                                refine RJ_op rfl (OJ_P (P_move rfl) rfl ?_)
                                refine RJ_op rfl (OJ_P (P_move rfl) rfl ?_)
                                refine RJ_op rfl (OJ_P (P_lss (a := ((x334 : Nat) : Int)) (b := (((1 + n_1.toNat) : Nat) : Int)) rfl rfl) rfl ?_)
                                refine RJ_nil ?_
                                refine QJ_then ?_
                                refine CJ_condP rfl bT_dec (fun hg24 => ?_) (fun hg24 => ?_)
                                ·
                                  replace h := ite_t hg24 h
                                  refine CJ_skip ?_
                                  refine QJ_then ?_
                                  refine CJ_seq ?_
                                  refine CJ_block ?_
                                  refine CJ_seq ?_
                                  refine CJ_region ?_
                                  refine RJ_op rfl (OJ_P (P_move rfl) rfl ?_)
                                  refine RJ_op rfl (OJ_P (P_move rfl) rfl ?_)
                                  obtain ⟨hg25, h⟩ := grd_de h
                                  refine RJ_op rfl (OJ_V (V_index (i := x334) rfl rfl rfl hg25 foc3 (Reads.sl _ _ _) Try.runUnderlying51 Try.sizeOf4) rfl ?_)
                                  refine RJ_op rfl (OJ_V (V_loadE rfl rfl hg25 foc3 (Reads.sl _ _ _) rfl rfl Try.isAgg4) rfl ?_)
                                  refine RJ_op rfl (OJ_P (P_move rfl) rfl ?_)
                                  refine RJ_splitP 151 rfl Iff.rfl (fun hg26B hg26 => ?_) (fun hg26B hg26 => ?_)
                                  ·
                                    replace h := ite_t hg26 h
                                    refine RJ_gy (GY_yes rfl rfl rfl hg26B) (OJ_P (P_move rfl) rfl ?_)
                                    refine RJ_gy (GY_yes rfl rfl rfl hg26B) (OJ_P (P_move rfl) rfl ?_)
                                    obtain ⟨r335, hr336, h⟩ := bind_e h
                                    refine RJ_gy (GY_yes rfl rfl rfl hg26B) (O_call (L_regionlog_Log_IsDirty hr336) rfl Try.call16 (Dels.cons del1 (Dels.cons del0 Dels.nil)) rfl (fun _ _ => ?_))
                                    refine RJ_gy (GY_yes rfl rfl rfl hg26B) (OJ_P (P_not rfl) rfl ?_)
                                    refine RJ_op rfl (OJ_P (P_pickT rfl hg26B rfl) rfl ?_)
                                    refine RJ_op rfl (OJ_P (P_move rfl) rfl ?_)
                                    refine RJ_splitP 157 rfl (bT_not Iff.rfl) (fun hg27B hg27 => ?_) (fun hg27B hg27 => ?_)
                                    ·
                                      replace h := ite_t hg27 h
                                      refine RJ_gn (GY_no rfl rfl rfl hg27B) rfl rfl ?_
                                      refine RJ_gn (GY_no rfl rfl rfl hg27B) rfl rfl ?_
                                      refine RJ_gn (GY_no rfl rfl rfl hg27B) rfl rfl ?_
                                      refine RJ_gn (GY_no rfl rfl rfl hg27B) rfl rfl ?_
                                      refine RJ_gn (GY_undef rfl rfl rfl) rfl rfl ?_
                                      refine RJ_gn (GY_undef rfl rfl rfl) rfl rfl ?_
                                      refine RJ_gn (GY_undef rfl rfl rfl) rfl rfl ?_
                                      refine RJ_gn (GY_undef rfl rfl rfl) rfl rfl ?_
                                      refine RJ_gn (GY_undef rfl rfl rfl) rfl rfl ?_
                                      refine RJ_gn (GY_no rfl rfl rfl hg27B) rfl rfl ?_
                                      refine RJ_op rfl (OJ_P (P_pickT rfl hg27B rfl) rfl ?_)
                                      refine RJ_nil ?_
                                      refine QJ_then ?_
                                      refine CJ_condT rfl rfl ?_
                                      refine CJ_seq ?_
                                      refine CJ_region ?_
                                      refine RJ_op rfl (OJ_P (P_assign rfl) rfl ?_)
                                      refine RJ_nil ?_
                                      refine QJ_then ?_
                                      refine CJ_ret ?_
                                      refine QJ_block_ret ?_
                                      refine QJ_then_ret ?_
                                      refine QJ_round_ret ?_
                                      refine QJ_block_ret ?_
                                      refine QJ_then_ret ?_
                                      refine QJ_block_ret ?_
                                      refine QJ_then_ret ?_
                                      refine QJ_round_ret ?_
                                      refine QJ_block_ret ?_
                                      refine QJ_then_ret ?_
                                      have hE := Option.some.inj h
                                      replace hE := seq_inr hK331 hE.symm
                                      replace hE := seq_inr hK274 hE.symm
                                      subst hE
                                      refine QJ_end (res1 Try.results5 rfl) ?_
                                      refine CSpec.close () ?_ ?_ (Ent.take del6 (Ent.drop (Ent.drop (Ent.drop (Ent.drop (Ent.drop (Ent.drop Ent.refl)))))))
                                      · rfl
                                      · trivial
                                    ·
                                      replace h := ite_f hg27 h
                                      refine RJ_gy (GY_yes rfl rfl rfl hg27B) (OJ_P (P_move rfl) rfl ?_)
                                      refine RJ_gy (GY_yes rfl rfl rfl hg27B) (OJ_P (P_move rfl) rfl ?_)
                                      obtain ⟨r337, hr338, h⟩ := bind_e h
                                      refine RJ_gy (GY_yes rfl rfl rfl hg27B) (O_call (L_regionlog_Log_IsDirty hr338) rfl Try.call16 (Dels.cons del0 (Dels.cons del0 Dels.nil)) rfl (fun _ _ => ?_))
                                      refine RJ_gy (GY_yes rfl rfl rfl hg27B) (OJ_P (P_move rfl) rfl ?_)
                                      refine RJ_mbT rfl rfl rfl (fun hG339 => have hP340 : r337 = true := (Iff.rfl).1 hG339; VJ_P (P_move rfl)) ?_
                                      refine RJ_mbT rfl rfl rfl (fun hG341 => have hP342 : r337 = true := (Iff.rfl).1 hG341; VJ_P (P_move rfl)) ?_
                                      obtain ⟨hg28, h⟩ := grd_de h
                                      refine RJ_mbT rfl rfl rfl (fun hG343 => have hP344 : r337 = true := (Iff.rfl).1 hG343; V_index (i := x334) (mbx hG343 rfl) (mbx hG343 rfl) rfl (hg28 hP344) foc2 (Reads.sl _ _ _) Try.runUnderlying51 Try.sizeOf4) ?_
                                      obtain ⟨hg29, h⟩ := grd_de h
                                      refine RJ_mbT rfl rfl rfl (fun hG345 => have hP346 : r337 = true := (Iff.rfl).1 hG345; V_loadE (mbx hG345 rfl) rfl (hg29 hP346) foc2 (Reads.sl _ _ _) rfl rfl Try.isAgg4) ?_
                                      refine RJ_mbT rfl rfl rfl (fun hG347 => have hP348 : r337 = true := (Iff.rfl).1 hG347; VJ_P (P_not (mbx hG347 rfl))) ?_
                                      refine RJ_gy (GY_yes rfl rfl rfl hg27B) (OJ_P (P_pickAnd rfl (fun hh => mbx hh rfl) rfl) rfl ?_)
                                      refine RJ_op rfl (OJ_P (P_pickF rfl hg27B rfl) rfl ?_)
                                      refine RJ_nil ?_
                                      refine QJ_then ?_
                                      refine CJ_condP rfl (bT_and Iff.rfl (bT_not Iff.rfl)) (fun hg30 => ?_) (fun hg30 => ?_)
                                      ·
                                        replace h := ite_t hg30 h
                                        refine CJ_seq ?_
                                        refine CJ_region ?_
                                        refine RJ_op rfl (OJ_P (P_assign rfl) rfl ?_)
                                        refine RJ_nil ?_
                                        refine QJ_then ?_
                                        refine CJ_ret ?_
                                        refine QJ_block_ret ?_
                                        refine QJ_then_ret ?_
                                        refine QJ_round_ret ?_
                                        refine QJ_block_ret ?_
                                        refine QJ_then_ret ?_
                                        refine QJ_block_ret ?_
                                        refine QJ_then_ret ?_
                                        refine QJ_round_ret ?_
                                        refine QJ_block_ret ?_
                                        refine QJ_then_ret ?_
                                        have hE := Option.some.inj h
                                        replace hE := seq_inr hK331 hE.symm
                                        replace hE := seq_inr hK274 hE.symm
                                        subst hE
                                        refine QJ_end (res1 Try.results5 rfl) ?_
                                        refine CSpec.close () ?_ ?_ (Ent.take del6 (Ent.drop (Ent.drop (Ent.drop (Ent.drop (Ent.drop (Ent.drop Ent.refl)))))))
                                        · rfl
                                        · trivial
                                      ·
                                        replace h := ite_f hg30 h
                                        refine CJ_skip ?_
                                        refine QJ_block_normal ?_
                                        refine QJ_then ?_
                                        refine CJ_region ?_
                                        refine RJ_op rfl (OJ_P (P_move rfl) rfl ?_)
                                        obtain ⟨hg31, h⟩ := grd_Ne h
                                        refine RJ_op rfl (OJ_P (PJ_eq (P_add (a := ((x334 : Nat) : Int)) (b := (1 : Int)) rfl rfl (nat_in hg31)) rfl) rfl ?_)
                                        refine RJ_op rfl (OJ_P (P_assign rfl) rfl ?_)
                                        refine RJ_nil ?_
                                        refine QJ_nextR ⟨n, (x334 + 1)⟩ (Nat.lt_succ_self _) ?_ (by repeat (first | exact Kp.base | exact Kp.self | refine Kp.cons rfl ?_ | refine Kp.forget rfl ?_)) ?_ (Ent.take del1 Ent.refl)
                                        · exact h
                                        · exact ⟨rfl, True.intro⟩
                                  ·
                                    replace h := ite_f hg26 h
                                    refine RJ_gn (GY_no rfl rfl rfl hg26B) rfl rfl ?_
                                    refine RJ_gn (GY_no rfl rfl rfl hg26B) rfl rfl ?_
                                    refine RJ_gn (GY_no rfl rfl rfl hg26B) rfl rfl ?_
                                    refine RJ_gn (GY_no rfl rfl rfl hg26B) rfl rfl ?_
                                    refine RJ_op rfl (OJ_P (P_pickF rfl hg26B rfl) rfl ?_)
                                    refine RJ_op rfl (OJ_P (P_move rfl) rfl ?_)
                                    refine RJ_gy (GY_yes rfl rfl rfl rfl) (OJ_P (P_move rfl) rfl ?_)
                                    refine RJ_gy (GY_yes rfl rfl rfl rfl) (OJ_P (P_move rfl) rfl ?_)
                                    obtain ⟨r349, hr350, h⟩ := bind_e h
                                    refine RJ_gy (GY_yes rfl rfl rfl rfl) (O_call (L_regionlog_Log_IsDirty hr350) rfl Try.call16 (Dels.cons del1 (Dels.cons del0 Dels.nil)) rfl (fun _ _ => ?_))
                                    refine RJ_gy (GY_yes rfl rfl rfl rfl) (OJ_P (P_move rfl) rfl ?_)
                                    refine RJ_mbT rfl rfl rfl (fun hG351 => have hP352 : r349 = true := (Iff.rfl).1 hG351; VJ_P (P_move rfl)) ?_
                                    refine RJ_mbT rfl rfl rfl (fun hG353 => have hP354 : r349 = true := (Iff.rfl).1 hG353; VJ_P (P_move rfl)) ?_
                                    obtain ⟨hg32, h⟩ := grd_de h
                                    refine RJ_mbT rfl rfl rfl (fun hG355 => have hP356 : r349 = true := (Iff.rfl).1 hG355; V_index (i := x334) (mbx hG355 rfl) (mbx hG355 rfl) rfl (hg32 hP356) foc2 (Reads.sl _ _ _) Try.runUnderlying51 Try.sizeOf4) ?_
                                    obtain ⟨hg33, h⟩ := grd_de h
                                    refine RJ_mbT rfl rfl rfl (fun hG357 => have hP358 : r349 = true := (Iff.rfl).1 hG357; V_loadE (mbx hG357 rfl) rfl (hg33 hP358) foc2 (Reads.sl _ _ _) rfl rfl Try.isAgg4) ?_
                                    refine RJ_mbT rfl rfl rfl (fun hG359 => have hP360 : r349 = true := (Iff.rfl).1 hG359; VJ_P (P_not (mbx hG359 rfl))) ?_
                                    refine RJ_gy (GY_yes rfl rfl rfl rfl) (OJ_P (P_pickAnd rfl (fun hh => mbx hh rfl) rfl) rfl ?_)
                                    refine RJ_op rfl (OJ_P (P_pickF rfl rfl rfl) rfl ?_)
                                    refine RJ_nil ?_
                                    refine QJ_then ?_
                                    refine CJ_condP rfl (bT_and Iff.rfl (bT_not Iff.rfl)) (fun hg34 => ?_) (fun hg34 => ?_)
                                    ·
                                      replace h := ite_t hg34 h
                                      refine CJ_seq ?_
                                      refine CJ_region ?_
                                      refine RJ_op rfl (OJ_P (P_assign rfl) rfl ?_)
                                      refine RJ_nil ?_
                                      refine QJ_then ?_
                                      refine CJ_ret ?_
                                      refine QJ_block_ret ?_
                                      refine QJ_then_ret ?_
                                      refine QJ_round_ret ?_
                                      refine QJ_block_ret ?_
                                      refine QJ_then_ret ?_
                                      refine QJ_block_ret ?_
                                      refine QJ_then_ret ?_
                                      refine QJ_round_ret ?_
                                      refine QJ_block_ret ?_
                                      refine QJ_then_ret ?_
                                      have hE := Option.some.inj h
                                      replace hE := seq_inr hK331 hE.symm
                                      replace hE := seq_inr hK274 hE.symm
                                      subst hE
                                      refine QJ_end (res1 Try.results5 rfl) ?_
                                      refine CSpec.close () ?_ ?_ (Ent.take del6 (Ent.drop (Ent.drop (Ent.drop (Ent.drop (Ent.drop (Ent.drop Ent.refl)))))))
                                      · rfl
                                      · trivial
                                    ·
                                      replace h := ite_f hg34 h
                                      refine CJ_skip ?_
                                      refine QJ_block_normal ?_
                                      refine QJ_then ?_
                                      refine CJ_region ?_
                                      refine RJ_op rfl (OJ_P (P_move rfl) rfl ?_)
                                      obtain ⟨hg35, h⟩ := grd_Ne h
                                      refine RJ_op rfl (OJ_P (PJ_eq (P_add (a := ((x334 : Nat) : Int)) (b := (1 : Int)) rfl rfl (nat_in hg35)) rfl) rfl ?_)
                                      refine RJ_op rfl (OJ_P (P_assign rfl) rfl ?_)
                                      refine RJ_nil ?_
                                      refine QJ_nextR ⟨n, (x334 + 1)⟩ (Nat.lt_succ_self _) ?_ (by repeat (first | exact Kp.base | exact Kp.self | refine Kp.cons rfl ?_ | refine Kp.forget rfl ?_)) ?_ (Ent.take del1 Ent.refl)
                                      · exact h
                                      · exact ⟨rfl, True.intro⟩
                                ·
                                  replace h := ite_f hg24 h
                                  refine CJ_exit ?_
                                  refine QJ_then_exit ?_
                                  refine QJ_round_exit ?_
                                  refine QJ_block_here ?_
                                  refine QJ_cutR () ?_ (by repeat (first | exact Kp.base | exact Kp.self | refine Kp.cons rfl ?_ | refine Kp.forget rfl ?_)) ?_ Ent.refl
                                  · exact (Option.some.inj h).symm
                                  · exact True.intro
                            ·
                              rintro _ hy361
                              replace h := seq_inl hK331 hy361
                              show QJ _ _ _ _ (([] : Slots) ++ forget _ _) (_)
                              refine QJ_block_normal ?_
                              refine QJ_then ?_
                              refine CJ_region ?_
                              refine RJ_op rfl (OJ_P (P_move rfl) rfl ?_)
                              refine RJ_op rfl (OJ_P (PJ_eq (P_add (a := ((x283 : Nat) : Int)) (b := (1 : Int)) rfl rfl (by omega)) rfl) rfl ?_)
                              refine RJ_op rfl (OJ_P (P_assign rfl) rfl ?_)
                              refine RJ_nil ?_
                              refine QJ_nextR ⟨n, a317.1, a298.2.2.1, a298.2.2.2.1, (x283 + 1), a317.2.1, pb315⟩ (Nat.lt_succ_self _) ?_ (by repeat (first | exact Kp.base | exact Kp.self | refine Kp.cons rfl ?_ | refine Kp.forget rfl ?_)) ?_ (Ent.take del0 (Ent.take del1 (Ent.take del1 Ent.refl)))
                              · exact h
                              · exact ⟨rfl, rfl, True.intro⟩
                    ·
                      replace h := ite_f hg8 h
                      refine CJ_exit ?_
                      refine QJ_then_exit ?_
                      refine QJ_round_exit ?_
                      refine QJ_block_here ?_
                      refine QJ_cutR (x280, x281, x282) ?_ (by repeat (first | exact Kp.base | exact Kp.self | refine Kp.cons rfl ?_ | refine Kp.forget rfl ?_)) ?_ (Ent.take del0 (Ent.take del0 (Ent.take del0 (Ent.take del1 (Ent.take del1 (Ent.take del1 (Ent.drop Ent.refl)))))))
                      · exact (Option.some.inj h).symm
                      · exact True.intro
                ·
                  rintro a279 hy362
                  replace h := seq_inl hK274 hy362
                  show CJ _ _ _ _ _ (([] : Slots) ++ forget _ _) (Arr X9 a279.1 :: sl tyB (.slice (some ⟨b153, 0, none⟩) (1 + n_1.toNat) (1 + n_1.toNat)) a279.2.1 :: sl tyB (.slice (some ⟨b73, 0, none⟩) (1 + n_1.toNat) (1 + n_1.toNat)) a279.2.2 :: _)
                  refine CJ_pure (len_of (Reads.sl _ _ _) del1) (fun hlen363 => ?_)
                  refine CJ_pure (len_of (Reads.sl _ _ _) del2) (fun hlen364 => ?_)
                  refine CJ_seq ?_
                  refine CJ_region ?_
                  obtain ⟨r365, hr366, h⟩ := bind_e h
                  refine RJ_op rfl (O_call (L_volumegrouplaw20_awake hr366) rfl Try.call6 Dels.nil rfl (fun _ _ => ?_))
                  refine RJ_op rfl (OJ_P (P_assign rfl) rfl ?_)
                  refine RJ_nil ?_
                  refine QJ_then ?_
                  refine CJ_ret ?_
                  have hE := Option.some.inj h
                  subst hE
                  refine QJ_end (res1 Try.results5 rfl) ?_
                  refine CSpec.close () ?_ ?_ (Ent.take del5 (Ent.drop (Ent.drop (Ent.drop (Ent.drop (Ent.drop Ent.refl))))))
                  · rfl
                  · trivial
              ·
                obtain ⟨hg6, h⟩ := grd_Le h
                refine O_make (t := tyB) (m := (1 + n_1.toNat)) (x0 := false) (z := _) (bytes := _) rfl rfl rfl rfl Try.underlying51 ⟨Try.t4, by kernel_rfl, rfl, rfl, rfl⟩ rfl hg6 (by decide) rfl (fun b153 => ?_)
                refine ⟨fun h => absurd h (by decide), ?_⟩
                obtain ⟨hg7, h⟩ := grd_Le h
                refine AJ_op 1 15 rfl (by kernel_rfl) rfl (GY_none rfl) (O_make (t := tyB) (m := (1 + n_1.toNat)) (x0 := false) (z := _) (bytes := _) rfl rfl rfl rfl Try.underlying51 ⟨Try.t4, by kernel_rfl, rfl, rfl, rfl⟩ rfl hg7 (by decide) rfl (fun b73 => ?_))
                refine ⟨fun h => absurd h (by decide), ?_⟩
                refine AJ_takeP 4 31 rfl (by kernel_rfl) rfl (GY_none rfl) (P_assign rfl) rfl (fun _ _ _ _ h => h) ?_
                refine AJ_takeP 5 63 rfl (by kernel_rfl) rfl (GY_none rfl) (P_assign rfl) rfl (fun _ _ _ _ h => h) ?_
                refine AJ_done (by kernel_rfl) ?_
                refine QJ_ent (Ent.take del0 (Ent.take del0 (Ent.take del0 (Ent.take del1 (Ent.take del1 (Ent.take del1 (Ent.take del1 (Ent.drop Ent.refl)))))))) ?_
                refine QJ_then ?_
                refine CJ_seq ?_
                refine CJ_seq ?_
                refine CJ_region ?_
                refine RJ_op rfl (OJ_P (P_assign rfl) rfl ?_)
                refine RJ_nil ?_
                refine QJ_then ?_
                obtain ⟨y275, hl273, hK274⟩ := seq_e h
                refine CJ_cutT (X := ArrS × (List Bool) × (List Bool)) [4, 8, 9, 12, 13, 14, 58, 59, 60, 61, 62, 63, 64, 65, 66, 67, 68, 69, 70, 71, 72, 73, 74, 75, 76, 77, 78, 79, 80, 81, 82, 83, 84, 85, 86, 87, 88, 89, 90, 91, 92, 93, 94, 95, 96, 97, 98, 99, 100, 101, 102, 103, 104, 105, 106, 107, 108, 109, 110, 111, 112, 113, 114, 115, 116, 117, 118, 119, 120, 121, 122, 123, 124, 125, 126, 127, 128, 129, 130, 131, 132, 133, 134, 135, 136, 137, 138, 139, 140, 141, 142, 143, 144, 145, 146, 147, 148, 149, 150, 151, 152, 153, 154, 155, 156, 157, 158, 159, 160, 161, 162, 163, 164, 165, 166, 167, 168] (fun a279 => ([] : Slots)) (fun a279 R => Arr X9 a279.1 :: sl tyB (.slice (some ⟨b153, 0, none⟩) (1 + n_1.toNat) (1 + n_1.toNat)) a279.2.1 :: sl tyB (.slice (some ⟨b73, 0, none⟩) (1 + n_1.toNat) (1 + n_1.toNat)) a279.2.2 :: R) (fun a279 => y275 = .inl a279) (Dels.cons del3 (Dels.cons del1 (Dels.cons del0 (Dels.cons del0 Dels.nil)))) ?_ ?_
                ·
                  refine CJ_block ?_
                  refine CJ_loopR (X := Nat × ArrS × (List Bool) × (List Bool) × Nat × LogS × Nat) [4, 8, 9, 12, 13, 14, 58, 59, 60, 61, 62, 63, 64, 65, 66, 67, 68, 69, 70, 71, 72, 73, 74, 75, 76, 77, 78, 79, 80, 81, 82, 83, 84, 85, 86, 87, 88, 89, 90, 91, 92, 93, 94, 95, 96, 97, 98, 99, 100, 101, 102, 103, 104, 105, 106, 107, 108, 109, 110, 111, 112, 113, 114, 115, 116, 117, 118, 119, 120, 121, 122, 123, 124, 125, 126, 127, 128, 129, 130, 131, 132, 133, 134, 135, 136, 137, 138, 139, 140, 141, 142, 143, 144, 145, 146, 147, 148, 149, 150, 151, 152, 153, 154, 155, 156, 157, 158, 159, 160, 161, 162, 163, 164, 165, 166, 167, 168] (fun ⟨n, x280, x281, x282, x283, x284, pb285⟩ => ([(8, ptr pb285 0), (12, .int .i64 (((x283 : Nat) : Int)))] : Slots)) (fun ⟨n, x280, x281, x282, x283, x284, pb285⟩ R => Arr X9 x280 :: sl tyB (.slice (some ⟨b153, 0, none⟩) (1 + n_1.toNat) (1 + n_1.toNat)) x281 :: sl tyB (.slice (some ⟨b73, 0, none⟩) (1 + n_1.toNat) (1 + n_1.toNat)) x282 :: LogP X9 pb285 x284 :: R) (fun ⟨n, x280, x281, x282, x283, x284, pb285⟩ => volumegrouplaw20_RegionlogCrash_l1 l n_1 r13 n x280 x281 x282 x283 x284 = some y275) (fun ⟨n, x280, x281, x282, x283, x284, pb285⟩ => n) ⟨FUEL, r20.2, (List.replicate (1 + n_1.toNat) false), (List.replicate (1 + n_1.toNat) false), 0, o32, X25⟩ ?_ ?_ (Ent.take del3 (Ent.take del1 Ent.refl)) ?_
                  · exact hl273
                  · exact ⟨rfl, rfl, True.intro⟩
                  ·
                    rintro ⟨n, x280, x281, x282, x283, x284, pb285⟩ h
                    cases n with
                    | zero => exact none_e h
                    | succ n => ?_
                    replace h : volumegrouplaw20_RegionlogCrash_l1_b l n_1 r13 (volumegrouplaw20_RegionlogCrash_l1 l n_1 r13 n) x280 x281 x282 x283 x284 = some y275 := h
                    unfold volumegrouplaw20_RegionlogCrash_l1_b at h
                    show CJ _ _ _ _ _ (([(8, ptr pb285 0), (12, .int .i64 (((x283 : Nat) : Int)))] : Slots) ++ forget _ _) (Arr X9 x280 :: sl tyB (.slice (some ⟨b153, 0, none⟩) (1 + n_1.toNat) (1 + n_1.toNat)) x281 :: sl tyB (.slice (some ⟨b73, 0, none⟩) (1 + n_1.toNat) (1 + n_1.toNat)) x282 :: LogP X9 pb285 x284 :: _)
                    refine CJ_pure (len_of (Reads.sl _ _ _) del1) (fun hlen286 => ?_)
                    refine CJ_pure (len_of (Reads.sl _ _ _) del2) (fun hlen287 => ?_)
                    refine CJ_seq ?_
                    refine CJ_seq ?_
                    refine CJ_region ?_
                    refine RJ_op rfl (OJ_P (P_move rfl) rfl ?_)
                    refine RJ_op rfl (OJ_P (P_move rfl) rfl ?_)
                    refine RJ_op rfl (OJ_V (V_len rfl foc6 rl Try.runUnderlying46) rfl ?_)
                    refine RJ_op rfl (OJ_P (P_lss (a := ((x283 : Nat) : Int)) (b := ((l.length : Nat) : Int)) rfl rfl) rfl ?_)
                    refine RJ_nil ?_
                    refine QJ_then ?_
                    refine CJ_condP rfl bT_dec (fun hg8 => ?_) (fun hg8 => ?_)
                    ·
                      replace h := ite_t hg8 h
                      refine CJ_skip ?_
                      refine QJ_then ?_
                      refine CJ_seq ?_
                      refine CJ_block ?_
                      refine CJ_seq ?_
                      refine CJ_region ?_
                      refine RJ_op rfl (OJ_P (P_move rfl) rfl ?_)
                      refine RJ_op rfl (OJ_P (P_move rfl) rfl ?_)
                      refine RJ_op rfl (OJ_V (V_index (i := x283) rfl rfl rfl (by omega) foc6 rl Try.runUnderlying46 Try.sizeOf48) rfl ?_)
                      refine RJ_op rfl (OJ_P (P_fieldE rfl ⟨_, _, _, Try.runUnderlying48, rfl, rfl, Try.sizeOf3, rfl⟩) rfl ?_)
                      refine RJ_op rfl (OJ_V (V_loadE rfl rfl (by omega) foc6 rl rfl rfl Try.isAgg3) rfl ?_)
                      refine RJ_op rfl (OJ_P (P_move rfl) rfl ?_)
                      refine RJ_op rfl (OJ_P (P_remT (a := ((l.getD x283 (⟨0, 0, 0⟩ : volumegrouplaw20_Call))).Region) (b := (((1 + n_1.toNat) : Nat) : Int)) rfl rfl (by omega)) rfl ?_)
                      obtain ⟨w288, hw288, h⟩ := lt_e h
                      rw [← hw288]
                      refine RJ_op rfl (OJ_P (P_move rfl) rfl ?_)
                      obtain ⟨hg9, h⟩ := grd_Ie h
                      refine RJ_op rfl (OJ_P (P_add (a := w288) (b := (((1 + n_1.toNat) : Nat) : Int)) rfl rfl hg9) rfl ?_)
                      refine RJ_op rfl (OJ_P (P_move rfl) rfl ?_)
                      refine RJ_op rfl (OJ_P (P_remT (a := (w288 + (((1 + n_1.toNat) : Nat) : Int))) (b := (((1 + n_1.toNat) : Nat) : Int)) rfl rfl (by omega)) rfl ?_)
                      obtain ⟨w289, hw289, h⟩ := lt_e h
                      rw [← hw289]
                      refine RJ_op rfl (OJ_P (P_assign rfl) rfl ?_)
                      refine RJ_nil ?_
                      refine QJ_then ?_
                      refine CJ_seq ?_
                      refine CJ_region ?_
                      refine RJ_op rfl (OJ_P (P_assign rfl) rfl ?_)
                      refine RJ_nil ?_
                      refine QJ_then ?_
                      refine CJ_seq ?_
                      refine CJ_seq ?_
                      refine CJ_region ?_
                      refine RJ_op rfl (OJ_P (P_move rfl) rfl ?_)
                      refine RJ_op rfl (OJ_P (P_move rfl) rfl ?_)
                      refine RJ_op rfl (OJ_V (V_index (i := x283) rfl rfl rfl (by omega) foc6 rl Try.runUnderlying46 Try.sizeOf48) rfl ?_)
                      refine RJ_op rfl (OJ_P (P_fieldE rfl ⟨_, _, _, Try.runUnderlying48, rfl, rfl, Try.sizeOf3, rfl⟩) rfl ?_)
                      refine RJ_op rfl (OJ_V (V_loadE rfl rfl (by omega) foc6 rl rfl rfl Try.isAgg3) rfl ?_)
                      refine RJ_nil ?_
                      refine QJ_then ?_
                      obtain ⟨y292, hl290, hK291⟩ := bind_c h
                      refine CJ_cutT (X := LogS × ArrS × (List Bool) × (List Bool) × Int) [9, 80, 81, 82, 83, 84, 85, 86, 87, 88, 89, 90, 91, 92, 93, 94, 95, 96, 97, 98, 99, 100, 101, 102, 103, 104, 105, 106, 107, 108, 109, 110, 111, 112, 113, 114, 115, 116, 117, 118, 119] (fun a298 => ([(9, .int .i64 a298.2.2.2.2)] : Slots)) (fun a298 R => LogP X9 pb285 a298.1 :: Arr X9 a298.2.1 :: sl tyB (.slice (some ⟨b153, 0, none⟩) (1 + n_1.toNat) (1 + n_1.toNat)) a298.2.2.1 :: sl tyB (.slice (some ⟨b73, 0, none⟩) (1 + n_1.toNat) (1 + n_1.toNat)) a298.2.2.2.1 :: R) (fun a298 => y292 = a298) (Dels.cons del3 (Dels.cons del0 (Dels.cons del0 (Dels.cons del0 Dels.nil)))) ?_ ?_
                      ·
                        have h := hl290
                        refine CJ_block ?_
                        refine CJ_seq ?_
                        refine CJ_region ?_
                        refine RJ_op rfl (OJ_P (P_eql (a := ((l.getD x283 (⟨0, 0, 0⟩ : volumegrouplaw20_Call))).Kind) (b := (0 : Int)) rfl rfl) rfl ?_)
                        refine RJ_op rfl (OJ_P (P_assign rfl) rfl ?_)
                        refine RJ_nil ?_
                        refine QJ_then ?_
                        refine CJ_condP rfl bT_dec (fun hg10 => ?_) (fun hg10 => ?_)
                        ·
                          replace h := ite_t hg10 h
                          refine CJ_seq ?_
                          refine CJ_region ?_
                          refine RJ_op rfl (OJ_P (P_move rfl) rfl ?_)
                          refine RJ_op rfl (OJ_P (P_move rfl) rfl ?_)
                          obtain ⟨r299, hr300, h⟩ := bind_e h
                          refine RJ_op rfl (O_call (L_regionlog_Log_Mark hr300) rfl Try.call19 (Dels.cons del3 (Dels.cons del0 Dels.nil)) rfl (fun _ _ => ?_))
                          refine RJ_op rfl (OJ_P (P_assign rfl) rfl ?_)
                          refine RJ_nil ?_
                          refine QJ_then ?_
                          refine CJ_region ?_
                          refine RJ_op rfl (OJ_P (P_move rfl) rfl ?_)
                          refine RJ_op rfl (OJ_P (P_move rfl) rfl ?_)
                          refine RJ_op rfl (OJ_P (P_move rfl) rfl ?_)
                          refine RJ_op rfl (OJ_P (P_move rfl) rfl ?_)
                          refine RJ_op rfl (OJ_P (P_move rfl) rfl ?_)
                          refine RJ_op rfl (OJ_P (P_move rfl) rfl ?_)
                          obtain ⟨hg11, h⟩ := grd_de h
                          refine RJ_op rfl (OJ_V (V_index (i := (w289).toNat) rfl rfl (Int.toNat_of_nonneg (hg11.1)).symm (by omega) foc3 (Reads.sl _ _ _) Try.runUnderlying51 Try.sizeOf4) rfl ?_)
                          refine RJ_op rfl (OJ_V (V_loadE rfl rfl (by omega) foc3 (Reads.sl _ _ _) rfl rfl Try.isAgg4) rfl ?_)
                          refine RJ_op rfl (OJ_P (P_move rfl) rfl ?_)
                          refine RJ_mbF rfl rfl rfl (fun hG301 => have hP302 : ¬ (x282.getD ((w289).toNat) false) = true := nP (Iff.rfl) hG301; VJ_P (P_move rfl)) ?_
                          refine RJ_mbF rfl rfl rfl (fun hG303 => have hP304 : ¬ (x282.getD ((w289).toNat) false) = true := nP (Iff.rfl) hG303; VJ_P (P_eql (a := r299.1) (b := (0 : Int)) (mbx hG303 rfl) rfl)) ?_
                          refine RJ_op rfl (OJ_P (P_pickOr rfl rfl (fun hh => mbx (not_f hh) rfl)) rfl ?_)
                          obtain ⟨hg12, h⟩ := grd_de h
                          refine RJ_op rfl (OJ_V (V_index (i := (w289).toNat) rfl rfl (Int.toNat_of_nonneg (hg12.1)).symm (by omega) foc3 (Reads.sl _ _ _) Try.runUnderlying51 Try.sizeOf4) rfl ?_)
                          refine RJ_op rfl (O_storeE (x' := ((x282.getD ((w289).toNat) false) || (decide (r299.1 = (0 : Int))))) rfl rfl rfl (by omega) foc3 rfl rfl rfl Try.sizeOf4 ?_)
                          obtain ⟨hg13, h⟩ := grd_de h
                          refine RJ_op rfl (OJ_V (V_index (i := (w289).toNat) rfl rfl (Int.toNat_of_nonneg (hg13.1)).symm (by omega) foc2 (Reads.sl _ _ _) Try.runUnderlying51 Try.sizeOf4) rfl ?_)
                          refine RJ_op rfl (O_storeE (x' := true) rfl rfl rfl (by omega) foc2 rfl rfl rfl Try.sizeOf4 ?_)
                          refine RJ_nil ?_
                          refine QJ_block_normal ?_
                          refine QJ_cutR (r299.2.1, r299.2.2, (x281.set ((w289).toNat) true), (x282.set ((w289).toNat) (((x282.getD ((w289).toNat) false) || (decide (r299.1 = (0 : Int)))))), r299.1) ?_ (by repeat (first | exact Kp.base | exact Kp.self | refine Kp.cons rfl ?_ | refine Kp.forget rfl ?_)) ?_ Ent.refl
                          · exact (Option.some.inj h).symm
                          · exact ⟨rfl, True.intro⟩
                        ·
                          replace h := ite_f hg10 h
                          refine CJ_seq ?_
                          refine CJ_region ?_
                          refine RJ_op rfl (OJ_P (P_eql (a := ((l.getD x283 (⟨0, 0, 0⟩ : volumegrouplaw20_Call))).Kind) (b := (1 : Int)) rfl rfl) rfl ?_)
                          refine RJ_op rfl (OJ_P (P_assign rfl) rfl ?_)
                          refine RJ_nil ?_
                          refine QJ_then ?_
                          refine CJ_condP rfl bT_dec (fun hg14 => ?_) (fun hg14 => ?_)
                          ·
                            replace h := ite_t hg14 h
                            refine CJ_seq ?_
                            refine CJ_region ?_
                            refine RJ_op rfl (OJ_P (P_move rfl) rfl ?_)
                            refine RJ_op rfl (OJ_P (P_move rfl) rfl ?_)
                            obtain ⟨r305, hr306, h⟩ := bind_e h
                            refine RJ_op rfl (O_call (L_regionlog_Log_Clear hr306) rfl Try.call20 (Dels.cons del3 (Dels.cons del0 Dels.nil)) rfl (fun _ _ => ?_))
                            refine RJ_op rfl (OJ_P (P_assign rfl) rfl ?_)
                            refine RJ_nil ?_
                            refine QJ_then ?_
                            refine CJ_region ?_
                            refine RJ_op rfl (OJ_P (P_move rfl) rfl ?_)
                            refine RJ_op rfl (OJ_P (P_move rfl) rfl ?_)
                            obtain ⟨hg15, h⟩ := grd_de h
                            refine RJ_op rfl (OJ_V (V_index (i := (w289).toNat) rfl rfl (Int.toNat_of_nonneg (hg15.1)).symm (by omega) foc3 (Reads.sl _ _ _) Try.runUnderlying51 Try.sizeOf4) rfl ?_)
                            refine RJ_op rfl (O_storeE (x' := false) rfl rfl rfl (by omega) foc3 rfl rfl rfl Try.sizeOf4 ?_)
                            refine RJ_nil ?_
                            refine QJ_block_normal ?_
                            refine QJ_cutR (r305.2.1, r305.2.2, x281, (x282.set ((w289).toNat) false), r305.1) ?_ (by repeat (first | exact Kp.base | exact Kp.self | refine Kp.cons rfl ?_ | refine Kp.forget rfl ?_)) ?_ Ent.refl
                            · exact (Option.some.inj h).symm
                            · exact ⟨rfl, True.intro⟩
                          ·
                            replace h := ite_f hg14 h
                            refine CJ_seq ?_
                            refine CJ_region ?_
                            refine RJ_op rfl (OJ_P (P_eql (a := ((l.getD x283 (⟨0, 0, 0⟩ : volumegrouplaw20_Call))).Kind) (b := (2 : Int)) rfl rfl) rfl ?_)
                            refine RJ_op rfl (OJ_P (P_assign rfl) rfl ?_)
                            refine RJ_nil ?_
                            refine QJ_then ?_
                            refine CJ_condP rfl bT_dec (fun hg16 => ?_) (fun hg16 => ?_)
                            ·
                              replace h := ite_t hg16 h
                              refine CJ_region ?_
                              refine RJ_op rfl (OJ_P (P_move rfl) rfl ?_)
                              obtain ⟨r307, hr308, h⟩ := bind_e h
                              refine RJ_op rfl (O_call (L_regionlog_Log_Sync hr308) rfl Try.call21 (Dels.cons del3 (Dels.cons del0 Dels.nil)) rfl (fun _ _ => ?_))
                              refine RJ_op rfl (OJ_P (P_assign rfl) rfl ?_)
                              refine RJ_nil ?_
                              refine QJ_block_normal ?_
                              refine QJ_cutR (x284, r307.2, x281, x282, r307.1) ?_ (by repeat (first | exact Kp.base | exact Kp.self | refine Kp.cons rfl ?_ | refine Kp.forget rfl ?_)) ?_ Ent.refl
                              · exact (Option.some.inj h).symm
                              · exact ⟨rfl, True.intro⟩
                            ·
                              replace h := ite_f hg16 h
                              refine CJ_seq ?_
                              refine CJ_region ?_
                              refine RJ_op rfl (OJ_P (P_eql (a := ((l.getD x283 (⟨0, 0, 0⟩ : volumegrouplaw20_Call))).Kind) (b := (3 : Int)) rfl rfl) rfl ?_)
                              refine RJ_op rfl (OJ_P (P_assign rfl) rfl ?_)
                              refine RJ_nil ?_
                              refine QJ_then ?_
                              refine CJ_condP rfl bT_dec (fun hg17 => ?_) (fun hg17 => ?_)
                              ·
                                replace h := ite_t hg17 h
                                refine CJ_region ?_
                                refine RJ_op rfl (OJ_P (P_assign rfl) rfl ?_)
                                refine RJ_nil ?_
                                refine QJ_block_normal ?_
                                refine QJ_cutR (x284, x280, x281, x282, (5 : Int)) ?_ (by repeat (first | exact Kp.base | exact Kp.self | refine Kp.cons rfl ?_ | refine Kp.forget rfl ?_)) ?_ (Ent.take del3 Ent.refl)
                                · exact (Option.some.inj h).symm
                                · exact ⟨rfl, True.intro⟩
                              ·
                                replace h := ite_f hg17 h
                                refine CJ_seq ?_
                                refine CJ_region ?_
                                refine RJ_op rfl (OJ_P (P_eql (a := ((l.getD x283 (⟨0, 0, 0⟩ : volumegrouplaw20_Call))).Kind) (b := (4 : Int)) rfl rfl) rfl ?_)
                                refine RJ_op rfl (OJ_P (P_assign rfl) rfl ?_)
                                refine RJ_nil ?_
                                refine QJ_then ?_
                                refine CJ_condP rfl bT_dec (fun hg18 => ?_) (fun hg18 => ?_)
                                ·
                                  replace h := ite_t hg18 h
                                  refine CJ_region ?_
                                  refine RJ_op rfl (OJ_P (P_move rfl) rfl ?_)
                                  refine RJ_op rfl (OJ_P (P_move rfl) rfl ?_)
                                  refine RJ_op rfl (OJ_P (P_remT (a := w289) (b := (5 : Int)) rfl rfl (by decide)) rfl ?_)
                                  obtain ⟨hg19, h⟩ := grd_Ie h
                                  refine RJ_op rfl (OJ_P (P_add (a := (1 : Int)) (b := (w289.tmod (5 : Int))) rfl rfl hg19) rfl ?_)
                                  obtain ⟨hg20, h⟩ := grd_Ie h
                                  refine RJ_op rfl (O_call (c_FuseD hg20.2) rfl Try.call22 (Dels.cons del0 Dels.nil) rfl (fun _ _ => ?_))
                                  refine RJ_nil ?_
                                  refine QJ_block_normal ?_
                                  refine QJ_cutR (x284, { x280 with fuse := (((1 : Int) + (w289.tmod (5 : Int)))).toNat }, x281, x282, (0 : Int)) ?_ (by repeat (first | exact Kp.base | exact Kp.self | refine Kp.cons rfl ?_ | refine Kp.forget rfl ?_)) ?_ (Ent.take del3 Ent.refl)
                                  · exact (Option.some.inj h).symm
                                  · exact ⟨rfl, True.intro⟩
                                ·
                                  replace h := ite_f hg18 h
                                  refine CJ_skip ?_
                                  refine QJ_block_normal ?_
                                  refine QJ_cutR (x284, x280, x281, x282, (0 : Int)) ?_ (by repeat (first | exact Kp.base | exact Kp.self | refine Kp.cons rfl ?_ | refine Kp.forget rfl ?_)) ?_ (Ent.take del3 Ent.refl)
                                  · exact (Option.some.inj h).symm
                                  · exact ⟨rfl, True.intro⟩
                      ·
                        rintro a298 hy309
                        replace h := bindK_at hK291 hy309
                        show CJ _ _ _ _ _ (([(9, .int .i64 a298.2.2.2.2)] : Slots) ++ forget _ _) (LogP X9 pb285 a298.1 :: Arr X9 a298.2.1 :: sl tyB (.slice (some ⟨b153, 0, none⟩) (1 + n_1.toNat) (1 + n_1.toNat)) a298.2.2.1 :: sl tyB (.slice (some ⟨b73, 0, none⟩) (1 + n_1.toNat) (1 + n_1.toNat)) a298.2.2.2.1 :: _)
                        refine CJ_seq ?_
                        refine CJ_seq ?_
                        refine CJ_region ?_
                        refine RJ_op rfl (OJ_P (P_move rfl) rfl ?_)
                        refine RJ_op rfl (OJ_P (P_eql (a := a298.2.2.2.2) (b := (5 : Int)) rfl rfl) rfl ?_)
                        refine RJ_nil ?_
                        refine QJ_then ?_
                        obtain ⟨y312, hl310, hK311⟩ := seq_e h
                        refine CJ_cutT (X := (ArrS × LogS × Int) × Nat) [4, 8, 9, 122, 123, 124, 125, 126, 127, 128, 129, 130, 131, 132, 133, 134, 135, 136, 137, 138, 139] (fun ⟨a317, pb315⟩ => ([(8, ptr pb315 0), (9, .int .i64 a317.2.2)] : Slots)) (fun ⟨a317, pb315⟩ R => Arr X9 a317.1 :: LogP X9 pb315 a317.2.1 :: R) (fun ⟨a317, pb315⟩ => y312 = .inl a317) (Dels.cons del1 (Dels.cons del0 Dels.nil)) ?_ ?_
                        ·
                          have h := hl310
                          refine CJ_condP rfl bT_dec (fun hg21 => ?_) (fun hg21 => ?_)
                          ·
                            replace h := ite_t hg21 h
                            refine CJ_seq ?_
                            refine CJ_region ?_
                            refine RJ_op rfl (OJ_P (P_move rfl) rfl ?_)
                            refine RJ_op rfl (OJ_P (P_move rfl) rfl ?_)
                            refine RJ_op rfl (OJ_P (P_move rfl) rfl ?_)
                            refine RJ_op rfl (OJ_V (V_index (i := x283) rfl rfl rfl (by omega) foc6 rl Try.runUnderlying46 Try.sizeOf48) rfl ?_)
                            refine RJ_op rfl (OJ_P (P_fieldE rfl ⟨_, _, _, Try.runUnderlying48, rfl, rfl, Try.sizeOf27, rfl⟩) rfl ?_)
                            refine RJ_op rfl (OJ_V (V_loadE rfl rfl (by omega) foc6 rl rfl rfl Try.isAgg27) rfl ?_)
                            obtain ⟨r318, hr319, h⟩ := bind_e h
                            refine RJ_op rfl (O_call (L_volumegroupmake_Keep hr319) rfl Try.call24 Dels.nil rfl (fun X320 _ => ?_))
                            obtain ⟨hg22, h⟩ := grd_Le h
                            refine RJ_op rfl (O_call (c_Restart (Reads.sl _ _ _) hg22) rfl Try.call23 (Dels.cons del2 (Dels.cons del0 Dels.nil)) rfl (fun _ _ => ?_))
                            refine RJ_nil ?_
                            refine QJ_ent (Ent.take del0 (Ent.take del1 (Ent.take del1 (Ent.take del1 (Ent.take del1 (Ent.take del1 (Ent.take del1 (Ent.drop Ent.refl)))))))) ?_
                            refine QJ_then ?_
                            refine CJ_seq ?_
                            refine CJ_region ?_
                            refine RJ_op rfl (OJ_P (P_move rfl) rfl ?_)
                            refine RJ_op rfl (OJ_V (V_index (i := 0) rfl rfl rfl (by have hz : 0 < r13.length := (by omega); have hy := hdl18; omega) foc5 (Reads.sl _ _ _) Try.runUnderlying32 Try.sizeOf38) rfl ?_)
                            refine RJ_ent (Ent.trans (Ent.take del4 Ent.refl) (Rs_at (fun _ _ => Dup_DevP) (dx := dv0) (dh := tyDev.dflt) (i := 0) (by omega))) ?_
                            refine RJ_op rfl (OJ_V (V_loadE rfl rfl (by have hz : 0 < r13.length := (by omega); have hy := hdl18; omega) foc6 (Reads.sl _ _ _) rfl rfl Try.isAgg38) rfl ?_)
                            refine RJ_op rfl (OJ_P (P_move rfl) rfl ?_)
                            obtain ⟨r323, hr324, h⟩ := bind_e h
                            refine RJ_op rfl (O_call (L_regionlog_Open hr324) rfl Try.call12 (Dels.cons del0 (Dels.cons del1 Dels.nil)) rfl (fun X325 _ => ?_))
                            refine RJ_op rfl (OJ_P (P_move rfl) rfl ?_)
                            refine RJ_op rfl (OJ_P (P_extract rfl rfl) rfl ?_)
                            refine RJ_op rfl (OJ_P (P_extract rfl rfl) rfl ?_)
                            refine RJ_op rfl (OJ_P (P_assign rfl) rfl ?_)
                            refine RJ_op rfl (OJ_P (P_assign rfl) rfl ?_)
                            refine RJ_nil ?_
                            refine QJ_ent (Ent.take del1 (Ent.take del1 (Ent.take del1 (Ent.take del1 (Ent.take del1 (Ent.take del1 (Ent.take del1 (Ent.take del1 (Ent.drop Ent.refl))))))))) ?_
                            refine QJ_then ?_
                            refine CJ_seq ?_
                            refine CJ_region ?_
                            refine RJ_op rfl (OJ_P (P_move rfl) rfl ?_)
                            rcases opt_e h with ⟨ht327, h⟩ | ⟨o328, ht327, h⟩
                            ·
                              rw [ht327]
                              refine RJ_ent (Ent.take del0 (Ent.take del1 (Ent.take del1 (Ent.take del1 (Ent.take del1 (Ent.take del1 (Ent.take del1 (Ent.drop Ent.refl)))))))) ?_
                              refine RJ_op rfl (OJ_P (P_eqlNN rfl rfl Try.underlying34) rfl ?_)
                              refine RJ_nil ?_
                              refine QJ_then ?_
                              refine CJ_condT rfl rfl ?_
                              refine CJ_seq ?_
                              refine CJ_region ?_
                              refine RJ_op rfl (OJ_P (P_assign rfl) rfl ?_)
                              refine RJ_nil ?_
                              refine QJ_then ?_
                              refine CJ_ret ?_
                              refine QJ_then_ret ?_
                              refine QJ_block_ret ?_
                              refine QJ_then_ret ?_
                              refine QJ_round_ret ?_
                              refine QJ_block_ret ?_
                              refine QJ_then_ret ?_
                              have hE := Option.some.inj h
                              replace hE := seq_inr hK311 hE.symm
                              replace hE := seq_inr hK274 hE.symm
                              subst hE
                              refine QJ_end (res1 Try.results5 rfl) ?_
                              refine CSpec.close () ?_ ?_ (Ent.take del6 (Ent.drop (Ent.drop (Ent.drop (Ent.drop (Ent.drop (Ent.drop Ent.refl)))))))
                              · rfl
                              · trivial
                            ·
                              rw [ht327]
                              refine RJ_ent (Ent.takeC (A' := LogP X9 X325 o328) del1 rfl Ent.refl) ?_
                              refine RJ_op rfl (OJ_P (P_eqlPN rfl rfl Try.underlying34) rfl ?_)
                              refine RJ_nil ?_
                              refine QJ_then ?_
                              refine CJ_condF rfl rfl ?_
                              refine CJ_skip ?_
                              refine QJ_cutR ⟨((rsS a298.2.1 r318), o328, r323.2), X325⟩ ?_ (by repeat (first | exact Kp.base | exact Kp.self | refine Kp.cons rfl ?_ | refine Kp.forget rfl ?_)) ?_ (Ent.take del1 (Ent.take del0 (Ent.take del2 (Ent.take del2 (Ent.take del0 (Ent.take del1 (Ent.take del1 (Ent.drop Ent.refl))))))))
                              · exact (Option.some.inj h).symm
                              · exact ⟨rfl, rfl, True.intro⟩
                          ·
                            replace h := ite_f hg21 h
                            refine CJ_skip ?_
                            refine QJ_cutR ⟨(a298.2.1, a298.1, a298.2.2.2.2), pb285⟩ ?_ (by repeat (first | exact Kp.base | exact Kp.self | refine Kp.cons rfl ?_ | refine Kp.forget rfl ?_)) ?_ (Ent.take del1 Ent.refl)
                            · exact (Option.some.inj h).symm
                            · exact ⟨rfl, rfl, True.intro⟩
                        ·
                          rintro ⟨a317, pb315⟩ hy329
                          replace h := seq_inl hK311 hy329
                          show CJ _ _ _ _ _ (([(8, ptr pb315 0), (9, .int .i64 a317.2.2)] : Slots) ++ forget _ _) (Arr X9 a317.1 :: LogP X9 pb315 a317.2.1 :: _)
                          refine CJ_seq ?_
                          refine CJ_seq ?_
                          refine CJ_region ?_
                          refine RJ_op rfl (OJ_P (P_move rfl) rfl ?_)
                          refine RJ_op rfl (OJ_P (P_neq (a := a317.2.2) (b := (0 : Int)) rfl rfl) rfl ?_)
                          refine RJ_nil ?_
                          refine QJ_then ?_
                          refine CJ_condP rfl bT_dec (fun hg23 => ?_) (fun hg23 => ?_)
                          ·
                            replace h := ite_t hg23 h
                            refine CJ_seq ?_
                            refine CJ_region ?_
                            refine RJ_op rfl (OJ_P (P_assign rfl) rfl ?_)
                            refine RJ_nil ?_
                            refine QJ_ent (Ent.take del0 (Ent.take del1 (Ent.take del1 (Ent.take del1 (Ent.take del1 (Ent.take del1 (Ent.drop Ent.refl))))))) ?_
                            refine QJ_then ?_
                            refine CJ_ret ?_
                            refine QJ_then_ret ?_
                            refine QJ_block_ret ?_
                            refine QJ_then_ret ?_
                            refine QJ_round_ret ?_
                            refine QJ_block_ret ?_
                            refine QJ_then_ret ?_
                            have hE := Option.some.inj h
                            replace hE := seq_inr hK274 hE.symm
                            subst hE
                            refine QJ_end (res1 Try.results5 rfl) ?_
                            refine CSpec.close () ?_ ?_ (Ent.take del5 (Ent.drop (Ent.drop (Ent.drop (Ent.drop (Ent.drop Ent.refl))))))
                            · rfl
                            · trivial
                          ·
                            replace h := ite_f hg23 h
                            refine CJ_skip ?_
                            refine QJ_then ?_
                            refine CJ_seq ?_
                            refine CJ_region ?_
                            refine RJ_op rfl (OJ_P (P_assign rfl) rfl ?_)
                            refine RJ_nil ?_
                            refine QJ_then ?_
                            obtain ⟨y332, hl330, hK331⟩ := seq_e h
                            refine CJ_cutQ (X := Unit) [4, 14, 142, 143, 144, 145, 146, 147, 148, 149, 150, 151, 152, 153, 154, 155, 156, 157, 158, 159, 160, 161, 162, 163, 164, 165, 166, 167, 168] (fun _ => ([] : Slots)) (fun _ R => R) (fun _ => y332 = .inl ()) Dels.nil ?_ ?_
                            ·
                              refine CJ_block ?_
                              refine CJ_loopR (X := Nat × Nat) [4, 14, 142, 143, 144, 145, 146, 147, 148, 149, 150, 151, 152, 153, 154, 155, 156, 157, 158, 159, 160, 161, 162, 163, 164, 165, 166, 167, 168] (fun ⟨n, x334⟩ => ([(14, .int .i64 (((x334 : Nat) : Int)))] : Slots)) (fun ⟨n, x334⟩ R => R) (fun ⟨n, x334⟩ => volumegrouplaw20_RegionlogCrash_l4 n_1 a298 a317 n x334 = some y332) (fun ⟨n, x334⟩ => n) ⟨FUEL, 0⟩ ?_ ?_ Ent.refl ?_
                              · exact hl330
                              · exact ⟨rfl, True.intro⟩
                              ·
                                rintro ⟨n, x334⟩ h
                                cases n with
                                | zero => exact none_e h
                                | succ n => ?_
                                replace h : volumegrouplaw20_RegionlogCrash_l4_b n_1 a298 a317 (volumegrouplaw20_RegionlogCrash_l4 n_1 a298 a317 n) x334 = some y332 := h
                                unfold volumegrouplaw20_RegionlogCrash_l4_b at h
                                show CJ _ _ _ _ _ (([(14, .int .i64 (((x334 : Nat) : Int)))] : Slots) ++ forget _ _) (_)
                                refine CJ_seq ?_
                                refine CJ_seq ?_
                                refine CJ_region ?_
                                refine RJ_op rfl (OJ_P (P_move rfl) rfl ?_)
                                refine RJ_op rfl (OJ_P (P_move rfl) rfl ?_)
                                refine RJ_op rfl (OJ_P (P_lss (a := ((x334 : Nat) : Int)) (b := (((1 + n_1.toNat) : Nat) : Int)) rfl rfl) rfl ?_)
                                refine RJ_nil ?_
                                refine QJ_then ?_
                                refine CJ_condP rfl bT_dec (fun hg24 => ?_) (fun hg24 => ?_)
                                ·
                                  replace h := ite_t hg24 h
                                  refine CJ_skip ?_
                                  refine QJ_then ?_
                                  refine CJ_seq ?_
                                  refine CJ_block ?_
                                  refine CJ_seq ?_
                                  refine CJ_region ?_
                                  refine RJ_op rfl (OJ_P (P_move rfl) rfl ?_)
                                  refine RJ_op rfl (OJ_P (P_move rfl) rfl ?_)
                                  obtain ⟨hg25, h⟩ := grd_de h
                                  refine RJ_op rfl (OJ_V (V_index (i := x334) rfl rfl rfl hg25 foc3 (Reads.sl _ _ _) Try.runUnderlying51 Try.sizeOf4) rfl ?_)
                                  refine RJ_op rfl (OJ_V (V_loadE rfl rfl hg25 foc3 (Reads.sl _ _ _) rfl rfl Try.isAgg4) rfl ?_)
                                  refine RJ_op rfl (OJ_P (P_move rfl) rfl ?_)
                                  refine RJ_splitP 151 rfl Iff.rfl (fun hg26B hg26 => ?_) (fun hg26B hg26 => ?_)
                                  ·
                                    replace h := ite_t hg26 h
                                    refine RJ_gy (GY_yes rfl rfl rfl hg26B) (OJ_P (P_move rfl) rfl ?_)
                                    refine RJ_gy (GY_yes rfl rfl rfl hg26B) (OJ_P (P_move rfl) rfl ?_)
                                    obtain ⟨r335, hr336, h⟩ := bind_e h
                                    refine RJ_gy (GY_yes rfl rfl rfl hg26B) (O_call (L_regionlog_Log_IsDirty hr336) rfl Try.call16 (Dels.cons del1 (Dels.cons del0 Dels.nil)) rfl (fun _ _ => ?_))
                                    refine RJ_gy (GY_yes rfl rfl rfl hg26B) (OJ_P (P_not rfl) rfl ?_)
                                    refine RJ_op rfl (OJ_P (P_pickT rfl hg26B rfl) rfl ?_)
                                    refine RJ_op rfl (OJ_P (P_move rfl) rfl ?_)
                                    refine RJ_splitP 157 rfl (bT_not Iff.rfl) (fun hg27B hg27 => ?_) (fun hg27B hg27 => ?_)
                                    ·
                                      replace h := ite_t hg27 h
                                      refine RJ_gn (GY_no rfl rfl rfl hg27B) rfl rfl ?_
                                      refine RJ_gn (GY_no rfl rfl rfl hg27B) rfl rfl ?_
                                      refine RJ_gn (GY_no rfl rfl rfl hg27B) rfl rfl ?_
                                      refine RJ_gn (GY_no rfl rfl rfl hg27B) rfl rfl ?_
                                      refine RJ_gn (GY_undef rfl rfl rfl) rfl rfl ?_
                                      refine RJ_gn (GY_undef rfl rfl rfl) rfl rfl ?_
                                      refine RJ_gn (GY_undef rfl rfl rfl) rfl rfl ?_
                                      refine RJ_gn (GY_undef rfl rfl rfl) rfl rfl ?_
                                      refine RJ_gn (GY_undef rfl rfl rfl) rfl rfl ?_
                                      refine RJ_gn (GY_no rfl rfl rfl hg27B) rfl rfl ?_
                                      refine RJ_op rfl (OJ_P (P_pickT rfl hg27B rfl) rfl ?_)
                                      refine RJ_nil ?_
                                      refine QJ_then ?_
                                      refine CJ_condT rfl rfl ?_
                                      refine CJ_seq ?_
                                      refine CJ_region ?_
                                      refine RJ_op rfl (OJ_P (P_assign rfl) rfl ?_)
                                      refine RJ_nil ?_
                                      refine QJ_then ?_
                                      refine CJ_ret ?_
                                      refine QJ_block_ret ?_
                                      refine QJ_then_ret ?_
                                      refine QJ_round_ret ?_
                                      refine QJ_block_ret ?_
                                      refine QJ_then_ret ?_
                                      refine QJ_block_ret ?_
                                      refine QJ_then_ret ?_
                                      refine QJ_round_ret ?_
                                      refine QJ_block_ret ?_
                                      refine QJ_then_ret ?_
                                      have hE := Option.some.inj h
                                      replace hE := seq_inr hK331 hE.symm
                                      replace hE := seq_inr hK274 hE.symm
                                      subst hE
                                      refine QJ_end (res1 Try.results5 rfl) ?_
                                      refine CSpec.close () ?_ ?_ (Ent.take del6 (Ent.drop (Ent.drop (Ent.drop (Ent.drop (Ent.drop (Ent.drop Ent.refl)))))))
                                      · rfl
                                      · trivial
                                    ·
                                      replace h := ite_f hg27 h
                                      refine RJ_gy (GY_yes rfl rfl rfl hg27B) (OJ_P (P_move rfl) rfl ?_)
                                      refine RJ_gy (GY_yes rfl rfl rfl hg27B) (OJ_P (P_move rfl) rfl ?_)
                                      obtain ⟨r337, hr338, h⟩ := bind_e h
                                      refine RJ_gy (GY_yes rfl rfl rfl hg27B) (O_call (L_regionlog_Log_IsDirty hr338) rfl Try.call16 (Dels.cons del0 (Dels.cons del0 Dels.nil)) rfl (fun _ _ => ?_))
                                      refine RJ_gy (GY_yes rfl rfl rfl hg27B) (OJ_P (P_move rfl) rfl ?_)
                                      refine RJ_mbT rfl rfl rfl (fun hG339 => have hP340 : r337 = true := (Iff.rfl).1 hG339; VJ_P (P_move rfl)) ?_
                                      refine RJ_mbT rfl rfl rfl (fun hG341 => have hP342 : r337 = true := (Iff.rfl).1 hG341; VJ_P (P_move rfl)) ?_
                                      obtain ⟨hg28, h⟩ := grd_de h
                                      refine RJ_mbT rfl rfl rfl (fun hG343 => have hP344 : r337 = true := (Iff.rfl).1 hG343; V_index (i := x334) (mbx hG343 rfl) (mbx hG343 rfl) rfl (hg28 hP344) foc2 (Reads.sl _ _ _) Try.runUnderlying51 Try.sizeOf4) ?_
                                      obtain ⟨hg29, h⟩ := grd_de h
                                      refine RJ_mbT rfl rfl rfl (fun hG345 => have hP346 : r337 = true := (Iff.rfl).1 hG345; V_loadE (mbx hG345 rfl) rfl (hg29 hP346) foc2 (Reads.sl _ _ _) rfl rfl Try.isAgg4) ?_
                                      refine RJ_mbT rfl rfl rfl (fun hG347 => have hP348 : r337 = true := (Iff.rfl).1 hG347; VJ_P (P_not (mbx hG347 rfl))) ?_
                                      refine RJ_gy (GY_yes rfl rfl rfl hg27B) (OJ_P (P_pickAnd rfl (fun hh => mbx hh rfl) rfl) rfl ?_)
                                      refine RJ_op rfl (OJ_P (P_pickF rfl hg27B rfl) rfl ?_)
                                      refine RJ_nil ?_
                                      refine QJ_then ?_
                                      refine CJ_condP rfl (bT_and Iff.rfl (bT_not Iff.rfl)) (fun hg30 => ?_) (fun hg30 => ?_)
                                      ·
                                        replace h := ite_t hg30 h
                                        refine CJ_seq ?_
                                        refine CJ_region ?_
                                        refine RJ_op rfl (OJ_P (P_assign rfl) rfl ?_)
                                        refine RJ_nil ?_
                                        refine QJ_then ?_
                                        refine CJ_ret ?_
                                        refine QJ_block_ret ?_
                                        refine QJ_then_ret ?_
                                        refine QJ_round_ret ?_
                                        refine QJ_block_ret ?_
                                        refine QJ_then_ret ?_
                                        refine QJ_block_ret ?_
                                        refine QJ_then_ret ?_
                                        refine QJ_round_ret ?_
                                        refine QJ_block_ret ?_
                                        refine QJ_then_ret ?_
                                        have hE := Option.some.inj h
                                        replace hE := seq_inr hK331 hE.symm
                                        replace hE := seq_inr hK274 hE.symm
                                        subst hE
                                        refine QJ_end (res1 Try.results5 rfl) ?_
                                        refine CSpec.close () ?_ ?_ (Ent.take del6 (Ent.drop (Ent.drop (Ent.drop (Ent.drop (Ent.drop (Ent.drop Ent.refl)))))))
                                        · rfl
                                        · trivial
                                      ·
                                        replace h := ite_f hg30 h
                                        refine CJ_skip ?_
                                        refine QJ_block_normal ?_
                                        refine QJ_then ?_
                                        refine CJ_region ?_
                                        refine RJ_op rfl (OJ_P (P_move rfl) rfl ?_)
                                        obtain ⟨hg31, h⟩ := grd_Ne h
                                        refine RJ_op rfl (OJ_P (PJ_eq (P_add (a := ((x334 : Nat) : Int)) (b := (1 : Int)) rfl rfl (nat_in hg31)) rfl) rfl ?_)
                                        refine RJ_op rfl (OJ_P (P_assign rfl) rfl ?_)
                                        refine RJ_nil ?_
                                        refine QJ_nextR ⟨n, (x334 + 1)⟩ (Nat.lt_succ_self _) ?_ (by repeat (first | exact Kp.base | exact Kp.self | refine Kp.cons rfl ?_ | refine Kp.forget rfl ?_)) ?_ (Ent.take del1 Ent.refl)
                                        · exact h
                                        · exact ⟨rfl, True.intro⟩
                                  ·
                                    replace h := ite_f hg26 h
                                    refine RJ_gn (GY_no rfl rfl rfl hg26B) rfl rfl ?_
                                    refine RJ_gn (GY_no rfl rfl rfl hg26B) rfl rfl ?_
                                    refine RJ_gn (GY_no rfl rfl rfl hg26B) rfl rfl ?_
                                    refine RJ_gn (GY_no rfl rfl rfl hg26B) rfl rfl ?_
                                    refine RJ_op rfl (OJ_P (P_pickF rfl hg26B rfl) rfl ?_)
                                    refine RJ_op rfl (OJ_P (P_move rfl) rfl ?_)
                                    refine RJ_gy (GY_yes rfl rfl rfl rfl) (OJ_P (P_move rfl) rfl ?_)
                                    refine RJ_gy (GY_yes rfl rfl rfl rfl) (OJ_P (P_move rfl) rfl ?_)
                                    obtain ⟨r349, hr350, h⟩ := bind_e h
                                    refine RJ_gy (GY_yes rfl rfl rfl rfl) (O_call (L_regionlog_Log_IsDirty hr350) rfl Try.call16 (Dels.cons del1 (Dels.cons del0 Dels.nil)) rfl (fun _ _ => ?_))
                                    refine RJ_gy (GY_yes rfl rfl rfl rfl) (OJ_P (P_move rfl) rfl ?_)
                                    refine RJ_mbT rfl rfl rfl (fun hG351 => have hP352 : r349 = true := (Iff.rfl).1 hG351; VJ_P (P_move rfl)) ?_
                                    refine RJ_mbT rfl rfl rfl (fun hG353 => have hP354 : r349 = true := (Iff.rfl).1 hG353; VJ_P (P_move rfl)) ?_
                                    obtain ⟨hg32, h⟩ := grd_de h
                                    refine RJ_mbT rfl rfl rfl (fun hG355 => have hP356 : r349 = true := (Iff.rfl).1 hG355; V_index (i := x334) (mbx hG355 rfl) (mbx hG355 rfl) rfl (hg32 hP356) foc2 (Reads.sl _ _ _) Try.runUnderlying51 Try.sizeOf4) ?_
                                    obtain ⟨hg33, h⟩ := grd_de h
                                    refine RJ_mbT rfl rfl rfl (fun hG357 => have hP358 : r349 = true := (Iff.rfl).1 hG357; V_loadE (mbx hG357 rfl) rfl (hg33 hP358) foc2 (Reads.sl _ _ _) rfl rfl Try.isAgg4) ?_
                                    refine RJ_mbT rfl rfl rfl (fun hG359 => have hP360 : r349 = true := (Iff.rfl).1 hG359; VJ_P (P_not (mbx hG359 rfl))) ?_
                                    refine RJ_gy (GY_yes rfl rfl rfl rfl) (OJ_P (P_pickAnd rfl (fun hh => mbx hh rfl) rfl) rfl ?_)
                                    refine RJ_op rfl (OJ_P (P_pickF rfl rfl rfl) rfl ?_)
                                    refine RJ_nil ?_
                                    refine QJ_then ?_
                                    refine CJ_condP rfl (bT_and Iff.rfl (bT_not Iff.rfl)) (fun hg34 => ?_) (fun hg34 => ?_)
                                    ·
                                      replace h := ite_t hg34 h
                                      refine CJ_seq ?_
                                      refine CJ_region ?_
                                      refine RJ_op rfl (OJ_P (P_assign rfl) rfl ?_)
                                      refine RJ_nil ?_
                                      refine QJ_then ?_
                                      refine CJ_ret ?_
                                      refine QJ_block_ret ?_
                                      refine QJ_then_ret ?_
                                      refine QJ_round_ret ?_
                                      refine QJ_block_ret ?_
                                      refine QJ_then_ret ?_
                                      refine QJ_block_ret ?_
                                      refine QJ_then_ret ?_
                                      refine QJ_round_ret ?_
                                      refine QJ_block_ret ?_
                                      refine QJ_then_ret ?_
                                      have hE := Option.some.inj h
                                      replace hE := seq_inr hK331 hE.symm
                                      replace hE := seq_inr hK274 hE.symm
                                      subst hE
                                      refine QJ_end (res1 Try.results5 rfl) ?_
                                      refine CSpec.close () ?_ ?_ (Ent.take del6 (Ent.drop (Ent.drop (Ent.drop (Ent.drop (Ent.drop (Ent.drop Ent.refl)))))))
                                      · rfl
                                      · trivial
                                    ·
                                      replace h := ite_f hg34 h
                                      refine CJ_skip ?_
                                      refine QJ_block_normal ?_
                                      refine QJ_then ?_
                                      refine CJ_region ?_
                                      refine RJ_op rfl (OJ_P (P_move rfl) rfl ?_)
                                      obtain ⟨hg35, h⟩ := grd_Ne h
                                      refine RJ_op rfl (OJ_P (PJ_eq (P_add (a := ((x334 : Nat) : Int)) (b := (1 : Int)) rfl rfl (nat_in hg35)) rfl) rfl ?_)
                                      refine RJ_op rfl (OJ_P (P_assign rfl) rfl ?_)
                                      refine RJ_nil ?_
                                      refine QJ_nextR ⟨n, (x334 + 1)⟩ (Nat.lt_succ_self _) ?_ (by repeat (first | exact Kp.base | exact Kp.self | refine Kp.cons rfl ?_ | refine Kp.forget rfl ?_)) ?_ (Ent.take del1 Ent.refl)
                                      · exact h
                                      · exact ⟨rfl, True.intro⟩
                                ·
                                  replace h := ite_f hg24 h
                                  refine CJ_exit ?_
                                  refine QJ_then_exit ?_
                                  refine QJ_round_exit ?_
                                  refine QJ_block_here ?_
                                  refine QJ_cutR () ?_ (by repeat (first | exact Kp.base | exact Kp.self | refine Kp.cons rfl ?_ | refine Kp.forget rfl ?_)) ?_ Ent.refl
                                  · exact (Option.some.inj h).symm
                                  · exact True.intro
                            ·
                              rintro _ hy361
                              replace h := seq_inl hK331 hy361
                              show QJ _ _ _ _ (([] : Slots) ++ forget _ _) (_)
                              refine QJ_block_normal ?_
                              refine QJ_then ?_
                              refine CJ_region ?_
                              refine RJ_op rfl (OJ_P (P_move rfl) rfl ?_)
                              refine RJ_op rfl (OJ_P (PJ_eq (P_add (a := ((x283 : Nat) : Int)) (b := (1 : Int)) rfl rfl (by omega)) rfl) rfl ?_)
                              refine RJ_op rfl (OJ_P (P_assign rfl) rfl ?_)
                              refine RJ_nil ?_
                              refine QJ_nextR ⟨n, a317.1, a298.2.2.1, a298.2.2.2.1, (x283 + 1), a317.2.1, pb315⟩ (Nat.lt_succ_self _) ?_ (by repeat (first | exact Kp.base | exact Kp.self | refine Kp.cons rfl ?_ | refine Kp.forget rfl ?_)) ?_ (Ent.take del0 (Ent.take del1 (Ent.take del1 Ent.refl)))
                              · exact h
                              · exact ⟨rfl, rfl, True.intro⟩
                    ·
                      replace h := ite_f hg8 h
                      refine CJ_exit ?_
                      refine QJ_then_exit ?_
                      refine QJ_round_exit ?_
                      refine QJ_block_here ?_
                      refine QJ_cutR (x280, x281, x282) ?_ (by repeat (first | exact Kp.base | exact Kp.self | refine Kp.cons rfl ?_ | refine Kp.forget rfl ?_)) ?_ (Ent.take del0 (Ent.take del0 (Ent.take del0 (Ent.take del1 (Ent.take del1 (Ent.take del1 (Ent.drop Ent.refl)))))))
                      · exact (Option.some.inj h).symm
                      · exact True.intro
                ·
                  rintro a279 hy362
                  replace h := seq_inl hK274 hy362
                  show CJ _ _ _ _ _ (([] : Slots) ++ forget _ _) (Arr X9 a279.1 :: sl tyB (.slice (some ⟨b153, 0, none⟩) (1 + n_1.toNat) (1 + n_1.toNat)) a279.2.1 :: sl tyB (.slice (some ⟨b73, 0, none⟩) (1 + n_1.toNat) (1 + n_1.toNat)) a279.2.2 :: _)
                  refine CJ_pure (len_of (Reads.sl _ _ _) del1) (fun hlen363 => ?_)
                  refine CJ_pure (len_of (Reads.sl _ _ _) del2) (fun hlen364 => ?_)
                  refine CJ_seq ?_
                  refine CJ_region ?_
                  obtain ⟨r365, hr366, h⟩ := bind_e h
                  refine RJ_op rfl (O_call (L_volumegrouplaw20_awake hr366) rfl Try.call6 Dels.nil rfl (fun _ _ => ?_))
                  refine RJ_op rfl (OJ_P (P_assign rfl) rfl ?_)
                  refine RJ_nil ?_
                  refine QJ_then ?_
                  refine CJ_ret ?_
                  have hE := Option.some.inj h
                  subst hE
                  refine QJ_end (res1 Try.results5 rfl) ?_
                  refine CSpec.close () ?_ ?_ (Ent.take del5 (Ent.drop (Ent.drop (Ent.drop (Ent.drop (Ent.drop Ent.refl))))))
                  · rfl
                  · trivial

end Go.Proofs
