/- YteboelcolfoddaaLRegionlogCalls: lifted functions of the program; printed by lift.py. -/
import Derived.Test.YteboelcolfoddaaLRef20
set_option linter.unusedSimpArgs false
set_option linter.unusedVariables false
set_option maxRecDepth 20000
set_option maxHeartbeats 4000000
namespace Go.Proofs
open Go.VG

@[ext] structure volumegrouplaw20_Call where
  Kind : Int
  Region : Int
  Keep : UInt64
  deriving DecidableEq
abbrev tyvolumegrouplaw20_Call : Ty volumegrouplaw20_Call := { T := 48, sz := 3, enc := fun x => [.int .i64 x.Kind, .int .i64 x.Region, .int .u64 (x.Keep.toNat : Int)], dflt := ⟨0, 0, 0⟩, len := fun _ => rfl, one := fun _ => rfl, pos := by decide }
theorem ok_tyvolumegrouplaw20_Call : ElemOk Try.prog tyvolumegrouplaw20_Call 24 := ⟨Try.t48, .agg #[.int .i64 0, .int .i64 0, .int .u64 0], by kernel_rfl, rfl, rfl, rfl, rfl⟩

theorem bs_31_1_0 (v0 : (Option Addr)) (v1 : Nat) (v2 : Nat) : BuildsSlice Try.prog 31 1 [(0, .slice v0 v1 v2)] 22 [.slice v0 v1 v2] := fun w => by kernel_rfl
def volumegrouplaw20_awake : Option (Bool) :=
  Option.bind (volumegroupmake_Loaded (([(List.replicate 3 0)] : List (List UInt64)))) fun r4 =>
  Option.elim r4 (
    some false) fun o9 =>
  Option.bind (volumegroupmake_Spans o9) fun r10 =>
  if (((r10.length : Nat) : Int) ≠ (1 : Int)) then
    some false
  else
    Option.bind (regionlog_Format (r10.getD 0 dv0) (70 : Int) o9) fun r17 =>
    if (r17.1 ≠ (0 : Int)) then
      some false
    else
      Option.bind (regionlog_Open (r10.getD 0 dv0) (70 : Int) r17.2) fun r20 =>
      if (r20.2 ≠ (0 : Int)) then
        some false
      else
        Option.elim r20.1 (
          some false) fun o29 =>
        Option.bind (regionlog_Log_Mark o29 (65 : Int) r17.2) fun r30 =>
        if (r30.1 ≠ (0 : Int)) then
          some false
        else
          Option.bind (regionlog_Open (r10.getD 0 dv0) (70 : Int) r30.2.2) fun r33 =>
          if (r33.2 = (0 : Int)) then
            Option.elim r33.1 (
              some false) fun o42 =>
            Option.bind (regionlog_Log_IsDirty o42 (65 : Int) r30.2.2) fun r43 =>
            if r43 = true then
              Option.bind (regionlog_Log_IsDirty o42 (64 : Int) r30.2.2) fun r45 =>
              if (¬ r45 = true) then
                Option.bind (regionlog_Words (64 : Int)) fun r47 =>
                if (r47 = (2 : Int)) then
                  Option.bind (regionlog_Words (65 : Int)) fun r49 =>
                  some ((decide (r49 = (3 : Int))))
                else
                  some false
              else
                some false
            else
              some false
          else
            some false

theorem L_volumegrouplaw20_awake {W : World} {r : Bool} (h : volumegrouplaw20_awake = some r) :
    CSpec Try.prog W 6 [] [] (fun x : Unit => .bool r) (fun _ => True) (fun x F => F) := by
  refine CSpec.of_body Try.func6 rfl Try.ntmps6 rfl (fun F => ?_)
  show CJ _ _ _ _ _ _ (F)
  unfold volumegrouplaw20_awake at h
  refine CJ_seq ?_
  refine CJ_region ?_
  refine RJ_op rfl (OJ_P (P_assign rfl) rfl ?_)
  refine RJ_nil ?_
  refine QJ_then ?_
  refine CJ_seq ?_
  refine CJ_region ?_
  refine RJ_op rfl (O_make (t := tyU) (m := 3) (x0 := 0) (z := _) (bytes := _) rfl rfl rfl rfl Try.underlying22 ⟨Try.t27, by kernel_rfl, rfl, rfl, rfl⟩ rfl (by omega) (by decide) rfl (fun b1 => ?_))
  refine RJ_op rfl (O_buildSlice rfl (bs_31_1_0 _ _ _) rfl (fun b2 => ?_))
  refine RJ_ent (Ent.trans (Ent.take del0 Ent.refl) (sl_of_lit (t := tyRow) (m := 1) [(⟨some ⟨b1, 0, none⟩, 3, 3⟩ : Sl3)] rfl rfl rfl (by decide))) ?_
  refine RJ_ent (Ent.starI (l := [sl tyU (.slice (some ⟨b1, 0, none⟩) 3 3) (List.replicate 3 0)]) (Ent.take del1 Ent.refl)) ?_
  obtain ⟨r4, hr5, h⟩ := bind_e h
  refine RJ_op rfl (O_call (L_volumegroupmake_Loaded (Reads.sl _ _ _) (RowsR.cons (Reads.sl _ _ _) RowsR.nil) hr5) rfl Try.call9 (Dels.cons del1 (Dels.cons del0 Dels.nil)) rfl (fun X6 _ => ?_))
  refine RJ_ent (Ent.trans (Ent.take del1 Ent.refl) (Ent.starE (l := [sl tyU (.slice (some ⟨b1, 0, none⟩) 3 3) (List.replicate 3 0)]) Ent.refl)) ?_
  refine RJ_op rfl (OJ_P (P_assign rfl) rfl ?_)
  refine RJ_nil ?_
  refine QJ_then ?_
  refine CJ_seq ?_
  refine CJ_seq ?_
  refine CJ_region ?_
  refine RJ_op rfl (OJ_P (P_move rfl) rfl ?_)
  rcases opt_e h with ⟨ht8, h⟩ | ⟨o9, ht8, h⟩
  ·
    rw [ht8]
    refine RJ_ent (Ent.take del0 (Ent.take del0 (Ent.drop Ent.refl))) ?_
    refine RJ_op rfl (OJ_P (P_eqlNN rfl rfl Try.underlying29) rfl ?_)
    refine RJ_nil ?_
    refine QJ_then ?_
    refine CJ_condT rfl rfl ?_
    refine CJ_seq ?_
    refine CJ_region ?_
    refine RJ_op rfl (OJ_P (P_assign rfl) rfl ?_)
    refine RJ_nil ?_
    refine QJ_then ?_
    refine CJ_ret ?_
    refine QJ_then_ret ?_
    have hE := Option.some.inj h
    subst hE
    refine QJ_end (res1 Try.results6 rfl) ?_
    refine CSpec.close () ?_ ?_ (Ent.drop (Ent.drop Ent.refl))
    · rfl
    · trivial
  ·
    rw [ht8]
    refine RJ_ent (Ent.takeC (A' := Arr X6 o9) del2 rfl Ent.refl) ?_
    refine RJ_op rfl (OJ_P (P_eqlPN rfl rfl Try.underlying29) rfl ?_)
    refine RJ_nil ?_
    refine QJ_then ?_
    refine CJ_condF rfl rfl ?_
    refine CJ_skip ?_
    refine QJ_then ?_
    refine CJ_seq ?_
    refine CJ_region ?_
    refine RJ_op rfl (OJ_P (P_move rfl) rfl ?_)
    obtain ⟨r10, hr11, h⟩ := bind_e h
    refine RJ_op rfl (O_call (L_volumegroupmake_Spans hr11) rfl Try.call11 (Dels.cons del0 Dels.nil) rfl (fun X12 _ => ?_))
    refine RJ_pure (fun h hh => Rs_len (stars_perm (del2 (A := Rs (DevP X6) r10 X12.2)).out h hh)) (fun hdl15 => ?_)
    refine RJ_op rfl (OJ_P (P_assign rfl) rfl ?_)
    refine RJ_nil ?_
    refine QJ_then ?_
    refine CJ_seq ?_
    refine CJ_seq ?_
    refine CJ_region ?_
    refine RJ_op rfl (OJ_P (P_move rfl) rfl ?_)
    refine RJ_op rfl (OJ_V (VJ_eq (V_len rfl foc1 (Reads.sl _ _ _) Try.runUnderlying32) (congrArg (fun z : Nat => Value.int .i64 (z : Int)) (hdl15).symm)) rfl ?_)
    refine RJ_op rfl (OJ_P (P_neq (a := ((r10.length : Nat) : Int)) (b := (1 : Int)) rfl rfl) rfl ?_)
    refine RJ_op rfl (OJ_P (P_move rfl) rfl ?_)
    refine RJ_splitP 17 rfl bT_dec (fun hg1B hg1 => ?_) (fun hg1B hg1 => ?_)
    ·
      replace h := ite_t hg1 h
      refine RJ_gn (GY_no rfl rfl rfl hg1B) rfl rfl ?_
      refine RJ_gn (GY_no rfl rfl rfl hg1B) rfl rfl ?_
      refine RJ_gn (GY_no rfl rfl rfl hg1B) rfl rfl ?_
      refine RJ_gn (GY_no rfl rfl rfl hg1B) rfl rfl ?_
      refine RJ_gn (GY_no rfl rfl rfl hg1B) rfl rfl ?_
      refine RJ_op rfl (OJ_P (P_pickT rfl hg1B rfl) rfl ?_)
      refine RJ_nil ?_
      refine QJ_then ?_
      refine CJ_condT rfl rfl ?_
      refine CJ_seq ?_
      refine CJ_region ?_
      refine RJ_op rfl (OJ_P (P_assign rfl) rfl ?_)
      refine RJ_nil ?_
      refine QJ_then ?_
      refine CJ_ret ?_
      refine QJ_then_ret ?_
      have hE := Option.some.inj h
      subst hE
      refine QJ_end (res1 Try.results6 rfl) ?_
      refine CSpec.close () ?_ ?_ (Ent.drop (Ent.drop (Ent.drop (Ent.drop (Ent.drop Ent.refl)))))
      · rfl
      · trivial
    ·
      replace h := ite_f hg1 h
      refine RJ_gy (GY_yes rfl rfl rfl hg1B) (OJ_P (P_move rfl) rfl ?_)
      refine RJ_gy (GY_yes rfl rfl rfl hg1B) (OJ_V (V_index (i := 0) rfl rfl rfl (by have hz : 0 < r10.length := (by omega); have hy := hdl15; omega) foc1 (Reads.sl _ _ _) Try.runUnderlying32 Try.sizeOf38) rfl ?_)
      refine RJ_ent (Ent.trans (Ent.take del2 Ent.refl) (Rs_at (fun _ _ => Dup_DevP) (dx := dv0) (dh := tyDev.dflt) (i := 0) (by omega))) ?_
      refine RJ_gy (GY_yes rfl rfl rfl hg1B) (OJ_V (V_loadE rfl rfl (by have hz : 0 < r10.length := (by omega); have hy := hdl15; omega) foc3 (Reads.sl _ _ _) rfl rfl Try.isAgg38) rfl ?_)
      obtain ⟨r17, hr18, h⟩ := bind_e h
      refine RJ_gy (GY_yes rfl rfl rfl hg1B) (O_call (L_regionlog_Format hr18) rfl Try.call17 (Dels.cons del0 (Dels.cons del1 Dels.nil)) rfl (fun _ _ => ?_))
      refine RJ_gy (GY_yes rfl rfl rfl hg1B) (OJ_P (P_neq (a := r17.1) (b := (0 : Int)) rfl rfl) rfl ?_)
      refine RJ_op rfl (OJ_P (P_pickF rfl hg1B rfl) rfl ?_)
      refine RJ_nil ?_
      refine QJ_then ?_
      refine CJ_condP rfl bT_dec (fun hg2 => ?_) (fun hg2 => ?_)
      ·
        replace h := ite_t hg2 h
        refine CJ_seq ?_
        refine CJ_region ?_
        refine RJ_op rfl (OJ_P (P_assign rfl) rfl ?_)
        refine RJ_nil ?_
        refine QJ_then ?_
        refine CJ_ret ?_
        refine QJ_then_ret ?_
        have hE := Option.some.inj h
        subst hE
        refine QJ_end (res1 Try.results6 rfl) ?_
        refine CSpec.close () ?_ ?_ (Ent.drop (Ent.drop (Ent.drop (Ent.drop (Ent.drop (Ent.drop Ent.refl))))))
        · rfl
        · trivial
      ·
        replace h := ite_f hg2 h
        refine CJ_skip ?_
        refine QJ_then ?_
        refine CJ_seq ?_
        refine CJ_region ?_
        refine RJ_op rfl (OJ_P (P_move rfl) rfl ?_)
        refine RJ_op rfl (OJ_V (V_index (i := 0) rfl rfl rfl (by have hz : 0 < r10.length := (by omega); have hy := hdl15; omega) foc3 (Reads.sl _ _ _) Try.runUnderlying32 Try.sizeOf38) rfl ?_)
        refine RJ_ent (Ent.trans (Ent.take del2 Ent.refl) (Rs_at (fun _ _ => Dup_DevP) (dx := dv0) (dh := tyDev.dflt) (i := 0) (by omega))) ?_
        refine RJ_op rfl (OJ_V (V_loadE rfl rfl (by have hz : 0 < r10.length := (by omega); have hy := hdl15; omega) foc4 (Reads.sl _ _ _) rfl rfl Try.isAgg38) rfl ?_)
        obtain ⟨r20, hr21, h⟩ := bind_e h
        refine RJ_op rfl (O_call (L_regionlog_Open hr21) rfl Try.call12 (Dels.cons del0 (Dels.cons del2 Dels.nil)) rfl (fun X22 _ => ?_))
        refine RJ_op rfl (OJ_P (P_move rfl) rfl ?_)
        refine RJ_op rfl (OJ_P (P_extract rfl rfl) rfl ?_)
        refine RJ_op rfl (OJ_P (P_extract rfl rfl) rfl ?_)
        refine RJ_op rfl (OJ_P (P_assign rfl) rfl ?_)
        refine RJ_op rfl (OJ_P (P_assign rfl) rfl ?_)
        refine RJ_nil ?_
        refine QJ_ent (Ent.take del1 (Ent.take del1 (Ent.take del1 (Ent.take del2 (Ent.drop (Ent.drop (Ent.drop (Ent.drop Ent.refl)))))))) ?_
        refine QJ_then ?_
        refine CJ_seq ?_
        refine CJ_seq ?_
        refine CJ_region ?_
        refine RJ_op rfl (OJ_P (P_move rfl) rfl ?_)
        refine RJ_op rfl (OJ_P (P_neq (a := r20.2) (b := (0 : Int)) rfl rfl) rfl ?_)
        refine RJ_op rfl (OJ_P (P_move rfl) rfl ?_)
        refine RJ_mbF rfl rfl rfl (fun hG24 => have hP25 : ¬ (r20.2 ≠ (0 : Int)) := nP (bT_dec) hG24; VJ_P (P_move rfl)) ?_
        refine RJ_splitP 33 rfl bT_dec (fun hg3B hg3 => ?_) (fun hg3B hg3 => ?_)
        ·
          replace h := ite_t hg3 h
          refine RJ_gn (GY_no rfl rfl rfl hg3B) rfl rfl ?_
          refine RJ_op rfl (OJ_P (P_pickT rfl hg3B rfl) rfl ?_)
          refine RJ_op rfl (OJ_P (P_move rfl) rfl ?_)
          refine RJ_gn (GY_no rfl rfl rfl rfl) rfl rfl ?_
          refine RJ_gn (GY_no rfl rfl rfl rfl) rfl rfl ?_
          refine RJ_gn (GY_no rfl rfl rfl rfl) rfl rfl ?_
          refine RJ_op rfl (OJ_P (P_pickT rfl rfl rfl) rfl ?_)
          refine RJ_nil ?_
          refine QJ_then ?_
          refine CJ_condT rfl rfl ?_
          refine CJ_seq ?_
          refine CJ_region ?_
          refine RJ_op rfl (OJ_P (P_assign rfl) rfl ?_)
          refine RJ_nil ?_
          refine QJ_then ?_
          refine CJ_ret ?_
          refine QJ_then_ret ?_
          have hE := Option.some.inj h
          subst hE
          refine QJ_end (res1 Try.results6 rfl) ?_
          refine CSpec.close () ?_ ?_ (Ent.drop (Ent.drop (Ent.drop (Ent.drop Ent.refl))))
          · rfl
          · trivial
        ·
          replace h := ite_f hg3 h
          rcases opt_e h with ⟨ht28, h⟩ | ⟨o29, ht28, h⟩
          ·
            rw [ht28]
            refine RJ_ent (Ent.take del0 (Ent.take del1 (Ent.take del1 (Ent.drop Ent.refl)))) ?_
            refine RJ_gy (GY_yes rfl rfl rfl hg3B) (OJ_P (P_eqlNN (mbx (not_f hg3B) rfl) rfl Try.underlying34) rfl ?_)
            refine RJ_op rfl (OJ_P (P_pickF rfl hg3B rfl) rfl ?_)
            refine RJ_op rfl (OJ_P (P_move rfl) rfl ?_)
            refine RJ_gn (GY_no rfl rfl rfl rfl) rfl rfl ?_
            refine RJ_gn (GY_no rfl rfl rfl rfl) rfl rfl ?_
            refine RJ_gn (GY_no rfl rfl rfl rfl) rfl rfl ?_
            refine RJ_op rfl (OJ_P (P_pickT rfl rfl rfl) rfl ?_)
            refine RJ_nil ?_
            refine QJ_then ?_
            refine CJ_condT rfl rfl ?_
            refine CJ_seq ?_
            refine CJ_region ?_
            refine RJ_op rfl (OJ_P (P_assign rfl) rfl ?_)
            refine RJ_nil ?_
            refine QJ_then ?_
            refine CJ_ret ?_
            refine QJ_then_ret ?_
            have hE := Option.some.inj h
            subst hE
            refine QJ_end (res1 Try.results6 rfl) ?_
            refine CSpec.close () ?_ ?_ (Ent.drop (Ent.drop (Ent.drop Ent.refl)))
            · rfl
            · trivial
          ·
            rw [ht28]
            refine RJ_ent (Ent.takeC (A' := LogP X6 X22 o29) del1 rfl Ent.refl) ?_
            refine RJ_gy (GY_yes rfl rfl rfl hg3B) (OJ_P (P_eqlPN (mbx (not_f hg3B) rfl) rfl Try.underlying34) rfl ?_)
            refine RJ_op rfl (OJ_P (P_pickF rfl hg3B rfl) rfl ?_)
            refine RJ_op rfl (OJ_P (P_move rfl) rfl ?_)
            refine RJ_gy (GY_yes rfl rfl rfl rfl) (OJ_P (P_move rfl) rfl ?_)
            obtain ⟨r30, hr31, h⟩ := bind_e h
            refine RJ_gy (GY_yes rfl rfl rfl rfl) (O_call (L_regionlog_Log_Mark hr31) rfl Try.call19 (Dels.cons del0 (Dels.cons del0 Dels.nil)) rfl (fun _ _ => ?_))
            refine RJ_gy (GY_yes rfl rfl rfl rfl) (OJ_P (P_neq (a := r30.1) (b := (0 : Int)) rfl rfl) rfl ?_)
            refine RJ_op rfl (OJ_P (P_pickF rfl rfl rfl) rfl ?_)
            refine RJ_nil ?_
            refine QJ_then ?_
            refine CJ_condP rfl bT_dec (fun hg4 => ?_) (fun hg4 => ?_)
            ·
              replace h := ite_t hg4 h
              refine CJ_seq ?_
              refine CJ_region ?_
              refine RJ_op rfl (OJ_P (P_assign rfl) rfl ?_)
              refine RJ_nil ?_
              refine QJ_then ?_
              refine CJ_ret ?_
              refine QJ_then_ret ?_
              have hE := Option.some.inj h
              subst hE
              refine QJ_end (res1 Try.results6 rfl) ?_
              refine CSpec.close () ?_ ?_ (Ent.drop (Ent.drop (Ent.drop (Ent.drop Ent.refl))))
              · rfl
              · trivial
            ·
              replace h := ite_f hg4 h
              refine CJ_skip ?_
              refine QJ_then ?_
              refine CJ_seq ?_
              refine CJ_region ?_
              refine RJ_op rfl (OJ_P (P_move rfl) rfl ?_)
              refine RJ_op rfl (OJ_V (V_index (i := 0) rfl rfl rfl (by have hz : 0 < r10.length := (by omega); have hy := hdl15; omega) foc3 (Reads.sl _ _ _) Try.runUnderlying32 Try.sizeOf38) rfl ?_)
              refine RJ_ent (Ent.trans (Ent.take del2 Ent.refl) (Rs_at (fun _ _ => Dup_DevP) (dx := dv0) (dh := tyDev.dflt) (i := 0) (by omega))) ?_
              refine RJ_op rfl (OJ_V (V_loadE rfl rfl (by have hz : 0 < r10.length := (by omega); have hy := hdl15; omega) foc4 (Reads.sl _ _ _) rfl rfl Try.isAgg38) rfl ?_)
              obtain ⟨r33, hr34, h⟩ := bind_e h
              refine RJ_op rfl (O_call (L_regionlog_Open hr34) rfl Try.call12 (Dels.cons del0 (Dels.cons del2 Dels.nil)) rfl (fun X35 _ => ?_))
              refine RJ_op rfl (OJ_P (P_move rfl) rfl ?_)
              refine RJ_op rfl (OJ_P (P_extract rfl rfl) rfl ?_)
              refine RJ_op rfl (OJ_P (P_extract rfl rfl) rfl ?_)
              refine RJ_op rfl (OJ_P (P_assign rfl) rfl ?_)
              refine RJ_op rfl (OJ_P (P_assign rfl) rfl ?_)
              refine RJ_nil ?_
              refine QJ_then ?_
              refine CJ_seq ?_
              refine CJ_region ?_
              refine RJ_op rfl (OJ_P (P_move rfl) rfl ?_)
              refine RJ_op rfl (OJ_P (P_eql (a := r33.2) (b := (0 : Int)) rfl rfl) rfl ?_)
              refine RJ_op rfl (OJ_P (P_move rfl) rfl ?_)
              refine RJ_mbT rfl rfl rfl (fun hG37 => have hP38 : (r33.2 = (0 : Int)) := (bT_dec).1 hG37; VJ_P (P_move rfl)) ?_
              refine RJ_splitP 51 rfl bT_dec (fun hg5B hg5 => ?_) (fun hg5B hg5 => ?_)
              ·
                replace h := ite_t hg5 h
                rcases opt_e h with ⟨ht41, h⟩ | ⟨o42, ht41, h⟩
                ·
                  rw [ht41]
                  refine RJ_ent (Ent.take del0 (Ent.take del0 (Ent.take del1 (Ent.take del1 (Ent.take del1 (Ent.drop Ent.refl)))))) ?_
                  refine RJ_gy (GY_yes rfl rfl rfl hg5B) (OJ_P (P_neqNN (mbx hg5B rfl) rfl Try.underlying34) rfl ?_)
                  refine RJ_op rfl (OJ_P (P_pickT rfl hg5B rfl) rfl ?_)
                  refine RJ_op rfl (OJ_P (P_move rfl) rfl ?_)
                  refine RJ_gn (GY_no rfl rfl rfl rfl) rfl rfl ?_
                  refine RJ_gn (GY_no rfl rfl rfl rfl) rfl rfl ?_
                  refine RJ_op rfl (OJ_P (P_pickF rfl rfl rfl) rfl ?_)
                  refine RJ_op rfl (OJ_P (P_move rfl) rfl ?_)
                  refine RJ_gn (GY_no rfl rfl rfl rfl) rfl rfl ?_
                  refine RJ_gn (GY_no rfl rfl rfl rfl) rfl rfl ?_
                  refine RJ_gn (GY_no rfl rfl rfl rfl) rfl rfl ?_
                  refine RJ_op rfl (OJ_P (P_pickF rfl rfl rfl) rfl ?_)
                  refine RJ_op rfl (OJ_P (P_move rfl) rfl ?_)
                  refine RJ_gn (GY_no rfl rfl rfl rfl) rfl rfl ?_
                  refine RJ_gn (GY_no rfl rfl rfl rfl) rfl rfl ?_
                  refine RJ_op rfl (OJ_P (P_pickF rfl rfl rfl) rfl ?_)
                  refine RJ_op rfl (OJ_P (P_move rfl) rfl ?_)
                  refine RJ_gn (GY_no rfl rfl rfl rfl) rfl rfl ?_
                  refine RJ_gn (GY_no rfl rfl rfl rfl) rfl rfl ?_
                  refine RJ_op rfl (OJ_P (P_pickF rfl rfl rfl) rfl ?_)
                  refine RJ_op rfl (OJ_P (P_assign rfl) rfl ?_)
                  refine RJ_nil ?_
                  refine QJ_then ?_
                  refine CJ_ret ?_
                  have hE := Option.some.inj h
                  subst hE
                  refine QJ_end (res1 Try.results6 rfl) ?_
                  refine CSpec.close () ?_ ?_ (Ent.drop (Ent.drop (Ent.drop (Ent.drop (Ent.drop Ent.refl)))))
                  · rfl
                  · trivial
                ·
                  rw [ht41]
                  refine RJ_ent (Ent.takeC (A' := LogP X6 X35 o42) del2 rfl Ent.refl) ?_
                  refine RJ_gy (GY_yes rfl rfl rfl hg5B) (OJ_P (P_neqPN (mbx hg5B rfl) rfl Try.underlying34) rfl ?_)
                  refine RJ_op rfl (OJ_P (P_pickT rfl hg5B rfl) rfl ?_)
                  refine RJ_op rfl (OJ_P (P_move rfl) rfl ?_)
                  refine RJ_gy (GY_yes rfl rfl rfl rfl) (OJ_P (P_move rfl) rfl ?_)
                  obtain ⟨r43, hr44, h⟩ := bind_e h
                  refine RJ_gy (GY_yes rfl rfl rfl rfl) (O_call (L_regionlog_Log_IsDirty hr44) rfl Try.call16 (Dels.cons del0 (Dels.cons del1 Dels.nil)) rfl (fun _ _ => ?_))
                  refine RJ_op rfl (OJ_P (P_pickT rfl rfl rfl) rfl ?_)
                  refine RJ_op rfl (OJ_P (P_move rfl) rfl ?_)
                  refine RJ_splitP 59 rfl Iff.rfl (fun hg6B hg6 => ?_) (fun hg6B hg6 => ?_)
                  ·
                    replace h := ite_t hg6 h
                    refine RJ_gy (GY_yes rfl rfl rfl hg6B) (OJ_P (P_move rfl) rfl ?_)
                    obtain ⟨r45, hr46, h⟩ := bind_e h
                    refine RJ_gy (GY_yes rfl rfl rfl hg6B) (O_call (L_regionlog_Log_IsDirty hr46) rfl Try.call16 (Dels.cons del0 (Dels.cons del0 Dels.nil)) rfl (fun _ _ => ?_))
                    refine RJ_gy (GY_yes rfl rfl rfl hg6B) (OJ_P (P_not rfl) rfl ?_)
                    refine RJ_op rfl (OJ_P (P_pickT rfl hg6B rfl) rfl ?_)
                    refine RJ_op rfl (OJ_P (P_move rfl) rfl ?_)
                    refine RJ_splitP 64 rfl (bT_not Iff.rfl) (fun hg7B hg7 => ?_) (fun hg7B hg7 => ?_)
                    ·
                      replace h := ite_t hg7 h
                      obtain ⟨r47, hr48, h⟩ := bind_e h
                      refine RJ_gy (GY_yes rfl rfl rfl hg7B) (O_call (L_regionlog_Words hr48) rfl Try.call10 Dels.nil rfl (fun _ _ => ?_))
                      refine RJ_gy (GY_yes rfl rfl rfl hg7B) (OJ_P (P_eql (a := r47) (b := (2 : Int)) rfl rfl) rfl ?_)
                      refine RJ_op rfl (OJ_P (P_pickT rfl hg7B rfl) rfl ?_)
                      refine RJ_op rfl (OJ_P (P_move rfl) rfl ?_)
                      refine RJ_splitP 68 rfl bT_dec (fun hg8B hg8 => ?_) (fun hg8B hg8 => ?_)
                      ·
                        replace h := ite_t hg8 h
                        obtain ⟨r49, hr50, h⟩ := bind_e h
                        refine RJ_gy (GY_yes rfl rfl rfl hg8B) (O_call (L_regionlog_Words hr50) rfl Try.call10 Dels.nil rfl (fun _ _ => ?_))
                        refine RJ_gy (GY_yes rfl rfl rfl hg8B) (OJ_P (P_eql (a := r49) (b := (3 : Int)) rfl rfl) rfl ?_)
                        refine RJ_op rfl (OJ_P (P_pickT rfl hg8B rfl) rfl ?_)
                        refine RJ_op rfl (OJ_P (P_assign rfl) rfl ?_)
                        refine RJ_nil ?_
                        refine QJ_then ?_
                        refine CJ_ret ?_
                        have hE := Option.some.inj h
                        subst hE
                        refine QJ_end (res1 Try.results6 rfl) ?_
                        refine CSpec.close () ?_ ?_ (Ent.drop (Ent.drop (Ent.drop (Ent.drop (Ent.drop (Ent.drop Ent.refl))))))
                        · rfl
                        · trivial
                      ·
                        replace h := ite_f hg8 h
                        refine RJ_gn (GY_no rfl rfl rfl hg8B) rfl rfl ?_
                        refine RJ_gn (GY_no rfl rfl rfl hg8B) rfl rfl ?_
                        refine RJ_op rfl (OJ_P (P_pickF rfl hg8B rfl) rfl ?_)
                        refine RJ_op rfl (OJ_P (P_assign rfl) rfl ?_)
                        refine RJ_nil ?_
                        refine QJ_then ?_
                        refine CJ_ret ?_
                        have hE := Option.some.inj h
                        subst hE
                        refine QJ_end (res1 Try.results6 rfl) ?_
                        refine CSpec.close () ?_ ?_ (Ent.drop (Ent.drop (Ent.drop (Ent.drop (Ent.drop (Ent.drop Ent.refl))))))
                        · rfl
                        · trivial
                    ·
                      replace h := ite_f hg7 h
                      refine RJ_gn (GY_no rfl rfl rfl hg7B) rfl rfl ?_
                      refine RJ_gn (GY_no rfl rfl rfl hg7B) rfl rfl ?_
                      refine RJ_op rfl (OJ_P (P_pickF rfl hg7B rfl) rfl ?_)
                      refine RJ_op rfl (OJ_P (P_move rfl) rfl ?_)
                      refine RJ_gn (GY_no rfl rfl rfl rfl) rfl rfl ?_
                      refine RJ_gn (GY_no rfl rfl rfl rfl) rfl rfl ?_
                      refine RJ_op rfl (OJ_P (P_pickF rfl rfl rfl) rfl ?_)
                      refine RJ_op rfl (OJ_P (P_assign rfl) rfl ?_)
                      refine RJ_nil ?_
                      refine QJ_then ?_
                      refine CJ_ret ?_
                      have hE := Option.some.inj h
                      subst hE
                      refine QJ_end (res1 Try.results6 rfl) ?_
                      refine CSpec.close () ?_ ?_ (Ent.drop (Ent.drop (Ent.drop (Ent.drop (Ent.drop (Ent.drop Ent.refl))))))
                      · rfl
                      · trivial
                  ·
                    replace h := ite_f hg6 h
                    refine RJ_gn (GY_no rfl rfl rfl hg6B) rfl rfl ?_
                    refine RJ_gn (GY_no rfl rfl rfl hg6B) rfl rfl ?_
                    refine RJ_gn (GY_no rfl rfl rfl hg6B) rfl rfl ?_
                    refine RJ_op rfl (OJ_P (P_pickF rfl hg6B rfl) rfl ?_)
                    refine RJ_op rfl (OJ_P (P_move rfl) rfl ?_)
                    refine RJ_gn (GY_no rfl rfl rfl rfl) rfl rfl ?_
                    refine RJ_gn (GY_no rfl rfl rfl rfl) rfl rfl ?_
                    refine RJ_op rfl (OJ_P (P_pickF rfl rfl rfl) rfl ?_)
                    refine RJ_op rfl (OJ_P (P_move rfl) rfl ?_)
                    refine RJ_gn (GY_no rfl rfl rfl rfl) rfl rfl ?_
                    refine RJ_gn (GY_no rfl rfl rfl rfl) rfl rfl ?_
                    refine RJ_op rfl (OJ_P (P_pickF rfl rfl rfl) rfl ?_)
                    refine RJ_op rfl (OJ_P (P_assign rfl) rfl ?_)
                    refine RJ_nil ?_
                    refine QJ_then ?_
                    refine CJ_ret ?_
                    have hE := Option.some.inj h
                    subst hE
                    refine QJ_end (res1 Try.results6 rfl) ?_
                    refine CSpec.close () ?_ ?_ (Ent.drop (Ent.drop (Ent.drop (Ent.drop (Ent.drop (Ent.drop Ent.refl))))))
                    · rfl
                    · trivial
              ·
                replace h := ite_f hg5 h
                refine RJ_gn (GY_no rfl rfl rfl hg5B) rfl rfl ?_
                refine RJ_op rfl (OJ_P (P_pickF rfl hg5B rfl) rfl ?_)
                refine RJ_op rfl (OJ_P (P_move rfl) rfl ?_)
                refine RJ_gn (GY_no rfl rfl rfl rfl) rfl rfl ?_
                refine RJ_gn (GY_no rfl rfl rfl rfl) rfl rfl ?_
                refine RJ_op rfl (OJ_P (P_pickF rfl rfl rfl) rfl ?_)
                refine RJ_op rfl (OJ_P (P_move rfl) rfl ?_)
                refine RJ_gn (GY_no rfl rfl rfl rfl) rfl rfl ?_
                refine RJ_gn (GY_no rfl rfl rfl rfl) rfl rfl ?_
                refine RJ_gn (GY_no rfl rfl rfl rfl) rfl rfl ?_
                refine RJ_op rfl (OJ_P (P_pickF rfl rfl rfl) rfl ?_)
                refine RJ_op rfl (OJ_P (P_move rfl) rfl ?_)
                refine RJ_gn (GY_no rfl rfl rfl rfl) rfl rfl ?_
                refine RJ_gn (GY_no rfl rfl rfl rfl) rfl rfl ?_
                refine RJ_op rfl (OJ_P (P_pickF rfl rfl rfl) rfl ?_)
                refine RJ_op rfl (OJ_P (P_move rfl) rfl ?_)
                refine RJ_gn (GY_no rfl rfl rfl rfl) rfl rfl ?_
                refine RJ_gn (GY_no rfl rfl rfl rfl) rfl rfl ?_
                refine RJ_op rfl (OJ_P (P_pickF rfl rfl rfl) rfl ?_)
                refine RJ_op rfl (OJ_P (P_assign rfl) rfl ?_)
                refine RJ_nil ?_
                refine QJ_then ?_
                refine CJ_ret ?_
                have hE := Option.some.inj h
                subst hE
                refine QJ_end (res1 Try.results6 rfl) ?_
                refine CSpec.close () ?_ ?_ (Ent.drop (Ent.drop (Ent.drop (Ent.drop (Ent.drop (Ent.drop Ent.refl))))))
                · rfl
                · trivial

def volumegrouplaw20_RegionlogCalls_l1_b (l : List volumegrouplaw20_Call) (rec : ArrS → LogS → (List UInt64) → Nat → Option (((List UInt64) × LogS × ArrS) ⊕ Bool)) (x41 : ArrS) (x42 : LogS) (x43 : List UInt64) (x44 : Nat) : Option (((List UInt64) × LogS × ArrS) ⊕ Bool) :=
  if (((x44 : Nat) : Int) < ((l.length : Nat) : Int)) then
    Option.bind ((
      if ((andI (((l.getD x44 (⟨0, 0, 0⟩ : volumegrouplaw20_Call))).Kind) (4 : Int)) = (0 : Int)) then
        some ((andI (((l.getD x44 (⟨0, 0, 0⟩ : volumegrouplaw20_Call))).Region) (127 : Int)))
      else
        some (((l.getD x44 (⟨0, 0, 0⟩ : volumegrouplaw20_Call))).Region) : Option (Int))) fun a50 =>
    Option.bind ((
      if ((a50 < (0 : Int)) ∨ ((100 : Int) ≤ a50)) then
        some 1
      else
        some 0 : Option (Nat))) fun a60 =>
    seqO ((
      if ((andI (((l.getD x44 (⟨0, 0, 0⟩ : volumegrouplaw20_Call))).Kind) (1 : Int)) = (0 : Int)) then
        Option.bind (regionlog_Log_Mark x42 a50 x41) fun r69 =>
        if (r69.1 ≠ ((a60 : Nat) : Int)) then
          some (.inr (.inr false))
        else
          if (((a60 : Nat) : Int) = (0 : Int)) then
            grd (decide (0 ≤ (IntKind.i64.wrap (a50.tdiv (64 : Int))) ∧ (IntKind.i64.wrap (a50.tdiv (64 : Int))) < (x43.length : Int))) <|
            grd (decide (0 ≤ (a50.tmod (64 : Int)))) <|
            lt (((x43.getD (((IntKind.i64.wrap (a50.tdiv (64 : Int)))).toNat) 0) ||| (shl_u64 (1 : UInt64) (((a50.tmod (64 : Int))).toNat)))) fun w71 =>
            grd (decide (0 ≤ (IntKind.i64.wrap (a50.tdiv (64 : Int))) ∧ (IntKind.i64.wrap (a50.tdiv (64 : Int))) < (x43.length : Int))) <|
            some (.inl (r69.2.2, r69.2.1, (x43.set (((IntKind.i64.wrap (a50.tdiv (64 : Int)))).toNat) w71)))
          else
            some (.inl (r69.2.2, r69.2.1, x43))
      else
        Option.bind (regionlog_Log_Clear x42 a50 x41) fun r72 =>
        if (r72.1 ≠ ((a60 : Nat) : Int)) then
          some (.inr (.inr false))
        else
          if (((a60 : Nat) : Int) = (0 : Int)) then
            grd (decide (0 ≤ (IntKind.i64.wrap (a50.tdiv (64 : Int))) ∧ (IntKind.i64.wrap (a50.tdiv (64 : Int))) < (x43.length : Int))) <|
            grd (decide (0 ≤ (a50.tmod (64 : Int)))) <|
            lt (((x43.getD (((IntKind.i64.wrap (a50.tdiv (64 : Int)))).toNat) 0) &&& ~~~(shl_u64 (1 : UInt64) (((a50.tmod (64 : Int))).toNat)))) fun w74 =>
            grd (decide (0 ≤ (IntKind.i64.wrap (a50.tdiv (64 : Int))) ∧ (IntKind.i64.wrap (a50.tdiv (64 : Int))) < (x43.length : Int))) <|
            some (.inl (r72.2.2, r72.2.1, (x43.set (((IntKind.i64.wrap (a50.tdiv (64 : Int)))).toNat) w74)))
          else
            some (.inl (r72.2.2, r72.2.1, x43)) : Option ((ArrS × LogS × (List UInt64)) ⊕ (((List UInt64) × LogS × ArrS) ⊕ Bool)))) fun a68 =>
    Option.bind (regionlog_Log_Dirty a68.2.1 a68.1) fun r76 =>
    Option.bind (volumegroupref20_Dirty a68.2.2 (100 : Int)) fun r80 =>
    Option.bind (volumegroupref20_Same r76 r80) fun r84 =>
    if (¬ r84 = true) then
      some (.inr false)
    else
      Option.bind (regionlog_Log_IsDirty a68.2.1 a50 a68.1) fun r86 =>
      grd (decide ((((a60 : Nat) : Int) = (0 : Int)) → 0 ≤ (IntKind.i64.wrap (a50.tdiv (64 : Int))) ∧ (IntKind.i64.wrap (a50.tdiv (64 : Int))) < (a68.2.2.length : Int))) <|
      grd (decide ((((a60 : Nat) : Int) = (0 : Int)) → 0 ≤ (a50.tmod (64 : Int)))) <|
      if (¬ (r86 = true ↔ ((((a60 : Nat) : Int) = (0 : Int)) ∧ (((shr_u64 ((a68.2.2.getD (((IntKind.i64.wrap (a50.tdiv (64 : Int)))).toNat) 0)) (((a50.tmod (64 : Int))).toNat)) &&& (1 : UInt64)) = (1 : UInt64))))) then
        some (.inr false)
      else
        rec a68.1 a68.2.1 a68.2.2 (x44 + 1)
  else
    some (.inl (x43, x42, x41))

def volumegrouplaw20_RegionlogCalls_l1 (l : List volumegrouplaw20_Call) : Nat → ArrS → LogS → (List UInt64) → Nat → Option (((List UInt64) × LogS × ArrS) ⊕ Bool)
  | 0, _, _, _, _ => none
  | n + 1, x41, x42, x43, x44 => volumegrouplaw20_RegionlogCalls_l1_b l (volumegrouplaw20_RegionlogCalls_l1 l n) x41 x42 x43 x44

def volumegrouplaw20_RegionlogCalls (l : List volumegrouplaw20_Call) : Option (Bool) :=
  if ((30 : Int) < ((l.length : Nat) : Int)) then
    Option.bind (volumegrouplaw20_awake) fun r2 =>
    some r2
  else
    Option.bind (volumegroupmake_Loaded (([(List.replicate 4 0)] : List (List UInt64)))) fun r7 =>
    Option.elim r7 (
      some false) fun o12 =>
    Option.bind (volumegroupmake_Spans o12) fun r13 =>
    if (((r13.length : Nat) : Int) ≠ (1 : Int)) then
      some false
    else
      Option.bind (regionlog_Format (r13.getD 0 dv0) (100 : Int) o12) fun r20 =>
      if (r20.1 ≠ (0 : Int)) then
        some false
      else
        Option.bind (regionlog_Open (r13.getD 0 dv0) (100 : Int) r20.2) fun r23 =>
        if (r23.2 ≠ (0 : Int)) then
          some false
        else
          Option.elim r23.1 (
            some false) fun o32 =>
          seqO (volumegrouplaw20_RegionlogCalls_l1 l FUEL r20.2 o32 (List.replicate 2 0) 0) fun a40 =>
          Option.bind (regionlog_Open (r13.getD 0 dv0) (100 : Int) a40.2.2) fun r111 =>
          if (r111.2 = (0 : Int)) then
            Option.elim r111.1 (
              some false) fun o120 =>
            Option.bind (regionlog_Log_Dirty o120 a40.2.2) fun r121 =>
            Option.bind (regionlog_Log_Dirty a40.2.1 a40.2.2) fun r125 =>
            Option.bind (volumegroupref20_Same r121 r125) fun r129 =>
            if r129 = true then
              Option.bind (volumegrouplaw20_awake) fun r131 =>
              some r131
            else
              some false
          else
            some false

theorem L_volumegrouplaw20_RegionlogCalls {W : World} {Al : HP} {vl : Value} {l : List volumegrouplaw20_Call} {r : Bool} (rl : Reads Al tyvolumegrouplaw20_Call vl l) (h : volumegrouplaw20_RegionlogCalls l = some r) :
    CSpec Try.prog W 4 [vl] [Al] (fun x : Unit => .bool r) (fun _ => True) (fun x F => Al :: F) := by
  refine CSpec.of_body Try.func4 rfl Try.ntmps4 rfl (fun F => ?_)
  show CJ _ _ _ _ _ _ (_ :: F)
  unfold volumegrouplaw20_RegionlogCalls at h
  refine CJ_pure (len_of rl del0) (fun hlen1 => ?_)
  refine CJ_seq ?_
  refine CJ_region ?_
  refine RJ_op rfl (OJ_P (P_assign rfl) rfl ?_)
  refine RJ_nil ?_
  refine QJ_then ?_
  refine CJ_seq ?_
  refine CJ_seq ?_
  refine CJ_region ?_
  refine RJ_op rfl (OJ_P (P_move rfl) rfl ?_)
  refine RJ_op rfl (OJ_V (V_len rfl foc0 rl Try.runUnderlying46) rfl ?_)
  refine RJ_op rfl (OJ_P (P_gtr (a := ((l.length : Nat) : Int)) (b := (30 : Int)) rfl rfl) rfl ?_)
  refine RJ_nil ?_
  refine QJ_then ?_
  refine CJ_condP rfl bT_dec (fun hg1 => ?_) (fun hg1 => ?_)
  ·
    replace h := ite_t hg1 h
    refine CJ_seq ?_
    refine CJ_region ?_
    obtain ⟨r2, hr3, h⟩ := bind_e h
    refine RJ_op rfl (O_call (L_volumegrouplaw20_awake hr3) rfl Try.call6 Dels.nil rfl (fun _ _ => ?_))
    refine RJ_op rfl (OJ_P (P_assign rfl) rfl ?_)
    refine RJ_nil ?_
    refine QJ_then ?_
    refine CJ_ret ?_
    refine QJ_then_ret ?_
    have hE := Option.some.inj h
    subst hE
    refine QJ_end (res1 Try.results4 rfl) ?_
    refine CSpec.close () ?_ ?_ Ent.refl
    · rfl
    · trivial
  ·
    replace h := ite_f hg1 h
    refine CJ_skip ?_
    refine QJ_then ?_
    refine CJ_seq ?_
    refine CJ_region ?_
    refine RJ_op rfl (O_make (t := tyU) (m := 4) (x0 := 0) (z := _) (bytes := _) rfl rfl rfl rfl Try.underlying22 ⟨Try.t27, by kernel_rfl, rfl, rfl, rfl⟩ rfl (by omega) (by decide) rfl (fun b4 => ?_))
    refine RJ_op rfl (O_buildSlice rfl (bs_31_1_0 _ _ _) rfl (fun b5 => ?_))
    refine RJ_ent (Ent.trans (Ent.take del0 Ent.refl) (sl_of_lit (t := tyRow) (m := 1) [(⟨some ⟨b4, 0, none⟩, 4, 4⟩ : Sl3)] rfl rfl rfl (by decide))) ?_
    refine RJ_ent (Ent.starI (l := [sl tyU (.slice (some ⟨b4, 0, none⟩) 4 4) (List.replicate 4 0)]) (Ent.take del1 Ent.refl)) ?_
    obtain ⟨r7, hr8, h⟩ := bind_e h
    refine RJ_op rfl (O_call (L_volumegroupmake_Loaded (Reads.sl _ _ _) (RowsR.cons (Reads.sl _ _ _) RowsR.nil) hr8) rfl Try.call9 (Dels.cons del1 (Dels.cons del0 Dels.nil)) rfl (fun X9 _ => ?_))
    refine RJ_ent (Ent.trans (Ent.take del1 Ent.refl) (Ent.starE (l := [sl tyU (.slice (some ⟨b4, 0, none⟩) 4 4) (List.replicate 4 0)]) Ent.refl)) ?_
    refine RJ_op rfl (OJ_P (P_assign rfl) rfl ?_)
    refine RJ_nil ?_
    refine QJ_then ?_
    refine CJ_seq ?_
    refine CJ_seq ?_
    refine CJ_region ?_
    refine RJ_op rfl (OJ_P (P_move rfl) rfl ?_)
    rcases opt_e h with ⟨ht11, h⟩ | ⟨o12, ht11, h⟩
    ·
      rw [ht11]
      refine RJ_ent (Ent.take del0 (Ent.take del0 (Ent.take del1 (Ent.drop Ent.refl)))) ?_
      refine RJ_op rfl (OJ_P (P_eqlNN rfl rfl Try.underlying29) rfl ?_)
      refine RJ_nil ?_
      refine QJ_then ?_
      refine CJ_condT rfl rfl ?_
      refine CJ_seq ?_
      refine CJ_region ?_
      refine RJ_op rfl (OJ_P (P_assign rfl) rfl ?_)
      refine RJ_nil ?_
      refine QJ_then ?_
      refine CJ_ret ?_
      refine QJ_then_ret ?_
      have hE := Option.some.inj h
      subst hE
      refine QJ_end (res1 Try.results4 rfl) ?_
      refine CSpec.close () ?_ ?_ (Ent.take del2 (Ent.drop (Ent.drop Ent.refl)))
      · rfl
      · trivial
    ·
      rw [ht11]
      refine RJ_ent (Ent.takeC (A' := Arr X9 o12) del2 rfl Ent.refl) ?_
      refine RJ_op rfl (OJ_P (P_eqlPN rfl rfl Try.underlying29) rfl ?_)
      refine RJ_nil ?_
      refine QJ_then ?_
      refine CJ_condF rfl rfl ?_
      refine CJ_skip ?_
      refine QJ_then ?_
      refine CJ_seq ?_
      refine CJ_region ?_
      refine RJ_op rfl (OJ_P (P_move rfl) rfl ?_)
      obtain ⟨r13, hr14, h⟩ := bind_e h
      refine RJ_op rfl (O_call (L_volumegroupmake_Spans hr14) rfl Try.call11 (Dels.cons del0 Dels.nil) rfl (fun X15 _ => ?_))
      refine RJ_pure (fun h hh => Rs_len (stars_perm (del2 (A := Rs (DevP X9) r13 X15.2)).out h hh)) (fun hdl18 => ?_)
      refine RJ_op rfl (OJ_P (P_assign rfl) rfl ?_)
      refine RJ_nil ?_
      refine QJ_then ?_
      refine CJ_seq ?_
      refine CJ_seq ?_
      refine CJ_region ?_
      refine RJ_op rfl (OJ_P (P_move rfl) rfl ?_)
      refine RJ_op rfl (OJ_V (VJ_eq (V_len rfl foc1 (Reads.sl _ _ _) Try.runUnderlying32) (congrArg (fun z : Nat => Value.int .i64 (z : Int)) (hdl18).symm)) rfl ?_)
      refine RJ_op rfl (OJ_P (P_neq (a := ((r13.length : Nat) : Int)) (b := (1 : Int)) rfl rfl) rfl ?_)
      refine RJ_op rfl (OJ_P (P_move rfl) rfl ?_)
      refine RJ_splitP 27 rfl bT_dec (fun hg2B hg2 => ?_) (fun hg2B hg2 => ?_)
      ·
        replace h := ite_t hg2 h
        refine RJ_gn (GY_no rfl rfl rfl hg2B) rfl rfl ?_
        refine RJ_gn (GY_no rfl rfl rfl hg2B) rfl rfl ?_
        refine RJ_gn (GY_no rfl rfl rfl hg2B) rfl rfl ?_
        refine RJ_gn (GY_no rfl rfl rfl hg2B) rfl rfl ?_
        refine RJ_gn (GY_no rfl rfl rfl hg2B) rfl rfl ?_
        refine RJ_op rfl (OJ_P (P_pickT rfl hg2B rfl) rfl ?_)
        refine RJ_nil ?_
        refine QJ_then ?_
        refine CJ_condT rfl rfl ?_
        refine CJ_seq ?_
        refine CJ_region ?_
        refine RJ_op rfl (OJ_P (P_assign rfl) rfl ?_)
        refine RJ_nil ?_
        refine QJ_then ?_
        refine CJ_ret ?_
        refine QJ_then_ret ?_
        have hE := Option.some.inj h
        subst hE
        refine QJ_end (res1 Try.results4 rfl) ?_
        refine CSpec.close () ?_ ?_ (Ent.take del5 (Ent.drop (Ent.drop (Ent.drop (Ent.drop (Ent.drop Ent.refl))))))
        · rfl
        · trivial
      ·
        replace h := ite_f hg2 h
        refine RJ_gy (GY_yes rfl rfl rfl hg2B) (OJ_P (P_move rfl) rfl ?_)
        refine RJ_gy (GY_yes rfl rfl rfl hg2B) (OJ_V (V_index (i := 0) rfl rfl rfl (by have hz : 0 < r13.length := (by omega); have hy := hdl18; omega) foc1 (Reads.sl _ _ _) Try.runUnderlying32 Try.sizeOf38) rfl ?_)
        refine RJ_ent (Ent.trans (Ent.take del2 Ent.refl) (Rs_at (fun _ _ => Dup_DevP) (dx := dv0) (dh := tyDev.dflt) (i := 0) (by omega))) ?_
        refine RJ_gy (GY_yes rfl rfl rfl hg2B) (OJ_V (V_loadE rfl rfl (by have hz : 0 < r13.length := (by omega); have hy := hdl18; omega) foc3 (Reads.sl _ _ _) rfl rfl Try.isAgg38) rfl ?_)
        obtain ⟨r20, hr21, h⟩ := bind_e h
        refine RJ_gy (GY_yes rfl rfl rfl hg2B) (O_call (L_regionlog_Format hr21) rfl Try.call17 (Dels.cons del0 (Dels.cons del1 Dels.nil)) rfl (fun _ _ => ?_))
        refine RJ_gy (GY_yes rfl rfl rfl hg2B) (OJ_P (P_neq (a := r20.1) (b := (0 : Int)) rfl rfl) rfl ?_)
        refine RJ_op rfl (OJ_P (P_pickF rfl hg2B rfl) rfl ?_)
        refine RJ_nil ?_
        refine QJ_ent (Ent.take del1 (Ent.take del1 (Ent.take del1 (Ent.take del3 (Ent.drop (Ent.drop (Ent.drop Ent.refl))))))) ?_
        refine QJ_then ?_
        refine CJ_condP rfl bT_dec (fun hg3 => ?_) (fun hg3 => ?_)
        ·
          replace h := ite_t hg3 h
          refine CJ_seq ?_
          refine CJ_region ?_
          refine RJ_op rfl (OJ_P (P_assign rfl) rfl ?_)
          refine RJ_nil ?_
          refine QJ_then ?_
          refine CJ_ret ?_
          refine QJ_then_ret ?_
          have hE := Option.some.inj h
          subst hE
          refine QJ_end (res1 Try.results4 rfl) ?_
          refine CSpec.close () ?_ ?_ (Ent.take del3 (Ent.drop (Ent.drop (Ent.drop Ent.refl))))
          · rfl
          · trivial
        ·
          replace h := ite_f hg3 h
          refine CJ_skip ?_
          refine QJ_then ?_
          refine CJ_seq ?_
          refine CJ_region ?_
          refine RJ_op rfl (OJ_P (P_move rfl) rfl ?_)
          refine RJ_op rfl (OJ_V (V_index (i := 0) rfl rfl rfl (by have hz : 0 < r13.length := (by omega); have hy := hdl18; omega) foc2 (Reads.sl _ _ _) Try.runUnderlying32 Try.sizeOf38) rfl ?_)
          refine RJ_ent (Ent.trans (Ent.take del1 Ent.refl) (Rs_at (fun _ _ => Dup_DevP) (dx := dv0) (dh := tyDev.dflt) (i := 0) (by omega))) ?_
          refine RJ_op rfl (OJ_V (V_loadE rfl rfl (by have hz : 0 < r13.length := (by omega); have hy := hdl18; omega) foc3 (Reads.sl _ _ _) rfl rfl Try.isAgg38) rfl ?_)
          obtain ⟨r23, hr24, h⟩ := bind_e h
          refine RJ_op rfl (O_call (L_regionlog_Open hr24) rfl Try.call12 (Dels.cons del0 (Dels.cons del1 Dels.nil)) rfl (fun X25 _ => ?_))
          refine RJ_op rfl (OJ_P (P_move rfl) rfl ?_)
          refine RJ_op rfl (OJ_P (P_extract rfl rfl) rfl ?_)
          refine RJ_op rfl (OJ_P (P_extract rfl rfl) rfl ?_)
          refine RJ_op rfl (OJ_P (P_assign rfl) rfl ?_)
          refine RJ_op rfl (OJ_P (P_assign rfl) rfl ?_)
          refine RJ_nil ?_
          refine QJ_then ?_
          refine CJ_seq ?_
          refine CJ_seq ?_
          refine CJ_region ?_
          refine RJ_op rfl (OJ_P (P_move rfl) rfl ?_)
          refine RJ_op rfl (OJ_P (P_neq (a := r23.2) (b := (0 : Int)) rfl rfl) rfl ?_)
          refine RJ_op rfl (OJ_P (P_move rfl) rfl ?_)
          refine RJ_mbF rfl rfl rfl (fun hG27 => have hP28 : ¬ (r23.2 ≠ (0 : Int)) := nP (bT_dec) hG27; VJ_P (P_move rfl)) ?_
          refine RJ_splitP 43 rfl bT_dec (fun hg4B hg4 => ?_) (fun hg4B hg4 => ?_)
          ·
            replace h := ite_t hg4 h
            refine RJ_gn (GY_no rfl rfl rfl hg4B) rfl rfl ?_
            refine RJ_op rfl (OJ_P (P_pickT rfl hg4B rfl) rfl ?_)
            refine RJ_nil ?_
            refine QJ_then ?_
            refine CJ_condT rfl rfl ?_
            refine CJ_seq ?_
            refine CJ_region ?_
            refine RJ_op rfl (OJ_P (P_assign rfl) rfl ?_)
            refine RJ_nil ?_
            refine QJ_then ?_
            refine CJ_ret ?_
            refine QJ_then_ret ?_
            have hE := Option.some.inj h
            subst hE
            refine QJ_end (res1 Try.results4 rfl) ?_
            refine CSpec.close () ?_ ?_ (Ent.take del5 (Ent.drop (Ent.drop (Ent.drop (Ent.drop (Ent.drop Ent.refl))))))
            · rfl
            · trivial
          ·
            replace h := ite_f hg4 h
            rcases opt_e h with ⟨ht31, h⟩ | ⟨o32, ht31, h⟩
            ·
              rw [ht31]
              refine RJ_ent (Ent.take del0 (Ent.take del0 (Ent.take del1 (Ent.take del1 (Ent.take del1 (Ent.drop Ent.refl)))))) ?_
              refine RJ_gy (GY_yes rfl rfl rfl hg4B) (OJ_P (P_eqlNN (mbx (not_f hg4B) rfl) rfl Try.underlying34) rfl ?_)
              refine RJ_op rfl (OJ_P (P_pickF rfl hg4B rfl) rfl ?_)
              refine RJ_nil ?_
              refine QJ_then ?_
              refine CJ_condT rfl rfl ?_
              refine CJ_seq ?_
              refine CJ_region ?_
              refine RJ_op rfl (OJ_P (P_assign rfl) rfl ?_)
              refine RJ_nil ?_
              refine QJ_then ?_
              refine CJ_ret ?_
              refine QJ_then_ret ?_
              have hE := Option.some.inj h
              subst hE
              refine QJ_end (res1 Try.results4 rfl) ?_
              refine CSpec.close () ?_ ?_ (Ent.take del4 (Ent.drop (Ent.drop (Ent.drop (Ent.drop Ent.refl)))))
              · rfl
              · trivial
            ·
              rw [ht31]
              refine RJ_ent (Ent.takeC (A' := LogP X9 X25 o32) del2 rfl Ent.refl) ?_
              refine RJ_gy (GY_yes rfl rfl rfl hg4B) (OJ_P (P_eqlPN (mbx (not_f hg4B) rfl) rfl Try.underlying34) rfl ?_)
              refine RJ_op rfl (OJ_P (P_pickF rfl hg4B rfl) rfl ?_)
              refine RJ_nil ?_
              refine QJ_then ?_
              refine CJ_condF rfl rfl ?_
              refine CJ_skip ?_
              refine QJ_then ?_
              refine CJ_seq ?_
              refine CJ_region ?_
              refine RJ_op rfl (O_make (t := tyU) (m := 2) (x0 := 0) (z := _) (bytes := _) rfl rfl rfl rfl Try.underlying22 ⟨Try.t27, by kernel_rfl, rfl, rfl, rfl⟩ rfl (by omega) (by decide) rfl (fun b33 => ?_))
              refine RJ_op rfl (OJ_P (P_assign rfl) rfl ?_)
              refine RJ_nil ?_
              refine QJ_ent (Ent.take del0 (Ent.take del0 (Ent.take del1 (Ent.take del1 (Ent.take del1 (Ent.take del1 (Ent.drop Ent.refl))))))) ?_
              refine QJ_then ?_
              refine CJ_seq ?_
              refine CJ_seq ?_
              refine CJ_region ?_
              refine RJ_op rfl (OJ_P (P_assign rfl) rfl ?_)
              refine RJ_nil ?_
              refine QJ_then ?_
              obtain ⟨y36, hl34, hK35⟩ := seq_e h
              refine CJ_cutT (X := (List UInt64) × LogS × ArrS) [2, 8, 9, 10, 48, 49, 50, 51, 52, 53, 54, 55, 56, 57, 58, 59, 60, 61, 62, 63, 64, 65, 66, 67, 68, 69, 70, 71, 72, 73, 74, 75, 76, 77, 78, 79, 80, 81, 82, 83, 84, 85, 86, 87, 88, 89, 90, 91, 92, 93, 94, 95, 96, 97, 98, 99, 100, 101, 102, 103, 104, 105, 106, 107, 108, 109, 110, 111, 112, 113, 114, 115, 116, 117, 118, 119, 120, 121, 122, 123, 124, 125, 126, 127, 128, 129, 130, 131, 132, 133, 134, 135, 136, 137, 138, 139, 140] (fun a40 => ([] : Slots)) (fun a40 R => sl tyU (.slice (some ⟨b33, 0, none⟩) 2 2) a40.1 :: LogP X9 X25 a40.2.1 :: Arr X9 a40.2.2 :: R) (fun a40 => y36 = .inl a40) (Dels.cons del0 (Dels.cons del0 (Dels.cons del0 Dels.nil))) ?_ ?_
              ·
                refine CJ_block ?_
                refine CJ_loopR (X := Nat × ArrS × LogS × (List UInt64) × Nat) [2, 8, 9, 10, 48, 49, 50, 51, 52, 53, 54, 55, 56, 57, 58, 59, 60, 61, 62, 63, 64, 65, 66, 67, 68, 69, 70, 71, 72, 73, 74, 75, 76, 77, 78, 79, 80, 81, 82, 83, 84, 85, 86, 87, 88, 89, 90, 91, 92, 93, 94, 95, 96, 97, 98, 99, 100, 101, 102, 103, 104, 105, 106, 107, 108, 109, 110, 111, 112, 113, 114, 115, 116, 117, 118, 119, 120, 121, 122, 123, 124, 125, 126, 127, 128, 129, 130, 131, 132, 133, 134, 135, 136, 137, 138, 139, 140] (fun ⟨n, x41, x42, x43, x44⟩ => ([(8, .int .i64 (((x44 : Nat) : Int)))] : Slots)) (fun ⟨n, x41, x42, x43, x44⟩ R => Arr X9 x41 :: LogP X9 X25 x42 :: sl tyU (.slice (some ⟨b33, 0, none⟩) 2 2) x43 :: R) (fun ⟨n, x41, x42, x43, x44⟩ => volumegrouplaw20_RegionlogCalls_l1 l n x41 x42 x43 x44 = some y36) (fun ⟨n, x41, x42, x43, x44⟩ => n) ⟨FUEL, r20.2, o32, (List.replicate 2 0), 0⟩ ?_ ?_ (Ent.take del2 (Ent.take del1 Ent.refl)) ?_
                · exact hl34
                · exact ⟨rfl, True.intro⟩
                ·
                  rintro ⟨n, x41, x42, x43, x44⟩ h
                  cases n with
                  | zero => exact none_e h
                  | succ n => ?_
                  replace h : volumegrouplaw20_RegionlogCalls_l1_b l (volumegrouplaw20_RegionlogCalls_l1 l n) x41 x42 x43 x44 = some y36 := h
                  unfold volumegrouplaw20_RegionlogCalls_l1_b at h
                  show CJ _ _ _ _ _ (([(8, .int .i64 (((x44 : Nat) : Int)))] : Slots) ++ forget _ _) (Arr X9 x41 :: LogP X9 X25 x42 :: sl tyU (.slice (some ⟨b33, 0, none⟩) 2 2) x43 :: _)
                  refine CJ_pure (len_of (Reads.sl _ _ _) del2) (fun hlen45 => ?_)
                  refine CJ_seq ?_
                  refine CJ_seq ?_
                  refine CJ_region ?_
                  refine RJ_op rfl (OJ_P (P_move rfl) rfl ?_)
                  refine RJ_op rfl (OJ_P (P_move rfl) rfl ?_)
                  refine RJ_op rfl (OJ_V (V_len rfl foc5 rl Try.runUnderlying46) rfl ?_)
                  refine RJ_op rfl (OJ_P (P_lss (a := ((x44 : Nat) : Int)) (b := ((l.length : Nat) : Int)) rfl rfl) rfl ?_)
                  refine RJ_nil ?_
                  refine QJ_then ?_
                  refine CJ_condP rfl bT_dec (fun hg5 => ?_) (fun hg5 => ?_)
                  ·
                    replace h := ite_t hg5 h
                    refine CJ_skip ?_
                    refine QJ_then ?_
                    refine CJ_seq ?_
                    refine CJ_block ?_
                    refine CJ_seq ?_
                    refine CJ_region ?_
                    refine RJ_op rfl (OJ_P (P_move rfl) rfl ?_)
                    refine RJ_op rfl (OJ_P (P_move rfl) rfl ?_)
                    refine RJ_op rfl (OJ_V (V_index (i := x44) rfl rfl rfl (by omega) foc5 rl Try.runUnderlying46 Try.sizeOf48) rfl ?_)
                    refine RJ_op rfl (OJ_P (P_fieldE rfl ⟨_, _, _, Try.runUnderlying48, rfl, rfl, Try.sizeOf3, rfl⟩) rfl ?_)
                    refine RJ_op rfl (OJ_V (V_loadE rfl rfl (by omega) foc5 rl rfl rfl Try.isAgg3) rfl ?_)
                    refine RJ_op rfl (OJ_P (P_assign rfl) rfl ?_)
                    refine RJ_op rfl (OJ_P (P_assign rfl) rfl ?_)
                    refine RJ_nil ?_
                    refine QJ_then ?_
                    refine CJ_seq ?_
                    refine CJ_seq ?_
                    refine CJ_region ?_
                    refine RJ_op rfl (OJ_P (P_move rfl) rfl ?_)
                    refine RJ_op rfl (OJ_P (P_move rfl) rfl ?_)
                    refine RJ_op rfl (OJ_V (V_index (i := x44) rfl rfl rfl (by omega) foc5 rl Try.runUnderlying46 Try.sizeOf48) rfl ?_)
                    refine RJ_op rfl (OJ_P (P_fieldE rfl ⟨_, _, _, Try.runUnderlying48, rfl, rfl, Try.sizeOf3, rfl⟩) rfl ?_)
                    refine RJ_op rfl (OJ_V (V_loadE rfl rfl (by omega) foc5 rl rfl rfl Try.isAgg3) rfl ?_)
                    refine RJ_op rfl (OJ_P (P_and (a := ((l.getD x44 (⟨0, 0, 0⟩ : volumegrouplaw20_Call))).Kind) (m := (4 : Int)) rfl rfl (by decide)) rfl ?_)
                    refine RJ_op rfl (OJ_P (P_eql (a := (andI (((l.getD x44 (⟨0, 0, 0⟩ : volumegrouplaw20_Call))).Kind) (4 : Int))) (b := (0 : Int)) rfl rfl) rfl ?_)
                    refine RJ_nil ?_
                    refine QJ_then ?_
                    obtain ⟨y48, hl46, hK47⟩ := bind_c h
                    refine CJ_cutT (X := Int) [9, 66, 67] (fun a50 => ([(9, .int .i64 a50)] : Slots)) (fun a50 R => R) (fun a50 => y48 = a50) Dels.nil ?_ ?_
                    ·
                      have h := hl46
                      refine CJ_condP rfl bT_dec (fun hg7 => ?_) (fun hg7 => ?_)
                      ·
                        replace h := ite_t hg7 h
                        refine CJ_region ?_
                        refine RJ_op rfl (OJ_P (P_move rfl) rfl ?_)
                        refine RJ_op rfl (OJ_P (P_and (a := ((l.getD x44 (⟨0, 0, 0⟩ : volumegrouplaw20_Call))).Region) (m := (127 : Int)) rfl rfl (by decide)) rfl ?_)
                        refine RJ_op rfl (OJ_P (P_assign rfl) rfl ?_)
                        refine RJ_nil ?_
                        refine QJ_cutR (andI (((l.getD x44 (⟨0, 0, 0⟩ : volumegrouplaw20_Call))).Region) (127 : Int)) ?_ (by repeat (first | exact Kp.base | exact Kp.self | refine Kp.cons rfl ?_ | refine Kp.forget rfl ?_)) ?_ Ent.refl
                        · exact (Option.some.inj h).symm
                        · exact ⟨rfl, True.intro⟩
                      ·
                        replace h := ite_f hg7 h
                        refine CJ_skip ?_
                        refine QJ_cutR ((l.getD x44 (⟨0, 0, 0⟩ : volumegrouplaw20_Call))).Region ?_ (by repeat (first | exact Kp.base | exact Kp.self | refine Kp.cons rfl ?_ | refine Kp.forget rfl ?_)) ?_ Ent.refl
                        · exact (Option.some.inj h).symm
                        · exact ⟨rfl, True.intro⟩
                    ·
                      rintro a50 hy51
                      replace h := bindK_at hK47 hy51
                      show CJ _ _ _ _ _ (([(9, .int .i64 a50)] : Slots) ++ forget _ _) (_)
                      refine CJ_seq ?_
                      refine CJ_seq ?_
                      refine CJ_region ?_
                      refine RJ_op rfl (OJ_P (P_move rfl) rfl ?_)
                      refine RJ_op rfl (OJ_P (P_lss (a := a50) (b := (0 : Int)) rfl rfl) rfl ?_)
                      refine RJ_op rfl (OJ_P (P_move rfl) rfl ?_)
                      refine RJ_mbF rfl rfl rfl (fun hG52 => have hP53 : ¬ (a50 < (0 : Int)) := nP (bT_dec) hG52; VJ_P (P_move rfl)) ?_
                      refine RJ_mbF rfl rfl rfl (fun hG54 => have hP55 : ¬ (a50 < (0 : Int)) := nP (bT_dec) hG54; VJ_P (P_geq (a := a50) (b := (100 : Int)) (mbx hG54 rfl) rfl)) ?_
                      refine RJ_op rfl (OJ_P (P_pickOr rfl rfl (fun hh => mbx (not_f hh) rfl)) rfl ?_)
                      refine RJ_nil ?_
                      refine QJ_then ?_
                      obtain ⟨y58, hl56, hK57⟩ := bind_c h
                      refine CJ_cutT (X := Nat) [10] (fun a60 => ([(10, .int .i64 (((a60 : Nat) : Int)))] : Slots)) (fun a60 R => R) (fun a60 => y58 = a60) Dels.nil ?_ ?_
                      ·
                        have h := hl56
                        refine CJ_condP rfl (bT_or bT_dec bT_dec) (fun hg9 => ?_) (fun hg9 => ?_)
                        ·
                          replace h := ite_t hg9 h
                          refine CJ_region ?_
                          refine RJ_op rfl (OJ_P (P_assign rfl) rfl ?_)
                          refine RJ_nil ?_
                          refine QJ_cutR 1 ?_ (by repeat (first | exact Kp.base | exact Kp.self | refine Kp.cons rfl ?_ | refine Kp.forget rfl ?_)) ?_ Ent.refl
                          · exact (Option.some.inj h).symm
                          · exact ⟨rfl, True.intro⟩
                        ·
                          replace h := ite_f hg9 h
                          refine CJ_skip ?_
                          refine QJ_cutR 0 ?_ (by repeat (first | exact Kp.base | exact Kp.self | refine Kp.cons rfl ?_ | refine Kp.forget rfl ?_)) ?_ Ent.refl
                          · exact (Option.some.inj h).symm
                          · exact ⟨rfl, True.intro⟩
                      ·
                        rintro a60 hy61
                        replace h := bindK_at hK57 hy61
                        show CJ _ _ _ _ _ (([(10, .int .i64 (((a60 : Nat) : Int)))] : Slots) ++ forget _ _) (_)
                        refine CJ_seq ?_
                        refine CJ_seq ?_
                        refine CJ_region ?_
                        refine RJ_op rfl (OJ_P (P_move rfl) rfl ?_)
                        refine RJ_op rfl (OJ_P (P_move rfl) rfl ?_)
                        refine RJ_op rfl (OJ_V (V_index (i := x44) rfl rfl rfl (by omega) foc5 rl Try.runUnderlying46 Try.sizeOf48) rfl ?_)
                        refine RJ_op rfl (OJ_P (P_fieldE rfl ⟨_, _, _, Try.runUnderlying48, rfl, rfl, Try.sizeOf3, rfl⟩) rfl ?_)
                        refine RJ_op rfl (OJ_V (V_loadE rfl rfl (by omega) foc5 rl rfl rfl Try.isAgg3) rfl ?_)
                        refine RJ_op rfl (OJ_P (P_and (a := ((l.getD x44 (⟨0, 0, 0⟩ : volumegrouplaw20_Call))).Kind) (m := (1 : Int)) rfl rfl (by decide)) rfl ?_)
                        refine RJ_op rfl (OJ_P (P_eql (a := (andI (((l.getD x44 (⟨0, 0, 0⟩ : volumegrouplaw20_Call))).Kind) (1 : Int))) (b := (0 : Int)) rfl rfl) rfl ?_)
                        refine RJ_nil ?_
                        refine QJ_then ?_
                        obtain ⟨y64, hl62, hK63⟩ := seq_e h
                        refine CJ_cutT (X := ArrS × LogS × (List UInt64)) [2, 81, 82, 83, 84, 85, 86, 87, 88, 89, 90, 91, 92, 93, 94, 95, 96, 97, 98, 99, 100, 101, 102, 103, 104, 105, 106, 107, 108, 109, 110, 111, 112, 113, 114] (fun a68 => ([] : Slots)) (fun a68 R => Arr X9 a68.1 :: LogP X9 X25 a68.2.1 :: sl tyU (.slice (some ⟨b33, 0, none⟩) 2 2) a68.2.2 :: R) (fun a68 => y64 = .inl a68) (Dels.cons del0 (Dels.cons del0 (Dels.cons del0 Dels.nil))) ?_ ?_
                        ·
                          have h := hl62
                          refine CJ_condP rfl bT_dec (fun hg11 => ?_) (fun hg11 => ?_)
                          ·
                            replace h := ite_t hg11 h
                            refine CJ_seq ?_
                            refine CJ_seq ?_
                            refine CJ_region ?_
                            refine RJ_op rfl (OJ_P (P_move rfl) rfl ?_)
                            refine RJ_op rfl (OJ_P (P_move rfl) rfl ?_)
                            obtain ⟨r69, hr70, h⟩ := bind_e h
                            refine RJ_op rfl (O_call (L_regionlog_Log_Mark hr70) rfl Try.call19 (Dels.cons del1 (Dels.cons del0 Dels.nil)) rfl (fun _ _ => ?_))
                            refine RJ_op rfl (OJ_P (P_move rfl) rfl ?_)
                            refine RJ_op rfl (OJ_P (P_neq (a := r69.1) (b := ((a60 : Nat) : Int)) rfl rfl) rfl ?_)
                            refine RJ_nil ?_
                            refine QJ_then ?_
                            refine CJ_condP rfl bT_dec (fun hg12 => ?_) (fun hg12 => ?_)
                            ·
                              replace h := ite_t hg12 h
                              refine CJ_seq ?_
                              refine CJ_region ?_
                              refine RJ_op rfl (OJ_P (P_assign rfl) rfl ?_)
                              refine RJ_nil ?_
                              refine QJ_then ?_
                              refine CJ_ret ?_
                              refine QJ_then_ret ?_
                              refine QJ_then_ret ?_
                              refine QJ_block_ret ?_
                              refine QJ_then_ret ?_
                              refine QJ_round_ret ?_
                              refine QJ_block_ret ?_
                              refine QJ_then_ret ?_
                              have hE := Option.some.inj h
                              replace hE := seq_inr hK63 hE.symm
                              replace hE := seq_inr hK35 hE.symm
                              subst hE
                              refine QJ_end (res1 Try.results4 rfl) ?_
                              refine CSpec.close () ?_ ?_ (Ent.take del5 (Ent.drop (Ent.drop (Ent.drop (Ent.drop (Ent.drop Ent.refl))))))
                              · rfl
                              · trivial
                            ·
                              replace h := ite_f hg12 h
                              refine CJ_skip ?_
                              refine QJ_then ?_
                              refine CJ_seq ?_
                              refine CJ_region ?_
                              refine RJ_op rfl (OJ_P (P_move rfl) rfl ?_)
                              refine RJ_op rfl (OJ_P (P_eql (a := ((a60 : Nat) : Int)) (b := (0 : Int)) rfl rfl) rfl ?_)
                              refine RJ_nil ?_
                              refine QJ_then ?_
                              refine CJ_condP rfl bT_dec (fun hg13 => ?_) (fun hg13 => ?_)
                              ·
                                replace h := ite_t hg13 h
                                refine AJ_startH 1024 (by kernel_rfl) rfl ?_
                                refine AJ_takeP 0 1 rfl (by kernel_rfl) rfl (GY_none rfl) (P_move rfl) rfl (fun _ _ _ _ h => h) ?_
                                refine AJ_takeP 1 3 rfl (by kernel_rfl) rfl (GY_none rfl) (P_move rfl) rfl (fun _ _ _ _ h => h) ?_
                                refine AJ_takeP 2 7 rfl (by kernel_rfl) rfl (GY_none rfl) (P_quoT (a := a50) (b := (64 : Int)) rfl rfl (by decide)) rfl (fun _ _ _ _ h => h) ?_
                                obtain ⟨hg14, h⟩ := grd_de h
                                refine AJ_takeV 3 15 rfl (by kernel_rfl) rfl (by kernel_rfl) (by kernel_rfl) (GY_none rfl) Ent.refl (V_index (i := ((IntKind.i64.wrap (a50.tdiv (64 : Int)))).toNat) rfl rfl (Int.toNat_of_nonneg (hg14.1)).symm (by omega) foc2 (Reads.sl _ _ _) Try.runUnderlying22 Try.sizeOf27) rfl (fun _ _ _ _ h => h) ?_
                                refine AJ_takeV 4 31 rfl (by kernel_rfl) rfl (by kernel_rfl) (by kernel_rfl) (GY_none rfl) Ent.refl (V_loadE rfl rfl (by omega) foc2 (Reads.sl _ _ _) rfl rfl Try.isAgg27) rfl (fun _ _ _ _ h => h) ?_
                                refine AJ_takeP 5 63 rfl (by kernel_rfl) rfl (GY_none rfl) (P_move rfl) rfl (fun _ _ _ _ h => h) ?_
                                refine AJ_takeP 6 127 rfl (by kernel_rfl) rfl (GY_none rfl) (P_remT (a := a50) (b := (64 : Int)) rfl rfl (by decide)) rfl (fun _ _ _ _ h => h) ?_
                                obtain ⟨hg15, h⟩ := grd_de h
                                refine AJ_takeP 7 255 rfl (by kernel_rfl) rfl (GY_none rfl) (P_shl_u64 (a := (1 : UInt64)) (m := ((a50.tmod (64 : Int))).toNat) rfl rfl (Int.toNat_of_nonneg hg15).symm) rfl (fun _ _ _ _ h => h) ?_
                                refine AJ_takeP 8 511 rfl (by kernel_rfl) rfl (GY_none rfl) (P_or_u64 (a := (x43.getD (((IntKind.i64.wrap (a50.tdiv (64 : Int)))).toNat) 0)) (b := (shl_u64 (1 : UInt64) (((a50.tmod (64 : Int))).toNat))) rfl rfl) rfl (fun _ _ _ _ h => h) ?_
                                obtain ⟨w71, hw71, h⟩ := lt_e h
                                rw [← hw71]
                                obtain ⟨hg16, h⟩ := grd_de h
                                refine AJ_takeV 9 1023 rfl (by kernel_rfl) rfl (by kernel_rfl) (by kernel_rfl) (GY_none rfl) Ent.refl (V_index (i := ((IntKind.i64.wrap (a50.tdiv (64 : Int)))).toNat) rfl rfl (Int.toNat_of_nonneg (hg16.1)).symm (by omega) foc2 (Reads.sl _ _ _) Try.runUnderlying22 Try.sizeOf27) rfl (fun _ _ _ _ h => h) ?_
                                refine AJ_op 10 2047 rfl (by kernel_rfl) rfl (GY_none rfl) (O_storeE (x' := w71) rfl rfl rfl (by omega) foc2 rfl rfl rfl Try.sizeOf27 ?_)
                                refine ⟨fun h => absurd h (by decide), ?_⟩
                                refine AJ_done (by kernel_rfl) ?_
                                refine QJ_cutR (r69.2.2, r69.2.1, (x43.set (((IntKind.i64.wrap (a50.tdiv (64 : Int)))).toNat) w71)) ?_ (by repeat (first | exact Kp.base | exact Kp.self | refine Kp.cons rfl ?_ | refine Kp.forget rfl ?_)) ?_ (Ent.take del1 Ent.refl)
                                · exact (Option.some.inj h).symm
                                · exact True.intro
                              ·
                                replace h := ite_f hg13 h
                                refine CJ_skip ?_
                                refine QJ_cutR (r69.2.2, r69.2.1, x43) ?_ (by repeat (first | exact Kp.base | exact Kp.self | refine Kp.cons rfl ?_ | refine Kp.forget rfl ?_)) ?_ (Ent.take del1 Ent.refl)
                                · exact (Option.some.inj h).symm
                                · exact True.intro
                          ·
                            replace h := ite_f hg11 h
                            refine CJ_seq ?_
                            refine CJ_seq ?_
                            refine CJ_region ?_
                            refine RJ_op rfl (OJ_P (P_move rfl) rfl ?_)
                            refine RJ_op rfl (OJ_P (P_move rfl) rfl ?_)
                            obtain ⟨r72, hr73, h⟩ := bind_e h
                            refine RJ_op rfl (O_call (L_regionlog_Log_Clear hr73) rfl Try.call20 (Dels.cons del1 (Dels.cons del0 Dels.nil)) rfl (fun _ _ => ?_))
                            refine RJ_op rfl (OJ_P (P_move rfl) rfl ?_)
                            refine RJ_op rfl (OJ_P (P_neq (a := r72.1) (b := ((a60 : Nat) : Int)) rfl rfl) rfl ?_)
                            refine RJ_nil ?_
                            refine QJ_then ?_
                            refine CJ_condP rfl bT_dec (fun hg17 => ?_) (fun hg17 => ?_)
                            ·
                              replace h := ite_t hg17 h
                              refine CJ_seq ?_
                              refine CJ_region ?_
                              refine RJ_op rfl (OJ_P (P_assign rfl) rfl ?_)
                              refine RJ_nil ?_
                              refine QJ_then ?_
                              refine CJ_ret ?_
                              refine QJ_then_ret ?_
                              refine QJ_then_ret ?_
                              refine QJ_block_ret ?_
                              refine QJ_then_ret ?_
                              refine QJ_round_ret ?_
                              refine QJ_block_ret ?_
                              refine QJ_then_ret ?_
                              have hE := Option.some.inj h
                              replace hE := seq_inr hK63 hE.symm
                              replace hE := seq_inr hK35 hE.symm
                              subst hE
                              refine QJ_end (res1 Try.results4 rfl) ?_
                              refine CSpec.close () ?_ ?_ (Ent.take del5 (Ent.drop (Ent.drop (Ent.drop (Ent.drop (Ent.drop Ent.refl))))))
                              · rfl
                              · trivial
                            ·
                              replace h := ite_f hg17 h
                              refine CJ_skip ?_
                              refine QJ_then ?_
                              refine CJ_seq ?_
                              refine CJ_region ?_
                              refine RJ_op rfl (OJ_P (P_move rfl) rfl ?_)
                              refine RJ_op rfl (OJ_P (P_eql (a := ((a60 : Nat) : Int)) (b := (0 : Int)) rfl rfl) rfl ?_)
                              refine RJ_nil ?_
                              refine QJ_then ?_
                              refine CJ_condP rfl bT_dec (fun hg18 => ?_) (fun hg18 => ?_)
                              ·
                                replace h := ite_t hg18 h
                                refine AJ_startH 1024 (by kernel_rfl) rfl ?_
                                refine AJ_takeP 0 1 rfl (by kernel_rfl) rfl (GY_none rfl) (P_move rfl) rfl (fun _ _ _ _ h => h) ?_
                                refine AJ_takeP 1 3 rfl (by kernel_rfl) rfl (GY_none rfl) (P_move rfl) rfl (fun _ _ _ _ h => h) ?_
                                refine AJ_takeP 2 7 rfl (by kernel_rfl) rfl (GY_none rfl) (P_quoT (a := a50) (b := (64 : Int)) rfl rfl (by decide)) rfl (fun _ _ _ _ h => h) ?_
                                obtain ⟨hg19, h⟩ := grd_de h
                                refine AJ_takeV 3 15 rfl (by kernel_rfl) rfl (by kernel_rfl) (by kernel_rfl) (GY_none rfl) Ent.refl (V_index (i := ((IntKind.i64.wrap (a50.tdiv (64 : Int)))).toNat) rfl rfl (Int.toNat_of_nonneg (hg19.1)).symm (by omega) foc2 (Reads.sl _ _ _) Try.runUnderlying22 Try.sizeOf27) rfl (fun _ _ _ _ h => h) ?_
                                refine AJ_takeV 4 31 rfl (by kernel_rfl) rfl (by kernel_rfl) (by kernel_rfl) (GY_none rfl) Ent.refl (V_loadE rfl rfl (by omega) foc2 (Reads.sl _ _ _) rfl rfl Try.isAgg27) rfl (fun _ _ _ _ h => h) ?_
                                refine AJ_takeP 5 63 rfl (by kernel_rfl) rfl (GY_none rfl) (P_move rfl) rfl (fun _ _ _ _ h => h) ?_
                                refine AJ_takeP 6 127 rfl (by kernel_rfl) rfl (GY_none rfl) (P_remT (a := a50) (b := (64 : Int)) rfl rfl (by decide)) rfl (fun _ _ _ _ h => h) ?_
                                obtain ⟨hg20, h⟩ := grd_de h
                                refine AJ_takeP 7 255 rfl (by kernel_rfl) rfl (GY_none rfl) (P_shl_u64 (a := (1 : UInt64)) (m := ((a50.tmod (64 : Int))).toNat) rfl rfl (Int.toNat_of_nonneg hg20).symm) rfl (fun _ _ _ _ h => h) ?_
                                refine AJ_takeP 8 511 rfl (by kernel_rfl) rfl (GY_none rfl) (P_andNot_u64 (a := (x43.getD (((IntKind.i64.wrap (a50.tdiv (64 : Int)))).toNat) 0)) (b := (shl_u64 (1 : UInt64) (((a50.tmod (64 : Int))).toNat))) rfl rfl) rfl (fun _ _ _ _ h => h) ?_
                                obtain ⟨w74, hw74, h⟩ := lt_e h
                                rw [← hw74]
                                obtain ⟨hg21, h⟩ := grd_de h
                                refine AJ_takeV 9 1023 rfl (by kernel_rfl) rfl (by kernel_rfl) (by kernel_rfl) (GY_none rfl) Ent.refl (V_index (i := ((IntKind.i64.wrap (a50.tdiv (64 : Int)))).toNat) rfl rfl (Int.toNat_of_nonneg (hg21.1)).symm (by omega) foc2 (Reads.sl _ _ _) Try.runUnderlying22 Try.sizeOf27) rfl (fun _ _ _ _ h => h) ?_
                                refine AJ_op 10 2047 rfl (by kernel_rfl) rfl (GY_none rfl) (O_storeE (x' := w74) rfl rfl rfl (by omega) foc2 rfl rfl rfl Try.sizeOf27 ?_)
                                refine ⟨fun h => absurd h (by decide), ?_⟩
                                refine AJ_done (by kernel_rfl) ?_
                                refine QJ_cutR (r72.2.2, r72.2.1, (x43.set (((IntKind.i64.wrap (a50.tdiv (64 : Int)))).toNat) w74)) ?_ (by repeat (first | exact Kp.base | exact Kp.self | refine Kp.cons rfl ?_ | refine Kp.forget rfl ?_)) ?_ (Ent.take del1 Ent.refl)
                                · exact (Option.some.inj h).symm
                                · exact True.intro
                              ·
                                replace h := ite_f hg18 h
                                refine CJ_skip ?_
                                refine QJ_cutR (r72.2.2, r72.2.1, x43) ?_ (by repeat (first | exact Kp.base | exact Kp.self | refine Kp.cons rfl ?_ | refine Kp.forget rfl ?_)) ?_ (Ent.take del1 Ent.refl)
                                · exact (Option.some.inj h).symm
                                · exact True.intro
                        ·
                          rintro a68 hy75
                          replace h := seq_inl hK63 hy75
                          show CJ _ _ _ _ _ (([] : Slots) ++ forget _ _) (Arr X9 a68.1 :: LogP X9 X25 a68.2.1 :: sl tyU (.slice (some ⟨b33, 0, none⟩) 2 2) a68.2.2 :: _)
                          refine CJ_seq ?_
                          refine CJ_region ?_
                          refine RJ_op rfl (OJ_P (P_move rfl) rfl ?_)
                          obtain ⟨r76, hr77, h⟩ := bind_e h
                          refine RJ_op rfl (O_call (L_regionlog_Log_Dirty hr77) rfl Try.call14 (Dels.cons del1 (Dels.cons del0 Dels.nil)) rfl (fun X78 _ => ?_))
                          refine RJ_op rfl (OJ_P (P_move rfl) rfl ?_)
                          obtain ⟨r80, hr81, h⟩ := bind_e h
                          refine RJ_op rfl (O_call (L_volumegroupref20_Dirty (Reads.sl _ _ _) hr81) rfl Try.call15 (Dels.cons del3 Dels.nil) rfl (fun X82 _ => ?_))
                          obtain ⟨r84, hr85, h⟩ := bind_e h
                          refine RJ_op rfl (O_call (L_volumegroupref20_Same (Reads.sl _ _ _) (Reads.sl _ _ _) hr85) rfl Try.call13 (Dels.cons del4 (Dels.cons del1 Dels.nil)) rfl (fun _ _ => ?_))
                          refine RJ_op rfl (OJ_P (P_not rfl) rfl ?_)
                          refine RJ_op rfl (OJ_P (P_move rfl) rfl ?_)
                          refine RJ_splitP 121 rfl (bT_not Iff.rfl) (fun hg22B hg22 => ?_) (fun hg22B hg22 => ?_)
                          ·
                            replace h := ite_t hg22 h
                            refine RJ_gn (GY_no rfl rfl rfl hg22B) rfl rfl ?_
                            refine RJ_gn (GY_no rfl rfl rfl hg22B) rfl rfl ?_
                            refine RJ_gn (GY_no rfl rfl rfl hg22B) rfl rfl ?_
                            refine RJ_gn (GY_no rfl rfl rfl hg22B) rfl rfl ?_
                            refine RJ_gn (GY_no rfl rfl rfl hg22B) rfl rfl ?_
                            refine RJ_gn (GY_no rfl rfl rfl hg22B) rfl rfl ?_
                            refine RJ_gn (GY_undef rfl rfl rfl) rfl rfl ?_
                            refine RJ_gn (GY_undef rfl rfl rfl) rfl rfl ?_
                            refine RJ_gn (GY_undef rfl rfl rfl) rfl rfl ?_
                            refine RJ_gn (GY_undef rfl rfl rfl) rfl rfl ?_
                            refine RJ_gn (GY_undef rfl rfl rfl) rfl rfl ?_
                            refine RJ_gn (GY_undef rfl rfl rfl) rfl rfl ?_
                            refine RJ_gn (GY_undef rfl rfl rfl) rfl rfl ?_
                            refine RJ_gn (GY_undef rfl rfl rfl) rfl rfl ?_
                            refine RJ_gn (GY_undef rfl rfl rfl) rfl rfl ?_
                            refine RJ_gn (GY_undef rfl rfl rfl) rfl rfl ?_
                            refine RJ_gn (GY_no rfl rfl rfl hg22B) rfl rfl ?_
                            refine RJ_gn (GY_no rfl rfl rfl hg22B) rfl rfl ?_
                            refine RJ_op rfl (OJ_P (P_pickT rfl hg22B rfl) rfl ?_)
                            refine RJ_nil ?_
                            refine QJ_ent (Ent.take del2 (Ent.take del2 (Ent.take del2 (Ent.take del2 (Ent.take del2 (Ent.take del2 (Ent.drop (Ent.drop Ent.refl)))))))) ?_
                            refine QJ_then ?_
                            refine CJ_condT rfl rfl ?_
                            refine CJ_seq ?_
                            refine CJ_region ?_
                            refine RJ_op rfl (OJ_P (P_assign rfl) rfl ?_)
                            refine RJ_nil ?_
                            refine QJ_then ?_
                            refine CJ_ret ?_
                            refine QJ_block_ret ?_
                            refine QJ_then_ret ?_
                            refine QJ_round_ret ?_
                            refine QJ_block_ret ?_
                            refine QJ_then_ret ?_
                            have hE := Option.some.inj h
                            replace hE := seq_inr hK35 hE.symm
                            subst hE
                            refine QJ_end (res1 Try.results4 rfl) ?_
                            refine CSpec.close () ?_ ?_ (Ent.take del5 (Ent.drop (Ent.drop (Ent.drop (Ent.drop (Ent.drop Ent.refl))))))
                            · rfl
                            · trivial
                          ·
                            replace h := ite_f hg22 h
                            refine RJ_gy (GY_yes rfl rfl rfl hg22B) (OJ_P (P_move rfl) rfl ?_)
                            refine RJ_gy (GY_yes rfl rfl rfl hg22B) (OJ_P (P_move rfl) rfl ?_)
                            obtain ⟨r86, hr87, h⟩ := bind_e h
                            refine RJ_gy (GY_yes rfl rfl rfl hg22B) (O_call (L_regionlog_Log_IsDirty hr87) rfl Try.call16 (Dels.cons del3 (Dels.cons del3 Dels.nil)) rfl (fun _ _ => ?_))
                            refine RJ_gy (GY_yes rfl rfl rfl hg22B) (OJ_P (P_move rfl) rfl ?_)
                            refine RJ_gy (GY_yes rfl rfl rfl hg22B) (OJ_P (P_eql (a := ((a60 : Nat) : Int)) (b := (0 : Int)) rfl rfl) rfl ?_)
                            refine RJ_gy (GY_yes rfl rfl rfl hg22B) (OJ_P (P_move rfl) rfl ?_)
                            refine RJ_mbT rfl rfl rfl (fun hG88 => have hP89 : (((a60 : Nat) : Int) = (0 : Int)) := (bT_dec).1 hG88; VJ_P (P_move rfl)) ?_
                            refine RJ_mbT rfl rfl rfl (fun hG90 => have hP91 : (((a60 : Nat) : Int) = (0 : Int)) := (bT_dec).1 hG90; VJ_P (P_move rfl)) ?_
                            refine RJ_mbT rfl rfl rfl (fun hG92 => have hP93 : (((a60 : Nat) : Int) = (0 : Int)) := (bT_dec).1 hG92; VJ_P (P_quoT (a := a50) (b := (64 : Int)) (mbx hG92 rfl) rfl (by decide))) ?_
                            obtain ⟨hg23, h⟩ := grd_de h
                            refine RJ_mbT rfl rfl rfl (fun hG94 => have hP95 : (((a60 : Nat) : Int) = (0 : Int)) := (bT_dec).1 hG94; V_index (i := ((IntKind.i64.wrap (a50.tdiv (64 : Int)))).toNat) (mbx hG94 rfl) (mbx hG94 rfl) (Int.toNat_of_nonneg ((hg23 hP95).1)).symm (by omega) foc4 (Reads.sl _ _ _) Try.runUnderlying22 Try.sizeOf27) ?_
                            refine RJ_mbT rfl rfl rfl (fun hG96 => have hP97 : (((a60 : Nat) : Int) = (0 : Int)) := (bT_dec).1 hG96; V_loadE (mbx hG96 rfl) rfl (by omega) foc4 (Reads.sl _ _ _) rfl rfl Try.isAgg27) ?_
                            refine RJ_mbT rfl rfl rfl (fun hG98 => have hP99 : (((a60 : Nat) : Int) = (0 : Int)) := (bT_dec).1 hG98; VJ_P (P_move rfl)) ?_
                            refine RJ_mbT rfl rfl rfl (fun hG100 => have hP101 : (((a60 : Nat) : Int) = (0 : Int)) := (bT_dec).1 hG100; VJ_P (P_remT (a := a50) (b := (64 : Int)) (mbx hG100 rfl) rfl (by decide))) ?_
                            obtain ⟨hg24, h⟩ := grd_de h
                            refine RJ_mbT rfl rfl rfl (fun hG102 => have hP103 : (((a60 : Nat) : Int) = (0 : Int)) := (bT_dec).1 hG102; VJ_P (P_shr_u64 (a := (a68.2.2.getD (((IntKind.i64.wrap (a50.tdiv (64 : Int)))).toNat) 0)) (m := ((a50.tmod (64 : Int))).toNat) (mbx hG102 rfl) (mbx hG102 rfl) (Int.toNat_of_nonneg (hg24 hP103)).symm)) ?_
                            refine RJ_mbT rfl rfl rfl (fun hG104 => have hP105 : (((a60 : Nat) : Int) = (0 : Int)) := (bT_dec).1 hG104; VJ_P (P_and_u64 (a := (shr_u64 ((a68.2.2.getD (((IntKind.i64.wrap (a50.tdiv (64 : Int)))).toNat) 0)) (((a50.tmod (64 : Int))).toNat))) (b := (1 : UInt64)) (mbx hG104 rfl) rfl)) ?_
                            refine RJ_mbT rfl rfl rfl (fun hG106 => have hP107 : (((a60 : Nat) : Int) = (0 : Int)) := (bT_dec).1 hG106; VJ_P (P_eq_u64 (a := ((shr_u64 ((a68.2.2.getD (((IntKind.i64.wrap (a50.tdiv (64 : Int)))).toNat) 0)) (((a50.tmod (64 : Int))).toNat)) &&& (1 : UInt64))) (b := (1 : UInt64)) (mbx hG106 rfl) rfl)) ?_
                            refine RJ_gy (GY_yes rfl rfl rfl hg22B) (OJ_P (P_pickAnd rfl (fun hh => mbx hh rfl) rfl) rfl ?_)
                            refine RJ_gy (GY_yes rfl rfl rfl hg22B) (OJ_P (P_neqB rfl rfl Try.underlying4) rfl ?_)
                            refine RJ_op rfl (OJ_P (P_pickF rfl hg22B rfl) rfl ?_)
                            refine RJ_nil ?_
                            refine QJ_ent (Ent.take del0 (Ent.take del0 (Ent.take del2 (Ent.take del2 (Ent.take del2 (Ent.take del2 (Ent.drop (Ent.drop Ent.refl)))))))) ?_
                            refine QJ_then ?_
                            refine CJ_condP rfl (bT_not (bT_beq Iff.rfl (bT_and bT_dec bT_dec))) (fun hg25 => ?_) (fun hg25 => ?_)
                            ·
                              replace h := ite_t hg25 h
                              refine CJ_seq ?_
                              refine CJ_region ?_
                              refine RJ_op rfl (OJ_P (P_assign rfl) rfl ?_)
                              refine RJ_nil ?_
                              refine QJ_then ?_
                              refine CJ_ret ?_
                              refine QJ_block_ret ?_
                              refine QJ_then_ret ?_
                              refine QJ_round_ret ?_
                              refine QJ_block_ret ?_
                              refine QJ_then_ret ?_
                              have hE := Option.some.inj h
                              replace hE := seq_inr hK35 hE.symm
                              subst hE
                              refine QJ_end (res1 Try.results4 rfl) ?_
                              refine CSpec.close () ?_ ?_ (Ent.take del5 (Ent.drop (Ent.drop (Ent.drop (Ent.drop (Ent.drop Ent.refl))))))
                              · rfl
                              · trivial
                            ·
                              replace h := ite_f hg25 h
                              refine CJ_skip ?_
                              refine QJ_block_normal ?_
                              refine QJ_then ?_
                              refine CJ_region ?_
                              refine RJ_op rfl (OJ_P (P_move rfl) rfl ?_)
                              refine RJ_op rfl (OJ_P (PJ_eq (P_add (a := ((x44 : Nat) : Int)) (b := (1 : Int)) rfl rfl (by omega)) rfl) rfl ?_)
                              refine RJ_op rfl (OJ_P (P_assign rfl) rfl ?_)
                              refine RJ_nil ?_
                              refine QJ_nextR ⟨n, a68.1, a68.2.1, a68.2.2, (x44 + 1)⟩ (Nat.lt_succ_self _) ?_ (by repeat (first | exact Kp.base | exact Kp.self | refine Kp.cons rfl ?_ | refine Kp.forget rfl ?_)) ?_ (Ent.take del1 Ent.refl)
                              · exact h
                              · exact ⟨rfl, True.intro⟩
                  ·
                    replace h := ite_f hg5 h
                    refine CJ_exit ?_
                    refine QJ_then_exit ?_
                    refine QJ_round_exit ?_
                    refine QJ_block_here ?_
                    refine QJ_cutR (x43, x42, x41) ?_ (by repeat (first | exact Kp.base | exact Kp.self | refine Kp.cons rfl ?_ | refine Kp.forget rfl ?_)) ?_ (Ent.take del2 (Ent.take del1 Ent.refl))
                    · exact (Option.some.inj h).symm
                    · exact True.intro
              ·
                rintro a40 hy108
                replace h := seq_inl hK35 hy108
                show CJ _ _ _ _ _ (([] : Slots) ++ forget _ _) (sl tyU (.slice (some ⟨b33, 0, none⟩) 2 2) a40.1 :: LogP X9 X25 a40.2.1 :: Arr X9 a40.2.2 :: _)
                refine CJ_pure (len_of (Reads.sl _ _ _) del0) (fun hlen109 => ?_)
                refine CJ_seq ?_
                refine CJ_region ?_
                refine RJ_op rfl (OJ_P (P_move rfl) rfl ?_)
                refine RJ_op rfl (OJ_V (V_index (i := 0) rfl rfl rfl (by have hz : 0 < r13.length := (by omega); have hy := hdl18; omega) foc4 (Reads.sl _ _ _) Try.runUnderlying32 Try.sizeOf38) rfl ?_)
                refine RJ_ent (Ent.trans (Ent.take del3 Ent.refl) (Rs_at (fun _ _ => Dup_DevP) (dx := dv0) (dh := tyDev.dflt) (i := 0) (by omega))) ?_
                refine RJ_op rfl (OJ_V (V_loadE rfl rfl (by have hz : 0 < r13.length := (by omega); have hy := hdl18; omega) foc5 (Reads.sl _ _ _) rfl rfl Try.isAgg38) rfl ?_)
                obtain ⟨r111, hr112, h⟩ := bind_e h
                refine RJ_op rfl (O_call (L_regionlog_Open hr112) rfl Try.call12 (Dels.cons del0 (Dels.cons del3 Dels.nil)) rfl (fun X113 _ => ?_))
                refine RJ_op rfl (OJ_P (P_move rfl) rfl ?_)
                refine RJ_op rfl (OJ_P (P_extract rfl rfl) rfl ?_)
                refine RJ_op rfl (OJ_P (P_extract rfl rfl) rfl ?_)
                refine RJ_op rfl (OJ_P (P_assign rfl) rfl ?_)
                refine RJ_op rfl (OJ_P (P_assign rfl) rfl ?_)
                refine RJ_nil ?_
                refine QJ_ent (Ent.take del1 (Ent.take del1 (Ent.take del3 (Ent.take del4 (Ent.drop (Ent.drop (Ent.drop (Ent.drop Ent.refl)))))))) ?_
                refine QJ_then ?_
                refine CJ_seq ?_
                refine CJ_region ?_
                refine RJ_op rfl (OJ_P (P_move rfl) rfl ?_)
                refine RJ_op rfl (OJ_P (P_eql (a := r111.2) (b := (0 : Int)) rfl rfl) rfl ?_)
                refine RJ_op rfl (OJ_P (P_move rfl) rfl ?_)
                refine RJ_mbT rfl rfl rfl (fun hG115 => have hP116 : (r111.2 = (0 : Int)) := (bT_dec).1 hG115; VJ_P (P_move rfl)) ?_
                refine RJ_splitP 150 rfl bT_dec (fun hg26B hg26 => ?_) (fun hg26B hg26 => ?_)
                ·
                  replace h := ite_t hg26 h
                  rcases opt_e h with ⟨ht119, h⟩ | ⟨o120, ht119, h⟩
                  ·
                    rw [ht119]
                    refine RJ_ent (Ent.take del0 (Ent.take del1 (Ent.take del1 (Ent.drop Ent.refl)))) ?_
                    refine RJ_gy (GY_yes rfl rfl rfl hg26B) (OJ_P (P_neqNN (mbx hg26B rfl) rfl Try.underlying34) rfl ?_)
                    refine RJ_op rfl (OJ_P (P_pickT rfl hg26B rfl) rfl ?_)
                    refine RJ_op rfl (OJ_P (P_move rfl) rfl ?_)
                    refine RJ_gn (GY_no rfl rfl rfl rfl) rfl rfl ?_
                    refine RJ_gn (GY_no rfl rfl rfl rfl) rfl rfl ?_
                    refine RJ_gn (GY_no rfl rfl rfl rfl) rfl rfl ?_
                    refine RJ_gn (GY_no rfl rfl rfl rfl) rfl rfl ?_
                    refine RJ_gn (GY_no rfl rfl rfl rfl) rfl rfl ?_
                    refine RJ_op rfl (OJ_P (P_pickF rfl rfl rfl) rfl ?_)
                    refine RJ_op rfl (OJ_P (P_move rfl) rfl ?_)
                    refine RJ_gn (GY_no rfl rfl rfl rfl) rfl rfl ?_
                    refine RJ_op rfl (OJ_P (P_pickF rfl rfl rfl) rfl ?_)
                    refine RJ_op rfl (OJ_P (P_assign rfl) rfl ?_)
                    refine RJ_nil ?_
                    refine QJ_then ?_
                    refine CJ_ret ?_
                    have hE := Option.some.inj h
                    subst hE
                    refine QJ_end (res1 Try.results4 rfl) ?_
                    refine CSpec.close () ?_ ?_ (Ent.take del2 (Ent.drop (Ent.drop Ent.refl)))
                    · rfl
                    · trivial
                  ·
                    rw [ht119]
                    refine RJ_ent (Ent.takeC (A' := LogP X9 X113 o120) del1 rfl Ent.refl) ?_
                    refine RJ_gy (GY_yes rfl rfl rfl hg26B) (OJ_P (P_neqPN (mbx hg26B rfl) rfl Try.underlying34) rfl ?_)
                    refine RJ_op rfl (OJ_P (P_pickT rfl hg26B rfl) rfl ?_)
                    refine RJ_op rfl (OJ_P (P_move rfl) rfl ?_)
                    refine RJ_gy (GY_yes rfl rfl rfl rfl) (OJ_P (P_move rfl) rfl ?_)
                    obtain ⟨r121, hr122, h⟩ := bind_e h
                    refine RJ_gy (GY_yes rfl rfl rfl rfl) (O_call (L_regionlog_Log_Dirty hr122) rfl Try.call14 (Dels.cons del0 (Dels.cons del0 Dels.nil)) rfl (fun X123 _ => ?_))
                    refine RJ_gy (GY_yes rfl rfl rfl rfl) (OJ_P (P_move rfl) rfl ?_)
                    obtain ⟨r125, hr126, h⟩ := bind_e h
                    refine RJ_gy (GY_yes rfl rfl rfl rfl) (O_call (L_regionlog_Log_Dirty hr126) rfl Try.call14 (Dels.cons del3 (Dels.cons del1 Dels.nil)) rfl (fun X127 _ => ?_))
                    obtain ⟨r129, hr130, h⟩ := bind_e h
                    refine RJ_gy (GY_yes rfl rfl rfl rfl) (O_call (L_volumegroupref20_Same (Reads.sl _ _ _) (Reads.sl _ _ _) hr130) rfl Try.call13 (Dels.cons del4 (Dels.cons del2 Dels.nil)) rfl (fun _ _ => ?_))
                    refine RJ_op rfl (OJ_P (P_pickT rfl rfl rfl) rfl ?_)
                    refine RJ_op rfl (OJ_P (P_move rfl) rfl ?_)
                    refine RJ_splitP 161 rfl Iff.rfl (fun hg27B hg27 => ?_) (fun hg27B hg27 => ?_)
                    ·
                      replace h := ite_t hg27 h
                      obtain ⟨r131, hr132, h⟩ := bind_e h
                      refine RJ_gy (GY_yes rfl rfl rfl hg27B) (O_call (L_volumegrouplaw20_awake hr132) rfl Try.call6 Dels.nil rfl (fun _ _ => ?_))
                      refine RJ_op rfl (OJ_P (P_pickT rfl hg27B rfl) rfl ?_)
                      refine RJ_op rfl (OJ_P (P_assign rfl) rfl ?_)
                      refine RJ_nil ?_
                      refine QJ_then ?_
                      refine CJ_ret ?_
                      have hE := Option.some.inj h
                      subst hE
                      refine QJ_end (res1 Try.results4 rfl) ?_
                      refine CSpec.close () ?_ ?_ (Ent.take del5 (Ent.drop (Ent.drop (Ent.drop (Ent.drop (Ent.drop Ent.refl))))))
                      · rfl
                      · trivial
                    ·
                      replace h := ite_f hg27 h
                      refine RJ_gn (GY_no rfl rfl rfl hg27B) rfl rfl ?_
                      refine RJ_op rfl (OJ_P (P_pickF rfl hg27B rfl) rfl ?_)
                      refine RJ_op rfl (OJ_P (P_assign rfl) rfl ?_)
                      refine RJ_nil ?_
                      refine QJ_then ?_
                      refine CJ_ret ?_
                      have hE := Option.some.inj h
                      subst hE
                      refine QJ_end (res1 Try.results4 rfl) ?_
                      refine CSpec.close () ?_ ?_ (Ent.take del5 (Ent.drop (Ent.drop (Ent.drop (Ent.drop (Ent.drop Ent.refl))))))
                      · rfl
                      · trivial
                ·
                  replace h := ite_f hg26 h
                  refine RJ_gn (GY_no rfl rfl rfl hg26B) rfl rfl ?_
                  refine RJ_op rfl (OJ_P (P_pickF rfl hg26B rfl) rfl ?_)
                  refine RJ_op rfl (OJ_P (P_move rfl) rfl ?_)
                  refine RJ_gn (GY_no rfl rfl rfl rfl) rfl rfl ?_
                  refine RJ_gn (GY_no rfl rfl rfl rfl) rfl rfl ?_
                  refine RJ_gn (GY_no rfl rfl rfl rfl) rfl rfl ?_
                  refine RJ_gn (GY_no rfl rfl rfl rfl) rfl rfl ?_
                  refine RJ_gn (GY_no rfl rfl rfl rfl) rfl rfl ?_
                  refine RJ_op rfl (OJ_P (P_pickF rfl rfl rfl) rfl ?_)
                  refine RJ_op rfl (OJ_P (P_move rfl) rfl ?_)
                  refine RJ_gn (GY_no rfl rfl rfl rfl) rfl rfl ?_
                  refine RJ_op rfl (OJ_P (P_pickF rfl rfl rfl) rfl ?_)
                  refine RJ_op rfl (OJ_P (P_assign rfl) rfl ?_)
                  refine RJ_nil ?_
                  refine QJ_then ?_
                  refine CJ_ret ?_
                  have hE := Option.some.inj h
                  subst hE
                  refine QJ_end (res1 Try.results4 rfl) ?_
                  refine CSpec.close () ?_ ?_ (Ent.take del3 (Ent.drop (Ent.drop (Ent.drop Ent.refl))))
                  · rfl
                  · trivial

end Go.Proofs
