/- YthgeeoahmjmnoaaLBlockSound: lifted functions of the program; printed by lift.py. -/
import Derived.Test.YthgeeoahmjmnoaaLStack
set_option linter.unusedSimpArgs false
set_option linter.unusedVariables false
set_option maxRecDepth 20000
set_option maxHeartbeats 4000000
namespace Go.Proofs
open Go.VG

def volumegrouplaw05_stack_1_l1_b (p0 : List volumegrouplaw05_span) (p1_v : ArrS) (rec : (List Dvc) → Nat → Option (((List Dvc)) ⊕ ((Option Dvc) × Bool))) (x11 : List Dvc) (x14 : Nat) : Option (((List Dvc)) ⊕ ((Option Dvc) × Bool)) :=
  if (((x14 : Nat) : Int) < ((p0.length : Nat) : Int)) then
    Option.bind (block_Span p1_v (((p0.getD x14 (⟨0, 0, 0⟩ : volumegrouplaw05_span))).d) (((p0.getD x14 (⟨0, 0, 0⟩ : volumegrouplaw05_span))).start) (((p0.getD x14 (⟨0, 0, 0⟩ : volumegrouplaw05_span))).length)) fun r17 =>
    if (r17.2 ≠ (0 : Int)) then
      some (.inr (none, false))
    else
      Option.elim r17.1 (
        some (.inr (none, false))) fun o26 =>
      grd (inLen (x11.length + 1)) <|
      rec (x11 ++ [o26]) (x14 + 1)
  else
    some (.inl x11)

def volumegrouplaw05_stack_1_l1 (p0 : List volumegrouplaw05_span) (p1_v : ArrS) : Nat → (List Dvc) → Nat → Option (((List Dvc)) ⊕ ((Option Dvc) × Bool))
  | 0, _, _ => none
  | n + 1, x11, x14 => volumegrouplaw05_stack_1_l1_b p0 p1_v (volumegrouplaw05_stack_1_l1 p0 p1_v n) x11 x14

def volumegrouplaw05_stack_1 (p0 : List volumegrouplaw05_span) (p1_v : ArrS) (parts : Int) (i : Int) : Option ((Option Dvc) × Bool) :=
  seqO (volumegrouplaw05_stack_1_l1 p0 p1_v FUEL ([] : List Dvc) 0) fun a10 =>
  Option.bind (block_Concat a10 p1_v) fun r35 =>
  grd (inI64 (i - parts)) <|
  Option.bind (block_Window r35 parts (i - parts) p1_v) fun r39 =>
  if (r39.2 = (0 : Int)) then
    Option.elim r39.1 (
      some (none, false)) fun o44 =>
    some (((some o44), true))
  else
    some (r39.1, false)

theorem L_volumegrouplaw05_stack_1 {W : World} {bp0 : Nat} {Ap0 : HP} {vp0 : Value} {bp1 : Nat} {bp1_v : Nat} {bparts : Nat} {bi : Nat} {p0 : List volumegrouplaw05_span} {p1_v : ArrS} {parts : Int} {i : Int} {r : (Option Dvc) × Bool} (rp0 : Reads Ap0 tyvolumegrouplaw05_span vp0 p0) (h : volumegrouplaw05_stack_1 p0 p1_v parts i = some r) :
    CSpec Try.prog W 77 [ptr bp0 0, ptr bp1 0, ptr bparts 0, ptr bi 0] [blk bp0 135 [vp0], Ap0, blk bp1 23 [ptr bp1_v 0], Arr bp1_v p1_v, blk bparts 3 [.int .i64 parts], blk bi 3 [.int .i64 i]] (fun x : IfH => .tuple #[oif r.1 x, .bool r.2]) (fun _ => True) (fun x F => blk bp0 135 [vp0] :: Ap0 :: blk bp1 23 [ptr bp1_v 0] :: Arr bp1_v p1_v :: blk bparts 3 [.int .i64 parts] :: blk bi 3 [.int .i64 i] :: optP (DevP bp1_v · x) r.1 :: F) := by
  refine CSpec.of_body Try.func77 rfl Try.ntmps77 rfl (fun F => ?_)
  show CJ _ _ _ _ _ _ (_ :: _ :: _ :: _ :: _ :: _ :: F)
  unfold volumegrouplaw05_stack_1 at h
  refine CJ_pure (len_of rp0 del1) (fun hlen1 => ?_)
  refine CJ_seq ?_
  refine CJ_region ?_
  refine RJ_op rfl (OJ_P (P_assign rfl) rfl ?_)
  refine RJ_op rfl (OJ_P (P_assign rfl) rfl ?_)
  refine RJ_nil ?_
  refine QJ_then ?_
  refine CJ_seq ?_
  refine CJ_region ?_
  refine RJ_op rfl (OJ_P (P_assign rfl) rfl ?_)
  refine RJ_nil ?_
  refine QJ_then ?_
  refine CJ_seq ?_
  refine CJ_seq ?_
  refine CJ_region ?_
  refine RJ_op rfl (OJ_P (P_assign rfl) rfl ?_)
  refine RJ_nil ?_
  refine QJ_then ?_
  refine CJ_ent (fun h hh => sl_nil (t := tyDev) h (rs_nil (RP := DevP bp1_v) h hh)) ?_
  obtain ⟨y6, hl4, hK5⟩ := seq_e h
  refine CJ_cutT (X := (List Dvc) × Sl3 × (List IfH)) [4, 5, 6, 7, 8, 9, 13, 14, 15, 16, 17, 18, 19, 20, 21, 22, 23, 24, 25, 26, 27, 28, 29, 30, 31, 32, 33, 34, 35, 36, 37, 38, 39, 40, 41, 42, 43, 44, 45, 46, 47, 48] (fun ⟨a10, hd8, hs9⟩ => ([(6, hd8.v)] : Slots)) (fun ⟨a10, hd8, hs9⟩ R => sl tyDev hd8.v hs9 :: Rs (DevP bp1_v) a10 hs9 :: R) (fun ⟨a10, hd8, hs9⟩ => y6 = .inl a10) (Dels.cons del0 (Dels.cons del0 Dels.nil)) ?_ ?_
  ·
    refine CJ_block ?_
    refine CJ_loopR (X := Nat × (List Dvc) × Nat × Sl3 × (List IfH)) [4, 5, 6, 7, 8, 9, 13, 14, 15, 16, 17, 18, 19, 20, 21, 22, 23, 24, 25, 26, 27, 28, 29, 30, 31, 32, 33, 34, 35, 36, 37, 38, 39, 40, 41, 42, 43, 44, 45, 46, 47, 48] (fun ⟨n, x11, x14, hd12, hs13⟩ => ([(6, hd12.v), (7, .int .i64 (((x14 : Nat) : Int)))] : Slots)) (fun ⟨n, x11, x14, hd12, hs13⟩ R => sl tyDev hd12.v hs13 :: Rs (DevP bp1_v) x11 hs13 :: R) (fun ⟨n, x11, x14, hd12, hs13⟩ => volumegrouplaw05_stack_1_l1 p0 p1_v n x11 x14 = some y6) (fun ⟨n, x11, x14, hd12, hs13⟩ => n) ⟨FUEL, ([] : List Dvc), 0, ⟨none, 0, 0⟩, ([] : List IfH)⟩ ?_ ?_ (Ent.take del0 (Ent.take del0 (Ent.take del0 (Ent.take del0 (Ent.take del0 (Ent.take del0 (Ent.take del0 (Ent.take del0 Ent.refl)))))))) ?_
    · exact hl4
    · exact ⟨rfl, rfl, True.intro⟩
    ·
      rintro ⟨n, x11, x14, hd12, hs13⟩ h
      cases n with
      | zero => exact none_e h
      | succ n => ?_
      replace h : volumegrouplaw05_stack_1_l1_b p0 p1_v (volumegrouplaw05_stack_1_l1 p0 p1_v n) x11 x14 = some y6 := h
      unfold volumegrouplaw05_stack_1_l1_b at h
      show CJ _ _ _ _ _ (([(6, hd12.v), (7, .int .i64 (((x14 : Nat) : Int)))] : Slots) ++ forget _ _) (sl tyDev hd12.v hs13 :: Rs (DevP bp1_v) x11 hs13 :: _)
      refine CJ_pure (len_of (Reads.sl _ _ _) del0) (fun hlen15 => ?_)
      refine CJ_pure (fun h hh => Rs_len (stars_perm (del1 (A := Rs (DevP bp1_v) x11 hs13)).out h hh)) (fun hdl16 => ?_)
      refine CJ_seq ?_
      refine CJ_seq ?_
      refine CJ_region ?_
      refine RJ_op rfl (OJ_P (P_move rfl) rfl ?_)
      refine RJ_op rfl (OJ_V (V_load rfl foc2 rfl Try.isAgg135) rfl ?_)
      refine RJ_op rfl (OJ_V (V_len rfl foc3 rp0 Try.runUnderlying135) rfl ?_)
      refine RJ_op rfl (OJ_P (P_lss (a := ((x14 : Nat) : Int)) (b := ((p0.length : Nat) : Int)) rfl rfl) rfl ?_)
      refine RJ_nil ?_
      refine QJ_then ?_
      refine CJ_condP rfl bT_dec (fun hg1 => ?_) (fun hg1 => ?_)
      ·
        replace h := ite_t hg1 h
        refine CJ_skip ?_
        refine QJ_then ?_
        refine CJ_seq ?_
        refine CJ_block ?_
        refine CJ_seq ?_
        refine AJ_startH 65536 (by kernel_rfl) rfl ?_
        refine AJ_takeV 0 1 rfl (by kernel_rfl) rfl (by kernel_rfl) (by kernel_rfl) (GY_none rfl) (Ent.take del0 (Ent.take del0 (Ent.take del0 (Ent.take del0 (Ent.take del0 (Ent.take del0 (Ent.take del0 (Ent.take del0 Ent.refl)))))))) (V_load rfl foc4 rfl Try.isAgg23) rfl (fun _ _ _ _ h => h) ?_
        refine AJ_takeV 1 3 rfl (by kernel_rfl) rfl (by kernel_rfl) (by kernel_rfl) (GY_none rfl) (Ent.take del0 (Ent.take del0 (Ent.take del0 (Ent.take del0 (Ent.take del0 (Ent.take del0 (Ent.take del0 (Ent.take del0 Ent.refl)))))))) (V_load rfl foc2 rfl Try.isAgg135) rfl (fun _ _ _ _ h => h) ?_
        refine AJ_takeP 2 7 rfl (by kernel_rfl) rfl (GY_none rfl) (P_move rfl) rfl (fun _ _ _ _ h => h) ?_
        refine AJ_takeV 3 15 rfl (by kernel_rfl) rfl (by kernel_rfl) (by kernel_rfl) (GY_none rfl) (Ent.take del0 (Ent.take del0 (Ent.take del0 (Ent.take del0 (Ent.take del0 (Ent.take del0 (Ent.take del0 (Ent.take del0 Ent.refl)))))))) (V_index (i := x14) rfl rfl rfl (by omega) foc3 rp0 Try.runUnderlying135 Try.sizeOf138) rfl (fun _ _ _ _ h => h) ?_
        refine AJ_takeP 4 31 rfl (by kernel_rfl) rfl (GY_none rfl) (P_fieldE rfl ⟨_, _, _, Try.runUnderlying138, rfl, rfl, Try.sizeOf3, rfl⟩) rfl (fun _ _ _ _ h => h) ?_
        refine AJ_takeV 5 63 rfl (by kernel_rfl) rfl (by kernel_rfl) (by kernel_rfl) (GY_none rfl) (Ent.take del0 (Ent.take del0 (Ent.take del0 (Ent.take del0 (Ent.take del0 (Ent.take del0 (Ent.take del0 (Ent.take del0 Ent.refl)))))))) (V_loadE rfl rfl (by omega) foc3 rp0 rfl rfl Try.isAgg3) rfl (fun _ _ _ _ h => h) ?_
        refine AJ_takeV 6 127 rfl (by kernel_rfl) rfl (by kernel_rfl) (by kernel_rfl) (GY_none rfl) (Ent.take del0 (Ent.take del0 (Ent.take del0 (Ent.take del0 (Ent.take del0 (Ent.take del0 (Ent.take del0 (Ent.take del0 Ent.refl)))))))) (V_load rfl foc2 rfl Try.isAgg135) rfl (fun _ _ _ _ h => h) ?_
        refine AJ_takeP 7 255 rfl (by kernel_rfl) rfl (GY_none rfl) (P_move rfl) rfl (fun _ _ _ _ h => h) ?_
        refine AJ_takeV 8 511 rfl (by kernel_rfl) rfl (by kernel_rfl) (by kernel_rfl) (GY_none rfl) (Ent.take del0 (Ent.take del0 (Ent.take del0 (Ent.take del0 (Ent.take del0 (Ent.take del0 (Ent.take del0 (Ent.take del0 Ent.refl)))))))) (V_index (i := x14) rfl rfl rfl (by omega) foc3 rp0 Try.runUnderlying135 Try.sizeOf138) rfl (fun _ _ _ _ h => h) ?_
        refine AJ_takeP 9 1023 rfl (by kernel_rfl) rfl (GY_none rfl) (P_fieldE rfl ⟨_, _, _, Try.runUnderlying138, rfl, rfl, Try.sizeOf3, rfl⟩) rfl (fun _ _ _ _ h => h) ?_
        refine AJ_takeV 10 2047 rfl (by kernel_rfl) rfl (by kernel_rfl) (by kernel_rfl) (GY_none rfl) (Ent.take del0 (Ent.take del0 (Ent.take del0 (Ent.take del0 (Ent.take del0 (Ent.take del0 (Ent.take del0 (Ent.take del0 Ent.refl)))))))) (V_loadE rfl rfl (by omega) foc3 rp0 rfl rfl Try.isAgg3) rfl (fun _ _ _ _ h => h) ?_
        refine AJ_takeV 11 4095 rfl (by kernel_rfl) rfl (by kernel_rfl) (by kernel_rfl) (GY_none rfl) (Ent.take del0 (Ent.take del0 (Ent.take del0 (Ent.take del0 (Ent.take del0 (Ent.take del0 (Ent.take del0 (Ent.take del0 Ent.refl)))))))) (V_load rfl foc2 rfl Try.isAgg135) rfl (fun _ _ _ _ h => h) ?_
        refine AJ_takeP 12 8191 rfl (by kernel_rfl) rfl (GY_none rfl) (P_move rfl) rfl (fun _ _ _ _ h => h) ?_
        refine AJ_takeV 13 16383 rfl (by kernel_rfl) rfl (by kernel_rfl) (by kernel_rfl) (GY_none rfl) (Ent.take del0 (Ent.take del0 (Ent.take del0 (Ent.take del0 (Ent.take del0 (Ent.take del0 (Ent.take del0 (Ent.take del0 Ent.refl)))))))) (V_index (i := x14) rfl rfl rfl (by omega) foc3 rp0 Try.runUnderlying135 Try.sizeOf138) rfl (fun _ _ _ _ h => h) ?_
        refine AJ_takeP 14 32767 rfl (by kernel_rfl) rfl (GY_none rfl) (P_fieldE rfl ⟨_, _, _, Try.runUnderlying138, rfl, rfl, Try.sizeOf3, rfl⟩) rfl (fun _ _ _ _ h => h) ?_
        refine AJ_takeV 15 65535 rfl (by kernel_rfl) rfl (by kernel_rfl) (by kernel_rfl) (GY_none rfl) (Ent.take del0 (Ent.take del0 (Ent.take del0 (Ent.take del0 (Ent.take del0 (Ent.take del0 (Ent.take del0 (Ent.take del0 Ent.refl)))))))) (V_loadE rfl rfl (by omega) foc3 rp0 rfl rfl Try.isAgg3) rfl (fun _ _ _ _ h => h) ?_
        obtain ⟨r17, hr18, h⟩ := bind_e h
        refine AJ_op 16 131071 rfl (by kernel_rfl) rfl (GY_none rfl) (O_call (L_block_Span hr18) rfl Try.call25 (Dels.cons del5 Dels.nil) rfl (fun X19 _ => ?_))
        refine ⟨fun h => absurd h (by decide), ?_⟩
        refine AJ_takeP 17 262143 rfl (by kernel_rfl) rfl (GY_none rfl) (P_move rfl) rfl (fun _ _ _ _ h => h) ?_
        refine AJ_takeP 18 524287 rfl (by kernel_rfl) rfl (GY_none rfl) (P_extract rfl rfl) rfl (fun _ _ _ _ h => h) ?_
        refine AJ_takeP 19 1048575 rfl (by kernel_rfl) rfl (GY_none rfl) (P_extract rfl rfl) rfl (fun _ _ _ _ h => h) ?_
        refine AJ_takeP 20 2097151 rfl (by kernel_rfl) rfl (GY_none rfl) (P_assign rfl) rfl (fun _ _ _ _ h => h) ?_
        refine AJ_takeP 21 4194303 rfl (by kernel_rfl) rfl (GY_none rfl) (P_assign rfl) rfl (fun _ _ _ _ h => h) ?_
        refine AJ_done (by kernel_rfl) ?_
        refine QJ_then ?_
        refine CJ_seq ?_
        refine CJ_seq ?_
        refine CJ_region ?_
        refine RJ_op rfl (OJ_P (P_move rfl) rfl ?_)
        refine RJ_op rfl (OJ_P (P_neq (a := r17.2) (b := (0 : Int)) rfl rfl) rfl ?_)
        refine RJ_op rfl (OJ_P (P_move rfl) rfl ?_)
        refine RJ_mbF rfl rfl rfl (fun hG21 => have hP22 : ¬ (r17.2 ≠ (0 : Int)) := nP (bT_dec) hG21; VJ_P (P_move rfl)) ?_
        refine RJ_splitP 41 rfl bT_dec (fun hg2B hg2 => ?_) (fun hg2B hg2 => ?_)
        ·
          replace h := ite_t hg2 h
          refine RJ_gn (GY_no rfl rfl rfl hg2B) rfl rfl ?_
          refine RJ_op rfl (OJ_P (P_pickT rfl hg2B rfl) rfl ?_)
          refine RJ_nil ?_
          refine QJ_then ?_
          refine CJ_condT rfl rfl ?_
          refine CJ_seq ?_
          refine CJ_region ?_
          refine RJ_op rfl (OJ_P (P_assign rfl) rfl ?_)
          refine RJ_op rfl (OJ_P (P_assign rfl) rfl ?_)
          refine RJ_nil ?_
          refine QJ_ent (Ent.take del0 (Ent.take del1 (Ent.take del1 (Ent.take del1 (Ent.take del1 (Ent.take del1 (Ent.take del1 (Ent.take del1 (Ent.drop Ent.refl))))))))) ?_
          refine QJ_then ?_
          refine CJ_ret ?_
          refine QJ_then_ret ?_
          refine QJ_block_ret ?_
          refine QJ_then_ret ?_
          refine QJ_round_ret ?_
          refine QJ_block_ret ?_
          refine QJ_then_ret ?_
          have hE := Option.some.inj h
          replace hE := seq_inr hK5 hE.symm
          subst hE
          refine QJ_end (res2 Try.results77 rfl rfl) ?_
          refine CSpec.close ⟨0, .bool false⟩ ?_ ?_ (Ent.take del3 (Ent.take del3 (Ent.take del3 (Ent.take del0 (Ent.take del2 (Ent.take del2 (Ent.trans (fun h hh => optP_none h hh) <| Ent.take del0 (Ent.drop (Ent.drop Ent.refl)))))))))
          · rfl
          · trivial
        ·
          replace h := ite_f hg2 h
          rcases opt_e h with ⟨ht25, h⟩ | ⟨o26, ht25, h⟩
          ·
            rw [ht25]
            refine RJ_ent (Ent.take del0 (Ent.take del1 (Ent.take del1 (Ent.take del1 (Ent.take del1 (Ent.take del1 (Ent.take del1 (Ent.take del1 (Ent.drop Ent.refl))))))))) ?_
            refine RJ_gy (GY_yes rfl rfl rfl hg2B) (OJ_P (P_eqlIN (mbx (not_f hg2B) rfl) Try.underlying31) rfl ?_)
            refine RJ_op rfl (OJ_P (P_pickF rfl hg2B rfl) rfl ?_)
            refine RJ_nil ?_
            refine QJ_then ?_
            refine CJ_condT rfl rfl ?_
            refine CJ_seq ?_
            refine CJ_region ?_
            refine RJ_op rfl (OJ_P (P_assign rfl) rfl ?_)
            refine RJ_op rfl (OJ_P (P_assign rfl) rfl ?_)
            refine RJ_nil ?_
            refine QJ_then ?_
            refine CJ_ret ?_
            refine QJ_then_ret ?_
            refine QJ_block_ret ?_
            refine QJ_then_ret ?_
            refine QJ_round_ret ?_
            refine QJ_block_ret ?_
            refine QJ_then_ret ?_
            have hE := Option.some.inj h
            replace hE := seq_inr hK5 hE.symm
            subst hE
            refine QJ_end (res2 Try.results77 rfl rfl) ?_
            refine CSpec.close ⟨0, .bool false⟩ ?_ ?_ (Ent.take del3 (Ent.take del3 (Ent.take del3 (Ent.take del0 (Ent.take del2 (Ent.take del2 (Ent.trans (fun h hh => optP_none h hh) <| Ent.take del0 (Ent.drop (Ent.drop Ent.refl)))))))))
            · rfl
            · trivial
          ·
            rw [ht25]
            refine RJ_ent (Ent.takeC (A' := DevP bp1_v o26 X19) del1 rfl Ent.refl) ?_
            refine RJ_gy (GY_yes rfl rfl rfl hg2B) (OJ_P (P_eqlIfN (mbx (not_f hg2B) rfl) rfl Try.underlying31) rfl ?_)
            refine RJ_op rfl (OJ_P (P_pickF rfl hg2B rfl) rfl ?_)
            refine RJ_nil ?_
            refine QJ_then ?_
            refine CJ_condF rfl rfl ?_
            refine CJ_skip ?_
            refine QJ_then ?_
            refine CJ_region ?_
            refine RJ_op rfl (OJ_P (P_move rfl) rfl ?_)
            refine RJ_op rfl (OJ_P (P_move rfl) rfl ?_)
            refine RJ_op rfl (O_buildSlice rfl (bs_28_1_0 _ _) rfl (fun b27 => ?_))
            obtain ⟨hg3, h⟩ := grd_Le h
            refine RJ_op rfl (O_append (t := tyDev) (bytes := 16) rfl rfl del3 foc0 (Reads.lit (t := tyDev) (ys := [X19]) rfl rfl (by decide) (by decide) rfl) Try.underlying28 ok_tyDev (apl (m := 1) (b := 16) (by have hz : _ ≤ 1000000000 := hg3; have := hdl16; omega) (by decide)).1 (apl (m := 1) (b := 16) (by have hz : _ ≤ 1000000000 := hg3; have := hdl16; omega) (by decide)).2 rfl (fun p29 c30 => ?_))
            refine RJ_ent (Ent.trans (Ent.take del4 (Ent.take del2 Ent.refl)) (Rs_push (x := o26) (g := X19) (fun _ _ => Dup_DevP))) ?_
            refine RJ_pure (fun h hh => Rs_len (stars_perm (del0 (A := Rs (DevP bp1_v) (x11 ++ [o26]) (hs13 ++ [X19]))).out h hh)) (fun hdl31 => ?_)
            refine RJ_op rfl (OJ_P (P_assign rfl) rfl ?_)
            refine RJ_nil ?_
            refine QJ_block_normal ?_
            refine QJ_ent (Ent.take del0 (Ent.take del1 (Ent.take del2 (Ent.take del2 (Ent.take del2 (Ent.take del2 (Ent.take del2 (Ent.take del2 (Ent.drop (Ent.drop Ent.refl)))))))))) ?_
            refine QJ_then ?_
            refine CJ_region ?_
            refine RJ_op rfl (OJ_P (P_move rfl) rfl ?_)
            refine RJ_op rfl (OJ_P (PJ_eq (P_add (a := ((x14 : Nat) : Int)) (b := (1 : Int)) rfl rfl (by omega)) rfl) rfl ?_)
            refine RJ_op rfl (OJ_P (P_assign rfl) rfl ?_)
            refine RJ_nil ?_
            refine QJ_nextR ⟨n, (x11 ++ [o26]), (x14 + 1), ⟨p29, (hs13 ++ [X19]).length, c30⟩, (hs13 ++ [X19])⟩ (Nat.lt_succ_self _) ?_ (by repeat (first | exact Kp.base | exact Kp.self | refine Kp.cons rfl ?_ | refine Kp.forget rfl ?_)) ?_ (Ent.take del1 (Ent.take del0 (Ent.take del1 (Ent.take del1 (Ent.take del1 (Ent.take del0 (Ent.take del0 (Ent.take del0 Ent.refl))))))))
            · exact h
            · exact ⟨rfl, rfl, True.intro⟩
      ·
        replace h := ite_f hg1 h
        refine CJ_exit ?_
        refine QJ_then_exit ?_
        refine QJ_round_exit ?_
        refine QJ_block_here ?_
        refine QJ_cutR ⟨x11, hd12, hs13⟩ ?_ (by repeat (first | exact Kp.base | exact Kp.self | refine Kp.cons rfl ?_ | refine Kp.forget rfl ?_)) ?_ (Ent.take del0 (Ent.take del0 (Ent.take del0 (Ent.take del0 (Ent.take del0 (Ent.take del0 (Ent.take del0 (Ent.take del0 Ent.refl))))))))
        · exact (Option.some.inj h).symm
        · exact ⟨rfl, True.intro⟩
  ·
    rintro ⟨a10, hd8, hs9⟩ hy32
    replace h := seq_inl hK5 hy32
    show CJ _ _ _ _ _ (([(6, hd8.v)] : Slots) ++ forget _ _) (sl tyDev hd8.v hs9 :: Rs (DevP bp1_v) a10 hs9 :: _)
    refine CJ_pure (len_of (Reads.sl _ _ _) del0) (fun hlen33 => ?_)
    refine CJ_pure (fun h hh => Rs_len (stars_perm (del1 (A := Rs (DevP bp1_v) a10 hs9)).out h hh)) (fun hdl34 => ?_)
    refine CJ_seq ?_
    refine CJ_region ?_
    refine RJ_op rfl (OJ_P (P_move rfl) rfl ?_)
    obtain ⟨r35, hr36, h⟩ := bind_e h
    refine RJ_op rfl (O_call (L_block_Concat (Reads.sl _ _ _) hr36) rfl Try.call33 (Dels.cons del0 (Dels.cons del0 (Dels.cons del3 Dels.nil))) rfl (fun X37 _ => ?_))
    refine RJ_op rfl (OJ_P (P_assign rfl) rfl ?_)
    refine RJ_nil ?_
    refine QJ_ent (Ent.take del2 (Ent.take del2 (Ent.take del2 (Ent.take del2 (Ent.take del2 (Ent.take del2 (Ent.take del2 (Ent.drop (Ent.drop Ent.refl))))))))) ?_
    refine QJ_then ?_
    refine CJ_seq ?_
    refine CJ_seq ?_
    refine CJ_region ?_
    refine RJ_op rfl (OJ_P (P_move rfl) rfl ?_)
    refine RJ_op rfl (OJ_P (P_eqlIfN rfl rfl Try.underlying31) rfl ?_)
    refine RJ_nil ?_
    refine QJ_then ?_
    refine CJ_condF rfl rfl ?_
    refine CJ_skip ?_
    refine QJ_then ?_
    refine CJ_seq ?_
    refine CJ_region ?_
    refine RJ_op rfl (OJ_P (P_move rfl) rfl ?_)
    refine RJ_op rfl (OJ_V (V_load rfl foc5 rfl Try.isAgg3) rfl ?_)
    refine RJ_op rfl (OJ_V (V_load rfl foc6 rfl Try.isAgg3) rfl ?_)
    refine RJ_op rfl (OJ_V (V_load rfl foc5 rfl Try.isAgg3) rfl ?_)
    obtain ⟨hg4, h⟩ := grd_Ie h
    refine RJ_op rfl (OJ_P (P_sub (a := i) (b := parts) rfl rfl hg4) rfl ?_)
    obtain ⟨r39, hr40, h⟩ := bind_e h
    refine RJ_op rfl (O_call (L_block_Window hr40) rfl Try.call18 (Dels.cons del1 (Dels.cons del0 Dels.nil)) rfl (fun X41 _ => ?_))
    refine RJ_op rfl (OJ_P (P_move rfl) rfl ?_)
    refine RJ_op rfl (OJ_P (P_extract rfl rfl) rfl ?_)
    refine RJ_op rfl (OJ_P (P_extract rfl rfl) rfl ?_)
    refine RJ_op rfl (OJ_P (P_assign rfl) rfl ?_)
    refine RJ_op rfl (OJ_P (P_assign rfl) rfl ?_)
    refine RJ_nil ?_
    refine QJ_ent (Ent.take del1 (Ent.take del1 (Ent.take del1 (Ent.take del1 (Ent.take del1 (Ent.take del1 (Ent.take del1 (Ent.drop Ent.refl)))))))) ?_
    refine QJ_then ?_
    refine CJ_seq ?_
    refine AJ_startH 0 (by kernel_rfl) rfl ?_
    refine AJ_takeP 0 1 rfl (by kernel_rfl) rfl (GY_none rfl) (P_move rfl) rfl (fun _ _ _ _ h => h) ?_
    refine AJ_takeP 1 3 rfl (by kernel_rfl) rfl (GY_none rfl) (P_move rfl) rfl (fun _ _ _ _ h => h) ?_
    refine AJ_takeP 2 7 rfl (by kernel_rfl) rfl (GY_none rfl) (P_eql (a := r39.2) (b := (0 : Int)) rfl rfl) rfl (fun _ _ _ _ h => h) ?_
    refine AJ_takeP 3 15 rfl (by kernel_rfl) rfl (GY_none rfl) (P_move rfl) rfl (fun _ _ _ _ h => h) ?_
    refine AJ_splitP 65 rfl bT_dec (fun hg5B hg5 => ?_) (fun hg5B hg5 => ?_)
    ·
      replace h := ite_t hg5 h
      refine AJ_takeP 4 31 rfl (by kernel_rfl) rfl (GY_yes rfl rfl rfl hg5B) (P_move rfl) rfl (fun _ _ _ _ h => h) ?_
      rcases opt_e h with ⟨ht43, h⟩ | ⟨o44, ht43, h⟩
      ·
        rw [ht43]
        refine AJ_takeP 5 63 rfl (by kernel_rfl) rfl (GY_yes rfl rfl rfl hg5B) (P_neqIN rfl Try.underlying31) rfl (fun _ _ _ _ h => h) ?_
        refine AJ_takeP 6 127 rfl (by kernel_rfl) rfl (GY_none rfl) (P_pickT rfl hg5B rfl) rfl (fun _ _ _ _ h => h) ?_
        refine AJ_takeP 7 255 rfl (by kernel_rfl) rfl (GY_none rfl) (P_assign rfl) rfl (fun _ _ _ _ h => h) ?_
        refine AJ_takeP 8 511 rfl (by kernel_rfl) rfl (GY_none rfl) (P_assign rfl) rfl (fun _ _ _ _ h => h) ?_
        refine AJ_done (by kernel_rfl) ?_
        refine QJ_ent (Ent.take del0 (Ent.take del1 (Ent.take del1 (Ent.take del1 (Ent.take del1 (Ent.take del1 (Ent.drop Ent.refl))))))) ?_
        refine QJ_then ?_
        refine CJ_ret ?_
        have hE := Option.some.inj h
        subst hE
        refine QJ_end (res2 Try.results77 rfl rfl) ?_
        refine CSpec.close ⟨0, .bool false⟩ ?_ ?_ (Ent.take del1 (Ent.take del1 (Ent.take del1 (Ent.take del0 (Ent.take del0 (Ent.take del0 (Ent.trans (fun h hh => optP_none h hh) <| Ent.take del0 Ent.refl)))))))
        · rfl
        · trivial
      ·
        rw [ht43]
        refine AJ_ent (Ent.takeC (A' := DevP bp1_v o44 X41) del1 rfl Ent.refl) ?_
        refine AJ_takeP 5 63 rfl (by kernel_rfl) rfl (GY_yes rfl rfl rfl hg5B) (P_neqIfN rfl rfl Try.underlying31) rfl (fun _ _ _ _ h => h) ?_
        refine AJ_takeP 6 127 rfl (by kernel_rfl) rfl (GY_none rfl) (P_pickT rfl hg5B rfl) rfl (fun _ _ _ _ h => h) ?_
        refine AJ_takeP 7 255 rfl (by kernel_rfl) rfl (GY_none rfl) (P_assign rfl) rfl (fun _ _ _ _ h => h) ?_
        refine AJ_takeP 8 511 rfl (by kernel_rfl) rfl (GY_none rfl) (P_assign rfl) rfl (fun _ _ _ _ h => h) ?_
        refine AJ_done (by kernel_rfl) ?_
        refine QJ_then ?_
        refine CJ_ret ?_
        have hE := Option.some.inj h
        subst hE
        refine QJ_end (res2 Try.results77 rfl rfl) ?_
        refine CSpec.close X41 ?_ ?_ (Ent.take del2 (Ent.take del2 (Ent.take del2 (Ent.take del1 (Ent.take del1 (Ent.take del1 (Ent.take del0 Ent.refl)))))))
        · rfl
        · trivial
    ·
      replace h := ite_f hg5 h
      refine AJ_skip 4 31 rfl (by kernel_rfl) rfl (GY_no rfl rfl rfl hg5B) rfl (fun _ _ _ _ h => h) ?_
      refine AJ_skip 5 63 rfl (by kernel_rfl) rfl (GY_no rfl rfl rfl hg5B) rfl (fun _ _ _ _ h => h) ?_
      refine AJ_takeP 6 127 rfl (by kernel_rfl) rfl (GY_none rfl) (P_pickF rfl hg5B rfl) rfl (fun _ _ _ _ h => h) ?_
      refine AJ_takeP 7 255 rfl (by kernel_rfl) rfl (GY_none rfl) (P_assign rfl) rfl (fun _ _ _ _ h => h) ?_
      refine AJ_takeP 8 511 rfl (by kernel_rfl) rfl (GY_none rfl) (P_assign rfl) rfl (fun _ _ _ _ h => h) ?_
      refine AJ_done (by kernel_rfl) ?_
      refine QJ_then ?_
      refine CJ_ret ?_
      have hE := Option.some.inj h
      subst hE
      refine QJ_end (res2 Try.results77 rfl rfl) ?_
      refine CSpec.close X41 ?_ ?_ (Ent.take del2 (Ent.take del2 (Ent.take del2 (Ent.take del0 (Ent.take del1 (Ent.take del1 (Ent.take del0 Ent.refl)))))))
      · rfl
      · trivial

def volumegroupmake_Track_Again__volumegrouplaw05_stack_1 (t : List Sec) (a : ArrS) (open_2_c0 : List volumegrouplaw05_span) (open_2_c2 : Int) (open_2_c3 : Int) (keep : UInt64) : Option ((Option Dvc) × Bool × (List Sec) × ArrS) :=
  Option.bind (volumegroupmake_Keep keep) fun r2 =>
  grd (inLen a.writes) <|
  Option.bind (volumegrouplaw05_stack_1 open_2_c0 (rsS a r2) open_2_c2 open_2_c3) fun r6 =>
  if (¬ r6.2 = true) then
    if true = true then
      some ((none, false, (failedT t), (rsS a r2)))
    else
      Option.elim r6.1 (
        none) fun o13 =>
      Option.bind (Dvc.size o13 (rsS a r2)) fun r15 =>
      if (r15 ≠ (((failedT t).length : Nat) : Int)) then
        some ((none, false, (failedT t), (rsS a r2)))
      else
        Option.bind (volumegroupmake_Track_All (failedT t) o13 true (rsS a r2)) fun r17 =>
        some (((some o13), r17.1, r17.2, (rsS a r2)))
  else
    Option.elim r6.1 (
      if true = true then
        some ((none, false, (failedT t), (rsS a r2)))
      else
        none) fun o20 =>
    if false = true then
      some ((none, false, (failedT t), (rsS a r2)))
    else
      Option.bind (Dvc.size o20 (rsS a r2)) fun r22 =>
      if (r22 ≠ (((failedT t).length : Nat) : Int)) then
        some ((none, false, (failedT t), (rsS a r2)))
      else
        Option.bind (volumegroupmake_Track_All (failedT t) o20 true (rsS a r2)) fun r24 =>
        some (((some o20), r24.1, r24.2, (rsS a r2)))

theorem L_volumegroupmake_Track_Again__volumegrouplaw05_stack_1 {W : World} {bt : Nat} {ba : Nat} {bopen_2_c0 : Nat} {Aopen_2_c0 : HP} {vopen_2_c0 : Value} {bopen_2_c1 : Nat} {bopen_2_c2 : Nat} {bopen_2_c3 : Nat} {t : List Sec} {a : ArrS} {open_2_c0 : List volumegrouplaw05_span} {open_2_c2 : Int} {open_2_c3 : Int} {keep : UInt64} {r : (Option Dvc) × Bool × (List Sec) × ArrS} (ropen_2_c0 : Reads Aopen_2_c0 tyvolumegrouplaw05_span vopen_2_c0 open_2_c0) (h : volumegroupmake_Track_Again__volumegrouplaw05_stack_1 t a open_2_c0 open_2_c2 open_2_c3 keep = some r) :
    CSpec Try.prog W 82 [ptr bt 0, ptr ba 0, .func (.func 77) #[] #[ptr bopen_2_c0 0, ptr bopen_2_c1 0, ptr bopen_2_c2 0, ptr bopen_2_c3 0], .int .u64 (keep.toNat : Int)] [Trk bt t, Arr ba a, blk bopen_2_c0 135 [vopen_2_c0], Aopen_2_c0, blk bopen_2_c1 23 [ptr ba 0], blk bopen_2_c2 3 [.int .i64 open_2_c2], blk bopen_2_c3 3 [.int .i64 open_2_c3]] (fun x : IfH => .tuple #[oif r.1 x, .bool r.2.1]) (fun _ => True) (fun x F => Trk bt r.2.2.1 :: Arr ba r.2.2.2 :: blk bopen_2_c0 135 [vopen_2_c0] :: Aopen_2_c0 :: blk bopen_2_c1 23 [ptr ba 0] :: blk bopen_2_c2 3 [.int .i64 open_2_c2] :: blk bopen_2_c3 3 [.int .i64 open_2_c3] :: optP (DevP ba · x) r.1 :: F) := by
  refine CSpec.of_body Try.func82 rfl Try.ntmps82 rfl (fun F => ?_)
  show CJ _ _ _ _ _ _ (_ :: _ :: _ :: _ :: _ :: _ :: _ :: F)
  unfold volumegroupmake_Track_Again__volumegrouplaw05_stack_1 at h
  refine CJ_pure (len_of ropen_2_c0 del3) (fun hlen1 => ?_)
  refine CJ_seq ?_
  refine CJ_region ?_
  refine RJ_op rfl (OJ_P (P_assign rfl) rfl ?_)
  refine RJ_op rfl (OJ_P (P_assign rfl) rfl ?_)
  refine RJ_nil ?_
  refine QJ_then ?_
  refine CJ_seq ?_
  refine CJ_region ?_
  refine RJ_op rfl (OJ_P (P_move rfl) rfl ?_)
  refine RJ_op rfl (O_call (c_Failed) rfl Try.call97 (Dels.cons del0 Dels.nil) rfl (fun _ _ => ?_))
  refine RJ_nil ?_
  refine QJ_then ?_
  refine CJ_seq ?_
  refine CJ_region ?_
  refine RJ_op rfl (OJ_P (P_move rfl) rfl ?_)
  refine RJ_op rfl (OJ_P (P_move rfl) rfl ?_)
  obtain ⟨r2, hr3, h⟩ := bind_e h
  refine RJ_op rfl (O_call (L_volumegroupmake_Keep hr3) rfl Try.call58 Dels.nil rfl (fun X4 _ => ?_))
  obtain ⟨hg1, h⟩ := grd_Le h
  refine RJ_op rfl (O_call (c_Restart (Reads.sl _ _ _) hg1) rfl Try.call35 (Dels.cons del2 (Dels.cons del0 Dels.nil)) rfl (fun _ _ => ?_))
  refine RJ_nil ?_
  refine QJ_ent (Ent.take del0 (Ent.take del1 (Ent.take del1 (Ent.take del1 (Ent.take del1 (Ent.take del1 (Ent.take del1 (Ent.drop Ent.refl)))))))) ?_
  refine QJ_then ?_
  refine CJ_seq ?_
  refine CJ_region ?_
  refine RJ_op rfl (OJ_P (P_move rfl) rfl ?_)
  obtain ⟨r6, hr7, h⟩ := bind_e h
  refine RJ_op rfl (O_callV rfl rfl (L_volumegrouplaw05_stack_1 ropen_2_c0 hr7) Try.call77 (Dels.cons del2 (Dels.cons del2 (Dels.cons del2 (Dels.cons del0 (Dels.cons del1 (Dels.cons del1 Dels.nil)))))) rfl (fun X8 _ => ?_))
  refine RJ_op rfl (OJ_P (P_move rfl) rfl ?_)
  refine RJ_op rfl (OJ_P (P_extract rfl rfl) rfl ?_)
  refine RJ_op rfl (OJ_P (P_extract rfl rfl) rfl ?_)
  refine RJ_op rfl (OJ_P (P_assign rfl) rfl ?_)
  refine RJ_op rfl (OJ_P (P_assign rfl) rfl ?_)
  refine RJ_nil ?_
  refine QJ_then ?_
  refine CJ_seq ?_
  refine CJ_seq ?_
  refine CJ_entX (Ent.transX (Ent.take del7 Ent.refl) Trk_open) (fun tc10 => ?_)
  refine CJ_pur (fun hS11 => ?_)
  refine AJ_start [blk bt 172 [(Sl3.v tc10.1)], sl tySec (Sl3.v tc10.1) (SL.hs tc10.2), Own ownS tc10.2, blk bopen_2_c0 135 [vopen_2_c0], Aopen_2_c0, blk bopen_2_c1 23 [ptr ba 0], Arr ba (rsS a r2), blk bopen_2_c2 3 [.int .i64 open_2_c2], blk bopen_2_c3 3 [.int .i64 open_2_c3]] 0 (by kernel_rfl) rfl ?_
  refine AJ_takeP 0 1 rfl (by kernel_rfl) rfl (GY_none rfl) (P_move rfl) rfl (fun _ _ _ _ h => h) ?_
  refine AJ_takeP 1 3 rfl (by kernel_rfl) rfl (GY_none rfl) (P_not rfl) rfl (fun _ _ _ _ h => h) ?_
  refine AJ_takeP 2 7 rfl (by kernel_rfl) rfl (GY_none rfl) (P_move rfl) rfl (fun _ _ _ _ h => h) ?_
  refine AJ_splitP 25 rfl (bT_not Iff.rfl) (fun hg2B hg2 => ?_) (fun hg2B hg2 => ?_)
  ·
    replace h := ite_t hg2 h
    refine AJ_skip 3 15 rfl (by kernel_rfl) rfl (GY_no rfl rfl rfl hg2B) rfl (fun _ _ _ _ h => h) ?_
    refine AJ_skip 4 31 rfl (by kernel_rfl) rfl (GY_no rfl rfl rfl hg2B) rfl (fun _ _ _ _ h => h) ?_
    refine AJ_takeP 5 63 rfl (by kernel_rfl) rfl (GY_none rfl) (P_pickT rfl hg2B rfl) rfl (fun _ _ _ _ h => h) ?_
    refine AJ_takeP 6 127 rfl (by kernel_rfl) rfl (GY_none rfl) (P_move rfl) rfl (fun _ _ _ _ h => h) ?_
    refine AJ_splitP 29 rfl Iff.rfl (fun hg3B hg3 => ?_) (fun hg3B hg3 => ?_)
    ·
      replace h := ite_t hg3 h
      refine AJ_skip 7 255 rfl (by kernel_rfl) rfl (GY_no rfl rfl rfl hg3B) rfl (fun _ _ _ _ h => h) ?_
      refine AJ_skip 9 767 rfl (by kernel_rfl) rfl (GY_no rfl rfl rfl hg3B) rfl (fun _ _ _ _ h => h) ?_
      refine AJ_skip 10 1791 rfl (by kernel_rfl) rfl (GY_no rfl rfl rfl hg3B) rfl (fun _ _ _ _ h => h) ?_
      refine AJ_skip 11 3839 rfl (by kernel_rfl) rfl (GY_no rfl rfl rfl hg3B) rfl (fun _ _ _ _ h => h) ?_
      refine AJ_skip 12 7935 rfl (by kernel_rfl) rfl (GY_no rfl rfl rfl hg3B) rfl (fun _ _ _ _ h => h) ?_
      refine AJ_skip 13 16127 rfl (by kernel_rfl) rfl (GY_no rfl rfl rfl hg3B) rfl (fun _ _ _ _ h => h) ?_
      refine AJ_skip 8 16383 rfl (by kernel_rfl) rfl (GY_no rfl rfl rfl hg3B) rfl (fun _ _ _ _ h => h) ?_
      refine AJ_skip 14 32767 rfl (by kernel_rfl) rfl (GY_no rfl rfl rfl hg3B) rfl (fun _ _ _ _ h => h) ?_
      refine AJ_takeP 15 65535 rfl (by kernel_rfl) rfl (GY_none rfl) (P_pickT rfl hg3B rfl) rfl (fun _ _ _ _ h => h) ?_
      refine AJ_done (by kernel_rfl) ?_
      refine QJ_ent (Ent.trans (Ent.take del0 (Ent.take del0 (Ent.take del0 Ent.refl))) (Trk_close hS11)) ?_
      refine QJ_then ?_
      refine CJ_condT rfl rfl ?_
      refine CJ_seq ?_
      refine CJ_region ?_
      refine RJ_op rfl (OJ_P (P_assign rfl) rfl ?_)
      refine RJ_op rfl (OJ_P (P_assign rfl) rfl ?_)
      refine RJ_nil ?_
      refine QJ_ent (Ent.take del0 (Ent.take del0 (Ent.take del0 (Ent.take del0 (Ent.take del0 (Ent.take del0 (Ent.take del0 (Ent.drop Ent.refl)))))))) ?_
      refine QJ_then ?_
      refine CJ_ret ?_
      refine QJ_then_ret ?_
      have hE := Option.some.inj h
      subst hE
      refine QJ_end (res2 Try.results82 rfl rfl) ?_
      refine CSpec.close ⟨0, .bool false⟩ ?_ ?_ (Ent.take del0 (Ent.take del3 (Ent.take del0 (Ent.take del0 (Ent.take del0 (Ent.take del0 (Ent.take del0 (Ent.trans (fun h hh => optP_none h hh) <| Ent.take del0 Ent.refl))))))))
      · rfl
      · trivial
    ·
      replace h := ite_f hg3 h
      refine AJ_takeP 7 255 rfl (by kernel_rfl) rfl (GY_yes rfl rfl rfl hg3B) (P_move rfl) rfl (fun _ _ _ _ h => h) ?_
      refine AJ_takeP 9 767 rfl (by kernel_rfl) rfl (GY_yes rfl rfl rfl hg3B) (P_move rfl) rfl (fun _ _ _ _ h => h) ?_
      refine AJ_takeP 10 1791 rfl (by kernel_rfl) rfl (GY_yes rfl rfl rfl hg3B) (P_nilCheck rfl) rfl (fun _ _ _ _ h => h) ?_
      refine AJ_takeP 11 3839 rfl (by kernel_rfl) rfl (GY_yes rfl rfl rfl hg3B) (P_fieldAddr rfl ⟨_, _, _, Try.runUnderlying172, rfl, rfl, Try.sizeOf170, rfl⟩) rfl (fun _ _ _ _ h => h) ?_
      refine AJ_takeV 12 7935 rfl (by kernel_rfl) rfl (by kernel_rfl) (by kernel_rfl) (GY_yes rfl rfl rfl hg3B) (Ent.take del0 (Ent.take del0 (Ent.take del0 (Ent.take del0 (Ent.take del0 (Ent.take del0 (Ent.take del0 (Ent.take del0 (Ent.take del0 Ent.done))))))))) (V_load rfl foc0 rfl Try.isAgg170) rfl (fun _ _ _ _ h => h) ?_
      refine AJ_takeV 13 16127 rfl (by kernel_rfl) rfl (by kernel_rfl) (by kernel_rfl) (GY_yes rfl rfl rfl hg3B) (Ent.take del0 (Ent.take del0 (Ent.take del0 (Ent.take del0 (Ent.take del0 (Ent.take del0 (Ent.take del0 (Ent.take del0 (Ent.take del0 Ent.done))))))))) (VJ_eq (V_len rfl foc1 (Reads.sl _ _ _) Try.runUnderlying170) (congrArg (fun z : Nat => Value.int .i64 (z : Int)) hS11.len.symm)) rfl (fun _ _ _ _ h => h) ?_
      rcases opt_e h with ⟨ht12, h⟩ | ⟨o13, ht12, h⟩
      ·
        rw [ht12]
        exact none_e h
      ·
        rw [ht12]
        refine AJ_ent (Ent.takeC (A' := DevP ba o13 X8) del9 rfl Ent.refl) ?_
        refine AJ_pure (fun h hh => DevP_dep h (stars_perm (del0 (A := DevP ba o13 X8)).out h hh)) (fun hdp14 => ?_)
        obtain ⟨r15, hr16, h⟩ := bind_e h
        refine AJ_op 8 16383 rfl (by kernel_rfl) rfl (GY_yes rfl rfl rfl hg3B) (O_callI rfl (dev_Size hr16 hdp14) rfl (Dels.cons del0 (Dels.cons del6 Dels.nil)) rfl (fun _ _ => ?_))
        refine ⟨fun _ => (Ent.take del2 (Ent.take del2 (Ent.take del2 (Ent.take del2 (Ent.take del2 (Ent.take del2 (Ent.take del1 (Ent.take del1 (Ent.take del1 Ent.done))))))))), ?_⟩
        refine AJ_takeP 14 32767 rfl (by kernel_rfl) rfl (GY_yes rfl rfl rfl hg3B) (P_neq (a := r15) (b := (((failedT t).length : Nat) : Int)) rfl rfl) rfl (fun _ _ _ _ h => h) ?_
        refine AJ_takeP 15 65535 rfl (by kernel_rfl) rfl (GY_none rfl) (P_pickF rfl hg3B rfl) rfl (fun _ _ _ _ h => h) ?_
        refine AJ_done (by kernel_rfl) ?_
        refine QJ_ent (Ent.trans (Ent.take del2 (Ent.take del2 (Ent.take del2 Ent.refl))) (Trk_close hS11)) ?_
        refine QJ_then ?_
        refine CJ_condP rfl bT_dec (fun hg4 => ?_) (fun hg4 => ?_)
        ·
          replace h := ite_t hg4 h
          refine CJ_seq ?_
          refine CJ_region ?_
          refine RJ_op rfl (OJ_P (P_assign rfl) rfl ?_)
          refine RJ_op rfl (OJ_P (P_assign rfl) rfl ?_)
          refine RJ_nil ?_
          refine QJ_ent (Ent.take del0 (Ent.take del1 (Ent.take del1 (Ent.take del1 (Ent.take del1 (Ent.take del1 (Ent.take del1 (Ent.drop Ent.refl)))))))) ?_
          refine QJ_then ?_
          refine CJ_ret ?_
          refine QJ_then_ret ?_
          have hE := Option.some.inj h
          subst hE
          refine QJ_end (res2 Try.results82 rfl rfl) ?_
          refine CSpec.close ⟨0, .bool false⟩ ?_ ?_ (Ent.take del0 (Ent.take del0 (Ent.take del0 (Ent.take del0 (Ent.take del0 (Ent.take del0 (Ent.take del0 (Ent.trans (fun h hh => optP_none h hh) <| Ent.take del0 Ent.refl))))))))
          · rfl
          · trivial
        ·
          replace h := ite_f hg4 h
          refine CJ_skip ?_
          refine QJ_then ?_
          refine CJ_seq ?_
          refine CJ_region ?_
          refine RJ_op rfl (OJ_P (P_move rfl) rfl ?_)
          refine RJ_op rfl (OJ_P (P_move rfl) rfl ?_)
          refine RJ_op rfl (OJ_P (P_move rfl) rfl ?_)
          obtain ⟨r17, hr18, h⟩ := bind_e h
          refine RJ_op rfl (O_call (L_volumegroupmake_Track_All hr18) rfl Try.call83 (Dels.cons del0 (Dels.cons del0 (Dels.cons del0 Dels.nil))) rfl (fun _ _ => ?_))
          refine RJ_op rfl (OJ_P (P_assign rfl) rfl ?_)
          refine RJ_op rfl (OJ_P (P_assign rfl) rfl ?_)
          refine RJ_nil ?_
          refine QJ_then ?_
          refine CJ_ret ?_
          have hE := Option.some.inj h
          subst hE
          refine QJ_end (res2 Try.results82 rfl rfl) ?_
          refine CSpec.close X8 ?_ ?_ (Ent.take del0 (Ent.take del1 (Ent.take del1 (Ent.take del1 (Ent.take del1 (Ent.take del1 (Ent.take del1 (Ent.take del0 Ent.refl))))))))
          · rfl
          · trivial
  ·
    replace h := ite_f hg2 h
    refine AJ_takeP 3 15 rfl (by kernel_rfl) rfl (GY_yes rfl rfl rfl hg2B) (P_move rfl) rfl (fun _ _ _ _ h => h) ?_
    rcases opt_e h with ⟨ht19, h⟩ | ⟨o20, ht19, h⟩
    ·
      rw [ht19]
      refine AJ_takeP 4 31 rfl (by kernel_rfl) rfl (GY_yes rfl rfl rfl hg2B) (P_eqlIN rfl Try.underlying31) rfl (fun _ _ _ _ h => h) ?_
      refine AJ_takeP 5 63 rfl (by kernel_rfl) rfl (GY_none rfl) (P_pickF rfl hg2B rfl) rfl (fun _ _ _ _ h => h) ?_
      refine AJ_takeP 6 127 rfl (by kernel_rfl) rfl (GY_none rfl) (P_move rfl) rfl (fun _ _ _ _ h => h) ?_
      refine AJ_splitP 29 rfl Iff.rfl (fun hg5B hg5 => ?_) (fun hg5B hg5 => ?_)
      ·
        replace h := ite_t hg5 h
        refine AJ_skip 7 255 rfl (by kernel_rfl) rfl (GY_no rfl rfl rfl hg5B) rfl (fun _ _ _ _ h => h) ?_
        refine AJ_skip 9 767 rfl (by kernel_rfl) rfl (GY_no rfl rfl rfl hg5B) rfl (fun _ _ _ _ h => h) ?_
        refine AJ_skip 10 1791 rfl (by kernel_rfl) rfl (GY_no rfl rfl rfl hg5B) rfl (fun _ _ _ _ h => h) ?_
        refine AJ_skip 11 3839 rfl (by kernel_rfl) rfl (GY_no rfl rfl rfl hg5B) rfl (fun _ _ _ _ h => h) ?_
        refine AJ_skip 12 7935 rfl (by kernel_rfl) rfl (GY_no rfl rfl rfl hg5B) rfl (fun _ _ _ _ h => h) ?_
        refine AJ_skip 13 16127 rfl (by kernel_rfl) rfl (GY_no rfl rfl rfl hg5B) rfl (fun _ _ _ _ h => h) ?_
        refine AJ_skip 8 16383 rfl (by kernel_rfl) rfl (GY_no rfl rfl rfl hg5B) rfl (fun _ _ _ _ h => h) ?_
        refine AJ_skip 14 32767 rfl (by kernel_rfl) rfl (GY_no rfl rfl rfl hg5B) rfl (fun _ _ _ _ h => h) ?_
        refine AJ_takeP 15 65535 rfl (by kernel_rfl) rfl (GY_none rfl) (P_pickT rfl hg5B rfl) rfl (fun _ _ _ _ h => h) ?_
        refine AJ_done (by kernel_rfl) ?_
        refine QJ_ent (Ent.trans (Ent.take del0 (Ent.take del0 (Ent.take del0 Ent.refl))) (Trk_close hS11)) ?_
        refine QJ_ent (Ent.take del0 (Ent.take del0 (Ent.take del0 (Ent.take del0 (Ent.take del0 (Ent.take del0 (Ent.take del0 (Ent.drop Ent.refl)))))))) ?_
        refine QJ_then ?_
        refine CJ_condT rfl rfl ?_
        refine CJ_seq ?_
        refine CJ_region ?_
        refine RJ_op rfl (OJ_P (P_assign rfl) rfl ?_)
        refine RJ_op rfl (OJ_P (P_assign rfl) rfl ?_)
        refine RJ_nil ?_
        refine QJ_then ?_
        refine CJ_ret ?_
        refine QJ_then_ret ?_
        have hE := Option.some.inj h
        subst hE
        refine QJ_end (res2 Try.results82 rfl rfl) ?_
        refine CSpec.close ⟨0, .bool false⟩ ?_ ?_ (Ent.take del0 (Ent.take del3 (Ent.take del0 (Ent.take del0 (Ent.take del0 (Ent.take del0 (Ent.take del0 (Ent.trans (fun h hh => optP_none h hh) <| Ent.take del0 Ent.refl))))))))
        · rfl
        · trivial
      ·
        replace h := ite_f hg5 h
        refine AJ_takeP 7 255 rfl (by kernel_rfl) rfl (GY_yes rfl rfl rfl hg5B) (P_move rfl) rfl (fun _ _ _ _ h => h) ?_
        refine AJ_takeP 9 767 rfl (by kernel_rfl) rfl (GY_yes rfl rfl rfl hg5B) (P_move rfl) rfl (fun _ _ _ _ h => h) ?_
        refine AJ_takeP 10 1791 rfl (by kernel_rfl) rfl (GY_yes rfl rfl rfl hg5B) (P_nilCheck rfl) rfl (fun _ _ _ _ h => h) ?_
        refine AJ_takeP 11 3839 rfl (by kernel_rfl) rfl (GY_yes rfl rfl rfl hg5B) (P_fieldAddr rfl ⟨_, _, _, Try.runUnderlying172, rfl, rfl, Try.sizeOf170, rfl⟩) rfl (fun _ _ _ _ h => h) ?_
        refine AJ_takeV 12 7935 rfl (by kernel_rfl) rfl (by kernel_rfl) (by kernel_rfl) (GY_yes rfl rfl rfl hg5B) (Ent.take del0 (Ent.take del0 (Ent.take del0 (Ent.take del0 (Ent.take del0 (Ent.take del0 (Ent.take del0 (Ent.take del0 (Ent.take del0 Ent.done))))))))) (V_load rfl foc0 rfl Try.isAgg170) rfl (fun _ _ _ _ h => h) ?_
        refine AJ_takeV 13 16127 rfl (by kernel_rfl) rfl (by kernel_rfl) (by kernel_rfl) (GY_yes rfl rfl rfl hg5B) (Ent.take del0 (Ent.take del0 (Ent.take del0 (Ent.take del0 (Ent.take del0 (Ent.take del0 (Ent.take del0 (Ent.take del0 (Ent.take del0 Ent.done))))))))) (VJ_eq (V_len rfl foc1 (Reads.sl _ _ _) Try.runUnderlying170) (congrArg (fun z : Nat => Value.int .i64 (z : Int)) hS11.len.symm)) rfl (fun _ _ _ _ h => h) ?_
        exact none_e h
    ·
      rw [ht19]
      refine AJ_ent (Ent.takeC (A' := DevP ba o20 X8) del9 rfl Ent.refl) ?_
      refine AJ_takeP 4 31 rfl (by kernel_rfl) rfl (GY_yes rfl rfl rfl hg2B) (P_eqlIfN rfl rfl Try.underlying31) rfl (fun _ _ _ _ h => h) ?_
      refine AJ_takeP 5 63 rfl (by kernel_rfl) rfl (GY_none rfl) (P_pickF rfl hg2B rfl) rfl (fun _ _ _ _ h => h) ?_
      refine AJ_takeP 6 127 rfl (by kernel_rfl) rfl (GY_none rfl) (P_move rfl) rfl (fun _ _ _ _ h => h) ?_
      refine AJ_splitP 29 rfl Iff.rfl (fun hg6B hg6 => ?_) (fun hg6B hg6 => ?_)
      ·
        replace h := ite_t hg6 h
        refine AJ_skip 7 255 rfl (by kernel_rfl) rfl (GY_no rfl rfl rfl hg6B) rfl (fun _ _ _ _ h => h) ?_
        refine AJ_skip 9 767 rfl (by kernel_rfl) rfl (GY_no rfl rfl rfl hg6B) rfl (fun _ _ _ _ h => h) ?_
        refine AJ_skip 10 1791 rfl (by kernel_rfl) rfl (GY_no rfl rfl rfl hg6B) rfl (fun _ _ _ _ h => h) ?_
        refine AJ_skip 11 3839 rfl (by kernel_rfl) rfl (GY_no rfl rfl rfl hg6B) rfl (fun _ _ _ _ h => h) ?_
        refine AJ_skip 12 7935 rfl (by kernel_rfl) rfl (GY_no rfl rfl rfl hg6B) rfl (fun _ _ _ _ h => h) ?_
        refine AJ_skip 13 16127 rfl (by kernel_rfl) rfl (GY_no rfl rfl rfl hg6B) rfl (fun _ _ _ _ h => h) ?_
        refine AJ_skip 8 16383 rfl (by kernel_rfl) rfl (GY_no rfl rfl rfl hg6B) rfl (fun _ _ _ _ h => h) ?_
        refine AJ_skip 14 32767 rfl (by kernel_rfl) rfl (GY_no rfl rfl rfl hg6B) rfl (fun _ _ _ _ h => h) ?_
        refine AJ_takeP 15 65535 rfl (by kernel_rfl) rfl (GY_none rfl) (P_pickT rfl hg6B rfl) rfl (fun _ _ _ _ h => h) ?_
        refine AJ_done (by kernel_rfl) ?_
        refine QJ_ent (Ent.trans (Ent.take del1 (Ent.take del1 (Ent.take del1 Ent.refl))) (Trk_close hS11)) ?_
        refine QJ_then ?_
        refine CJ_condT rfl rfl ?_
        refine CJ_seq ?_
        refine CJ_region ?_
        refine RJ_op rfl (OJ_P (P_assign rfl) rfl ?_)
        refine RJ_op rfl (OJ_P (P_assign rfl) rfl ?_)
        refine RJ_nil ?_
        refine QJ_ent (Ent.take del0 (Ent.take del1 (Ent.take del1 (Ent.take del1 (Ent.take del1 (Ent.take del1 (Ent.take del1 (Ent.drop Ent.refl)))))))) ?_
        refine QJ_then ?_
        refine CJ_ret ?_
        refine QJ_then_ret ?_
        have hE := Option.some.inj h
        subst hE
        refine QJ_end (res2 Try.results82 rfl rfl) ?_
        refine CSpec.close ⟨0, .bool false⟩ ?_ ?_ (Ent.take del0 (Ent.take del3 (Ent.take del0 (Ent.take del0 (Ent.take del0 (Ent.take del0 (Ent.take del0 (Ent.trans (fun h hh => optP_none h hh) <| Ent.take del0 Ent.refl))))))))
        · rfl
        · trivial
      ·
        replace h := ite_f hg6 h
        refine AJ_takeP 7 255 rfl (by kernel_rfl) rfl (GY_yes rfl rfl rfl hg6B) (P_move rfl) rfl (fun _ _ _ _ h => h) ?_
        refine AJ_takeP 9 767 rfl (by kernel_rfl) rfl (GY_yes rfl rfl rfl hg6B) (P_move rfl) rfl (fun _ _ _ _ h => h) ?_
        refine AJ_takeP 10 1791 rfl (by kernel_rfl) rfl (GY_yes rfl rfl rfl hg6B) (P_nilCheck rfl) rfl (fun _ _ _ _ h => h) ?_
        refine AJ_takeP 11 3839 rfl (by kernel_rfl) rfl (GY_yes rfl rfl rfl hg6B) (P_fieldAddr rfl ⟨_, _, _, Try.runUnderlying172, rfl, rfl, Try.sizeOf170, rfl⟩) rfl (fun _ _ _ _ h => h) ?_
        refine AJ_takeV 12 7935 rfl (by kernel_rfl) rfl (by kernel_rfl) (by kernel_rfl) (GY_yes rfl rfl rfl hg6B) (Ent.take del1 (Ent.take del1 (Ent.take del1 (Ent.take del1 (Ent.take del1 (Ent.take del1 (Ent.take del1 (Ent.take del1 (Ent.take del1 Ent.done))))))))) (V_load rfl foc0 rfl Try.isAgg170) rfl (fun _ _ _ _ h => h) ?_
        refine AJ_takeV 13 16127 rfl (by kernel_rfl) rfl (by kernel_rfl) (by kernel_rfl) (GY_yes rfl rfl rfl hg6B) (Ent.take del1 (Ent.take del1 (Ent.take del1 (Ent.take del1 (Ent.take del1 (Ent.take del1 (Ent.take del1 (Ent.take del1 (Ent.take del1 Ent.done))))))))) (VJ_eq (V_len rfl foc1 (Reads.sl _ _ _) Try.runUnderlying170) (congrArg (fun z : Nat => Value.int .i64 (z : Int)) hS11.len.symm)) rfl (fun _ _ _ _ h => h) ?_
        refine AJ_pure (fun h hh => DevP_dep h (stars_perm (del0 (A := DevP ba o20 X8)).out h hh)) (fun hdp21 => ?_)
        obtain ⟨r22, hr23, h⟩ := bind_e h
        refine AJ_op 8 16383 rfl (by kernel_rfl) rfl (GY_yes rfl rfl rfl hg6B) (O_callI rfl (dev_Size hr23 hdp21) rfl (Dels.cons del0 (Dels.cons del6 Dels.nil)) rfl (fun _ _ => ?_))
        refine ⟨fun _ => (Ent.take del2 (Ent.take del2 (Ent.take del2 (Ent.take del2 (Ent.take del2 (Ent.take del2 (Ent.take del1 (Ent.take del1 (Ent.take del1 Ent.done))))))))), ?_⟩
        refine AJ_takeP 14 32767 rfl (by kernel_rfl) rfl (GY_yes rfl rfl rfl hg6B) (P_neq (a := r22) (b := (((failedT t).length : Nat) : Int)) rfl rfl) rfl (fun _ _ _ _ h => h) ?_
        refine AJ_takeP 15 65535 rfl (by kernel_rfl) rfl (GY_none rfl) (P_pickF rfl hg6B rfl) rfl (fun _ _ _ _ h => h) ?_
        refine AJ_done (by kernel_rfl) ?_
        refine QJ_ent (Ent.trans (Ent.take del2 (Ent.take del2 (Ent.take del2 Ent.refl))) (Trk_close hS11)) ?_
        refine QJ_then ?_
        refine CJ_condP rfl bT_dec (fun hg7 => ?_) (fun hg7 => ?_)
        ·
          replace h := ite_t hg7 h
          refine CJ_seq ?_
          refine CJ_region ?_
          refine RJ_op rfl (OJ_P (P_assign rfl) rfl ?_)
          refine RJ_op rfl (OJ_P (P_assign rfl) rfl ?_)
          refine RJ_nil ?_
          refine QJ_ent (Ent.take del0 (Ent.take del1 (Ent.take del1 (Ent.take del1 (Ent.take del1 (Ent.take del1 (Ent.take del1 (Ent.drop Ent.refl)))))))) ?_
          refine QJ_then ?_
          refine CJ_ret ?_
          refine QJ_then_ret ?_
          have hE := Option.some.inj h
          subst hE
          refine QJ_end (res2 Try.results82 rfl rfl) ?_
          refine CSpec.close ⟨0, .bool false⟩ ?_ ?_ (Ent.take del0 (Ent.take del0 (Ent.take del0 (Ent.take del0 (Ent.take del0 (Ent.take del0 (Ent.take del0 (Ent.trans (fun h hh => optP_none h hh) <| Ent.take del0 Ent.refl))))))))
          · rfl
          · trivial
        ·
          replace h := ite_f hg7 h
          refine CJ_skip ?_
          refine QJ_then ?_
          refine CJ_seq ?_
          refine CJ_region ?_
          refine RJ_op rfl (OJ_P (P_move rfl) rfl ?_)
          refine RJ_op rfl (OJ_P (P_move rfl) rfl ?_)
          refine RJ_op rfl (OJ_P (P_move rfl) rfl ?_)
          obtain ⟨r24, hr25, h⟩ := bind_e h
          refine RJ_op rfl (O_call (L_volumegroupmake_Track_All hr25) rfl Try.call83 (Dels.cons del0 (Dels.cons del0 (Dels.cons del0 Dels.nil))) rfl (fun _ _ => ?_))
          refine RJ_op rfl (OJ_P (P_assign rfl) rfl ?_)
          refine RJ_op rfl (OJ_P (P_assign rfl) rfl ?_)
          refine RJ_nil ?_
          refine QJ_then ?_
          refine CJ_ret ?_
          have hE := Option.some.inj h
          subst hE
          refine QJ_end (res2 Try.results82 rfl rfl) ?_
          refine CSpec.close X8 ?_ ?_ (Ent.take del0 (Ent.take del1 (Ent.take del1 (Ent.take del1 (Ent.take del1 (Ent.take del1 (Ent.take del1 (Ent.take del0 Ent.refl))))))))
          · rfl
          · trivial

def volumegroupmake_Track_All_2_l1_b (t : List Sec) (rec : Option (Unit)) : Option (Unit) :=
  if ((0 : Int) < ((t.length : Nat) : Int)) then
    none
  else
    some ()

def volumegroupmake_Track_All_2_l1 (t : List Sec) : Nat → Option (Unit)
  | 0 => none
  | n + 1 => volumegroupmake_Track_All_2_l1_b t (volumegroupmake_Track_All_2_l1 t n)

def volumegroupmake_Track_All_2 (t : List Sec) (settled : Bool) : Option (Bool) :=
  Option.bind (volumegroupmake_Track_All_2_l1 t FUEL) fun a4 =>
  some true

theorem L_volumegroupmake_Track_All_2 {W : World} {bt : Nat} {t : List Sec} {settled : Bool} {r : Bool} (h : volumegroupmake_Track_All_2 t settled = some r) :
    CSpec Try.prog W 83 [ptr bt 0, .nilIface, .bool settled] [Trk bt t] (fun x : Unit => .bool r) (fun _ => True) (fun x F => Trk bt t :: F) := by
  refine CSpec.of_body Try.func83 rfl Try.ntmps83 rfl (fun F => ?_)
  show CJ _ _ _ _ _ _ (_ :: F)
  unfold volumegroupmake_Track_All_2 at h
  refine CJ_seq ?_
  refine CJ_region ?_
  refine RJ_op rfl (OJ_P (P_assign rfl) rfl ?_)
  refine RJ_nil ?_
  refine QJ_then ?_
  refine CJ_seq ?_
  refine CJ_seq ?_
  refine CJ_region ?_
  refine RJ_op rfl (OJ_P (P_assign rfl) rfl ?_)
  refine RJ_nil ?_
  refine QJ_then ?_
  obtain ⟨y3, hl1, hK2⟩ := bind_c h
  refine CJ_cutT (X := Unit) [6, 7, 8, 9, 10, 11, 12, 13, 14, 15, 16, 17, 18, 19, 20, 21, 22, 23, 24, 25, 26, 27, 28, 29, 30, 31, 32, 33, 34] (fun _ => ([] : Slots)) (fun _ R => R) (fun _ => True) Dels.nil ?_ ?_
  ·
    refine CJ_block ?_
    refine CJ_loopR (X := Nat) [6, 7, 8, 9, 10, 11, 12, 13, 14, 15, 16, 17, 18, 19, 20, 21, 22, 23, 24, 25, 26, 27, 28, 29, 30, 31, 32, 33, 34] (fun n => ([(7, .int .i64 (0 : Int))] : Slots)) (fun n R => R) (fun n => volumegroupmake_Track_All_2_l1 t n = some y3) (fun n => n) FUEL ?_ ?_ (Ent.take del0 Ent.refl) ?_
    · exact hl1
    · exact ⟨rfl, True.intro⟩
    ·
      intro n h
      cases n with
      | zero => exact none_e h
      | succ n => ?_
      replace h : volumegroupmake_Track_All_2_l1_b t (volumegroupmake_Track_All_2_l1 t n) = some y3 := h
      unfold volumegroupmake_Track_All_2_l1_b at h
      show CJ _ _ _ _ _ (([(7, .int .i64 (0 : Int))] : Slots) ++ forget _ _) (_)
      refine CJ_seq ?_
      refine CJ_seq ?_
      refine CJ_entX (Ent.transX (Ent.take del0 Ent.refl) Trk_open) (fun tc5 => ?_)
      refine CJ_pur (fun hS6 => ?_)
      refine CJ_region ?_
      refine RJ_op rfl (OJ_P (P_move rfl) rfl ?_)
      refine RJ_op rfl (OJ_P (P_move rfl) rfl ?_)
      refine RJ_op rfl (OJ_P (P_nilCheck rfl) rfl ?_)
      refine RJ_op rfl (OJ_P (P_fieldAddr rfl ⟨_, _, _, Try.runUnderlying172, rfl, rfl, Try.sizeOf170, rfl⟩) rfl ?_)
      refine RJ_op rfl (OJ_V (V_load rfl foc0 rfl Try.isAgg170) rfl ?_)
      refine RJ_op rfl (OJ_V (VJ_eq (V_len rfl foc1 (Reads.sl _ _ _) Try.runUnderlying170) (congrArg (fun z : Nat => Value.int .i64 (z : Int)) hS6.len.symm)) rfl ?_)
      refine RJ_op rfl (OJ_P (P_lss (a := (0 : Int)) (b := ((t.length : Nat) : Int)) rfl rfl) rfl ?_)
      refine RJ_nil ?_
      refine QJ_ent (Ent.trans (Ent.take del0 (Ent.take del0 (Ent.take del0 Ent.refl))) (Trk_close hS6)) ?_
      refine QJ_then ?_
      refine CJ_condP rfl bT_dec (fun hg1 => ?_) (fun hg1 => ?_)
      ·
        replace h := ite_t hg1 h
        refine CJ_skip ?_
        refine QJ_then ?_
        refine CJ_seq ?_
        refine CJ_block ?_
        refine CJ_seq ?_
        refine CJ_region ?_
        refine RJ_op rfl (OJ_P (P_move rfl) rfl ?_)
        refine RJ_op rfl (OJ_P (P_move rfl) rfl ?_)
        exact none_e h
      ·
        replace h := ite_f hg1 h
        refine CJ_exit ?_
        refine QJ_then_exit ?_
        refine QJ_round_exit ?_
        refine QJ_block_here ?_
        refine QJ_cutR () ?_ (by repeat (first | exact Kp.base | exact Kp.self | refine Kp.cons rfl ?_ | refine Kp.forget rfl ?_)) ?_ (Ent.take del0 Ent.refl)
        · exact trivial
        · exact True.intro
  ·
    rintro _ hy7
    have h := hK2
    show CJ _ _ _ _ _ (([] : Slots) ++ forget _ _) (_)
    refine CJ_seq ?_
    refine CJ_region ?_
    refine RJ_op rfl (OJ_P (P_assign rfl) rfl ?_)
    refine RJ_nil ?_
    refine QJ_then ?_
    refine CJ_ret ?_
    have hE := Option.some.inj h
    subst hE
    refine QJ_end (res1 Try.results83 rfl) ?_
    refine CSpec.close () ?_ ?_ (Ent.take del0 Ent.refl)
    · rfl
    · trivial

def volumegroupmake_Sound__volumegrouplaw05_stack_1_l1_b (open_1_c0 : List volumegrouplaw05_span) (open_1_c2 : Int) (open_1_c3 : Int) (initial : List UInt64) (l : List volumegroupmake_Step) (rec : ArrS → (List Sec) → (Option Dvc) → Nat → Option ((ArrS × (List Sec)) ⊕ (Bool × ArrS))) (x26 : ArrS) (x27 : List Sec) (x28 : Option Dvc) (x30 : Nat) : Option ((ArrS × (List Sec)) ⊕ (Bool × ArrS)) :=
  if (((x30 : Nat) : Int) < ((l.length : Nat) : Int)) then
    lt (((((l.getD x30 (⟨0, 0, 0, 0⟩ : volumegroupmake_Step))).At).tmod (((initial.length : Nat) : Int)))) fun w31 =>
    grd (inI64 ((w31 + ((initial.length : Nat) : Int)))) <|
    if (((l.getD x30 (⟨0, 0, 0, 0⟩ : volumegroupmake_Step))).Kind = (0 : Int)) then
      Option.elim x28 (
        none) fun o33 =>
      Option.bind (Dvc.wr o33 x26 ((((w31 + ((initial.length : Nat) : Int))).tmod (((initial.length : Nat) : Int)))) (((l.getD x30 (⟨0, 0, 0, 0⟩ : volumegroupmake_Step))).Value)) fun r36 =>
      grd (decide (smallT x27 = true)) <|
      if (r36.1 = (5 : Int)) then
        Option.bind (volumegroupmake_Track_Again__volumegrouplaw05_stack_1 ((wroteT x27 ((((w31 + ((initial.length : Nat) : Int))).tmod (((initial.length : Nat) : Int)))) (((l.getD x30 (⟨0, 0, 0, 0⟩ : volumegroupmake_Step))).Value) ((decide (r36.1 = (0 : Int)))))) r36.2 open_1_c0 open_1_c2 open_1_c3 (((l.getD x30 (⟨0, 0, 0, 0⟩ : volumegroupmake_Step))).Keep)) fun r38 =>
        if (¬ r38.2.1 = true) then
          some (.inr (false, r38.2.2.2))
        else
          rec r38.2.2.2 r38.2.2.1 r38.1 (x30 + 1)
      else
        if (r36.1 ≠ (0 : Int)) then
          some (.inr (false, r36.2))
        else
          rec r36.2 ((wroteT x27 ((((w31 + ((initial.length : Nat) : Int))).tmod (((initial.length : Nat) : Int)))) (((l.getD x30 (⟨0, 0, 0, 0⟩ : volumegroupmake_Step))).Value) ((decide (r36.1 = (0 : Int)))))) (some o33) (x30 + 1)
    else
      if (((l.getD x30 (⟨0, 0, 0, 0⟩ : volumegroupmake_Step))).Kind = (1 : Int)) then
        Option.elim x28 (
          none) fun o44 =>
        Option.bind (Dvc.rd o44 x26 ((((w31 + ((initial.length : Nat) : Int))).tmod (((initial.length : Nat) : Int))))) fun r46 =>
        if (r46.2 = (0 : Int)) then
          grd (decide (smallT x27 = true)) <|
          if (¬ (rdTR x27 ((((w31 + ((initial.length : Nat) : Int))).tmod (((initial.length : Nat) : Int)))) r46.1) = true) then
            some (.inr (false, x26))
          else
            if (r46.2 = (5 : Int)) then
              Option.bind (volumegroupmake_Track_Again__volumegrouplaw05_stack_1 ((rdTS x27 ((((w31 + ((initial.length : Nat) : Int))).tmod (((initial.length : Nat) : Int)))) r46.1 false)) x26 open_1_c0 open_1_c2 open_1_c3 (((l.getD x30 (⟨0, 0, 0, 0⟩ : volumegroupmake_Step))).Keep)) fun r48 =>
              if (¬ r48.2.1 = true) then
                some (.inr (false, r48.2.2.2))
              else
                rec r48.2.2.2 r48.2.2.1 r48.1 (x30 + 1)
            else
              if (r46.2 ≠ (0 : Int)) then
                some (.inr (false, x26))
              else
                rec x26 ((rdTS x27 ((((w31 + ((initial.length : Nat) : Int))).tmod (((initial.length : Nat) : Int)))) r46.1 false)) (some o44) (x30 + 1)
        else
          if (r46.2 = (5 : Int)) then
            Option.bind (volumegroupmake_Track_Again__volumegrouplaw05_stack_1 x27 x26 open_1_c0 open_1_c2 open_1_c3 (((l.getD x30 (⟨0, 0, 0, 0⟩ : volumegroupmake_Step))).Keep)) fun r53 =>
            if (¬ r53.2.1 = true) then
              some (.inr (false, r53.2.2.2))
            else
              rec r53.2.2.2 r53.2.2.1 r53.1 (x30 + 1)
          else
            if (r46.2 ≠ (0 : Int)) then
              some (.inr (false, x26))
            else
              rec x26 x27 (some o44) (x30 + 1)
      else
        if (((l.getD x30 (⟨0, 0, 0, 0⟩ : volumegroupmake_Step))).Kind = (2 : Int)) then
          Option.elim x28 (
            none) fun o59 =>
          Option.bind (Dvc.fl o59 x26) fun r61 =>
          if (r61.1 = (0 : Int)) then
            if (r61.1 = (5 : Int)) then
              Option.bind (volumegroupmake_Track_Again__volumegrouplaw05_stack_1 (flushedT x27) r61.2 open_1_c0 open_1_c2 open_1_c3 (((l.getD x30 (⟨0, 0, 0, 0⟩ : volumegroupmake_Step))).Keep)) fun r63 =>
              if (¬ r63.2.1 = true) then
                some (.inr (false, r63.2.2.2))
              else
                rec r63.2.2.2 r63.2.2.1 r63.1 (x30 + 1)
            else
              if (r61.1 ≠ (0 : Int)) then
                some (.inr (false, r61.2))
              else
                rec r61.2 (flushedT x27) (some o59) (x30 + 1)
          else
            if (r61.1 = (5 : Int)) then
              Option.bind (volumegroupmake_Track_Again__volumegrouplaw05_stack_1 x27 r61.2 open_1_c0 open_1_c2 open_1_c3 (((l.getD x30 (⟨0, 0, 0, 0⟩ : volumegroupmake_Step))).Keep)) fun r68 =>
              if (¬ r68.2.1 = true) then
                some (.inr (false, r68.2.2.2))
              else
                rec r68.2.2.2 r68.2.2.1 r68.1 (x30 + 1)
            else
              if (r61.1 ≠ (0 : Int)) then
                some (.inr (false, r61.2))
              else
                rec r61.2 x27 (some o59) (x30 + 1)
        else
          if (((l.getD x30 (⟨0, 0, 0, 0⟩ : volumegroupmake_Step))).Kind = (3 : Int)) then
            if ((5 : Int) = (5 : Int)) then
              Option.bind (volumegroupmake_Track_Again__volumegrouplaw05_stack_1 x27 x26 open_1_c0 open_1_c2 open_1_c3 (((l.getD x30 (⟨0, 0, 0, 0⟩ : volumegroupmake_Step))).Keep)) fun r73 =>
              if (¬ r73.2.1 = true) then
                some (.inr (false, r73.2.2.2))
              else
                rec r73.2.2.2 r73.2.2.1 r73.1 (x30 + 1)
            else
              if ((5 : Int) ≠ (0 : Int)) then
                some (.inr (false, x26))
              else
                rec x26 x27 x28 (x30 + 1)
          else
            if (((l.getD x30 (⟨0, 0, 0, 0⟩ : volumegroupmake_Step))).Kind = (4 : Int)) then
              grd (inI64 (((1 : Int) + (((w31 + ((initial.length : Nat) : Int))).tmod (((initial.length : Nat) : Int)))))) <|
              lt (((1 : Int) + (((w31 + ((initial.length : Nat) : Int))).tmod (((initial.length : Nat) : Int))))) fun w77 =>
              grd (inI64 w77) <|
              if ((0 : Int) = (5 : Int)) then
                Option.bind (volumegroupmake_Track_Again__volumegrouplaw05_stack_1 x27 ({ x26 with fuse := (w77).toNat }) open_1_c0 open_1_c2 open_1_c3 (((l.getD x30 (⟨0, 0, 0, 0⟩ : volumegroupmake_Step))).Keep)) fun r78 =>
                if (¬ r78.2.1 = true) then
                  some (.inr (false, r78.2.2.2))
                else
                  rec r78.2.2.2 r78.2.2.1 r78.1 (x30 + 1)
              else
                if ((0 : Int) ≠ (0 : Int)) then
                  some (.inr ((false, { x26 with fuse := (w77).toNat })))
                else
                  rec ({ x26 with fuse := (w77).toNat }) x27 x28 (x30 + 1)
            else
              if ((0 : Int) = (5 : Int)) then
                Option.bind (volumegroupmake_Track_Again__volumegrouplaw05_stack_1 x27 x26 open_1_c0 open_1_c2 open_1_c3 (((l.getD x30 (⟨0, 0, 0, 0⟩ : volumegroupmake_Step))).Keep)) fun r82 =>
                if (¬ r82.2.1 = true) then
                  some (.inr (false, r82.2.2.2))
                else
                  rec r82.2.2.2 r82.2.2.1 r82.1 (x30 + 1)
              else
                if ((0 : Int) ≠ (0 : Int)) then
                  some (.inr (false, x26))
                else
                  rec x26 x27 x28 (x30 + 1)
  else
    some (.inl (x26, x27))

def volumegroupmake_Sound__volumegrouplaw05_stack_1_l1 (open_1_c0 : List volumegrouplaw05_span) (open_1_c2 : Int) (open_1_c3 : Int) (initial : List UInt64) (l : List volumegroupmake_Step) : Nat → ArrS → (List Sec) → (Option Dvc) → Nat → Option ((ArrS × (List Sec)) ⊕ (Bool × ArrS))
  | 0, _, _, _, _ => none
  | n + 1, x26, x27, x28, x30 => volumegroupmake_Sound__volumegrouplaw05_stack_1_l1_b open_1_c0 open_1_c2 open_1_c3 initial l (volumegroupmake_Sound__volumegrouplaw05_stack_1_l1 open_1_c0 open_1_c2 open_1_c3 initial l n) x26 x27 x28 x30

def volumegroupmake_Sound__volumegrouplaw05_stack_1 (a : ArrS) (open_1_c0 : List volumegrouplaw05_span) (open_1_c2 : Int) (open_1_c3 : Int) (initial : List UInt64) (l : List volumegroupmake_Step) : Option (Bool × ArrS) :=
  grd (decide (initial.length ≤ 65536)) <|
  Option.bind (volumegrouplaw05_stack_1 open_1_c0 a open_1_c2 open_1_c3) fun r6 =>
  if (¬ r6.2 = true) then
    some (false, a)
  else
    Option.elim r6.1 (
      some (false, a)) fun o15 =>
    Option.bind (Dvc.size o15 a) fun r17 =>
    if (r17 ≠ ((initial.length : Nat) : Int)) then
      some (false, a)
    else
      if (((initial.length : Nat) : Int) = (0 : Int)) then
        some (true, a)
      else
        seqO (volumegroupmake_Sound__volumegrouplaw05_stack_1_l1 open_1_c0 open_1_c2 open_1_c3 initial l FUEL a (trkT initial) (some o15) 0) fun a25 =>
        Option.bind (volumegroupmake_Track_Again__volumegrouplaw05_stack_1 a25.2 a25.1 open_1_c0 open_1_c2 open_1_c3 (0 : UInt64)) fun r87 =>
        if (¬ r87.2.1 = true) then
          some (false, r87.2.2.2)
        else
          Option.elim r87.1 (
            Option.bind (volumegroupmake_Track_All_2 r87.2.2.1 true) fun r93 =>
            some (r93, r87.2.2.2)) fun o92 =>
          Option.bind (volumegroupmake_Track_All r87.2.2.1 o92 true r87.2.2.2) fun r95 =>
          some (r95.1, r87.2.2.2)

theorem L_volumegroupmake_Sound__volumegrouplaw05_stack_1 {W : World} {ba : Nat} {bopen_1_c0 : Nat} {Aopen_1_c0 : HP} {vopen_1_c0 : Value} {bopen_1_c1 : Nat} {bopen_1_c2 : Nat} {bopen_1_c3 : Nat} {Ainitial : HP} {vinitial : Value} {Al : HP} {vl : Value} {a : ArrS} {open_1_c0 : List volumegrouplaw05_span} {open_1_c2 : Int} {open_1_c3 : Int} {initial : List UInt64} {l : List volumegroupmake_Step} {r : Bool × ArrS} (ropen_1_c0 : Reads Aopen_1_c0 tyvolumegrouplaw05_span vopen_1_c0 open_1_c0) (rinitial : Reads Ainitial tyU vinitial initial) (rl : Reads Al tyvolumegroupmake_Step vl l) (h : volumegroupmake_Sound__volumegrouplaw05_stack_1 a open_1_c0 open_1_c2 open_1_c3 initial l = some r) :
    CSpec Try.prog W 32 [ptr ba 0, .func (.func 77) #[] #[ptr bopen_1_c0 0, ptr bopen_1_c1 0, ptr bopen_1_c2 0, ptr bopen_1_c3 0], vinitial, vl] [Arr ba a, blk bopen_1_c0 135 [vopen_1_c0], Aopen_1_c0, blk bopen_1_c1 23 [ptr ba 0], blk bopen_1_c2 3 [.int .i64 open_1_c2], blk bopen_1_c3 3 [.int .i64 open_1_c3], Ainitial, Al] (fun x : Unit => .bool r.1) (fun _ => True) (fun x F => Arr ba r.2 :: blk bopen_1_c0 135 [vopen_1_c0] :: Aopen_1_c0 :: blk bopen_1_c1 23 [ptr ba 0] :: blk bopen_1_c2 3 [.int .i64 open_1_c2] :: blk bopen_1_c3 3 [.int .i64 open_1_c3] :: Ainitial :: Al :: F) := by
  refine CSpec.of_body Try.func32 rfl Try.ntmps32 rfl (fun F => ?_)
  show CJ _ _ _ _ _ _ (_ :: _ :: _ :: _ :: _ :: _ :: _ :: _ :: F)
  unfold volumegroupmake_Sound__volumegrouplaw05_stack_1 at h
  refine CJ_pure (len_of ropen_1_c0 del2) (fun hlen1 => ?_)
  refine CJ_pure (len_of rinitial del6) (fun hlen2 => ?_)
  refine CJ_pure (len_of rl del7) (fun hlen3 => ?_)
  refine CJ_seq ?_
  refine CJ_region ?_
  refine RJ_op rfl (OJ_P (P_assign rfl) rfl ?_)
  refine RJ_nil ?_
  refine QJ_then ?_
  refine CJ_seq ?_
  refine CJ_region ?_
  refine RJ_op rfl (OJ_P (P_move rfl) rfl ?_)
  obtain ⟨hg1, h⟩ := grd_de h
  refine RJ_op rfl (O_call (c_Tracked rinitial hg1) rfl Try.call78 (Dels.cons del6 Dels.nil) rfl (fun X4 _ => ?_))
  refine RJ_op rfl (OJ_P (P_assign rfl) rfl ?_)
  refine RJ_nil ?_
  refine QJ_then ?_
  refine CJ_seq ?_
  refine CJ_region ?_
  refine RJ_op rfl (OJ_P (P_move rfl) rfl ?_)
  obtain ⟨r6, hr7, h⟩ := bind_e h
  refine RJ_op rfl (O_callV rfl rfl (L_volumegrouplaw05_stack_1 ropen_1_c0 hr7) Try.call77 (Dels.cons del3 (Dels.cons del3 (Dels.cons del3 (Dels.cons del2 (Dels.cons del2 (Dels.cons del2 Dels.nil)))))) rfl (fun X8 _ => ?_))
  refine RJ_op rfl (OJ_P (P_move rfl) rfl ?_)
  refine RJ_op rfl (OJ_P (P_extract rfl rfl) rfl ?_)
  refine RJ_op rfl (OJ_P (P_extract rfl rfl) rfl ?_)
  refine RJ_op rfl (OJ_P (P_assign rfl) rfl ?_)
  refine RJ_op rfl (OJ_P (P_assign rfl) rfl ?_)
  refine RJ_nil ?_
  refine QJ_then ?_
  refine CJ_seq ?_
  refine CJ_seq ?_
  refine CJ_region ?_
  refine RJ_op rfl (OJ_P (P_move rfl) rfl ?_)
  refine RJ_op rfl (OJ_P (P_not rfl) rfl ?_)
  refine RJ_op rfl (OJ_P (P_move rfl) rfl ?_)
  refine RJ_mbF rfl rfl rfl (fun hG10 => have hP11 : ¬ (¬ r6.2 = true) := nP ((bT_not Iff.rfl)) hG10; VJ_P (P_move rfl)) ?_
  refine RJ_splitP 25 rfl (bT_not Iff.rfl) (fun hg2B hg2 => ?_) (fun hg2B hg2 => ?_)
  ·
    replace h := ite_t hg2 h
    refine RJ_gn (GY_no rfl rfl rfl hg2B) rfl rfl ?_
    refine RJ_op rfl (OJ_P (P_pickT rfl hg2B rfl) rfl ?_)
    refine RJ_op rfl (OJ_P (P_move rfl) rfl ?_)
    refine RJ_gn (GY_no rfl rfl rfl rfl) rfl rfl ?_
    refine RJ_gn (GY_no rfl rfl rfl rfl) rfl rfl ?_
    refine RJ_gn (GY_no rfl rfl rfl rfl) rfl rfl ?_
    refine RJ_gn (GY_no rfl rfl rfl rfl) rfl rfl ?_
    refine RJ_gn (GY_no rfl rfl rfl rfl) rfl rfl ?_
    refine RJ_op rfl (OJ_P (P_pickT rfl rfl rfl) rfl ?_)
    refine RJ_nil ?_
    refine QJ_then ?_
    refine CJ_condT rfl rfl ?_
    refine CJ_seq ?_
    refine CJ_region ?_
    refine RJ_op rfl (OJ_P (P_assign rfl) rfl ?_)
    refine RJ_nil ?_
    refine QJ_ent (Ent.take del0 (Ent.take del0 (Ent.take del0 (Ent.take del0 (Ent.take del0 (Ent.take del0 (Ent.take del2 (Ent.take del2 (Ent.drop (Ent.drop Ent.refl)))))))))) ?_
    refine QJ_then ?_
    refine CJ_ret ?_
    refine QJ_then_ret ?_
    have hE := Option.some.inj h
    subst hE
    refine QJ_end (res1 Try.results32 rfl) ?_
    refine CSpec.close () ?_ ?_ (Ent.take del3 (Ent.take del0 (Ent.take del0 (Ent.take del0 (Ent.take del0 (Ent.take del0 (Ent.take del0 (Ent.take del0 Ent.refl))))))))
    · rfl
    · trivial
  ·
    replace h := ite_f hg2 h
    rcases opt_e h with ⟨ht14, h⟩ | ⟨o15, ht14, h⟩
    ·
      rw [ht14]
      refine RJ_ent (Ent.take del0 (Ent.take del0 (Ent.take del0 (Ent.take del0 (Ent.take del0 (Ent.take del0 (Ent.take del1 (Ent.take del1 (Ent.take del1 (Ent.drop Ent.refl)))))))))) ?_
      refine RJ_gy (GY_yes rfl rfl rfl hg2B) (OJ_P (P_eqlIN (mbx (not_f hg2B) rfl) Try.underlying31) rfl ?_)
      refine RJ_op rfl (OJ_P (P_pickF rfl hg2B rfl) rfl ?_)
      refine RJ_op rfl (OJ_P (P_move rfl) rfl ?_)
      refine RJ_gn (GY_no rfl rfl rfl rfl) rfl rfl ?_
      refine RJ_gn (GY_no rfl rfl rfl rfl) rfl rfl ?_
      refine RJ_gn (GY_no rfl rfl rfl rfl) rfl rfl ?_
      refine RJ_gn (GY_no rfl rfl rfl rfl) rfl rfl ?_
      refine RJ_gn (GY_no rfl rfl rfl rfl) rfl rfl ?_
      refine RJ_op rfl (OJ_P (P_pickT rfl rfl rfl) rfl ?_)
      refine RJ_nil ?_
      refine QJ_then ?_
      refine CJ_condT rfl rfl ?_
      refine CJ_seq ?_
      refine CJ_region ?_
      refine RJ_op rfl (OJ_P (P_assign rfl) rfl ?_)
      refine RJ_nil ?_
      refine QJ_ent (Ent.take del0 (Ent.take del0 (Ent.take del0 (Ent.take del0 (Ent.take del0 (Ent.take del0 (Ent.take del1 (Ent.take del1 (Ent.drop Ent.refl))))))))) ?_
      refine QJ_then ?_
      refine CJ_ret ?_
      refine QJ_then_ret ?_
      have hE := Option.some.inj h
      subst hE
      refine QJ_end (res1 Try.results32 rfl) ?_
      refine CSpec.close () ?_ ?_ (Ent.take del3 (Ent.take del0 (Ent.take del0 (Ent.take del0 (Ent.take del0 (Ent.take del0 (Ent.take del0 (Ent.take del0 Ent.refl))))))))
      · rfl
      · trivial
    ·
      rw [ht14]
      refine RJ_ent (Ent.takeC (A' := DevP ba o15 X8) del6 rfl Ent.refl) ?_
      refine RJ_gy (GY_yes rfl rfl rfl hg2B) (OJ_P (P_eqlIfN (mbx (not_f hg2B) rfl) rfl Try.underlying31) rfl ?_)
      refine RJ_op rfl (OJ_P (P_pickF rfl hg2B rfl) rfl ?_)
      refine RJ_op rfl (OJ_P (P_move rfl) rfl ?_)
      refine RJ_gy (GY_yes rfl rfl rfl rfl) (OJ_P (P_move rfl) rfl ?_)
      refine RJ_pure (fun h hh => DevP_dep h (stars_perm (del0 (A := DevP ba o15 X8)).out h hh)) (fun hdp16 => ?_)
      obtain ⟨r17, hr18, h⟩ := bind_e h
      refine RJ_gy (GY_yes rfl rfl rfl rfl) (O_callI rfl (dev_Size hr18 hdp16) rfl (Dels.cons del0 (Dels.cons del3 Dels.nil)) rfl (fun _ _ => ?_))
      refine RJ_gy (GY_yes rfl rfl rfl rfl) (OJ_P (P_move rfl) rfl ?_)
      refine RJ_gy (GY_yes rfl rfl rfl rfl) (OJ_V (V_len rfl foc8 rinitial Try.runUnderlying25) rfl ?_)
      refine RJ_gy (GY_yes rfl rfl rfl rfl) (OJ_P (P_neq (a := r17) (b := ((initial.length : Nat) : Int)) rfl rfl) rfl ?_)
      refine RJ_op rfl (OJ_P (P_pickF rfl rfl rfl) rfl ?_)
      refine RJ_nil ?_
      refine QJ_then ?_
      refine CJ_condP rfl bT_dec (fun hg3 => ?_) (fun hg3 => ?_)
      ·
        replace h := ite_t hg3 h
        refine CJ_seq ?_
        refine CJ_region ?_
        refine RJ_op rfl (OJ_P (P_assign rfl) rfl ?_)
        refine RJ_nil ?_
        refine QJ_ent (Ent.take del1 (Ent.take del1 (Ent.take del1 (Ent.take del1 (Ent.take del1 (Ent.take del1 (Ent.take del2 (Ent.take del2 (Ent.drop (Ent.drop Ent.refl)))))))))) ?_
        refine QJ_then ?_
        refine CJ_ret ?_
        refine QJ_then_ret ?_
        have hE := Option.some.inj h
        subst hE
        refine QJ_end (res1 Try.results32 rfl) ?_
        refine CSpec.close () ?_ ?_ (Ent.take del0 (Ent.take del0 (Ent.take del0 (Ent.take del0 (Ent.take del0 (Ent.take del0 (Ent.take del0 (Ent.take del0 Ent.refl))))))))
        · rfl
        · trivial
      ·
        replace h := ite_f hg3 h
        refine CJ_skip ?_
        refine QJ_then ?_
        refine CJ_seq ?_
        refine CJ_seq ?_
        refine CJ_region ?_
        refine RJ_op rfl (OJ_P (P_move rfl) rfl ?_)
        refine RJ_op rfl (OJ_V (V_len rfl foc8 rinitial Try.runUnderlying25) rfl ?_)
        refine RJ_op rfl (OJ_P (P_eql (a := ((initial.length : Nat) : Int)) (b := (0 : Int)) rfl rfl) rfl ?_)
        refine RJ_nil ?_
        refine QJ_then ?_
        refine CJ_condP rfl bT_dec (fun hg4 => ?_) (fun hg4 => ?_)
        ·
          replace h := ite_t hg4 h
          refine CJ_seq ?_
          refine CJ_region ?_
          refine RJ_op rfl (OJ_P (P_assign rfl) rfl ?_)
          refine RJ_nil ?_
          refine QJ_ent (Ent.take del1 (Ent.take del1 (Ent.take del1 (Ent.take del1 (Ent.take del1 (Ent.take del1 (Ent.take del2 (Ent.take del2 (Ent.drop (Ent.drop Ent.refl)))))))))) ?_
          refine QJ_then ?_
          refine CJ_ret ?_
          refine QJ_then_ret ?_
          have hE := Option.some.inj h
          subst hE
          refine QJ_end (res1 Try.results32 rfl) ?_
          refine CSpec.close () ?_ ?_ (Ent.take del0 (Ent.take del0 (Ent.take del0 (Ent.take del0 (Ent.take del0 (Ent.take del0 (Ent.take del0 (Ent.take del0 Ent.refl))))))))
          · rfl
          · trivial
        ·
          replace h := ite_f hg4 h
          refine CJ_skip ?_
          refine QJ_then ?_
          refine CJ_seq ?_
          refine CJ_seq ?_
          refine CJ_region ?_
          refine RJ_op rfl (OJ_P (P_assign rfl) rfl ?_)
          refine RJ_nil ?_
          refine QJ_then ?_
          refine CJ_ent (Ent.trans (Ent.take del0 Ent.refl) (fun h hh => stars_dup Dup_DevP hh)) ?_
          refine CJ_ent (Ent.takeC (A' := optP (DevP ba · X8) (some o15)) del0 rfl Ent.refl) ?_
          obtain ⟨y22, hl20, hK21⟩ := seq_e h
          refine CJ_cutT (X := ArrS × (List Sec)) [8, 10, 11, 12, 13, 14, 15, 39, 40, 41, 42, 43, 44, 45, 46, 47, 48, 49, 50, 51, 52, 53, 54, 55, 56, 57, 58, 59, 60, 61, 62, 63, 64, 65, 66, 67, 68, 69, 70, 71, 72, 73, 74, 75, 76, 77, 78, 79, 80, 81, 82, 83, 84, 85, 86, 87, 88, 89, 90, 91, 92, 93, 94, 95, 96, 97, 98, 99, 100, 101, 102, 103, 104, 105, 106, 107, 108, 109, 110, 111, 112, 113, 114, 115, 116, 117, 118, 119, 120, 121, 122, 123, 124, 125, 126, 127, 128, 129, 130, 131, 132, 133, 134, 135, 136, 137] (fun a25 => ([] : Slots)) (fun a25 R => Arr ba a25.1 :: Trk X4 a25.2 :: R) (fun a25 => y22 = .inl a25) (Dels.cons del2 (Dels.cons del7 (Dels.cons del0 (Dels.cons del0 Dels.nil)))) ?_ ?_
          ·
            refine CJ_block ?_
            refine CJ_loopR (X := Nat × ArrS × (List Sec) × (Option Dvc) × Nat × IfH) [8, 10, 11, 12, 13, 14, 15, 39, 40, 41, 42, 43, 44, 45, 46, 47, 48, 49, 50, 51, 52, 53, 54, 55, 56, 57, 58, 59, 60, 61, 62, 63, 64, 65, 66, 67, 68, 69, 70, 71, 72, 73, 74, 75, 76, 77, 78, 79, 80, 81, 82, 83, 84, 85, 86, 87, 88, 89, 90, 91, 92, 93, 94, 95, 96, 97, 98, 99, 100, 101, 102, 103, 104, 105, 106, 107, 108, 109, 110, 111, 112, 113, 114, 115, 116, 117, 118, 119, 120, 121, 122, 123, 124, 125, 126, 127, 128, 129, 130, 131, 132, 133, 134, 135, 136, 137] (fun ⟨n, x26, x27, x28, x30, dv29⟩ => ([(10, oif x28 dv29), (12, .int .i64 (((x30 : Nat) : Int)))] : Slots)) (fun ⟨n, x26, x27, x28, x30, dv29⟩ R => Arr ba x26 :: Trk X4 x27 :: optP (DevP ba · dv29) x28 :: R) (fun ⟨n, x26, x27, x28, x30, dv29⟩ => volumegroupmake_Sound__volumegrouplaw05_stack_1_l1 open_1_c0 open_1_c2 open_1_c3 initial l n x26 x27 x28 x30 = some y22) (fun ⟨n, x26, x27, x28, x30, dv29⟩ => n) ⟨FUEL, a, (trkT initial), (some o15), 0, X8⟩ ?_ ?_ (Ent.take del2 (Ent.take del7 (Ent.take del0 (Ent.take del1 (Ent.take del1 (Ent.take del1 (Ent.take del1 (Ent.take del1 (Ent.take del1 (Ent.take del1 (Ent.drop Ent.refl))))))))))) ?_
            · exact hl20
            · exact ⟨rfl, rfl, True.intro⟩
            ·
              rintro ⟨n, x26, x27, x28, x30, dv29⟩ h
              cases n with
              | zero => exact none_e h
              | succ n => ?_
              replace h : volumegroupmake_Sound__volumegrouplaw05_stack_1_l1_b open_1_c0 open_1_c2 open_1_c3 initial l (volumegroupmake_Sound__volumegrouplaw05_stack_1_l1 open_1_c0 open_1_c2 open_1_c3 initial l n) x26 x27 x28 x30 = some y22 := h
              unfold volumegroupmake_Sound__volumegrouplaw05_stack_1_l1_b at h
              show CJ _ _ _ _ _ (([(10, oif x28 dv29), (12, .int .i64 (((x30 : Nat) : Int)))] : Slots) ++ forget _ _) (Arr ba x26 :: Trk X4 x27 :: optP (DevP ba · dv29) x28 :: _)
              refine CJ_seq ?_
              refine CJ_seq ?_
              refine CJ_region ?_
              refine RJ_op rfl (OJ_P (P_move rfl) rfl ?_)
              refine RJ_op rfl (OJ_P (P_move rfl) rfl ?_)
              refine RJ_op rfl (OJ_V (V_len rfl foc9 rl Try.runUnderlying59) rfl ?_)
              refine RJ_op rfl (OJ_P (P_lss (a := ((x30 : Nat) : Int)) (b := ((l.length : Nat) : Int)) rfl rfl) rfl ?_)
              refine RJ_nil ?_
              refine QJ_then ?_
              refine CJ_condP rfl bT_dec (fun hg5 => ?_) (fun hg5 => ?_)
              ·
                replace h := ite_t hg5 h
                refine CJ_skip ?_
                refine QJ_then ?_
                refine CJ_seq ?_
                refine CJ_block ?_
                refine CJ_seq ?_
                refine CJ_region ?_
                refine RJ_op rfl (OJ_P (P_move rfl) rfl ?_)
                refine RJ_op rfl (OJ_P (P_move rfl) rfl ?_)
                refine RJ_op rfl (OJ_V (V_index (i := x30) rfl rfl rfl (by omega) foc9 rl Try.runUnderlying59 Try.sizeOf142) rfl ?_)
                refine RJ_op rfl (OJ_P (P_fieldE rfl ⟨_, _, _, Try.runUnderlying142, rfl, rfl, Try.sizeOf3, rfl⟩) rfl ?_)
                refine RJ_op rfl (OJ_V (V_loadE rfl rfl (by omega) foc9 rl rfl rfl Try.isAgg3) rfl ?_)
                refine RJ_op rfl (OJ_P (P_move rfl) rfl ?_)
                refine RJ_op rfl (OJ_V (V_len rfl foc8 rinitial Try.runUnderlying25) rfl ?_)
                refine RJ_op rfl (OJ_P (P_remT (a := ((l.getD x30 (⟨0, 0, 0, 0⟩ : volumegroupmake_Step))).At) (b := ((initial.length : Nat) : Int)) rfl rfl (by omega)) rfl ?_)
                obtain ⟨w31, hw31, h⟩ := lt_e h
                rw [← hw31]
                refine RJ_op rfl (OJ_P (P_move rfl) rfl ?_)
                refine RJ_op rfl (OJ_V (V_len rfl foc8 rinitial Try.runUnderlying25) rfl ?_)
                obtain ⟨hg6, h⟩ := grd_Ie h
                refine RJ_op rfl (OJ_P (P_add (a := w31) (b := ((initial.length : Nat) : Int)) rfl rfl hg6) rfl ?_)
                refine RJ_op rfl (OJ_P (P_move rfl) rfl ?_)
                refine RJ_op rfl (OJ_V (V_len rfl foc8 rinitial Try.runUnderlying25) rfl ?_)
                refine RJ_op rfl (OJ_P (P_remT (a := (w31 + ((initial.length : Nat) : Int))) (b := ((initial.length : Nat) : Int)) rfl rfl (by omega)) rfl ?_)
                refine RJ_op rfl (OJ_P (P_assign rfl) rfl ?_)
                refine RJ_nil ?_
                refine QJ_then ?_
                refine CJ_seq ?_
                refine CJ_region ?_
                refine RJ_op rfl (OJ_P (P_assign rfl) rfl ?_)
                refine RJ_nil ?_
                refine QJ_then ?_
                refine CJ_seq ?_
                refine CJ_seq ?_
                refine CJ_region ?_
                refine RJ_op rfl (OJ_P (P_move rfl) rfl ?_)
                refine RJ_op rfl (OJ_P (P_move rfl) rfl ?_)
                refine RJ_op rfl (OJ_V (V_index (i := x30) rfl rfl rfl (by omega) foc9 rl Try.runUnderlying59 Try.sizeOf142) rfl ?_)
                refine RJ_op rfl (OJ_P (P_fieldE rfl ⟨_, _, _, Try.runUnderlying142, rfl, rfl, Try.sizeOf3, rfl⟩) rfl ?_)
                refine RJ_op rfl (OJ_V (V_loadE rfl rfl (by omega) foc9 rl rfl rfl Try.isAgg3) rfl ?_)
                refine RJ_nil ?_
                refine QJ_then ?_
                refine CJ_block ?_
                refine CJ_seq ?_
                refine CJ_region ?_
                refine RJ_op rfl (OJ_P (P_eql (a := ((l.getD x30 (⟨0, 0, 0, 0⟩ : volumegroupmake_Step))).Kind) (b := (0 : Int)) rfl rfl) rfl ?_)
                refine RJ_op rfl (OJ_P (P_assign rfl) rfl ?_)
                refine RJ_nil ?_
                refine QJ_then ?_
                refine CJ_condP rfl bT_dec (fun hg7 => ?_) (fun hg7 => ?_)
                ·
                  replace h := ite_t hg7 h
                  refine CJ_seq ?_
                  refine AJ_startH 1024 (by kernel_rfl) rfl ?_
                  refine AJ_takeP 0 1 rfl (by kernel_rfl) rfl (GY_none rfl) (P_move rfl) rfl (fun _ _ _ _ h => h) ?_
                  refine AJ_takeP 1 3 rfl (by kernel_rfl) rfl (GY_none rfl) (P_move rfl) rfl (fun _ _ _ _ h => h) ?_
                  refine AJ_takeP 2 7 rfl (by kernel_rfl) rfl (GY_none rfl) (P_move rfl) rfl (fun _ _ _ _ h => h) ?_
                  refine AJ_takeP 3 15 rfl (by kernel_rfl) rfl (GY_none rfl) (P_move rfl) rfl (fun _ _ _ _ h => h) ?_
                  refine AJ_takeV 4 31 rfl (by kernel_rfl) rfl (by kernel_rfl) (by kernel_rfl) (GY_none rfl) (Ent.take del0 (Ent.take del0 (Ent.take del0 (Ent.take del0 (Ent.take del0 (Ent.take del0 (Ent.take del0 (Ent.take del0 (Ent.take del0 (Ent.take del0 Ent.refl)))))))))) (V_index (i := x30) rfl rfl rfl (by omega) foc9 rl Try.runUnderlying59 Try.sizeOf142) rfl (fun _ _ _ _ h => h) ?_
                  refine AJ_takeP 5 63 rfl (by kernel_rfl) rfl (GY_none rfl) (P_fieldE rfl ⟨_, _, _, Try.runUnderlying142, rfl, rfl, Try.sizeOf22, rfl⟩) rfl (fun _ _ _ _ h => h) ?_
                  refine AJ_takeV 6 127 rfl (by kernel_rfl) rfl (by kernel_rfl) (by kernel_rfl) (GY_none rfl) (Ent.take del0 (Ent.take del0 (Ent.take del0 (Ent.take del0 (Ent.take del0 (Ent.take del0 (Ent.take del0 (Ent.take del0 (Ent.take del0 (Ent.take del0 Ent.refl)))))))))) (V_loadE rfl rfl (by omega) foc9 rl rfl rfl Try.isAgg22) rfl (fun _ _ _ _ h => h) ?_
                  refine AJ_takeP 7 255 rfl (by kernel_rfl) rfl (GY_none rfl) (P_makeFunc rfl rfl) rfl (fun _ _ _ _ h => h) ?_
                  rcases opt_e h with ⟨ht32, h⟩ | ⟨o33, ht32, h⟩
                  ·
                    rw [ht32]
                    exact none_e h
                  ·
                    rw [ht32]
                    refine AJ_ent (Ent.takeC (A' := DevP ba o33 dv29) del2 rfl Ent.refl) ?_
                    refine AJ_pure (fun h hh => DevP_nil h (stars_perm (del0 (A := DevP ba o33 dv29)).out h hh)) (fun hnil34 => ?_)
                    refine AJ_takeP 8 511 rfl (by kernel_rfl) rfl (GY_none rfl) (P_nilCheckM hnil34 rfl) rfl (fun _ _ _ _ h => h) ?_
                    refine AJ_takeP 9 1023 rfl (by kernel_rfl) rfl (GY_none rfl) (P_move rfl) rfl (fun _ _ _ _ h => h) ?_
                    refine AJ_pure (fun h hh => DevP_dep h (stars_perm (del0 (A := DevP ba o33 dv29)).out h hh)) (fun hdp35 => ?_)
                    obtain ⟨r36, hr37, h⟩ := bind_e h
                    refine AJ_op 10 2047 rfl (by kernel_rfl) rfl (GY_none rfl) (O_callI rfl (dev_Write hr37 hdp35) rfl (Dels.cons del0 (Dels.cons del0 Dels.nil)) rfl (fun _ _ => ?_))
                    refine ⟨fun h => absurd h (by decide), ?_⟩
                    refine AJ_takeP 11 4095 rfl (by kernel_rfl) rfl (GY_none rfl) (P_assign rfl) rfl (fun _ _ _ _ h => h) ?_
                    refine AJ_done (by kernel_rfl) ?_
                    refine QJ_then ?_
                    refine CJ_region ?_
                    refine RJ_op rfl (OJ_P (P_move rfl) rfl ?_)
                    refine RJ_op rfl (OJ_P (P_move rfl) rfl ?_)
                    refine RJ_op rfl (OJ_P (P_move rfl) rfl ?_)
                    refine RJ_op rfl (OJ_P (P_move rfl) rfl ?_)
                    refine RJ_op rfl (OJ_V (V_index (i := x30) rfl rfl rfl (by omega) foc9 rl Try.runUnderlying59 Try.sizeOf142) rfl ?_)
                    refine RJ_op rfl (OJ_P (P_fieldE rfl ⟨_, _, _, Try.runUnderlying142, rfl, rfl, Try.sizeOf22, rfl⟩) rfl ?_)
                    refine RJ_op rfl (OJ_V (V_loadE rfl rfl (by omega) foc9 rl rfl rfl Try.isAgg22) rfl ?_)
                    refine RJ_op rfl (OJ_P (P_move rfl) rfl ?_)
                    refine RJ_op rfl (OJ_P (P_eql (a := r36.1) (b := (0 : Int)) rfl rfl) rfl ?_)
                    obtain ⟨hg8, h⟩ := grd_de h
                    refine RJ_op rfl (O_call (c_Wrote (smallT_at hg8) (v := ((l.getD x30 (⟨0, 0, 0, 0⟩ : volumegroupmake_Step))).Value)) rfl Try.call79 (Dels.cons del2 Dels.nil) rfl (fun _ _ => ?_))
                    refine RJ_nil ?_
                    refine QJ_block_normal ?_
                    refine QJ_then ?_
                    refine CJ_seq ?_
                    refine CJ_region ?_
                    refine RJ_op rfl (OJ_P (P_move rfl) rfl ?_)
                    refine RJ_op rfl (OJ_P (P_eql (a := r36.1) (b := (5 : Int)) rfl rfl) rfl ?_)
                    refine RJ_nil ?_
                    refine QJ_then ?_
                    refine CJ_condP rfl bT_dec (fun hg9 => ?_) (fun hg9 => ?_)
                    ·
                      replace h := ite_t hg9 h
                      refine CJ_seq ?_
                      refine CJ_region ?_
                      refine RJ_op rfl (OJ_P (P_move rfl) rfl ?_)
                      refine RJ_op rfl (OJ_P (P_move rfl) rfl ?_)
                      refine RJ_op rfl (OJ_P (P_move rfl) rfl ?_)
                      refine RJ_op rfl (OJ_P (P_move rfl) rfl ?_)
                      refine RJ_op rfl (OJ_P (P_move rfl) rfl ?_)
                      refine RJ_op rfl (OJ_V (V_index (i := x30) rfl rfl rfl (by omega) foc9 rl Try.runUnderlying59 Try.sizeOf142) rfl ?_)
                      refine RJ_op rfl (OJ_P (P_fieldE rfl ⟨_, _, _, Try.runUnderlying142, rfl, rfl, Try.sizeOf22, rfl⟩) rfl ?_)
                      refine RJ_op rfl (OJ_V (V_loadE rfl rfl (by omega) foc9 rl rfl rfl Try.isAgg22) rfl ?_)
                      obtain ⟨r38, hr39, h⟩ := bind_e h
                      refine RJ_op rfl (O_call (L_volumegroupmake_Track_Again__volumegrouplaw05_stack_1 ropen_1_c0 hr39) rfl Try.call82 (Dels.cons del0 (Dels.cons del1 (Dels.cons del1 (Dels.cons del1 (Dels.cons del1 (Dels.cons del1 (Dels.cons del1 Dels.nil))))))) rfl (fun X40 _ => ?_))
                      refine RJ_op rfl (OJ_P (P_move rfl) rfl ?_)
                      refine RJ_op rfl (OJ_P (P_extract rfl rfl) rfl ?_)
                      refine RJ_op rfl (OJ_P (P_extract rfl rfl) rfl ?_)
                      refine RJ_op rfl (OJ_P (P_assign rfl) rfl ?_)
                      refine RJ_op rfl (OJ_P (P_assign rfl) rfl ?_)
                      refine RJ_nil ?_
                      refine QJ_then ?_
                      refine CJ_seq ?_
                      refine CJ_region ?_
                      refine RJ_op rfl (OJ_P (P_move rfl) rfl ?_)
                      refine RJ_op rfl (OJ_P (P_not rfl) rfl ?_)
                      refine RJ_nil ?_
                      refine QJ_then ?_
                      refine CJ_condP rfl (bT_not Iff.rfl) (fun hg10 => ?_) (fun hg10 => ?_)
                      ·
                        replace h := ite_t hg10 h
                        refine CJ_seq ?_
                        refine CJ_region ?_
                        refine RJ_op rfl (OJ_P (P_assign rfl) rfl ?_)
                        refine RJ_nil ?_
                        refine QJ_ent (Ent.take del0 (Ent.take del0 (Ent.take del0 (Ent.take del0 (Ent.take del0 (Ent.take del0 (Ent.take del0 (Ent.take del1 (Ent.take del1 (Ent.take del1 (Ent.drop Ent.refl))))))))))) ?_
                        refine QJ_then ?_
                        refine CJ_ret ?_
                        refine QJ_block_ret ?_
                        refine QJ_then_ret ?_
                        refine QJ_round_ret ?_
                        refine QJ_block_ret ?_
                        refine QJ_then_ret ?_
                        have hE := Option.some.inj h
                        replace hE := seq_inr hK21 hE.symm
                        subst hE
                        refine QJ_end (res1 Try.results32 rfl) ?_
                        refine CSpec.close () ?_ ?_ (Ent.take del1 (Ent.take del1 (Ent.take del1 (Ent.take del1 (Ent.take del1 (Ent.take del1 (Ent.take del2 (Ent.take del2 (Ent.drop (Ent.drop Ent.refl))))))))))
                        · rfl
                        · trivial
                      ·
                        replace h := ite_f hg10 h
                        refine CJ_skip ?_
                        refine QJ_block_normal ?_
                        refine QJ_then ?_
                        refine CJ_region ?_
                        refine RJ_op rfl (OJ_P (P_move rfl) rfl ?_)
                        refine RJ_op rfl (OJ_P (PJ_eq (P_add (a := ((x30 : Nat) : Int)) (b := (1 : Int)) rfl rfl (by omega)) rfl) rfl ?_)
                        refine RJ_op rfl (OJ_P (P_assign rfl) rfl ?_)
                        refine RJ_nil ?_
                        refine QJ_nextR ⟨n, r38.2.2.2, r38.2.2.1, r38.1, (x30 + 1), X40⟩ (Nat.lt_succ_self _) ?_ (by repeat (first | exact Kp.base | exact Kp.self | refine Kp.cons rfl ?_ | refine Kp.forget rfl ?_)) ?_ (Ent.take del1 (Ent.take del0 (Ent.take del5 (Ent.take del0 (Ent.take del0 (Ent.take del0 (Ent.take del0 (Ent.take del0 (Ent.take del1 (Ent.take del1 (Ent.drop Ent.refl)))))))))))
                        · exact h
                        · exact ⟨rfl, rfl, True.intro⟩
                    ·
                      replace h := ite_f hg9 h
                      refine CJ_seq ?_
                      refine CJ_region ?_
                      refine RJ_op rfl (OJ_P (P_move rfl) rfl ?_)
                      refine RJ_op rfl (OJ_P (P_neq (a := r36.1) (b := (0 : Int)) rfl rfl) rfl ?_)
                      refine RJ_nil ?_
                      refine QJ_then ?_
                      refine CJ_condP rfl bT_dec (fun hg11 => ?_) (fun hg11 => ?_)
                      ·
                        replace h := ite_t hg11 h
                        refine CJ_seq ?_
                        refine CJ_region ?_
                        refine RJ_op rfl (OJ_P (P_assign rfl) rfl ?_)
                        refine RJ_nil ?_
                        refine QJ_then ?_
                        refine CJ_ret ?_
                        refine QJ_block_ret ?_
                        refine QJ_then_ret ?_
                        refine QJ_round_ret ?_
                        refine QJ_block_ret ?_
                        refine QJ_then_ret ?_
                        have hE := Option.some.inj h
                        replace hE := seq_inr hK21 hE.symm
                        subst hE
                        refine QJ_end (res1 Try.results32 rfl) ?_
                        refine CSpec.close () ?_ ?_ (Ent.take del2 (Ent.take del2 (Ent.take del2 (Ent.take del2 (Ent.take del2 (Ent.take del2 (Ent.take del2 (Ent.take del2 (Ent.drop (Ent.drop Ent.refl))))))))))
                        · rfl
                        · trivial
                      ·
                        replace h := ite_f hg11 h
                        refine CJ_skip ?_
                        refine QJ_block_normal ?_
                        refine QJ_then ?_
                        refine CJ_region ?_
                        refine RJ_op rfl (OJ_P (P_move rfl) rfl ?_)
                        refine RJ_op rfl (OJ_P (PJ_eq (P_add (a := ((x30 : Nat) : Int)) (b := (1 : Int)) rfl rfl (by omega)) rfl) rfl ?_)
                        refine RJ_op rfl (OJ_P (P_assign rfl) rfl ?_)
                        refine RJ_nil ?_
                        refine QJ_ent (Ent.trans (Ent.take del1 Ent.refl) (fun h hh => stars_dup Dup_DevP hh)) ?_
                        refine QJ_ent (Ent.takeC (A' := optP (DevP ba · dv29) (some o33)) del0 rfl Ent.refl) ?_
                        refine QJ_nextR ⟨n, r36.2, (wroteT x27 ((((w31 + ((initial.length : Nat) : Int))).tmod (((initial.length : Nat) : Int)))) (((l.getD x30 (⟨0, 0, 0, 0⟩ : volumegroupmake_Step))).Value) ((decide (r36.1 = (0 : Int))))), (some o33), (x30 + 1), dv29⟩ (Nat.lt_succ_self _) ?_ (by repeat (first | exact Kp.base | exact Kp.self | refine Kp.cons rfl ?_ | refine Kp.forget rfl ?_)) ?_ (Ent.take del3 (Ent.take del2 (Ent.take del0 (Ent.take del1 (Ent.take del1 (Ent.take del1 (Ent.take del1 (Ent.take del1 (Ent.take del1 (Ent.take del1 (Ent.drop Ent.refl)))))))))))
                        · exact h
                        · exact ⟨rfl, rfl, True.intro⟩
                ·
                  replace h := ite_f hg7 h
                  refine CJ_seq ?_
                  refine CJ_region ?_
                  refine RJ_op rfl (OJ_P (P_eql (a := ((l.getD x30 (⟨0, 0, 0, 0⟩ : volumegroupmake_Step))).Kind) (b := (1 : Int)) rfl rfl) rfl ?_)
                  refine RJ_op rfl (OJ_P (P_assign rfl) rfl ?_)
                  refine RJ_nil ?_
                  refine QJ_then ?_
                  refine CJ_condP rfl bT_dec (fun hg12 => ?_) (fun hg12 => ?_)
                  ·
                    replace h := ite_t hg12 h
                    refine CJ_seq ?_
                    refine CJ_region ?_
                    refine RJ_op rfl (OJ_P (P_assign rfl) rfl ?_)
                    refine RJ_nil ?_
                    refine QJ_then ?_
                    refine CJ_seq ?_
                    refine CJ_region ?_
                    refine RJ_op rfl (OJ_P (P_move rfl) rfl ?_)
                    refine RJ_op rfl (OJ_P (P_move rfl) rfl ?_)
                    rcases opt_e h with ⟨ht43, h⟩ | ⟨o44, ht43, h⟩
                    ·
                      rw [ht43]
                      refine RJ_ent (Ent.take del0 (Ent.take del0 (Ent.take del1 (Ent.take del1 (Ent.take del1 (Ent.take del1 (Ent.take del1 (Ent.take del1 (Ent.take del1 (Ent.drop Ent.refl)))))))))) ?_
                      exact none_e h
                    ·
                      rw [ht43]
                      refine RJ_ent (Ent.takeC (A' := DevP ba o44 dv29) del2 rfl Ent.refl) ?_
                      refine RJ_pure (fun h hh => DevP_dep h (stars_perm (del0 (A := DevP ba o44 dv29)).out h hh)) (fun hdp45 => ?_)
                      obtain ⟨r46, hr47, h⟩ := bind_e h
                      refine RJ_op rfl (O_callI rfl (dev_Read hr47 hdp45) rfl (Dels.cons del0 (Dels.cons del0 Dels.nil)) rfl (fun _ _ => ?_))
                      refine RJ_op rfl (OJ_P (P_move rfl) rfl ?_)
                      refine RJ_op rfl (OJ_P (P_extract rfl rfl) rfl ?_)
                      refine RJ_op rfl (OJ_P (P_extract rfl rfl) rfl ?_)
                      refine RJ_op rfl (OJ_P (P_assign rfl) rfl ?_)
                      refine RJ_op rfl (OJ_P (P_assign rfl) rfl ?_)
                      refine RJ_nil ?_
                      refine QJ_then ?_
                      refine CJ_seq ?_
                      refine CJ_region ?_
                      refine RJ_op rfl (OJ_P (P_move rfl) rfl ?_)
                      refine RJ_op rfl (OJ_P (P_eql (a := r46.2) (b := (0 : Int)) rfl rfl) rfl ?_)
                      refine RJ_op rfl (OJ_P (P_move rfl) rfl ?_)
                      refine RJ_splitP 97 rfl bT_dec (fun hg13B hg13 => ?_) (fun hg13B hg13 => ?_)
                      ·
                        replace h := ite_t hg13 h
                        refine RJ_gy (GY_yes rfl rfl rfl hg13B) (OJ_P (P_move rfl) rfl ?_)
                        refine RJ_gy (GY_yes rfl rfl rfl hg13B) (OJ_P (P_move rfl) rfl ?_)
                        refine RJ_gy (GY_yes rfl rfl rfl hg13B) (OJ_P (P_move rfl) rfl ?_)
                        obtain ⟨hg14, h⟩ := grd_de h
                        refine RJ_gy (GY_yes rfl rfl rfl hg13B) (O_call (c_Reads (smallT_at hg14) (v := r46.1)) rfl Try.call80 (Dels.cons del2 Dels.nil) rfl (fun _ _ => ?_))
                        refine RJ_gy (GY_yes rfl rfl rfl hg13B) (OJ_P (P_not rfl) rfl ?_)
                        refine RJ_op rfl (OJ_P (P_pickT rfl hg13B rfl) rfl ?_)
                        refine RJ_nil ?_
                        refine QJ_then ?_
                        refine CJ_condP rfl (bT_not Iff.rfl) (fun hg15 => ?_) (fun hg15 => ?_)
                        ·
                          replace h := ite_t hg15 h
                          refine CJ_seq ?_
                          refine CJ_region ?_
                          refine RJ_op rfl (OJ_P (P_assign rfl) rfl ?_)
                          refine RJ_nil ?_
                          refine QJ_then ?_
                          refine CJ_ret ?_
                          refine QJ_block_ret ?_
                          refine QJ_then_ret ?_
                          refine QJ_block_ret ?_
                          refine QJ_then_ret ?_
                          refine QJ_round_ret ?_
                          refine QJ_block_ret ?_
                          refine QJ_then_ret ?_
                          have hE := Option.some.inj h
                          replace hE := seq_inr hK21 hE.symm
                          subst hE
                          refine QJ_end (res1 Try.results32 rfl) ?_
                          refine CSpec.close () ?_ ?_ (Ent.take del2 (Ent.take del2 (Ent.take del2 (Ent.take del2 (Ent.take del2 (Ent.take del2 (Ent.take del2 (Ent.take del2 (Ent.drop (Ent.drop Ent.refl))))))))))
                          · rfl
                          · trivial
                        ·
                          replace h := ite_f hg15 h
                          refine CJ_skip ?_
                          refine QJ_block_normal ?_
                          refine QJ_then ?_
                          refine CJ_seq ?_
                          refine CJ_region ?_
                          refine RJ_op rfl (OJ_P (P_move rfl) rfl ?_)
                          refine RJ_op rfl (OJ_P (P_eql (a := r46.2) (b := (5 : Int)) rfl rfl) rfl ?_)
                          refine RJ_nil ?_
                          refine QJ_then ?_
                          refine CJ_condP rfl bT_dec (fun hg16 => ?_) (fun hg16 => ?_)
                          ·
                            replace h := ite_t hg16 h
                            refine CJ_seq ?_
                            refine CJ_region ?_
                            refine RJ_op rfl (OJ_P (P_move rfl) rfl ?_)
                            refine RJ_op rfl (OJ_P (P_move rfl) rfl ?_)
                            refine RJ_op rfl (OJ_P (P_move rfl) rfl ?_)
                            refine RJ_op rfl (OJ_P (P_move rfl) rfl ?_)
                            refine RJ_op rfl (OJ_P (P_move rfl) rfl ?_)
                            refine RJ_op rfl (OJ_V (V_index (i := x30) rfl rfl rfl (by omega) foc9 rl Try.runUnderlying59 Try.sizeOf142) rfl ?_)
                            refine RJ_op rfl (OJ_P (P_fieldE rfl ⟨_, _, _, Try.runUnderlying142, rfl, rfl, Try.sizeOf22, rfl⟩) rfl ?_)
                            refine RJ_op rfl (OJ_V (V_loadE rfl rfl (by omega) foc9 rl rfl rfl Try.isAgg22) rfl ?_)
                            obtain ⟨r48, hr49, h⟩ := bind_e h
                            refine RJ_op rfl (O_call (L_volumegroupmake_Track_Again__volumegrouplaw05_stack_1 ropen_1_c0 hr49) rfl Try.call82 (Dels.cons del0 (Dels.cons del1 (Dels.cons del1 (Dels.cons del1 (Dels.cons del1 (Dels.cons del1 (Dels.cons del1 Dels.nil))))))) rfl (fun X50 _ => ?_))
                            refine RJ_op rfl (OJ_P (P_move rfl) rfl ?_)
                            refine RJ_op rfl (OJ_P (P_extract rfl rfl) rfl ?_)
                            refine RJ_op rfl (OJ_P (P_extract rfl rfl) rfl ?_)
                            refine RJ_op rfl (OJ_P (P_assign rfl) rfl ?_)
                            refine RJ_op rfl (OJ_P (P_assign rfl) rfl ?_)
                            refine RJ_nil ?_
                            refine QJ_then ?_
                            refine CJ_seq ?_
                            refine CJ_region ?_
                            refine RJ_op rfl (OJ_P (P_move rfl) rfl ?_)
                            refine RJ_op rfl (OJ_P (P_not rfl) rfl ?_)
                            refine RJ_nil ?_
                            refine QJ_then ?_
                            refine CJ_condP rfl (bT_not Iff.rfl) (fun hg17 => ?_) (fun hg17 => ?_)
                            ·
                              replace h := ite_t hg17 h
                              refine CJ_seq ?_
                              refine CJ_region ?_
                              refine RJ_op rfl (OJ_P (P_assign rfl) rfl ?_)
                              refine RJ_nil ?_
                              refine QJ_ent (Ent.take del0 (Ent.take del0 (Ent.take del0 (Ent.take del0 (Ent.take del0 (Ent.take del0 (Ent.take del0 (Ent.take del1 (Ent.take del1 (Ent.take del1 (Ent.drop Ent.refl))))))))))) ?_
                              refine QJ_then ?_
                              refine CJ_ret ?_
                              refine QJ_block_ret ?_
                              refine QJ_then_ret ?_
                              refine QJ_round_ret ?_
                              refine QJ_block_ret ?_
                              refine QJ_then_ret ?_
                              have hE := Option.some.inj h
                              replace hE := seq_inr hK21 hE.symm
                              subst hE
                              refine QJ_end (res1 Try.results32 rfl) ?_
                              refine CSpec.close () ?_ ?_ (Ent.take del1 (Ent.take del1 (Ent.take del1 (Ent.take del1 (Ent.take del1 (Ent.take del1 (Ent.take del2 (Ent.take del2 (Ent.drop (Ent.drop Ent.refl))))))))))
                              · rfl
                              · trivial
                            ·
                              replace h := ite_f hg17 h
                              refine CJ_skip ?_
                              refine QJ_block_normal ?_
                              refine QJ_then ?_
                              refine CJ_region ?_
                              refine RJ_op rfl (OJ_P (P_move rfl) rfl ?_)
                              refine RJ_op rfl (OJ_P (PJ_eq (P_add (a := ((x30 : Nat) : Int)) (b := (1 : Int)) rfl rfl (by omega)) rfl) rfl ?_)
                              refine RJ_op rfl (OJ_P (P_assign rfl) rfl ?_)
                              refine RJ_nil ?_
                              refine QJ_nextR ⟨n, r48.2.2.2, r48.2.2.1, r48.1, (x30 + 1), X50⟩ (Nat.lt_succ_self _) ?_ (by repeat (first | exact Kp.base | exact Kp.self | refine Kp.cons rfl ?_ | refine Kp.forget rfl ?_)) ?_ (Ent.take del1 (Ent.take del0 (Ent.take del5 (Ent.take del0 (Ent.take del0 (Ent.take del0 (Ent.take del0 (Ent.take del0 (Ent.take del1 (Ent.take del1 (Ent.drop Ent.refl)))))))))))
                              · exact h
                              · exact ⟨rfl, rfl, True.intro⟩
                          ·
                            replace h := ite_f hg16 h
                            refine CJ_seq ?_
                            refine CJ_region ?_
                            refine RJ_op rfl (OJ_P (P_move rfl) rfl ?_)
                            refine RJ_op rfl (OJ_P (P_neq (a := r46.2) (b := (0 : Int)) rfl rfl) rfl ?_)
                            refine RJ_nil ?_
                            refine QJ_then ?_
                            refine CJ_condP rfl bT_dec (fun hg18 => ?_) (fun hg18 => ?_)
                            ·
                              replace h := ite_t hg18 h
                              refine CJ_seq ?_
                              refine CJ_region ?_
                              refine RJ_op rfl (OJ_P (P_assign rfl) rfl ?_)
                              refine RJ_nil ?_
                              refine QJ_then ?_
                              refine CJ_ret ?_
                              refine QJ_block_ret ?_
                              refine QJ_then_ret ?_
                              refine QJ_round_ret ?_
                              refine QJ_block_ret ?_
                              refine QJ_then_ret ?_
                              have hE := Option.some.inj h
                              replace hE := seq_inr hK21 hE.symm
                              subst hE
                              refine QJ_end (res1 Try.results32 rfl) ?_
                              refine CSpec.close () ?_ ?_ (Ent.take del2 (Ent.take del2 (Ent.take del2 (Ent.take del2 (Ent.take del2 (Ent.take del2 (Ent.take del2 (Ent.take del2 (Ent.drop (Ent.drop Ent.refl))))))))))
                              · rfl
                              · trivial
                            ·
                              replace h := ite_f hg18 h
                              refine CJ_skip ?_
                              refine QJ_block_normal ?_
                              refine QJ_then ?_
                              refine CJ_region ?_
                              refine RJ_op rfl (OJ_P (P_move rfl) rfl ?_)
                              refine RJ_op rfl (OJ_P (PJ_eq (P_add (a := ((x30 : Nat) : Int)) (b := (1 : Int)) rfl rfl (by omega)) rfl) rfl ?_)
                              refine RJ_op rfl (OJ_P (P_assign rfl) rfl ?_)
                              refine RJ_nil ?_
                              refine QJ_ent (Ent.trans (Ent.take del1 Ent.refl) (fun h hh => stars_dup Dup_DevP hh)) ?_
                              refine QJ_ent (Ent.takeC (A' := optP (DevP ba · dv29) (some o44)) del0 rfl Ent.refl) ?_
                              refine QJ_nextR ⟨n, x26, (rdTS x27 ((((w31 + ((initial.length : Nat) : Int))).tmod (((initial.length : Nat) : Int)))) r46.1 false), (some o44), (x30 + 1), dv29⟩ (Nat.lt_succ_self _) ?_ (by repeat (first | exact Kp.base | exact Kp.self | refine Kp.cons rfl ?_ | refine Kp.forget rfl ?_)) ?_ (Ent.take del3 (Ent.take del2 (Ent.take del0 (Ent.take del1 (Ent.take del1 (Ent.take del1 (Ent.take del1 (Ent.take del1 (Ent.take del1 (Ent.take del1 (Ent.drop Ent.refl)))))))))))
                              · exact h
                              · exact ⟨rfl, rfl, True.intro⟩
                      ·
                        replace h := ite_f hg13 h
                        refine RJ_gn (GY_no rfl rfl rfl hg13B) rfl rfl ?_
                        refine RJ_gn (GY_no rfl rfl rfl hg13B) rfl rfl ?_
                        refine RJ_gn (GY_no rfl rfl rfl hg13B) rfl rfl ?_
                        refine RJ_gn (GY_no rfl rfl rfl hg13B) rfl rfl ?_
                        refine RJ_gn (GY_no rfl rfl rfl hg13B) rfl rfl ?_
                        refine RJ_op rfl (OJ_P (P_pickF rfl hg13B rfl) rfl ?_)
                        refine RJ_nil ?_
                        refine QJ_then ?_
                        refine CJ_condF rfl rfl ?_
                        refine CJ_skip ?_
                        refine QJ_block_normal ?_
                        refine QJ_then ?_
                        refine CJ_seq ?_
                        refine CJ_region ?_
                        refine RJ_op rfl (OJ_P (P_move rfl) rfl ?_)
                        refine RJ_op rfl (OJ_P (P_eql (a := r46.2) (b := (5 : Int)) rfl rfl) rfl ?_)
                        refine RJ_nil ?_
                        refine QJ_then ?_
                        refine CJ_condP rfl bT_dec (fun hg19 => ?_) (fun hg19 => ?_)
                        ·
                          replace h := ite_t hg19 h
                          refine CJ_seq ?_
                          refine CJ_region ?_
                          refine RJ_op rfl (OJ_P (P_move rfl) rfl ?_)
                          refine RJ_op rfl (OJ_P (P_move rfl) rfl ?_)
                          refine RJ_op rfl (OJ_P (P_move rfl) rfl ?_)
                          refine RJ_op rfl (OJ_P (P_move rfl) rfl ?_)
                          refine RJ_op rfl (OJ_P (P_move rfl) rfl ?_)
                          refine RJ_op rfl (OJ_V (V_index (i := x30) rfl rfl rfl (by omega) foc9 rl Try.runUnderlying59 Try.sizeOf142) rfl ?_)
                          refine RJ_op rfl (OJ_P (P_fieldE rfl ⟨_, _, _, Try.runUnderlying142, rfl, rfl, Try.sizeOf22, rfl⟩) rfl ?_)
                          refine RJ_op rfl (OJ_V (V_loadE rfl rfl (by omega) foc9 rl rfl rfl Try.isAgg22) rfl ?_)
                          obtain ⟨r53, hr54, h⟩ := bind_e h
                          refine RJ_op rfl (O_call (L_volumegroupmake_Track_Again__volumegrouplaw05_stack_1 ropen_1_c0 hr54) rfl Try.call82 (Dels.cons del2 (Dels.cons del1 (Dels.cons del1 (Dels.cons del1 (Dels.cons del1 (Dels.cons del1 (Dels.cons del1 Dels.nil))))))) rfl (fun X55 _ => ?_))
                          refine RJ_op rfl (OJ_P (P_move rfl) rfl ?_)
                          refine RJ_op rfl (OJ_P (P_extract rfl rfl) rfl ?_)
                          refine RJ_op rfl (OJ_P (P_extract rfl rfl) rfl ?_)
                          refine RJ_op rfl (OJ_P (P_assign rfl) rfl ?_)
                          refine RJ_op rfl (OJ_P (P_assign rfl) rfl ?_)
                          refine RJ_nil ?_
                          refine QJ_then ?_
                          refine CJ_seq ?_
                          refine CJ_region ?_
                          refine RJ_op rfl (OJ_P (P_move rfl) rfl ?_)
                          refine RJ_op rfl (OJ_P (P_not rfl) rfl ?_)
                          refine RJ_nil ?_
                          refine QJ_then ?_
                          refine CJ_condP rfl (bT_not Iff.rfl) (fun hg20 => ?_) (fun hg20 => ?_)
                          ·
                            replace h := ite_t hg20 h
                            refine CJ_seq ?_
                            refine CJ_region ?_
                            refine RJ_op rfl (OJ_P (P_assign rfl) rfl ?_)
                            refine RJ_nil ?_
                            refine QJ_ent (Ent.take del0 (Ent.take del0 (Ent.take del0 (Ent.take del0 (Ent.take del0 (Ent.take del0 (Ent.take del0 (Ent.take del1 (Ent.take del1 (Ent.take del1 (Ent.drop Ent.refl))))))))))) ?_
                            refine QJ_then ?_
                            refine CJ_ret ?_
                            refine QJ_block_ret ?_
                            refine QJ_then_ret ?_
                            refine QJ_round_ret ?_
                            refine QJ_block_ret ?_
                            refine QJ_then_ret ?_
                            have hE := Option.some.inj h
                            replace hE := seq_inr hK21 hE.symm
                            subst hE
                            refine QJ_end (res1 Try.results32 rfl) ?_
                            refine CSpec.close () ?_ ?_ (Ent.take del1 (Ent.take del1 (Ent.take del1 (Ent.take del1 (Ent.take del1 (Ent.take del1 (Ent.take del2 (Ent.take del2 (Ent.drop (Ent.drop Ent.refl))))))))))
                            · rfl
                            · trivial
                          ·
                            replace h := ite_f hg20 h
                            refine CJ_skip ?_
                            refine QJ_block_normal ?_
                            refine QJ_then ?_
                            refine CJ_region ?_
                            refine RJ_op rfl (OJ_P (P_move rfl) rfl ?_)
                            refine RJ_op rfl (OJ_P (PJ_eq (P_add (a := ((x30 : Nat) : Int)) (b := (1 : Int)) rfl rfl (by omega)) rfl) rfl ?_)
                            refine RJ_op rfl (OJ_P (P_assign rfl) rfl ?_)
                            refine RJ_nil ?_
                            refine QJ_nextR ⟨n, r53.2.2.2, r53.2.2.1, r53.1, (x30 + 1), X55⟩ (Nat.lt_succ_self _) ?_ (by repeat (first | exact Kp.base | exact Kp.self | refine Kp.cons rfl ?_ | refine Kp.forget rfl ?_)) ?_ (Ent.take del1 (Ent.take del0 (Ent.take del5 (Ent.take del0 (Ent.take del0 (Ent.take del0 (Ent.take del0 (Ent.take del0 (Ent.take del1 (Ent.take del1 (Ent.drop Ent.refl)))))))))))
                            · exact h
                            · exact ⟨rfl, rfl, True.intro⟩
                        ·
                          replace h := ite_f hg19 h
                          refine CJ_seq ?_
                          refine CJ_region ?_
                          refine RJ_op rfl (OJ_P (P_move rfl) rfl ?_)
                          refine RJ_op rfl (OJ_P (P_neq (a := r46.2) (b := (0 : Int)) rfl rfl) rfl ?_)
                          refine RJ_nil ?_
                          refine QJ_then ?_
                          refine CJ_condP rfl bT_dec (fun hg21 => ?_) (fun hg21 => ?_)
                          ·
                            replace h := ite_t hg21 h
                            refine CJ_seq ?_
                            refine CJ_region ?_
                            refine RJ_op rfl (OJ_P (P_assign rfl) rfl ?_)
                            refine RJ_nil ?_
                            refine QJ_then ?_
                            refine CJ_ret ?_
                            refine QJ_block_ret ?_
                            refine QJ_then_ret ?_
                            refine QJ_round_ret ?_
                            refine QJ_block_ret ?_
                            refine QJ_then_ret ?_
                            have hE := Option.some.inj h
                            replace hE := seq_inr hK21 hE.symm
                            subst hE
                            refine QJ_end (res1 Try.results32 rfl) ?_
                            refine CSpec.close () ?_ ?_ (Ent.take del1 (Ent.take del2 (Ent.take del2 (Ent.take del2 (Ent.take del2 (Ent.take del2 (Ent.take del2 (Ent.take del2 (Ent.drop (Ent.drop Ent.refl))))))))))
                            · rfl
                            · trivial
                          ·
                            replace h := ite_f hg21 h
                            refine CJ_skip ?_
                            refine QJ_block_normal ?_
                            refine QJ_then ?_
                            refine CJ_region ?_
                            refine RJ_op rfl (OJ_P (P_move rfl) rfl ?_)
                            refine RJ_op rfl (OJ_P (PJ_eq (P_add (a := ((x30 : Nat) : Int)) (b := (1 : Int)) rfl rfl (by omega)) rfl) rfl ?_)
                            refine RJ_op rfl (OJ_P (P_assign rfl) rfl ?_)
                            refine RJ_nil ?_
                            refine QJ_ent (Ent.trans (Ent.take del0 Ent.refl) (fun h hh => stars_dup Dup_DevP hh)) ?_
                            refine QJ_ent (Ent.takeC (A' := optP (DevP ba · dv29) (some o44)) del0 rfl Ent.refl) ?_
                            refine QJ_nextR ⟨n, x26, x27, (some o44), (x30 + 1), dv29⟩ (Nat.lt_succ_self _) ?_ (by repeat (first | exact Kp.base | exact Kp.self | refine Kp.cons rfl ?_ | refine Kp.forget rfl ?_)) ?_ (Ent.take del2 (Ent.take del2 (Ent.take del0 (Ent.take del1 (Ent.take del1 (Ent.take del1 (Ent.take del1 (Ent.take del1 (Ent.take del1 (Ent.take del1 (Ent.drop Ent.refl)))))))))))
                            · exact h
                            · exact ⟨rfl, rfl, True.intro⟩
                  ·
                    replace h := ite_f hg12 h
                    refine CJ_seq ?_
                    refine CJ_region ?_
                    refine RJ_op rfl (OJ_P (P_eql (a := ((l.getD x30 (⟨0, 0, 0, 0⟩ : volumegroupmake_Step))).Kind) (b := (2 : Int)) rfl rfl) rfl ?_)
                    refine RJ_op rfl (OJ_P (P_assign rfl) rfl ?_)
                    refine RJ_nil ?_
                    refine QJ_then ?_
                    refine CJ_condP rfl bT_dec (fun hg22 => ?_) (fun hg22 => ?_)
                    ·
                      replace h := ite_t hg22 h
                      refine CJ_seq ?_
                      refine CJ_region ?_
                      refine RJ_op rfl (OJ_P (P_move rfl) rfl ?_)
                      rcases opt_e h with ⟨ht58, h⟩ | ⟨o59, ht58, h⟩
                      ·
                        rw [ht58]
                        refine RJ_ent (Ent.take del0 (Ent.take del0 (Ent.take del1 (Ent.take del1 (Ent.take del1 (Ent.take del1 (Ent.take del1 (Ent.take del1 (Ent.take del1 (Ent.drop Ent.refl)))))))))) ?_
                        exact none_e h
                      ·
                        rw [ht58]
                        refine RJ_ent (Ent.takeC (A' := DevP ba o59 dv29) del2 rfl Ent.refl) ?_
                        refine RJ_pure (fun h hh => DevP_dep h (stars_perm (del0 (A := DevP ba o59 dv29)).out h hh)) (fun hdp60 => ?_)
                        obtain ⟨r61, hr62, h⟩ := bind_e h
                        refine RJ_op rfl (O_callI rfl (dev_Flush hr62 hdp60) rfl (Dels.cons del0 (Dels.cons del0 Dels.nil)) rfl (fun _ _ => ?_))
                        refine RJ_op rfl (OJ_P (P_assign rfl) rfl ?_)
                        refine RJ_nil ?_
                        refine QJ_then ?_
                        refine CJ_seq ?_
                        refine CJ_region ?_
                        refine RJ_op rfl (OJ_P (P_move rfl) rfl ?_)
                        refine RJ_op rfl (OJ_P (P_eql (a := r61.1) (b := (0 : Int)) rfl rfl) rfl ?_)
                        refine RJ_nil ?_
                        refine QJ_then ?_
                        refine CJ_condP rfl bT_dec (fun hg23 => ?_) (fun hg23 => ?_)
                        ·
                          replace h := ite_t hg23 h
                          refine CJ_region ?_
                          refine RJ_op rfl (OJ_P (P_move rfl) rfl ?_)
                          refine RJ_op rfl (O_call (c_Flushed) rfl Try.call81 (Dels.cons del2 Dels.nil) rfl (fun _ _ => ?_))
                          refine RJ_nil ?_
                          refine QJ_block_normal ?_
                          refine QJ_then ?_
                          refine CJ_seq ?_
                          refine CJ_region ?_
                          refine RJ_op rfl (OJ_P (P_move rfl) rfl ?_)
                          refine RJ_op rfl (OJ_P (P_eql (a := r61.1) (b := (5 : Int)) rfl rfl) rfl ?_)
                          refine RJ_nil ?_
                          refine QJ_then ?_
                          refine CJ_condP rfl bT_dec (fun hg24 => ?_) (fun hg24 => ?_)
                          ·
                            replace h := ite_t hg24 h
                            refine CJ_seq ?_
                            refine CJ_region ?_
                            refine RJ_op rfl (OJ_P (P_move rfl) rfl ?_)
                            refine RJ_op rfl (OJ_P (P_move rfl) rfl ?_)
                            refine RJ_op rfl (OJ_P (P_move rfl) rfl ?_)
                            refine RJ_op rfl (OJ_P (P_move rfl) rfl ?_)
                            refine RJ_op rfl (OJ_P (P_move rfl) rfl ?_)
                            refine RJ_op rfl (OJ_V (V_index (i := x30) rfl rfl rfl (by omega) foc9 rl Try.runUnderlying59 Try.sizeOf142) rfl ?_)
                            refine RJ_op rfl (OJ_P (P_fieldE rfl ⟨_, _, _, Try.runUnderlying142, rfl, rfl, Try.sizeOf22, rfl⟩) rfl ?_)
                            refine RJ_op rfl (OJ_V (V_loadE rfl rfl (by omega) foc9 rl rfl rfl Try.isAgg22) rfl ?_)
                            obtain ⟨r63, hr64, h⟩ := bind_e h
                            refine RJ_op rfl (O_call (L_volumegroupmake_Track_Again__volumegrouplaw05_stack_1 ropen_1_c0 hr64) rfl Try.call82 (Dels.cons del0 (Dels.cons del1 (Dels.cons del1 (Dels.cons del1 (Dels.cons del1 (Dels.cons del1 (Dels.cons del1 Dels.nil))))))) rfl (fun X65 _ => ?_))
                            refine RJ_op rfl (OJ_P (P_move rfl) rfl ?_)
                            refine RJ_op rfl (OJ_P (P_extract rfl rfl) rfl ?_)
                            refine RJ_op rfl (OJ_P (P_extract rfl rfl) rfl ?_)
                            refine RJ_op rfl (OJ_P (P_assign rfl) rfl ?_)
                            refine RJ_op rfl (OJ_P (P_assign rfl) rfl ?_)
                            refine RJ_nil ?_
                            refine QJ_then ?_
                            refine CJ_seq ?_
                            refine CJ_region ?_
                            refine RJ_op rfl (OJ_P (P_move rfl) rfl ?_)
                            refine RJ_op rfl (OJ_P (P_not rfl) rfl ?_)
                            refine RJ_nil ?_
                            refine QJ_then ?_
                            refine CJ_condP rfl (bT_not Iff.rfl) (fun hg25 => ?_) (fun hg25 => ?_)
                            ·
                              replace h := ite_t hg25 h
                              refine CJ_seq ?_
                              refine CJ_region ?_
                              refine RJ_op rfl (OJ_P (P_assign rfl) rfl ?_)
                              refine RJ_nil ?_
                              refine QJ_ent (Ent.take del0 (Ent.take del0 (Ent.take del0 (Ent.take del0 (Ent.take del0 (Ent.take del0 (Ent.take del0 (Ent.take del1 (Ent.take del1 (Ent.take del1 (Ent.drop Ent.refl))))))))))) ?_
                              refine QJ_then ?_
                              refine CJ_ret ?_
                              refine QJ_block_ret ?_
                              refine QJ_then_ret ?_
                              refine QJ_round_ret ?_
                              refine QJ_block_ret ?_
                              refine QJ_then_ret ?_
                              have hE := Option.some.inj h
                              replace hE := seq_inr hK21 hE.symm
                              subst hE
                              refine QJ_end (res1 Try.results32 rfl) ?_
                              refine CSpec.close () ?_ ?_ (Ent.take del1 (Ent.take del1 (Ent.take del1 (Ent.take del1 (Ent.take del1 (Ent.take del1 (Ent.take del2 (Ent.take del2 (Ent.drop (Ent.drop Ent.refl))))))))))
                              · rfl
                              · trivial
                            ·
                              replace h := ite_f hg25 h
                              refine CJ_skip ?_
                              refine QJ_block_normal ?_
                              refine QJ_then ?_
                              refine CJ_region ?_
                              refine RJ_op rfl (OJ_P (P_move rfl) rfl ?_)
                              refine RJ_op rfl (OJ_P (PJ_eq (P_add (a := ((x30 : Nat) : Int)) (b := (1 : Int)) rfl rfl (by omega)) rfl) rfl ?_)
                              refine RJ_op rfl (OJ_P (P_assign rfl) rfl ?_)
                              refine RJ_nil ?_
                              refine QJ_nextR ⟨n, r63.2.2.2, r63.2.2.1, r63.1, (x30 + 1), X65⟩ (Nat.lt_succ_self _) ?_ (by repeat (first | exact Kp.base | exact Kp.self | refine Kp.cons rfl ?_ | refine Kp.forget rfl ?_)) ?_ (Ent.take del1 (Ent.take del0 (Ent.take del5 (Ent.take del0 (Ent.take del0 (Ent.take del0 (Ent.take del0 (Ent.take del0 (Ent.take del1 (Ent.take del1 (Ent.drop Ent.refl)))))))))))
                              · exact h
                              · exact ⟨rfl, rfl, True.intro⟩
                          ·
                            replace h := ite_f hg24 h
                            refine CJ_seq ?_
                            refine CJ_region ?_
                            refine RJ_op rfl (OJ_P (P_move rfl) rfl ?_)
                            refine RJ_op rfl (OJ_P (P_neq (a := r61.1) (b := (0 : Int)) rfl rfl) rfl ?_)
                            refine RJ_nil ?_
                            refine QJ_then ?_
                            refine CJ_condP rfl bT_dec (fun hg26 => ?_) (fun hg26 => ?_)
                            ·
                              replace h := ite_t hg26 h
                              refine CJ_seq ?_
                              refine CJ_region ?_
                              refine RJ_op rfl (OJ_P (P_assign rfl) rfl ?_)
                              refine RJ_nil ?_
                              refine QJ_then ?_
                              refine CJ_ret ?_
                              refine QJ_block_ret ?_
                              refine QJ_then_ret ?_
                              refine QJ_round_ret ?_
                              refine QJ_block_ret ?_
                              refine QJ_then_ret ?_
                              have hE := Option.some.inj h
                              replace hE := seq_inr hK21 hE.symm
                              subst hE
                              refine QJ_end (res1 Try.results32 rfl) ?_
                              refine CSpec.close () ?_ ?_ (Ent.take del2 (Ent.take del2 (Ent.take del2 (Ent.take del2 (Ent.take del2 (Ent.take del2 (Ent.take del2 (Ent.take del2 (Ent.drop (Ent.drop Ent.refl))))))))))
                              · rfl
                              · trivial
                            ·
                              replace h := ite_f hg26 h
                              refine CJ_skip ?_
                              refine QJ_block_normal ?_
                              refine QJ_then ?_
                              refine CJ_region ?_
                              refine RJ_op rfl (OJ_P (P_move rfl) rfl ?_)
                              refine RJ_op rfl (OJ_P (PJ_eq (P_add (a := ((x30 : Nat) : Int)) (b := (1 : Int)) rfl rfl (by omega)) rfl) rfl ?_)
                              refine RJ_op rfl (OJ_P (P_assign rfl) rfl ?_)
                              refine RJ_nil ?_
                              refine QJ_ent (Ent.trans (Ent.take del1 Ent.refl) (fun h hh => stars_dup Dup_DevP hh)) ?_
                              refine QJ_ent (Ent.takeC (A' := optP (DevP ba · dv29) (some o59)) del0 rfl Ent.refl) ?_
                              refine QJ_nextR ⟨n, r61.2, (flushedT x27), (some o59), (x30 + 1), dv29⟩ (Nat.lt_succ_self _) ?_ (by repeat (first | exact Kp.base | exact Kp.self | refine Kp.cons rfl ?_ | refine Kp.forget rfl ?_)) ?_ (Ent.take del3 (Ent.take del2 (Ent.take del0 (Ent.take del1 (Ent.take del1 (Ent.take del1 (Ent.take del1 (Ent.take del1 (Ent.take del1 (Ent.take del1 (Ent.drop Ent.refl)))))))))))
                              · exact h
                              · exact ⟨rfl, rfl, True.intro⟩
                        ·
                          replace h := ite_f hg23 h
                          refine CJ_skip ?_
                          refine QJ_block_normal ?_
                          refine QJ_then ?_
                          refine CJ_seq ?_
                          refine CJ_region ?_
                          refine RJ_op rfl (OJ_P (P_move rfl) rfl ?_)
                          refine RJ_op rfl (OJ_P (P_eql (a := r61.1) (b := (5 : Int)) rfl rfl) rfl ?_)
                          refine RJ_nil ?_
                          refine QJ_then ?_
                          refine CJ_condP rfl bT_dec (fun hg27 => ?_) (fun hg27 => ?_)
                          ·
                            replace h := ite_t hg27 h
                            refine CJ_seq ?_
                            refine CJ_region ?_
                            refine RJ_op rfl (OJ_P (P_move rfl) rfl ?_)
                            refine RJ_op rfl (OJ_P (P_move rfl) rfl ?_)
                            refine RJ_op rfl (OJ_P (P_move rfl) rfl ?_)
                            refine RJ_op rfl (OJ_P (P_move rfl) rfl ?_)
                            refine RJ_op rfl (OJ_P (P_move rfl) rfl ?_)
                            refine RJ_op rfl (OJ_V (V_index (i := x30) rfl rfl rfl (by omega) foc9 rl Try.runUnderlying59 Try.sizeOf142) rfl ?_)
                            refine RJ_op rfl (OJ_P (P_fieldE rfl ⟨_, _, _, Try.runUnderlying142, rfl, rfl, Try.sizeOf22, rfl⟩) rfl ?_)
                            refine RJ_op rfl (OJ_V (V_loadE rfl rfl (by omega) foc9 rl rfl rfl Try.isAgg22) rfl ?_)
                            obtain ⟨r68, hr69, h⟩ := bind_e h
                            refine RJ_op rfl (O_call (L_volumegroupmake_Track_Again__volumegrouplaw05_stack_1 ropen_1_c0 hr69) rfl Try.call82 (Dels.cons del2 (Dels.cons del1 (Dels.cons del1 (Dels.cons del1 (Dels.cons del1 (Dels.cons del1 (Dels.cons del1 Dels.nil))))))) rfl (fun X70 _ => ?_))
                            refine RJ_op rfl (OJ_P (P_move rfl) rfl ?_)
                            refine RJ_op rfl (OJ_P (P_extract rfl rfl) rfl ?_)
                            refine RJ_op rfl (OJ_P (P_extract rfl rfl) rfl ?_)
                            refine RJ_op rfl (OJ_P (P_assign rfl) rfl ?_)
                            refine RJ_op rfl (OJ_P (P_assign rfl) rfl ?_)
                            refine RJ_nil ?_
                            refine QJ_then ?_
                            refine CJ_seq ?_
                            refine CJ_region ?_
                            refine RJ_op rfl (OJ_P (P_move rfl) rfl ?_)
                            refine RJ_op rfl (OJ_P (P_not rfl) rfl ?_)
                            refine RJ_nil ?_
                            refine QJ_then ?_
                            refine CJ_condP rfl (bT_not Iff.rfl) (fun hg28 => ?_) (fun hg28 => ?_)
                            ·
                              replace h := ite_t hg28 h
                              refine CJ_seq ?_
                              refine CJ_region ?_
                              refine RJ_op rfl (OJ_P (P_assign rfl) rfl ?_)
                              refine RJ_nil ?_
                              refine QJ_ent (Ent.take del0 (Ent.take del0 (Ent.take del0 (Ent.take del0 (Ent.take del0 (Ent.take del0 (Ent.take del0 (Ent.take del1 (Ent.take del1 (Ent.take del1 (Ent.drop Ent.refl))))))))))) ?_
                              refine QJ_then ?_
                              refine CJ_ret ?_
                              refine QJ_block_ret ?_
                              refine QJ_then_ret ?_
                              refine QJ_round_ret ?_
                              refine QJ_block_ret ?_
                              refine QJ_then_ret ?_
                              have hE := Option.some.inj h
                              replace hE := seq_inr hK21 hE.symm
                              subst hE
                              refine QJ_end (res1 Try.results32 rfl) ?_
                              refine CSpec.close () ?_ ?_ (Ent.take del1 (Ent.take del1 (Ent.take del1 (Ent.take del1 (Ent.take del1 (Ent.take del1 (Ent.take del2 (Ent.take del2 (Ent.drop (Ent.drop Ent.refl))))))))))
                              · rfl
                              · trivial
                            ·
                              replace h := ite_f hg28 h
                              refine CJ_skip ?_
                              refine QJ_block_normal ?_
                              refine QJ_then ?_
                              refine CJ_region ?_
                              refine RJ_op rfl (OJ_P (P_move rfl) rfl ?_)
                              refine RJ_op rfl (OJ_P (PJ_eq (P_add (a := ((x30 : Nat) : Int)) (b := (1 : Int)) rfl rfl (by omega)) rfl) rfl ?_)
                              refine RJ_op rfl (OJ_P (P_assign rfl) rfl ?_)
                              refine RJ_nil ?_
                              refine QJ_nextR ⟨n, r68.2.2.2, r68.2.2.1, r68.1, (x30 + 1), X70⟩ (Nat.lt_succ_self _) ?_ (by repeat (first | exact Kp.base | exact Kp.self | refine Kp.cons rfl ?_ | refine Kp.forget rfl ?_)) ?_ (Ent.take del1 (Ent.take del0 (Ent.take del5 (Ent.take del0 (Ent.take del0 (Ent.take del0 (Ent.take del0 (Ent.take del0 (Ent.take del1 (Ent.take del1 (Ent.drop Ent.refl)))))))))))
                              · exact h
                              · exact ⟨rfl, rfl, True.intro⟩
                          ·
                            replace h := ite_f hg27 h
                            refine CJ_seq ?_
                            refine CJ_region ?_
                            refine RJ_op rfl (OJ_P (P_move rfl) rfl ?_)
                            refine RJ_op rfl (OJ_P (P_neq (a := r61.1) (b := (0 : Int)) rfl rfl) rfl ?_)
                            refine RJ_nil ?_
                            refine QJ_then ?_
                            refine CJ_condP rfl bT_dec (fun hg29 => ?_) (fun hg29 => ?_)
                            ·
                              replace h := ite_t hg29 h
                              refine CJ_seq ?_
                              refine CJ_region ?_
                              refine RJ_op rfl (OJ_P (P_assign rfl) rfl ?_)
                              refine RJ_nil ?_
                              refine QJ_then ?_
                              refine CJ_ret ?_
                              refine QJ_block_ret ?_
                              refine QJ_then_ret ?_
                              refine QJ_round_ret ?_
                              refine QJ_block_ret ?_
                              refine QJ_then_ret ?_
                              have hE := Option.some.inj h
                              replace hE := seq_inr hK21 hE.symm
                              subst hE
                              refine QJ_end (res1 Try.results32 rfl) ?_
                              refine CSpec.close () ?_ ?_ (Ent.take del1 (Ent.take del2 (Ent.take del2 (Ent.take del2 (Ent.take del2 (Ent.take del2 (Ent.take del2 (Ent.take del2 (Ent.drop (Ent.drop Ent.refl))))))))))
                              · rfl
                              · trivial
                            ·
                              replace h := ite_f hg29 h
                              refine CJ_skip ?_
                              refine QJ_block_normal ?_
                              refine QJ_then ?_
                              refine CJ_region ?_
                              refine RJ_op rfl (OJ_P (P_move rfl) rfl ?_)
                              refine RJ_op rfl (OJ_P (PJ_eq (P_add (a := ((x30 : Nat) : Int)) (b := (1 : Int)) rfl rfl (by omega)) rfl) rfl ?_)
                              refine RJ_op rfl (OJ_P (P_assign rfl) rfl ?_)
                              refine RJ_nil ?_
                              refine QJ_ent (Ent.trans (Ent.take del0 Ent.refl) (fun h hh => stars_dup Dup_DevP hh)) ?_
                              refine QJ_ent (Ent.takeC (A' := optP (DevP ba · dv29) (some o59)) del0 rfl Ent.refl) ?_
                              refine QJ_nextR ⟨n, r61.2, x27, (some o59), (x30 + 1), dv29⟩ (Nat.lt_succ_self _) ?_ (by repeat (first | exact Kp.base | exact Kp.self | refine Kp.cons rfl ?_ | refine Kp.forget rfl ?_)) ?_ (Ent.take del2 (Ent.take del2 (Ent.take del0 (Ent.take del1 (Ent.take del1 (Ent.take del1 (Ent.take del1 (Ent.take del1 (Ent.take del1 (Ent.take del1 (Ent.drop Ent.refl)))))))))))
                              · exact h
                              · exact ⟨rfl, rfl, True.intro⟩
                    ·
                      replace h := ite_f hg22 h
                      refine CJ_seq ?_
                      refine CJ_region ?_
                      refine RJ_op rfl (OJ_P (P_eql (a := ((l.getD x30 (⟨0, 0, 0, 0⟩ : volumegroupmake_Step))).Kind) (b := (3 : Int)) rfl rfl) rfl ?_)
                      refine RJ_op rfl (OJ_P (P_assign rfl) rfl ?_)
                      refine RJ_nil ?_
                      refine QJ_then ?_
                      refine CJ_condP rfl bT_dec (fun hg30 => ?_) (fun hg30 => ?_)
                      ·
                        replace h := ite_t hg30 h
                        refine CJ_region ?_
                        refine RJ_op rfl (OJ_P (P_assign rfl) rfl ?_)
                        refine RJ_nil ?_
                        refine QJ_block_normal ?_
                        refine QJ_then ?_
                        refine CJ_seq ?_
                        refine CJ_region ?_
                        refine RJ_op rfl (OJ_P (P_move rfl) rfl ?_)
                        refine RJ_op rfl (OJ_P (P_eql (a := (5 : Int)) (b := (5 : Int)) rfl rfl) rfl ?_)
                        refine RJ_nil ?_
                        refine QJ_then ?_
                        refine CJ_condP rfl bT_dec (fun hg31 => ?_) (fun hg31 => ?_)
                        ·
                          replace h := ite_t hg31 h
                          refine CJ_seq ?_
                          refine CJ_region ?_
                          refine RJ_op rfl (OJ_P (P_move rfl) rfl ?_)
                          refine RJ_op rfl (OJ_P (P_move rfl) rfl ?_)
                          refine RJ_op rfl (OJ_P (P_move rfl) rfl ?_)
                          refine RJ_op rfl (OJ_P (P_move rfl) rfl ?_)
                          refine RJ_op rfl (OJ_P (P_move rfl) rfl ?_)
                          refine RJ_op rfl (OJ_V (V_index (i := x30) rfl rfl rfl (by omega) foc9 rl Try.runUnderlying59 Try.sizeOf142) rfl ?_)
                          refine RJ_op rfl (OJ_P (P_fieldE rfl ⟨_, _, _, Try.runUnderlying142, rfl, rfl, Try.sizeOf22, rfl⟩) rfl ?_)
                          refine RJ_op rfl (OJ_V (V_loadE rfl rfl (by omega) foc9 rl rfl rfl Try.isAgg22) rfl ?_)
                          obtain ⟨r73, hr74, h⟩ := bind_e h
                          refine RJ_op rfl (O_call (L_volumegroupmake_Track_Again__volumegrouplaw05_stack_1 ropen_1_c0 hr74) rfl Try.call82 (Dels.cons del1 (Dels.cons del0 (Dels.cons del1 (Dels.cons del1 (Dels.cons del1 (Dels.cons del1 (Dels.cons del1 Dels.nil))))))) rfl (fun X75 _ => ?_))
                          refine RJ_op rfl (OJ_P (P_move rfl) rfl ?_)
                          refine RJ_op rfl (OJ_P (P_extract rfl rfl) rfl ?_)
                          refine RJ_op rfl (OJ_P (P_extract rfl rfl) rfl ?_)
                          refine RJ_op rfl (OJ_P (P_assign rfl) rfl ?_)
                          refine RJ_op rfl (OJ_P (P_assign rfl) rfl ?_)
                          refine RJ_nil ?_
                          refine QJ_then ?_
                          refine CJ_seq ?_
                          refine CJ_region ?_
                          refine RJ_op rfl (OJ_P (P_move rfl) rfl ?_)
                          refine RJ_op rfl (OJ_P (P_not rfl) rfl ?_)
                          refine RJ_nil ?_
                          refine QJ_then ?_
                          refine CJ_condP rfl (bT_not Iff.rfl) (fun hg32 => ?_) (fun hg32 => ?_)
                          ·
                            replace h := ite_t hg32 h
                            refine CJ_seq ?_
                            refine CJ_region ?_
                            refine RJ_op rfl (OJ_P (P_assign rfl) rfl ?_)
                            refine RJ_nil ?_
                            refine QJ_ent (Ent.take del0 (Ent.take del0 (Ent.take del0 (Ent.take del0 (Ent.take del0 (Ent.take del0 (Ent.take del0 (Ent.take del1 (Ent.take del1 (Ent.take del1 (Ent.drop Ent.refl))))))))))) ?_
                            refine QJ_then ?_
                            refine CJ_ret ?_
                            refine QJ_block_ret ?_
                            refine QJ_then_ret ?_
                            refine QJ_round_ret ?_
                            refine QJ_block_ret ?_
                            refine QJ_then_ret ?_
                            have hE := Option.some.inj h
                            replace hE := seq_inr hK21 hE.symm
                            subst hE
                            refine QJ_end (res1 Try.results32 rfl) ?_
                            refine CSpec.close () ?_ ?_ (Ent.take del1 (Ent.take del1 (Ent.take del1 (Ent.take del1 (Ent.take del1 (Ent.take del1 (Ent.take del2 (Ent.take del2 (Ent.drop (Ent.drop Ent.refl))))))))))
                            · rfl
                            · trivial
                          ·
                            replace h := ite_f hg32 h
                            refine CJ_skip ?_
                            refine QJ_block_normal ?_
                            refine QJ_then ?_
                            refine CJ_region ?_
                            refine RJ_op rfl (OJ_P (P_move rfl) rfl ?_)
                            refine RJ_op rfl (OJ_P (PJ_eq (P_add (a := ((x30 : Nat) : Int)) (b := (1 : Int)) rfl rfl (by omega)) rfl) rfl ?_)
                            refine RJ_op rfl (OJ_P (P_assign rfl) rfl ?_)
                            refine RJ_nil ?_
                            refine QJ_nextR ⟨n, r73.2.2.2, r73.2.2.1, r73.1, (x30 + 1), X75⟩ (Nat.lt_succ_self _) ?_ (by repeat (first | exact Kp.base | exact Kp.self | refine Kp.cons rfl ?_ | refine Kp.forget rfl ?_)) ?_ (Ent.take del1 (Ent.take del0 (Ent.take del5 (Ent.take del0 (Ent.take del0 (Ent.take del0 (Ent.take del0 (Ent.take del0 (Ent.take del1 (Ent.take del1 (Ent.drop Ent.refl)))))))))))
                            · exact h
                            · exact ⟨rfl, rfl, True.intro⟩
                        ·
                          replace h := ite_f hg31 h
                          refine CJ_seq ?_
                          refine CJ_region ?_
                          refine RJ_op rfl (OJ_P (P_move rfl) rfl ?_)
                          refine RJ_op rfl (OJ_P (P_neq (a := (5 : Int)) (b := (0 : Int)) rfl rfl) rfl ?_)
                          refine RJ_nil ?_
                          refine QJ_then ?_
                          refine CJ_condP rfl bT_dec (fun hg33 => ?_) (fun hg33 => ?_)
                          ·
                            replace h := ite_t hg33 h
                            refine CJ_seq ?_
                            refine CJ_region ?_
                            refine RJ_op rfl (OJ_P (P_assign rfl) rfl ?_)
                            refine RJ_nil ?_
                            refine QJ_then ?_
                            refine CJ_ret ?_
                            refine QJ_block_ret ?_
                            refine QJ_then_ret ?_
                            refine QJ_round_ret ?_
                            refine QJ_block_ret ?_
                            refine QJ_then_ret ?_
                            have hE := Option.some.inj h
                            replace hE := seq_inr hK21 hE.symm
                            subst hE
                            refine QJ_end (res1 Try.results32 rfl) ?_
                            refine CSpec.close () ?_ ?_ (Ent.take del0 (Ent.take del2 (Ent.take del2 (Ent.take del2 (Ent.take del2 (Ent.take del2 (Ent.take del2 (Ent.take del2 (Ent.drop (Ent.drop Ent.refl))))))))))
                            · rfl
                            · trivial
                          ·
                            replace h := ite_f hg33 h
                            refine CJ_skip ?_
                            refine QJ_block_normal ?_
                            refine QJ_then ?_
                            refine CJ_region ?_
                            refine RJ_op rfl (OJ_P (P_move rfl) rfl ?_)
                            refine RJ_op rfl (OJ_P (PJ_eq (P_add (a := ((x30 : Nat) : Int)) (b := (1 : Int)) rfl rfl (by omega)) rfl) rfl ?_)
                            refine RJ_op rfl (OJ_P (P_assign rfl) rfl ?_)
                            refine RJ_nil ?_
                            refine QJ_nextR ⟨n, x26, x27, x28, (x30 + 1), dv29⟩ (Nat.lt_succ_self _) ?_ (by repeat (first | exact Kp.base | exact Kp.self | refine Kp.cons rfl ?_ | refine Kp.forget rfl ?_)) ?_ (Ent.take del0 (Ent.take del0 (Ent.take del0 (Ent.take del0 (Ent.take del0 (Ent.take del0 (Ent.take del0 (Ent.take del0 (Ent.take del0 (Ent.take del0 Ent.refl))))))))))
                            · exact h
                            · exact ⟨rfl, rfl, True.intro⟩
                      ·
                        replace h := ite_f hg30 h
                        refine CJ_seq ?_
                        refine CJ_region ?_
                        refine RJ_op rfl (OJ_P (P_eql (a := ((l.getD x30 (⟨0, 0, 0, 0⟩ : volumegroupmake_Step))).Kind) (b := (4 : Int)) rfl rfl) rfl ?_)
                        refine RJ_op rfl (OJ_P (P_assign rfl) rfl ?_)
                        refine RJ_nil ?_
                        refine QJ_then ?_
                        refine CJ_condP rfl bT_dec (fun hg34 => ?_) (fun hg34 => ?_)
                        ·
                          replace h := ite_t hg34 h
                          refine CJ_region ?_
                          refine RJ_op rfl (OJ_P (P_move rfl) rfl ?_)
                          refine RJ_op rfl (OJ_P (P_move rfl) rfl ?_)
                          obtain ⟨hg35, h⟩ := grd_Ie h
                          refine RJ_op rfl (OJ_P (P_add (a := (1 : Int)) (b := (((w31 + ((initial.length : Nat) : Int))).tmod (((initial.length : Nat) : Int)))) rfl rfl hg35) rfl ?_)
                          obtain ⟨w77, hw77, h⟩ := lt_e h
                          rw [← hw77]
                          obtain ⟨hg36, h⟩ := grd_Ie h
                          refine RJ_op rfl (O_call (c_FuseD hg36.2) rfl Try.call55 (Dels.cons del0 Dels.nil) rfl (fun _ _ => ?_))
                          refine RJ_nil ?_
                          refine QJ_block_normal ?_
                          refine QJ_then ?_
                          refine CJ_seq ?_
                          refine CJ_region ?_
                          refine RJ_op rfl (OJ_P (P_move rfl) rfl ?_)
                          refine RJ_op rfl (OJ_P (P_eql (a := (0 : Int)) (b := (5 : Int)) rfl rfl) rfl ?_)
                          refine RJ_nil ?_
                          refine QJ_then ?_
                          refine CJ_condP rfl bT_dec (fun hg37 => ?_) (fun hg37 => ?_)
                          ·
                            replace h := ite_t hg37 h
                            refine CJ_seq ?_
                            refine CJ_region ?_
                            refine RJ_op rfl (OJ_P (P_move rfl) rfl ?_)
                            refine RJ_op rfl (OJ_P (P_move rfl) rfl ?_)
                            refine RJ_op rfl (OJ_P (P_move rfl) rfl ?_)
                            refine RJ_op rfl (OJ_P (P_move rfl) rfl ?_)
                            refine RJ_op rfl (OJ_P (P_move rfl) rfl ?_)
                            refine RJ_op rfl (OJ_V (V_index (i := x30) rfl rfl rfl (by omega) foc9 rl Try.runUnderlying59 Try.sizeOf142) rfl ?_)
                            refine RJ_op rfl (OJ_P (P_fieldE rfl ⟨_, _, _, Try.runUnderlying142, rfl, rfl, Try.sizeOf22, rfl⟩) rfl ?_)
                            refine RJ_op rfl (OJ_V (V_loadE rfl rfl (by omega) foc9 rl rfl rfl Try.isAgg22) rfl ?_)
                            obtain ⟨r78, hr79, h⟩ := bind_e h
                            refine RJ_op rfl (O_call (L_volumegroupmake_Track_Again__volumegrouplaw05_stack_1 ropen_1_c0 hr79) rfl Try.call82 (Dels.cons del1 (Dels.cons del0 (Dels.cons del1 (Dels.cons del1 (Dels.cons del1 (Dels.cons del1 (Dels.cons del1 Dels.nil))))))) rfl (fun X80 _ => ?_))
                            refine RJ_op rfl (OJ_P (P_move rfl) rfl ?_)
                            refine RJ_op rfl (OJ_P (P_extract rfl rfl) rfl ?_)
                            refine RJ_op rfl (OJ_P (P_extract rfl rfl) rfl ?_)
                            refine RJ_op rfl (OJ_P (P_assign rfl) rfl ?_)
                            refine RJ_op rfl (OJ_P (P_assign rfl) rfl ?_)
                            refine RJ_nil ?_
                            refine QJ_then ?_
                            refine CJ_seq ?_
                            refine CJ_region ?_
                            refine RJ_op rfl (OJ_P (P_move rfl) rfl ?_)
                            refine RJ_op rfl (OJ_P (P_not rfl) rfl ?_)
                            refine RJ_nil ?_
                            refine QJ_then ?_
                            refine CJ_condP rfl (bT_not Iff.rfl) (fun hg38 => ?_) (fun hg38 => ?_)
                            ·
                              replace h := ite_t hg38 h
                              refine CJ_seq ?_
                              refine CJ_region ?_
                              refine RJ_op rfl (OJ_P (P_assign rfl) rfl ?_)
                              refine RJ_nil ?_
                              refine QJ_ent (Ent.take del0 (Ent.take del0 (Ent.take del0 (Ent.take del0 (Ent.take del0 (Ent.take del0 (Ent.take del0 (Ent.take del1 (Ent.take del1 (Ent.take del1 (Ent.drop Ent.refl))))))))))) ?_
                              refine QJ_then ?_
                              refine CJ_ret ?_
                              refine QJ_block_ret ?_
                              refine QJ_then_ret ?_
                              refine QJ_round_ret ?_
                              refine QJ_block_ret ?_
                              refine QJ_then_ret ?_
                              have hE := Option.some.inj h
                              replace hE := seq_inr hK21 hE.symm
                              subst hE
                              refine QJ_end (res1 Try.results32 rfl) ?_
                              refine CSpec.close () ?_ ?_ (Ent.take del1 (Ent.take del1 (Ent.take del1 (Ent.take del1 (Ent.take del1 (Ent.take del1 (Ent.take del2 (Ent.take del2 (Ent.drop (Ent.drop Ent.refl))))))))))
                              · rfl
                              · trivial
                            ·
                              replace h := ite_f hg38 h
                              refine CJ_skip ?_
                              refine QJ_block_normal ?_
                              refine QJ_then ?_
                              refine CJ_region ?_
                              refine RJ_op rfl (OJ_P (P_move rfl) rfl ?_)
                              refine RJ_op rfl (OJ_P (PJ_eq (P_add (a := ((x30 : Nat) : Int)) (b := (1 : Int)) rfl rfl (by omega)) rfl) rfl ?_)
                              refine RJ_op rfl (OJ_P (P_assign rfl) rfl ?_)
                              refine RJ_nil ?_
                              refine QJ_nextR ⟨n, r78.2.2.2, r78.2.2.1, r78.1, (x30 + 1), X80⟩ (Nat.lt_succ_self _) ?_ (by repeat (first | exact Kp.base | exact Kp.self | refine Kp.cons rfl ?_ | refine Kp.forget rfl ?_)) ?_ (Ent.take del1 (Ent.take del0 (Ent.take del5 (Ent.take del0 (Ent.take del0 (Ent.take del0 (Ent.take del0 (Ent.take del0 (Ent.take del1 (Ent.take del1 (Ent.drop Ent.refl)))))))))))
                              · exact h
                              · exact ⟨rfl, rfl, True.intro⟩
                          ·
                            replace h := ite_f hg37 h
                            refine CJ_seq ?_
                            refine CJ_region ?_
                            refine RJ_op rfl (OJ_P (P_move rfl) rfl ?_)
                            refine RJ_op rfl (OJ_P (P_neq (a := (0 : Int)) (b := (0 : Int)) rfl rfl) rfl ?_)
                            refine RJ_nil ?_
                            refine QJ_then ?_
                            refine CJ_condP rfl bT_dec (fun hg39 => ?_) (fun hg39 => ?_)
                            ·
                              replace h := ite_t hg39 h
                              refine CJ_seq ?_
                              refine CJ_region ?_
                              refine RJ_op rfl (OJ_P (P_assign rfl) rfl ?_)
                              refine RJ_nil ?_
                              refine QJ_then ?_
                              refine CJ_ret ?_
                              refine QJ_block_ret ?_
                              refine QJ_then_ret ?_
                              refine QJ_round_ret ?_
                              refine QJ_block_ret ?_
                              refine QJ_then_ret ?_
                              have hE := Option.some.inj h
                              replace hE := seq_inr hK21 hE.symm
                              subst hE
                              refine QJ_end (res1 Try.results32 rfl) ?_
                              refine CSpec.close () ?_ ?_ (Ent.take del0 (Ent.take del2 (Ent.take del2 (Ent.take del2 (Ent.take del2 (Ent.take del2 (Ent.take del2 (Ent.take del2 (Ent.drop (Ent.drop Ent.refl))))))))))
                              · rfl
                              · trivial
                            ·
                              replace h := ite_f hg39 h
                              refine CJ_skip ?_
                              refine QJ_block_normal ?_
                              refine QJ_then ?_
                              refine CJ_region ?_
                              refine RJ_op rfl (OJ_P (P_move rfl) rfl ?_)
                              refine RJ_op rfl (OJ_P (PJ_eq (P_add (a := ((x30 : Nat) : Int)) (b := (1 : Int)) rfl rfl (by omega)) rfl) rfl ?_)
                              refine RJ_op rfl (OJ_P (P_assign rfl) rfl ?_)
                              refine RJ_nil ?_
                              refine QJ_nextR ⟨n, { x26 with fuse := (w77).toNat }, x27, x28, (x30 + 1), dv29⟩ (Nat.lt_succ_self _) ?_ (by repeat (first | exact Kp.base | exact Kp.self | refine Kp.cons rfl ?_ | refine Kp.forget rfl ?_)) ?_ (Ent.take del0 (Ent.take del0 (Ent.take del0 (Ent.take del0 (Ent.take del0 (Ent.take del0 (Ent.take del0 (Ent.take del0 (Ent.take del0 (Ent.take del0 Ent.refl))))))))))
                              · exact h
                              · exact ⟨rfl, rfl, True.intro⟩
                        ·
                          replace h := ite_f hg34 h
                          refine CJ_skip ?_
                          refine QJ_block_normal ?_
                          refine QJ_then ?_
                          refine CJ_seq ?_
                          refine CJ_region ?_
                          refine RJ_op rfl (OJ_P (P_move rfl) rfl ?_)
                          refine RJ_op rfl (OJ_P (P_eql (a := (0 : Int)) (b := (5 : Int)) rfl rfl) rfl ?_)
                          refine RJ_nil ?_
                          refine QJ_then ?_
                          refine CJ_condP rfl bT_dec (fun hg40 => ?_) (fun hg40 => ?_)
                          ·
                            replace h := ite_t hg40 h
                            refine CJ_seq ?_
                            refine CJ_region ?_
                            refine RJ_op rfl (OJ_P (P_move rfl) rfl ?_)
                            refine RJ_op rfl (OJ_P (P_move rfl) rfl ?_)
                            refine RJ_op rfl (OJ_P (P_move rfl) rfl ?_)
                            refine RJ_op rfl (OJ_P (P_move rfl) rfl ?_)
                            refine RJ_op rfl (OJ_P (P_move rfl) rfl ?_)
                            refine RJ_op rfl (OJ_V (V_index (i := x30) rfl rfl rfl (by omega) foc9 rl Try.runUnderlying59 Try.sizeOf142) rfl ?_)
                            refine RJ_op rfl (OJ_P (P_fieldE rfl ⟨_, _, _, Try.runUnderlying142, rfl, rfl, Try.sizeOf22, rfl⟩) rfl ?_)
                            refine RJ_op rfl (OJ_V (V_loadE rfl rfl (by omega) foc9 rl rfl rfl Try.isAgg22) rfl ?_)
                            obtain ⟨r82, hr83, h⟩ := bind_e h
                            refine RJ_op rfl (O_call (L_volumegroupmake_Track_Again__volumegrouplaw05_stack_1 ropen_1_c0 hr83) rfl Try.call82 (Dels.cons del1 (Dels.cons del0 (Dels.cons del1 (Dels.cons del1 (Dels.cons del1 (Dels.cons del1 (Dels.cons del1 Dels.nil))))))) rfl (fun X84 _ => ?_))
                            refine RJ_op rfl (OJ_P (P_move rfl) rfl ?_)
                            refine RJ_op rfl (OJ_P (P_extract rfl rfl) rfl ?_)
                            refine RJ_op rfl (OJ_P (P_extract rfl rfl) rfl ?_)
                            refine RJ_op rfl (OJ_P (P_assign rfl) rfl ?_)
                            refine RJ_op rfl (OJ_P (P_assign rfl) rfl ?_)
                            refine RJ_nil ?_
                            refine QJ_then ?_
                            refine CJ_seq ?_
                            refine CJ_region ?_
                            refine RJ_op rfl (OJ_P (P_move rfl) rfl ?_)
                            refine RJ_op rfl (OJ_P (P_not rfl) rfl ?_)
                            refine RJ_nil ?_
                            refine QJ_then ?_
                            refine CJ_condP rfl (bT_not Iff.rfl) (fun hg41 => ?_) (fun hg41 => ?_)
                            ·
                              replace h := ite_t hg41 h
                              refine CJ_seq ?_
                              refine CJ_region ?_
                              refine RJ_op rfl (OJ_P (P_assign rfl) rfl ?_)
                              refine RJ_nil ?_
                              refine QJ_ent (Ent.take del0 (Ent.take del0 (Ent.take del0 (Ent.take del0 (Ent.take del0 (Ent.take del0 (Ent.take del0 (Ent.take del1 (Ent.take del1 (Ent.take del1 (Ent.drop Ent.refl))))))))))) ?_
                              refine QJ_then ?_
                              refine CJ_ret ?_
                              refine QJ_block_ret ?_
                              refine QJ_then_ret ?_
                              refine QJ_round_ret ?_
                              refine QJ_block_ret ?_
                              refine QJ_then_ret ?_
                              have hE := Option.some.inj h
                              replace hE := seq_inr hK21 hE.symm
                              subst hE
                              refine QJ_end (res1 Try.results32 rfl) ?_
                              refine CSpec.close () ?_ ?_ (Ent.take del1 (Ent.take del1 (Ent.take del1 (Ent.take del1 (Ent.take del1 (Ent.take del1 (Ent.take del2 (Ent.take del2 (Ent.drop (Ent.drop Ent.refl))))))))))
                              · rfl
                              · trivial
                            ·
                              replace h := ite_f hg41 h
                              refine CJ_skip ?_
                              refine QJ_block_normal ?_
                              refine QJ_then ?_
                              refine CJ_region ?_
                              refine RJ_op rfl (OJ_P (P_move rfl) rfl ?_)
                              refine RJ_op rfl (OJ_P (PJ_eq (P_add (a := ((x30 : Nat) : Int)) (b := (1 : Int)) rfl rfl (by omega)) rfl) rfl ?_)
                              refine RJ_op rfl (OJ_P (P_assign rfl) rfl ?_)
                              refine RJ_nil ?_
                              refine QJ_nextR ⟨n, r82.2.2.2, r82.2.2.1, r82.1, (x30 + 1), X84⟩ (Nat.lt_succ_self _) ?_ (by repeat (first | exact Kp.base | exact Kp.self | refine Kp.cons rfl ?_ | refine Kp.forget rfl ?_)) ?_ (Ent.take del1 (Ent.take del0 (Ent.take del5 (Ent.take del0 (Ent.take del0 (Ent.take del0 (Ent.take del0 (Ent.take del0 (Ent.take del1 (Ent.take del1 (Ent.drop Ent.refl)))))))))))
                              · exact h
                              · exact ⟨rfl, rfl, True.intro⟩
                          ·
                            replace h := ite_f hg40 h
                            refine CJ_seq ?_
                            refine CJ_region ?_
                            refine RJ_op rfl (OJ_P (P_move rfl) rfl ?_)
                            refine RJ_op rfl (OJ_P (P_neq (a := (0 : Int)) (b := (0 : Int)) rfl rfl) rfl ?_)
                            refine RJ_nil ?_
                            refine QJ_then ?_
                            refine CJ_condP rfl bT_dec (fun hg42 => ?_) (fun hg42 => ?_)
                            ·
                              replace h := ite_t hg42 h
                              refine CJ_seq ?_
                              refine CJ_region ?_
                              refine RJ_op rfl (OJ_P (P_assign rfl) rfl ?_)
                              refine RJ_nil ?_
                              refine QJ_then ?_
                              refine CJ_ret ?_
                              refine QJ_block_ret ?_
                              refine QJ_then_ret ?_
                              refine QJ_round_ret ?_
                              refine QJ_block_ret ?_
                              refine QJ_then_ret ?_
                              have hE := Option.some.inj h
                              replace hE := seq_inr hK21 hE.symm
                              subst hE
                              refine QJ_end (res1 Try.results32 rfl) ?_
                              refine CSpec.close () ?_ ?_ (Ent.take del0 (Ent.take del2 (Ent.take del2 (Ent.take del2 (Ent.take del2 (Ent.take del2 (Ent.take del2 (Ent.take del2 (Ent.drop (Ent.drop Ent.refl))))))))))
                              · rfl
                              · trivial
                            ·
                              replace h := ite_f hg42 h
                              refine CJ_skip ?_
                              refine QJ_block_normal ?_
                              refine QJ_then ?_
                              refine CJ_region ?_
                              refine RJ_op rfl (OJ_P (P_move rfl) rfl ?_)
                              refine RJ_op rfl (OJ_P (PJ_eq (P_add (a := ((x30 : Nat) : Int)) (b := (1 : Int)) rfl rfl (by omega)) rfl) rfl ?_)
                              refine RJ_op rfl (OJ_P (P_assign rfl) rfl ?_)
                              refine RJ_nil ?_
                              refine QJ_nextR ⟨n, x26, x27, x28, (x30 + 1), dv29⟩ (Nat.lt_succ_self _) ?_ (by repeat (first | exact Kp.base | exact Kp.self | refine Kp.cons rfl ?_ | refine Kp.forget rfl ?_)) ?_ (Ent.take del0 (Ent.take del0 (Ent.take del0 (Ent.take del0 (Ent.take del0 (Ent.take del0 (Ent.take del0 (Ent.take del0 (Ent.take del0 (Ent.take del0 Ent.refl))))))))))
                              · exact h
                              · exact ⟨rfl, rfl, True.intro⟩
              ·
                replace h := ite_f hg5 h
                refine CJ_exit ?_
                refine QJ_then_exit ?_
                refine QJ_round_exit ?_
                refine QJ_block_here ?_
                refine QJ_cutR (x26, x27) ?_ (by repeat (first | exact Kp.base | exact Kp.self | refine Kp.cons rfl ?_ | refine Kp.forget rfl ?_)) ?_ (Ent.take del0 (Ent.take del0 (Ent.take del1 (Ent.take del1 (Ent.take del1 (Ent.take del1 (Ent.take del1 (Ent.take del1 (Ent.take del1 (Ent.drop Ent.refl))))))))))
                · exact (Option.some.inj h).symm
                · exact True.intro
          ·
            rintro a25 hy86
            replace h := seq_inl hK21 hy86
            show CJ _ _ _ _ _ (([] : Slots) ++ forget _ _) (Arr ba a25.1 :: Trk X4 a25.2 :: _)
            refine CJ_seq ?_
            refine CJ_seq ?_
            refine CJ_region ?_
            refine RJ_op rfl (OJ_P (P_move rfl) rfl ?_)
            refine RJ_op rfl (OJ_P (P_move rfl) rfl ?_)
            refine RJ_op rfl (OJ_P (P_move rfl) rfl ?_)
            obtain ⟨r87, hr88, h⟩ := bind_e h
            refine RJ_op rfl (O_call (L_volumegroupmake_Track_Again__volumegrouplaw05_stack_1 ropen_1_c0 hr88) rfl Try.call82 (Dels.cons del1 (Dels.cons del0 (Dels.cons del0 (Dels.cons del0 (Dels.cons del0 (Dels.cons del0 (Dels.cons del0 Dels.nil))))))) rfl (fun X89 _ => ?_))
            refine RJ_op rfl (OJ_P (P_move rfl) rfl ?_)
            refine RJ_op rfl (OJ_P (P_extract rfl rfl) rfl ?_)
            refine RJ_op rfl (OJ_P (P_extract rfl rfl) rfl ?_)
            refine RJ_op rfl (OJ_P (P_assign rfl) rfl ?_)
            refine RJ_op rfl (OJ_P (P_assign rfl) rfl ?_)
            refine RJ_nil ?_
            refine QJ_then ?_
            refine CJ_seq ?_
            refine CJ_region ?_
            refine RJ_op rfl (OJ_P (P_move rfl) rfl ?_)
            refine RJ_op rfl (OJ_P (P_not rfl) rfl ?_)
            refine RJ_nil ?_
            refine QJ_then ?_
            refine CJ_condP rfl (bT_not Iff.rfl) (fun hg43 => ?_) (fun hg43 => ?_)
            ·
              replace h := ite_t hg43 h
              refine CJ_seq ?_
              refine CJ_region ?_
              refine RJ_op rfl (OJ_P (P_assign rfl) rfl ?_)
              refine RJ_nil ?_
              refine QJ_ent (Ent.take del1 (Ent.take del1 (Ent.take del1 (Ent.take del1 (Ent.take del1 (Ent.take del1 (Ent.take del2 (Ent.take del2 (Ent.drop (Ent.drop Ent.refl)))))))))) ?_
              refine QJ_then ?_
              refine CJ_ret ?_
              refine QJ_then_ret ?_
              have hE := Option.some.inj h
              subst hE
              refine QJ_end (res1 Try.results32 rfl) ?_
              refine CSpec.close () ?_ ?_ (Ent.take del0 (Ent.take del0 (Ent.take del0 (Ent.take del0 (Ent.take del0 (Ent.take del0 (Ent.take del0 (Ent.take del0 Ent.refl))))))))
              · rfl
              · trivial
            ·
              replace h := ite_f hg43 h
              refine CJ_skip ?_
              refine QJ_then ?_
              refine CJ_seq ?_
              refine CJ_region ?_
              refine RJ_op rfl (OJ_P (P_move rfl) rfl ?_)
              refine RJ_op rfl (OJ_P (P_move rfl) rfl ?_)
              rcases opt_e h with ⟨ht91, h⟩ | ⟨o92, ht91, h⟩
              ·
                rw [ht91]
                refine RJ_ent (Ent.take del0 (Ent.take del0 (Ent.take del0 (Ent.take del0 (Ent.take del0 (Ent.take del0 (Ent.take del0 (Ent.take del1 (Ent.take del1 (Ent.drop Ent.refl)))))))))) ?_
                obtain ⟨r93, hr94, h⟩ := bind_e h
                refine RJ_op rfl (O_call (L_volumegroupmake_Track_All_2 hr94) rfl Try.call83 (Dels.cons del0 Dels.nil) rfl (fun _ _ => ?_))
                refine RJ_op rfl (OJ_P (P_assign rfl) rfl ?_)
                refine RJ_nil ?_
                refine QJ_ent (Ent.take del1 (Ent.take del1 (Ent.take del1 (Ent.take del1 (Ent.take del1 (Ent.take del1 (Ent.take del1 (Ent.take del1 (Ent.drop Ent.refl))))))))) ?_
                refine QJ_then ?_
                refine CJ_ret ?_
                have hE := Option.some.inj h
                subst hE
                refine QJ_end (res1 Try.results32 rfl) ?_
                refine CSpec.close () ?_ ?_ (Ent.take del0 (Ent.take del0 (Ent.take del0 (Ent.take del0 (Ent.take del0 (Ent.take del0 (Ent.take del0 (Ent.take del0 Ent.refl))))))))
                · rfl
                · trivial
              ·
                rw [ht91]
                refine RJ_ent (Ent.takeC (A' := DevP ba o92 X89) del7 rfl Ent.refl) ?_
                obtain ⟨r95, hr96, h⟩ := bind_e h
                refine RJ_op rfl (O_call (L_volumegroupmake_Track_All hr96) rfl Try.call83 (Dels.cons del1 (Dels.cons del0 (Dels.cons del0 Dels.nil))) rfl (fun _ _ => ?_))
                refine RJ_op rfl (OJ_P (P_assign rfl) rfl ?_)
                refine RJ_nil ?_
                refine QJ_ent (Ent.take del2 (Ent.take del2 (Ent.take del2 (Ent.take del2 (Ent.take del2 (Ent.take del2 (Ent.take del2 (Ent.take del2 (Ent.drop (Ent.drop Ent.refl)))))))))) ?_
                refine QJ_then ?_
                refine CJ_ret ?_
                have hE := Option.some.inj h
                subst hE
                refine QJ_end (res1 Try.results32 rfl) ?_
                refine CSpec.close () ?_ ?_ (Ent.take del0 (Ent.take del0 (Ent.take del0 (Ent.take del0 (Ent.take del0 (Ent.take del0 (Ent.take del0 (Ent.take del0 Ent.refl))))))))
                · rfl
                · trivial

def volumegrouplaw05_BlockSound (l : List Int) (steps : List volumegroupmake_Step) : Option (Bool) :=
  Option.bind (volumegroupmake_Few steps) fun r3 =>
  if (¬ r3 = true) then
    Option.bind (volumegrouplaw05_awake) fun r5 =>
    some r5
  else
    Option.bind (volumegrouplaw05_stack l) fun r7 =>
    Option.elim r7.1 (
      some false) fun o18 =>
    Option.bind (volumegroupmake_Sound__volumegrouplaw05_stack_1 o18 r7.2.1 r7.2.2.1 r7.2.2.2.1 r7.2.2.2.2 steps) fun r19 =>
    if r19.1 = true then
      Option.bind (volumegrouplaw05_awake) fun r21 =>
      some r21
    else
      some false

theorem L_volumegrouplaw05_BlockSound {W : World} {Al : HP} {vl : Value} {Asteps : HP} {vsteps : Value} {l : List Int} {steps : List volumegroupmake_Step} {r : Bool} (rl : Reads Al tyI vl l) (rsteps : Reads Asteps tyvolumegroupmake_Step vsteps steps) (h : volumegrouplaw05_BlockSound l steps = some r) :
    CSpec Try.prog W 7 [vl, vsteps] [Al, Asteps] (fun x : Unit => .bool r) (fun _ => True) (fun x F => Al :: Asteps :: F) := by
  refine CSpec.of_body Try.func7 rfl Try.ntmps7 rfl (fun F => ?_)
  show CJ _ _ _ _ _ _ (_ :: _ :: F)
  unfold volumegrouplaw05_BlockSound at h
  refine CJ_pure (len_of rl del0) (fun hlen1 => ?_)
  refine CJ_pure (len_of rsteps del1) (fun hlen2 => ?_)
  refine CJ_seq ?_
  refine CJ_region ?_
  refine RJ_op rfl (OJ_P (P_assign rfl) rfl ?_)
  refine RJ_nil ?_
  refine QJ_then ?_
  refine CJ_seq ?_
  refine CJ_seq ?_
  refine CJ_region ?_
  refine RJ_op rfl (OJ_P (P_move rfl) rfl ?_)
  obtain ⟨r3, hr4, h⟩ := bind_e h
  refine RJ_op rfl (O_call (L_volumegroupmake_Few rsteps hr4) rfl Try.call30 (Dels.cons del1 Dels.nil) rfl (fun _ _ => ?_))
  refine RJ_op rfl (OJ_P (P_not rfl) rfl ?_)
  refine RJ_nil ?_
  refine QJ_then ?_
  refine CJ_condP rfl (bT_not Iff.rfl) (fun hg1 => ?_) (fun hg1 => ?_)
  ·
    replace h := ite_t hg1 h
    refine CJ_seq ?_
    refine CJ_region ?_
    obtain ⟨r5, hr6, h⟩ := bind_e h
    refine RJ_op rfl (O_call (L_volumegrouplaw05_awake hr6) rfl Try.call21 Dels.nil rfl (fun _ _ => ?_))
    refine RJ_op rfl (OJ_P (P_assign rfl) rfl ?_)
    refine RJ_nil ?_
    refine QJ_then ?_
    refine CJ_ret ?_
    refine QJ_then_ret ?_
    have hE := Option.some.inj h
    subst hE
    refine QJ_end (res1 Try.results7 rfl) ?_
    refine CSpec.close () ?_ ?_ (Ent.take del1 (Ent.take del0 Ent.refl))
    · rfl
    · trivial
  ·
    replace h := ite_f hg1 h
    refine CJ_skip ?_
    refine QJ_then ?_
    refine CJ_seq ?_
    refine CJ_region ?_
    refine RJ_op rfl (OJ_P (P_move rfl) rfl ?_)
    obtain ⟨r7, hr8, h⟩ := bind_e h
    refine RJ_op rfl (O_call (L_volumegrouplaw05_stack rl hr8) rfl Try.call31 (Dels.cons del1 Dels.nil) rfl (fun X9 _ => ?_))
    refine RJ_op rfl (OJ_P (P_move rfl) rfl ?_)
    refine RJ_op rfl (OJ_P (P_extract rfl rfl) rfl ?_)
    refine RJ_op rfl (OJ_P (P_extract rfl rfl) rfl ?_)
    refine RJ_op rfl (OJ_P (P_extract rfl rfl) rfl ?_)
    refine RJ_op rfl (OJ_P (P_assign rfl) rfl ?_)
    refine RJ_op rfl (OJ_P (P_assign rfl) rfl ?_)
    refine RJ_op rfl (OJ_P (P_assign rfl) rfl ?_)
    refine RJ_nil ?_
    refine QJ_then ?_
    refine CJ_seq ?_
    refine CJ_region ?_
    refine RJ_op rfl (OJ_P (P_move rfl) rfl ?_)
    rcases opt_e h with ⟨ht17, h⟩ | ⟨o18, ht17, h⟩
    ·
      rw [ht17]
      refine RJ_ent (Ent.take del0 (Ent.take del1 (Ent.take del1 (Ent.take del1 (Ent.take del1 (Ent.take del1 (Ent.take del1 (Ent.take del1 (Ent.drop Ent.refl))))))))) ?_
      refine RJ_op rfl (OJ_P (P_neqNN rfl rfl Try.underlying23) rfl ?_)
      refine RJ_op rfl (OJ_P (P_move rfl) rfl ?_)
      refine RJ_gn (GY_no rfl rfl rfl rfl) rfl rfl ?_
      refine RJ_gn (GY_no rfl rfl rfl rfl) rfl rfl ?_
      refine RJ_gn (GY_no rfl rfl rfl rfl) rfl rfl ?_
      refine RJ_gn (GY_no rfl rfl rfl rfl) rfl rfl ?_
      refine RJ_gn (GY_no rfl rfl rfl rfl) rfl rfl ?_
      refine RJ_op rfl (OJ_P (P_pickF rfl rfl rfl) rfl ?_)
      refine RJ_op rfl (OJ_P (P_move rfl) rfl ?_)
      refine RJ_gn (GY_no rfl rfl rfl rfl) rfl rfl ?_
      refine RJ_op rfl (OJ_P (P_pickF rfl rfl rfl) rfl ?_)
      refine RJ_op rfl (OJ_P (P_assign rfl) rfl ?_)
      refine RJ_nil ?_
      refine QJ_ent (Ent.take del0 (Ent.take del6 (Ent.drop (Ent.drop (Ent.drop (Ent.drop (Ent.drop (Ent.drop Ent.refl)))))))) ?_
      refine QJ_then ?_
      refine CJ_ret ?_
      have hE := Option.some.inj h
      subst hE
      refine QJ_end (res1 Try.results7 rfl) ?_
      refine CSpec.close () ?_ ?_ (Ent.take del0 (Ent.take del0 Ent.refl))
      · rfl
      · trivial
    ·
      rw [ht17]
      refine RJ_ent (Ent.takeC (A' := Arr X9.1 o18) del1 rfl Ent.refl) ?_
      refine RJ_op rfl (OJ_P (P_neqPN rfl rfl Try.underlying23) rfl ?_)
      refine RJ_op rfl (OJ_P (P_move rfl) rfl ?_)
      refine RJ_gy (GY_yes rfl rfl rfl rfl) (OJ_P (P_move rfl) rfl ?_)
      refine RJ_gy (GY_yes rfl rfl rfl rfl) (OJ_P (P_move rfl) rfl ?_)
      refine RJ_gy (GY_yes rfl rfl rfl rfl) (OJ_P (P_move rfl) rfl ?_)
      refine RJ_gy (GY_yes rfl rfl rfl rfl) (OJ_P (P_move rfl) rfl ?_)
      obtain ⟨r19, hr20, h⟩ := bind_e h
      refine RJ_gy (GY_yes rfl rfl rfl rfl) (O_call (L_volumegroupmake_Sound__volumegrouplaw05_stack_1 (Reads.sl _ _ _) (Reads.rdp _ _ _) rsteps hr20) rfl Try.call32 (Dels.cons del0 (Dels.cons del1 (Dels.cons del1 (Dels.cons del1 (Dels.cons del1 (Dels.cons del1 (Dels.cons del1 (Dels.cons del1 Dels.nil)))))))) rfl (fun _ _ => ?_))
      refine RJ_op rfl (OJ_P (P_pickT rfl rfl rfl) rfl ?_)
      refine RJ_op rfl (OJ_P (P_move rfl) rfl ?_)
      refine RJ_splitP 27 rfl Iff.rfl (fun hg2B hg2 => ?_) (fun hg2B hg2 => ?_)
      ·
        replace h := ite_t hg2 h
        obtain ⟨r21, hr22, h⟩ := bind_e h
        refine RJ_gy (GY_yes rfl rfl rfl hg2B) (O_call (L_volumegrouplaw05_awake hr22) rfl Try.call21 Dels.nil rfl (fun _ _ => ?_))
        refine RJ_op rfl (OJ_P (P_pickT rfl hg2B rfl) rfl ?_)
        refine RJ_op rfl (OJ_P (P_assign rfl) rfl ?_)
        refine RJ_nil ?_
        refine QJ_ent (Ent.take del0 (Ent.take del6 (Ent.take del6 (Ent.drop (Ent.drop (Ent.drop (Ent.drop (Ent.drop (Ent.drop Ent.refl))))))))) ?_
        refine QJ_then ?_
        refine CJ_ret ?_
        have hE := Option.some.inj h
        subst hE
        refine QJ_end (res1 Try.results7 rfl) ?_
        refine CSpec.close () ?_ ?_ (Ent.take del2 (Ent.take del1 (Ent.drop Ent.refl)))
        · rfl
        · trivial
      ·
        replace h := ite_f hg2 h
        refine RJ_gn (GY_no rfl rfl rfl hg2B) rfl rfl ?_
        refine RJ_op rfl (OJ_P (P_pickF rfl hg2B rfl) rfl ?_)
        refine RJ_op rfl (OJ_P (P_assign rfl) rfl ?_)
        refine RJ_nil ?_
        refine QJ_ent (Ent.take del0 (Ent.take del6 (Ent.take del6 (Ent.drop (Ent.drop (Ent.drop (Ent.drop (Ent.drop (Ent.drop Ent.refl))))))))) ?_
        refine QJ_then ?_
        refine CJ_ret ?_
        have hE := Option.some.inj h
        subst hE
        refine QJ_end (res1 Try.results7 rfl) ?_
        refine CSpec.close () ?_ ?_ (Ent.take del2 (Ent.take del1 (Ent.drop Ent.refl)))
        · rfl
        · trivial

end Go.Proofs
