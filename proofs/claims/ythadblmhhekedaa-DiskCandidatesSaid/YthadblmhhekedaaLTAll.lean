/- YthadblmhhekedaaLTAll: lifted functions of the program; printed by lift.py. -/
import Derived.Test.YthadblmhhekedaaLTrk
set_option linter.unusedSimpArgs false
set_option linter.unusedVariables false
set_option maxRecDepth 20000
set_option maxHeartbeats 4000000
namespace Go.Proofs
open Go.VG

@[ext] structure volumegroupmake_Step where
  Kind : Int
  At : Int
  Value : UInt64
  Keep : UInt64
  deriving DecidableEq
abbrev tyvolumegroupmake_Step : Ty volumegroupmake_Step := { T := 35, sz := 4, enc := fun x => [.int .i64 x.Kind, .int .i64 x.At, .int .u64 (x.Value.toNat : Int), .int .u64 (x.Keep.toNat : Int)], dflt := ⟨0, 0, 0, 0⟩, len := fun _ => rfl, one := fun _ => rfl, pos := by decide }
theorem ok_tyvolumegroupmake_Step : ElemOk Try.prog tyvolumegroupmake_Step 32 := ⟨Try.t35, .agg #[.int .i64 0, .int .i64 0, .int .u64 0, .int .u64 0], by kernel_rfl, rfl, rfl, rfl, rfl⟩

def volumegroupmake_Few (l : List volumegroupmake_Step) : Option (Bool) :=
  some ((decide (((l.length : Nat) : Int) ≤ (24 : Int))))

theorem L_volumegroupmake_Few {W : World} {Al : HP} {vl : Value} {l : List volumegroupmake_Step} {r : Bool} (rl : Reads Al tyvolumegroupmake_Step vl l) (h : volumegroupmake_Few l = some r) :
    CSpec Try.prog W 8 [vl] [Al] (fun x : Unit => .bool r) (fun _ => True) (fun x F => Al :: F) := by
  refine CSpec.of_body Try.func8 rfl Try.ntmps8 rfl (fun F => ?_)
  show CJ _ _ _ _ _ _ (_ :: F)
  unfold volumegroupmake_Few at h
  refine CJ_pure (len_of rl del0) (fun hlen1 => ?_)
  refine CJ_seq ?_
  refine CJ_region ?_
  refine RJ_op rfl (OJ_P (P_assign rfl) rfl ?_)
  refine RJ_nil ?_
  refine QJ_then ?_
  refine CJ_seq ?_
  refine CJ_region ?_
  refine RJ_op rfl (OJ_P (P_move rfl) rfl ?_)
  refine RJ_op rfl (OJ_V (V_len rfl foc0 rl Try.runUnderlying22) rfl ?_)
  refine RJ_op rfl (OJ_P (P_leq (a := ((l.length : Nat) : Int)) (b := (24 : Int)) rfl rfl) rfl ?_)
  refine RJ_op rfl (OJ_P (P_assign rfl) rfl ?_)
  refine RJ_nil ?_
  refine QJ_then ?_
  refine CJ_ret ?_
  have hE := Option.some.inj h
  subst hE
  refine QJ_end (res1 Try.results8 rfl) ?_
  refine CSpec.close () ?_ ?_ Ent.refl
  · rfl
  · trivial

def volumegroupmake_Track_All_l1_b (x_1 : Dvc) (settled : Bool) (s : ArrS) (rec : (List Sec) → Nat → Option (((List Sec)) ⊕ (Bool × (List Sec)))) (x6 : List Sec) (x7 : Nat) : Option (((List Sec)) ⊕ (Bool × (List Sec))) :=
  if (((x7 : Nat) : Int) < ((x6.length : Nat) : Int)) then
    Option.bind (Dvc.rd x_1 s (((x7 : Nat) : Int))) fun r11 =>
    if (r11.2 ≠ (0 : Int)) then
      some (.inr (false, x6))
    else
      grd (decide (smallT x6 = true)) <|
      if (¬ (rdTR x6 (((x7 : Nat) : Int)) r11.1) = true) then
        some (.inr ((false, (rdTS x6 (((x7 : Nat) : Int)) r11.1 settled))))
      else
        grd (inN64 (x7 + 1)) <|
        rec ((rdTS x6 (((x7 : Nat) : Int)) r11.1 settled)) (x7 + 1)
  else
    some (.inl x6)

def volumegroupmake_Track_All_l1 (x_1 : Dvc) (settled : Bool) (s : ArrS) : Nat → (List Sec) → Nat → Option (((List Sec)) ⊕ (Bool × (List Sec)))
  | 0, _, _ => none
  | n + 1, x6, x7 => volumegroupmake_Track_All_l1_b x_1 settled s (volumegroupmake_Track_All_l1 x_1 settled s n) x6 x7

def volumegroupmake_Track_All (t : List Sec) (x_1 : Dvc) (settled : Bool) (s : ArrS) : Option (Bool × (List Sec)) :=
  seqO (volumegroupmake_Track_All_l1 x_1 settled s FUEL t 0) fun a5 =>
  some (true, a5)

theorem L_volumegroupmake_Track_All {W : World} {bt : Nat} {vx_1 : IfH} {bs : Nat} {t : List Sec} {x_1 : Dvc} {settled : Bool} {s : ArrS} {r : Bool × (List Sec)} (h : volumegroupmake_Track_All t x_1 settled s = some r) :
    CSpec Try.prog W 48 [ptr bt 0, IfH.v vx_1, .bool settled] [Trk bt t, DevP bs x_1 vx_1, Arr bs s] (fun x : Unit => .bool r.1) (fun _ => True) (fun x F => Trk bt r.2 :: DevP bs x_1 vx_1 :: Arr bs s :: F) := by
  refine CSpec.of_body Try.func48 rfl Try.ntmps48 rfl (fun F => ?_)
  show CJ _ _ _ _ _ _ (_ :: _ :: _ :: F)
  unfold volumegroupmake_Track_All at h
  refine CJ_seq ?_
  refine CJ_region ?_
  refine RJ_op rfl (OJ_P (P_assign rfl) rfl ?_)
  refine RJ_nil ?_
  refine QJ_then ?_
  refine CJ_seq ?_
  refine CJ_seq ?_
  refine CJ_region ?_
  refine RJ_op rfl (OJ_P (P_assign rfl) rfl ?_)
  refine RJ_nil ?_
  refine QJ_then ?_
  obtain ⟨y3, hl1, hK2⟩ := seq_e h
  refine CJ_cutT (X := (List Sec)) [6, 7, 8, 9, 10, 11, 12, 13, 14, 15, 16, 17, 18, 19, 20, 21, 22, 23, 24, 25, 26, 27, 28, 29, 30, 31, 32, 33, 34] (fun a5 => ([] : Slots)) (fun a5 R => Trk bt a5 :: R) (fun a5 => y3 = .inl a5) (Dels.cons del0 Dels.nil) ?_ ?_
  ·
    refine CJ_block ?_
    refine CJ_loopR (X := Nat × (List Sec) × Nat) [6, 7, 8, 9, 10, 11, 12, 13, 14, 15, 16, 17, 18, 19, 20, 21, 22, 23, 24, 25, 26, 27, 28, 29, 30, 31, 32, 33, 34] (fun ⟨n, x6, x7⟩ => ([(7, .int .i64 (((x7 : Nat) : Int)))] : Slots)) (fun ⟨n, x6, x7⟩ R => Trk bt x6 :: R) (fun ⟨n, x6, x7⟩ => volumegroupmake_Track_All_l1 x_1 settled s n x6 x7 = some y3) (fun ⟨n, x6, x7⟩ => n) ⟨FUEL, t, 0⟩ ?_ ?_ Ent.refl ?_
    · exact hl1
    · exact ⟨rfl, True.intro⟩
    ·
      rintro ⟨n, x6, x7⟩ h
      cases n with
      | zero => exact none_e h
      | succ n => ?_
      replace h : volumegroupmake_Track_All_l1_b x_1 settled s (volumegroupmake_Track_All_l1 x_1 settled s n) x6 x7 = some y3 := h
      unfold volumegroupmake_Track_All_l1_b at h
      show CJ _ _ _ _ _ (([(7, .int .i64 (((x7 : Nat) : Int)))] : Slots) ++ forget _ _) (Trk bt x6 :: _)
      refine CJ_seq ?_
      refine CJ_seq ?_
      refine CJ_entX (Ent.transX (Ent.take del0 Ent.refl) Trk_open) (fun tc8 => ?_)
      refine CJ_pur (fun hS9 => ?_)
      refine CJ_region ?_
      refine RJ_op rfl (OJ_P (P_move rfl) rfl ?_)
      refine RJ_op rfl (OJ_P (P_move rfl) rfl ?_)
      refine RJ_op rfl (OJ_P (P_nilCheck rfl) rfl ?_)
      refine RJ_op rfl (OJ_P (P_fieldAddr rfl ⟨_, _, _, Try.runUnderlying71, rfl, rfl, Try.sizeOf69, rfl⟩) rfl ?_)
      refine RJ_op rfl (OJ_V (V_load rfl foc0 rfl Try.isAgg69) rfl ?_)
      refine RJ_op rfl (OJ_V (VJ_eq (V_len rfl foc1 (Reads.sl _ _ _) Try.runUnderlying69) (congrArg (fun z : Nat => Value.int .i64 (z : Int)) hS9.len.symm)) rfl ?_)
      refine RJ_op rfl (OJ_P (P_lss (a := ((x7 : Nat) : Int)) (b := ((x6.length : Nat) : Int)) rfl rfl) rfl ?_)
      refine RJ_nil ?_
      refine QJ_ent (Ent.trans (Ent.take del0 (Ent.take del0 (Ent.take del0 Ent.refl))) (Trk_close hS9)) ?_
      refine QJ_then ?_
      refine CJ_condP rfl bT_dec (fun hg1 => ?_) (fun hg1 => ?_)
      ·
        replace h := ite_t hg1 h
        refine CJ_skip ?_
        refine QJ_then ?_
        refine CJ_seq ?_
        refine CJ_block ?_
        refine CJ_seq ?_
        refine CJ_region ?_
        refine RJ_op rfl (OJ_P (P_move rfl) rfl ?_)
        refine RJ_op rfl (OJ_P (P_move rfl) rfl ?_)
        refine RJ_pure (fun h hh => DevP_dep h (stars_perm (del1 (A := DevP bs x_1 vx_1)).out h hh)) (fun hdp10 => ?_)
        obtain ⟨r11, hr12, h⟩ := bind_e h
        refine RJ_op rfl (O_callI rfl (dev_Read hr12 hdp10) rfl (Dels.cons del1 (Dels.cons del1 Dels.nil)) rfl (fun _ _ => ?_))
        refine RJ_op rfl (OJ_P (P_move rfl) rfl ?_)
        refine RJ_op rfl (OJ_P (P_extract rfl rfl) rfl ?_)
        refine RJ_op rfl (OJ_P (P_extract rfl rfl) rfl ?_)
        refine RJ_op rfl (OJ_P (P_assign rfl) rfl ?_)
        refine RJ_op rfl (OJ_P (P_assign rfl) rfl ?_)
        refine RJ_nil ?_
        refine QJ_then ?_
        refine CJ_seq ?_
        refine CJ_region ?_
        refine RJ_op rfl (OJ_P (P_move rfl) rfl ?_)
        refine RJ_op rfl (OJ_P (P_neq (a := r11.2) (b := (0 : Int)) rfl rfl) rfl ?_)
        refine RJ_op rfl (OJ_P (P_move rfl) rfl ?_)
        refine RJ_splitP 27 rfl bT_dec (fun hg2B hg2 => ?_) (fun hg2B hg2 => ?_)
        ·
          replace h := ite_t hg2 h
          refine RJ_gn (GY_no rfl rfl rfl hg2B) rfl rfl ?_
          refine RJ_gn (GY_no rfl rfl rfl hg2B) rfl rfl ?_
          refine RJ_gn (GY_no rfl rfl rfl hg2B) rfl rfl ?_
          refine RJ_gn (GY_no rfl rfl rfl hg2B) rfl rfl ?_
          refine RJ_gn (GY_no rfl rfl rfl hg2B) rfl rfl ?_
          refine RJ_gn (GY_no rfl rfl rfl hg2B) rfl rfl ?_
          refine RJ_op rfl (OJ_P (P_pickT rfl hg2B rfl) rfl ?_)
          refine RJ_nil ?_
          refine QJ_then ?_
          refine CJ_condT rfl rfl ?_
          refine CJ_seq ?_
          refine CJ_region ?_
          refine RJ_op rfl (OJ_P (P_assign rfl) rfl ?_)
          refine RJ_nil ?_
          refine QJ_then ?_
          refine CJ_ret ?_
          refine QJ_block_ret ?_
          refine QJ_then_ret ?_
          refine QJ_round_ret ?_
          refine QJ_block_ret ?_
          refine QJ_then_ret ?_
          have hE := Option.some.inj h
          replace hE := seq_inr hK2 hE.symm
          subst hE
          refine QJ_end (res1 Try.results48 rfl) ?_
          refine CSpec.close () ?_ ?_ (Ent.take del2 Ent.refl)
          · rfl
          · trivial
        ·
          replace h := ite_f hg2 h
          refine RJ_gy (GY_yes rfl rfl rfl hg2B) (OJ_P (P_move rfl) rfl ?_)
          refine RJ_gy (GY_yes rfl rfl rfl hg2B) (OJ_P (P_move rfl) rfl ?_)
          refine RJ_gy (GY_yes rfl rfl rfl hg2B) (OJ_P (P_move rfl) rfl ?_)
          refine RJ_gy (GY_yes rfl rfl rfl hg2B) (OJ_P (P_move rfl) rfl ?_)
          obtain ⟨hg3, h⟩ := grd_de h
          refine RJ_gy (GY_yes rfl rfl rfl hg2B) (O_call (c_Reads (smallT_at hg3) (v := r11.1)) rfl Try.call22 (Dels.cons del2 Dels.nil) rfl (fun _ _ => ?_))
          refine RJ_gy (GY_yes rfl rfl rfl hg2B) (OJ_P (P_not rfl) rfl ?_)
          refine RJ_op rfl (OJ_P (P_pickF rfl hg2B rfl) rfl ?_)
          refine RJ_nil ?_
          refine QJ_then ?_
          refine CJ_condP rfl (bT_not Iff.rfl) (fun hg4 => ?_) (fun hg4 => ?_)
          ·
            replace h := ite_t hg4 h
            refine CJ_seq ?_
            refine CJ_region ?_
            refine RJ_op rfl (OJ_P (P_assign rfl) rfl ?_)
            refine RJ_nil ?_
            refine QJ_then ?_
            refine CJ_ret ?_
            refine QJ_block_ret ?_
            refine QJ_then_ret ?_
            refine QJ_round_ret ?_
            refine QJ_block_ret ?_
            refine QJ_then_ret ?_
            have hE := Option.some.inj h
            replace hE := seq_inr hK2 hE.symm
            subst hE
            refine QJ_end (res1 Try.results48 rfl) ?_
            refine CSpec.close () ?_ ?_ Ent.refl
            · rfl
            · trivial
          ·
            replace h := ite_f hg4 h
            refine CJ_skip ?_
            refine QJ_block_normal ?_
            refine QJ_then ?_
            refine CJ_region ?_
            refine RJ_op rfl (OJ_P (P_move rfl) rfl ?_)
            obtain ⟨hg5, h⟩ := grd_Ne h
            refine RJ_op rfl (OJ_P (PJ_eq (P_add (a := ((x7 : Nat) : Int)) (b := (1 : Int)) rfl rfl (nat_in hg5)) rfl) rfl ?_)
            refine RJ_op rfl (OJ_P (P_assign rfl) rfl ?_)
            refine RJ_nil ?_
            refine QJ_nextR ⟨n, (rdTS x6 (((x7 : Nat) : Int)) r11.1 settled), (x7 + 1)⟩ (Nat.lt_succ_self _) ?_ (by repeat (first | exact Kp.base | exact Kp.self | refine Kp.cons rfl ?_ | refine Kp.forget rfl ?_)) ?_ Ent.refl
            · exact h
            · exact ⟨rfl, True.intro⟩
      ·
        replace h := ite_f hg1 h
        refine CJ_exit ?_
        refine QJ_then_exit ?_
        refine QJ_round_exit ?_
        refine QJ_block_here ?_
        refine QJ_cutR x6 ?_ (by repeat (first | exact Kp.base | exact Kp.self | refine Kp.cons rfl ?_ | refine Kp.forget rfl ?_)) ?_ Ent.refl
        · exact (Option.some.inj h).symm
        · exact True.intro
  ·
    rintro a5 hy13
    replace h := seq_inl hK2 hy13
    show CJ _ _ _ _ _ (([] : Slots) ++ forget _ _) (Trk bt a5 :: _)
    refine CJ_seq ?_
    refine CJ_region ?_
    refine RJ_op rfl (OJ_P (P_assign rfl) rfl ?_)
    refine RJ_nil ?_
    refine QJ_then ?_
    refine CJ_ret ?_
    have hE := Option.some.inj h
    subst hE
    refine QJ_end (res1 Try.results48 rfl) ?_
    refine CSpec.close () ?_ ?_ Ent.refl
    · rfl
    · trivial

end Go.Proofs
