/- YthgeeoahmjmnoaaLCopy: lifted functions of the program; printed by lift.py. -/
import Derived.Test.YthgeeoahmjmnoaaLBlk
set_option linter.unusedSimpArgs false
set_option linter.unusedVariables false
set_option maxRecDepth 20000
set_option maxHeartbeats 4000000
namespace Go.Proofs
open Go.VG

def block_ReadAll_l1_b (x_0 : Dvc) (at_1 : Int) (n_2 : Int) (s : ArrS) (rec : Nat → (List UInt64) → Option (((List UInt64)) ⊕ ((List UInt64) × Int))) (x14 : Nat) (x15 : List UInt64) : Option (((List UInt64)) ⊕ ((List UInt64) × Int)) :=
  if (((x14 : Nat) : Int) < n_2) then
    grd (inI64 ((at_1 + ((x14 : Nat) : Int)))) <|
    Option.bind (Dvc.rd x_0 s ((at_1 + ((x14 : Nat) : Int)))) fun r19 =>
    if (r19.2 ≠ (0 : Int)) then
      some (.inr ([], r19.2))
    else
      grd (inLen (x15.length + 1)) <|
      grd (inN64 (x14 + 1)) <|
      rec (x14 + 1) (x15 ++ [r19.1])
  else
    some (.inl x15)

def block_ReadAll_l1 (x_0 : Dvc) (at_1 : Int) (n_2 : Int) (s : ArrS) : Nat → Nat → (List UInt64) → Option (((List UInt64)) ⊕ ((List UInt64) × Int))
  | 0, _, _ => none
  | n + 1, x14, x15 => block_ReadAll_l1_b x_0 at_1 n_2 s (block_ReadAll_l1 x_0 at_1 n_2 s n) x14 x15

def block_ReadAll (x_0 : Dvc) (at_1 : Int) (n_2 : Int) (s : ArrS) : Option ((List UInt64) × Int) :=
  Option.bind (Dvc.size x_0 s) fun r2 =>
  Option.bind (block_inside r2 at_1 n_2) fun r4 =>
  if (¬ r4 = true) then
    some (([], (1 : Int)))
  else
    seqO (block_ReadAll_l1 x_0 at_1 n_2 s FUEL 0 ([])) fun a13 =>
    some ((a13, (0 : Int)))

theorem L_block_ReadAll {W : World} {vx_0 : IfH} {bs : Nat} {x_0 : Dvc} {at_1 : Int} {n_2 : Int} {s : ArrS} {r : (List UInt64) × Int} (h : block_ReadAll x_0 at_1 n_2 s = some r) :
    CSpec Try.prog W 36 [IfH.v vx_0, .int .i64 at_1, .int .i64 n_2] [DevP bs x_0 vx_0, Arr bs s] (fun x : Sl3 => .tuple #[x.v, .int .i64 r.2]) (fun _ => True) (fun x F => DevP bs x_0 vx_0 :: Arr bs s :: sl tyU x.v r.1 :: F) := by
  refine CSpec.of_body Try.func36 rfl Try.ntmps36 rfl (fun F => ?_)
  show CJ _ _ _ _ _ _ (_ :: _ :: F)
  unfold block_ReadAll at h
  refine CJ_seq ?_
  refine CJ_region ?_
  refine RJ_op rfl (OJ_P (P_assign rfl) rfl ?_)
  refine RJ_op rfl (OJ_P (P_assign rfl) rfl ?_)
  refine RJ_nil ?_
  refine QJ_then ?_
  refine CJ_seq ?_
  refine CJ_seq ?_
  refine CJ_region ?_
  refine RJ_op rfl (OJ_P (P_move rfl) rfl ?_)
  refine RJ_pure (fun h hh => DevP_dep h (stars_perm (del0 (A := DevP bs x_0 vx_0)).out h hh)) (fun hdp1 => ?_)
  obtain ⟨r2, hr3, h⟩ := bind_e h
  refine RJ_op rfl (O_callI rfl (dev_Size hr3 hdp1) rfl (Dels.cons del0 (Dels.cons del0 Dels.nil)) rfl (fun _ _ => ?_))
  refine RJ_op rfl (OJ_P (P_move rfl) rfl ?_)
  refine RJ_op rfl (OJ_P (P_move rfl) rfl ?_)
  obtain ⟨r4, hr5, h⟩ := bind_e h
  refine RJ_op rfl (O_call (L_block_inside hr5) rfl Try.call64 Dels.nil rfl (fun _ _ => ?_))
  refine RJ_op rfl (OJ_P (P_not rfl) rfl ?_)
  refine RJ_nil ?_
  refine QJ_then ?_
  refine CJ_condP rfl (bT_not Iff.rfl) (fun hg1 => ?_) (fun hg1 => ?_)
  ·
    replace h := ite_t hg1 h
    refine CJ_seq ?_
    refine CJ_region ?_
    refine RJ_op rfl (OJ_P (P_assign rfl) rfl ?_)
    refine RJ_op rfl (OJ_P (P_assign rfl) rfl ?_)
    refine RJ_nil ?_
    refine QJ_then ?_
    refine CJ_ret ?_
    refine QJ_then_ret ?_
    refine QJ_ent (fun h hh => sl_nil (t := tyU) h hh) ?_
    have hE := Option.some.inj h
    subst hE
    refine QJ_end (res2 Try.results36 rfl rfl) ?_
    refine CSpec.close ⟨none, 0, 0⟩ ?_ ?_ (Ent.take del1 (Ent.take del1 Ent.refl))
    · rfl
    · trivial
  ·
    replace h := ite_f hg1 h
    refine CJ_skip ?_
    refine QJ_then ?_
    refine CJ_seq ?_
    refine CJ_region ?_
    refine RJ_op rfl (OJ_P (P_assign rfl) rfl ?_)
    refine RJ_nil ?_
    refine QJ_then ?_
    refine CJ_seq ?_
    refine CJ_seq ?_
    refine CJ_region ?_
    refine RJ_op rfl (OJ_P (P_move rfl) rfl ?_)
    refine RJ_op rfl (OJ_P (P_move rfl) rfl ?_)
    refine RJ_nil ?_
    refine QJ_then ?_
    refine CJ_ent (fun h hh => sl_nil (t := tyU) h hh) ?_
    obtain ⟨y10, hl8, hK9⟩ := seq_e h
    refine CJ_cutT (X := (List UInt64) × Sl3) [6, 7, 8, 9, 10, 11, 19, 20, 21, 22, 23, 24, 25, 26, 27, 28, 29, 30, 31, 32, 33, 34, 35, 36, 37] (fun ⟨a13, hd12⟩ => ([(8, hd12.v)] : Slots)) (fun ⟨a13, hd12⟩ R => sl tyU hd12.v a13 :: R) (fun ⟨a13, hd12⟩ => y10 = .inl a13) (Dels.cons del0 Dels.nil) ?_ ?_
    ·
      refine CJ_block ?_
      refine CJ_loopR (X := Nat × Nat × (List UInt64) × Sl3) [6, 7, 8, 9, 10, 11, 19, 20, 21, 22, 23, 24, 25, 26, 27, 28, 29, 30, 31, 32, 33, 34, 35, 36, 37] (fun ⟨n, x14, x15, hd16⟩ => ([(8, hd16.v), (19, .int .i64 (((x14 : Nat) : Int)))] : Slots)) (fun ⟨n, x14, x15, hd16⟩ R => sl tyU hd16.v x15 :: R) (fun ⟨n, x14, x15, hd16⟩ => block_ReadAll_l1 x_0 at_1 n_2 s n x14 x15 = some y10) (fun ⟨n, x14, x15, hd16⟩ => n) ⟨FUEL, 0, [], ⟨none, 0, 0⟩⟩ ?_ ?_ Ent.refl ?_
      · exact hl8
      · exact ⟨rfl, rfl, True.intro⟩
      ·
        rintro ⟨n, x14, x15, hd16⟩ h
        cases n with
        | zero => exact none_e h
        | succ n => ?_
        replace h : block_ReadAll_l1_b x_0 at_1 n_2 s (block_ReadAll_l1 x_0 at_1 n_2 s n) x14 x15 = some y10 := h
        unfold block_ReadAll_l1_b at h
        show CJ _ _ _ _ _ (([(8, hd16.v), (19, .int .i64 (((x14 : Nat) : Int)))] : Slots) ++ forget _ _) (sl tyU hd16.v x15 :: _)
        refine CJ_pure (len_of (Reads.sl _ _ _) del0) (fun hlen17 => ?_)
        refine CJ_seq ?_
        refine CJ_region ?_
        refine RJ_op rfl (OJ_P (P_lss (a := ((x14 : Nat) : Int)) (b := n_2) rfl rfl) rfl ?_)
        refine RJ_nil ?_
        refine QJ_then ?_
        refine CJ_seq ?_
        refine CJ_condP rfl bT_dec (fun hg2 => ?_) (fun hg2 => ?_)
        ·
          replace h := ite_t hg2 h
          refine CJ_skip ?_
          refine QJ_then ?_
          refine CJ_seq ?_
          refine CJ_block ?_
          refine CJ_seq ?_
          refine CJ_region ?_
          refine RJ_op rfl (OJ_P (P_move rfl) rfl ?_)
          refine RJ_op rfl (OJ_P (P_assign rfl) rfl ?_)
          refine RJ_nil ?_
          refine QJ_then ?_
          refine CJ_seq ?_
          refine CJ_region ?_
          refine RJ_op rfl (OJ_P (P_move rfl) rfl ?_)
          refine RJ_op rfl (OJ_P (P_move rfl) rfl ?_)
          refine RJ_op rfl (OJ_P (P_move rfl) rfl ?_)
          obtain ⟨hg3, h⟩ := grd_Ie h
          refine RJ_op rfl (OJ_P (P_add (a := at_1) (b := ((x14 : Nat) : Int)) rfl rfl hg3) rfl ?_)
          refine RJ_pure (fun h hh => DevP_dep h (stars_perm (del1 (A := DevP bs x_0 vx_0)).out h hh)) (fun hdp18 => ?_)
          obtain ⟨r19, hr20, h⟩ := bind_e h
          refine RJ_op rfl (O_callI rfl (dev_Read hr20 hdp18) rfl (Dels.cons del1 (Dels.cons del1 Dels.nil)) rfl (fun _ _ => ?_))
          refine RJ_op rfl (OJ_P (P_move rfl) rfl ?_)
          refine RJ_op rfl (OJ_P (P_extract rfl rfl) rfl ?_)
          refine RJ_op rfl (OJ_P (P_extract rfl rfl) rfl ?_)
          refine RJ_op rfl (OJ_P (P_assign rfl) rfl ?_)
          refine RJ_op rfl (OJ_P (P_assign rfl) rfl ?_)
          refine RJ_nil ?_
          refine QJ_then ?_
          refine CJ_seq ?_
          refine CJ_seq ?_
          refine CJ_region ?_
          refine RJ_op rfl (OJ_P (P_move rfl) rfl ?_)
          refine RJ_op rfl (OJ_P (P_neq (a := r19.2) (b := (0 : Int)) rfl rfl) rfl ?_)
          refine RJ_nil ?_
          refine QJ_then ?_
          refine CJ_condP rfl bT_dec (fun hg4 => ?_) (fun hg4 => ?_)
          ·
            replace h := ite_t hg4 h
            refine CJ_seq ?_
            refine CJ_region ?_
            refine RJ_op rfl (OJ_P (P_move rfl) rfl ?_)
            refine RJ_op rfl (OJ_P (P_assign rfl) rfl ?_)
            refine RJ_op rfl (OJ_P (P_assign rfl) rfl ?_)
            refine RJ_nil ?_
            refine QJ_then ?_
            refine CJ_ret ?_
            refine QJ_then_ret ?_
            refine QJ_block_ret ?_
            refine QJ_then_ret ?_
            refine QJ_round_ret ?_
            refine QJ_block_ret ?_
            refine QJ_then_ret ?_
            refine QJ_ent (fun h hh => sl_nil (t := tyU) h hh) ?_
            have hE := Option.some.inj h
            replace hE := seq_inr hK9 hE.symm
            subst hE
            refine QJ_end (res2 Try.results36 rfl rfl) ?_
            refine CSpec.close ⟨none, 0, 0⟩ ?_ ?_ (Ent.take del1 (Ent.take del1 (Ent.take del0 (Ent.drop Ent.refl))))
            · rfl
            · trivial
          ·
            replace h := ite_f hg4 h
            refine CJ_skip ?_
            refine QJ_then ?_
            refine CJ_region ?_
            refine RJ_op rfl (OJ_P (P_move rfl) rfl ?_)
            refine RJ_op rfl (OJ_P (P_move rfl) rfl ?_)
            refine RJ_op rfl (O_buildSlice rfl (bs_25_1_0 _) rfl (fun b22 => ?_))
            obtain ⟨hg5, h⟩ := grd_Le h
            refine RJ_op rfl (O_append (t := tyU) (bytes := 8) rfl rfl del3 foc0 (Reads.lit (t := tyU) (ys := [r19.1]) rfl rfl (by decide) (by decide) rfl) Try.underlying25 ok_tyU (apl (m := 1) (b := 8) hg5 (by decide)).1 (apl (m := 1) (b := 8) hg5 (by decide)).2 rfl (fun p24 c25 => ?_))
            refine RJ_op rfl (OJ_P (P_assign rfl) rfl ?_)
            refine RJ_nil ?_
            refine QJ_block_normal ?_
            refine QJ_then ?_
            refine CJ_region ?_
            obtain ⟨hg6, h⟩ := grd_Ne h
            refine RJ_op rfl (OJ_P (PJ_eq (P_add (a := ((x14 : Nat) : Int)) (b := (1 : Int)) rfl rfl (nat_in hg6)) rfl) rfl ?_)
            refine RJ_op rfl (OJ_P (P_move rfl) rfl ?_)
            refine RJ_nil ?_
            refine QJ_nextR ⟨n, (x14 + 1), (x15 ++ [r19.1]), ⟨p24, (x15 ++ [r19.1]).length, c25⟩⟩ (Nat.lt_succ_self _) ?_ (by repeat (first | exact Kp.base | exact Kp.self | refine Kp.cons rfl ?_ | refine Kp.forget rfl ?_)) ?_ (Ent.take del0 (Ent.take del1 (Ent.take del1 (Ent.drop Ent.refl))))
            · exact h
            · exact ⟨rfl, rfl, True.intro⟩
        ·
          replace h := ite_f hg2 h
          refine CJ_exit ?_
          refine QJ_then_exit ?_
          refine QJ_round_exit ?_
          refine QJ_block_here ?_
          refine QJ_cutR ⟨x15, hd16⟩ ?_ (by repeat (first | exact Kp.base | exact Kp.self | refine Kp.cons rfl ?_ | refine Kp.forget rfl ?_)) ?_ Ent.refl
          · exact (Option.some.inj h).symm
          · exact ⟨rfl, True.intro⟩
    ·
      rintro ⟨a13, hd12⟩ hy26
      replace h := seq_inl hK9 hy26
      show CJ _ _ _ _ _ (([(8, hd12.v)] : Slots) ++ forget _ _) (sl tyU hd12.v a13 :: _)
      refine CJ_pure (len_of (Reads.sl _ _ _) del0) (fun hlen27 => ?_)
      refine CJ_seq ?_
      refine CJ_region ?_
      refine RJ_op rfl (OJ_P (P_move rfl) rfl ?_)
      refine RJ_op rfl (OJ_P (P_assign rfl) rfl ?_)
      refine RJ_op rfl (OJ_P (P_assign rfl) rfl ?_)
      refine RJ_nil ?_
      refine QJ_then ?_
      refine CJ_ret ?_
      have hE := Option.some.inj h
      subst hE
      refine QJ_end (res2 Try.results36 rfl rfl) ?_
      refine CSpec.close hd12 ?_ ?_ (Ent.take del1 (Ent.take del1 Ent.refl))
      · rfl
      · trivial

def block_WriteAll_l1_b (x_0 : Dvc) (at_1 : Int) (l : List UInt64) (rec : ArrS → Nat → Option ((ArrS) ⊕ (Int × ArrS))) (x12 : ArrS) (x13 : Nat) : Option ((ArrS) ⊕ (Int × ArrS)) :=
  if (((x13 : Nat) : Int) < ((l.length : Nat) : Int)) then
    grd (inI64 ((at_1 + ((x13 : Nat) : Int)))) <|
    Option.bind (Dvc.wr x_0 x12 ((at_1 + ((x13 : Nat) : Int))) (l.getD x13 0)) fun r15 =>
    if (r15.1 ≠ (0 : Int)) then
      some (.inr (r15.1, r15.2))
    else
      rec r15.2 (x13 + 1)
  else
    some (.inl x12)

def block_WriteAll_l1 (x_0 : Dvc) (at_1 : Int) (l : List UInt64) : Nat → ArrS → Nat → Option ((ArrS) ⊕ (Int × ArrS))
  | 0, _, _ => none
  | n + 1, x12, x13 => block_WriteAll_l1_b x_0 at_1 l (block_WriteAll_l1 x_0 at_1 l n) x12 x13

def block_WriteAll (x_0 : Dvc) (at_1 : Int) (l : List UInt64) (s : ArrS) : Option (Int × ArrS) :=
  Option.bind (Dvc.size x_0 s) fun r3 =>
  Option.bind (block_inside r3 at_1 (((l.length : Nat) : Int))) fun r5 =>
  if (¬ r5 = true) then
    some (((1 : Int), s))
  else
    seqO (block_WriteAll_l1 x_0 at_1 l FUEL s 0) fun a11 =>
    some (((0 : Int), a11))

theorem L_block_WriteAll {W : World} {vx_0 : IfH} {Al : HP} {vl : Value} {bs : Nat} {x_0 : Dvc} {at_1 : Int} {l : List UInt64} {s : ArrS} {r : Int × ArrS} (rl : Reads Al tyU vl l) (h : block_WriteAll x_0 at_1 l s = some r) :
    CSpec Try.prog W 37 [IfH.v vx_0, .int .i64 at_1, vl] [DevP bs x_0 vx_0, Al, Arr bs s] (fun x : Unit => .int .i64 r.1) (fun _ => True) (fun x F => DevP bs x_0 vx_0 :: Al :: Arr bs r.2 :: F) := by
  refine CSpec.of_body Try.func37 rfl Try.ntmps37 rfl (fun F => ?_)
  show CJ _ _ _ _ _ _ (_ :: _ :: _ :: F)
  unfold block_WriteAll at h
  refine CJ_pure (len_of rl del1) (fun hlen1 => ?_)
  refine CJ_seq ?_
  refine CJ_region ?_
  refine RJ_op rfl (OJ_P (P_assign rfl) rfl ?_)
  refine RJ_nil ?_
  refine QJ_then ?_
  refine CJ_seq ?_
  refine CJ_seq ?_
  refine CJ_region ?_
  refine RJ_op rfl (OJ_P (P_move rfl) rfl ?_)
  refine RJ_pure (fun h hh => DevP_dep h (stars_perm (del0 (A := DevP bs x_0 vx_0)).out h hh)) (fun hdp2 => ?_)
  obtain ⟨r3, hr4, h⟩ := bind_e h
  refine RJ_op rfl (O_callI rfl (dev_Size hr4 hdp2) rfl (Dels.cons del0 (Dels.cons del1 Dels.nil)) rfl (fun _ _ => ?_))
  refine RJ_op rfl (OJ_P (P_move rfl) rfl ?_)
  refine RJ_op rfl (OJ_P (P_move rfl) rfl ?_)
  refine RJ_op rfl (OJ_V (V_len rfl foc2 rl Try.runUnderlying25) rfl ?_)
  obtain ⟨r5, hr6, h⟩ := bind_e h
  refine RJ_op rfl (O_call (L_block_inside hr6) rfl Try.call64 Dels.nil rfl (fun _ _ => ?_))
  refine RJ_op rfl (OJ_P (P_not rfl) rfl ?_)
  refine RJ_nil ?_
  refine QJ_then ?_
  refine CJ_condP rfl (bT_not Iff.rfl) (fun hg1 => ?_) (fun hg1 => ?_)
  ·
    replace h := ite_t hg1 h
    refine CJ_seq ?_
    refine CJ_region ?_
    refine RJ_op rfl (OJ_P (P_assign rfl) rfl ?_)
    refine RJ_nil ?_
    refine QJ_then ?_
    refine CJ_ret ?_
    refine QJ_then_ret ?_
    have hE := Option.some.inj h
    subst hE
    refine QJ_end (res1 Try.results37 rfl) ?_
    refine CSpec.close () ?_ ?_ (Ent.take del0 (Ent.take del1 Ent.refl))
    · rfl
    · trivial
  ·
    replace h := ite_f hg1 h
    refine CJ_skip ?_
    refine QJ_then ?_
    refine CJ_seq ?_
    refine CJ_seq ?_
    refine CJ_region ?_
    refine RJ_op rfl (OJ_P (P_move rfl) rfl ?_)
    refine RJ_op rfl (OJ_V (V_len rfl foc2 rl Try.runUnderlying25) rfl ?_)
    refine RJ_op rfl (OJ_P (P_move rfl) rfl ?_)
    refine RJ_nil ?_
    refine QJ_then ?_
    obtain ⟨y9, hl7, hK8⟩ := seq_e h
    refine CJ_cutT (X := ArrS) [6, 7, 8, 9, 19, 20, 21, 22, 23, 24, 25, 26, 27, 28, 29, 30, 31, 32, 33] (fun a11 => ([] : Slots)) (fun a11 R => Arr bs a11 :: R) (fun a11 => y9 = .inl a11) (Dels.cons del1 Dels.nil) ?_ ?_
    ·
      refine CJ_block ?_
      refine CJ_loopR (X := Nat × ArrS × Nat) [6, 7, 8, 9, 19, 20, 21, 22, 23, 24, 25, 26, 27, 28, 29, 30, 31, 32, 33] (fun ⟨n, x12, x13⟩ => ([(19, .int .i64 (((x13 : Nat) : Int)))] : Slots)) (fun ⟨n, x12, x13⟩ R => Arr bs x12 :: R) (fun ⟨n, x12, x13⟩ => block_WriteAll_l1 x_0 at_1 l n x12 x13 = some y9) (fun ⟨n, x12, x13⟩ => n) ⟨FUEL, s, 0⟩ ?_ ?_ (Ent.take del1 Ent.refl) ?_
      · exact hl7
      · exact ⟨rfl, True.intro⟩
      ·
        rintro ⟨n, x12, x13⟩ h
        cases n with
        | zero => exact none_e h
        | succ n => ?_
        replace h : block_WriteAll_l1_b x_0 at_1 l (block_WriteAll_l1 x_0 at_1 l n) x12 x13 = some y9 := h
        unfold block_WriteAll_l1_b at h
        show CJ _ _ _ _ _ (([(19, .int .i64 (((x13 : Nat) : Int)))] : Slots) ++ forget _ _) (Arr bs x12 :: _)
        refine CJ_seq ?_
        refine CJ_region ?_
        refine RJ_op rfl (OJ_P (P_lss (a := ((x13 : Nat) : Int)) (b := ((l.length : Nat) : Int)) rfl rfl) rfl ?_)
        refine RJ_nil ?_
        refine QJ_then ?_
        refine CJ_seq ?_
        refine CJ_condP rfl bT_dec (fun hg2 => ?_) (fun hg2 => ?_)
        ·
          replace h := ite_t hg2 h
          refine CJ_skip ?_
          refine QJ_then ?_
          refine CJ_seq ?_
          refine CJ_block ?_
          refine CJ_seq ?_
          refine CJ_region ?_
          refine RJ_op rfl (OJ_P (P_move rfl) rfl ?_)
          refine RJ_op rfl (OJ_V (V_index (i := x13) rfl rfl rfl (by omega) foc2 rl Try.runUnderlying25 Try.sizeOf22) rfl ?_)
          refine RJ_op rfl (OJ_V (V_loadE rfl rfl (by omega) foc2 rl rfl rfl Try.isAgg22) rfl ?_)
          refine RJ_op rfl (OJ_P (P_assign rfl) rfl ?_)
          refine RJ_op rfl (OJ_P (P_assign rfl) rfl ?_)
          refine RJ_nil ?_
          refine QJ_then ?_
          refine CJ_seq ?_
          refine CJ_region ?_
          refine RJ_op rfl (OJ_P (P_move rfl) rfl ?_)
          refine RJ_op rfl (OJ_P (P_move rfl) rfl ?_)
          refine RJ_op rfl (OJ_P (P_move rfl) rfl ?_)
          obtain ⟨hg3, h⟩ := grd_Ie h
          refine RJ_op rfl (OJ_P (P_add (a := at_1) (b := ((x13 : Nat) : Int)) rfl rfl hg3) rfl ?_)
          refine RJ_op rfl (OJ_P (P_move rfl) rfl ?_)
          refine RJ_pure (fun h hh => DevP_dep h (stars_perm (del1 (A := DevP bs x_0 vx_0)).out h hh)) (fun hdp14 => ?_)
          obtain ⟨r15, hr16, h⟩ := bind_e h
          refine RJ_op rfl (O_callI rfl (dev_Write hr16 hdp14) rfl (Dels.cons del1 (Dels.cons del0 Dels.nil)) rfl (fun _ _ => ?_))
          refine RJ_op rfl (OJ_P (P_assign rfl) rfl ?_)
          refine RJ_nil ?_
          refine QJ_then ?_
          refine CJ_seq ?_
          refine CJ_region ?_
          refine RJ_op rfl (OJ_P (P_move rfl) rfl ?_)
          refine RJ_op rfl (OJ_P (P_neq (a := r15.1) (b := (0 : Int)) rfl rfl) rfl ?_)
          refine RJ_nil ?_
          refine QJ_then ?_
          refine CJ_condP rfl bT_dec (fun hg4 => ?_) (fun hg4 => ?_)
          ·
            replace h := ite_t hg4 h
            refine CJ_seq ?_
            refine CJ_region ?_
            refine RJ_op rfl (OJ_P (P_move rfl) rfl ?_)
            refine RJ_op rfl (OJ_P (P_assign rfl) rfl ?_)
            refine RJ_nil ?_
            refine QJ_then ?_
            refine CJ_ret ?_
            refine QJ_block_ret ?_
            refine QJ_then_ret ?_
            refine QJ_round_ret ?_
            refine QJ_block_ret ?_
            refine QJ_then_ret ?_
            have hE := Option.some.inj h
            replace hE := seq_inr hK8 hE.symm
            subst hE
            refine QJ_end (res1 Try.results37 rfl) ?_
            refine CSpec.close () ?_ ?_ (Ent.take del0 (Ent.take del1 Ent.refl))
            · rfl
            · trivial
          ·
            replace h := ite_f hg4 h
            refine CJ_skip ?_
            refine QJ_block_normal ?_
            refine QJ_then ?_
            refine CJ_region ?_
            refine RJ_op rfl (OJ_P (PJ_eq (P_add (a := ((x13 : Nat) : Int)) (b := (1 : Int)) rfl rfl (by omega)) rfl) rfl ?_)
            refine RJ_op rfl (OJ_P (P_move rfl) rfl ?_)
            refine RJ_nil ?_
            refine QJ_nextR ⟨n, r15.2, (x13 + 1)⟩ (Nat.lt_succ_self _) ?_ (by repeat (first | exact Kp.base | exact Kp.self | refine Kp.cons rfl ?_ | refine Kp.forget rfl ?_)) ?_ (Ent.take del1 Ent.refl)
            · exact h
            · exact ⟨rfl, True.intro⟩
        ·
          replace h := ite_f hg2 h
          refine CJ_exit ?_
          refine QJ_then_exit ?_
          refine QJ_round_exit ?_
          refine QJ_block_here ?_
          refine QJ_cutR x12 ?_ (by repeat (first | exact Kp.base | exact Kp.self | refine Kp.cons rfl ?_ | refine Kp.forget rfl ?_)) ?_ Ent.refl
          · exact (Option.some.inj h).symm
          · exact True.intro
    ·
      rintro a11 hy17
      replace h := seq_inl hK8 hy17
      show CJ _ _ _ _ _ (([] : Slots) ++ forget _ _) (Arr bs a11 :: _)
      refine CJ_seq ?_
      refine CJ_region ?_
      refine RJ_op rfl (OJ_P (P_assign rfl) rfl ?_)
      refine RJ_nil ?_
      refine QJ_then ?_
      refine CJ_ret ?_
      have hE := Option.some.inj h
      subst hE
      refine QJ_end (res1 Try.results37 rfl) ?_
      refine CSpec.close () ?_ ?_ (Ent.take del1 (Ent.take del1 Ent.refl))
      · rfl
      · trivial

def block_Copy_l1_b (from_0 : Dvc) (to : Dvc) (at_2 : Int) (n_3 : Int) (rec : ArrS → Nat → Option ((ArrS) ⊕ (Int × ArrS))) (x16 : ArrS) (x17 : Nat) : Option ((ArrS) ⊕ (Int × ArrS)) :=
  if (((x17 : Nat) : Int) < n_3) then
    grd (inI64 ((at_2 + ((x17 : Nat) : Int)))) <|
    Option.bind (Dvc.rd from_0 x16 ((at_2 + ((x17 : Nat) : Int)))) fun r19 =>
    if (r19.2 = (0 : Int)) then
      grd (inI64 ((at_2 + ((x17 : Nat) : Int)))) <|
      Option.bind (Dvc.wr to x16 ((at_2 + ((x17 : Nat) : Int))) r19.1) fun r22 =>
      if (r22.1 ≠ (0 : Int)) then
        some (.inr (r22.1, r22.2))
      else
        grd (inN64 (x17 + 1)) <|
        rec r22.2 (x17 + 1)
    else
      if (r19.2 ≠ (0 : Int)) then
        some (.inr (r19.2, x16))
      else
        grd (inN64 (x17 + 1)) <|
        rec x16 (x17 + 1)
  else
    some (.inl x16)

def block_Copy_l1 (from_0 : Dvc) (to : Dvc) (at_2 : Int) (n_3 : Int) : Nat → ArrS → Nat → Option ((ArrS) ⊕ (Int × ArrS))
  | 0, _, _ => none
  | n + 1, x16, x17 => block_Copy_l1_b from_0 to at_2 n_3 (block_Copy_l1 from_0 to at_2 n_3 n) x16 x17

def block_Copy (from_0 : Dvc) (to : Dvc) (at_2 : Int) (n_3 : Int) (s : ArrS) : Option (Int × ArrS) :=
  Option.bind (Dvc.size from_0 s) fun r2 =>
  Option.bind (block_inside r2 at_2 n_3) fun r4 =>
  if (¬ r4 = true) then
    some (((1 : Int), s))
  else
    Option.bind (Dvc.size to s) fun r7 =>
    Option.bind (block_inside r7 at_2 n_3) fun r9 =>
    if (¬ r9 = true) then
      some (((1 : Int), s))
    else
      seqO (block_Copy_l1 from_0 to at_2 n_3 FUEL s 0) fun a15 =>
      some (((0 : Int), a15))

theorem L_block_Copy {W : World} {vfrom_0 : IfH} {vto : IfH} {bs : Nat} {from_0 : Dvc} {to : Dvc} {at_2 : Int} {n_3 : Int} {s : ArrS} {r : Int × ArrS} (h : block_Copy from_0 to at_2 n_3 s = some r) :
    CSpec Try.prog W 23 [IfH.v vfrom_0, IfH.v vto, .int .i64 at_2, .int .i64 n_3] [DevP bs from_0 vfrom_0, DevP bs to vto, Arr bs s] (fun x : Unit => .int .i64 r.1) (fun _ => True) (fun x F => DevP bs from_0 vfrom_0 :: DevP bs to vto :: Arr bs r.2 :: F) := by
  refine CSpec.of_body Try.func23 rfl Try.ntmps23 rfl (fun F => ?_)
  show CJ _ _ _ _ _ _ (_ :: _ :: _ :: F)
  unfold block_Copy at h
  refine CJ_seq ?_
  refine CJ_region ?_
  refine RJ_op rfl (OJ_P (P_assign rfl) rfl ?_)
  refine RJ_nil ?_
  refine QJ_then ?_
  refine CJ_seq ?_
  refine CJ_seq ?_
  refine CJ_region ?_
  refine RJ_op rfl (OJ_P (P_move rfl) rfl ?_)
  refine RJ_pure (fun h hh => DevP_dep h (stars_perm (del0 (A := DevP bs from_0 vfrom_0)).out h hh)) (fun hdp1 => ?_)
  obtain ⟨r2, hr3, h⟩ := bind_e h
  refine RJ_op rfl (O_callI rfl (dev_Size hr3 hdp1) rfl (Dels.cons del0 (Dels.cons del1 Dels.nil)) rfl (fun _ _ => ?_))
  refine RJ_op rfl (OJ_P (P_move rfl) rfl ?_)
  refine RJ_op rfl (OJ_P (P_move rfl) rfl ?_)
  obtain ⟨r4, hr5, h⟩ := bind_e h
  refine RJ_op rfl (O_call (L_block_inside hr5) rfl Try.call64 Dels.nil rfl (fun _ _ => ?_))
  refine RJ_op rfl (OJ_P (P_not rfl) rfl ?_)
  refine RJ_op rfl (OJ_P (P_move rfl) rfl ?_)
  refine RJ_splitP 18 rfl (bT_not Iff.rfl) (fun hg1B hg1 => ?_) (fun hg1B hg1 => ?_)
  ·
    replace h := ite_t hg1 h
    refine RJ_gn (GY_no rfl rfl rfl hg1B) rfl rfl ?_
    refine RJ_gn (GY_no rfl rfl rfl hg1B) rfl rfl ?_
    refine RJ_gn (GY_no rfl rfl rfl hg1B) rfl rfl ?_
    refine RJ_gn (GY_no rfl rfl rfl hg1B) rfl rfl ?_
    refine RJ_gn (GY_no rfl rfl rfl hg1B) rfl rfl ?_
    refine RJ_gn (GY_no rfl rfl rfl hg1B) rfl rfl ?_
    refine RJ_op rfl (OJ_P (P_pickT rfl hg1B rfl) rfl ?_)
    refine RJ_nil ?_
    refine QJ_then ?_
    refine CJ_condT rfl rfl ?_
    refine CJ_seq ?_
    refine CJ_region ?_
    refine RJ_op rfl (OJ_P (P_assign rfl) rfl ?_)
    refine RJ_nil ?_
    refine QJ_then ?_
    refine CJ_ret ?_
    refine QJ_then_ret ?_
    have hE := Option.some.inj h
    subst hE
    refine QJ_end (res1 Try.results23 rfl) ?_
    refine CSpec.close () ?_ ?_ (Ent.take del0 (Ent.take del1 Ent.refl))
    · rfl
    · trivial
  ·
    replace h := ite_f hg1 h
    refine RJ_gy (GY_yes rfl rfl rfl hg1B) (OJ_P (P_move rfl) rfl ?_)
    refine RJ_pure (fun h hh => DevP_dep h (stars_perm (del2 (A := DevP bs to vto)).out h hh)) (fun hdp6 => ?_)
    obtain ⟨r7, hr8, h⟩ := bind_e h
    refine RJ_gy (GY_yes rfl rfl rfl hg1B) (O_callI rfl (dev_Size hr8 hdp6) rfl (Dels.cons del2 (Dels.cons del1 Dels.nil)) rfl (fun _ _ => ?_))
    refine RJ_gy (GY_yes rfl rfl rfl hg1B) (OJ_P (P_move rfl) rfl ?_)
    refine RJ_gy (GY_yes rfl rfl rfl hg1B) (OJ_P (P_move rfl) rfl ?_)
    obtain ⟨r9, hr10, h⟩ := bind_e h
    refine RJ_gy (GY_yes rfl rfl rfl hg1B) (O_call (L_block_inside hr10) rfl Try.call64 Dels.nil rfl (fun _ _ => ?_))
    refine RJ_gy (GY_yes rfl rfl rfl hg1B) (OJ_P (P_not rfl) rfl ?_)
    refine RJ_op rfl (OJ_P (P_pickF rfl hg1B rfl) rfl ?_)
    refine RJ_nil ?_
    refine QJ_then ?_
    refine CJ_condP rfl (bT_not Iff.rfl) (fun hg2 => ?_) (fun hg2 => ?_)
    ·
      replace h := ite_t hg2 h
      refine CJ_seq ?_
      refine CJ_region ?_
      refine RJ_op rfl (OJ_P (P_assign rfl) rfl ?_)
      refine RJ_nil ?_
      refine QJ_then ?_
      refine CJ_ret ?_
      refine QJ_then_ret ?_
      have hE := Option.some.inj h
      subst hE
      refine QJ_end (res1 Try.results23 rfl) ?_
      refine CSpec.close () ?_ ?_ (Ent.take del2 Ent.refl)
      · rfl
      · trivial
    ·
      replace h := ite_f hg2 h
      refine CJ_skip ?_
      refine QJ_then ?_
      refine CJ_seq ?_
      refine CJ_seq ?_
      refine CJ_region ?_
      refine RJ_op rfl (OJ_P (P_move rfl) rfl ?_)
      refine RJ_op rfl (OJ_P (P_move rfl) rfl ?_)
      refine RJ_nil ?_
      refine QJ_then ?_
      obtain ⟨y13, hl11, hK12⟩ := seq_e h
      refine CJ_cutT (X := ArrS) [8, 9, 10, 11, 27, 28, 29, 30, 31, 32, 33, 34, 35, 36, 37, 38, 39, 40, 41, 42, 43, 44, 45, 46, 47, 48, 49] (fun a15 => ([] : Slots)) (fun a15 R => Arr bs a15 :: R) (fun a15 => y13 = .inl a15) (Dels.cons del1 Dels.nil) ?_ ?_
      ·
        refine CJ_block ?_
        refine CJ_loopR (X := Nat × ArrS × Nat) [8, 9, 10, 11, 27, 28, 29, 30, 31, 32, 33, 34, 35, 36, 37, 38, 39, 40, 41, 42, 43, 44, 45, 46, 47, 48, 49] (fun ⟨n, x16, x17⟩ => ([(27, .int .i64 (((x17 : Nat) : Int)))] : Slots)) (fun ⟨n, x16, x17⟩ R => Arr bs x16 :: R) (fun ⟨n, x16, x17⟩ => block_Copy_l1 from_0 to at_2 n_3 n x16 x17 = some y13) (fun ⟨n, x16, x17⟩ => n) ⟨FUEL, s, 0⟩ ?_ ?_ (Ent.take del1 Ent.refl) ?_
        · exact hl11
        · exact ⟨rfl, True.intro⟩
        ·
          rintro ⟨n, x16, x17⟩ h
          cases n with
          | zero => exact none_e h
          | succ n => ?_
          replace h : block_Copy_l1_b from_0 to at_2 n_3 (block_Copy_l1 from_0 to at_2 n_3 n) x16 x17 = some y13 := h
          unfold block_Copy_l1_b at h
          show CJ _ _ _ _ _ (([(27, .int .i64 (((x17 : Nat) : Int)))] : Slots) ++ forget _ _) (Arr bs x16 :: _)
          refine CJ_seq ?_
          refine CJ_region ?_
          refine RJ_op rfl (OJ_P (P_lss (a := ((x17 : Nat) : Int)) (b := n_3) rfl rfl) rfl ?_)
          refine RJ_nil ?_
          refine QJ_then ?_
          refine CJ_seq ?_
          refine CJ_condP rfl bT_dec (fun hg3 => ?_) (fun hg3 => ?_)
          ·
            replace h := ite_t hg3 h
            refine CJ_skip ?_
            refine QJ_then ?_
            refine CJ_seq ?_
            refine CJ_block ?_
            refine CJ_seq ?_
            refine CJ_region ?_
            refine RJ_op rfl (OJ_P (P_move rfl) rfl ?_)
            refine RJ_op rfl (OJ_P (P_assign rfl) rfl ?_)
            refine RJ_nil ?_
            refine QJ_then ?_
            refine CJ_seq ?_
            refine CJ_region ?_
            refine RJ_op rfl (OJ_P (P_move rfl) rfl ?_)
            refine RJ_op rfl (OJ_P (P_move rfl) rfl ?_)
            refine RJ_op rfl (OJ_P (P_move rfl) rfl ?_)
            obtain ⟨hg4, h⟩ := grd_Ie h
            refine RJ_op rfl (OJ_P (P_add (a := at_2) (b := ((x17 : Nat) : Int)) rfl rfl hg4) rfl ?_)
            refine RJ_pure (fun h hh => DevP_dep h (stars_perm (del2 (A := DevP bs from_0 vfrom_0)).out h hh)) (fun hdp18 => ?_)
            obtain ⟨r19, hr20, h⟩ := bind_e h
            refine RJ_op rfl (O_callI rfl (dev_Read hr20 hdp18) rfl (Dels.cons del2 (Dels.cons del0 Dels.nil)) rfl (fun _ _ => ?_))
            refine RJ_op rfl (OJ_P (P_move rfl) rfl ?_)
            refine RJ_op rfl (OJ_P (P_extract rfl rfl) rfl ?_)
            refine RJ_op rfl (OJ_P (P_extract rfl rfl) rfl ?_)
            refine RJ_op rfl (OJ_P (P_assign rfl) rfl ?_)
            refine RJ_op rfl (OJ_P (P_assign rfl) rfl ?_)
            refine RJ_nil ?_
            refine QJ_then ?_
            refine CJ_seq ?_
            refine CJ_seq ?_
            refine CJ_region ?_
            refine RJ_op rfl (OJ_P (P_move rfl) rfl ?_)
            refine RJ_op rfl (OJ_P (P_eql (a := r19.2) (b := (0 : Int)) rfl rfl) rfl ?_)
            refine RJ_nil ?_
            refine QJ_then ?_
            refine CJ_condP rfl bT_dec (fun hg5 => ?_) (fun hg5 => ?_)
            ·
              replace h := ite_t hg5 h
              refine CJ_region ?_
              refine RJ_op rfl (OJ_P (P_move rfl) rfl ?_)
              refine RJ_op rfl (OJ_P (P_move rfl) rfl ?_)
              refine RJ_op rfl (OJ_P (P_move rfl) rfl ?_)
              obtain ⟨hg6, h⟩ := grd_Ie h
              refine RJ_op rfl (OJ_P (P_add (a := at_2) (b := ((x17 : Nat) : Int)) rfl rfl hg6) rfl ?_)
              refine RJ_op rfl (OJ_P (P_move rfl) rfl ?_)
              refine RJ_pure (fun h hh => DevP_dep h (stars_perm (del2 (A := DevP bs to vto)).out h hh)) (fun hdp21 => ?_)
              obtain ⟨r22, hr23, h⟩ := bind_e h
              refine RJ_op rfl (O_callI rfl (dev_Write hr23 hdp21) rfl (Dels.cons del2 (Dels.cons del1 Dels.nil)) rfl (fun _ _ => ?_))
              refine RJ_op rfl (OJ_P (P_assign rfl) rfl ?_)
              refine RJ_nil ?_
              refine QJ_then ?_
              refine CJ_seq ?_
              refine CJ_region ?_
              refine RJ_op rfl (OJ_P (P_move rfl) rfl ?_)
              refine RJ_op rfl (OJ_P (P_neq (a := r22.1) (b := (0 : Int)) rfl rfl) rfl ?_)
              refine RJ_nil ?_
              refine QJ_then ?_
              refine CJ_condP rfl bT_dec (fun hg7 => ?_) (fun hg7 => ?_)
              ·
                replace h := ite_t hg7 h
                refine CJ_seq ?_
                refine CJ_region ?_
                refine RJ_op rfl (OJ_P (P_move rfl) rfl ?_)
                refine RJ_op rfl (OJ_P (P_assign rfl) rfl ?_)
                refine RJ_nil ?_
                refine QJ_then ?_
                refine CJ_ret ?_
                refine QJ_block_ret ?_
                refine QJ_then_ret ?_
                refine QJ_round_ret ?_
                refine QJ_block_ret ?_
                refine QJ_then_ret ?_
                have hE := Option.some.inj h
                replace hE := seq_inr hK12 hE.symm
                subst hE
                refine QJ_end (res1 Try.results23 rfl) ?_
                refine CSpec.close () ?_ ?_ (Ent.take del2 Ent.refl)
                · rfl
                · trivial
              ·
                replace h := ite_f hg7 h
                refine CJ_skip ?_
                refine QJ_block_normal ?_
                refine QJ_then ?_
                refine CJ_region ?_
                obtain ⟨hg8, h⟩ := grd_Ne h
                refine RJ_op rfl (OJ_P (PJ_eq (P_add (a := ((x17 : Nat) : Int)) (b := (1 : Int)) rfl rfl (nat_in hg8)) rfl) rfl ?_)
                refine RJ_op rfl (OJ_P (P_move rfl) rfl ?_)
                refine RJ_nil ?_
                refine QJ_nextR ⟨n, r22.2, (x17 + 1)⟩ (Nat.lt_succ_self _) ?_ (by repeat (first | exact Kp.base | exact Kp.self | refine Kp.cons rfl ?_ | refine Kp.forget rfl ?_)) ?_ (Ent.take del1 Ent.refl)
                · exact h
                · exact ⟨rfl, True.intro⟩
            ·
              replace h := ite_f hg5 h
              refine CJ_skip ?_
              refine QJ_then ?_
              refine CJ_seq ?_
              refine CJ_region ?_
              refine RJ_op rfl (OJ_P (P_move rfl) rfl ?_)
              refine RJ_op rfl (OJ_P (P_neq (a := r19.2) (b := (0 : Int)) rfl rfl) rfl ?_)
              refine RJ_nil ?_
              refine QJ_then ?_
              refine CJ_condP rfl bT_dec (fun hg9 => ?_) (fun hg9 => ?_)
              ·
                replace h := ite_t hg9 h
                refine CJ_seq ?_
                refine CJ_region ?_
                refine RJ_op rfl (OJ_P (P_move rfl) rfl ?_)
                refine RJ_op rfl (OJ_P (P_assign rfl) rfl ?_)
                refine RJ_nil ?_
                refine QJ_then ?_
                refine CJ_ret ?_
                refine QJ_block_ret ?_
                refine QJ_then_ret ?_
                refine QJ_round_ret ?_
                refine QJ_block_ret ?_
                refine QJ_then_ret ?_
                have hE := Option.some.inj h
                replace hE := seq_inr hK12 hE.symm
                subst hE
                refine QJ_end (res1 Try.results23 rfl) ?_
                refine CSpec.close () ?_ ?_ (Ent.take del0 (Ent.take del1 Ent.refl))
                · rfl
                · trivial
              ·
                replace h := ite_f hg9 h
                refine CJ_skip ?_
                refine QJ_block_normal ?_
                refine QJ_then ?_
                refine CJ_region ?_
                obtain ⟨hg10, h⟩ := grd_Ne h
                refine RJ_op rfl (OJ_P (PJ_eq (P_add (a := ((x17 : Nat) : Int)) (b := (1 : Int)) rfl rfl (nat_in hg10)) rfl) rfl ?_)
                refine RJ_op rfl (OJ_P (P_move rfl) rfl ?_)
                refine RJ_nil ?_
                refine QJ_nextR ⟨n, x16, (x17 + 1)⟩ (Nat.lt_succ_self _) ?_ (by repeat (first | exact Kp.base | exact Kp.self | refine Kp.cons rfl ?_ | refine Kp.forget rfl ?_)) ?_ (Ent.take del1 (Ent.take del1 Ent.refl))
                · exact h
                · exact ⟨rfl, True.intro⟩
          ·
            replace h := ite_f hg3 h
            refine CJ_exit ?_
            refine QJ_then_exit ?_
            refine QJ_round_exit ?_
            refine QJ_block_here ?_
            refine QJ_cutR x16 ?_ (by repeat (first | exact Kp.base | exact Kp.self | refine Kp.cons rfl ?_ | refine Kp.forget rfl ?_)) ?_ Ent.refl
            · exact (Option.some.inj h).symm
            · exact True.intro
      ·
        rintro a15 hy24
        replace h := seq_inl hK12 hy24
        show CJ _ _ _ _ _ (([] : Slots) ++ forget _ _) (Arr bs a15 :: _)
        refine CJ_seq ?_
        refine CJ_region ?_
        refine RJ_op rfl (OJ_P (P_assign rfl) rfl ?_)
        refine RJ_nil ?_
        refine QJ_then ?_
        refine CJ_ret ?_
        have hE := Option.some.inj h
        subst hE
        refine QJ_end (res1 Try.results23 rfl) ?_
        refine CSpec.close () ?_ ?_ (Ent.take del2 (Ent.take del1 Ent.refl))
        · rfl
        · trivial

def block_Equal_l1_b (a : Dvc) (b : Dvc) (at_2 : Int) (n_3 : Int) (s : ArrS) (rec : Nat → Option ((Unit) ⊕ (Bool × Int))) (x15 : Nat) : Option ((Unit) ⊕ (Bool × Int)) :=
  if (((x15 : Nat) : Int) < n_3) then
    grd (inI64 ((at_2 + ((x15 : Nat) : Int)))) <|
    Option.bind (Dvc.rd a s ((at_2 + ((x15 : Nat) : Int)))) fun r17 =>
    if (r17.2 ≠ (0 : Int)) then
      some (.inr (false, r17.2))
    else
      grd (inI64 ((at_2 + ((x15 : Nat) : Int)))) <|
      Option.bind (Dvc.rd b s ((at_2 + ((x15 : Nat) : Int)))) fun r20 =>
      if (r20.2 ≠ (0 : Int)) then
        some (.inr (false, r20.2))
      else
        if (r17.1 ≠ r20.1) then
          some (.inr ((false, (0 : Int))))
        else
          grd (inN64 (x15 + 1)) <|
          rec (x15 + 1)
  else
    some (.inl ())

def block_Equal_l1 (a : Dvc) (b : Dvc) (at_2 : Int) (n_3 : Int) (s : ArrS) : Nat → Nat → Option ((Unit) ⊕ (Bool × Int))
  | 0, _ => none
  | n + 1, x15 => block_Equal_l1_b a b at_2 n_3 s (block_Equal_l1 a b at_2 n_3 s n) x15

def block_Equal (a : Dvc) (b : Dvc) (at_2 : Int) (n_3 : Int) (s : ArrS) : Option (Bool × Int) :=
  Option.bind (Dvc.size a s) fun r2 =>
  Option.bind (block_inside r2 at_2 n_3) fun r4 =>
  if (¬ r4 = true) then
    some ((false, (1 : Int)))
  else
    Option.bind (Dvc.size b s) fun r7 =>
    Option.bind (block_inside r7 at_2 n_3) fun r9 =>
    if (¬ r9 = true) then
      some ((false, (1 : Int)))
    else
      seqO (block_Equal_l1 a b at_2 n_3 s FUEL 0) fun a14 =>
      some ((true, (0 : Int)))

theorem L_block_Equal {W : World} {va : IfH} {vb : IfH} {bs : Nat} {a : Dvc} {b : Dvc} {at_2 : Int} {n_3 : Int} {s : ArrS} {r : Bool × Int} (h : block_Equal a b at_2 n_3 s = some r) :
    CSpec Try.prog W 24 [IfH.v va, IfH.v vb, .int .i64 at_2, .int .i64 n_3] [DevP bs a va, DevP bs b vb, Arr bs s] (fun x : Unit => .tuple #[.bool r.1, .int .i64 r.2]) (fun _ => True) (fun x F => DevP bs a va :: DevP bs b vb :: Arr bs s :: F) := by
  refine CSpec.of_body Try.func24 rfl Try.ntmps24 rfl (fun F => ?_)
  show CJ _ _ _ _ _ _ (_ :: _ :: _ :: F)
  unfold block_Equal at h
  refine CJ_seq ?_
  refine CJ_region ?_
  refine RJ_op rfl (OJ_P (P_assign rfl) rfl ?_)
  refine RJ_op rfl (OJ_P (P_assign rfl) rfl ?_)
  refine RJ_nil ?_
  refine QJ_then ?_
  refine CJ_seq ?_
  refine CJ_seq ?_
  refine CJ_region ?_
  refine RJ_op rfl (OJ_P (P_move rfl) rfl ?_)
  refine RJ_pure (fun h hh => DevP_dep h (stars_perm (del0 (A := DevP bs a va)).out h hh)) (fun hdp1 => ?_)
  obtain ⟨r2, hr3, h⟩ := bind_e h
  refine RJ_op rfl (O_callI rfl (dev_Size hr3 hdp1) rfl (Dels.cons del0 (Dels.cons del1 Dels.nil)) rfl (fun _ _ => ?_))
  refine RJ_op rfl (OJ_P (P_move rfl) rfl ?_)
  refine RJ_op rfl (OJ_P (P_move rfl) rfl ?_)
  obtain ⟨r4, hr5, h⟩ := bind_e h
  refine RJ_op rfl (O_call (L_block_inside hr5) rfl Try.call64 Dels.nil rfl (fun _ _ => ?_))
  refine RJ_op rfl (OJ_P (P_not rfl) rfl ?_)
  refine RJ_op rfl (OJ_P (P_move rfl) rfl ?_)
  refine RJ_splitP 20 rfl (bT_not Iff.rfl) (fun hg1B hg1 => ?_) (fun hg1B hg1 => ?_)
  ·
    replace h := ite_t hg1 h
    refine RJ_gn (GY_no rfl rfl rfl hg1B) rfl rfl ?_
    refine RJ_gn (GY_no rfl rfl rfl hg1B) rfl rfl ?_
    refine RJ_gn (GY_no rfl rfl rfl hg1B) rfl rfl ?_
    refine RJ_gn (GY_no rfl rfl rfl hg1B) rfl rfl ?_
    refine RJ_gn (GY_no rfl rfl rfl hg1B) rfl rfl ?_
    refine RJ_gn (GY_no rfl rfl rfl hg1B) rfl rfl ?_
    refine RJ_op rfl (OJ_P (P_pickT rfl hg1B rfl) rfl ?_)
    refine RJ_nil ?_
    refine QJ_then ?_
    refine CJ_condT rfl rfl ?_
    refine CJ_seq ?_
    refine CJ_region ?_
    refine RJ_op rfl (OJ_P (P_assign rfl) rfl ?_)
    refine RJ_op rfl (OJ_P (P_assign rfl) rfl ?_)
    refine RJ_nil ?_
    refine QJ_then ?_
    refine CJ_ret ?_
    refine QJ_then_ret ?_
    have hE := Option.some.inj h
    subst hE
    refine QJ_end (res2 Try.results24 rfl rfl) ?_
    refine CSpec.close () ?_ ?_ (Ent.take del0 (Ent.take del1 Ent.refl))
    · rfl
    · trivial
  ·
    replace h := ite_f hg1 h
    refine RJ_gy (GY_yes rfl rfl rfl hg1B) (OJ_P (P_move rfl) rfl ?_)
    refine RJ_pure (fun h hh => DevP_dep h (stars_perm (del2 (A := DevP bs b vb)).out h hh)) (fun hdp6 => ?_)
    obtain ⟨r7, hr8, h⟩ := bind_e h
    refine RJ_gy (GY_yes rfl rfl rfl hg1B) (O_callI rfl (dev_Size hr8 hdp6) rfl (Dels.cons del2 (Dels.cons del1 Dels.nil)) rfl (fun _ _ => ?_))
    refine RJ_gy (GY_yes rfl rfl rfl hg1B) (OJ_P (P_move rfl) rfl ?_)
    refine RJ_gy (GY_yes rfl rfl rfl hg1B) (OJ_P (P_move rfl) rfl ?_)
    obtain ⟨r9, hr10, h⟩ := bind_e h
    refine RJ_gy (GY_yes rfl rfl rfl hg1B) (O_call (L_block_inside hr10) rfl Try.call64 Dels.nil rfl (fun _ _ => ?_))
    refine RJ_gy (GY_yes rfl rfl rfl hg1B) (OJ_P (P_not rfl) rfl ?_)
    refine RJ_op rfl (OJ_P (P_pickF rfl hg1B rfl) rfl ?_)
    refine RJ_nil ?_
    refine QJ_then ?_
    refine CJ_condP rfl (bT_not Iff.rfl) (fun hg2 => ?_) (fun hg2 => ?_)
    ·
      replace h := ite_t hg2 h
      refine CJ_seq ?_
      refine CJ_region ?_
      refine RJ_op rfl (OJ_P (P_assign rfl) rfl ?_)
      refine RJ_op rfl (OJ_P (P_assign rfl) rfl ?_)
      refine RJ_nil ?_
      refine QJ_then ?_
      refine CJ_ret ?_
      refine QJ_then_ret ?_
      have hE := Option.some.inj h
      subst hE
      refine QJ_end (res2 Try.results24 rfl rfl) ?_
      refine CSpec.close () ?_ ?_ (Ent.take del2 Ent.refl)
      · rfl
      · trivial
    ·
      replace h := ite_f hg2 h
      refine CJ_skip ?_
      refine QJ_then ?_
      refine CJ_seq ?_
      refine CJ_seq ?_
      refine CJ_region ?_
      refine RJ_op rfl (OJ_P (P_move rfl) rfl ?_)
      refine RJ_op rfl (OJ_P (P_move rfl) rfl ?_)
      refine RJ_nil ?_
      refine QJ_then ?_
      obtain ⟨y13, hl11, hK12⟩ := seq_e h
      refine CJ_cutT (X := Unit) [8, 9, 10, 11, 12, 13, 29, 30, 31, 32, 33, 34, 35, 36, 37, 38, 39, 40, 41, 42, 43, 44, 45, 46, 47, 48, 49, 50, 51, 52, 53, 54, 55, 56, 57] (fun _ => ([] : Slots)) (fun _ R => R) (fun _ => y13 = .inl ()) Dels.nil ?_ ?_
      ·
        refine CJ_block ?_
        refine CJ_loopR (X := Nat × Nat) [8, 9, 10, 11, 12, 13, 29, 30, 31, 32, 33, 34, 35, 36, 37, 38, 39, 40, 41, 42, 43, 44, 45, 46, 47, 48, 49, 50, 51, 52, 53, 54, 55, 56, 57] (fun ⟨n, x15⟩ => ([(29, .int .i64 (((x15 : Nat) : Int)))] : Slots)) (fun ⟨n, x15⟩ R => R) (fun ⟨n, x15⟩ => block_Equal_l1 a b at_2 n_3 s n x15 = some y13) (fun ⟨n, x15⟩ => n) ⟨FUEL, 0⟩ ?_ ?_ Ent.refl ?_
        · exact hl11
        · exact ⟨rfl, True.intro⟩
        ·
          rintro ⟨n, x15⟩ h
          cases n with
          | zero => exact none_e h
          | succ n => ?_
          replace h : block_Equal_l1_b a b at_2 n_3 s (block_Equal_l1 a b at_2 n_3 s n) x15 = some y13 := h
          unfold block_Equal_l1_b at h
          show CJ _ _ _ _ _ (([(29, .int .i64 (((x15 : Nat) : Int)))] : Slots) ++ forget _ _) (_)
          refine CJ_seq ?_
          refine CJ_region ?_
          refine RJ_op rfl (OJ_P (P_lss (a := ((x15 : Nat) : Int)) (b := n_3) rfl rfl) rfl ?_)
          refine RJ_nil ?_
          refine QJ_then ?_
          refine CJ_seq ?_
          refine CJ_condP rfl bT_dec (fun hg3 => ?_) (fun hg3 => ?_)
          ·
            replace h := ite_t hg3 h
            refine CJ_skip ?_
            refine QJ_then ?_
            refine CJ_seq ?_
            refine CJ_block ?_
            refine CJ_seq ?_
            refine CJ_region ?_
            refine RJ_op rfl (OJ_P (P_move rfl) rfl ?_)
            refine RJ_op rfl (OJ_P (P_assign rfl) rfl ?_)
            refine RJ_nil ?_
            refine QJ_then ?_
            refine CJ_seq ?_
            refine CJ_region ?_
            refine RJ_op rfl (OJ_P (P_move rfl) rfl ?_)
            refine RJ_op rfl (OJ_P (P_move rfl) rfl ?_)
            refine RJ_op rfl (OJ_P (P_move rfl) rfl ?_)
            obtain ⟨hg4, h⟩ := grd_Ie h
            refine RJ_op rfl (OJ_P (P_add (a := at_2) (b := ((x15 : Nat) : Int)) rfl rfl hg4) rfl ?_)
            refine RJ_pure (fun h hh => DevP_dep h (stars_perm (del2 (A := DevP bs a va)).out h hh)) (fun hdp16 => ?_)
            obtain ⟨r17, hr18, h⟩ := bind_e h
            refine RJ_op rfl (O_callI rfl (dev_Read hr18 hdp16) rfl (Dels.cons del2 (Dels.cons del1 Dels.nil)) rfl (fun _ _ => ?_))
            refine RJ_op rfl (OJ_P (P_move rfl) rfl ?_)
            refine RJ_op rfl (OJ_P (P_extract rfl rfl) rfl ?_)
            refine RJ_op rfl (OJ_P (P_extract rfl rfl) rfl ?_)
            refine RJ_op rfl (OJ_P (P_assign rfl) rfl ?_)
            refine RJ_op rfl (OJ_P (P_assign rfl) rfl ?_)
            refine RJ_nil ?_
            refine QJ_then ?_
            refine CJ_seq ?_
            refine CJ_seq ?_
            refine CJ_region ?_
            refine RJ_op rfl (OJ_P (P_move rfl) rfl ?_)
            refine RJ_op rfl (OJ_P (P_neq (a := r17.2) (b := (0 : Int)) rfl rfl) rfl ?_)
            refine RJ_nil ?_
            refine QJ_then ?_
            refine CJ_condP rfl bT_dec (fun hg5 => ?_) (fun hg5 => ?_)
            ·
              replace h := ite_t hg5 h
              refine CJ_seq ?_
              refine CJ_region ?_
              refine RJ_op rfl (OJ_P (P_move rfl) rfl ?_)
              refine RJ_op rfl (OJ_P (P_assign rfl) rfl ?_)
              refine RJ_op rfl (OJ_P (P_assign rfl) rfl ?_)
              refine RJ_nil ?_
              refine QJ_then ?_
              refine CJ_ret ?_
              refine QJ_then_ret ?_
              refine QJ_block_ret ?_
              refine QJ_then_ret ?_
              refine QJ_round_ret ?_
              refine QJ_block_ret ?_
              refine QJ_then_ret ?_
              have hE := Option.some.inj h
              replace hE := seq_inr hK12 hE.symm
              subst hE
              refine QJ_end (res2 Try.results24 rfl rfl) ?_
              refine CSpec.close () ?_ ?_ (Ent.take del0 (Ent.take del1 Ent.refl))
              · rfl
              · trivial
            ·
              replace h := ite_f hg5 h
              refine CJ_skip ?_
              refine QJ_then ?_
              refine CJ_seq ?_
              refine CJ_region ?_
              refine RJ_op rfl (OJ_P (P_move rfl) rfl ?_)
              refine RJ_op rfl (OJ_P (P_move rfl) rfl ?_)
              refine RJ_op rfl (OJ_P (P_move rfl) rfl ?_)
              obtain ⟨hg6, h⟩ := grd_Ie h
              refine RJ_op rfl (OJ_P (P_add (a := at_2) (b := ((x15 : Nat) : Int)) rfl rfl hg6) rfl ?_)
              refine RJ_pure (fun h hh => DevP_dep h (stars_perm (del2 (A := DevP bs b vb)).out h hh)) (fun hdp19 => ?_)
              obtain ⟨r20, hr21, h⟩ := bind_e h
              refine RJ_op rfl (O_callI rfl (dev_Read hr21 hdp19) rfl (Dels.cons del2 (Dels.cons del1 Dels.nil)) rfl (fun _ _ => ?_))
              refine RJ_op rfl (OJ_P (P_move rfl) rfl ?_)
              refine RJ_op rfl (OJ_P (P_extract rfl rfl) rfl ?_)
              refine RJ_op rfl (OJ_P (P_extract rfl rfl) rfl ?_)
              refine RJ_op rfl (OJ_P (P_assign rfl) rfl ?_)
              refine RJ_op rfl (OJ_P (P_assign rfl) rfl ?_)
              refine RJ_nil ?_
              refine QJ_then ?_
              refine CJ_seq ?_
              refine CJ_seq ?_
              refine CJ_region ?_
              refine RJ_op rfl (OJ_P (P_move rfl) rfl ?_)
              refine RJ_op rfl (OJ_P (P_neq (a := r20.2) (b := (0 : Int)) rfl rfl) rfl ?_)
              refine RJ_nil ?_
              refine QJ_then ?_
              refine CJ_condP rfl bT_dec (fun hg7 => ?_) (fun hg7 => ?_)
              ·
                replace h := ite_t hg7 h
                refine CJ_seq ?_
                refine CJ_region ?_
                refine RJ_op rfl (OJ_P (P_move rfl) rfl ?_)
                refine RJ_op rfl (OJ_P (P_assign rfl) rfl ?_)
                refine RJ_op rfl (OJ_P (P_assign rfl) rfl ?_)
                refine RJ_nil ?_
                refine QJ_then ?_
                refine CJ_ret ?_
                refine QJ_then_ret ?_
                refine QJ_block_ret ?_
                refine QJ_then_ret ?_
                refine QJ_round_ret ?_
                refine QJ_block_ret ?_
                refine QJ_then_ret ?_
                have hE := Option.some.inj h
                replace hE := seq_inr hK12 hE.symm
                subst hE
                refine QJ_end (res2 Try.results24 rfl rfl) ?_
                refine CSpec.close () ?_ ?_ (Ent.take del2 Ent.refl)
                · rfl
                · trivial
              ·
                replace h := ite_f hg7 h
                refine CJ_skip ?_
                refine QJ_then ?_
                refine CJ_seq ?_
                refine CJ_region ?_
                refine RJ_op rfl (OJ_P (P_move rfl) rfl ?_)
                refine RJ_op rfl (OJ_P (P_move rfl) rfl ?_)
                refine RJ_op rfl (OJ_P (P_ne_u64 (a := r17.1) (b := r20.1) rfl rfl) rfl ?_)
                refine RJ_nil ?_
                refine QJ_then ?_
                refine CJ_condP rfl bT_dec (fun hg8 => ?_) (fun hg8 => ?_)
                ·
                  replace h := ite_t hg8 h
                  refine CJ_seq ?_
                  refine CJ_region ?_
                  refine RJ_op rfl (OJ_P (P_assign rfl) rfl ?_)
                  refine RJ_op rfl (OJ_P (P_assign rfl) rfl ?_)
                  refine RJ_nil ?_
                  refine QJ_then ?_
                  refine CJ_ret ?_
                  refine QJ_block_ret ?_
                  refine QJ_then_ret ?_
                  refine QJ_round_ret ?_
                  refine QJ_block_ret ?_
                  refine QJ_then_ret ?_
                  have hE := Option.some.inj h
                  replace hE := seq_inr hK12 hE.symm
                  subst hE
                  refine QJ_end (res2 Try.results24 rfl rfl) ?_
                  refine CSpec.close () ?_ ?_ (Ent.take del2 Ent.refl)
                  · rfl
                  · trivial
                ·
                  replace h := ite_f hg8 h
                  refine CJ_skip ?_
                  refine QJ_block_normal ?_
                  refine QJ_then ?_
                  refine CJ_region ?_
                  obtain ⟨hg9, h⟩ := grd_Ne h
                  refine RJ_op rfl (OJ_P (PJ_eq (P_add (a := ((x15 : Nat) : Int)) (b := (1 : Int)) rfl rfl (nat_in hg9)) rfl) rfl ?_)
                  refine RJ_op rfl (OJ_P (P_move rfl) rfl ?_)
                  refine RJ_nil ?_
                  refine QJ_nextR ⟨n, (x15 + 1)⟩ (Nat.lt_succ_self _) ?_ (by repeat (first | exact Kp.base | exact Kp.self | refine Kp.cons rfl ?_ | refine Kp.forget rfl ?_)) ?_ Ent.refl
                  · exact h
                  · exact ⟨rfl, True.intro⟩
          ·
            replace h := ite_f hg3 h
            refine CJ_exit ?_
            refine QJ_then_exit ?_
            refine QJ_round_exit ?_
            refine QJ_block_here ?_
            refine QJ_cutR () ?_ (by repeat (first | exact Kp.base | exact Kp.self | refine Kp.cons rfl ?_ | refine Kp.forget rfl ?_)) ?_ Ent.refl
            · exact (Option.some.inj h).symm
            · exact True.intro
      ·
        rintro _ hy22
        replace h := seq_inl hK12 hy22
        show CJ _ _ _ _ _ (([] : Slots) ++ forget _ _) (_)
        refine CJ_seq ?_
        refine CJ_region ?_
        refine RJ_op rfl (OJ_P (P_assign rfl) rfl ?_)
        refine RJ_op rfl (OJ_P (P_assign rfl) rfl ?_)
        refine RJ_nil ?_
        refine QJ_then ?_
        refine CJ_ret ?_
        have hE := Option.some.inj h
        subst hE
        refine QJ_end (res2 Try.results24 rfl rfl) ?_
        refine CSpec.close () ?_ ?_ (Ent.take del2 Ent.refl)
        · rfl
        · trivial

end Go.Proofs
