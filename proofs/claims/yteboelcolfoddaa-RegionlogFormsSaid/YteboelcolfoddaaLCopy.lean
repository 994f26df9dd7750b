/- YteboelcolfoddaaLCopy: lifted functions of the program; printed by lift.py. -/
import Derived.Test.YteboelcolfoddaaLMake
set_option linter.unusedSimpArgs false
set_option linter.unusedVariables false
set_option maxRecDepth 20000
set_option maxHeartbeats 4000000
namespace Go.Proofs
open Go.VG

theorem bs_22_1_0 (v0 : Int) : BuildsSlice Try.prog 22 1 [(0, .int .u64 v0)] 27 [.int .u64 v0] := fun w => by kernel_rfl
def block_ReadAll_l1_b (x_0 : Dvc) (at_1 : Int) (n_2 : Int) (s : ArrS) (rec : Nat → (List UInt64) → Option (((List UInt64)) ⊕ ((List UInt64) × Int))) (x14 : Nat) (x15 : List UInt64) : Option (((List UInt64)) ⊕ ((List UInt64) × Int)) :=
  if (((x14 : Nat) : Int) < n_2) then
    grd (inI64 ((at_1 + ((x14 : Nat) : Int)))) <|
    Option.bind (Dvc.rd x_0 s ((at_1 + ((x14 : Nat) : Int)))) fun r19 =>
    if (r19.2 ≠ (0 : Int)) then
      some (.inr ([], r19.2))
    else
      grd (inLen (x15.length + 1)) <|
      grd (inN64 (x14 + 1)) <|
      rec (x14 + 1) (x15 ++ [r19.1])
  else
    some (.inl x15)

def block_ReadAll_l1 (x_0 : Dvc) (at_1 : Int) (n_2 : Int) (s : ArrS) : Nat → Nat → (List UInt64) → Option (((List UInt64)) ⊕ ((List UInt64) × Int))
  | 0, _, _ => none
  | n + 1, x14, x15 => block_ReadAll_l1_b x_0 at_1 n_2 s (block_ReadAll_l1 x_0 at_1 n_2 s n) x14 x15

def block_ReadAll (x_0 : Dvc) (at_1 : Int) (n_2 : Int) (s : ArrS) : Option ((List UInt64) × Int) :=
  Option.bind (Dvc.size x_0 s) fun r2 =>
  Option.bind (block_inside r2 at_1 n_2) fun r4 =>
  if (¬ r4 = true) then
    some (([], (1 : Int)))
  else
    seqO (block_ReadAll_l1 x_0 at_1 n_2 s FUEL 0 ([])) fun a13 =>
    some ((a13, (0 : Int)))

theorem L_block_ReadAll {W : World} {vx_0 : IfH} {bs : Nat} {x_0 : Dvc} {at_1 : Int} {n_2 : Int} {s : ArrS} {r : (List UInt64) × Int} (h : block_ReadAll x_0 at_1 n_2 s = some r) :
    CSpec Try.prog W 31 [IfH.v vx_0, .int .i64 at_1, .int .i64 n_2] [DevP bs x_0 vx_0, Arr bs s] (fun x : Sl3 => .tuple #[x.v, .int .i64 r.2]) (fun _ => True) (fun x F => DevP bs x_0 vx_0 :: Arr bs s :: sl tyU x.v r.1 :: F) := by
  refine CSpec.of_body Try.func31 rfl Try.ntmps31 rfl (fun F => ?_)
  show CJ _ _ _ _ _ _ (_ :: _ :: F)
  unfold block_ReadAll at h
  refine CJ_seq ?_
  refine CJ_region ?_
  refine RJ_op rfl (OJ_P (P_assign rfl) rfl ?_)
  refine RJ_op rfl (OJ_P (P_assign rfl) rfl ?_)
  refine RJ_nil ?_
  refine QJ_then ?_
  refine CJ_seq ?_
  refine CJ_seq ?_
  refine CJ_region ?_
  refine RJ_op rfl (OJ_P (P_move rfl) rfl ?_)
  refine RJ_pure (fun h hh => DevP_dep h (stars_perm (del0 (A := DevP bs x_0 vx_0)).out h hh)) (fun hdp1 => ?_)
  obtain ⟨r2, hr3, h⟩ := bind_e h
  refine RJ_op rfl (O_callI rfl (dev_Size hr3 hdp1) rfl (Dels.cons del0 (Dels.cons del0 Dels.nil)) rfl (fun _ _ => ?_))
  refine RJ_op rfl (OJ_P (P_move rfl) rfl ?_)
  refine RJ_op rfl (OJ_P (P_move rfl) rfl ?_)
  obtain ⟨r4, hr5, h⟩ := bind_e h
  refine RJ_op rfl (O_call (L_block_inside hr5) rfl Try.call37 Dels.nil rfl (fun _ _ => ?_))
  refine RJ_op rfl (OJ_P (P_not rfl) rfl ?_)
  refine RJ_nil ?_
  refine QJ_then ?_
  refine CJ_condP rfl (bT_not Iff.rfl) (fun hg1 => ?_) (fun hg1 => ?_)
  ·
    replace h := ite_t hg1 h
    refine CJ_seq ?_
    refine CJ_region ?_
    refine RJ_op rfl (OJ_P (P_assign rfl) rfl ?_)
    refine RJ_op rfl (OJ_P (P_assign rfl) rfl ?_)
    refine RJ_nil ?_
    refine QJ_then ?_
    refine CJ_ret ?_
    refine QJ_then_ret ?_
    refine QJ_ent (fun h hh => sl_nil (t := tyU) h hh) ?_
    have hE := Option.some.inj h
    subst hE
    refine QJ_end (res2 Try.results31 rfl rfl) ?_
    refine CSpec.close ⟨none, 0, 0⟩ ?_ ?_ (Ent.take del1 (Ent.take del1 Ent.refl))
    · rfl
    · trivial
  ·
    replace h := ite_f hg1 h
    refine CJ_skip ?_
    refine QJ_then ?_
    refine CJ_seq ?_
    refine CJ_region ?_
    refine RJ_op rfl (OJ_P (P_assign rfl) rfl ?_)
    refine RJ_nil ?_
    refine QJ_then ?_
    refine CJ_seq ?_
    refine CJ_seq ?_
    refine CJ_region ?_
    refine RJ_op rfl (OJ_P (P_move rfl) rfl ?_)
    refine RJ_op rfl (OJ_P (P_move rfl) rfl ?_)
    refine RJ_nil ?_
    refine QJ_then ?_
    refine CJ_ent (fun h hh => sl_nil (t := tyU) h hh) ?_
    obtain ⟨y10, hl8, hK9⟩ := seq_e h
    refine CJ_cutT (X := (List UInt64) × Sl3) [6, 7, 8, 9, 10, 11, 19, 20, 21, 22, 23, 24, 25, 26, 27, 28, 29, 30, 31, 32, 33, 34, 35, 36, 37] (fun ⟨a13, hd12⟩ => ([(8, hd12.v)] : Slots)) (fun ⟨a13, hd12⟩ R => sl tyU hd12.v a13 :: R) (fun ⟨a13, hd12⟩ => y10 = .inl a13) (Dels.cons del0 Dels.nil) ?_ ?_
    ·
      refine CJ_block ?_
      refine CJ_loopR (X := Nat × Nat × (List UInt64) × Sl3) [6, 7, 8, 9, 10, 11, 19, 20, 21, 22, 23, 24, 25, 26, 27, 28, 29, 30, 31, 32, 33, 34, 35, 36, 37] (fun ⟨n, x14, x15, hd16⟩ => ([(8, hd16.v), (19, .int .i64 (((x14 : Nat) : Int)))] : Slots)) (fun ⟨n, x14, x15, hd16⟩ R => sl tyU hd16.v x15 :: R) (fun ⟨n, x14, x15, hd16⟩ => block_ReadAll_l1 x_0 at_1 n_2 s n x14 x15 = some y10) (fun ⟨n, x14, x15, hd16⟩ => n) ⟨FUEL, 0, [], ⟨none, 0, 0⟩⟩ ?_ ?_ Ent.refl ?_
      · exact hl8
      · exact ⟨rfl, rfl, True.intro⟩
      ·
        rintro ⟨n, x14, x15, hd16⟩ h
        cases n with
        | zero => exact none_e h
        | succ n => ?_
        replace h : block_ReadAll_l1_b x_0 at_1 n_2 s (block_ReadAll_l1 x_0 at_1 n_2 s n) x14 x15 = some y10 := h
        unfold block_ReadAll_l1_b at h
        show CJ _ _ _ _ _ (([(8, hd16.v), (19, .int .i64 (((x14 : Nat) : Int)))] : Slots) ++ forget _ _) (sl tyU hd16.v x15 :: _)
        refine CJ_pure (len_of (Reads.sl _ _ _) del0) (fun hlen17 => ?_)
        refine CJ_seq ?_
        refine CJ_region ?_
        refine RJ_op rfl (OJ_P (P_lss (a := ((x14 : Nat) : Int)) (b := n_2) rfl rfl) rfl ?_)
        refine RJ_nil ?_
        refine QJ_then ?_
        refine CJ_seq ?_
        refine CJ_condP rfl bT_dec (fun hg2 => ?_) (fun hg2 => ?_)
        ·
          replace h := ite_t hg2 h
          refine CJ_skip ?_
          refine QJ_then ?_
          refine CJ_seq ?_
          refine CJ_block ?_
          refine CJ_seq ?_
          refine CJ_region ?_
          refine RJ_op rfl (OJ_P (P_move rfl) rfl ?_)
          refine RJ_op rfl (OJ_P (P_assign rfl) rfl ?_)
          refine RJ_nil ?_
          refine QJ_then ?_
          refine CJ_seq ?_
          refine CJ_region ?_
          refine RJ_op rfl (OJ_P (P_move rfl) rfl ?_)
          refine RJ_op rfl (OJ_P (P_move rfl) rfl ?_)
          refine RJ_op rfl (OJ_P (P_move rfl) rfl ?_)
          obtain ⟨hg3, h⟩ := grd_Ie h
          refine RJ_op rfl (OJ_P (P_add (a := at_1) (b := ((x14 : Nat) : Int)) rfl rfl hg3) rfl ?_)
          refine RJ_pure (fun h hh => DevP_dep h (stars_perm (del1 (A := DevP bs x_0 vx_0)).out h hh)) (fun hdp18 => ?_)
          obtain ⟨r19, hr20, h⟩ := bind_e h
          refine RJ_op rfl (O_callI rfl (dev_Read hr20 hdp18) rfl (Dels.cons del1 (Dels.cons del1 Dels.nil)) rfl (fun _ _ => ?_))
          refine RJ_op rfl (OJ_P (P_move rfl) rfl ?_)
          refine RJ_op rfl (OJ_P (P_extract rfl rfl) rfl ?_)
          refine RJ_op rfl (OJ_P (P_extract rfl rfl) rfl ?_)
          refine RJ_op rfl (OJ_P (P_assign rfl) rfl ?_)
          refine RJ_op rfl (OJ_P (P_assign rfl) rfl ?_)
          refine RJ_nil ?_
          refine QJ_then ?_
          refine CJ_seq ?_
          refine CJ_seq ?_
          refine CJ_region ?_
          refine RJ_op rfl (OJ_P (P_move rfl) rfl ?_)
          refine RJ_op rfl (OJ_P (P_neq (a := r19.2) (b := (0 : Int)) rfl rfl) rfl ?_)
          refine RJ_nil ?_
          refine QJ_then ?_
          refine CJ_condP rfl bT_dec (fun hg4 => ?_) (fun hg4 => ?_)
          ·
            replace h := ite_t hg4 h
            refine CJ_seq ?_
            refine CJ_region ?_
            refine RJ_op rfl (OJ_P (P_move rfl) rfl ?_)
            refine RJ_op rfl (OJ_P (P_assign rfl) rfl ?_)
            refine RJ_op rfl (OJ_P (P_assign rfl) rfl ?_)
            refine RJ_nil ?_
            refine QJ_then ?_
            refine CJ_ret ?_
            refine QJ_then_ret ?_
            refine QJ_block_ret ?_
            refine QJ_then_ret ?_
            refine QJ_round_ret ?_
            refine QJ_block_ret ?_
            refine QJ_then_ret ?_
            refine QJ_ent (fun h hh => sl_nil (t := tyU) h hh) ?_
            have hE := Option.some.inj h
            replace hE := seq_inr hK9 hE.symm
            subst hE
            refine QJ_end (res2 Try.results31 rfl rfl) ?_
            refine CSpec.close ⟨none, 0, 0⟩ ?_ ?_ (Ent.take del1 (Ent.take del1 (Ent.take del0 (Ent.drop Ent.refl))))
            · rfl
            · trivial
          ·
            replace h := ite_f hg4 h
            refine CJ_skip ?_
            refine QJ_then ?_
            refine CJ_region ?_
            refine RJ_op rfl (OJ_P (P_move rfl) rfl ?_)
            refine RJ_op rfl (OJ_P (P_move rfl) rfl ?_)
            refine RJ_op rfl (O_buildSlice rfl (bs_22_1_0 _) rfl (fun b22 => ?_))
            obtain ⟨hg5, h⟩ := grd_Le h
            refine RJ_op rfl (O_append (t := tyU) (bytes := 8) rfl rfl del3 foc0 (Reads.lit (t := tyU) (ys := [r19.1]) rfl rfl (by decide) (by decide) rfl) Try.underlying22 ok_tyU (apl (m := 1) (b := 8) hg5 (by decide)).1 (apl (m := 1) (b := 8) hg5 (by decide)).2 rfl (fun p24 c25 => ?_))
            refine RJ_op rfl (OJ_P (P_assign rfl) rfl ?_)
            refine RJ_nil ?_
            refine QJ_block_normal ?_
            refine QJ_then ?_
            refine CJ_region ?_
            obtain ⟨hg6, h⟩ := grd_Ne h
            refine RJ_op rfl (OJ_P (PJ_eq (P_add (a := ((x14 : Nat) : Int)) (b := (1 : Int)) rfl rfl (nat_in hg6)) rfl) rfl ?_)
            refine RJ_op rfl (OJ_P (P_move rfl) rfl ?_)
            refine RJ_nil ?_
            refine QJ_nextR ⟨n, (x14 + 1), (x15 ++ [r19.1]), ⟨p24, (x15 ++ [r19.1]).length, c25⟩⟩ (Nat.lt_succ_self _) ?_ (by repeat (first | exact Kp.base | exact Kp.self | refine Kp.cons rfl ?_ | refine Kp.forget rfl ?_)) ?_ (Ent.take del0 (Ent.take del1 (Ent.take del1 (Ent.drop Ent.refl))))
            · exact h
            · exact ⟨rfl, rfl, True.intro⟩
        ·
          replace h := ite_f hg2 h
          refine CJ_exit ?_
          refine QJ_then_exit ?_
          refine QJ_round_exit ?_
          refine QJ_block_here ?_
          refine QJ_cutR ⟨x15, hd16⟩ ?_ (by repeat (first | exact Kp.base | exact Kp.self | refine Kp.cons rfl ?_ | refine Kp.forget rfl ?_)) ?_ Ent.refl
          · exact (Option.some.inj h).symm
          · exact ⟨rfl, True.intro⟩
    ·
      rintro ⟨a13, hd12⟩ hy26
      replace h := seq_inl hK9 hy26
      show CJ _ _ _ _ _ (([(8, hd12.v)] : Slots) ++ forget _ _) (sl tyU hd12.v a13 :: _)
      refine CJ_pure (len_of (Reads.sl _ _ _) del0) (fun hlen27 => ?_)
      refine CJ_seq ?_
      refine CJ_region ?_
      refine RJ_op rfl (OJ_P (P_move rfl) rfl ?_)
      refine RJ_op rfl (OJ_P (P_assign rfl) rfl ?_)
      refine RJ_op rfl (OJ_P (P_assign rfl) rfl ?_)
      refine RJ_nil ?_
      refine QJ_then ?_
      refine CJ_ret ?_
      have hE := Option.some.inj h
      subst hE
      refine QJ_end (res2 Try.results31 rfl rfl) ?_
      refine CSpec.close hd12 ?_ ?_ (Ent.take del1 (Ent.take del1 Ent.refl))
      · rfl
      · trivial

def block_WriteAll_l1_b (x_0 : Dvc) (at_1 : Int) (l : List UInt64) (rec : ArrS → Nat → Option ((ArrS) ⊕ (Int × ArrS))) (x12 : ArrS) (x13 : Nat) : Option ((ArrS) ⊕ (Int × ArrS)) :=
  if (((x13 : Nat) : Int) < ((l.length : Nat) : Int)) then
    grd (inI64 ((at_1 + ((x13 : Nat) : Int)))) <|
    Option.bind (Dvc.wr x_0 x12 ((at_1 + ((x13 : Nat) : Int))) (l.getD x13 0)) fun r15 =>
    if (r15.1 ≠ (0 : Int)) then
      some (.inr (r15.1, r15.2))
    else
      rec r15.2 (x13 + 1)
  else
    some (.inl x12)

def block_WriteAll_l1 (x_0 : Dvc) (at_1 : Int) (l : List UInt64) : Nat → ArrS → Nat → Option ((ArrS) ⊕ (Int × ArrS))
  | 0, _, _ => none
  | n + 1, x12, x13 => block_WriteAll_l1_b x_0 at_1 l (block_WriteAll_l1 x_0 at_1 l n) x12 x13

def block_WriteAll (x_0 : Dvc) (at_1 : Int) (l : List UInt64) (s : ArrS) : Option (Int × ArrS) :=
  Option.bind (Dvc.size x_0 s) fun r3 =>
  Option.bind (block_inside r3 at_1 (((l.length : Nat) : Int))) fun r5 =>
  if (¬ r5 = true) then
    some (((1 : Int), s))
  else
    seqO (block_WriteAll_l1 x_0 at_1 l FUEL s 0) fun a11 =>
    some (((0 : Int), a11))

theorem L_block_WriteAll {W : World} {vx_0 : IfH} {Al : HP} {vl : Value} {bs : Nat} {x_0 : Dvc} {at_1 : Int} {l : List UInt64} {s : ArrS} {r : Int × ArrS} (rl : Reads Al tyU vl l) (h : block_WriteAll x_0 at_1 l s = some r) :
    CSpec Try.prog W 33 [IfH.v vx_0, .int .i64 at_1, vl] [DevP bs x_0 vx_0, Al, Arr bs s] (fun x : Unit => .int .i64 r.1) (fun _ => True) (fun x F => DevP bs x_0 vx_0 :: Al :: Arr bs r.2 :: F) := by
  refine CSpec.of_body Try.func33 rfl Try.ntmps33 rfl (fun F => ?_)
  show CJ _ _ _ _ _ _ (_ :: _ :: _ :: F)
  unfold block_WriteAll at h
  refine CJ_pure (len_of rl del1) (fun hlen1 => ?_)
  refine CJ_seq ?_
  refine CJ_region ?_
  refine RJ_op rfl (OJ_P (P_assign rfl) rfl ?_)
  refine RJ_nil ?_
  refine QJ_then ?_
  refine CJ_seq ?_
  refine CJ_seq ?_
  refine CJ_region ?_
  refine RJ_op rfl (OJ_P (P_move rfl) rfl ?_)
  refine RJ_pure (fun h hh => DevP_dep h (stars_perm (del0 (A := DevP bs x_0 vx_0)).out h hh)) (fun hdp2 => ?_)
  obtain ⟨r3, hr4, h⟩ := bind_e h
  refine RJ_op rfl (O_callI rfl (dev_Size hr4 hdp2) rfl (Dels.cons del0 (Dels.cons del1 Dels.nil)) rfl (fun _ _ => ?_))
  refine RJ_op rfl (OJ_P (P_move rfl) rfl ?_)
  refine RJ_op rfl (OJ_P (P_move rfl) rfl ?_)
  refine RJ_op rfl (OJ_V (V_len rfl foc2 rl Try.runUnderlying22) rfl ?_)
  obtain ⟨r5, hr6, h⟩ := bind_e h
  refine RJ_op rfl (O_call (L_block_inside hr6) rfl Try.call37 Dels.nil rfl (fun _ _ => ?_))
  refine RJ_op rfl (OJ_P (P_not rfl) rfl ?_)
  refine RJ_nil ?_
  refine QJ_then ?_
  refine CJ_condP rfl (bT_not Iff.rfl) (fun hg1 => ?_) (fun hg1 => ?_)
  ·
    replace h := ite_t hg1 h
    refine CJ_seq ?_
    refine CJ_region ?_
    refine RJ_op rfl (OJ_P (P_assign rfl) rfl ?_)
    refine RJ_nil ?_
    refine QJ_then ?_
    refine CJ_ret ?_
    refine QJ_then_ret ?_
    have hE := Option.some.inj h
    subst hE
    refine QJ_end (res1 Try.results33 rfl) ?_
    refine CSpec.close () ?_ ?_ (Ent.take del0 (Ent.take del1 Ent.refl))
    · rfl
    · trivial
  ·
    replace h := ite_f hg1 h
    refine CJ_skip ?_
    refine QJ_then ?_
    refine CJ_seq ?_
    refine CJ_seq ?_
    refine CJ_region ?_
    refine RJ_op rfl (OJ_P (P_move rfl) rfl ?_)
    refine RJ_op rfl (OJ_V (V_len rfl foc2 rl Try.runUnderlying22) rfl ?_)
    refine RJ_op rfl (OJ_P (P_move rfl) rfl ?_)
    refine RJ_nil ?_
    refine QJ_then ?_
    obtain ⟨y9, hl7, hK8⟩ := seq_e h
    refine CJ_cutT (X := ArrS) [6, 7, 8, 9, 19, 20, 21, 22, 23, 24, 25, 26, 27, 28, 29, 30, 31, 32, 33] (fun a11 => ([] : Slots)) (fun a11 R => Arr bs a11 :: R) (fun a11 => y9 = .inl a11) (Dels.cons del1 Dels.nil) ?_ ?_
    ·
      refine CJ_block ?_
      refine CJ_loopR (X := Nat × ArrS × Nat) [6, 7, 8, 9, 19, 20, 21, 22, 23, 24, 25, 26, 27, 28, 29, 30, 31, 32, 33] (fun ⟨n, x12, x13⟩ => ([(19, .int .i64 (((x13 : Nat) : Int)))] : Slots)) (fun ⟨n, x12, x13⟩ R => Arr bs x12 :: R) (fun ⟨n, x12, x13⟩ => block_WriteAll_l1 x_0 at_1 l n x12 x13 = some y9) (fun ⟨n, x12, x13⟩ => n) ⟨FUEL, s, 0⟩ ?_ ?_ (Ent.take del1 Ent.refl) ?_
      · exact hl7
      · exact ⟨rfl, True.intro⟩
      ·
        rintro ⟨n, x12, x13⟩ h
        cases n with
        | zero => exact none_e h
        | succ n => ?_
        replace h : block_WriteAll_l1_b x_0 at_1 l (block_WriteAll_l1 x_0 at_1 l n) x12 x13 = some y9 := h
        unfold block_WriteAll_l1_b at h
        show CJ _ _ _ _ _ (([(19, .int .i64 (((x13 : Nat) : Int)))] : Slots) ++ forget _ _) (Arr bs x12 :: _)
        refine CJ_seq ?_
        refine CJ_region ?_
        refine RJ_op rfl (OJ_P (P_lss (a := ((x13 : Nat) : Int)) (b := ((l.length : Nat) : Int)) rfl rfl) rfl ?_)
        refine RJ_nil ?_
        refine QJ_then ?_
        refine CJ_seq ?_
        refine CJ_condP rfl bT_dec (fun hg2 => ?_) (fun hg2 => ?_)
        ·
          replace h := ite_t hg2 h
          refine CJ_skip ?_
          refine QJ_then ?_
          refine CJ_seq ?_
          refine CJ_block ?_
          refine CJ_seq ?_
          refine CJ_region ?_
          refine RJ_op rfl (OJ_P (P_move rfl) rfl ?_)
          refine RJ_op rfl (OJ_V (V_index (i := x13) rfl rfl rfl (by omega) foc2 rl Try.runUnderlying22 Try.sizeOf27) rfl ?_)
          refine RJ_op rfl (OJ_V (V_loadE rfl rfl (by omega) foc2 rl rfl rfl Try.isAgg27) rfl ?_)
          refine RJ_op rfl (OJ_P (P_assign rfl) rfl ?_)
          refine RJ_op rfl (OJ_P (P_assign rfl) rfl ?_)
          refine RJ_nil ?_
          refine QJ_then ?_
          refine CJ_seq ?_
          refine CJ_region ?_
          refine RJ_op rfl (OJ_P (P_move rfl) rfl ?_)
          refine RJ_op rfl (OJ_P (P_move rfl) rfl ?_)
          refine RJ_op rfl (OJ_P (P_move rfl) rfl ?_)
          obtain ⟨hg3, h⟩ := grd_Ie h
          refine RJ_op rfl (OJ_P (P_add (a := at_1) (b := ((x13 : Nat) : Int)) rfl rfl hg3) rfl ?_)
          refine RJ_op rfl (OJ_P (P_move rfl) rfl ?_)
          refine RJ_pure (fun h hh => DevP_dep h (stars_perm (del1 (A := DevP bs x_0 vx_0)).out h hh)) (fun hdp14 => ?_)
          obtain ⟨r15, hr16, h⟩ := bind_e h
          refine RJ_op rfl (O_callI rfl (dev_Write hr16 hdp14) rfl (Dels.cons del1 (Dels.cons del0 Dels.nil)) rfl (fun _ _ => ?_))
          refine RJ_op rfl (OJ_P (P_assign rfl) rfl ?_)
          refine RJ_nil ?_
          refine QJ_then ?_
          refine CJ_seq ?_
          refine CJ_region ?_
          refine RJ_op rfl (OJ_P (P_move rfl) rfl ?_)
          refine RJ_op rfl (OJ_P (P_neq (a := r15.1) (b := (0 : Int)) rfl rfl) rfl ?_)
          refine RJ_nil ?_
          refine QJ_then ?_
          refine CJ_condP rfl bT_dec (fun hg4 => ?_) (fun hg4 => ?_)
          ·
            replace h := ite_t hg4 h
            refine CJ_seq ?_
            refine CJ_region ?_
            refine RJ_op rfl (OJ_P (P_move rfl) rfl ?_)
            refine RJ_op rfl (OJ_P (P_assign rfl) rfl ?_)
            refine RJ_nil ?_
            refine QJ_then ?_
            refine CJ_ret ?_
            refine QJ_block_ret ?_
            refine QJ_then_ret ?_
            refine QJ_round_ret ?_
            refine QJ_block_ret ?_
            refine QJ_then_ret ?_
            have hE := Option.some.inj h
            replace hE := seq_inr hK8 hE.symm
            subst hE
            refine QJ_end (res1 Try.results33 rfl) ?_
            refine CSpec.close () ?_ ?_ (Ent.take del0 (Ent.take del1 Ent.refl))
            · rfl
            · trivial
          ·
            replace h := ite_f hg4 h
            refine CJ_skip ?_
            refine QJ_block_normal ?_
            refine QJ_then ?_
            refine CJ_region ?_
            refine RJ_op rfl (OJ_P (PJ_eq (P_add (a := ((x13 : Nat) : Int)) (b := (1 : Int)) rfl rfl (by omega)) rfl) rfl ?_)
            refine RJ_op rfl (OJ_P (P_move rfl) rfl ?_)
            refine RJ_nil ?_
            refine QJ_nextR ⟨n, r15.2, (x13 + 1)⟩ (Nat.lt_succ_self _) ?_ (by repeat (first | exact Kp.base | exact Kp.self | refine Kp.cons rfl ?_ | refine Kp.forget rfl ?_)) ?_ (Ent.take del1 Ent.refl)
            · exact h
            · exact ⟨rfl, True.intro⟩
        ·
          replace h := ite_f hg2 h
          refine CJ_exit ?_
          refine QJ_then_exit ?_
          refine QJ_round_exit ?_
          refine QJ_block_here ?_
          refine QJ_cutR x12 ?_ (by repeat (first | exact Kp.base | exact Kp.self | refine Kp.cons rfl ?_ | refine Kp.forget rfl ?_)) ?_ Ent.refl
          · exact (Option.some.inj h).symm
          · exact True.intro
    ·
      rintro a11 hy17
      replace h := seq_inl hK8 hy17
      show CJ _ _ _ _ _ (([] : Slots) ++ forget _ _) (Arr bs a11 :: _)
      refine CJ_seq ?_
      refine CJ_region ?_
      refine RJ_op rfl (OJ_P (P_assign rfl) rfl ?_)
      refine RJ_nil ?_
      refine QJ_then ?_
      refine CJ_ret ?_
      have hE := Option.some.inj h
      subst hE
      refine QJ_end (res1 Try.results33 rfl) ?_
      refine CSpec.close () ?_ ?_ (Ent.take del1 (Ent.take del1 Ent.refl))
      · rfl
      · trivial

end Go.Proofs
