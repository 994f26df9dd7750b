/- YthgeeoahmjmnoaaLBlockConcat: lifted functions of the program; printed by lift.py. -/
import Derived.Test.YthgeeoahmjmnoaaLCopy
set_option linter.unusedSimpArgs false
set_option linter.unusedVariables false
set_option maxRecDepth 20000
set_option maxHeartbeats 4000000
namespace Go.Proofs
open Go.VG

theorem bs_27_1_0 (v0 : (Option Addr)) (v1 : Nat) (v2 : Nat) : BuildsSlice Try.prog 27 1 [(0, .slice v0 v1 v2)] 25 [.slice v0 v1 v2] := fun w => by kernel_rfl
def volumegrouplaw05_BlockConcat_l1_b (sizes : List UInt8) (rec : (List (List UInt64)) → (List UInt64) → Nat → Option ((List (List UInt64)) × (List UInt64))) (x16 : List (List UInt64)) (x19 : List UInt64) (x21 : Nat) : Option ((List (List UInt64)) × (List UInt64)) :=
  if (((x21 : Nat) : Int) < ((sizes.length : Nat) : Int)) then
    grd (inN64 ((1 + (((sizes.getD x21 0) % (4 : UInt8))).toNat))) <|
    Option.bind (volumegroupmake_Words ((((1 + (((sizes.getD x21 0) % (4 : UInt8))).toNat) : Nat) : Int)) ((to_u64 ((((1000 : Int) * ((x21 : Nat) : Int)) + (1 : Int)))))) fun r25 =>
    grd (inLen (x16.length + 1)) <|
    grd (inLen (x19.length + r25.length)) <|
    rec (x16 ++ [r25]) (x19 ++ r25) (x21 + 1)
  else
    some (x16, x19)

def volumegrouplaw05_BlockConcat_l1 (sizes : List UInt8) : Nat → (List (List UInt64)) → (List UInt64) → Nat → Option ((List (List UInt64)) × (List UInt64))
  | 0, _, _, _ => none
  | n + 1, x16, x19, x21 => volumegrouplaw05_BlockConcat_l1_b sizes (volumegrouplaw05_BlockConcat_l1 sizes n) x16 x19 x21

def volumegrouplaw05_BlockConcat_l2_b (v : UInt64) (a15 : (List (List UInt64)) × (List UInt64)) (r53 : Dvc) (rec : ArrS → Nat → Option ((ArrS) ⊕ Bool)) (x69 : ArrS) (x70 : Nat) : Option ((ArrS) ⊕ Bool) :=
  if (((x70 : Nat) : Int) < ((a15.2.length : Nat) : Int)) then
    Option.bind (Dvc.rd r53 x69 (((x70 : Nat) : Int))) fun r72 =>
    if (r72.2 ≠ (0 : Int)) then
      if true = true then
        some (.inr false)
      else
        Option.bind (Dvc.wr r53 x69 (((x70 : Nat) : Int)) (((a15.2.getD x70 0) ^^^ v))) fun r76 =>
        if (r76.1 ≠ (0 : Int)) then
          some (.inr false)
        else
          rec r76.2 (x70 + 1)
    else
      if (r72.1 ≠ (a15.2.getD x70 0)) then
        some (.inr false)
      else
        Option.bind (Dvc.wr r53 x69 (((x70 : Nat) : Int)) (((a15.2.getD x70 0) ^^^ v))) fun r80 =>
        if (r80.1 ≠ (0 : Int)) then
          some (.inr false)
        else
          rec r80.2 (x70 + 1)
  else
    some (.inl x69)

def volumegrouplaw05_BlockConcat_l2 (v : UInt64) (a15 : (List (List UInt64)) × (List UInt64)) (r53 : Dvc) : Nat → ArrS → Nat → Option ((ArrS) ⊕ Bool)
  | 0, _, _ => none
  | n + 1, x69, x70 => volumegrouplaw05_BlockConcat_l2_b v a15 r53 (volumegrouplaw05_BlockConcat_l2 v a15 r53 n) x69 x70

def volumegrouplaw05_BlockConcat_l3_b (missing : UInt8) (a15 : (List (List UInt64)) × (List UInt64)) (rec : ArrS → Nat → Nat → Option (Nat × ArrS)) (x89 : ArrS) (x90 : Nat) (x91 : Nat) : Option (Nat × ArrS) :=
  if (((x91 : Nat) : Int) < ((a15.1.length : Nat) : Int)) then
    if (((shr_u8 missing x91) &&& (1 : UInt8)) = (1 : UInt8)) then
      rec ((smS x89 (((x91 : Nat) : Int)) true)) 6 (x91 + 1)
    else
      rec x89 x90 (x91 + 1)
  else
    some (x90, x89)

def volumegrouplaw05_BlockConcat_l3 (missing : UInt8) (a15 : (List (List UInt64)) × (List UInt64)) : Nat → ArrS → Nat → Nat → Option (Nat × ArrS)
  | 0, _, _, _ => none
  | n + 1, x89, x90, x91 => volumegrouplaw05_BlockConcat_l3_b missing a15 (volumegrouplaw05_BlockConcat_l3 missing a15 n) x89 x90 x91

def volumegrouplaw05_BlockConcat_l5_b (missing : UInt8) (v : UInt64) (a15 : (List (List UInt64)) × (List UInt64)) (r94 : Int × ArrS) (x102 : Nat) (rec : Nat → Nat → Option ((Nat) ⊕ ((Unit) ⊕ Bool))) (x127 : Nat) (x128 : Nat) : Option ((Nat) ⊕ ((Unit) ⊕ Bool)) :=
  if (((x128 : Nat) : Int) < ((((imL ((rsS r94.2 ([]))) (((x102 : Nat) : Int)))).length : Nat) : Int)) then
    if (((shr_u8 missing x102) &&& (1 : UInt8)) = (1 : UInt8)) then
      grd (decide (x127 < a15.2.length)) <|
      if ((((imL ((rsS r94.2 ([]))) (((x102 : Nat) : Int)))).getD x128 0) ≠ (a15.2.getD x127 0)) then
        some (.inr (.inr false))
      else
        if (((shr_u8 missing x102) &&& (1 : UInt8)) = (0 : UInt8)) then
          grd (decide (x127 < a15.2.length)) <|
          if ((((imL ((rsS r94.2 ([]))) (((x102 : Nat) : Int)))).getD x128 0) ≠ ((a15.2.getD x127 0) ^^^ v)) then
            some (.inr (.inr false))
          else
            grd (inN64 (x127 + 1)) <|
            rec (x127 + 1) (x128 + 1)
        else
          grd (inN64 (x127 + 1)) <|
          rec (x127 + 1) (x128 + 1)
    else
      if false = true then
        some (.inr (.inr false))
      else
        if (((shr_u8 missing x102) &&& (1 : UInt8)) = (0 : UInt8)) then
          grd (decide (x127 < a15.2.length)) <|
          if ((((imL ((rsS r94.2 ([]))) (((x102 : Nat) : Int)))).getD x128 0) ≠ ((a15.2.getD x127 0) ^^^ v)) then
            some (.inr (.inr false))
          else
            grd (inN64 (x127 + 1)) <|
            rec (x127 + 1) (x128 + 1)
        else
          grd (inN64 (x127 + 1)) <|
          rec (x127 + 1) (x128 + 1)
  else
    some (.inl x127)

def volumegrouplaw05_BlockConcat_l5 (missing : UInt8) (v : UInt64) (a15 : (List (List UInt64)) × (List UInt64)) (r94 : Int × ArrS) (x102 : Nat) : Nat → Nat → Nat → Option ((Nat) ⊕ ((Unit) ⊕ Bool))
  | 0, _, _ => none
  | n + 1, x127, x128 => volumegrouplaw05_BlockConcat_l5_b missing v a15 r94 x102 (volumegrouplaw05_BlockConcat_l5 missing v a15 r94 x102 n) x127 x128

def volumegrouplaw05_BlockConcat_l4_b (missing : UInt8) (v : UInt64) (a15 : (List (List UInt64)) × (List UInt64)) (r94 : Int × ArrS) (rec : Nat → Nat → Option ((Unit) ⊕ Bool)) (x101 : Nat) (x102 : Nat) : Option ((Unit) ⊕ Bool) :=
  if (((x102 : Nat) : Int) < ((a15.1.length : Nat) : Int)) then
    if (((imC ((rsS r94.2 ([]))) (((x102 : Nat) : Int))) ≠ (0 : Int)) ∨ (((((imL ((rsS r94.2 ([]))) (((x102 : Nat) : Int)))).length : Nat) : Int) ≠ (((a15.1.getD x102 []).length : Nat) : Int))) then
      some (.inr false)
    else
      seqO (volumegrouplaw05_BlockConcat_l5 missing v a15 r94 x102 FUEL x101 0) fun a126 =>
      rec a126 (x102 + 1)
  else
    some (.inl ())

def volumegrouplaw05_BlockConcat_l4 (missing : UInt8) (v : UInt64) (a15 : (List (List UInt64)) × (List UInt64)) (r94 : Int × ArrS) : Nat → Nat → Nat → Option ((Unit) ⊕ Bool)
  | 0, _, _ => none
  | n + 1, x101, x102 => volumegrouplaw05_BlockConcat_l4_b missing v a15 r94 (volumegrouplaw05_BlockConcat_l4 missing v a15 r94 n) x101 x102

def volumegrouplaw05_BlockConcat (sizes : List UInt8) (missing : UInt8) (v : UInt64) : Option (Bool) :=
  if ((6 : Int) < ((sizes.length : Nat) : Int)) then
    Option.bind (volumegrouplaw05_awake) fun r2 =>
    some r2
  else
    Option.bind (volumegrouplaw05_BlockConcat_l1 sizes FUEL (([] : List (List UInt64))) ([]) 0) fun a15 =>
    Option.bind (volumegroupmake_Loaded a15.1) fun r41 =>
    Option.elim r41 (
      some false) fun o46 =>
    Option.bind (volumegroupmake_Spans o46) fun r47 =>
    Option.bind (block_Concat r47 o46) fun r53 =>
    if ((((r47.length : Nat) : Int) ≠ ((a15.1.length : Nat) : Int)) ∨ false = true) then
      some false
    else
      Option.bind (Dvc.size r53 o46) fun r62 =>
      if (r62 ≠ ((a15.2.length : Nat) : Int)) then
        some false
      else
        seqO (volumegrouplaw05_BlockConcat_l2 v a15 r53 FUEL o46 0) fun a68 =>
        Option.bind (volumegrouplaw05_BlockConcat_l3 missing a15 FUEL a68 0 0) fun a88 =>
        Option.bind (Dvc.fl r53 a88.2) fun r94 =>
        if (r94.1 ≠ ((a88.1 : Nat) : Int)) then
          some false
        else
          grd (inLen r94.2.writes) <|
          seqO (volumegrouplaw05_BlockConcat_l4 missing v a15 r94 FUEL 0 0) fun a100 =>
          Option.bind (volumegrouplaw05_awake) fun r131 =>
          some r131

theorem L_volumegrouplaw05_BlockConcat {W : World} {Asizes : HP} {vsizes : Value} {sizes : List UInt8} {missing : UInt8} {v : UInt64} {r : Bool} (rsizes : Reads Asizes tyU8 vsizes sizes) (h : volumegrouplaw05_BlockConcat sizes missing v = some r) :
    CSpec Try.prog W 8 [vsizes, .int .u8 (missing.toNat : Int), .int .u64 (v.toNat : Int)] [Asizes] (fun x : Unit => .bool r) (fun _ => True) (fun x F => Asizes :: F) := by
  refine CSpec.of_body Try.func8 rfl Try.ntmps8 rfl (fun F => ?_)
  show CJ _ _ _ _ _ _ (_ :: F)
  unfold volumegrouplaw05_BlockConcat at h
  refine CJ_pure (len_of rsizes del0) (fun hlen1 => ?_)
  refine CJ_seq ?_
  refine CJ_region ?_
  refine RJ_op rfl (OJ_P (P_assign rfl) rfl ?_)
  refine RJ_nil ?_
  refine QJ_then ?_
  refine CJ_seq ?_
  refine CJ_seq ?_
  refine CJ_region ?_
  refine RJ_op rfl (OJ_P (P_move rfl) rfl ?_)
  refine RJ_op rfl (OJ_V (V_len rfl foc0 rsizes Try.runUnderlying67) rfl ?_)
  refine RJ_op rfl (OJ_P (P_gtr (a := ((sizes.length : Nat) : Int)) (b := (6 : Int)) rfl rfl) rfl ?_)
  refine RJ_nil ?_
  refine QJ_then ?_
  refine CJ_condP rfl bT_dec (fun hg1 => ?_) (fun hg1 => ?_)
  ·
    replace h := ite_t hg1 h
    refine CJ_seq ?_
    refine CJ_region ?_
    obtain ⟨r2, hr3, h⟩ := bind_e h
    refine RJ_op rfl (O_call (L_volumegrouplaw05_awake hr3) rfl Try.call21 Dels.nil rfl (fun _ _ => ?_))
    refine RJ_op rfl (OJ_P (P_assign rfl) rfl ?_)
    refine RJ_nil ?_
    refine QJ_then ?_
    refine CJ_ret ?_
    refine QJ_then_ret ?_
    have hE := Option.some.inj h
    subst hE
    refine QJ_end (res1 Try.results8 rfl) ?_
    refine CSpec.close () ?_ ?_ (Ent.take del0 Ent.refl)
    · rfl
    · trivial
  ·
    replace h := ite_f hg1 h
    refine CJ_skip ?_
    refine QJ_then ?_
    refine CJ_seq ?_
    refine CJ_region ?_
    refine RJ_op rfl (OJ_P (P_assign rfl) rfl ?_)
    refine RJ_nil ?_
    refine QJ_then ?_
    refine CJ_seq ?_
    refine CJ_region ?_
    refine RJ_op rfl (OJ_P (P_assign rfl) rfl ?_)
    refine RJ_nil ?_
    refine QJ_then ?_
    refine CJ_seq ?_
    refine CJ_seq ?_
    refine CJ_region ?_
    refine RJ_op rfl (OJ_P (P_assign rfl) rfl ?_)
    refine RJ_nil ?_
    refine QJ_then ?_
    refine CJ_ent (fun h hh => sl_nil (t := tyRow) h (rs_nil (RP := RowP) h hh)) ?_
    refine CJ_ent (fun h hh => sl_nil (t := tyU) h hh) ?_
    obtain ⟨y9, hl7, hK8⟩ := bind_c h
    refine CJ_cutT (X := ((List (List UInt64)) × (List UInt64)) × Sl3 × (List Sl3) × Sl3) [7, 8, 9, 10, 28, 29, 30, 31, 32, 33, 34, 35, 36, 37, 38, 39, 40, 41, 42, 43, 44, 45, 46, 47, 48, 49, 50, 51, 52] (fun ⟨a15, hd11, hs12, hd14⟩ => ([(7, hd11.v), (8, hd14.v)] : Slots)) (fun ⟨a15, hd11, hs12, hd14⟩ R => sl tyRow hd11.v hs12 :: Rs RowP a15.1 hs12 :: sl tyU hd14.v a15.2 :: R) (fun ⟨a15, hd11, hs12, hd14⟩ => y9 = a15) (Dels.cons del1 (Dels.cons del1 (Dels.cons del0 Dels.nil))) ?_ ?_
    ·
      refine CJ_block ?_
      refine CJ_loopR (X := Nat × (List (List UInt64)) × (List UInt64) × Nat × Sl3 × (List Sl3) × Sl3) [7, 8, 9, 10, 28, 29, 30, 31, 32, 33, 34, 35, 36, 37, 38, 39, 40, 41, 42, 43, 44, 45, 46, 47, 48, 49, 50, 51, 52] (fun ⟨n, x16, x19, x21, hd17, hs18, hd20⟩ => ([(7, hd17.v), (8, hd20.v), (9, .int .i64 (((x21 : Nat) : Int)))] : Slots)) (fun ⟨n, x16, x19, x21, hd17, hs18, hd20⟩ R => sl tyRow hd17.v hs18 :: Rs RowP x16 hs18 :: sl tyU hd20.v x19 :: R) (fun ⟨n, x16, x19, x21, hd17, hs18, hd20⟩ => volumegrouplaw05_BlockConcat_l1 sizes n x16 x19 x21 = some y9) (fun ⟨n, x16, x19, x21, hd17, hs18, hd20⟩ => n) ⟨FUEL, ([] : List (List UInt64)), [], 0, ⟨none, 0, 0⟩, ([] : List Sl3), ⟨none, 0, 0⟩⟩ ?_ ?_ (Ent.take del1 (Ent.take del1 (Ent.take del0 (Ent.take del0 Ent.refl)))) ?_
      · exact hl7
      · exact ⟨rfl, rfl, rfl, True.intro⟩
      ·
        rintro ⟨n, x16, x19, x21, hd17, hs18, hd20⟩ h
        cases n with
        | zero => exact none_e h
        | succ n => ?_
        replace h : volumegrouplaw05_BlockConcat_l1_b sizes (volumegrouplaw05_BlockConcat_l1 sizes n) x16 x19 x21 = some y9 := h
        unfold volumegrouplaw05_BlockConcat_l1_b at h
        show CJ _ _ _ _ _ (([(7, hd17.v), (8, hd20.v), (9, .int .i64 (((x21 : Nat) : Int)))] : Slots) ++ forget _ _) (sl tyRow hd17.v hs18 :: Rs RowP x16 hs18 :: sl tyU hd20.v x19 :: _)
        refine CJ_pure (len_of (Reads.sl _ _ _) del0) (fun hlen22 => ?_)
        refine CJ_pure (fun h hh => Rs_len (stars_perm (del1 (A := Rs RowP x16 hs18)).out h hh)) (fun hdl23 => ?_)
        refine CJ_pure (len_of (Reads.sl _ _ _) del2) (fun hlen24 => ?_)
        refine CJ_seq ?_
        refine CJ_seq ?_
        refine CJ_region ?_
        refine RJ_op rfl (OJ_P (P_move rfl) rfl ?_)
        refine RJ_op rfl (OJ_P (P_move rfl) rfl ?_)
        refine RJ_op rfl (OJ_V (V_len rfl foc3 rsizes Try.runUnderlying67) rfl ?_)
        refine RJ_op rfl (OJ_P (P_lss (a := ((x21 : Nat) : Int)) (b := ((sizes.length : Nat) : Int)) rfl rfl) rfl ?_)
        refine RJ_nil ?_
        refine QJ_then ?_
        refine CJ_condP rfl bT_dec (fun hg2 => ?_) (fun hg2 => ?_)
        ·
          replace h := ite_t hg2 h
          refine CJ_skip ?_
          refine QJ_then ?_
          refine CJ_seq ?_
          refine CJ_block ?_
          refine CJ_seq ?_
          refine CJ_region ?_
          refine RJ_op rfl (OJ_P (P_move rfl) rfl ?_)
          refine RJ_op rfl (OJ_P (P_move rfl) rfl ?_)
          refine RJ_op rfl (OJ_V (V_index (i := x21) rfl rfl rfl (by omega) foc3 rsizes Try.runUnderlying67 Try.sizeOf5) rfl ?_)
          refine RJ_op rfl (OJ_V (V_loadE rfl rfl (by omega) foc3 rsizes rfl rfl Try.isAgg5) rfl ?_)
          refine RJ_op rfl (OJ_P (P_rem_u8 (a := (sizes.getD x21 0)) (b := (4 : UInt8)) rfl rfl (by decide)) rfl ?_)
          refine RJ_op rfl (OJ_P (P_convSame rfl Try.runUnderlying5 Try.runUnderlying3 (wrap64_u _ (by have := (((sizes.getD x21 0) % (4 : UInt8))).toNat_lt; omega))) rfl ?_)
          obtain ⟨hg3, h⟩ := grd_Ne h
          refine RJ_op rfl (OJ_P (PJ_eq (P_add (a := (1 : Int)) (b := (((((sizes.getD x21 0) % (4 : UInt8))).toNat : Nat) : Int)) rfl rfl (nat_in hg3)) rfl) rfl ?_)
          refine RJ_op rfl (OJ_P (P_move rfl) rfl ?_)
          refine RJ_op rfl (OJ_P (P_mul (a := (1000 : Int)) (b := ((x21 : Nat) : Int)) rfl rfl (by omega)) rfl ?_)
          refine RJ_op rfl (OJ_P (P_add (a := ((1000 : Int) * ((x21 : Nat) : Int))) (b := (1 : Int)) rfl rfl (by omega)) rfl ?_)
          refine RJ_op rfl (OJ_P (P_conv_u64 (a := (((1000 : Int) * ((x21 : Nat) : Int)) + (1 : Int))) rfl Try.runUnderlying3 Try.runUnderlying22) rfl ?_)
          obtain ⟨r25, hr26, h⟩ := bind_e h
          refine RJ_op rfl (O_call (L_volumegroupmake_Words hr26) rfl Try.call16 Dels.nil rfl (fun X27 _ => ?_))
          refine RJ_op rfl (OJ_P (P_assign rfl) rfl ?_)
          refine RJ_nil ?_
          refine QJ_then ?_
          refine CJ_region ?_
          refine RJ_op rfl (OJ_P (P_move rfl) rfl ?_)
          refine RJ_op rfl (OJ_P (P_move rfl) rfl ?_)
          refine RJ_op rfl (O_buildSlice rfl (bs_27_1_0 _ _ _) rfl (fun b29 => ?_))
          refine RJ_shareS del1 ?_
          obtain ⟨hg4, h⟩ := grd_Le h
          refine RJ_op rfl (O_append (t := tyRow) (bytes := 24) rfl rfl del2 foc1 (Reads.lit (t := tyRow) (ys := [(X27 : Sl3)]) rfl rfl (by decide) (by decide) rfl) Try.underlying27 ok_tyRow (apl (m := 1) (b := 24) (by have hz : _ ≤ 1000000000 := hg4; have := hdl23; omega) (by decide)).1 (apl (m := 1) (b := 24) (by have hz : _ ≤ 1000000000 := hg4; have := hdl23; omega) (by decide)).2 rfl (fun p31 c32 => ?_))
          refine RJ_ent (Ent.trans (Ent.take del3 (Ent.take del1 Ent.refl)) (Rs_push (x := r25) (g := (X27 : Sl3)) Dup_RowP)) ?_
          refine RJ_pure (fun h hh => Rs_len (stars_perm (del0 (A := Rs RowP (x16 ++ [r25]) ((hs18 ++ [(X27 : Sl3)])))).out h hh)) (fun hdl33 => ?_)
          refine RJ_op rfl (OJ_P (P_move rfl) rfl ?_)
          refine RJ_op rfl (OJ_P (P_move rfl) rfl ?_)
          obtain ⟨hg5, h⟩ := grd_Le h
          refine RJ_op rfl (O_append (t := tyU) (bytes := 8) rfl rfl del4 foc1 (Reads.slR _ _ _) Try.underlying25 ok_tyU (apl (m := r25.length) (b := 8) hg5 (by decide)).1 (apl (m := r25.length) (b := 8) hg5 (by decide)).2 rfl (fun p35 c36 => ?_))
          refine RJ_op rfl (OJ_P (P_assign rfl) rfl ?_)
          refine RJ_op rfl (OJ_P (P_assign rfl) rfl ?_)
          refine RJ_nil ?_
          refine QJ_block_normal ?_
          refine QJ_then ?_
          refine CJ_region ?_
          refine RJ_op rfl (OJ_P (P_move rfl) rfl ?_)
          refine RJ_op rfl (OJ_P (PJ_eq (P_add (a := ((x21 : Nat) : Int)) (b := (1 : Int)) rfl rfl (by omega)) rfl) rfl ?_)
          refine RJ_op rfl (OJ_P (P_assign rfl) rfl ?_)
          refine RJ_nil ?_
          refine QJ_nextR ⟨n, (x16 ++ [r25]), (x19 ++ r25), (x21 + 1), ⟨p31, (hs18 ++ [(X27 : Sl3)]).length, c32⟩, (hs18 ++ [(X27 : Sl3)]), ⟨p35, (x19 ++ r25).length, c36⟩⟩ (Nat.lt_succ_self _) ?_ (by repeat (first | exact Kp.base | exact Kp.self | refine Kp.cons rfl ?_ | refine Kp.forget rfl ?_)) ?_ (Ent.take del3 (Ent.take del1 (Ent.take del0 (Ent.take del2 (Ent.drop (Ent.drop Ent.refl))))))
          · exact h
          · exact ⟨rfl, rfl, rfl, True.intro⟩
        ·
          replace h := ite_f hg2 h
          refine CJ_exit ?_
          refine QJ_then_exit ?_
          refine QJ_round_exit ?_
          refine QJ_block_here ?_
          refine QJ_cutR ⟨(x16, x19), hd17, hs18, hd20⟩ ?_ (by repeat (first | exact Kp.base | exact Kp.self | refine Kp.cons rfl ?_ | refine Kp.forget rfl ?_)) ?_ (Ent.take del0 (Ent.take del0 (Ent.take del0 (Ent.take del0 Ent.refl))))
          · exact (Option.some.inj h).symm
          · exact ⟨rfl, rfl, True.intro⟩
    ·
      rintro ⟨a15, hd11, hs12, hd14⟩ hy37
      replace h := bindK_at hK8 hy37
      show CJ _ _ _ _ _ (([(7, hd11.v), (8, hd14.v)] : Slots) ++ forget _ _) (sl tyRow hd11.v hs12 :: Rs RowP a15.1 hs12 :: sl tyU hd14.v a15.2 :: _)
      refine CJ_pure (len_of (Reads.sl _ _ _) del0) (fun hlen38 => ?_)
      refine CJ_pure (fun h hh => Rs_len (stars_perm (del1 (A := Rs RowP a15.1 hs12)).out h hh)) (fun hdl39 => ?_)
      refine CJ_pure (len_of (Reads.sl _ _ _) del2) (fun hlen40 => ?_)
      refine CJ_seq ?_
      refine CJ_region ?_
      refine RJ_op rfl (OJ_P (P_move rfl) rfl ?_)
      obtain ⟨r41, hr42, h⟩ := bind_e h
      refine RJ_op rfl (O_call (L_volumegroupmake_Loaded (Reads.sl _ _ _) (RowsR.rs hdl39) hr42) rfl Try.call15 (Dels.cons del0 (Dels.cons del0 Dels.nil)) rfl (fun X43 _ => ?_))
      refine RJ_op rfl (OJ_P (P_assign rfl) rfl ?_)
      refine RJ_nil ?_
      refine QJ_then ?_
      refine CJ_seq ?_
      refine CJ_seq ?_
      refine CJ_region ?_
      refine RJ_op rfl (OJ_P (P_move rfl) rfl ?_)
      rcases opt_e h with ⟨ht45, h⟩ | ⟨o46, ht45, h⟩
      ·
        rw [ht45]
        refine RJ_ent (Ent.take del0 (Ent.take del0 (Ent.take del1 (Ent.take del1 (Ent.drop Ent.refl))))) ?_
        refine RJ_op rfl (OJ_P (P_eqlNN rfl rfl Try.underlying23) rfl ?_)
        refine RJ_nil ?_
        refine QJ_then ?_
        refine CJ_condT rfl rfl ?_
        refine CJ_seq ?_
        refine CJ_region ?_
        refine RJ_op rfl (OJ_P (P_assign rfl) rfl ?_)
        refine RJ_nil ?_
        refine QJ_then ?_
        refine CJ_ret ?_
        refine QJ_then_ret ?_
        have hE := Option.some.inj h
        subst hE
        refine QJ_end (res1 Try.results8 rfl) ?_
        refine CSpec.close () ?_ ?_ (Ent.take del3 (Ent.drop (Ent.drop (Ent.drop Ent.refl))))
        · rfl
        · trivial
      ·
        rw [ht45]
        refine RJ_ent (Ent.takeC (A' := Arr X43 o46) del2 rfl Ent.refl) ?_
        refine RJ_op rfl (OJ_P (P_eqlPN rfl rfl Try.underlying23) rfl ?_)
        refine RJ_nil ?_
        refine QJ_then ?_
        refine CJ_condF rfl rfl ?_
        refine CJ_skip ?_
        refine QJ_then ?_
        refine CJ_seq ?_
        refine CJ_region ?_
        refine RJ_op rfl (OJ_P (P_move rfl) rfl ?_)
        obtain ⟨r47, hr48, h⟩ := bind_e h
        refine RJ_op rfl (O_call (L_volumegroupmake_Spans hr48) rfl Try.call17 (Dels.cons del0 Dels.nil) rfl (fun X49 _ => ?_))
        refine RJ_pure (fun h hh => Rs_len (stars_perm (del2 (A := Rs (DevP X43) r47 X49.2)).out h hh)) (fun hdl52 => ?_)
        refine RJ_op rfl (OJ_P (P_assign rfl) rfl ?_)
        refine RJ_nil ?_
        refine QJ_then ?_
        refine CJ_seq ?_
        refine CJ_region ?_
        refine RJ_op rfl (OJ_P (P_move rfl) rfl ?_)
        obtain ⟨r53, hr54, h⟩ := bind_e h
        refine RJ_op rfl (O_call (L_block_Concat (Reads.sl _ _ _) hr54) rfl Try.call33 (Dels.cons del1 (Dels.cons del1 (Dels.cons del0 Dels.nil))) rfl (fun X55 _ => ?_))
        refine RJ_op rfl (OJ_P (P_assign rfl) rfl ?_)
        refine RJ_nil ?_
        refine QJ_then ?_
        refine CJ_seq ?_
        refine CJ_seq ?_
        refine CJ_region ?_
        refine RJ_op rfl (OJ_P (P_move rfl) rfl ?_)
        refine RJ_op rfl (OJ_V (VJ_eq (V_len rfl foc0 (Reads.sl _ _ _) Try.runUnderlying28) (congrArg (fun z : Nat => Value.int .i64 (z : Int)) (hdl52).symm)) rfl ?_)
        refine RJ_op rfl (OJ_P (P_move rfl) rfl ?_)
        refine RJ_op rfl (OJ_V (VJ_eq (V_len rfl foc4 (Reads.sl _ _ _) Try.runUnderlying27) (congrArg (fun z : Nat => Value.int .i64 (z : Int)) (hdl39).symm)) rfl ?_)
        refine RJ_op rfl (OJ_P (P_neq (a := ((r47.length : Nat) : Int)) (b := ((a15.1.length : Nat) : Int)) rfl rfl) rfl ?_)
        refine RJ_op rfl (OJ_P (P_move rfl) rfl ?_)
        refine RJ_mbF rfl rfl rfl (fun hG57 => have hP58 : ¬ (((r47.length : Nat) : Int) ≠ ((a15.1.length : Nat) : Int)) := nP (bT_dec) hG57; VJ_P (P_move rfl)) ?_
        refine RJ_mbF rfl rfl rfl (fun hG59 => have hP60 : ¬ (((r47.length : Nat) : Int) ≠ ((a15.1.length : Nat) : Int)) := nP (bT_dec) hG59; VJ_P (P_eqlIfN (mbx hG59 rfl) rfl Try.underlying31)) ?_
        refine RJ_op rfl (OJ_P (P_pickOr rfl rfl (fun hh => mbx (not_f hh) rfl)) rfl ?_)
        refine RJ_op rfl (OJ_P (P_move rfl) rfl ?_)
        refine RJ_splitP 70 rfl (bT_or bT_dec Iff.rfl) (fun hg6B hg6 => ?_) (fun hg6B hg6 => ?_)
        ·
          replace h := ite_t hg6 h
          refine RJ_gn (GY_no rfl rfl rfl hg6B) rfl rfl ?_
          refine RJ_gn (GY_no rfl rfl rfl hg6B) rfl rfl ?_
          refine RJ_gn (GY_no rfl rfl rfl hg6B) rfl rfl ?_
          refine RJ_gn (GY_no rfl rfl rfl hg6B) rfl rfl ?_
          refine RJ_gn (GY_no rfl rfl rfl hg6B) rfl rfl ?_
          refine RJ_op rfl (OJ_P (P_pickT rfl hg6B rfl) rfl ?_)
          refine RJ_nil ?_
          refine QJ_then ?_
          refine CJ_condT rfl rfl ?_
          refine CJ_seq ?_
          refine CJ_region ?_
          refine RJ_op rfl (OJ_P (P_assign rfl) rfl ?_)
          refine RJ_nil ?_
          refine QJ_then ?_
          refine CJ_ret ?_
          refine QJ_then_ret ?_
          have hE := Option.some.inj h
          subst hE
          refine QJ_end (res1 Try.results8 rfl) ?_
          refine CSpec.close () ?_ ?_ (Ent.take del7 (Ent.drop (Ent.drop (Ent.drop (Ent.drop (Ent.drop (Ent.drop (Ent.drop Ent.refl))))))))
          · rfl
          · trivial
        ·
          replace h := ite_f hg6 h
          refine RJ_gy (GY_yes rfl rfl rfl hg6B) (OJ_P (P_move rfl) rfl ?_)
          refine RJ_pure (fun h hh => DevP_dep h (stars_perm (del3 (A := DevP X43 r53 X55)).out h hh)) (fun hdp61 => ?_)
          obtain ⟨r62, hr63, h⟩ := bind_e h
          refine RJ_gy (GY_yes rfl rfl rfl hg6B) (O_callI rfl (dev_Size hr63 hdp61) rfl (Dels.cons del3 (Dels.cons del2 Dels.nil)) rfl (fun _ _ => ?_))
          refine RJ_gy (GY_yes rfl rfl rfl hg6B) (OJ_P (P_move rfl) rfl ?_)
          refine RJ_gy (GY_yes rfl rfl rfl hg6B) (OJ_V (V_len rfl foc6 (Reads.sl _ _ _) Try.runUnderlying25) rfl ?_)
          refine RJ_gy (GY_yes rfl rfl rfl hg6B) (OJ_P (P_neq (a := r62) (b := ((a15.2.length : Nat) : Int)) rfl rfl) rfl ?_)
          refine RJ_op rfl (OJ_P (P_pickF rfl hg6B rfl) rfl ?_)
          refine RJ_nil ?_
          refine QJ_then ?_
          refine CJ_condP rfl bT_dec (fun hg7 => ?_) (fun hg7 => ?_)
          ·
            replace h := ite_t hg7 h
            refine CJ_seq ?_
            refine CJ_region ?_
            refine RJ_op rfl (OJ_P (P_assign rfl) rfl ?_)
            refine RJ_nil ?_
            refine QJ_then ?_
            refine CJ_ret ?_
            refine QJ_then_ret ?_
            have hE := Option.some.inj h
            subst hE
            refine QJ_end (res1 Try.results8 rfl) ?_
            refine CSpec.close () ?_ ?_ (Ent.take del7 (Ent.drop (Ent.drop (Ent.drop (Ent.drop (Ent.drop (Ent.drop (Ent.drop Ent.refl))))))))
            · rfl
            · trivial
          ·
            replace h := ite_f hg7 h
            refine CJ_skip ?_
            refine QJ_then ?_
            refine CJ_seq ?_
            refine CJ_seq ?_
            refine CJ_region ?_
            refine RJ_op rfl (OJ_P (P_assign rfl) rfl ?_)
            refine RJ_nil ?_
            refine QJ_then ?_
            obtain ⟨y66, hl64, hK65⟩ := seq_e h
            refine CJ_cutT (X := ArrS) [6, 14, 15, 16, 77, 78, 79, 80, 81, 82, 83, 84, 85, 86, 87, 88, 89, 90, 91, 92, 93, 94, 95, 96, 97, 98, 99, 100, 101, 102, 103, 104, 105, 106, 107, 108, 109, 110, 111, 112, 113] (fun a68 => ([] : Slots)) (fun a68 R => Arr X43 a68 :: R) (fun a68 => y66 = .inl a68) (Dels.cons del1 Dels.nil) ?_ ?_
            ·
              refine CJ_block ?_
              refine CJ_loopR (X := Nat × ArrS × Nat) [6, 14, 15, 16, 77, 78, 79, 80, 81, 82, 83, 84, 85, 86, 87, 88, 89, 90, 91, 92, 93, 94, 95, 96, 97, 98, 99, 100, 101, 102, 103, 104, 105, 106, 107, 108, 109, 110, 111, 112, 113] (fun ⟨n, x69, x70⟩ => ([(14, .int .i64 (((x70 : Nat) : Int)))] : Slots)) (fun ⟨n, x69, x70⟩ R => Arr X43 x69 :: R) (fun ⟨n, x69, x70⟩ => volumegrouplaw05_BlockConcat_l2 v a15 r53 n x69 x70 = some y66) (fun ⟨n, x69, x70⟩ => n) ⟨FUEL, o46, 0⟩ ?_ ?_ (Ent.take del1 (Ent.take del0 (Ent.take del0 (Ent.take del0 (Ent.take del0 (Ent.take del0 (Ent.take del0 (Ent.take del0 Ent.refl)))))))) ?_
              · exact hl64
              · exact ⟨rfl, True.intro⟩
              ·
                rintro ⟨n, x69, x70⟩ h
                cases n with
                | zero => exact none_e h
                | succ n => ?_
                replace h : volumegrouplaw05_BlockConcat_l2_b v a15 r53 (volumegrouplaw05_BlockConcat_l2 v a15 r53 n) x69 x70 = some y66 := h
                unfold volumegrouplaw05_BlockConcat_l2_b at h
                show CJ _ _ _ _ _ (([(14, .int .i64 (((x70 : Nat) : Int)))] : Slots) ++ forget _ _) (Arr X43 x69 :: _)
                refine CJ_seq ?_
                refine CJ_seq ?_
                refine CJ_region ?_
                refine RJ_op rfl (OJ_P (P_move rfl) rfl ?_)
                refine RJ_op rfl (OJ_P (P_move rfl) rfl ?_)
                refine RJ_op rfl (OJ_V (V_len rfl foc6 (Reads.sl _ _ _) Try.runUnderlying25) rfl ?_)
                refine RJ_op rfl (OJ_P (P_lss (a := ((x70 : Nat) : Int)) (b := ((a15.2.length : Nat) : Int)) rfl rfl) rfl ?_)
                refine RJ_nil ?_
                refine QJ_then ?_
                refine CJ_condP rfl bT_dec (fun hg8 => ?_) (fun hg8 => ?_)
                ·
                  replace h := ite_t hg8 h
                  refine CJ_skip ?_
                  refine QJ_then ?_
                  refine CJ_seq ?_
                  refine CJ_block ?_
                  refine CJ_seq ?_
                  refine CJ_region ?_
                  refine RJ_op rfl (OJ_P (P_move rfl) rfl ?_)
                  refine RJ_op rfl (OJ_P (P_move rfl) rfl ?_)
                  refine RJ_pure (fun h hh => DevP_dep h (stars_perm (del1 (A := DevP X43 r53 X55)).out h hh)) (fun hdp71 => ?_)
                  obtain ⟨r72, hr73, h⟩ := bind_e h
                  refine RJ_op rfl (O_callI rfl (dev_Read hr73 hdp71) rfl (Dels.cons del1 (Dels.cons del0 Dels.nil)) rfl (fun _ _ => ?_))
                  refine RJ_op rfl (OJ_P (P_move rfl) rfl ?_)
                  refine RJ_op rfl (OJ_P (P_extract rfl rfl) rfl ?_)
                  refine RJ_op rfl (OJ_P (P_extract rfl rfl) rfl ?_)
                  refine RJ_op rfl (OJ_P (P_assign rfl) rfl ?_)
                  refine RJ_op rfl (OJ_P (P_assign rfl) rfl ?_)
                  refine RJ_nil ?_
                  refine QJ_then ?_
                  refine CJ_seq ?_
                  refine AJ_startH 4194304 (by kernel_rfl) rfl ?_
                  refine AJ_takeP 0 1 rfl (by kernel_rfl) rfl (GY_none rfl) (P_move rfl) rfl (fun _ _ _ _ h => h) ?_
                  refine AJ_takeP 1 3 rfl (by kernel_rfl) rfl (GY_none rfl) (P_neq (a := r72.2) (b := (0 : Int)) rfl rfl) rfl (fun _ _ _ _ h => h) ?_
                  refine AJ_takeP 2 7 rfl (by kernel_rfl) rfl (GY_none rfl) (P_move rfl) rfl (fun _ _ _ _ h => h) ?_
                  refine AJ_splitP 91 rfl bT_dec (fun hg9B hg9 => ?_) (fun hg9B hg9 => ?_)
                  ·
                    replace h := ite_t hg9 h
                    refine AJ_skip 3 15 rfl (by kernel_rfl) rfl (GY_no rfl rfl rfl hg9B) rfl (fun _ _ _ _ h => h) ?_
                    refine AJ_skip 4 31 rfl (by kernel_rfl) rfl (GY_no rfl rfl rfl hg9B) rfl (fun _ _ _ _ h => h) ?_
                    refine AJ_skip 5 63 rfl (by kernel_rfl) rfl (GY_no rfl rfl rfl hg9B) rfl (fun _ _ _ _ h => h) ?_
                    refine AJ_skip 6 127 rfl (by kernel_rfl) rfl (GY_no rfl rfl rfl hg9B) rfl (fun _ _ _ _ h => h) ?_
                    refine AJ_skip 7 255 rfl (by kernel_rfl) rfl (GY_no rfl rfl rfl hg9B) rfl (fun _ _ _ _ h => h) ?_
                    refine AJ_skip 8 511 rfl (by kernel_rfl) rfl (GY_no rfl rfl rfl hg9B) rfl (fun _ _ _ _ h => h) ?_
                    refine AJ_takeP 9 1023 rfl (by kernel_rfl) rfl (GY_none rfl) (P_pickT rfl hg9B rfl) rfl (fun _ _ _ _ h => h) ?_
                    refine AJ_takeP 10 2047 rfl (by kernel_rfl) rfl (GY_none rfl) (P_move rfl) rfl (fun _ _ _ _ h => h) ?_
                    refine AJ_splitP 99 rfl Iff.rfl (fun hg10B hg10 => ?_) (fun hg10B hg10 => ?_)
                    ·
                      replace h := ite_t hg10 h
                      refine AJ_skip 11 4095 rfl (by kernel_rfl) rfl (GY_no rfl rfl rfl hg10B) rfl (fun _ _ _ _ h => h) ?_
                      refine AJ_skip 12 8191 rfl (by kernel_rfl) rfl (GY_no rfl rfl rfl hg10B) rfl (fun _ _ _ _ h => h) ?_
                      refine AJ_skip 13 16383 rfl (by kernel_rfl) rfl (GY_no rfl rfl rfl hg10B) rfl (fun _ _ _ _ h => h) ?_
                      refine AJ_skip 14 32767 rfl (by kernel_rfl) rfl (GY_no rfl rfl rfl hg10B) rfl (fun _ _ _ _ h => h) ?_
                      refine AJ_skip 15 65535 rfl (by kernel_rfl) rfl (GY_no rfl rfl rfl hg10B) rfl (fun _ _ _ _ h => h) ?_
                      refine AJ_skip 16 131071 rfl (by kernel_rfl) rfl (GY_no rfl rfl rfl hg10B) rfl (fun _ _ _ _ h => h) ?_
                      refine AJ_skip 17 262143 rfl (by kernel_rfl) rfl (GY_no rfl rfl rfl hg10B) rfl (fun _ _ _ _ h => h) ?_
                      refine AJ_skip 18 524287 rfl (by kernel_rfl) rfl (GY_no rfl rfl rfl hg10B) rfl (fun _ _ _ _ h => h) ?_
                      refine AJ_skip 19 1048575 rfl (by kernel_rfl) rfl (GY_no rfl rfl rfl hg10B) rfl (fun _ _ _ _ h => h) ?_
                      refine AJ_skip 20 2097151 rfl (by kernel_rfl) rfl (GY_no rfl rfl rfl hg10B) rfl (fun _ _ _ _ h => h) ?_
                      refine AJ_skip 21 4194303 rfl (by kernel_rfl) rfl (GY_no rfl rfl rfl hg10B) rfl (fun _ _ _ _ h => h) ?_
                      refine AJ_skip 22 8388607 rfl (by kernel_rfl) rfl (GY_no rfl rfl rfl hg10B) rfl (fun _ _ _ _ h => h) ?_
                      refine AJ_skip 23 16777215 rfl (by kernel_rfl) rfl (GY_no rfl rfl rfl hg10B) rfl (fun _ _ _ _ h => h) ?_
                      refine AJ_takeP 24 33554431 rfl (by kernel_rfl) rfl (GY_none rfl) (P_pickT rfl hg10B rfl) rfl (fun _ _ _ _ h => h) ?_
                      refine AJ_done (by kernel_rfl) ?_
                      refine QJ_then ?_
                      refine CJ_condT rfl rfl ?_
                      refine CJ_seq ?_
                      refine CJ_region ?_
                      refine RJ_op rfl (OJ_P (P_assign rfl) rfl ?_)
                      refine RJ_nil ?_
                      refine QJ_then ?_
                      refine CJ_ret ?_
                      refine QJ_block_ret ?_
                      refine QJ_then_ret ?_
                      refine QJ_round_ret ?_
                      refine QJ_block_ret ?_
                      refine QJ_then_ret ?_
                      have hE := Option.some.inj h
                      replace hE := seq_inr hK65 hE.symm
                      subst hE
                      refine QJ_end (res1 Try.results8 rfl) ?_
                      refine CSpec.close () ?_ ?_ (Ent.take del7 (Ent.drop (Ent.drop (Ent.drop (Ent.drop (Ent.drop (Ent.drop (Ent.drop Ent.refl))))))))
                      · rfl
                      · trivial
                    ·
                      replace h := ite_f hg10 h
                      refine AJ_takeP 11 4095 rfl (by kernel_rfl) rfl (GY_yes rfl rfl rfl hg10B) (P_move rfl) rfl (fun _ _ _ _ h => h) ?_
                      refine AJ_takeP 12 8191 rfl (by kernel_rfl) rfl (GY_yes rfl rfl rfl hg10B) (P_move rfl) rfl (fun _ _ _ _ h => h) ?_
                      refine AJ_takeP 13 16383 rfl (by kernel_rfl) rfl (GY_yes rfl rfl rfl hg10B) (P_move rfl) rfl (fun _ _ _ _ h => h) ?_
                      refine AJ_takeP 14 32767 rfl (by kernel_rfl) rfl (GY_yes rfl rfl rfl hg10B) (P_move rfl) rfl (fun _ _ _ _ h => h) ?_
                      refine AJ_takeV 15 65535 rfl (by kernel_rfl) rfl (by kernel_rfl) (by kernel_rfl) (GY_yes rfl rfl rfl hg10B) (Ent.take del0 (Ent.take del0 (Ent.take del0 (Ent.take del0 (Ent.take del0 (Ent.take del0 (Ent.take del0 (Ent.take del0 Ent.refl)))))))) (V_index (i := x70) rfl rfl rfl (by omega) foc6 (Reads.sl _ _ _) Try.runUnderlying25 Try.sizeOf22) rfl (fun _ _ _ _ h => h) ?_
                      refine AJ_takeV 16 131071 rfl (by kernel_rfl) rfl (by kernel_rfl) (by kernel_rfl) (GY_yes rfl rfl rfl hg10B) (Ent.take del0 (Ent.take del0 (Ent.take del0 (Ent.take del0 (Ent.take del0 (Ent.take del0 (Ent.take del0 (Ent.take del0 Ent.refl)))))))) (V_loadE rfl rfl (by omega) foc6 (Reads.sl _ _ _) rfl rfl Try.isAgg22) rfl (fun _ _ _ _ h => h) ?_
                      refine AJ_takeP 17 262143 rfl (by kernel_rfl) rfl (GY_yes rfl rfl rfl hg10B) (P_move rfl) rfl (fun _ _ _ _ h => h) ?_
                      refine AJ_takeP 18 524287 rfl (by kernel_rfl) rfl (GY_yes rfl rfl rfl hg10B) (P_xor_u64 (a := (a15.2.getD x70 0)) (b := v) rfl rfl) rfl (fun _ _ _ _ h => h) ?_
                      refine AJ_takeP 19 1048575 rfl (by kernel_rfl) rfl (GY_yes rfl rfl rfl hg10B) (P_makeFunc rfl rfl) rfl (fun _ _ _ _ h => h) ?_
                      refine AJ_pure (fun h hh => DevP_nil h (stars_perm (del0 (A := DevP X43 r53 X55)).out h hh)) (fun hnil74 => ?_)
                      refine AJ_takeP 20 2097151 rfl (by kernel_rfl) rfl (GY_yes rfl rfl rfl hg10B) (P_nilCheckM hnil74 rfl) rfl (fun _ _ _ _ h => h) ?_
                      refine AJ_takeP 21 4194303 rfl (by kernel_rfl) rfl (GY_yes rfl rfl rfl hg10B) (P_move rfl) rfl (fun _ _ _ _ h => h) ?_
                      refine AJ_pure (fun h hh => DevP_dep h (stars_perm (del0 (A := DevP X43 r53 X55)).out h hh)) (fun hdp75 => ?_)
                      obtain ⟨r76, hr77, h⟩ := bind_e h
                      refine AJ_op 22 8388607 rfl (by kernel_rfl) rfl (GY_yes rfl rfl rfl hg10B) (O_callI rfl (dev_Write hr77 hdp75) rfl (Dels.cons del0 (Dels.cons del0 Dels.nil)) rfl (fun _ _ => ?_))
                      refine ⟨fun h => absurd h (by decide), ?_⟩
                      refine AJ_takeP 23 16777215 rfl (by kernel_rfl) rfl (GY_yes rfl rfl rfl hg10B) (P_neq (a := r76.1) (b := (0 : Int)) rfl rfl) rfl (fun _ _ _ _ h => h) ?_
                      refine AJ_takeP 24 33554431 rfl (by kernel_rfl) rfl (GY_none rfl) (P_pickF rfl hg10B rfl) rfl (fun _ _ _ _ h => h) ?_
                      refine AJ_done (by kernel_rfl) ?_
                      refine QJ_then ?_
                      refine CJ_condP rfl bT_dec (fun hg11 => ?_) (fun hg11 => ?_)
                      ·
                        replace h := ite_t hg11 h
                        refine CJ_seq ?_
                        refine CJ_region ?_
                        refine RJ_op rfl (OJ_P (P_assign rfl) rfl ?_)
                        refine RJ_nil ?_
                        refine QJ_then ?_
                        refine CJ_ret ?_
                        refine QJ_block_ret ?_
                        refine QJ_then_ret ?_
                        refine QJ_round_ret ?_
                        refine QJ_block_ret ?_
                        refine QJ_then_ret ?_
                        have hE := Option.some.inj h
                        replace hE := seq_inr hK65 hE.symm
                        subst hE
                        refine QJ_end (res1 Try.results8 rfl) ?_
                        refine CSpec.close () ?_ ?_ (Ent.take del7 (Ent.drop (Ent.drop (Ent.drop (Ent.drop (Ent.drop (Ent.drop (Ent.drop Ent.refl))))))))
                        · rfl
                        · trivial
                      ·
                        replace h := ite_f hg11 h
                        refine CJ_skip ?_
                        refine QJ_block_normal ?_
                        refine QJ_then ?_
                        refine CJ_region ?_
                        refine RJ_op rfl (OJ_P (P_move rfl) rfl ?_)
                        refine RJ_op rfl (OJ_P (PJ_eq (P_add (a := ((x70 : Nat) : Int)) (b := (1 : Int)) rfl rfl (by omega)) rfl) rfl ?_)
                        refine RJ_op rfl (OJ_P (P_assign rfl) rfl ?_)
                        refine RJ_nil ?_
                        refine QJ_nextR ⟨n, r76.2, (x70 + 1)⟩ (Nat.lt_succ_self _) ?_ (by repeat (first | exact Kp.base | exact Kp.self | refine Kp.cons rfl ?_ | refine Kp.forget rfl ?_)) ?_ (Ent.take del1 (Ent.take del0 (Ent.take del0 (Ent.take del0 (Ent.take del0 (Ent.take del0 (Ent.take del0 (Ent.take del0 Ent.refl))))))))
                        · exact h
                        · exact ⟨rfl, True.intro⟩
                  ·
                    replace h := ite_f hg9 h
                    refine AJ_takeP 3 15 rfl (by kernel_rfl) rfl (GY_yes rfl rfl rfl hg9B) (P_move rfl) rfl (fun _ _ _ _ h => h) ?_
                    refine AJ_takeP 4 31 rfl (by kernel_rfl) rfl (GY_yes rfl rfl rfl hg9B) (P_move rfl) rfl (fun _ _ _ _ h => h) ?_
                    refine AJ_takeP 5 63 rfl (by kernel_rfl) rfl (GY_yes rfl rfl rfl hg9B) (P_move rfl) rfl (fun _ _ _ _ h => h) ?_
                    refine AJ_takeV 6 127 rfl (by kernel_rfl) rfl (by kernel_rfl) (by kernel_rfl) (GY_yes rfl rfl rfl hg9B) (Ent.take del0 (Ent.take del0 (Ent.take del0 (Ent.take del0 (Ent.take del0 (Ent.take del0 (Ent.take del0 (Ent.take del0 Ent.refl)))))))) (V_index (i := x70) rfl rfl rfl (by omega) foc6 (Reads.sl _ _ _) Try.runUnderlying25 Try.sizeOf22) rfl (fun _ _ _ _ h => h) ?_
                    refine AJ_takeV 7 255 rfl (by kernel_rfl) rfl (by kernel_rfl) (by kernel_rfl) (GY_yes rfl rfl rfl hg9B) (Ent.take del0 (Ent.take del0 (Ent.take del0 (Ent.take del0 (Ent.take del0 (Ent.take del0 (Ent.take del0 (Ent.take del0 Ent.refl)))))))) (V_loadE rfl rfl (by omega) foc6 (Reads.sl _ _ _) rfl rfl Try.isAgg22) rfl (fun _ _ _ _ h => h) ?_
                    refine AJ_takeP 8 511 rfl (by kernel_rfl) rfl (GY_yes rfl rfl rfl hg9B) (P_ne_u64 (a := r72.1) (b := (a15.2.getD x70 0)) rfl rfl) rfl (fun _ _ _ _ h => h) ?_
                    refine AJ_takeP 9 1023 rfl (by kernel_rfl) rfl (GY_none rfl) (P_pickF rfl hg9B rfl) rfl (fun _ _ _ _ h => h) ?_
                    refine AJ_takeP 10 2047 rfl (by kernel_rfl) rfl (GY_none rfl) (P_move rfl) rfl (fun _ _ _ _ h => h) ?_
                    refine AJ_splitP 99 rfl bT_dec (fun hg12B hg12 => ?_) (fun hg12B hg12 => ?_)
                    ·
                      replace h := ite_t hg12 h
                      refine AJ_skip 11 4095 rfl (by kernel_rfl) rfl (GY_no rfl rfl rfl hg12B) rfl (fun _ _ _ _ h => h) ?_
                      refine AJ_skip 12 8191 rfl (by kernel_rfl) rfl (GY_no rfl rfl rfl hg12B) rfl (fun _ _ _ _ h => h) ?_
                      refine AJ_skip 13 16383 rfl (by kernel_rfl) rfl (GY_no rfl rfl rfl hg12B) rfl (fun _ _ _ _ h => h) ?_
                      refine AJ_skip 14 32767 rfl (by kernel_rfl) rfl (GY_no rfl rfl rfl hg12B) rfl (fun _ _ _ _ h => h) ?_
                      refine AJ_skip 15 65535 rfl (by kernel_rfl) rfl (GY_no rfl rfl rfl hg12B) rfl (fun _ _ _ _ h => h) ?_
                      refine AJ_skip 16 131071 rfl (by kernel_rfl) rfl (GY_no rfl rfl rfl hg12B) rfl (fun _ _ _ _ h => h) ?_
                      refine AJ_skip 17 262143 rfl (by kernel_rfl) rfl (GY_no rfl rfl rfl hg12B) rfl (fun _ _ _ _ h => h) ?_
                      refine AJ_skip 18 524287 rfl (by kernel_rfl) rfl (GY_no rfl rfl rfl hg12B) rfl (fun _ _ _ _ h => h) ?_
                      refine AJ_skip 19 1048575 rfl (by kernel_rfl) rfl (GY_no rfl rfl rfl hg12B) rfl (fun _ _ _ _ h => h) ?_
                      refine AJ_skip 20 2097151 rfl (by kernel_rfl) rfl (GY_no rfl rfl rfl hg12B) rfl (fun _ _ _ _ h => h) ?_
                      refine AJ_skip 21 4194303 rfl (by kernel_rfl) rfl (GY_no rfl rfl rfl hg12B) rfl (fun _ _ _ _ h => h) ?_
                      refine AJ_skip 22 8388607 rfl (by kernel_rfl) rfl (GY_no rfl rfl rfl hg12B) rfl (fun _ _ _ _ h => h) ?_
                      refine AJ_skip 23 16777215 rfl (by kernel_rfl) rfl (GY_no rfl rfl rfl hg12B) rfl (fun _ _ _ _ h => h) ?_
                      refine AJ_takeP 24 33554431 rfl (by kernel_rfl) rfl (GY_none rfl) (P_pickT rfl hg12B rfl) rfl (fun _ _ _ _ h => h) ?_
                      refine AJ_done (by kernel_rfl) ?_
                      refine QJ_then ?_
                      refine CJ_condT rfl rfl ?_
                      refine CJ_seq ?_
                      refine CJ_region ?_
                      refine RJ_op rfl (OJ_P (P_assign rfl) rfl ?_)
                      refine RJ_nil ?_
                      refine QJ_then ?_
                      refine CJ_ret ?_
                      refine QJ_block_ret ?_
                      refine QJ_then_ret ?_
                      refine QJ_round_ret ?_
                      refine QJ_block_ret ?_
                      refine QJ_then_ret ?_
                      have hE := Option.some.inj h
                      replace hE := seq_inr hK65 hE.symm
                      subst hE
                      refine QJ_end (res1 Try.results8 rfl) ?_
                      refine CSpec.close () ?_ ?_ (Ent.take del7 (Ent.drop (Ent.drop (Ent.drop (Ent.drop (Ent.drop (Ent.drop (Ent.drop Ent.refl))))))))
                      · rfl
                      · trivial
                    ·
                      replace h := ite_f hg12 h
                      refine AJ_takeP 11 4095 rfl (by kernel_rfl) rfl (GY_yes rfl rfl rfl hg12B) (P_move rfl) rfl (fun _ _ _ _ h => h) ?_
                      refine AJ_takeP 12 8191 rfl (by kernel_rfl) rfl (GY_yes rfl rfl rfl hg12B) (P_move rfl) rfl (fun _ _ _ _ h => h) ?_
                      refine AJ_takeP 13 16383 rfl (by kernel_rfl) rfl (GY_yes rfl rfl rfl hg12B) (P_move rfl) rfl (fun _ _ _ _ h => h) ?_
                      refine AJ_takeP 14 32767 rfl (by kernel_rfl) rfl (GY_yes rfl rfl rfl hg12B) (P_move rfl) rfl (fun _ _ _ _ h => h) ?_
                      refine AJ_takeV 15 65535 rfl (by kernel_rfl) rfl (by kernel_rfl) (by kernel_rfl) (GY_yes rfl rfl rfl hg12B) (Ent.take del0 (Ent.take del0 (Ent.take del0 (Ent.take del0 (Ent.take del0 (Ent.take del0 (Ent.take del0 (Ent.take del0 Ent.refl)))))))) (V_index (i := x70) rfl rfl rfl (by omega) foc6 (Reads.sl _ _ _) Try.runUnderlying25 Try.sizeOf22) rfl (fun _ _ _ _ h => h) ?_
                      refine AJ_takeV 16 131071 rfl (by kernel_rfl) rfl (by kernel_rfl) (by kernel_rfl) (GY_yes rfl rfl rfl hg12B) (Ent.take del0 (Ent.take del0 (Ent.take del0 (Ent.take del0 (Ent.take del0 (Ent.take del0 (Ent.take del0 (Ent.take del0 Ent.refl)))))))) (V_loadE rfl rfl (by omega) foc6 (Reads.sl _ _ _) rfl rfl Try.isAgg22) rfl (fun _ _ _ _ h => h) ?_
                      refine AJ_takeP 17 262143 rfl (by kernel_rfl) rfl (GY_yes rfl rfl rfl hg12B) (P_move rfl) rfl (fun _ _ _ _ h => h) ?_
                      refine AJ_takeP 18 524287 rfl (by kernel_rfl) rfl (GY_yes rfl rfl rfl hg12B) (P_xor_u64 (a := (a15.2.getD x70 0)) (b := v) rfl rfl) rfl (fun _ _ _ _ h => h) ?_
                      refine AJ_takeP 19 1048575 rfl (by kernel_rfl) rfl (GY_yes rfl rfl rfl hg12B) (P_makeFunc rfl rfl) rfl (fun _ _ _ _ h => h) ?_
                      refine AJ_pure (fun h hh => DevP_nil h (stars_perm (del0 (A := DevP X43 r53 X55)).out h hh)) (fun hnil78 => ?_)
                      refine AJ_takeP 20 2097151 rfl (by kernel_rfl) rfl (GY_yes rfl rfl rfl hg12B) (P_nilCheckM hnil78 rfl) rfl (fun _ _ _ _ h => h) ?_
                      refine AJ_takeP 21 4194303 rfl (by kernel_rfl) rfl (GY_yes rfl rfl rfl hg12B) (P_move rfl) rfl (fun _ _ _ _ h => h) ?_
                      refine AJ_pure (fun h hh => DevP_dep h (stars_perm (del0 (A := DevP X43 r53 X55)).out h hh)) (fun hdp79 => ?_)
                      obtain ⟨r80, hr81, h⟩ := bind_e h
                      refine AJ_op 22 8388607 rfl (by kernel_rfl) rfl (GY_yes rfl rfl rfl hg12B) (O_callI rfl (dev_Write hr81 hdp79) rfl (Dels.cons del0 (Dels.cons del0 Dels.nil)) rfl (fun _ _ => ?_))
                      refine ⟨fun h => absurd h (by decide), ?_⟩
                      refine AJ_takeP 23 16777215 rfl (by kernel_rfl) rfl (GY_yes rfl rfl rfl hg12B) (P_neq (a := r80.1) (b := (0 : Int)) rfl rfl) rfl (fun _ _ _ _ h => h) ?_
                      refine AJ_takeP 24 33554431 rfl (by kernel_rfl) rfl (GY_none rfl) (P_pickF rfl hg12B rfl) rfl (fun _ _ _ _ h => h) ?_
                      refine AJ_done (by kernel_rfl) ?_
                      refine QJ_then ?_
                      refine CJ_condP rfl bT_dec (fun hg13 => ?_) (fun hg13 => ?_)
                      ·
                        replace h := ite_t hg13 h
                        refine CJ_seq ?_
                        refine CJ_region ?_
                        refine RJ_op rfl (OJ_P (P_assign rfl) rfl ?_)
                        refine RJ_nil ?_
                        refine QJ_then ?_
                        refine CJ_ret ?_
                        refine QJ_block_ret ?_
                        refine QJ_then_ret ?_
                        refine QJ_round_ret ?_
                        refine QJ_block_ret ?_
                        refine QJ_then_ret ?_
                        have hE := Option.some.inj h
                        replace hE := seq_inr hK65 hE.symm
                        subst hE
                        refine QJ_end (res1 Try.results8 rfl) ?_
                        refine CSpec.close () ?_ ?_ (Ent.take del7 (Ent.drop (Ent.drop (Ent.drop (Ent.drop (Ent.drop (Ent.drop (Ent.drop Ent.refl))))))))
                        · rfl
                        · trivial
                      ·
                        replace h := ite_f hg13 h
                        refine CJ_skip ?_
                        refine QJ_block_normal ?_
                        refine QJ_then ?_
                        refine CJ_region ?_
                        refine RJ_op rfl (OJ_P (P_move rfl) rfl ?_)
                        refine RJ_op rfl (OJ_P (PJ_eq (P_add (a := ((x70 : Nat) : Int)) (b := (1 : Int)) rfl rfl (by omega)) rfl) rfl ?_)
                        refine RJ_op rfl (OJ_P (P_assign rfl) rfl ?_)
                        refine RJ_nil ?_
                        refine QJ_nextR ⟨n, r80.2, (x70 + 1)⟩ (Nat.lt_succ_self _) ?_ (by repeat (first | exact Kp.base | exact Kp.self | refine Kp.cons rfl ?_ | refine Kp.forget rfl ?_)) ?_ (Ent.take del1 (Ent.take del0 (Ent.take del0 (Ent.take del0 (Ent.take del0 (Ent.take del0 (Ent.take del0 (Ent.take del0 Ent.refl))))))))
                        · exact h
                        · exact ⟨rfl, True.intro⟩
                ·
                  replace h := ite_f hg8 h
                  refine CJ_exit ?_
                  refine QJ_then_exit ?_
                  refine QJ_round_exit ?_
                  refine QJ_block_here ?_
                  refine QJ_cutR x69 ?_ (by repeat (first | exact Kp.base | exact Kp.self | refine Kp.cons rfl ?_ | refine Kp.forget rfl ?_)) ?_ (Ent.take del0 (Ent.take del0 (Ent.take del0 (Ent.take del0 (Ent.take del0 (Ent.take del0 (Ent.take del0 (Ent.take del0 Ent.refl))))))))
                  · exact (Option.some.inj h).symm
                  · exact True.intro
            ·
              rintro a68 hy82
              replace h := seq_inl hK65 hy82
              show CJ _ _ _ _ _ (([] : Slots) ++ forget _ _) (Arr X43 a68 :: _)
              refine CJ_seq ?_
              refine CJ_region ?_
              refine RJ_op rfl (OJ_P (P_assign rfl) rfl ?_)
              refine RJ_nil ?_
              refine QJ_then ?_
              refine CJ_seq ?_
              refine CJ_seq ?_
              refine CJ_region ?_
              refine RJ_op rfl (OJ_P (P_assign rfl) rfl ?_)
              refine RJ_nil ?_
              refine QJ_then ?_
              obtain ⟨y85, hl83, hK84⟩ := bind_c h
              refine CJ_cutT (X := Nat × ArrS) [17, 18, 114, 115, 116, 117, 118, 119, 120, 121, 122, 123, 124, 125, 126, 127] (fun a88 => ([(17, .int .i64 (((a88.1 : Nat) : Int)))] : Slots)) (fun a88 R => Arr X43 a88.2 :: R) (fun a88 => y85 = a88) (Dels.cons del0 Dels.nil) ?_ ?_
              ·
                refine CJ_block ?_
                refine CJ_loopR (X := Nat × ArrS × Nat × Nat) [17, 18, 114, 115, 116, 117, 118, 119, 120, 121, 122, 123, 124, 125, 126, 127] (fun ⟨n, x89, x90, x91⟩ => ([(17, .int .i64 (((x90 : Nat) : Int))), (18, .int .i64 (((x91 : Nat) : Int)))] : Slots)) (fun ⟨n, x89, x90, x91⟩ R => Arr X43 x89 :: R) (fun ⟨n, x89, x90, x91⟩ => volumegrouplaw05_BlockConcat_l3 missing a15 n x89 x90 x91 = some y85) (fun ⟨n, x89, x90, x91⟩ => n) ⟨FUEL, a68, 0, 0⟩ ?_ ?_ (Ent.take del0 (Ent.take del0 (Ent.take del0 (Ent.take del0 (Ent.take del0 (Ent.take del0 (Ent.take del0 (Ent.take del0 Ent.refl)))))))) ?_
                · exact hl83
                · exact ⟨rfl, rfl, True.intro⟩
                ·
                  rintro ⟨n, x89, x90, x91⟩ h
                  cases n with
                  | zero => exact none_e h
                  | succ n => ?_
                  replace h : volumegrouplaw05_BlockConcat_l3_b missing a15 (volumegrouplaw05_BlockConcat_l3 missing a15 n) x89 x90 x91 = some y85 := h
                  unfold volumegrouplaw05_BlockConcat_l3_b at h
                  show CJ _ _ _ _ _ (([(17, .int .i64 (((x90 : Nat) : Int))), (18, .int .i64 (((x91 : Nat) : Int)))] : Slots) ++ forget _ _) (Arr X43 x89 :: _)
                  refine CJ_seq ?_
                  refine CJ_seq ?_
                  refine CJ_region ?_
                  refine RJ_op rfl (OJ_P (P_move rfl) rfl ?_)
                  refine RJ_op rfl (OJ_P (P_move rfl) rfl ?_)
                  refine RJ_op rfl (OJ_V (VJ_eq (V_len rfl foc4 (Reads.sl _ _ _) Try.runUnderlying27) (congrArg (fun z : Nat => Value.int .i64 (z : Int)) (hdl39).symm)) rfl ?_)
                  refine RJ_op rfl (OJ_P (P_lss (a := ((x91 : Nat) : Int)) (b := ((a15.1.length : Nat) : Int)) rfl rfl) rfl ?_)
                  refine RJ_nil ?_
                  refine QJ_then ?_
                  refine CJ_condP rfl bT_dec (fun hg14 => ?_) (fun hg14 => ?_)
                  ·
                    replace h := ite_t hg14 h
                    refine CJ_skip ?_
                    refine QJ_then ?_
                    refine CJ_seq ?_
                    refine CJ_block ?_
                    refine CJ_seq ?_
                    refine CJ_region ?_
                    refine RJ_op rfl (OJ_P (P_move rfl) rfl ?_)
                    refine RJ_op rfl (OJ_P (P_move rfl) rfl ?_)
                    refine RJ_op rfl (OJ_P (P_shr_u8 (a := missing) (m := x91) rfl rfl rfl) rfl ?_)
                    refine RJ_op rfl (OJ_P (P_and_u8 (a := (shr_u8 missing x91)) (b := (1 : UInt8)) rfl rfl) rfl ?_)
                    refine RJ_op rfl (OJ_P (P_eq_u8 (a := ((shr_u8 missing x91) &&& (1 : UInt8))) (b := (1 : UInt8)) rfl rfl) rfl ?_)
                    refine RJ_nil ?_
                    refine QJ_then ?_
                    refine CJ_condP rfl bT_dec (fun hg15 => ?_) (fun hg15 => ?_)
                    ·
                      replace h := ite_t hg15 h
                      refine CJ_seq ?_
                      refine CJ_region ?_
                      refine RJ_op rfl (OJ_P (P_move rfl) rfl ?_)
                      refine RJ_op rfl (OJ_P (P_move rfl) rfl ?_)
                      refine RJ_op rfl (O_call (c_SetMissing) rfl Try.call34 (Dels.cons del0 Dels.nil) rfl (fun _ _ => ?_))
                      refine RJ_nil ?_
                      refine QJ_then ?_
                      refine CJ_region ?_
                      refine RJ_op rfl (OJ_P (P_assign rfl) rfl ?_)
                      refine RJ_nil ?_
                      refine QJ_block_normal ?_
                      refine QJ_then ?_
                      refine CJ_region ?_
                      refine RJ_op rfl (OJ_P (P_move rfl) rfl ?_)
                      refine RJ_op rfl (OJ_P (PJ_eq (P_add (a := ((x91 : Nat) : Int)) (b := (1 : Int)) rfl rfl (by omega)) rfl) rfl ?_)
                      refine RJ_op rfl (OJ_P (P_assign rfl) rfl ?_)
                      refine RJ_nil ?_
                      refine QJ_nextR ⟨n, (smS x89 (((x91 : Nat) : Int)) true), 6, (x91 + 1)⟩ (Nat.lt_succ_self _) ?_ (by repeat (first | exact Kp.base | exact Kp.self | refine Kp.cons rfl ?_ | refine Kp.forget rfl ?_)) ?_ (Ent.take del0 (Ent.take del0 (Ent.take del0 (Ent.take del0 (Ent.take del0 (Ent.take del0 (Ent.take del0 (Ent.take del0 Ent.refl))))))))
                      · exact h
                      · exact ⟨rfl, rfl, True.intro⟩
                    ·
                      replace h := ite_f hg15 h
                      refine CJ_skip ?_
                      refine QJ_block_normal ?_
                      refine QJ_then ?_
                      refine CJ_region ?_
                      refine RJ_op rfl (OJ_P (P_move rfl) rfl ?_)
                      refine RJ_op rfl (OJ_P (PJ_eq (P_add (a := ((x91 : Nat) : Int)) (b := (1 : Int)) rfl rfl (by omega)) rfl) rfl ?_)
                      refine RJ_op rfl (OJ_P (P_assign rfl) rfl ?_)
                      refine RJ_nil ?_
                      refine QJ_nextR ⟨n, x89, x90, (x91 + 1)⟩ (Nat.lt_succ_self _) ?_ (by repeat (first | exact Kp.base | exact Kp.self | refine Kp.cons rfl ?_ | refine Kp.forget rfl ?_)) ?_ (Ent.take del0 (Ent.take del0 (Ent.take del0 (Ent.take del0 (Ent.take del0 (Ent.take del0 (Ent.take del0 (Ent.take del0 Ent.refl))))))))
                      · exact h
                      · exact ⟨rfl, rfl, True.intro⟩
                  ·
                    replace h := ite_f hg14 h
                    refine CJ_exit ?_
                    refine QJ_then_exit ?_
                    refine QJ_round_exit ?_
                    refine QJ_block_here ?_
                    refine QJ_cutR (x90, x89) ?_ (by repeat (first | exact Kp.base | exact Kp.self | refine Kp.cons rfl ?_ | refine Kp.forget rfl ?_)) ?_ (Ent.take del0 (Ent.take del0 (Ent.take del0 (Ent.take del0 (Ent.take del0 (Ent.take del0 (Ent.take del0 (Ent.take del0 Ent.refl))))))))
                    · exact (Option.some.inj h).symm
                    · exact ⟨rfl, True.intro⟩
              ·
                rintro a88 hy92
                replace h := bindK_at hK84 hy92
                show CJ _ _ _ _ _ (([(17, .int .i64 (((a88.1 : Nat) : Int)))] : Slots) ++ forget _ _) (Arr X43 a88.2 :: _)
                refine CJ_seq ?_
                refine CJ_seq ?_
                refine CJ_region ?_
                refine RJ_op rfl (OJ_P (P_move rfl) rfl ?_)
                refine RJ_pure (fun h hh => DevP_dep h (stars_perm (del1 (A := DevP X43 r53 X55)).out h hh)) (fun hdp93 => ?_)
                obtain ⟨r94, hr95, h⟩ := bind_e h
                refine RJ_op rfl (O_callI rfl (dev_Flush hr95 hdp93) rfl (Dels.cons del1 (Dels.cons del0 Dels.nil)) rfl (fun _ _ => ?_))
                refine RJ_op rfl (OJ_P (P_move rfl) rfl ?_)
                refine RJ_op rfl (OJ_P (P_neq (a := r94.1) (b := ((a88.1 : Nat) : Int)) rfl rfl) rfl ?_)
                refine RJ_nil ?_
                refine QJ_then ?_
                refine CJ_condP rfl bT_dec (fun hg16 => ?_) (fun hg16 => ?_)
                ·
                  replace h := ite_t hg16 h
                  refine CJ_seq ?_
                  refine CJ_region ?_
                  refine RJ_op rfl (OJ_P (P_assign rfl) rfl ?_)
                  refine RJ_nil ?_
                  refine QJ_then ?_
                  refine CJ_ret ?_
                  refine QJ_then_ret ?_
                  have hE := Option.some.inj h
                  subst hE
                  refine QJ_end (res1 Try.results8 rfl) ?_
                  refine CSpec.close () ?_ ?_ (Ent.take del7 (Ent.drop (Ent.drop (Ent.drop (Ent.drop (Ent.drop (Ent.drop (Ent.drop Ent.refl))))))))
                  · rfl
                  · trivial
                ·
                  replace h := ite_f hg16 h
                  refine CJ_skip ?_
                  refine QJ_then ?_
                  refine CJ_seq ?_
                  refine CJ_region ?_
                  refine RJ_op rfl (OJ_P (P_move rfl) rfl ?_)
                  refine RJ_ent (fun h hh => sl_nil (t := tyB) h hh) ?_
                  obtain ⟨hg17, h⟩ := grd_Le h
                  refine RJ_op rfl (O_call (c_Restart (Reads.sl _ _ _) hg17) rfl Try.call35 (Dels.cons del2 (Dels.cons del0 Dels.nil)) rfl (fun _ _ => ?_))
                  refine RJ_nil ?_
                  refine QJ_then ?_
                  refine CJ_seq ?_
                  refine CJ_region ?_
                  refine RJ_op rfl (OJ_P (P_assign rfl) rfl ?_)
                  refine RJ_nil ?_
                  refine QJ_then ?_
                  refine CJ_seq ?_
                  refine CJ_seq ?_
                  refine CJ_region ?_
                  refine RJ_op rfl (OJ_P (P_assign rfl) rfl ?_)
                  refine RJ_nil ?_
                  refine QJ_then ?_
                  obtain ⟨y99, hl97, hK98⟩ := seq_e h
                  refine CJ_cutT (X := Unit) [6, 19, 20, 21, 22, 23, 134, 135, 136, 137, 138, 139, 140, 141, 142, 143, 144, 145, 146, 147, 148, 149, 150, 151, 152, 153, 154, 155, 156, 157, 158, 159, 160, 161, 162, 163, 164, 165, 166, 167, 168, 169, 170, 171, 172, 173, 174, 175, 176, 177, 178, 179, 180, 181, 182, 183, 184, 185, 186, 187, 188, 189, 190, 191, 192, 193, 194, 195, 196, 197, 198, 199, 200, 201] (fun _ => ([] : Slots)) (fun _ R => R) (fun _ => y99 = .inl ()) Dels.nil ?_ ?_
                  ·
                    refine CJ_block ?_
                    refine CJ_loopR (X := Nat × Nat × Nat) [6, 19, 20, 21, 22, 23, 134, 135, 136, 137, 138, 139, 140, 141, 142, 143, 144, 145, 146, 147, 148, 149, 150, 151, 152, 153, 154, 155, 156, 157, 158, 159, 160, 161, 162, 163, 164, 165, 166, 167, 168, 169, 170, 171, 172, 173, 174, 175, 176, 177, 178, 179, 180, 181, 182, 183, 184, 185, 186, 187, 188, 189, 190, 191, 192, 193, 194, 195, 196, 197, 198, 199, 200, 201] (fun ⟨n, x101, x102⟩ => ([(19, .int .i64 (((x101 : Nat) : Int))), (20, .int .i64 (((x102 : Nat) : Int)))] : Slots)) (fun ⟨n, x101, x102⟩ R => R) (fun ⟨n, x101, x102⟩ => volumegrouplaw05_BlockConcat_l4 missing v a15 r94 n x101 x102 = some y99) (fun ⟨n, x101, x102⟩ => n) ⟨FUEL, 0, 0⟩ ?_ ?_ (Ent.take del0 (Ent.take del0 (Ent.take del0 (Ent.take del0 (Ent.take del0 (Ent.take del0 (Ent.take del0 (Ent.take del0 (Ent.take del0 Ent.refl))))))))) ?_
                    · exact hl97
                    · exact ⟨rfl, rfl, True.intro⟩
                    ·
                      rintro ⟨n, x101, x102⟩ h
                      cases n with
                      | zero => exact none_e h
                      | succ n => ?_
                      replace h : volumegrouplaw05_BlockConcat_l4_b missing v a15 r94 (volumegrouplaw05_BlockConcat_l4 missing v a15 r94 n) x101 x102 = some y99 := h
                      unfold volumegrouplaw05_BlockConcat_l4_b at h
                      show CJ _ _ _ _ _ (([(19, .int .i64 (((x101 : Nat) : Int))), (20, .int .i64 (((x102 : Nat) : Int)))] : Slots) ++ forget _ _) (_)
                      refine CJ_seq ?_
                      refine CJ_seq ?_
                      refine CJ_region ?_
                      refine RJ_op rfl (OJ_P (P_move rfl) rfl ?_)
                      refine RJ_op rfl (OJ_P (P_move rfl) rfl ?_)
                      refine RJ_op rfl (OJ_V (VJ_eq (V_len rfl foc5 (Reads.sl _ _ _) Try.runUnderlying27) (congrArg (fun z : Nat => Value.int .i64 (z : Int)) (hdl39).symm)) rfl ?_)
                      refine RJ_op rfl (OJ_P (P_lss (a := ((x102 : Nat) : Int)) (b := ((a15.1.length : Nat) : Int)) rfl rfl) rfl ?_)
                      refine RJ_nil ?_
                      refine QJ_then ?_
                      refine CJ_condP rfl bT_dec (fun hg18 => ?_) (fun hg18 => ?_)
                      ·
                        replace h := ite_t hg18 h
                        refine CJ_skip ?_
                        refine QJ_then ?_
                        refine CJ_seq ?_
                        refine CJ_block ?_
                        refine CJ_seq ?_
                        refine CJ_region ?_
                        refine RJ_op rfl (OJ_P (P_move rfl) rfl ?_)
                        refine RJ_op rfl (OJ_P (P_move rfl) rfl ?_)
                        refine RJ_op rfl (O_call (c_ImageD) rfl Try.call19 (Dels.cons del0 Dels.nil) rfl (fun X103 _ => ?_))
                        refine RJ_pure (len_of (Reads.sl _ _ _) del0) (fun hlen105 => ?_)
                        refine RJ_op rfl (OJ_P (P_move rfl) rfl ?_)
                        refine RJ_op rfl (OJ_P (P_extract rfl rfl) rfl ?_)
                        refine RJ_op rfl (OJ_P (P_extract rfl rfl) rfl ?_)
                        refine RJ_op rfl (OJ_P (P_assign rfl) rfl ?_)
                        refine RJ_op rfl (OJ_P (P_assign rfl) rfl ?_)
                        refine RJ_nil ?_
                        refine QJ_then ?_
                        refine CJ_seq ?_
                        refine CJ_seq ?_
                        refine CJ_region ?_
                        refine RJ_op rfl (OJ_P (P_move rfl) rfl ?_)
                        refine RJ_op rfl (OJ_P (P_neq (a := (imC ((rsS r94.2 ([]))) (((x102 : Nat) : Int)))) (b := (0 : Int)) rfl rfl) rfl ?_)
                        refine RJ_op rfl (OJ_P (P_move rfl) rfl ?_)
                        refine RJ_mbF rfl rfl rfl (fun hG106 => have hP107 : ¬ ((imC ((rsS r94.2 ([]))) (((x102 : Nat) : Int))) ≠ (0 : Int)) := nP (bT_dec) hG106; VJ_P (P_move rfl)) ?_
                        refine RJ_mbF rfl rfl rfl (fun hG108 => have hP109 : ¬ ((imC ((rsS r94.2 ([]))) (((x102 : Nat) : Int))) ≠ (0 : Int)) := nP (bT_dec) hG108; V_len (mbx hG108 rfl) foc0 (Reads.sl _ _ _) Try.runUnderlying25) ?_
                        refine RJ_mbF rfl rfl rfl (fun hG110 => have hP111 : ¬ ((imC ((rsS r94.2 ([]))) (((x102 : Nat) : Int))) ≠ (0 : Int)) := nP (bT_dec) hG110; VJ_P (P_move rfl)) ?_
                        refine RJ_mbF rfl rfl rfl (fun hG112 => have hP113 : ¬ ((imC ((rsS r94.2 ([]))) (((x102 : Nat) : Int))) ≠ (0 : Int)) := nP (bT_dec) hG112; VJ_P (P_move rfl)) ?_
                        refine RJ_mbF rfl rfl rfl (fun hG114 => have hP115 : ¬ ((imC ((rsS r94.2 ([]))) (((x102 : Nat) : Int))) ≠ (0 : Int)) := nP (bT_dec) hG114; V_index (i := x102) (mbx hG114 rfl) (mbx hG114 rfl) rfl ((hdl39).symm ▸ (by omega)) foc6 (Reads.sl _ _ _) Try.runUnderlying27 Try.sizeOf25) ?_
                        refine RJ_mbF rfl rfl rfl (fun hG116 => have hP117 : ¬ ((imC ((rsS r94.2 ([]))) (((x102 : Nat) : Int))) ≠ (0 : Int)) := nP (bT_dec) hG116; V_loadE (mbx hG116 rfl) rfl ((hdl39).symm ▸ (by omega)) foc6 (Reads.sl _ _ _) rfl rfl Try.isAgg25) ?_
                        refine RJ_mbF rfl rfl rfl (fun hG118 => have hP119 : ¬ ((imC ((rsS r94.2 ([]))) (((x102 : Nat) : Int))) ≠ (0 : Int)) := nP (bT_dec) hG118; V_len (mbx hG118 rfl) foc7 ((RowsR.rs hdl39).2 _ (by omega)) Try.runUnderlying25) ?_
                        refine RJ_mbF rfl rfl rfl (fun hG120 => have hP121 : ¬ ((imC ((rsS r94.2 ([]))) (((x102 : Nat) : Int))) ≠ (0 : Int)) := nP (bT_dec) hG120; VJ_P (P_neq (a := ((((imL ((rsS r94.2 ([]))) (((x102 : Nat) : Int)))).length : Nat) : Int)) (b := (((a15.1.getD x102 []).length : Nat) : Int)) (mbx hG120 rfl) (mbx hG120 rfl))) ?_
                        refine RJ_op rfl (OJ_P (P_pickOr rfl rfl (fun hh => mbx (not_f hh) rfl)) rfl ?_)
                        refine RJ_nil ?_
                        refine QJ_then ?_
                        refine CJ_condP rfl (bT_or bT_dec bT_dec) (fun hg19 => ?_) (fun hg19 => ?_)
                        ·
                          replace h := ite_t hg19 h
                          refine CJ_seq ?_
                          refine CJ_region ?_
                          refine RJ_op rfl (OJ_P (P_assign rfl) rfl ?_)
                          refine RJ_nil ?_
                          refine QJ_then ?_
                          refine CJ_ret ?_
                          refine QJ_then_ret ?_
                          refine QJ_block_ret ?_
                          refine QJ_then_ret ?_
                          refine QJ_round_ret ?_
                          refine QJ_block_ret ?_
                          refine QJ_then_ret ?_
                          have hE := Option.some.inj h
                          replace hE := seq_inr hK98 hE.symm
                          subst hE
                          refine QJ_end (res1 Try.results8 rfl) ?_
                          refine CSpec.close () ?_ ?_ (Ent.take del9 (Ent.drop (Ent.drop (Ent.drop (Ent.drop (Ent.drop (Ent.drop (Ent.drop (Ent.drop (Ent.drop Ent.refl))))))))))
                          · rfl
                          · trivial
                        ·
                          replace h := ite_f hg19 h
                          refine CJ_skip ?_
                          refine QJ_then ?_
                          refine CJ_seq ?_
                          refine CJ_region ?_
                          refine RJ_op rfl (OJ_P (P_assign rfl) rfl ?_)
                          refine RJ_nil ?_
                          refine QJ_then ?_
                          obtain ⟨y124, hl122, hK123⟩ := seq_e h
                          refine CJ_cutQ (X := Nat) [6, 19, 23, 158, 159, 160, 161, 162, 163, 164, 165, 166, 167, 168, 169, 170, 171, 172, 173, 174, 175, 176, 177, 178, 179, 180, 181, 182, 183, 184, 185, 186, 187, 188, 189, 190, 191, 192, 193, 194, 195, 196, 197, 198, 199, 200, 201] (fun a126 => ([(19, .int .i64 (((a126 : Nat) : Int)))] : Slots)) (fun a126 R => R) (fun a126 => y124 = .inl a126) Dels.nil ?_ ?_
                          ·
                            refine CJ_block ?_
                            refine CJ_loopR (X := Nat × Nat × Nat) [6, 19, 23, 158, 159, 160, 161, 162, 163, 164, 165, 166, 167, 168, 169, 170, 171, 172, 173, 174, 175, 176, 177, 178, 179, 180, 181, 182, 183, 184, 185, 186, 187, 188, 189, 190, 191, 192, 193, 194, 195, 196, 197, 198, 199, 200, 201] (fun ⟨n, x127, x128⟩ => ([(19, .int .i64 (((x127 : Nat) : Int))), (23, .int .i64 (((x128 : Nat) : Int)))] : Slots)) (fun ⟨n, x127, x128⟩ R => R) (fun ⟨n, x127, x128⟩ => volumegrouplaw05_BlockConcat_l5 missing v a15 r94 x102 n x127 x128 = some y124) (fun ⟨n, x127, x128⟩ => n) ⟨FUEL, x101, 0⟩ ?_ ?_ (Ent.take del0 (Ent.take del0 (Ent.take del0 (Ent.take del0 (Ent.take del0 (Ent.take del0 (Ent.take del0 (Ent.take del0 (Ent.take del0 (Ent.take del0 Ent.refl)))))))))) ?_
                            · exact hl122
                            · exact ⟨rfl, rfl, True.intro⟩
                            ·
                              rintro ⟨n, x127, x128⟩ h
                              cases n with
                              | zero => exact none_e h
                              | succ n => ?_
                              replace h : volumegrouplaw05_BlockConcat_l5_b missing v a15 r94 x102 (volumegrouplaw05_BlockConcat_l5 missing v a15 r94 x102 n) x127 x128 = some y124 := h
                              unfold volumegrouplaw05_BlockConcat_l5_b at h
                              show CJ _ _ _ _ _ (([(19, .int .i64 (((x127 : Nat) : Int))), (23, .int .i64 (((x128 : Nat) : Int)))] : Slots) ++ forget _ _) (_)
                              refine CJ_seq ?_
                              refine CJ_seq ?_
                              refine CJ_region ?_
                              refine RJ_op rfl (OJ_P (P_move rfl) rfl ?_)
                              refine RJ_op rfl (OJ_P (P_move rfl) rfl ?_)
                              refine RJ_op rfl (OJ_V (V_len rfl foc0 (Reads.sl _ _ _) Try.runUnderlying25) rfl ?_)
                              refine RJ_op rfl (OJ_P (P_lss (a := ((x128 : Nat) : Int)) (b := ((((imL ((rsS r94.2 ([]))) (((x102 : Nat) : Int)))).length : Nat) : Int)) rfl rfl) rfl ?_)
                              refine RJ_nil ?_
                              refine QJ_then ?_
                              refine CJ_condP rfl bT_dec (fun hg20 => ?_) (fun hg20 => ?_)
                              ·
                                replace h := ite_t hg20 h
                                refine CJ_skip ?_
                                refine QJ_then ?_
                                refine CJ_seq ?_
                                refine CJ_block ?_
                                refine CJ_seq ?_
                                refine CJ_seq ?_
                                refine AJ_startH 0 (by kernel_rfl) rfl ?_
                                refine AJ_takeP 0 1 rfl (by kernel_rfl) rfl (GY_none rfl) (P_move rfl) rfl (fun _ _ _ _ h => h) ?_
                                refine AJ_takeP 1 3 rfl (by kernel_rfl) rfl (GY_none rfl) (P_move rfl) rfl (fun _ _ _ _ h => h) ?_
                                refine AJ_takeP 2 7 rfl (by kernel_rfl) rfl (GY_none rfl) (P_shr_u8 (a := missing) (m := x102) rfl rfl rfl) rfl (fun _ _ _ _ h => h) ?_
                                refine AJ_takeP 3 15 rfl (by kernel_rfl) rfl (GY_none rfl) (P_and_u8 (a := (shr_u8 missing x102)) (b := (1 : UInt8)) rfl rfl) rfl (fun _ _ _ _ h => h) ?_
                                refine AJ_takeP 4 31 rfl (by kernel_rfl) rfl (GY_none rfl) (P_eq_u8 (a := ((shr_u8 missing x102) &&& (1 : UInt8))) (b := (1 : UInt8)) rfl rfl) rfl (fun _ _ _ _ h => h) ?_
                                refine AJ_takeP 5 63 rfl (by kernel_rfl) rfl (GY_none rfl) (P_move rfl) rfl (fun _ _ _ _ h => h) ?_
                                refine AJ_splitP 169 rfl bT_dec (fun hg21B hg21 => ?_) (fun hg21B hg21 => ?_)
                                ·
                                  replace h := ite_t hg21 h
                                  refine AJ_takeP 6 127 rfl (by kernel_rfl) rfl (GY_yes rfl rfl rfl hg21B) (P_move rfl) rfl (fun _ _ _ _ h => h) ?_
                                  refine AJ_takeP 7 255 rfl (by kernel_rfl) rfl (GY_yes rfl rfl rfl hg21B) (P_move rfl) rfl (fun _ _ _ _ h => h) ?_
                                  refine AJ_takeV 8 511 rfl (by kernel_rfl) rfl (by kernel_rfl) (by kernel_rfl) (GY_yes rfl rfl rfl hg21B) (Ent.take del0 (Ent.take del0 (Ent.take del0 (Ent.take del0 (Ent.take del0 (Ent.take del0 (Ent.take del0 (Ent.take del0 (Ent.take del0 (Ent.take del0 Ent.refl)))))))))) (V_index (i := x128) rfl rfl rfl (by omega) foc0 (Reads.sl _ _ _) Try.runUnderlying25 Try.sizeOf22) rfl (fun _ _ _ _ h => h) ?_
                                  refine AJ_takeV 9 1023 rfl (by kernel_rfl) rfl (by kernel_rfl) (by kernel_rfl) (GY_yes rfl rfl rfl hg21B) (Ent.take del0 (Ent.take del0 (Ent.take del0 (Ent.take del0 (Ent.take del0 (Ent.take del0 (Ent.take del0 (Ent.take del0 (Ent.take del0 (Ent.take del0 Ent.refl)))))))))) (V_loadE rfl rfl (by omega) foc0 (Reads.sl _ _ _) rfl rfl Try.isAgg22) rfl (fun _ _ _ _ h => h) ?_
                                  refine AJ_takeP 10 2047 rfl (by kernel_rfl) rfl (GY_yes rfl rfl rfl hg21B) (P_move rfl) rfl (fun _ _ _ _ h => h) ?_
                                  refine AJ_takeP 11 4095 rfl (by kernel_rfl) rfl (GY_yes rfl rfl rfl hg21B) (P_move rfl) rfl (fun _ _ _ _ h => h) ?_
                                  obtain ⟨hg22, h⟩ := grd_de h
                                  refine AJ_takeV 12 8191 rfl (by kernel_rfl) rfl (by kernel_rfl) (by kernel_rfl) (GY_yes rfl rfl rfl hg21B) (Ent.take del0 (Ent.take del0 (Ent.take del0 (Ent.take del0 (Ent.take del0 (Ent.take del0 (Ent.take del0 (Ent.take del0 (Ent.take del0 (Ent.take del0 Ent.refl)))))))))) (V_index (i := x127) rfl rfl rfl hg22 foc8 (Reads.sl _ _ _) Try.runUnderlying25 Try.sizeOf22) rfl (fun _ _ _ _ h => h) ?_
                                  refine AJ_takeV 13 16383 rfl (by kernel_rfl) rfl (by kernel_rfl) (by kernel_rfl) (GY_yes rfl rfl rfl hg21B) (Ent.take del0 (Ent.take del0 (Ent.take del0 (Ent.take del0 (Ent.take del0 (Ent.take del0 (Ent.take del0 (Ent.take del0 (Ent.take del0 (Ent.take del0 Ent.refl)))))))))) (V_loadE rfl rfl hg22 foc8 (Reads.sl _ _ _) rfl rfl Try.isAgg22) rfl (fun _ _ _ _ h => h) ?_
                                  refine AJ_takeP 14 32767 rfl (by kernel_rfl) rfl (GY_yes rfl rfl rfl hg21B) (P_ne_u64 (a := (((imL ((rsS r94.2 ([]))) (((x102 : Nat) : Int)))).getD x128 0)) (b := (a15.2.getD x127 0)) rfl rfl) rfl (fun _ _ _ _ h => h) ?_
                                  refine AJ_takeP 15 65535 rfl (by kernel_rfl) rfl (GY_none rfl) (P_pickT rfl hg21B rfl) rfl (fun _ _ _ _ h => h) ?_
                                  refine AJ_takeP 16 131071 rfl (by kernel_rfl) rfl (GY_none rfl) (P_move rfl) rfl (fun _ _ _ _ h => h) ?_
                                  refine AJ_splitP 180 rfl bT_dec (fun hg23B hg23 => ?_) (fun hg23B hg23 => ?_)
                                  ·
                                    replace h := ite_t hg23 h
                                    refine AJ_skip 17 262143 rfl (by kernel_rfl) rfl (GY_no rfl rfl rfl hg23B) rfl (fun _ _ _ _ h => h) ?_
                                    refine AJ_skip 18 524287 rfl (by kernel_rfl) rfl (GY_no rfl rfl rfl hg23B) rfl (fun _ _ _ _ h => h) ?_
                                    refine AJ_skip 19 1048575 rfl (by kernel_rfl) rfl (GY_no rfl rfl rfl hg23B) rfl (fun _ _ _ _ h => h) ?_
                                    refine AJ_skip 20 2097151 rfl (by kernel_rfl) rfl (GY_no rfl rfl rfl hg23B) rfl (fun _ _ _ _ h => h) ?_
                                    refine AJ_skip 21 4194303 rfl (by kernel_rfl) rfl (GY_no rfl rfl rfl hg23B) rfl (fun _ _ _ _ h => h) ?_
                                    refine AJ_skip 22 8388607 rfl (by kernel_rfl) rfl (GY_no rfl rfl rfl hg23B) rfl (fun _ _ _ _ h => h) ?_
                                    refine AJ_skip 23 16777215 rfl (by kernel_rfl) rfl (GY_undef rfl rfl rfl) rfl (fun _ _ _ _ h => h) ?_
                                    refine AJ_skip 24 33554431 rfl (by kernel_rfl) rfl (GY_undef rfl rfl rfl) rfl (fun _ _ _ _ h => h) ?_
                                    refine AJ_skip 25 67108863 rfl (by kernel_rfl) rfl (GY_undef rfl rfl rfl) rfl (fun _ _ _ _ h => h) ?_
                                    refine AJ_skip 26 134217727 rfl (by kernel_rfl) rfl (GY_undef rfl rfl rfl) rfl (fun _ _ _ _ h => h) ?_
                                    refine AJ_skip 27 268435455 rfl (by kernel_rfl) rfl (GY_undef rfl rfl rfl) rfl (fun _ _ _ _ h => h) ?_
                                    refine AJ_skip 28 536870911 rfl (by kernel_rfl) rfl (GY_undef rfl rfl rfl) rfl (fun _ _ _ _ h => h) ?_
                                    refine AJ_skip 29 1073741823 rfl (by kernel_rfl) rfl (GY_undef rfl rfl rfl) rfl (fun _ _ _ _ h => h) ?_
                                    refine AJ_skip 30 2147483647 rfl (by kernel_rfl) rfl (GY_undef rfl rfl rfl) rfl (fun _ _ _ _ h => h) ?_
                                    refine AJ_skip 31 4294967295 rfl (by kernel_rfl) rfl (GY_undef rfl rfl rfl) rfl (fun _ _ _ _ h => h) ?_
                                    refine AJ_skip 32 8589934591 rfl (by kernel_rfl) rfl (GY_undef rfl rfl rfl) rfl (fun _ _ _ _ h => h) ?_
                                    refine AJ_skip 33 17179869183 rfl (by kernel_rfl) rfl (GY_undef rfl rfl rfl) rfl (fun _ _ _ _ h => h) ?_
                                    refine AJ_skip 34 34359738367 rfl (by kernel_rfl) rfl (GY_no rfl rfl rfl hg23B) rfl (fun _ _ _ _ h => h) ?_
                                    refine AJ_takeP 35 68719476735 rfl (by kernel_rfl) rfl (GY_none rfl) (P_pickT rfl hg23B rfl) rfl (fun _ _ _ _ h => h) ?_
                                    refine AJ_done (by kernel_rfl) ?_
                                    refine QJ_then ?_
                                    refine CJ_condT rfl rfl ?_
                                    refine CJ_seq ?_
                                    refine CJ_region ?_
                                    refine RJ_op rfl (OJ_P (P_assign rfl) rfl ?_)
                                    refine RJ_nil ?_
                                    refine QJ_then ?_
                                    refine CJ_ret ?_
                                    refine QJ_then_ret ?_
                                    refine QJ_block_ret ?_
                                    refine QJ_then_ret ?_
                                    refine QJ_round_ret ?_
                                    refine QJ_block_ret ?_
                                    refine QJ_then_ret ?_
                                    refine QJ_block_ret ?_
                                    refine QJ_then_ret ?_
                                    refine QJ_round_ret ?_
                                    refine QJ_block_ret ?_
                                    refine QJ_then_ret ?_
                                    have hE := Option.some.inj h
                                    replace hE := seq_inr hK123 hE.symm
                                    replace hE := seq_inr hK98 hE.symm
                                    subst hE
                                    refine QJ_end (res1 Try.results8 rfl) ?_
                                    refine CSpec.close () ?_ ?_ (Ent.take del9 (Ent.drop (Ent.drop (Ent.drop (Ent.drop (Ent.drop (Ent.drop (Ent.drop (Ent.drop (Ent.drop Ent.refl))))))))))
                                    · rfl
                                    · trivial
                                  ·
                                    replace h := ite_f hg23 h
                                    refine AJ_takeP 17 262143 rfl (by kernel_rfl) rfl (GY_yes rfl rfl rfl hg23B) (P_move rfl) rfl (fun _ _ _ _ h => h) ?_
                                    refine AJ_takeP 18 524287 rfl (by kernel_rfl) rfl (GY_yes rfl rfl rfl hg23B) (P_move rfl) rfl (fun _ _ _ _ h => h) ?_
                                    refine AJ_takeP 19 1048575 rfl (by kernel_rfl) rfl (GY_yes rfl rfl rfl hg23B) (P_shr_u8 (a := missing) (m := x102) rfl rfl rfl) rfl (fun _ _ _ _ h => h) ?_
                                    refine AJ_takeP 20 2097151 rfl (by kernel_rfl) rfl (GY_yes rfl rfl rfl hg23B) (P_and_u8 (a := (shr_u8 missing x102)) (b := (1 : UInt8)) rfl rfl) rfl (fun _ _ _ _ h => h) ?_
                                    refine AJ_takeP 21 4194303 rfl (by kernel_rfl) rfl (GY_yes rfl rfl rfl hg23B) (P_eq_u8 (a := ((shr_u8 missing x102) &&& (1 : UInt8))) (b := (0 : UInt8)) rfl rfl) rfl (fun _ _ _ _ h => h) ?_
                                    refine AJ_takeP 22 8388607 rfl (by kernel_rfl) rfl (GY_yes rfl rfl rfl hg23B) (P_move rfl) rfl (fun _ _ _ _ h => h) ?_
                                    refine AJ_splitP 186 rfl bT_dec (fun hg24B hg24 => ?_) (fun hg24B hg24 => ?_)
                                    ·
                                      replace h := ite_t hg24 h
                                      refine AJ_takeP 23 16777215 rfl (by kernel_rfl) rfl (GY_yes rfl rfl rfl hg24B) (P_move rfl) rfl (fun _ _ _ _ h => h) ?_
                                      refine AJ_takeP 24 33554431 rfl (by kernel_rfl) rfl (GY_yes rfl rfl rfl hg24B) (P_move rfl) rfl (fun _ _ _ _ h => h) ?_
                                      refine AJ_takeV 25 67108863 rfl (by kernel_rfl) rfl (by kernel_rfl) (by kernel_rfl) (GY_yes rfl rfl rfl hg24B) (Ent.take del0 (Ent.take del0 (Ent.take del0 (Ent.take del0 (Ent.take del0 (Ent.take del0 (Ent.take del0 (Ent.take del0 (Ent.take del0 (Ent.take del0 Ent.refl)))))))))) (V_index (i := x128) rfl rfl rfl (by omega) foc0 (Reads.sl _ _ _) Try.runUnderlying25 Try.sizeOf22) rfl (fun _ _ _ _ h => h) ?_
                                      refine AJ_takeV 26 134217727 rfl (by kernel_rfl) rfl (by kernel_rfl) (by kernel_rfl) (GY_yes rfl rfl rfl hg24B) (Ent.take del0 (Ent.take del0 (Ent.take del0 (Ent.take del0 (Ent.take del0 (Ent.take del0 (Ent.take del0 (Ent.take del0 (Ent.take del0 (Ent.take del0 Ent.refl)))))))))) (V_loadE rfl rfl (by omega) foc0 (Reads.sl _ _ _) rfl rfl Try.isAgg22) rfl (fun _ _ _ _ h => h) ?_
                                      refine AJ_takeP 27 268435455 rfl (by kernel_rfl) rfl (GY_yes rfl rfl rfl hg24B) (P_move rfl) rfl (fun _ _ _ _ h => h) ?_
                                      refine AJ_takeP 28 536870911 rfl (by kernel_rfl) rfl (GY_yes rfl rfl rfl hg24B) (P_move rfl) rfl (fun _ _ _ _ h => h) ?_
                                      obtain ⟨hg25, h⟩ := grd_de h
                                      refine AJ_takeV 29 1073741823 rfl (by kernel_rfl) rfl (by kernel_rfl) (by kernel_rfl) (GY_yes rfl rfl rfl hg24B) (Ent.take del0 (Ent.take del0 (Ent.take del0 (Ent.take del0 (Ent.take del0 (Ent.take del0 (Ent.take del0 (Ent.take del0 (Ent.take del0 (Ent.take del0 Ent.refl)))))))))) (V_index (i := x127) rfl rfl rfl hg25 foc8 (Reads.sl _ _ _) Try.runUnderlying25 Try.sizeOf22) rfl (fun _ _ _ _ h => h) ?_
                                      refine AJ_takeV 30 2147483647 rfl (by kernel_rfl) rfl (by kernel_rfl) (by kernel_rfl) (GY_yes rfl rfl rfl hg24B) (Ent.take del0 (Ent.take del0 (Ent.take del0 (Ent.take del0 (Ent.take del0 (Ent.take del0 (Ent.take del0 (Ent.take del0 (Ent.take del0 (Ent.take del0 Ent.refl)))))))))) (V_loadE rfl rfl hg25 foc8 (Reads.sl _ _ _) rfl rfl Try.isAgg22) rfl (fun _ _ _ _ h => h) ?_
                                      refine AJ_takeP 31 4294967295 rfl (by kernel_rfl) rfl (GY_yes rfl rfl rfl hg24B) (P_move rfl) rfl (fun _ _ _ _ h => h) ?_
                                      refine AJ_takeP 32 8589934591 rfl (by kernel_rfl) rfl (GY_yes rfl rfl rfl hg24B) (P_xor_u64 (a := (a15.2.getD x127 0)) (b := v) rfl rfl) rfl (fun _ _ _ _ h => h) ?_
                                      refine AJ_takeP 33 17179869183 rfl (by kernel_rfl) rfl (GY_yes rfl rfl rfl hg24B) (P_ne_u64 (a := (((imL ((rsS r94.2 ([]))) (((x102 : Nat) : Int)))).getD x128 0)) (b := ((a15.2.getD x127 0) ^^^ v)) rfl rfl) rfl (fun _ _ _ _ h => h) ?_
                                      refine AJ_takeP 34 34359738367 rfl (by kernel_rfl) rfl (GY_yes rfl rfl rfl hg23B) (P_pickT rfl hg24B rfl) rfl (fun _ _ _ _ h => h) ?_
                                      refine AJ_takeP 35 68719476735 rfl (by kernel_rfl) rfl (GY_none rfl) (P_pickF rfl hg23B rfl) rfl (fun _ _ _ _ h => h) ?_
                                      refine AJ_done (by kernel_rfl) ?_
                                      refine QJ_then ?_
                                      refine CJ_condP rfl bT_dec (fun hg26 => ?_) (fun hg26 => ?_)
                                      ·
                                        replace h := ite_t hg26 h
                                        refine CJ_seq ?_
                                        refine CJ_region ?_
                                        refine RJ_op rfl (OJ_P (P_assign rfl) rfl ?_)
                                        refine RJ_nil ?_
                                        refine QJ_then ?_
                                        refine CJ_ret ?_
                                        refine QJ_then_ret ?_
                                        refine QJ_block_ret ?_
                                        refine QJ_then_ret ?_
                                        refine QJ_round_ret ?_
                                        refine QJ_block_ret ?_
                                        refine QJ_then_ret ?_
                                        refine QJ_block_ret ?_
                                        refine QJ_then_ret ?_
                                        refine QJ_round_ret ?_
                                        refine QJ_block_ret ?_
                                        refine QJ_then_ret ?_
                                        have hE := Option.some.inj h
                                        replace hE := seq_inr hK123 hE.symm
                                        replace hE := seq_inr hK98 hE.symm
                                        subst hE
                                        refine QJ_end (res1 Try.results8 rfl) ?_
                                        refine CSpec.close () ?_ ?_ (Ent.take del9 (Ent.drop (Ent.drop (Ent.drop (Ent.drop (Ent.drop (Ent.drop (Ent.drop (Ent.drop (Ent.drop Ent.refl))))))))))
                                        · rfl
                                        · trivial
                                      ·
                                        replace h := ite_f hg26 h
                                        refine CJ_skip ?_
                                        refine QJ_then ?_
                                        refine CJ_region ?_
                                        refine RJ_op rfl (OJ_P (P_move rfl) rfl ?_)
                                        obtain ⟨hg27, h⟩ := grd_Ne h
                                        refine RJ_op rfl (OJ_P (PJ_eq (P_add (a := ((x127 : Nat) : Int)) (b := (1 : Int)) rfl rfl (nat_in hg27)) rfl) rfl ?_)
                                        refine RJ_op rfl (OJ_P (P_assign rfl) rfl ?_)
                                        refine RJ_nil ?_
                                        refine QJ_block_normal ?_
                                        refine QJ_then ?_
                                        refine CJ_region ?_
                                        refine RJ_op rfl (OJ_P (P_move rfl) rfl ?_)
                                        refine RJ_op rfl (OJ_P (PJ_eq (P_add (a := ((x128 : Nat) : Int)) (b := (1 : Int)) rfl rfl (by omega)) rfl) rfl ?_)
                                        refine RJ_op rfl (OJ_P (P_assign rfl) rfl ?_)
                                        refine RJ_nil ?_
                                        refine QJ_nextR ⟨n, (x127 + 1), (x128 + 1)⟩ (Nat.lt_succ_self _) ?_ (by repeat (first | exact Kp.base | exact Kp.self | refine Kp.cons rfl ?_ | refine Kp.forget rfl ?_)) ?_ (Ent.take del0 (Ent.take del0 (Ent.take del0 (Ent.take del0 (Ent.take del0 (Ent.take del0 (Ent.take del0 (Ent.take del0 (Ent.take del0 (Ent.take del0 Ent.refl))))))))))
                                        · exact h
                                        · exact ⟨rfl, rfl, True.intro⟩
                                    ·
                                      replace h := ite_f hg24 h
                                      refine AJ_skip 23 16777215 rfl (by kernel_rfl) rfl (GY_no rfl rfl rfl hg24B) rfl (fun _ _ _ _ h => h) ?_
                                      refine AJ_skip 24 33554431 rfl (by kernel_rfl) rfl (GY_no rfl rfl rfl hg24B) rfl (fun _ _ _ _ h => h) ?_
                                      refine AJ_skip 25 67108863 rfl (by kernel_rfl) rfl (GY_no rfl rfl rfl hg24B) rfl (fun _ _ _ _ h => h) ?_
                                      refine AJ_skip 26 134217727 rfl (by kernel_rfl) rfl (GY_no rfl rfl rfl hg24B) rfl (fun _ _ _ _ h => h) ?_
                                      refine AJ_skip 27 268435455 rfl (by kernel_rfl) rfl (GY_no rfl rfl rfl hg24B) rfl (fun _ _ _ _ h => h) ?_
                                      refine AJ_skip 28 536870911 rfl (by kernel_rfl) rfl (GY_no rfl rfl rfl hg24B) rfl (fun _ _ _ _ h => h) ?_
                                      refine AJ_skip 29 1073741823 rfl (by kernel_rfl) rfl (GY_no rfl rfl rfl hg24B) rfl (fun _ _ _ _ h => h) ?_
                                      refine AJ_skip 30 2147483647 rfl (by kernel_rfl) rfl (GY_no rfl rfl rfl hg24B) rfl (fun _ _ _ _ h => h) ?_
                                      refine AJ_skip 31 4294967295 rfl (by kernel_rfl) rfl (GY_no rfl rfl rfl hg24B) rfl (fun _ _ _ _ h => h) ?_
                                      refine AJ_skip 32 8589934591 rfl (by kernel_rfl) rfl (GY_no rfl rfl rfl hg24B) rfl (fun _ _ _ _ h => h) ?_
                                      refine AJ_skip 33 17179869183 rfl (by kernel_rfl) rfl (GY_no rfl rfl rfl hg24B) rfl (fun _ _ _ _ h => h) ?_
                                      refine AJ_takeP 34 34359738367 rfl (by kernel_rfl) rfl (GY_yes rfl rfl rfl hg23B) (P_pickF rfl hg24B rfl) rfl (fun _ _ _ _ h => h) ?_
                                      refine AJ_takeP 35 68719476735 rfl (by kernel_rfl) rfl (GY_none rfl) (P_pickF rfl hg23B rfl) rfl (fun _ _ _ _ h => h) ?_
                                      refine AJ_done (by kernel_rfl) ?_
                                      refine QJ_then ?_
                                      refine CJ_condF rfl rfl ?_
                                      refine CJ_skip ?_
                                      refine QJ_then ?_
                                      refine CJ_region ?_
                                      refine RJ_op rfl (OJ_P (P_move rfl) rfl ?_)
                                      obtain ⟨hg28, h⟩ := grd_Ne h
                                      refine RJ_op rfl (OJ_P (PJ_eq (P_add (a := ((x127 : Nat) : Int)) (b := (1 : Int)) rfl rfl (nat_in hg28)) rfl) rfl ?_)
                                      refine RJ_op rfl (OJ_P (P_assign rfl) rfl ?_)
                                      refine RJ_nil ?_
                                      refine QJ_block_normal ?_
                                      refine QJ_then ?_
                                      refine CJ_region ?_
                                      refine RJ_op rfl (OJ_P (P_move rfl) rfl ?_)
                                      refine RJ_op rfl (OJ_P (PJ_eq (P_add (a := ((x128 : Nat) : Int)) (b := (1 : Int)) rfl rfl (by omega)) rfl) rfl ?_)
                                      refine RJ_op rfl (OJ_P (P_assign rfl) rfl ?_)
                                      refine RJ_nil ?_
                                      refine QJ_nextR ⟨n, (x127 + 1), (x128 + 1)⟩ (Nat.lt_succ_self _) ?_ (by repeat (first | exact Kp.base | exact Kp.self | refine Kp.cons rfl ?_ | refine Kp.forget rfl ?_)) ?_ (Ent.take del0 (Ent.take del0 (Ent.take del0 (Ent.take del0 (Ent.take del0 (Ent.take del0 (Ent.take del0 (Ent.take del0 (Ent.take del0 (Ent.take del0 Ent.refl))))))))))
                                      · exact h
                                      · exact ⟨rfl, rfl, True.intro⟩
                                ·
                                  replace h := ite_f hg21 h
                                  refine AJ_skip 6 127 rfl (by kernel_rfl) rfl (GY_no rfl rfl rfl hg21B) rfl (fun _ _ _ _ h => h) ?_
                                  refine AJ_skip 7 255 rfl (by kernel_rfl) rfl (GY_no rfl rfl rfl hg21B) rfl (fun _ _ _ _ h => h) ?_
                                  refine AJ_skip 8 511 rfl (by kernel_rfl) rfl (GY_no rfl rfl rfl hg21B) rfl (fun _ _ _ _ h => h) ?_
                                  refine AJ_skip 9 1023 rfl (by kernel_rfl) rfl (GY_no rfl rfl rfl hg21B) rfl (fun _ _ _ _ h => h) ?_
                                  refine AJ_skip 10 2047 rfl (by kernel_rfl) rfl (GY_no rfl rfl rfl hg21B) rfl (fun _ _ _ _ h => h) ?_
                                  refine AJ_skip 11 4095 rfl (by kernel_rfl) rfl (GY_no rfl rfl rfl hg21B) rfl (fun _ _ _ _ h => h) ?_
                                  refine AJ_skip 12 8191 rfl (by kernel_rfl) rfl (GY_no rfl rfl rfl hg21B) rfl (fun _ _ _ _ h => h) ?_
                                  refine AJ_skip 13 16383 rfl (by kernel_rfl) rfl (GY_no rfl rfl rfl hg21B) rfl (fun _ _ _ _ h => h) ?_
                                  refine AJ_skip 14 32767 rfl (by kernel_rfl) rfl (GY_no rfl rfl rfl hg21B) rfl (fun _ _ _ _ h => h) ?_
                                  refine AJ_takeP 15 65535 rfl (by kernel_rfl) rfl (GY_none rfl) (P_pickF rfl hg21B rfl) rfl (fun _ _ _ _ h => h) ?_
                                  refine AJ_takeP 16 131071 rfl (by kernel_rfl) rfl (GY_none rfl) (P_move rfl) rfl (fun _ _ _ _ h => h) ?_
                                  refine AJ_splitP 180 rfl Iff.rfl (fun hg29B hg29 => ?_) (fun hg29B hg29 => ?_)
                                  ·
                                    replace h := ite_t hg29 h
                                    refine AJ_skip 17 262143 rfl (by kernel_rfl) rfl (GY_no rfl rfl rfl hg29B) rfl (fun _ _ _ _ h => h) ?_
                                    refine AJ_skip 18 524287 rfl (by kernel_rfl) rfl (GY_no rfl rfl rfl hg29B) rfl (fun _ _ _ _ h => h) ?_
                                    refine AJ_skip 19 1048575 rfl (by kernel_rfl) rfl (GY_no rfl rfl rfl hg29B) rfl (fun _ _ _ _ h => h) ?_
                                    refine AJ_skip 20 2097151 rfl (by kernel_rfl) rfl (GY_no rfl rfl rfl hg29B) rfl (fun _ _ _ _ h => h) ?_
                                    refine AJ_skip 21 4194303 rfl (by kernel_rfl) rfl (GY_no rfl rfl rfl hg29B) rfl (fun _ _ _ _ h => h) ?_
                                    refine AJ_skip 22 8388607 rfl (by kernel_rfl) rfl (GY_no rfl rfl rfl hg29B) rfl (fun _ _ _ _ h => h) ?_
                                    refine AJ_skip 23 16777215 rfl (by kernel_rfl) rfl (GY_undef rfl rfl rfl) rfl (fun _ _ _ _ h => h) ?_
                                    refine AJ_skip 24 33554431 rfl (by kernel_rfl) rfl (GY_undef rfl rfl rfl) rfl (fun _ _ _ _ h => h) ?_
                                    refine AJ_skip 25 67108863 rfl (by kernel_rfl) rfl (GY_undef rfl rfl rfl) rfl (fun _ _ _ _ h => h) ?_
                                    refine AJ_skip 26 134217727 rfl (by kernel_rfl) rfl (GY_undef rfl rfl rfl) rfl (fun _ _ _ _ h => h) ?_
                                    refine AJ_skip 27 268435455 rfl (by kernel_rfl) rfl (GY_undef rfl rfl rfl) rfl (fun _ _ _ _ h => h) ?_
                                    refine AJ_skip 28 536870911 rfl (by kernel_rfl) rfl (GY_undef rfl rfl rfl) rfl (fun _ _ _ _ h => h) ?_
                                    refine AJ_skip 29 1073741823 rfl (by kernel_rfl) rfl (GY_undef rfl rfl rfl) rfl (fun _ _ _ _ h => h) ?_
                                    refine AJ_skip 30 2147483647 rfl (by kernel_rfl) rfl (GY_undef rfl rfl rfl) rfl (fun _ _ _ _ h => h) ?_
                                    refine AJ_skip 31 4294967295 rfl (by kernel_rfl) rfl (GY_undef rfl rfl rfl) rfl (fun _ _ _ _ h => h) ?_
                                    refine AJ_skip 32 8589934591 rfl (by kernel_rfl) rfl (GY_undef rfl rfl rfl) rfl (fun _ _ _ _ h => h) ?_
                                    refine AJ_skip 33 17179869183 rfl (by kernel_rfl) rfl (GY_undef rfl rfl rfl) rfl (fun _ _ _ _ h => h) ?_
                                    refine AJ_skip 34 34359738367 rfl (by kernel_rfl) rfl (GY_no rfl rfl rfl hg29B) rfl (fun _ _ _ _ h => h) ?_
                                    refine AJ_takeP 35 68719476735 rfl (by kernel_rfl) rfl (GY_none rfl) (P_pickT rfl hg29B rfl) rfl (fun _ _ _ _ h => h) ?_
                                    refine AJ_done (by kernel_rfl) ?_
                                    refine QJ_then ?_
                                    refine CJ_condT rfl rfl ?_
                                    refine CJ_seq ?_
                                    refine CJ_region ?_
                                    refine RJ_op rfl (OJ_P (P_assign rfl) rfl ?_)
                                    refine RJ_nil ?_
                                    refine QJ_then ?_
                                    refine CJ_ret ?_
                                    refine QJ_then_ret ?_
                                    refine QJ_block_ret ?_
                                    refine QJ_then_ret ?_
                                    refine QJ_round_ret ?_
                                    refine QJ_block_ret ?_
                                    refine QJ_then_ret ?_
                                    refine QJ_block_ret ?_
                                    refine QJ_then_ret ?_
                                    refine QJ_round_ret ?_
                                    refine QJ_block_ret ?_
                                    refine QJ_then_ret ?_
                                    have hE := Option.some.inj h
                                    replace hE := seq_inr hK123 hE.symm
                                    replace hE := seq_inr hK98 hE.symm
                                    subst hE
                                    refine QJ_end (res1 Try.results8 rfl) ?_
                                    refine CSpec.close () ?_ ?_ (Ent.take del9 (Ent.drop (Ent.drop (Ent.drop (Ent.drop (Ent.drop (Ent.drop (Ent.drop (Ent.drop (Ent.drop Ent.refl))))))))))
                                    · rfl
                                    · trivial
                                  ·
                                    replace h := ite_f hg29 h
                                    refine AJ_takeP 17 262143 rfl (by kernel_rfl) rfl (GY_yes rfl rfl rfl hg29B) (P_move rfl) rfl (fun _ _ _ _ h => h) ?_
                                    refine AJ_takeP 18 524287 rfl (by kernel_rfl) rfl (GY_yes rfl rfl rfl hg29B) (P_move rfl) rfl (fun _ _ _ _ h => h) ?_
                                    refine AJ_takeP 19 1048575 rfl (by kernel_rfl) rfl (GY_yes rfl rfl rfl hg29B) (P_shr_u8 (a := missing) (m := x102) rfl rfl rfl) rfl (fun _ _ _ _ h => h) ?_
                                    refine AJ_takeP 20 2097151 rfl (by kernel_rfl) rfl (GY_yes rfl rfl rfl hg29B) (P_and_u8 (a := (shr_u8 missing x102)) (b := (1 : UInt8)) rfl rfl) rfl (fun _ _ _ _ h => h) ?_
                                    refine AJ_takeP 21 4194303 rfl (by kernel_rfl) rfl (GY_yes rfl rfl rfl hg29B) (P_eq_u8 (a := ((shr_u8 missing x102) &&& (1 : UInt8))) (b := (0 : UInt8)) rfl rfl) rfl (fun _ _ _ _ h => h) ?_
                                    refine AJ_takeP 22 8388607 rfl (by kernel_rfl) rfl (GY_yes rfl rfl rfl hg29B) (P_move rfl) rfl (fun _ _ _ _ h => h) ?_
                                    refine AJ_splitP 186 rfl bT_dec (fun hg30B hg30 => ?_) (fun hg30B hg30 => ?_)
                                    ·
                                      replace h := ite_t hg30 h
                                      refine AJ_takeP 23 16777215 rfl (by kernel_rfl) rfl (GY_yes rfl rfl rfl hg30B) (P_move rfl) rfl (fun _ _ _ _ h => h) ?_
                                      refine AJ_takeP 24 33554431 rfl (by kernel_rfl) rfl (GY_yes rfl rfl rfl hg30B) (P_move rfl) rfl (fun _ _ _ _ h => h) ?_
                                      refine AJ_takeV 25 67108863 rfl (by kernel_rfl) rfl (by kernel_rfl) (by kernel_rfl) (GY_yes rfl rfl rfl hg30B) (Ent.take del0 (Ent.take del0 (Ent.take del0 (Ent.take del0 (Ent.take del0 (Ent.take del0 (Ent.take del0 (Ent.take del0 (Ent.take del0 (Ent.take del0 Ent.refl)))))))))) (V_index (i := x128) rfl rfl rfl (by omega) foc0 (Reads.sl _ _ _) Try.runUnderlying25 Try.sizeOf22) rfl (fun _ _ _ _ h => h) ?_
                                      refine AJ_takeV 26 134217727 rfl (by kernel_rfl) rfl (by kernel_rfl) (by kernel_rfl) (GY_yes rfl rfl rfl hg30B) (Ent.take del0 (Ent.take del0 (Ent.take del0 (Ent.take del0 (Ent.take del0 (Ent.take del0 (Ent.take del0 (Ent.take del0 (Ent.take del0 (Ent.take del0 Ent.refl)))))))))) (V_loadE rfl rfl (by omega) foc0 (Reads.sl _ _ _) rfl rfl Try.isAgg22) rfl (fun _ _ _ _ h => h) ?_
                                      refine AJ_takeP 27 268435455 rfl (by kernel_rfl) rfl (GY_yes rfl rfl rfl hg30B) (P_move rfl) rfl (fun _ _ _ _ h => h) ?_
                                      refine AJ_takeP 28 536870911 rfl (by kernel_rfl) rfl (GY_yes rfl rfl rfl hg30B) (P_move rfl) rfl (fun _ _ _ _ h => h) ?_
                                      obtain ⟨hg31, h⟩ := grd_de h
                                      refine AJ_takeV 29 1073741823 rfl (by kernel_rfl) rfl (by kernel_rfl) (by kernel_rfl) (GY_yes rfl rfl rfl hg30B) (Ent.take del0 (Ent.take del0 (Ent.take del0 (Ent.take del0 (Ent.take del0 (Ent.take del0 (Ent.take del0 (Ent.take del0 (Ent.take del0 (Ent.take del0 Ent.refl)))))))))) (V_index (i := x127) rfl rfl rfl hg31 foc8 (Reads.sl _ _ _) Try.runUnderlying25 Try.sizeOf22) rfl (fun _ _ _ _ h => h) ?_
                                      refine AJ_takeV 30 2147483647 rfl (by kernel_rfl) rfl (by kernel_rfl) (by kernel_rfl) (GY_yes rfl rfl rfl hg30B) (Ent.take del0 (Ent.take del0 (Ent.take del0 (Ent.take del0 (Ent.take del0 (Ent.take del0 (Ent.take del0 (Ent.take del0 (Ent.take del0 (Ent.take del0 Ent.refl)))))))))) (V_loadE rfl rfl hg31 foc8 (Reads.sl _ _ _) rfl rfl Try.isAgg22) rfl (fun _ _ _ _ h => h) ?_
                                      refine AJ_takeP 31 4294967295 rfl (by kernel_rfl) rfl (GY_yes rfl rfl rfl hg30B) (P_move rfl) rfl (fun _ _ _ _ h => h) ?_
                                      refine AJ_takeP 32 8589934591 rfl (by kernel_rfl) rfl (GY_yes rfl rfl rfl hg30B) (P_xor_u64 (a := (a15.2.getD x127 0)) (b := v) rfl rfl) rfl (fun _ _ _ _ h => h) ?_
                                      refine AJ_takeP 33 17179869183 rfl (by kernel_rfl) rfl (GY_yes rfl rfl rfl hg30B) (P_ne_u64 (a := (((imL ((rsS r94.2 ([]))) (((x102 : Nat) : Int)))).getD x128 0)) (b := ((a15.2.getD x127 0) ^^^ v)) rfl rfl) rfl (fun _ _ _ _ h => h) ?_
                                      refine AJ_takeP 34 34359738367 rfl (by kernel_rfl) rfl (GY_yes rfl rfl rfl hg29B) (P_pickT rfl hg30B rfl) rfl (fun _ _ _ _ h => h) ?_
                                      refine AJ_takeP 35 68719476735 rfl (by kernel_rfl) rfl (GY_none rfl) (P_pickF rfl hg29B rfl) rfl (fun _ _ _ _ h => h) ?_
                                      refine AJ_done (by kernel_rfl) ?_
                                      refine QJ_then ?_
                                      refine CJ_condP rfl bT_dec (fun hg32 => ?_) (fun hg32 => ?_)
                                      ·
                                        replace h := ite_t hg32 h
                                        refine CJ_seq ?_
                                        refine CJ_region ?_
                                        refine RJ_op rfl (OJ_P (P_assign rfl) rfl ?_)
                                        refine RJ_nil ?_
                                        refine QJ_then ?_
                                        refine CJ_ret ?_
                                        refine QJ_then_ret ?_
                                        refine QJ_block_ret ?_
                                        refine QJ_then_ret ?_
                                        refine QJ_round_ret ?_
                                        refine QJ_block_ret ?_
                                        refine QJ_then_ret ?_
                                        refine QJ_block_ret ?_
                                        refine QJ_then_ret ?_
                                        refine QJ_round_ret ?_
                                        refine QJ_block_ret ?_
                                        refine QJ_then_ret ?_
                                        have hE := Option.some.inj h
                                        replace hE := seq_inr hK123 hE.symm
                                        replace hE := seq_inr hK98 hE.symm
                                        subst hE
                                        refine QJ_end (res1 Try.results8 rfl) ?_
                                        refine CSpec.close () ?_ ?_ (Ent.take del9 (Ent.drop (Ent.drop (Ent.drop (Ent.drop (Ent.drop (Ent.drop (Ent.drop (Ent.drop (Ent.drop Ent.refl))))))))))
                                        · rfl
                                        · trivial
                                      ·
                                        replace h := ite_f hg32 h
                                        refine CJ_skip ?_
                                        refine QJ_then ?_
                                        refine CJ_region ?_
                                        refine RJ_op rfl (OJ_P (P_move rfl) rfl ?_)
                                        obtain ⟨hg33, h⟩ := grd_Ne h
                                        refine RJ_op rfl (OJ_P (PJ_eq (P_add (a := ((x127 : Nat) : Int)) (b := (1 : Int)) rfl rfl (nat_in hg33)) rfl) rfl ?_)
                                        refine RJ_op rfl (OJ_P (P_assign rfl) rfl ?_)
                                        refine RJ_nil ?_
                                        refine QJ_block_normal ?_
                                        refine QJ_then ?_
                                        refine CJ_region ?_
                                        refine RJ_op rfl (OJ_P (P_move rfl) rfl ?_)
                                        refine RJ_op rfl (OJ_P (PJ_eq (P_add (a := ((x128 : Nat) : Int)) (b := (1 : Int)) rfl rfl (by omega)) rfl) rfl ?_)
                                        refine RJ_op rfl (OJ_P (P_assign rfl) rfl ?_)
                                        refine RJ_nil ?_
                                        refine QJ_nextR ⟨n, (x127 + 1), (x128 + 1)⟩ (Nat.lt_succ_self _) ?_ (by repeat (first | exact Kp.base | exact Kp.self | refine Kp.cons rfl ?_ | refine Kp.forget rfl ?_)) ?_ (Ent.take del0 (Ent.take del0 (Ent.take del0 (Ent.take del0 (Ent.take del0 (Ent.take del0 (Ent.take del0 (Ent.take del0 (Ent.take del0 (Ent.take del0 Ent.refl))))))))))
                                        · exact h
                                        · exact ⟨rfl, rfl, True.intro⟩
                                    ·
                                      replace h := ite_f hg30 h
                                      refine AJ_skip 23 16777215 rfl (by kernel_rfl) rfl (GY_no rfl rfl rfl hg30B) rfl (fun _ _ _ _ h => h) ?_
                                      refine AJ_skip 24 33554431 rfl (by kernel_rfl) rfl (GY_no rfl rfl rfl hg30B) rfl (fun _ _ _ _ h => h) ?_
                                      refine AJ_skip 25 67108863 rfl (by kernel_rfl) rfl (GY_no rfl rfl rfl hg30B) rfl (fun _ _ _ _ h => h) ?_
                                      refine AJ_skip 26 134217727 rfl (by kernel_rfl) rfl (GY_no rfl rfl rfl hg30B) rfl (fun _ _ _ _ h => h) ?_
                                      refine AJ_skip 27 268435455 rfl (by kernel_rfl) rfl (GY_no rfl rfl rfl hg30B) rfl (fun _ _ _ _ h => h) ?_
                                      refine AJ_skip 28 536870911 rfl (by kernel_rfl) rfl (GY_no rfl rfl rfl hg30B) rfl (fun _ _ _ _ h => h) ?_
                                      refine AJ_skip 29 1073741823 rfl (by kernel_rfl) rfl (GY_no rfl rfl rfl hg30B) rfl (fun _ _ _ _ h => h) ?_
                                      refine AJ_skip 30 2147483647 rfl (by kernel_rfl) rfl (GY_no rfl rfl rfl hg30B) rfl (fun _ _ _ _ h => h) ?_
                                      refine AJ_skip 31 4294967295 rfl (by kernel_rfl) rfl (GY_no rfl rfl rfl hg30B) rfl (fun _ _ _ _ h => h) ?_
                                      refine AJ_skip 32 8589934591 rfl (by kernel_rfl) rfl (GY_no rfl rfl rfl hg30B) rfl (fun _ _ _ _ h => h) ?_
                                      refine AJ_skip 33 17179869183 rfl (by kernel_rfl) rfl (GY_no rfl rfl rfl hg30B) rfl (fun _ _ _ _ h => h) ?_
                                      refine AJ_takeP 34 34359738367 rfl (by kernel_rfl) rfl (GY_yes rfl rfl rfl hg29B) (P_pickF rfl hg30B rfl) rfl (fun _ _ _ _ h => h) ?_
                                      refine AJ_takeP 35 68719476735 rfl (by kernel_rfl) rfl (GY_none rfl) (P_pickF rfl hg29B rfl) rfl (fun _ _ _ _ h => h) ?_
                                      refine AJ_done (by kernel_rfl) ?_
                                      refine QJ_then ?_
                                      refine CJ_condF rfl rfl ?_
                                      refine CJ_skip ?_
                                      refine QJ_then ?_
                                      refine CJ_region ?_
                                      refine RJ_op rfl (OJ_P (P_move rfl) rfl ?_)
                                      obtain ⟨hg34, h⟩ := grd_Ne h
                                      refine RJ_op rfl (OJ_P (PJ_eq (P_add (a := ((x127 : Nat) : Int)) (b := (1 : Int)) rfl rfl (nat_in hg34)) rfl) rfl ?_)
                                      refine RJ_op rfl (OJ_P (P_assign rfl) rfl ?_)
                                      refine RJ_nil ?_
                                      refine QJ_block_normal ?_
                                      refine QJ_then ?_
                                      refine CJ_region ?_
                                      refine RJ_op rfl (OJ_P (P_move rfl) rfl ?_)
                                      refine RJ_op rfl (OJ_P (PJ_eq (P_add (a := ((x128 : Nat) : Int)) (b := (1 : Int)) rfl rfl (by omega)) rfl) rfl ?_)
                                      refine RJ_op rfl (OJ_P (P_assign rfl) rfl ?_)
                                      refine RJ_nil ?_
                                      refine QJ_nextR ⟨n, (x127 + 1), (x128 + 1)⟩ (Nat.lt_succ_self _) ?_ (by repeat (first | exact Kp.base | exact Kp.self | refine Kp.cons rfl ?_ | refine Kp.forget rfl ?_)) ?_ (Ent.take del0 (Ent.take del0 (Ent.take del0 (Ent.take del0 (Ent.take del0 (Ent.take del0 (Ent.take del0 (Ent.take del0 (Ent.take del0 (Ent.take del0 Ent.refl))))))))))
                                      · exact h
                                      · exact ⟨rfl, rfl, True.intro⟩
                              ·
                                replace h := ite_f hg20 h
                                refine CJ_exit ?_
                                refine QJ_then_exit ?_
                                refine QJ_round_exit ?_
                                refine QJ_block_here ?_
                                refine QJ_cutR x127 ?_ (by repeat (first | exact Kp.base | exact Kp.self | refine Kp.cons rfl ?_ | refine Kp.forget rfl ?_)) ?_ (Ent.take del0 (Ent.take del0 (Ent.take del0 (Ent.take del0 (Ent.take del0 (Ent.take del0 (Ent.take del0 (Ent.take del0 (Ent.take del0 (Ent.take del0 Ent.refl))))))))))
                                · exact (Option.some.inj h).symm
                                · exact ⟨rfl, True.intro⟩
                          ·
                            rintro a126 hy129
                            replace h := seq_inl hK123 hy129
                            show QJ _ _ _ _ (([(19, .int .i64 (((a126 : Nat) : Int)))] : Slots) ++ forget _ _) (_)
                            refine QJ_block_normal ?_
                            refine QJ_then ?_
                            refine CJ_region ?_
                            refine RJ_op rfl (OJ_P (P_move rfl) rfl ?_)
                            refine RJ_op rfl (OJ_P (PJ_eq (P_add (a := ((x102 : Nat) : Int)) (b := (1 : Int)) rfl rfl (by omega)) rfl) rfl ?_)
                            refine RJ_op rfl (OJ_P (P_assign rfl) rfl ?_)
                            refine RJ_nil ?_
                            refine QJ_nextR ⟨n, a126, (x102 + 1)⟩ (Nat.lt_succ_self _) ?_ (by repeat (first | exact Kp.base | exact Kp.self | refine Kp.cons rfl ?_ | refine Kp.forget rfl ?_)) ?_ (Ent.take del1 (Ent.take del1 (Ent.take del1 (Ent.take del1 (Ent.take del1 (Ent.take del1 (Ent.take del1 (Ent.take del1 (Ent.take del1 (Ent.drop Ent.refl))))))))))
                            · exact h
                            · exact ⟨rfl, rfl, True.intro⟩
                      ·
                        replace h := ite_f hg18 h
                        refine CJ_exit ?_
                        refine QJ_then_exit ?_
                        refine QJ_round_exit ?_
                        refine QJ_block_here ?_
                        refine QJ_cutR () ?_ (by repeat (first | exact Kp.base | exact Kp.self | refine Kp.cons rfl ?_ | refine Kp.forget rfl ?_)) ?_ (Ent.take del0 (Ent.take del0 (Ent.take del0 (Ent.take del0 (Ent.take del0 (Ent.take del0 (Ent.take del0 (Ent.take del0 (Ent.take del0 Ent.refl)))))))))
                        · exact (Option.some.inj h).symm
                        · exact True.intro
                  ·
                    rintro _ hy130
                    replace h := seq_inl hK98 hy130
                    show CJ _ _ _ _ _ (([] : Slots) ++ forget _ _) (_)
                    refine CJ_seq ?_
                    refine CJ_region ?_
                    obtain ⟨r131, hr132, h⟩ := bind_e h
                    refine RJ_op rfl (O_call (L_volumegrouplaw05_awake hr132) rfl Try.call21 Dels.nil rfl (fun _ _ => ?_))
                    refine RJ_op rfl (OJ_P (P_assign rfl) rfl ?_)
                    refine RJ_nil ?_
                    refine QJ_then ?_
                    refine CJ_ret ?_
                    have hE := Option.some.inj h
                    subst hE
                    refine QJ_end (res1 Try.results8 rfl) ?_
                    refine CSpec.close () ?_ ?_ (Ent.take del8 (Ent.drop (Ent.drop (Ent.drop (Ent.drop (Ent.drop (Ent.drop (Ent.drop (Ent.drop Ent.refl)))))))))
                    · rfl
                    · trivial

end Go.Proofs
