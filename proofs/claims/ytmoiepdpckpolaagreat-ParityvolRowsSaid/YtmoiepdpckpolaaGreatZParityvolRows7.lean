/- ParityvolRows, part 7 of the proof: LOwn2, PPv8, LBeg19, PPv9, LParityvolRows, PParityvolRows. -/
import Derived.WalkKit
import Derived.Orders
import Derived.RangeFuncLeaves
import Derived.RangeFuncCalls
import Derived.TacticsIn
import Derived.Handy
import Derived.OrdersHeld
import Derived.OrdersIn
import Derived.Below
import Derived.OpenShut
import Derived.Deep.Slices
import Derived.Scope
import Derived.KernelRfl
import Derived.RangeFuncRecord
import Derived.ChangeKeysEq
import Derived.ProofKit
import Derived.ShutString
import Derived.ChangeOld
import Derived.Test.YtmoiepdpckpolaaGreatChecked
import Derived.Test.YtmoiepdpckpolaaGreatRows
import Derived.Test.YtmoiepdpckpolaaGreatZParityvolRows6
set_option linter.unusedSimpArgs false
set_option linter.unusedVariables false
set_option maxRecDepth 20000
set_option maxHeartbeats 4000000
namespace Go.Proofs
open Go.VG
def volumegroupmake_Owner_Settled (o : OwnS) (s : ArrS) : Option (Bool × OwnS × ArrS) :=
  Option.bind (volumegroupmake_Owner_All o true s) fun r1 =>
  some (r1.1, r1.2.1, r1.2.2)
theorem L_volumegroupmake_Owner_Settled {W : World} {bo : Nat} {bs : Nat} {o : OwnS} {s : ArrS} {r : Bool × OwnS × ArrS} (h : volumegroupmake_Owner_Settled o s = some r) :
    CSpec Tryz.prog W 60 [ptr bo 0] [OwnP bs bo o, Arr bs s] (fun x : Unit => .bool r.1) (fun _ => True) (fun x F => OwnP bs bo r.2.1 :: Arr bs r.2.2 :: F) := by
 refine CSpec.of_body Tryz.func60 rfl Tryz.ntmps60 rfl fun F => ?_
 show CJ _ _ _ _ _ _ (_ :: _ :: F)
 unfold volumegroupmake_Owner_Settled at h
 refine sR <| oA rfl rfl <| nT <| sR <| oM rfl rfl ?_
 obtain ⟨r1, hr2, h⟩ := bind_e h
 refine oO <| O_call (L_volumegroupmake_Owner_All hr2) rfl Tryz.call21 (Dels.cons del0 (Dels.cons del0 Dels.nil)) rfl fun _ _ => oA rfl rfl <| nT <| CJ_ret ?_
 cases h
 exact fE (res1 Tryz.results60 rfl) () eR
def volumegroupmake_Owner_Step (o : OwnS) (s_1 : volumegroupmake_Step) (s : ArrS) : Option (Bool × OwnS × ArrS) :=
  grd (decide (¬ ((o.T.length : Nat) : Int) = 0)) <|
  grd (inI64 (((s_1.At.tmod (((o.T.length : Nat) : Int))) + ((o.T.length : Nat) : Int)))) <|
  grd (decide (¬ ((o.T.length : Nat) : Int) = 0)) <|
  lt (((((s_1.At.tmod (((o.T.length : Nat) : Int))) + ((o.T.length : Nat) : Int))).tmod (((o.T.length : Nat) : Int)))) fun w8 =>
  Option.bind ((
    if (s_1.Kind = (0 : Int)) then
      Option.bind (volumegroupmake_Owner_Write o w8 s_1.Value s) fun r17 =>
      some (r17.1, r17.2.1, r17.2.2.1, r17.2.2.2)
    else
      if (s_1.Kind = (1 : Int)) then
        Option.bind (volumegroupmake_Owner_Read o w8 false s) fun r19 =>
        some (r19.1, r19.2.1, r19.2.2.1, r19.2.2.2)
      else
        if (s_1.Kind = (2 : Int)) then
          Option.bind (volumegroupmake_Owner_Flush o s) fun r21 =>
          some (r21.1, r21.2.1, r21.2.2.1, r21.2.2.2)
        else
          if (s_1.Kind = (3 : Int)) then
            some (((5 : Int), true, o, s))
          else
            if (s_1.Kind = (4 : Int)) then
              grd (inI64 (((1 : Int) + w8))) <|
              grd (inI64 (((1 : Int) + w8))) <|
              some (((0 : Int), true, o, { s with fuse := (((1 : Int) + w8)).toNat }))
            else
              some (((0 : Int), true, o, s)) : Option (Int × Bool × OwnS × ArrS))) fun a16 =>
  if (¬ a16.2.1 = true) then
    some (false, a16.2.2.1, a16.2.2.2)
  else
    if (a16.1 ≠ (5 : Int)) then
      some (true, a16.2.2.1, a16.2.2.2)
    else
      Option.bind (volumegroupmake_Owner_Power a16.2.2.1 s_1.Keep a16.2.2.2) fun r28 =>
      if r28.1 = true then
        Option.bind (volumegroupmake_Owner_Settled r28.2.1 r28.2.2) fun r30 =>
        some (r30.1, r30.2.1, r30.2.2)
      else
        some (false, r28.2.1, r28.2.2)
theorem L_volumegroupmake_Owner_Step {W : World} {bo : Nat} {bs : Nat} {o : OwnS} {s_1 : volumegroupmake_Step} {s : ArrS} {r : Bool × OwnS × ArrS} (h : volumegroupmake_Owner_Step o s_1 s = some r) :
    CSpec Tryz.prog W 19 [ptr bo 0, .agg #[.int .i64 s_1.Kind, .int .i64 s_1.At, .int .u64 (s_1.Value.toNat : Int), .int .u64 (s_1.Keep.toNat : Int)]] [OwnP bs bo o, Arr bs s] (fun x : Unit => .bool r.1) (fun _ => True) (fun x F => OwnP bs bo r.2.1 :: Arr bs r.2.2 :: F) := by
 refine CSpec.of_body Tryz.func19 rfl Tryz.ntmps19 rfl fun F => ?_
 show CJ _ _ _ _ _ _ (_ :: _ :: F)
 unfold volumegroupmake_Owner_Step at h
 refine sR <| oO <| O_box rfl rfl rfl fun b1 => oA rfl rfl <| nT <| CJ_seq <| CJ_entX (Ent.transX (t1_ eR) (OwnP_open (l := o))) fun oc2 => lC del5 fun hlen4 => lC del6 fun hlen5 => CJ_entX (Ent.transX (t4_ eR) Trk_open) fun tc6 => CJ_pur fun hS7 => CJ_region <| oM rfl rfl <| oP (P_nilCheck rfl) rfl <| oP (P_fieldAddr rfl ⟨_, _, _, Tryz.runUnderlying37, rfl, rfl, Tryz.sizeOf34, rfl⟩) rfl <| oV (V_load rfl foc3 rfl Tryz.isAgg34) rfl <| oP (P_nilCheck rfl) rfl <| oP (P_fieldAddr rfl ⟨_, _, _, Tryz.runUnderlying56, rfl, rfl, Tryz.sizeOf54, rfl⟩) rfl <| oV (V_load rfl foc0 rfl Tryz.isAgg54) rfl <| oV (VJ_eq (V_len rfl foc1 (Reads.sl _ _ _) Tryz.runUnderlying54) (congrArg (fun z : Nat => Value.int .i64 (z : Int)) hS7.len.symm)) rfl <| oA rfl rfl <| RJ_nil <| QJ_ent (Ent.trans (t0_ (t0_ (t0_ eR))) (Trk_close hS7)) <| QJ_ent (Ent.trans (t1_ (t1_ (t1_ (t1_ eR)))) (OwnP_mk (v0 := o.Open_1) (v1 := o.X) (v2 := o.T) (v3 := o.Stale) (v4 := o.Lost) (h0 := oc2.1) (h1 := oc2.2.1) (h2 := oc2.2.2.1) (h3 := oc2.2.2.2.1) (h4 := oc2.2.2.2.2.1) (h5 := oc2.2.2.2.2.2))) <| QJ_then <| sR <| oP (P_fieldAddr rfl ⟨_, _, _, Tryz.runUnderlying49, rfl, rfl, Tryz.sizeOf3, rfl⟩) rfl <| oV (V_load rfl foc1 rfl Tryz.isAgg3) rfl <| oM rfl rfl ?_
 obtain ⟨hg1, h⟩ := grd_de h
 refine oP (P_remT (a := s_1.At) (b := ((o.T.length : Nat) : Int)) rfl rfl hg1) rfl <| oM rfl rfl ?_
 obtain ⟨hg2, h⟩ := grd_Ie h
 refine oP (P_add (a := (s_1.At.tmod (((o.T.length : Nat) : Int)))) (b := ((o.T.length : Nat) : Int)) rfl rfl hg2) rfl <| oM rfl rfl ?_
 obtain ⟨hg3, h⟩ := grd_de h
 refine oP (P_remT (a := ((s_1.At.tmod (((o.T.length : Nat) : Int))) + ((o.T.length : Nat) : Int))) (b := ((o.T.length : Nat) : Int)) rfl rfl hg3) rfl ?_
 obtain ⟨w8, hw8, h⟩ := lt_e h
 rw [← hw8]
 refine oA rfl rfl <| nT <| sR <| oA rfl rfl <| oA rfl rfl <| nT <| CJ_seq <| sR <| oP (P_fieldAddr rfl ⟨_, _, _, Tryz.runUnderlying49, rfl, rfl, Tryz.sizeOf3, rfl⟩) rfl <| oV (V_load rfl foc1 rfl Tryz.isAgg3) rfl <| nT ?_
 obtain ⟨y11, hl9, hK10⟩ := bind_c h
 refine CJ_cutT (X := Int × Bool × OwnS × ArrS) [7, 8, 27, 28, 29, 30, 31, 32, 33, 34, 35, 36, 37, 38, 39, 40, 41, 42, 43, 44, 45, 46, 47, 48, 49, 50, 51, 52, 53, 54, 55, 56, 57, 58, 59, 60, 61, 62] (fun a16 => ([(7, .int .i64 a16.1), (8, .bool a16.2.1)] : Slots)) (fun a16 R => OwnP bs bo a16.2.2.1 :: Arr bs a16.2.2.2 :: R) (fun a16 => y11 = a16) (Dels.cons del0 (Dels.cons del1 Dels.nil)) ?_ ?_
 ·
  have h := hl9
  refine CJ_block <| sR <| oP (P_eql (a := s_1.Kind) (b := (0 : Int)) rfl rfl) rfl <| oA rfl rfl <| nT <| CJ_condP rfl bT_dec (fun hg4 => ?_) (fun hg4 => ?_)
  ·
   replace h := ite_t hg4 h
   refine CJ_region <| oM rfl rfl <| oM rfl rfl <| oP (P_fieldAddr rfl ⟨_, _, _, Tryz.runUnderlying49, rfl, rfl, Tryz.sizeOf44, rfl⟩) rfl <| oV (V_load rfl foc1 rfl Tryz.isAgg44) rfl ?_
   obtain ⟨r17, hr18, h⟩ := bind_e h
   exact oO <| O_call (L_volumegroupmake_Owner_Write hr18) rfl Tryz.call44 (Dels.cons del0 (Dels.cons del1 Dels.nil)) rfl fun _ _ => oM rfl rfl <| oP (P_extract rfl rfl) rfl <| oP (P_extract rfl rfl) rfl <| oA rfl rfl <| oA rfl rfl <| RJ_nil <| QJ_block_normal <| cR (r17.1, r17.2.1, r17.2.2.1, r17.2.2.2) (Option.some.inj h).symm ⟨rfl, rfl, True.intro⟩ eR
  ·
   replace h := ite_f hg4 h
   refine sR <| oP (P_eql (a := s_1.Kind) (b := (1 : Int)) rfl rfl) rfl <| oA rfl rfl <| nT <| CJ_condP rfl bT_dec (fun hg5 => ?_) (fun hg5 => ?_)
   ·
    replace h := ite_t hg5 h
    refine CJ_region <| oM rfl rfl <| oM rfl rfl ?_
    obtain ⟨r19, hr20, h⟩ := bind_e h
    exact oO <| O_call (L_volumegroupmake_Owner_Read hr20) rfl Tryz.call59 (Dels.cons del0 (Dels.cons del1 Dels.nil)) rfl fun _ _ => oM rfl rfl <| oP (P_extract rfl rfl) rfl <| oP (P_extract rfl rfl) rfl <| oA rfl rfl <| oA rfl rfl <| RJ_nil <| QJ_block_normal <| cR (r19.1, r19.2.1, r19.2.2.1, r19.2.2.2) (Option.some.inj h).symm ⟨rfl, rfl, True.intro⟩ eR
   ·
    replace h := ite_f hg5 h
    refine sR <| oP (P_eql (a := s_1.Kind) (b := (2 : Int)) rfl rfl) rfl <| oA rfl rfl <| nT <| CJ_condP rfl bT_dec (fun hg6 => ?_) (fun hg6 => ?_)
    ·
     replace h := ite_t hg6 h
     refine CJ_region <| oM rfl rfl ?_
     obtain ⟨r21, hr22, h⟩ := bind_e h
     exact oO <| O_call (L_volumegroupmake_Owner_Flush hr22) rfl Tryz.call15 (Dels.cons del0 (Dels.cons del1 Dels.nil)) rfl fun _ _ => oM rfl rfl <| oP (P_extract rfl rfl) rfl <| oP (P_extract rfl rfl) rfl <| oA rfl rfl <| oA rfl rfl <| RJ_nil <| QJ_block_normal <| cR (r21.1, r21.2.1, r21.2.2.1, r21.2.2.2) (Option.some.inj h).symm ⟨rfl, rfl, True.intro⟩ eR
    ·
     replace h := ite_f hg6 h
     refine sR <| oP (P_eql (a := s_1.Kind) (b := (3 : Int)) rfl rfl) rfl <| oA rfl rfl <| nT <| CJ_condP rfl bT_dec (fun hg7 => ?_) (fun hg7 => ?_)
     ·
      replace h := ite_t hg7 h
      exact CJ_region <| oA rfl rfl <| RJ_nil <| QJ_block_normal <| cR ((5 : Int), true, o, s) (Option.some.inj h).symm ⟨rfl, rfl, True.intro⟩ (t0_ (t1_ eR))
     ·
      replace h := ite_f hg7 h
      refine sR <| oP (P_eql (a := s_1.Kind) (b := (4 : Int)) rfl rfl) rfl <| oA rfl rfl <| nT <| CJ_condP rfl bT_dec (fun hg8 => ?_) (fun hg8 => ?_)
      ·
       replace h := ite_t hg8 h
       refine CJ_entX (Ent.transX (t0_ eR) (OwnP_open (l := o))) fun oc23 => lC del5 fun hlen25 => lC del6 fun hlen26 => CJ_region <| oM rfl rfl <| oP (P_nilCheck rfl) rfl <| oP (P_fieldAddr rfl ⟨_, _, _, Tryz.runUnderlying37, rfl, rfl, Tryz.sizeOf30, rfl⟩) rfl <| oV (V_load rfl foc0 rfl Tryz.isAgg30) rfl <| oM rfl rfl ?_
       obtain ⟨hg9, h⟩ := grd_Ie h
       refine oP (P_add (a := (1 : Int)) (b := w8) rfl rfl hg9) rfl ?_
       obtain ⟨hg10, h⟩ := grd_Ie h
       exact oO <| O_call (c_FuseD hg10.2) rfl Tryz.call48 (Dels.cons del8 Dels.nil) rfl fun _ _ => RJ_nil <| QJ_ent (Ent.trans (t1_ (t1_ (t1_ (t1_ (t1_ (t1_ (t1_ eR))))))) (OwnP_mk (v0 := o.Open_1) (v1 := o.X) (v2 := o.T) (v3 := o.Stale) (v4 := o.Lost) (h0 := oc23.1) (h1 := oc23.2.1) (h2 := oc23.2.2.1) (h3 := oc23.2.2.2.1) (h4 := oc23.2.2.2.2.1) (h5 := oc23.2.2.2.2.2))) <| QJ_block_normal <| cR ((0 : Int), true, o, { s with fuse := (((1 : Int) + w8)).toNat }) (Option.some.inj h).symm ⟨rfl, rfl, True.intro⟩ eR
      ·
       replace h := ite_f hg8 h
       exact CJ_skip <| QJ_block_normal <| cR ((0 : Int), true, o, s) (Option.some.inj h).symm ⟨rfl, rfl, True.intro⟩ (t0_ (t1_ eR))
 ·
  rintro a16 hy27
  replace h := bindK_at hK10 hy27
  show CJ _ _ _ _ _ (([(7, .int .i64 a16.1), (8, .bool a16.2.1)] : Slots) ++ forget _ _) (OwnP bs bo a16.2.2.1 :: Arr bs a16.2.2.2 :: _)
  refine CJ_seq <| sR <| oM rfl rfl <| oP (P_not rfl) rfl <| nT <| CJ_condP rfl (bT_not Iff.rfl) (fun hg11 => ?_) (fun hg11 => ?_)
  ·
   replace h := ite_t hg11 h
   refine sR <| oA rfl rfl <| nT <| CJ_ret <| QJ_then_ret ?_
   cases h
   exact fE (res1 Tryz.results19 rfl) () (t0_ (t0_ (eD eR)))
  ·
   replace h := ite_f hg11 h
   refine kT <| sR <| oM rfl rfl <| oP (P_neq (a := a16.1) (b := (5 : Int)) rfl rfl) rfl <| oM rfl rfl <| RJ_splitP 67 rfl bT_dec (fun hg12B hg12 => ?_) (fun hg12B hg12 => ?_)
   ·
    replace h := ite_t hg12 h
    refine RJ_gn (GY_no rfl rfl rfl hg12B) rfl rfl <| RJ_gn (GY_no rfl rfl rfl hg12B) rfl rfl <| RJ_gn (GY_no rfl rfl rfl hg12B) rfl rfl <| RJ_gn (GY_no rfl rfl rfl hg12B) rfl rfl <| RJ_gn (GY_no rfl rfl rfl hg12B) rfl rfl <| RJ_gn (GY_undef rfl rfl rfl) rfl rfl <| RJ_gn (GY_undef rfl rfl rfl) rfl rfl <| RJ_gn (GY_no rfl rfl rfl hg12B) rfl rfl <| oP (P_pickT rfl hg12B rfl) rfl <| oA rfl rfl <| nT <| CJ_ret ?_
    cases h
    exact fE (res1 Tryz.results19 rfl) () (t0_ (t0_ (eD eR)))
   ·
    replace h := ite_f hg12 h
    refine gP (GY_yes rfl rfl rfl hg12B) (P_move rfl) rfl <| gP (GY_yes rfl rfl rfl hg12B) (P_fieldAddr rfl ⟨_, _, _, Tryz.runUnderlying49, rfl, rfl, Tryz.sizeOf44, rfl⟩) rfl <| gV (GY_yes rfl rfl rfl hg12B) (V_load rfl foc2 rfl Tryz.isAgg44) rfl ?_
    obtain ⟨r28, hr29, h⟩ := bind_e h
    refine RJ_gy (GY_yes rfl rfl rfl hg12B) <| O_call (L_volumegroupmake_Owner_Power hr29) rfl Tryz.call41 (Dels.cons del0 (Dels.cons del0 Dels.nil)) rfl fun _ _ => gP (GY_yes rfl rfl rfl hg12B) (P_move rfl) rfl <| RJ_splitP 72 rfl Iff.rfl (fun hg13B hg13 => ?_) (fun hg13B hg13 => ?_)
    ·
     replace h := ite_t hg13 h
     refine gP (GY_yes rfl rfl rfl hg13B) (P_move rfl) rfl ?_
     obtain ⟨r30, hr31, h⟩ := bind_e h
     refine RJ_gy (GY_yes rfl rfl rfl hg13B) <| O_call (L_volumegroupmake_Owner_Settled hr31) rfl Tryz.call60 (Dels.cons del0 (Dels.cons del0 Dels.nil)) rfl fun _ _ => gP (GY_yes rfl rfl rfl hg12B) (P_pickT rfl hg13B rfl) rfl <| oP (P_pickF rfl hg12B rfl) rfl <| oA rfl rfl <| nT <| CJ_ret ?_
     cases h
     exact fE (res1 Tryz.results19 rfl) () (t0_ (t0_ (eD eR)))
    ·
     replace h := ite_f hg13 h
     refine RJ_gn (GY_no rfl rfl rfl hg13B) rfl rfl <| RJ_gn (GY_no rfl rfl rfl hg13B) rfl rfl <| gP (GY_yes rfl rfl rfl hg12B) (P_pickF rfl hg13B rfl) rfl <| oP (P_pickF rfl hg12B rfl) rfl <| oA rfl rfl <| nT <| CJ_ret ?_
     cases h
     exact fE (res1 Tryz.results19 rfl) () (t0_ (t0_ (eD eR)))
def volumegroupmake_Owner_Play_l1_b (l : List volumegroupmake_Step) (lose : Int) (disk : Int) (leg : Int) (rec : OwnS → ArrS → Nat → Option ((OwnS × ArrS) ⊕ (Bool × OwnS × ArrS))) (x46 : OwnS) (x47 : ArrS) (x48 : Nat) : Option ((OwnS × ArrS) ⊕ (Bool × OwnS × ArrS)) :=
  if (((x48 : Nat) : Int) < ((l.length : Nat) : Int)) then
    if (((x48 : Nat) : Int) = lose) then
      Option.bind (volumegroupmake_Owner_Lose x46 disk leg x47) fun r49 =>
      if (¬ r49.1 = true) then
        some (.inr (false, r49.2.1, r49.2.2))
      else
        Option.bind (volumegroupmake_Owner_Step r49.2.1 ((l.getD x48 (⟨0, 0, 0, 0⟩ : volumegroupmake_Step))) r49.2.2) fun r51 =>
        if (¬ r51.1 = true) then
          some (.inr (false, r51.2.1, r51.2.2))
        else
          rec r51.2.1 r51.2.2 (x48 + 1)
    else
      Option.bind (volumegroupmake_Owner_Step x46 ((l.getD x48 (⟨0, 0, 0, 0⟩ : volumegroupmake_Step))) x47) fun r53 =>
      if (¬ r53.1 = true) then
        some (.inr (false, r53.2.1, r53.2.2))
      else
        rec r53.2.1 r53.2.2 (x48 + 1)
  else
    some (.inl (x46, x47))
def volumegroupmake_Owner_Play_l1 (l : List volumegroupmake_Step) (lose : Int) (disk : Int) (leg : Int) : Nat → OwnS → ArrS → Nat → Option ((OwnS × ArrS) ⊕ (Bool × OwnS × ArrS))
  | 0, _, _, _ => none
  | n + 1, x46, x47, x48 => volumegroupmake_Owner_Play_l1_b l lose disk leg (volumegroupmake_Owner_Play_l1 l lose disk leg n) x46 x47 x48
def volumegroupmake_Owner_Play (o : OwnS) (l : List volumegroupmake_Step) (lose : Int) (disk : Int) (leg : Int) (s : ArrS) : Option (Bool × OwnS × ArrS) :=
  Option.bind (volumegroupmake_Owner_Begin o s) fun r8 =>
  if ((¬ r8.1 = true) ∨ (((r8.2.1.T.length : Nat) : Int) = (0 : Int))) then
    some (((decide (((r8.2.1.T.length : Nat) : Int) = (0 : Int))), r8.2.1, r8.2.2))
  else
    seqO (volumegroupmake_Owner_Play_l1 l lose disk leg FUEL r8.2.1 r8.2.2 0) fun a45 =>
    grd (inI64 (0 : Int)) <|
    if ({ a45.2 with fuse := ((0 : Int)).toNat }).down = true then
      Option.bind (volumegroupmake_Owner_Power a45.1 (0 : UInt64) ({ a45.2 with fuse := ((0 : Int)).toNat })) fun r64 =>
      if (¬ r64.1 = true) then
        some (false, r64.2.1, r64.2.2)
      else
        Option.bind (volumegroupmake_Owner_All r64.2.1 false r64.2.2) fun r66 =>
        if r66.1 = true then
          Option.bind (volumegroupmake_Owner_Power r66.2.1 (0 : UInt64) r66.2.2) fun r68 =>
          if r68.1 = true then
            Option.bind (volumegroupmake_Owner_All r68.2.1 true r68.2.2) fun r70 =>
            if r70.1 = true then
              Option.bind (volumegroupmake_Owner_All r70.2.1 true r70.2.2) fun r72 =>
              some (r72.1, r72.2.1, r72.2.2)
            else
              some (false, r70.2.1, r70.2.2)
          else
            some (false, r68.2.1, r68.2.2)
        else
          some (false, r66.2.1, r66.2.2)
    else
      Option.bind (volumegroupmake_Owner_All a45.1 false ({ a45.2 with fuse := ((0 : Int)).toNat })) fun r74 =>
      if r74.1 = true then
        Option.bind (volumegroupmake_Owner_Power r74.2.1 (0 : UInt64) r74.2.2) fun r76 =>
        if r76.1 = true then
          Option.bind (volumegroupmake_Owner_All r76.2.1 true r76.2.2) fun r78 =>
          if r78.1 = true then
            Option.bind (volumegroupmake_Owner_All r78.2.1 true r78.2.2) fun r80 =>
            some (r80.1, r80.2.1, r80.2.2)
          else
            some (false, r78.2.1, r78.2.2)
        else
          some (false, r76.2.1, r76.2.2)
      else
        some (false, r74.2.1, r74.2.2)
theorem L_volumegroupmake_Owner_Play {W : World} {bo : Nat} {Al : HP} {vl : Value} {bs : Nat} {o : OwnS} {l : List volumegroupmake_Step} {lose : Int} {disk : Int} {leg : Int} {s : ArrS} {r : Bool × OwnS × ArrS} (rl : Reads Al tyvolumegroupmake_Step vl l) (h : volumegroupmake_Owner_Play o l lose disk leg s = some r) :
    CSpec Tryz.prog W 14 [ptr bo 0, vl, .int .i64 lose, .int .i64 disk, .int .i64 leg] [OwnP bs bo o, Al, Arr bs s] (fun x : Unit => .bool r.1) (fun _ => True) (fun x F => OwnP bs bo r.2.1 :: Al :: Arr bs r.2.2 :: F) := by
 refine CSpec.of_body Tryz.func14 rfl Tryz.ntmps14 rfl fun F => ?_
 show CJ _ _ _ _ _ _ (_ :: _ :: _ :: F)
 unfold volumegroupmake_Owner_Play at h
 refine CJ_pure (len_of rl del1) fun hlen1 => sR <| oA rfl rfl <| nT <| CJ_seq <| CJ_seq <| CJ_entX (Ent.transX (t0_ eR) (OwnP_open (l := o))) fun oc2 => lC del5 fun hlen4 => lC del6 fun hlen5 => CJ_entX (Ent.transX (t4_ eR) Trk_open) fun tc6 => CJ_pur fun hS7 => CJ_region <| oM rfl rfl <| RJ_ent (Ent.trans (t0_ (t0_ (t0_ eR))) (Trk_close hS7)) <| RJ_ent (Ent.trans (t1_ (t1_ (t1_ (t1_ eR)))) (OwnP_mk (v0 := o.Open_1) (v1 := o.X) (v2 := o.T) (v3 := o.Stale) (v4 := o.Lost) (h0 := oc2.1) (h1 := oc2.2.1) (h2 := oc2.2.2.1) (h3 := oc2.2.2.2.1) (h4 := oc2.2.2.2.2.1) (h5 := oc2.2.2.2.2.2))) ?_
 obtain ⟨r8, hr9, h⟩ := bind_e h
 refine oO <| O_call (L_volumegroupmake_Owner_Begin hr9) rfl Tryz.call18 (Dels.cons del0 (Dels.cons del1 Dels.nil)) rfl fun _ _ => oP (P_not rfl) rfl <| oM rfl rfl <| RJ_mbF rfl rfl rfl (fun hG10 => have hP11 : ¬ (¬ r8.1 = true) := nP ((bT_not Iff.rfl)) hG10; VJ_P (P_move rfl)) <| RJ_mbF rfl rfl rfl (fun hG12 => have hP13 : ¬ (¬ r8.1 = true) := nP ((bT_not Iff.rfl)) hG12; VJ_P (P_nilCheck (mbx hG12 rfl))) <| RJ_mbF rfl rfl rfl (fun hG14 => have hP15 : ¬ (¬ r8.1 = true) := nP ((bT_not Iff.rfl)) hG14; VJ_P (P_fieldAddr (mbx hG14 rfl) ⟨_, _, _, Tryz.runUnderlying37, rfl, rfl, Tryz.sizeOf34, rfl⟩)) <| RJ_entX (Ent.transX (t0_ eR) (OwnP_open (l := r8.2.1))) fun oc18 => RJ_pure (len_of (Reads.sl _ _ _) del5) fun hlen20 => RJ_pure (len_of (Reads.sl _ _ _) del6) fun hlen21 => RJ_mbF rfl rfl rfl (fun hG16 => have hP17 : ¬ (¬ r8.1 = true) := nP ((bT_not Iff.rfl)) hG16; V_load (mbx hG16 rfl) foc0 rfl Tryz.isAgg34) <| RJ_mbF rfl rfl rfl (fun hG22 => have hP23 : ¬ (¬ r8.1 = true) := nP ((bT_not Iff.rfl)) hG22; VJ_P (P_nilCheck (mbx hG22 rfl))) <| RJ_mbF rfl rfl rfl (fun hG24 => have hP25 : ¬ (¬ r8.1 = true) := nP ((bT_not Iff.rfl)) hG24; VJ_P (P_fieldAddr (mbx hG24 rfl) ⟨_, _, _, Tryz.runUnderlying56, rfl, rfl, Tryz.sizeOf54, rfl⟩)) <| RJ_entX (Ent.transX (t4_ eR) Trk_open) fun tc28 => RJ_pur fun hS29 => RJ_mbF rfl rfl rfl (fun hG26 => have hP27 : ¬ (¬ r8.1 = true) := nP ((bT_not Iff.rfl)) hG26; V_load (mbx hG26 rfl) foc0 rfl Tryz.isAgg54) ?_
 refine RJ_mbF rfl rfl rfl (fun hG30 => have hP31 : ¬ (¬ r8.1 = true) := nP ((bT_not Iff.rfl)) hG30; VJ_eq (V_len (mbx hG30 rfl) foc1 (Reads.sl _ _ _) Tryz.runUnderlying54) (congrArg (fun z : Nat => Value.int .i64 (z : Int)) hS29.len.symm)) <| RJ_mbF rfl rfl rfl (fun hG32 => have hP33 : ¬ (¬ r8.1 = true) := nP ((bT_not Iff.rfl)) hG32; VJ_P (P_eql (a := ((r8.2.1.T.length : Nat) : Int)) (b := (0 : Int)) (mbx hG32 rfl) rfl)) <| oP (P_pickOr rfl rfl (fun hh => mbx (not_f hh) rfl)) rfl <| RJ_nil <| QJ_ent (Ent.trans (t0_ (t0_ (t0_ eR))) (Trk_close hS29)) <| QJ_ent (Ent.trans (t1_ (t1_ (t1_ (t1_ eR)))) (OwnP_mk (v0 := r8.2.1.Open_1) (v1 := r8.2.1.X) (v2 := r8.2.1.T) (v3 := r8.2.1.Stale) (v4 := r8.2.1.Lost) (h0 := oc18.1) (h1 := oc18.2.1) (h2 := oc18.2.2.1) (h3 := oc18.2.2.2.1) (h4 := oc18.2.2.2.2.1) (h5 := oc18.2.2.2.2.2))) <| QJ_then <| CJ_condP rfl (bT_or (bT_not Iff.rfl) bT_dec) (fun hg1 => ?_) (fun hg1 => ?_)
 ·
  replace h := ite_t hg1 h
  refine CJ_seq <| CJ_entX (Ent.transX (t0_ eR) (OwnP_open (l := r8.2.1))) fun oc34 => lC del5 fun hlen36 => lC del6 fun hlen37 => CJ_entX (Ent.transX (t4_ eR) Trk_open) fun tc38 => CJ_pur fun hS39 => CJ_region <| oM rfl rfl <| oP (P_nilCheck rfl) rfl <| oP (P_fieldAddr rfl ⟨_, _, _, Tryz.runUnderlying37, rfl, rfl, Tryz.sizeOf34, rfl⟩) rfl <| oV (V_load rfl foc3 rfl Tryz.isAgg34) rfl <| oP (P_nilCheck rfl) rfl <| oP (P_fieldAddr rfl ⟨_, _, _, Tryz.runUnderlying56, rfl, rfl, Tryz.sizeOf54, rfl⟩) rfl <| oV (V_load rfl foc0 rfl Tryz.isAgg54) rfl <| oV (VJ_eq (V_len rfl foc1 (Reads.sl _ _ _) Tryz.runUnderlying54) (congrArg (fun z : Nat => Value.int .i64 (z : Int)) hS39.len.symm)) rfl <| oP (P_eql (a := ((r8.2.1.T.length : Nat) : Int)) (b := (0 : Int)) rfl rfl) rfl <| oA rfl rfl <| RJ_nil <| QJ_ent (Ent.trans (t0_ (t0_ (t0_ eR))) (Trk_close hS39)) <| QJ_ent (Ent.trans (t1_ (t1_ (t1_ (t1_ eR)))) (OwnP_mk (v0 := r8.2.1.Open_1) (v1 := r8.2.1.X) (v2 := r8.2.1.T) (v3 := r8.2.1.Stale) (v4 := r8.2.1.Lost) (h0 := oc34.1) (h1 := oc34.2.1) (h2 := oc34.2.2.1) (h3 := oc34.2.2.2.1) (h4 := oc34.2.2.2.2.1) (h5 := oc34.2.2.2.2.2))) <| QJ_then <| CJ_ret <| QJ_then_ret ?_
  cases h
  exact fE (res1 Tryz.results14 rfl) () (t0_ (t1_ eR))
 ·
  replace h := ite_f hg1 h
  refine kT <| CJ_seq <| sR <| oA rfl rfl <| nT ?_
  obtain ⟨y42, hl40, hK41⟩ := seq_e h
  refine CJ_cutT (X := OwnS × ArrS) [10, 11, 35, 36, 37, 38, 39, 40, 41, 42, 43, 44, 45, 46, 47, 48, 49, 50, 51, 52, 53, 54, 55, 56, 57, 58, 59] (fun a45 => ([] : Slots)) (fun a45 R => OwnP bs bo a45.1 :: Arr bs a45.2 :: R) (fun a45 => y42 = .inl a45) (Dels.cons del0 (Dels.cons del0 Dels.nil)) ?_ ?_
  ·
   refine CJ_block <| CJ_loopR (X := Nat × OwnS × ArrS × Nat) [10, 11, 35, 36, 37, 38, 39, 40, 41, 42, 43, 44, 45, 46, 47, 48, 49, 50, 51, 52, 53, 54, 55, 56, 57, 58, 59] (fun ⟨n, x46, x47, x48⟩ => ([(11, .int .i64 (((x48 : Nat) : Int)))] : Slots)) (fun ⟨n, x46, x47, x48⟩ R => OwnP bs bo x46 :: Arr bs x47 :: R) (fun ⟨n, x46, x47, x48⟩ => volumegroupmake_Owner_Play_l1 l lose disk leg n x46 x47 x48 = some y42) (fun ⟨n, x46, x47, x48⟩ => n) ⟨FUEL, r8.2.1, r8.2.2, 0⟩ ?_ ?_ eR ?_
   · exact hl40
   · exact ⟨rfl, True.intro⟩
   ·
    rintro ⟨n, x46, x47, x48⟩ h
    cases n with
    | zero => exact none_e h
    | succ n => ?_
    replace h : volumegroupmake_Owner_Play_l1_b l lose disk leg (volumegroupmake_Owner_Play_l1 l lose disk leg n) x46 x47 x48 = some y42 := h
    unfold volumegroupmake_Owner_Play_l1_b at h
    show CJ _ _ _ _ _ (([(11, .int .i64 (((x48 : Nat) : Int)))] : Slots) ++ forget _ _) (OwnP bs bo x46 :: Arr bs x47 :: _)
    refine CJ_seq <| sR <| oM rfl rfl <| oM rfl rfl <| oV (V_len rfl foc2 rl Tryz.runUnderlying22) rfl <| oP (P_lss (a := ((x48 : Nat) : Int)) (b := ((l.length : Nat) : Int)) rfl rfl) rfl <| nT <| CJ_condP rfl bT_dec (fun hg2 => ?_) (fun hg2 => ?_)
    ·
     replace h := ite_t hg2 h
     refine kT <| CJ_seq <| CJ_block <| sR <| oM rfl rfl <| oM rfl rfl <| oP (P_eql (a := ((x48 : Nat) : Int)) (b := lose) rfl rfl) rfl <| oM rfl rfl <| RJ_splitP 44 rfl bT_dec (fun hg3B hg3 => ?_) (fun hg3B hg3 => ?_)
     ·
      replace h := ite_t hg3 h
      refine gP (GY_yes rfl rfl rfl hg3B) (P_move rfl) rfl <| gP (GY_yes rfl rfl rfl hg3B) (P_move rfl) rfl <| gP (GY_yes rfl rfl rfl hg3B) (P_move rfl) rfl ?_
      obtain ⟨r49, hr50, h⟩ := bind_e h
      refine RJ_gy (GY_yes rfl rfl rfl hg3B) <| O_call (L_volumegroupmake_Owner_Lose hr50) rfl Tryz.call40 (Dels.cons del0 (Dels.cons del0 Dels.nil)) rfl fun _ _ => gP (GY_yes rfl rfl rfl hg3B) (P_not rfl) rfl <| oP (P_pickT rfl hg3B rfl) rfl <| oM rfl rfl <| RJ_splitP 51 rfl (bT_not Iff.rfl) (fun hg4B hg4 => ?_) (fun hg4B hg4 => ?_)
      ·
       replace h := ite_t hg4 h
       refine RJ_gn (GY_no rfl rfl rfl hg4B) rfl rfl <| RJ_gn (GY_no rfl rfl rfl hg4B) rfl rfl <| RJ_gn (GY_no rfl rfl rfl hg4B) rfl rfl <| RJ_gn (GY_no rfl rfl rfl hg4B) rfl rfl <| RJ_gn (GY_no rfl rfl rfl hg4B) rfl rfl <| RJ_gn (GY_no rfl rfl rfl hg4B) rfl rfl <| RJ_gn (GY_no rfl rfl rfl hg4B) rfl rfl <| oP (P_pickT rfl hg4B rfl) rfl <| nT <| CJ_condT rfl rfl <| sR <| oA rfl rfl <| nT <| CJ_ret <| QJ_block_ret <| QJ_then_ret <| QJ_round_ret <| QJ_block_ret <| QJ_then_ret ?_
       have hE := Option.some.inj h
       replace hE := seq_inr hK41 hE.symm
       subst hE
       exact fE (res1 Tryz.results14 rfl) () (t0_ (t1_ eR))
      ·
       replace h := ite_f hg4 h
       refine gP (GY_yes rfl rfl rfl hg4B) (P_move rfl) rfl <| gP (GY_yes rfl rfl rfl hg4B) (P_move rfl) rfl <| gP (GY_yes rfl rfl rfl hg4B) (P_move rfl) rfl <| gV (GY_yes rfl rfl rfl hg4B) (V_index (i := x48) rfl rfl rfl (by omega) foc2 rl Tryz.runUnderlying22 Tryz.sizeOf49) rfl <| gV (GY_yes rfl rfl rfl hg4B) (V_loadEN rfl rfl (by omega) foc2 rl rfl rfl Tryz.isAgg49 Tryz.sizeOf49) rfl ?_
       obtain ⟨r51, hr52, h⟩ := bind_e h
       refine RJ_gy (GY_yes rfl rfl rfl hg4B) <| O_call (L_volumegroupmake_Owner_Step hr52) rfl Tryz.call19 (Dels.cons del0 (Dels.cons del0 Dels.nil)) rfl fun _ _ => gP (GY_yes rfl rfl rfl hg4B) (P_not rfl) rfl <| oP (P_pickF rfl hg4B rfl) rfl <| nT <| CJ_condP rfl (bT_not Iff.rfl) (fun hg5 => ?_) (fun hg5 => ?_)
       ·
        replace h := ite_t hg5 h
        refine sR <| oA rfl rfl <| nT <| CJ_ret <| QJ_block_ret <| QJ_then_ret <| QJ_round_ret <| QJ_block_ret <| QJ_then_ret ?_
        have hE := Option.some.inj h
        replace hE := seq_inr hK41 hE.symm
        subst hE
        exact fE (res1 Tryz.results14 rfl) () (t0_ (t1_ eR))
       ·
        replace h := ite_f hg5 h
        exact CJ_skip <| QJ_block_normal <| QJ_then <| CJ_region <| oM rfl rfl <| oP (PJ_eq (P_add (a := ((x48 : Nat) : Int)) (b := (1 : Int)) rfl rfl (by omega)) rfl) rfl <| oA rfl rfl <| RJ_nil <| nR ⟨n, r51.2.1, r51.2.2, (x48 + 1)⟩ h ⟨rfl, True.intro⟩ eR
     ·
      replace h := ite_f hg3 h
      refine RJ_gn (GY_no rfl rfl rfl hg3B) rfl rfl <| RJ_gn (GY_no rfl rfl rfl hg3B) rfl rfl <| RJ_gn (GY_no rfl rfl rfl hg3B) rfl rfl <| RJ_gn (GY_no rfl rfl rfl hg3B) rfl rfl <| RJ_gn (GY_no rfl rfl rfl hg3B) rfl rfl <| oP (P_pickF rfl hg3B rfl) rfl <| oM rfl rfl <| gP (GY_yes rfl rfl rfl rfl) (P_move rfl) rfl <| gP (GY_yes rfl rfl rfl rfl) (P_move rfl) rfl <| gP (GY_yes rfl rfl rfl rfl) (P_move rfl) rfl <| gV (GY_yes rfl rfl rfl rfl) (V_index (i := x48) rfl rfl rfl (by omega) foc2 rl Tryz.runUnderlying22 Tryz.sizeOf49) rfl <| gV (GY_yes rfl rfl rfl rfl) (V_loadEN rfl rfl (by omega) foc2 rl rfl rfl Tryz.isAgg49 Tryz.sizeOf49) rfl ?_
      obtain ⟨r53, hr54, h⟩ := bind_e h
      refine RJ_gy (GY_yes rfl rfl rfl rfl) <| O_call (L_volumegroupmake_Owner_Step hr54) rfl Tryz.call19 (Dels.cons del0 (Dels.cons del0 Dels.nil)) rfl fun _ _ => gP (GY_yes rfl rfl rfl rfl) (P_not rfl) rfl <| oP (P_pickF rfl rfl rfl) rfl <| nT <| CJ_condP rfl (bT_not Iff.rfl) (fun hg6 => ?_) (fun hg6 => ?_)
      ·
       replace h := ite_t hg6 h
       refine sR <| oA rfl rfl <| nT <| CJ_ret <| QJ_block_ret <| QJ_then_ret <| QJ_round_ret <| QJ_block_ret <| QJ_then_ret ?_
       have hE := Option.some.inj h
       replace hE := seq_inr hK41 hE.symm
       subst hE
       exact fE (res1 Tryz.results14 rfl) () (t0_ (t1_ eR))
      ·
       replace h := ite_f hg6 h
       exact CJ_skip <| QJ_block_normal <| QJ_then <| CJ_region <| oM rfl rfl <| oP (PJ_eq (P_add (a := ((x48 : Nat) : Int)) (b := (1 : Int)) rfl rfl (by omega)) rfl) rfl <| oA rfl rfl <| RJ_nil <| nR ⟨n, r53.2.1, r53.2.2, (x48 + 1)⟩ h ⟨rfl, True.intro⟩ eR
    ·
     replace h := ite_f hg2 h
     exact CJ_exit <| QJ_then_exit <| QJ_round_exit <| QJ_block_here <| cR (x46, x47) (Option.some.inj h).symm True.intro eR
  ·
   rintro a45 hy55
   replace h := seq_inl hK41 hy55
   show CJ _ _ _ _ _ (([] : Slots) ++ forget _ _) (OwnP bs bo a45.1 :: Arr bs a45.2 :: _)
   refine CJ_seq <| CJ_entX (Ent.transX (t0_ eR) (OwnP_open (l := a45.1))) fun oc56 => lC del5 fun hlen58 => lC del6 fun hlen59 => CJ_region <| oM rfl rfl <| oP (P_nilCheck rfl) rfl <| oP (P_fieldAddr rfl ⟨_, _, _, Tryz.runUnderlying37, rfl, rfl, Tryz.sizeOf30, rfl⟩) rfl <| oV (V_load rfl foc0 rfl Tryz.isAgg30) rfl ?_
   obtain ⟨hg7, h⟩ := grd_Ie h
   refine oO <| O_call (c_FuseD hg7.2) rfl Tryz.call48 (Dels.cons del7 Dels.nil) rfl fun _ _ => RJ_nil <| QJ_ent (Ent.trans (t1_ (t1_ (t1_ (t1_ (t1_ (t1_ (t1_ eR))))))) (OwnP_mk (v0 := a45.1.Open_1) (v1 := a45.1.X) (v2 := a45.1.T) (v3 := a45.1.Stale) (v4 := a45.1.Lost) (h0 := oc56.1) (h1 := oc56.2.1) (h2 := oc56.2.2.1) (h3 := oc56.2.2.2.1) (h4 := oc56.2.2.2.2.1) (h5 := oc56.2.2.2.2.2))) <| QJ_then <| CJ_seq <| CJ_seq <| CJ_entX (Ent.transX (t0_ eR) (OwnP_open (l := a45.1))) fun oc60 => lC del5 fun hlen62 => lC del6 fun hlen63 => CJ_region <| oM rfl rfl <| oP (P_nilCheck rfl) rfl <| oP (P_fieldAddr rfl ⟨_, _, _, Tryz.runUnderlying37, rfl, rfl, Tryz.sizeOf30, rfl⟩) rfl <| oV (V_load rfl foc0 rfl Tryz.isAgg30) rfl <| oO <| O_call (c_Down) rfl Tryz.call49 (Dels.cons del7 Dels.nil) rfl fun _ _ => oM rfl rfl <| RJ_splitP 70 rfl Iff.rfl (fun hg8B hg8 => ?_) (fun hg8B hg8 => ?_)
   ·
    replace h := ite_t hg8 h
    refine gP (GY_yes rfl rfl rfl hg8B) (P_move rfl) rfl <| RJ_ent (Ent.trans (t1_ (t1_ (t1_ (t1_ (t1_ (t1_ (t1_ eR))))))) (OwnP_mk (v0 := a45.1.Open_1) (v1 := a45.1.X) (v2 := a45.1.T) (v3 := a45.1.Stale) (v4 := a45.1.Lost) (h0 := oc60.1) (h1 := oc60.2.1) (h2 := oc60.2.2.1) (h3 := oc60.2.2.2.1) (h4 := oc60.2.2.2.2.1) (h5 := oc60.2.2.2.2.2))) ?_
    obtain ⟨r64, hr65, h⟩ := bind_e h
    refine RJ_gy (GY_yes rfl rfl rfl hg8B) <| O_call (L_volumegroupmake_Owner_Power hr65) rfl Tryz.call41 (Dels.cons del0 (Dels.cons del0 Dels.nil)) rfl fun _ _ => gP (GY_yes rfl rfl rfl hg8B) (P_not rfl) rfl <| oP (P_pickT rfl hg8B rfl) rfl <| nT <| CJ_condP rfl (bT_not Iff.rfl) (fun hg9 => ?_) (fun hg9 => ?_)
    ·
     replace h := ite_t hg9 h
     refine sR <| oA rfl rfl <| nT <| CJ_ret <| QJ_then_ret ?_
     cases h
     exact fE (res1 Tryz.results14 rfl) () (t0_ (t1_ eR))
    ·
     replace h := ite_f hg9 h
     refine kT <| sR <| oM rfl rfl ?_
     obtain ⟨r66, hr67, h⟩ := bind_e h
     refine oO <| O_call (L_volumegroupmake_Owner_All hr67) rfl Tryz.call21 (Dels.cons del0 (Dels.cons del0 Dels.nil)) rfl fun _ _ => oM rfl rfl <| RJ_splitP 77 rfl Iff.rfl (fun hg10B hg10 => ?_) (fun hg10B hg10 => ?_)
     ·
      replace h := ite_t hg10 h
      refine gP (GY_yes rfl rfl rfl hg10B) (P_move rfl) rfl ?_
      obtain ⟨r68, hr69, h⟩ := bind_e h
      refine RJ_gy (GY_yes rfl rfl rfl hg10B) <| O_call (L_volumegroupmake_Owner_Power hr69) rfl Tryz.call41 (Dels.cons del0 (Dels.cons del0 Dels.nil)) rfl fun _ _ => oP (P_pickT rfl hg10B rfl) rfl <| oM rfl rfl <| RJ_splitP 81 rfl Iff.rfl (fun hg11B hg11 => ?_) (fun hg11B hg11 => ?_)
      ·
       replace h := ite_t hg11 h
       refine gP (GY_yes rfl rfl rfl hg11B) (P_move rfl) rfl ?_
       obtain ⟨r70, hr71, h⟩ := bind_e h
       refine RJ_gy (GY_yes rfl rfl rfl hg11B) <| O_call (L_volumegroupmake_Owner_All hr71) rfl Tryz.call21 (Dels.cons del0 (Dels.cons del0 Dels.nil)) rfl fun _ _ => oP (P_pickT rfl hg11B rfl) rfl <| oM rfl rfl <| RJ_splitP 85 rfl Iff.rfl (fun hg12B hg12 => ?_) (fun hg12B hg12 => ?_)
       ·
        replace h := ite_t hg12 h
        refine gP (GY_yes rfl rfl rfl hg12B) (P_move rfl) rfl ?_
        obtain ⟨r72, hr73, h⟩ := bind_e h
        refine RJ_gy (GY_yes rfl rfl rfl hg12B) <| O_call (L_volumegroupmake_Owner_All hr73) rfl Tryz.call21 (Dels.cons del0 (Dels.cons del0 Dels.nil)) rfl fun _ _ => oP (P_pickT rfl hg12B rfl) rfl <| oA rfl rfl <| nT <| CJ_ret ?_
        cases h
        exact fE (res1 Tryz.results14 rfl) () (t0_ (t1_ eR))
       ·
        replace h := ite_f hg12 h
        refine RJ_gn (GY_no rfl rfl rfl hg12B) rfl rfl <| RJ_gn (GY_no rfl rfl rfl hg12B) rfl rfl <| oP (P_pickF rfl hg12B rfl) rfl <| oA rfl rfl <| nT <| CJ_ret ?_
        cases h
        exact fE (res1 Tryz.results14 rfl) () (t0_ (t1_ eR))
      ·
       replace h := ite_f hg11 h
       refine RJ_gn (GY_no rfl rfl rfl hg11B) rfl rfl <| RJ_gn (GY_no rfl rfl rfl hg11B) rfl rfl <| oP (P_pickF rfl hg11B rfl) rfl <| oM rfl rfl <| RJ_gn (GY_no rfl rfl rfl rfl) rfl rfl <| RJ_gn (GY_no rfl rfl rfl rfl) rfl rfl <| oP (P_pickF rfl rfl rfl) rfl <| oA rfl rfl <| nT <| CJ_ret ?_
       cases h
       exact fE (res1 Tryz.results14 rfl) () (t0_ (t1_ eR))
     ·
      replace h := ite_f hg10 h
      refine RJ_gn (GY_no rfl rfl rfl hg10B) rfl rfl <| RJ_gn (GY_no rfl rfl rfl hg10B) rfl rfl <| oP (P_pickF rfl hg10B rfl) rfl <| oM rfl rfl <| RJ_gn (GY_no rfl rfl rfl rfl) rfl rfl <| RJ_gn (GY_no rfl rfl rfl rfl) rfl rfl <| oP (P_pickF rfl rfl rfl) rfl <| oM rfl rfl <| RJ_gn (GY_no rfl rfl rfl rfl) rfl rfl <| RJ_gn (GY_no rfl rfl rfl rfl) rfl rfl <| oP (P_pickF rfl rfl rfl) rfl <| oA rfl rfl <| nT <| CJ_ret ?_
      cases h
      exact fE (res1 Tryz.results14 rfl) () (t0_ (t1_ eR))
   ·
    replace h := ite_f hg8 h
    refine RJ_gn (GY_no rfl rfl rfl hg8B) rfl rfl <| RJ_gn (GY_no rfl rfl rfl hg8B) rfl rfl <| RJ_gn (GY_no rfl rfl rfl hg8B) rfl rfl <| oP (P_pickF rfl hg8B rfl) rfl <| RJ_nil <| QJ_ent (Ent.trans (t1_ (t1_ (t1_ (t1_ (t1_ (t1_ (t1_ eR))))))) (OwnP_mk (v0 := a45.1.Open_1) (v1 := a45.1.X) (v2 := a45.1.T) (v3 := a45.1.Stale) (v4 := a45.1.Lost) (h0 := oc60.1) (h1 := oc60.2.1) (h2 := oc60.2.2.1) (h3 := oc60.2.2.2.1) (h4 := oc60.2.2.2.2.1) (h5 := oc60.2.2.2.2.2))) <| QJ_then <| CJ_condF rfl rfl <| kT <| sR <| oM rfl rfl ?_
    obtain ⟨r74, hr75, h⟩ := bind_e h
    refine oO <| O_call (L_volumegroupmake_Owner_All hr75) rfl Tryz.call21 (Dels.cons del0 (Dels.cons del0 Dels.nil)) rfl fun _ _ => oM rfl rfl <| RJ_splitP 77 rfl Iff.rfl (fun hg13B hg13 => ?_) (fun hg13B hg13 => ?_)
    ·
     replace h := ite_t hg13 h
     refine gP (GY_yes rfl rfl rfl hg13B) (P_move rfl) rfl ?_
     obtain ⟨r76, hr77, h⟩ := bind_e h
     refine RJ_gy (GY_yes rfl rfl rfl hg13B) <| O_call (L_volumegroupmake_Owner_Power hr77) rfl Tryz.call41 (Dels.cons del0 (Dels.cons del0 Dels.nil)) rfl fun _ _ => oP (P_pickT rfl hg13B rfl) rfl <| oM rfl rfl <| RJ_splitP 81 rfl Iff.rfl (fun hg14B hg14 => ?_) (fun hg14B hg14 => ?_)
     ·
      replace h := ite_t hg14 h
      refine gP (GY_yes rfl rfl rfl hg14B) (P_move rfl) rfl ?_
      obtain ⟨r78, hr79, h⟩ := bind_e h
      refine RJ_gy (GY_yes rfl rfl rfl hg14B) <| O_call (L_volumegroupmake_Owner_All hr79) rfl Tryz.call21 (Dels.cons del0 (Dels.cons del0 Dels.nil)) rfl fun _ _ => oP (P_pickT rfl hg14B rfl) rfl <| oM rfl rfl <| RJ_splitP 85 rfl Iff.rfl (fun hg15B hg15 => ?_) (fun hg15B hg15 => ?_)
      ·
       replace h := ite_t hg15 h
       refine gP (GY_yes rfl rfl rfl hg15B) (P_move rfl) rfl ?_
       obtain ⟨r80, hr81, h⟩ := bind_e h
       refine RJ_gy (GY_yes rfl rfl rfl hg15B) <| O_call (L_volumegroupmake_Owner_All hr81) rfl Tryz.call21 (Dels.cons del0 (Dels.cons del0 Dels.nil)) rfl fun _ _ => oP (P_pickT rfl hg15B rfl) rfl <| oA rfl rfl <| nT <| CJ_ret ?_
       cases h
       exact fE (res1 Tryz.results14 rfl) () (t0_ (t1_ eR))
      ·
       replace h := ite_f hg15 h
       refine RJ_gn (GY_no rfl rfl rfl hg15B) rfl rfl <| RJ_gn (GY_no rfl rfl rfl hg15B) rfl rfl <| oP (P_pickF rfl hg15B rfl) rfl <| oA rfl rfl <| nT <| CJ_ret ?_
       cases h
       exact fE (res1 Tryz.results14 rfl) () (t0_ (t1_ eR))
     ·
      replace h := ite_f hg14 h
      refine RJ_gn (GY_no rfl rfl rfl hg14B) rfl rfl <| RJ_gn (GY_no rfl rfl rfl hg14B) rfl rfl <| oP (P_pickF rfl hg14B rfl) rfl <| oM rfl rfl <| RJ_gn (GY_no rfl rfl rfl rfl) rfl rfl <| RJ_gn (GY_no rfl rfl rfl rfl) rfl rfl <| oP (P_pickF rfl rfl rfl) rfl <| oA rfl rfl <| nT <| CJ_ret ?_
      cases h
      exact fE (res1 Tryz.results14 rfl) () (t0_ (t1_ eR))
    ·
     replace h := ite_f hg13 h
     refine RJ_gn (GY_no rfl rfl rfl hg13B) rfl rfl <| RJ_gn (GY_no rfl rfl rfl hg13B) rfl rfl <| oP (P_pickF rfl hg13B rfl) rfl <| oM rfl rfl <| RJ_gn (GY_no rfl rfl rfl rfl) rfl rfl <| RJ_gn (GY_no rfl rfl rfl rfl) rfl rfl <| oP (P_pickF rfl rfl rfl) rfl <| oM rfl rfl <| RJ_gn (GY_no rfl rfl rfl rfl) rfl rfl <| RJ_gn (GY_no rfl rfl rfl rfl) rfl rfl <| oP (P_pickF rfl rfl rfl) rfl <| oA rfl rfl <| nT <| CJ_ret ?_
     cases h
     exact fE (res1 Tryz.results14 rfl) () (t0_ (t1_ eR))
end Go.Proofs
namespace Go.Proofs
open Go.VG
section
variable {C : PC} {V V' V1 : Nat → Nat → UInt64} {st fl z : Option Nat} {q q' q1 : UInt64} {e e' e1 : PE} {k i j d f a b : Nat} {mz : Nat → Bool} {F : Prop} {K K' : Nat} {s t u : ArrS} {v w : UInt64} {T : List Sec} {o : OwnS} {p : Bool}
theorem UPv.mono (h : UPv C st z mz K V q e o s) (hK : K ≤ K') : UPv C st z mz K' V q e o s := ⟨h.x, h.ow, h.en.mono hK, h.jv, by have := h.qk; omega, h.qs, h.ti, h.tl.mono hK⟩
theorem oallP_l1 {g : Bool} : ∀ (N a : Nat) (o : OwnS) (st : Option Nat), C.D - a < N → a ≤ C.D → UPv C st z mz K V q e o s → K ≤ 50000 →
    ∃ st' o', volumegroupmake_Owner_All_l1 g N o s a = some (.inl (o', s)) ∧ UPv C st' z mz K V q e o' s
  | 0, _, _, _, h, _, _, _ => absurd h (by omega)
  | N + 1, a, o, st, h, ha, hu, hK => by
    have hD := @PC.hD C
    have hun : volumegroupmake_Owner_All_l1 g (N + 1) o s a = volumegroupmake_Owner_All_l1_b g (volumegroupmake_Owner_All_l1 g N) o s a := rfl
    rw [hun]
    unfold volumegroupmake_Owner_All_l1_b
    rw [hu.tl.len]
    by_cases hlt : a < C.D
    · obtain ⟨st', o', h1, h2, -, -⟩ := oreadP hu hK hlt (g := g)
      rw [if_pos (by omega), h1]; simp only [Option.bind_some]
      rw [if_neg (by simp), grd_t (inN64_of (by omega))]
      exact oallP_l1 N (a + 1) o' st' (by omega) (by omega) h2 hK
    · rw [if_neg (by omega)]
      exact ⟨st, o, rfl, hu⟩
theorem oallP (h : UPv C st z mz K V q e o s) (hK : K ≤ 50000) {g : Bool} : ∃ st' o', volumegroupmake_Owner_All o g s = some (true, o', s) ∧ UPv C st' z mz K V q e o' s := by
  have hF := fuel_big
  have hD := @PC.hD C
  unfold volumegroupmake_Owner_All
  obtain ⟨st', o', h1, h2⟩ := oallP_l1 (g := g) FUEL 0 o st (by omega) (by omega) h hK
  rw [h1, seqO_inl]
  exact ⟨st', o', rfl, h2⟩
theorem UPv.dnv (h : UPv C st z mz K V q e o s) : DNv C st z mz K o s := ⟨h.ow, ⟨h.en.ok, h.en.ms, trivial⟩, h.tl, .inl ⟨V, q, e, h.jv, h.qk, h.qs, h.ti.ok⟩⟩
theorem Cs.drop {S : (Nat → Nat → UInt64) → Prop} (h : Cs C none K S s) : Cs C st K S s := h.imp (fun ⟨V, q, e, h1, h2, h3, h4⟩ => ⟨V, q, e, h1, h2, h3.drop, h4⟩) (fun ⟨V, q, e, V', q', e', h1, h2, h3, h4, h5⟩ => ⟨V, q, e, V', q', e', h1, h2, h3, h4.drop, h5⟩)
theorem Cs.rc {S : (Nat → Nat → UInt64) → Prop} (hK : K ≤ 900000) (h : Cs C st K S s) (hr : Restarted C.ns K' s t) : ∃ V q e, Rc C st V q e t ∧ JV C V q e ∧ q.toNat ≤ K ∧ S V := by
  rcases h with ⟨V, q, e, h1, h2, h3, h4⟩ | ⟨V, q, e, V', q', e', h1, h2, h3, h4, h5, h6⟩
  · exact ⟨V, q, e, .of_Q h3 hr, h1, h2, h4⟩
  · have hq := seq_add h1.sm
    have hq' : q'.toNat ≤ K := by rw [h3.q, hq]; exact h2
    rcases h4 with h4 | h4
    · rcases Rc.of_Hf h1 h3 h4 hr with y | y
      · exact ⟨V, q, e, y, h1, by omega, h5⟩
      · exact ⟨V', q', e', y, h3.jv (by omega), hq', h6⟩
    · exact ⟨V', q', e', .of_Fu (h3.ne h1.sm) h4 hr, h3.jv (by omega), hq', h6⟩
theorem TI.failed (htl : TL C K T) (h : ∀ a, a < C.D → vlP C V a ∈ (T.getD a s0).some) : TI C (failedT T) V ∧ TL C K (failedT T) := by
  have hx : ∀ a, a < C.D → (failedT T).getD a s0 = failX (T.getD a s0) := fun a ha => by unfold failedT; exact secMapP (by rw [htl.len]; exact ha)
  refine ⟨⟨fun a ha => by rw [hx a ha]; exact h a ha, fun a ha => by rw [hx a ha]; intro y; cases y⟩, ⟨by unfold failedT; rw [List.length_map]; exact htl.len, fun a ha => by rw [hx a ha]; exact htl.sm a ha⟩⟩
theorem PEn.any (h : PEn C mz False K s) : PEn C mz True K s := ⟨h.ok, h.dn, h.ms, fun y => absurd trivial y⟩
theorem opowerP (h : DNv C st z mz K o s) (hK : K ≤ 50000) (keep : UInt64) :
    ∃ st' V q e o' t, volumegroupmake_Owner_Power o keep s = some (true, o', t) ∧ UPv C st' z mz (K + 50) V q e o' t := by
  obtain ⟨ks, hks⟩ := keep_ok keep
  have hr := h.gn.ok.rs ks
  unfold volumegroupmake_Owner_Power
  rw [hks]; simp only [Option.bind_some]
  rw [grd_t (inLen_of (by have := h.gn.ok.wr; omega))]
  have he : PEn C mz False K (rsS s ks) := ⟨hr.ok, hr.dn, fun e => by rw [hr.miss]; exact h.gn.ms e, fun _ => hr.fuse⟩
  obtain ⟨st', V, q, e, t, h1, h2, h3, h4, h5, h6, -⟩ := begin_eq (o := { o with T := failedT o.T }) (S := fun V q => q.toNat ≤ K ∧ ∀ a, a < C.D → vlP C V a ∈ (o.T.getD a s0).some) he (by omega) (h.ow.set rfl rfl rfl) (by show (failedT o.T).length = _; unfold failedT; rw [List.length_map]; exact h.tl.len) (fun st' hst' => by
    have hc : Cs C st' K (fun V => ∀ a, a < C.D → vlP C V a ∈ (o.T.getD a s0).some) s := by
      rcases hst' with rfl | rfl
      · exact h.cr
      · rcases h.ow.sz with y | y
        · have := h.cr
          rw [y] at this; exact this.drop
        · have := h.cr
          rw [y] at this; exact this
    obtain ⟨V, q, e, r1, r2, r3, r4⟩ := hc.rc (by omega) hr
    exact ⟨V, q, e, r1, r2, r3, r4⟩)
  rw [h1]
  obtain ⟨t1, t2⟩ := TI.failed h.tl h6.2
  exact ⟨st', V, q, e, _, t, rfl, ⟨rfl, h2, (h3.any).mono (by omega), h4, by have := h6.1; omega, h5, t1, t2.mono (by omega)⟩⟩
theorem oloseP (h : UPv C st none mz K V q e o s) (hk : k < C.L) : ∃ o', volumegroupmake_Owner_Lose o (k : Int) (k : Int) s = some (true, o', smS s k true) ∧ UPv C none (some k) (fun e => if e = k then true else mz e) K V q e o' (smS s k true) := by
  have hst : st = none := h.ow.sz.elim id id
  subst hst
  have hmz : ∀ i, mz i = false := fun i => by
    cases hm : mz i
    · rfl
    · exact absurd (h.ow.mzz i hm) (by simp)
  obtain ⟨f1, f2, f3, f4, f5, f6, f7⟩ := smS_facts h.en.ok (k := k) (by rw [PC.len]; exact hk)
  unfold volumegroupmake_Owner_Lose
  rw [show o.Lost = [] from h.ow.lost, addL_nil]; simp only [Option.bind_some]
  rw [f1, decide_eq_true rfl]
  refine ⟨_, rfl, ⟨h.x, ⟨h.ow.o1, h.ow.stl, rfl, fun i hi => ?_, .inl rfl, fun j hj => ?_⟩, ⟨f2, by rw [f6]; exact h.en.dn, fun e => by rw [f3, h.en.ms e], fun y => absurd trivial y⟩, h.jv, h.qk, fun d hd hds => (h.qs d hd hds).sam ⟨f4, f5⟩, h.ti, h.tl⟩⟩
  · by_cases y : i = k
    · rw [y]
    · rw [if_neg y, hmz] at hi; cases hi
  · cases hj; exact hk
theorem UPv.fuse (h : UPv C st z mz K V q e o s) {n : Nat} : UPv C st z mz K V q e o { s with fuse := n } := ⟨h.x, h.ow, ⟨h.en.ok.fuse, h.en.dn, h.en.ms, fun y => absurd trivial y⟩, h.jv, h.qk, fun d hd hds => (h.qs d hd hds).frame (fun _ => rfl) (fun _ _ => rfl), h.ti, h.tl⟩
theorem ostepP (h : UPv C st z mz K V q e o s) (hK : K ≤ 40000) (x : volumegroupmake_Step) :
    ∃ st' V' q' e' o' t, volumegroupmake_Owner_Step o x s = some (true, o', t) ∧ UPv C st' z mz (K + 100) V' q' e' o' t := by
  have hD := @PC.hD C
  obtain ⟨a, a1, a2, a3, a4⟩ := at_ok x.At (n := C.D) (by omega) (by omega)
  unfold volumegroupmake_Owner_Step
  rw [h.tl.len, grd_t (decide_eq_true (by omega)), grd_t (inI64_of (by omega)), grd_t (decide_eq_true (by omega)), a1]
  unfold lt
  simp only []
  -- what the request leads to
  have key : ∃ er o1 s1 , ((
    if (x.Kind = (0 : Int)) then
      Option.bind (volumegroupmake_Owner_Write o (a : Int) x.Value s) fun r17 =>
      some (r17.1, r17.2.1, r17.2.2.1, r17.2.2.2)
    else
      if (x.Kind = (1 : Int)) then
        Option.bind (volumegroupmake_Owner_Read o (a : Int) false s) fun r19 =>
        some (r19.1, r19.2.1, r19.2.2.1, r19.2.2.2)
      else
        if (x.Kind = (2 : Int)) then
          Option.bind (volumegroupmake_Owner_Flush o s) fun r21 =>
          some (r21.1, r21.2.1, r21.2.2.1, r21.2.2.2)
        else
          if (x.Kind = (3 : Int)) then
            some (((5 : Int), true, o, s))
          else
            if (x.Kind = (4 : Int)) then
              grd (inI64 (((1 : Int) + (a : Int)))) <|
              grd (inI64 (((1 : Int) + (a : Int)))) <|
              some (((0 : Int), true, o, { s with fuse := (((1 : Int) + (a : Int))).toNat }))
            else
              some (((0 : Int), true, o, s)) : Option (Int × Bool × OwnS × ArrS))) = some (er, true, o1, s1) ∧ (er = 0 ∧ (∃ st' V' q' e', UPv C st' z mz (K + 50) V' q' e' o1 s1) ∨ er = 5 ∧ ∃ st', DNv C st' z mz (K + 50) o1 s1) := by
    by_cases k0 : x.Kind = 0
    · rw [if_pos k0]
      rcases owriteP (w := x.Value) h (by omega) a2 with ⟨st', V', q', e', o', t, h1, h2, -⟩ | ⟨st', o', t, h1, h2, -⟩
      · rw [h1]; exact ⟨_, _, _, rfl, .inl ⟨rfl, st', V', q', e', h2⟩⟩
      · rw [h1]; exact ⟨_, _, _, rfl, .inr ⟨rfl, st', h2⟩⟩
    · rw [if_neg k0]
      by_cases k1 : x.Kind = 1
      · rw [if_pos k1]
        obtain ⟨st', o', h1, h2, -, -⟩ := oreadP h (by omega) a2 (g := false)
        rw [h1]; exact ⟨_, _, _, rfl, .inl ⟨rfl, st', V, q, e, h2.mono (by omega)⟩⟩
      · rw [if_neg k1]
        by_cases k2 : x.Kind = 2
        · rw [if_pos k2]
          obtain ⟨st', o', t, h1, h2, -⟩ := oflushP h (by omega)
          rw [h1]; exact ⟨_, _, _, rfl, .inl ⟨rfl, st', V, q, e, h2.mono (by omega)⟩⟩
        · rw [if_neg k2]
          by_cases k3 : x.Kind = 3
          · rw [if_pos k3]
            exact ⟨_, _, _, rfl, .inr ⟨rfl, st, (h.mono (by omega)).dnv⟩⟩
          · rw [if_neg k3]
            by_cases k4 : x.Kind = 4
            · rw [if_pos k4, grd_t (inI64_of (by omega)), grd_t (inI64_of (by omega))]
              exact ⟨_, _, _, rfl, .inl ⟨rfl, st, V, q, e, (h.mono (by omega)).fuse⟩⟩
            · rw [if_neg k4]
              exact ⟨_, _, _, rfl, .inl ⟨rfl, st, V, q, e, h.mono (by omega)⟩⟩
  obtain ⟨er, o1, s1, h1, h2⟩ := key
  rw [h1]; simp only [Option.bind_some]
  rw [if_neg (by simp)]
  rcases h2 with ⟨rfl, st', V', q', e', h2⟩ | ⟨rfl, st', h2⟩
  · rw [if_pos (by decide)]
    exact ⟨st', V', q', e', o1, s1, rfl, h2.mono (by omega)⟩
  · rw [if_neg (by decide)]
    obtain ⟨st2, V2, q2, e2, o2, s2, g1, g2⟩ := opowerP h2 (by omega) x.Keep
    rw [g1]; simp only [Option.bind_some]
    rw [if_pos trivial]
    unfold volumegroupmake_Owner_Settled
    obtain ⟨st3, o3, g3, g4⟩ := oallP g2 (by omega) (g := true)
    rw [g3]; simp only [Option.bind_some]
    exact ⟨st3, V2, q2, e2, o3, s2, rfl, g4.mono (by omega)⟩
theorem oplay_l1 {l : List volumegroupmake_Step} {lose : Int} (hk : k < C.L) (hl : l.length ≤ 24) : ∀ (N i : Nat) (o : OwnS) (s : ArrS) (st z : Option Nat) (mz : Nat → Bool) (V : Nat → Nat → UInt64) (q : UInt64) (e : PE), l.length - i < N → i ≤ l.length → UPv C st z mz (1000 + 200 * i) V q e o s → (z = none ∨ z = some k ∧ lose < (i : Int) ∧ 0 ≤ lose) →
    ∃ o' t st' z' mz' V' q' e', volumegroupmake_Owner_Play_l1 l lose (k : Int) (k : Int) N o s i = some (.inl (o', t)) ∧ UPv C st' z' mz' (1000 + 200 * 24) V' q' e' o' t ∧ (z' = none ∨ z' = some k ∧ 0 ≤ lose)
  | 0, _, _, _, _, _, _, _, _, _, h, _, _, _ => absurd h (by omega)
  | N + 1, i, o, s, st, z, mz, V, q, e, h, hi, hu, hz => by
    have hun : volumegroupmake_Owner_Play_l1 l lose (k : Int) (k : Int) (N + 1) o s i = volumegroupmake_Owner_Play_l1_b l lose (k : Int) (k : Int) (volumegroupmake_Owner_Play_l1 l lose (k : Int) (k : Int) N) o s i := rfl
    rw [hun]
    unfold volumegroupmake_Owner_Play_l1_b
    by_cases hlt : i < l.length
    · rw [if_pos (by omega)]
      by_cases hlo : (i : Int) = lose
      · have hz0 : z = none := hz.elim id (fun y => by omega)
        subst hz0
        obtain ⟨o1, h1, h2⟩ := oloseP hu hk
        rw [if_pos hlo, h1]; simp only [Option.bind_some]
        rw [if_neg (by simp)]
        obtain ⟨st', V', q', e', o2, t, g1, g2⟩ := ostepP h2 (by omega) (l.getD i (⟨0, 0, 0, 0⟩ : volumegroupmake_Step))
        rw [g1]; simp only [Option.bind_some]
        rw [if_neg (by simp)]
        exact oplay_l1 hk hl N (i + 1) o2 t _ _ _ _ _ _ (by omega) (by omega) (g2.mono (by omega)) (.inr ⟨rfl, by omega, by omega⟩)
      · rw [if_neg hlo]
        obtain ⟨st', V', q', e', o2, t, g1, g2⟩ := ostepP hu (by omega) (l.getD i (⟨0, 0, 0, 0⟩ : volumegroupmake_Step))
        rw [g1]; simp only [Option.bind_some]
        rw [if_neg (by simp)]
        exact oplay_l1 hk hl N (i + 1) o2 t _ _ _ _ _ _ (by omega) (by omega) (g2.mono (by omega)) (hz.imp id (fun y => ⟨y.1, by omega, y.2.2⟩))
    · rw [if_neg (by omega)]
      exact ⟨o, s, st, z, mz, V, q, e, rfl, hu.mono (by omega), hz.imp id (fun y => ⟨y.1, y.2.2⟩)⟩
theorem oplayP {l : List volumegroupmake_Step} {lose : Int} (hk : k < C.L) (hl : l.length ≤ 24) (ho : OwI C st z mz o) (hz : z = none) (he : PEn C mz False 500 s) (hT : TL C 500 o.T) (hrc : Rc C st V q e s) (hj : JV C V q e) (hqk : q.toNat ≤ 500) (hti : TI C o.T V) :
    ∃ o' t st' z' mz' V' q' e', volumegroupmake_Owner_Play o l lose (k : Int) (k : Int) s = some (true, o', t) ∧ UPv C st' z' mz' 20000 V' q' e' o' t ∧ (z' = none ∨ z' = some k ∧ 0 ≤ lose) := by
  have hF := fuel_big
  have hD := @PC.hD C
  subst hz
  have hst : st = none := ho.sz.elim id id
  subst hst
  obtain ⟨st', V1, q1, e1, t, h1, h2, h3, h4, h5, ⟨rfl, rfl⟩, -⟩ := begin_eq (S := fun V' q' => V' = V ∧ q' = q) he (by omega) ho hT.len (fun st' hst' => by
    have : st' = none := hst'.elim id id
    subst this
    exact ⟨V, q, e, hrc, hj, rfl, rfl⟩)
  have hu : UPv C st' none mz (1000 + 200 * 0) V1 q1 e1 { o with X := some (vol C st' none q1 e1 false 0), Stale := stL st' } t := ⟨rfl, h2, h3.any.mono (by omega), h4, by omega, h5, hti, hT.mono (by omega)⟩
  unfold volumegroupmake_Owner_Play
  rw [h1]; simp only [Option.bind_some]
  rw [if_neg (by rw [show ({ o with X := some (vol C st' none q1 e1 false 0), Stale := stL st' } : OwnS).T = o.T from rfl, hT.len]; simp; omega)]
  obtain ⟨o2, t2, st2, z2, mz2, V2, q2, e2, g1, g2, g3⟩ := oplay_l1 (lose := lose) hk hl FUEL 0 _ t _ _ _ _ _ _ (by omega) (by omega) hu (.inl rfl)
  rw [g1, seqO_inl, grd_t (inI64_of (by omega))]
  have g4 : UPv C st2 z2 mz2 (1000 + 200 * 24) V2 q2 e2 o2 { t2 with fuse := (0 : Int).toNat } := g2.fuse
  rw [if_neg (show ¬ ({ t2 with fuse := (0 : Int).toNat } : ArrS).down = true by rw [g4.en.dn]; simp)]
  obtain ⟨st3, o3, k1, k2⟩ := oallP g4 (by omega) (g := false)
  rw [k1]; simp only [Option.bind_some]
  rw [if_pos trivial]
  obtain ⟨st4, V4, q4, e4, o4, t4, k3, k4⟩ := opowerP k2.dnv (by omega) 0
  rw [k3]; simp only [Option.bind_some]
  rw [if_pos trivial]
  obtain ⟨st5, o5, k5, k6⟩ := oallP k4 (by omega) (g := true)
  rw [k5]; simp only [Option.bind_some]
  rw [if_pos trivial]
  obtain ⟨st6, o6, k7, k8⟩ := oallP k6 (by omega) (g := true)
  rw [k7]
  exact ⟨o6, t4, st6, z2, mz2, V4, q4, e4, rfl, k8.mono (by omega), g3⟩
end
end Go.Proofs
set_option linter.unusedSimpArgs false
set_option linter.unusedVariables false
set_option maxRecDepth 20000
set_option maxHeartbeats 4000000
namespace Go.Proofs
open Go.VG
theorem bld_37_0_1_3 (v0 : (Option Addr)) (v1 : Fn) (v2 : (Array Value)) (v3 : (Array Value)) (v4 : (Option Addr)) : ∀ w, (Instr.build 37 (#[(0, .pointer v0), (1, .func v1 v2 v3), (3, .pointer v4)] : Array (Nat × Value))).run Tryz.prog w = .ok (.agg #[.pointer v0, .func v1 v2 v3, .nilIface, .pointer v4, .slice none 0 0, .slice none 0 0]) w := fun w => by kernel_rfl
def volumegrouplaw19_open (a : ArrS) (chunk : Int) : Option (Int) :=
  some chunk
def volumegrouplaw19_open_v (a : ArrS) (chunk : Int) : Int := chunk
theorem L_volumegrouplaw19_open {W : World} {ba : Nat} {a : ArrS} {chunk : Int} {r : Int} (h : volumegrouplaw19_open a chunk = some r) :
    CSpec Tryz.prog W 46 [ptr ba 0, .int .i64 chunk] [Arr ba a] (fun x : Nat × Nat => .func (.func 97) #[] #[ptr x.1 0, ptr x.2 0]) (fun _ => True) (fun x F => Arr ba a :: blk x.1 30 [ptr ba 0] :: blk x.2 3 [.int .i64 r] :: F) := by
 refine CSpec.of_body Tryz.func46 rfl Tryz.ntmps46 rfl fun F => ?_
 show CJ _ _ _ _ _ _ (_ :: F)
 unfold volumegrouplaw19_open at h
 refine sR <| oO <| O_box rfl rfl rfl fun b1 => oO <| O_box rfl rfl rfl fun b2 => oA rfl rfl <| nT <| sR <| oP (P_makeFunc rfl rfl) rfl <| oA rfl rfl <| nT <| CJ_ret ?_
 cases h
 exact fE (res1 Tryz.results46 rfl) ⟨b1, b2⟩ (t2_ (t1_ eR))
def volumegrouplaw19_begun_l1_b (legs : Int) (rows : Int) (chunk : Int) (rec : (List Int) → Nat → Option ((List Int))) (x8 : List Int) (x10 : Nat) : Option ((List Int)) :=
  if (((x10 : Nat) : Int) < legs) then
    grd (inI64 (rows * chunk)) <|
    grd (inI64 (((16 : Int) + (rows * chunk)))) <|
    grd (inLen (x8.length + 1)) <|
    grd (inN64 (x10 + 1)) <|
    rec ((x8 ++ [((16 : Int) + (rows * chunk))])) (x10 + 1)
  else
    some x8
def volumegrouplaw19_begun_l1 (legs : Int) (rows : Int) (chunk : Int) : Nat → (List Int) → Nat → Option ((List Int))
  | 0, _, _ => none
  | n + 1, x8, x10 => volumegrouplaw19_begun_l1_b legs rows chunk (volumegrouplaw19_begun_l1 legs rows chunk n) x8 x10
def volumegrouplaw19_begun (legs : Int) (rows : Int) (chunk : Int) : Option ((Option OwnS) × (Option ArrS)) :=
  Option.bind (volumegrouplaw19_begun_l1 legs rows chunk FUEL ([]) 0) fun a7 =>
  grd (inLen a7.length) <|
  if ((newC a7) ≠ (0 : Int)) then
    some (none, none)
  else
    Option.elim (newO a7) (
      some (none, none)) fun o25 =>
    Option.bind (volumegroupmake_Spans o25) fun r26 =>
    Option.bind (parityvol_Format r26 chunk o25) fun r32 =>
    if (r32.1 ≠ (0 : Int)) then
      some (none, none)
    else
      if (((r32.2.log.length : Nat) : Int) ≠ (0 : Int)) then
        some (none, none)
      else
        grd (inI64 ((legs - (1 : Int)))) <|
        grd (inI64 (((legs - (1 : Int)) * rows))) <|
        grd (inI64 ((((legs - (1 : Int)) * rows) * chunk))) <|
        grd (decide (0 ≤ (((legs - (1 : Int)) * rows) * chunk) ∧ (((legs - (1 : Int)) * rows) * chunk) ≤ 1000000000)) <|
        grd (decide (((List.replicate (((((legs - (1 : Int)) * rows) * chunk)).toNat) (0 : UInt64))).length ≤ 65536)) <|
        some (((some ((⟨(volumegrouplaw19_open_v r32.2 chunk), none, (trkT ((List.replicate (((((legs - (1 : Int)) * rows) * chunk)).toNat) (0 : UInt64)))), [], []⟩ : OwnS))), (some r32.2)))
theorem L_volumegrouplaw19_begun {W : World} {legs : Int} {rows : Int} {chunk : Int} {r : (Option OwnS) × (Option ArrS)} (h : volumegrouplaw19_begun legs rows chunk = some r) :
    CSpec Tryz.prog W 13 [.int .i64 legs, .int .i64 rows, .int .i64 chunk] [] (fun x : Nat × Nat => oval r.1 x.1) (fun _ => True) (fun x F => optP (OwnP x.2 x.1) r.1 :: optP (Arr x.2) r.2 :: F) := by
 refine CSpec.of_body Tryz.func13 rfl Tryz.ntmps13 rfl fun F => ?_
 show CJ _ _ _ _ _ _ (F)
 unfold volumegrouplaw19_begun at h
 refine sR <| oA rfl rfl <| nT <| sR <| oA rfl rfl <| nT <| CJ_seq <| sR <| oA rfl rfl <| nT <| CJ_ent (fun h hh => sl_nil (t := tyI) h hh) ?_
 obtain ⟨y4, hl2, hK3⟩ := bind_c h
 refine CJ_cutT (X := (List Int) × Sl3) [7, 8, 11, 12, 13, 14, 15, 16, 17, 18, 19, 20, 21, 22] (fun ⟨a7, hd6⟩ => ([(7, hd6.v)] : Slots)) (fun ⟨a7, hd6⟩ R => sl tyI hd6.v a7 :: R) (fun ⟨a7, hd6⟩ => y4 = a7) (Dels.cons del0 Dels.nil) ?_ ?_
 ·
  refine CJ_block <| CJ_loopR (X := Nat × (List Int) × Nat × Sl3) [7, 8, 11, 12, 13, 14, 15, 16, 17, 18, 19, 20, 21, 22] (fun ⟨n, x8, x10, hd9⟩ => ([(7, hd9.v), (8, .int .i64 (((x10 : Nat) : Int)))] : Slots)) (fun ⟨n, x8, x10, hd9⟩ R => sl tyI hd9.v x8 :: R) (fun ⟨n, x8, x10, hd9⟩ => volumegrouplaw19_begun_l1 legs rows chunk n x8 x10 = some y4) (fun ⟨n, x8, x10, hd9⟩ => n) ⟨FUEL, [], 0, ⟨none, 0, 0⟩⟩ ?_ ?_ eR ?_
  · exact hl2
  · exact ⟨rfl, rfl, True.intro⟩
  ·
   rintro ⟨n, x8, x10, hd9⟩ h
   cases n with
   | zero => exact none_e h
   | succ n => ?_
   replace h : volumegrouplaw19_begun_l1_b legs rows chunk (volumegrouplaw19_begun_l1 legs rows chunk n) x8 x10 = some y4 := h
   unfold volumegrouplaw19_begun_l1_b at h
   show CJ _ _ _ _ _ (([(7, hd9.v), (8, .int .i64 (((x10 : Nat) : Int)))] : Slots) ++ forget _ _) (sl tyI hd9.v x8 :: _)
   refine lC del0 fun hlen11 => CJ_seq <| sR <| oM rfl rfl <| oM rfl rfl <| oP (P_lss (a := ((x10 : Nat) : Int)) (b := legs) rfl rfl) rfl <| nT <| CJ_condP rfl bT_dec (fun hg1 => ?_) (fun hg1 => ?_)
   ·
    replace h := ite_t hg1 h
    refine kT <| CJ_seq <| CJ_block <| CJ_region <| oM rfl rfl <| oM rfl rfl <| oM rfl rfl ?_
    obtain ⟨hg2, h⟩ := grd_Ie h
    refine oP (P_mul (a := rows) (b := chunk) rfl rfl hg2) rfl ?_
    obtain ⟨hg3, h⟩ := grd_Ie h
    refine oP (P_add (a := (16 : Int)) (b := (rows * chunk)) rfl rfl hg3) rfl <| oO <| O_buildSlice rfl (bs_35_1_0 _) rfl fun b12 => ?_
    obtain ⟨hg4, h⟩ := grd_Le h
    refine oO <| O_append (t := tyI) (bytes := 8) rfl rfl del1 foc0 (Reads.lit (t := tyI) (ys := [((16 : Int) + (rows * chunk))]) rfl rfl (by decide) (by decide) rfl) Tryz.underlying35 ok_tyI (apl (m := 1) (b := 8) hg4 (by decide)).1 (apl (m := 1) (b := 8) hg4 (by decide)).2 rfl fun p14 c15 => oA rfl rfl <| RJ_nil <| QJ_block_normal <| QJ_then <| CJ_region <| oM rfl rfl ?_
    obtain ⟨hg5, h⟩ := grd_Ne h
    exact oP (PJ_eq (P_add (a := ((x10 : Nat) : Int)) (b := (1 : Int)) rfl rfl (nat_in hg5)) rfl) rfl <| oA rfl rfl <| RJ_nil <| nR ⟨n, (x8 ++ [((16 : Int) + (rows * chunk))]), (x10 + 1), ⟨p14, (x8 ++ [((16 : Int) + (rows * chunk))]).length, c15⟩⟩ h ⟨rfl, rfl, True.intro⟩ (t0_ (eD eR))
   ·
    replace h := ite_f hg1 h
    exact CJ_exit <| QJ_then_exit <| QJ_round_exit <| QJ_block_here <| cR ⟨x8, hd9⟩ (Option.some.inj h).symm ⟨rfl, True.intro⟩ eR
 ·
  rintro ⟨a7, hd6⟩ hy16
  replace h := bindK_at hK3 hy16
  show CJ _ _ _ _ _ (([(7, hd6.v)] : Slots) ++ forget _ _) (sl tyI hd6.v a7 :: _)
  refine lC del0 fun hlen17 => sR <| oM rfl rfl ?_
  obtain ⟨hg6, h⟩ := grd_Le h
  refine oO <| O_call (c_NewO (Reads.sl _ _ _) hg6) rfl Tryz.call23 (Dels.cons del0 Dels.nil) rfl fun X18 _ => oM rfl rfl <| oP (P_extract rfl rfl) rfl <| oP (P_extract rfl rfl) rfl <| oA rfl rfl <| oA rfl rfl <| nT <| CJ_seq <| sR <| oM rfl rfl <| oP (P_neq (a := (newC a7)) (b := (0 : Int)) rfl rfl) rfl <| oM rfl rfl <| RJ_mbF rfl rfl rfl (fun hG20 => have hP21 : ¬ ((newC a7) ≠ (0 : Int)) := nP (bT_dec) hG20; VJ_P (P_move rfl)) <| RJ_splitP 30 rfl bT_dec (fun hg7B hg7 => ?_) (fun hg7B hg7 => ?_)
  ·
   replace h := ite_t hg7 h
   refine RJ_gn (GY_no rfl rfl rfl hg7B) rfl rfl <| oP (P_pickT rfl hg7B rfl) rfl <| oM rfl rfl <| RJ_gn (GY_no rfl rfl rfl rfl) rfl rfl <| RJ_gn (GY_no rfl rfl rfl rfl) rfl rfl <| RJ_gn (GY_no rfl rfl rfl rfl) rfl rfl <| RJ_gn (GY_no rfl rfl rfl rfl) rfl rfl <| RJ_gn (GY_no rfl rfl rfl rfl) rfl rfl <| oP (P_pickT rfl rfl rfl) rfl <| oM rfl rfl <| RJ_gn (GY_no rfl rfl rfl rfl) rfl rfl <| RJ_gn (GY_no rfl rfl rfl rfl) rfl rfl <| RJ_gn (GY_no rfl rfl rfl rfl) rfl rfl <| oP (P_pickT rfl rfl rfl) rfl <| nT <| CJ_condT rfl rfl <| sR <| oA rfl rfl <| nT <| CJ_ret <| QJ_then_ret ?_
   cases h
   exact fE (res1 Tryz.results13 rfl) ⟨0, 0⟩ (Ent.trans (fun h hh => optP_none h hh) <| t0_ (Ent.trans (fun h hh => optP_none h hh) <| t0_ (eD (eD eR))))
  ·
   replace h := ite_f hg7 h
   rcases opt_e h with ⟨ht24, h⟩ | ⟨o25, ht24, h⟩
   ·
    rw [ht24]
    refine RJ_ent (t1_ (eD eR)) <| gP (GY_yes rfl rfl rfl hg7B) (P_eqlNN (mbx (not_f hg7B) rfl) rfl Tryz.underlying30) rfl <| oP (P_pickF rfl hg7B rfl) rfl <| oM rfl rfl <| RJ_gn (GY_no rfl rfl rfl rfl) rfl rfl <| RJ_gn (GY_no rfl rfl rfl rfl) rfl rfl <| RJ_gn (GY_no rfl rfl rfl rfl) rfl rfl <| RJ_gn (GY_no rfl rfl rfl rfl) rfl rfl <| RJ_gn (GY_no rfl rfl rfl rfl) rfl rfl <| oP (P_pickT rfl rfl rfl) rfl <| oM rfl rfl <| RJ_gn (GY_no rfl rfl rfl rfl) rfl rfl <| RJ_gn (GY_no rfl rfl rfl rfl) rfl rfl <| RJ_gn (GY_no rfl rfl rfl rfl) rfl rfl <| oP (P_pickT rfl rfl rfl) rfl <| nT <| CJ_condT rfl rfl <| sR <| oA rfl rfl <| nT <| CJ_ret <| QJ_then_ret ?_
    cases h
    exact fE (res1 Tryz.results13 rfl) ⟨0, 0⟩ (Ent.trans (fun h hh => optP_none h hh) <| t0_ (Ent.trans (fun h hh => optP_none h hh) <| t0_ (eD eR)))
   ·
    rw [ht24]
    refine RJ_ent (Ent.takeC (A' := Arr X18 o25) del0 rfl eR) <| gP (GY_yes rfl rfl rfl hg7B) (P_eqlPN (mbx (not_f hg7B) rfl) rfl Tryz.underlying30) rfl <| oP (P_pickF rfl hg7B rfl) rfl <| oM rfl rfl <| gP (GY_yes rfl rfl rfl rfl) (P_move rfl) rfl ?_
    obtain ⟨r26, hr27, h⟩ := bind_e h
    refine RJ_gy (GY_yes rfl rfl rfl rfl) <| O_call (L_volumegroupmake_Spans hr27) rfl Tryz.call24 (Dels.cons del0 Dels.nil) rfl fun X28 _ => RJ_pure (fun h hh => Rs_len (stars_perm (del2 (A := Rs (DevP X18) r26 X28.2)).out h hh)) fun hdl31 => gP (GY_yes rfl rfl rfl rfl) (P_move rfl) rfl ?_
    obtain ⟨r32, hr33, h⟩ := bind_e h
    refine RJ_gy (GY_yes rfl rfl rfl rfl) <| O_call (L_parityvol_Format (Reads.sl _ _ _) hr33) rfl Tryz.call25 (Dels.cons del1 (Dels.cons del1 (Dels.cons del0 Dels.nil))) rfl fun _ _ => gP (GY_yes rfl rfl rfl rfl) (P_neq (a := r32.1) (b := (0 : Int)) rfl rfl) rfl <| oP (P_pickF rfl rfl rfl) rfl <| oM rfl rfl <| RJ_splitP 41 rfl bT_dec (fun hg8B hg8 => ?_) (fun hg8B hg8 => ?_)
    ·
     replace h := ite_t hg8 h
     refine RJ_gn (GY_no rfl rfl rfl hg8B) rfl rfl <| RJ_gn (GY_no rfl rfl rfl hg8B) rfl rfl <| RJ_gn (GY_no rfl rfl rfl hg8B) rfl rfl <| oP (P_pickT rfl hg8B rfl) rfl <| nT <| CJ_condT rfl rfl <| sR <| oA rfl rfl <| nT <| CJ_ret <| QJ_then_ret ?_
     cases h
     exact fE (res1 Tryz.results13 rfl) ⟨0, 0⟩ (Ent.trans (fun h hh => optP_none h hh) <| t0_ (Ent.trans (fun h hh => optP_none h hh) <| t0_ (eD (eD (eD (eD eR))))))
    ·
     replace h := ite_f hg8 h
     refine gP (GY_yes rfl rfl rfl hg8B) (P_move rfl) rfl <| RJ_gy (GY_yes rfl rfl rfl hg8B) <| O_call (c_Unflushed) rfl Tryz.call45 (Dels.cons del2 Dels.nil) rfl fun _ _ => gP (GY_yes rfl rfl rfl hg8B) (P_neq (a := ((r32.2.log.length : Nat) : Int)) (b := (0 : Int)) rfl rfl) rfl <| oP (P_pickF rfl hg8B rfl) rfl <| nT <| CJ_condP rfl bT_dec (fun hg9 => ?_) (fun hg9 => ?_)
     ·
      replace h := ite_t hg9 h
      refine sR <| oA rfl rfl <| nT <| CJ_ret <| QJ_then_ret ?_
      cases h
      exact fE (res1 Tryz.results13 rfl) ⟨0, 0⟩ (Ent.trans (fun h hh => optP_none h hh) <| t0_ (Ent.trans (fun h hh => optP_none h hh) <| t0_ (eD (eD (eD (eD eR))))))
     ·
      replace h := ite_f hg9 h
      refine kT <| CJ_seq <| AJ_startH 11272 (by kernel_rfl) rfl <| aN 0 1 rfl rfl (P_move rfl) rfl <| aN 1 3 rfl rfl (P_move rfl) rfl <| aN 2 7 rfl rfl (P_move rfl) rfl <| aN 4 23 rfl rfl (P_move rfl) rfl ?_
      obtain ⟨hg10, h⟩ := grd_Ie h
      refine aN 5 55 rfl rfl (P_sub (a := legs) (b := (1 : Int)) rfl rfl hg10) rfl <| aN 6 119 rfl rfl (P_move rfl) rfl ?_
      obtain ⟨hg11, h⟩ := grd_Ie h
      refine aN 7 247 rfl rfl (P_mul (a := (legs - (1 : Int))) (b := rows) rfl rfl hg11) rfl <| aN 8 503 rfl rfl (P_move rfl) rfl ?_
      obtain ⟨hg12, h⟩ := grd_Ie h
      refine aN 9 1015 rfl rfl (P_mul (a := ((legs - (1 : Int)) * rows)) (b := chunk) rfl rfl hg12) rfl <| AJ_two 3 10 1023 2039 rfl rfl (by kernel_rfl) rfl rfl (GY_none rfl) (GY_none rfl) ?_ ?_
      ·
       refine O_call (L_volumegrouplaw19_open (rfl : volumegrouplaw19_open r32.2 chunk = some (volumegrouplaw19_open_v r32.2 chunk))) rfl Tryz.call46 (Dels.cons del0 Dels.nil) rfl fun X154 _ => ⟨fun h => absurd h (by decide), ?_⟩
       obtain ⟨hg13, h⟩ := grd_de h
       refine AJ_op 10 2047 rfl (by kernel_rfl) rfl (GY_none rfl) <| O_make (t := tyU) (m := ((((legs - (1 : Int)) * rows) * chunk)).toNat) (x0 := 0) (z := _) (bytes := _) rfl rfl (Int.toNat_of_nonneg (hg13.1)).symm (Int.toNat_of_nonneg (hg13.1)).symm Tryz.underlying43 ⟨Tryz.t44, by kernel_rfl, rfl, rfl, rfl⟩ rfl (by omega) (by decide) rfl fun b434 => ⟨fun h => absurd h (by decide), ?_⟩
       obtain ⟨hg14, h⟩ := grd_de h
       refine AJ_op 11 4095 rfl (by kernel_rfl) rfl (GY_none rfl) <| O_call (c_Tracked (Reads.sl _ _ _) hg14) rfl Tryz.call47 (Dels.cons del0 Dels.nil) rfl fun X474 _ => ⟨fun h => absurd h (by decide), ?_⟩
       refine aN 12 8191 rfl rfl (P_build rfl (bld_37_0_1_3 _ _ _ _ _)) rfl <| AJ_op 13 16383 rfl (by kernel_rfl) rfl (GY_none rfl) <| O_box rfl rfl rfl fun b554 => ⟨fun h => absurd h (by decide), ?_⟩
       refine aN 14 32767 rfl rfl (P_assign rfl) rfl <| AJ_done (by kernel_rfl) <| QJ_ent (t0_ (t0_ (t1_ (t1_ (t1_ (eD (eD (eD (eD eR))))))))) <| QJ_then <| CJ_ret <| QJ_ent (fun h hh => sl_nil (t := tyI) h hh) <| QJ_ent (fun h hh => sl_nil (t := tyI) h hh) <| QJ_ent (Ent.trans (t2_ (t4_ (t4_ (Ent.trans (fun h hh => optP_none h hh) <| t0_ (t2_ (t1_ eR)))))) (OwnP_mk (v0 := (volumegrouplaw19_open_v r32.2 chunk)) (v1 := none) (v2 := (trkT ((List.replicate (((((legs - (1 : Int)) * rows) * chunk)).toNat) (0 : UInt64))))) (v3 := []) (v4 := []) (h0 := X154.1) (h1 := X154.2) (h2 := 0) (h3 := X474) (h4 := ⟨none, 0, 0⟩) (h5 := ⟨none, 0, 0⟩))) ?_
       cases h
       exact fE (res1 Tryz.results13 rfl) ⟨b554, X18⟩ eR
      ·
       obtain ⟨hg13, h⟩ := grd_de h
       refine O_make (t := tyU) (m := ((((legs - (1 : Int)) * rows) * chunk)).toNat) (x0 := 0) (z := _) (bytes := _) rfl rfl (Int.toNat_of_nonneg (hg13.1)).symm (Int.toNat_of_nonneg (hg13.1)).symm Tryz.underlying43 ⟨Tryz.t44, by kernel_rfl, rfl, rfl, rfl⟩ rfl (by omega) (by decide) rfl fun b434 => ⟨fun h => absurd h (by decide), ?_⟩
       refine AJ_op 3 2047 rfl (by kernel_rfl) rfl (GY_none rfl) <| O_call (L_volumegrouplaw19_open (rfl : volumegrouplaw19_open r32.2 chunk = some (volumegrouplaw19_open_v r32.2 chunk))) rfl Tryz.call46 (Dels.cons del1 Dels.nil) rfl fun X154 _ => ⟨fun h => absurd h (by decide), ?_⟩
       obtain ⟨hg14, h⟩ := grd_de h
       refine AJ_op 11 4095 rfl (by kernel_rfl) rfl (GY_none rfl) <| O_call (c_Tracked (Reads.sl _ _ _) hg14) rfl Tryz.call47 (Dels.cons del3 Dels.nil) rfl fun X474 _ => ⟨fun h => absurd h (by decide), ?_⟩
       refine aN 12 8191 rfl rfl (P_build rfl (bld_37_0_1_3 _ _ _ _ _)) rfl <| AJ_op 13 16383 rfl (by kernel_rfl) rfl (GY_none rfl) <| O_box rfl rfl rfl fun b554 => ⟨fun h => absurd h (by decide), ?_⟩
       refine aN 14 32767 rfl rfl (P_assign rfl) rfl <| AJ_done (by kernel_rfl) <| QJ_ent (t0_ (t0_ (t1_ (t1_ (t1_ (eD (eD (eD (eD eR))))))))) <| QJ_then <| CJ_ret <| QJ_ent (fun h hh => sl_nil (t := tyI) h hh) <| QJ_ent (fun h hh => sl_nil (t := tyI) h hh) <| QJ_ent (Ent.trans (t2_ (t4_ (t4_ (Ent.trans (fun h hh => optP_none h hh) <| t0_ (t2_ (t1_ eR)))))) (OwnP_mk (v0 := (volumegrouplaw19_open_v r32.2 chunk)) (v1 := none) (v2 := (trkT ((List.replicate (((((legs - (1 : Int)) * rows) * chunk)).toNat) (0 : UInt64))))) (v3 := []) (v4 := []) (h0 := X154.1) (h1 := X154.2) (h2 := 0) (h3 := X474) (h4 := ⟨none, 0, 0⟩) (h5 := ⟨none, 0, 0⟩))) ?_
       cases h
       exact fE (res1 Tryz.results13 rfl) ⟨b554, X18⟩ eR
def volumegrouplaw19_awake : Option (Bool) :=
  Option.bind (volumegrouplaw19_begun (3 : Int) (2 : Int) (1 : Int)) fun r1 =>
  Option.elim r1.1 (
    some false) fun o7 =>
  Option.elim r1.2 (
    none) fun o9 =>
  Option.bind (volumegroupmake_Owner_Begin o7 o9) fun r10 =>
  if (¬ r10.1 = true) then
    some false
  else
    Option.bind (volumegroupmake_Owner_Write r10.2.1 (1 : Int) (77 : UInt64) r10.2.2) fun r12 =>
    if ((r12.1 ≠ (0 : Int)) ∨ (¬ r12.2.1 = true)) then
      some false
    else
      Option.bind (volumegroupmake_Owner_Flush r12.2.2.1 r12.2.2.2) fun r18 =>
      if ((r18.1 ≠ (0 : Int)) ∨ (¬ r18.2.1 = true)) then
        some false
      else
        Option.bind (volumegroupmake_Spans r18.2.2.2) fun r28 =>
        Option.bind (parityvol_Open r28 ([(1 : Int)]) (1 : Int) r18.2.2.2) fun r35 =>
        if (r35.2.1 ≠ (0 : Int)) then
          some false
        else
          Option.elim r35.1 (
            some false) fun o44 =>
          Option.bind (parityvol_Volume_Read o44 (1 : Int) r35.2.2) fun r45 =>
          if ((r45.2.1 = (0 : Int)) ∧ (r45.1 = (77 : UInt64))) then
            Option.bind (parityvol_Volume_Size r45.2.2.1 r45.2.2.2) fun r51 =>
            if (r51 = (4 : Int)) then
              Option.bind (parityvol_Volume_Stale r45.2.2.1 r45.2.2.2) fun r53 =>
              some ((decide (((r53.length : Nat) : Int) = (1 : Int))))
            else
              some false
          else
            some false
theorem L_volumegrouplaw19_awake {W : World} {r : Bool} (h : volumegrouplaw19_awake = some r) :
    CSpec Tryz.prog W 11 [] [] (fun x : Unit => .bool r) (fun _ => True) (fun x F => F) := by
 refine CSpec.of_body Tryz.func11 rfl Tryz.ntmps11 rfl fun F => ?_
 show CJ _ _ _ _ _ _ (F)
 unfold volumegrouplaw19_awake at h
 refine sR <| oA rfl rfl <| nT <| sR ?_
 obtain ⟨r1, hr2, h⟩ := bind_e h
 refine oO <| O_call (L_volumegrouplaw19_begun hr2) rfl Tryz.call13 Dels.nil rfl fun X3 _ => oA rfl rfl <| nT <| CJ_seq <| sR <| oM rfl rfl ?_
 rcases opt_e h with ⟨ht6, h⟩ | ⟨o7, ht6, h⟩
 ·
  rw [ht6]
  refine RJ_ent (t1_ (eD eR)) <| oP (P_eqlNN rfl rfl Tryz.underlying27) rfl <| oM rfl rfl <| RJ_gn (GY_no rfl rfl rfl rfl) rfl rfl <| RJ_gn (GY_no rfl rfl rfl rfl) rfl rfl <| RJ_gn (GY_no rfl rfl rfl rfl) rfl rfl <| oP (P_pickT rfl rfl rfl) rfl <| nT <| CJ_condT rfl rfl <| sR <| oA rfl rfl <| nT <| CJ_ret <| QJ_then_ret ?_
  cases h
  exact fE (res1 Tryz.results11 rfl) () (eD eR)
 ·
  rw [ht6]
  refine RJ_ent (Ent.takeC (A' := OwnP X3.2 X3.1 o7) del0 rfl eR) <| oP (P_eqlPN rfl rfl Tryz.underlying27) rfl <| oM rfl rfl <| gP (GY_yes rfl rfl rfl rfl) (P_move rfl) rfl ?_
  rcases opt_e h with ⟨ht8, h⟩ | ⟨o9, ht8, h⟩
  ·
   rw [ht8]
   exact RJ_ent (t0_ (eD eR)) <| none_e h
  ·
   rw [ht8]
   refine RJ_ent (Ent.takeC (A' := Arr X3.2 o9) del1 rfl eR) ?_
   obtain ⟨r10, hr11, h⟩ := bind_e h
   refine RJ_gy (GY_yes rfl rfl rfl rfl) <| O_call (L_volumegroupmake_Owner_Begin hr11) rfl Tryz.call18 (Dels.cons del1 (Dels.cons del0 Dels.nil)) rfl fun _ _ => gP (GY_yes rfl rfl rfl rfl) (P_not rfl) rfl <| oP (P_pickF rfl rfl rfl) rfl <| nT <| CJ_condP rfl (bT_not Iff.rfl) (fun hg1 => ?_) (fun hg1 => ?_)
   ·
    replace h := ite_t hg1 h
    refine sR <| oA rfl rfl <| nT <| CJ_ret <| QJ_then_ret ?_
    cases h
    exact fE (res1 Tryz.results11 rfl) () (eD (eD eR))
   ·
    replace h := ite_f hg1 h
    refine kT <| CJ_seq <| sR <| oM rfl rfl ?_
    obtain ⟨r12, hr13, h⟩ := bind_e h
    refine oO <| O_call (L_volumegroupmake_Owner_Write hr13) rfl Tryz.call44 (Dels.cons del0 (Dels.cons del0 Dels.nil)) rfl fun _ _ => oM rfl rfl <| oP (P_extract rfl rfl) rfl <| oP (P_extract rfl rfl) rfl <| oA rfl rfl <| oA rfl rfl <| nT <| sR <| oM rfl rfl <| oP (P_neq (a := r12.1) (b := (0 : Int)) rfl rfl) rfl <| oM rfl rfl <| RJ_mbF rfl rfl rfl (fun hG14 => have hP15 : ¬ (r12.1 ≠ (0 : Int)) := nP (bT_dec) hG14; VJ_P (P_move rfl)) <| RJ_mbF rfl rfl rfl (fun hG16 => have hP17 : ¬ (r12.1 ≠ (0 : Int)) := nP (bT_dec) hG16; VJ_P (P_not (mbx hG16 rfl))) <| oP (P_pickOr rfl rfl (fun hh => mbx (not_f hh) rfl)) rfl <| nT <| CJ_condP rfl (bT_or bT_dec (bT_not Iff.rfl)) (fun hg2 => ?_) (fun hg2 => ?_)
    ·
     replace h := ite_t hg2 h
     refine sR <| oA rfl rfl <| nT <| CJ_ret <| QJ_then_ret ?_
     cases h
     exact fE (res1 Tryz.results11 rfl) () (eD (eD eR))
    ·
     replace h := ite_f hg2 h
     refine kT <| CJ_seq <| sR <| oM rfl rfl ?_
     obtain ⟨r18, hr19, h⟩ := bind_e h
     refine oO <| O_call (L_volumegroupmake_Owner_Flush hr19) rfl Tryz.call15 (Dels.cons del0 (Dels.cons del0 Dels.nil)) rfl fun _ _ => oM rfl rfl <| oP (P_extract rfl rfl) rfl <| oP (P_extract rfl rfl) rfl <| oA rfl rfl <| oA rfl rfl <| nT <| sR <| oM rfl rfl <| oP (P_neq (a := r18.1) (b := (0 : Int)) rfl rfl) rfl <| oM rfl rfl <| RJ_mbF rfl rfl rfl (fun hG20 => have hP21 : ¬ (r18.1 ≠ (0 : Int)) := nP (bT_dec) hG20; VJ_P (P_move rfl)) <| RJ_mbF rfl rfl rfl (fun hG22 => have hP23 : ¬ (r18.1 ≠ (0 : Int)) := nP (bT_dec) hG22; VJ_P (P_not (mbx hG22 rfl))) <| oP (P_pickOr rfl rfl (fun hh => mbx (not_f hh) rfl)) rfl <| nT <| CJ_condP rfl (bT_or bT_dec (bT_not Iff.rfl)) (fun hg3 => ?_) (fun hg3 => ?_)
     ·
      replace h := ite_t hg3 h
      refine sR <| oA rfl rfl <| nT <| CJ_ret <| QJ_then_ret ?_
      cases h
      exact fE (res1 Tryz.results11 rfl) () (eD (eD eR))
     ·
      replace h := ite_f hg3 h
      refine kT <| CJ_seq <| CJ_entX (Ent.transX (t0_ eR) (OwnP_open (l := r18.2.2.1))) fun oc24 => lC del5 fun hlen26 => lC del6 fun hlen27 => CJ_region <| oM rfl rfl <| oP (P_nilCheck rfl) rfl <| oP (P_fieldAddr rfl ⟨_, _, _, Tryz.runUnderlying37, rfl, rfl, Tryz.sizeOf30, rfl⟩) rfl <| oV (V_load rfl foc0 rfl Tryz.isAgg30) rfl ?_
      obtain ⟨r28, hr29, h⟩ := bind_e h
      refine oO <| O_call (L_volumegroupmake_Spans hr29) rfl Tryz.call24 (Dels.cons del7 Dels.nil) rfl fun X30 _ => RJ_pure (fun h hh => Rs_len (stars_perm (del2 (A := Rs (DevP X3.2) r28 X30.2)).out h hh)) fun hdl33 => oO <| O_buildSlice rfl (bs_35_1_0 _) rfl fun b34 => RJ_ent (Ent.trans (t0_ eR) (sl_of_lit (t := tyI) (m := 1) [(1 : Int)] rfl rfl rfl (by decide))) ?_
      obtain ⟨r35, hr36, h⟩ := bind_e h
      refine oO <| O_call (L_parityvol_Open (Reads.sl _ _ _) (Reads.sl _ _ _) hr36) rfl Tryz.call26 (Dels.cons del2 (Dels.cons del2 (Dels.cons del0 (Dels.cons del0 Dels.nil)))) rfl fun X37 _ => oM rfl rfl <| oP (P_extract rfl rfl) rfl <| oP (P_extract rfl rfl) rfl <| oA rfl rfl <| oA rfl rfl <| RJ_nil <| QJ_ent (Ent.trans (t5_ (t5_ (t5_ (t5_ (t5_ (t5_ (t5_ eR))))))) (OwnP_mk (v0 := r18.2.2.1.Open_1) (v1 := r18.2.2.1.X) (v2 := r18.2.2.1.T) (v3 := r18.2.2.1.Stale) (v4 := r18.2.2.1.Lost) (h0 := oc24.1) (h1 := oc24.2.1) (h2 := oc24.2.2.1) (h3 := oc24.2.2.2.1) (h4 := oc24.2.2.2.2.1) (h5 := oc24.2.2.2.2.2))) <| QJ_then <| CJ_seq <| sR <| oM rfl rfl <| oP (P_neq (a := r35.2.1) (b := (0 : Int)) rfl rfl) rfl <| oM rfl rfl <| RJ_mbF rfl rfl rfl (fun hG39 => have hP40 : ¬ (r35.2.1 ≠ (0 : Int)) := nP (bT_dec) hG39; VJ_P (P_move rfl)) <| RJ_splitP 51 rfl bT_dec (fun hg4B hg4 => ?_) (fun hg4B hg4 => ?_)
      ·
       replace h := ite_t hg4 h
       refine RJ_gn (GY_no rfl rfl rfl hg4B) rfl rfl <| oP (P_pickT rfl hg4B rfl) rfl <| nT <| CJ_condT rfl rfl <| sR <| oA rfl rfl <| nT <| CJ_ret <| QJ_then_ret ?_
       cases h
       exact fE (res1 Tryz.results11 rfl) () (eD (eD (eD (eD (eD (eD eR))))))
      ·
       replace h := ite_f hg4 h
       rcases opt_e h with ⟨ht43, h⟩ | ⟨o44, ht43, h⟩
       ·
        rw [ht43]
        refine RJ_ent (t0_ (t0_ (t0_ (t0_ (t0_ (eD eR)))))) <| gP (GY_yes rfl rfl rfl hg4B) (P_eqlNN (mbx (not_f hg4B) rfl) rfl Tryz.underlying65) rfl <| oP (P_pickF rfl hg4B rfl) rfl <| nT <| CJ_condT rfl rfl <| sR <| oA rfl rfl <| nT <| CJ_ret <| QJ_then_ret ?_
        cases h
        exact fE (res1 Tryz.results11 rfl) () (eD (eD (eD (eD (eD eR)))))
       ·
        rw [ht43]
        refine RJ_ent (Ent.takeC (A' := VolP X3.2 X37 o44) del5 rfl eR) <| gP (GY_yes rfl rfl rfl hg4B) (P_eqlPN (mbx (not_f hg4B) rfl) rfl Tryz.underlying65) rfl <| oP (P_pickF rfl hg4B rfl) rfl <| nT <| CJ_condF rfl rfl <| kT <| sR <| oM rfl rfl ?_
        obtain ⟨r45, hr46, h⟩ := bind_e h
        refine oO <| O_call (L_parityvol_Volume_Read hr46) rfl Tryz.call28 (Dels.cons del0 (Dels.cons del4 Dels.nil)) rfl fun _ _ => oM rfl rfl <| oP (P_extract rfl rfl) rfl <| oP (P_extract rfl rfl) rfl <| oA rfl rfl <| oA rfl rfl <| nT <| sR <| oM rfl rfl <| oP (P_eql (a := r45.2.1) (b := (0 : Int)) rfl rfl) rfl <| oM rfl rfl <| RJ_mbT rfl rfl rfl (fun hG47 => have hP48 : (r45.2.1 = (0 : Int)) := (bT_dec).1 hG47; VJ_P (P_move rfl)) <| RJ_mbT rfl rfl rfl (fun hG49 => have hP50 : (r45.2.1 = (0 : Int)) := (bT_dec).1 hG49; VJ_P (P_eq_u64 (a := r45.1) (b := (77 : UInt64)) (mbx hG49 rfl) rfl)) <| oP (P_pickAnd rfl (fun hh => mbx hh rfl) rfl) rfl <| oM rfl rfl <| RJ_splitP 66 rfl (bT_and bT_dec bT_dec) (fun hg5B hg5 => ?_) (fun hg5B hg5 => ?_)
        ·
         replace h := ite_t hg5 h
         refine gP (GY_yes rfl rfl rfl hg5B) (P_move rfl) rfl ?_
         obtain ⟨r51, hr52, h⟩ := bind_e h
         refine RJ_gy (GY_yes rfl rfl rfl hg5B) <| O_call (L_parityvol_Volume_Size hr52) rfl Tryz.call31 (Dels.cons del0 (Dels.cons del0 Dels.nil)) rfl fun _ _ => gP (GY_yes rfl rfl rfl hg5B) (P_eql (a := r51) (b := (4 : Int)) rfl rfl) rfl <| oP (P_pickT rfl hg5B rfl) rfl <| oM rfl rfl <| RJ_splitP 71 rfl bT_dec (fun hg6B hg6 => ?_) (fun hg6B hg6 => ?_)
         ·
          replace h := ite_t hg6 h
          refine gP (GY_yes rfl rfl rfl hg6B) (P_move rfl) rfl ?_
          obtain ⟨r53, hr54, h⟩ := bind_e h
          refine RJ_gy (GY_yes rfl rfl rfl hg6B) <| O_call (L_parityvol_Volume_Stale hr54) rfl Tryz.call39 (Dels.cons del0 (Dels.cons del0 Dels.nil)) rfl fun X55 _ => gV (GY_yes rfl rfl rfl hg6B) (V_len rfl foc2 (Reads.sl _ _ _) Tryz.runUnderlying35) rfl <| gP (GY_yes rfl rfl rfl hg6B) (P_eql (a := ((r53.length : Nat) : Int)) (b := (1 : Int)) rfl rfl) rfl <| oP (P_pickT rfl hg6B rfl) rfl <| oA rfl rfl <| RJ_nil <| QJ_ent (t1_ (eD (eD (eD (eD (eD (eD eR))))))) <| QJ_then <| CJ_ret ?_
          cases h
          exact fE (res1 Tryz.results11 rfl) () (eD eR)
         ·
          replace h := ite_f hg6 h
          refine RJ_gn (GY_no rfl rfl rfl hg6B) rfl rfl <| RJ_gn (GY_no rfl rfl rfl hg6B) rfl rfl <| RJ_gn (GY_no rfl rfl rfl hg6B) rfl rfl <| RJ_gn (GY_no rfl rfl rfl hg6B) rfl rfl <| oP (P_pickF rfl hg6B rfl) rfl <| oA rfl rfl <| nT <| CJ_ret ?_
          cases h
          exact fE (res1 Tryz.results11 rfl) () (eD (eD (eD (eD (eD (eD eR))))))
        ·
         replace h := ite_f hg5 h
         refine RJ_gn (GY_no rfl rfl rfl hg5B) rfl rfl <| RJ_gn (GY_no rfl rfl rfl hg5B) rfl rfl <| RJ_gn (GY_no rfl rfl rfl hg5B) rfl rfl <| oP (P_pickF rfl hg5B rfl) rfl <| oM rfl rfl <| RJ_gn (GY_no rfl rfl rfl rfl) rfl rfl <| RJ_gn (GY_no rfl rfl rfl rfl) rfl rfl <| RJ_gn (GY_no rfl rfl rfl rfl) rfl rfl <| RJ_gn (GY_no rfl rfl rfl rfl) rfl rfl <| oP (P_pickF rfl rfl rfl) rfl <| oA rfl rfl <| nT <| CJ_ret ?_
         cases h
         exact fE (res1 Tryz.results11 rfl) () (eD (eD (eD (eD (eD (eD eR))))))
end Go.Proofs
namespace Go.Proofs
open Go.VG
theorem awake19 : volumegrouplaw19_awake = some true := by kernel_rfl
def stN (L R c : Nat) : ArrS := ⟨List.replicate L ⟨List.replicate (16 + R * c) 0, List.replicate (16 + R * c) 0, false⟩, [], [], 0, false, L * (16 + R * c)⟩
def owN (L R c : Nat) : OwnS := ⟨(c : Int), none, trkT (List.replicate ((L - 1) * R * c) 0), [], []⟩
theorem bg311 : volumegrouplaw19_begun 3 1 1 = some (some (owN 3 1 1), some (stN 3 1 1)) := by kernel_rfl
theorem bg312 : volumegrouplaw19_begun 3 1 2 = some (some (owN 3 1 2), some (stN 3 1 2)) := by kernel_rfl
theorem bg321 : volumegrouplaw19_begun 3 2 1 = some (some (owN 3 2 1), some (stN 3 2 1)) := by kernel_rfl
theorem bg322 : volumegrouplaw19_begun 3 2 2 = some (some (owN 3 2 2), some (stN 3 2 2)) := by kernel_rfl
theorem bg331 : volumegrouplaw19_begun 3 3 1 = some (some (owN 3 3 1), some (stN 3 3 1)) := by kernel_rfl
theorem bg332 : volumegrouplaw19_begun 3 3 2 = some (some (owN 3 3 2), some (stN 3 3 2)) := by kernel_rfl
theorem bg411 : volumegrouplaw19_begun 4 1 1 = some (some (owN 4 1 1), some (stN 4 1 1)) := by kernel_rfl
theorem bg412 : volumegrouplaw19_begun 4 1 2 = some (some (owN 4 1 2), some (stN 4 1 2)) := by kernel_rfl
theorem bg421 : volumegrouplaw19_begun 4 2 1 = some (some (owN 4 2 1), some (stN 4 2 1)) := by kernel_rfl
theorem bg422 : volumegrouplaw19_begun 4 2 2 = some (some (owN 4 2 2), some (stN 4 2 2)) := by kernel_rfl
theorem bg431 : volumegrouplaw19_begun 4 3 1 = some (some (owN 4 3 1), some (stN 4 3 1)) := by kernel_rfl
theorem bg432 : volumegrouplaw19_begun 4 3 2 = some (some (owN 4 3 2), some (stN 4 3 2)) := by kernel_rfl
def stB (C : PC) : ArrS := ⟨List.replicate C.L ⟨List.replicate C.sz 0, List.replicate C.sz 0, false⟩, [], [], 0, false, C.L * C.sz⟩
def owB (C : PC) : OwnS := ⟨(C.c : Int), none, trkT (List.replicate C.D 0), [], []⟩
theorem begunP_eq (C : PC) : volumegrouplaw19_begun (C.L : Int) (C.R : Int) (C.c : Int) = some (some (owB C), some (stB C)) := by
  have h1 := C.hL
  have h2 := C.hR
  have h6 := C.hc
  have e1 : owB C = owN C.L C.R C.c := rfl
  have e2 : stB C = stN C.L C.R C.c := rfl
  have h3 : C.R = 1 ∨ C.R = 2 ∨ C.R = 3 := by omega
  have h4 : C.c = 1 ∨ C.c = 2 := by omega
  have h5 : C.L = 3 ∨ C.L = 4 := by omega
  rw [e1, e2]
  rcases h3 with h3 | h3 | h3 <;> rcases h4 with h4 | h4 <;> rcases h5 with h5 | h5 <;> rw [h3, h4, h5]
  · exact bg311
  · exact bg411
  · exact bg312
  · exact bg412
  · exact bg321
  · exact bg421
  · exact bg322
  · exact bg422
  · exact bg331
  · exact bg431
  · exact bg332
  · exact bg432
section
variable {C : PC} {a d b : Nat}
theorem nowB : now (stB C) d b = 0 := by
  show (((stB C).drv.getD d d0).now).getD b 0 = 0
  unfold stB
  simp only [List.getD, List.getElem?_replicate]
  split <;> simp [d0, List.getElem?_replicate]
  split <;> rfl
theorem durB : dur (stB C) d b = 0 := by
  show (((stB C).drv.getD d d0).dur).getD b 0 = 0
  unfold stB
  simp only [List.getD, List.getElem?_replicate]
  split <;> simp [d0, List.getElem?_replicate]
  split <;> rfl
theorem candB : cand (stB C) d b = [0] := by
  show dur (stB C) d b :: pendR [] d b = _
  rw [durB]; rfl
theorem arrB : ArrOk C.ns 500 (stB C) := by
  have hz := @PC.hsz C
  have hL := C.hL
  have hims : (List.replicate C.L (List.replicate C.sz (0 : UInt64))).map (fun im => (⟨im, im, false⟩ : Drive)) = List.replicate C.L ⟨List.replicate C.sz 0, List.replicate C.sz 0, false⟩ := by rw [List.map_replicate]
  have hs : stB C = { mkS (List.replicate C.L (List.replicate C.sz 0)) with writes := C.L * C.sz } := by
    unfold stB mkS; rw [hims]
  have hns : lensN (List.replicate C.L (List.replicate C.sz (0 : UInt64))) = C.ns := by
    unfold lensN PC.ns; rw [List.map_replicate, List.length_replicate]
  have h1 := inSz_mkS (ims := List.replicate C.L (List.replicate C.sz (0 : UInt64)))
  rw [hns] at h1
  have hc := coh_mkS (ims := List.replicate C.L (List.replicate C.sz (0 : UInt64)))
  have hw : C.L * C.sz ≤ 4 * 22 := Nat.mul_le_mul hL.2 hz.2
  rw [hs]
  exact ⟨⟨h1.cnt, h1.size, by show C.L * C.sz ≤ _; omega⟩, by show C.L * C.sz ≤ _; omega, ⟨hc.len, hc.last, hc.log⟩, rfl⟩
theorem missB {e : Nat} : miss (stB C) e = false := by
  show ((stB C).drv.getD e d0).miss = false
  unfold stB
  simp only [List.getD, List.getElem?_replicate]
  split <;> rfl
theorem envB : PEn C (fun _ => false) False 500 (stB C) := ⟨arrB, rfl, fun _ => missB, fun _ => rfl⟩
theorem xr_zero : ∀ {n : Nat}, xr (fun _ => 0) n = 0
  | 0 => rfl
  | n + 1 => by
    show xr (fun _ => 0) n ^^^ 0 = 0
    rw [xr_zero, UInt64.xor_zero]
theorem jvB : JV C (fun _ _ => 0) 0 ⟨0, 0, 0, 0⟩ := ⟨fun _ _ => xr_zero, fun h => absurd rfl h, by decide⟩
theorem rcB : Rc C none (fun _ _ => 0) 0 ⟨0, 0, 0, 0⟩ (stB C) := by
  have hL := C.hL
  refine ⟨fun d _ _ => ?_, fun d _ _ _ h => absurd rfl h, fun d _ _ o _ _ => nowB, ⟨0, by omega, by simp, nowB⟩, fun d b => ?_⟩
  · show (now (stB C) d 0).toNat ≤ _
    rw [nowB]; exact Nat.le_refl _
  · rw [candB, nowB]
theorem owB_ok : OwI C none none (fun _ => false) (owB C) := ⟨rfl, rfl, rfl, fun _ h => (by cases h), .inl rfl, fun _ h => (by cases h)⟩
theorem trkB (h : a < C.D) : (owB C).T.getD a s0 = mkSec 0 := by
  show (trkT (List.replicate C.D 0)).getD a s0 = _
  unfold trkT
  rw [List.map_replicate]
  simp [List.getD, List.getElem?_replicate, h]
theorem tiB : TI C (owB C).T (fun _ _ => 0) := ⟨fun a ha => by rw [trkB ha]; exact List.mem_singleton.2 rfl, fun a ha _ => by rw [trkB ha]; rfl⟩
theorem tlB : TL C 500 (owB C).T := ⟨by show (trkT (List.replicate C.D 0)).length = _; unfold trkT; simp, fun a ha => by rw [trkB ha]; simp [mkSec]⟩
theorem playB {l : List volumegroupmake_Step} {lose : Int} {k : Nat} (hk : k < C.L) (hl : l.length ≤ 24) :
    ∃ o' t st' z' mz' V' q' e', volumegroupmake_Owner_Play (owB C) l lose (k : Int) (k : Int) (stB C) = some (true, o', t) ∧ UPv C st' z' mz' 20000 V' q' e' o' t ∧ (z' = none ∨ z' = some k ∧ 0 ≤ lose) :=
  oplayP hk hl owB_ok rfl envB tlB rcB jvB (by decide) tiB
end
theorem u8modP {n k : UInt8} (hk : 0 < k.toNat) : (n % k).toNat < k.toNat := by rw [UInt8.toNat_mod]; exact Nat.mod_lt _ hk
def CP (n : UInt8) : PC where
  L := 3 + (n % 2).toNat
  R := 1 + ((n / 2) % 3).toNat
  c := 1 + ((n / 8) % 2).toNat
  hL := by have := @u8modP n 2 (by decide); have e : (2 : UInt8).toNat = 2 := rfl; omega
  hR := by have := @u8modP (n / 2) 3 (by decide); have e : (3 : UInt8).toNat = 3 := rfl; omega
  hc := by have := @u8modP (n / 8) 2 (by decide); have e : (2 : UInt8).toNat = 2 := rfl; omega
end Go.Proofs
set_option linter.unusedSimpArgs false
set_option linter.unusedVariables false
set_option maxRecDepth 20000
set_option maxHeartbeats 4000000
namespace Go.Proofs
open Go.VG
def volumegrouplaw19_shape (n_0 : UInt8) : Option (Int × Int × Int) :=
  grd (inN64 ((3 + ((n_0 % (2 : UInt8))).toNat))) <|
  grd (inN64 ((1 + (((n_0 / (2 : UInt8)) % (3 : UInt8))).toNat))) <|
  grd (inN64 ((1 + (((n_0 / (8 : UInt8)) % (2 : UInt8))).toNat))) <|
  some (((((3 + ((n_0 % (2 : UInt8))).toNat) : Nat) : Int), (((1 + (((n_0 / (2 : UInt8)) % (3 : UInt8))).toNat) : Nat) : Int), (((1 + (((n_0 / (8 : UInt8)) % (2 : UInt8))).toNat) : Nat) : Int)))
theorem L_volumegrouplaw19_shape {W : World} {n_0 : UInt8} {r : Int × Int × Int} (h : volumegrouplaw19_shape n_0 = some r) :
    CSpec Tryz.prog W 12 [.int .u8 (n_0.toNat : Int)] [] (fun x : Unit => .tuple #[.int .i64 r.1, .int .i64 r.2.1, .int .i64 r.2.2]) (fun _ => True) (fun x F => F) := by
 refine CSpec.of_body Tryz.func12 rfl Tryz.ntmps12 rfl fun F => ?_
 show CJ _ _ _ _ _ _ (F)
 unfold volumegrouplaw19_shape at h
 refine sR <| oA rfl rfl <| oA rfl rfl <| oA rfl rfl <| nT <| sR <| oM rfl rfl <| oP (P_rem_u8 (a := n_0) (b := (2 : UInt8)) rfl rfl (by decide)) rfl <| oP (P_convSame rfl Tryz.runUnderlying5 Tryz.runUnderlying3 (wrap64_u _ (by have h9 := ((n_0 % (2 : UInt8))).toNat_lt; exact (by omega : ((n_0 % (2 : UInt8))).toNat < 9223372036854775808)))) rfl ?_
 obtain ⟨hg1, h⟩ := grd_Ne h
 refine oP (PJ_eq (P_add (a := (3 : Int)) (b := ((((n_0 % (2 : UInt8))).toNat : Nat) : Int)) rfl rfl (nat_in hg1)) rfl) rfl <| oM rfl rfl <| oP (P_quo_u8 (a := n_0) (b := (2 : UInt8)) rfl rfl (by decide)) rfl <| oP (P_rem_u8 (a := (n_0 / (2 : UInt8))) (b := (3 : UInt8)) rfl rfl (by decide)) rfl <| oP (P_convSame rfl Tryz.runUnderlying5 Tryz.runUnderlying3 (wrap64_u _ (by have h9 := (((n_0 / (2 : UInt8)) % (3 : UInt8))).toNat_lt; exact (by omega : (((n_0 / (2 : UInt8)) % (3 : UInt8))).toNat < 9223372036854775808)))) rfl ?_
 obtain ⟨hg2, h⟩ := grd_Ne h
 refine oP (PJ_eq (P_add (a := (1 : Int)) (b := (((((n_0 / (2 : UInt8)) % (3 : UInt8))).toNat : Nat) : Int)) rfl rfl (nat_in hg2)) rfl) rfl <| oM rfl rfl <| oP (P_quo_u8 (a := n_0) (b := (8 : UInt8)) rfl rfl (by decide)) rfl <| oP (P_rem_u8 (a := (n_0 / (8 : UInt8))) (b := (2 : UInt8)) rfl rfl (by decide)) rfl <| oP (P_convSame rfl Tryz.runUnderlying5 Tryz.runUnderlying3 (wrap64_u _ (by have h9 := (((n_0 / (8 : UInt8)) % (2 : UInt8))).toNat_lt; exact (by omega : (((n_0 / (8 : UInt8)) % (2 : UInt8))).toNat < 9223372036854775808)))) rfl ?_
 obtain ⟨hg3, h⟩ := grd_Ne h
 refine oP (PJ_eq (P_add (a := (1 : Int)) (b := (((((n_0 / (8 : UInt8)) % (2 : UInt8))).toNat : Nat) : Int)) rfl rfl (nat_in hg3)) rfl) rfl <| oA rfl rfl <| oA rfl rfl <| oA rfl rfl <| nT <| CJ_ret ?_
 cases h
 exact fE (res3 Tryz.results12 rfl rfl rfl) () eR
def volumegroupref18_Xor_l1_b (l : List UInt64) (rec : UInt64 → Nat → Option (UInt64)) (x7 : UInt64) (x8 : Nat) : Option (UInt64) :=
  if (((x8 : Nat) : Int) < ((l.length : Nat) : Int)) then
    rec ((x7 ^^^ (l.getD x8 0))) (x8 + 1)
  else
    some x7
def volumegroupref18_Xor_l1 (l : List UInt64) : Nat → UInt64 → Nat → Option (UInt64)
  | 0, _, _ => none
  | n + 1, x7, x8 => volumegroupref18_Xor_l1_b l (volumegroupref18_Xor_l1 l n) x7 x8
def volumegroupref18_Xor (l : List UInt64) : Option (UInt64) :=
  Option.bind (volumegroupref18_Xor_l1 l FUEL (0 : UInt64) 0) fun a6 =>
  some a6
theorem L_volumegroupref18_Xor {W : World} {Al : HP} {vl : Value} {l : List UInt64} {r : UInt64} (rl : Reads Al tyU vl l) (h : volumegroupref18_Xor l = some r) :
    CSpec Tryz.prog W 17 [vl] [Al] (fun x : Unit => .int .u64 (r.toNat : Int)) (fun _ => True) (fun x F => Al :: F) := by
 refine CSpec.of_body Tryz.func17 rfl Tryz.ntmps17 rfl fun F => ?_
 show CJ _ _ _ _ _ _ (_ :: F)
 unfold volumegroupref18_Xor at h
 refine CJ_pure (len_of rl del0) fun hlen1 => sR <| oA rfl rfl <| nT <| sR <| oA rfl rfl <| nT <| CJ_seq <| sR <| oA rfl rfl <| nT ?_
 obtain ⟨y4, hl2, hK3⟩ := bind_c h
 refine CJ_cutT (X := UInt64) [3, 4, 5, 6, 7, 8, 9, 10, 11, 12, 13, 14, 15, 16] (fun a6 => ([(3, .int .u64 (a6.toNat : Int))] : Slots)) (fun a6 R => R) (fun a6 => y4 = a6) Dels.nil ?_ ?_
 ·
  refine CJ_block <| CJ_loopR (X := Nat × UInt64 × Nat) [3, 4, 5, 6, 7, 8, 9, 10, 11, 12, 13, 14, 15, 16] (fun ⟨n, x7, x8⟩ => ([(3, .int .u64 (x7.toNat : Int)), (4, .int .i64 (((x8 : Nat) : Int)))] : Slots)) (fun ⟨n, x7, x8⟩ R => R) (fun ⟨n, x7, x8⟩ => volumegroupref18_Xor_l1 l n x7 x8 = some y4) (fun ⟨n, x7, x8⟩ => n) ⟨FUEL, (0 : UInt64), 0⟩ ?_ ?_ eR ?_
  · exact hl2
  · exact ⟨rfl, rfl, True.intro⟩
  ·
   rintro ⟨n, x7, x8⟩ h
   cases n with
   | zero => exact none_e h
   | succ n => ?_
   replace h : volumegroupref18_Xor_l1_b l (volumegroupref18_Xor_l1 l n) x7 x8 = some y4 := h
   unfold volumegroupref18_Xor_l1_b at h
   show CJ _ _ _ _ _ (([(3, .int .u64 (x7.toNat : Int)), (4, .int .i64 (((x8 : Nat) : Int)))] : Slots) ++ forget _ _) (_)
   refine CJ_seq <| sR <| oM rfl rfl <| oM rfl rfl <| oV (V_len rfl foc0 rl Tryz.runUnderlying43) rfl <| oP (P_lss (a := ((x8 : Nat) : Int)) (b := ((l.length : Nat) : Int)) rfl rfl) rfl <| nT <| CJ_condP rfl bT_dec (fun hg1 => ?_) (fun hg1 => ?_)
   ·
    replace h := ite_t hg1 h
    exact kT <| CJ_seq <| CJ_block <| CJ_region <| oM rfl rfl <| oM rfl rfl <| oM rfl rfl <| oV (V_index (i := x8) rfl rfl rfl (by omega) foc0 rl Tryz.runUnderlying43 Tryz.sizeOf44) rfl <| oV (V_loadE rfl rfl (by omega) foc0 rl rfl rfl Tryz.isAgg44) rfl <| oP (P_xor_u64 (a := x7) (b := (l.getD x8 0)) rfl rfl) rfl <| oA rfl rfl <| RJ_nil <| QJ_block_normal <| QJ_then <| CJ_region <| oM rfl rfl <| oP (PJ_eq (P_add (a := ((x8 : Nat) : Int)) (b := (1 : Int)) rfl rfl (by omega)) rfl) rfl <| oA rfl rfl <| RJ_nil <| nR ⟨n, (x7 ^^^ (l.getD x8 0)), (x8 + 1)⟩ h ⟨rfl, rfl, True.intro⟩ eR
   ·
    replace h := ite_f hg1 h
    exact CJ_exit <| QJ_then_exit <| QJ_round_exit <| QJ_block_here <| cR x7 (Option.some.inj h).symm ⟨rfl, True.intro⟩ eR
 ·
  rintro a6 hy9
  replace h := bindK_at hK3 hy9
  show CJ _ _ _ _ _ (([(3, .int .u64 (a6.toNat : Int))] : Slots) ++ forget _ _) (_)
  refine sR <| oM rfl rfl <| oA rfl rfl <| nT <| CJ_ret ?_
  cases h
  exact fE (res1 Tryz.results17 rfl) () eR
def volumegrouplaw19_ParityvolRows_l2_b (r6 : Int × Int × Int) (r19 : Int × Bool × OwnS × ArrS) (x29 : Nat) (rec : (List UInt64) → Nat → Option (((List UInt64)) ⊕ ((Unit) ⊕ Bool))) (x37 : List UInt64) (x39 : Nat) : Option (((List UInt64)) ⊕ ((Unit) ⊕ Bool)) :=
  if (((x39 : Nat) : Int) < r6.1) then
    grd (inN64 (16 + x29)) <|
    if ((rdC r19.2.2.2 (((x39 : Nat) : Int)) ((((16 + x29) : Nat) : Int))) ≠ (0 : Int)) then
      some (.inr (.inr false))
    else
      grd (inLen (x37.length + 1)) <|
      grd (inN64 (x39 + 1)) <|
      rec ((x37 ++ [(rdV r19.2.2.2 (((x39 : Nat) : Int)) ((((16 + x29) : Nat) : Int)))])) (x39 + 1)
  else
    some (.inl x37)
def volumegrouplaw19_ParityvolRows_l2 (r6 : Int × Int × Int) (r19 : Int × Bool × OwnS × ArrS) (x29 : Nat) : Nat → (List UInt64) → Nat → Option (((List UInt64)) ⊕ ((Unit) ⊕ Bool))
  | 0, _, _ => none
  | n + 1, x37, x39 => volumegrouplaw19_ParityvolRows_l2_b r6 r19 x29 (volumegrouplaw19_ParityvolRows_l2 r6 r19 x29 n) x37 x39
def volumegrouplaw19_ParityvolRows_l1_b (r6 : Int × Int × Int) (r19 : Int × Bool × OwnS × ArrS) (rec : Nat → Option ((Unit) ⊕ Bool)) (x29 : Nat) : Option ((Unit) ⊕ Bool) :=
  grd (inI64 (r6.2.1 * r6.2.2)) <|
  if (((x29 : Nat) : Int) < (r6.2.1 * r6.2.2)) then
    seqO (volumegrouplaw19_ParityvolRows_l2 r6 r19 x29 FUEL ([]) 0) fun a36 =>
    Option.bind (volumegroupref18_Xor a36) fun r51 =>
    if (r51 ≠ (0 : UInt64)) then
      some (.inr false)
    else
      grd (inN64 (x29 + 1)) <|
      rec (x29 + 1)
  else
    some (.inl ())
def volumegrouplaw19_ParityvolRows_l1 (r6 : Int × Int × Int) (r19 : Int × Bool × OwnS × ArrS) : Nat → Nat → Option ((Unit) ⊕ Bool)
  | 0, _ => none
  | n + 1, x29 => volumegrouplaw19_ParityvolRows_l1_b r6 r19 (volumegrouplaw19_ParityvolRows_l1 r6 r19 n) x29
def volumegrouplaw19_ParityvolRows (n_0 : UInt8) (l : List volumegroupmake_Step) : Option (Bool) :=
  Option.bind (volumegroupmake_Few l) fun r2 =>
  if (¬ r2 = true) then
    Option.bind (volumegrouplaw19_awake) fun r4 =>
    some r4
  else
    Option.bind (volumegrouplaw19_shape n_0) fun r6 =>
    Option.bind (volumegrouplaw19_begun r6.1 r6.2.1 r6.2.2) fun r8 =>
    Option.elim r8.1 (
      some false) fun o14 =>
    Option.elim r8.2 (
      none) fun o16 =>
    Option.bind (volumegroupmake_Owner_Play o14 l (-1 : Int) (0 : Int) (0 : Int) o16) fun r17 =>
    if (¬ r17.1 = true) then
      some false
    else
      Option.bind (volumegroupmake_Owner_Flush r17.2.1 r17.2.2) fun r19 =>
      if ((r19.1 ≠ (0 : Int)) ∨ (¬ r19.2.1 = true)) then
        some false
      else
        seqO (volumegrouplaw19_ParityvolRows_l1 r6 r19 FUEL 0) fun a28 =>
        Option.bind (volumegrouplaw19_awake) fun r54 =>
        some r54
theorem L_volumegrouplaw19_ParityvolRows {W : World} {Al : HP} {vl : Value} {n_0 : UInt8} {l : List volumegroupmake_Step} {r : Bool} (rl : Reads Al tyvolumegroupmake_Step vl l) (h : volumegrouplaw19_ParityvolRows n_0 l = some r) :
    CSpec Tryz.prog W 5 [.int .u8 (n_0.toNat : Int), vl] [Al] (fun x : Unit => .bool r) (fun _ => True) (fun x F => Al :: F) := by
 refine CSpec.of_body Tryz.func5 rfl Tryz.ntmps5 rfl fun F => ?_
 show CJ _ _ _ _ _ _ (_ :: F)
 unfold volumegrouplaw19_ParityvolRows at h
 refine CJ_pure (len_of rl del0) fun hlen1 => sR <| oA rfl rfl <| nT <| CJ_seq <| sR <| oM rfl rfl ?_
 obtain ⟨r2, hr3, h⟩ := bind_e h
 refine oO <| O_call (L_volumegroupmake_Few rl hr3) rfl Tryz.call10 (Dels.cons del0 Dels.nil) rfl fun _ _ => oP (P_not rfl) rfl <| nT <| CJ_condP rfl (bT_not Iff.rfl) (fun hg1 => ?_) (fun hg1 => ?_)
 ·
  replace h := ite_t hg1 h
  refine sR ?_
  obtain ⟨r4, hr5, h⟩ := bind_e h
  refine oO <| O_call (L_volumegrouplaw19_awake hr5) rfl Tryz.call11 Dels.nil rfl fun _ _ => oA rfl rfl <| nT <| CJ_ret <| QJ_then_ret ?_
  cases h
  exact fE (res1 Tryz.results5 rfl) () eR
 ·
  replace h := ite_f hg1 h
  refine kT <| sR <| oM rfl rfl ?_
  obtain ⟨r6, hr7, h⟩ := bind_e h
  refine oO <| O_call (L_volumegrouplaw19_shape hr7) rfl Tryz.call12 Dels.nil rfl fun _ _ => oM rfl rfl <| oP (P_extract rfl rfl) rfl <| oP (P_extract rfl rfl) rfl <| oP (P_extract rfl rfl) rfl <| oA rfl rfl <| oA rfl rfl <| oA rfl rfl <| nT <| sR <| oM rfl rfl <| oM rfl rfl <| oM rfl rfl ?_
  obtain ⟨r8, hr9, h⟩ := bind_e h
  refine oO <| O_call (L_volumegrouplaw19_begun hr9) rfl Tryz.call13 Dels.nil rfl fun X10 _ => oA rfl rfl <| nT <| CJ_seq <| sR <| oM rfl rfl ?_
  rcases opt_e h with ⟨ht13, h⟩ | ⟨o14, ht13, h⟩
  ·
   rw [ht13]
   refine RJ_ent (t1_ (t1_ (eD eR))) <| oP (P_eqlNN rfl rfl Tryz.underlying27) rfl <| oM rfl rfl <| RJ_gn (GY_no rfl rfl rfl rfl) rfl rfl <| RJ_gn (GY_no rfl rfl rfl rfl) rfl rfl <| RJ_gn (GY_no rfl rfl rfl rfl) rfl rfl <| RJ_gn (GY_no rfl rfl rfl rfl) rfl rfl <| oP (P_pickT rfl rfl rfl) rfl <| nT <| CJ_condT rfl rfl <| sR <| oA rfl rfl <| nT <| CJ_ret <| QJ_then_ret ?_
   cases h
   exact fE (res1 Tryz.results5 rfl) () (t1_ (eD eR))
  ·
   rw [ht13]
   refine RJ_ent (Ent.takeC (A' := OwnP X10.2 X10.1 o14) del0 rfl eR) <| oP (P_eqlPN rfl rfl Tryz.underlying27) rfl <| oM rfl rfl <| gP (GY_yes rfl rfl rfl rfl) (P_move rfl) rfl <| gP (GY_yes rfl rfl rfl rfl) (P_move rfl) rfl ?_
   rcases opt_e h with ⟨ht15, h⟩ | ⟨o16, ht15, h⟩
   ·
    rw [ht15]
    exact RJ_ent (t0_ (t1_ (eD eR))) <| none_e h
   ·
    rw [ht15]
    refine RJ_ent (Ent.takeC (A' := Arr X10.2 o16) del1 rfl eR) ?_
    obtain ⟨r17, hr18, h⟩ := bind_e h
    refine RJ_gy (GY_yes rfl rfl rfl rfl) <| O_call (L_volumegroupmake_Owner_Play rl hr18) rfl Tryz.call14 (Dels.cons del1 (Dels.cons del1 (Dels.cons del0 Dels.nil))) rfl fun _ _ => gP (GY_yes rfl rfl rfl rfl) (P_not rfl) rfl <| oP (P_pickF rfl rfl rfl) rfl <| nT <| CJ_condP rfl (bT_not Iff.rfl) (fun hg2 => ?_) (fun hg2 => ?_)
    ·
     replace h := ite_t hg2 h
     refine sR <| oA rfl rfl <| nT <| CJ_ret <| QJ_then_ret ?_
     cases h
     exact fE (res1 Tryz.results5 rfl) () (t1_ (eD (eD eR)))
    ·
     replace h := ite_f hg2 h
     refine kT <| CJ_seq <| sR <| oM rfl rfl ?_
     obtain ⟨r19, hr20, h⟩ := bind_e h
     refine oO <| O_call (L_volumegroupmake_Owner_Flush hr20) rfl Tryz.call15 (Dels.cons del0 (Dels.cons del1 Dels.nil)) rfl fun _ _ => oM rfl rfl <| oP (P_extract rfl rfl) rfl <| oP (P_extract rfl rfl) rfl <| oA rfl rfl <| oA rfl rfl <| nT <| sR <| oM rfl rfl <| oP (P_neq (a := r19.1) (b := (0 : Int)) rfl rfl) rfl <| oM rfl rfl <| RJ_mbF rfl rfl rfl (fun hG21 => have hP22 : ¬ (r19.1 ≠ (0 : Int)) := nP (bT_dec) hG21; VJ_P (P_move rfl)) <| RJ_mbF rfl rfl rfl (fun hG23 => have hP24 : ¬ (r19.1 ≠ (0 : Int)) := nP (bT_dec) hG23; VJ_P (P_not (mbx hG23 rfl))) <| oP (P_pickOr rfl rfl (fun hh => mbx (not_f hh) rfl)) rfl <| nT <| CJ_condP rfl (bT_or bT_dec (bT_not Iff.rfl)) (fun hg3 => ?_) (fun hg3 => ?_)
     ·
      replace h := ite_t hg3 h
      refine sR <| oA rfl rfl <| nT <| CJ_ret <| QJ_then_ret ?_
      cases h
      exact fE (res1 Tryz.results5 rfl) () (t2_ (eD (eD eR)))
     ·
      replace h := ite_f hg3 h
      refine kT <| CJ_seq <| sR <| oA rfl rfl <| nT ?_
      obtain ⟨y27, hl25, hK26⟩ := seq_e h
      refine CJ_cutT (X := Unit) [4, 11, 12, 13, 14, 15, 49, 50, 51, 52, 53, 54, 55, 56, 57, 58, 59, 60, 61, 62, 63, 64, 65, 66, 67, 68, 69, 70, 71, 72, 73, 74, 75, 76, 77, 78, 79, 80] (fun _ => ([] : Slots)) (fun _ R => R) (fun _ => y27 = .inl ()) Dels.nil ?_ ?_
      ·
       refine CJ_block <| CJ_loopR (X := Nat × Nat) [4, 11, 12, 13, 14, 15, 49, 50, 51, 52, 53, 54, 55, 56, 57, 58, 59, 60, 61, 62, 63, 64, 65, 66, 67, 68, 69, 70, 71, 72, 73, 74, 75, 76, 77, 78, 79, 80] (fun ⟨n, x29⟩ => ([(11, .int .i64 (((x29 : Nat) : Int)))] : Slots)) (fun ⟨n, x29⟩ R => R) (fun ⟨n, x29⟩ => volumegrouplaw19_ParityvolRows_l1 r6 r19 n x29 = some y27) (fun ⟨n, x29⟩ => n) ⟨FUEL, 0⟩ ?_ ?_ eR ?_
       · exact hl25
       · exact ⟨rfl, True.intro⟩
       ·
        rintro ⟨n, x29⟩ h
        cases n with
        | zero => exact none_e h
        | succ n => ?_
        replace h : volumegrouplaw19_ParityvolRows_l1_b r6 r19 (volumegrouplaw19_ParityvolRows_l1 r6 r19 n) x29 = some y27 := h
        unfold volumegrouplaw19_ParityvolRows_l1_b at h
        show CJ _ _ _ _ _ (([(11, .int .i64 (((x29 : Nat) : Int)))] : Slots) ++ forget _ _) (_)
        refine CJ_seq <| sR <| oM rfl rfl <| oM rfl rfl <| oM rfl rfl ?_
        obtain ⟨hg4, h⟩ := grd_Ie h
        refine oP (P_mul (a := r6.2.1) (b := r6.2.2) rfl rfl hg4) rfl <| oP (P_lss (a := ((x29 : Nat) : Int)) (b := (r6.2.1 * r6.2.2)) rfl rfl) rfl <| nT <| CJ_condP rfl bT_dec (fun hg5 => ?_) (fun hg5 => ?_)
        ·
         replace h := ite_t hg5 h
         refine kT <| CJ_seq <| CJ_block <| sR <| oA rfl rfl <| nT <| CJ_seq <| sR <| oA rfl rfl <| nT <| CJ_ent (fun h hh => sl_nil (t := tyU) h hh) ?_
         obtain ⟨y33, hl31, hK32⟩ := seq_e h
         refine CJ_cutT (X := (List UInt64) × Sl3) [4, 12, 13, 14, 15, 56, 57, 58, 59, 60, 61, 62, 63, 64, 65, 66, 67, 68, 69, 70, 71, 72, 73, 74, 75, 76, 77] (fun ⟨a36, hd35⟩ => ([(12, hd35.v)] : Slots)) (fun ⟨a36, hd35⟩ R => sl tyU hd35.v a36 :: R) (fun ⟨a36, hd35⟩ => y33 = .inl a36) (Dels.cons del0 Dels.nil) ?_ ?_
         ·
          refine CJ_block <| CJ_loopR (X := Nat × (List UInt64) × Nat × Sl3) [4, 12, 13, 14, 15, 56, 57, 58, 59, 60, 61, 62, 63, 64, 65, 66, 67, 68, 69, 70, 71, 72, 73, 74, 75, 76, 77] (fun ⟨n, x37, x39, hd38⟩ => ([(12, hd38.v), (13, .int .i64 (((x39 : Nat) : Int)))] : Slots)) (fun ⟨n, x37, x39, hd38⟩ R => sl tyU hd38.v x37 :: R) (fun ⟨n, x37, x39, hd38⟩ => volumegrouplaw19_ParityvolRows_l2 r6 r19 x29 n x37 x39 = some y33) (fun ⟨n, x37, x39, hd38⟩ => n) ⟨FUEL, [], 0, ⟨none, 0, 0⟩⟩ ?_ ?_ eR ?_
          · exact hl31
          · exact ⟨rfl, rfl, True.intro⟩
          ·
           rintro ⟨n, x37, x39, hd38⟩ h
           cases n with
           | zero => exact none_e h
           | succ n => ?_
           replace h : volumegrouplaw19_ParityvolRows_l2_b r6 r19 x29 (volumegrouplaw19_ParityvolRows_l2 r6 r19 x29 n) x37 x39 = some y33 := h
           unfold volumegrouplaw19_ParityvolRows_l2_b at h
           show CJ _ _ _ _ _ (([(12, hd38.v), (13, .int .i64 (((x39 : Nat) : Int)))] : Slots) ++ forget _ _) (sl tyU hd38.v x37 :: _)
           refine lC del0 fun hlen40 => CJ_seq <| sR <| oM rfl rfl <| oM rfl rfl <| oP (P_lss (a := ((x39 : Nat) : Int)) (b := r6.1) rfl rfl) rfl <| nT <| CJ_condP rfl bT_dec (fun hg6 => ?_) (fun hg6 => ?_)
           ·
            replace h := ite_t hg6 h
            refine kT <| CJ_seq <| CJ_block <| CJ_seq <| CJ_entX (Ent.transX (t1_ eR) (OwnP_open (l := r19.2.2.1))) fun oc41 => lC del5 fun hlen43 => lC del6 fun hlen44 => CJ_region <| oM rfl rfl <| oP (P_nilCheck rfl) rfl <| oP (P_fieldAddr rfl ⟨_, _, _, Tryz.runUnderlying37, rfl, rfl, Tryz.sizeOf30, rfl⟩) rfl <| oV (V_load rfl foc0 rfl Tryz.isAgg30) rfl <| oM rfl rfl <| oM rfl rfl ?_
            obtain ⟨hg7, h⟩ := grd_Ne h
            refine oP (PJ_eq (P_add (a := (16 : Int)) (b := ((x29 : Nat) : Int)) rfl rfl (nat_in hg7)) rfl) rfl <| oO <| O_call (c_Read) rfl Tryz.call16 (Dels.cons del8 Dels.nil) rfl fun _ _ => oM rfl rfl <| oP (P_extract rfl rfl) rfl <| oP (P_extract rfl rfl) rfl <| oA rfl rfl <| oA rfl rfl <| RJ_nil <| QJ_ent (Ent.trans (t1_ (t1_ (t1_ (t1_ (t1_ (t1_ (t1_ eR))))))) (OwnP_mk (v0 := r19.2.2.1.Open_1) (v1 := r19.2.2.1.X) (v2 := r19.2.2.1.T) (v3 := r19.2.2.1.Stale) (v4 := r19.2.2.1.Lost) (h0 := oc41.1) (h1 := oc41.2.1) (h2 := oc41.2.2.1) (h3 := oc41.2.2.2.1) (h4 := oc41.2.2.2.2.1) (h5 := oc41.2.2.2.2.2))) <| QJ_then <| CJ_seq <| sR <| oM rfl rfl <| oP (P_neq (a := (rdC r19.2.2.2 (((x39 : Nat) : Int)) ((((16 + x29) : Nat) : Int)))) (b := (0 : Int)) rfl rfl) rfl <| nT <| CJ_condP rfl bT_dec (fun hg8 => ?_) (fun hg8 => ?_)
            ·
             replace h := ite_t hg8 h
             refine sR <| oA rfl rfl <| nT <| CJ_ret <| QJ_then_ret <| QJ_block_ret <| QJ_then_ret <| QJ_round_ret <| QJ_block_ret <| QJ_then_ret <| QJ_block_ret <| QJ_then_ret <| QJ_round_ret <| QJ_block_ret <| QJ_then_ret ?_
             have hE := Option.some.inj h
             replace hE := seq_inr hK32 hE.symm
             replace hE := seq_inr hK26 hE.symm
             subst hE
             exact fE (res1 Tryz.results5 rfl) () (t3_ (eD (eD (eD eR))))
            ·
             replace h := ite_f hg8 h
             refine kT <| CJ_region <| oM rfl rfl <| oM rfl rfl <| oO <| O_buildSlice rfl (bs_43_1_0 _) rfl fun b45 => ?_
             obtain ⟨hg9, h⟩ := grd_Le h
             refine oO <| O_append (t := tyU) (bytes := 8) rfl rfl del3 foc0 (Reads.lit (t := tyU) (ys := [(rdV r19.2.2.2 (((x39 : Nat) : Int)) ((((16 + x29) : Nat) : Int)))]) rfl rfl (by decide) (by decide) rfl) Tryz.underlying43 ok_tyU (apl (m := 1) (b := 8) hg9 (by decide)).1 (apl (m := 1) (b := 8) hg9 (by decide)).2 rfl fun p47 c48 => oA rfl rfl <| RJ_nil <| QJ_block_normal <| QJ_then <| CJ_region <| oM rfl rfl ?_
             obtain ⟨hg10, h⟩ := grd_Ne h
             exact oP (PJ_eq (P_add (a := ((x39 : Nat) : Int)) (b := (1 : Int)) rfl rfl (nat_in hg10)) rfl) rfl <| oA rfl rfl <| RJ_nil <| nR ⟨n, (x37 ++ [(rdV r19.2.2.2 (((x39 : Nat) : Int)) ((((16 + x29) : Nat) : Int)))]), (x39 + 1), ⟨p47, (x37 ++ [(rdV r19.2.2.2 (((x39 : Nat) : Int)) ((((16 + x29) : Nat) : Int)))]).length, c48⟩⟩ h ⟨rfl, rfl, True.intro⟩ (t0_ (t1_ (t1_ (t1_ (eD eR)))))
           ·
            replace h := ite_f hg6 h
            exact CJ_exit <| QJ_then_exit <| QJ_round_exit <| QJ_block_here <| cR ⟨x37, hd38⟩ (Option.some.inj h).symm ⟨rfl, True.intro⟩ eR
         ·
          rintro ⟨a36, hd35⟩ hy49
          replace h := seq_inl hK32 hy49
          show CJ _ _ _ _ _ (([(12, hd35.v)] : Slots) ++ forget _ _) (sl tyU hd35.v a36 :: _)
          refine lC del0 fun hlen50 => sR <| oM rfl rfl ?_
          obtain ⟨r51, hr52, h⟩ := bind_e h
          refine oO <| O_call (L_volumegroupref18_Xor (Reads.sl _ _ _) hr52) rfl Tryz.call17 (Dels.cons del0 Dels.nil) rfl fun _ _ => oP (P_ne_u64 (a := r51) (b := (0 : UInt64)) rfl rfl) rfl <| nT <| CJ_condP rfl bT_dec (fun hg11 => ?_) (fun hg11 => ?_)
          ·
           replace h := ite_t hg11 h
           refine sR <| oA rfl rfl <| nT <| CJ_ret <| QJ_block_ret <| QJ_then_ret <| QJ_round_ret <| QJ_block_ret <| QJ_then_ret ?_
           have hE := Option.some.inj h
           replace hE := seq_inr hK26 hE.symm
           subst hE
           exact fE (res1 Tryz.results5 rfl) () (t3_ (eD (eD (eD eR))))
          ·
           replace h := ite_f hg11 h
           refine CJ_skip <| QJ_block_normal <| QJ_then <| CJ_region <| oM rfl rfl ?_
           obtain ⟨hg12, h⟩ := grd_Ne h
           exact oP (PJ_eq (P_add (a := ((x29 : Nat) : Int)) (b := (1 : Int)) rfl rfl (nat_in hg12)) rfl) rfl <| oA rfl rfl <| RJ_nil <| nR ⟨n, (x29 + 1)⟩ h ⟨rfl, True.intro⟩ (t1_ (t1_ (t1_ (eD eR))))
        ·
         replace h := ite_f hg5 h
         exact CJ_exit <| QJ_then_exit <| QJ_round_exit <| QJ_block_here <| cR () (Option.some.inj h).symm True.intro eR
      ·
       rintro _ hy53
       replace h := seq_inl hK26 hy53
       show CJ _ _ _ _ _ (([] : Slots) ++ forget _ _) (_)
       refine sR ?_
       obtain ⟨r54, hr55, h⟩ := bind_e h
       refine oO <| O_call (L_volumegrouplaw19_awake hr55) rfl Tryz.call11 Dels.nil rfl fun _ _ => oA rfl rfl <| nT <| CJ_ret ?_
       cases h
       exact fE (res1 Tryz.results5 rfl) () (t2_ (eD (eD eR)))
end Go.Proofs
namespace Go.Proofs
open Go.VG
theorem shape_eq (n : UInt8) : volumegrouplaw19_shape n = some (((CP n).L : Int), ((CP n).R : Int), ((CP n).c : Int)) := by
  have h1 := (CP n).hL
  have h2 := (CP n).hR
  have h3 := (CP n).hc
  have e1 : 3 + (n % 2).toNat = (CP n).L := rfl
  have e2 : 1 + ((n / 2) % 3).toNat = (CP n).R := rfl
  have e3 : 1 + ((n / 8) % 2).toNat = (CP n).c := rfl
  unfold volumegrouplaw19_shape
  rw [e1, e2, e3, grd_t (inN64_of (by omega)), grd_t (inN64_of (by omega)), grd_t (inN64_of (by omega))]
theorem refXorP_l1 {l : List UInt64} (hl : l.length ≤ 1000000) : ∀ (N i : Nat), l.length - i < N → i ≤ l.length → volumegroupref18_Xor_l1 l N (xorL (l.take i)) i = some (xorL l)
  | 0, _, h, _ => absurd h (by omega)
  | N + 1, i, h, hi => by
    have hu : volumegroupref18_Xor_l1 l (N + 1) (xorL (l.take i)) i = volumegroupref18_Xor_l1_b l (volumegroupref18_Xor_l1 l N) (xorL (l.take i)) i := rfl
    rw [hu]
    unfold volumegroupref18_Xor_l1_b
    by_cases hlt : i < l.length
    · rw [if_pos (by omega)]
      have e : xorL (l.take i) ^^^ l.getD i 0 = xorL (l.take (i + 1)) := by rw [getD_take_snoc (d := 0) hlt, xorL_snoc]
      rw [e]
      exact refXorP_l1 hl N (i + 1) (by omega) (by omega)
    · rw [if_neg (by omega), List.take_of_length_le (by omega)]
theorem refXorP {l : List UInt64} (hl : l.length ≤ 1000000) : volumegroupref18_Xor l = some (xorL l) := by
  have hF := fuel_big
  unfold volumegroupref18_Xor
  have h := refXorP_l1 hl FUEL 0 (by omega) (by omega)
  have e : xorL (l.take 0) = 0 := rfl
  rw [e] at h
  rw [h]; rfl
section
variable {C : PC} {V : Nat → Nat → UInt64} {r19 : Int × Bool × OwnS × ArrS} {K : Nat} {mz : Nat → Bool} {q : UInt64} {e : PE}
theorem rows_l2 (he : PEn C mz True K r19.2.2.2) (hm : ∀ i, mz i = false) (hq : Qs C none V q e r19.2.2.2) {o : Nat} (ho : o < C.O) : ∀ (N i : Nat) (acc : List UInt64), C.L - i < N → i ≤ C.L → acc.length = i → xorL acc = xr (fun d => V d o) i →
    ∃ acc', volumegrouplaw19_ParityvolRows_l2 ((C.L : Int), (C.R : Int), (C.c : Int)) r19 o N acc i = some (.inl acc') ∧ acc'.length = C.L ∧ xorL acc' = xr (fun d => V d o) C.L
  | 0, _, _, h, _, _, _ => absurd h (by omega)
  | N + 1, i, acc, h, hi, hl, hx => by
    have hL := C.hL
    have hO := @PC.hO C
    have hsz : C.sz = 16 + C.O := rfl
    have hu : volumegrouplaw19_ParityvolRows_l2 ((C.L : Int), (C.R : Int), (C.c : Int)) r19 o (N + 1) acc i = volumegrouplaw19_ParityvolRows_l2_b ((C.L : Int), (C.R : Int), (C.c : Int)) r19 o (volumegrouplaw19_ParityvolRows_l2 ((C.L : Int), (C.R : Int), (C.c : Int)) r19 o N) acc i := rfl
    rw [hu]
    unfold volumegrouplaw19_ParityvolRows_l2_b
    by_cases hlt : i < C.L
    · obtain ⟨r1, r2⟩ := he.ok.rdA (d := i) (a := 16 + o) he.dn (by rw [PC.len]; exact hlt) (by rw [PC.nsz hlt]; omega) (by rw [he.ms]; exact hm i)
      rw [if_pos (show ((i : Nat) : Int) < (C.L : Int) by omega), grd_t (inN64_of (by omega)), r2, if_neg (by simp), grd_t (inLen_of (by omega)), grd_t (inN64_of (by omega)), r1]
      refine rows_l2 he hm hq ho N (i + 1) _ (by omega) (by omega) (by simp [hl]) ?_
      rw [xorL_snoc, hx, (hq i hlt (by simp)).nw trivial o ho]; rfl
    · rw [if_neg (show ¬ ((i : Nat) : Int) < (C.L : Int) by omega)]
      have : i = C.L := by omega
      subst this
      exact ⟨acc, rfl, hl, hx⟩
theorem rows_l1 (he : PEn C mz True K r19.2.2.2) (hm : ∀ i, mz i = false) (hq : Qs C none V q e r19.2.2.2) (hj : JV C V q e) : ∀ (N o : Nat), C.O - o < N → o ≤ C.O → volumegrouplaw19_ParityvolRows_l1 ((C.L : Int), (C.R : Int), (C.c : Int)) r19 N o = some (.inl ())
  | 0, _, h, _ => absurd h (by omega)
  | N + 1, o, h, ho => by
    have hF := fuel_big
    have hL := C.hL
    have hO := @PC.hO C
    have hu : volumegrouplaw19_ParityvolRows_l1 ((C.L : Int), (C.R : Int), (C.c : Int)) r19 (N + 1) o = volumegrouplaw19_ParityvolRows_l1_b ((C.L : Int), (C.R : Int), (C.c : Int)) r19 (volumegrouplaw19_ParityvolRows_l1 ((C.L : Int), (C.R : Int), (C.c : Int)) r19 N) o := rfl
    have e1 : (C.R : Int) * (C.c : Int) = (C.O : Int) := by unfold PC.O; push_cast; rfl
    rw [hu]
    unfold volumegrouplaw19_ParityvolRows_l1_b
    simp only
    rw [e1, grd_t (inI64_of (by omega))]
    by_cases hlt : o < C.O
    · obtain ⟨acc, a1, a2, a3⟩ := rows_l2 he hm hq hlt FUEL 0 [] (by omega) (by omega) rfl rfl
      rw [if_pos (by omega), a1, seqO_inl, refXorP (by omega)]; simp only [Option.bind_some]
      rw [a3, hj.even o hlt, if_neg (by simp), grd_t (inN64_of (by omega))]
      exact rows_l1 he hm hq hj N (o + 1) (by omega) (by omega)
    · rw [if_neg (by omega)]
end
theorem parityvolRows (n : UInt8) (l : List volumegroupmake_Step) : volumegrouplaw19_ParityvolRows n l = some true := by
  unfold volumegrouplaw19_ParityvolRows volumegroupmake_Few
  simp only [Option.bind_some]
  by_cases hl : ((l.length : Nat) : Int) ≤ 24
  · rw [if_neg (by simp; omega), shape_eq]; simp only [Option.bind_some]
    rw [begunP_eq]; simp only [Option.bind_some, Option.elim_some]
    have hF := fuel_big
    have hL := (CP n).hL
    have hO := @PC.hO (CP n)
    obtain ⟨o', t, st', z', mz', V', q', e', h1, h2, h3⟩ := playB (C := CP n) (l := l) (lose := -1) (k := 0) (by omega) (by omega)
    rw [show volumegroupmake_Owner_Play (owB (CP n)) l (-1 : Int) (0 : Int) (0 : Int) (stB (CP n)) = some (true, o', t) from h1]; simp only [Option.bind_some]
    have hz : z' = none := h3.elim id (fun y => absurd y.2 (by decide))
    subst hz
    rw [if_neg (by simp)]
    obtain ⟨st2, o2, t2, g1, g2, -⟩ := oflushP h2 (by omega)
    have hst : st2 = none := g2.ow.sz.elim id id
    subst hst
    have hm : ∀ i, mz' i = false := fun i => by
      cases hmi : mz' i
      · rfl
      · exact absurd (g2.ow.mzz i hmi) (by simp)
    rw [g1]; simp only [Option.bind_some]
    rw [if_neg (by simp), rows_l1 (C := CP n) (r19 := (0, true, o2, t2)) g2.en hm g2.qs g2.jv FUEL 0 (by omega) (by omega), seqO_inl, awake19]; rfl
  · rw [if_pos (by simp; omega), awake19]; rfl
end Go.Proofs
