/- ParityvolReturns, part 8 of the proof: LOwnQ1, LOwnQ3, LOwnQN, LOwnQ4, LOwnQ5, LParityvolReturns, PParityvolReturns. -/
import Derived.WalkKit
import Derived.Orders
import Derived.RangeFuncLeaves
import Derived.RangeFuncCalls
import Derived.TacticsIn
import Derived.Handy
import Derived.OrdersHeld
import Derived.OrdersIn
import Derived.Below
import Derived.OpenShut
import Derived.Deep.Slices
import Derived.Scope
import Derived.KernelRfl
import Derived.RangeFuncRecord
import Derived.ChangeKeysEq
import Derived.ProofKit
import Derived.ShutString
import Derived.ChangeOld
import Derived.Test.YtmoiepdpckpolaaGreatChecked
import Derived.Test.YtmoiepdpckpolaaGreatRows
import Derived.Test.YtmoiepdpckpolaaGreatZParityvolReturns7
set_option linter.unusedSimpArgs false
set_option linter.unusedVariables false
set_option maxRecDepth 20000
set_option maxHeartbeats 4000000
namespace Go.Proofs
open Go.VG
theorem LQ_volumegroupmake_Owner_drop {W : World} {bo : Nat} {vlo : Nat} {bs : Nat} {o : OwnS} {s : ArrS} {r : Bool × OwnS} (h : volumegroupmake_Owner_drop o s = some r) :
    CSpec Tryz.prog W 50 [ptr bo 0] [OwnQ bs vlo bo o, Arr bs s] (fun x : Unit => .bool r.1) (fun _ => True) (fun x F => OwnQ bs vlo bo r.2 :: Arr bs s :: F) := by
 refine CSpec.of_body Tryz.func50 rfl Tryz.ntmps50 rfl fun F => ?_
 show CJ _ _ _ _ _ _ (_ :: _ :: F)
 unfold volumegroupmake_Owner_drop at h
 refine sR <| oA rfl rfl <| nT <| CJ_seq <| CJ_entX (Ent.transX (t0_ eR) (OwnQ_open (l := o))) fun oc1 => lC del5 fun hlen3 => lC del6 fun hlen4 => CJ_region <| oM rfl rfl <| oP (P_nilCheck rfl) rfl <| oP (P_fieldAddr rfl ⟨_, _, _, Tryz.runUnderlying37, rfl, rfl, Tryz.sizeOf33, rfl⟩) rfl <| oV (V_load rfl foc0 rfl Tryz.isAgg33) rfl ?_
 rcases opt_e h with ⟨ht5, h⟩ | ⟨o6, ht5, h⟩
 ·
  rw [ht5]
  exact RJ_ent (t0_ (t0_ (t0_ (t1_ (t1_ (t1_ (t1_ (eD eR)))))))) <| none_e h
 ·
  rw [ht5]
  refine RJ_ent (Ent.takeC (A' := VolP bs vlo o6) del3 rfl eR) ?_
  obtain ⟨r7, hr8, h⟩ := bind_e h
  refine oO <| O_callI rfl (ICall.of (fun w => by kernel_rfl) Tryz.call34 (L_parityvol_Volume_Failed hr8)) rfl (Dels.cons del0 (Dels.cons del6 Dels.nil)) rfl fun X9 _ => oA rfl rfl <| RJ_nil <| QJ_ent (Ent.trans (t3_ (t3_ (t3_ (t0_ (t2_ (t2_ (t2_ eR))))))) (OwnQ_mk (v0 := o.Open_1) (v1 := (some o6)) (v2 := o.T) (v3 := o.Stale) (v4 := o.Lost) (h0 := oc1.1) (h1 := oc1.2.1) (h2 := oc1.2.2.1) (h3 := oc1.2.2.2.1) (h4 := oc1.2.2.2.2))) <| QJ_then <| CJ_seq <| sR <| oA rfl rfl <| nT ?_
  obtain ⟨y13, hl11, hK12⟩ := seq_e h
  refine CJ_cutT (X := OwnS) [2, 4, 10, 11, 12, 13, 14, 15, 16, 17, 18, 19, 20, 21, 22, 23, 24, 25, 26, 27, 28, 29, 30, 31, 32, 33, 34, 35, 36, 37, 38, 39, 40, 41, 42, 43, 44, 45, 46, 47, 48, 49, 50, 51] (fun a15 => ([] : Slots)) (fun a15 R => OwnQ bs vlo bo a15 :: R) (fun a15 => y13 = .inl a15) (Dels.cons del0 Dels.nil) ?_ ?_
  ·
   refine CJ_block <| CJ_loopR (X := Nat × OwnS × Nat) [2, 4, 10, 11, 12, 13, 14, 15, 16, 17, 18, 19, 20, 21, 22, 23, 24, 25, 26, 27, 28, 29, 30, 31, 32, 33, 34, 35, 36, 37, 38, 39, 40, 41, 42, 43, 44, 45, 46, 47, 48, 49, 50, 51] (fun ⟨n, x16, x17⟩ => ([(4, .int .i64 (((x17 : Nat) : Int)))] : Slots)) (fun ⟨n, x16, x17⟩ R => OwnQ bs vlo bo x16 :: R) (fun ⟨n, x16, x17⟩ => volumegroupmake_Owner_drop_l1 s r7 n x16 x17 = some y13) (fun ⟨n, x16, x17⟩ => n) ⟨FUEL, { o with X := (some o6) }, 0⟩ ?_ ?_ eR ?_
   · exact hl11
   · exact ⟨rfl, True.intro⟩
   ·
    rintro ⟨n, x16, x17⟩ h
    cases n with
    | zero => exact none_e h
    | succ n => ?_
    replace h : volumegroupmake_Owner_drop_l1_b s r7 (volumegroupmake_Owner_drop_l1 s r7 n) x16 x17 = some y13 := h
    unfold volumegroupmake_Owner_drop_l1_b at h
    show CJ _ _ _ _ _ (([(4, .int .i64 (((x17 : Nat) : Int)))] : Slots) ++ forget _ _) (OwnQ bs vlo bo x16 :: _)
    refine CJ_seq <| sR <| oM rfl rfl <| oM rfl rfl <| oV (V_len rfl foc2 (Reads.sl _ _ _) Tryz.runUnderlying35) rfl <| oP (P_lss (a := ((x17 : Nat) : Int)) (b := ((r7.length : Nat) : Int)) rfl rfl) rfl <| nT <| CJ_condP rfl bT_dec (fun hg1 => ?_) (fun hg1 => ?_)
    ·
     replace h := ite_t hg1 h
     refine kT <| CJ_seq <| CJ_block <| CJ_seq <| CJ_seq <| CJ_entX (Ent.transX (t0_ eR) (OwnQ_open (l := x16))) fun oc18 => lC del5 fun hlen20 => lC del6 fun hlen21 => AJ_startH 2097152 (by kernel_rfl) rfl <| aN 0 1 rfl rfl (P_move rfl) rfl <| aN 1 3 rfl rfl (P_nilCheck rfl) rfl <| aN 2 7 rfl rfl (P_fieldAddr rfl ⟨_, _, _, Tryz.runUnderlying37, rfl, rfl, Tryz.sizeOf35, rfl⟩) rfl <| aV 3 15 rfl rfl (GY_none rfl) eR (V_load rfl foc0 rfl Tryz.isAgg35) rfl <| aN 4 31 rfl rfl (P_move rfl) rfl <| aN 5 63 rfl rfl (P_move rfl) rfl <| aV 6 127 rfl rfl (GY_none rfl) eR (V_index (i := x17) rfl rfl rfl (by omega) foc8 (Reads.sl _ _ _) Tryz.runUnderlying35 Tryz.sizeOf3) rfl <| aV 7 255 rfl rfl (GY_none rfl) eR (V_loadE rfl rfl (by omega) foc8 (Reads.sl _ _ _) rfl rfl Tryz.isAgg3) rfl ?_
     obtain ⟨r22, hr23, h⟩ := bind_e h
     refine AJ_op 8 511 rfl (by kernel_rfl) rfl (GY_none rfl) <| O_call (L_volumegroupmake_has (Reads.sl _ _ _) hr23) rfl Tryz.call98 (Dels.cons del6 Dels.nil) rfl fun _ _ => ⟨fun _ => (t1_ (t1_ (t1_ (t1_ (t1_ (t1_ eR)))))), ?_⟩
     refine aN 9 1023 rfl rfl (P_not rfl) rfl <| aN 10 2047 rfl rfl (P_move rfl) rfl <| AJ_splitP 26 rfl (bT_not Iff.rfl) (fun hg2B hg2 => ?_) (fun hg2B hg2 => ?_)
     ·
      replace h := ite_t hg2 h
      refine aS 11 4095 rfl rfl (GY_no rfl rfl rfl hg2B) rfl <| aS 12 8191 rfl rfl (GY_no rfl rfl rfl hg2B) rfl <| aS 13 16383 rfl rfl (GY_no rfl rfl rfl hg2B) rfl <| aS 14 32767 rfl rfl (GY_no rfl rfl rfl hg2B) rfl <| aS 15 65535 rfl rfl (GY_no rfl rfl rfl hg2B) rfl <| aS 16 131071 rfl rfl (GY_no rfl rfl rfl hg2B) rfl <| aS 17 262143 rfl rfl (GY_no rfl rfl rfl hg2B) rfl <| aS 18 524287 rfl rfl (GY_no rfl rfl rfl hg2B) rfl <| aS 19 1048575 rfl rfl (GY_no rfl rfl rfl hg2B) rfl <| aS 20 2097151 rfl rfl (GY_no rfl rfl rfl hg2B) rfl <| aS 21 4194303 rfl rfl (GY_no rfl rfl rfl hg2B) rfl <| aS 22 8388607 rfl rfl (GY_no rfl rfl rfl hg2B) rfl <| aN 23 16777215 rfl rfl (P_pickT rfl hg2B rfl) rfl <| AJ_done (by kernel_rfl) <| QJ_ent (Ent.trans (t1_ (t1_ (t1_ (t1_ (t1_ (t1_ eR)))))) (OwnQ_mk (v0 := x16.Open_1) (v1 := x16.X) (v2 := x16.T) (v3 := x16.Stale) (v4 := x16.Lost) (h0 := oc18.1) (h1 := oc18.2.1) (h2 := oc18.2.2.1) (h3 := oc18.2.2.2.1) (h4 := oc18.2.2.2.2))) <| QJ_then <| CJ_condT rfl rfl <| sR <| oA rfl rfl <| nT <| CJ_ret <| QJ_then_ret <| QJ_block_ret <| QJ_then_ret <| QJ_round_ret <| QJ_block_ret <| QJ_then_ret ?_
      have hE := Option.some.inj h
      replace hE := seq_inr hK12 hE.symm
      subst hE
      exact fE (res1 Tryz.results50 rfl) () (t0_ (t0_ (eD eR)))
     ·
      replace h := ite_f hg2 h
      refine aP 11 4095 rfl rfl (GY_yes rfl rfl rfl hg2B) (P_move rfl) rfl <| aP 12 8191 rfl rfl (GY_yes rfl rfl rfl hg2B) (P_nilCheck rfl) rfl <| aP 13 16383 rfl rfl (GY_yes rfl rfl rfl hg2B) (P_fieldAddr rfl ⟨_, _, _, Tryz.runUnderlying37, rfl, rfl, Tryz.sizeOf33, rfl⟩) rfl <| aV 14 32767 rfl rfl (GY_yes rfl rfl rfl hg2B) (t1_ (t1_ (t1_ (t1_ (t1_ (t1_ eR)))))) (V_load rfl foc0 rfl Tryz.isAgg33) rfl <| aP 15 65535 rfl rfl (GY_yes rfl rfl rfl hg2B) (P_move rfl) rfl <| aP 16 131071 rfl rfl (GY_yes rfl rfl rfl hg2B) (P_move rfl) rfl <| aV 17 262143 rfl rfl (GY_yes rfl rfl rfl hg2B) (t1_ (t1_ (t1_ (t1_ (t1_ (t1_ eR)))))) (V_index (i := x17) rfl rfl rfl (by omega) foc8 (Reads.sl _ _ _) Tryz.runUnderlying35 Tryz.sizeOf3) rfl <| aV 18 524287 rfl rfl (GY_yes rfl rfl rfl hg2B) (t1_ (t1_ (t1_ (t1_ (t1_ (t1_ eR)))))) (V_loadE rfl rfl (by omega) foc8 (Reads.sl _ _ _) rfl rfl Tryz.isAgg3) rfl ?_
      rcases opt_e h with ⟨ht24, h⟩ | ⟨o25, ht24, h⟩
      ·
       rw [ht24]
       exact none_e h
      ·
       rw [ht24]
       refine AJ_ent (Ent.takeC (A' := VolP bs vlo o25) del4 rfl eR) <| aP 19 1048575 rfl rfl (GY_yes rfl rfl rfl hg2B) (P_nilCheckI rfl) rfl <| aP 20 2097151 rfl rfl (GY_yes rfl rfl rfl hg2B) (P_move rfl) rfl ?_
       obtain ⟨r26, hr27, h⟩ := bind_e h
       refine AJ_op 21 4194303 rfl (by kernel_rfl) rfl (GY_yes rfl rfl rfl hg2B) <| O_callI rfl (ICall.of (fun w => by kernel_rfl) Tryz.call33 (L_parityvol_Volume_Drop hr27)) rfl (Dels.cons del0 (Dels.cons del6 Dels.nil)) rfl fun _ _ => ⟨fun h => absurd h (by decide), ?_⟩
       refine aP 22 8388607 rfl rfl (GY_yes rfl rfl rfl hg2B) (P_neq (a := r26.1) (b := (0 : Int)) rfl rfl) rfl <| aN 23 16777215 rfl rfl (P_pickF rfl hg2B rfl) rfl <| AJ_done (by kernel_rfl) <| QJ_ent (Ent.trans (t3_ (t3_ (t3_ (t0_ (t2_ (t2_ (t1_ eR))))))) (OwnQ_mk (v0 := x16.Open_1) (v1 := (some r26.2)) (v2 := x16.T) (v3 := x16.Stale) (v4 := x16.Lost) (h0 := oc18.1) (h1 := oc18.2.1) (h2 := oc18.2.2.1) (h3 := oc18.2.2.2.1) (h4 := oc18.2.2.2.2))) <| QJ_then <| CJ_condP rfl bT_dec (fun hg3 => ?_) (fun hg3 => ?_)
       ·
        replace h := ite_t hg3 h
        refine sR <| oA rfl rfl <| nT <| CJ_ret <| QJ_then_ret <| QJ_block_ret <| QJ_then_ret <| QJ_round_ret <| QJ_block_ret <| QJ_then_ret ?_
        have hE := Option.some.inj h
        replace hE := seq_inr hK12 hE.symm
        subst hE
        exact fE (res1 Tryz.results50 rfl) () (t0_ (t0_ (eD eR)))
       ·
        replace h := ite_f hg3 h
        refine kT <| CJ_entX (Ent.transX (t0_ eR) (OwnQ_open (l := { x16 with X := (some r26.2) }))) fun oc28 => lC del5 fun hlen30 => lC del6 fun hlen31 => AJ_startH 4608 (by kernel_rfl) rfl <| aN 0 1 rfl rfl (P_move rfl) rfl <| aN 1 3 rfl rfl (P_move rfl) rfl <| aN 2 7 rfl rfl (P_nilCheck rfl) rfl <| aN 3 15 rfl rfl (P_fieldAddr rfl ⟨_, _, _, Tryz.runUnderlying37, rfl, rfl, Tryz.sizeOf35, rfl⟩) rfl <| aV 4 31 rfl rfl (GY_none rfl) eR (V_load rfl foc0 rfl Tryz.isAgg35) rfl <| aN 5 63 rfl rfl (P_move rfl) rfl <| aN 6 127 rfl rfl (P_move rfl) rfl <| aV 7 255 rfl rfl (GY_none rfl) eR (V_index (i := x17) rfl rfl rfl (by omega) foc8 (Reads.sl _ _ _) Tryz.runUnderlying35 Tryz.sizeOf3) rfl <| aV 8 511 rfl rfl (GY_none rfl) eR (V_loadE rfl rfl (by omega) foc8 (Reads.sl _ _ _) rfl rfl Tryz.isAgg3) rfl ?_
        obtain ⟨r32, hr33, h⟩ := bind_e h
        refine AJ_op 9 1023 rfl (by kernel_rfl) rfl (GY_none rfl) <| O_call (L_volumegroupmake_add (Reads.sl _ _ _) hr33) rfl Tryz.call58 (Dels.cons del5 Dels.nil) rfl fun X34 _ => ⟨fun h => absurd h (by decide), ?_⟩
        refine aN 10 2047 rfl rfl (P_nilCheck rfl) rfl <| aN 11 4095 rfl rfl (P_fieldAddr rfl ⟨_, _, _, Tryz.runUnderlying37, rfl, rfl, Tryz.sizeOf35, rfl⟩) rfl <| AJ_op 12 8191 rfl (by kernel_rfl) rfl (GY_none rfl) <| O_store rfl rfl foc2 rfl rfl Tryz.sizeOf35 <| ⟨fun h => absurd h (by decide), ?_⟩
        refine AJ_done (by kernel_rfl) <| QJ_ent (Ent.trans (t2_ (t2_ (t2_ (t2_ (t2_ (t1_ (t1_ eR))))))) (OwnQ_mk (v0 := x16.Open_1) (v1 := (some r26.2)) (v2 := x16.T) (v3 := r32) (v4 := x16.Lost) (h0 := oc28.1) (h1 := oc28.2.1) (h2 := oc28.2.2.1) (h3 := X34) (h4 := oc28.2.2.2.2))) <| QJ_block_normal <| QJ_then <| CJ_region <| oM rfl rfl ?_
        obtain ⟨hg4, h⟩ := grd_Ne h
        exact oP (PJ_eq (P_add (a := ((x17 : Nat) : Int)) (b := (1 : Int)) rfl rfl (nat_in hg4)) rfl) rfl <| oA rfl rfl <| RJ_nil <| nR ⟨n, (⟨x16.Open_1, (some r26.2), x16.T, r32, x16.Lost⟩ : OwnS), (x17 + 1)⟩ h ⟨rfl, True.intro⟩ (t0_ (t1_ (t1_ (eD eR))))
    ·
     replace h := ite_f hg1 h
     exact CJ_exit <| QJ_then_exit <| QJ_round_exit <| QJ_block_here <| cR x16 (Option.some.inj h).symm True.intro eR
  ·
   rintro a15 hy36
   replace h := seq_inl hK12 hy36
   show CJ _ _ _ _ _ (([] : Slots) ++ forget _ _) (OwnQ bs vlo bo a15 :: _)
   refine sR <| oM rfl rfl <| oV (V_len rfl foc2 (Reads.sl _ _ _) Tryz.runUnderlying35) rfl <| oP (P_gtr (a := ((r7.length : Nat) : Int)) (b := (0 : Int)) rfl rfl) rfl <| oA rfl rfl <| nT <| CJ_ret ?_
   cases h
   exact fE (res1 Tryz.results50 rfl) () (t0_ (t0_ (eD eR)))
theorem LQ_volumegroupmake_Owner_Read {W : World} {bo : Nat} {vlo : Nat} {bs : Nat} {o : OwnS} {at_1 : Int} {settled : Bool} {s : ArrS} {r : Int × Bool × OwnS × ArrS} (h : volumegroupmake_Owner_Read o at_1 settled s = some r) :
    CSpec Tryz.prog W 59 [ptr bo 0, .int .i64 at_1, .bool settled] [OwnQ bs vlo bo o, Arr bs s] (fun x : Unit => .tuple #[.int .i64 r.1, .bool r.2.1]) (fun _ => True) (fun x F => OwnQ bs vlo bo r.2.2.1 :: Arr bs r.2.2.2 :: F) := by
 refine CSpec.of_body Tryz.func59 rfl Tryz.ntmps59 rfl fun F => ?_
 show CJ _ _ _ _ _ _ (_ :: _ :: F)
 unfold volumegroupmake_Owner_Read at h
 refine sR <| oA rfl rfl <| oA rfl rfl <| nT <| CJ_seq <| CJ_entX (Ent.transX (t0_ eR) (OwnQ_open (l := o))) fun oc1 => lC del5 fun hlen3 => lC del6 fun hlen4 => CJ_region <| oM rfl rfl <| oP (P_nilCheck rfl) rfl <| oP (P_fieldAddr rfl ⟨_, _, _, Tryz.runUnderlying37, rfl, rfl, Tryz.sizeOf33, rfl⟩) rfl <| oV (V_load rfl foc0 rfl Tryz.isAgg33) rfl <| oM rfl rfl ?_
 rcases opt_e h with ⟨ht5, h⟩ | ⟨o6, ht5, h⟩
 ·
  rw [ht5]
  exact RJ_ent (t0_ (t0_ (t0_ (t1_ (t1_ (t1_ (t1_ (eD eR)))))))) <| none_e h
 ·
  rw [ht5]
  refine RJ_ent (Ent.takeC (A' := VolP bs vlo o6) del3 rfl eR) ?_
  obtain ⟨r7, hr8, h⟩ := bind_e h
  refine oO <| O_callI rfl (ICall.of (fun w => by kernel_rfl) Tryz.call28 (L_parityvol_Volume_Read hr8)) rfl (Dels.cons del0 (Dels.cons del6 Dels.nil)) rfl fun _ _ => oM rfl rfl <| oP (P_extract rfl rfl) rfl <| oP (P_extract rfl rfl) rfl <| oA rfl rfl <| oA rfl rfl <| RJ_nil <| QJ_ent (Ent.trans (t2_ (t2_ (t2_ (t0_ (t1_ (t1_ (t1_ eR))))))) (OwnQ_mk (v0 := o.Open_1) (v1 := (some r7.2.2.1)) (v2 := o.T) (v3 := o.Stale) (v4 := o.Lost) (h0 := oc1.1) (h1 := oc1.2.1) (h2 := oc1.2.2.1) (h3 := oc1.2.2.2.1) (h4 := oc1.2.2.2.2))) <| QJ_then <| CJ_seq <| sR <| oA rfl rfl <| nT ?_
  obtain ⟨y11, hl9, hK10⟩ := seq_e h
  refine CJ_cutT (X := UInt64 × Int × OwnS × ArrS) [6, 7, 8, 9, 10, 20, 21, 22, 23, 24, 25, 26, 27, 28, 29, 30, 31, 32, 33, 34, 35, 36, 37, 38, 39, 40] (fun a16 => ([(8, .int .u64 (a16.1.toNat : Int)), (9, .int .i64 a16.2.1)] : Slots)) (fun a16 R => OwnQ bs vlo bo a16.2.2.1 :: Arr bs a16.2.2.2 :: R) (fun a16 => y11 = .inl a16) (Dels.cons del0 (Dels.cons del0 Dels.nil)) ?_ ?_
  ·
   refine CJ_block <| CJ_loopR (X := Nat × OwnS × ArrS × Nat × UInt64 × Int) [6, 7, 8, 9, 10, 20, 21, 22, 23, 24, 25, 26, 27, 28, 29, 30, 31, 32, 33, 34, 35, 36, 37, 38, 39, 40] (fun ⟨n, x17, x18, x19, x20, x21⟩ => ([(8, .int .u64 (x20.toNat : Int)), (9, .int .i64 x21), (10, .int .i64 (((x19 : Nat) : Int)))] : Slots)) (fun ⟨n, x17, x18, x19, x20, x21⟩ R => OwnQ bs vlo bo x17 :: Arr bs x18 :: R) (fun ⟨n, x17, x18, x19, x20, x21⟩ => volumegroupmake_Owner_Read_l1 at_1 n x17 x18 x19 x20 x21 = some y11) (fun ⟨n, x17, x18, x19, x20, x21⟩ => n) ⟨FUEL, { o with X := (some r7.2.2.1) }, r7.2.2.2, 0, r7.1, r7.2.1⟩ ?_ ?_ eR ?_
   · exact hl9
   · exact ⟨rfl, rfl, rfl, True.intro⟩
   ·
    rintro ⟨n, x17, x18, x19, x20, x21⟩ h
    cases n with
    | zero => exact none_e h
    | succ n => ?_
    replace h : volumegroupmake_Owner_Read_l1_b at_1 (volumegroupmake_Owner_Read_l1 at_1 n) x17 x18 x19 x20 x21 = some y11 := h
    unfold volumegroupmake_Owner_Read_l1_b at h
    show CJ _ _ _ _ _ (([(8, .int .u64 (x20.toNat : Int)), (9, .int .i64 x21), (10, .int .i64 (((x19 : Nat) : Int)))] : Slots) ++ forget _ _) (OwnQ bs vlo bo x17 :: Arr bs x18 :: _)
    refine CJ_seq <| sR <| oM rfl rfl <| oP (P_lss (a := ((x19 : Nat) : Int)) (b := (8 : Int)) rfl rfl) rfl <| oM rfl rfl <| RJ_mbT rfl rfl rfl (fun hG22 => have hP23 : (((x19 : Nat) : Int) < (8 : Int)) := (bT_dec).1 hG22; VJ_P (P_move rfl)) <| RJ_mbT rfl rfl rfl (fun hG24 => have hP25 : (((x19 : Nat) : Int) < (8 : Int)) := (bT_dec).1 hG24; VJ_P (P_eql (a := x21) (b := (18 : Int)) (mbx hG24 rfl) rfl)) <| oP (P_pickAnd rfl (fun hh => mbx hh rfl) rfl) rfl <| nT <| CJ_condP rfl (bT_and bT_dec bT_dec) (fun hg1 => ?_) (fun hg1 => ?_)
    ·
     replace h := ite_t hg1 h
     refine kT <| CJ_seq <| CJ_block <| CJ_seq <| sR <| oM rfl rfl ?_
     obtain ⟨r26, hr27, h⟩ := bind_e h
     refine oO <| O_call (LQ_volumegroupmake_Owner_drop hr27) rfl Tryz.call50 (Dels.cons del0 (Dels.cons del0 Dels.nil)) rfl fun _ _ => oP (P_not rfl) rfl <| nT <| CJ_condP rfl (bT_not Iff.rfl) (fun hg2 => ?_) (fun hg2 => ?_)
     ·
      replace h := ite_t hg2 h
      refine sR <| oM rfl rfl <| oA rfl rfl <| oA rfl rfl <| nT <| CJ_ret <| QJ_then_ret <| QJ_block_ret <| QJ_then_ret <| QJ_round_ret <| QJ_block_ret <| QJ_then_ret ?_
      have hE := Option.some.inj h
      replace hE := seq_inr hK10 hE.symm
      subst hE
      exact fE (res2 Tryz.results59 rfl rfl) () eR
     ·
      replace h := ite_f hg2 h
      refine kT <| CJ_entX (Ent.transX (t0_ eR) (OwnQ_open (l := r26.2))) fun oc28 => lC del5 fun hlen30 => lC del6 fun hlen31 => CJ_region <| oM rfl rfl <| oP (P_nilCheck rfl) rfl <| oP (P_fieldAddr rfl ⟨_, _, _, Tryz.runUnderlying37, rfl, rfl, Tryz.sizeOf33, rfl⟩) rfl <| oV (V_load rfl foc0 rfl Tryz.isAgg33) rfl <| oM rfl rfl ?_
      rcases opt_e h with ⟨ht32, h⟩ | ⟨o33, ht32, h⟩
      ·
       rw [ht32]
       exact RJ_ent (t0_ (t0_ (t0_ (t1_ (t1_ (t1_ (t1_ (eD eR)))))))) <| none_e h
      ·
       rw [ht32]
       refine RJ_ent (Ent.takeC (A' := VolP bs vlo o33) del3 rfl eR) ?_
       obtain ⟨r34, hr35, h⟩ := bind_e h
       exact oO <| O_callI rfl (ICall.of (fun w => by kernel_rfl) Tryz.call28 (L_parityvol_Volume_Read hr35)) rfl (Dels.cons del0 (Dels.cons del6 Dels.nil)) rfl fun _ _ => oM rfl rfl <| oP (P_extract rfl rfl) rfl <| oP (P_extract rfl rfl) rfl <| oA rfl rfl <| oA rfl rfl <| RJ_nil <| QJ_ent (Ent.trans (t2_ (t2_ (t2_ (t0_ (t1_ (t1_ (t1_ eR))))))) (OwnQ_mk (v0 := r26.2.Open_1) (v1 := (some r34.2.2.1)) (v2 := r26.2.T) (v3 := r26.2.Stale) (v4 := r26.2.Lost) (h0 := oc28.1) (h1 := oc28.2.1) (h2 := oc28.2.2.1) (h3 := oc28.2.2.2.1) (h4 := oc28.2.2.2.2))) <| QJ_block_normal <| QJ_then <| CJ_region <| oM rfl rfl <| oP (PJ_eq (P_add (a := ((x19 : Nat) : Int)) (b := (1 : Int)) rfl rfl (by omega)) rfl) rfl <| oA rfl rfl <| RJ_nil <| nR ⟨n, { r26.2 with X := (some r34.2.2.1) }, r34.2.2.2, (x19 + 1), r34.1, r34.2.1⟩ h ⟨rfl, rfl, rfl, True.intro⟩ eR
    ·
     replace h := ite_f hg1 h
     exact CJ_exit <| QJ_then_exit <| QJ_round_exit <| QJ_block_here <| cR (x20, x21, x17, x18) (Option.some.inj h).symm ⟨rfl, rfl, True.intro⟩ eR
  ·
   rintro a16 hy36
   replace h := seq_inl hK10 hy36
   show CJ _ _ _ _ _ (([(8, .int .u64 (a16.1.toNat : Int)), (9, .int .i64 a16.2.1)] : Slots) ++ forget _ _) (OwnQ bs vlo bo a16.2.2.1 :: Arr bs a16.2.2.2 :: _)
   refine CJ_seq <| sR <| oM rfl rfl <| oP (P_eql (a := a16.2.1) (b := (5 : Int)) rfl rfl) rfl <| nT <| CJ_condP rfl bT_dec (fun hg3 => ?_) (fun hg3 => ?_)
   ·
    replace h := ite_t hg3 h
    refine sR <| oM rfl rfl <| oA rfl rfl <| oA rfl rfl <| nT <| CJ_ret <| QJ_then_ret ?_
    cases h
    exact fE (res2 Tryz.results59 rfl rfl) () eR
   ·
    replace h := ite_f hg3 h
    refine kT <| CJ_seq <| CJ_entX (Ent.transX (t0_ eR) (OwnQ_open (l := a16.2.2.1))) fun oc37 => lC del5 fun hlen39 => lC del6 fun hlen40 => CJ_region <| oM rfl rfl <| oM rfl rfl <| oP (P_eql (a := a16.2.1) (b := (0 : Int)) rfl rfl) rfl <| oM rfl rfl <| RJ_splitP 47 rfl bT_dec (fun hg4B hg4 => ?_) (fun hg4B hg4 => ?_)
    ·
     replace h := ite_t hg4 h
     refine gP (GY_yes rfl rfl rfl hg4B) (P_move rfl) rfl <| gP (GY_yes rfl rfl rfl hg4B) (P_nilCheck rfl) rfl <| gP (GY_yes rfl rfl rfl hg4B) (P_fieldAddr rfl ⟨_, _, _, Tryz.runUnderlying37, rfl, rfl, Tryz.sizeOf34, rfl⟩) rfl <| gV (GY_yes rfl rfl rfl hg4B) (V_load rfl foc0 rfl Tryz.isAgg34) rfl <| gP (GY_yes rfl rfl rfl hg4B) (P_move rfl) rfl <| gP (GY_yes rfl rfl rfl hg4B) (P_move rfl) rfl <| gP (GY_yes rfl rfl rfl hg4B) (P_move rfl) rfl ?_
     obtain ⟨hg5, h⟩ := grd_de h
     refine RJ_gy (GY_yes rfl rfl rfl hg4B) <| O_call (c_Reads (smallT_at hg5) (v := a16.1)) rfl Tryz.call100 (Dels.cons del4 Dels.nil) rfl fun _ _ => oP (P_pickT rfl hg4B rfl) rfl <| oA rfl rfl <| oA rfl rfl <| RJ_nil <| QJ_ent (Ent.trans (t1_ (t1_ (t1_ (t1_ eR)))) (OwnQ_mk (v0 := a16.2.2.1.Open_1) (v1 := a16.2.2.1.X) (v2 := (rdTS a16.2.2.1.T at_1 a16.1 settled)) (v3 := a16.2.2.1.Stale) (v4 := a16.2.2.1.Lost) (h0 := oc37.1) (h1 := oc37.2.1) (h2 := oc37.2.2.1) (h3 := oc37.2.2.2.1) (h4 := oc37.2.2.2.2))) <| QJ_then <| CJ_ret ?_
     cases h
     exact fE (res2 Tryz.results59 rfl rfl) () eR
    ·
     replace h := ite_f hg4 h
     refine RJ_gn (GY_no rfl rfl rfl hg4B) rfl rfl <| RJ_gn (GY_no rfl rfl rfl hg4B) rfl rfl <| RJ_gn (GY_no rfl rfl rfl hg4B) rfl rfl <| RJ_gn (GY_no rfl rfl rfl hg4B) rfl rfl <| RJ_gn (GY_no rfl rfl rfl hg4B) rfl rfl <| RJ_gn (GY_no rfl rfl rfl hg4B) rfl rfl <| RJ_gn (GY_no rfl rfl rfl hg4B) rfl rfl <| RJ_gn (GY_no rfl rfl rfl hg4B) rfl rfl <| oP (P_pickF rfl hg4B rfl) rfl <| oA rfl rfl <| oA rfl rfl <| RJ_nil <| QJ_ent (Ent.trans eR (OwnQ_mk (v0 := a16.2.2.1.Open_1) (v1 := a16.2.2.1.X) (v2 := a16.2.2.1.T) (v3 := a16.2.2.1.Stale) (v4 := a16.2.2.1.Lost) (h0 := oc37.1) (h1 := oc37.2.1) (h2 := oc37.2.2.1) (h3 := oc37.2.2.2.1) (h4 := oc37.2.2.2.2))) <| QJ_then <| CJ_ret ?_
     cases h
     exact fE (res2 Tryz.results59 rfl rfl) () eR
end Go.Proofs
set_option linter.unusedSimpArgs false
set_option linter.unusedVariables false
set_option maxRecDepth 20000
set_option maxHeartbeats 4000000
namespace Go.Proofs
open Go.VG
theorem LQ_volumegroupmake_Owner_Write {W : World} {bo : Nat} {vlo : Nat} {bs : Nat} {o : OwnS} {at_1 : Int} {v : UInt64} {s : ArrS} {r : Int × Bool × OwnS × ArrS} (h : volumegroupmake_Owner_Write o at_1 v s = some r) :
    CSpec Tryz.prog W 44 [ptr bo 0, .int .i64 at_1, .int .u64 (v.toNat : Int)] [OwnQ bs vlo bo o, Arr bs s] (fun x : Unit => .tuple #[.int .i64 r.1, .bool r.2.1]) (fun _ => True) (fun x F => OwnQ bs vlo bo r.2.2.1 :: Arr bs r.2.2.2 :: F) := by
 refine CSpec.of_body Tryz.func44 rfl Tryz.ntmps44 rfl fun F => ?_
 show CJ _ _ _ _ _ _ (_ :: _ :: F)
 unfold volumegroupmake_Owner_Write at h
 refine sR <| oA rfl rfl <| oA rfl rfl <| nT <| CJ_seq <| CJ_entX (Ent.transX (t0_ eR) (OwnQ_open (l := o))) fun oc1 => lC del5 fun hlen3 => lC del6 fun hlen4 => CJ_region <| oM rfl rfl <| oP (P_nilCheck rfl) rfl <| oP (P_fieldAddr rfl ⟨_, _, _, Tryz.runUnderlying37, rfl, rfl, Tryz.sizeOf33, rfl⟩) rfl <| oV (V_load rfl foc0 rfl Tryz.isAgg33) rfl <| oM rfl rfl <| oM rfl rfl ?_
 rcases opt_e h with ⟨ht5, h⟩ | ⟨o6, ht5, h⟩
 ·
  rw [ht5]
  exact RJ_ent (t0_ (t0_ (t0_ (t1_ (t1_ (t1_ (t1_ (eD eR)))))))) <| none_e h
 ·
  rw [ht5]
  refine RJ_ent (Ent.takeC (A' := VolP bs vlo o6) del3 rfl eR) ?_
  obtain ⟨r7, hr8, h⟩ := bind_e h
  refine oO <| O_callI rfl (ICall.of (fun w => by kernel_rfl) Tryz.call32 (L_parityvol_Volume_Write hr8)) rfl (Dels.cons del0 (Dels.cons del6 Dels.nil)) rfl fun _ _ => oA rfl rfl <| RJ_nil <| QJ_ent (Ent.trans (t2_ (t2_ (t2_ (t0_ (t1_ (t1_ (t1_ eR))))))) (OwnQ_mk (v0 := o.Open_1) (v1 := (some r7.2.1)) (v2 := o.T) (v3 := o.Stale) (v4 := o.Lost) (h0 := oc1.1) (h1 := oc1.2.1) (h2 := oc1.2.2.1) (h3 := oc1.2.2.2.1) (h4 := oc1.2.2.2.2))) <| QJ_then <| CJ_seq <| sR <| oA rfl rfl <| nT ?_
  obtain ⟨y11, hl9, hK10⟩ := seq_e h
  refine CJ_cutT (X := Int × OwnS × ArrS) [6, 7, 8, 9, 17, 18, 19, 20, 21, 22, 23, 24, 25, 26, 27, 28, 29, 30, 31, 32, 33, 34, 35, 36, 37, 38, 39, 40, 41, 42] (fun a15 => ([(8, .int .i64 a15.1)] : Slots)) (fun a15 R => OwnQ bs vlo bo a15.2.1 :: Arr bs a15.2.2 :: R) (fun a15 => y11 = .inl a15) (Dels.cons del0 (Dels.cons del0 Dels.nil)) ?_ ?_
  ·
   refine CJ_block <| CJ_loopR (X := Nat × OwnS × ArrS × Int × Nat) [6, 7, 8, 9, 17, 18, 19, 20, 21, 22, 23, 24, 25, 26, 27, 28, 29, 30, 31, 32, 33, 34, 35, 36, 37, 38, 39, 40, 41, 42] (fun ⟨n, x16, x17, x18, x19⟩ => ([(8, .int .i64 x18), (9, .int .i64 (((x19 : Nat) : Int)))] : Slots)) (fun ⟨n, x16, x17, x18, x19⟩ R => OwnQ bs vlo bo x16 :: Arr bs x17 :: R) (fun ⟨n, x16, x17, x18, x19⟩ => volumegroupmake_Owner_Write_l1 at_1 v n x16 x17 x18 x19 = some y11) (fun ⟨n, x16, x17, x18, x19⟩ => n) ⟨FUEL, { o with X := (some r7.2.1) }, r7.2.2, r7.1, 0⟩ ?_ ?_ eR ?_
   · exact hl9
   · exact ⟨rfl, rfl, True.intro⟩
   ·
    rintro ⟨n, x16, x17, x18, x19⟩ h
    cases n with
    | zero => exact none_e h
    | succ n => ?_
    replace h : volumegroupmake_Owner_Write_l1_b at_1 v (volumegroupmake_Owner_Write_l1 at_1 v n) x16 x17 x18 x19 = some y11 := h
    unfold volumegroupmake_Owner_Write_l1_b at h
    show CJ _ _ _ _ _ (([(8, .int .i64 x18), (9, .int .i64 (((x19 : Nat) : Int)))] : Slots) ++ forget _ _) (OwnQ bs vlo bo x16 :: Arr bs x17 :: _)
    refine CJ_seq <| sR <| oM rfl rfl <| oP (P_lss (a := ((x19 : Nat) : Int)) (b := (8 : Int)) rfl rfl) rfl <| oM rfl rfl <| RJ_mbT rfl rfl rfl (fun hG20 => have hP21 : (((x19 : Nat) : Int) < (8 : Int)) := (bT_dec).1 hG20; VJ_P (P_move rfl)) <| RJ_mbT rfl rfl rfl (fun hG22 => have hP23 : (((x19 : Nat) : Int) < (8 : Int)) := (bT_dec).1 hG22; VJ_P (P_eql (a := x18) (b := (18 : Int)) (mbx hG22 rfl) rfl)) <| oP (P_pickAnd rfl (fun hh => mbx hh rfl) rfl) rfl <| nT <| CJ_condP rfl (bT_and bT_dec bT_dec) (fun hg1 => ?_) (fun hg1 => ?_)
    ·
     replace h := ite_t hg1 h
     refine kT <| CJ_seq <| CJ_block <| CJ_seq <| CJ_entX (Ent.transX (t0_ eR) (OwnQ_open (l := x16))) fun oc24 => lC del5 fun hlen26 => lC del6 fun hlen27 => CJ_region <| oM rfl rfl <| oP (P_nilCheck rfl) rfl <| oP (P_fieldAddr rfl ⟨_, _, _, Tryz.runUnderlying37, rfl, rfl, Tryz.sizeOf34, rfl⟩) rfl <| oV (V_load rfl foc0 rfl Tryz.isAgg34) rfl <| oM rfl rfl <| oM rfl rfl ?_
     obtain ⟨hg2, h⟩ := grd_de h
     refine oO <| O_call (c_Wrote (smallT_at hg2) (v := v)) rfl Tryz.call96 (Dels.cons del4 Dels.nil) rfl fun _ _ => RJ_nil <| QJ_ent (Ent.trans (t1_ (t1_ (t1_ (t1_ eR)))) (OwnQ_mk (v0 := x16.Open_1) (v1 := x16.X) (v2 := (wroteT x16.T at_1 v false)) (v3 := x16.Stale) (v4 := x16.Lost) (h0 := oc24.1) (h1 := oc24.2.1) (h2 := oc24.2.2.1) (h3 := oc24.2.2.2.1) (h4 := oc24.2.2.2.2))) <| QJ_then <| CJ_seq <| sR <| oM rfl rfl ?_
     obtain ⟨r28, hr29, h⟩ := bind_e h
     refine oO <| O_call (LQ_volumegroupmake_Owner_drop hr29) rfl Tryz.call50 (Dels.cons del0 (Dels.cons del0 Dels.nil)) rfl fun _ _ => oP (P_not rfl) rfl <| nT <| CJ_condP rfl (bT_not Iff.rfl) (fun hg3 => ?_) (fun hg3 => ?_)
     ·
      replace h := ite_t hg3 h
      refine sR <| oM rfl rfl <| oA rfl rfl <| oA rfl rfl <| nT <| CJ_ret <| QJ_then_ret <| QJ_block_ret <| QJ_then_ret <| QJ_round_ret <| QJ_block_ret <| QJ_then_ret ?_
      have hE := Option.some.inj h
      replace hE := seq_inr hK10 hE.symm
      subst hE
      exact fE (res2 Tryz.results44 rfl rfl) () eR
     ·
      replace h := ite_f hg3 h
      refine kT <| CJ_entX (Ent.transX (t0_ eR) (OwnQ_open (l := r28.2))) fun oc30 => lC del5 fun hlen32 => lC del6 fun hlen33 => CJ_region <| oM rfl rfl <| oP (P_nilCheck rfl) rfl <| oP (P_fieldAddr rfl ⟨_, _, _, Tryz.runUnderlying37, rfl, rfl, Tryz.sizeOf33, rfl⟩) rfl <| oV (V_load rfl foc0 rfl Tryz.isAgg33) rfl <| oM rfl rfl <| oM rfl rfl ?_
      rcases opt_e h with ⟨ht34, h⟩ | ⟨o35, ht34, h⟩
      ·
       rw [ht34]
       exact RJ_ent (t0_ (t0_ (t0_ (t1_ (t1_ (t1_ (t1_ (eD eR)))))))) <| none_e h
      ·
       rw [ht34]
       refine RJ_ent (Ent.takeC (A' := VolP bs vlo o35) del3 rfl eR) ?_
       obtain ⟨r36, hr37, h⟩ := bind_e h
       exact oO <| O_callI rfl (ICall.of (fun w => by kernel_rfl) Tryz.call32 (L_parityvol_Volume_Write hr37)) rfl (Dels.cons del0 (Dels.cons del6 Dels.nil)) rfl fun _ _ => oA rfl rfl <| RJ_nil <| QJ_ent (Ent.trans (t2_ (t2_ (t2_ (t0_ (t1_ (t1_ (t1_ eR))))))) (OwnQ_mk (v0 := r28.2.Open_1) (v1 := (some r36.2.1)) (v2 := r28.2.T) (v3 := r28.2.Stale) (v4 := r28.2.Lost) (h0 := oc30.1) (h1 := oc30.2.1) (h2 := oc30.2.2.1) (h3 := oc30.2.2.2.1) (h4 := oc30.2.2.2.2))) <| QJ_block_normal <| QJ_then <| CJ_region <| oM rfl rfl <| oP (PJ_eq (P_add (a := ((x19 : Nat) : Int)) (b := (1 : Int)) rfl rfl (by omega)) rfl) rfl <| oA rfl rfl <| RJ_nil <| nR ⟨n, { r28.2 with X := (some r36.2.1) }, r36.2.2, r36.1, (x19 + 1)⟩ h ⟨rfl, rfl, True.intro⟩ eR
    ·
     replace h := ite_f hg1 h
     exact CJ_exit <| QJ_then_exit <| QJ_round_exit <| QJ_block_here <| cR (x18, x16, x17) (Option.some.inj h).symm ⟨rfl, True.intro⟩ eR
  ·
   rintro a15 hy38
   replace h := seq_inl hK10 hy38
   show CJ _ _ _ _ _ (([(8, .int .i64 a15.1)] : Slots) ++ forget _ _) (OwnQ bs vlo bo a15.2.1 :: Arr bs a15.2.2 :: _)
   refine CJ_seq <| CJ_entX (Ent.transX (t0_ eR) (OwnQ_open (l := a15.2.1))) fun oc39 => lC del5 fun hlen41 => lC del6 fun hlen42 => CJ_region <| oM rfl rfl <| oP (P_nilCheck rfl) rfl <| oP (P_fieldAddr rfl ⟨_, _, _, Tryz.runUnderlying37, rfl, rfl, Tryz.sizeOf34, rfl⟩) rfl <| oV (V_load rfl foc0 rfl Tryz.isAgg34) rfl <| oM rfl rfl <| oM rfl rfl <| oM rfl rfl <| oP (P_eql (a := a15.1) (b := (0 : Int)) rfl rfl) rfl ?_
   obtain ⟨hg4, h⟩ := grd_de h
   refine oO <| O_call (c_Wrote (smallT_at hg4) (v := v)) rfl Tryz.call96 (Dels.cons del4 Dels.nil) rfl fun _ _ => RJ_nil <| QJ_ent (Ent.trans (t1_ (t1_ (t1_ (t1_ eR)))) (OwnQ_mk (v0 := a15.2.1.Open_1) (v1 := a15.2.1.X) (v2 := (wroteT a15.2.1.T at_1 v ((decide (a15.1 = (0 : Int)))))) (v3 := a15.2.1.Stale) (v4 := a15.2.1.Lost) (h0 := oc39.1) (h1 := oc39.2.1) (h2 := oc39.2.2.1) (h3 := oc39.2.2.2.1) (h4 := oc39.2.2.2.2))) <| QJ_then <| sR <| oM rfl rfl <| oM rfl rfl <| oP (P_eql (a := a15.1) (b := (0 : Int)) rfl rfl) rfl <| oM rfl rfl <| RJ_mbF rfl rfl rfl (fun hG43 => have hP44 : ¬ (a15.1 = (0 : Int)) := nP (bT_dec) hG43; VJ_P (P_move rfl)) <| RJ_mbF rfl rfl rfl (fun hG45 => have hP46 : ¬ (a15.1 = (0 : Int)) := nP (bT_dec) hG45; VJ_P (P_eql (a := a15.1) (b := (5 : Int)) (mbx hG45 rfl) rfl)) <| oP (P_pickOr rfl rfl (fun hh => mbx (not_f hh) rfl)) rfl <| oA rfl rfl <| oA rfl rfl <| nT <| CJ_ret ?_
   cases h
   exact fE (res2 Tryz.results44 rfl rfl) () eR
theorem LQ_volumegroupmake_Owner_Flush {W : World} {bo : Nat} {vlo : Nat} {bs : Nat} {o : OwnS} {s : ArrS} {r : Int × Bool × OwnS × ArrS} (h : volumegroupmake_Owner_Flush o s = some r) :
    CSpec Tryz.prog W 15 [ptr bo 0] [OwnQ bs vlo bo o, Arr bs s] (fun x : Unit => .tuple #[.int .i64 r.1, .bool r.2.1]) (fun _ => True) (fun x F => OwnQ bs vlo bo r.2.2.1 :: Arr bs r.2.2.2 :: F) := by
 refine CSpec.of_body Tryz.func15 rfl Tryz.ntmps15 rfl fun F => ?_
 show CJ _ _ _ _ _ _ (_ :: _ :: F)
 unfold volumegroupmake_Owner_Flush at h
 refine sR <| oA rfl rfl <| oA rfl rfl <| nT <| CJ_seq <| CJ_entX (Ent.transX (t0_ eR) (OwnQ_open (l := o))) fun oc1 => lC del5 fun hlen3 => lC del6 fun hlen4 => CJ_region <| oM rfl rfl <| oP (P_nilCheck rfl) rfl <| oP (P_fieldAddr rfl ⟨_, _, _, Tryz.runUnderlying37, rfl, rfl, Tryz.sizeOf33, rfl⟩) rfl <| oV (V_load rfl foc0 rfl Tryz.isAgg33) rfl ?_
 rcases opt_e h with ⟨ht5, h⟩ | ⟨o6, ht5, h⟩
 ·
  rw [ht5]
  exact RJ_ent (t0_ (t0_ (t0_ (t1_ (t1_ (t1_ (t1_ (eD eR)))))))) <| none_e h
 ·
  rw [ht5]
  refine RJ_ent (Ent.takeC (A' := VolP bs vlo o6) del3 rfl eR) ?_
  obtain ⟨r7, hr8, h⟩ := bind_e h
  refine oO <| O_callI rfl (ICall.of (fun w => by kernel_rfl) Tryz.call43 (L_parityvol_Volume_Flush hr8)) rfl (Dels.cons del0 (Dels.cons del6 Dels.nil)) rfl fun _ _ => oA rfl rfl <| RJ_nil <| QJ_ent (Ent.trans (t2_ (t2_ (t2_ (t0_ (t1_ (t1_ (t1_ eR))))))) (OwnQ_mk (v0 := o.Open_1) (v1 := (some r7.2.1)) (v2 := o.T) (v3 := o.Stale) (v4 := o.Lost) (h0 := oc1.1) (h1 := oc1.2.1) (h2 := oc1.2.2.1) (h3 := oc1.2.2.2.1) (h4 := oc1.2.2.2.2))) <| QJ_then <| CJ_seq <| sR <| oA rfl rfl <| nT ?_
  obtain ⟨y11, hl9, hK10⟩ := seq_e h
  refine CJ_cutT (X := Int × OwnS × ArrS) [2, 3, 4, 5, 11, 12, 13, 14, 15, 16, 17, 18, 19, 20, 21, 22, 23, 24, 25, 26, 27] (fun a15 => ([(4, .int .i64 a15.1)] : Slots)) (fun a15 R => OwnQ bs vlo bo a15.2.1 :: Arr bs a15.2.2 :: R) (fun a15 => y11 = .inl a15) (Dels.cons del0 (Dels.cons del0 Dels.nil)) ?_ ?_
  ·
   refine CJ_block <| CJ_loopR (X := Nat × OwnS × ArrS × Int × Nat) [2, 3, 4, 5, 11, 12, 13, 14, 15, 16, 17, 18, 19, 20, 21, 22, 23, 24, 25, 26, 27] (fun ⟨n, x16, x17, x18, x19⟩ => ([(4, .int .i64 x18), (5, .int .i64 (((x19 : Nat) : Int)))] : Slots)) (fun ⟨n, x16, x17, x18, x19⟩ R => OwnQ bs vlo bo x16 :: Arr bs x17 :: R) (fun ⟨n, x16, x17, x18, x19⟩ => volumegroupmake_Owner_Flush_l1 n x16 x17 x18 x19 = some y11) (fun ⟨n, x16, x17, x18, x19⟩ => n) ⟨FUEL, { o with X := (some r7.2.1) }, r7.2.2, r7.1, 0⟩ ?_ ?_ eR ?_
   · exact hl9
   · exact ⟨rfl, rfl, True.intro⟩
   ·
    rintro ⟨n, x16, x17, x18, x19⟩ h
    cases n with
    | zero => exact none_e h
    | succ n => ?_
    replace h : volumegroupmake_Owner_Flush_l1_b (volumegroupmake_Owner_Flush_l1 n) x16 x17 x18 x19 = some y11 := h
    unfold volumegroupmake_Owner_Flush_l1_b at h
    show CJ _ _ _ _ _ (([(4, .int .i64 x18), (5, .int .i64 (((x19 : Nat) : Int)))] : Slots) ++ forget _ _) (OwnQ bs vlo bo x16 :: Arr bs x17 :: _)
    refine CJ_seq <| sR <| oM rfl rfl <| oP (P_lss (a := ((x19 : Nat) : Int)) (b := (8 : Int)) rfl rfl) rfl <| oM rfl rfl <| RJ_mbT rfl rfl rfl (fun hG20 => have hP21 : (((x19 : Nat) : Int) < (8 : Int)) := (bT_dec).1 hG20; VJ_P (P_move rfl)) <| RJ_mbT rfl rfl rfl (fun hG22 => have hP23 : (((x19 : Nat) : Int) < (8 : Int)) := (bT_dec).1 hG22; VJ_P (P_eql (a := x18) (b := (18 : Int)) (mbx hG22 rfl) rfl)) <| oP (P_pickAnd rfl (fun hh => mbx hh rfl) rfl) rfl <| nT <| CJ_condP rfl (bT_and bT_dec bT_dec) (fun hg1 => ?_) (fun hg1 => ?_)
    ·
     replace h := ite_t hg1 h
     refine kT <| CJ_seq <| CJ_block <| CJ_seq <| sR <| oM rfl rfl ?_
     obtain ⟨r24, hr25, h⟩ := bind_e h
     refine oO <| O_call (LQ_volumegroupmake_Owner_drop hr25) rfl Tryz.call50 (Dels.cons del0 (Dels.cons del0 Dels.nil)) rfl fun _ _ => oP (P_not rfl) rfl <| nT <| CJ_condP rfl (bT_not Iff.rfl) (fun hg2 => ?_) (fun hg2 => ?_)
     ·
      replace h := ite_t hg2 h
      refine sR <| oM rfl rfl <| oA rfl rfl <| oA rfl rfl <| nT <| CJ_ret <| QJ_then_ret <| QJ_block_ret <| QJ_then_ret <| QJ_round_ret <| QJ_block_ret <| QJ_then_ret ?_
      have hE := Option.some.inj h
      replace hE := seq_inr hK10 hE.symm
      subst hE
      exact fE (res2 Tryz.results15 rfl rfl) () eR
     ·
      replace h := ite_f hg2 h
      refine kT <| CJ_entX (Ent.transX (t0_ eR) (OwnQ_open (l := r24.2))) fun oc26 => lC del5 fun hlen28 => lC del6 fun hlen29 => CJ_region <| oM rfl rfl <| oP (P_nilCheck rfl) rfl <| oP (P_fieldAddr rfl ⟨_, _, _, Tryz.runUnderlying37, rfl, rfl, Tryz.sizeOf33, rfl⟩) rfl <| oV (V_load rfl foc0 rfl Tryz.isAgg33) rfl ?_
      rcases opt_e h with ⟨ht30, h⟩ | ⟨o31, ht30, h⟩
      ·
       rw [ht30]
       exact RJ_ent (t0_ (t0_ (t0_ (t1_ (t1_ (t1_ (t1_ (eD eR)))))))) <| none_e h
      ·
       rw [ht30]
       refine RJ_ent (Ent.takeC (A' := VolP bs vlo o31) del3 rfl eR) ?_
       obtain ⟨r32, hr33, h⟩ := bind_e h
       exact oO <| O_callI rfl (ICall.of (fun w => by kernel_rfl) Tryz.call43 (L_parityvol_Volume_Flush hr33)) rfl (Dels.cons del0 (Dels.cons del6 Dels.nil)) rfl fun _ _ => oA rfl rfl <| RJ_nil <| QJ_ent (Ent.trans (t2_ (t2_ (t2_ (t0_ (t1_ (t1_ (t1_ eR))))))) (OwnQ_mk (v0 := r24.2.Open_1) (v1 := (some r32.2.1)) (v2 := r24.2.T) (v3 := r24.2.Stale) (v4 := r24.2.Lost) (h0 := oc26.1) (h1 := oc26.2.1) (h2 := oc26.2.2.1) (h3 := oc26.2.2.2.1) (h4 := oc26.2.2.2.2))) <| QJ_block_normal <| QJ_then <| CJ_region <| oM rfl rfl <| oP (PJ_eq (P_add (a := ((x19 : Nat) : Int)) (b := (1 : Int)) rfl rfl (by omega)) rfl) rfl <| oA rfl rfl <| RJ_nil <| nR ⟨n, { r24.2 with X := (some r32.2.1) }, r32.2.2, r32.1, (x19 + 1)⟩ h ⟨rfl, rfl, True.intro⟩ eR
    ·
     replace h := ite_f hg1 h
     exact CJ_exit <| QJ_then_exit <| QJ_round_exit <| QJ_block_here <| cR (x18, x16, x17) (Option.some.inj h).symm ⟨rfl, True.intro⟩ eR
  ·
   rintro a15 hy34
   replace h := seq_inl hK10 hy34
   show CJ _ _ _ _ _ (([(4, .int .i64 a15.1)] : Slots) ++ forget _ _) (OwnQ bs vlo bo a15.2.1 :: Arr bs a15.2.2 :: _)
   refine CJ_seq <| sR <| oM rfl rfl <| oP (P_eql (a := a15.1) (b := (0 : Int)) rfl rfl) rfl <| nT <| CJ_condP rfl bT_dec (fun hg3 => ?_) (fun hg3 => ?_)
   ·
    replace h := ite_t hg3 h
    refine CJ_entX (Ent.transX (t0_ eR) (OwnQ_open (l := a15.2.1))) fun oc35 => lC del5 fun hlen37 => lC del6 fun hlen38 => CJ_region <| oM rfl rfl <| oP (P_nilCheck rfl) rfl <| oP (P_fieldAddr rfl ⟨_, _, _, Tryz.runUnderlying37, rfl, rfl, Tryz.sizeOf34, rfl⟩) rfl <| oV (V_load rfl foc0 rfl Tryz.isAgg34) rfl <| oO <| O_call (c_Flushed) rfl Tryz.call51 (Dels.cons del4 Dels.nil) rfl fun _ _ => RJ_nil <| QJ_ent (Ent.trans (t1_ (t1_ (t1_ (t1_ eR)))) (OwnQ_mk (v0 := a15.2.1.Open_1) (v1 := a15.2.1.X) (v2 := (flushedT a15.2.1.T)) (v3 := a15.2.1.Stale) (v4 := a15.2.1.Lost) (h0 := oc35.1) (h1 := oc35.2.1) (h2 := oc35.2.2.1) (h3 := oc35.2.2.2.1) (h4 := oc35.2.2.2.2))) <| QJ_then <| sR <| oM rfl rfl <| oM rfl rfl <| oP (P_eql (a := a15.1) (b := (0 : Int)) rfl rfl) rfl <| oM rfl rfl <| RJ_mbF rfl rfl rfl (fun hG39 => have hP40 : ¬ (a15.1 = (0 : Int)) := nP (bT_dec) hG39; VJ_P (P_move rfl)) <| RJ_mbF rfl rfl rfl (fun hG41 => have hP42 : ¬ (a15.1 = (0 : Int)) := nP (bT_dec) hG41; VJ_P (P_eql (a := a15.1) (b := (5 : Int)) (mbx hG41 rfl) rfl)) <| oP (P_pickOr rfl rfl (fun hh => mbx (not_f hh) rfl)) rfl <| oA rfl rfl <| oA rfl rfl <| nT <| CJ_ret ?_
    cases h
    exact fE (res2 Tryz.results15 rfl rfl) () eR
   ·
    replace h := ite_f hg3 h
    refine kT <| sR <| oM rfl rfl <| oM rfl rfl <| oP (P_eql (a := a15.1) (b := (0 : Int)) rfl rfl) rfl <| oM rfl rfl <| RJ_mbF rfl rfl rfl (fun hG43 => have hP44 : ¬ (a15.1 = (0 : Int)) := nP (bT_dec) hG43; VJ_P (P_move rfl)) <| RJ_mbF rfl rfl rfl (fun hG45 => have hP46 : ¬ (a15.1 = (0 : Int)) := nP (bT_dec) hG45; VJ_P (P_eql (a := a15.1) (b := (5 : Int)) (mbx hG45 rfl) rfl)) <| oP (P_pickOr rfl rfl (fun hh => mbx (not_f hh) rfl)) rfl <| oA rfl rfl <| oA rfl rfl <| nT <| CJ_ret ?_
    cases h
    exact fE (res2 Tryz.results15 rfl rfl) () eR
end Go.Proofs
set_option linter.unusedSimpArgs false
set_option linter.unusedVariables false
set_option maxRecDepth 20000
set_option maxHeartbeats 4000000
namespace Go.Proofs
open Go.VG
end Go.Proofs
set_option linter.unusedSimpArgs false
set_option linter.unusedVariables false
set_option maxRecDepth 20000
set_option maxHeartbeats 4000000
namespace Go.Proofs
open Go.VG
def volumegroupmake_Owner_StepQ (o : OwnS) (s_1 : volumegroupmake_Step) (s : ArrS) : Option (Bool × OwnS × ArrS) :=
  grd (decide (¬ ((o.T.length : Nat) : Int) = 0)) <|
  grd (inI64 (((s_1.At.tmod (((o.T.length : Nat) : Int))) + ((o.T.length : Nat) : Int)))) <|
  grd (decide (¬ ((o.T.length : Nat) : Int) = 0)) <|
  lt (((((s_1.At.tmod (((o.T.length : Nat) : Int))) + ((o.T.length : Nat) : Int))).tmod (((o.T.length : Nat) : Int)))) fun w8 =>
  Option.bind ((
    if (s_1.Kind = (0 : Int)) then
      Option.bind (volumegroupmake_Owner_Write o w8 s_1.Value s) fun r17 =>
      some (r17.1, r17.2.1, r17.2.2.1, r17.2.2.2)
    else
      if (s_1.Kind = (1 : Int)) then
        Option.bind (volumegroupmake_Owner_Read o w8 false s) fun r19 =>
        some (r19.1, r19.2.1, r19.2.2.1, r19.2.2.2)
      else
        if (s_1.Kind = (2 : Int)) then
          Option.bind (volumegroupmake_Owner_Flush o s) fun r21 =>
          some (r21.1, r21.2.1, r21.2.2.1, r21.2.2.2)
        else
          if (s_1.Kind = (3 : Int)) then
            some (((5 : Int), true, o, s))
          else
            if (s_1.Kind = (4 : Int)) then
              grd (inI64 (((1 : Int) + w8))) <|
              grd (inI64 (((1 : Int) + w8))) <|
              some (((0 : Int), true, o, { s with fuse := (((1 : Int) + w8)).toNat }))
            else
              some (((0 : Int), true, o, s)) : Option (Int × Bool × OwnS × ArrS))) fun a16 =>
  if (¬ a16.2.1 = true) then
    some (false, a16.2.2.1, a16.2.2.2)
  else
    if (a16.1 ≠ (5 : Int)) then
      some (true, a16.2.2.1, a16.2.2.2)
    else
      none
theorem LQ_volumegroupmake_Owner_StepQ {W : World} {bo : Nat} {vlo : Nat} {bs : Nat} {o : OwnS} {s_1 : volumegroupmake_Step} {s : ArrS} {r : Bool × OwnS × ArrS} (h : volumegroupmake_Owner_StepQ o s_1 s = some r) :
    CSpec Tryz.prog W 19 [ptr bo 0, .agg #[.int .i64 s_1.Kind, .int .i64 s_1.At, .int .u64 (s_1.Value.toNat : Int), .int .u64 (s_1.Keep.toNat : Int)]] [OwnQ bs vlo bo o, Arr bs s] (fun x : Unit => .bool r.1) (fun _ => True) (fun x F => OwnQ bs vlo bo r.2.1 :: Arr bs r.2.2 :: F) := by
 refine CSpec.of_body Tryz.func19 rfl Tryz.ntmps19 rfl fun F => ?_
 show CJ _ _ _ _ _ _ (_ :: _ :: F)
 unfold volumegroupmake_Owner_StepQ at h
 refine sR <| oO <| O_box rfl rfl rfl fun b1 => oA rfl rfl <| nT <| CJ_seq <| CJ_entX (Ent.transX (t1_ eR) (OwnQ_open (l := o))) fun oc2 => lC del5 fun hlen4 => lC del6 fun hlen5 => CJ_entX (Ent.transX (t4_ eR) Trk_open) fun tc6 => CJ_pur fun hS7 => CJ_region <| oM rfl rfl <| oP (P_nilCheck rfl) rfl <| oP (P_fieldAddr rfl ⟨_, _, _, Tryz.runUnderlying37, rfl, rfl, Tryz.sizeOf34, rfl⟩) rfl <| oV (V_load rfl foc3 rfl Tryz.isAgg34) rfl <| oP (P_nilCheck rfl) rfl <| oP (P_fieldAddr rfl ⟨_, _, _, Tryz.runUnderlying56, rfl, rfl, Tryz.sizeOf54, rfl⟩) rfl <| oV (V_load rfl foc0 rfl Tryz.isAgg54) rfl <| oV (VJ_eq (V_len rfl foc1 (Reads.sl _ _ _) Tryz.runUnderlying54) (congrArg (fun z : Nat => Value.int .i64 (z : Int)) hS7.len.symm)) rfl <| oA rfl rfl <| RJ_nil <| QJ_ent (Ent.trans (t0_ (t0_ (t0_ eR))) (Trk_close hS7)) <| QJ_ent (Ent.trans (t1_ (t1_ (t1_ (t1_ eR)))) (OwnQ_mk (v0 := o.Open_1) (v1 := o.X) (v2 := o.T) (v3 := o.Stale) (v4 := o.Lost) (h0 := oc2.1) (h1 := oc2.2.1) (h2 := oc2.2.2.1) (h3 := oc2.2.2.2.1) (h4 := oc2.2.2.2.2))) <| QJ_then <| sR <| oP (P_fieldAddr rfl ⟨_, _, _, Tryz.runUnderlying49, rfl, rfl, Tryz.sizeOf3, rfl⟩) rfl <| oV (V_load rfl foc1 rfl Tryz.isAgg3) rfl <| oM rfl rfl ?_
 obtain ⟨hg1, h⟩ := grd_de h
 refine oP (P_remT (a := s_1.At) (b := ((o.T.length : Nat) : Int)) rfl rfl hg1) rfl <| oM rfl rfl ?_
 obtain ⟨hg2, h⟩ := grd_Ie h
 refine oP (P_add (a := (s_1.At.tmod (((o.T.length : Nat) : Int)))) (b := ((o.T.length : Nat) : Int)) rfl rfl hg2) rfl <| oM rfl rfl ?_
 obtain ⟨hg3, h⟩ := grd_de h
 refine oP (P_remT (a := ((s_1.At.tmod (((o.T.length : Nat) : Int))) + ((o.T.length : Nat) : Int))) (b := ((o.T.length : Nat) : Int)) rfl rfl hg3) rfl ?_
 obtain ⟨w8, hw8, h⟩ := lt_e h
 rw [← hw8]
 refine oA rfl rfl <| nT <| sR <| oA rfl rfl <| oA rfl rfl <| nT <| CJ_seq <| sR <| oP (P_fieldAddr rfl ⟨_, _, _, Tryz.runUnderlying49, rfl, rfl, Tryz.sizeOf3, rfl⟩) rfl <| oV (V_load rfl foc1 rfl Tryz.isAgg3) rfl <| nT ?_
 obtain ⟨y11, hl9, hK10⟩ := bind_c h
 refine CJ_cutT (X := Int × Bool × OwnS × ArrS) [7, 8, 27, 28, 29, 30, 31, 32, 33, 34, 35, 36, 37, 38, 39, 40, 41, 42, 43, 44, 45, 46, 47, 48, 49, 50, 51, 52, 53, 54, 55, 56, 57, 58, 59, 60, 61, 62] (fun a16 => ([(7, .int .i64 a16.1), (8, .bool a16.2.1)] : Slots)) (fun a16 R => OwnQ bs vlo bo a16.2.2.1 :: Arr bs a16.2.2.2 :: R) (fun a16 => y11 = a16) (Dels.cons del0 (Dels.cons del1 Dels.nil)) ?_ ?_
 ·
  have h := hl9
  refine CJ_block <| sR <| oP (P_eql (a := s_1.Kind) (b := (0 : Int)) rfl rfl) rfl <| oA rfl rfl <| nT <| CJ_condP rfl bT_dec (fun hg4 => ?_) (fun hg4 => ?_)
  ·
   replace h := ite_t hg4 h
   refine CJ_region <| oM rfl rfl <| oM rfl rfl <| oP (P_fieldAddr rfl ⟨_, _, _, Tryz.runUnderlying49, rfl, rfl, Tryz.sizeOf44, rfl⟩) rfl <| oV (V_load rfl foc1 rfl Tryz.isAgg44) rfl ?_
   obtain ⟨r17, hr18, h⟩ := bind_e h
   exact oO <| O_call (LQ_volumegroupmake_Owner_Write hr18) rfl Tryz.call44 (Dels.cons del0 (Dels.cons del1 Dels.nil)) rfl fun _ _ => oM rfl rfl <| oP (P_extract rfl rfl) rfl <| oP (P_extract rfl rfl) rfl <| oA rfl rfl <| oA rfl rfl <| RJ_nil <| QJ_block_normal <| cR (r17.1, r17.2.1, r17.2.2.1, r17.2.2.2) (Option.some.inj h).symm ⟨rfl, rfl, True.intro⟩ eR
  ·
   replace h := ite_f hg4 h
   refine sR <| oP (P_eql (a := s_1.Kind) (b := (1 : Int)) rfl rfl) rfl <| oA rfl rfl <| nT <| CJ_condP rfl bT_dec (fun hg5 => ?_) (fun hg5 => ?_)
   ·
    replace h := ite_t hg5 h
    refine CJ_region <| oM rfl rfl <| oM rfl rfl ?_
    obtain ⟨r19, hr20, h⟩ := bind_e h
    exact oO <| O_call (LQ_volumegroupmake_Owner_Read hr20) rfl Tryz.call59 (Dels.cons del0 (Dels.cons del1 Dels.nil)) rfl fun _ _ => oM rfl rfl <| oP (P_extract rfl rfl) rfl <| oP (P_extract rfl rfl) rfl <| oA rfl rfl <| oA rfl rfl <| RJ_nil <| QJ_block_normal <| cR (r19.1, r19.2.1, r19.2.2.1, r19.2.2.2) (Option.some.inj h).symm ⟨rfl, rfl, True.intro⟩ eR
   ·
    replace h := ite_f hg5 h
    refine sR <| oP (P_eql (a := s_1.Kind) (b := (2 : Int)) rfl rfl) rfl <| oA rfl rfl <| nT <| CJ_condP rfl bT_dec (fun hg6 => ?_) (fun hg6 => ?_)
    ·
     replace h := ite_t hg6 h
     refine CJ_region <| oM rfl rfl ?_
     obtain ⟨r21, hr22, h⟩ := bind_e h
     exact oO <| O_call (LQ_volumegroupmake_Owner_Flush hr22) rfl Tryz.call15 (Dels.cons del0 (Dels.cons del1 Dels.nil)) rfl fun _ _ => oM rfl rfl <| oP (P_extract rfl rfl) rfl <| oP (P_extract rfl rfl) rfl <| oA rfl rfl <| oA rfl rfl <| RJ_nil <| QJ_block_normal <| cR (r21.1, r21.2.1, r21.2.2.1, r21.2.2.2) (Option.some.inj h).symm ⟨rfl, rfl, True.intro⟩ eR
    ·
     replace h := ite_f hg6 h
     refine sR <| oP (P_eql (a := s_1.Kind) (b := (3 : Int)) rfl rfl) rfl <| oA rfl rfl <| nT <| CJ_condP rfl bT_dec (fun hg7 => ?_) (fun hg7 => ?_)
     ·
      replace h := ite_t hg7 h
      exact CJ_region <| oA rfl rfl <| RJ_nil <| QJ_block_normal <| cR ((5 : Int), true, o, s) (Option.some.inj h).symm ⟨rfl, rfl, True.intro⟩ (t0_ (t1_ eR))
     ·
      replace h := ite_f hg7 h
      refine sR <| oP (P_eql (a := s_1.Kind) (b := (4 : Int)) rfl rfl) rfl <| oA rfl rfl <| nT <| CJ_condP rfl bT_dec (fun hg8 => ?_) (fun hg8 => ?_)
      ·
       replace h := ite_t hg8 h
       refine CJ_entX (Ent.transX (t0_ eR) (OwnQ_open (l := o))) fun oc23 => lC del5 fun hlen25 => lC del6 fun hlen26 => CJ_region <| oM rfl rfl <| oP (P_nilCheck rfl) rfl <| oP (P_fieldAddr rfl ⟨_, _, _, Tryz.runUnderlying37, rfl, rfl, Tryz.sizeOf30, rfl⟩) rfl <| oV (V_load rfl foc0 rfl Tryz.isAgg30) rfl <| oM rfl rfl ?_
       obtain ⟨hg9, h⟩ := grd_Ie h
       refine oP (P_add (a := (1 : Int)) (b := w8) rfl rfl hg9) rfl ?_
       obtain ⟨hg10, h⟩ := grd_Ie h
       exact oO <| O_call (c_FuseD hg10.2) rfl Tryz.call48 (Dels.cons del8 Dels.nil) rfl fun _ _ => RJ_nil <| QJ_ent (Ent.trans (t1_ (t1_ (t1_ (t1_ (t1_ (t1_ (t1_ eR))))))) (OwnQ_mk (v0 := o.Open_1) (v1 := o.X) (v2 := o.T) (v3 := o.Stale) (v4 := o.Lost) (h0 := oc23.1) (h1 := oc23.2.1) (h2 := oc23.2.2.1) (h3 := oc23.2.2.2.1) (h4 := oc23.2.2.2.2))) <| QJ_block_normal <| cR ((0 : Int), true, o, { s with fuse := (((1 : Int) + w8)).toNat }) (Option.some.inj h).symm ⟨rfl, rfl, True.intro⟩ eR
      ·
       replace h := ite_f hg8 h
       exact CJ_skip <| QJ_block_normal <| cR ((0 : Int), true, o, s) (Option.some.inj h).symm ⟨rfl, rfl, True.intro⟩ (t0_ (t1_ eR))
 ·
  rintro a16 hy27
  replace h := bindK_at hK10 hy27
  show CJ _ _ _ _ _ (([(7, .int .i64 a16.1), (8, .bool a16.2.1)] : Slots) ++ forget _ _) (OwnQ bs vlo bo a16.2.2.1 :: Arr bs a16.2.2.2 :: _)
  refine CJ_seq <| sR <| oM rfl rfl <| oP (P_not rfl) rfl <| nT <| CJ_condP rfl (bT_not Iff.rfl) (fun hg11 => ?_) (fun hg11 => ?_)
  ·
   replace h := ite_t hg11 h
   refine sR <| oA rfl rfl <| nT <| CJ_ret <| QJ_then_ret ?_
   cases h
   exact fE (res1 Tryz.results19 rfl) () (t0_ (t0_ (eD eR)))
  ·
   replace h := ite_f hg11 h
   refine kT <| sR <| oM rfl rfl <| oP (P_neq (a := a16.1) (b := (5 : Int)) rfl rfl) rfl <| oM rfl rfl <| RJ_splitP 67 rfl bT_dec (fun hg12B hg12 => ?_) (fun hg12B hg12 => ?_)
   ·
    replace h := ite_t hg12 h
    refine RJ_gn (GY_no rfl rfl rfl hg12B) rfl rfl <| RJ_gn (GY_no rfl rfl rfl hg12B) rfl rfl <| RJ_gn (GY_no rfl rfl rfl hg12B) rfl rfl <| RJ_gn (GY_no rfl rfl rfl hg12B) rfl rfl <| RJ_gn (GY_no rfl rfl rfl hg12B) rfl rfl <| RJ_gn (GY_undef rfl rfl rfl) rfl rfl <| RJ_gn (GY_undef rfl rfl rfl) rfl rfl <| RJ_gn (GY_no rfl rfl rfl hg12B) rfl rfl <| oP (P_pickT rfl hg12B rfl) rfl <| oA rfl rfl <| nT <| CJ_ret ?_
    cases h
    exact fE (res1 Tryz.results19 rfl) () (t0_ (t0_ (eD eR)))
   ·
    replace h := ite_f hg12 h
    exact gP (GY_yes rfl rfl rfl hg12B) (P_move rfl) rfl <| gP (GY_yes rfl rfl rfl hg12B) (P_fieldAddr rfl ⟨_, _, _, Tryz.runUnderlying49, rfl, rfl, Tryz.sizeOf44, rfl⟩) rfl <| gV (GY_yes rfl rfl rfl hg12B) (V_load rfl foc2 rfl Tryz.isAgg44) rfl <| none_e h
end Go.Proofs
set_option linter.unusedSimpArgs false
set_option linter.unusedVariables false
set_option maxRecDepth 20000
set_option maxHeartbeats 4000000
namespace Go.Proofs
open Go.VG
end Go.Proofs
set_option linter.unusedSimpArgs false
set_option linter.unusedVariables false
set_option maxRecDepth 20000
set_option maxHeartbeats 4000000
namespace Go.Proofs
open Go.VG
def volumegrouplaw19_shape (n_0 : UInt8) : Option (Int × Int × Int) :=
  grd (inN64 ((3 + ((n_0 % (2 : UInt8))).toNat))) <|
  grd (inN64 ((1 + (((n_0 / (2 : UInt8)) % (3 : UInt8))).toNat))) <|
  grd (inN64 ((1 + (((n_0 / (8 : UInt8)) % (2 : UInt8))).toNat))) <|
  some (((((3 + ((n_0 % (2 : UInt8))).toNat) : Nat) : Int), (((1 + (((n_0 / (2 : UInt8)) % (3 : UInt8))).toNat) : Nat) : Int), (((1 + (((n_0 / (8 : UInt8)) % (2 : UInt8))).toNat) : Nat) : Int)))
theorem L_volumegrouplaw19_shape {W : World} {n_0 : UInt8} {r : Int × Int × Int} (h : volumegrouplaw19_shape n_0 = some r) :
    CSpec Tryz.prog W 12 [.int .u8 (n_0.toNat : Int)] [] (fun x : Unit => .tuple #[.int .i64 r.1, .int .i64 r.2.1, .int .i64 r.2.2]) (fun _ => True) (fun x F => F) := by
 refine CSpec.of_body Tryz.func12 rfl Tryz.ntmps12 rfl fun F => ?_
 show CJ _ _ _ _ _ _ (F)
 unfold volumegrouplaw19_shape at h
 refine sR <| oA rfl rfl <| oA rfl rfl <| oA rfl rfl <| nT <| sR <| oM rfl rfl <| oP (P_rem_u8 (a := n_0) (b := (2 : UInt8)) rfl rfl (by decide)) rfl <| oP (P_convSame rfl Tryz.runUnderlying5 Tryz.runUnderlying3 (wrap64_u _ (by have h9 := ((n_0 % (2 : UInt8))).toNat_lt; exact (by omega : ((n_0 % (2 : UInt8))).toNat < 9223372036854775808)))) rfl ?_
 obtain ⟨hg1, h⟩ := grd_Ne h
 refine oP (PJ_eq (P_add (a := (3 : Int)) (b := ((((n_0 % (2 : UInt8))).toNat : Nat) : Int)) rfl rfl (nat_in hg1)) rfl) rfl <| oM rfl rfl <| oP (P_quo_u8 (a := n_0) (b := (2 : UInt8)) rfl rfl (by decide)) rfl <| oP (P_rem_u8 (a := (n_0 / (2 : UInt8))) (b := (3 : UInt8)) rfl rfl (by decide)) rfl <| oP (P_convSame rfl Tryz.runUnderlying5 Tryz.runUnderlying3 (wrap64_u _ (by have h9 := (((n_0 / (2 : UInt8)) % (3 : UInt8))).toNat_lt; exact (by omega : (((n_0 / (2 : UInt8)) % (3 : UInt8))).toNat < 9223372036854775808)))) rfl ?_
 obtain ⟨hg2, h⟩ := grd_Ne h
 refine oP (PJ_eq (P_add (a := (1 : Int)) (b := (((((n_0 / (2 : UInt8)) % (3 : UInt8))).toNat : Nat) : Int)) rfl rfl (nat_in hg2)) rfl) rfl <| oM rfl rfl <| oP (P_quo_u8 (a := n_0) (b := (8 : UInt8)) rfl rfl (by decide)) rfl <| oP (P_rem_u8 (a := (n_0 / (8 : UInt8))) (b := (2 : UInt8)) rfl rfl (by decide)) rfl <| oP (P_convSame rfl Tryz.runUnderlying5 Tryz.runUnderlying3 (wrap64_u _ (by have h9 := (((n_0 / (8 : UInt8)) % (2 : UInt8))).toNat_lt; exact (by omega : (((n_0 / (8 : UInt8)) % (2 : UInt8))).toNat < 9223372036854775808)))) rfl ?_
 obtain ⟨hg3, h⟩ := grd_Ne h
 refine oP (PJ_eq (P_add (a := (1 : Int)) (b := (((((n_0 / (8 : UInt8)) % (2 : UInt8))).toNat : Nat) : Int)) rfl rfl (nat_in hg3)) rfl) rfl <| oA rfl rfl <| oA rfl rfl <| oA rfl rfl <| nT <| CJ_ret ?_
 cases h
 exact fE (res3 Tryz.results12 rfl rfl rfl) () eR
def volumegrouplaw19_ParityvolReturns_l1_b (m : List volumegroupmake_Step) (part : UInt8) (r11 : Int × Int × Int) (rec : OwnS → ArrS → Nat → Option ((OwnS × ArrS) ⊕ Bool)) (x74 : OwnS) (x75 : ArrS) (x76 : Nat) : Option ((OwnS × ArrS) ⊕ Bool) :=
  if ((((x76 : Nat) : Int) < ((m.length : Nat) : Int)) ∧ (((x76 : Nat) : Int) < (6 : Int))) then
    Option.elim x74.X (
      none) fun o86 =>
    Option.bind (parityvol_Volume_Fill o86 (((((part % (3 : UInt8))).toNat : Nat) : Int)) x75) fun r87 =>
    if ((r87.2.1 ≠ (0 : Int)) ∨ (r87.1 ≠ (min r11.2.1 ((IntKind.i64.wrap ((((x76 + 1) : Nat) : Int) * ((((part % (3 : UInt8))).toNat : Nat) : Int))))))) then
      some (.inr false)
    else
      if (((m.getD x76 (⟨0, 0, 0, 0⟩ : volumegroupmake_Step))).Kind < (3 : Int)) then
        Option.bind (volumegroupmake_Owner_StepQ ({ x74 with X := (some r87.2.2.1) }) ((m.getD x76 (⟨0, 0, 0, 0⟩ : volumegroupmake_Step))) r87.2.2.2) fun r109 =>
        if (¬ r109.1 = true) then
          some (.inr false)
        else
          rec r109.2.1 r109.2.2 (x76 + 1)
      else
        rec ({ x74 with X := (some r87.2.2.1) }) r87.2.2.2 (x76 + 1)
  else
    some (.inl (x74, x75))
def volumegrouplaw19_ParityvolReturns_l1 (m : List volumegroupmake_Step) (part : UInt8) (r11 : Int × Int × Int) : Nat → OwnS → ArrS → Nat → Option ((OwnS × ArrS) ⊕ Bool)
  | 0, _, _, _ => none
  | n + 1, x74, x75, x76 => volumegrouplaw19_ParityvolReturns_l1_b m part r11 (volumegrouplaw19_ParityvolReturns_l1 m part r11 n) x74 x75 x76
def volumegrouplaw19_ParityvolReturns (n_0 : UInt8) (leg : UInt8) (l : List volumegroupmake_Step) (m : List volumegroupmake_Step) (junk : UInt64) (part : UInt8) : Option (Bool) :=
  Option.bind (volumegroupmake_Few l) fun r3 =>
  if (¬ r3 = true) then
    Option.bind (volumegrouplaw19_awake) fun r5 =>
    some r5
  else
    Option.bind (volumegroupmake_Few m) fun r7 =>
    if (¬ r7 = true) then
      Option.bind (volumegrouplaw19_awake) fun r9 =>
      some r9
    else
      Option.bind (volumegrouplaw19_shape n_0) fun r11 =>
      Option.bind (volumegrouplaw19_begun r11.1 r11.2.1 r11.2.2) fun r13 =>
      Option.elim r13.1 (
        some false) fun o19 =>
      Option.elim r13.2 (
        none) fun o21 =>
      grd (decide (¬ r11.1 = 0)) <|
      grd (inI64 (r11.2.1 * r11.2.2)) <|
      grd (inI64 (((16 : Int) + (r11.2.1 * r11.2.2)))) <|
      Option.bind (volumegroupmake_Words (((16 : Int) + (r11.2.1 * r11.2.2))) junk) fun r32 =>
      grd (inLen o21.writes) <|
      if ((ldC o21 (((((leg.toNat : Nat) : Int)).tmod r11.1)) r32) ≠ (0 : Int)) then
        some false
      else
        Option.bind (volumegroupmake_Owner_Play ({ o19 with Stale := [((((leg.toNat : Nat) : Int)).tmod r11.1)], Lost := [((((leg.toNat : Nat) : Int)).tmod r11.1)] }) l (-1 : Int) (0 : Int) (0 : Int) ((ldS o21 (((((leg.toNat : Nat) : Int)).tmod r11.1)) r32))) fun r36 =>
        if (¬ r36.1 = true) then
          some false
        else
          Option.bind (volumegroupmake_Spans r36.2.2) fun r42 =>
          Option.bind (parityvol_Open r42 ([((((leg.toNat : Nat) : Int)).tmod r11.1)]) r11.2.2 r36.2.2) fun r49 =>
          if (r49.2.1 ≠ (0 : Int)) then
            some false
          else
            Option.elim r49.1 (
              some false) fun o58 =>
            Option.bind (parityvol_Volume_Filled o58 r49.2.2) fun r59 =>
            if r59 = true then
              some false
            else
              Option.bind (parityvol_Volume_Accept o58 r49.2.2) fun r61 =>
              if (r61.1 ≠ (20 : Int)) then
                some false
              else
                seqO (volumegrouplaw19_ParityvolReturns_l1 m part r11 FUEL ({ r36.2.1 with X := (some r61.2.1), Lost := [] }) r61.2.2 0) fun a73 =>
                Option.elim a73.1.X (
                  none) fun o117 =>
                Option.bind (parityvol_Volume_Fill o117 r11.2.1 a73.2) fun r118 =>
                if ((r118.2.1 ≠ (0 : Int)) ∨ (r118.1 ≠ r11.2.1)) then
                  some false
                else
                  Option.bind (parityvol_Volume_Filled r118.2.2.1 r118.2.2.2) fun r126 =>
                  if (¬ r126 = true) then
                    some false
                  else
                    Option.bind (parityvol_Volume_Accept r118.2.2.1 r118.2.2.2) fun r128 =>
                    if (r128.1 ≠ (0 : Int)) then
                      some false
                    else
                      Option.bind (parityvol_Volume_Stale r128.2.1 r128.2.2) fun r130 =>
                      if (((r130.length : Nat) : Int) ≠ (0 : Int)) then
                        some false
                      else
                        Option.bind (volumegroupmake_Owner_Flush ({ a73.1 with X := (some r128.2.1) }) r128.2.2) fun r134 =>
                        if ((r134.1 ≠ (0 : Int)) ∨ (¬ r134.2.1 = true)) then
                          some false
                        else
                          grd (inI64 ((((((leg.toNat : Nat) : Int)).tmod r11.1) + (1 : Int)))) <|
                          grd (inI64 ((r11.1 - (1 : Int)))) <|
                          grd (decide (¬ (r11.1 - (1 : Int)) = 0)) <|
                          grd (inI64 (((((((leg.toNat : Nat) : Int)).tmod r11.1) + (1 : Int)) + ((((part.toNat : Nat) : Int)).tmod ((r11.1 - (1 : Int))))))) <|
                          lt (((((((leg.toNat : Nat) : Int)).tmod r11.1) + (1 : Int)) + ((((part.toNat : Nat) : Int)).tmod ((r11.1 - (1 : Int)))))) fun w145 =>
                          grd (decide (¬ r11.1 = 0)) <|
                          Option.bind (volumegroupmake_Owner_Lose ({ r134.2.2.1 with Stale := [] }) (w145.tmod r11.1) (w145.tmod r11.1) r134.2.2.2) fun r146 =>
                          if r146.1 = true then
                            Option.bind (volumegroupmake_Owner_All r146.2.1 false r146.2.2) fun r148 =>
                            if r148.1 = true then
                              Option.bind (volumegroupmake_Owner_Power r148.2.1 (0 : UInt64) r148.2.2) fun r150 =>
                              if r150.1 = true then
                                Option.bind (volumegroupmake_Owner_All r150.2.1 true r150.2.2) fun r152 =>
                                if r152.1 = true then
                                  Option.bind (volumegrouplaw19_awake) fun r154 =>
                                  some r154
                                else
                                  some false
                              else
                                some false
                            else
                              some false
                          else
                            some false
theorem L_volumegrouplaw19_ParityvolReturns {W : World} {Al : HP} {vl : Value} {Am : HP} {vm : Value} {n_0 : UInt8} {leg : UInt8} {l : List volumegroupmake_Step} {m : List volumegroupmake_Step} {junk : UInt64} {part : UInt8} {r : Bool} (rl : Reads Al tyvolumegroupmake_Step vl l) (rm : Reads Am tyvolumegroupmake_Step vm m) (h : volumegrouplaw19_ParityvolReturns n_0 leg l m junk part = some r) :
    CSpec Tryz.prog W 8 [.int .u8 (n_0.toNat : Int), .int .u8 (leg.toNat : Int), vl, vm, .int .u64 (junk.toNat : Int), .int .u8 (part.toNat : Int)] [Al, Am] (fun x : Unit => .bool r) (fun _ => True) (fun x F => Al :: Am :: F) := by
 refine CSpec.of_body Tryz.func8 rfl Tryz.ntmps8 rfl fun F => ?_
 show CJ _ _ _ _ _ _ (_ :: _ :: F)
 unfold volumegrouplaw19_ParityvolReturns at h
 refine CJ_pure (len_of rl del0) fun hlen1 => CJ_pure (len_of rm del1) fun hlen2 => sR <| oA rfl rfl <| nT <| CJ_seq <| sR <| oM rfl rfl ?_
 obtain ⟨r3, hr4, h⟩ := bind_e h
 refine oO <| O_call (L_volumegroupmake_Few rl hr4) rfl Tryz.call10 (Dels.cons del0 Dels.nil) rfl fun _ _ => oP (P_not rfl) rfl <| oM rfl rfl <| RJ_splitP 31 rfl (bT_not Iff.rfl) (fun hg1B hg1 => ?_) (fun hg1B hg1 => ?_)
 ·
  replace h := ite_t hg1 h
  refine RJ_gn (GY_no rfl rfl rfl hg1B) rfl rfl <| RJ_gn (GY_no rfl rfl rfl hg1B) rfl rfl <| RJ_gn (GY_no rfl rfl rfl hg1B) rfl rfl <| oP (P_pickT rfl hg1B rfl) rfl <| nT <| CJ_condT rfl rfl <| sR ?_
  obtain ⟨r5, hr6, h⟩ := bind_e h
  refine oO <| O_call (L_volumegrouplaw19_awake hr6) rfl Tryz.call11 Dels.nil rfl fun _ _ => oA rfl rfl <| nT <| CJ_ret <| QJ_then_ret ?_
  cases h
  exact fE (res1 Tryz.results8 rfl) () eR
 ·
  replace h := ite_f hg1 h
  refine gP (GY_yes rfl rfl rfl hg1B) (P_move rfl) rfl ?_
  obtain ⟨r7, hr8, h⟩ := bind_e h
  refine RJ_gy (GY_yes rfl rfl rfl hg1B) <| O_call (L_volumegroupmake_Few rm hr8) rfl Tryz.call10 (Dels.cons del1 Dels.nil) rfl fun _ _ => gP (GY_yes rfl rfl rfl hg1B) (P_not rfl) rfl <| oP (P_pickF rfl hg1B rfl) rfl <| nT <| CJ_condP rfl (bT_not Iff.rfl) (fun hg2 => ?_) (fun hg2 => ?_)
  ·
   replace h := ite_t hg2 h
   refine sR ?_
   obtain ⟨r9, hr10, h⟩ := bind_e h
   refine oO <| O_call (L_volumegrouplaw19_awake hr10) rfl Tryz.call11 Dels.nil rfl fun _ _ => oA rfl rfl <| nT <| CJ_ret <| QJ_then_ret ?_
   cases h
   exact fE (res1 Tryz.results8 rfl) () (t1_ eR)
  ·
   replace h := ite_f hg2 h
   refine kT <| sR <| oM rfl rfl ?_
   obtain ⟨r11, hr12, h⟩ := bind_e h
   refine oO <| O_call (L_volumegrouplaw19_shape hr12) rfl Tryz.call12 Dels.nil rfl fun _ _ => oM rfl rfl <| oP (P_extract rfl rfl) rfl <| oP (P_extract rfl rfl) rfl <| oP (P_extract rfl rfl) rfl <| oA rfl rfl <| oA rfl rfl <| oA rfl rfl <| nT <| sR <| oM rfl rfl <| oM rfl rfl <| oM rfl rfl ?_
   obtain ⟨r13, hr14, h⟩ := bind_e h
   refine oO <| O_call (L_volumegrouplaw19_begun hr14) rfl Tryz.call13 Dels.nil rfl fun X15 _ => oA rfl rfl <| nT <| CJ_seq <| sR <| oM rfl rfl ?_
   rcases opt_e h with ⟨ht18, h⟩ | ⟨o19, ht18, h⟩
   ·
    rw [ht18]
    refine RJ_ent (t1_ (t1_ (t1_ (eD eR)))) <| oP (P_eqlNN rfl rfl Tryz.underlying27) rfl <| nT <| CJ_condT rfl rfl <| sR <| oA rfl rfl <| nT <| CJ_ret <| QJ_then_ret ?_
    cases h
    exact fE (res1 Tryz.results8 rfl) () (t2_ (t1_ (eD eR)))
   ·
    rw [ht18]
    refine RJ_ent (Ent.takeC (A' := OwnP X15.2 X15.1 o19) del0 rfl eR) <| oP (P_eqlPN rfl rfl Tryz.underlying27) rfl <| nT <| CJ_condF rfl rfl <| kT <| CJ_seq ?_
    rcases opt_e h with ⟨ht20, h⟩ | ⟨o21, ht20, h⟩
    ·
     rw [ht20]
     exact CJ_ent (t0_ (t1_ (t1_ (eD eR)))) <| none_e h
    ·
     rw [ht20]
     refine CJ_ent (Ent.takeC (A' := Arr X15.2 o21) del1 rfl eR) <| CJ_region <| oM rfl rfl <| oP (P_convSame rfl Tryz.runUnderlying5 Tryz.runUnderlying3 (wrap64_u _ (by have h9 := leg.toNat_lt; exact (by omega : leg.toNat < 9223372036854775808)))) rfl <| oM rfl rfl ?_
     obtain ⟨hg3, h⟩ := grd_de h
     refine oP (P_remT (a := ((leg.toNat : Nat) : Int)) (b := r11.1) rfl rfl hg3) rfl <| oA rfl rfl <| nT <| CJ_seq <| CJ_entX (Ent.transX (t1_ eR) (OwnP_open (l := o19))) fun oc22 => lC del5 fun hlen24 => lC del6 fun hlen25 => CJ_region <| oM rfl rfl <| oM rfl rfl <| oM rfl rfl <| oO <| O_buildSlice rfl (bs_35_1_0 _) rfl fun b26 => RJ_ent (Ent.trans (t0_ eR) (sl_of_lit (t := tyI) (m := 1) [((((leg.toNat : Nat) : Int)).tmod r11.1)] rfl rfl rfl (by decide))) <| oM rfl rfl <| oO <| O_buildSlice rfl (bs_35_1_0 _) rfl fun b27 => RJ_ent (Ent.trans (t0_ eR) (sl_of_lit (t := tyI) (m := 1) [((((leg.toNat : Nat) : Int)).tmod r11.1)] rfl rfl rfl (by decide))) <| oP (P_nilCheck rfl) rfl <| oP (P_fieldAddr rfl ⟨_, _, _, Tryz.runUnderlying37, rfl, rfl, Tryz.sizeOf35, rfl⟩) rfl <| oO <| O_store rfl rfl foc2 rfl rfl Tryz.sizeOf35 <| oP (P_nilCheck rfl) rfl <| oP (P_fieldAddr rfl ⟨_, _, _, Tryz.runUnderlying37, rfl, rfl, Tryz.sizeOf35, rfl⟩) rfl <| oO <| O_store rfl rfl foc2 rfl rfl Tryz.sizeOf35 <| RJ_nil <| QJ_ent (Ent.trans (t2_ (t2_ (t2_ (t2_ (t2_ (t1_ eR)))))) (OwnP_mk (v0 := o19.Open_1) (v1 := o19.X) (v2 := o19.T) (v3 := [((((leg.toNat : Nat) : Int)).tmod r11.1)]) (v4 := [((((leg.toNat : Nat) : Int)).tmod r11.1)]) (h0 := oc22.1) (h1 := oc22.2.1) (h2 := oc22.2.2.1) (h3 := oc22.2.2.2.1) (h4 := ⟨some ⟨b26, 0, none⟩, 1, 1⟩) (h5 := ⟨some ⟨b27, 0, none⟩, 1, 1⟩))) <| QJ_then <| CJ_seq ?_
     refine CJ_seq <| CJ_entX (Ent.transX (t0_ eR) (OwnP_open (l := { o19 with Stale := [((((leg.toNat : Nat) : Int)).tmod r11.1)], Lost := [((((leg.toNat : Nat) : Int)).tmod r11.1)] }))) fun oc28 => lC del5 fun hlen30 => lC del6 fun hlen31 => AJ_startH 67584 (by kernel_rfl) rfl <| aN 0 1 rfl rfl (P_move rfl) rfl <| aN 1 3 rfl rfl (P_nilCheck rfl) rfl <| aN 2 7 rfl rfl (P_fieldAddr rfl ⟨_, _, _, Tryz.runUnderlying37, rfl, rfl, Tryz.sizeOf30, rfl⟩) rfl <| aV 3 15 rfl rfl (GY_none rfl) eR (V_load rfl foc0 rfl Tryz.isAgg30) rfl <| aN 4 31 rfl rfl (P_move rfl) rfl <| aN 5 63 rfl rfl (P_move rfl) rfl <| aN 6 127 rfl rfl (P_move rfl) rfl ?_
     obtain ⟨hg4, h⟩ := grd_Ie h
     refine aN 7 255 rfl rfl (P_mul (a := r11.2.1) (b := r11.2.2) rfl rfl hg4) rfl ?_
     obtain ⟨hg5, h⟩ := grd_Ie h
     refine aN 8 511 rfl rfl (P_add (a := (16 : Int)) (b := (r11.2.1 * r11.2.2)) rfl rfl hg5) rfl <| aN 9 1023 rfl rfl (P_move rfl) rfl ?_
     obtain ⟨r32, hr33, h⟩ := bind_e h
     refine AJ_op 10 2047 rfl (by kernel_rfl) rfl (GY_none rfl) <| O_call (L_volumegroupmake_Words hr33) rfl Tryz.call38 Dels.nil rfl fun X34 _ => ⟨fun _ => (t1_ (t1_ (t1_ (t1_ (t1_ (t1_ (t1_ (t1_ (t1_ (t1_ (t1_ (t1_ (eD eR))))))))))))), ?_⟩
     obtain ⟨hg6, h⟩ := grd_Le h
     refine AJ_op 11 4095 rfl (by kernel_rfl) rfl (GY_none rfl) <| O_call (c_LoadD (Reads.sl _ _ _) hg6) rfl Tryz.call37 (Dels.cons del10 (Dels.cons del0 Dels.nil)) rfl fun _ _ => ⟨fun h => absurd h (by decide), ?_⟩
     refine aN 12 8191 rfl rfl (P_neq (a := (ldC o21 (((((leg.toNat : Nat) : Int)).tmod r11.1)) r32)) (b := (0 : Int)) rfl rfl) rfl <| aN 13 16383 rfl rfl (P_move rfl) rfl <| AJ_splitP 76 rfl bT_dec (fun hg7B hg7 => ?_) (fun hg7B hg7 => ?_)
     ·
      replace h := ite_t hg7 h
      refine aS 14 32767 rfl rfl (GY_no rfl rfl rfl hg7B) rfl <| aS 15 65535 rfl rfl (GY_no rfl rfl rfl hg7B) rfl <| aS 16 131071 rfl rfl (GY_no rfl rfl rfl hg7B) rfl <| aS 17 262143 rfl rfl (GY_no rfl rfl rfl hg7B) rfl <| aN 18 524287 rfl rfl (P_pickT rfl hg7B rfl) rfl <| AJ_done (by kernel_rfl) <| QJ_ent (Ent.trans (t2_ (t2_ (t2_ (t2_ (t2_ (t2_ (t2_ eR))))))) (OwnP_mk (v0 := o19.Open_1) (v1 := o19.X) (v2 := o19.T) (v3 := [((((leg.toNat : Nat) : Int)).tmod r11.1)]) (v4 := [((((leg.toNat : Nat) : Int)).tmod r11.1)]) (h0 := oc28.1) (h1 := oc28.2.1) (h2 := oc28.2.2.1) (h3 := oc28.2.2.2.1) (h4 := oc28.2.2.2.2.1) (h5 := oc28.2.2.2.2.2))) <| QJ_ent (t0_ (t0_ (t3_ (t3_ (eD (eD (eD eR))))))) <| QJ_then <| CJ_condT rfl rfl <| sR <| oA rfl rfl <| nT <| CJ_ret <| QJ_then_ret ?_
      cases h
      exact fE (res1 Tryz.results8 rfl) () (t3_ (t2_ (eD (eD eR))))
     ·
      replace h := ite_f hg7 h
      refine aP 14 32767 rfl rfl (GY_yes rfl rfl rfl hg7B) (P_move rfl) rfl <| aP 15 65535 rfl rfl (GY_yes rfl rfl rfl hg7B) (P_move rfl) rfl <| AJ_ent (Ent.trans (t2_ (t2_ (t2_ (t2_ (t2_ (t2_ (t2_ eR))))))) (OwnP_mk (v0 := o19.Open_1) (v1 := o19.X) (v2 := o19.T) (v3 := [((((leg.toNat : Nat) : Int)).tmod r11.1)]) (v4 := [((((leg.toNat : Nat) : Int)).tmod r11.1)]) (h0 := oc28.1) (h1 := oc28.2.1) (h2 := oc28.2.2.1) (h3 := oc28.2.2.2.1) (h4 := oc28.2.2.2.2.1) (h5 := oc28.2.2.2.2.2))) ?_
      obtain ⟨r36, hr37, h⟩ := bind_e h
      refine AJ_op 16 131071 rfl (by kernel_rfl) rfl (GY_yes rfl rfl rfl hg7B) <| O_call (L_volumegroupmake_Owner_Play rl hr37) rfl Tryz.call14 (Dels.cons del0 (Dels.cons del5 (Dels.cons del0 Dels.nil))) rfl fun _ _ => ⟨fun h => absurd h (by decide), ?_⟩
      refine aP 17 262143 rfl rfl (GY_yes rfl rfl rfl hg7B) (P_not rfl) rfl <| aN 18 524287 rfl rfl (P_pickF rfl hg7B rfl) rfl <| AJ_done (by kernel_rfl) <| QJ_ent (t0_ (t0_ (t0_ (t3_ (eD (eD (eD eR))))))) <| QJ_then <| CJ_condP rfl (bT_not Iff.rfl) (fun hg8 => ?_) (fun hg8 => ?_)
      ·
       replace h := ite_t hg8 h
       refine sR <| oA rfl rfl <| nT <| CJ_ret <| QJ_then_ret ?_
       cases h
       exact fE (res1 Tryz.results8 rfl) () (t1_ (t2_ (eD (eD eR))))
      ·
       replace h := ite_f hg8 h
       refine kT <| CJ_seq <| CJ_entX (Ent.transX (t0_ eR) (OwnP_open (l := r36.2.1))) fun oc38 => lC del5 fun hlen40 => lC del6 fun hlen41 => CJ_region <| oM rfl rfl <| oP (P_nilCheck rfl) rfl <| oP (P_fieldAddr rfl ⟨_, _, _, Tryz.runUnderlying37, rfl, rfl, Tryz.sizeOf30, rfl⟩) rfl <| oV (V_load rfl foc0 rfl Tryz.isAgg30) rfl ?_
       obtain ⟨r42, hr43, h⟩ := bind_e h
       refine oO <| O_call (L_volumegroupmake_Spans hr43) rfl Tryz.call24 (Dels.cons del8 Dels.nil) rfl fun X44 _ => RJ_pure (fun h hh => Rs_len (stars_perm (del2 (A := Rs (DevP X15.2) r42 X44.2)).out h hh)) fun hdl47 => oM rfl rfl <| oO <| O_buildSlice rfl (bs_35_1_0 _) rfl fun b48 => oM rfl rfl <| RJ_ent (Ent.trans (t0_ eR) (sl_of_lit (t := tyI) (m := 1) [((((leg.toNat : Nat) : Int)).tmod r11.1)] rfl rfl rfl (by decide))) ?_
       obtain ⟨r49, hr50, h⟩ := bind_e h
       refine oO <| O_call (L_parityvol_Open (Reads.sl _ _ _) (Reads.sl _ _ _) hr50) rfl Tryz.call26 (Dels.cons del2 (Dels.cons del2 (Dels.cons del0 (Dels.cons del0 Dels.nil)))) rfl fun X51 _ => oM rfl rfl <| oP (P_extract rfl rfl) rfl <| oP (P_extract rfl rfl) rfl <| oA rfl rfl <| oA rfl rfl <| RJ_nil <| QJ_ent (Ent.trans (t5_ (t5_ (t5_ (t5_ (t5_ (t5_ (t5_ eR))))))) (OwnP_mk (v0 := r36.2.1.Open_1) (v1 := r36.2.1.X) (v2 := r36.2.1.T) (v3 := r36.2.1.Stale) (v4 := r36.2.1.Lost) (h0 := oc38.1) (h1 := oc38.2.1) (h2 := oc38.2.2.1) (h3 := oc38.2.2.2.1) (h4 := oc38.2.2.2.2.1) (h5 := oc38.2.2.2.2.2))) <| QJ_ent (t0_ (t3_ (t3_ (t3_ (t3_ (eD (eD (eD eR)))))))) <| QJ_then <| CJ_seq <| sR <| oM rfl rfl <| oP (P_neq (a := r49.2.1) (b := (0 : Int)) rfl rfl) rfl <| oM rfl rfl <| RJ_mbF rfl rfl rfl (fun hG53 => have hP54 : ¬ (r49.2.1 ≠ (0 : Int)) := nP (bT_dec) hG53; VJ_P (P_move rfl)) <| RJ_splitP 96 rfl bT_dec (fun hg9B hg9 => ?_) (fun hg9B hg9 => ?_)
       ·
        replace h := ite_t hg9 h
        refine RJ_gn (GY_no rfl rfl rfl hg9B) rfl rfl <| oP (P_pickT rfl hg9B rfl) rfl <| oM rfl rfl <| RJ_gn (GY_no rfl rfl rfl rfl) rfl rfl <| RJ_gn (GY_no rfl rfl rfl rfl) rfl rfl <| oP (P_pickT rfl rfl rfl) rfl <| oM rfl rfl <| RJ_gn (GY_no rfl rfl rfl rfl) rfl rfl <| RJ_gn (GY_no rfl rfl rfl rfl) rfl rfl <| RJ_gn (GY_no rfl rfl rfl rfl) rfl rfl <| oP (P_pickT rfl rfl rfl) rfl <| nT <| CJ_condT rfl rfl <| sR <| oA rfl rfl <| nT <| CJ_ret <| QJ_then_ret ?_
        cases h
        exact fE (res1 Tryz.results8 rfl) () (t3_ (t3_ (eD (eD (eD eR)))))
       ·
        replace h := ite_f hg9 h
        rcases opt_e h with ⟨ht57, h⟩ | ⟨o58, ht57, h⟩
        ·
         rw [ht57]
         refine RJ_ent (t0_ (t0_ (t1_ (t1_ (eD eR))))) <| gP (GY_yes rfl rfl rfl hg9B) (P_eqlNN (mbx (not_f hg9B) rfl) rfl Tryz.underlying65) rfl <| oP (P_pickF rfl hg9B rfl) rfl <| oM rfl rfl <| RJ_gn (GY_no rfl rfl rfl rfl) rfl rfl <| RJ_gn (GY_no rfl rfl rfl rfl) rfl rfl <| oP (P_pickT rfl rfl rfl) rfl <| oM rfl rfl <| RJ_gn (GY_no rfl rfl rfl rfl) rfl rfl <| RJ_gn (GY_no rfl rfl rfl rfl) rfl rfl <| RJ_gn (GY_no rfl rfl rfl rfl) rfl rfl <| oP (P_pickT rfl rfl rfl) rfl <| nT <| CJ_condT rfl rfl <| sR <| oA rfl rfl <| nT <| CJ_ret <| QJ_then_ret ?_
         cases h
         exact fE (res1 Tryz.results8 rfl) () (t2_ (t2_ (eD (eD eR))))
        ·
         rw [ht57]
         refine RJ_ent (Ent.takeC (A' := VolP X15.2 X51 o58) del2 rfl eR) <| gP (GY_yes rfl rfl rfl hg9B) (P_eqlPN (mbx (not_f hg9B) rfl) rfl Tryz.underlying65) rfl <| oP (P_pickF rfl hg9B rfl) rfl <| oM rfl rfl <| gP (GY_yes rfl rfl rfl rfl) (P_move rfl) rfl ?_
         obtain ⟨r59, hr60, h⟩ := bind_e h
         refine RJ_gy (GY_yes rfl rfl rfl rfl) <| O_call (L_parityvol_Volume_Filled hr60) rfl Tryz.call36 (Dels.cons del0 (Dels.cons del1 Dels.nil)) rfl fun _ _ => oP (P_pickF rfl rfl rfl) rfl <| oM rfl rfl <| RJ_splitP 104 rfl Iff.rfl (fun hg10B hg10 => ?_) (fun hg10B hg10 => ?_)
         ·
          replace h := ite_t hg10 h
          refine RJ_gn (GY_no rfl rfl rfl hg10B) rfl rfl <| RJ_gn (GY_no rfl rfl rfl hg10B) rfl rfl <| RJ_gn (GY_no rfl rfl rfl hg10B) rfl rfl <| oP (P_pickT rfl hg10B rfl) rfl <| nT <| CJ_condT rfl rfl <| sR <| oA rfl rfl <| nT <| CJ_ret <| QJ_then_ret ?_
          cases h
          exact fE (res1 Tryz.results8 rfl) () (t3_ (t3_ (eD (eD (eD eR)))))
         ·
          replace h := ite_f hg10 h
          refine gP (GY_yes rfl rfl rfl hg10B) (P_move rfl) rfl ?_
          obtain ⟨r61, hr62, h⟩ := bind_e h
          refine RJ_gy (GY_yes rfl rfl rfl hg10B) <| O_call (L_parityvol_Volume_Accept hr62) rfl Tryz.call35 (Dels.cons del0 (Dels.cons del0 Dels.nil)) rfl fun _ _ => gP (GY_yes rfl rfl rfl hg10B) (P_neq (a := r61.1) (b := (20 : Int)) rfl rfl) rfl <| oP (P_pickF rfl hg10B rfl) rfl <| nT <| CJ_condP rfl bT_dec (fun hg11 => ?_) (fun hg11 => ?_)
          ·
           replace h := ite_t hg11 h
           refine sR <| oA rfl rfl <| nT <| CJ_ret <| QJ_then_ret ?_
           cases h
           exact fE (res1 Tryz.results8 rfl) () (t3_ (t3_ (eD (eD (eD eR)))))
          ·
           replace h := ite_f hg11 h
           refine kT <| CJ_seq <| CJ_entX (Ent.transX (t2_ eR) (OwnP_open (l := r36.2.1))) fun oc63 => lC del5 fun hlen65 => lC del6 fun hlen66 => CJ_region <| oM rfl rfl <| oM rfl rfl <| oM rfl rfl <| oP (P_makeIface rfl Tryz.runUnderlying65 (by intro ms h; cases h)) rfl <| oP (P_nilCheck rfl) rfl <| oP (P_fieldAddr rfl ⟨_, _, _, Tryz.runUnderlying37, rfl, rfl, Tryz.sizeOf33, rfl⟩) rfl <| oO <| O_store rfl rfl foc0 rfl rfl Tryz.sizeOf33 <| oP (P_nilCheck rfl) rfl <| oP (P_fieldAddr rfl ⟨_, _, _, Tryz.runUnderlying37, rfl, rfl, Tryz.sizeOf35, rfl⟩) rfl <| oO <| O_store rfl rfl foc0 rfl rfl Tryz.sizeOf35 <| RJ_nil <| QJ_ent (t0_ (t0_ (t0_ (t1_ (t1_ (t2_ (t2_ (t2_ (t2_ (eD (eD eR))))))))))) <| QJ_then <| CJ_seq <| sR <| oA rfl rfl <| nT <| CJ_ent (fun h hh => sl_nil (t := tyI) h hh) <| CJ_ent (Ent.trans (t1_ (t1_ (t1_ (t3_ (t1_ (t1_ eR)))))) (OwnQ_mk (v0 := r36.2.1.Open_1) (v1 := (some r61.2.1)) (v2 := r36.2.1.T) (v3 := r36.2.1.Stale) (v4 := []) (h0 := oc63.1) (h1 := oc63.2.1) (h2 := oc63.2.2.2.1) (h3 := oc63.2.2.2.2.1) (h4 := ⟨none, 0, 0⟩))) ?_
           obtain ⟨y70, hl68, hK69⟩ := seq_e h
           refine CJ_cutT (X := OwnS × ArrS) [12, 20, 21, 22, 117, 118, 119, 120, 121, 122, 123, 124, 125, 126, 127, 128, 129, 130, 131, 132, 133, 134, 135, 136, 137, 138, 139, 140, 141, 142, 143, 144, 145, 146, 147, 148, 149, 150, 151, 152, 153, 154, 155, 156, 157, 158, 159, 160, 161, 162, 163, 164, 165] (fun a73 => ([] : Slots)) (fun a73 R => OwnQ X15.2 X51 X15.1 a73.1 :: Arr X15.2 a73.2 :: R) (fun a73 => y70 = .inl a73) (Dels.cons del0 (Dels.cons del0 Dels.nil)) ?_ ?_
           ·
            refine CJ_block <| CJ_loopR (X := Nat × OwnS × ArrS × Nat) [12, 20, 21, 22, 117, 118, 119, 120, 121, 122, 123, 124, 125, 126, 127, 128, 129, 130, 131, 132, 133, 134, 135, 136, 137, 138, 139, 140, 141, 142, 143, 144, 145, 146, 147, 148, 149, 150, 151, 152, 153, 154, 155, 156, 157, 158, 159, 160, 161, 162, 163, 164, 165] (fun ⟨n, x74, x75, x76⟩ => ([(20, .int .i64 (((x76 : Nat) : Int)))] : Slots)) (fun ⟨n, x74, x75, x76⟩ R => OwnQ X15.2 X51 X15.1 x74 :: Arr X15.2 x75 :: R) (fun ⟨n, x74, x75, x76⟩ => volumegrouplaw19_ParityvolReturns_l1 m part r11 n x74 x75 x76 = some y70) (fun ⟨n, x74, x75, x76⟩ => n) ⟨FUEL, { r36.2.1 with X := (some r61.2.1), Lost := [] }, r61.2.2, 0⟩ ?_ ?_ eR ?_
            · exact hl68
            · exact ⟨rfl, True.intro⟩
            ·
             rintro ⟨n, x74, x75, x76⟩ h
             cases n with
             | zero => exact none_e h
             | succ n => ?_
             replace h : volumegrouplaw19_ParityvolReturns_l1_b m part r11 (volumegrouplaw19_ParityvolReturns_l1 m part r11 n) x74 x75 x76 = some y70 := h
             unfold volumegrouplaw19_ParityvolReturns_l1_b at h
             show CJ _ _ _ _ _ (([(20, .int .i64 (((x76 : Nat) : Int)))] : Slots) ++ forget _ _) (OwnQ X15.2 X51 X15.1 x74 :: Arr X15.2 x75 :: _)
             refine CJ_seq <| sR <| oM rfl rfl <| oM rfl rfl <| oV (V_len rfl foc3 rm Tryz.runUnderlying22) rfl <| oP (P_lss (a := ((x76 : Nat) : Int)) (b := ((m.length : Nat) : Int)) rfl rfl) rfl <| oM rfl rfl <| RJ_mbT rfl rfl rfl (fun hG77 => have hP78 : (((x76 : Nat) : Int) < ((m.length : Nat) : Int)) := (bT_dec).1 hG77; VJ_P (P_move rfl)) <| RJ_mbT rfl rfl rfl (fun hG79 => have hP80 : (((x76 : Nat) : Int) < ((m.length : Nat) : Int)) := (bT_dec).1 hG79; VJ_P (P_lss (a := ((x76 : Nat) : Int)) (b := (6 : Int)) (mbx hG79 rfl) rfl)) <| oP (P_pickAnd rfl (fun hh => mbx hh rfl) rfl) rfl <| nT <| CJ_condP rfl (bT_and bT_dec bT_dec) (fun hg12 => ?_) (fun hg12 => ?_)
             ·
              replace h := ite_t hg12 h
              refine kT <| CJ_seq <| CJ_block <| sR <| oM rfl rfl <| oM rfl rfl <| oP (P_rem_u8 (a := part) (b := (3 : UInt8)) rfl rfl (by decide)) rfl <| oP (P_convSame rfl Tryz.runUnderlying5 Tryz.runUnderlying3 (wrap64_u _ (by have h9 := ((part % (3 : UInt8))).toNat_lt; exact (by omega : ((part % (3 : UInt8))).toNat < 9223372036854775808)))) rfl <| RJ_entX (Ent.transX (t0_ eR) (OwnQ_open (l := x74))) fun oc81 => RJ_pure (len_of (Reads.sl _ _ _) del5) fun hlen83 => RJ_pure (len_of (Reads.sl _ _ _) del6) fun hlen84 => ?_
              rcases opt_e h with ⟨ht85, h⟩ | ⟨o86, ht85, h⟩
              ·
               rw [ht85]
               exact RJ_ent (t0_ (t0_ (t0_ (t1_ (t1_ (t1_ (t1_ (t1_ (t1_ (eD eR)))))))))) <| none_e h
              ·
               rw [ht85]
               refine RJ_ent (Ent.takeC (A' := VolP X15.2 X51 o86) del3 rfl eR) ?_
               obtain ⟨r87, hr88, h⟩ := bind_e h
               refine oO <| O_call (L_parityvol_Volume_Fill hr88) rfl Tryz.call29 (Dels.cons del0 (Dels.cons del6 Dels.nil)) rfl fun _ _ => oM rfl rfl <| oP (P_extract rfl rfl) rfl <| oP (P_extract rfl rfl) rfl <| oA rfl rfl <| oA rfl rfl <| nT <| sR <| oM rfl rfl <| oP (P_neq (a := r87.2.1) (b := (0 : Int)) rfl rfl) rfl <| oM rfl rfl <| RJ_mbF rfl rfl rfl (fun hG89 => have hP90 : ¬ (r87.2.1 ≠ (0 : Int)) := nP (bT_dec) hG89; VJ_P (P_move rfl)) <| RJ_mbF rfl rfl rfl (fun hG91 => have hP92 : ¬ (r87.2.1 ≠ (0 : Int)) := nP (bT_dec) hG91; VJ_P (P_move rfl)) <| RJ_mbF rfl rfl rfl (fun hG93 => have hP94 : ¬ (r87.2.1 ≠ (0 : Int)) := nP (bT_dec) hG93; VJ_P (P_move rfl)) <| RJ_mbF rfl rfl rfl (fun hG95 => have hP96 : ¬ (r87.2.1 ≠ (0 : Int)) := nP (bT_dec) hG95; VJ_P (PJ_eq (P_add (a := ((x76 : Nat) : Int)) (b := (1 : Int)) (mbx hG95 rfl) rfl (by omega)) rfl)) <| RJ_mbF rfl rfl rfl (fun hG97 => have hP98 : ¬ (r87.2.1 ≠ (0 : Int)) := nP (bT_dec) hG97; VJ_P (P_move rfl)) <| RJ_mbF rfl rfl rfl (fun hG99 => have hP100 : ¬ (r87.2.1 ≠ (0 : Int)) := nP (bT_dec) hG99; VJ_P (P_rem_u8 (a := part) (b := (3 : UInt8)) (mbx hG99 rfl) rfl (by decide))) <| RJ_mbF rfl rfl rfl (fun hG101 => have hP102 : ¬ (r87.2.1 ≠ (0 : Int)) := nP (bT_dec) hG101; VJ_P (P_convSame (mbx hG101 rfl) Tryz.runUnderlying5 Tryz.runUnderlying3 (wrap64_u _ (by have h9 := ((part % (3 : UInt8))).toNat_lt; exact (by omega : ((part % (3 : UInt8))).toNat < 9223372036854775808))))) ?_
               refine RJ_mbF rfl rfl rfl (fun hG103 => have hP104 : ¬ (r87.2.1 ≠ (0 : Int)) := nP (bT_dec) hG103; VJ_P (P_mulW (a := (((x76 + 1) : Nat) : Int)) (b := ((((part % (3 : UInt8))).toNat : Nat) : Int)) (mbx hG103 rfl) (mbx hG103 rfl))) <| RJ_mbF rfl rfl rfl (fun hG105 => have hP106 : ¬ (r87.2.1 ≠ (0 : Int)) := nP (bT_dec) hG105; VJ_P (P_min (a := r11.2.1) (b := (IntKind.i64.wrap ((((x76 + 1) : Nat) : Int) * ((((part % (3 : UInt8))).toNat : Nat) : Int)))) (mbx hG105 rfl) (mbx hG105 rfl))) <| RJ_mbF rfl rfl rfl (fun hG107 => have hP108 : ¬ (r87.2.1 ≠ (0 : Int)) := nP (bT_dec) hG107; VJ_P (P_neq (a := r87.1) (b := (min r11.2.1 ((IntKind.i64.wrap ((((x76 + 1) : Nat) : Int) * ((((part % (3 : UInt8))).toNat : Nat) : Int)))))) (mbx hG107 rfl) (mbx hG107 rfl))) <| oP (P_pickOr rfl rfl (fun hh => mbx (not_f hh) rfl)) rfl <| oM rfl rfl <| RJ_splitP 149 rfl (bT_or bT_dec bT_dec) (fun hg13B hg13 => ?_) (fun hg13B hg13 => ?_)
               ·
                replace h := ite_t hg13 h
                refine RJ_gn (GY_no rfl rfl rfl hg13B) rfl rfl <| RJ_gn (GY_no rfl rfl rfl hg13B) rfl rfl <| RJ_gn (GY_no rfl rfl rfl hg13B) rfl rfl <| RJ_gn (GY_no rfl rfl rfl hg13B) rfl rfl <| RJ_gn (GY_no rfl rfl rfl hg13B) rfl rfl <| RJ_gn (GY_no rfl rfl rfl hg13B) rfl rfl <| RJ_gn (GY_no rfl rfl rfl hg13B) rfl rfl <| RJ_gn (GY_undef rfl rfl rfl) rfl rfl <| RJ_gn (GY_undef rfl rfl rfl) rfl rfl <| RJ_gn (GY_undef rfl rfl rfl) rfl rfl <| RJ_gn (GY_undef rfl rfl rfl) rfl rfl <| RJ_gn (GY_undef rfl rfl rfl) rfl rfl <| RJ_gn (GY_undef rfl rfl rfl) rfl rfl <| RJ_gn (GY_undef rfl rfl rfl) rfl rfl <| RJ_gn (GY_no rfl rfl rfl hg13B) rfl rfl <| oP (P_pickT rfl hg13B rfl) rfl <| nT <| CJ_condT rfl rfl <| sR <| oA rfl rfl <| nT <| CJ_ret <| QJ_block_ret <| QJ_then_ret <| QJ_round_ret <| QJ_block_ret <| QJ_then_ret <| QJ_ent (Ent.trans (t2_ (t2_ (t2_ (t0_ (t1_ (t1_ (t1_ eR))))))) (OwnP_mk (v0 := x74.Open_1) (v1 := (some r87.2.2.1)) (v2 := x74.T) (v3 := x74.Stale) (v4 := x74.Lost) (h0 := oc81.1) (h1 := oc81.2.1) (h2 := X51) (h3 := oc81.2.2.1) (h4 := oc81.2.2.2.1) (h5 := oc81.2.2.2.2))) ?_
                have hE := Option.some.inj h
                replace hE := seq_inr hK69 hE.symm
                subst hE
                exact fE (res1 Tryz.results8 rfl) () (t2_ (t2_ (eD (eD eR))))
               ·
                replace h := ite_f hg13 h
                refine gP (GY_yes rfl rfl rfl hg13B) (P_move rfl) rfl <| gP (GY_yes rfl rfl rfl hg13B) (P_move rfl) rfl <| gV (GY_yes rfl rfl rfl hg13B) (V_index (i := x76) rfl rfl rfl (by omega) foc9 rm Tryz.runUnderlying22 Tryz.sizeOf49) rfl <| gP (GY_yes rfl rfl rfl hg13B) (P_fieldE rfl ⟨_, _, _, Tryz.runUnderlying49, rfl, rfl, Tryz.sizeOf3, rfl⟩) rfl <| gV (GY_yes rfl rfl rfl hg13B) (V_loadE rfl rfl (by omega) foc9 rm rfl rfl Tryz.isAgg3) rfl <| gP (GY_yes rfl rfl rfl hg13B) (P_lss (a := ((m.getD x76 (⟨0, 0, 0, 0⟩ : volumegroupmake_Step))).Kind) (b := (3 : Int)) rfl rfl) rfl <| gP (GY_yes rfl rfl rfl hg13B) (P_move rfl) rfl <| RJ_splitP 156 rfl bT_dec (fun hg14B hg14 => ?_) (fun hg14B hg14 => ?_)
                ·
                 replace h := ite_t hg14 h
                 refine gP (GY_yes rfl rfl rfl hg14B) (P_move rfl) rfl <| gP (GY_yes rfl rfl rfl hg14B) (P_move rfl) rfl <| gP (GY_yes rfl rfl rfl hg14B) (P_move rfl) rfl <| gV (GY_yes rfl rfl rfl hg14B) (V_index (i := x76) rfl rfl rfl (by omega) foc9 rm Tryz.runUnderlying22 Tryz.sizeOf49) rfl <| gV (GY_yes rfl rfl rfl hg14B) (V_loadEN rfl rfl (by omega) foc9 rm rfl rfl Tryz.isAgg49 Tryz.sizeOf49) rfl <| RJ_ent (Ent.trans (t2_ (t2_ (t2_ (t0_ (t1_ (t1_ (t1_ eR))))))) (OwnQ_mk (v0 := x74.Open_1) (v1 := (some r87.2.2.1)) (v2 := x74.T) (v3 := x74.Stale) (v4 := x74.Lost) (h0 := oc81.1) (h1 := oc81.2.1) (h2 := oc81.2.2.1) (h3 := oc81.2.2.2.1) (h4 := oc81.2.2.2.2))) ?_
                 obtain ⟨r109, hr110, h⟩ := bind_e h
                 refine RJ_gy (GY_yes rfl rfl rfl hg14B) <| O_call (LQ_volumegroupmake_Owner_StepQ hr110) rfl Tryz.call19 (Dels.cons del0 (Dels.cons del0 Dels.nil)) rfl fun _ _ => gP (GY_yes rfl rfl rfl hg14B) (P_not rfl) rfl <| gP (GY_yes rfl rfl rfl hg13B) (P_pickT rfl hg14B rfl) rfl <| oP (P_pickF rfl hg13B rfl) rfl <| nT <| CJ_condP rfl (bT_not Iff.rfl) (fun hg15 => ?_) (fun hg15 => ?_)
                 ·
                  replace h := ite_t hg15 h
                  refine sR <| oA rfl rfl <| nT <| CJ_ret <| QJ_block_ret <| QJ_then_ret <| QJ_round_ret <| QJ_block_ret <| QJ_then_ret ?_
                  have hE := Option.some.inj h
                  replace hE := seq_inr hK69 hE.symm
                  subst hE
                  exact fE (res1 Tryz.results8 rfl) () (t2_ (t2_ (eD (eD eR))))
                 ·
                  replace h := ite_f hg15 h
                  exact CJ_skip <| QJ_block_normal <| QJ_then <| CJ_region <| oM rfl rfl <| oP (PJ_eq (P_add (a := ((x76 : Nat) : Int)) (b := (1 : Int)) rfl rfl (by omega)) rfl) rfl <| oA rfl rfl <| RJ_nil <| nR ⟨n, r109.2.1, r109.2.2, (x76 + 1)⟩ h ⟨rfl, True.intro⟩ eR
                ·
                 replace h := ite_f hg14 h
                 exact RJ_gn (GY_no rfl rfl rfl hg14B) rfl rfl <| RJ_gn (GY_no rfl rfl rfl hg14B) rfl rfl <| RJ_gn (GY_no rfl rfl rfl hg14B) rfl rfl <| RJ_gn (GY_no rfl rfl rfl hg14B) rfl rfl <| RJ_gn (GY_no rfl rfl rfl hg14B) rfl rfl <| RJ_gn (GY_no rfl rfl rfl hg14B) rfl rfl <| RJ_gn (GY_no rfl rfl rfl hg14B) rfl rfl <| gP (GY_yes rfl rfl rfl hg13B) (P_pickF rfl hg14B rfl) rfl <| oP (P_pickF rfl hg13B rfl) rfl <| nT <| CJ_condF rfl rfl <| CJ_skip <| QJ_block_normal <| QJ_then <| CJ_region <| oM rfl rfl <| oP (PJ_eq (P_add (a := ((x76 : Nat) : Int)) (b := (1 : Int)) rfl rfl (by omega)) rfl) rfl <| oA rfl rfl <| RJ_nil <| QJ_ent (Ent.trans (t2_ (t2_ (t2_ (t0_ (t1_ (t1_ (t1_ eR))))))) (OwnQ_mk (v0 := x74.Open_1) (v1 := (some r87.2.2.1)) (v2 := x74.T) (v3 := x74.Stale) (v4 := x74.Lost) (h0 := oc81.1) (h1 := oc81.2.1) (h2 := oc81.2.2.1) (h3 := oc81.2.2.2.1) (h4 := oc81.2.2.2.2))) <| nR ⟨n, { x74 with X := (some r87.2.2.1) }, r87.2.2.2, (x76 + 1)⟩ h ⟨rfl, True.intro⟩ eR
             ·
              replace h := ite_f hg12 h
              exact CJ_exit <| QJ_then_exit <| QJ_round_exit <| QJ_block_here <| cR (x74, x75) (Option.some.inj h).symm True.intro eR
           ·
            rintro a73 hy111
            replace h := seq_inl hK69 hy111
            show CJ _ _ _ _ _ (([] : Slots) ++ forget _ _) (OwnQ X15.2 X51 X15.1 a73.1 :: Arr X15.2 a73.2 :: _)
            refine sR <| oM rfl rfl <| oM rfl rfl <| RJ_entX (Ent.transX (t0_ eR) (OwnQ_open (l := a73.1))) fun oc112 => RJ_pure (len_of (Reads.sl _ _ _) del5) fun hlen114 => RJ_pure (len_of (Reads.sl _ _ _) del6) fun hlen115 => ?_
            rcases opt_e h with ⟨ht116, h⟩ | ⟨o117, ht116, h⟩
            ·
             rw [ht116]
             exact RJ_ent (t0_ (t0_ (t0_ (t1_ (t1_ (t1_ (t1_ (t1_ (t1_ (eD eR)))))))))) <| none_e h
            ·
             rw [ht116]
             refine RJ_ent (Ent.takeC (A' := VolP X15.2 X51 o117) del3 rfl eR) ?_
             obtain ⟨r118, hr119, h⟩ := bind_e h
             refine oO <| O_call (L_parityvol_Volume_Fill hr119) rfl Tryz.call29 (Dels.cons del0 (Dels.cons del6 Dels.nil)) rfl fun _ _ => oM rfl rfl <| oP (P_extract rfl rfl) rfl <| oP (P_extract rfl rfl) rfl <| oA rfl rfl <| oA rfl rfl <| nT <| CJ_seq <| sR <| oM rfl rfl <| oP (P_neq (a := r118.2.1) (b := (0 : Int)) rfl rfl) rfl <| oM rfl rfl <| RJ_mbF rfl rfl rfl (fun hG120 => have hP121 : ¬ (r118.2.1 ≠ (0 : Int)) := nP (bT_dec) hG120; VJ_P (P_move rfl)) <| RJ_mbF rfl rfl rfl (fun hG122 => have hP123 : ¬ (r118.2.1 ≠ (0 : Int)) := nP (bT_dec) hG122; VJ_P (P_move rfl)) <| RJ_mbF rfl rfl rfl (fun hG124 => have hP125 : ¬ (r118.2.1 ≠ (0 : Int)) := nP (bT_dec) hG124; VJ_P (P_neq (a := r118.1) (b := r11.2.1) (mbx hG124 rfl) (mbx hG124 rfl))) <| oP (P_pickOr rfl rfl (fun hh => mbx (not_f hh) rfl)) rfl <| oM rfl rfl <| RJ_splitP 179 rfl (bT_or bT_dec bT_dec) (fun hg16B hg16 => ?_) (fun hg16B hg16 => ?_)
             ·
              replace h := ite_t hg16 h
              refine RJ_gn (GY_no rfl rfl rfl hg16B) rfl rfl <| RJ_gn (GY_no rfl rfl rfl hg16B) rfl rfl <| RJ_gn (GY_no rfl rfl rfl hg16B) rfl rfl <| oP (P_pickT rfl hg16B rfl) rfl <| oM rfl rfl <| RJ_gn (GY_no rfl rfl rfl rfl) rfl rfl <| RJ_gn (GY_no rfl rfl rfl rfl) rfl rfl <| RJ_gn (GY_no rfl rfl rfl rfl) rfl rfl <| oP (P_pickT rfl rfl rfl) rfl <| oM rfl rfl <| RJ_gn (GY_no rfl rfl rfl rfl) rfl rfl <| RJ_gn (GY_no rfl rfl rfl rfl) rfl rfl <| RJ_gn (GY_no rfl rfl rfl rfl) rfl rfl <| RJ_gn (GY_no rfl rfl rfl rfl) rfl rfl <| oP (P_pickT rfl rfl rfl) rfl <| nT <| CJ_condT rfl rfl <| sR <| oA rfl rfl <| RJ_nil <| QJ_ent (t1_ (t7_ (t7_ (eD (eD (eD (eD (eD (eD (eD eR)))))))))) <| QJ_then <| CJ_ret <| QJ_then_ret ?_
              cases h
              exact fE (res1 Tryz.results8 rfl) () (t1_ (t1_ (eD eR)))
             ·
              replace h := ite_f hg16 h
              refine gP (GY_yes rfl rfl rfl hg16B) (P_move rfl) rfl ?_
              obtain ⟨r126, hr127, h⟩ := bind_e h
              refine RJ_gy (GY_yes rfl rfl rfl hg16B) <| O_call (L_parityvol_Volume_Filled hr127) rfl Tryz.call36 (Dels.cons del0 (Dels.cons del0 Dels.nil)) rfl fun _ _ => gP (GY_yes rfl rfl rfl hg16B) (P_not rfl) rfl <| oP (P_pickF rfl hg16B rfl) rfl <| oM rfl rfl <| RJ_splitP 184 rfl (bT_not Iff.rfl) (fun hg17B hg17 => ?_) (fun hg17B hg17 => ?_)
              ·
               replace h := ite_t hg17 h
               refine RJ_gn (GY_no rfl rfl rfl hg17B) rfl rfl <| RJ_gn (GY_no rfl rfl rfl hg17B) rfl rfl <| RJ_gn (GY_no rfl rfl rfl hg17B) rfl rfl <| oP (P_pickT rfl hg17B rfl) rfl <| oM rfl rfl <| RJ_gn (GY_no rfl rfl rfl rfl) rfl rfl <| RJ_gn (GY_no rfl rfl rfl rfl) rfl rfl <| RJ_gn (GY_no rfl rfl rfl rfl) rfl rfl <| RJ_gn (GY_no rfl rfl rfl rfl) rfl rfl <| oP (P_pickT rfl rfl rfl) rfl <| nT <| CJ_condT rfl rfl <| sR <| oA rfl rfl <| RJ_nil <| QJ_ent (t1_ (t7_ (t7_ (eD (eD (eD (eD (eD (eD (eD eR)))))))))) <| QJ_then <| CJ_ret <| QJ_then_ret ?_
               cases h
               exact fE (res1 Tryz.results8 rfl) () (t1_ (t1_ (eD eR)))
              ·
               replace h := ite_f hg17 h
               refine gP (GY_yes rfl rfl rfl hg17B) (P_move rfl) rfl ?_
               obtain ⟨r128, hr129, h⟩ := bind_e h
               refine RJ_gy (GY_yes rfl rfl rfl hg17B) <| O_call (L_parityvol_Volume_Accept hr129) rfl Tryz.call35 (Dels.cons del0 (Dels.cons del0 Dels.nil)) rfl fun _ _ => gP (GY_yes rfl rfl rfl hg17B) (P_neq (a := r128.1) (b := (0 : Int)) rfl rfl) rfl <| oP (P_pickF rfl hg17B rfl) rfl <| oM rfl rfl <| RJ_splitP 189 rfl bT_dec (fun hg18B hg18 => ?_) (fun hg18B hg18 => ?_)
               ·
                replace h := ite_t hg18 h
                refine RJ_gn (GY_no rfl rfl rfl hg18B) rfl rfl <| RJ_gn (GY_no rfl rfl rfl hg18B) rfl rfl <| RJ_gn (GY_no rfl rfl rfl hg18B) rfl rfl <| RJ_gn (GY_no rfl rfl rfl hg18B) rfl rfl <| oP (P_pickT rfl hg18B rfl) rfl <| nT <| CJ_condT rfl rfl <| sR <| oA rfl rfl <| RJ_nil <| QJ_ent (t1_ (t7_ (t7_ (eD (eD (eD (eD (eD (eD (eD eR)))))))))) <| QJ_then <| CJ_ret <| QJ_then_ret ?_
                cases h
                exact fE (res1 Tryz.results8 rfl) () (t1_ (t1_ (eD eR)))
               ·
                replace h := ite_f hg18 h
                refine gP (GY_yes rfl rfl rfl hg18B) (P_move rfl) rfl ?_
                obtain ⟨r130, hr131, h⟩ := bind_e h
                refine RJ_gy (GY_yes rfl rfl rfl hg18B) <| O_call (L_parityvol_Volume_Stale hr131) rfl Tryz.call39 (Dels.cons del0 (Dels.cons del0 Dels.nil)) rfl fun X132 _ => gV (GY_yes rfl rfl rfl hg18B) (V_len rfl foc2 (Reads.sl _ _ _) Tryz.runUnderlying35) rfl <| gP (GY_yes rfl rfl rfl hg18B) (P_neq (a := ((r130.length : Nat) : Int)) (b := (0 : Int)) rfl rfl) rfl <| oP (P_pickF rfl hg18B rfl) rfl <| RJ_nil <| QJ_ent (t0_ (t0_ (t1_ (t1_ (t1_ (t1_ (t1_ (t1_ (t1_ (t1_ (eD eR))))))))))) <| QJ_then <| CJ_condP rfl bT_dec (fun hg19 => ?_) (fun hg19 => ?_)
                ·
                 replace h := ite_t hg19 h
                 refine sR <| oA rfl rfl <| RJ_nil <| QJ_ent (t1_ (t7_ (t7_ (eD (eD (eD (eD (eD (eD (eD eR)))))))))) <| QJ_then <| CJ_ret <| QJ_then_ret ?_
                 cases h
                 exact fE (res1 Tryz.results8 rfl) () (t1_ (t1_ (eD eR)))
                ·
                 replace h := ite_f hg19 h
                 refine kT <| CJ_seq <| sR <| oM rfl rfl <| RJ_ent (Ent.trans (t2_ (t2_ (t2_ (t0_ (t1_ (t1_ (t1_ eR))))))) (OwnQ_mk (v0 := a73.1.Open_1) (v1 := (some r128.2.1)) (v2 := a73.1.T) (v3 := a73.1.Stale) (v4 := a73.1.Lost) (h0 := oc112.1) (h1 := oc112.2.1) (h2 := oc112.2.2.1) (h3 := oc112.2.2.2.1) (h4 := oc112.2.2.2.2))) ?_
                 obtain ⟨r134, hr135, h⟩ := bind_e h
                 refine oO <| O_call (LQ_volumegroupmake_Owner_Flush hr135) rfl Tryz.call15 (Dels.cons del0 (Dels.cons del0 Dels.nil)) rfl fun _ _ => oM rfl rfl <| oP (P_extract rfl rfl) rfl <| oP (P_extract rfl rfl) rfl <| oA rfl rfl <| oA rfl rfl <| nT <| sR <| oM rfl rfl <| oP (P_neq (a := r134.1) (b := (0 : Int)) rfl rfl) rfl <| oM rfl rfl <| RJ_mbF rfl rfl rfl (fun hG136 => have hP137 : ¬ (r134.1 ≠ (0 : Int)) := nP (bT_dec) hG136; VJ_P (P_move rfl)) <| RJ_mbF rfl rfl rfl (fun hG138 => have hP139 : ¬ (r134.1 ≠ (0 : Int)) := nP (bT_dec) hG138; VJ_P (P_not (mbx hG138 rfl))) <| oP (P_pickOr rfl rfl (fun hh => mbx (not_f hh) rfl)) rfl <| nT <| CJ_condP rfl (bT_or bT_dec (bT_not Iff.rfl)) (fun hg20 => ?_) (fun hg20 => ?_)
                 ·
                  replace h := ite_t hg20 h
                  refine sR <| oA rfl rfl <| nT <| CJ_ret <| QJ_then_ret ?_
                  cases h
                  exact fE (res1 Tryz.results8 rfl) () (t2_ (t2_ (eD (eD eR))))
                 ·
                  replace h := ite_f hg20 h
                  refine kT <| CJ_seq <| CJ_entX (Ent.transX (t0_ eR) (OwnQ_open (l := r134.2.2.1))) fun oc140 => lC del5 fun hlen142 => lC del6 fun hlen143 => CJ_region <| oM rfl rfl <| oP (P_nilCheck rfl) rfl <| oP (P_fieldAddr rfl ⟨_, _, _, Tryz.runUnderlying37, rfl, rfl, Tryz.sizeOf35, rfl⟩) rfl <| oO <| O_store rfl rfl foc0 rfl rfl Tryz.sizeOf35 <| RJ_nil <| QJ_ent (fun h hh => sl_nil (t := tyI) h hh) <| QJ_ent (Ent.trans (t1_ (t1_ (t1_ (t1_ (t1_ (t0_ (t1_ eR))))))) (OwnP_mk (v0 := r134.2.2.1.Open_1) (v1 := r134.2.2.1.X) (v2 := r134.2.2.1.T) (v3 := []) (v4 := r134.2.2.1.Lost) (h0 := oc140.1) (h1 := oc140.2.1) (h2 := X51) (h3 := oc140.2.2.1) (h4 := ⟨none, 0, 0⟩) (h5 := oc140.2.2.2.2))) <| QJ_then <| sR <| oM rfl rfl ?_
                  obtain ⟨hg21, h⟩ := grd_Ie h
                  refine oP (P_add (a := ((((leg.toNat : Nat) : Int)).tmod r11.1)) (b := (1 : Int)) rfl rfl hg21) rfl <| oM rfl rfl <| oP (P_convSame rfl Tryz.runUnderlying5 Tryz.runUnderlying3 (wrap64_u _ (by have h9 := part.toNat_lt; exact (by omega : part.toNat < 9223372036854775808)))) rfl <| oM rfl rfl ?_
                  obtain ⟨hg22, h⟩ := grd_Ie h
                  refine oP (P_sub (a := r11.1) (b := (1 : Int)) rfl rfl hg22) rfl ?_
                  obtain ⟨hg23, h⟩ := grd_de h
                  refine oP (P_remT (a := ((part.toNat : Nat) : Int)) (b := (r11.1 - (1 : Int))) rfl rfl hg23) rfl ?_
                  obtain ⟨hg24, h⟩ := grd_Ie h
                  refine oP (P_add (a := (((((leg.toNat : Nat) : Int)).tmod r11.1) + (1 : Int))) (b := ((((part.toNat : Nat) : Int)).tmod ((r11.1 - (1 : Int))))) rfl rfl hg24) rfl ?_
                  obtain ⟨w145, hw145, h⟩ := lt_e h
                  rw [← hw145]
                  refine oM rfl rfl ?_
                  obtain ⟨hg25, h⟩ := grd_de h
                  refine oP (P_remT (a := w145) (b := r11.1) rfl rfl hg25) rfl <| oA rfl rfl <| nT <| sR <| oM rfl rfl <| oM rfl rfl <| oM rfl rfl ?_
                  obtain ⟨r146, hr147, h⟩ := bind_e h
                  refine oO <| O_call (L_volumegroupmake_Owner_Lose hr147) rfl Tryz.call40 (Dels.cons del0 (Dels.cons del1 Dels.nil)) rfl fun _ _ => oM rfl rfl <| RJ_splitP 223 rfl Iff.rfl (fun hg26B hg26 => ?_) (fun hg26B hg26 => ?_)
                  ·
                   replace h := ite_t hg26 h
                   refine gP (GY_yes rfl rfl rfl hg26B) (P_move rfl) rfl ?_
                   obtain ⟨r148, hr149, h⟩ := bind_e h
                   refine RJ_gy (GY_yes rfl rfl rfl hg26B) <| O_call (L_volumegroupmake_Owner_All hr149) rfl Tryz.call21 (Dels.cons del0 (Dels.cons del0 Dels.nil)) rfl fun _ _ => oP (P_pickT rfl hg26B rfl) rfl <| oM rfl rfl <| RJ_splitP 227 rfl Iff.rfl (fun hg27B hg27 => ?_) (fun hg27B hg27 => ?_)
                   ·
                    replace h := ite_t hg27 h
                    refine gP (GY_yes rfl rfl rfl hg27B) (P_move rfl) rfl ?_
                    obtain ⟨r150, hr151, h⟩ := bind_e h
                    refine RJ_gy (GY_yes rfl rfl rfl hg27B) <| O_call (L_volumegroupmake_Owner_Power hr151) rfl Tryz.call41 (Dels.cons del0 (Dels.cons del0 Dels.nil)) rfl fun _ _ => oP (P_pickT rfl hg27B rfl) rfl <| oM rfl rfl <| RJ_splitP 231 rfl Iff.rfl (fun hg28B hg28 => ?_) (fun hg28B hg28 => ?_)
                    ·
                     replace h := ite_t hg28 h
                     refine gP (GY_yes rfl rfl rfl hg28B) (P_move rfl) rfl ?_
                     obtain ⟨r152, hr153, h⟩ := bind_e h
                     refine RJ_gy (GY_yes rfl rfl rfl hg28B) <| O_call (L_volumegroupmake_Owner_All hr153) rfl Tryz.call21 (Dels.cons del0 (Dels.cons del0 Dels.nil)) rfl fun _ _ => oP (P_pickT rfl hg28B rfl) rfl <| oM rfl rfl <| RJ_splitP 235 rfl Iff.rfl (fun hg29B hg29 => ?_) (fun hg29B hg29 => ?_)
                     ·
                      replace h := ite_t hg29 h
                      obtain ⟨r154, hr155, h⟩ := bind_e h
                      refine RJ_gy (GY_yes rfl rfl rfl hg29B) <| O_call (L_volumegrouplaw19_awake hr155) rfl Tryz.call11 Dels.nil rfl fun _ _ => oP (P_pickT rfl hg29B rfl) rfl <| oA rfl rfl <| nT <| CJ_ret ?_
                      cases h
                      exact fE (res1 Tryz.results8 rfl) () (t3_ (t3_ (eD (eD (eD eR)))))
                     ·
                      replace h := ite_f hg29 h
                      refine RJ_gn (GY_no rfl rfl rfl hg29B) rfl rfl <| oP (P_pickF rfl hg29B rfl) rfl <| oA rfl rfl <| nT <| CJ_ret ?_
                      cases h
                      exact fE (res1 Tryz.results8 rfl) () (t3_ (t3_ (eD (eD (eD eR)))))
                    ·
                     replace h := ite_f hg28 h
                     refine RJ_gn (GY_no rfl rfl rfl hg28B) rfl rfl <| RJ_gn (GY_no rfl rfl rfl hg28B) rfl rfl <| oP (P_pickF rfl hg28B rfl) rfl <| oM rfl rfl <| RJ_gn (GY_no rfl rfl rfl rfl) rfl rfl <| oP (P_pickF rfl rfl rfl) rfl <| oA rfl rfl <| nT <| CJ_ret ?_
                     cases h
                     exact fE (res1 Tryz.results8 rfl) () (t3_ (t3_ (eD (eD (eD eR)))))
                   ·
                    replace h := ite_f hg27 h
                    refine RJ_gn (GY_no rfl rfl rfl hg27B) rfl rfl <| RJ_gn (GY_no rfl rfl rfl hg27B) rfl rfl <| oP (P_pickF rfl hg27B rfl) rfl <| oM rfl rfl <| RJ_gn (GY_no rfl rfl rfl rfl) rfl rfl <| RJ_gn (GY_no rfl rfl rfl rfl) rfl rfl <| oP (P_pickF rfl rfl rfl) rfl <| oM rfl rfl <| RJ_gn (GY_no rfl rfl rfl rfl) rfl rfl <| oP (P_pickF rfl rfl rfl) rfl <| oA rfl rfl <| nT <| CJ_ret ?_
                    cases h
                    exact fE (res1 Tryz.results8 rfl) () (t3_ (t3_ (eD (eD (eD eR)))))
                  ·
                   replace h := ite_f hg26 h
                   refine RJ_gn (GY_no rfl rfl rfl hg26B) rfl rfl <| RJ_gn (GY_no rfl rfl rfl hg26B) rfl rfl <| oP (P_pickF rfl hg26B rfl) rfl <| oM rfl rfl <| RJ_gn (GY_no rfl rfl rfl rfl) rfl rfl <| RJ_gn (GY_no rfl rfl rfl rfl) rfl rfl <| oP (P_pickF rfl rfl rfl) rfl <| oM rfl rfl <| RJ_gn (GY_no rfl rfl rfl rfl) rfl rfl <| RJ_gn (GY_no rfl rfl rfl rfl) rfl rfl <| oP (P_pickF rfl rfl rfl) rfl <| oM rfl rfl <| RJ_gn (GY_no rfl rfl rfl rfl) rfl rfl <| oP (P_pickF rfl rfl rfl) rfl <| oA rfl rfl <| nT <| CJ_ret ?_
                   cases h
                   exact fE (res1 Tryz.results8 rfl) () (t3_ (t3_ (eD (eD (eD eR)))))
end Go.Proofs
namespace Go.Proofs
open Go.VG
theorem shape_eq (n : UInt8) : volumegrouplaw19_shape n = some (((CP n).L : Int), ((CP n).R : Int), ((CP n).c : Int)) := by
  have h1 := (CP n).hL
  have h2 := (CP n).hR
  have h3 := (CP n).hc
  have e1 : 3 + (n % 2).toNat = (CP n).L := rfl
  have e2 : 1 + ((n / 2) % 3).toNat = (CP n).R := rfl
  have e3 : 1 + ((n / 8) % 2).toNat = (CP n).c := rfl
  unfold volumegrouplaw19_shape
  rw [e1, e2, e3, grd_t (inN64_of (by omega)), grd_t (inN64_of (by omega)), grd_t (inN64_of (by omega))]
section
variable {C : PC} {V V' : Nat → Nat → UInt64} {st fl : Option Nat} {q q' : UInt64} {e e' : PE} {k n i j d f a : Nat} {mz : Nat → Bool} {K K' : Nat} {s t u : ArrS} {v w : UInt64} {p : Bool} {o : OwnS}
theorem fstepQ (hm : ∀ i, mz i = false) (h : FUv C d mz K V q e f o s) (hK : K ≤ 40000) (x : volumegroupmake_Step) (hx : x.Kind < 3) :
    ∃ V' q' e' o' t, volumegroupmake_Owner_StepQ o x s = some (true, o', t) ∧ FUv C d mz (K + 50) V' q' e' f o' t := by
  have hD := @PC.hD C
  obtain ⟨a, a1, a2, a3, a4⟩ := at_ok x.At (n := C.D) (by omega) (by omega)
  unfold volumegroupmake_Owner_StepQ
  rw [h.tl.len, grd_t (decide_eq_true (by omega)), grd_t (inI64_of (by omega)), grd_t (decide_eq_true (by omega)), a1]
  unfold lt
  simp only []
  by_cases k0 : x.Kind = 0
  · rw [if_pos k0]
    obtain ⟨V', q', e', o', t, h1, h2⟩ := fwrite (w := x.Value) hm h (by omega) a2
    rw [h1]; simp only [Option.bind_some]
    rw [if_neg (by simp), if_pos (by decide)]
    exact ⟨V', q', e', o', t, rfl, h2⟩
  · rw [if_neg k0]
    by_cases k1 : x.Kind = 1
    · rw [if_pos k1]
      obtain ⟨o', h1, h2⟩ := fread (g := false) hm h (by omega) a2
      rw [h1]; simp only [Option.bind_some]
      rw [if_neg (by simp), if_pos (by decide)]
      exact ⟨V, q, e, o', s, rfl, h2.mono (by omega)⟩
    · rw [if_neg k1]
      by_cases k2 : x.Kind = 2
      · rw [if_pos k2]
        obtain ⟨o', t, h1, h2⟩ := fflush hm h (by omega)
        rw [h1]; simp only [Option.bind_some]
        rw [if_neg (by simp), if_pos (by decide)]
        exact ⟨V, q, e, o', t, rfl, h2.mono (by omega)⟩
      · rw [if_neg k2, if_neg (by omega), if_neg (by omega)]; simp only [Option.bind_some]
        rw [if_neg (by simp), if_pos (by decide)]
        exact ⟨V, q, e, o, s, rfl, h.mono (by omega)⟩
theorem returns_l1 {m : List volumegroupmake_Step} {part : UInt8} {pp : Nat} (hpp : (part % 3).toNat = pp) (hp3 : pp < 3) (hm : ∀ i, mz i = false) (hd : d < C.L) (hml : m.length ≤ 24) : ∀ (N i : Nat) (o : OwnS) (s : ArrS) (V : Nat → Nat → UInt64) (q : UInt64) (e : PE), m.length - i < N → i ≤ m.length → i ≤ 6 → FUv C d mz (21000 + 60 * i) V q e (min C.R (i * pp)) o s →
    ∃ o' t V' q' e' f, volumegrouplaw19_ParityvolReturns_l1 m part ((C.L : Int), (C.R : Int), (C.c : Int)) N o s i = some (.inl (o', t)) ∧ FUv C d mz 22000 V' q' e' f o' t ∧ f ≤ C.R
  | 0, _, _, _, _, _, _, h, _, _, _ => absurd h (by omega)
  | N + 1, i, o, s, V, q, e, h, hi, hi6, hu => by
    have hF := fuel_big
    have hR := C.hR
    have hun : volumegrouplaw19_ParityvolReturns_l1 m part ((C.L : Int), (C.R : Int), (C.c : Int)) (N + 1) o s i = volumegrouplaw19_ParityvolReturns_l1_b m part ((C.L : Int), (C.R : Int), (C.c : Int)) (volumegrouplaw19_ParityvolReturns_l1 m part ((C.L : Int), (C.R : Int), (C.c : Int)) N) o s i := rfl
    rw [hun]
    unfold volumegrouplaw19_ParityvolReturns_l1_b
    simp only
    by_cases hlt : i < m.length ∧ i < 6
    · rw [if_pos ⟨by omega, by omega⟩, hu.x]; simp only [Option.elim_some]
      obtain ⟨t, g1, g2, g3, g4⟩ := fill_eq (n := pp) hm hd (Nat.min_le_left _ _) (by omega) hu.en (by omega) hu.jv hu.qs hu.fi
      rw [hpp, g1]; simp only [Option.bind_some]
      have e0 : (i + 1) * pp = i * pp + pp := Nat.succ_mul _ _
      have eb : i * pp ≤ 6 * 3 := Nat.mul_le_mul (by omega) (by omega)
      have e1 : (((i + 1 : Nat) : Nat) : Int) * (pp : Int) = (((i + 1) * pp : Nat) : Int) := by push_cast; rfl
      have e2 : min C.R (min C.R (i * pp) + pp) = min C.R ((i + 1) * pp) := by rw [e0]; omega
      rw [e1, wrapN (by omega), e2, if_neg (by
        rintro (y | y)
        · exact y rfl
        · exact y (by omega))]
      rw [e2] at g4
      have hu1 : FUv C d mz (21000 + 60 * i + 6) V q e (min C.R ((i + 1) * pp)) { o with X := some (vol C (some d) none q e false (min C.R ((i + 1) * pp))) } t := ⟨rfl, g2, hu.jv, by have := hu.qk; omega, g3, g4, hu.ti, hu.tl.mono (by omega), hu.o1, hu.lost⟩
      by_cases hk : (m.getD i (⟨0, 0, 0, 0⟩ : volumegroupmake_Step)).Kind < 3
      · rw [if_pos hk]
        obtain ⟨V', q', e', o', t', h1, h2⟩ := fstepQ hm hu1 (by omega) _ hk
        rw [h1]; simp only [Option.bind_some]
        rw [if_neg (by simp)]
        exact returns_l1 hpp hp3 hm hd hml N (i + 1) o' t' V' q' e' (by omega) (by omega) (by omega) (h2.mono (by omega))
      · rw [if_neg hk]
        exact returns_l1 hpp hp3 hm hd hml N (i + 1) _ t V q e (by omega) (by omega) (by omega) (hu1.mono (by omega))
    · rw [if_neg (by omega)]
      exact ⟨o, s, V, q, e, _, rfl, hu.mono (by omega), Nat.min_le_left _ _⟩
end
theorem parityvolReturns (n leg : UInt8) (l m : List volumegroupmake_Step) (junk : UInt64) (part : UInt8) : volumegrouplaw19_ParityvolReturns n leg l m junk part = some true := by
  unfold volumegrouplaw19_ParityvolReturns volumegroupmake_Few
  simp only [Option.bind_some]
  by_cases hl : ((l.length : Nat) : Int) ≤ 24
  · rw [if_neg (by simp; omega)]
    by_cases hml : ((m.length : Nat) : Int) ≤ 24
    · rw [if_neg (by simp; omega), shape_eq]; simp only [Option.bind_some]
      rw [begunP_eq]; simp only [Option.bind_some, Option.elim_some]
      have hF := fuel_big
      generalize CP n = C
      have hL := C.hL
      have hR := C.hR
      have hc := C.hc
      have hO := @PC.hO C
      have hD := @PC.hD C
      have hsz : C.sz = 16 + C.O := rfl
      have e5 : (C.R : Int) * (C.c : Int) = (C.O : Int) := by unfold PC.O; push_cast; rfl
      have e6 : (16 : Int) + (C.O : Int) = ((C.sz : Nat) : Int) := by rw [hsz]; push_cast; rfl
      obtain ⟨k, hk⟩ : ∃ k, k = leg.toNat % C.L := ⟨_, rfl⟩
      have hkL : k < C.L := by rw [hk]; exact Nat.mod_lt _ (by omega)
      have hm : ∀ i : Nat, (fun _ => false : Nat → Bool) i = false := fun _ => rfl
      rw [tmodN, ← hk, e5, e6, grd_t (decide_eq_true (by omega)), grd_t (inI64_of (by omega)), grd_t (inI64_of (by omega)), words_eq (by omega)]; simp only [Option.bind_some]
      rw [grd_t (inLen_of (by have := (arrB (C := C)).sz.wr; have := (arrB (C := C)).wr; omega))]
      obtain ⟨l1, l2⟩ := load_eq (s := stB C) (d := k) (im := wordsL C.sz junk) (arrB (C := C)) (by rw [PC.len]; exact hkL) (by rw [wordsL_length, PC.nsz hkL])
      rw [l1, if_neg (by simp)]
      generalize ldS (stB C) ((k : Nat) : Int) (wordsL C.sz junk) = s1 at l2
      have he1 : PEn C (fun _ => false) False 500 s1 := ⟨l2.ok, l2.dn.trans rfl, fun e => by rw [l2.miss]; exact missB, fun _ => l2.fuse.trans rfl⟩
      have hrr : Rr C (some k) (fun _ _ => 0) 0 ⟨0, 0, 0, 0⟩ s1 := by
        have hne : ∀ d, (some k : Option Nat) ≠ some d → d ≠ k := fun d h y => h (by rw [y])
        obtain ⟨d0, d1, d2⟩ := Ls.some (C := C) (some k)
        refine ⟨fun d _ hds => ?_, fun d _ _ _ h => absurd rfl h, fun d _ hds o _ _ => ?_, ⟨d0, d1, d2, ?_⟩, fun d b => ?_⟩
        · show (now s1 d 0).toNat ≤ _
          rw [(l2.oth d 0 (hne d hds)).1, nowB]; exact Nat.le_refl _
        · rw [(l2.oth d _ (hne d hds)).1, nowB]
        · rw [(l2.oth d0 0 (hne d0 d2)).1, nowB]
        · by_cases z : d = k
          · rw [z, (l2.own b).1, (l2.own b).2]
          · rw [(l2.oth d b z).1, (l2.oth d b z).2, candB, nowB]
      have how : OwI C (some k) (some k) (fun _ => false) { owB C with Stale := [(k : Int)], Lost := [(k : Int)] } := ⟨rfl, rfl, rfl, fun _ h => (by cases h), .inr rfl, fun j hj => by cases hj; exact hkL⟩
      obtain ⟨o', t, st', z', mz', V, q, e, h1, h2, hE, h3⟩ := oplayP (l := l) (lose := -1) (k := 0) (o := { owB C with Stale := [(k : Int)], Lost := [(k : Int)] }) (by omega) (by omega) how (.inl (by decide)) he1 tlB hrr.rc jvB (by decide) tiB
      rw [show volumegroupmake_Owner_Play { owB C with Stale := [(k : Int)], Lost := [(k : Int)] } l (-1 : Int) (0 : Int) (0 : Int) s1 = some (true, o', t) from h1]; simp only [Option.bind_some]
      have hz : z' = some k ∧ mz' = fun _ => false := h3.elim id (fun y => absurd y.2 (by decide))
      obtain ⟨rfl, rfl⟩ := hz
      have hQ : Qs C (some k) V q e t := by
        rcases h2.ow.sz with y | y
        · have := h2.qs
          rw [y] at this; exact this.drop
        · have := h2.qs
          rw [y] at this; exact this
      rw [if_neg (by simp)]
      obtain ⟨s2, -, -⟩ := pspans hE.ok
      rw [s2]; simp only [Option.bind_some]
      rcases pOpen_eq hE (by omega) (fun j hj => by cases hj; exact hkL) (Rc.now_Q hE hQ) h2.jv.jw with ⟨e1, t2, c1, c2, c3, c4⟩ | ⟨j, -, j2, -⟩
      · rw [show parityvol_Open (spansA t) [(k : Int)] (C.c : Int) t = _ from c1]; simp only [Option.bind_some]
        rw [if_neg (by simp)]; simp only [Option.elim_some]
        rw [filled_eq hkL]; simp only [Option.bind_some]
        rw [if_neg (by simp; omega), accept_no hkL (by omega)]; simp only [Option.bind_some]
        rw [if_neg (by simp)]
        have hu0 : FUv C k (fun _ => false) (21000 + 60 * 0) V q e1 (min C.R (0 * (part % 3).toNat)) { o' with X := some (vol C (some k) none q e1 false 0), Lost := [] } t2 := ⟨by rw [Nat.zero_mul, Nat.min_zero], c2.mono (by omega), ⟨h2.jv.even, c4.ev, c4.sm⟩, by have := h2.qk; omega, c3, fun d _ o _ hx => by
          rw [Nat.zero_mul, Nat.min_zero] at hx
          exact absurd hx (Nat.not_lt_zero _), h2.ti, h2.tl.mono (by omega), h2.ow.o1, rfl⟩
        obtain ⟨o3, t3, V3, q3, e3, f3, g1, g2, g3⟩ := returns_l1 (m := m) (part := part) rfl (by have := @u8modP part 3 (by decide); exact this) hm hkL (by omega) FUEL 0 _ t2 V q e1 (by omega) (by omega) (by omega) hu0
        rw [g1, seqO_inl]; simp only
        rw [g2.x]; simp only [Option.elim_some]
        obtain ⟨t4, k1, k2, k3, k4⟩ := fill_eq (n := C.R) hm hkL g3 (by omega) g2.en (by omega) g2.jv g2.qs g2.fi
        have emin : min C.R (f3 + C.R) = C.R := by omega
        rw [emin] at k1 k4
        rw [k1]; simp only [Option.bind_some]
        rw [if_neg (by simp), filled_eq hkL]; simp only [Option.bind_some]
        rw [if_neg (by simp)]
        obtain ⟨t5, m1, m2, m3⟩ := accept_eq hm hkL k2 (by omega) k3 k4
        rw [m1]; simp only [Option.bind_some]
        rw [if_neg (by simp), pstale_eq]; simp only [Option.bind_some]
        rw [if_neg (by simp)]
        -- the owner flushes
        obtain ⟨N, hN⟩ := fuelS2
        obtain ⟨t6, n1, n2, n3, -⟩ := pflushR (k := C.R) hm m2 (by omega) m3
        have hfl : volumegroupmake_Owner_Flush { o3 with X := some (vol C none none q3 e3 false C.R) } t5 = some (0, true, { o3 with X := some (vol C none none q3 e3 false C.R), T := flushedT o3.T }, t6) := by
          unfold volumegroupmake_Owner_Flush
          rw [hN]; simp only [Option.elim_some]
          have stop : ∀ M o t er n, er ≠ 18 → volumegroupmake_Owner_Flush_l1 (M + 1) o t er n = some (.inl (er, o, t)) := fun M o t er n hne => by
            show volumegroupmake_Owner_Flush_l1_b (volumegroupmake_Owner_Flush_l1 M) o t er n = _
            unfold volumegroupmake_Owner_Flush_l1_b
            rw [if_neg (fun y => hne y.2)]
          rw [n1]; simp only [Option.bind_some]
          rw [stop _ _ _ _ _ (by decide), seqO_inl, if_pos rfl]; rfl
        rw [hfl]; simp only [Option.bind_some]
        rw [if_neg (by simp)]
        obtain ⟨ti2, tl2⟩ := g2.ti.flushed g2.tl
        have hL1 : (C.L : Int) - 1 = ((C.L - 1 : Nat) : Int) := by omega
        have hpm : part.toNat % (C.L - 1) < C.L - 1 := Nat.mod_lt _ (by omega)
        obtain ⟨pm, hpm'⟩ : ∃ pm, pm = part.toNat % (C.L - 1) := ⟨_, rfl⟩
        rw [← hpm'] at hpm
        have ew : (k : Int) + 1 + (pm : Int) = ((k + 1 + pm : Nat) : Int) := by push_cast; rfl
        rw [hL1, tmodN, ← hpm', grd_t (inI64_of (by omega)), grd_t (inI64_of (by omega)), grd_t (decide_eq_true (by omega)), grd_t (inI64_of (by omega)), ew]
        unfold lt
        simp only
        rw [tmodN, grd_t (decide_eq_true (by omega))]
        have hup : UPv C none none (fun _ => false) 23000 V3 q3 e3 { o3 with X := some (vol C none none q3 e3 false C.R), T := flushedT o3.T, Stale := [] } t6 := ⟨⟨C.R, .inl rfl, rfl⟩, ⟨g2.o1, rfl, g2.lost, fun _ h => (by cases h), .inl rfl, fun _ h => (by cases h)⟩, n2.any.mono (by omega), g2.jv, by have := g2.qk; omega, n3, ti2, tl2.mono (by omega)⟩
        obtain ⟨o7, w1, w2⟩ := oloseP (k := (k + 1 + pm) % C.L) hup (Nat.mod_lt _ (by omega))
        rw [w1]; simp only [Option.bind_some]
        rw [if_pos trivial]
        obtain ⟨st8, o8, y1, y2⟩ := oallP w2 (by omega) (g := false)
        rw [y1]; simp only [Option.bind_some]
        rw [if_pos trivial]
        obtain ⟨st9, V9, q9, e9, o9, t9, x1, x2, -⟩ := opowerP y2.dnv (by omega) 0
        rw [x1]; simp only [Option.bind_some]
        rw [if_pos trivial]
        obtain ⟨st10, o10, v1, v2⟩ := oallP x2 (by omega) (g := true)
        rw [v1]; simp only [Option.bind_some]
        rw [if_pos trivial, awake19]; rfl
      · cases j2
    · rw [if_pos (by simp; omega), awake19]; rfl
  · rw [if_pos (by simp; omega), awake19]; rfl
end Go.Proofs
