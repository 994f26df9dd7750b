/- MirrorTwoLost, part 9 of the proof: LOwnQ1, LOwnQ2, LMirrorTwoLost, PMirrorTwoLost. -/
import Derived.WalkKit
import Derived.Orders
import Derived.RangeFuncLeaves
import Derived.RangeFuncCalls
import Derived.TacticsIn
import Derived.Handy
import Derived.OrdersHeld
import Derived.OrdersIn
import Derived.Below
import Derived.OpenShut
import Derived.Deep.Slices
import Derived.Scope
import Derived.KernelRfl
import Derived.RangeFuncRecord
import Derived.ChangeKeysEq
import Derived.ProofKit
import Derived.ShutString
import Derived.ChangeOld
import Derived.Test.YtcfnikegnhlghaaGreatChecked
import Derived.Test.YtcfnikegnhlghaaGreatRows
import Derived.Test.YtcfnikegnhlghaaGreatZMirrorTwoLost8
set_option linter.unusedSimpArgs false
set_option linter.unusedVariables false
set_option maxRecDepth 20000
set_option maxHeartbeats 4000000
namespace Go.Proofs
open Go.VG
theorem LQ_volumegroupmake_Owner_drop {W : World} {bo : Nat} {vlo : Nat} {bs : Nat} {o : OwnS} {s : ArrS} {r : Bool × OwnS} (h : volumegroupmake_Owner_drop o s=some r) :
    CSpec Tryz.prog W 53 [ptr bo 0] [OwnQ bs vlo bo o,Arr bs s] (fun x : Unit => .bool r.1) (fun _=>True) (fun x F=>OwnQ bs vlo bo r.2::Arr bs s::F) := by
 refine CSpec.of_body Tryz.func53 rfl Tryz.ntmps53 rfl fun F => ?_
 show CJ _ _ _ _ _ _ (_::_::F)
 unfold volumegroupmake_Owner_drop at h
 refine sR <| oA rfl rfl <| nT <| CJ_seq <| CJ_entX (Ent.transX (t0_ eR) (OwnQ_open (l:=o))) fun oc1=>lC del4 fun hlen3=>lC del5 fun hlen4=>CJ_region <| oM rfl rfl <| oP (P_nilCheck rfl) rfl <| oP (P_fieldAddr rfl ⟨_,_,_,Tryz.runUnderlying60,rfl,rfl,Tryz.sizeOf57,rfl⟩) rfl <| oV (V_load rfl foc0 rfl Tryz.isAgg57) rfl ?_
 rcases opt_e h with ⟨ht5,h⟩ | ⟨o6,ht5,h⟩
 ·
  rw [ht5]
  exact RJ_ent (t0_ (t0_ (t1_ (t1_ (t1_ (t1_ (eD eR))))))) <| none_e h
 ·
  rw [ht5]
  refine RJ_ent (Ent.takeC (A' := MirP bs vlo o6) del2 rfl eR) ?_
  obtain ⟨r7,hr8,h⟩ := bind_e h
  refine oO <| O_callI rfl (ICall.of (fun w=>by kernel_rfl) Tryz.call97 (L_mirror_Mirror_Failed hr8)) rfl (Dels.cons del0 (Dels.cons del5 Dels.nil)) rfl fun X9 _=>oA rfl rfl <| RJ_nil <| QJ_ent (Ent.trans (t3_ (t3_ (t0_ (t2_ (t2_ (t2_ eR)))))) (OwnQ_mk (v0:=o.Open_1) (v1:=o.Open_2) (v2:=o.Open_3) (v3:=o.Open_4) (v4:=(some o6)) (v5:=o.T) (v6:=o.Stale) (v7:=o.Lost) (h0:=oc1.1) (h1:=oc1.2.1) (h2:=oc1.2.2.1) (h3:=oc1.2.2.2))) <| QJ_then <| CJ_seq <| sR <| oA rfl rfl <| nT ?_
  obtain ⟨y13,hl11,hK12⟩ := seq_e h
  refine CJ_cutT (X:=OwnS) [2,4,10,11,12,13,14,15,16,17,18,19,20,21,22,23,24,25,26,27,28,29,30,31,32,33,34,35,36,37,38,39,40,41,42,43,44,45,46,47,48,49,50,51] (fun a15=>([] : Slots)) (fun a15 R=>OwnQ bs vlo bo a15::R) (fun a15=>y13 = .inl a15) (Dels.cons del0 Dels.nil) ?_ ?_
  ·
   refine CJ_block <| CJ_loopR (X:=Nat × OwnS × Nat) [2,4,10,11,12,13,14,15,16,17,18,19,20,21,22,23,24,25,26,27,28,29,30,31,32,33,34,35,36,37,38,39,40,41,42,43,44,45,46,47,48,49,50,51] (fun ⟨n,x16,x17⟩=>([(4,.int .i64 (((x17 : Nat) : Int)))] : Slots)) (fun ⟨n,x16,x17⟩ R=>OwnQ bs vlo bo x16::R) (fun ⟨n,x16,x17⟩=>volumegroupmake_Owner_drop_l1 s r7 n x16 x17=some y13) (fun ⟨n,x16,x17⟩=>n) ⟨FUEL, { o with X := (some o6) },0⟩ ?_ ?_ eR ?_
   · exact hl11
   · exact ⟨rfl,True.intro⟩
   ·
    rintro ⟨n,x16,x17⟩ h
    cases n with
    | zero=>exact none_e h
    | succ n => ?_
    replace h : volumegroupmake_Owner_drop_l1_b s r7 (volumegroupmake_Owner_drop_l1 s r7 n) x16 x17=some y13 := h
    unfold volumegroupmake_Owner_drop_l1_b at h
    show CJ _ _ _ _ _ (([(4,.int .i64 (((x17 : Nat) : Int)))] : Slots) ++ forget _ _) (OwnQ bs vlo bo x16::_)
    refine CJ_seq <| sR <| oM rfl rfl <| oM rfl rfl <| oV (V_len rfl foc2 (Reads.sl _ _ _) Tryz.runUnderlying45) rfl <| oP (P_lss (a:=((x17 : Nat) : Int)) (b:=((r7.length : Nat) : Int)) rfl rfl) rfl <| nT <| CJ_condP rfl bT_dec (fun hg1 => ?_) (fun hg1 => ?_)
    ·
     replace h := ite_t hg1 h
     refine kT <| CJ_seq <| CJ_block <| CJ_seq <| CJ_seq <| CJ_entX (Ent.transX (t0_ eR) (OwnQ_open (l:=x16))) fun oc18=>lC del4 fun hlen20=>lC del5 fun hlen21=>AJ_startH 2097152 (by kernel_rfl) rfl <| aN 0 1 rfl rfl (P_move rfl) rfl <| aN 1 3 rfl rfl (P_nilCheck rfl) rfl <| aN 2 7 rfl rfl (P_fieldAddr rfl ⟨_,_,_,Tryz.runUnderlying60,rfl,rfl,Tryz.sizeOf45,rfl⟩) rfl <| aV 3 15 rfl rfl (GY_none rfl) eR (V_load rfl foc0 rfl Tryz.isAgg45) rfl <| aN 4 31 rfl rfl (P_move rfl) rfl <| aN 5 63 rfl rfl (P_move rfl) rfl <| aV 6 127 rfl rfl (GY_none rfl) eR (V_index (i:=x17) rfl rfl rfl (by omega) foc7 (Reads.sl _ _ _) Tryz.runUnderlying45 Tryz.sizeOf3) rfl <| aV 7 255 rfl rfl (GY_none rfl) eR (V_loadE rfl rfl (by omega) foc7 (Reads.sl _ _ _) rfl rfl Tryz.isAgg3) rfl ?_
     obtain ⟨r22,hr23,h⟩ := bind_e h
     refine AJ_op 8 511 rfl (by kernel_rfl) rfl (GY_none rfl) <| O_call (L_volumegroupmake_has (Reads.sl _ _ _) hr23) rfl Tryz.call95 (Dels.cons del5 Dels.nil) rfl fun _ _=>⟨fun _=>(t1_ (t1_ (t1_ (t1_ (t1_ eR))))),?_⟩
     refine aN 9 1023 rfl rfl (P_not rfl) rfl <| aN 10 2047 rfl rfl (P_move rfl) rfl <| AJ_splitP 26 rfl (bT_not Iff.rfl) (fun hg2B hg2 => ?_) (fun hg2B hg2 => ?_)
     ·
      replace h := ite_t hg2 h
      refine aS 11 4095 rfl rfl (GY_no rfl rfl rfl hg2B) rfl <| aS 12 8191 rfl rfl (GY_no rfl rfl rfl hg2B) rfl <| aS 13 16383 rfl rfl (GY_no rfl rfl rfl hg2B) rfl <| aS 14 32767 rfl rfl (GY_no rfl rfl rfl hg2B) rfl <| aS 15 65535 rfl rfl (GY_no rfl rfl rfl hg2B) rfl <| aS 16 131071 rfl rfl (GY_no rfl rfl rfl hg2B) rfl <| aS 17 262143 rfl rfl (GY_no rfl rfl rfl hg2B) rfl <| aS 18 524287 rfl rfl (GY_no rfl rfl rfl hg2B) rfl <| aS 19 1048575 rfl rfl (GY_no rfl rfl rfl hg2B) rfl <| aS 20 2097151 rfl rfl (GY_no rfl rfl rfl hg2B) rfl <| aS 21 4194303 rfl rfl (GY_no rfl rfl rfl hg2B) rfl <| aS 22 8388607 rfl rfl (GY_no rfl rfl rfl hg2B) rfl <| aN 23 16777215 rfl rfl (P_pickT rfl hg2B rfl) rfl <| AJ_done (by kernel_rfl) <| QJ_ent (Ent.trans (t1_ (t1_ (t1_ (t1_ (t1_ eR))))) (OwnQ_mk (v0:=x16.Open_1) (v1:=x16.Open_2) (v2:=x16.Open_3) (v3:=x16.Open_4) (v4:=x16.X) (v5:=x16.T) (v6:=x16.Stale) (v7:=x16.Lost) (h0:=oc18.1) (h1:=oc18.2.1) (h2:=oc18.2.2.1) (h3:=oc18.2.2.2))) <| QJ_then <| CJ_condT rfl rfl <| sR <| oA rfl rfl <| nT <| CJ_ret <| QJ_then_ret <| QJ_block_ret <| QJ_then_ret <| QJ_round_ret <| QJ_block_ret <| QJ_then_ret ?_
      have hE := Option.some.inj h
      replace hE := seq_inr hK12 hE.symm
      subst hE
      exact fE (res1 Tryz.results53 rfl) () (t0_ (t0_ (eD eR)))
     ·
      replace h := ite_f hg2 h
      refine aP 11 4095 rfl rfl (GY_yes rfl rfl rfl hg2B) (P_move rfl) rfl <| aP 12 8191 rfl rfl (GY_yes rfl rfl rfl hg2B) (P_nilCheck rfl) rfl <| aP 13 16383 rfl rfl (GY_yes rfl rfl rfl hg2B) (P_fieldAddr rfl ⟨_,_,_,Tryz.runUnderlying60,rfl,rfl,Tryz.sizeOf57,rfl⟩) rfl <| aV 14 32767 rfl rfl (GY_yes rfl rfl rfl hg2B) (t1_ (t1_ (t1_ (t1_ (t1_ eR))))) (V_load rfl foc0 rfl Tryz.isAgg57) rfl <| aP 15 65535 rfl rfl (GY_yes rfl rfl rfl hg2B) (P_move rfl) rfl <| aP 16 131071 rfl rfl (GY_yes rfl rfl rfl hg2B) (P_move rfl) rfl <| aV 17 262143 rfl rfl (GY_yes rfl rfl rfl hg2B) (t1_ (t1_ (t1_ (t1_ (t1_ eR))))) (V_index (i:=x17) rfl rfl rfl (by omega) foc7 (Reads.sl _ _ _) Tryz.runUnderlying45 Tryz.sizeOf3) rfl <| aV 18 524287 rfl rfl (GY_yes rfl rfl rfl hg2B) (t1_ (t1_ (t1_ (t1_ (t1_ eR))))) (V_loadE rfl rfl (by omega) foc7 (Reads.sl _ _ _) rfl rfl Tryz.isAgg3) rfl ?_
      rcases opt_e h with ⟨ht24,h⟩ | ⟨o25,ht24,h⟩
      ·
       rw [ht24]
       exact none_e h
      ·
       rw [ht24]
       refine AJ_ent (Ent.takeC (A' := MirP bs vlo o25) del3 rfl eR) <| aP 19 1048575 rfl rfl (GY_yes rfl rfl rfl hg2B) (P_nilCheckI rfl) rfl <| aP 20 2097151 rfl rfl (GY_yes rfl rfl rfl hg2B) (P_move rfl) rfl ?_
       obtain ⟨r26,hr27,h⟩ := bind_e h
       refine AJ_op 21 4194303 rfl (by kernel_rfl) rfl (GY_yes rfl rfl rfl hg2B) <| O_callI rfl (ICall.of (fun w=>by kernel_rfl) Tryz.call134 (L_mirror_Mirror_Drop hr27)) rfl (Dels.cons del0 (Dels.cons del5 Dels.nil)) rfl fun _ _=>⟨fun h=>absurd h (by decide),?_⟩
       refine aP 22 8388607 rfl rfl (GY_yes rfl rfl rfl hg2B) (P_neq (a:=r26.1) (b:=(0 : Int)) rfl rfl) rfl <| aN 23 16777215 rfl rfl (P_pickF rfl hg2B rfl) rfl <| AJ_done (by kernel_rfl) <| QJ_ent (Ent.trans (t3_ (t3_ (t0_ (t2_ (t2_ (t1_ eR)))))) (OwnQ_mk (v0:=x16.Open_1) (v1:=x16.Open_2) (v2:=x16.Open_3) (v3:=x16.Open_4) (v4:=(some r26.2)) (v5:=x16.T) (v6:=x16.Stale) (v7:=x16.Lost) (h0:=oc18.1) (h1:=oc18.2.1) (h2:=oc18.2.2.1) (h3:=oc18.2.2.2))) <| QJ_then <| CJ_condP rfl bT_dec (fun hg3 => ?_) (fun hg3 => ?_)
       ·
        replace h := ite_t hg3 h
        refine sR <| oA rfl rfl <| nT <| CJ_ret <| QJ_then_ret <| QJ_block_ret <| QJ_then_ret <| QJ_round_ret <| QJ_block_ret <| QJ_then_ret ?_
        have hE := Option.some.inj h
        replace hE := seq_inr hK12 hE.symm
        subst hE
        exact fE (res1 Tryz.results53 rfl) () (t0_ (t0_ (eD eR)))
       ·
        replace h := ite_f hg3 h
        refine kT <| CJ_entX (Ent.transX (t0_ eR) (OwnQ_open (l := { x16 with X := (some r26.2) }))) fun oc28=>lC del4 fun hlen30=>lC del5 fun hlen31=>AJ_startH 4608 (by kernel_rfl) rfl <| aN 0 1 rfl rfl (P_move rfl) rfl <| aN 1 3 rfl rfl (P_move rfl) rfl <| aN 2 7 rfl rfl (P_nilCheck rfl) rfl <| aN 3 15 rfl rfl (P_fieldAddr rfl ⟨_,_,_,Tryz.runUnderlying60,rfl,rfl,Tryz.sizeOf45,rfl⟩) rfl <| aV 4 31 rfl rfl (GY_none rfl) eR (V_load rfl foc0 rfl Tryz.isAgg45) rfl <| aN 5 63 rfl rfl (P_move rfl) rfl <| aN 6 127 rfl rfl (P_move rfl) rfl <| aV 7 255 rfl rfl (GY_none rfl) eR (V_index (i:=x17) rfl rfl rfl (by omega) foc7 (Reads.sl _ _ _) Tryz.runUnderlying45 Tryz.sizeOf3) rfl <| aV 8 511 rfl rfl (GY_none rfl) eR (V_loadE rfl rfl (by omega) foc7 (Reads.sl _ _ _) rfl rfl Tryz.isAgg3) rfl ?_
        obtain ⟨r32,hr33,h⟩ := bind_e h
        refine AJ_op 9 1023 rfl (by kernel_rfl) rfl (GY_none rfl) <| O_call (L_volumegroupmake_add (Reads.sl _ _ _) hr33) rfl Tryz.call48 (Dels.cons del4 Dels.nil) rfl fun X34 _=>⟨fun h=>absurd h (by decide),?_⟩
        refine aN 10 2047 rfl rfl (P_nilCheck rfl) rfl <| aN 11 4095 rfl rfl (P_fieldAddr rfl ⟨_,_,_,Tryz.runUnderlying60,rfl,rfl,Tryz.sizeOf45,rfl⟩) rfl <| AJ_op 12 8191 rfl (by kernel_rfl) rfl (GY_none rfl) <| O_store rfl rfl foc2 rfl rfl Tryz.sizeOf45 <| ⟨fun h=>absurd h (by decide),?_⟩
        refine AJ_done (by kernel_rfl) <| QJ_ent (Ent.trans (t2_ (t2_ (t2_ (t2_ (t1_ (t1_ eR)))))) (OwnQ_mk (v0:=x16.Open_1) (v1:=x16.Open_2) (v2:=x16.Open_3) (v3:=x16.Open_4) (v4:=(some r26.2)) (v5:=x16.T) (v6:=r32) (v7:=x16.Lost) (h0:=oc28.1) (h1:=oc28.2.1) (h2:=X34) (h3:=oc28.2.2.2))) <| QJ_block_normal <| QJ_then <| CJ_region <| oM rfl rfl ?_
        obtain ⟨hg4,h⟩ := grd_Ne h
        exact oP (PJ_eq (P_add (a:=((x17 : Nat) : Int)) (b:=(1 : Int)) rfl rfl (nat_in hg4)) rfl) rfl <| oA rfl rfl <| RJ_nil <| nR ⟨n,(⟨x16.Open_1,x16.Open_2,x16.Open_3,x16.Open_4,(some r26.2),x16.T,r32,x16.Lost⟩ : OwnS),(x17 + 1)⟩ h ⟨rfl,True.intro⟩ (t0_ (t1_ (t1_ (eD eR))))
    ·
     replace h := ite_f hg1 h
     exact CJ_exit <| QJ_then_exit <| QJ_round_exit <| QJ_block_here <| cR x16 (Option.some.inj h).symm True.intro eR
  ·
   rintro a15 hy36
   replace h := seq_inl hK12 hy36
   show CJ _ _ _ _ _ (([] : Slots) ++ forget _ _) (OwnQ bs vlo bo a15::_)
   refine sR <| oM rfl rfl <| oV (V_len rfl foc2 (Reads.sl _ _ _) Tryz.runUnderlying45) rfl <| oP (P_gtr (a:=((r7.length : Nat) : Int)) (b:=(0 : Int)) rfl rfl) rfl <| oA rfl rfl <| nT <| CJ_ret ?_
   cases h
   exact fE (res1 Tryz.results53 rfl) () (t0_ (t0_ (eD eR)))
theorem LQ_volumegroupmake_Owner_Read {W : World} {bo : Nat} {vlo : Nat} {bs : Nat} {o : OwnS} {at_1 : Int} {settled : Bool} {s : ArrS} {r : Int × Bool × OwnS × ArrS} (h : volumegroupmake_Owner_Read o at_1 settled s=some r) :
    CSpec Tryz.prog W 50 [ptr bo 0,.int .i64 at_1,.bool settled] [OwnQ bs vlo bo o,Arr bs s] (fun x : Unit => .tuple #[.int .i64 r.1,.bool r.2.1]) (fun _=>True) (fun x F=>OwnQ bs vlo bo r.2.2.1::Arr bs r.2.2.2::F) := by
 refine CSpec.of_body Tryz.func50 rfl Tryz.ntmps50 rfl fun F => ?_
 show CJ _ _ _ _ _ _ (_::_::F)
 unfold volumegroupmake_Owner_Read at h
 refine sR <| oA rfl rfl <| oA rfl rfl <| nT <| CJ_seq <| CJ_entX (Ent.transX (t0_ eR) (OwnQ_open (l:=o))) fun oc1=>lC del4 fun hlen3=>lC del5 fun hlen4=>CJ_region <| oM rfl rfl <| oP (P_nilCheck rfl) rfl <| oP (P_fieldAddr rfl ⟨_,_,_,Tryz.runUnderlying60,rfl,rfl,Tryz.sizeOf57,rfl⟩) rfl <| oV (V_load rfl foc0 rfl Tryz.isAgg57) rfl <| oM rfl rfl ?_
 rcases opt_e h with ⟨ht5,h⟩ | ⟨o6,ht5,h⟩
 ·
  rw [ht5]
  exact RJ_ent (t0_ (t0_ (t1_ (t1_ (t1_ (t1_ (eD eR))))))) <| none_e h
 ·
  rw [ht5]
  refine RJ_ent (Ent.takeC (A' := MirP bs vlo o6) del2 rfl eR) ?_
  obtain ⟨r7,hr8,h⟩ := bind_e h
  refine oO <| O_callI rfl (ICall.of (fun w=>by kernel_rfl) Tryz.call41 (L_mirror_Mirror_Read hr8)) rfl (Dels.cons del0 (Dels.cons del5 Dels.nil)) rfl fun _ _=>oM rfl rfl <| oP (P_extract rfl rfl) rfl <| oP (P_extract rfl rfl) rfl <| oA rfl rfl <| oA rfl rfl <| RJ_nil <| QJ_ent (Ent.trans (t2_ (t2_ (t0_ (t1_ (t1_ (t1_ eR)))))) (OwnQ_mk (v0:=o.Open_1) (v1:=o.Open_2) (v2:=o.Open_3) (v3:=o.Open_4) (v4:=(some r7.2.2.1)) (v5:=o.T) (v6:=o.Stale) (v7:=o.Lost) (h0:=oc1.1) (h1:=oc1.2.1) (h2:=oc1.2.2.1) (h3:=oc1.2.2.2))) <| QJ_then <| CJ_seq <| sR <| oA rfl rfl <| nT ?_
  obtain ⟨y11,hl9,hK10⟩ := seq_e h
  refine CJ_cutT (X:=UInt64 × Int × OwnS × ArrS) [6,7,8,9,10,20,21,22,23,24,25,26,27,28,29,30,31,32,33,34,35,36,37,38,39,40] (fun a16=>([(8,.int .u64 (a16.1.toNat : Int)),(9,.int .i64 a16.2.1)] : Slots)) (fun a16 R=>OwnQ bs vlo bo a16.2.2.1::Arr bs a16.2.2.2::R) (fun a16=>y11 = .inl a16) (Dels.cons del0 (Dels.cons del0 Dels.nil)) ?_ ?_
  ·
   refine CJ_block <| CJ_loopR (X:=Nat × OwnS × ArrS × Nat × UInt64 × Int) [6,7,8,9,10,20,21,22,23,24,25,26,27,28,29,30,31,32,33,34,35,36,37,38,39,40] (fun ⟨n,x17,x18,x19,x20,x21⟩=>([(8,.int .u64 (x20.toNat : Int)),(9,.int .i64 x21),(10,.int .i64 (((x19 : Nat) : Int)))] : Slots)) (fun ⟨n,x17,x18,x19,x20,x21⟩ R=>OwnQ bs vlo bo x17::Arr bs x18::R) (fun ⟨n,x17,x18,x19,x20,x21⟩=>volumegroupmake_Owner_Read_l1 at_1 n x17 x18 x19 x20 x21=some y11) (fun ⟨n,x17,x18,x19,x20,x21⟩=>n) ⟨FUEL, { o with X := (some r7.2.2.1) },r7.2.2.2,0,r7.1,r7.2.1⟩ ?_ ?_ eR ?_
   · exact hl9
   · exact ⟨rfl,rfl,rfl,True.intro⟩
   ·
    rintro ⟨n,x17,x18,x19,x20,x21⟩ h
    cases n with
    | zero=>exact none_e h
    | succ n => ?_
    replace h : volumegroupmake_Owner_Read_l1_b at_1 (volumegroupmake_Owner_Read_l1 at_1 n) x17 x18 x19 x20 x21=some y11 := h
    unfold volumegroupmake_Owner_Read_l1_b at h
    show CJ _ _ _ _ _ (([(8,.int .u64 (x20.toNat : Int)),(9,.int .i64 x21),(10,.int .i64 (((x19 : Nat) : Int)))] : Slots) ++ forget _ _) (OwnQ bs vlo bo x17::Arr bs x18::_)
    refine CJ_seq <| sR <| oM rfl rfl <| oP (P_lss (a:=((x19 : Nat) : Int)) (b:=(8 : Int)) rfl rfl) rfl <| oM rfl rfl <| RJ_mbT rfl rfl rfl (fun hG22=>have hP23 : (((x19 : Nat) : Int) < (8 : Int)) := (bT_dec).1 hG22; VJ_P (P_move rfl)) <| RJ_mbT rfl rfl rfl (fun hG24=>have hP25 : (((x19 : Nat) : Int) < (8 : Int)) := (bT_dec).1 hG24; VJ_P (P_eql (a:=x21) (b:=(18 : Int)) (mbx hG24 rfl) rfl)) <| oP (P_pickAnd rfl (fun hh=>mbx hh rfl) rfl) rfl <| nT <| CJ_condP rfl (bT_and bT_dec bT_dec) (fun hg1 => ?_) (fun hg1 => ?_)
    ·
     replace h := ite_t hg1 h
     refine kT <| CJ_seq <| CJ_block <| CJ_seq <| sR <| oM rfl rfl ?_
     obtain ⟨r26,hr27,h⟩ := bind_e h
     refine oO <| O_call (LQ_volumegroupmake_Owner_drop hr27) rfl Tryz.call53 (Dels.cons del0 (Dels.cons del0 Dels.nil)) rfl fun _ _=>oP (P_not rfl) rfl <| nT <| CJ_condP rfl (bT_not Iff.rfl) (fun hg2 => ?_) (fun hg2 => ?_)
     ·
      replace h := ite_t hg2 h
      refine sR <| oM rfl rfl <| oA rfl rfl <| oA rfl rfl <| nT <| CJ_ret <| QJ_then_ret <| QJ_block_ret <| QJ_then_ret <| QJ_round_ret <| QJ_block_ret <| QJ_then_ret ?_
      have hE := Option.some.inj h
      replace hE := seq_inr hK10 hE.symm
      subst hE
      exact fE (res2 Tryz.results50 rfl rfl) () eR
     ·
      replace h := ite_f hg2 h
      refine kT <| CJ_entX (Ent.transX (t0_ eR) (OwnQ_open (l:=r26.2))) fun oc28=>lC del4 fun hlen30=>lC del5 fun hlen31=>CJ_region <| oM rfl rfl <| oP (P_nilCheck rfl) rfl <| oP (P_fieldAddr rfl ⟨_,_,_,Tryz.runUnderlying60,rfl,rfl,Tryz.sizeOf57,rfl⟩) rfl <| oV (V_load rfl foc0 rfl Tryz.isAgg57) rfl <| oM rfl rfl ?_
      rcases opt_e h with ⟨ht32,h⟩ | ⟨o33,ht32,h⟩
      ·
       rw [ht32]
       exact RJ_ent (t0_ (t0_ (t1_ (t1_ (t1_ (t1_ (eD eR))))))) <| none_e h
      ·
       rw [ht32]
       refine RJ_ent (Ent.takeC (A' := MirP bs vlo o33) del2 rfl eR) ?_
       obtain ⟨r34,hr35,h⟩ := bind_e h
       exact oO <| O_callI rfl (ICall.of (fun w=>by kernel_rfl) Tryz.call41 (L_mirror_Mirror_Read hr35)) rfl (Dels.cons del0 (Dels.cons del5 Dels.nil)) rfl fun _ _=>oM rfl rfl <| oP (P_extract rfl rfl) rfl <| oP (P_extract rfl rfl) rfl <| oA rfl rfl <| oA rfl rfl <| RJ_nil <| QJ_ent (Ent.trans (t2_ (t2_ (t0_ (t1_ (t1_ (t1_ eR)))))) (OwnQ_mk (v0:=r26.2.Open_1) (v1:=r26.2.Open_2) (v2:=r26.2.Open_3) (v3:=r26.2.Open_4) (v4:=(some r34.2.2.1)) (v5:=r26.2.T) (v6:=r26.2.Stale) (v7:=r26.2.Lost) (h0:=oc28.1) (h1:=oc28.2.1) (h2:=oc28.2.2.1) (h3:=oc28.2.2.2))) <| QJ_block_normal <| QJ_then <| CJ_region <| oM rfl rfl <| oP (PJ_eq (P_add (a:=((x19 : Nat) : Int)) (b:=(1 : Int)) rfl rfl (by omega)) rfl) rfl <| oA rfl rfl <| RJ_nil <| nR ⟨n, { r26.2 with X := (some r34.2.2.1) },r34.2.2.2,(x19 + 1),r34.1,r34.2.1⟩ h ⟨rfl,rfl,rfl,True.intro⟩ eR
    ·
     replace h := ite_f hg1 h
     exact CJ_exit <| QJ_then_exit <| QJ_round_exit <| QJ_block_here <| cR (x20,x21,x17,x18) (Option.some.inj h).symm ⟨rfl,rfl,True.intro⟩ eR
  ·
   rintro a16 hy36
   replace h := seq_inl hK10 hy36
   show CJ _ _ _ _ _ (([(8,.int .u64 (a16.1.toNat : Int)),(9,.int .i64 a16.2.1)] : Slots) ++ forget _ _) (OwnQ bs vlo bo a16.2.2.1::Arr bs a16.2.2.2::_)
   refine CJ_seq <| sR <| oM rfl rfl <| oP (P_eql (a:=a16.2.1) (b:=(5 : Int)) rfl rfl) rfl <| nT <| CJ_condP rfl bT_dec (fun hg3 => ?_) (fun hg3 => ?_)
   ·
    replace h := ite_t hg3 h
    refine sR <| oM rfl rfl <| oA rfl rfl <| oA rfl rfl <| nT <| CJ_ret <| QJ_then_ret ?_
    cases h
    exact fE (res2 Tryz.results50 rfl rfl) () eR
   ·
    replace h := ite_f hg3 h
    refine kT <| CJ_seq <| CJ_entX (Ent.transX (t0_ eR) (OwnQ_open (l:=a16.2.2.1))) fun oc37=>lC del4 fun hlen39=>lC del5 fun hlen40=>CJ_region <| oM rfl rfl <| oM rfl rfl <| oP (P_eql (a:=a16.2.1) (b:=(0 : Int)) rfl rfl) rfl <| oM rfl rfl <| RJ_splitP 47 rfl bT_dec (fun hg4B hg4 => ?_) (fun hg4B hg4 => ?_)
    ·
     replace h := ite_t hg4 h
     refine gP (GY_yes rfl rfl rfl hg4B) (P_move rfl) rfl <| gP (GY_yes rfl rfl rfl hg4B) (P_nilCheck rfl) rfl <| gP (GY_yes rfl rfl rfl hg4B) (P_fieldAddr rfl ⟨_,_,_,Tryz.runUnderlying60,rfl,rfl,Tryz.sizeOf58,rfl⟩) rfl <| gV (GY_yes rfl rfl rfl hg4B) (V_load rfl foc0 rfl Tryz.isAgg58) rfl <| gP (GY_yes rfl rfl rfl hg4B) (P_move rfl) rfl <| gP (GY_yes rfl rfl rfl hg4B) (P_move rfl) rfl <| gP (GY_yes rfl rfl rfl hg4B) (P_move rfl) rfl ?_
     obtain ⟨hg5,h⟩ := grd_de h
     refine RJ_gy (GY_yes rfl rfl rfl hg4B) <| O_call (c_Reads (smallT_at hg5) (v:=a16.1)) rfl Tryz.call91 (Dels.cons del3 Dels.nil) rfl fun _ _=>oP (P_pickT rfl hg4B rfl) rfl <| oA rfl rfl <| oA rfl rfl <| RJ_nil <| QJ_ent (Ent.trans (t1_ (t1_ (t1_ eR))) (OwnQ_mk (v0:=a16.2.2.1.Open_1) (v1:=a16.2.2.1.Open_2) (v2:=a16.2.2.1.Open_3) (v3:=a16.2.2.1.Open_4) (v4:=a16.2.2.1.X) (v5:=(rdTS a16.2.2.1.T at_1 a16.1 settled)) (v6:=a16.2.2.1.Stale) (v7:=a16.2.2.1.Lost) (h0:=oc37.1) (h1:=oc37.2.1) (h2:=oc37.2.2.1) (h3:=oc37.2.2.2))) <| QJ_then <| CJ_ret ?_
     cases h
     exact fE (res2 Tryz.results50 rfl rfl) () eR
    ·
     replace h := ite_f hg4 h
     refine RJ_gn (GY_no rfl rfl rfl hg4B) rfl rfl <| RJ_gn (GY_no rfl rfl rfl hg4B) rfl rfl <| RJ_gn (GY_no rfl rfl rfl hg4B) rfl rfl <| RJ_gn (GY_no rfl rfl rfl hg4B) rfl rfl <| RJ_gn (GY_no rfl rfl rfl hg4B) rfl rfl <| RJ_gn (GY_no rfl rfl rfl hg4B) rfl rfl <| RJ_gn (GY_no rfl rfl rfl hg4B) rfl rfl <| RJ_gn (GY_no rfl rfl rfl hg4B) rfl rfl <| oP (P_pickF rfl hg4B rfl) rfl <| oA rfl rfl <| oA rfl rfl <| RJ_nil <| QJ_ent (Ent.trans eR (OwnQ_mk (v0:=a16.2.2.1.Open_1) (v1:=a16.2.2.1.Open_2) (v2:=a16.2.2.1.Open_3) (v3:=a16.2.2.1.Open_4) (v4:=a16.2.2.1.X) (v5:=a16.2.2.1.T) (v6:=a16.2.2.1.Stale) (v7:=a16.2.2.1.Lost) (h0:=oc37.1) (h1:=oc37.2.1) (h2:=oc37.2.2.1) (h3:=oc37.2.2.2))) <| QJ_then <| CJ_ret ?_
     cases h
     exact fE (res2 Tryz.results50 rfl rfl) () eR
theorem LQ_volumegroupmake_Owner_All {W : World} {bo : Nat} {vlo : Nat} {bs : Nat} {o : OwnS} {settled : Bool} {s : ArrS} {r : Bool × OwnS × ArrS} (h : volumegroupmake_Owner_All o settled s=some r) :
    CSpec Tryz.prog W 34 [ptr bo 0,.bool settled] [OwnQ bs vlo bo o,Arr bs s] (fun x : Unit => .bool r.1) (fun _=>True) (fun x F=>OwnQ bs vlo bo r.2.1::Arr bs r.2.2::F) := by
 refine CSpec.of_body Tryz.func34 rfl Tryz.ntmps34 rfl fun F => ?_
 show CJ _ _ _ _ _ _ (_::_::F)
 unfold volumegroupmake_Owner_All at h
 refine sR <| oA rfl rfl <| nT <| CJ_seq <| sR <| oA rfl rfl <| nT ?_
 obtain ⟨y3,hl1,hK2⟩ := seq_e h
 refine CJ_cutT (X:=OwnS × ArrS) [4,5,6,7,8,9,10,11,12,13,14,15,16,17,18,19,20,21,22,23,24,25,26,27,28,29,30,31,32] (fun a6=>([] : Slots)) (fun a6 R=>OwnQ bs vlo bo a6.1::Arr bs a6.2::R) (fun a6=>y3 = .inl a6) (Dels.cons del0 (Dels.cons del0 Dels.nil)) ?_ ?_
 ·
  refine CJ_block <| CJ_loopR (X:=Nat × OwnS × ArrS × Nat) [4,5,6,7,8,9,10,11,12,13,14,15,16,17,18,19,20,21,22,23,24,25,26,27,28,29,30,31,32] (fun ⟨n,x7,x8,x9⟩=>([(5,.int .i64 (((x9 : Nat) : Int)))] : Slots)) (fun ⟨n,x7,x8,x9⟩ R=>OwnQ bs vlo bo x7::Arr bs x8::R) (fun ⟨n,x7,x8,x9⟩=>volumegroupmake_Owner_All_l1 settled n x7 x8 x9=some y3) (fun ⟨n,x7,x8,x9⟩=>n) ⟨FUEL,o,s,0⟩ ?_ ?_ eR ?_
  · exact hl1
  · exact ⟨rfl,True.intro⟩
  ·
   rintro ⟨n,x7,x8,x9⟩ h
   cases n with
   | zero=>exact none_e h
   | succ n => ?_
   replace h : volumegroupmake_Owner_All_l1_b settled (volumegroupmake_Owner_All_l1 settled n) x7 x8 x9=some y3 := h
   unfold volumegroupmake_Owner_All_l1_b at h
   show CJ _ _ _ _ _ (([(5,.int .i64 (((x9 : Nat) : Int)))] : Slots) ++ forget _ _) (OwnQ bs vlo bo x7::Arr bs x8::_)
   refine CJ_seq <| CJ_seq <| CJ_entX (Ent.transX (t0_ eR) (OwnQ_open (l:=x7))) fun oc10=>lC del4 fun hlen12=>lC del5 fun hlen13=>CJ_entX (Ent.transX (t3_ eR) Trk_open) fun tc14=>CJ_pur fun hS15=>CJ_region <| oM rfl rfl <| oM rfl rfl <| oP (P_nilCheck rfl) rfl <| oP (P_fieldAddr rfl ⟨_,_,_,Tryz.runUnderlying60,rfl,rfl,Tryz.sizeOf58,rfl⟩) rfl <| oV (V_load rfl foc3 rfl Tryz.isAgg58) rfl <| oP (P_nilCheck rfl) rfl <| oP (P_fieldAddr rfl ⟨_,_,_,Tryz.runUnderlying54,rfl,rfl,Tryz.sizeOf52,rfl⟩) rfl <| oV (V_load rfl foc0 rfl Tryz.isAgg52) rfl <| oV (VJ_eq (V_len rfl foc1 (Reads.sl _ _ _) Tryz.runUnderlying52) (congrArg (fun z : Nat=>Value.int .i64 (z : Int)) hS15.len.symm)) rfl <| oP (P_lss (a:=((x9 : Nat) : Int)) (b:=((x7.T.length : Nat) : Int)) rfl rfl) rfl <| RJ_nil <| QJ_ent (Ent.trans (t0_ (t0_ (t0_ eR))) (Trk_close hS15)) <| QJ_ent (Ent.trans (t1_ (t1_ (t1_ eR))) (OwnQ_mk (v0:=x7.Open_1) (v1:=x7.Open_2) (v2:=x7.Open_3) (v3:=x7.Open_4) (v4:=x7.X) (v5:=x7.T) (v6:=x7.Stale) (v7:=x7.Lost) (h0:=oc10.1) (h1:=oc10.2.1) (h2:=oc10.2.2.1) (h3:=oc10.2.2.2))) <| QJ_then <| CJ_condP rfl bT_dec (fun hg1 => ?_) (fun hg1 => ?_)
   ·
    replace h := ite_t hg1 h
    refine kT <| CJ_seq <| CJ_block <| sR <| oM rfl rfl <| oM rfl rfl <| oM rfl rfl ?_
    obtain ⟨r16,hr17,h⟩ := bind_e h
    refine oO <| O_call (LQ_volumegroupmake_Owner_Read hr17) rfl Tryz.call50 (Dels.cons del0 (Dels.cons del0 Dels.nil)) rfl fun _ _=>oM rfl rfl <| oP (P_extract rfl rfl) rfl <| oP (P_extract rfl rfl) rfl <| oA rfl rfl <| oA rfl rfl <| nT <| sR <| oM rfl rfl <| oP (P_not rfl) rfl <| oM rfl rfl <| RJ_mbF rfl rfl rfl (fun hG18=>have hP19 : ¬ (¬ r16.2.1=true) := nP ((bT_not Iff.rfl)) hG18; VJ_P (P_move rfl)) <| RJ_mbF rfl rfl rfl (fun hG20=>have hP21 : ¬ (¬ r16.2.1=true) := nP ((bT_not Iff.rfl)) hG20; VJ_P (P_neq (a:=r16.1) (b:=(0 : Int)) (mbx hG20 rfl) rfl)) <| oP (P_pickOr rfl rfl (fun hh=>mbx (not_f hh) rfl)) rfl <| nT <| CJ_condP rfl (bT_or (bT_not Iff.rfl) bT_dec) (fun hg2 => ?_) (fun hg2 => ?_)
    ·
     replace h := ite_t hg2 h
     refine sR <| oA rfl rfl <| nT <| CJ_ret <| QJ_block_ret <| QJ_then_ret <| QJ_round_ret <| QJ_block_ret <| QJ_then_ret ?_
     have hE := Option.some.inj h
     replace hE := seq_inr hK2 hE.symm
     subst hE
     exact fE (res1 Tryz.results34 rfl) () eR
    ·
     replace h := ite_f hg2 h
     refine CJ_skip <| QJ_block_normal <| QJ_then <| CJ_region <| oM rfl rfl ?_
     obtain ⟨hg3,h⟩ := grd_Ne h
     exact oP (PJ_eq (P_add (a:=((x9 : Nat) : Int)) (b:=(1 : Int)) rfl rfl (nat_in hg3)) rfl) rfl <| oA rfl rfl <| RJ_nil <| nR ⟨n,r16.2.2.1,r16.2.2.2,(x9 + 1)⟩ h ⟨rfl,True.intro⟩ eR
   ·
    replace h := ite_f hg1 h
    exact CJ_exit <| QJ_then_exit <| QJ_round_exit <| QJ_block_here <| cR (x7,x8) (Option.some.inj h).symm True.intro eR
 ·
  rintro a6 hy22
  replace h := seq_inl hK2 hy22
  show CJ _ _ _ _ _ (([] : Slots) ++ forget _ _) (OwnQ bs vlo bo a6.1::Arr bs a6.2::_)
  refine sR <| oA rfl rfl <| nT <| CJ_ret ?_
  cases h
  exact fE (res1 Tryz.results34 rfl) () eR
end Go.Proofs
set_option linter.unusedSimpArgs false
set_option linter.unusedVariables false
set_option maxRecDepth 20000
set_option maxHeartbeats 4000000
namespace Go.Proofs
open Go.VG
end Go.Proofs
set_option linter.unusedSimpArgs false
set_option linter.unusedVariables false
set_option maxRecDepth 20000
set_option maxHeartbeats 4000000
namespace Go.Proofs
open Go.VG
theorem bld_60_0_1_3 (v0 : (Option Addr)) (v1 : Fn) (v2 : (Array Value)) (v3 : (Array Value)) (v4 : (Option Addr)) : ∀ w,(Instr.build 60 (#[(0,.pointer v0),(1,.func v1 v2 v3),(3,.pointer v4)] : Array (Nat × Value))).run Tryz.prog w = .ok (.agg #[.pointer v0,.func v1 v2 v3,.nilIface,.pointer v4,.slice none 0 0,.slice none 0 0]) w := fun w=>by kernel_rfl
def volumegrouplaw21_setting_owner (s_0_a : ArrS) (s_0_legs : Int) (s_0_size : Int) (s_0_region : Int) (s_0_log : Bool) (words : List UInt64) : Option (OwnS) :=
  grd (decide (words.length≤65536)) <|
  some ((⟨s_0_legs,s_0_size,s_0_region,s_0_log,none,(trkT words),[],[]⟩ : OwnS))
theorem L_volumegrouplaw21_setting_owner {W : World} {bs_0_a : Nat} {Awords : HP} {vwords : Value} {s_0_a : ArrS} {s_0_legs : Int} {s_0_size : Int} {s_0_region : Int} {s_0_log : Bool} {words : List UInt64} {r : OwnS} (rwords : Reads Awords tyU vwords words) (h : volumegrouplaw21_setting_owner s_0_a s_0_legs s_0_size s_0_region s_0_log words=some r) :
    CSpec Tryz.prog W 15 [.agg #[ptr bs_0_a 0,.int .i64 s_0_legs,.int .i64 s_0_size,.int .i64 s_0_region,.bool s_0_log],vwords] [Arr bs_0_a s_0_a,Awords] (fun x : Nat=>ptr x 0) (fun _=>True) (fun x F=>Arr bs_0_a s_0_a::Awords::OwnP bs_0_a x r::F) := by
 refine CSpec.of_body Tryz.func15 rfl Tryz.ntmps15 rfl fun F => ?_
 show CJ _ _ _ _ _ _ (_::_::F)
 unfold volumegrouplaw21_setting_owner at h
 refine CJ_pure (len_of rwords del1) fun hlen1=>sR <| oO <| O_box rfl rfl rfl fun b2=>oA rfl rfl <| nT <| sR <| oP (P_makeFunc rfl rfl) rfl <| oA rfl rfl <| nT <| CJ_seq <| AJ_startH 64 (by kernel_rfl) rfl <| aN 0 1 rfl rfl (P_fieldAddr rfl ⟨_,_,_,Tryz.runUnderlying28,rfl,rfl,Tryz.sizeOf26,rfl⟩) rfl <| aV 1 3 rfl rfl (GY_none rfl) eR (V_load rfl foc0 rfl Tryz.isAgg26) rfl <| aN 2 7 rfl rfl (P_move rfl) rfl <| aN 3 15 rfl rfl (P_move rfl) rfl ?_
 obtain ⟨hg1,h⟩ := grd_de h
 refine AJ_op 4 31 rfl (by kernel_rfl) rfl (GY_none rfl) <| O_call (c_Tracked rwords hg1) rfl Tryz.call47 (Dels.cons del2 Dels.nil) rfl fun X3 _=>⟨fun _=>(t2_ (t2_ (t1_ (eD eR)))),?_⟩
 refine aN 5 63 rfl rfl (P_build rfl (bld_60_0_1_3 _ _ _ _ _)) rfl <| AJ_op 6 127 rfl (by kernel_rfl) rfl (GY_none rfl) <| O_box rfl rfl rfl fun b5=>⟨fun h=>absurd h (by decide),?_⟩
 refine aN 7 255 rfl rfl (P_assign rfl) rfl <| aD <| CJ_ret <| QJ_ent (fun h hh=>sl_nil (t:=tyI) h hh) <| QJ_ent (fun h hh=>sl_nil (t:=tyI) h hh) <| QJ_ent (Ent.trans (t2_ (t4_ (Ent.trans (fun h hh=>optP_none h hh) <| t0_ (t2_ (t1_ eR))))) (OwnP_mk (v0:=s_0_legs) (v1:=s_0_size) (v2:=s_0_region) (v3:=s_0_log) (v4:=none) (v5:=(trkT words)) (v6:=[]) (v7:=[]) (h0:=b2) (h1:=0) (h2:=X3) (h3:=⟨none,0,0⟩) (h4:=⟨none,0,0⟩))) ?_
 cases h
 exact fE (res1 Tryz.results15 rfl) b5 (t2_ (t1_ eR))
def volumegrouplaw21_MirrorTwoLost_l1_b (l : List volumegroupmake_Step) (rec : ArrS→OwnS→Nat→Option ((OwnS × ArrS) ⊕ Bool)) (x34 : ArrS) (x35 : OwnS) (x36 : Nat) : Option ((OwnS × ArrS) ⊕ Bool) :=
  if (((x36 : Nat) : Int) < ((l.length : Nat) : Int)) then
    Option.bind (volumegroupmake_Owner_Step x35 ((l.getD x36 (⟨0,0,0,0⟩ : volumegroupmake_Step))) x34) fun r37 =>
    if (¬ r37.1=true) then
      some (.inr false)
    else
      rec r37.2.2 r37.2.1 (x36 + 1)
  else
    some (.inl (x35,x34))
def volumegrouplaw21_MirrorTwoLost_l1 (l : List volumegroupmake_Step) : Nat→ArrS→OwnS→Nat→Option ((OwnS × ArrS) ⊕ Bool)
  | 0,_,_,_=>none
  | n + 1,x34,x35,x36=>volumegrouplaw21_MirrorTwoLost_l1_b l (volumegrouplaw21_MirrorTwoLost_l1 l n) x34 x35 x36
def volumegrouplaw21_MirrorTwoLost_l2_b (m : List volumegroupmake_Step) (rec : ArrS→OwnS→Nat→Option ((OwnS × ArrS) ⊕ Bool)) (x70 : ArrS) (x71 : OwnS) (x72 : Nat) : Option ((OwnS × ArrS) ⊕ Bool) :=
  if (((x72 : Nat) : Int) < ((m.length : Nat) : Int)) then
    if (((m.getD x72 (⟨0,0,0,0⟩ : volumegroupmake_Step))).Kind < (3 : Int)) then
      Option.bind (volumegroupmake_Owner_Step x71 ((m.getD x72 (⟨0,0,0,0⟩ : volumegroupmake_Step))) x70) fun r73 =>
      if (¬ r73.1=true) then
        some (.inr false)
      else
        rec r73.2.2 r73.2.1 (x72 + 1)
    else
      rec x70 x71 (x72 + 1)
  else
    some (.inl (x71,x70))
def volumegrouplaw21_MirrorTwoLost_l2 (m : List volumegroupmake_Step) : Nat→ArrS→OwnS→Nat→Option ((OwnS × ArrS) ⊕ Bool)
  | 0,_,_,_=>none
  | n + 1,x70,x71,x72=>volumegrouplaw21_MirrorTwoLost_l2_b m (volumegrouplaw21_MirrorTwoLost_l2 m n) x70 x71 x72
def volumegrouplaw21_MirrorTwoLost_l3_b (m : List volumegroupmake_Step) (rec : ArrS→OwnS→Nat→Option ((OwnS × ArrS) ⊕ Bool)) (x108 : ArrS) (x109 : OwnS) (x110 : Nat) : Option ((OwnS × ArrS) ⊕ Bool) :=
  if (((x110 : Nat) : Int) < ((m.length : Nat) : Int)) then
    if (((m.getD x110 (⟨0,0,0,0⟩ : volumegroupmake_Step))).Kind < (3 : Int)) then
      Option.bind (volumegroupmake_Owner_Step x109 ((m.getD x110 (⟨0,0,0,0⟩ : volumegroupmake_Step))) x108) fun r111 =>
      if (¬ r111.1=true) then
        some (.inr false)
      else
        rec r111.2.2 r111.2.1 (x110 + 1)
    else
      rec x108 x109 (x110 + 1)
  else
    some (.inl (x109,x108))
def volumegrouplaw21_MirrorTwoLost_l3 (m : List volumegroupmake_Step) : Nat→ArrS→OwnS→Nat→Option ((OwnS × ArrS) ⊕ Bool)
  | 0,_,_,_=>none
  | n + 1,x108,x109,x110=>volumegrouplaw21_MirrorTwoLost_l3_b m (volumegrouplaw21_MirrorTwoLost_l3 m n) x108 x109 x110
def volumegrouplaw21_MirrorTwoLost (n_0 : UInt8) (l : List volumegroupmake_Step) (m : List volumegroupmake_Step) (first : UInt8) (second : UInt8) : Option (Bool) :=
  Option.bind (volumegroupmake_Few l) fun r3 =>
  if (¬ r3=true) then
    Option.bind (volumegrouplaw21_awake) fun r5 =>
    some r5
  else
    Option.bind (volumegroupmake_Few m) fun r7 =>
    if (¬ r7=true) then
      Option.bind (volumegrouplaw21_awake) fun r9 =>
      some r9
    else
      Option.bind (volumegrouplaw21_begun ((n_0 ||| (1 : UInt8)))) fun r11 =>
      Option.elim r11.1 (
        some false) fun o18 =>
      Option.bind (volumegrouplaw21_setting_owner o18 (((r11.2.1 : Nat) : Int)) (((r11.2.2.1 : Nat) : Int)) (((r11.2.2.2.1 : Nat) : Int)) r11.2.2.2.2.1 r11.2.2.2.2.2) fun r19 =>
      grd (inN64 ((((first % (3 : UInt8))).toNat + 1))) <|
      grd (inN64 (((((first % (3 : UInt8))).toNat + 1) + ((second % (2 : UInt8))).toNat))) <|
      lt (((((first % (3 : UInt8))).toNat + 1) + ((second % (2 : UInt8))).toNat)) fun w23 =>
      Option.bind (volumegroupmake_Owner_Begin r19 o18) fun r24 =>
      if (¬ r24.1=true) then
        some false
      else
        Option.bind (volumegroupmake_Owner_Lose r24.2 (((((first % (3 : UInt8))).toNat : Nat) : Int)) (((((first % (3 : UInt8))).toNat : Nat) : Int)) o18) fun r26 =>
        if (¬ r26.1=true) then
          some false
        else
          seqO (volumegrouplaw21_MirrorTwoLost_l1 l FUEL r26.2.2 r26.2.1 0) fun a33 =>
          grd (inI64 (0 : Int)) <|
          if ({ a33.2 with fuse := ((0 : Int)).toNat }).down=true then
            Option.bind (volumegroupmake_Owner_Power a33.1 (0 : UInt64) ({ a33.2 with fuse := ((0 : Int)).toNat })) fun r40 =>
            if (¬ r40.1=true) then
              some false
            else
              Option.elim r40.2.1.X (
                some false) fun o47 =>
              Option.bind (volumegroupmake_Owner_All ({ r40.2.1 with X := (some o47) }) false r40.2.2) fun r48 =>
              if (¬ r48.1=true) then
                some false
              else
                Option.elim r48.2.1.X (
                  none) fun o55 =>
                Option.bind (mirror_Mirror_Resync o55 (1000 : Int) r48.2.2) fun r56 =>
                if ((r56.2.1≠(0 : Int))∨(r56.1≠(0 : Int))) then
                  some false
                else
                  Option.bind (volumegroupmake_Owner_Lose ({ r48.2.1 with X := (some r56.2.2.1) }) ((((w23 % 3) : Nat) : Int)) ((((w23 % 3) : Nat) : Int)) r56.2.2.2) fun r62 =>
                  if (¬ r62.1=true) then
                    some false
                  else
                    seqO (volumegrouplaw21_MirrorTwoLost_l2 m FUEL r62.2.2 r62.2.1 0) fun a69 =>
                    Option.bind (volumegroupmake_Owner_All a69.1 false a69.2) fun r76 =>
                    if r76.1=true then
                      Option.bind (volumegrouplaw21_awake) fun r78 =>
                      some r78
                    else
                      some false
          else
            Option.elim a33.1.X (
              some false) fun o85 =>
            Option.bind (volumegroupmake_Owner_All ({ a33.1 with X := (some o85) }) false ({ a33.2 with fuse := ((0 : Int)).toNat })) fun r86 =>
            if (¬ r86.1=true) then
              some false
            else
              Option.elim r86.2.1.X (
                none) fun o93 =>
              Option.bind (mirror_Mirror_Resync o93 (1000 : Int) r86.2.2) fun r94 =>
              if ((r94.2.1≠(0 : Int))∨(r94.1≠(0 : Int))) then
                some false
              else
                Option.bind (volumegroupmake_Owner_Lose ({ r86.2.1 with X := (some r94.2.2.1) }) ((((w23 % 3) : Nat) : Int)) ((((w23 % 3) : Nat) : Int)) r94.2.2.2) fun r100 =>
                if (¬ r100.1=true) then
                  some false
                else
                  seqO (volumegrouplaw21_MirrorTwoLost_l3 m FUEL r100.2.2 r100.2.1 0) fun a107 =>
                  Option.bind (volumegroupmake_Owner_All a107.1 false a107.2) fun r114 =>
                  if r114.1=true then
                    Option.bind (volumegrouplaw21_awake) fun r116 =>
                    some r116
                  else
                    some false
theorem L_volumegrouplaw21_MirrorTwoLost {W : World} {Al : HP} {vl : Value} {Am : HP} {vm : Value} {n_0 : UInt8} {l : List volumegroupmake_Step} {m : List volumegroupmake_Step} {first : UInt8} {second : UInt8} {r : Bool} (rl : Reads Al tyvolumegroupmake_Step vl l) (rm : Reads Am tyvolumegroupmake_Step vm m) (h : volumegrouplaw21_MirrorTwoLost n_0 l m first second=some r) :
    CSpec Tryz.prog W 8 [.int .u8 (n_0.toNat : Int),vl,vm,.int .u8 (first.toNat : Int),.int .u8 (second.toNat : Int)] [Al,Am] (fun x : Unit => .bool r) (fun _=>True) (fun x F=>Al::Am::F) := by
 refine CSpec.of_body Tryz.func8 rfl Tryz.ntmps8 rfl fun F => ?_
 show CJ _ _ _ _ _ _ (_::_::F)
 unfold volumegrouplaw21_MirrorTwoLost at h
 refine CJ_pure (len_of rl del0) fun hlen1=>CJ_pure (len_of rm del1) fun hlen2=>sR <| oA rfl rfl <| nT <| CJ_seq <| sR <| oM rfl rfl ?_
 obtain ⟨r3,hr4,h⟩ := bind_e h
 refine oO <| O_call (L_volumegroupmake_Few rl hr4) rfl Tryz.call12 (Dels.cons del0 Dels.nil) rfl fun _ _=>oP (P_not rfl) rfl <| oM rfl rfl <| RJ_splitP 25 rfl (bT_not Iff.rfl) (fun hg1B hg1 => ?_) (fun hg1B hg1 => ?_)
 ·
  replace h := ite_t hg1 h
  refine RJ_gn (GY_no rfl rfl rfl hg1B) rfl rfl <| RJ_gn (GY_no rfl rfl rfl hg1B) rfl rfl <| RJ_gn (GY_no rfl rfl rfl hg1B) rfl rfl <| oP (P_pickT rfl hg1B rfl) rfl <| nT <| CJ_condT rfl rfl <| sR ?_
  obtain ⟨r5,hr6,h⟩ := bind_e h
  refine oO <| O_call (L_volumegrouplaw21_awake hr6) rfl Tryz.call13 Dels.nil rfl fun _ _=>oA rfl rfl <| nT <| CJ_ret <| QJ_then_ret ?_
  cases h
  exact fE (res1 Tryz.results8 rfl) () eR
 ·
  replace h := ite_f hg1 h
  refine gP (GY_yes rfl rfl rfl hg1B) (P_move rfl) rfl ?_
  obtain ⟨r7,hr8,h⟩ := bind_e h
  refine RJ_gy (GY_yes rfl rfl rfl hg1B) <| O_call (L_volumegroupmake_Few rm hr8) rfl Tryz.call12 (Dels.cons del1 Dels.nil) rfl fun _ _=>gP (GY_yes rfl rfl rfl hg1B) (P_not rfl) rfl <| oP (P_pickF rfl hg1B rfl) rfl <| nT <| CJ_condP rfl (bT_not Iff.rfl) (fun hg2 => ?_) (fun hg2 => ?_)
  ·
   replace h := ite_t hg2 h
   refine sR ?_
   obtain ⟨r9,hr10,h⟩ := bind_e h
   refine oO <| O_call (L_volumegrouplaw21_awake hr10) rfl Tryz.call13 Dels.nil rfl fun _ _=>oA rfl rfl <| nT <| CJ_ret <| QJ_then_ret ?_
   cases h
   exact fE (res1 Tryz.results8 rfl) () (t1_ eR)
  ·
   replace h := ite_f hg2 h
   refine kT <| sR <| oM rfl rfl <| oP (P_or_u8 (a:=n_0) (b:=(1 : UInt8)) rfl rfl) rfl ?_
   obtain ⟨r11,hr12,h⟩ := bind_e h
   refine oO <| O_call (L_volumegrouplaw21_begun hr12) rfl Tryz.call14 Dels.nil rfl fun X13 _=>oM rfl rfl <| oP (P_extract rfl rfl) rfl <| oP (P_extract (v:=X13.2) rfl rfl) rfl <| oO <| O_alloc Tryz.zeroValue28 rfl rfl fun b16=>oO <| O_storeN rfl rfl foc0 Tryz.sizeOf28 rfl rfl (by simp only [allOne,oneCell_oval,oneCell_oif,oneCell_oifc,Bool.true_and]; rfl) <| oA rfl rfl <| nT <| CJ_seq <| sR <| oP (P_fieldAddr rfl ⟨_,_,_,Tryz.runUnderlying28,rfl,rfl,Tryz.sizeOf26,rfl⟩) rfl <| oV (V_load rfl foc0 rfl Tryz.isAgg26) rfl ?_
   rcases opt_e h with ⟨ht17,h⟩ | ⟨o18,ht17,h⟩
   ·
    rw [ht17]
    refine RJ_ent (t0_ (t1_ (t1_ (t1_ (eD eR))))) <| oP (P_eqlNN rfl rfl Tryz.underlying26) rfl <| nT <| CJ_condT rfl rfl <| sR <| oA rfl rfl <| nT <| CJ_ret <| QJ_then_ret ?_
    cases h
    exact fE (res1 Tryz.results8 rfl) () (t3_ (t2_ (eD (eD eR))))
   ·
    rw [ht17]
    refine RJ_ent (Ent.takeC (A' := Arr X13.1 o18) del1 rfl eR) <| oP (P_eqlPN rfl rfl Tryz.underlying26) rfl <| nT <| CJ_condF rfl rfl <| kT <| sR <| oV (V_loadN rfl foc1 Tryz.isAgg28 Tryz.sizeOf28 rfl rfl) rfl <| oM rfl rfl ?_
    obtain ⟨r19,hr20,h⟩ := bind_e h
    refine oO <| O_call (L_volumegrouplaw21_setting_owner (Reads.rdp _ _ _) hr20) rfl Tryz.call15 (Dels.cons del0 (Dels.cons del1 Dels.nil)) rfl fun X21 _=>oA rfl rfl <| nT <| sR <| oM rfl rfl <| oP (P_rem_u8 (a:=first) (b:=(3 : UInt8)) rfl rfl (by decide)) rfl <| oP (P_convSame rfl Tryz.runUnderlying5 Tryz.runUnderlying3 (wrap64_u _ (by have h9 := ((first % (3 : UInt8))).toNat_lt; exact (by omega : ((first % (3 : UInt8))).toNat < 9223372036854775808)))) rfl <| oM rfl rfl <| oP (P_rem_u8 (a:=first) (b:=(3 : UInt8)) rfl rfl (by decide)) rfl <| oP (P_convSame rfl Tryz.runUnderlying5 Tryz.runUnderlying3 (wrap64_u _ (by have h9 := ((first % (3 : UInt8))).toNat_lt; exact (by omega : ((first % (3 : UInt8))).toNat < 9223372036854775808)))) rfl ?_
    obtain ⟨hg3,h⟩ := grd_Ne h
    refine oP (PJ_eq (P_add (a:=((((first % (3 : UInt8))).toNat : Nat) : Int)) (b:=(1 : Int)) rfl rfl (nat_in hg3)) rfl) rfl <| oM rfl rfl <| oP (P_rem_u8 (a:=second) (b:=(2 : UInt8)) rfl rfl (by decide)) rfl <| oP (P_convSame rfl Tryz.runUnderlying5 Tryz.runUnderlying3 (wrap64_u _ (by have h9 := ((second % (2 : UInt8))).toNat_lt; exact (by omega : ((second % (2 : UInt8))).toNat < 9223372036854775808)))) rfl ?_
    obtain ⟨hg4,h⟩ := grd_Ne h
    refine oP (PJ_eq (P_add (a:=(((((first % (3 : UInt8))).toNat + 1) : Nat) : Int)) (b:=((((second % (2 : UInt8))).toNat : Nat) : Int)) rfl rfl (nat_in hg4)) rfl) rfl ?_
    obtain ⟨w23,hw23,h⟩ := lt_e h
    first | rw [← hw23] | rw [← (congrArg Int.ofNat hw23).trans (Int.natCast_add _ _)]
    refine oP (PJ_eq (P_rem (a:=((w23 : Nat) : Int)) (b:=(3 : Int)) rfl rfl (by omega)) rfl) rfl <| oA rfl rfl <| oA rfl rfl <| nT <| CJ_seq <| sR <| oM rfl rfl ?_
    obtain ⟨r24,hr25,h⟩ := bind_e h
    refine oO <| O_call (L_volumegroupmake_Owner_Begin hr25) rfl Tryz.call16 (Dels.cons del2 (Dels.cons del0 Dels.nil)) rfl fun _ _=>oP (P_not rfl) rfl <| oM rfl rfl <| RJ_splitP 58 rfl (bT_not Iff.rfl) (fun hg5B hg5 => ?_) (fun hg5B hg5 => ?_)
    ·
     replace h := ite_t hg5 h
     refine RJ_gn (GY_no rfl rfl rfl hg5B) rfl rfl <| RJ_gn (GY_no rfl rfl rfl hg5B) rfl rfl <| RJ_gn (GY_no rfl rfl rfl hg5B) rfl rfl <| RJ_gn (GY_no rfl rfl rfl hg5B) rfl rfl <| RJ_gn (GY_no rfl rfl rfl hg5B) rfl rfl <| oP (P_pickT rfl hg5B rfl) rfl <| nT <| CJ_condT rfl rfl <| sR <| oA rfl rfl <| nT <| CJ_ret <| QJ_then_ret ?_
     cases h
     exact fE (res1 Tryz.results8 rfl) () (t5_ (t4_ (eD (eD (eD (eD eR))))))
    ·
     replace h := ite_f hg5 h
     refine gP (GY_yes rfl rfl rfl hg5B) (P_move rfl) rfl <| gP (GY_yes rfl rfl rfl hg5B) (P_move rfl) rfl <| gP (GY_yes rfl rfl rfl hg5B) (P_move rfl) rfl ?_
     obtain ⟨r26,hr27,h⟩ := bind_e h
     refine RJ_gy (GY_yes rfl rfl rfl hg5B) <| O_call (L_volumegroupmake_Owner_Lose hr27) rfl Tryz.call30 (Dels.cons del0 (Dels.cons del0 Dels.nil)) rfl fun _ _=>gP (GY_yes rfl rfl rfl hg5B) (P_not rfl) rfl <| oP (P_pickF rfl hg5B rfl) rfl <| nT <| CJ_condP rfl (bT_not Iff.rfl) (fun hg6 => ?_) (fun hg6 => ?_)
     ·
      replace h := ite_t hg6 h
      refine sR <| oA rfl rfl <| nT <| CJ_ret <| QJ_then_ret ?_
      cases h
      exact fE (res1 Tryz.results8 rfl) () (t5_ (t4_ (eD (eD (eD (eD eR))))))
     ·
      replace h := ite_f hg6 h
      refine kT <| CJ_seq <| sR <| oA rfl rfl <| nT ?_
      obtain ⟨y30,hl28,hK29⟩ := seq_e h
      refine CJ_cutT (X:=OwnS × ArrS) [10,16,65,66,67,68,69,70,71,72,73,74,75,76,77] (fun a33=>([] : Slots)) (fun a33 R=>OwnP X13.1 X21 a33.1::Arr X13.1 a33.2::R) (fun a33=>y30 = .inl a33) (Dels.cons del0 (Dels.cons del0 Dels.nil)) ?_ ?_
      ·
       refine CJ_block <| CJ_loopR (X:=Nat × ArrS × OwnS × Nat) [10,16,65,66,67,68,69,70,71,72,73,74,75,76,77] (fun ⟨n,x34,x35,x36⟩=>([(16,.int .i64 (((x36 : Nat) : Int)))] : Slots)) (fun ⟨n,x34,x35,x36⟩ R=>Arr X13.1 x34::OwnP X13.1 X21 x35::R) (fun ⟨n,x34,x35,x36⟩=>volumegrouplaw21_MirrorTwoLost_l1 l n x34 x35 x36=some y30) (fun ⟨n,x34,x35,x36⟩=>n) ⟨FUEL,r26.2.2,r26.2.1,0⟩ ?_ ?_ (t1_ eR) ?_
       · exact hl28
       · exact ⟨rfl,True.intro⟩
       ·
        rintro ⟨n,x34,x35,x36⟩ h
        cases n with
        | zero=>exact none_e h
        | succ n => ?_
        replace h : volumegrouplaw21_MirrorTwoLost_l1_b l (volumegrouplaw21_MirrorTwoLost_l1 l n) x34 x35 x36=some y30 := h
        unfold volumegrouplaw21_MirrorTwoLost_l1_b at h
        show CJ _ _ _ _ _ (([(16,.int .i64 (((x36 : Nat) : Int)))] : Slots) ++ forget _ _) (Arr X13.1 x34::OwnP X13.1 X21 x35::_)
        refine CJ_seq <| sR <| oM rfl rfl <| oM rfl rfl <| oV (V_len rfl foc5 rl Tryz.runUnderlying22) rfl <| oP (P_lss (a:=((x36 : Nat) : Int)) (b:=((l.length : Nat) : Int)) rfl rfl) rfl <| nT <| CJ_condP rfl bT_dec (fun hg7 => ?_) (fun hg7 => ?_)
        ·
         replace h := ite_t hg7 h
         refine kT <| CJ_seq <| CJ_block <| sR <| oM rfl rfl <| oM rfl rfl <| oM rfl rfl <| oV (V_index (i:=x36) rfl rfl rfl (by omega) foc5 rl Tryz.runUnderlying22 Tryz.sizeOf37) rfl <| oV (V_loadEN rfl rfl (by omega) foc5 rl rfl rfl Tryz.isAgg37 Tryz.sizeOf37) rfl ?_
         obtain ⟨r37,hr38,h⟩ := bind_e h
         refine oO <| O_call (L_volumegroupmake_Owner_Step hr38) rfl Tryz.call18 (Dels.cons del1 (Dels.cons del0 Dels.nil)) rfl fun _ _=>oP (P_not rfl) rfl <| nT <| CJ_condP rfl (bT_not Iff.rfl) (fun hg8 => ?_) (fun hg8 => ?_)
         ·
          replace h := ite_t hg8 h
          refine sR <| oA rfl rfl <| nT <| CJ_ret <| QJ_block_ret <| QJ_then_ret <| QJ_round_ret <| QJ_block_ret <| QJ_then_ret ?_
          have hE := Option.some.inj h
          replace hE := seq_inr hK29 hE.symm
          subst hE
          exact fE (res1 Tryz.results8 rfl) () (t5_ (t4_ (eD (eD (eD (eD eR))))))
         ·
          replace h := ite_f hg8 h
          exact CJ_skip <| QJ_block_normal <| QJ_then <| CJ_region <| oM rfl rfl <| oP (PJ_eq (P_add (a:=((x36 : Nat) : Int)) (b:=(1 : Int)) rfl rfl (by omega)) rfl) rfl <| oA rfl rfl <| RJ_nil <| nR ⟨n,r37.2.2,r37.2.1,(x36 + 1)⟩ h ⟨rfl,True.intro⟩ (t1_ eR)
        ·
         replace h := ite_f hg7 h
         exact CJ_exit <| QJ_then_exit <| QJ_round_exit <| QJ_block_here <| cR (x35,x34) (Option.some.inj h).symm True.intro (t1_ eR)
      ·
       rintro a33 hy39
       replace h := seq_inl hK29 hy39
       show CJ _ _ _ _ _ (([] : Slots) ++ forget _ _) (OwnP X13.1 X21 a33.1::Arr X13.1 a33.2::_)
       refine sR <| oP (P_fieldAddr rfl ⟨_,_,_,Tryz.runUnderlying28,rfl,rfl,Tryz.sizeOf26,rfl⟩) rfl <| oV (V_load rfl foc3 rfl Tryz.isAgg26) rfl ?_
       obtain ⟨hg9,h⟩ := grd_Ie h
       refine oO <| O_call (c_FuseD hg9.2) rfl Tryz.call31 (Dels.cons del1 Dels.nil) rfl fun _ _=>nT <| CJ_seq <| sR <| oP (P_fieldAddr rfl ⟨_,_,_,Tryz.runUnderlying28,rfl,rfl,Tryz.sizeOf26,rfl⟩) rfl <| oV (V_load rfl foc3 rfl Tryz.isAgg26) rfl <| oO <| O_call (c_Down) rfl Tryz.call32 (Dels.cons del0 Dels.nil) rfl fun _ _=>oM rfl rfl <| RJ_splitP 84 rfl Iff.rfl (fun hg10B hg10 => ?_) (fun hg10B hg10 => ?_)
       ·
        replace h := ite_t hg10 h
        refine gP (GY_yes rfl rfl rfl hg10B) (P_move rfl) rfl ?_
        obtain ⟨r40,hr41,h⟩ := bind_e h
        refine RJ_gy (GY_yes rfl rfl rfl hg10B) <| O_call (L_volumegroupmake_Owner_Power hr41) rfl Tryz.call33 (Dels.cons del1 (Dels.cons del0 Dels.nil)) rfl fun _ _=>gP (GY_yes rfl rfl rfl hg10B) (P_not rfl) rfl <| oP (P_pickT rfl hg10B rfl) rfl <| nT <| CJ_condP rfl (bT_not Iff.rfl) (fun hg11 => ?_) (fun hg11 => ?_)
        ·
         replace h := ite_t hg11 h
         refine sR <| oA rfl rfl <| nT <| CJ_ret <| QJ_then_ret ?_
         cases h
         exact fE (res1 Tryz.results8 rfl) () (t5_ (t4_ (eD (eD (eD (eD eR))))))
        ·
         replace h := ite_f hg11 h
         refine kT <| CJ_seq <| CJ_entX (Ent.transX (t0_ eR) (OwnP_open (l:=r40.2.1))) fun oc42=>lC del4 fun hlen44=>lC del5 fun hlen45=>CJ_region <| oM rfl rfl <| oP (P_nilCheck rfl) rfl <| oP (P_fieldAddr rfl ⟨_,_,_,Tryz.runUnderlying60,rfl,rfl,Tryz.sizeOf57,rfl⟩) rfl <| oV (V_load rfl foc0 rfl Tryz.isAgg57) rfl ?_
         rcases opt_e h with ⟨ht46,h⟩ | ⟨o47,ht46,h⟩
         ·
          rw [ht46]
          refine RJ_ent (t0_ (t0_ (t1_ (t1_ (t1_ (t1_ (t1_ (t1_ (t1_ (t1_ (eD eR))))))))))) <| oP (P_typeAssertN rfl Tryz.underlying41 Tryz.zeroValue41) rfl <| oM rfl rfl <| oP (P_extract rfl rfl) rfl <| oP (P_extract rfl rfl) rfl <| oA rfl rfl <| oA rfl rfl <| RJ_nil <| QJ_ent (Ent.trans (t0_ (t0_ (Ent.trans (fun h hh=>optP_none h hh) <| t0_ eR))) (OwnP_mk (v0:=r40.2.1.Open_1) (v1:=r40.2.1.Open_2) (v2:=r40.2.1.Open_3) (v3:=r40.2.1.Open_4) (v4:=none) (v5:=r40.2.1.T) (v6:=r40.2.1.Stale) (v7:=r40.2.1.Lost) (h0:=oc42.1) (h1:=0) (h2:=oc42.2.2.1) (h3:=oc42.2.2.2.1) (h4:=oc42.2.2.2.2))) <| QJ_then <| CJ_seq <| sR <| oM rfl rfl <| oP (P_not rfl) rfl <| oM rfl rfl <| RJ_gn (GY_no rfl rfl rfl rfl) rfl rfl <| RJ_gn (GY_no rfl rfl rfl rfl) rfl rfl <| RJ_gn (GY_no rfl rfl rfl rfl) rfl rfl <| oP (P_pickT rfl rfl rfl) rfl <| nT <| CJ_condT rfl rfl <| sR <| oA rfl rfl <| nT <| CJ_ret <| QJ_then_ret ?_
          cases h
          exact fE (res1 Tryz.results8 rfl) () (t5_ (t4_ (eD (eD (eD (eD eR))))))
         ·
          rw [ht46]
          refine RJ_ent (Ent.takeC (A' := MirP X13.1 oc42.2.1 o47) del2 rfl eR) <| oP (P_typeAssertT rfl Tryz.underlying41) rfl <| oM rfl rfl <| oP (P_extract rfl rfl) rfl <| oP (P_extract rfl rfl) rfl <| oA rfl rfl <| oA rfl rfl <| RJ_nil <| QJ_ent (t0_ (t0_ (t0_ (t0_ (t0_ (t0_ (t0_ (t2_ (t2_ (eD (eD eR))))))))))) <| QJ_then <| CJ_seq <| sR <| oM rfl rfl <| oP (P_not rfl) rfl <| oM rfl rfl <| gP (GY_yes rfl rfl rfl rfl) (P_move rfl) rfl <| RJ_ent (Ent.trans (t1_ (t1_ eR)) (OwnQ_mk (v0:=r40.2.1.Open_1) (v1:=r40.2.1.Open_2) (v2:=r40.2.1.Open_3) (v3:=r40.2.1.Open_4) (v4:=(some o47)) (v5:=r40.2.1.T) (v6:=r40.2.1.Stale) (v7:=r40.2.1.Lost) (h0:=oc42.1) (h1:=oc42.2.2.1) (h2:=oc42.2.2.2.1) (h3:=oc42.2.2.2.2))) ?_
          obtain ⟨r48,hr49,h⟩ := bind_e h
          refine RJ_gy (GY_yes rfl rfl rfl rfl) <| O_call (LQ_volumegroupmake_Owner_All hr49) rfl Tryz.call34 (Dels.cons del0 (Dels.cons del0 Dels.nil)) rfl fun _ _=>gP (GY_yes rfl rfl rfl rfl) (P_not rfl) rfl <| oP (P_pickF rfl rfl rfl) rfl <| nT <| CJ_condP rfl (bT_not Iff.rfl) (fun hg12 => ?_) (fun hg12 => ?_)
          ·
           replace h := ite_t hg12 h
           refine sR <| oA rfl rfl <| nT <| CJ_ret <| QJ_then_ret ?_
           cases h
           exact fE (res1 Tryz.results8 rfl) () (t3_ (t2_ (eD (eD eR))))
          ·
           replace h := ite_f hg12 h
           refine kT <| sR <| oM rfl rfl <| RJ_entX (Ent.transX (t0_ eR) (OwnQ_open (l:=r48.2.1))) fun oc50=>RJ_pure (len_of (Reads.sl _ _ _) del4) fun hlen52=>RJ_pure (len_of (Reads.sl _ _ _) del5) fun hlen53 => ?_
           rcases opt_e h with ⟨ht54,h⟩ | ⟨o55,ht54,h⟩
           ·
            rw [ht54]
            exact RJ_ent (t0_ (t0_ (t1_ (t1_ (t1_ (t1_ (t1_ (t1_ (eD eR))))))))) <| none_e h
           ·
            rw [ht54]
            refine RJ_ent (Ent.takeC (A' := MirP X13.1 oc42.2.1 o55) del2 rfl eR) ?_
            obtain ⟨r56,hr57,h⟩ := bind_e h
            refine oO <| O_call (L_mirror_Mirror_Resync hr57) rfl Tryz.call27 (Dels.cons del0 (Dels.cons del5 Dels.nil)) rfl fun _ _=>oM rfl rfl <| oP (P_extract rfl rfl) rfl <| oP (P_extract rfl rfl) rfl <| oA rfl rfl <| oA rfl rfl <| nT <| CJ_seq <| sR <| oM rfl rfl <| oP (P_neq (a:=r56.2.1) (b:=(0 : Int)) rfl rfl) rfl <| oM rfl rfl <| RJ_mbF rfl rfl rfl (fun hG58=>have hP59 : ¬ (r56.2.1≠(0 : Int)) := nP (bT_dec) hG58; VJ_P (P_move rfl)) <| RJ_mbF rfl rfl rfl (fun hG60=>have hP61 : ¬ (r56.2.1≠(0 : Int)) := nP (bT_dec) hG60; VJ_P (P_neq (a:=r56.1) (b:=(0 : Int)) (mbx hG60 rfl) rfl)) <| oP (P_pickOr rfl rfl (fun hh=>mbx (not_f hh) rfl)) rfl <| oM rfl rfl <| RJ_splitP 115 rfl (bT_or bT_dec bT_dec) (fun hg13B hg13 => ?_) (fun hg13B hg13 => ?_)
            ·
             replace h := ite_t hg13 h
             refine RJ_gn (GY_no rfl rfl rfl hg13B) rfl rfl <| RJ_gn (GY_no rfl rfl rfl hg13B) rfl rfl <| RJ_gn (GY_no rfl rfl rfl hg13B) rfl rfl <| RJ_gn (GY_no rfl rfl rfl hg13B) rfl rfl <| RJ_gn (GY_no rfl rfl rfl hg13B) rfl rfl <| oP (P_pickT rfl hg13B rfl) rfl <| nT <| CJ_condT rfl rfl <| sR <| oA rfl rfl <| RJ_nil <| QJ_ent (t1_ (t6_ (t6_ (eD (eD (eD (eD (eD (eD eR))))))))) <| QJ_then <| CJ_ret <| QJ_then_ret ?_
             cases h
             exact fE (res1 Tryz.results8 rfl) () (t2_ (t1_ (eD eR)))
            ·
             replace h := ite_f hg13 h
             refine gP (GY_yes rfl rfl rfl hg13B) (P_move rfl) rfl <| gP (GY_yes rfl rfl rfl hg13B) (P_move rfl) rfl <| gP (GY_yes rfl rfl rfl hg13B) (P_move rfl) rfl <| RJ_ent (Ent.trans (t2_ (t2_ (t0_ (t1_ (t1_ (t1_ eR)))))) (OwnP_mk (v0:=r48.2.1.Open_1) (v1:=r48.2.1.Open_2) (v2:=r48.2.1.Open_3) (v3:=r48.2.1.Open_4) (v4:=(some r56.2.2.1)) (v5:=r48.2.1.T) (v6:=r48.2.1.Stale) (v7:=r48.2.1.Lost) (h0:=oc50.1) (h1:=oc42.2.1) (h2:=oc50.2.1) (h3:=oc50.2.2.1) (h4:=oc50.2.2.2))) ?_
             obtain ⟨r62,hr63,h⟩ := bind_e h
             refine RJ_gy (GY_yes rfl rfl rfl hg13B) <| O_call (L_volumegroupmake_Owner_Lose hr63) rfl Tryz.call30 (Dels.cons del0 (Dels.cons del0 Dels.nil)) rfl fun _ _=>gP (GY_yes rfl rfl rfl hg13B) (P_not rfl) rfl <| oP (P_pickF rfl hg13B rfl) rfl <| nT <| CJ_condP rfl (bT_not Iff.rfl) (fun hg14 => ?_) (fun hg14 => ?_)
             ·
              replace h := ite_t hg14 h
              refine sR <| oA rfl rfl <| nT <| CJ_ret <| QJ_then_ret ?_
              cases h
              exact fE (res1 Tryz.results8 rfl) () (t3_ (t2_ (eD (eD eR))))
             ·
              replace h := ite_f hg14 h
              refine kT <| CJ_seq <| sR <| oA rfl rfl <| nT ?_
              obtain ⟨y66,hl64,hK65⟩ := seq_e h
              refine CJ_cutT (X:=OwnS × ArrS) [10,21,122,123,124,125,126,127,128,129,130,131,132,133,134,135,136,137,138,139,140,141,142] (fun a69=>([] : Slots)) (fun a69 R=>OwnP X13.1 X21 a69.1::Arr X13.1 a69.2::R) (fun a69=>y66 = .inl a69) (Dels.cons del0 (Dels.cons del0 Dels.nil)) ?_ ?_
              ·
               refine CJ_block <| CJ_loopR (X:=Nat × ArrS × OwnS × Nat) [10,21,122,123,124,125,126,127,128,129,130,131,132,133,134,135,136,137,138,139,140,141,142] (fun ⟨n,x70,x71,x72⟩=>([(21,.int .i64 (((x72 : Nat) : Int)))] : Slots)) (fun ⟨n,x70,x71,x72⟩ R=>Arr X13.1 x70::OwnP X13.1 X21 x71::R) (fun ⟨n,x70,x71,x72⟩=>volumegrouplaw21_MirrorTwoLost_l2 m n x70 x71 x72=some y66) (fun ⟨n,x70,x71,x72⟩=>n) ⟨FUEL,r62.2.2,r62.2.1,0⟩ ?_ ?_ (t1_ eR) ?_
               · exact hl64
               · exact ⟨rfl,True.intro⟩
               ·
                rintro ⟨n,x70,x71,x72⟩ h
                cases n with
                | zero=>exact none_e h
                | succ n => ?_
                replace h : volumegrouplaw21_MirrorTwoLost_l2_b m (volumegrouplaw21_MirrorTwoLost_l2 m n) x70 x71 x72=some y66 := h
                unfold volumegrouplaw21_MirrorTwoLost_l2_b at h
                show CJ _ _ _ _ _ (([(21,.int .i64 (((x72 : Nat) : Int)))] : Slots) ++ forget _ _) (Arr X13.1 x70::OwnP X13.1 X21 x71::_)
                refine CJ_seq <| sR <| oM rfl rfl <| oM rfl rfl <| oV (V_len rfl foc2 rm Tryz.runUnderlying22) rfl <| oP (P_lss (a:=((x72 : Nat) : Int)) (b:=((m.length : Nat) : Int)) rfl rfl) rfl <| nT <| CJ_condP rfl bT_dec (fun hg15 => ?_) (fun hg15 => ?_)
                ·
                 replace h := ite_t hg15 h
                 refine kT <| CJ_seq <| CJ_block <| sR <| oM rfl rfl <| oM rfl rfl <| oV (V_index (i:=x72) rfl rfl rfl (by omega) foc2 rm Tryz.runUnderlying22 Tryz.sizeOf37) rfl <| oP (P_fieldE rfl ⟨_,_,_,Tryz.runUnderlying37,rfl,rfl,Tryz.sizeOf3,rfl⟩) rfl <| oV (V_loadE rfl rfl (by omega) foc2 rm rfl rfl Tryz.isAgg3) rfl <| oP (P_lss (a:=((m.getD x72 (⟨0,0,0,0⟩ : volumegroupmake_Step))).Kind) (b:=(3 : Int)) rfl rfl) rfl <| oM rfl rfl <| RJ_splitP 134 rfl bT_dec (fun hg16B hg16 => ?_) (fun hg16B hg16 => ?_)
                 ·
                  replace h := ite_t hg16 h
                  refine gP (GY_yes rfl rfl rfl hg16B) (P_move rfl) rfl <| gP (GY_yes rfl rfl rfl hg16B) (P_move rfl) rfl <| gP (GY_yes rfl rfl rfl hg16B) (P_move rfl) rfl <| gV (GY_yes rfl rfl rfl hg16B) (V_index (i:=x72) rfl rfl rfl (by omega) foc2 rm Tryz.runUnderlying22 Tryz.sizeOf37) rfl <| gV (GY_yes rfl rfl rfl hg16B) (V_loadEN rfl rfl (by omega) foc2 rm rfl rfl Tryz.isAgg37 Tryz.sizeOf37) rfl ?_
                  obtain ⟨r73,hr74,h⟩ := bind_e h
                  refine RJ_gy (GY_yes rfl rfl rfl hg16B) <| O_call (L_volumegroupmake_Owner_Step hr74) rfl Tryz.call18 (Dels.cons del1 (Dels.cons del0 Dels.nil)) rfl fun _ _=>gP (GY_yes rfl rfl rfl hg16B) (P_not rfl) rfl <| oP (P_pickT rfl hg16B rfl) rfl <| nT <| CJ_condP rfl (bT_not Iff.rfl) (fun hg17 => ?_) (fun hg17 => ?_)
                  ·
                   replace h := ite_t hg17 h
                   refine sR <| oA rfl rfl <| nT <| CJ_ret <| QJ_block_ret <| QJ_then_ret <| QJ_round_ret <| QJ_block_ret <| QJ_then_ret ?_
                   have hE := Option.some.inj h
                   replace hE := seq_inr hK65 hE.symm
                   subst hE
                   exact fE (res1 Tryz.results8 rfl) () (t3_ (t2_ (eD (eD eR))))
                  ·
                   replace h := ite_f hg17 h
                   exact CJ_skip <| QJ_block_normal <| QJ_then <| CJ_region <| oM rfl rfl <| oP (PJ_eq (P_add (a:=((x72 : Nat) : Int)) (b:=(1 : Int)) rfl rfl (by omega)) rfl) rfl <| oA rfl rfl <| RJ_nil <| nR ⟨n,r73.2.2,r73.2.1,(x72 + 1)⟩ h ⟨rfl,True.intro⟩ (t1_ eR)
                 ·
                  replace h := ite_f hg16 h
                  exact RJ_gn (GY_no rfl rfl rfl hg16B) rfl rfl <| RJ_gn (GY_no rfl rfl rfl hg16B) rfl rfl <| RJ_gn (GY_no rfl rfl rfl hg16B) rfl rfl <| RJ_gn (GY_no rfl rfl rfl hg16B) rfl rfl <| RJ_gn (GY_no rfl rfl rfl hg16B) rfl rfl <| RJ_gn (GY_no rfl rfl rfl hg16B) rfl rfl <| RJ_gn (GY_no rfl rfl rfl hg16B) rfl rfl <| oP (P_pickF rfl hg16B rfl) rfl <| nT <| CJ_condF rfl rfl <| CJ_skip <| QJ_block_normal <| QJ_then <| CJ_region <| oM rfl rfl <| oP (PJ_eq (P_add (a:=((x72 : Nat) : Int)) (b:=(1 : Int)) rfl rfl (by omega)) rfl) rfl <| oA rfl rfl <| RJ_nil <| nR ⟨n,x70,x71,(x72 + 1)⟩ h ⟨rfl,True.intro⟩ eR
                ·
                 replace h := ite_f hg15 h
                 exact CJ_exit <| QJ_then_exit <| QJ_round_exit <| QJ_block_here <| cR (x71,x70) (Option.some.inj h).symm True.intro (t1_ eR)
              ·
               rintro a69 hy75
               replace h := seq_inl hK65 hy75
               show CJ _ _ _ _ _ (([] : Slots) ++ forget _ _) (OwnP X13.1 X21 a69.1::Arr X13.1 a69.2::_)
               refine sR <| oM rfl rfl ?_
               obtain ⟨r76,hr77,h⟩ := bind_e h
               refine oO <| O_call (L_volumegroupmake_Owner_All hr77) rfl Tryz.call34 (Dels.cons del0 (Dels.cons del0 Dels.nil)) rfl fun _ _=>oM rfl rfl <| RJ_splitP 145 rfl Iff.rfl (fun hg18B hg18 => ?_) (fun hg18B hg18 => ?_)
               ·
                replace h := ite_t hg18 h
                obtain ⟨r78,hr79,h⟩ := bind_e h
                refine RJ_gy (GY_yes rfl rfl rfl hg18B) <| O_call (L_volumegrouplaw21_awake hr79) rfl Tryz.call13 Dels.nil rfl fun _ _=>oP (P_pickT rfl hg18B rfl) rfl <| oA rfl rfl <| nT <| CJ_ret ?_
                cases h
                exact fE (res1 Tryz.results8 rfl) () (t3_ (t2_ (eD (eD eR))))
               ·
                replace h := ite_f hg18 h
                refine RJ_gn (GY_no rfl rfl rfl hg18B) rfl rfl <| oP (P_pickF rfl hg18B rfl) rfl <| oA rfl rfl <| nT <| CJ_ret ?_
                cases h
                exact fE (res1 Tryz.results8 rfl) () (t3_ (t2_ (eD (eD eR))))
       ·
        replace h := ite_f hg10 h
        refine RJ_gn (GY_no rfl rfl rfl hg10B) rfl rfl <| RJ_gn (GY_no rfl rfl rfl hg10B) rfl rfl <| RJ_gn (GY_no rfl rfl rfl hg10B) rfl rfl <| oP (P_pickF rfl hg10B rfl) rfl <| nT <| CJ_condF rfl rfl <| kT <| CJ_seq <| CJ_entX (Ent.transX (t1_ eR) (OwnP_open (l:=a33.1))) fun oc80=>lC del4 fun hlen82=>lC del5 fun hlen83=>CJ_region <| oM rfl rfl <| oP (P_nilCheck rfl) rfl <| oP (P_fieldAddr rfl ⟨_,_,_,Tryz.runUnderlying60,rfl,rfl,Tryz.sizeOf57,rfl⟩) rfl <| oV (V_load rfl foc0 rfl Tryz.isAgg57) rfl ?_
        rcases opt_e h with ⟨ht84,h⟩ | ⟨o85,ht84,h⟩
        ·
         rw [ht84]
         refine RJ_ent (t0_ (t0_ (t1_ (t1_ (t1_ (t1_ (t1_ (t1_ (t1_ (t1_ (eD eR))))))))))) <| oP (P_typeAssertN rfl Tryz.underlying41 Tryz.zeroValue41) rfl <| oM rfl rfl <| oP (P_extract rfl rfl) rfl <| oP (P_extract rfl rfl) rfl <| oA rfl rfl <| oA rfl rfl <| RJ_nil <| QJ_ent (Ent.trans (t0_ (t0_ (Ent.trans (fun h hh=>optP_none h hh) <| t0_ eR))) (OwnP_mk (v0:=a33.1.Open_1) (v1:=a33.1.Open_2) (v2:=a33.1.Open_3) (v3:=a33.1.Open_4) (v4:=none) (v5:=a33.1.T) (v6:=a33.1.Stale) (v7:=a33.1.Lost) (h0:=oc80.1) (h1:=0) (h2:=oc80.2.2.1) (h3:=oc80.2.2.2.1) (h4:=oc80.2.2.2.2))) <| QJ_then <| CJ_seq <| sR <| oM rfl rfl <| oP (P_not rfl) rfl <| oM rfl rfl <| RJ_gn (GY_no rfl rfl rfl rfl) rfl rfl <| RJ_gn (GY_no rfl rfl rfl rfl) rfl rfl <| RJ_gn (GY_no rfl rfl rfl rfl) rfl rfl <| oP (P_pickT rfl rfl rfl) rfl <| nT <| CJ_condT rfl rfl <| sR <| oA rfl rfl <| nT <| CJ_ret <| QJ_then_ret ?_
         cases h
         exact fE (res1 Tryz.results8 rfl) () (t5_ (t4_ (eD (eD (eD (eD eR))))))
        ·
         rw [ht84]
         refine RJ_ent (Ent.takeC (A' := MirP X13.1 oc80.2.1 o85) del2 rfl eR) <| oP (P_typeAssertT rfl Tryz.underlying41) rfl <| oM rfl rfl <| oP (P_extract rfl rfl) rfl <| oP (P_extract rfl rfl) rfl <| oA rfl rfl <| oA rfl rfl <| RJ_nil <| QJ_ent (t0_ (t0_ (t0_ (t0_ (t0_ (t0_ (t0_ (t2_ (t2_ (eD (eD eR))))))))))) <| QJ_then <| CJ_seq <| sR <| oM rfl rfl <| oP (P_not rfl) rfl <| oM rfl rfl <| gP (GY_yes rfl rfl rfl rfl) (P_move rfl) rfl <| RJ_ent (Ent.trans (t1_ (t1_ eR)) (OwnQ_mk (v0:=a33.1.Open_1) (v1:=a33.1.Open_2) (v2:=a33.1.Open_3) (v3:=a33.1.Open_4) (v4:=(some o85)) (v5:=a33.1.T) (v6:=a33.1.Stale) (v7:=a33.1.Lost) (h0:=oc80.1) (h1:=oc80.2.2.1) (h2:=oc80.2.2.2.1) (h3:=oc80.2.2.2.2))) ?_
         obtain ⟨r86,hr87,h⟩ := bind_e h
         refine RJ_gy (GY_yes rfl rfl rfl rfl) <| O_call (LQ_volumegroupmake_Owner_All hr87) rfl Tryz.call34 (Dels.cons del0 (Dels.cons del0 Dels.nil)) rfl fun _ _=>gP (GY_yes rfl rfl rfl rfl) (P_not rfl) rfl <| oP (P_pickF rfl rfl rfl) rfl <| nT <| CJ_condP rfl (bT_not Iff.rfl) (fun hg19 => ?_) (fun hg19 => ?_)
         ·
          replace h := ite_t hg19 h
          refine sR <| oA rfl rfl <| nT <| CJ_ret <| QJ_then_ret ?_
          cases h
          exact fE (res1 Tryz.results8 rfl) () (t3_ (t2_ (eD (eD eR))))
         ·
          replace h := ite_f hg19 h
          refine kT <| sR <| oM rfl rfl <| RJ_entX (Ent.transX (t0_ eR) (OwnQ_open (l:=r86.2.1))) fun oc88=>RJ_pure (len_of (Reads.sl _ _ _) del4) fun hlen90=>RJ_pure (len_of (Reads.sl _ _ _) del5) fun hlen91 => ?_
          rcases opt_e h with ⟨ht92,h⟩ | ⟨o93,ht92,h⟩
          ·
           rw [ht92]
           exact RJ_ent (t0_ (t0_ (t1_ (t1_ (t1_ (t1_ (t1_ (t1_ (eD eR))))))))) <| none_e h
          ·
           rw [ht92]
           refine RJ_ent (Ent.takeC (A' := MirP X13.1 oc80.2.1 o93) del2 rfl eR) ?_
           obtain ⟨r94,hr95,h⟩ := bind_e h
           refine oO <| O_call (L_mirror_Mirror_Resync hr95) rfl Tryz.call27 (Dels.cons del0 (Dels.cons del5 Dels.nil)) rfl fun _ _=>oM rfl rfl <| oP (P_extract rfl rfl) rfl <| oP (P_extract rfl rfl) rfl <| oA rfl rfl <| oA rfl rfl <| nT <| CJ_seq <| sR <| oM rfl rfl <| oP (P_neq (a:=r94.2.1) (b:=(0 : Int)) rfl rfl) rfl <| oM rfl rfl <| RJ_mbF rfl rfl rfl (fun hG96=>have hP97 : ¬ (r94.2.1≠(0 : Int)) := nP (bT_dec) hG96; VJ_P (P_move rfl)) <| RJ_mbF rfl rfl rfl (fun hG98=>have hP99 : ¬ (r94.2.1≠(0 : Int)) := nP (bT_dec) hG98; VJ_P (P_neq (a:=r94.1) (b:=(0 : Int)) (mbx hG98 rfl) rfl)) <| oP (P_pickOr rfl rfl (fun hh=>mbx (not_f hh) rfl)) rfl <| oM rfl rfl <| RJ_splitP 115 rfl (bT_or bT_dec bT_dec) (fun hg20B hg20 => ?_) (fun hg20B hg20 => ?_)
           ·
            replace h := ite_t hg20 h
            refine RJ_gn (GY_no rfl rfl rfl hg20B) rfl rfl <| RJ_gn (GY_no rfl rfl rfl hg20B) rfl rfl <| RJ_gn (GY_no rfl rfl rfl hg20B) rfl rfl <| RJ_gn (GY_no rfl rfl rfl hg20B) rfl rfl <| RJ_gn (GY_no rfl rfl rfl hg20B) rfl rfl <| oP (P_pickT rfl hg20B rfl) rfl <| nT <| CJ_condT rfl rfl <| sR <| oA rfl rfl <| RJ_nil <| QJ_ent (t1_ (t6_ (t6_ (eD (eD (eD (eD (eD (eD eR))))))))) <| QJ_then <| CJ_ret <| QJ_then_ret ?_
            cases h
            exact fE (res1 Tryz.results8 rfl) () (t2_ (t1_ (eD eR)))
           ·
            replace h := ite_f hg20 h
            refine gP (GY_yes rfl rfl rfl hg20B) (P_move rfl) rfl <| gP (GY_yes rfl rfl rfl hg20B) (P_move rfl) rfl <| gP (GY_yes rfl rfl rfl hg20B) (P_move rfl) rfl <| RJ_ent (Ent.trans (t2_ (t2_ (t0_ (t1_ (t1_ (t1_ eR)))))) (OwnP_mk (v0:=r86.2.1.Open_1) (v1:=r86.2.1.Open_2) (v2:=r86.2.1.Open_3) (v3:=r86.2.1.Open_4) (v4:=(some r94.2.2.1)) (v5:=r86.2.1.T) (v6:=r86.2.1.Stale) (v7:=r86.2.1.Lost) (h0:=oc88.1) (h1:=oc80.2.1) (h2:=oc88.2.1) (h3:=oc88.2.2.1) (h4:=oc88.2.2.2))) ?_
            obtain ⟨r100,hr101,h⟩ := bind_e h
            refine RJ_gy (GY_yes rfl rfl rfl hg20B) <| O_call (L_volumegroupmake_Owner_Lose hr101) rfl Tryz.call30 (Dels.cons del0 (Dels.cons del0 Dels.nil)) rfl fun _ _=>gP (GY_yes rfl rfl rfl hg20B) (P_not rfl) rfl <| oP (P_pickF rfl hg20B rfl) rfl <| nT <| CJ_condP rfl (bT_not Iff.rfl) (fun hg21 => ?_) (fun hg21 => ?_)
            ·
             replace h := ite_t hg21 h
             refine sR <| oA rfl rfl <| nT <| CJ_ret <| QJ_then_ret ?_
             cases h
             exact fE (res1 Tryz.results8 rfl) () (t3_ (t2_ (eD (eD eR))))
            ·
             replace h := ite_f hg21 h
             refine kT <| CJ_seq <| sR <| oA rfl rfl <| nT ?_
             obtain ⟨y104,hl102,hK103⟩ := seq_e h
             refine CJ_cutT (X:=OwnS × ArrS) [10,21,122,123,124,125,126,127,128,129,130,131,132,133,134,135,136,137,138,139,140,141,142] (fun a107=>([] : Slots)) (fun a107 R=>OwnP X13.1 X21 a107.1::Arr X13.1 a107.2::R) (fun a107=>y104 = .inl a107) (Dels.cons del0 (Dels.cons del0 Dels.nil)) ?_ ?_
             ·
              refine CJ_block <| CJ_loopR (X:=Nat × ArrS × OwnS × Nat) [10,21,122,123,124,125,126,127,128,129,130,131,132,133,134,135,136,137,138,139,140,141,142] (fun ⟨n,x108,x109,x110⟩=>([(21,.int .i64 (((x110 : Nat) : Int)))] : Slots)) (fun ⟨n,x108,x109,x110⟩ R=>Arr X13.1 x108::OwnP X13.1 X21 x109::R) (fun ⟨n,x108,x109,x110⟩=>volumegrouplaw21_MirrorTwoLost_l3 m n x108 x109 x110=some y104) (fun ⟨n,x108,x109,x110⟩=>n) ⟨FUEL,r100.2.2,r100.2.1,0⟩ ?_ ?_ (t1_ eR) ?_
              · exact hl102
              · exact ⟨rfl,True.intro⟩
              ·
               rintro ⟨n,x108,x109,x110⟩ h
               cases n with
               | zero=>exact none_e h
               | succ n => ?_
               replace h : volumegrouplaw21_MirrorTwoLost_l3_b m (volumegrouplaw21_MirrorTwoLost_l3 m n) x108 x109 x110=some y104 := h
               unfold volumegrouplaw21_MirrorTwoLost_l3_b at h
               show CJ _ _ _ _ _ (([(21,.int .i64 (((x110 : Nat) : Int)))] : Slots) ++ forget _ _) (Arr X13.1 x108::OwnP X13.1 X21 x109::_)
               refine CJ_seq <| sR <| oM rfl rfl <| oM rfl rfl <| oV (V_len rfl foc2 rm Tryz.runUnderlying22) rfl <| oP (P_lss (a:=((x110 : Nat) : Int)) (b:=((m.length : Nat) : Int)) rfl rfl) rfl <| nT <| CJ_condP rfl bT_dec (fun hg22 => ?_) (fun hg22 => ?_)
               ·
                replace h := ite_t hg22 h
                refine kT <| CJ_seq <| CJ_block <| sR <| oM rfl rfl <| oM rfl rfl <| oV (V_index (i:=x110) rfl rfl rfl (by omega) foc2 rm Tryz.runUnderlying22 Tryz.sizeOf37) rfl <| oP (P_fieldE rfl ⟨_,_,_,Tryz.runUnderlying37,rfl,rfl,Tryz.sizeOf3,rfl⟩) rfl <| oV (V_loadE rfl rfl (by omega) foc2 rm rfl rfl Tryz.isAgg3) rfl <| oP (P_lss (a:=((m.getD x110 (⟨0,0,0,0⟩ : volumegroupmake_Step))).Kind) (b:=(3 : Int)) rfl rfl) rfl <| oM rfl rfl <| RJ_splitP 134 rfl bT_dec (fun hg23B hg23 => ?_) (fun hg23B hg23 => ?_)
                ·
                 replace h := ite_t hg23 h
                 refine gP (GY_yes rfl rfl rfl hg23B) (P_move rfl) rfl <| gP (GY_yes rfl rfl rfl hg23B) (P_move rfl) rfl <| gP (GY_yes rfl rfl rfl hg23B) (P_move rfl) rfl <| gV (GY_yes rfl rfl rfl hg23B) (V_index (i:=x110) rfl rfl rfl (by omega) foc2 rm Tryz.runUnderlying22 Tryz.sizeOf37) rfl <| gV (GY_yes rfl rfl rfl hg23B) (V_loadEN rfl rfl (by omega) foc2 rm rfl rfl Tryz.isAgg37 Tryz.sizeOf37) rfl ?_
                 obtain ⟨r111,hr112,h⟩ := bind_e h
                 refine RJ_gy (GY_yes rfl rfl rfl hg23B) <| O_call (L_volumegroupmake_Owner_Step hr112) rfl Tryz.call18 (Dels.cons del1 (Dels.cons del0 Dels.nil)) rfl fun _ _=>gP (GY_yes rfl rfl rfl hg23B) (P_not rfl) rfl <| oP (P_pickT rfl hg23B rfl) rfl <| nT <| CJ_condP rfl (bT_not Iff.rfl) (fun hg24 => ?_) (fun hg24 => ?_)
                 ·
                  replace h := ite_t hg24 h
                  refine sR <| oA rfl rfl <| nT <| CJ_ret <| QJ_block_ret <| QJ_then_ret <| QJ_round_ret <| QJ_block_ret <| QJ_then_ret ?_
                  have hE := Option.some.inj h
                  replace hE := seq_inr hK103 hE.symm
                  subst hE
                  exact fE (res1 Tryz.results8 rfl) () (t3_ (t2_ (eD (eD eR))))
                 ·
                  replace h := ite_f hg24 h
                  exact CJ_skip <| QJ_block_normal <| QJ_then <| CJ_region <| oM rfl rfl <| oP (PJ_eq (P_add (a:=((x110 : Nat) : Int)) (b:=(1 : Int)) rfl rfl (by omega)) rfl) rfl <| oA rfl rfl <| RJ_nil <| nR ⟨n,r111.2.2,r111.2.1,(x110 + 1)⟩ h ⟨rfl,True.intro⟩ (t1_ eR)
                ·
                 replace h := ite_f hg23 h
                 exact RJ_gn (GY_no rfl rfl rfl hg23B) rfl rfl <| RJ_gn (GY_no rfl rfl rfl hg23B) rfl rfl <| RJ_gn (GY_no rfl rfl rfl hg23B) rfl rfl <| RJ_gn (GY_no rfl rfl rfl hg23B) rfl rfl <| RJ_gn (GY_no rfl rfl rfl hg23B) rfl rfl <| RJ_gn (GY_no rfl rfl rfl hg23B) rfl rfl <| RJ_gn (GY_no rfl rfl rfl hg23B) rfl rfl <| oP (P_pickF rfl hg23B rfl) rfl <| nT <| CJ_condF rfl rfl <| CJ_skip <| QJ_block_normal <| QJ_then <| CJ_region <| oM rfl rfl <| oP (PJ_eq (P_add (a:=((x110 : Nat) : Int)) (b:=(1 : Int)) rfl rfl (by omega)) rfl) rfl <| oA rfl rfl <| RJ_nil <| nR ⟨n,x108,x109,(x110 + 1)⟩ h ⟨rfl,True.intro⟩ eR
               ·
                replace h := ite_f hg22 h
                exact CJ_exit <| QJ_then_exit <| QJ_round_exit <| QJ_block_here <| cR (x109,x108) (Option.some.inj h).symm True.intro (t1_ eR)
             ·
              rintro a107 hy113
              replace h := seq_inl hK103 hy113
              show CJ _ _ _ _ _ (([] : Slots) ++ forget _ _) (OwnP X13.1 X21 a107.1::Arr X13.1 a107.2::_)
              refine sR <| oM rfl rfl ?_
              obtain ⟨r114,hr115,h⟩ := bind_e h
              refine oO <| O_call (L_volumegroupmake_Owner_All hr115) rfl Tryz.call34 (Dels.cons del0 (Dels.cons del0 Dels.nil)) rfl fun _ _=>oM rfl rfl <| RJ_splitP 145 rfl Iff.rfl (fun hg25B hg25 => ?_) (fun hg25B hg25 => ?_)
              ·
               replace h := ite_t hg25 h
               obtain ⟨r116,hr117,h⟩ := bind_e h
               refine RJ_gy (GY_yes rfl rfl rfl hg25B) <| O_call (L_volumegrouplaw21_awake hr117) rfl Tryz.call13 Dels.nil rfl fun _ _=>oP (P_pickT rfl hg25B rfl) rfl <| oA rfl rfl <| nT <| CJ_ret ?_
               cases h
               exact fE (res1 Tryz.results8 rfl) () (t3_ (t2_ (eD (eD eR))))
              ·
               replace h := ite_f hg25 h
               refine RJ_gn (GY_no rfl rfl rfl hg25B) rfl rfl <| oP (P_pickF rfl hg25B rfl) rfl <| oA rfl rfl <| nT <| CJ_ret ?_
               cases h
               exact fE (res1 Tryz.results8 rfl) () (t3_ (t2_ (eD (eD eR))))
end Go.Proofs
namespace Go.Proofs
open Go.VG
section
variable {C : MC} {ws : List UInt64}
theorem owner_eq {s : ArrS} (hw : ws.length=C.sz) : volumegrouplaw21_setting_owner s (C.L : Int) (C.sz : Int) (C.rg : Int) C.lg ws=some (own0 C ws) := by
  have := C.hs
  unfold volumegrouplaw21_setting_owner
  rw [grd_t (decide_eq_true (by omega))]; rfl
theorem or1 (n : UInt8) : (CM (n ||| 1)).L=3 := by
  have h : ((n ||| 1) % 2).toNat=1 := by
    rw [UInt8.toNat_mod,UInt8.toNat_or]
    have := Nat.or_mod_two_pow (a:=n.toNat) (b:=1) (n:=1)
    simp only [Nat.pow_one] at this
    show (n.toNat ||| 1) % 2=1
    rw [this]
    have h2 : n.toNat % 2=0∨n.toNat % 2=1 := by omega
    rcases h2 with h2 | h2 <;> rw [h2] <;> rfl
  show 2 + ((n ||| 1) % 2).toNat=3
  rw [h]
theorem two_l1 {l : List volumegroupmake_Step} (hl : l.length≤24) {lv : LV} : ∀ (N i : Nat) (o : OwnS) (m : MirS) (s : ArrS),l.length - i < N→i≤l.length→UP C (1000 + 1200 * i) lv s o m (fun _=>False)→NF m→m.copied=0 →
    ∃ o' m' s',volumegrouplaw21_MirrorTwoLost_l1 l N s o i=some (.inl (o',s'))∧UP C 30000 lv s' o' m' (fun _=>False)∧NF m' ∧ m'.copied=0
  | 0,_,_,_,_,h,_,_,_,_=>absurd h (by omega)
  | N + 1,i,o,m,s,h,hi,hu,hnf,hcp=>by
    have hun : volumegrouplaw21_MirrorTwoLost_l1 l (N + 1) s o i=volumegrouplaw21_MirrorTwoLost_l1_b l (volumegrouplaw21_MirrorTwoLost_l1 l N) s o i := rfl
    rw [hun]
    unfold volumegrouplaw21_MirrorTwoLost_l1_b
    by_cases hlt : i < l.length
    · rw [if_pos (by omega)]
      obtain ⟨o2,m2,s2,g1,g2,g3,g4⟩ := ostep hu hnf (by omega) (l.getD i ⟨0,0,0,0⟩)
      rw [g1]; simp only [Option.bind_some]
      rw [if_neg (by simp)]
      exact two_l1 hl N (i + 1) o2 m2 s2 (by omega) (by omega) (g2.mono (by omega)) g3 (g4 hcp)
    · rw [if_neg (by omega)]
      exact ⟨o,m,s,rfl,hu.mono (by omega),hnf,hcp⟩
theorem two_l3 {l : List volumegroupmake_Step} (hl : l.length≤24) {lv : LV} : ∀ (N i : Nat) (o : OwnS) (m : MirS) (s : ArrS),l.length - i < N→i≤l.length→UP C (31000 + 80 * i) lv s o m (fun _=>False)→NF m→s.fuse=0 →
    ∃ o' m' s',volumegrouplaw21_MirrorTwoLost_l3 l N s o i=some (.inl (o',s'))∧UP C 35000 lv s' o' m' (fun _=>False)∧NF m'
  | 0,_,_,_,_,h,_,_,_,_=>absurd h (by omega)
  | N + 1,i,o,m,s,h,hi,hu,hnf,hf=>by
    have hun : volumegrouplaw21_MirrorTwoLost_l3 l (N + 1) s o i=volumegrouplaw21_MirrorTwoLost_l3_b l (volumegrouplaw21_MirrorTwoLost_l3 l N) s o i := rfl
    rw [hun]
    unfold volumegrouplaw21_MirrorTwoLost_l3_b
    by_cases hlt : i < l.length
    · rw [if_pos (by omega)]
      by_cases hk : (l.getD i ⟨0,0,0,0⟩).Kind < 3
      · obtain ⟨b,o2,m2,s2, -, -, -, -,g1,g2,g3,g4, -⟩ := ostep_q hu hnf (by omega) hf (l.getD i ⟨0,0,0,0⟩) hk
        rw [if_pos hk,g1]; simp only [Option.bind_some]
        rw [if_neg (by simp)]
        exact two_l3 hl N (i + 1) o2 m2 s2 (by omega) (by omega) (g2.mono (by omega)) g3 g4
      · rw [if_neg hk]
        exact two_l3 hl N (i + 1) o m s (by omega) (by omega) (hu.mono (by omega)) hnf hf
    · rw [if_neg (by omega)]
      exact ⟨o,m,s,rfl,hu.mono (by omega),hnf⟩
end
theorem mirrorTwoLost (n_0 : UInt8) (l : List volumegroupmake_Step) (m : List volumegroupmake_Step) (first : UInt8) (second : UInt8) : volumegrouplaw21_MirrorTwoLost n_0 l m first second=some true := by
  unfold volumegrouplaw21_MirrorTwoLost
  rw [few_eq]; simp only [Option.bind_some]
  by_cases hl : l.length≤24
  · rw [if_neg (by simpa using hl),few_eq]; simp only [Option.bind_some]
    by_cases hm : m.length≤24
    · rw [if_neg (by simpa using hm)]
      obtain ⟨a0,b1,b2⟩ := begun_eq (n_0 ||| 1)
      have hC3 := or1 n_0
      rw [b1]; simp only [Option.bind_some,Option.elim_some]
      generalize CM (n_0 ||| 1)=C at b2 hC3 ⊢
      have hs := C.hs
      have hF := fuel_big
      rw [owner_eq b2.wl]; simp only [Option.bind_some]
      have hx : (first % 3).toNat < 3 := by rw [UInt8.toNat_mod]; exact Nat.mod_lt _ (by decide)
      have hy : (second % 2).toNat < 2 := by rw [UInt8.toNat_mod]; exact Nat.mod_lt _ (by decide)
      generalize (first % 3).toNat=x at hx ⊢
      generalize (second % 2).toNat=y at hy ⊢
      rw [grd_t (inN64_of (by omega)),grd_t (inN64_of (by omega))]
      simp only [lt]
      have hex : ∃ i,i < C.L∧(lvA C) i=true := ⟨0,by omega,lvA_leg (by omega)⟩
      obtain ⟨o1,m1,g1,g2,g3,g4, -⟩ := b2.begin b2.oi rfl hex (fun h=>by rw [← lvA_log]; exact h)
      rw [g1]; simp only [Option.bind_some]
      rw [if_neg (by simp)]
      obtain ⟨l1,o2,s2,e1,e2, -,e4,e5, -⟩ := olose g2 (k:=x) (by omega) (by
        by_cases e : x=0
        · exact ⟨1,by omega,lvA_leg (by omega),by omega⟩
        · exact ⟨0,by omega,lvA_leg (by omega),by omega⟩) (fun z=>by omega) (by simp [lvA])
      rw [e1]; simp only [Option.bind_some]
      rw [if_neg (by simp)]
      have hl1 : l1.length≤1 := by simpa [lvA] using e4
      obtain ⟨o3,m3,s3,f1,f2,f3,f4⟩ := two_l1 hl FUEL 0 o2 m1 s2 (by omega) (by omega) e2 g3 g4
      rw [f1,seqO_inl,grd_t (inI64_of (by omega))]
      have f5 := f2.fuse (n:=((0 : Int)).toNat)
      rw [if_neg (by rw [f5.dn]; decide),f2.x]; simp only [Option.elim_some]
      have eX : ({ o3 with X := some m3 } : OwnS)=o3 := setX f2.x
      rw [eX]
      obtain ⟨o4,m4,q1,q2,q3,q4,q5⟩ := oall_x (q:=false) f5 f3 (by omega)
      rw [q1]; simp only [Option.bind_some]
      rw [if_neg (by simp),q2.x]; simp only [Option.elim_some]
      have hcp : m4.copied=0 := q4.trans f4
      have hall : ∀ j,j < C.L→j≠x→(without (lvA C) x l1) j=true := fun j hj hne=>without_t.2 ⟨lvA_leg hj,hne⟩
      -- the resynchronization
      have hres : ∃ m5 s5,mirror_Mirror_Resync m4 (1000 : Int) { s3 with fuse := ((0 : Int)).toNat } = some (0,0,m5,s5)∧UP C 31000 (without (lvA C) x l1) s5 { o4 with X := some m5 } m5 (fun _=>False)∧NF m5∧s5.fuse=0 := by
        by_cases hd : drtyL m4.dirty C.R=[]
        · have := resync_none (s := { s3 with fuse := ((0 : Int)).toNat }) q2.mi q3 hcp hd (n:=1000)
          refine ⟨m4,_,this,?_,q3,rfl⟩
          rw [setX q2.x]; exact q2.mono (by omega)
        · have hag : AG C (without (lvA C) x l1) m4 := by
            obtain ⟨z,zs,hz⟩ := List.exists_cons_of_ne_nil hd
            obtain ⟨r,r1,r2, -⟩ := drtyL_mem (d:=m4.dirty) (n:=C.R) (k:=0) (by rw [hz]; simp)
            exact q5 r r1 r2
          have hv : Val C (without (lvA C) x l1) { s3 with fuse := ((0 : Int)).toNat } (fun b=>(o4.T.getD b s0).value) := fun b hb j hj hlj=>(q2.kn b hb (fun x=>x)).2 j hj hlj
          have hls := lsum_sz (C:=C) (d:=m4.dirty) C.R
          have h0 : cpOk C (drtyL m4.dirty C.R) 0 := cpOk_zero (fun k hk=>by obtain ⟨r,q1, -,q2⟩ := drtyL_mem hk; exact ⟨r,q1,q2⟩)
          obtain ⟨d,c',t,t1,t2,t3,t4,t5,t6⟩ := resync_eq (n:=1000) q2.mi q3 hag hv q2.di.ok q2.dn rfl (by omega) q2.di.ex (by omega) hcp h0
          have e0 : lsum C (drtyL m4.dirty C.R) - 0 - 1000=0 := by omega
          rw [e0] at t1
          have t2' := t2.mono (K' := 31000) (by omega)
          have hmi := (t2'.mi q2.mi).dc (c:=((c' : Nat) : Int)) t3 t4
          exact ⟨_,t,t1,q2.qt t2' (by omega) hmi,q3.dc,t2.fz⟩
      obtain ⟨m5,s5,r1,r2,r3,r4⟩ := hres
      rw [r1]; simp only [Option.bind_some]
      rw [if_neg (by rintro (h | h) <;> exact h rfl)]
      have hb : (x + 1 + y) % 3 < 3∧(x + 1 + y) % 3≠x := by omega
      generalize (x + 1 + y) % 3=b at hb
      obtain ⟨l2,o6,s6,k1,k2, -, -,k5, -⟩ := olose r2 (k:=b) (by omega) (by
        have h3 : ∃ j,j < 3∧j≠x∧j≠b := by
          by_cases h0 : x≠0∧b≠0
          · exact ⟨0,by omega,by omega,by omega⟩
          · by_cases h1 : x≠1∧b≠1
            · exact ⟨1,by omega,by omega,by omega⟩
            · exact ⟨2,by omega,by omega,by omega⟩
        obtain ⟨j,j1,j2,j3⟩ := h3
        exact ⟨j,by omega,hall j (by omega) j2,j3⟩) (fun z=>by omega) (by show l1.length≤8; omega)
      rw [k1]; simp only [Option.bind_some]
      rw [if_neg (by simp)]
      obtain ⟨o7,m7,s7,v1,v2,v3⟩ := two_l3 hm FUEL 0 o6 m5 s6 (by omega) (by omega) (k2.mono (by omega)) r3 (k5.trans r4)
      rw [v1,seqO_inl]
      obtain ⟨o8,w1⟩ := oall_w (q:=false) v2 v3 (by omega)
      rw [w1]; simp only [Option.bind_some]
      rw [if_pos trivial,awake21]; rfl
    · rw [if_pos (by simpa using hm),awake21]; rfl
  · rw [if_pos (by simpa using hl),awake21]; rfl
end Go.Proofs
