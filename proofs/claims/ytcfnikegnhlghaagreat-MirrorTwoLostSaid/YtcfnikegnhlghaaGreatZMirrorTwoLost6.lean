/- MirrorTwoLost, part 6 of the proof: LMir3, PMir0, PMirL, CTrack, LTrk, LTAll, PMirI, PMirR, PMirW, PMirF, PSpansA, LOwnC. -/
import Derived.WalkKit
import Derived.Orders
import Derived.RangeFuncLeaves
import Derived.RangeFuncCalls
import Derived.TacticsIn
import Derived.Handy
import Derived.OrdersHeld
import Derived.OrdersIn
import Derived.Below
import Derived.OpenShut
import Derived.Deep.Slices
import Derived.Scope
import Derived.KernelRfl
import Derived.RangeFuncRecord
import Derived.ChangeKeysEq
import Derived.ProofKit
import Derived.ShutString
import Derived.ChangeOld
import Derived.Test.YtcfnikegnhlghaaGreatChecked
import Derived.Test.YtcfnikegnhlghaaGreatRows
import Derived.Test.YtcfnikegnhlghaaGreatZMirrorTwoLost5
set_option linter.unusedSimpArgs false
set_option linter.unusedVariables false
set_option maxRecDepth 20000
set_option maxHeartbeats 4000000
namespace Go.Proofs
open Go.VG
def mirror_Mirror_Resync_1 (i : Int) (p1 : Int) : Option (Bool) :=
  some ((decide (i≠p1)))
theorem L_mirror_Mirror_Resync_1 {W : World} {bp1 : Nat} {i : Int} {p1 : Int} {r : Bool} (h : mirror_Mirror_Resync_1 i p1=some r) :
    CSpec Tryz.prog W 62 [.int .i64 i,ptr bp1 0] [blk bp1 3 [.int .i64 p1]] (fun x : Unit => .bool r) (fun _=>True) (fun x F=>blk bp1 3 [.int .i64 p1]::F) := by
 refine CSpec.of_body Tryz.func62 rfl Tryz.ntmps62 rfl fun F => ?_
 show CJ _ _ _ _ _ _ (_::F)
 unfold mirror_Mirror_Resync_1 at h
 refine sR <| oA rfl rfl <| nT <| sR <| oM rfl rfl <| oV (V_load rfl foc0 rfl Tryz.isAgg3) rfl <| oP (P_neq (a:=i) (b:=p1) rfl rfl) rfl <| oA rfl rfl <| nT <| CJ_ret ?_
 cases h
 exact fE (res1 Tryz.results62 rfl) () eR
def mirror_Mirror_Resync_2 (i : Int) (p1_v : MirS) (p2 : Int) (p3 : UInt64) (s : ArrS) : Option (Int × ArrS) :=
  grd (decide (0≤i∧i < (p1_v.legs.length : Int))) <|
  Option.bind (Dvc.wr ((p1_v.legs.getD ((i).toNat) mleg_x0).dev) s p2 p3) fun r8 =>
  some (r8.1,r8.2)
theorem L_mirror_Mirror_Resync_2 {W : World} {bp1 : Nat} {bp1_v : Nat} {bp2 : Nat} {bp3 : Nat} {bs : Nat} {i : Int} {p1_v : MirS} {p2 : Int} {p3 : UInt64} {s : ArrS} {r : Int × ArrS} (h : mirror_Mirror_Resync_2 i p1_v p2 p3 s=some r) :
    CSpec Tryz.prog W 63 [.int .i64 i,ptr bp1 0,ptr bp2 0,ptr bp3 0] [blk bp1 41 [ptr bp1_v 0],MirP bs bp1_v p1_v,blk bp2 3 [.int .i64 p2],blk bp3 23 [.int .u64 (p3.toNat : Int)],Arr bs s] (fun x : Unit => .int .i64 r.1) (fun _=>True) (fun x F=>blk bp1 41 [ptr bp1_v 0]::MirP bs bp1_v p1_v::blk bp2 3 [.int .i64 p2]::blk bp3 23 [.int .u64 (p3.toNat : Int)]::Arr bs r.2::F) := by
 refine CSpec.of_body Tryz.func63 rfl Tryz.ntmps63 rfl fun F => ?_
 show CJ _ _ _ _ _ _ (_::_::_::_::_::F)
 unfold mirror_Mirror_Resync_2 at h
 refine sR <| oA rfl rfl <| nT <| CJ_seq <| CJ_entX (Ent.transX (t1_ eR) (MirP_open (l:=p1_v))) fun oc1=>CJ_pure (fun h hh=>Rs_len (stars_perm (del2 (A:=Rs (DevP bs) (p1_v.legs.map mlegS.dev) oc1.2.1)).out h hh)) fun hdl3=>lC del1 fun hlen4 => ?_
 rw [mk_mleg_len (by have := hdl3; simpa using this)] at hlen4
 refine lC del4 fun hlen5=>AJ_startH 1024 (by kernel_rfl) rfl <| aV 0 1 rfl rfl (GY_none rfl) eR (V_load rfl foc5 rfl Tryz.isAgg41) rfl <| aN 1 3 rfl rfl (P_nilCheck rfl) rfl <| aN 2 7 rfl rfl (P_fieldAddr rfl ⟨_,_,_,Tryz.runUnderlying119,rfl,rfl,Tryz.sizeOf115,rfl⟩) rfl <| aV 3 15 rfl rfl (GY_none rfl) eR (V_load rfl foc0 rfl Tryz.isAgg115) rfl <| aN 4 31 rfl rfl (P_move rfl) rfl ?_
 obtain ⟨hg1,h⟩ := grd_de h
 refine aV 5 63 rfl rfl (GY_none rfl) eR (V_index (i:=(i).toNat) rfl rfl (Int.toNat_of_nonneg (hg1.1)).symm (show (i).toNat < (mk_mleg p1_v.legs oc1.2.1).length by rw [mk_mleg_len (by have := hdl3; simpa using this)]; exact (by omega)) foc1 (Reads.sl _ _ _) Tryz.runUnderlying115 Tryz.sizeOf129) rfl <| aN 6 127 rfl rfl (P_fieldE rfl ⟨_,_,_,Tryz.runUnderlying129,rfl,rfl,Tryz.sizeOf96,rfl⟩) rfl <| AJ_ent (Ent.trans (t2_ eR) (mk_mleg_rs (i:=(i).toNat) (by omega))) <| aV 7 255 rfl rfl (GY_none rfl) (t2_ (t2_ (t1_ (t1_ (t1_ (t1_ (t1_ (t1_ (t1_ (eD eR)))))))))) (VJ_eq (V_loadE rfl rfl (show (i).toNat < (mk_mleg p1_v.legs oc1.2.1).length by rw [mk_mleg_len (by have := hdl3; simpa using this)]; exact (by omega)) foc1 (Reads.sl _ _ _) rfl rfl Tryz.isAgg96) (show (IfH.v ((oc1.2.1.getD ((i).toNat) tyDev.dflt)) : Value)=IfH.v ((mk_mleg p1_v.legs oc1.2.1).getD ((i).toNat) mleg_h0).dev from by rw [mk_mleg_at (by have := hdl3; simpa using this)])) rfl <| aV 8 511 rfl rfl (GY_none rfl) (t2_ (t2_ (t1_ (t1_ (t1_ (t1_ (t1_ (t1_ (t1_ (eD eR)))))))))) (V_load rfl foc6 rfl Tryz.isAgg3) rfl ?_
 refine aV 9 1023 rfl rfl (GY_none rfl) (t2_ (t2_ (t1_ (t1_ (t1_ (t1_ (t1_ (t1_ (t1_ (eD eR)))))))))) (V_load rfl foc7 rfl Tryz.isAgg23) rfl <| AJ_pure (fun h hh=>DevP_dep h (stars_perm (del0 (A:=DevP bs ((p1_v.legs.getD ((i).toNat) mleg_x0).dev) ((oc1.2.1.getD ((i).toNat) tyDev.dflt)))).out h hh)) fun hdp7 => ?_
 obtain ⟨r8,hr9,h⟩ := bind_e h
 refine AJ_op 10 2047 rfl (by kernel_rfl) rfl (GY_none rfl) <| O_callI rfl (dev_Write hr9 hdp7) rfl (Dels.cons del0 (Dels.cons del8 Dels.nil)) rfl fun _ _=>⟨fun h=>absurd h (by decide),?_⟩
 refine aN 11 4095 rfl rfl (P_assign rfl) rfl <| AJ_done (by kernel_rfl) <| QJ_ent (Ent.trans (t3_ (t3_ (t2_ (t2_ (t2_ eR))))) (MirP_mk (v0:=p1_v.legs) (v1:=p1_v.log) (v2:=p1_v.hasLog) (v3:=p1_v.logState) (v4:=p1_v.size) (v5:=p1_v.region) (v6:=p1_v.dirty) (v7:=p1_v.copied) (h0:=oc1.1) (h1:=oc1.2.1) (h2:=oc1.2.2.1) (h3:=oc1.2.2.2))) <| QJ_then <| CJ_ret ?_
 cases h
 exact fE (res1 Tryz.results63 rfl) () (t3_ (t0_ (t2_ (t2_ (t1_ (eD eR))))))
def mirror_Mirror_each__mirror_Mirror_Resync_1_l1_b (m : MirS) (choose_c0 : Int) (do_2_c1 : Int) (do_2_c2 : UInt64) (rec : MirS→ArrS→Nat→Option ((MirS × ArrS) ⊕ (Int × MirS × ArrS))) (x12 : MirS) (x13 : ArrS) (x14 : Nat) : Option ((MirS × ArrS) ⊕ (Int × MirS × ArrS)) :=
  if (((x14 : Nat) : Int) < ((m.legs.length : Nat) : Int)) then
    grd (decide (x14 < x12.legs.length)) <|
    if ((x12.legs.getD x14 mleg_x0).state=(0 : Int)) then
      Option.bind (mirror_Mirror_Resync_1 (((x14 : Nat) : Int)) choose_c0) fun r20 =>
      if r20=true then
        Option.bind (mirror_Mirror_Resync_2 (((x14 : Nat) : Int)) x12 do_2_c1 do_2_c2 x13) fun r22 =>
        Option.bind (mirror_Mirror_note x12 (((x14 : Nat) : Int)) r22.1 r22.2) fun r24 =>
        if (r24.1≠(0 : Int)) then
          some (.inr (r24.1,r24.2,r22.2))
        else
          rec r24.2 r22.2 (x14 + 1)
      else
        rec x12 x13 (x14 + 1)
    else
      rec x12 x13 (x14 + 1)
  else
    some (.inl (x12,x13))
def mirror_Mirror_each__mirror_Mirror_Resync_1_l1 (m : MirS) (choose_c0 : Int) (do_2_c1 : Int) (do_2_c2 : UInt64) : Nat→MirS→ArrS→Nat→Option ((MirS × ArrS) ⊕ (Int × MirS × ArrS))
  | 0,_,_,_=>none
  | n + 1,x12,x13,x14=>mirror_Mirror_each__mirror_Mirror_Resync_1_l1_b m choose_c0 do_2_c1 do_2_c2 (mirror_Mirror_each__mirror_Mirror_Resync_1_l1 m choose_c0 do_2_c1 do_2_c2 n) x12 x13 x14
def mirror_Mirror_each__mirror_Mirror_Resync_1 (m : MirS) (choose_c0 : Int) (do_2_c1 : Int) (do_2_c2 : UInt64) (s : ArrS) : Option (Int × MirS × ArrS) :=
  seqO (mirror_Mirror_each__mirror_Mirror_Resync_1_l1 m choose_c0 do_2_c1 do_2_c2 FUEL m s 0) fun a11 =>
  Option.bind (mirror_Mirror_result a11.1 a11.2) fun r27 =>
  some (r27,a11.1,a11.2)
theorem L_mirror_Mirror_each__mirror_Mirror_Resync_1 {W : World} {bm : Nat} {bchoose_c0 : Nat} {bdo_2_c0 : Nat} {bdo_2_c1 : Nat} {bdo_2_c2 : Nat} {bs : Nat} {m : MirS} {choose_c0 : Int} {do_2_c1 : Int} {do_2_c2 : UInt64} {s : ArrS} {r : Int × MirS × ArrS} (h : mirror_Mirror_each__mirror_Mirror_Resync_1 m choose_c0 do_2_c1 do_2_c2 s=some r) :
    CSpec Tryz.prog W 61 [ptr bm 0,.func (.func 62) #[] #[ptr bchoose_c0 0],.func (.func 63) #[] #[ptr bdo_2_c0 0,ptr bdo_2_c1 0,ptr bdo_2_c2 0]] [MirP bs bm m,blk bchoose_c0 3 [.int .i64 choose_c0],blk bdo_2_c0 41 [ptr bm 0],blk bdo_2_c1 3 [.int .i64 do_2_c1],blk bdo_2_c2 23 [.int .u64 (do_2_c2.toNat : Int)],Arr bs s] (fun x : Unit => .int .i64 r.1) (fun _=>True) (fun x F=>MirP bs bm r.2.1::blk bchoose_c0 3 [.int .i64 choose_c0]::blk bdo_2_c0 41 [ptr bm 0]::blk bdo_2_c1 3 [.int .i64 do_2_c1]::blk bdo_2_c2 23 [.int .u64 (do_2_c2.toNat : Int)]::Arr bs r.2.2::F) := by
 refine CSpec.of_body Tryz.func61 rfl Tryz.ntmps61 rfl fun F => ?_
 show CJ _ _ _ _ _ _ (_::_::_::_::_::_::F)
 unfold mirror_Mirror_each__mirror_Mirror_Resync_1 at h
 refine sR <| oA rfl rfl <| nT <| sR <| oM rfl rfl <| oP (P_makeFunc rfl rfl) rfl <| oA rfl rfl <| nT <| CJ_seq <| CJ_seq <| CJ_entX (Ent.transX (t0_ eR) (MirP_open (l:=m))) fun oc1=>CJ_pure (fun h hh=>Rs_len (stars_perm (del2 (A:=Rs (DevP bs) (m.legs.map mlegS.dev) oc1.2.1)).out h hh)) fun hdl3=>lC del1 fun hlen4 => ?_
 rw [mk_mleg_len (by have := hdl3; simpa using this)] at hlen4
 refine lC del4 fun hlen5=>CJ_region <| oM rfl rfl <| oP (P_nilCheck rfl) rfl <| oP (P_fieldAddr rfl ⟨_,_,_,Tryz.runUnderlying119,rfl,rfl,Tryz.sizeOf115,rfl⟩) rfl <| oV (V_load rfl foc0 rfl Tryz.isAgg115) rfl <| oV (VJ_eq (V_len rfl foc1 (Reads.sl _ _ _) Tryz.runUnderlying115) (congrArg (fun z : Nat=>Value.int .i64 (z : Int)) (mk_mleg_len (by have := hdl3; simpa using this)).symm)) rfl <| oM rfl rfl <| RJ_nil <| QJ_ent (Ent.trans eR (MirP_mk (v0:=m.legs) (v1:=m.log) (v2:=m.hasLog) (v3:=m.logState) (v4:=m.size) (v5:=m.region) (v6:=m.dirty) (v7:=m.copied) (h0:=oc1.1) (h1:=oc1.2.1) (h2:=oc1.2.2.1) (h3:=oc1.2.2.2))) <| QJ_then ?_
 obtain ⟨y8,hl6,hK7⟩ := seq_e h
 refine CJ_cutT (X:=MirS × ArrS) [6,8,9,17,18,19,20,21,22,23,24,25,26,27,28,29,30,31,32,33,34,35,36,37,38,39,40,41,42,43] (fun a11=>([] : Slots)) (fun a11 R=>MirP bs bm a11.1::Arr bs a11.2::R) (fun a11=>y8 = .inl a11) (Dels.cons del0 (Dels.cons del4 Dels.nil)) ?_ ?_
 ·
  refine CJ_block <| CJ_loopR (X:=Nat × MirS × ArrS × Nat) [6,8,9,17,18,19,20,21,22,23,24,25,26,27,28,29,30,31,32,33,34,35,36,37,38,39,40,41,42,43] (fun ⟨n,x12,x13,x14⟩=>([(17,.int .i64 (((x14 : Nat) : Int)))] : Slots)) (fun ⟨n,x12,x13,x14⟩ R=>MirP bs bm x12::Arr bs x13::R) (fun ⟨n,x12,x13,x14⟩=>mirror_Mirror_each__mirror_Mirror_Resync_1_l1 m choose_c0 do_2_c1 do_2_c2 n x12 x13 x14=some y8) (fun ⟨n,x12,x13,x14⟩=>n) ⟨FUEL,m,s,0⟩ ?_ ?_ (t0_ (t4_ eR)) ?_
  · exact hl6
  · exact ⟨rfl,True.intro⟩
  ·
   rintro ⟨n,x12,x13,x14⟩ h
   cases n with
   | zero=>exact none_e h
   | succ n => ?_
   replace h : mirror_Mirror_each__mirror_Mirror_Resync_1_l1_b m choose_c0 do_2_c1 do_2_c2 (mirror_Mirror_each__mirror_Mirror_Resync_1_l1 m choose_c0 do_2_c1 do_2_c2 n) x12 x13 x14=some y8 := h
   unfold mirror_Mirror_each__mirror_Mirror_Resync_1_l1_b at h
   show CJ _ _ _ _ _ (([(17,.int .i64 (((x14 : Nat) : Int)))] : Slots) ++ forget _ _) (MirP bs bm x12::Arr bs x13::_)
   refine sR <| oP (P_lss (a:=((x14 : Nat) : Int)) (b:=((m.legs.length : Nat) : Int)) rfl rfl) rfl <| nT <| CJ_seq <| CJ_condP rfl bT_dec (fun hg1 => ?_) (fun hg1 => ?_)
   ·
    replace h := ite_t hg1 h
    refine kT <| CJ_seq <| CJ_block <| sR <| oM rfl rfl <| oA rfl rfl <| nT <| CJ_seq <| CJ_entX (Ent.transX (t0_ eR) (MirP_open (l:=x12))) fun oc15=>CJ_pure (fun h hh=>Rs_len (stars_perm (del2 (A:=Rs (DevP bs) (x12.legs.map mlegS.dev) oc15.2.1)).out h hh)) fun hdl17=>lC del1 fun hlen18 => ?_
    rw [mk_mleg_len (by have := hdl17; simpa using this)] at hlen18
    refine lC del4 fun hlen19=>CJ_region <| oM rfl rfl <| oP (P_nilCheck rfl) rfl <| oP (P_fieldAddr rfl ⟨_,_,_,Tryz.runUnderlying119,rfl,rfl,Tryz.sizeOf115,rfl⟩) rfl <| oV (V_load rfl foc0 rfl Tryz.isAgg115) rfl <| oM rfl rfl ?_
    obtain ⟨hg2,h⟩ := grd_de h
    refine oV (V_index (i:=x14) rfl rfl rfl (show x14 < (mk_mleg x12.legs oc15.2.1).length by rw [mk_mleg_len (by have := hdl17; simpa using this)]; exact hg2) foc1 (Reads.sl _ _ _) Tryz.runUnderlying115 Tryz.sizeOf129) rfl <| oP (P_fieldE rfl ⟨_,_,_,Tryz.runUnderlying129,rfl,rfl,Tryz.sizeOf117,rfl⟩) rfl <| oV (VJ_eq (V_loadE rfl rfl (show x14 < (mk_mleg x12.legs oc15.2.1).length by rw [mk_mleg_len (by have := hdl17; simpa using this)]; exact hg2) foc1 (Reads.sl _ _ _) rfl rfl Tryz.isAgg117) (show (.int .i64 ((x12.legs.getD x14 mleg_x0).state) : Value) = .int .i64 ((mk_mleg x12.legs oc15.2.1).getD x14 mleg_h0).state from by rw [mk_mleg_at (by have := hdl17; simpa using this)])) rfl <| oP (P_eql (a:=(x12.legs.getD x14 mleg_x0).state) (b:=(0 : Int)) rfl rfl) rfl <| oM rfl rfl <| RJ_splitP 29 rfl bT_dec (fun hg3B hg3 => ?_) (fun hg3B hg3 => ?_)
    ·
     replace h := ite_t hg3 h
     refine gP (GY_yes rfl rfl rfl hg3B) (P_move rfl) rfl <| gP (GY_yes rfl rfl rfl hg3B) (P_move rfl) rfl ?_
     obtain ⟨r20,hr21,h⟩ := bind_e h
     refine RJ_gy (GY_yes rfl rfl rfl hg3B) <| O_callV rfl rfl (L_mirror_Mirror_Resync_1 hr21) Tryz.call62 (Dels.cons del6 Dels.nil) rfl fun _ _=>oP (P_pickT rfl hg3B rfl) rfl <| RJ_nil <| QJ_ent (Ent.trans (t1_ (t1_ (t1_ (t1_ (t1_ eR))))) (MirP_mk (v0:=x12.legs) (v1:=x12.log) (v2:=x12.hasLog) (v3:=x12.logState) (v4:=x12.size) (v5:=x12.region) (v6:=x12.dirty) (v7:=x12.copied) (h0:=oc15.1) (h1:=oc15.2.1) (h2:=oc15.2.2.1) (h3:=oc15.2.2.2))) <| QJ_then <| CJ_condP rfl Iff.rfl (fun hg4 => ?_) (fun hg4 => ?_)
     ·
      replace h := ite_t hg4 h
      refine sR <| oM rfl rfl <| oM rfl rfl <| oM rfl rfl <| oM rfl rfl ?_
      obtain ⟨r22,hr23,h⟩ := bind_e h
      refine oO <| O_callV rfl rfl (L_mirror_Mirror_Resync_2 hr23) Tryz.call63 (Dels.cons del3 (Dels.cons del0 (Dels.cons del2 (Dels.cons del2 (Dels.cons del1 Dels.nil))))) rfl fun _ _ => ?_
      obtain ⟨r24,hr25,h⟩ := bind_e h
      refine oO <| O_callV rfl rfl (L_mirror_Mirror_note hr25) Tryz.call76 (Dels.cons del1 (Dels.cons del3 Dels.nil)) rfl fun _ _=>oA rfl rfl <| nT <| sR <| oM rfl rfl <| oP (P_neq (a:=r24.1) (b:=(0 : Int)) rfl rfl) rfl <| nT <| CJ_condP rfl bT_dec (fun hg5 => ?_) (fun hg5 => ?_)
      ·
       replace h := ite_t hg5 h
       refine sR <| oM rfl rfl <| oA rfl rfl <| nT <| CJ_ret <| QJ_block_ret <| QJ_then_ret <| QJ_round_ret <| QJ_block_ret <| QJ_then_ret ?_
       have hE := Option.some.inj h
       replace hE := seq_inr hK7 hE.symm
       subst hE
       exact fE (res1 Tryz.results61 rfl) () (t0_ (t4_ (t1_ (t1_ (t1_ eR)))))
      ·
       replace h := ite_f hg5 h
       exact CJ_skip <| QJ_block_normal <| QJ_then <| CJ_region <| oP (PJ_eq (P_add (a:=((x14 : Nat) : Int)) (b:=(1 : Int)) rfl rfl (by omega)) rfl) rfl <| oM rfl rfl <| RJ_nil <| nR ⟨n,r24.2,r22.2,(x14 + 1)⟩ h ⟨rfl,True.intro⟩ (t0_ (t0_ (t3_ eR)))
     ·
      replace h := ite_f hg4 h
      exact CJ_skip <| QJ_block_normal <| QJ_then <| CJ_region <| oP (PJ_eq (P_add (a:=((x14 : Nat) : Int)) (b:=(1 : Int)) rfl rfl (by omega)) rfl) rfl <| oM rfl rfl <| RJ_nil <| nR ⟨n,x12,x13,(x14 + 1)⟩ h ⟨rfl,True.intro⟩ (t0_ (t1_ eR))
    ·
     replace h := ite_f hg3 h
     exact RJ_gn (GY_no rfl rfl rfl hg3B) rfl rfl <| RJ_gn (GY_no rfl rfl rfl hg3B) rfl rfl <| RJ_gn (GY_no rfl rfl rfl hg3B) rfl rfl <| oP (P_pickF rfl hg3B rfl) rfl <| RJ_nil <| QJ_ent (Ent.trans eR (MirP_mk (v0:=x12.legs) (v1:=x12.log) (v2:=x12.hasLog) (v3:=x12.logState) (v4:=x12.size) (v5:=x12.region) (v6:=x12.dirty) (v7:=x12.copied) (h0:=oc15.1) (h1:=oc15.2.1) (h2:=oc15.2.2.1) (h3:=oc15.2.2.2))) <| QJ_then <| CJ_condF rfl rfl <| CJ_skip <| QJ_block_normal <| QJ_then <| CJ_region <| oP (PJ_eq (P_add (a:=((x14 : Nat) : Int)) (b:=(1 : Int)) rfl rfl (by omega)) rfl) rfl <| oM rfl rfl <| RJ_nil <| nR ⟨n,x12,x13,(x14 + 1)⟩ h ⟨rfl,True.intro⟩ eR
   ·
    replace h := ite_f hg1 h
    exact CJ_exit <| QJ_then_exit <| QJ_round_exit <| QJ_block_here <| cR (x12,x13) (Option.some.inj h).symm True.intro eR
 ·
  rintro a11 hy26
  replace h := seq_inl hK7 hy26
  show CJ _ _ _ _ _ (([] : Slots) ++ forget _ _) (MirP bs bm a11.1::Arr bs a11.2::_)
  refine sR <| oM rfl rfl ?_
  obtain ⟨r27,hr28,h⟩ := bind_e h
  refine oO <| O_call (L_mirror_Mirror_result hr28) rfl Tryz.call58 (Dels.cons del0 (Dels.cons del0 Dels.nil)) rfl fun _ _=>oA rfl rfl <| nT <| CJ_ret ?_
  cases h
  exact fE (res1 Tryz.results61 rfl) () (t0_ (t1_ (t1_ (t1_ (t1_ eR)))))
def mirror_Mirror_others_1 (x_0_Device : Dvc) (x_0_state : Int) (x_0_copied : Int) (s : ArrS) : Option (Bool) :=
  some ((decide (x_0_state=(0 : Int))))
theorem L_mirror_Mirror_others_1 {W : World} {vx_0_Device : IfH} {bs : Nat} {x_0_Device : Dvc} {x_0_state : Int} {x_0_copied : Int} {s : ArrS} {r : Bool} (h : mirror_Mirror_others_1 x_0_Device x_0_state x_0_copied s=some r) :
    CSpec Tryz.prog W 99 [.agg #[IfH.v vx_0_Device,.int .i64 x_0_state,.int .i64 x_0_copied]] [DevP bs x_0_Device vx_0_Device,Arr bs s] (fun x : Unit => .bool r) (fun _=>True) (fun x F=>DevP bs x_0_Device vx_0_Device::Arr bs s::F) := by
 refine CSpec.of_body Tryz.func99 rfl Tryz.ntmps99 rfl fun F => ?_
 show CJ _ _ _ _ _ _ (_::_::F)
 unfold mirror_Mirror_others_1 at h
 refine sR <| oO <| O_box rfl rfl rfl fun b1=>oA rfl rfl <| nT <| sR <| oP (P_fieldAddr rfl ⟨_,_,_,Tryz.runUnderlying129,rfl,rfl,Tryz.sizeOf117,rfl⟩) rfl <| oV (V_load rfl foc0 rfl Tryz.isAgg117) rfl <| oP (P_eql (a:=x_0_state) (b:=(0 : Int)) rfl rfl) rfl <| oA rfl rfl <| nT <| CJ_ret ?_
 cases h
 exact fE (res1 Tryz.results99 rfl) () (t1_ (t1_ (eD eR)))
def slices_IndexFunc_leg__mirror_Mirror_others_1_l1_b (p0 : List mlegS) (s : ArrS) (rec : Nat→Option ((Unit) ⊕ Int)) (x7 : Nat) : Option ((Unit) ⊕ Int) :=
  if (((x7 : Nat) : Int) < ((p0.length : Nat) : Int)) then
    Option.bind (mirror_Mirror_others_1 ((p0.getD x7 mleg_x0).dev) ((p0.getD x7 mleg_x0).state) ((p0.getD x7 mleg_x0).copied) s) fun r9 =>
    if r9=true then
      some (.inr (((x7 : Nat) : Int)))
    else
      grd (inN64 (x7 + 1)) <|
      rec (x7 + 1)
  else
    some (.inl ())
def slices_IndexFunc_leg__mirror_Mirror_others_1_l1 (p0 : List mlegS) (s : ArrS) : Nat→Nat→Option ((Unit) ⊕ Int)
  | 0,_=>none
  | n + 1,x7=>slices_IndexFunc_leg__mirror_Mirror_others_1_l1_b p0 s (slices_IndexFunc_leg__mirror_Mirror_others_1_l1 p0 s n) x7
def slices_IndexFunc_leg__mirror_Mirror_others_1 (p0 : List mlegS) (s : ArrS) : Option (Int) :=
  seqO (slices_IndexFunc_leg__mirror_Mirror_others_1_l1 p0 s FUEL 0) fun a6 =>
  some (-1 : Int)
theorem L_slices_IndexFunc_leg__mirror_Mirror_others_1 {W : World} {Ap0 : HP} {vp0 : Value} {hsp0 : List IfH} {bs : Nat} {p0 : List mlegS} {s : ArrS} {r : Int} (rp0 : Reads Ap0 tymlegH vp0 (mk_mleg p0 hsp0)) (h : slices_IndexFunc_leg__mirror_Mirror_others_1 p0 s=some r) :
    CSpec Tryz.prog W 98 [vp0,.func (.func 99) #[] #[]] [Ap0,Rs (DevP bs) (p0.map mlegS.dev) hsp0,Arr bs s] (fun x : Unit => .int .i64 r) (fun _=>True) (fun x F=>Ap0::Rs (DevP bs) (p0.map mlegS.dev) hsp0::Arr bs s::F) := by
 refine CSpec.of_body Tryz.func98 rfl Tryz.ntmps98 rfl fun F => ?_
 show CJ _ _ _ _ _ _ (_::_::_::F)
 unfold slices_IndexFunc_leg__mirror_Mirror_others_1 at h
 refine CJ_pure (len_of rp0 del0) fun hlen1=>CJ_pure (fun h hh=>Rs_len (stars_perm (del1 (A:=Rs (DevP bs) (p0.map mlegS.dev) hsp0)).out h hh)) fun hdl2=>sR <| oA rfl rfl <| nT <| CJ_seq <| sR <| oM rfl rfl <| oV (VJ_eq (V_len rfl foc0 rp0 Tryz.runUnderlying115) (congrArg (fun z : Nat=>Value.int .i64 (z : Int)) (mk_mleg_len (by have := hdl2; simpa using this)).symm)) rfl <| oM rfl rfl <| nT ?_
 obtain ⟨y5,hl3,hK4⟩ := seq_e h
 refine CJ_cutT (X:=Unit) [4,5,8,9,10,11,12,13,14,15,16,17,18] (fun _=>([] : Slots)) (fun _ R=>R) (fun _=>y5 = .inl ()) Dels.nil ?_ ?_
 ·
  refine CJ_block <| CJ_loopR (X:=Nat × Nat) [4,5,8,9,10,11,12,13,14,15,16,17,18] (fun ⟨n,x7⟩=>([(8,.int .i64 (((x7 : Nat) : Int)))] : Slots)) (fun ⟨n,x7⟩ R=>R) (fun ⟨n,x7⟩=>slices_IndexFunc_leg__mirror_Mirror_others_1_l1 p0 s n x7=some y5) (fun ⟨n,x7⟩=>n) ⟨FUEL,0⟩ ?_ ?_ eR ?_
  · exact hl3
  · exact ⟨rfl,True.intro⟩
  ·
   rintro ⟨n,x7⟩ h
   cases n with
   | zero=>exact none_e h
   | succ n => ?_
   replace h : slices_IndexFunc_leg__mirror_Mirror_others_1_l1_b p0 s (slices_IndexFunc_leg__mirror_Mirror_others_1_l1 p0 s n) x7=some y5 := h
   unfold slices_IndexFunc_leg__mirror_Mirror_others_1_l1_b at h
   show CJ _ _ _ _ _ (([(8,.int .i64 (((x7 : Nat) : Int)))] : Slots) ++ forget _ _) (_)
   refine sR <| oP (P_lss (a:=((x7 : Nat) : Int)) (b:=((p0.length : Nat) : Int)) rfl rfl) rfl <| nT <| CJ_seq <| CJ_condP rfl bT_dec (fun hg1 => ?_) (fun hg1 => ?_)
   ·
    replace h := ite_t hg1 h
    refine kT <| CJ_seq <| CJ_block <| sR <| oM rfl rfl <| oA rfl rfl <| nT <| sR <| oM rfl rfl <| oM rfl rfl <| oM rfl rfl <| oV (V_index (i:=x7) rfl rfl rfl (show x7 < (mk_mleg p0 hsp0).length by rw [mk_mleg_len (by have := hdl2; simpa using this)]; exact (by omega)) foc0 rp0 Tryz.runUnderlying115 Tryz.sizeOf129) rfl <| RJ_ent (Ent.trans (t1_ eR) (mk_mleg_rs (i:=x7) (by omega))) <| oV (VJ_eq (V_loadEN rfl rfl (show x7 < (mk_mleg p0 hsp0).length by rw [mk_mleg_len (by have := hdl2; simpa using this)]; exact (by omega)) foc2 rp0 rfl rfl Tryz.isAgg129 Tryz.sizeOf129) (show Value.agg #[IfH.v (hsp0.getD x7 tyDev.dflt),.int .i64 ((p0.getD x7 mleg_x0).state),.int .i64 ((p0.getD x7 mleg_x0).copied)]=Value.agg #[IfH.v ((mk_mleg p0 hsp0).getD x7 mleg_h0).dev,.int .i64 ((mk_mleg p0 hsp0).getD x7 mleg_h0).state,.int .i64 ((mk_mleg p0 hsp0).getD x7 mleg_h0).copied] from by rw [mk_mleg_at (by have := hdl2; simpa using this)])) rfl ?_
    obtain ⟨r9,hr10,h⟩ := bind_e h
    refine oO <| O_callV rfl rfl (L_mirror_Mirror_others_1 hr10) Tryz.call99 (Dels.cons del0 (Dels.cons del2 Dels.nil)) rfl fun _ _=>nT <| CJ_condP rfl Iff.rfl (fun hg2 => ?_) (fun hg2 => ?_)
    ·
     replace h := ite_t hg2 h
     refine sR <| oM rfl rfl <| oA rfl rfl <| nT <| CJ_ret <| QJ_block_ret <| QJ_then_ret <| QJ_round_ret <| QJ_block_ret <| QJ_then_ret ?_
     have hE := Option.some.inj h
     replace hE := seq_inr hK4 hE.symm
     subst hE
     exact fE (res1 Tryz.results98 rfl) () (t3_ (t2_ (t1_ (eD eR))))
    ·
     replace h := ite_f hg2 h
     refine CJ_skip <| QJ_block_normal <| QJ_then <| CJ_region ?_
     obtain ⟨hg3,h⟩ := grd_Ne h
     exact oP (PJ_eq (P_add (a:=((x7 : Nat) : Int)) (b:=(1 : Int)) rfl rfl (nat_in hg3)) rfl) rfl <| oM rfl rfl <| RJ_nil <| nR ⟨n,(x7 + 1)⟩ h ⟨rfl,True.intro⟩ (t3_ (t2_ (t1_ (eD eR))))
   ·
    replace h := ite_f hg1 h
    exact CJ_exit <| QJ_then_exit <| QJ_round_exit <| QJ_block_here <| cR () (Option.some.inj h).symm True.intro eR
 ·
  rintro _ hy11
  replace h := seq_inl hK4 hy11
  show CJ _ _ _ _ _ (([] : Slots) ++ forget _ _) (_)
  refine sR <| oA rfl rfl <| nT <| CJ_ret ?_
  cases h
  exact fE (res1 Tryz.results98 rfl) () eR
def mirror_Mirror_others_2 (i : Int) (p1 : Int) : Option (Bool) :=
  some ((decide (i≠p1)))
theorem L_mirror_Mirror_others_2 {W : World} {bp1 : Nat} {i : Int} {p1 : Int} {r : Bool} (h : mirror_Mirror_others_2 i p1=some r) :
    CSpec Tryz.prog W 100 [.int .i64 i,ptr bp1 0] [blk bp1 3 [.int .i64 p1]] (fun x : Unit => .bool r) (fun _=>True) (fun x F=>blk bp1 3 [.int .i64 p1]::F) := by
 refine CSpec.of_body Tryz.func100 rfl Tryz.ntmps100 rfl fun F => ?_
 show CJ _ _ _ _ _ _ (_::F)
 unfold mirror_Mirror_others_2 at h
 refine sR <| oA rfl rfl <| nT <| sR <| oM rfl rfl <| oV (V_load rfl foc0 rfl Tryz.isAgg3) rfl <| oP (P_neq (a:=i) (b:=p1) rfl rfl) rfl <| oA rfl rfl <| nT <| CJ_ret ?_
 cases h
 exact fE (res1 Tryz.results100 rfl) () eR
def mirror_Mirror_others_3 (i : Int) (p1_v : MirS) (s : ArrS) : Option (Int × ArrS) :=
  grd (decide (0≤i∧i < (p1_v.legs.length : Int))) <|
  Option.bind (Dvc.fl ((p1_v.legs.getD ((i).toNat) mleg_x0).dev) s) fun r8 =>
  some (r8.1,r8.2)
theorem L_mirror_Mirror_others_3 {W : World} {bp1 : Nat} {bp1_v : Nat} {bs : Nat} {i : Int} {p1_v : MirS} {s : ArrS} {r : Int × ArrS} (h : mirror_Mirror_others_3 i p1_v s=some r) :
    CSpec Tryz.prog W 101 [.int .i64 i,ptr bp1 0] [blk bp1 41 [ptr bp1_v 0],MirP bs bp1_v p1_v,Arr bs s] (fun x : Unit => .int .i64 r.1) (fun _=>True) (fun x F=>blk bp1 41 [ptr bp1_v 0]::MirP bs bp1_v p1_v::Arr bs r.2::F) := by
 refine CSpec.of_body Tryz.func101 rfl Tryz.ntmps101 rfl fun F => ?_
 show CJ _ _ _ _ _ _ (_::_::_::F)
 unfold mirror_Mirror_others_3 at h
 refine sR <| oA rfl rfl <| nT <| CJ_seq <| CJ_entX (Ent.transX (t1_ eR) (MirP_open (l:=p1_v))) fun oc1=>CJ_pure (fun h hh=>Rs_len (stars_perm (del2 (A:=Rs (DevP bs) (p1_v.legs.map mlegS.dev) oc1.2.1)).out h hh)) fun hdl3=>lC del1 fun hlen4 => ?_
 rw [mk_mleg_len (by have := hdl3; simpa using this)] at hlen4
 refine lC del4 fun hlen5=>CJ_region <| oV (V_load rfl foc5 rfl Tryz.isAgg41) rfl <| oP (P_nilCheck rfl) rfl <| oP (P_fieldAddr rfl ⟨_,_,_,Tryz.runUnderlying119,rfl,rfl,Tryz.sizeOf115,rfl⟩) rfl <| oV (V_load rfl foc0 rfl Tryz.isAgg115) rfl <| oM rfl rfl ?_
 obtain ⟨hg1,h⟩ := grd_de h
 refine oV (V_index (i:=(i).toNat) rfl rfl (Int.toNat_of_nonneg (hg1.1)).symm (show (i).toNat < (mk_mleg p1_v.legs oc1.2.1).length by rw [mk_mleg_len (by have := hdl3; simpa using this)]; exact (by omega)) foc1 (Reads.sl _ _ _) Tryz.runUnderlying115 Tryz.sizeOf129) rfl <| oP (P_fieldE rfl ⟨_,_,_,Tryz.runUnderlying129,rfl,rfl,Tryz.sizeOf96,rfl⟩) rfl <| RJ_ent (Ent.trans (t2_ eR) (mk_mleg_rs (i:=(i).toNat) (by omega))) <| oV (VJ_eq (V_loadE rfl rfl (show (i).toNat < (mk_mleg p1_v.legs oc1.2.1).length by rw [mk_mleg_len (by have := hdl3; simpa using this)]; exact (by omega)) foc3 (Reads.sl _ _ _) rfl rfl Tryz.isAgg96) (show (IfH.v ((oc1.2.1.getD ((i).toNat) tyDev.dflt)) : Value)=IfH.v ((mk_mleg p1_v.legs oc1.2.1).getD ((i).toNat) mleg_h0).dev from by rw [mk_mleg_at (by have := hdl3; simpa using this)])) rfl <| RJ_pure (fun h hh=>DevP_dep h (stars_perm (del0 (A:=DevP bs ((p1_v.legs.getD ((i).toNat) mleg_x0).dev) ((oc1.2.1.getD ((i).toNat) tyDev.dflt)))).out h hh)) fun hdp7 => ?_
 obtain ⟨r8,hr9,h⟩ := bind_e h
 refine oO <| O_callI rfl (dev_Flush hr9 hdp7) rfl (Dels.cons del0 (Dels.cons del6 Dels.nil)) rfl fun _ _=>oA rfl rfl <| RJ_nil <| QJ_ent (Ent.trans (t3_ (t3_ (t2_ (t2_ (t2_ eR))))) (MirP_mk (v0:=p1_v.legs) (v1:=p1_v.log) (v2:=p1_v.hasLog) (v3:=p1_v.logState) (v4:=p1_v.size) (v5:=p1_v.region) (v6:=p1_v.dirty) (v7:=p1_v.copied) (h0:=oc1.1) (h1:=oc1.2.1) (h2:=oc1.2.2.1) (h3:=oc1.2.2.2))) <| QJ_then <| CJ_ret ?_
 cases h
 exact fE (res1 Tryz.results101 rfl) () (t3_ (t0_ (t1_ (eD eR))))
def mirror_Mirror_each__mirror_Mirror_others_2_l1_b (m : MirS) (choose_c0 : Int) (rec : MirS→ArrS→Nat→Option ((MirS × ArrS) ⊕ (Int × MirS × ArrS))) (x12 : MirS) (x13 : ArrS) (x14 : Nat) : Option ((MirS × ArrS) ⊕ (Int × MirS × ArrS)) :=
  if (((x14 : Nat) : Int) < ((m.legs.length : Nat) : Int)) then
    grd (decide (x14 < x12.legs.length)) <|
    if ((x12.legs.getD x14 mleg_x0).state=(0 : Int)) then
      Option.bind (mirror_Mirror_others_2 (((x14 : Nat) : Int)) choose_c0) fun r20 =>
      if r20=true then
        Option.bind (mirror_Mirror_others_3 (((x14 : Nat) : Int)) x12 x13) fun r22 =>
        Option.bind (mirror_Mirror_note x12 (((x14 : Nat) : Int)) r22.1 r22.2) fun r24 =>
        if (r24.1≠(0 : Int)) then
          some (.inr (r24.1,r24.2,r22.2))
        else
          rec r24.2 r22.2 (x14 + 1)
      else
        rec x12 x13 (x14 + 1)
    else
      rec x12 x13 (x14 + 1)
  else
    some (.inl (x12,x13))
def mirror_Mirror_each__mirror_Mirror_others_2_l1 (m : MirS) (choose_c0 : Int) : Nat→MirS→ArrS→Nat→Option ((MirS × ArrS) ⊕ (Int × MirS × ArrS))
  | 0,_,_,_=>none
  | n + 1,x12,x13,x14=>mirror_Mirror_each__mirror_Mirror_others_2_l1_b m choose_c0 (mirror_Mirror_each__mirror_Mirror_others_2_l1 m choose_c0 n) x12 x13 x14
def mirror_Mirror_each__mirror_Mirror_others_2 (m : MirS) (choose_c0 : Int) (s : ArrS) : Option (Int × MirS × ArrS) :=
  seqO (mirror_Mirror_each__mirror_Mirror_others_2_l1 m choose_c0 FUEL m s 0) fun a11 =>
  Option.bind (mirror_Mirror_result a11.1 a11.2) fun r27 =>
  some (r27,a11.1,a11.2)
theorem L_mirror_Mirror_each__mirror_Mirror_others_2 {W : World} {bm : Nat} {bchoose_c0 : Nat} {bdo_2_c0 : Nat} {bs : Nat} {m : MirS} {choose_c0 : Int} {s : ArrS} {r : Int × MirS × ArrS} (h : mirror_Mirror_each__mirror_Mirror_others_2 m choose_c0 s=some r) :
    CSpec Tryz.prog W 61 [ptr bm 0,.func (.func 100) #[] #[ptr bchoose_c0 0],.func (.func 101) #[] #[ptr bdo_2_c0 0]] [MirP bs bm m,blk bchoose_c0 3 [.int .i64 choose_c0],blk bdo_2_c0 41 [ptr bm 0],Arr bs s] (fun x : Unit => .int .i64 r.1) (fun _=>True) (fun x F=>MirP bs bm r.2.1::blk bchoose_c0 3 [.int .i64 choose_c0]::blk bdo_2_c0 41 [ptr bm 0]::Arr bs r.2.2::F) := by
 refine CSpec.of_body Tryz.func61 rfl Tryz.ntmps61 rfl fun F => ?_
 show CJ _ _ _ _ _ _ (_::_::_::_::F)
 unfold mirror_Mirror_each__mirror_Mirror_others_2 at h
 refine sR <| oA rfl rfl <| nT <| sR <| oM rfl rfl <| oP (P_makeFunc rfl rfl) rfl <| oA rfl rfl <| nT <| CJ_seq <| CJ_seq <| CJ_entX (Ent.transX (t0_ eR) (MirP_open (l:=m))) fun oc1=>CJ_pure (fun h hh=>Rs_len (stars_perm (del2 (A:=Rs (DevP bs) (m.legs.map mlegS.dev) oc1.2.1)).out h hh)) fun hdl3=>lC del1 fun hlen4 => ?_
 rw [mk_mleg_len (by have := hdl3; simpa using this)] at hlen4
 refine lC del4 fun hlen5=>CJ_region <| oM rfl rfl <| oP (P_nilCheck rfl) rfl <| oP (P_fieldAddr rfl ⟨_,_,_,Tryz.runUnderlying119,rfl,rfl,Tryz.sizeOf115,rfl⟩) rfl <| oV (V_load rfl foc0 rfl Tryz.isAgg115) rfl <| oV (VJ_eq (V_len rfl foc1 (Reads.sl _ _ _) Tryz.runUnderlying115) (congrArg (fun z : Nat=>Value.int .i64 (z : Int)) (mk_mleg_len (by have := hdl3; simpa using this)).symm)) rfl <| oM rfl rfl <| RJ_nil <| QJ_ent (Ent.trans eR (MirP_mk (v0:=m.legs) (v1:=m.log) (v2:=m.hasLog) (v3:=m.logState) (v4:=m.size) (v5:=m.region) (v6:=m.dirty) (v7:=m.copied) (h0:=oc1.1) (h1:=oc1.2.1) (h2:=oc1.2.2.1) (h3:=oc1.2.2.2))) <| QJ_then ?_
 obtain ⟨y8,hl6,hK7⟩ := seq_e h
 refine CJ_cutT (X:=MirS × ArrS) [6,8,9,17,18,19,20,21,22,23,24,25,26,27,28,29,30,31,32,33,34,35,36,37,38,39,40,41,42,43] (fun a11=>([] : Slots)) (fun a11 R=>MirP bs bm a11.1::Arr bs a11.2::R) (fun a11=>y8 = .inl a11) (Dels.cons del0 (Dels.cons del2 Dels.nil)) ?_ ?_
 ·
  refine CJ_block <| CJ_loopR (X:=Nat × MirS × ArrS × Nat) [6,8,9,17,18,19,20,21,22,23,24,25,26,27,28,29,30,31,32,33,34,35,36,37,38,39,40,41,42,43] (fun ⟨n,x12,x13,x14⟩=>([(17,.int .i64 (((x14 : Nat) : Int)))] : Slots)) (fun ⟨n,x12,x13,x14⟩ R=>MirP bs bm x12::Arr bs x13::R) (fun ⟨n,x12,x13,x14⟩=>mirror_Mirror_each__mirror_Mirror_others_2_l1 m choose_c0 n x12 x13 x14=some y8) (fun ⟨n,x12,x13,x14⟩=>n) ⟨FUEL,m,s,0⟩ ?_ ?_ (t0_ (t2_ eR)) ?_
  · exact hl6
  · exact ⟨rfl,True.intro⟩
  ·
   rintro ⟨n,x12,x13,x14⟩ h
   cases n with
   | zero=>exact none_e h
   | succ n => ?_
   replace h : mirror_Mirror_each__mirror_Mirror_others_2_l1_b m choose_c0 (mirror_Mirror_each__mirror_Mirror_others_2_l1 m choose_c0 n) x12 x13 x14=some y8 := h
   unfold mirror_Mirror_each__mirror_Mirror_others_2_l1_b at h
   show CJ _ _ _ _ _ (([(17,.int .i64 (((x14 : Nat) : Int)))] : Slots) ++ forget _ _) (MirP bs bm x12::Arr bs x13::_)
   refine sR <| oP (P_lss (a:=((x14 : Nat) : Int)) (b:=((m.legs.length : Nat) : Int)) rfl rfl) rfl <| nT <| CJ_seq <| CJ_condP rfl bT_dec (fun hg1 => ?_) (fun hg1 => ?_)
   ·
    replace h := ite_t hg1 h
    refine kT <| CJ_seq <| CJ_block <| sR <| oM rfl rfl <| oA rfl rfl <| nT <| CJ_seq <| CJ_entX (Ent.transX (t0_ eR) (MirP_open (l:=x12))) fun oc15=>CJ_pure (fun h hh=>Rs_len (stars_perm (del2 (A:=Rs (DevP bs) (x12.legs.map mlegS.dev) oc15.2.1)).out h hh)) fun hdl17=>lC del1 fun hlen18 => ?_
    rw [mk_mleg_len (by have := hdl17; simpa using this)] at hlen18
    refine lC del4 fun hlen19=>CJ_region <| oM rfl rfl <| oP (P_nilCheck rfl) rfl <| oP (P_fieldAddr rfl ⟨_,_,_,Tryz.runUnderlying119,rfl,rfl,Tryz.sizeOf115,rfl⟩) rfl <| oV (V_load rfl foc0 rfl Tryz.isAgg115) rfl <| oM rfl rfl ?_
    obtain ⟨hg2,h⟩ := grd_de h
    refine oV (V_index (i:=x14) rfl rfl rfl (show x14 < (mk_mleg x12.legs oc15.2.1).length by rw [mk_mleg_len (by have := hdl17; simpa using this)]; exact hg2) foc1 (Reads.sl _ _ _) Tryz.runUnderlying115 Tryz.sizeOf129) rfl <| oP (P_fieldE rfl ⟨_,_,_,Tryz.runUnderlying129,rfl,rfl,Tryz.sizeOf117,rfl⟩) rfl <| oV (VJ_eq (V_loadE rfl rfl (show x14 < (mk_mleg x12.legs oc15.2.1).length by rw [mk_mleg_len (by have := hdl17; simpa using this)]; exact hg2) foc1 (Reads.sl _ _ _) rfl rfl Tryz.isAgg117) (show (.int .i64 ((x12.legs.getD x14 mleg_x0).state) : Value) = .int .i64 ((mk_mleg x12.legs oc15.2.1).getD x14 mleg_h0).state from by rw [mk_mleg_at (by have := hdl17; simpa using this)])) rfl <| oP (P_eql (a:=(x12.legs.getD x14 mleg_x0).state) (b:=(0 : Int)) rfl rfl) rfl <| oM rfl rfl <| RJ_splitP 29 rfl bT_dec (fun hg3B hg3 => ?_) (fun hg3B hg3 => ?_)
    ·
     replace h := ite_t hg3 h
     refine gP (GY_yes rfl rfl rfl hg3B) (P_move rfl) rfl <| gP (GY_yes rfl rfl rfl hg3B) (P_move rfl) rfl ?_
     obtain ⟨r20,hr21,h⟩ := bind_e h
     refine RJ_gy (GY_yes rfl rfl rfl hg3B) <| O_callV rfl rfl (L_mirror_Mirror_others_2 hr21) Tryz.call100 (Dels.cons del6 Dels.nil) rfl fun _ _=>oP (P_pickT rfl hg3B rfl) rfl <| RJ_nil <| QJ_ent (Ent.trans (t1_ (t1_ (t1_ (t1_ (t1_ eR))))) (MirP_mk (v0:=x12.legs) (v1:=x12.log) (v2:=x12.hasLog) (v3:=x12.logState) (v4:=x12.size) (v5:=x12.region) (v6:=x12.dirty) (v7:=x12.copied) (h0:=oc15.1) (h1:=oc15.2.1) (h2:=oc15.2.2.1) (h3:=oc15.2.2.2))) <| QJ_then <| CJ_condP rfl Iff.rfl (fun hg4 => ?_) (fun hg4 => ?_)
     ·
      replace h := ite_t hg4 h
      refine sR <| oM rfl rfl <| oM rfl rfl <| oM rfl rfl <| oM rfl rfl ?_
      obtain ⟨r22,hr23,h⟩ := bind_e h
      refine oO <| O_callV rfl rfl (L_mirror_Mirror_others_3 hr23) Tryz.call101 (Dels.cons del3 (Dels.cons del0 (Dels.cons del1 Dels.nil))) rfl fun _ _ => ?_
      obtain ⟨r24,hr25,h⟩ := bind_e h
      refine oO <| O_callV rfl rfl (L_mirror_Mirror_note hr25) Tryz.call76 (Dels.cons del1 (Dels.cons del1 Dels.nil)) rfl fun _ _=>oA rfl rfl <| nT <| sR <| oM rfl rfl <| oP (P_neq (a:=r24.1) (b:=(0 : Int)) rfl rfl) rfl <| nT <| CJ_condP rfl bT_dec (fun hg5 => ?_) (fun hg5 => ?_)
      ·
       replace h := ite_t hg5 h
       refine sR <| oM rfl rfl <| oA rfl rfl <| nT <| CJ_ret <| QJ_block_ret <| QJ_then_ret <| QJ_round_ret <| QJ_block_ret <| QJ_then_ret ?_
       have hE := Option.some.inj h
       replace hE := seq_inr hK7 hE.symm
       subst hE
       exact fE (res1 Tryz.results61 rfl) () (t0_ (t2_ (t1_ eR)))
      ·
       replace h := ite_f hg5 h
       exact CJ_skip <| QJ_block_normal <| QJ_then <| CJ_region <| oP (PJ_eq (P_add (a:=((x14 : Nat) : Int)) (b:=(1 : Int)) rfl rfl (by omega)) rfl) rfl <| oM rfl rfl <| RJ_nil <| nR ⟨n,r24.2,r22.2,(x14 + 1)⟩ h ⟨rfl,True.intro⟩ (t0_ (t0_ (t1_ eR)))
     ·
      replace h := ite_f hg4 h
      exact CJ_skip <| QJ_block_normal <| QJ_then <| CJ_region <| oP (PJ_eq (P_add (a:=((x14 : Nat) : Int)) (b:=(1 : Int)) rfl rfl (by omega)) rfl) rfl <| oM rfl rfl <| RJ_nil <| nR ⟨n,x12,x13,(x14 + 1)⟩ h ⟨rfl,True.intro⟩ (t0_ (t1_ eR))
    ·
     replace h := ite_f hg3 h
     exact RJ_gn (GY_no rfl rfl rfl hg3B) rfl rfl <| RJ_gn (GY_no rfl rfl rfl hg3B) rfl rfl <| RJ_gn (GY_no rfl rfl rfl hg3B) rfl rfl <| oP (P_pickF rfl hg3B rfl) rfl <| RJ_nil <| QJ_ent (Ent.trans eR (MirP_mk (v0:=x12.legs) (v1:=x12.log) (v2:=x12.hasLog) (v3:=x12.logState) (v4:=x12.size) (v5:=x12.region) (v6:=x12.dirty) (v7:=x12.copied) (h0:=oc15.1) (h1:=oc15.2.1) (h2:=oc15.2.2.1) (h3:=oc15.2.2.2))) <| QJ_then <| CJ_condF rfl rfl <| CJ_skip <| QJ_block_normal <| QJ_then <| CJ_region <| oP (PJ_eq (P_add (a:=((x14 : Nat) : Int)) (b:=(1 : Int)) rfl rfl (by omega)) rfl) rfl <| oM rfl rfl <| RJ_nil <| nR ⟨n,x12,x13,(x14 + 1)⟩ h ⟨rfl,True.intro⟩ eR
   ·
    replace h := ite_f hg1 h
    exact CJ_exit <| QJ_then_exit <| QJ_round_exit <| QJ_block_here <| cR (x12,x13) (Option.some.inj h).symm True.intro eR
 ·
  rintro a11 hy26
  replace h := seq_inl hK7 hy26
  show CJ _ _ _ _ _ (([] : Slots) ++ forget _ _) (MirP bs bm a11.1::Arr bs a11.2::_)
  refine sR <| oM rfl rfl ?_
  obtain ⟨r27,hr28,h⟩ := bind_e h
  refine oO <| O_call (L_mirror_Mirror_result hr28) rfl Tryz.call58 (Dels.cons del0 (Dels.cons del0 Dels.nil)) rfl fun _ _=>oA rfl rfl <| nT <| CJ_ret ?_
  cases h
  exact fE (res1 Tryz.results61 rfl) () (t0_ (t1_ (t1_ eR)))
def mirror_Mirror_others (m : MirS) (s : ArrS) : Option (Int × MirS × ArrS) :=
  Option.bind (slices_IndexFunc_leg__mirror_Mirror_others_1 m.legs s) fun r7 =>
  Option.bind (mirror_Mirror_each__mirror_Mirror_others_2 m r7 s) fun r10 =>
  some (r10.1,r10.2.1,r10.2.2)
theorem L_mirror_Mirror_others {W : World} {bm : Nat} {bs : Nat} {m : MirS} {s : ArrS} {r : Int × MirS × ArrS} (h : mirror_Mirror_others m s=some r) :
    CSpec Tryz.prog W 64 [ptr bm 0] [MirP bs bm m,Arr bs s] (fun x : Unit => .int .i64 r.1) (fun _=>True) (fun x F=>MirP bs bm r.2.1::Arr bs r.2.2::F) := by
 refine CSpec.of_body Tryz.func64 rfl Tryz.ntmps64 rfl fun F => ?_
 show CJ _ _ _ _ _ _ (_::_::F)
 unfold mirror_Mirror_others at h
 refine sR <| oO <| O_box rfl rfl rfl fun b1=>oA rfl rfl <| nT <| CJ_seq <| CJ_entX (Ent.transX (t1_ eR) (MirP_open (l:=m))) fun oc2=>CJ_pure (fun h hh=>Rs_len (stars_perm (del2 (A:=Rs (DevP bs) (m.legs.map mlegS.dev) oc2.2.1)).out h hh)) fun hdl4=>lC del1 fun hlen5 => ?_
 rw [mk_mleg_len (by have := hdl4; simpa using this)] at hlen5
 refine lC del4 fun hlen6=>CJ_region <| oV (V_load rfl foc5 rfl Tryz.isAgg41) rfl <| oP (P_nilCheck rfl) rfl <| oP (P_fieldAddr rfl ⟨_,_,_,Tryz.runUnderlying119,rfl,rfl,Tryz.sizeOf115,rfl⟩) rfl <| oV (V_load rfl foc0 rfl Tryz.isAgg115) rfl ?_
 obtain ⟨r7,hr8,h⟩ := bind_e h
 refine oO <| O_call (L_slices_IndexFunc_leg__mirror_Mirror_others_1 (Reads.sl _ _ _) hr8) rfl Tryz.call98 (Dels.cons del1 (Dels.cons del1 (Dels.cons del4 Dels.nil))) rfl fun _ _=>oO <| O_alloc Tryz.zeroValue3 rfl rfl fun b9=>oO <| O_store rfl rfl foc0 rfl rfl Tryz.sizeOf3 <| RJ_nil <| QJ_ent (Ent.trans (t4_ (t1_ (t1_ (t2_ (t2_ eR))))) (MirP_mk (v0:=m.legs) (v1:=m.log) (v2:=m.hasLog) (v3:=m.logState) (v4:=m.size) (v5:=m.region) (v6:=m.dirty) (v7:=m.copied) (h0:=oc2.1) (h1:=oc2.2.1) (h2:=oc2.2.2.1) (h3:=oc2.2.2.2))) <| QJ_then <| sR <| oV (V_load rfl foc3 rfl Tryz.isAgg41) rfl <| oP (P_makeFunc rfl rfl) rfl <| oP (P_makeFunc rfl rfl) rfl ?_
 obtain ⟨r10,hr11,h⟩ := bind_e h
 refine oO <| O_call (L_mirror_Mirror_each__mirror_Mirror_others_2 hr11) rfl Tryz.call61 (Dels.cons del0 (Dels.cons del0 (Dels.cons del1 (Dels.cons del0 Dels.nil)))) rfl fun _ _=>oA rfl rfl <| nT <| CJ_ret ?_
 cases h
 exact fE (res1 Tryz.results64 rfl) () (t0_ (t2_ (eD (eD eR))))
def mirror_Mirror_Resync_l2_b (r4 : (List Int)) (x17 : Nat) (rec : MirS→ArrS→Int→Int→Option ((Int × MirS × ArrS) ⊕ ((MirS × ArrS) ⊕ (Int × Int × MirS × ArrS)))) (x26 : MirS) (x27 : ArrS) (x28 : Int) (x29 : Int) : Option ((Int × MirS × ArrS) ⊕ ((MirS × ArrS) ⊕ (Int × Int × MirS × ArrS))) :=
  Option.bind (mirror_Mirror_end x26 (r4.getD x17 0) x27) fun r31 =>
  if (x29 < r31) then
    if (x28=(0 : Int)) then
      some (.inr (.inl (x26,x27)))
    else
      grd (inI64 ((x28 - (1 : Int)))) <|
      Option.bind (mirror_Mirror_fetch x26 x29 x27) fun r33 =>
      Option.bind ((
        if (r33.2.2.2.1=(0 : Int)) then
          Option.bind (mirror_Mirror_each__mirror_Mirror_Resync_1 r33.2.2.2.2 r33.2.1 x29 r33.1 x27) fun r46 =>
          some (r46.1,r46.2.1,r46.2.2)
        else
          some (r33.2.2.2.1,r33.2.2.2.2,x27) : Option (Int × MirS × ArrS))) fun a45 =>
      if (a45.1≠(0 : Int)) then
        some (.inr (.inr (((0 : Int),a45.1,a45.2.1,a45.2.2))))
      else
        grd (inI64 ((a45.2.1.copied + (1 : Int)))) <|
        grd (inI64 ((x29 + (1 : Int)))) <|
        rec ({ a45.2.1 with copied := (a45.2.1.copied + (1 : Int)) }) a45.2.2 ((x28 - (1 : Int))) ((x29 + (1 : Int)))
  else
    some (.inl (x28,x26,x27))
def mirror_Mirror_Resync_l2 (r4 : (List Int)) (x17 : Nat) : Nat→MirS→ArrS→Int→Int→Option ((Int × MirS × ArrS) ⊕ ((MirS × ArrS) ⊕ (Int × Int × MirS × ArrS)))
  | 0,_,_,_,_=>none
  | n + 1,x26,x27,x28,x29=>mirror_Mirror_Resync_l2_b r4 x17 (mirror_Mirror_Resync_l2 r4 x17 n) x26 x27 x28 x29
def mirror_Mirror_Resync_l1_b (r4 : (List Int)) (rec : MirS→ArrS→Int→Nat→Option ((MirS × ArrS) ⊕ (Int × Int × MirS × ArrS))) (x14 : MirS) (x15 : ArrS) (x16 : Int) (x17 : Nat) : Option ((MirS × ArrS) ⊕ (Int × Int × MirS × ArrS)) :=
  if (((x17 : Nat) : Int) < ((r4.length : Nat) : Int)) then
    grd (inI64 (((r4.getD x17 0) * x14.region))) <|
    grd (inI64 ((((r4.getD x17 0) * x14.region) + x14.copied))) <|
    seqO (mirror_Mirror_Resync_l2 r4 x17 FUEL x14 x15 x16 ((((r4.getD x17 0) * x14.region) + x14.copied))) fun a25 =>
    Option.bind (mirror_Mirror_others a25.2.1 a25.2.2) fun r56 =>
    if (r56.1≠(0 : Int)) then
      some (.inr (((0 : Int),r56.1,r56.2.1,r56.2.2)))
    else
      grd (decide (0≤(r4.getD x17 0)∧(r4.getD x17 0) < (r56.2.1.dirty.length : Int))) <|
      grd (inN64 (x17 + 1)) <|
      rec ({ r56.2.1 with dirty := (r56.2.1.dirty.set (((r4.getD x17 0)).toNat) false),copied := (0 : Int) }) r56.2.2 a25.1 (x17 + 1)
  else
    some (.inl (x14,x15))
def mirror_Mirror_Resync_l1 (r4 : (List Int)) : Nat→MirS→ArrS→Int→Nat→Option ((MirS × ArrS) ⊕ (Int × Int × MirS × ArrS))
  | 0,_,_,_,_=>none
  | n + 1,x14,x15,x16,x17=>mirror_Mirror_Resync_l1_b r4 (mirror_Mirror_Resync_l1 r4 n) x14 x15 x16 x17
def mirror_Mirror_Resync (m : MirS) (n_1 : Int) (s : ArrS) : Option (Int × Int × MirS × ArrS) :=
  if (n_1 < (0 : Int)) then
    some (((0 : Int),(1 : Int),m,s))
  else
    Option.bind (mirror_Mirror_result m s) fun r2 =>
    if (r2≠(0 : Int)) then
      some (((0 : Int),r2,m,s))
    else
      Option.bind (mirror_Mirror_Dirty m s) fun r4 =>
      seqO (mirror_Mirror_Resync_l1 r4 FUEL m s n_1 0) fun a13 =>
      Option.bind (mirror_Mirror_rest a13.1 a13.2) fun r64 =>
      some ((r64,(0 : Int),a13.1,a13.2))
theorem L_mirror_Mirror_Resync {W : World} {bm : Nat} {bs : Nat} {m : MirS} {n_1 : Int} {s : ArrS} {r : Int × Int × MirS × ArrS} (h : mirror_Mirror_Resync m n_1 s=some r) :
    CSpec Tryz.prog W 27 [ptr bm 0,.int .i64 n_1] [MirP bs bm m,Arr bs s] (fun x : Unit => .tuple #[.int .i64 r.1,.int .i64 r.2.1]) (fun _=>True) (fun x F=>MirP bs bm r.2.2.1::Arr bs r.2.2.2::F) := by
 refine CSpec.of_body Tryz.func27 rfl Tryz.ntmps27 rfl fun F => ?_
 show CJ _ _ _ _ _ _ (_::_::F)
 unfold mirror_Mirror_Resync at h
 refine sR <| oO <| O_box rfl rfl rfl fun b1=>oA rfl rfl <| oA rfl rfl <| nT <| CJ_scope <| CJ_seq <| sR <| oM rfl rfl <| oP (P_lss (a:=n_1) (b:=(0 : Int)) rfl rfl) rfl <| nT <| CJ_condP rfl bT_dec (fun hg1 => ?_) (fun hg1 => ?_)
 ·
  replace h := ite_t hg1 h
  refine sR <| oA rfl rfl <| oA rfl rfl <| nT <| CJ_ret <| QJ_then_ret <| QJ_scope_ret ?_
  cases h
  exact fE (res2 Tryz.results27 rfl rfl) () (t1_ (t1_ (eD eR)))
 ·
  replace h := ite_f hg1 h
  refine kT <| CJ_seq <| sR <| oV (V_load rfl foc0 rfl Tryz.isAgg41) rfl ?_
  obtain ⟨r2,hr3,h⟩ := bind_e h
  refine oO <| O_call (L_mirror_Mirror_result hr3) rfl Tryz.call58 (Dels.cons del1 (Dels.cons del1 Dels.nil)) rfl fun _ _=>oA rfl rfl <| nT <| sR <| oM rfl rfl <| oP (P_neq (a:=r2) (b:=(0 : Int)) rfl rfl) rfl <| nT <| CJ_condP rfl bT_dec (fun hg2 => ?_) (fun hg2 => ?_)
  ·
   replace h := ite_t hg2 h
   refine sR <| oM rfl rfl <| oA rfl rfl <| oA rfl rfl <| nT <| CJ_ret <| QJ_then_ret <| QJ_scope_ret ?_
   cases h
   exact fE (res2 Tryz.results27 rfl rfl) () (t0_ (t0_ (eD eR)))
  ·
   replace h := ite_f hg2 h
   refine kT <| CJ_seq <| CJ_label <| QJ_then <| CJ_seq <| sR <| oV (V_load rfl foc2 rfl Tryz.isAgg41) rfl ?_
   obtain ⟨r4,hr5,h⟩ := bind_e h
   refine oO <| O_call (L_mirror_Mirror_Dirty hr5) rfl Tryz.call22 (Dels.cons del0 (Dels.cons del0 Dels.nil)) rfl fun X6 _=>oV (V_len rfl foc2 (Reads.sl _ _ _) Tryz.runUnderlying45) rfl <| oM rfl rfl <| nT ?_
   obtain ⟨y10,hl8,hK9⟩ := seq_e h
   refine CJ_cutT (X:=MirS × ArrS) [1,4,5,8,9,10,11,12,13,14,25,26,27,28,29,30,31,32,33,34,35,36,37,38,39,40,41,42,43,44,45,46,47,48,49,50,51,52,53,54,55,56,57,58,59,60,61,62,63,64,65,66,67,68,69,70,71,72,73,74,75,76,77,78,79,80,81,82,83,84,85,86,87,88,89,90] (fun a13=>([] : Slots)) (fun a13 R=>MirP bs bm a13.1::Arr bs a13.2::R) (fun a13=>y10 = .inl a13) (Dels.cons del0 (Dels.cons del0 Dels.nil)) ?_ ?_
   ·
    refine CJ_block <| CJ_loopR (X:=Nat × MirS × ArrS × Int × Nat) [1,4,5,8,9,10,11,12,13,14,25,26,27,28,29,30,31,32,33,34,35,36,37,38,39,40,41,42,43,44,45,46,47,48,49,50,51,52,53,54,55,56,57,58,59,60,61,62,63,64,65,66,67,68,69,70,71,72,73,74,75,76,77,78,79,80,81,82,83,84,85,86,87,88,89,90] (fun ⟨n,x14,x15,x16,x17⟩=>([(1,.int .i64 x16),(25,.int .i64 (((x17 : Nat) : Int)))] : Slots)) (fun ⟨n,x14,x15,x16,x17⟩ R=>MirP bs bm x14::Arr bs x15::R) (fun ⟨n,x14,x15,x16,x17⟩=>mirror_Mirror_Resync_l1 r4 n x14 x15 x16 x17=some y10) (fun ⟨n,x14,x15,x16,x17⟩=>n) ⟨FUEL,m,s,n_1,0⟩ ?_ ?_ eR ?_
    · exact hl8
    · exact ⟨rfl,rfl,True.intro⟩
    ·
     rintro ⟨n,x14,x15,x16,x17⟩ h
     cases n with
     | zero=>exact none_e h
     | succ n => ?_
     replace h : mirror_Mirror_Resync_l1_b r4 (mirror_Mirror_Resync_l1 r4 n) x14 x15 x16 x17=some y10 := h
     unfold mirror_Mirror_Resync_l1_b at h
     show CJ _ _ _ _ _ (([(1,.int .i64 x16),(25,.int .i64 (((x17 : Nat) : Int)))] : Slots) ++ forget _ _) (MirP bs bm x14::Arr bs x15::_)
     refine sR <| oP (P_lss (a:=((x17 : Nat) : Int)) (b:=((r4.length : Nat) : Int)) rfl rfl) rfl <| nT <| CJ_seq <| CJ_condP rfl bT_dec (fun hg3 => ?_) (fun hg3 => ?_)
     ·
      replace h := ite_t hg3 h
      refine kT <| CJ_seq <| CJ_block <| sR <| oV (V_index (i:=x17) rfl rfl rfl (by omega) foc2 (Reads.sl _ _ _) Tryz.runUnderlying45 Tryz.sizeOf3) rfl <| oV (V_loadE rfl rfl (by omega) foc2 (Reads.sl _ _ _) rfl rfl Tryz.isAgg3) rfl <| oA rfl rfl <| nT <| CJ_seq <| CJ_seq <| AJ_startH 4096 (by kernel_rfl) rfl <| aN 0 1 rfl rfl (P_move rfl) rfl <| aV 1 3 rfl rfl (GY_none rfl) eR (V_load rfl foc3 rfl Tryz.isAgg41) rfl <| aN 2 7 rfl rfl (P_nilCheck rfl) rfl <| aN 3 15 rfl rfl (P_fieldAddr rfl ⟨_,_,_,Tryz.runUnderlying119,rfl,rfl,Tryz.sizeOf3,rfl⟩) rfl <| aV 4 31 rfl rfl (GY_none rfl) eR (VJ_entX (Ent.transX (t0_ eR) (MirP_open (l:=x14))) (fun _=>V_load rfl foc0 rfl Tryz.isAgg3)) rfl ?_
      obtain ⟨hg4,h⟩ := grd_Ie h
      refine aN 5 63 rfl rfl (P_mul (a:=(r4.getD x17 0)) (b:=x14.region) rfl rfl hg4) rfl <| aV 6 127 rfl rfl (GY_none rfl) eR (V_load rfl foc3 rfl Tryz.isAgg41) rfl <| aN 7 255 rfl rfl (P_nilCheck rfl) rfl <| aN 8 511 rfl rfl (P_fieldAddr rfl ⟨_,_,_,Tryz.runUnderlying119,rfl,rfl,Tryz.sizeOf3,rfl⟩) rfl <| aV 9 1023 rfl rfl (GY_none rfl) eR (VJ_entX (Ent.transX (t0_ eR) (MirP_open (l:=x14))) (fun _=>V_load rfl foc0 rfl Tryz.isAgg3)) rfl ?_
      obtain ⟨hg5,h⟩ := grd_Ie h
      refine aN 10 2047 rfl rfl (P_add (a:=((r4.getD x17 0) * x14.region)) (b:=x14.copied) rfl rfl hg5) rfl <| AJ_op 11 4095 rfl (by kernel_rfl) rfl (GY_none rfl) <| O_alloc Tryz.zeroValue3 rfl rfl fun b18=>⟨fun _=>(t1_ (t1_ (t1_ (t1_ (eD eR))))),?_⟩
      refine AJ_op 12 8191 rfl (by kernel_rfl) rfl (GY_none rfl) <| O_store rfl rfl foc0 rfl rfl Tryz.sizeOf3 <| ⟨fun h=>absurd h (by decide),?_⟩
      refine aD ?_
      obtain ⟨y21,hl19,hK20⟩ := seq_e h
      refine CJ_cutT (X:=Int × MirS × ArrS) [1,4,5,9,10,11,12,13,40,41,42,43,44,45,46,47,48,49,50,51,52,53,54,55,56,57,58,59,60,61,62,63,64,65,66,67,68,69,70,71,72,73,74,75] (fun a25=>([(1,.int .i64 a25.1)] : Slots)) (fun a25 R=>MirP bs bm a25.2.1::Arr bs a25.2.2::R) (fun a25=>y21 = .inl a25) (Dels.cons del1 (Dels.cons del1 (Dels.cons del0 Dels.nil))) ?_ ?_
      ·
       refine CJ_block <| CJ_loopR (X:=Nat × MirS × ArrS × Int × Int × Nat) [1,4,5,9,10,11,12,13,40,41,42,43,44,45,46,47,48,49,50,51,52,53,54,55,56,57,58,59,60,61,62,63,64,65,66,67,68,69,70,71,72,73,74,75] (fun ⟨n,x26,x27,x28,x29,pb30⟩=>([(1,.int .i64 x28),(9,ptr pb30 0)] : Slots)) (fun ⟨n,x26,x27,x28,x29,pb30⟩ R=>MirP bs bm x26::Arr bs x27::blk pb30 3 [.int .i64 x29]::R) (fun ⟨n,x26,x27,x28,x29,pb30⟩=>mirror_Mirror_Resync_l2 r4 x17 n x26 x27 x28 x29=some y21) (fun ⟨n,x26,x27,x28,x29,pb30⟩=>n) ⟨FUEL,x14,x15,x16,(((r4.getD x17 0) * x14.region) + x14.copied),b18⟩ ?_ ?_ (t1_ (t1_ eR)) ?_
       · exact hl19
       · exact ⟨rfl,rfl,True.intro⟩
       ·
        rintro ⟨n,x26,x27,x28,x29,pb30⟩ h
        cases n with
        | zero=>exact none_e h
        | succ n => ?_
        replace h : mirror_Mirror_Resync_l2_b r4 x17 (mirror_Mirror_Resync_l2 r4 x17 n) x26 x27 x28 x29=some y21 := h
        unfold mirror_Mirror_Resync_l2_b at h
        show CJ _ _ _ _ _ (([(1,.int .i64 x28),(9,ptr pb30 0)] : Slots) ++ forget _ _) (MirP bs bm x26::Arr bs x27::blk pb30 3 [.int .i64 x29]::_)
        refine CJ_seq <| CJ_seq <| AJ_startH 0 (by kernel_rfl) rfl <| aV 0 1 rfl rfl (GY_none rfl) eR (V_load rfl foc2 rfl Tryz.isAgg3) rfl <| aV 1 3 rfl rfl (GY_none rfl) eR (V_load rfl foc4 rfl Tryz.isAgg41) rfl <| aN 2 7 rfl rfl (P_move rfl) rfl ?_
        obtain ⟨r31,hr32,h⟩ := bind_e h
        refine AJ_op 3 15 rfl (by kernel_rfl) rfl (GY_none rfl) <| O_call (L_mirror_Mirror_end hr32) rfl Tryz.call59 (Dels.cons del0 (Dels.cons del0 Dels.nil)) rfl fun _ _=>⟨fun _=>eR,?_⟩
        refine aN 4 31 rfl rfl (P_lss (a:=x29) (b:=r31) rfl rfl) rfl <| aD <| CJ_condP rfl bT_dec (fun hg6 => ?_) (fun hg6 => ?_)
        ·
         replace h := ite_t hg6 h
         refine kT <| CJ_seq <| CJ_block <| CJ_seq <| sR <| oM rfl rfl <| oP (P_eql (a:=x28) (b:=(0 : Int)) rfl rfl) rfl <| nT <| CJ_condP rfl bT_dec (fun hg7 => ?_) (fun hg7 => ?_)
         ·
          replace h := ite_t hg7 h
          refine CJ_exit <| QJ_then_exit <| QJ_block_other rfl <| QJ_then_exit <| QJ_round_exit <| QJ_block_other rfl <| QJ_then_exit <| QJ_block_other rfl <| QJ_then_exit <| QJ_round_exit <| QJ_block_here ?_
          have hE := Option.some.inj h
          replace hE := seq_inr hK20 hE.symm
          exact cR (x26,x27) hE.symm True.intro (t0_ (t0_ (t1_ (t1_ (eD eR)))))
         ·
          replace h := ite_f hg7 h
          refine kT <| sR <| oM rfl rfl ?_
          obtain ⟨hg8,h⟩ := grd_Ie h
          refine oP (P_sub (a:=x28) (b:=(1 : Int)) rfl rfl hg8) rfl <| oA rfl rfl <| nT <| sR <| oV (V_load rfl foc4 rfl Tryz.isAgg41) rfl <| oV (V_load rfl foc2 rfl Tryz.isAgg3) rfl ?_
          obtain ⟨r33,hr34,h⟩ := bind_e h
          refine oO <| O_call (L_mirror_Mirror_fetch hr34) rfl Tryz.call60 (Dels.cons del0 (Dels.cons del0 Dels.nil)) rfl fun X35 _=>oM rfl rfl <| oP (P_extract rfl rfl) rfl <| oP (P_extract rfl rfl) rfl <| oP (P_extract (v:=X35.v) rfl rfl) rfl <| oP (P_extract rfl rfl) rfl <| oO <| O_alloc Tryz.zeroValue23 rfl rfl fun b37=>oO <| O_alloc Tryz.zeroValue3 rfl rfl fun b38=>oO <| O_store rfl rfl foc1 rfl rfl Tryz.sizeOf23 <| oO <| O_store rfl rfl foc0 rfl rfl Tryz.sizeOf3 <| oA rfl rfl <| oA rfl rfl <| RJ_nil <| QJ_ent (t0_ (t0_ (t0_ (t0_ (t1_ (t1_ (t1_ (eD eR)))))))) <| QJ_then <| CJ_seq <| sR <| oM rfl rfl <| oP (P_eql (a:=r33.2.2.2.1) (b:=(0 : Int)) rfl rfl) rfl <| nT ?_
          obtain ⟨y41,hl39,hK40⟩ := bind_c h
          refine CJ_cutT (X:=Int × MirS × ArrS) [13,61,62,63,64] (fun a45=>([(13,.int .i64 a45.1)] : Slots)) (fun a45 R=>MirP bs bm a45.2.1::Arr bs a45.2.2::R) (fun a45=>y41=a45) (Dels.cons del2 (Dels.cons del2 Dels.nil)) ?_ ?_
          ·
           have h := hl39
           refine CJ_condP rfl bT_dec (fun hg9 => ?_) (fun hg9 => ?_)
           ·
            replace h := ite_t hg9 h
            refine CJ_region <| oV (V_load rfl foc6 rfl Tryz.isAgg41) rfl <| oP (P_makeFunc rfl rfl) rfl <| oP (P_makeFunc rfl rfl) rfl ?_
            obtain ⟨r46,hr47,h⟩ := bind_e h
            exact oO <| O_call (L_mirror_Mirror_each__mirror_Mirror_Resync_1 hr47) rfl Tryz.call61 (Dels.cons del2 (Dels.cons del0 (Dels.cons del4 (Dels.cons del2 (Dels.cons del0 (Dels.cons del0 Dels.nil)))))) rfl fun _ _=>oA rfl rfl <| RJ_nil <| cR (r46.1,r46.2.1,r46.2.2) (Option.some.inj h).symm ⟨rfl,True.intro⟩ (t0_ (t4_ (t0_ (t2_ (t1_ (t1_ eR))))))
           ·
            replace h := ite_f hg9 h
            exact CJ_skip <| cR (r33.2.2.2.1,r33.2.2.2.2,x27) (Option.some.inj h).symm ⟨rfl,True.intro⟩ (t2_ (t2_ eR))
          ·
           rintro a45 hy48
           replace h := bindK_at hK40 hy48
           show CJ _ _ _ _ _ (([(13,.int .i64 a45.1)] : Slots) ++ forget _ _) (MirP bs bm a45.2.1::Arr bs a45.2.2::_)
           refine CJ_seq <| sR <| oM rfl rfl <| oP (P_neq (a:=a45.1) (b:=(0 : Int)) rfl rfl) rfl <| RJ_nil <| QJ_ent (t0_ (t0_ (t2_ (t2_ (t2_ (eD (eD eR))))))) <| QJ_then <| CJ_condP rfl bT_dec (fun hg10 => ?_) (fun hg10 => ?_)
           ·
            replace h := ite_t hg10 h
            refine sR <| oM rfl rfl <| oA rfl rfl <| oA rfl rfl <| nT <| CJ_ret <| QJ_then_ret <| QJ_block_ret <| QJ_then_ret <| QJ_round_ret <| QJ_block_ret <| QJ_then_ret <| QJ_block_ret <| QJ_then_ret <| QJ_round_ret <| QJ_block_ret <| QJ_then_ret <| QJ_scope_ret ?_
            have hE := Option.some.inj h
            replace hE := seq_inr hK20 hE.symm
            replace hE := seq_inr hK9 hE.symm
            subst hE
            exact fE (res2 Tryz.results27 rfl rfl) () (t0_ (t0_ (eD (eD (eD eR)))))
           ·
            replace h := ite_f hg10 h
            refine kT <| CJ_entX (Ent.transX (t0_ eR) (MirP_open (l:=a45.2.1))) fun oc49=>CJ_pure (fun h hh=>Rs_len (stars_perm (del2 (A:=Rs (DevP bs) (a45.2.1.legs.map mlegS.dev) oc49.2.1)).out h hh)) fun hdl51=>lC del1 fun hlen52 => ?_
            rw [mk_mleg_len (by have := hdl51; simpa using this)] at hlen52
            refine lC del4 fun hlen53=>CJ_region <| oV (V_load rfl foc8 rfl Tryz.isAgg41) rfl <| oP (P_nilCheck rfl) rfl <| oP (P_fieldAddr rfl ⟨_,_,_,Tryz.runUnderlying119,rfl,rfl,Tryz.sizeOf3,rfl⟩) rfl <| oV (V_load rfl foc0 rfl Tryz.isAgg3) rfl ?_
            obtain ⟨hg11,h⟩ := grd_Ie h
            refine oP (P_add (a:=a45.2.1.copied) (b:=(1 : Int)) rfl rfl hg11) rfl <| oP (P_nilCheck rfl) rfl <| oP (P_fieldAddr rfl ⟨_,_,_,Tryz.runUnderlying119,rfl,rfl,Tryz.sizeOf3,rfl⟩) rfl <| oO <| O_store rfl rfl foc0 rfl rfl Tryz.sizeOf3 <| RJ_nil <| QJ_ent (Ent.trans eR (MirP_mk (v0:=a45.2.1.legs) (v1:=a45.2.1.log) (v2:=a45.2.1.hasLog) (v3:=a45.2.1.logState) (v4:=a45.2.1.size) (v5:=a45.2.1.region) (v6:=a45.2.1.dirty) (v7:=(a45.2.1.copied + (1 : Int))) (h0:=oc49.1) (h1:=oc49.2.1) (h2:=oc49.2.2.1) (h3:=oc49.2.2.2))) <| QJ_block_normal <| QJ_then <| CJ_seq <| sR <| oV (V_load rfl foc2 rfl Tryz.isAgg3) rfl <| nT <| CJ_region <| oO <| O_alloc Tryz.zeroValue3 rfl rfl fun b54=>oO <| O_store rfl rfl foc0 rfl rfl Tryz.sizeOf3 <| nT <| CJ_region <| oV (V_load rfl foc0 rfl Tryz.isAgg3) rfl ?_
            obtain ⟨hg12,h⟩ := grd_Ie h
            exact oP (P_add (a:=x29) (b:=(1 : Int)) rfl rfl hg12) rfl <| oO <| O_store rfl rfl foc0 rfl rfl Tryz.sizeOf3 <| RJ_nil <| nR ⟨n, { a45.2.1 with copied := (a45.2.1.copied + (1 : Int)) },a45.2.2,(x28 - (1 : Int)),(x29 + (1 : Int)),b54⟩ h ⟨rfl,rfl,True.intro⟩ (t1_ (t1_ (t0_ (t1_ (t1_ (eD eR))))))
        ·
         replace h := ite_f hg6 h
         exact CJ_exit <| QJ_then_exit <| QJ_round_exit <| QJ_block_here <| cR (x28,x26,x27) (Option.some.inj h).symm ⟨rfl,True.intro⟩ (t0_ (t0_ (t1_ (t1_ (eD eR)))))
      ·
       rintro a25 hy55
       replace h := seq_inl hK20 hy55
       show CJ _ _ _ _ _ (([(1,.int .i64 a25.1)] : Slots) ++ forget _ _) (MirP bs bm a25.2.1::Arr bs a25.2.2::_)
       refine CJ_seq <| sR <| oV (V_load rfl foc3 rfl Tryz.isAgg41) rfl ?_
       obtain ⟨r56,hr57,h⟩ := bind_e h
       refine oO <| O_call (L_mirror_Mirror_others hr57) rfl Tryz.call64 (Dels.cons del0 (Dels.cons del0 Dels.nil)) rfl fun _ _=>oA rfl rfl <| nT <| sR <| oM rfl rfl <| oP (P_neq (a:=r56.1) (b:=(0 : Int)) rfl rfl) rfl <| nT <| CJ_condP rfl bT_dec (fun hg13 => ?_) (fun hg13 => ?_)
       ·
        replace h := ite_t hg13 h
        refine sR <| oM rfl rfl <| oA rfl rfl <| oA rfl rfl <| nT <| CJ_ret <| QJ_then_ret <| QJ_block_ret <| QJ_then_ret <| QJ_round_ret <| QJ_block_ret <| QJ_then_ret <| QJ_scope_ret ?_
        have hE := Option.some.inj h
        replace hE := seq_inr hK9 hE.symm
        subst hE
        exact fE (res2 Tryz.results27 rfl rfl) () (t0_ (t0_ (eD (eD eR))))
       ·
        replace h := ite_f hg13 h
        refine kT <| CJ_entX (Ent.transX (t0_ eR) (MirP_open (l:=r56.2.1))) fun oc58=>CJ_pure (fun h hh=>Rs_len (stars_perm (del2 (A:=Rs (DevP bs) (r56.2.1.legs.map mlegS.dev) oc58.2.1)).out h hh)) fun hdl60=>lC del1 fun hlen61 => ?_
        rw [mk_mleg_len (by have := hdl60; simpa using this)] at hlen61
        refine lC del4 fun hlen62=>AJ_start [blk bm 119 [(Sl3.v oc58.1),oval r56.2.1.log oc58.2.2.1,.bool r56.2.1.hasLog,.int .i64 r56.2.1.logState,.int .i64 r56.2.1.size,.int .i64 r56.2.1.region,(Sl3.v oc58.2.2.2),.int .i64 r56.2.1.copied],sl tymlegH (Sl3.v oc58.1) (mk_mleg r56.2.1.legs oc58.2.1),Rs (DevP bs) (r56.2.1.legs.map mlegS.dev) oc58.2.1,optP (LogP bs oc58.2.2.1) r56.2.1.log,Arr bs r56.2.2,sl tyI X6.v r4,blk b1 41 [ptr bm 0]] 1024 (by kernel_rfl) rfl <| aV 0 1 rfl rfl (GY_none rfl) (t0_ (t0_ (t0_ (t0_ (t1_ (t1_ (t1_ Ent.done))))))) (V_load rfl foc6 rfl Tryz.isAgg41) rfl <| aN 1 3 rfl rfl (P_nilCheck rfl) rfl <| aN 2 7 rfl rfl (P_fieldAddr rfl ⟨_,_,_,Tryz.runUnderlying119,rfl,rfl,Tryz.sizeOf34,rfl⟩) rfl <| aV 3 15 rfl rfl (GY_none rfl) (t0_ (t0_ (t0_ (t0_ (t1_ (t1_ (t1_ Ent.done))))))) (V_load rfl foc0 rfl Tryz.isAgg34) rfl <| aN 4 31 rfl rfl (P_move rfl) rfl <| aV 5 63 rfl rfl (GY_none rfl) (t0_ (t0_ (t0_ (t0_ (t1_ (t1_ (t1_ Ent.done))))))) (V_load rfl foc6 rfl Tryz.isAgg41) rfl ?_
        obtain ⟨hg14,h⟩ := grd_de h
        refine AJ_op 6 127 rfl (by kernel_rfl) rfl (GY_none rfl) <| OJ_V (V_index (i:=((r4.getD x17 0)).toNat) rfl rfl (Int.toNat_of_nonneg (hg14.1)).symm (by omega) foc4 (Reads.sl _ _ _) Tryz.runUnderlying34 Tryz.sizeOf4) rfl <| ⟨fun _=>(t0_ (t0_ (t0_ (t0_ (t1_ (t1_ (t1_ Ent.done))))))),?_⟩
        refine AJ_op 7 255 rfl (by kernel_rfl) rfl (GY_none rfl) <| O_storeE (x' := false) rfl rfl rfl (by omega) foc4 rfl rfl rfl Tryz.sizeOf4 <| ⟨fun _=>(t0_ (t0_ (t0_ (t0_ (t1_ (t1_ (t1_ Ent.done))))))),?_⟩
        refine aN 8 511 rfl rfl (P_nilCheck rfl) rfl <| aN 9 1023 rfl rfl (P_fieldAddr rfl ⟨_,_,_,Tryz.runUnderlying119,rfl,rfl,Tryz.sizeOf3,rfl⟩) rfl <| AJ_op 10 2047 rfl (by kernel_rfl) rfl (GY_none rfl) <| O_store rfl rfl foc0 rfl rfl Tryz.sizeOf3 <| ⟨fun h=>absurd h (by decide),?_⟩
        refine AJ_done (by kernel_rfl) <| QJ_ent (Ent.trans eR (MirP_mk (v0:=r56.2.1.legs) (v1:=r56.2.1.log) (v2:=r56.2.1.hasLog) (v3:=r56.2.1.logState) (v4:=r56.2.1.size) (v5:=r56.2.1.region) (v6:=(r56.2.1.dirty.set (((r4.getD x17 0)).toNat) false)) (v7:=(0 : Int)) (h0:=oc58.1) (h1:=oc58.2.1) (h2:=oc58.2.2.1) (h3:=oc58.2.2.2))) <| QJ_block_normal <| QJ_then <| CJ_region ?_
        obtain ⟨hg15,h⟩ := grd_Ne h
        exact oP (PJ_eq (P_add (a:=((x17 : Nat) : Int)) (b:=(1 : Int)) rfl rfl (nat_in hg15)) rfl) rfl <| oM rfl rfl <| RJ_nil <| nR ⟨n, { r56.2.1 with dirty := (r56.2.1.dirty.set (((r4.getD x17 0)).toNat) false),copied := (0 : Int) },r56.2.2,a25.1,(x17 + 1)⟩ h ⟨rfl,rfl,True.intro⟩ eR
     ·
      replace h := ite_f hg3 h
      exact CJ_exit <| QJ_then_exit <| QJ_round_exit <| QJ_block_here <| cR (x14,x15) (Option.some.inj h).symm True.intro eR
   ·
    rintro a13 hy63
    replace h := seq_inl hK9 hy63
    show CJ _ _ _ _ _ (([] : Slots) ++ forget _ _) (MirP bs bm a13.1::Arr bs a13.2::_)
    refine sR <| oV (V_load rfl foc3 rfl Tryz.isAgg41) rfl ?_
    obtain ⟨r64,hr65,h⟩ := bind_e h
    refine oO <| O_call (L_mirror_Mirror_rest hr65) rfl Tryz.call65 (Dels.cons del0 (Dels.cons del0 Dels.nil)) rfl fun _ _=>oA rfl rfl <| oA rfl rfl <| nT <| CJ_ret <| QJ_scope_ret ?_
    cases h
    exact fE (res2 Tryz.results27 rfl rfl) () (t0_ (t0_ (eD (eD eR))))
end Go.Proofs
namespace Go.Proofs
open Go.VG
structure MC where
  L : Nat
  sz : Nat
  rg : Nat
  lg : Bool
  hL : 2≤L∧L≤3
  hs : 1≤sz∧sz≤12
  hr : 1≤rg∧rg≤4
def MC.ns (C : MC) : List Nat := List.replicate C.L C.sz ++ [3]
def MC.R (C : MC) : Nat := (C.sz - 1) / C.rg + 1
section
variable {C : MC} {K a i : Nat} {s : ArrS} {v : UInt64}
theorem MC.len : C.ns.length=C.L + 1 := by simp [MC.ns]
theorem MC.leg (h : i < C.L) : C.ns.getD i 0=C.sz := by
  unfold MC.ns
  simp only [List.getD,List.getElem?_append,List.length_replicate,h,if_true,List.getElem?_replicate]; rfl
theorem MC.log : C.ns.getD C.L 0=3 := by
  unfold MC.ns
  simp [List.getD,List.getElem?_append]
theorem MC.hR : 1≤C.R∧C.R≤12 := by
  have h1 := C.hs
  have h2 : (C.sz - 1) / C.rg≤C.sz - 1 := Nat.div_le_self _ _
  unfold MC.R
  generalize (C.sz - 1) / C.rg=q at h2
  omega
theorem MC.reg (h : a < C.sz) : a / C.rg < C.R := by
  have h2 : a / C.rg≤(C.sz - 1) / C.rg := Nat.div_le_div_right (by omega)
  unfold MC.R
  exact Nat.lt_succ_of_le h2
theorem ArrOk.fzM (h : ArrOk C.ns K s) (hdn : s.down=false) (hi : i < C.ns.length) (ha : a < C.ns.getD i 0) (hm : miss s i=true) : wrC s i a=6∧flC s i=6 := by
  obtain ⟨h1,h2,h3,h4,h5⟩ := h.chk hdn hi ha
  rw [hm] at h4
  exact ⟨by simp [wrC,fz,h1,h2,h3,h4],by simp [flC,fz,h1,h2,h4]⟩
theorem leg_rd (h : ArrOk C.ns K s) (hdn : s.down=false) (hi : i < C.L) (ha : a < C.sz) (hm : miss s i=false) : (xL i C.sz).rd s (a : Int)=some (now s i a,0) :=
  log_rd (by rw [MC.len]; omega) (MC.leg hi) (by have := C.hs; omega) h hdn hm ha
theorem leg_rdM (h : ArrOk C.ns K s) (hdn : s.down=false) (hi : i < C.L) (ha : a < C.sz) (hm : miss s i=true) : ∃ w,(xL i C.sz).rd s (a : Int)=some (w,6) := by
  have h1 := h.rdM (d:=i) (a:=a) hdn (by rw [MC.len]; omega) (by rw [MC.leg hi]; exact ha) hm
  have h2 := C.hs
  rw [span_rd (by omega) (by omega),if_pos (by omega)]
  have e : ((0 : Nat) : Int) + (a : Int)=((a : Nat) : Int) := by omega
  rw [e,h1]; exact ⟨_,rfl⟩
theorem leg_wr (h : ArrOk C.ns K s) (hK : K≤1000000) (hi : i < C.L) (ha : a < C.sz) : (xL i C.sz).wr s (a : Int) v=some (wrR s i a,wrS s i a v) :=
  log_wr (by rw [MC.len]; omega) (MC.leg hi) (by have := C.hs; omega) h hK ha
theorem wrM (h : ArrOk C.ns K s) (hdn : s.down=false) (hi : i < C.ns.length) (ha : a < C.ns.getD i 0) (hm : miss s i=true) : wrR s i a=6∧wrS s i a v=s := by
  have h1 := (h.fzM hdn hi ha hm).1
  refine ⟨?_,?_⟩
  · unfold wrR; rw [h1,if_pos (by decide)]
  · unfold wrS; rw [if_pos (by rw [h1]; decide)]
theorem leg_wrM (h : ArrOk C.ns K s) (hdn : s.down=false) (hK : K≤1000000) (hi : i < C.L) (ha : a < C.sz) (hm : miss s i=true) : (xL i C.sz).wr s (a : Int) v=some (6,s) := by
  obtain ⟨h1,h2⟩ := wrM (v:=v) h hdn (by rw [MC.len]; omega : i < C.ns.length) (by rw [MC.leg hi]; exact ha) hm
  rw [leg_wr h hK hi ha,h1,h2]
theorem leg_fl (h : ArrOk C.ns K s) (hK : K≤1000000) (hi : i < C.L) : (xL i C.sz).fl s=some (flC s i,flS s i) :=
  log_fl (by rw [MC.len]; omega) (MC.leg hi) (by have := C.hs; omega) h hK
theorem leg_flM (h : ArrOk C.ns K s) (hdn : s.down=false) (hK : K≤1000000) (hi : i < C.L) (hm : miss s i=true) : (xL i C.sz).fl s=some (6,s) := by
  have h1 := (h.fzM hdn (by rw [MC.len]; omega : i < C.ns.length) (a:=0) (by rw [MC.leg hi]; have := C.hs; omega) hm).2
  rw [leg_fl h hK hi,h1,flS_bad (by rw [h1]; decide)]
end
def failM (m : MirS) (i : Nat) : MirS := { m with legs := m.legs.set i { m.legs.getD i mleg_x0 with state := 1 } }
abbrev stM (m : MirS) (i : Nat) : Int := (m.legs.getD i mleg_x0).state
section
variable {m : MirS} {s : ArrS} {i j : Nat} {e : Int}
theorem getD_setM {l : List mlegS} {i j : Nat} {x : mlegS} (h : i < l.length) : (l.set i x).getD j mleg_x0=if j=i then x else l.getD j mleg_x0 := by
  simp only [List.getD,List.getElem?_set]
  by_cases e : i=j
  · subst e; simp [h]
  · rw [if_neg e,if_neg (fun x=>e x.symm)]
theorem failM_len : (failM m i).legs.length=m.legs.length := by simp [failM]
theorem failM_at (h : i < m.legs.length) : (failM m i).legs.getD j mleg_x0=if j=i then { m.legs.getD i mleg_x0 with state := 1 } else m.legs.getD j mleg_x0 := getD_setM h
theorem note_ok (h : e=0∨e=5) {k : Int} : mirror_Mirror_note m k e s=some (e,m) := by unfold mirror_Mirror_note; rw [if_pos h]
theorem note_leg (h0 : e≠0) (h5 : e≠5) (hi : i < m.legs.length) (hst : stM m i=0) : mirror_Mirror_note m ((i : Nat) : Int) e s=some (0,failM m i) := by
  unfold mirror_Mirror_note
  have hg : decide (0≤((i : Nat) : Int)∧((i : Nat) : Int) < (m.legs.length : Int))=true := decide_eq_true ⟨by omega,by omega⟩
  rw [if_neg (by rintro (h | h); exact h0 h; exact h5 h),if_neg (by omega),grd_t hg,grd_t hg,Int.toNat_natCast]
  unfold stM at hst
  rw [if_neg (by rw [hst]; decide),grd_t hg]; rfl
theorem note_log (h0 : e≠0) (h5 : e≠5) : mirror_Mirror_note m ((m.legs.length : Nat) : Int) e s=some (0, { m with logState := 1 }) := by
  unfold mirror_Mirror_note
  rw [if_neg (by rintro (h | h); exact h0 h; exact h5 h),if_pos rfl]
def failsL (m : MirS) (n : Nat) : List Int := ((List.range n).filter fun i=>decide (stM m i=1)).map fun i=>((i : Nat) : Int)
def failedL (m : MirS) : List Int := failsL m m.legs.length ++ if m.hasLog=true∧m.logState=1 then [((m.legs.length : Nat) : Int)] else []
theorem failsL_succ {n : Nat} : failsL m (n + 1)=failsL m n ++ if stM m n=1 then [((n : Nat) : Int)] else [] := by
  unfold failsL
  rw [List.range_succ,List.filter_append,List.map_append]
  congr 1
  by_cases h : stM m n=1 <;> simp [h]
theorem failsL_le {n : Nat} : (failsL m n).length≤n := by
  unfold failsL
  rw [List.length_map]
  exact Nat.le_trans (List.length_filter_le _ _) (by simp)
theorem failed_l1 (hl : m.legs.length≤6) : ∀ (N i : Nat),m.legs.length - i < N→i≤m.legs.length→mirror_Mirror_Failed_l1 m N i (failsL m i)=some (failsL m m.legs.length)
  | 0,_,h,_=>absurd h (by omega)
  | N + 1,i,h,hi=>by
    show mirror_Mirror_Failed_l1_b _ _ _ _=_
    unfold mirror_Mirror_Failed_l1_b
    by_cases hlt : i < m.legs.length
    · have hrec := failed_l1 hl N (i + 1) (by omega) (by omega)
      rw [failsL_succ] at hrec
      have hle := @failsL_le m i
      rw [if_pos (by omega)]
      by_cases hb : stM m i=1
      · rw [if_pos hb] at hrec
        rw [if_pos hb,grd_t (inLen_of (by omega)),hrec]
      · rw [if_neg hb,List.append_nil] at hrec
        rw [if_neg hb,hrec]
    · rw [if_neg (by omega)]
      have : i=m.legs.length := by omega
      rw [this]
theorem failed_eq (hl : m.legs.length≤6) : mirror_Mirror_Failed m s=some (failedL m) := by
  unfold mirror_Mirror_Failed
  have hF := fuel_big
  have h := failed_l1 hl FUEL 0 (by omega) (by omega)
  have e : failsL m 0=[] := rfl
  rw [e] at h
  rw [h]; simp only [Option.bind_some]
  have hle := @failsL_le m m.legs.length
  unfold failedL
  split
  · rw [grd_t (inLen_of (by omega))]
  · rw [List.append_nil]
theorem mem_failedL {k : Int} : k ∈ failedL m↔(∃ i : Nat,i < m.legs.length∧stM m i=1∧k=i)∨(m.hasLog=true∧m.logState=1∧k=m.legs.length) := by
  unfold failedL failsL
  rw [List.mem_append,List.mem_map]
  constructor
  · rintro (⟨i,hi,rfl⟩ | h)
    · rw [List.mem_filter,List.mem_range] at hi
      exact .inl ⟨i,hi.1,of_decide_eq_true hi.2,rfl⟩
    · split at h
      · rename_i h1; exact .inr ⟨h1.1,h1.2,List.mem_singleton.1 h⟩
      · cases h
  · rintro (⟨i,hi,h1,rfl⟩ | ⟨h1,h2,rfl⟩)
    · exact .inl ⟨i,List.mem_filter.2 ⟨List.mem_range.2 hi,decide_eq_true h1⟩,rfl⟩
    · rw [if_pos ⟨h1,h2⟩]; exact .inr (List.mem_singleton.2 rfl)
structure NF (m : MirS) : Prop where
  leg : ∀ i,i < m.legs.length→stM m i≠1
  log : ¬ (m.hasLog=true∧m.logState=1)
theorem nf_iff : failedL m=[]↔NF m := by
  constructor
  · intro h
    refine ⟨fun i hi h1 => ?_,fun h1 => ?_⟩
    · have := mem_failedL.2 (.inl ⟨i,hi,h1,rfl⟩ : (∃ i' : Nat,i' < m.legs.length∧stM m i' = 1∧((i : Nat) : Int)=i')∨_)
      rw [h] at this; cases this
    · have := (mem_failedL (m:=m)).2 (.inr ⟨h1.1,h1.2,rfl⟩)
      rw [h] at this; cases this
  · intro h
    rw [List.eq_nil_iff_forall_not_mem]
    intro k hk
    rcases mem_failedL.1 hk with ⟨i,hi,h1, -⟩ | ⟨h1,h2, -⟩
    · exact h.leg i hi h1
    · exact h.log ⟨h1,h2⟩
theorem result_eq (hl : m.legs.length≤6) : (NF m→mirror_Mirror_result m s=some 0)∧(¬ NF m→mirror_Mirror_result m s=some 18) := by
  unfold mirror_Mirror_result
  rw [failed_eq hl]; simp only [Option.bind_some]
  refine ⟨fun h => ?_,fun h => ?_⟩
  · rw [nf_iff.2 h,if_neg (by simp)]
  · rw [if_pos]
    rw [← nf_iff] at h
    have := List.length_pos_iff.2 h
    omega
end
def eachB (L : Nat) (ch : Nat→Option Bool) (act : Nat→MirS→ArrS→Option (Int × ArrS)) (rec : MirS→ArrS→Nat→Option ((MirS × ArrS) ⊕ (Int × MirS × ArrS))) (x : MirS) (y : ArrS) (i : Nat) : Option ((MirS × ArrS) ⊕ (Int × MirS × ArrS)) :=
  if (((i : Nat) : Int) < ((L : Nat) : Int)) then
    grd (decide (i < x.legs.length)) <|
    if ((x.legs.getD i mleg_x0).state=(0 : Int)) then
      Option.bind (ch i) fun r20 =>
      if r20=true then
        Option.bind (act i x y) fun r22 =>
        Option.bind (mirror_Mirror_note x (((i : Nat) : Int)) r22.1 r22.2) fun r24 =>
        if (r24.1≠(0 : Int)) then
          some (.inr (r24.1,r24.2,r22.2))
        else
          rec r24.2 r22.2 (i + 1)
      else
        rec x y (i + 1)
    else
      rec x y (i + 1)
  else
    some (.inl (x,y))
theorem each_rule {L : Nat} {ch : Nat→Option Bool} {act : Nat→MirS→ArrS→Option (Int × ArrS)} {f : Nat→MirS→ArrS→Nat→Option ((MirS × ArrS) ⊕ (Int × MirS × ArrS))} (hf : ∀ n x y i,f (n + 1) x y i=eachB L ch act (f n) x y i) {c : Nat→Bool} (hc : ∀ i,i < L→ch i=some (c i))
    (P : Nat→MirS→ArrS→Prop) (Q : MirS→ArrS→Prop) (hlen : ∀ i x y,P i x y→x.legs.length=L)
    (hstep : ∀ i x y,i < L→P i x y→stM x i=0→c i=true → ∃ e y',act i x y=some (e,y')∧(e=0∧P (i + 1) x y' ∨ e=5∧Q x y' ∨ e≠0∧e≠5∧P (i + 1) (failM x i) y'))
    (hskip : ∀ i x y,i < L→P i x y→(stM x i≠0∨c i=false)→P (i + 1) x y) :
    ∀ (N i : Nat) (x : MirS) (y : ArrS),L - i < N→i≤L→P i x y→(∃ x' y',f N x y i=some (.inl (x',y'))∧P L x' y')∨(∃ x' y',f N x y i=some (.inr (5,x',y'))∧Q x' y')
  | 0,_,_,_,h,_,_=>absurd h (by omega)
  | N + 1,i,x,y,h,hi,hp=>by
    have hrec := fun x y (hlt : i < L)=>each_rule hf hc P Q hlen hstep hskip N (i + 1) x y (by omega) (by omega)
    rw [hf]
    unfold eachB
    by_cases hlt : i < L
    · rw [if_pos (by omega),grd_t (decide_eq_true (by rw [hlen _ _ _ hp]; exact hlt))]
      by_cases hst : stM x i=0
      · rw [if_pos hst,hc i hlt]; simp only [Option.bind_some]
        by_cases hci : c i=true
        · rw [if_pos hci]
          obtain ⟨e,y',h1,h2⟩ := hstep i x y hlt hp hst hci
          rw [h1]; simp only [Option.bind_some]
          rcases h2 with ⟨rfl,h2⟩ | ⟨rfl,h2⟩ | ⟨h3,h4,h2⟩
          · rw [note_ok (.inl rfl)]; simp only [Option.bind_some]
            rw [if_neg (by decide)]; exact hrec _ _ hlt h2
          · rw [note_ok (.inr rfl)]; simp only [Option.bind_some]
            rw [if_pos (by decide)]; exact .inr ⟨_,_,rfl,h2⟩
          · rw [note_leg h3 h4 (by rw [hlen _ _ _ hp]; exact hlt) hst]; simp only [Option.bind_some]
            rw [if_neg (by decide)]; exact hrec _ _ hlt h2
        · rw [if_neg hci]; exact hrec _ _ hlt (hskip i x y hlt hp (.inr (by simpa using hci)))
      · rw [if_neg hst]; exact hrec _ _ hlt (hskip i x y hlt hp (.inl hst))
    · rw [if_neg (by omega)]
      have : i=L := by omega
      subst this
      exact .inl ⟨_,_,rfl,hp⟩
structure Fd (s : ArrS) (m m' : MirS) (i : Nat) : Prop where
  len : m'.legs.length=m.legs.length
  leg : ∀ j,j < m.legs.length→(m'.legs.getD j mleg_x0).dev=(m.legs.getD j mleg_x0).dev∧(m'.legs.getD j mleg_x0).copied=(m.legs.getD j mleg_x0).copied∧(stM m' j=stM m j∨stM m j=0∧miss s j=true∧stM m' j=1)
  oth : m' = { m with legs := m'.legs }
section
variable {s t : ArrS} {m m' : MirS} {i : Nat}
theorem Fd.refl : Fd s m m i := ⟨rfl,fun _ _=>⟨rfl,rfl,.inl rfl⟩,rfl⟩
theorem Fd.to {k : Nat} (h : Fd s m m' i) : Fd s m m' k := ⟨h.len,h.leg,h.oth⟩
theorem Fd.arr (h : Fd s m m' i) (ht : ∀ e,miss t e=miss s e) : Fd t m m' i := ⟨h.len,fun j hj=>⟨(h.leg j hj).1,(h.leg j hj).2.1,by rw [ht]; exact (h.leg j hj).2.2⟩,h.oth⟩
theorem Fd.fail {k : Nat} (h : Fd s m m' i) (hk : k < m.legs.length) (hst : stM m' k=0) (hm : miss s k=true) : Fd s m (failM m' k) (i + 1) := by
  have hk' : k < m'.legs.length := by rw [h.len]; exact hk
  refine ⟨by rw [failM_len,h.len],fun j hj => ?_,?_⟩
  · obtain ⟨h1,h2,h3⟩ := h.leg j hj
    unfold stM at h3 hst ⊢
    rw [failM_at hk']
    by_cases e : j=k
    · subst e
      rw [if_pos rfl]
      refine ⟨h1,h2,.inr ⟨?_,hm,rfl⟩⟩
      rcases h3 with h3 | ⟨h3, -, -⟩
      · rw [← h3]; exact hst
      · exact h3
    · rw [if_neg e]; exact ⟨h1,h2,h3⟩
  · have := h.oth
    unfold failM
    rw [this]
theorem Fd.trans {m'' : MirS} (h : Fd s m m' i) (h' : Fd s m' m'' i) : Fd s m m'' i := by
  refine ⟨h'.len.trans h.len,fun j hj => ?_,?_⟩
  · obtain ⟨h1,h2,h3⟩ := h.leg j hj
    obtain ⟨k1,k2,k3⟩ := h'.leg j (by rw [h.len]; exact hj)
    refine ⟨k1.trans h1,k2.trans h2,?_⟩
    rcases h3 with h3 | ⟨h3,h4,h5⟩
    · rw [h3] at k3; exact k3
    · rcases k3 with k3 | ⟨k3, -, -⟩
      · exact .inr ⟨h3,h4,by rw [k3]; exact h5⟩
      · rw [h5] at k3; cases k3
  · rw [h'.oth,h.oth]
end
end Go.Proofs
namespace Go.Proofs
open Go.VG
def SetB (C : MC) (s : ArrS) (r : Nat) : Prop := ∀ c ∈ cand s C.L 1,tb c r=true
structure LI (C : MC) (s : ArrS) (g : LogS) : Prop where
  lok : LogOk C.L 3 C.R g
  head : ∀ c ∈ cand s C.L 0,c=headL C.R
  now : Go.Proofs.now s C.L 1=g.bits.getD 0 0
  dur : ∀ r : Nat,r < C.R→(lookM g.durable (r : Int)).isSome=true→SetB C s r
structure Lg (C : MC) (K : Nat) (s t : ArrS) (p q : Nat→Prop) : Prop where
  ok : ArrOk C.ns (K + 1) t
  dn : t.down=false
  fz : s.fuse=0→t.fuse=0
  miss : ∀ e,Go.Proofs.miss t e=Go.Proofs.miss s e
  leg : ∀ e b,e < C.L→b < C.sz→Go.Proofs.now t e b=Go.Proofs.now s e b∧cand t e b=cand s e b
  set : ∀ r,r < C.R → ¬ q r→SetB C s r→SetB C t r
  bit : ∀ c ∈ cand t C.L 1, ∀ r,r < C.R→tb c r=true→p r ∨ ∃ c' ∈ cand s C.L 1,tb c' r=true
section
variable {C : MC} {K r : Nat} {s : ArrS} {g : LogS} {p q : Nat→Prop}
theorem MC.nW1 : nW C.R=1 := by have := C.hR; unfold nW; omega
theorem Lg.refl (h : ArrOk C.ns K s) (hdn : s.down=false) : Lg C K s s p q := ⟨h.mono (by omega),hdn,id,fun _=>rfl,fun _ _ _ _=>⟨rfl,rfl⟩,fun _ _ _ h=>h,fun c hc _ _ h => .inr ⟨c,hc,h⟩⟩
theorem bitR0 {l : List UInt64} (hr : r < C.R) : bitR l r=tb (l.getD 0 0) r := by
  have := C.hR
  unfold bitR
  rw [show r / 64=0 by omega,show r % 64=r by omega]
theorem bit_set {is : Bool} {k : Nat} (hl : g.bits.length=nW C.R) (hr : r < C.R) (hk : k < C.R) : tb ((setR g.bits r is).getD 0 0) k=if k=r then is else tb (g.bits.getD 0 0) k := by
  have := C.hR
  have h1 := bitR_setR (l:=g.bits) (r:=r) (q:=k) (is:=is) (by rw [hl,MC.nW1]; omega)
  rw [bitR0 hk,bitR0 hk] at h1
  exact h1
theorem logL : C.L < C.ns.length := by rw [MC.len]; omega
theorem LI.arr {t : ArrS} (h : LI C s g) (h0 : ∀ c ∈ cand t C.L 0,c ∈ cand s C.L 0) (h1 : ∀ c ∈ cand t C.L 1,c ∈ cand s C.L 1) (hn : Go.Proofs.now t C.L 1=Go.Proofs.now s C.L 1) : LI C t g :=
  ⟨h.lok,fun c hc=>h.head c (h0 c hc),by rw [hn]; exact h.now,fun r hr hd c hc=>h.dur r hr hd c (h1 c hc)⟩
theorem mark_live (h : ArrOk C.ns K s) (hdn : s.down=false) (hK : K < 1000000) (hm : miss s C.L=false) (hg : LI C s g) (hr : r < C.R) : ∃ e g' s',regionlog_Log_Mark g (r : Int) s=some (e,g',s') ∧
    (e=0∧LI C s' g' ∧ SetB C s' r∧Lg C K s s' (fun k=>k=r) (fun _=>False)∨e=5∧s.fuse=1∧Fell C.ns K s s') := by
  have hR := C.hR
  have hns : C.ns.getD C.L 0=3 := MC.log
  have hw : 1 + nW C.R≤3 := by rw [MC.nW1]; omega
  by_cases hdur : (lookM g.durable (r : Int)).isSome=true
  · exact ⟨0,g,s,mark_dur hg.lok hr hdur,.inl ⟨rfl,hg,hg.dur r hr hdur,Lg.refl h hdn⟩⟩
  · rw [Bool.not_eq_true] at hdur
    have e0 : r / 64=0 := by omega
    rcases mark_out logL hns (by decide) hg.lok h hdn hm hK hr (by omega) hw hdur with ⟨h0,u,t,h1,h2,h3⟩ | ⟨h0,t,h1,h2⟩
    · rw [e0] at h2
      have hcand : ∀ b,b < 3→cand t C.L b=[Go.Proofs.now u C.L b] := fun b hb=>by rw [h3.cand C.L b logL (by rw [hns]; exact hb),if_pos rfl]
      have hnow : Go.Proofs.now u C.L 1=(setR g.bits r true).getD 0 0 := by rw [h2.now,if_pos ⟨rfl,rfl⟩]
      have hold : ∀ k,k < C.R→tb (g.bits.getD 0 0) k=true → ∃ c' ∈ cand s C.L 1,tb c' k=true := fun k hk hb=>⟨_,h.now_cand logL (by rw [hns]; decide),by rw [hg.now]; exact hb⟩
      have hset : ∀ k,k < C.R→SetB C s k→tb (g.bits.getD 0 0) k=true := fun k hk hs=>by rw [← hg.now]; exact hs _ (h.now_cand logL (by rw [hns]; decide))
      have hmk : ∀ k,k < C.R→(k=r∨SetB C s k)→SetB C t k := fun k hk hc c hcc=>by
        rw [hcand 1 (by decide),List.mem_singleton] at hcc
        rw [hcc,hnow,bit_set hg.lok.len hr hk]
        split
        · rfl
        · rename_i hne
          rcases hc with hc | hc
          · exact absurd hc hne
          · exact hset k hk hc
      refine ⟨0,_,t,h1,.inl ⟨rfl,⟨⟨hg.lok.x,hg.lok.reg,by rw [← hg.lok.len]; exact setR_length,nodup_setM _ _ _ hg.lok.nd⟩,fun c hc => ?_,by rw [h3.now,hnow],fun k hk hd => ?_⟩,hmk r hr (.inl rfl),?_⟩⟩
      · rw [hcand 0 (by decide),List.mem_singleton] at hc
        rw [hc,h2.now,if_neg (fun x=>by have := x.2; omega)]
        exact hg.head _ (h.now_cand logL (by rw [hns]; decide))
      · have hd' : (lookM (setM g.durable (r : Int) ()) (k : Int)).isSome=true := hd
        rw [lookM_setM] at hd'
        by_cases e : k=r
        · exact hmk k hk (.inl e)
        · rw [if_neg (by omega)] at hd'
          exact hmk k hk (.inr (hg.dur k hk hd'))
      · refine ⟨h3.ok,h3.dn,fun hf=>by rw [h3.fuse,h2.fuse,hf],fun e=>by rw [h3.miss,h2.miss],fun e b he hb => ?_,fun k hk _ hs=>hmk k hk (.inr hs),fun c hc k hk hb => ?_⟩
        · refine ⟨by rw [h3.now,h2.now,if_neg (fun x=>by have := x.1; omega)],?_⟩
          rw [h3.cand e b (by rw [MC.len]; omega) (by rw [MC.leg he]; exact hb),if_neg (by omega),h2.cand,if_neg (fun x=>by have := x.1; omega)]
        · rw [hcand 1 (by decide),List.mem_singleton] at hc
          rw [hc,hnow,bit_set hg.lok.len hr hk] at hb
          split at hb
          · rename_i e; exact .inl e
          · exact .inr (hold k hk hb)
    · exact ⟨5,_,t,h1,.inr ⟨rfl,h0,h2⟩⟩
theorem clear_live (h : ArrOk C.ns K s) (hdn : s.down=false) (hK : K < 1000000) (hm : miss s C.L=false) (hg : LI C s g) (hr : r < C.R) : ∃ e g' s',regionlog_Log_Clear g (r : Int) s=some (e,g',s') ∧
    (e=0∧LI C s' g' ∧ Lg C K s s' (fun _=>False) (fun k=>k=r)∨e=5∧s.fuse=1∧Fell C.ns K s s') := by
  have hR := C.hR
  have hns : C.ns.getD C.L 0=3 := MC.log
  have hw : 1 + nW C.R≤3 := by rw [MC.nW1]; omega
  have e0 : r / 64=0 := by omega
  rcases clear_out logL hns (by decide) hg.lok h hdn hm hK hr (by omega) hw with ⟨h0,t,h1,h2⟩ | ⟨h0,t,h1,h2⟩
  · rw [e0] at h2
    have hcand : cand t C.L 1=cand s C.L 1 ++ [(setR g.bits r false).getD 0 0] := by rw [h2.cand,if_pos ⟨rfl,rfl⟩]
    have hnow : Go.Proofs.now t C.L 1=(setR g.bits r false).getD 0 0 := by rw [h2.now,if_pos ⟨rfl,rfl⟩]
    have hold : ∀ k,k < C.R→tb (g.bits.getD 0 0) k=true → ∃ c' ∈ cand s C.L 1,tb c' k=true := fun k hk hb=>⟨_,h.now_cand logL (by rw [hns]; decide),by rw [hg.now]; exact hb⟩
    have hset : ∀ k,k < C.R→SetB C s k→tb (g.bits.getD 0 0) k=true := fun k hk hs=>by rw [← hg.now]; exact hs _ (h.now_cand logL (by rw [hns]; decide))
    have hmk : ∀ k,k < C.R → ¬ k=r→SetB C s k→SetB C t k := fun k hk hne hs c hcc=>by
      rw [hcand] at hcc
      rcases List.mem_append.1 hcc with hcc | hcc
      · exact hs c hcc
      · rw [List.mem_singleton.1 hcc,bit_set hg.lok.len hr hk,if_neg hne]; exact hset k hk hs
    refine ⟨0,_,t,h1,.inl ⟨rfl,⟨⟨hg.lok.x,hg.lok.reg,by rw [← hg.lok.len]; exact setR_length,nodup_delM _ _ hg.lok.nd⟩,fun c hc => ?_,hnow,fun k hk hd => ?_⟩,?_⟩⟩
    · rw [h2.cand,if_neg (fun x=>by have := x.2; omega)] at hc; exact hg.head c hc
    · have hd' : (lookM (delM g.durable (r : Int)) (k : Int)).isSome=true := hd
      rw [lookM_delM _ _ _ hg.lok.nd] at hd'
      by_cases e : k=r
      · rw [if_pos (by omega)] at hd'; cases hd'
      · rw [if_neg (by omega)] at hd'
        exact hmk k hk e (hg.dur k hk hd')
    · refine ⟨h2.ok,h2.dn,fun hf=>by rw [h2.fuse,hf],h2.miss,fun e b he hb => ?_,hmk,fun c hc k hk hb => ?_⟩
      · exact ⟨by rw [h2.now,if_neg (fun x=>by have := x.1; omega)],by rw [h2.cand,if_neg (fun x=>by have := x.1; omega)]⟩
      · rw [hcand] at hc
        rcases List.mem_append.1 hc with hc | hc
        · exact .inr ⟨c,hc,hb⟩
        · rw [List.mem_singleton.1 hc,bit_set hg.lok.len hr hk] at hb
          split at hb
          · cases hb
          · exact .inr (hold k hk hb)
  · exact ⟨5,_,t,h1,.inr ⟨rfl,h0,h2⟩⟩
theorem mark_miss (h : ArrOk C.ns K s) (hdn : s.down=false) (hK : K≤1000000) (hm : miss s C.L=true) (hg : LogOk C.L 3 C.R g) (hr : r < C.R) : ∃ e g',regionlog_Log_Mark g (r : Int) s=some (e,g',s)∧LogOk C.L 3 C.R g' ∧ (e=0∨e=6) := by
  have hR := C.hR
  have hns : C.ns.getD C.L 0=3 := MC.log
  have hw : 1 + nW C.R≤3 := by rw [MC.nW1]; omega
  by_cases hdur : (lookM g.durable (r : Int)).isSome=true
  · exact ⟨0,g,mark_dur hg hr hdur,hg,.inl rfl⟩
  · have e0 : r / 64=0 := by omega
    obtain ⟨w1,w2⟩ := wrM (v:=(setR g.bits r true).getD (r / 64) 0) h hdn logL (a:=1 + r / 64) (by rw [hns,e0]; decide) hm
    unfold regionlog_Log_Mark
    rw [if_neg (by rw [hg.reg]; omega),if_neg hdur,set_eq logL hns (by decide) hg h hK hr (by omega) hw,if_pos (.inr rfl)]
    simp only [Option.bind_some]
    rw [w1,w2,if_pos (by decide)]
    exact ⟨6,_,rfl,⟨hg.x,hg.reg,by rw [← hg.len]; exact setR_length,hg.nd⟩,.inr rfl⟩
theorem clear_miss (h : ArrOk C.ns K s) (hdn : s.down=false) (hK : K≤1000000) (hm : miss s C.L=true) (hg : LogOk C.L 3 C.R g) (hr : r < C.R) : ∃ g',regionlog_Log_Clear g (r : Int) s=some (6,g',s)∧LogOk C.L 3 C.R g' := by
  have hR := C.hR
  have hns : C.ns.getD C.L 0=3 := MC.log
  have hw : 1 + nW C.R≤3 := by rw [MC.nW1]; omega
  have e0 : r / 64=0 := by omega
  obtain ⟨w1,w2⟩ := wrM (v:=(setR g.bits r false).getD (r / 64) 0) h hdn logL (a:=1 + r / 64) (by rw [hns,e0]; decide) hm
  have hg' : LogOk C.L 3 C.R { g with durable := delM g.durable (r : Int) } := ⟨hg.x,hg.reg,hg.len,nodup_delM _ _ hg.nd⟩
  unfold regionlog_Log_Clear
  rw [if_neg (by rw [hg.reg]; omega),set_eq logL hns (by decide) hg' h hK hr (by omega) hw,if_neg (by rw [w1]; decide)]
  simp only [Option.bind_some]
  rw [w1,w2]
  exact ⟨_,rfl,hg'⟩
end
end Go.Proofs
set_option linter.unusedSimpArgs false
set_option maxRecDepth 20000
namespace Go.Proofs
open Go.VG
theorem CTrack_bs_29_1_0 (v0 : Int) : BuildsSlice Tryz.prog 29 1 [(0,.int .u64 v0)] 23 [.int .u64 v0] := fun w=>by kernel_rfl
theorem CTrack_bld_54_ : ∀ w,(Instr.build 54 (#[] : Array (Nat × Value))).run Tryz.prog w = .ok (.agg #[.slice none 0 0]) w := fun w=>by kernel_rfl
theorem CTrack_bld_62_0_1_2 (v0 : (Option Addr)) (v1 : Nat) (v2 : Nat) (v3 : Bool) (v4 : Int) : ∀ w,(Instr.build 62 (#[(0,.slice v0 v1 v2),(1,.bool v3),(2,.int .u64 v4)] : Array (Nat × Value))).run Tryz.prog w = .ok (.agg #[.slice v0 v1 v2,.bool v3,.int .u64 v4]) w := fun w=>by kernel_rfl
theorem CTrack_bs_52_1_0 (v0 : (Option Addr)) (v1 : Nat) (v2 : Nat) (v3 : Bool) (v4 : Int) : BuildsSlice Tryz.prog 52 1 [(0,.agg #[.slice v0 v1 v2,.bool v3,.int .u64 v4])] 62 [.slice v0 v1 v2,.bool v3,.int .u64 v4] := fun w=>by kernel_rfl
structure SecH where
  some : Sl3
  known : Bool
  value : UInt64
structure Sec where
  some : List UInt64
  known : Bool
  value : UInt64
abbrev sH0 : SecH := ⟨⟨none,0,0⟩,false,0⟩
abbrev s0 : Sec := ⟨[],false,0⟩
abbrev tySec : Ty SecH := { T := 62,sz := 3,enc := fun x=>[x.some.v,.bool x.known,.int .u64 (x.value.toNat : Int)],dflt := sH0,len := fun _=>rfl,one := fun _=>rfl,pos := by decide }
theorem ok_tySec : ElemOk Tryz.prog tySec 40 := ⟨Tryz.t62,.agg #[.slice none 0 0,.bool false,.int .u64 0],by kernel_rfl,rfl,rfl,rfl,rfl⟩
abbrev SL := List (SecH × Sec)
def ownS (p : SecH × Sec) : HP := sl tyU p.1.some.v p.2.some
abbrev SL.hs (l : SL) : List SecH := l.map Prod.fst
structure SOk (l : SL) (t : List Sec) : Prop where
  ds : l.map Prod.snd=t
  ag : ∀ p ∈ l,p.1.known=p.2.known∧p.1.value=p.2.value
  cnt : t.length≤65536
theorem SOk.len {l : SL} {t : List Sec} (h : SOk l t) : (SL.hs l).length=t.length := by rw [← h.ds]; simp
theorem SOk.at {l : SL} {t : List Sec} (h : SOk l t) {i : Nat} (hi : i < t.length) : ((SL.hs l).getD i sH0).known=(t.getD i s0).known∧((SL.hs l).getD i sH0).value=(t.getD i s0).value := by
  have hi' : i < l.length := by rw [← h.ds] at hi; simpa using hi
  rw [← h.ds]
  show ((l.map Prod.fst).getD i (Prod.fst (sH0,s0))).known=((l.map Prod.snd).getD i (Prod.snd (sH0,s0))).known∧((l.map Prod.fst).getD i (Prod.fst (sH0,s0))).value=((l.map Prod.snd).getD i (Prod.snd (sH0,s0))).value
  rw [getD_map,getD_map]
  have : l.getD i (sH0,s0)=l[i] := by simp [List.getD,hi']
  rw [this]
  exact h.ag _ (List.getElem_mem hi')
theorem SOk.set {l : SL} {t : List Sec} (h : SOk l t) (i : Nat) (x : SecH × Sec) (hx : x.1.known=x.2.known∧x.1.value=x.2.value) : SOk (l.set i x) (t.set i x.2) where
  ds := by rw [List.map_set,h.ds]
  ag := fun p hp=>by
    rcases List.mem_or_eq_of_mem_set hp with hp | rfl
    · exact h.ag p hp
    · exact hx
  cnt := by simpa using h.cnt
def Trk (b : Nat) (t : List Sec) : HP := ex fun c : Sl3 × SL=>star [pur (SOk c.2 t),blk b 54 [c.1.v],sl tySec c.1.v (SL.hs c.2),VG.Own ownS c.2]
theorem Trk_open {b : Nat} {t : List Sec} {R : List HP} : EntX (Trk b t::R) fun c : Sl3 × SL=>pur (SOk c.2 t)::blk b 54 [c.1.v]::sl tySec c.1.v (SL.hs c.2)::VG.Own ownS c.2::R :=
  fun _ hh=>let ⟨c,hc⟩ := stars_ex.1 hh; ⟨c,stars_star.1 hc⟩
theorem Trk_close {b : Nat} {t : List Sec} {sv : Sl3} {l : SL} (h : SOk l t) {R : List HP} : Ent (blk b 54 [sv.v]::sl tySec sv.v (SL.hs l)::VG.Own ownS l::R) (Trk b t::R) :=
  fun _ hh=>stars_ex.2 ⟨(sv,l),stars_star.2 (stars_pur.2 ⟨h,hh⟩)⟩
theorem OwnS_open {l : SL} {t : List Sec} (h : SOk l t) (i : Nat) (hi : i < t.length) {R : List HP} : Ent (VG.Own ownS l::R) (sl tyU ((SL.hs l).getD i sH0).some.v (t.getD i s0).some::ORest ownS l i::R) := by
  have hi' : i < l.length := by rw [← h.ds] at hi; simpa using hi
  have := Own_open ownS (R:=R) i (sH0,s0) hi'
  rw [← h.ds]
  show Ent _ (sl tyU ((l.map Prod.fst).getD i (Prod.fst (sH0,s0))).some.v ((l.map Prod.snd).getD i (Prod.snd (sH0,s0))).some::_)
  rw [getD_map,getD_map]; exact this
def upto {α : Type} (g : α→α) (n : Nat) (D : List α) : List α := (D.take n).map g ++ D.drop n
theorem upto_zero {α : Type} (g : α→α) (D : List α) : upto g 0 D=D := by simp [upto]
theorem upto_all {α : Type} (g : α→α) (D : List α) : upto g D.length D=D.map g := by simp [upto]
theorem upto_len {α : Type} (g : α→α) (n : Nat) (D : List α) : (upto g n D).length=D.length := by simp [upto]; omega
theorem upto_at {α : Type} {g : α→α} {n : Nat} {D : List α} {d : α} (hn : n < D.length) : (upto g n D).getD n d=D.getD n d := by
  have : ((D.take n).map g).length=n := by simp; omega
  simp only [upto,List.getD]
  rw [List.getElem?_append_right (by omega),this]; simp
theorem upto_step {α : Type} {g : α→α} {n : Nat} {D : List α} {d : α} (hn : n < D.length) : (upto g n D).set n (g (D.getD n d))=upto g (n + 1) D := by
  have h1 : ((D.take n).map g).length=n := by simp; omega
  simp only [upto]
  rw [List.set_append,if_neg (by omega),h1,Nat.sub_self,List.drop_eq_getElem_cons hn,List.set_cons_zero,List.take_succ_eq_append_getElem hn,List.map_append,List.append_assoc,show D.getD n d=D[n] by simp [List.getD,hn]]
  rfl
theorem Own_same {l : SL} {t : List Sec} (h : SOk l t) {i : Nat} {x : SecH × Sec} (h1 : x.1.some=((SL.hs l).getD i sH0).some) (h2 : x.2.some=(t.getD i s0).some) : VG.Own ownS (l.set i x)=VG.Own ownS l := by
  unfold VG.Own
  have e : (l.set i x).map ownS=l.map ownS := by
    apply List.ext_getElem?
    intro j
    simp only [List.getElem?_map,List.getElem?_set]
    by_cases h3 : i=j
    · subst h3
      by_cases h4 : i < l.length
      · rw [← h.ds] at h2
        have a1 : ((l.map Prod.fst).getD i (Prod.fst (sH0,s0)))=(l.getD i (sH0,s0)).1 := getD_map Prod.fst l i (sH0,s0)
        have a2 : ((l.map Prod.snd).getD i (Prod.snd (sH0,s0)))=(l.getD i (sH0,s0)).2 := getD_map Prod.snd l i (sH0,s0)
        have a3 : l.getD i (sH0,s0)=l[i] := by simp [List.getD,h4]
        have b1 : x.1.some=l[i].1.some := h1.trans (by rw [← a3, ← a1])
        have b2 : x.2.some=l[i].2.some := h2.trans (by rw [← a3, ← a2])
        simp [h4,ownS,b1,b2]
      · simp [h4]
    · simp [h3]
  rw [e]
def failX (x : Sec) : Sec := { x with known := false }
def flushX (x : Sec) : Sec := if x.known=true then { x with some := [x.value] } else x
def wroteT (t : List Sec) (d : Int) (v : UInt64) (ok : Bool) : List Sec := if 0≤d∧d < t.length then t.set d.toNat ⟨(t.getD d.toNat s0).some ++ [v],ok,v⟩ else t
def flushedT (t : List Sec) : List Sec := t.map flushX
def failedT (t : List Sec) : List Sec := t.map failX
theorem set3 {l : List SecH} {i : Nat} {A B C : SecH} : ((l.set i A).set i B).set i C=l.set i C := by simp [List.set_set]
theorem getD_set1 {l : List SecH} {i : Nat} (hi : i < l.length) {A : SecH} : (l.set i A).getD i sH0=A := by simp [List.getD,hi]
theorem wroteT_ok {t : List Sec} {i : Nat} {v : UInt64} {ok : Bool} (hi : i < t.length) : wroteT t i v ok=t.set i ⟨(t.getD i s0).some ++ [v],ok,v⟩ := if_pos ⟨Int.natCast_nonneg _,by omega⟩
theorem wroteT_no {t : List Sec} {d : Int} {v : UInt64} {ok : Bool} (h : ¬ (0≤d∧d < t.length)) : wroteT t d v ok=t := if_neg h
theorem upto_skip {α : Type} {g : α→α} {n : Nat} {D : List α} {d : α} (hn : n < D.length) (h : g (D.getD n d)=D.getD n d) : upto g n D=upto g (n + 1) D := by
  rw [← upto_step (d:=d) hn,h, ← upto_at (g:=g) (n:=n) (D:=D) (d:=d) hn]
  have hl := upto_len g n D
  apply List.ext_getElem?
  intro j
  simp only [List.getElem?_set]
  split
  · rename_i h1; subst h1
    have : n < (upto g n D).length := by omega
    rw [if_pos this,List.getElem?_eq_getElem this]; simp [List.getD,this]
  · rfl
theorem flushX_t {x : Sec} (h : x.known=true) : flushX x = { x with some := [x.value] } := if_pos h
theorem flushX_f {x : Sec} (h : x.known=false) : flushX x=x := if_neg (by simp [h])
def rdTS (t : List Sec) (d : Int) (v : UInt64) (q : Bool) : List Sec := if 0≤d∧d < t.length then (if (t.getD d.toNat s0).known=true then t else t.set d.toNat ⟨if q=true then [v] else (t.getD d.toNat s0).some,true,v⟩) else t
def rdTR (t : List Sec) (d : Int) (v : UInt64) : Bool := if 0≤d∧d < t.length then (if (t.getD d.toNat s0).known=true then decide (v=(t.getD d.toNat s0).value) else (t.getD d.toNat s0).some.any (fun u=>decide (u=v))) else false
theorem any_step {xs : List UInt64} {k : Nat} {v : UInt64} (hk : k < xs.length) : (xs.take (k + 1)).any (fun u=>decide (u=v))=((xs.take k).any (fun u=>decide (u=v)) || decide (xs.getD k 0=v)) := by
  rw [List.take_succ_eq_append_getElem hk,List.any_append]; simp [List.getD,hk]
theorem decU {a b : UInt64} : decide ((a.toNat : Int)=(b.toNat : Int))=decide (a=b) := decide_eq_decide.2 ⟨fun h=>UInt64.toNat_inj.1 (by omega),fun h=>by rw [h]⟩
def mkSec (x : UInt64) : Sec := ⟨[x],true,x⟩
def trkT (xs : List UInt64) : List Sec := xs.map mkSec
theorem SL.snoc (l : SL) (x : SecH × Sec) : SL.hs (l ++ [x])=SL.hs l ++ [x.1] := by simp [SL.hs]
theorem SOk.push {l : SL} {t : List Sec} (h : SOk l t) (x : SecH × Sec) (hx : x.1.known=x.2.known∧x.1.value=x.2.value) (hc : t.length + 1≤65536) : SOk (l ++ [x]) (t ++ [x.2]) where
  ds := by rw [List.map_append,h.ds]; rfl
  ag := fun p hp=>by
    rcases List.mem_append.1 hp with hp | hp
    · exact h.ag p hp
    · simp at hp; subst hp; exact hx
  cnt := by simpa using hc
theorem takeU (xs : List UInt64) (k : Nat) (h : k < xs.length) : trkT (xs.take (k + 1))=trkT (xs.take k) ++ [mkSec (xs.getD k 0)] := by
  rw [List.take_succ_eq_append_getElem h,trkT,trkT,List.map_append]; simp [List.getD,h]
theorem c_Failed {W : World} {b : Nat} {t : List Sec} :
    CSpec Tryz.prog W 67 [ptr b 0] [Trk b t] (fun _ : Unit => .tuple #[]) (fun _=>True) (fun _ F=>Trk b (failedT t)::F) := by
 refine CSpec.of_body Tryz.func67 rfl Tryz.ntmps67 rfl fun F => ?_
 show CJ _ _ _ _ _ _ (_::F)
 refine CJ_entX (Ent.transX (t0_ eR) Trk_open) fun ⟨sv,l⟩=>CJ_pur fun hX => ?_
 have hl : SOk l t := hX
 have hn := hl.len
 have hcn := hl.cnt
 show CJ _ _ _ _ _ _ (blk b 54 [Sl3.v sv]::sl tySec (Sl3.v sv) (SL.hs l)::VG.Own ownS l::_)
 refine sR <| oA rfl rfl <| nT <| CJ_block <| CJ_loopR (X:=Nat × SL) [2,3,4,5,6,7,8,9,10,11,12,13,14,15,16,17,18] (fun ⟨i,l1⟩  => ([(2,.int .i64 (i : Nat))] : Slots)) (fun ⟨i,l1⟩ R=>sl tySec (Sl3.v sv) (SL.hs l1)::VG.Own ownS l1::R) (fun ⟨i,l1⟩  => i≤t.length∧SOk l1 (upto failX i t)) (fun ⟨i,l1⟩  => t.length - i) ⟨0,l⟩ ?_ ?_ (t1_ (t1_ (t0_ eR))) ?_
 ·
  refine ⟨Nat.zero_le _,?_⟩
  rw [upto_zero]; exact hl
 · exact ⟨rfl,True.intro⟩
 ·
  rintro ⟨i,l1⟩ ⟨hi,h1⟩
  show CJ _ _ _ _ _ (([(2,.int .i64 (i : Nat))] : Slots) ++ forget _ _) (sl tySec (Sl3.v sv) (SL.hs l1)::VG.Own ownS l1::_)
  have hn1 := h1.len
  have hul := upto_len failX i t
  refine CJ_seq <| sR <| oM rfl rfl <| oM rfl rfl <| oP (P_nilCheck rfl) rfl <| oP (P_fieldAddr rfl ⟨_,_,_,Tryz.runUnderlying54,rfl,rfl,Tryz.sizeOf52,rfl⟩) rfl <| oV (V_load rfl foc2 rfl Tryz.isAgg52) rfl <| oV (V_len rfl foc0 (Reads.sl _ _ _) Tryz.runUnderlying52) rfl <| oP (P_lss rfl rfl) rfl <| nT ?_
  first | (refine CJ_condD rfl (fun hg1 => ?_) (fun hg1 => ?_)) | (refine CJ_condN rfl (fun hg1 => ?_) (fun hg1 => ?_)) | (refine CJ_cond rfl (fun hg1 => ?_) (fun hg1 => ?_))
  ·
   refine kT <| CJ_seq <| CJ_block <| CJ_region <| oM rfl rfl <| oP (P_nilCheck rfl) rfl <| oP (P_fieldAddr rfl ⟨_,_,_,Tryz.runUnderlying54,rfl,rfl,Tryz.sizeOf52,rfl⟩) rfl <| oV (V_load rfl foc2 rfl Tryz.isAgg52) rfl <| oM rfl rfl ?_
   first | (refine RJ_op rfl (OJ_V (V_index rfl rfl rfl (by omega) foc0 (Reads.sl _ _ _) Tryz.runUnderlying52 Tryz.sizeOf62) rfl ?_)) | (refine RJ_op rfl (OJ_V (V_index rfl rfl (Int.toNat_of_nonneg (by omega)).symm (by omega) foc0 (Reads.sl _ _ _) Tryz.runUnderlying52 Tryz.sizeOf62) rfl ?_))
   refine oP (P_fieldE rfl ⟨_,_,_,Tryz.runUnderlying62,rfl,rfl,Tryz.sizeOf4,rfl⟩) rfl <| oO <| O_storeE (x' := { (SL.hs l1).getD i sH0 with known := false }) rfl rfl rfl (by omega) foc0 rfl rfl rfl Tryz.sizeOf4 <| RJ_nil <| QJ_block_normal <| QJ_then <| CJ_region <| oM rfl rfl <| oP (P_add rfl rfl (by omega)) rfl <| oA rfl rfl <| RJ_nil <| QJ_nextR ⟨i + 1,l1.set i ({ (SL.hs l1).getD i sH0 with known := false },failX ((upto failX i t).getD i s0))⟩ (by first | omega | (simp only []; omega)) ?_ (by repeat (first | exact Kp.base | exact Kp.self | refine Kp.cons rfl ?_ | refine Kp.forget rfl ?_)) ?_ (Ent.takeC del0 (congrArg (sl tySec _) (by simp only [SL.hs,List.map_set])) (Ent.takeC del0 (Own_same h1 rfl rfl).symm (t0_ eR)))
   ·
    refine ⟨by omega,?_⟩
    rw [← upto_step (d:=s0) (by omega), ← upto_at (g:=failX) (n:=i) (D:=t) (d:=s0) (by omega)]
    exact h1.set i ({ (SL.hs l1).getD i sH0 with known := false },failX ((upto failX i t).getD i s0)) ⟨rfl,(h1.at (by omega)).2⟩
   · exact ⟨rfl,True.intro⟩
  ·
   refine CJ_exit <| QJ_then_exit <| QJ_round_exit <| QJ_block_here <| QJ_endN (res0 Tryz.results67) ?_
   obtain rfl : i=t.length := by omega
   rw [upto_all] at h1
   refine CSpec.close () ?_ ?_ (Ent.trans (Ent.trans (t2_ (t0_ (t0_ eR))) (Trk_close h1)) (t0_ eR))
   · rfl
   · trivial
theorem c_Wrote {W : World} {b : Nat} {t : List Sec} {d : Int} {v : UInt64} {o : Bool} (hs1 : ∀ i,(t.getD i s0).some.length≤100000) :
    CSpec Tryz.prog W 90 [ptr b 0,.int .i64 d,.int .u64 (v.toNat : Int),.bool o] [Trk b t] (fun _ : Unit => .tuple #[]) (fun _=>True) (fun _ F=>Trk b (wroteT t d v o)::F) := by
 refine CSpec.of_body Tryz.func90 rfl Tryz.ntmps90 rfl fun F => ?_
 show CJ _ _ _ _ _ _ (_::F)
 refine CJ_entX (Ent.transX (t0_ eR) Trk_open) fun ⟨sv,l⟩=>CJ_pur fun hX => ?_
 have hl : SOk l t := hX
 have hn := hl.len
 have hcn := hl.cnt
 show CJ _ _ _ _ _ _ (blk b 54 [Sl3.v sv]::sl tySec (Sl3.v sv) (SL.hs l)::VG.Own ownS l::_)
 refine CJ_seq <| sR <| oM rfl rfl <| oP (P_lss rfl rfl) rfl <| oM rfl rfl ?_
 first | (refine RJ_splitD 11 rfl (fun hg1B hg1 => ?_) (fun hg1B hg1 => ?_)) | (refine RJ_splitN 11 rfl (fun hg1B hg1 => ?_) (fun hg1B hg1 => ?_)) | (refine RJ_split 11 rfl (fun hg1B => ?_) (fun hg1B => ?_))
 ·
  refine RJ_gn (GY_no rfl rfl rfl hg1B) rfl rfl <| RJ_gn (GY_no rfl rfl rfl hg1B) rfl rfl <| RJ_gn (GY_no rfl rfl rfl hg1B) rfl rfl <| RJ_gn (GY_no rfl rfl rfl hg1B) rfl rfl <| RJ_gn (GY_no rfl rfl rfl hg1B) rfl rfl <| RJ_gn (GY_no rfl rfl rfl hg1B) rfl rfl <| RJ_gn (GY_no rfl rfl rfl hg1B) rfl rfl <| oP (P_pickT rfl hg1B rfl) rfl <| nT <| CJ_condT rfl rfl <| CJ_ret <| QJ_then_ret <| QJ_end (res0 Tryz.results90) ?_
  rw [wroteT_no (by omega)]
  refine CSpec.close () ?_ ?_ (Ent.trans (Ent.trans (t0_ (t0_ (t0_ eR))) (Trk_close hl)) (t0_ eR))
  · rfl
  · trivial
 ·
  refine gP (GY_yes rfl rfl rfl hg1B) (P_move rfl) rfl <| gP (GY_yes rfl rfl rfl hg1B) (P_move rfl) rfl <| gP (GY_yes rfl rfl rfl hg1B) (P_nilCheck rfl) rfl <| gP (GY_yes rfl rfl rfl hg1B) (P_fieldAddr rfl ⟨_,_,_,Tryz.runUnderlying54,rfl,rfl,Tryz.sizeOf52,rfl⟩) rfl <| gV (GY_yes rfl rfl rfl hg1B) (V_load rfl foc0 rfl Tryz.isAgg52) rfl <| gV (GY_yes rfl rfl rfl hg1B) (V_len rfl foc1 (Reads.sl _ _ _) Tryz.runUnderlying52) rfl <| gP (GY_yes rfl rfl rfl hg1B) (P_geq rfl rfl) rfl <| oP (P_pickF rfl hg1B rfl) rfl <| nT ?_
  first | (refine CJ_condD rfl (fun hg2 => ?_) (fun hg2 => ?_)) | (refine CJ_condN rfl (fun hg2 => ?_) (fun hg2 => ?_)) | (refine CJ_cond rfl (fun hg2 => ?_) (fun hg2 => ?_))
  ·
   refine CJ_ret <| QJ_then_ret <| QJ_end (res0 Tryz.results90) ?_
   rw [wroteT_no (by omega)]
   refine CSpec.close () ?_ ?_ (Ent.trans (Ent.trans (t0_ (t0_ (t0_ eR))) (Trk_close hl)) (t0_ eR))
   · rfl
   · trivial
  ·
   obtain ⟨i,rfl⟩ := Int.eq_ofNat_of_zero_le (show 0≤d by omega)
   have hi : i < t.length := by omega
   have hil : i < (SL.hs l).length := by omega
   have hsi := hs1 i
   refine kT <| CJ_seq <| CJ_ent (Ent.trans (t2_ eR) (OwnS_open hl i (by omega))) <| CJ_region <| oM rfl rfl <| oP (P_nilCheck rfl) rfl <| oP (P_fieldAddr rfl ⟨_,_,_,Tryz.runUnderlying54,rfl,rfl,Tryz.sizeOf52,rfl⟩) rfl <| oV (V_load rfl foc2 rfl Tryz.isAgg52) rfl <| oM rfl rfl ?_
   first | (refine RJ_op rfl (OJ_V (V_index rfl rfl rfl (by first | omega | (simp only [List.length_set]; omega)) foc3 (Reads.sl _ _ _) Tryz.runUnderlying52 Tryz.sizeOf62) rfl ?_)) | (refine RJ_op rfl (OJ_V (V_index rfl rfl (Int.toNat_of_nonneg (by first | omega | (simp only [List.length_set]; omega))).symm (by first | omega | (simp only [List.length_set]; omega)) foc3 (Reads.sl _ _ _) Tryz.runUnderlying52 Tryz.sizeOf62) rfl ?_))
   refine oA rfl rfl <| nT <| sR <| oM rfl rfl <| oM rfl rfl <| oP (P_nilCheckE rfl) rfl <| oP (P_fieldE rfl ⟨_,_,_,Tryz.runUnderlying62,rfl,rfl,Tryz.sizeOf29,rfl⟩) rfl <| oV (V_loadE rfl rfl (by first | omega | (simp only [List.length_set]; omega)) foc3 (Reads.sl _ _ _) rfl rfl Tryz.isAgg29) rfl <| RJ_ent (fun h hh=>sl_nil (t:=tyU) h hh) <| oO <| O_append (t:=tyU) (bytes:=8) rfl rfl del0 foc0 (Reads.sl _ _ _) Tryz.underlying29 ok_tyU (by simp only [List.length_append,List.length_cons,List.length_nil,maxLen] at *; omega) (by simp only [List.length_append,List.length_cons,List.length_nil,maxLen] at *; omega) rfl fun p3 c4=>oM rfl rfl <| oO <| O_buildSlice rfl (CTrack_bs_29_1_0 _) rfl fun b5=>oO <| O_append (t:=tyU) (bytes:=8) rfl rfl del1 foc0 (Reads.lit (t:=tyU) (ys:=[v]) rfl rfl (by decide) (by decide) rfl) Tryz.underlying29 ok_tyU (by simp only [List.length_append,List.length_cons,List.length_nil,maxLen] at *; omega) (by simp only [List.length_append,List.length_cons,List.length_nil,maxLen] at *; omega) rfl fun p6 c7=>oP (P_nilCheckE rfl) rfl <| oP (P_fieldE rfl ⟨_,_,_,Tryz.runUnderlying62,rfl,rfl,Tryz.sizeOf29,rfl⟩) rfl <| oO <| O_storeE (x' := ⟨⟨p6,_,c7⟩,((SL.hs l).getD i sH0).known,((SL.hs l).getD i sH0).value⟩) rfl rfl rfl (by first | omega | (simp only [List.length_set]; omega)) foc5 rfl rfl rfl Tryz.sizeOf29 <| nT <| CJ_region <| oM rfl rfl <| oM rfl rfl <| oM rfl rfl <| oM rfl rfl <| oP (P_nilCheckE rfl) rfl ?_
   refine oP (P_fieldE rfl ⟨_,_,_,Tryz.runUnderlying62,rfl,rfl,Tryz.sizeOf4,rfl⟩) rfl <| oO <| O_storeE (x' := ⟨⟨p6,_,c7⟩,o,((SL.hs l).getD i sH0).value⟩) rfl rfl rfl (by first | omega | (simp only [List.length_set]; omega)) foc5 rfl rfl (by rw [show List.getD _ _ tySec.dflt=_ from getD_set1 hil]; rfl) Tryz.sizeOf4 <| oP (P_nilCheckE rfl) rfl <| oP (P_fieldE rfl ⟨_,_,_,Tryz.runUnderlying62,rfl,rfl,Tryz.sizeOf23,rfl⟩) rfl <| oO <| O_storeE (x' := ⟨⟨p6,_,c7⟩,o,v⟩) rfl rfl rfl (by first | omega | (simp only [List.length_set]; omega)) foc5 rfl rfl (by rw [show List.getD _ _ tySec.dflt=_ from getD_set1 (by simpa using hil)]; rfl) Tryz.sizeOf23 <| RJ_nil <| QJ_endN (res0 Tryz.results90) ?_
   rw [wroteT_ok (by omega)]
   refine CSpec.close () ?_ ?_ (Ent.trans (Ent.trans (Ent.takeC del0 (show _=ownS ((⟨⟨p6,_,c7⟩,o,v⟩ : SecH),(⟨(t.getD i s0).some ++ [v],o,v⟩ : Sec)) from rfl) (t2_ eR)) (Own_close ownS ((⟨⟨p6,_,c7⟩,o,v⟩ : SecH),(⟨(t.getD i s0).some ++ [v],o,v⟩ : Sec)) (by have := hl.len; simp at this; omega))) (Ent.trans (Ent.trans (t3_ (Ent.takeC del3 (congrArg (sl tySec _) (by rw [set3]; simp only [SL.hs,List.map_set])) (t0_ eR))) (Trk_close (hl.set i ((⟨⟨p6,_,c7⟩,o,v⟩ : SecH),(⟨(t.getD i s0).some ++ [v],o,v⟩ : Sec)) ⟨rfl,rfl⟩))) (t0_ (eD (eD eR)))))
   · rfl
   · trivial
theorem c_Flushed {W : World} {b : Nat} {t : List Sec} :
    CSpec Tryz.prog W 54 [ptr b 0] [Trk b t] (fun _ : Unit => .tuple #[]) (fun _=>True) (fun _ F=>Trk b (flushedT t)::F) := by
 refine CSpec.of_body Tryz.func54 rfl Tryz.ntmps54 rfl fun F => ?_
 show CJ _ _ _ _ _ _ (_::F)
 refine CJ_entX (Ent.transX (t0_ eR) Trk_open) fun ⟨sv,l⟩=>CJ_pur fun hX => ?_
 have hl : SOk l t := hX
 have hn := hl.len
 have hcn := hl.cnt
 show CJ _ _ _ _ _ _ (blk b 54 [Sl3.v sv]::sl tySec (Sl3.v sv) (SL.hs l)::VG.Own ownS l::_)
 refine sR <| oA rfl rfl <| nT <| CJ_block <| CJ_loopR (X:=Nat × SL) [2,3,4,5,6,7,8,9,10,11,12,13,14,15,16,17,18,19,20,21,22,23,24,25,26,27,28,29,30] (fun ⟨i,l1⟩  => ([(2,.int .i64 (i : Nat))] : Slots)) (fun ⟨i,l1⟩ R=>sl tySec (Sl3.v sv) (SL.hs l1)::VG.Own ownS l1::R) (fun ⟨i,l1⟩  => i≤t.length∧SOk l1 (upto flushX i t)) (fun ⟨i,l1⟩  => t.length - i) ⟨0,l⟩ ?_ ?_ (t1_ (t1_ (t0_ eR))) ?_
 ·
  refine ⟨Nat.zero_le _,?_⟩
  rw [upto_zero]; exact hl
 · exact ⟨rfl,True.intro⟩
 ·
  rintro ⟨i,l1⟩ ⟨hi,h1⟩
  show CJ _ _ _ _ _ (([(2,.int .i64 (i : Nat))] : Slots) ++ forget _ _) (sl tySec (Sl3.v sv) (SL.hs l1)::VG.Own ownS l1::_)
  have hn1 := h1.len
  have hul := upto_len flushX i t
  refine CJ_seq <| sR <| oM rfl rfl <| oM rfl rfl <| oP (P_nilCheck rfl) rfl <| oP (P_fieldAddr rfl ⟨_,_,_,Tryz.runUnderlying54,rfl,rfl,Tryz.sizeOf52,rfl⟩) rfl <| oV (V_load rfl foc2 rfl Tryz.isAgg52) rfl <| oV (V_len rfl foc0 (Reads.sl _ _ _) Tryz.runUnderlying52) rfl <| oP (P_lss rfl rfl) rfl <| nT ?_
  first | (refine CJ_condD rfl (fun hg1 => ?_) (fun hg1 => ?_)) | (refine CJ_condN rfl (fun hg1 => ?_) (fun hg1 => ?_)) | (refine CJ_cond rfl (fun hg1 => ?_) (fun hg1 => ?_))
  ·
   refine kT <| CJ_seq <| CJ_block <| sR <| oM rfl rfl <| oP (P_nilCheck rfl) rfl <| oP (P_fieldAddr rfl ⟨_,_,_,Tryz.runUnderlying54,rfl,rfl,Tryz.sizeOf52,rfl⟩) rfl <| oV (V_load rfl foc2 rfl Tryz.isAgg52) rfl <| oM rfl rfl ?_
   first | (refine RJ_op rfl (OJ_V (V_index rfl rfl rfl (by omega) foc0 (Reads.sl _ _ _) Tryz.runUnderlying52 Tryz.sizeOf62) rfl ?_)) | (refine RJ_op rfl (OJ_V (V_index rfl rfl (Int.toNat_of_nonneg (by omega)).symm (by omega) foc0 (Reads.sl _ _ _) Tryz.runUnderlying52 Tryz.sizeOf62) rfl ?_))
   refine oA rfl rfl <| nT <| sR <| oM rfl rfl <| oP (P_nilCheckE rfl) rfl <| oP (P_fieldE rfl ⟨_,_,_,Tryz.runUnderlying62,rfl,rfl,Tryz.sizeOf4,rfl⟩) rfl <| oV (V_loadE rfl rfl (by omega) foc0 (Reads.sl _ _ _) rfl rfl Tryz.isAgg4) rfl <| nT ?_
   first | (refine CJ_condD rfl (fun hg2 => ?_) (fun hg2 => ?_)) | (refine CJ_condN rfl (fun hg2 => ?_) (fun hg2 => ?_)) | (refine CJ_cond rfl (fun hg2 => ?_) (fun hg2 => ?_))
   ·
    have hkn : ((upto flushX i t).getD i s0).known=true := by rw [← (h1.at (by omega)).1]; assumption
    refine CJ_ent (Ent.trans (t1_ eR) (OwnS_open h1 i (by omega))) <| CJ_region <| oM rfl rfl <| oM rfl rfl <| oP (P_nilCheckE rfl) rfl <| oP (P_fieldE rfl ⟨_,_,_,Tryz.runUnderlying62,rfl,rfl,Tryz.sizeOf23,rfl⟩) rfl <| oV (V_loadE rfl rfl (by omega) foc2 (Reads.sl _ _ _) rfl rfl Tryz.isAgg23) rfl <| oO <| O_buildSlice rfl (CTrack_bs_29_1_0 _) rfl fun b1=>RJ_ent (Ent.trans (t0_ eR) (sl_of_lit (t:=tyU) (m:=1) [((SL.hs l1).getD i sH0).value] rfl rfl rfl (by decide))) <| oP (P_nilCheckE rfl) rfl <| oP (P_fieldE rfl ⟨_,_,_,Tryz.runUnderlying62,rfl,rfl,Tryz.sizeOf29,rfl⟩) rfl <| oO <| O_storeE (x' := { (SL.hs l1).getD i sH0 with some := ⟨some ⟨b1,0,none⟩,1,1⟩ }) rfl rfl rfl (by omega) foc3 rfl rfl rfl Tryz.sizeOf29 <| RJ_nil <| QJ_block_normal <| QJ_then <| CJ_region <| oM rfl rfl <| oP (P_add rfl rfl (by omega)) rfl <| oA rfl rfl <| RJ_nil ?_
    refine QJ_nextR ⟨i + 1,l1.set i ({ (SL.hs l1).getD i sH0 with some := ⟨some ⟨b1,0,none⟩,1,1⟩ },flushX ((upto flushX i t).getD i s0))⟩ (by first | omega | (simp only []; omega)) ?_ (by repeat (first | exact Kp.base | exact Kp.self | refine Kp.cons rfl ?_ | refine Kp.forget rfl ?_)) ?_ (Ent.trans (Ent.trans (Ent.takeC del0 (show _=sl tyU _ _ by rw [flushX_t hkn]; exact congrArg (fun z=>sl tyU _ [z]) (h1.at (by omega)).2) (t1_ eR)) (Own_close ownS ({ (SL.hs l1).getD i sH0 with some := ⟨some ⟨b1,0,none⟩,1,1⟩ },flushX ((upto flushX i t).getD i s0)) (by have := h1.len; simp at this; omega))) (Ent.takeC del2 (congrArg (sl tySec _) (by simp only [SL.hs,List.map_set])) (t0_ (t1_ (eD eR)))))
    ·
     refine ⟨by omega,?_⟩
     rw [← upto_step (d:=s0) (by omega), ← upto_at (g:=flushX) (n:=i) (D:=t) (d:=s0) (by omega)]
     refine h1.set i ({ (SL.hs l1).getD i sH0 with some := ⟨some ⟨b1,0,none⟩,1,1⟩ },flushX ((upto flushX i t).getD i s0)) ?_
     rw [flushX_t hkn]; exact h1.at (by omega)
    · exact ⟨rfl,True.intro⟩
   ·
    refine CJ_skip <| QJ_block_normal <| QJ_then <| CJ_region <| oM rfl rfl <| oP (P_add rfl rfl (by omega)) rfl <| oA rfl rfl <| RJ_nil <| QJ_nextR ⟨i + 1,l1⟩ (by first | omega | (simp only []; omega)) ?_ (by repeat (first | exact Kp.base | exact Kp.self | refine Kp.cons rfl ?_ | refine Kp.forget rfl ?_)) ?_ (t0_ (t0_ (t0_ eR)))
    ·
     refine ⟨by omega,?_⟩
     rw [← upto_skip (d:=s0) (by omega) (flushX_f (by rw [← upto_at (g:=flushX) (n:=i) (by omega), ← (h1.at (by omega)).1]; assumption))]; exact h1
    · exact ⟨rfl,True.intro⟩
  ·
   refine CJ_exit <| QJ_then_exit <| QJ_round_exit <| QJ_block_here <| QJ_endN (res0 Tryz.results54) ?_
   obtain rfl : i=t.length := by omega
   rw [upto_all] at h1
   refine CSpec.close () ?_ ?_ (Ent.trans (Ent.trans (t2_ (t0_ (t0_ eR))) (Trk_close h1)) (t0_ eR))
   · rfl
   · trivial
theorem c_Reads {W : World} {b : Nat} {t : List Sec} {d : Int} {v : UInt64} {q : Bool} (hs1 : ∀ i,(t.getD i s0).some.length≤100000) :
    CSpec Tryz.prog W 91 [ptr b 0,.int .i64 d,.int .u64 (v.toNat : Int),.bool q] [Trk b t] (fun _ : Unit => .bool (rdTR t d v)) (fun _=>True) (fun _ F=>Trk b (rdTS t d v q)::F) := by
 refine CSpec.of_body Tryz.func91 rfl Tryz.ntmps91 rfl fun F => ?_
 show CJ _ _ _ _ _ _ (_::F)
 refine CJ_entX (Ent.transX (t0_ eR) Trk_open) fun ⟨sv,l⟩=>CJ_pur fun hX => ?_
 have hl : SOk l t := hX
 have hn := hl.len
 have hcn := hl.cnt
 show CJ _ _ _ _ _ _ (blk b 54 [Sl3.v sv]::sl tySec (Sl3.v sv) (SL.hs l)::VG.Own ownS l::_)
 refine sR <| oA rfl rfl <| nT <| CJ_seq <| sR <| oM rfl rfl <| oP (P_lss rfl rfl) rfl <| oM rfl rfl ?_
 first | (refine RJ_splitD 14 rfl (fun hg1B hg1 => ?_) (fun hg1B hg1 => ?_)) | (refine RJ_splitN 14 rfl (fun hg1B hg1 => ?_) (fun hg1B hg1 => ?_)) | (refine RJ_split 14 rfl (fun hg1B => ?_) (fun hg1B => ?_))
 ·
  refine RJ_gn (GY_no rfl rfl rfl hg1B) rfl rfl <| RJ_gn (GY_no rfl rfl rfl hg1B) rfl rfl <| RJ_gn (GY_no rfl rfl rfl hg1B) rfl rfl <| RJ_gn (GY_no rfl rfl rfl hg1B) rfl rfl <| RJ_gn (GY_no rfl rfl rfl hg1B) rfl rfl <| RJ_gn (GY_no rfl rfl rfl hg1B) rfl rfl <| RJ_gn (GY_no rfl rfl rfl hg1B) rfl rfl <| oP (P_pickT rfl hg1B rfl) rfl <| nT <| CJ_condT rfl rfl <| sR <| oA rfl rfl <| nT <| CJ_ret <| QJ_then_ret <| QJ_end (res1 Tryz.results91 rfl) ?_
  have hR : ¬ (0≤d∧d < t.length) := by omega
  rw [rdTS,if_neg hR]
  refine CSpec.close () ?_ ?_ (Ent.trans (Ent.trans (t0_ (t0_ (t0_ eR))) (Trk_close hl)) (t0_ eR))
  · exact bv (show _=rdTR t d v by rw [rdTR,if_neg hR])
  · trivial
 ·
  refine gP (GY_yes rfl rfl rfl hg1B) (P_move rfl) rfl <| gP (GY_yes rfl rfl rfl hg1B) (P_move rfl) rfl <| gP (GY_yes rfl rfl rfl hg1B) (P_nilCheck rfl) rfl <| gP (GY_yes rfl rfl rfl hg1B) (P_fieldAddr rfl ⟨_,_,_,Tryz.runUnderlying54,rfl,rfl,Tryz.sizeOf52,rfl⟩) rfl <| gV (GY_yes rfl rfl rfl hg1B) (V_load rfl foc0 rfl Tryz.isAgg52) rfl <| gV (GY_yes rfl rfl rfl hg1B) (V_len rfl foc1 (Reads.sl _ _ _) Tryz.runUnderlying52) rfl <| gP (GY_yes rfl rfl rfl hg1B) (P_geq rfl rfl) rfl <| oP (P_pickF rfl hg1B rfl) rfl <| nT ?_
  first | (refine CJ_condD rfl (fun hg2 => ?_) (fun hg2 => ?_)) | (refine CJ_condN rfl (fun hg2 => ?_) (fun hg2 => ?_)) | (refine CJ_cond rfl (fun hg2 => ?_) (fun hg2 => ?_))
  ·
   refine sR <| oA rfl rfl <| nT <| CJ_ret <| QJ_then_ret <| QJ_end (res1 Tryz.results91 rfl) ?_
   have hR : ¬ (0≤d∧d < t.length) := by omega
   rw [rdTS,if_neg hR]
   refine CSpec.close () ?_ ?_ (Ent.trans (Ent.trans (t0_ (t0_ (t0_ eR))) (Trk_close hl)) (t0_ eR))
   · exact bv (show _=rdTR t d v by rw [rdTR,if_neg hR])
   · trivial
  ·
   obtain ⟨i,rfl⟩ := Int.eq_ofNat_of_zero_le (show 0≤d by omega)
   have hi : i < t.length := by omega
   have hil : i < (SL.hs l).length := by omega
   have hll : i < l.length := by simpa using hil
   have hsi := hs1 i
   have hat := hl.at hi
   have hR : 0≤(i : Int)∧(i : Int) < t.length := ⟨by omega,by omega⟩
   refine kT <| sR <| oM rfl rfl <| oP (P_nilCheck rfl) rfl <| oP (P_fieldAddr rfl ⟨_,_,_,Tryz.runUnderlying54,rfl,rfl,Tryz.sizeOf52,rfl⟩) rfl <| oV (V_load rfl foc0 rfl Tryz.isAgg52) rfl <| oM rfl rfl ?_
   first | (refine RJ_op rfl (OJ_V (V_index rfl rfl rfl (by first | omega | (simp only [List.length_set]; omega)) foc1 (Reads.sl _ _ _) Tryz.runUnderlying52 Tryz.sizeOf62) rfl ?_)) | (refine RJ_op rfl (OJ_V (V_index rfl rfl (Int.toNat_of_nonneg (by first | omega | (simp only [List.length_set]; omega))).symm (by first | omega | (simp only [List.length_set]; omega)) foc1 (Reads.sl _ _ _) Tryz.runUnderlying52 Tryz.sizeOf62) rfl ?_))
   refine oA rfl rfl <| nT <| CJ_seq <| sR <| oM rfl rfl <| oP (P_nilCheckE rfl) rfl <| oP (P_fieldE rfl ⟨_,_,_,Tryz.runUnderlying62,rfl,rfl,Tryz.sizeOf4,rfl⟩) rfl <| oV (V_loadE rfl rfl (by first | omega | (simp only [List.length_set]; omega)) foc1 (Reads.sl _ _ _) rfl rfl Tryz.isAgg4) rfl <| nT ?_
   first | (refine CJ_condD rfl (fun hg3 => ?_) (fun hg3 => ?_)) | (refine CJ_condN rfl (fun hg3 => ?_) (fun hg3 => ?_)) | (refine CJ_cond rfl (fun hg3 => ?_) (fun hg3 => ?_))
   ·
    have hkn : (t.getD ((i : Int)).toNat s0).known=true := hat.1.symm.trans hg3
    refine sR <| oM rfl rfl <| oM rfl rfl <| oP (P_nilCheckE rfl) rfl <| oP (P_fieldE rfl ⟨_,_,_,Tryz.runUnderlying62,rfl,rfl,Tryz.sizeOf23,rfl⟩) rfl <| oV (V_loadE rfl rfl (by first | omega | (simp only [List.length_set]; omega)) foc1 (Reads.sl _ _ _) rfl rfl Tryz.isAgg23) rfl <| oP (P_eql rfl rfl) rfl <| oA rfl rfl <| nT <| CJ_ret <| QJ_then_ret <| QJ_end (res1 Tryz.results91 rfl) ?_
    rw [rdTS,if_pos hR,if_pos hkn]
    refine CSpec.close () ?_ ?_ (Ent.trans (Ent.trans (t0_ (t0_ (t0_ eR))) (Trk_close hl)) (t0_ eR))
    · exact bv (show _=rdTR t i v by rw [rdTR,if_pos hR,if_pos hkn,hat.2]; exact decU)
    · trivial
   ·
    have hkf : ¬ (t.getD ((i : Int)).toNat s0).known=true := by
      have h9 : (t.getD i s0).known=false := hat.1.symm.trans hg3
      intro e; exact absurd (show (t.getD i s0).known=true from e) (by rw [h9]; decide)
    refine kT <| CJ_seq <| CJ_ent (Ent.trans (t2_ eR) (OwnS_open hl i (by omega))) <| CJ_region <| oA rfl rfl <| nT <| CJ_seq <| sR <| oA rfl rfl <| nT <| CJ_block <| CJ_loopR (X:=Nat) [10,11,39,40,41,42,43,44,45,46,47,48,49,50,51,52,53,54,55,56,57,58,59] (fun k  => ([(11,.int .i64 (k : Nat)),(10,.bool (((t.getD i s0).some.take k).any (fun u=>decide (u=v))))] : Slots)) (fun k R=>R) (fun k  => k≤(t.getD i s0).some.length) (fun k  => (t.getD i s0).some.length - k) (0) ?_ ?_ (t0_ (t0_ (t0_ (t0_ eR)))) ?_
    · omega
    · exact ⟨rfl,rfl,True.intro⟩
    ·
     intro k hk
     show CJ _ _ _ _ _ (([(11,.int .i64 (k : Nat)),(10,.bool (((t.getD i s0).some.take k).any (fun u=>decide (u=v))))] : Slots) ++ forget _ _) (_)
     refine CJ_seq <| sR <| oM rfl rfl <| oM rfl rfl <| oP (P_nilCheckE rfl) rfl <| oP (P_fieldE rfl ⟨_,_,_,Tryz.runUnderlying62,rfl,rfl,Tryz.sizeOf29,rfl⟩) rfl <| oV (V_loadE rfl rfl (by first | omega | (simp only [List.length_set]; omega)) foc3 (Reads.sl _ _ _) rfl rfl Tryz.isAgg29) rfl <| oV (V_len rfl foc0 (Reads.sl _ _ _) Tryz.runUnderlying29) rfl <| oP (P_lss rfl rfl) rfl <| nT ?_
     first | (refine CJ_condD rfl (fun hg4 => ?_) (fun hg4 => ?_)) | (refine CJ_condN rfl (fun hg4 => ?_) (fun hg4 => ?_)) | (refine CJ_cond rfl (fun hg4 => ?_) (fun hg4 => ?_))
     ·
      refine kT <| CJ_seq <| CJ_block <| CJ_region <| oM rfl rfl <| oM rfl rfl ?_
      first | (refine RJ_splitD 49 rfl (fun hg5B hg5 => ?_) (fun hg5B hg5 => ?_)) | (refine RJ_splitN 49 rfl (fun hg5B hg5 => ?_) (fun hg5B hg5 => ?_)) | (refine RJ_split 49 rfl (fun hg5B => ?_) (fun hg5B => ?_))
      ·
       refine RJ_gn (GY_no rfl rfl rfl hg5B) rfl rfl <| RJ_gn (GY_no rfl rfl rfl hg5B) rfl rfl <| RJ_gn (GY_no rfl rfl rfl hg5B) rfl rfl <| RJ_gn (GY_no rfl rfl rfl hg5B) rfl rfl <| RJ_gn (GY_no rfl rfl rfl hg5B) rfl rfl <| RJ_gn (GY_no rfl rfl rfl hg5B) rfl rfl <| RJ_gn (GY_no rfl rfl rfl hg5B) rfl rfl <| RJ_gn (GY_no rfl rfl rfl hg5B) rfl rfl <| RJ_gn (GY_no rfl rfl rfl hg5B) rfl rfl <| oP (P_pickT rfl hg5B rfl) rfl <| oA rfl rfl <| RJ_nil <| QJ_block_normal <| QJ_then <| CJ_region <| oM rfl rfl <| oP (P_add rfl rfl (by first | omega | (simp only [List.length_set]; omega))) rfl <| oA rfl rfl <| RJ_nil <| QJ_nextR (k + 1) (by first | omega | (simp only []; omega)) ?_ (by repeat (first | exact Kp.base | exact Kp.self | refine Kp.cons rfl ?_ | refine Kp.forget rfl ?_)) ?_ (t0_ (t0_ (t0_ (t0_ eR))))
       · omega
       ·
        refine ⟨rfl,?_,True.intro⟩
        refine (congrArg (fun z=>some (Value.bool z)) ?_ : some (Value.bool _)=some (Value.bool _))
        rw [any_step (by omega), ‹(((t.getD i s0).some.take k).any (fun u=>decide (u=v)))=true›]; rfl
      ·
       refine gP (GY_yes rfl rfl rfl hg5B) (P_move rfl) rfl <| gP (GY_yes rfl rfl rfl hg5B) (P_nilCheckE rfl) rfl <| gP (GY_yes rfl rfl rfl hg5B) (P_fieldE rfl ⟨_,_,_,Tryz.runUnderlying62,rfl,rfl,Tryz.sizeOf29,rfl⟩) rfl <| gV (GY_yes rfl rfl rfl hg5B) (V_loadE rfl rfl (by first | omega | (simp only [List.length_set]; omega)) foc3 (Reads.sl _ _ _) rfl rfl Tryz.isAgg29) rfl <| gP (GY_yes rfl rfl rfl hg5B) (P_move rfl) rfl ?_
       first | (refine RJ_gy (GY_yes rfl rfl rfl hg5B) (OJ_V (V_index rfl rfl rfl (by first | omega | (simp only [List.length_set]; omega)) foc0 (Reads.sl _ _ _) Tryz.runUnderlying29 Tryz.sizeOf23) rfl ?_)) | (refine RJ_gy (GY_yes rfl rfl rfl hg5B) (OJ_V (V_index rfl rfl (Int.toNat_of_nonneg (by first | omega | (simp only [List.length_set]; omega))).symm (by first | omega | (simp only [List.length_set]; omega)) foc0 (Reads.sl _ _ _) Tryz.runUnderlying29 Tryz.sizeOf23) rfl ?_))
       refine gV (GY_yes rfl rfl rfl hg5B) (V_loadE rfl rfl (by first | omega | (simp only [List.length_set]; omega)) foc0 (Reads.sl _ _ _) rfl rfl Tryz.isAgg23) rfl <| gP (GY_yes rfl rfl rfl hg5B) (P_move rfl) rfl <| gP (GY_yes rfl rfl rfl hg5B) (P_eql rfl rfl) rfl <| oP (P_pickF rfl hg5B rfl) rfl <| oA rfl rfl <| RJ_nil <| QJ_block_normal <| QJ_then <| CJ_region <| oM rfl rfl <| oP (P_add rfl rfl (by first | omega | (simp only [List.length_set]; omega))) rfl <| oA rfl rfl <| RJ_nil <| QJ_nextR (k + 1) (by first | omega | (simp only []; omega)) ?_ (by repeat (first | exact Kp.base | exact Kp.self | refine Kp.cons rfl ?_ | refine Kp.forget rfl ?_)) ?_ (t0_ (t0_ (t0_ (t0_ eR))))
       · omega
       ·
        refine ⟨rfl,?_,True.intro⟩
        refine (congrArg (fun z=>some (Value.bool z)) ?_ : some (Value.bool _)=some (Value.bool _))
        rw [any_step (by omega), ‹(((t.getD i s0).some.take k).any (fun u=>decide (u=v)))=false›,Bool.false_or]; exact decU
     ·
      refine CJ_exit <| QJ_then_exit <| QJ_round_exit <| QJ_block_here <| QJ_then <| CJ_seq ?_
      have hk2 : k=(t.getD i s0).some.length := by omega
      refine CJ_region <| oM rfl rfl <| oM rfl rfl <| oM rfl rfl <| oP (P_nilCheckE rfl) rfl <| oP (P_fieldE rfl ⟨_,_,_,Tryz.runUnderlying62,rfl,rfl,Tryz.sizeOf4,rfl⟩) rfl <| oO <| O_storeE (x' := { (SL.hs l).getD i sH0 with known := true }) rfl rfl rfl (by first | omega | (simp only [List.length_set]; omega)) foc3 rfl rfl rfl Tryz.sizeOf4 <| oP (P_nilCheckE rfl) rfl <| oP (P_fieldE rfl ⟨_,_,_,Tryz.runUnderlying62,rfl,rfl,Tryz.sizeOf23,rfl⟩) rfl <| oO <| O_storeE (x' := ⟨((SL.hs l).getD i sH0).some,true,v⟩) rfl rfl rfl (by first | omega | (simp only [List.length_set]; omega)) foc3 rfl rfl (by rw [show List.getD _ _ tySec.dflt=_ from getD_set1 hil]; rfl) Tryz.sizeOf23 <| nT <| CJ_seq <| sR <| oM rfl rfl <| nT ?_
      first | (refine CJ_condD rfl (fun hg6 => ?_) (fun hg6 => ?_)) | (refine CJ_condN rfl (fun hg6 => ?_) (fun hg6 => ?_)) | (refine CJ_cond rfl (fun hg6 => ?_) (fun hg6 => ?_))
      ·
       refine CJ_region <| oM rfl rfl <| oM rfl rfl <| oO <| O_buildSlice rfl (CTrack_bs_29_1_0 _) rfl fun b1=>RJ_ent (Ent.trans (t0_ eR) (sl_of_lit (t:=tyU) (m:=1) [v] rfl rfl rfl (by decide))) <| oP (P_nilCheckE rfl) rfl <| oP (P_fieldE rfl ⟨_,_,_,Tryz.runUnderlying62,rfl,rfl,Tryz.sizeOf29,rfl⟩) rfl <| oO <| O_storeE (x' := ⟨⟨some ⟨b1,0,none⟩,1,1⟩,true,v⟩) rfl rfl rfl (by first | omega | (simp only [List.length_set]; omega)) foc4 rfl rfl (by rw [show List.getD _ _ tySec.dflt=_ from getD_set1 (by simpa using hil)]; rfl) Tryz.sizeOf29 <| nT <| sR <| oM rfl rfl <| oA rfl rfl <| nT <| CJ_ret <| QJ_end (res1 Tryz.results91 rfl) ?_
       rw [rdTS,if_pos hR,if_neg hkf,if_pos ‹q=true›]
       refine CSpec.close () ?_ ?_ (Ent.trans (Ent.trans (t0_ (t1_ eR)) (Own_close ownS ((⟨⟨some ⟨b1,0,none⟩,1,1⟩,true,v⟩ : SecH),(⟨[v],true,v⟩ : Sec)) hll)) (Ent.trans (Ent.trans (t2_ (Ent.takeC del2 (congrArg (sl tySec _) (by rw [set3]; simp only [SL.hs,List.map_set])) (t0_ eR))) (Trk_close (hl.set i ((⟨⟨some ⟨b1,0,none⟩,1,1⟩,true,v⟩ : SecH),(⟨[v],true,v⟩ : Sec)) ⟨rfl,rfl⟩))) (t0_ (eD eR))))
       · exact bv (show _=rdTR t i v by rw [rdTR,if_pos hR,if_neg hkf,hk2,List.take_length]; rfl)
       · trivial
      ·
       refine kT <| sR <| oM rfl rfl <| oA rfl rfl <| nT <| CJ_ret <| QJ_end (res1 Tryz.results91 rfl) ?_
       rw [rdTS,if_pos hR,if_neg hkf,if_neg (by rw [‹q=false›]; decide)]
       refine CSpec.close () ?_ ?_ (Ent.trans (Ent.trans (t0_ (t0_ eR)) (Own_close ownS ((⟨((SL.hs l).getD i sH0).some,true,v⟩ : SecH),(⟨(t.getD i s0).some,true,v⟩ : Sec)) hll)) (Ent.trans (Ent.trans (t1_ (Ent.takeC del1 (congrArg (sl tySec _) (by rw [List.set_set]; simp only [SL.hs,List.map_set])) (t0_ eR))) (Trk_close (hl.set i ((⟨((SL.hs l).getD i sH0).some,true,v⟩ : SecH),(⟨(t.getD i s0).some,true,v⟩ : Sec)) ⟨rfl,rfl⟩))) (t0_ eR)))
       · exact bv (show _=rdTR t i v by rw [rdTR,if_pos hR,if_neg hkf,hk2,List.take_length]; rfl)
       · trivial
theorem c_Tracked {W : World} {A : HP} {v : Value} {xs : List UInt64} (hA : Reads A tyU v xs) (hl : xs.length≤65536) :
    CSpec Tryz.prog W 47 [v] [A] (fun b : Nat=>ptr b 0) (fun _=>True) (fun b F=>Trk b (trkT xs)::A::F) := by
 refine CSpec.of_body Tryz.func47 rfl Tryz.ntmps47 rfl fun F => ?_
 show CJ _ _ _ _ _ _ (_::F)
 refine sR <| oA rfl rfl <| nT <| sR <| oP (P_build rfl (CTrack_bld_54_)) rfl <| oO <| O_box rfl rfl rfl fun b1=>oA rfl rfl <| nT <| CJ_seq <| sR <| oA rfl rfl <| nT <| CJ_block <| CJ_ent (fun h hh=>sl_nil (t:=tySec) h hh) <| CJ_ent (Own_nil ownS) <| CJ_loopR (X:=Nat × Sl3 × SL) [4,7,8,9,10,11,12,13,14,15,16,17,18,19,20,21,22,23,24,25,26,27,28,29,30,31] (fun ⟨k,sv,l⟩  => ([(4,.int .i64 (k : Nat))] : Slots)) (fun ⟨k,sv,l⟩ R=>blk b1 54 [sv.v]::sl tySec sv.v (SL.hs l)::VG.Own ownS l::R) (fun ⟨k,sv,l⟩  => k≤xs.length∧SOk l (trkT (xs.take k))) (fun ⟨k,sv,l⟩  => xs.length - k) ⟨0,⟨none,0,0⟩,[]⟩ ?_ ?_ (t2_ (t1_ (t0_ (t0_ eR)))) ?_
 · exact ⟨Nat.zero_le _,rfl,(fun p hp=>by cases hp),Nat.zero_le _⟩
 · exact ⟨rfl,True.intro⟩
 ·
  rintro ⟨k,sv,l⟩ ⟨hk,hs⟩
  show CJ _ _ _ _ _ (([(4,.int .i64 (k : Nat))] : Slots) ++ forget _ _) (blk b1 54 [sv.v]::sl tySec sv.v (SL.hs l)::VG.Own ownS l::_)
  have hlen : (SL.hs l).length=k := by rw [hs.len]; simp [trkT]; omega
  refine CJ_seq <| sR <| oM rfl rfl <| oM rfl rfl <| oV (V_len rfl foc3 hA Tryz.runUnderlying29) rfl <| oP (P_lss rfl rfl) rfl <| nT ?_
  first | (refine CJ_condD rfl (fun hg1 => ?_) (fun hg1 => ?_)) | (refine CJ_condN rfl (fun hg1 => ?_) (fun hg1 => ?_)) | (refine CJ_cond rfl (fun hg1 => ?_) (fun hg1 => ?_))
  ·
   refine kT <| CJ_seq <| CJ_block <| AJ_startH 589824 (by kernel_rfl) rfl <| aN 0 1 rfl rfl (P_move rfl) rfl <| aN 1 3 rfl rfl (P_move rfl) rfl <| aN 2 7 rfl rfl (P_nilCheck rfl) rfl <| aN 3 15 rfl rfl (P_fieldAddr rfl ⟨_,_,_,Tryz.runUnderlying54,rfl,rfl,Tryz.sizeOf52,rfl⟩) rfl <| aV 4 31 rfl rfl (GY_none rfl) (t0_ (t0_ (t0_ (t0_ eR)))) (V_load rfl foc0 rfl Tryz.isAgg52) rfl <| aN 5 63 rfl rfl (P_move rfl) rfl <| aN 6 127 rfl rfl (P_move rfl) rfl ?_
   first | (refine AJ_takeV 7 255 rfl (by kernel_rfl) rfl (by kernel_rfl) (by kernel_rfl) (GY_none rfl) (t0_ (t0_ (t0_ (t0_ eR)))) (V_index rfl rfl rfl (by omega) foc3 hA Tryz.runUnderlying29 Tryz.sizeOf23) rfl (fun _ _ _ _ h=>h) ?_) | (refine AJ_takeV 7 255 rfl (by kernel_rfl) rfl (by kernel_rfl) (by kernel_rfl) (GY_none rfl) (t0_ (t0_ (t0_ (t0_ eR)))) (V_index rfl rfl (Int.toNat_of_nonneg (by omega)).symm (by omega) foc3 hA Tryz.runUnderlying29 Tryz.sizeOf23) rfl (fun _ _ _ _ h=>h) ?_)
   refine aV 8 511 rfl rfl (GY_none rfl) (t0_ (t0_ (t0_ (t0_ eR)))) (V_loadE rfl rfl (by omega) foc3 hA rfl rfl Tryz.isAgg23) rfl <| aN 10 1535 rfl rfl (P_move rfl) rfl <| aN 11 3583 rfl rfl (P_move rfl) rfl ?_
   first | (refine AJ_takeV 12 7679 rfl (by kernel_rfl) rfl (by kernel_rfl) (by kernel_rfl) (GY_none rfl) (t0_ (t0_ (t0_ (t0_ eR)))) (V_index rfl rfl rfl (by omega) foc3 hA Tryz.runUnderlying29 Tryz.sizeOf23) rfl (fun _ _ _ _ h=>h) ?_) | (refine AJ_takeV 12 7679 rfl (by kernel_rfl) rfl (by kernel_rfl) (by kernel_rfl) (GY_none rfl) (t0_ (t0_ (t0_ (t0_ eR)))) (V_index rfl rfl (Int.toNat_of_nonneg (by omega)).symm (by omega) foc3 hA Tryz.runUnderlying29 Tryz.sizeOf23) rfl (fun _ _ _ _ h=>h) ?_)
   refine aV 13 15871 rfl rfl (GY_none rfl) (t0_ (t0_ (t0_ (t0_ eR)))) (V_loadE rfl rfl (by omega) foc3 hA rfl rfl Tryz.isAgg23) rfl <| AJ_op 9 16383 rfl (by kernel_rfl) rfl (GY_none rfl) <| O_buildSlice rfl (CTrack_bs_29_1_0 _) rfl fun b2=>⟨fun _=>(t1_ (t1_ (t1_ (t1_ (eD eR))))),?_⟩
   refine aN 14 32767 rfl rfl (P_build rfl (CTrack_bld_62_0_1_2 _ _ _ _ _)) rfl <| AJ_op 15 65535 rfl (by kernel_rfl) rfl (GY_none rfl) <| O_buildSlice rfl (CTrack_bs_52_1_0 _ _ _ _ _) rfl fun b3=>⟨fun _=>(t2_ (t2_ (t2_ (t2_ (eD (eD eR)))))),?_⟩
   refine AJ_op 16 131071 rfl (by kernel_rfl) rfl (GY_none rfl) <| O_append (t:=tySec) (bytes:=40) rfl rfl del3 foc0 (Reads.lit (t:=tySec) (ys:=[⟨⟨some ⟨b2,0,none⟩,1,1⟩,true,xs.getD k 0⟩]) rfl rfl (by decide) (by decide) rfl) Tryz.underlying52 ok_tySec (by simp only [List.length_append,List.length_cons,List.length_nil,maxLen] at *; omega) (by simp only [List.length_append,List.length_cons,List.length_nil,maxLen] at *; omega) rfl fun p4 c5=>⟨fun h=>absurd h (by decide),?_⟩
   refine aN 17 262143 rfl rfl (P_nilCheck rfl) rfl <| aN 18 524287 rfl rfl (P_fieldAddr rfl ⟨_,_,_,Tryz.runUnderlying54,rfl,rfl,Tryz.sizeOf52,rfl⟩) rfl <| AJ_op 19 1048575 rfl (by kernel_rfl) rfl (GY_none rfl) <| O_store rfl rfl foc3 rfl rfl Tryz.sizeOf52 <| ⟨fun h=>absurd h (by decide),?_⟩
   refine AJ_done (by kernel_rfl) <| QJ_block_normal <| QJ_then <| CJ_region <| oM rfl rfl <| oP (P_add rfl rfl (by omega)) rfl <| oA rfl rfl <| RJ_nil <| QJ_nextR ⟨k + 1,⟨p4,_,c5⟩,l ++ [((⟨⟨some ⟨b2,0,none⟩,1,1⟩,true,xs.getD k 0⟩ : SecH),mkSec (xs.getD k 0))]⟩ (by first | omega | (simp only []; omega)) ?_ (by repeat (first | exact Kp.base | exact Kp.self | refine Kp.cons rfl ?_ | refine Kp.forget rfl ?_)) ?_ (Ent.trans (Ent.trans (t2_ eR) (sl_of_lit (t:=tyU) (m:=1) [xs.getD k 0] rfl rfl rfl (by decide))) (Ent.trans (Ent.trans (t0_ (t3_ eR)) (Own_push ownS ((⟨⟨some ⟨b2,0,none⟩,1,1⟩,true,xs.getD k 0⟩ : SecH),mkSec (xs.getD k 0)))) (t3_ (Ent.takeC del1 (congrArg (sl tySec _) (SL.snoc l ((⟨⟨some ⟨b2,0,none⟩,1,1⟩,true,xs.getD k 0⟩ : SecH),mkSec (xs.getD k 0))).symm) (t0_ (t1_ (eD eR)))))))
   ·
    refine ⟨by omega,?_⟩
    rw [takeU xs k (by omega)]
    exact hs.push ((⟨⟨some ⟨b2,0,none⟩,1,1⟩,true,xs.getD k 0⟩ : SecH),mkSec (xs.getD k 0)) ⟨rfl,rfl⟩ (by simp [trkT]; omega)
   · exact ⟨rfl,True.intro⟩
  ·
   refine CJ_exit <| QJ_then_exit <| QJ_round_exit <| QJ_block_here <| QJ_then <| sR <| oM rfl rfl <| oA rfl rfl <| nT <| CJ_ret <| QJ_end (res1 Tryz.results47 rfl) ?_
   obtain rfl : k=xs.length := by omega
   rw [List.take_length] at hs
   refine CSpec.close b1 ?_ ?_ (Ent.trans (Ent.trans (t0_ (t0_ (t0_ eR))) (Trk_close hs)) (t0_ (t0_ eR)))
   · rfl
   · trivial
end Go.Proofs
set_option linter.unusedSimpArgs false
set_option linter.unusedVariables false
set_option maxRecDepth 20000
set_option maxHeartbeats 4000000
namespace Go.Proofs
open Go.VG
def smallT (t : List Sec) : Bool := t.all fun x=>Nat.ble x.some.length 100000
theorem smallT_at {t : List Sec} (h : smallT t=true) (i : Nat) : (t.getD i s0).some.length≤100000 := by
  unfold smallT at h
  rw [List.all_eq_true] at h
  rcases Nat.lt_or_ge i t.length with h1 | h1
  · have := h t[i] (List.getElem_mem h1)
    have e : t.getD i s0=t[i] := by simp [List.getD,h1]
    rw [e]; exact Nat.le_of_ble_eq_true this
  · have e : t.getD i s0=s0 := by simp [List.getD,List.getElem?_eq_none h1]
    rw [e]; exact Nat.zero_le _
end Go.Proofs
set_option linter.unusedSimpArgs false
set_option linter.unusedVariables false
set_option maxRecDepth 20000
set_option maxHeartbeats 4000000
namespace Go.Proofs
open Go.VG
@[ext] structure volumegroupmake_Step where
  Kind : Int
  At : Int
  Value : UInt64
  Keep : UInt64
  deriving DecidableEq
abbrev tyvolumegroupmake_Step : Ty volumegroupmake_Step := { T := 37,sz := 4,enc := fun x=>[.int .i64 x.Kind,.int .i64 x.At,.int .u64 (x.Value.toNat : Int),.int .u64 (x.Keep.toNat : Int)],dflt := ⟨0,0,0,0⟩,len := fun _=>rfl,one := fun _=>rfl,pos := by decide }
def volumegroupmake_Few (l : List volumegroupmake_Step) : Option (Bool) :=
  some ((decide (((l.length : Nat) : Int)≤(24 : Int))))
theorem L_volumegroupmake_Few {W : World} {Al : HP} {vl : Value} {l : List volumegroupmake_Step} {r : Bool} (rl : Reads Al tyvolumegroupmake_Step vl l) (h : volumegroupmake_Few l=some r) :
    CSpec Tryz.prog W 12 [vl] [Al] (fun x : Unit => .bool r) (fun _=>True) (fun x F=>Al::F) := by
 refine CSpec.of_body Tryz.func12 rfl Tryz.ntmps12 rfl fun F => ?_
 show CJ _ _ _ _ _ _ (_::F)
 unfold volumegroupmake_Few at h
 refine CJ_pure (len_of rl del0) fun hlen1=>sR <| oA rfl rfl <| nT <| sR <| oM rfl rfl <| oV (V_len rfl foc0 rl Tryz.runUnderlying22) rfl <| oP (P_leq (a:=((l.length : Nat) : Int)) (b:=(24 : Int)) rfl rfl) rfl <| oA rfl rfl <| nT <| CJ_ret ?_
 cases h
 exact fE (res1 Tryz.results12 rfl) () eR
end Go.Proofs
namespace Go.Proofs
open Go.VG
structure LV where
  f : Nat→Bool
  lost : List Int
  cp : Nat→Int
instance : CoeFun LV (fun _=>Nat→Bool) := ⟨LV.f⟩
structure MI (C : MC) (s : ArrS) (lv : LV) (m : MirS) : Prop where
  len : m.legs.length=C.L
  leg : ∀ i,i < C.L→(m.legs.getD i mleg_x0).dev=xL i C.sz∧((m.legs.getD i mleg_x0).copied=lv.cp i∨stM m i≠2)∧(lv i=true∧stM m i=0∧miss s i=false∨lv i=false∧(stM m i=2∨miss s i=true∧(stM m i=0∨stM m i=1)))
  size : m.size=(C.sz : Int)
  region : m.region=(C.rg : Int)
  hasLog : m.hasLog=C.lg
  dl : m.dirty.length=C.R
  log : lv C.L=true∧m.logState=0∧miss s C.L=false∧(∃ g,m.log=some g∧LI C s g)∨lv C.L=false∧(m.log=none∧m.logState=2∨C.lg=true∧miss s C.L=true∧(m.logState=0∨m.logState=1) ∧ ∃ g,m.log=some g∧LogOk C.L 3 C.R g)
  d : lv C.L=true → ∀ r,r < C.R→m.dirty.getD r false=true→SetB C s r
def One (C : MC) (s : ArrS) (lv : LV) (r : Nat) : Prop := ∃ f : Nat→UInt64, ∀ a,a < C.sz→a / C.rg=r → ∀ i,i < C.L→lv i=true → ∀ c ∈ cand s i a,c=f a
structure DI (C : MC) (K : Nat) (s : ArrS) (t : List Sec) (lv : LV) : Prop where
  ok : ArrOk C.ns K s
  tl : t.length=C.sz
  ex : ∃ i,i < C.L∧lv i=true
  miss : ∀ i,i≤C.L→lv i=true→Go.Proofs.miss s i=false
  lgl : lv C.L=true→C.lg=true
  cnd : ∀ a,a < C.sz → ∀ i,i < C.L→lv i=true → ∀ c ∈ cand s i a,c ∈ (t.getD a s0).some
  head : lv C.L=true → ∀ c ∈ cand s C.L 0,c=headL C.R
  c : lv C.L=true → ∀ r,r < C.R→SetB C s r∨One C s lv r
theorem index_l1 {l : List Int} {k : Int} (hl : l.length≤1000000) : ∀ (N i : Nat),l.length - i < N→i≤l.length→(∀ j,j < i→l.getD j 0≠k)→slices_Index_int_l1 l k N i=some (.inl ())∧k ∉ l ∨ ∃ j : Nat,slices_Index_int_l1 l k N i=some (.inr ((j : Nat) : Int))∧k ∈ l
  | 0,_,h,_,_=>absurd h (by omega)
  | N + 1,i,h,hi,hn=>by
    have hrec := index_l1 (k:=k) hl N (i + 1)
    have hu : slices_Index_int_l1 l k (N + 1) i=slices_Index_int_l1_b l k (slices_Index_int_l1 l k N) i := rfl
    rw [hu]
    unfold slices_Index_int_l1_b
    by_cases hlt : i < l.length
    · rw [if_pos (by omega)]
      by_cases he : k=l.getD i 0
      · rw [if_pos he]
        exact .inr ⟨i,rfl,by rw [he]; simp [List.getD,hlt]⟩
      · rw [if_neg he]
        exact hrec (by omega) (by omega) (fun j hj=>by
          by_cases e : j=i
          · rw [e]; exact fun x=>he x.symm
          · exact hn j (by omega))
    · rw [if_neg (by omega)]
      refine .inl ⟨rfl,fun hk => ?_⟩
      obtain ⟨j,hj,e⟩ := List.mem_iff_getElem.1 hk
      exact hn j (by omega) (by simp [List.getD,hj,e])
theorem contains_eq {l : List Int} {k : Int} (hl : l.length≤1000000) : slices_Contains_int l k=some (decide (k ∈ l)) := by
  unfold slices_Contains_int slices_Index_int
  have hF := fuel_big
  rcases index_l1 (k:=k) hl FUEL 0 (by omega) (by omega) (fun j hj=>absurd hj (by omega)) with ⟨h1,h2⟩ | ⟨j,h1,h2⟩
  · rw [h1,seqO_inl]; simp only [Option.bind_some]; rw [decide_eq_false h2,decide_eq_false (by omega)]
  · rw [h1,seqO_inr]; simp only [Option.bind_some]; rw [decide_eq_true h2,decide_eq_true (by omega)]
section
variable {C : MC} {K a i at_ : Nat} {s t : ArrS} {lv : LV} {m m' : MirS} {w v : UInt64}
theorem MI.fd {k : Nat} (h : MI C s lv m) (hf : Fd s m m' k) : MI C s lv m' := by
  have e := hf.oth
  refine ⟨hf.len.trans h.len,fun i hi => ?_,by rw [e]; exact h.size,by rw [e]; exact h.region,by rw [e]; exact h.hasLog,by rw [e]; exact h.dl,by rw [e]; exact h.log,by rw [e]; exact h.d⟩
  obtain ⟨h1,h2,h3⟩ := h.leg i hi
  obtain ⟨k1,k2,k3⟩ := hf.leg i (by rw [h.len]; exact hi)
  refine ⟨k1.trans h1,?_,?_⟩
  · rcases h2 with z | z
    · exact .inl (k2.trans z)
    · refine .inr fun y => ?_
      rcases k3 with k3 | ⟨-, -,k5⟩
      · exact z (k3.symm.trans y)
      · rw [k5] at y; cases y
  rcases h3 with ⟨h3,h4,h5⟩ | ⟨h3,h4⟩
  · rcases k3 with k3 | ⟨-,k4, -⟩
    · exact .inl ⟨h3,k3.trans h4,h5⟩
    · rw [h5] at k4; cases k4
  · refine .inr ⟨h3,?_⟩
    rcases k3 with k3 | ⟨-,k4,k5⟩
    · rw [k3]; exact h4
    · exact .inr ⟨k4,.inr k5⟩
theorem MI.live (h : MI C s lv m) (hi : i < C.L) (hl : lv i=true) : stM m i=0∧miss s i=false := by
  rcases (h.leg i hi).2.2 with ⟨-,h1,h2⟩ | ⟨h1, -⟩
  · exact ⟨h1,h2⟩
  · rw [hl] at h1; cases h1
theorem MI.good (h : MI C s lv m) (hi : i < C.L) (hst : stM m i=0) : lv i=true∧miss s i=false∨lv i=false∧miss s i=true := by
  rcases (h.leg i hi).2.2 with ⟨h0,h1,h2⟩ | ⟨h0,h1 | ⟨h1, -⟩⟩
  · exact .inl ⟨h0,h2⟩
  · rw [hst] at h1; cases h1
  · exact .inr ⟨h0,h1⟩
theorem MI.dev (h : MI C s lv m) (hi : i < C.L) : (m.legs.getD i mleg_x0).dev=xL i C.sz := (h.leg i hi).1
theorem MI.gI (h : MI C s lv m) (hi : i < C.L) {α : Type} {o : Option α} : grd (decide (0≤((i : Nat) : Int)∧((i : Nat) : Int) < (m.legs.length : Int))) o=o := grd_t (decide_eq_true ⟨by omega,by rw [h.len]; omega⟩)
theorem fetch_l1 (h : MI C s lv m) (hok : ArrOk C.ns K s) (hdn : s.down=false) (ha : a < C.sz) : ∀ (N i : Nat),C.L - i < N→i≤C.L→(∃ j,i≤j∧j < C.L∧lv j=true) →
    (∃ f,f < C.L∧lv f=true∧mirror_Mirror_fetch_l1 m (a : Int) s N i []=some (.inr (now s f a,((f : Nat) : Int),[],0,m)))∨(∃ k,k < C.L∧stM m k=0∧miss s k=true∧mirror_Mirror_fetch_l1 m (a : Int) s N i []=some (.inr (0,0,[],18,failM m k)))
  | 0,_,h,_,_=>absurd h (by omega)
  | N + 1,i,hN,hi,⟨j,hj1,hj2,hj3⟩=>by
    have hu : mirror_Mirror_fetch_l1 m (a : Int) s (N + 1) i []=mirror_Mirror_fetch_l1_b m (a : Int) s (mirror_Mirror_fetch_l1 m (a : Int) s N) i [] := rfl
    rw [hu]
    unfold mirror_Mirror_fetch_l1_b
    have hlt : i < C.L := by omega
    rw [if_pos (by rw [h.len]; omega)]
    by_cases hst : stM m i=0
    · rw [if_neg (fun x=>x hst),h.dev hlt]
      rcases h.good hlt hst with ⟨h1,h2⟩ | ⟨h1,h2⟩
      · rw [leg_rd hok hdn hlt ha h2]; simp only [Option.bind_some]
        rw [if_pos trivial]; exact .inl ⟨i,hlt,h1,rfl⟩
      · obtain ⟨w,hw⟩ := leg_rdM hok hdn hlt ha h2
        rw [hw]; simp only [Option.bind_some]
        rw [if_neg (by decide),if_neg (by decide),note_leg (by decide) (by decide) (by rw [h.len]; exact hlt) hst]; simp only [Option.bind_some]
        rw [if_neg (by decide)]
        exact .inr ⟨i,hlt,hst,h2,rfl⟩
    · rw [if_pos hst]
      exact fetch_l1 h hok hdn ha N (i + 1) (by omega) (by omega) ⟨j,by
        rcases Nat.lt_or_ge i j with x | x
        · exact x
        · have : i=j := by omega
          subst this
          exact absurd (h.live hj2 hj3).1 hst,hj2,hj3⟩
theorem fetch_eq (h : MI C s lv m) (hok : ArrOk C.ns K s) (hdn : s.down=false) (ha : a < C.sz) (hex : ∃ j,j < C.L∧lv j=true) :
    (∃ f,f < C.L∧lv f=true∧mirror_Mirror_fetch m (a : Int) s=some (now s f a,((f : Nat) : Int),[],0,m))∨(∃ k,k < C.L∧stM m k=0∧miss s k=true∧mirror_Mirror_fetch m (a : Int) s=some (0,0,[],18,failM m k)) := by
  unfold mirror_Mirror_fetch
  have hF := fuel_big
  have hL := C.hL
  obtain ⟨j,hj,hl⟩ := hex
  rcases fetch_l1 h hok hdn ha FUEL 0 (by omega) (by omega) ⟨j,by omega,hj,hl⟩ with ⟨f,h1,h2,h3⟩ | ⟨k,h1,h2,h3,h4⟩
  · rw [h3,seqO_inr]; exact .inl ⟨f,h1,h2,rfl⟩
  · rw [h4,seqO_inr]; exact .inr ⟨k,h1,h2,h3,rfl⟩
theorem failM_nf {k : Nat} (hk : k < m.legs.length) : ¬ NF (failM m k) := fun h=>h.leg k (by rw [failM_len]; exact hk) (by unfold stM; rw [failM_at hk,if_pos rfl])
theorem Fd.nf {k : Nat} (h : Fd s m m' k) (hnf : NF m') : NF m := by
  have e := h.oth
  refine ⟨fun j hj h1 => ?_,fun h1=>hnf.log (by rw [e]; exact h1)⟩
  rcases (h.leg j hj).2.2 with h2 | ⟨-, -,h2⟩
  · exact hnf.leg j (by rw [h.len]; exact hj) (h2.trans h1)
  · exact hnf.leg j (by rw [h.len]; exact hj) h2
theorem follow_l1 (h : MI C s lv m) (hc : ∀ i,i < C.L→lv.cp i=0) {y : ArrS} : ∀ (N i : Nat),C.L - i < N→i≤C.L→mirror_Mirror_follow_l1 m (a : Int) w N m y i=some (.inl (m,y))
  | 0,_,h,_=>absurd h (by omega)
  | N + 1,i,hN,hi=>by
    have hu : mirror_Mirror_follow_l1 m (a : Int) w (N + 1) m y i=mirror_Mirror_follow_l1_b m (a : Int) w (mirror_Mirror_follow_l1 m (a : Int) w N) m y i := rfl
    rw [hu]
    unfold mirror_Mirror_follow_l1_b
    by_cases hlt : i < C.L
    · have hl : i < m.legs.length := by rw [h.len]; exact hlt
      rw [if_pos (by omega),grd_t (decide_eq_true hl),grd_t (decide_eq_true (fun _=>hl)),if_neg (fun x=>by
        rcases (h.leg i hlt).2.1 with z | z
        · rw [z,hc i hlt] at x; omega
        · exact z x.1)]
      exact follow_l1 h hc N (i + 1) (by omega) (by omega)
    · rw [if_neg (by rw [h.len]; omega)]
theorem follow_eq (h : MI C s lv m) (hc : ∀ i,i < C.L→lv.cp i=0) {y : ArrS} : mirror_Mirror_follow m (a : Int) w y=some (0,m,y) := by
  unfold mirror_Mirror_follow
  have hF := fuel_big
  have hL := C.hL
  rw [follow_l1 h hc FUEL 0 (by omega) (by omega),seqO_inl]
theorem MC.divI (ha : a < C.sz) : IntKind.i64.wrap ((a : Int).tdiv (C.rg : Int))=((a / C.rg : Nat) : Int) := by
  have h1 : (a : Int).tdiv (C.rg : Int)=((a / C.rg : Nat) : Int) := (Int.ofNat_tdiv a C.rg).symm
  have h2 : a / C.rg≤a := Nat.div_le_self _ _
  have h3 := C.hs
  rw [h1]
  generalize a / C.rg=q at h2 ⊢
  exact wrap64_in (by omega) (by omega)
theorem MI.l6 (h : MI C s lv m) : m.legs.length≤6 := by rw [h.len]; have := C.hL; omega
theorem MI.l6' {k : Nat} (h : MI C s lv m) (hf : Fd s m m' k) : m'.legs.length≤6 := by rw [hf.len]; exact h.l6
end
end Go.Proofs
namespace Go.Proofs
open Go.VG
section
variable {C : MC} {K a i : Nat} {s t y : ArrS} {lv : LV} {m m' x : MirS} {w v : UInt64}
theorem spread2_same (h : MI C s lv x) (hok : ArrOk C.ns K s) (hdn : s.down=false) (ha : a < C.sz) (hi : i < C.L) (hl : lv i=true) (hw : now s i a=w) : mirror_Mirror_spread_2 ((i : Nat) : Int) [] x (a : Int) w s=some (0,s) := by
  unfold mirror_Mirror_spread_2
  rw [contains_eq (by simp)]; simp only [Option.bind_some]
  rw [if_pos (by simp),h.gI hi,Int.toNat_natCast,h.dev hi,leg_rd hok hdn hi ha (h.live hi hl).2,hw]; simp only [Option.bind_some]
  rw [if_pos (.inl ⟨trivial,trivial⟩),seqO_inr]
theorem spread2_miss (h : MI C s lv x) (hok : ArrOk C.ns K s) (hdn : s.down=false) (ha : a < C.sz) (hi : i < C.L) (hm : miss s i=true) : mirror_Mirror_spread_2 ((i : Nat) : Int) [] x (a : Int) w s=some (6,s) := by
  unfold mirror_Mirror_spread_2
  obtain ⟨w',hw'⟩ := leg_rdM hok hdn hi ha hm
  rw [contains_eq (by simp)]; simp only [Option.bind_some]
  rw [if_pos (by simp),h.gI hi,Int.toNat_natCast,h.dev hi,hw']; simp only [Option.bind_some]
  rw [if_pos (.inr ⟨by decide,by decide⟩),seqO_inr]
theorem spread2_diff (h : MI C s lv x) (hok : ArrOk C.ns K s) (hdn : s.down=false) (hK : K < 1000000) (ha : a < C.sz) (hi : i < C.L) (hl : lv i=true) (hw : now s i a≠w) (hf : s.fuse=0) :
    ∃ u t,mirror_Mirror_spread_2 ((i : Nat) : Int) [] x (a : Int) w s=some (0,t)∧Wrote C.ns K s i a w u∧Flushed1 C.ns (K + 1) u i t := by
  unfold mirror_Mirror_spread_2
  have hd := (h.live hi hl).2
  have hin : i < C.ns.length := by rw [MC.len]; omega
  rw [contains_eq (by simp)]; simp only [Option.bind_some]
  rw [if_pos (by simp),h.gI hi,Int.toNat_natCast,h.dev hi,leg_rd hok hdn hi ha hd]; simp only [Option.bind_some]
  rw [if_neg (by rintro (x | x); exact hw x.2; exact x.1 rfl),seqO_inl,h.gI hi,leg_wr hok (by omega) hi ha]; simp only [Option.bind_some]
  rcases hok.wrA (v:=w) (by omega) hdn hin (by rw [MC.leg hi]; exact ha) hd with ⟨-,h2,h3⟩ | ⟨h1, -⟩
  · obtain ⟨k1,k2⟩ := h3.ok.flA (d:=i) h3.dn hin (by rw [h3.miss]; exact hd)
    rw [h2,if_neg (by decide),h.gI hi,leg_fl h3.ok (by omega) hi,k1]; simp only [Option.bind_some]
    exact ⟨_,_,rfl,h3,k2⟩
  · rw [hf] at h1; cases h1
theorem each_end {o : Option ((MirS × ArrS) ⊕ (Int × MirS × ArrS))} {r : Option (Int × MirS × ArrS)} (hr : r=seqO o fun a12=>Option.bind (mirror_Mirror_result a12.1 a12.2) fun r28=>some (r28,a12.1,a12.2)) {P : MirS→ArrS→Prop} {Q : MirS→ArrS→Prop} (hl : ∀ x y,P x y→x.legs.length≤6)
    (h : (∃ x' y',o=some (.inl (x',y'))∧P x' y')∨(∃ x' y',o=some (.inr (5,x',y'))∧Q x' y')) : ∃ e x' y',r=some (e,x',y')∧(e=0∧NF x' ∧ P x' y' ∨ e=18 ∧ ¬ NF x' ∧ P x' y' ∨ e=5∧Q x' y') := by
  subst hr
  rcases h with ⟨x',y',h1,h2⟩ | ⟨x',y',h1,h2⟩
  · rw [h1,seqO_inl]
    by_cases hn : NF x'
    · rw [(result_eq (hl _ _ h2)).1 hn]; exact ⟨0,x',y',rfl,.inl ⟨rfl,hn,h2⟩⟩
    · rw [(result_eq (hl _ _ h2)).2 hn]; exact ⟨18,x',y',rfl,.inr (.inl ⟨rfl,hn,h2⟩)⟩
  · rw [h1,seqO_inr]; exact ⟨5,x',y',rfl,.inr (.inr ⟨rfl,h2⟩)⟩
theorem read_u (h : MI C s lv m) (hcp : ∀ i,i < C.L→lv.cp i=0) (hnf : NF m) (hok : ArrOk C.ns K s) (hdn : s.down=false) (ha : a < C.sz) (hex : ∃ j,j < C.L∧lv j=true) (hw : ∀ j,j < C.L→lv j=true→now s j a=w) :
    ∃ m',Fd s m m' 0∧(mirror_Mirror_Read m (a : Int) s=some (w,0,m',s)∧NF m' ∨ (∃ w',mirror_Mirror_Read m (a : Int) s=some (w',18,m',s)) ∧ ¬ NF m') := by
  have hF := fuel_big
  have hL := C.hL
  unfold mirror_Mirror_Read
  rw [if_neg (by omega),if_neg (by rw [h.size]; omega),(result_eq h.l6).1 hnf]; simp only [Option.bind_some]
  rw [if_neg (by simp)]
  rcases fetch_eq h hok hdn ha hex with ⟨f,h1,h2,h3⟩ | ⟨k,h1,h2,h3,h4⟩
  · rw [h3]; simp only [Option.bind_some]
    have hr := MC.reg ha
    rw [if_neg (by simp),h.region,grd_t (decide_eq_true (by have := C.hr; omega)),MC.divI ha,grd_t (decide_eq_true ⟨Int.natCast_nonneg _,by rw [h.dl]; exact Int.ofNat_lt.2 hr⟩),Int.toNat_natCast,hw f h1 h2]
    by_cases hd : m.dirty.getD (a / C.rg) false=true
    · rw [if_pos hd]
      unfold mirror_Mirror_spread
      obtain ⟨e,x',y',e1,e2⟩ := each_end (r:=mirror_Mirror_each__mirror_Mirror_spread_1 m ((f : Nat) : Int) [] (a : Int) w s) rfl (P:=fun x y=>Fd s m x 0∧y=s) (Q:=fun _ _=>False) (fun x y hp=>h.l6' hp.1)
        (each_rule (L:=m.legs.length) (f:=mirror_Mirror_each__mirror_Mirror_spread_1_l1 m ((f : Nat) : Int) [] (a : Int) w) (ch:=fun i=>mirror_Mirror_spread_1 ((i : Nat) : Int) ((f : Nat) : Int)) (act:=fun i x y=>mirror_Mirror_spread_2 ((i : Nat) : Int) [] x (a : Int) w y) (fun _ _ _ _=>rfl)
          (c:=fun i=>decide (((i : Nat) : Int)≠((f : Nat) : Int))) (fun i _=>rfl) (fun _ x y=>Fd s m x 0∧y=s) (fun _ _=>False) (fun i x y hp=>hp.1.len)
          (fun i x y hi hp hst _=>by
            obtain ⟨hp,rfl⟩ := hp
            rw [h.len] at hi
            have hx := h.fd hp
            rcases hx.good hi hst with ⟨k1,k2⟩ | ⟨k1,k2⟩
            · exact ⟨0,y,spread2_same hx hok hdn ha hi k1 (hw i hi k1),.inl ⟨rfl,hp,rfl⟩⟩
            · exact ⟨6,y,spread2_miss hx hok hdn ha hi k2,.inr (.inr ⟨by decide,by decide,(hp.fail (by rw [h.len]; exact hi) hst k2).to,rfl⟩)⟩)
          (fun _ _ _ _ hp _=>hp) FUEL 0 m s (by have := h.l6; omega) (by omega) ⟨Fd.refl,rfl⟩)
      rw [e1]; simp only [Option.bind_some]
      rcases e2 with ⟨rfl,e2,e3,rfl⟩ | ⟨rfl,e2,e3,rfl⟩ | ⟨-,e2⟩
      · rw [if_neg (by simp),follow_eq (h.fd e3) hcp]; simp only [Option.bind_some]
        rw [if_neg (by simp)]
        exact ⟨x',e3,.inl ⟨rfl,e2⟩⟩
      · rw [if_pos (by decide)]; simp only [Option.bind_some]
        rw [if_pos (by decide)]
        exact ⟨x',e3,.inr ⟨⟨_,rfl⟩,e2⟩⟩
      · exact e2.elim
    · rw [if_neg hd]
      obtain ⟨e,x',y',e1,e2⟩ := each_end (r:=mirror_Mirror_each__mirror_Mirror_Read_1 m [] (a : Int) w s) rfl (P:=fun x y=>x=m∧y=s) (Q:=fun _ _=>False) (fun x y hp=>by rw [hp.1]; exact h.l6)
        (each_rule (L:=m.legs.length) (f:=mirror_Mirror_each__mirror_Mirror_Read_1_l1 m [] (a : Int) w) (ch:=fun i=>mirror_Mirror_Read_1 ((i : Nat) : Int) []) (act:=fun i x y=>mirror_Mirror_Read_2 ((i : Nat) : Int) x (a : Int) w y) (fun _ _ _ _=>rfl)
          (c:=fun i=>false) (fun i _=>by unfold mirror_Mirror_Read_1; rw [contains_eq (by simp)]; rfl) (fun _ x y=>x=m∧y=s) (fun _ _=>False) (fun i x y hp=>by rw [hp.1])
          (fun i x y hi hp hst hc=>by cases hc) (fun _ _ _ _ hp _=>hp) FUEL 0 m s (by have := h.l6; omega) (by omega) ⟨rfl,rfl⟩)
      rw [e1]; simp only [Option.bind_some]
      rcases e2 with ⟨rfl,e2,rfl,rfl⟩ | ⟨rfl,e2,rfl,rfl⟩ | ⟨-,e2⟩
      · rw [if_neg (by simp)]; exact ⟨x',Fd.refl,.inl ⟨rfl,hnf⟩⟩
      · exact absurd hnf e2
      · exact e2.elim
  · rw [h4]; simp only [Option.bind_some]
    rw [if_pos (by decide)]
    exact ⟨_,(Fd.refl.fail (i:=0) (by rw [h.len]; exact h1) h2 h3).to,.inr ⟨⟨_,rfl⟩,failM_nf (by rw [h.len]; exact h1)⟩⟩
structure Rd (C : MC) (K : Nat) (s : ArrS) (lv : LV) (a : Nat) (t : ArrS) : Prop where
  ok : ArrOk C.ns K t
  dn : t.down=false
  fz : t.fuse=0
  miss : ∀ e,Go.Proofs.miss t e=Go.Proofs.miss s e
  log : ∀ b,b < 3→now t C.L b=now s C.L b∧cand t C.L b=cand s C.L b
  oth : ∀ j,j < C.L→lv j=true → ∀ b,b < C.sz→b≠a→now t j b=now s j b
  one : ∀ j,j < C.L→lv j=true → ∀ b,b < C.sz→cand t j b=[now t j b]
  at_ : ∀ j,j < C.L→lv j=true → ∃ f,f < C.L∧lv f=true∧now t j a=now s f a
theorem Rd.refl (hok : ArrOk C.ns K s) (hdn : s.down=false) (hf : s.fuse=0) (h1 : ∀ j,j < C.L→lv j=true → ∀ b,b < C.sz→cand s j b=[now s j b]) : Rd C K s lv a s :=
  ⟨hok,hdn,hf,fun _=>rfl,fun _ _=>⟨rfl,rfl⟩,fun _ _ _ _ _ _=>rfl,h1,fun j hj hl=>⟨j,hj,hl,rfl⟩⟩
theorem Rd.put {K' : Nat} {u : ArrS} (h : Rd C K s lv a t) (hK : K + 1≤K') (hi : i < C.L) (hl : lv i=true) (ha : a < C.sz) (hw : ∃ f,f < C.L∧lv f=true∧w=now s f a) (h1 : Wrote C.ns K t i a w u) (h2 : Flushed1 C.ns (K + 1) u i y) : Rd C K' s lv a y∧now y i a=w ∧ ∀ j,j≠i→now y j a=now t j a := by
  have hn : ∀ e b,now y e b=if i=e∧a=b then w else now t e b := fun e b=>by rw [h2.now,h1.now]
  have hc : ∀ e b,e < C.ns.length→b < C.ns.getD e 0→cand y e b=if i=e then [now y e b] else cand t e b := fun e b he hb=>by
    rw [h2.cand e b he hb]
    split
    · rw [h2.now]
    · rename_i hne
      rw [h1.cand,if_neg (fun x=>hne x.1)]
  refine ⟨⟨h2.ok.mono hK,h2.dn,by rw [h2.fuse,h1.fuse,h.fz],fun e=>by rw [h2.miss,h1.miss,h.miss],fun b hb => ?_,fun j hj hlj b hb hba => ?_,fun j hj hlj b hb => ?_,fun j hj hlj => ?_⟩,by rw [hn,if_pos ⟨rfl,rfl⟩],fun j hj=>by rw [hn,if_neg (fun x=>hj x.1.symm)]⟩
  · rw [hn,if_neg (fun x=>by omega),hc C.L b logL (by rw [MC.log]; exact hb),if_neg (by omega)]
    exact h.log b hb
  · rw [hn,if_neg (fun x=>hba x.2.symm)]; exact h.oth j hj hlj b hb hba
  · rw [hc j b (by rw [MC.len]; omega) (by rw [MC.leg hj]; exact hb)]
    split
    · rfl
    · rename_i hne
      rw [h.one j hj hlj b hb,hn,if_neg (fun x=>hne x.1)]
  · rw [hn]
    split
    · exact hw
    · exact h.at_ j hj hlj
theorem MI.arr (h : MI C s lv m) (hm : ∀ e,miss t e=miss s e) (hlog : ∀ b,b < 3→now t C.L b=now s C.L b∧cand t C.L b=cand s C.L b) : MI C t lv m := by
  refine ⟨h.len,fun i hi=>by rw [hm]; exact h.leg i hi,h.size,h.region,h.hasLog,h.dl,?_,fun hl r hr hd c hc => ?_⟩
  · rw [hm]
    rcases h.log with ⟨h1,h2,h3,g,h4,h5⟩ | h1
    · exact .inl ⟨h1,h2,h3,g,h4,h5.arr (fun c hc=>by rw [← (hlog 0 (by decide)).2]; exact hc) (fun c hc=>by rw [← (hlog 1 (by decide)).2]; exact hc) (hlog 1 (by decide)).1⟩
    · exact .inr h1
  · rw [(hlog 1 (by decide)).2] at hc
    exact h.d hl r hr hd c hc
theorem read_s (h : MI C s lv m) (hcp : ∀ i,i < C.L→lv.cp i=0) (hnf : NF m) (hok : ArrOk C.ns K s) (hdn : s.down=false) (hK : K + 8≤1000000) (ha : a < C.sz) (hex : ∃ j,j < C.L∧lv j=true) (hf : s.fuse=0) (h1 : ∀ j,j < C.L→lv j=true → ∀ b,b < C.sz→cand s j b=[now s j b]) (hd : m.dirty.getD (a / C.rg) false=true) :
    ∃ m' t,Fd s m m' 0∧Rd C (K + 8) s lv a t∧((∃ w,mirror_Mirror_Read m (a : Int) s=some (w,0,m',t) ∧ ∀ j,j < C.L→lv j=true→now t j a=w)∧NF m' ∨ (∃ w',mirror_Mirror_Read m (a : Int) s=some (w',18,m',t)) ∧ ¬ NF m') := by
  have hF := fuel_big
  have hL := C.hL
  unfold mirror_Mirror_Read
  rw [if_neg (by omega),if_neg (by rw [h.size]; omega),(result_eq h.l6).1 hnf]; simp only [Option.bind_some]
  rw [if_neg (by simp)]
  rcases fetch_eq h hok hdn ha hex with ⟨f,f1,f2,f3⟩ | ⟨k,k1,k2,k3,k4⟩
  · rw [f3]; simp only [Option.bind_some]
    have hr := MC.reg ha
    rw [if_neg (by simp),h.region,grd_t (decide_eq_true (by have := C.hr; omega)),MC.divI ha,grd_t (decide_eq_true ⟨Int.natCast_nonneg _,by rw [h.dl]; exact Int.ofNat_lt.2 hr⟩),Int.toNat_natCast,if_pos hd]
    unfold mirror_Mirror_spread
    generalize hwd : now s f a=w
    obtain ⟨e,x',y',e1,e2⟩ := each_end (r:=mirror_Mirror_each__mirror_Mirror_spread_1 m ((f : Nat) : Int) [] (a : Int) w s) rfl (P:=fun x y=>Fd s m x 0∧Rd C (K + 2 * m.legs.length) s lv a y ∧ ∀ j,j < C.L→lv j=true→j < m.legs.length∨j=f→now y j a=w) (Q:=fun _ _=>False) (fun x y hp=>h.l6' hp.1)
      (each_rule (L:=m.legs.length) (f:=mirror_Mirror_each__mirror_Mirror_spread_1_l1 m ((f : Nat) : Int) [] (a : Int) w) (ch:=fun i=>mirror_Mirror_spread_1 ((i : Nat) : Int) ((f : Nat) : Int)) (act:=fun i x y=>mirror_Mirror_spread_2 ((i : Nat) : Int) [] x (a : Int) w y) (fun _ _ _ _=>rfl)
        (c:=fun i=>decide (((i : Nat) : Int)≠((f : Nat) : Int))) (fun i _=>rfl) (fun i x y=>Fd s m x 0∧Rd C (K + 2 * i) s lv a y ∧ ∀ j,j < C.L→lv j=true→j < i∨j=f→now y j a=w) (fun _ _=>False) (fun i x y hp=>hp.1.len)
        (fun i x y hi hp hst hc=>by
          obtain ⟨hp,hq,hv⟩ := hp
          have hne : i≠f := by
            have := of_decide_eq_true hc
            omega
          rw [h.len] at hi
          have hx := (h.fd hp).arr hq.miss hq.log
          rcases hx.good hi hst with ⟨g1,g2⟩ | ⟨g1,g2⟩
          · by_cases hsame : now y i a=w
            · refine ⟨0,y,spread2_same hx hq.ok hq.dn ha hi g1 hsame,.inl ⟨rfl,hp,⟨hq.ok.mono (by omega),hq.dn,hq.fz,hq.miss,hq.log,hq.oth,hq.one,hq.at_⟩,fun j hj hl hji => ?_⟩⟩
              by_cases e : j=i
              · rw [e]; exact hsame
              · exact hv j hj hl (by omega)
            · obtain ⟨u,t,t1,t2,t3⟩ := spread2_diff hx hq.ok hq.dn (by omega) ha hi g1 hsame hq.fz
              obtain ⟨r1,r2,r3⟩ := hq.put (K' := K + 2 * (i + 1)) (by omega) hi g1 ha ⟨f,f1,f2,hwd.symm⟩ t2 t3
              refine ⟨0,t,t1,.inl ⟨rfl,hp,r1,fun j hj hl hji => ?_⟩⟩
              by_cases e : j=i
              · rw [e]; exact r2
              · rw [r3 j e]; exact hv j hj hl (by omega)
          · refine ⟨6,y,spread2_miss hx hq.ok hq.dn ha hi g2,.inr (.inr ⟨by decide,by decide,(hp.fail (by rw [h.len]; exact hi) hst (by rw [← hq.miss]; exact g2)).to,⟨hq.ok.mono (by omega),hq.dn,hq.fz,hq.miss,hq.log,hq.oth,hq.one,hq.at_⟩,fun j hj hl hji => ?_⟩)⟩
            by_cases e : j=i
            · subst e; rw [hl] at g1; cases g1
            · exact hv j hj hl (by omega))
        (fun i x y hi hp hc=>by
          obtain ⟨hp,hq,hv⟩ := hp
          refine ⟨hp,⟨hq.ok.mono (by omega),hq.dn,hq.fz,hq.miss,hq.log,hq.oth,hq.one,hq.at_⟩,fun j hj hl hji => ?_⟩
          by_cases e : j=i
          · subst e
            rcases hc with hc | hc
            · exact absurd ((h.fd hp).live hj hl).1 hc
            · have := of_decide_eq_false hc
              exact hv j hj hl (.inr (by omega))
          · exact hv j hj hl (by omega)) FUEL 0 m s (by have := h.l6; omega) (by omega) ⟨Fd.refl,Rd.refl hok hdn hf h1,fun j hj hl hji=>by
            rcases hji with hji | hji
            · omega
            · rw [hji]; exact hwd⟩)
    rw [e1]; simp only [Option.bind_some]
    have hmono : ∀ {y},Rd C (K + 2 * m.legs.length) s lv a y→Rd C (K + 8) s lv a y := fun hq=>⟨hq.ok.mono (by rw [h.len]; omega),hq.dn,hq.fz,hq.miss,hq.log,hq.oth,hq.one,hq.at_⟩
    rcases e2 with ⟨rfl,e2,e3,e4,e5⟩ | ⟨rfl,e2,e3,e4,e5⟩ | ⟨-,e2⟩
    · rw [if_neg (by simp),follow_eq (h.fd e3) hcp]; simp only [Option.bind_some]
      rw [if_neg (by simp)]
      exact ⟨x',y',e3,hmono e4,.inl ⟨⟨w,rfl,fun j hj hl=>e5 j hj hl (.inl (by rw [h.len]; exact hj))⟩,e2⟩⟩
    · rw [if_pos (by decide)]; simp only [Option.bind_some]
      rw [if_pos (by decide)]
      exact ⟨x',y',e3,hmono e4,.inr ⟨⟨_,rfl⟩,e2⟩⟩
    · exact e2.elim
  · rw [k4]; simp only [Option.bind_some]
    rw [if_pos (by decide)]
    exact ⟨_,s,(Fd.refl.fail (i:=0) (by rw [h.len]; exact k1) k2 k3).to,Rd.refl (hok.mono (by omega)) hdn hf h1,.inr ⟨⟨_,rfl⟩,failM_nf (by rw [h.len]; exact k1)⟩⟩
end
end Go.Proofs
namespace Go.Proofs
open Go.VG
structure Mk (m m' : MirS) : Prop where
  len : m'.legs.length=m.legs.length
  st : ∀ j,j < m.legs.length→(stM m' j=2↔stM m j=2)
  lst : m'.logState=2↔m.logState=2
  dirty : m'.dirty=m.dirty
  copied : m'.copied=m.copied
structure WrD (C : MC) (K : Nat) (s : ArrS) (lv : LV) (a : Nat) (v : UInt64) (t : ArrS) : Prop where
  ok : ArrOk C.ns K t
  miss : ∀ e,Go.Proofs.miss t e=Go.Proofs.miss s e
  dead : ∀ j,j < C.L→lv j=false → ∀ b,b < C.sz→now t j b=now s j b
  cnd : ∀ j,j < C.L→lv j=true → ∀ b,b < C.sz → ∀ c ∈ cand t j b,c ∈ cand s j b∨b=a∧c=v
  head : ∀ c ∈ cand t C.L 0,lv C.L=true→c=headL C.R
  set : ∀ r,r < C.R→lv C.L=true→SetB C s r→SetB C t r
  reg : lv C.L=true→SetB C t (a / C.rg) ∨ ∀ j,j < C.L→lv j=true → ∀ b,b < C.sz→cand t j b=cand s j b
  bit : lv C.L=true → ∀ c ∈ cand t C.L 1, ∀ r,r < C.R→tb c r=true→r=a / C.rg ∨ ∃ c' ∈ cand s C.L 1,tb c' r=true
structure Wr (C : MC) (K : Nat) (s : ArrS) (lv : LV) (a : Nat) (v : UInt64) (t : ArrS) : Prop extends WrD C K s lv a v t where
  dn : t.down=false
  fz : s.fuse=0→t.fuse=0
  now : ∀ j,j < C.L→lv j=true → ∀ b,b < C.sz→b≠a→Go.Proofs.now t j b=Go.Proofs.now s j b
structure Wd (C : MC) (K : Nat) (s : ArrS) (lv : LV) (a : Nat) (v : UInt64) (i : Nat) (t : ArrS) : Prop where
  ok : ArrOk C.ns (K + i) t
  dn : t.down=false
  fz : s.fuse=0→t.fuse=0
  miss : ∀ e,Go.Proofs.miss t e=Go.Proofs.miss s e
  log : ∀ b,b < 3→Go.Proofs.now t C.L b=Go.Proofs.now s C.L b∧cand t C.L b=cand s C.L b
  dead : ∀ j,j < C.L→lv j=false → ∀ b,Go.Proofs.now t j b=Go.Proofs.now s j b
  now : ∀ j,j < C.L→lv j=true → ∀ b,b < C.sz→b≠a→Go.Proofs.now t j b=Go.Proofs.now s j b
  at_ : ∀ j,j < C.L→lv j=true→j < i→Go.Proofs.now t j a=v
  cnd : ∀ j,j < C.L→lv j=true → ∀ b,b < C.sz → ∀ c ∈ cand t j b,c ∈ cand s j b∨b=a∧c=v
structure Wf (C : MC) (K : Nat) (s : ArrS) (lv : LV) (a : Nat) (v : UInt64) (t : ArrS) : Prop where
  ok : ArrOk C.ns K t
  fz : s.fuse≠0
  miss : ∀ e,Go.Proofs.miss t e=Go.Proofs.miss s e
  log : ∀ b,b < 3→cand t C.L b=cand s C.L b
  dead : ∀ j,j < C.L→lv j=false → ∀ b,now t j b=now s j b
  cnd : ∀ j,j < C.L→lv j=true → ∀ b,b < C.sz → ∀ c ∈ cand t j b,c ∈ cand s j b∨b=a∧c=v
section
variable {C : MC} {K a i r : Nat} {s t u y : ArrS} {lv : LV} {m m' x : MirS} {w v : UInt64}
theorem Mk.refl : Mk m m := ⟨rfl,fun _ _=>Iff.rfl,Iff.rfl,rfl,rfl⟩
theorem Mk.trans {m'' : MirS} (h : Mk m m') (h' : Mk m' m'') : Mk m m'' := ⟨h'.len.trans h.len,fun j hj=>(h'.st j (by rw [h.len]; exact hj)).trans (h.st j hj),h'.lst.trans h.lst,h'.dirty.trans h.dirty,h'.copied.trans h.copied⟩
theorem Fd.mks {k : Nat} (h : Fd s m m' k) : Mk m m' := by
  have e := h.oth
  refine ⟨h.len,fun j hj => ?_,by rw [e],by rw [e],by rw [e]⟩
  rcases (h.leg j hj).2.2 with h1 | ⟨h1, -,h2⟩
  · rw [h1]
  · rw [h1,h2]; exact ⟨fun x=>(by cases x),fun x=>(by cases x)⟩
theorem Wd.start (hok : ArrOk C.ns K s) (hdn : s.down=false) : Wd C K s lv a v 0 s :=
  ⟨hok,hdn,id,fun _=>rfl,fun _ _=>⟨rfl,rfl⟩,fun _ _ _ _=>rfl,fun _ _ _ _ _ _=>rfl,fun _ _ _ h=>absurd h (by omega),fun _ _ _ _ _ _ h => .inl h⟩
theorem Wd.same (h : Wd C K s lv a v i t) (hl : i < C.L→lv i=false) : Wd C K s lv a v (i + 1) t :=
  ⟨h.ok.mono (by omega),h.dn,h.fz,h.miss,h.log,h.dead,h.now,fun j hj hlj hji=>by
    by_cases e : j=i
    · subst e; rw [hl hj] at hlj; cases hlj
    · exact h.at_ j hj hlj (by omega),h.cnd⟩
theorem Wd.put (h : Wd C K s lv a v i t) (hi : i < C.L) (hl : lv i=true) (h1 : Wrote C.ns (K + i) t i a v u) : Wd C K s lv a v (i + 1) u := by
  refine ⟨h1.ok,h1.dn,fun hf=>by rw [h1.fuse,h.fz hf],fun e=>by rw [h1.miss,h.miss],fun b hb => ?_,fun j hj hlj b => ?_,fun j hj hlj b hb hba => ?_,fun j hj hlj hji => ?_,fun j hj hlj b hb c hc => ?_⟩
  · rw [h1.now,h1.cand,if_neg (fun x=>by omega),if_neg (fun x=>by omega)]; exact h.log b hb
  · rw [h1.now,if_neg (fun x=>by have := x.1; subst this; rw [hl] at hlj; cases hlj)]; exact h.dead j hj hlj b
  · rw [h1.now,if_neg (fun x=>hba x.2.symm)]; exact h.now j hj hlj b hb hba
  · rw [h1.now]
    by_cases e : i=j
    · rw [if_pos ⟨e,rfl⟩]
    · rw [if_neg (fun x=>e x.1)]; exact h.at_ j hj hlj (by omega)
  · rw [h1.cand] at hc
    split at hc
    · rename_i x
      rcases List.mem_append.1 hc with hc | hc
      · exact h.cnd j hj hlj b hb c hc
      · exact .inr ⟨x.2.symm,List.mem_singleton.1 hc⟩
    · exact h.cnd j hj hlj b hb c hc
theorem Wd.fell (h : Wd C K s lv a v i t) (hi : i≤C.L) (hf : t.fuse=1) (h1 : Fell C.ns (K + i) t u) : Wf C (K + 4) s lv a v u := by
  have := C.hL
  refine ⟨h1.ok.mono (by omega),fun hf' => (by rw [h.fz hf'] at hf; cases hf),fun e=>by rw [h1.miss,h.miss],fun b hb=>by rw [h1.cand]; exact (h.log b hb).2,fun j hj hlj b=>by rw [h1.now]; exact h.dead j hj hlj b,fun j hj hlj b hb c hc=>by rw [h1.cand] at hc; exact h.cnd j hj hlj b hb c hc⟩
def wtail (m : MirS) (a : Int) (v : UInt64) (s : ArrS) : Option (Int × MirS × ArrS) :=
  Option.bind (mirror_Mirror_each__mirror_every m a v s) fun r13 =>
  if (r13.1=(5 : Int)) then
    some (r13.1,r13.2.1,r13.2.2)
  else
    Option.bind (mirror_Mirror_follow r13.2.1 a v r13.2.2) fun r15 =>
    if (r15.1≠(0 : Int)) then
      some (r15.1,r15.2.1,r15.2.2)
    else
      some (r13.1,r15.2.1,r15.2.2)
theorem wtail_eq (h : MI C s lv m) (hcp : ∀ i,i < C.L→lv.cp i=0) (hok : ArrOk C.ns K s) (hdn : s.down=false) (hK : K + 8≤1000000) (ha : a < C.sz) :
    ∃ e m' t,wtail m (a : Int) v s=some (e,m',t)∧(e=0∧NF m' ∧ Fd s m m' 0∧Wd C K s lv a v C.L t∨e=18 ∧ ¬ NF m' ∧ Fd s m m' 0∧Wd C K s lv a v C.L t∨e=5∧Wf C (K + 4) s lv a v t) := by
  have hF := fuel_big
  have hL := C.hL
  unfold wtail
  obtain ⟨e,x',y',e1,e2⟩ := each_end (r:=mirror_Mirror_each__mirror_every m (a : Int) v s) rfl (P:=fun x y=>Fd s m x 0∧Wd C K s lv a v m.legs.length y) (Q:=fun _ y=>Wf C (K + 4) s lv a v y) (fun x y hp=>h.l6' hp.1)
    (each_rule (L:=m.legs.length) (f:=mirror_Mirror_each__mirror_every_l1 m (a : Int) v) (ch:=fun i=>mirror_every ((i : Nat) : Int)) (act:=fun i x y=>mirror_Mirror_Write_1 ((i : Nat) : Int) x (a : Int) v y) (fun _ _ _ _=>rfl)
      (c:=fun _=>true) (fun i _=>rfl) (fun i x y=>Fd s m x 0∧Wd C K s lv a v i y) (fun _ y=>Wf C (K + 4) s lv a v y) (fun i x y hp=>hp.1.len)
      (fun i x y hi hp hst _=>by
        obtain ⟨hp,hq⟩ := hp
        rw [h.len] at hi
        have hx := (h.fd hp).arr hq.miss hq.log
        have hun : ∀ o,mirror_Mirror_Write_1 ((i : Nat) : Int) x (a : Int) v y=Option.bind o (fun r8=>some (r8.1,r8.2))→mirror_Mirror_Write_1 ((i : Nat) : Int) x (a : Int) v y=o := fun o ho=>by rw [ho]; cases o <;> rfl
        have hw : mirror_Mirror_Write_1 ((i : Nat) : Int) x (a : Int) v y=(xL i C.sz).wr y (a : Int) v := hun _ (by unfold mirror_Mirror_Write_1; rw [hx.gI hi,Int.toNat_natCast,hx.dev hi])
        rw [hw]
        rcases hx.good hi hst with ⟨g1,g2⟩ | ⟨g1,g2⟩
        · rw [leg_wr hq.ok (by omega) hi ha]
          rcases hq.ok.wrA (v:=v) (by omega) hq.dn (by rw [MC.len]; omega : i < C.ns.length) (by rw [MC.leg hi]; exact ha) g2 with ⟨-,w2,w3⟩ | ⟨w1,w2,w3⟩
          · rw [w2]; exact ⟨0,_,rfl,.inl ⟨rfl,hp,hq.put hi g1 w3⟩⟩
          · rw [w2]; exact ⟨5,_,rfl,.inr (.inl ⟨rfl,hq.fell (by omega) w1 w3⟩)⟩
        · rw [leg_wrM hq.ok hq.dn (by omega) hi ha g2]
          exact ⟨6,_,rfl,.inr (.inr ⟨by decide,by decide,(hp.fail (by rw [h.len]; exact hi) hst (by rw [← hq.miss]; exact g2)).to,hq.same (fun _=>g1)⟩)⟩)
      (fun i x y hi hp hc=>by
        obtain ⟨hp,hq⟩ := hp
        rw [h.len] at hi
        rcases hc with hc | hc
        · refine ⟨hp,hq.same (fun _ => ?_)⟩
          cases hl : lv i
          · rfl
          · exact absurd ((h.fd hp).live hi hl).1 hc
        · cases hc) FUEL 0 m s (by have := h.l6; omega) (by omega) ⟨Fd.refl,Wd.start hok hdn⟩)
  rw [e1]; simp only [Option.bind_some]
  rw [h.len] at e2
  rcases e2 with ⟨rfl,e2,e3,e4⟩ | ⟨rfl,e2,e3,e4⟩ | ⟨rfl,e2⟩
  · rw [if_neg (by decide),follow_eq (h.fd e3) hcp]; simp only [Option.bind_some]
    rw [if_neg (by simp)]
    exact ⟨_,_,_,rfl,.inl ⟨rfl,e2,e3,e4⟩⟩
  · rw [if_neg (by decide),follow_eq (h.fd e3) hcp]; simp only [Option.bind_some]
    rw [if_neg (by simp)]
    exact ⟨_,_,_,rfl,.inr (.inl ⟨rfl,e2,e3,e4⟩)⟩
  · rw [if_pos rfl]
    exact ⟨_,_,_,rfl,.inr (.inr ⟨rfl,e2⟩)⟩
theorem Wd.wr (h : Wd C (K + 1) s lv a v C.L t) {s0 : ArrS} (hl : lv C.L=true→Lg C K s0 s (fun k=>k=a / C.rg) (fun _=>False)∧SetB C s (a / C.rg) ∧ ∀ c ∈ cand s C.L 0,c=headL C.R) (hn : lv C.L=false→s=s0) (ha : a < C.sz) : Wr C (K + 8) s0 lv a v t := by
  have hL := C.hL
  cases hlv : lv C.L
  · obtain rfl := hn hlv
    have hno : ∀ {p : Prop},lv C.L=true→p := fun hx=>absurd hx (by rw [hlv]; decide)
    exact ⟨⟨h.ok.mono (by omega),h.miss,fun j hj hl b _=>h.dead j hj hl b,h.cnd,fun c hc hx=>hno hx,fun r hr hx=>hno hx,fun hx=>hno hx,fun hx=>hno hx⟩,h.dn,h.fz,h.now⟩
  · obtain ⟨h1,h2,h3⟩ := hl hlv
    have hs : ∀ r,SetB C s r→SetB C t r := fun r hr c hc=>by rw [(h.log 1 (by decide)).2] at hc; exact hr c hc
    refine ⟨⟨h.ok.mono (by omega),fun e=>by rw [h.miss,h1.miss],fun j hj hlj b hb => ?_,fun j hj hlj b hb c hc => ?_,fun c hc _=>by rw [(h.log 0 (by decide)).2] at hc; exact h3 c hc,fun r hr _ hx=>hs r (h1.set r hr (fun x=>x) hx),fun _ => .inl (hs _ h2),fun _ c hc r hr hb=>by rw [(h.log 1 (by decide)).2] at hc; exact h1.bit c hc r hr hb⟩,h.dn,fun hf=>h.fz (h1.fz hf),fun j hj hlj b hb hba=>by rw [h.now j hj hlj b hb hba,(h1.leg j b hj hb).1]⟩
    · rw [h.dead j hj hlj b,(h1.leg j b hj hb).1]
    · rcases h.cnd j hj hlj b hb c hc with x | x
      · rw [(h1.leg j b hj hb).2] at x; exact .inl x
      · exact .inr x
def withLog (m : MirS) (g : LogS) : MirS := { m with log := some g }
theorem withLog_nf {g : LogS} (h : NF m) : NF (withLog m g) := ⟨h.leg,h.log⟩
theorem withLog_mk {g : LogS} : Mk m (withLog m g) := ⟨rfl,fun _ _=>Iff.rfl,Iff.rfl,rfl,rfl⟩
theorem Mk.fd {k : Nat} (h : Mk m x) (hf : Fd s x m' k) : Mk m m' := h.trans hf.mks
theorem Wd.mi (h : MI C s lv m) (hw : Wd C K s lv a v i t) : MI C t lv m := h.arr hw.miss hw.log
theorem logCase (h : MI C s lv m) : (m.log=none∧lv C.L=false)∨(∃ g,m.log=some g∧lv C.L=true∧m.logState=0∧miss s C.L=false∧LI C s g)∨(∃ g,m.log=some g∧lv C.L=false∧C.lg=true∧miss s C.L=true∧(m.logState=0∨m.logState=1)∧LogOk C.L 3 C.R g) := by
  rcases h.log with ⟨h1,h2,h3,g,h4,h5⟩ | ⟨h1,⟨h2,h3⟩ | ⟨h2,h3,h4,g,h5,h6⟩⟩
  · exact .inr (.inl ⟨g,h4,h1,h2,h3,h5⟩)
  · exact .inl ⟨h2,h1⟩
  · exact .inr (.inr ⟨g,h5,h1,h2,h3,h4,h6⟩)
theorem MI.withLog_live {g : LogS} (h : MI C s lv m) (hl : lv C.L=true) (hls : m.logState=0) (hm : ∀ e,miss t e=miss s e) (hms : miss s C.L=false) (hg : LI C t g) (hd : ∀ r,r < C.R→m.dirty.getD r false=true→SetB C t r) : MI C t lv (withLog m g) :=
  ⟨h.len,fun i hi=>by rw [hm]; exact h.leg i hi,h.size,h.region,h.hasLog,h.dl,.inl ⟨hl,hls,by rw [hm]; exact hms,g,rfl,hg⟩,fun _=>hd⟩
theorem MI.withLog_miss {g : LogS} (h : MI C s lv m) (hl : lv C.L=false) (hlg : C.lg=true) (hms : miss s C.L=true) {z : Int} (hz : z=0∨z=1) (hg : LogOk C.L 3 C.R g) : MI C s lv { m with log := some g,logState := z } :=
  ⟨h.len,h.leg,h.size,h.region,h.hasLog,h.dl,.inr ⟨hl,.inr ⟨hlg,hms,hz,g,rfl,hg⟩⟩,fun hx=>absurd hx (by rw [hl]; decide)⟩
theorem wrD_none (hok : ArrOk C.ns K s) (h1 : ArrOk C.ns (K + 8) t) (hm : ∀ e,miss t e=miss s e) (hn : ∀ e b,now t e b=now s e b) (hc : ∀ e b,cand t e b=cand s e b) (hh : ∀ c ∈ cand s C.L 0,lv C.L=true→c=headL C.R) : WrD C (K + 8) s lv a v t :=
  ⟨h1,hm,fun _ _ _ _ _=>hn _ _,fun j _ _ b _ c h => .inl (by rw [hc] at h; exact h),fun c h=>hh c (by rw [hc] at h; exact h),fun r _ _ hx c h=>hx c (by rw [hc] at h; exact h),fun _ => .inr (fun _ _ _ _ _=>hc _ _),fun _ c h _ _ hb => .inr ⟨c,by rw [hc] at h; exact h,hb⟩⟩
theorem write_eq (h : MI C s lv m) (hcp : ∀ i,i < C.L→lv.cp i=0) (hnf : NF m) (hok : ArrOk C.ns K s) (hdn : s.down=false) (hK : K + 16≤1000000) (ha : a < C.sz) :
    ∃ e m' t,mirror_Mirror_Write m (a : Int) v s=some (e,m',t) ∧
      (e=0∧NF m' ∧ MI C t lv m' ∧ Mk m m' ∧ Wr C (K + 8) s lv a v t∧(∀ j,j < C.L→lv j=true→now t j a=v) ∨
       e=18 ∧ ¬ NF m' ∧ MI C t lv m' ∧ Mk m m' ∧ Wr C (K + 8) s lv a v t ∨
       e=5∧s.fuse≠0∧WrD C (K + 8) s lv a v t) := by
  -- the legs
  have tail : ∀ {m1 : MirS} {s1 : ArrS},MI C s1 lv m1→ArrOk C.ns (K + 1) s1→s1.down=false→Mk m m1→(s.fuse=0→s1.fuse=0)→(lv C.L=true→Lg C K s s1 (fun k=>k=a / C.rg) (fun _=>False)∧SetB C s1 (a / C.rg) ∧ ∀ c ∈ cand s1 C.L 0,c=headL C.R)→(lv C.L=false→s1=s) →
      ∃ e m' t,wtail m1 (a : Int) v s1=some (e,m',t) ∧
      (e=0∧NF m' ∧ MI C t lv m' ∧ Mk m m' ∧ Wr C (K + 8) s lv a v t∧(∀ j,j < C.L→lv j=true→now t j a=v) ∨
       e=18 ∧ ¬ NF m' ∧ MI C t lv m' ∧ Mk m m' ∧ Wr C (K + 8) s lv a v t ∨
       e=5∧s.fuse≠0∧WrD C (K + 8) s lv a v t) := by
    intro m1 s1 h1 hok1 hdn1 hmk hfz hl hn
    obtain ⟨e,m',t,e1,e2⟩ := wtail_eq (v:=v) h1 hcp hok1 hdn1 (by omega) ha
    rw [e1]
    rcases e2 with ⟨rfl,g1,g2,g3⟩ | ⟨rfl,g1,g2,g3⟩ | ⟨rfl,g1⟩
    · exact ⟨_,_,_,rfl,.inl ⟨rfl,g1,g3.mi (h1.fd g2),hmk.fd g2,g3.wr hl hn ha,fun j hj hlj=>g3.at_ j hj hlj hj⟩⟩
    · exact ⟨_,_,_,rfl,.inr (.inl ⟨rfl,g1,g3.mi (h1.fd g2),hmk.fd g2,g3.wr hl hn ha⟩)⟩
    · refine ⟨_,_,_,rfl,.inr (.inr ⟨rfl,fun hx=>g1.fz (hfz hx),?_⟩)⟩
      cases hlv : lv C.L
      · obtain rfl := hn hlv
        have hno : ∀ {p : Prop},lv C.L=true→p := fun hx=>absurd hx (by rw [hlv]; decide)
        exact ⟨g1.ok.mono (by omega),g1.miss,fun j hj hl b _=>g1.dead j hj hl b,g1.cnd,fun c hc hx=>hno hx,fun r hr hx=>hno hx,fun hx=>hno hx,fun hx=>hno hx⟩
      · obtain ⟨k1,k2,k3⟩ := hl hlv
        have hs : ∀ r,SetB C s1 r→SetB C t r := fun r hr c hc=>by rw [g1.log 1 (by decide)] at hc; exact hr c hc
        refine ⟨g1.ok.mono (by omega),fun e=>by rw [g1.miss,k1.miss],fun j hj hlj b hb=>by rw [g1.dead j hj hlj b,(k1.leg j b hj hb).1],fun j hj hlj b hb c hc => ?_,fun c hc _=>by rw [g1.log 0 (by decide)] at hc; exact k3 c hc,fun r hr _ hx=>hs r (k1.set r hr (fun x=>x) hx),fun _ => .inl (hs _ k2),fun _ c hc r hr hb=>by rw [g1.log 1 (by decide)] at hc; exact k1.bit c hc r hr hb⟩
        rcases g1.cnd j hj hlj b hb c hc with x | x
        · rw [(k1.leg j b hj hb).2] at x; exact .inl x
        · exact .inr x
  unfold mirror_Mirror_Write
  rw [if_neg (by omega),if_neg (by rw [h.size]; omega),(result_eq h.l6).1 hnf]; simp only [Option.bind_some]
  rw [if_neg (by simp)]
  have hrr := MC.reg ha
  have hrg := C.hr
  rcases logCase h with ⟨g1,g2⟩ | ⟨g,g1,g2,g3,g4,g5⟩ | ⟨g,g1,g2,g3,g4,g5,g6⟩
  · rw [g1]; simp only [Option.elim_none]
    have e : ({ m with log := none } : MirS)=m := by cases m; cases g1; rfl
    rw [e]
    exact tail h (hok.mono (by omega)) hdn Mk.refl id (fun hx=>absurd hx (by rw [g2]; decide)) (fun _=>rfl)
  · rw [g1]; simp only [Option.elim_some]
    obtain ⟨e,g',s1,k1,k2⟩ := mark_live hok hdn (by omega) g4 g5 hrr
    rw [h.region,grd_t (decide_eq_true (by omega)),MC.divI ha,k1]; simp only [Option.bind_some]
    rcases k2 with ⟨rfl,k3,k4,k5⟩ | ⟨rfl,k3,k4⟩
    · rw [note_ok (.inl rfl)]; simp only [Option.bind_some]
      have hml : (⟨m.legs,some g',m.hasLog,m.logState,m.size,(C.rg : Int),m.dirty,m.copied⟩ : MirS)=withLog m g' := by rw [← h.region]; rfl
      rw [if_neg (by simp),hml]
      have hmi := h.withLog_live g2 g3 k5.miss g4 k3 (fun r hr hd=>k5.set r hr (fun x=>x) (h.d g2 r hr hd))
      rw [(result_eq hmi.l6).1 (withLog_nf hnf)]; simp only [Option.bind_some]
      rw [if_neg (by simp)]
      exact tail hmi k5.ok k5.dn withLog_mk k5.fz (fun _=>⟨k5,k4,k3.head⟩) (fun hx=>absurd hx (by rw [g2]; decide))
    · rw [note_ok (.inr rfl)]; simp only [Option.bind_some]
      rw [if_pos (by decide)]
      refine ⟨_,_,_,rfl,.inr (.inr ⟨rfl,by rw [k3]; decide,wrD_none hok (k4.ok.mono (by omega)) k4.miss k4.now k4.cand (fun c hc _=>g5.head c hc)⟩)⟩
  · rw [g1]; simp only [Option.elim_some]
    obtain ⟨e,g',k1,k2,k3⟩ := mark_miss hok hdn (by omega) g4 g6 hrr
    rw [h.region,grd_t (decide_eq_true (by omega)),MC.divI ha,k1]; simp only [Option.bind_some]
    have hml : (⟨m.legs,some g',m.hasLog,m.logState,m.size,(C.rg : Int),m.dirty,m.copied⟩ : MirS) = { m with log := some g',logState := m.logState } := by rw [← h.region]
    rcases k3 with rfl | rfl
    · rw [note_ok (.inl rfl)]; simp only [Option.bind_some]
      rw [if_neg (by simp),hml]
      have hmi := h.withLog_miss (z:=m.logState) g2 g3 g4 g5 k2
      rw [(result_eq hmi.l6).1 ⟨hnf.leg,hnf.log⟩]; simp only [Option.bind_some]
      rw [if_neg (by simp)]
      exact tail hmi (hok.mono (by omega)) hdn withLog_mk id (fun hx=>absurd hx (by rw [g2]; decide)) (fun _=>rfl)
    · rw [hml]
      have hnl := note_log (m := { m with log := some g',logState := m.logState }) (s:=s) (e:=6) (by decide) (by decide)
      have hlen : ({ m with log := some g',logState := m.logState } : MirS).legs.length=m.legs.length := rfl
      rw [hlen] at hnl
      rw [hnl]; simp only [Option.bind_some]
      rw [if_neg (by simp)]
      have hmi := h.withLog_miss (z:=1) g2 g3 g4 (.inr rfl) k2
      have hbad : ¬ NF ({ m with log := some g',logState := 1 } : MirS) := fun hx=>hx.log ⟨by rw [h.hasLog]; exact g3,rfl⟩
      rw [(result_eq hmi.l6).2 hbad]; simp only [Option.bind_some]
      rw [if_pos (by decide)]
      have h2 : m.logState≠2 := by rcases g5 with g5 | g5 <;> rw [g5] <;> decide
      refine ⟨_,_,_,rfl,.inr (.inl ⟨rfl,hbad,hmi,⟨rfl,fun _ _=>Iff.rfl,⟨fun x=>(by cases x),fun x=>absurd x h2⟩,rfl,rfl⟩,⟨wrD_none hok (hok.mono (by omega)) (fun _=>rfl) (fun _ _=>rfl) (fun _ _=>rfl) (fun _ _ hx=>absurd hx (by rw [g2]; decide)),hdn,id,fun _ _ _ _ _ _=>rfl⟩⟩)⟩
end
end Go.Proofs
namespace Go.Proofs
open Go.VG
structure Ff (C : MC) (K : Nat) (s : ArrS) (lv : LV) (i : Nat) (t : ArrS) : Prop where
  ok : ArrOk C.ns K t
  dn : t.down=false
  fuse : t.fuse=s.fuse
  miss : ∀ e,Go.Proofs.miss t e=Go.Proofs.miss s e
  log : ∀ b,b < 3→Go.Proofs.now t C.L b=Go.Proofs.now s C.L b∧cand t C.L b=cand s C.L b
  now : ∀ e b,Go.Proofs.now t e b=Go.Proofs.now s e b
  sub : ∀ j,j < C.L→lv j=true → ∀ b,b < C.sz → ∀ c ∈ cand t j b,c ∈ cand s j b
  full : ∀ j,j < C.L→lv j=true→j < i → ∀ b,b < C.sz→cand t j b=[Go.Proofs.now s j b]
structure ClD (C : MC) (K : Nat) (s : ArrS) (lv : LV) (t : ArrS) : Prop where
  ok : ArrOk C.ns K t
  miss : ∀ e,Go.Proofs.miss t e=Go.Proofs.miss s e
  leg : ∀ e b,e < C.L→b < C.sz→now t e b=now s e b∧cand t e b=cand s e b
  head : lv C.L=true → ∀ c ∈ cand t C.L 0,c=headL C.R
  bit : lv C.L=true → ∀ c ∈ cand t C.L 1, ∀ r,r < C.R→tb c r=true → ∃ c' ∈ cand s C.L 1,tb c' r=true
structure Cl (C : MC) (K : Nat) (s : ArrS) (lv : LV) (t : ArrS) : Prop extends ClD C K s lv t where
  dn : t.down=false
  fz : s.fuse=0→t.fuse=0
structure FlD (C : MC) (K : Nat) (s : ArrS) (lv : LV) (t : ArrS) : Prop where
  ok : ArrOk C.ns K t
  miss : ∀ e,Go.Proofs.miss t e=Go.Proofs.miss s e
  now : ∀ e b,e < C.L→b < C.sz→Go.Proofs.now t e b=Go.Proofs.now s e b
  sub : ∀ j,j < C.L→lv j=true → ∀ b,b < C.sz → ∀ c ∈ cand t j b,c ∈ cand s j b
  head : lv C.L=true → ∀ c ∈ cand t C.L 0,c=headL C.R
  c : lv C.L=true→(∀ r,r < C.R→SetB C s r→SetB C t r) ∨ ∀ j,j < C.L→lv j=true → ∀ b,b < C.sz→cand t j b=[Go.Proofs.now s j b]
  bit : lv C.L=true → ∀ c ∈ cand t C.L 1, ∀ r,r < C.R→tb c r=true → ∃ c' ∈ cand s C.L 1,tb c' r=true
structure Fl (C : MC) (K : Nat) (s : ArrS) (lv : LV) (t : ArrS) : Prop extends FlD C K s lv t where
  dn : t.down=false
  fz : s.fuse=0→t.fuse=0
section
variable {C : MC} {K a i r : Nat} {s t u y : ArrS} {lv : LV} {m m' x : MirS} {w v : UInt64}
theorem Ff.start (hok : ArrOk C.ns K s) (hdn : s.down=false) : Ff C K s lv 0 s :=
  ⟨hok,hdn,rfl,fun _=>rfl,fun _ _=>⟨rfl,rfl⟩,fun _ _=>rfl,fun _ _ _ _ _ _ h=>h,fun _ _ _ h=>absurd h (by omega)⟩
theorem Ff.same (h : Ff C K s lv i t) (hl : i < C.L→lv i=false) : Ff C K s lv (i + 1) t :=
  ⟨h.ok,h.dn,h.fuse,h.miss,h.log,h.now,h.sub,fun j hj hlj hji=>by
    by_cases e : j=i
    · subst e; rw [hl hj] at hlj; cases hlj
    · exact h.full j hj hlj (by omega)⟩
theorem Ff.put (h : Ff C K s lv i t) (hi : i < C.L) (h1 : Flushed1 C.ns K t i u) : Ff C K s lv (i + 1) u := by
  have hc : ∀ e b,e < C.L→b < C.sz→cand u e b=if i=e then [Go.Proofs.now t e b] else cand t e b := fun e b he hb=>h1.cand e b (by rw [MC.len]; omega) (by rw [MC.leg he]; exact hb)
  refine ⟨h1.ok,h1.dn,h1.fuse.trans h.fuse,fun e=>by rw [h1.miss,h.miss],fun b hb => ?_,fun e b=>by rw [h1.now,h.now],fun j hj hlj b hb c hcc => ?_,fun j hj hlj hji b hb => ?_⟩
  · rw [h1.now,h1.cand C.L b logL (by rw [MC.log]; exact hb),if_neg (by omega)]; exact h.log b hb
  · rw [hc j b hj hb] at hcc
    split at hcc
    · rw [List.mem_singleton.1 hcc]
      exact h.sub j hj hlj b hb _ (h.ok.now_cand (by rw [MC.len]; omega) (by rw [MC.leg hj]; exact hb))
    · exact h.sub j hj hlj b hb c hcc
  · rw [hc j b hj hb]
    split
    · rw [h.now]
    · exact h.full j hj hlj (by omega) b hb
theorem flush_legs (h : MI C s lv m) (hok : ArrOk C.ns K s) (hdn : s.down=false) (hK : K≤1000000) :
    ∃ e m' t,mirror_Mirror_flush m s=some (e,m',t)∧Fd s m m' 0∧Ff C K s lv C.L t∧(e=0∧NF m' ∨ e=18 ∧ ¬ NF m') := by
  have hF := fuel_big
  have hL := C.hL
  unfold mirror_Mirror_flush
  obtain ⟨e,x',y',e1,e2⟩ := each_end (r:=mirror_Mirror_each__mirror_every_2 m s) rfl (P:=fun x y=>Fd s m x 0∧Ff C K s lv m.legs.length y) (Q:=fun _ _=>False) (fun x y hp=>h.l6' hp.1)
    (each_rule (L:=m.legs.length) (f:=mirror_Mirror_each__mirror_every_2_l1 m) (ch:=fun i=>mirror_every ((i : Nat) : Int)) (act:=fun i x y=>mirror_Mirror_flush_1 ((i : Nat) : Int) x y) (fun _ _ _ _=>rfl)
      (c:=fun _=>true) (fun i _=>rfl) (fun i x y=>Fd s m x 0∧Ff C K s lv i y) (fun _ _=>False) (fun i x y hp=>hp.1.len)
      (fun i x y hi hp hst _=>by
        obtain ⟨hp,hq⟩ := hp
        rw [h.len] at hi
        have hx := (h.fd hp).arr hq.miss hq.log
        have hun : ∀ o,mirror_Mirror_flush_1 ((i : Nat) : Int) x y=Option.bind o (fun r8=>some (r8.1,r8.2))→mirror_Mirror_flush_1 ((i : Nat) : Int) x y=o := fun o ho=>by rw [ho]; cases o <;> rfl
        have hw : mirror_Mirror_flush_1 ((i : Nat) : Int) x y=(xL i C.sz).fl y := hun _ (by unfold mirror_Mirror_flush_1; rw [hx.gI hi,Int.toNat_natCast,hx.dev hi])
        rw [hw]
        rcases hx.good hi hst with ⟨g1,g2⟩ | ⟨g1,g2⟩
        · obtain ⟨k1,k2⟩ := hq.ok.flA (d:=i) hq.dn (by rw [MC.len]; omega) g2
          rw [leg_fl hq.ok hK hi,k1]
          exact ⟨0,_,rfl,.inl ⟨rfl,hp,hq.put hi k2⟩⟩
        · rw [leg_flM hq.ok hq.dn hK hi g2]
          exact ⟨6,_,rfl,.inr (.inr ⟨by decide,by decide,(hp.fail (by rw [h.len]; exact hi) hst (by rw [← hq.miss]; exact g2)).to,hq.same (fun _=>g1)⟩)⟩)
      (fun i x y hi hp hc=>by
        obtain ⟨hp,hq⟩ := hp
        rw [h.len] at hi
        rcases hc with hc | hc
        · refine ⟨hp,hq.same (fun _ => ?_)⟩
          cases hl : lv i
          · rfl
          · exact absurd ((h.fd hp).live hi hl).1 hc
        · cases hc) FUEL 0 m s (by have := h.l6; omega) (by omega) ⟨Fd.refl,Ff.start hok hdn⟩)
  rw [e1]; simp only [Option.bind_some]
  rw [h.len] at e2
  rcases e2 with ⟨rfl,e2,e3,e4⟩ | ⟨rfl,e2,e3,e4⟩ | ⟨-,e2⟩
  · exact ⟨_,_,_,rfl,e3,e4,.inl ⟨rfl,e2⟩⟩
  · exact ⟨_,_,_,rfl,e3,e4,.inr ⟨rfl,e2⟩⟩
  · exact e2.elim
theorem Cl.refl (hok : ArrOk C.ns K s) (hdn : s.down=false) (hh : lv C.L=true → ∀ c ∈ cand s C.L 0,c=headL C.R) : Cl C K s lv s :=
  ⟨⟨hok,fun _=>rfl,fun _ _ _ _=>⟨rfl,rfl⟩,hh,fun _ c hc _ _ hb=>⟨c,hc,hb⟩⟩,hdn,id⟩
theorem Cl.lg {q : Nat→Prop} (h : Cl C K s lv t) (h1 : Lg C K t u (fun _=>False) q) (hh : lv C.L=true → ∀ c ∈ cand u C.L 0,c=headL C.R) : Cl C (K + 1) s lv u :=
  ⟨⟨h1.ok,fun e=>by rw [h1.miss,h.miss],fun e b he hb=>⟨(h1.leg e b he hb).1.trans (h.leg e b he hb).1,(h1.leg e b he hb).2.trans (h.leg e b he hb).2⟩,hh,fun hl c hc r hr hb=>by
    rcases h1.bit c hc r hr hb with x | ⟨c',k1,k2⟩
    · exact x.elim
    · exact h.bit hl c' k1 r hr k2⟩,h1.dn,fun hf=>h1.fz (h.fz hf)⟩
theorem Cl.mono {K' : Nat} (h : Cl C K s lv t) (hK : K≤K') : Cl C K' s lv t := ⟨⟨h.ok.mono hK,h.miss,h.leg,h.head,h.bit⟩,h.dn,h.fz⟩
theorem Cl.fell (h : Cl C K s lv t) (h1 : Fell C.ns K t u) : ClD C K s lv u :=
  ⟨h1.ok,fun e=>by rw [h1.miss,h.miss],fun e b he hb=>by rw [h1.now,h1.cand]; exact h.leg e b he hb,fun hl c hc=>h.head hl c (by rw [h1.cand] at hc; exact hc),fun hl c hc r hr hb=>h.bit hl c (by rw [h1.cand] at hc; exact hc) r hr hb⟩
theorem clears_l1 {l : List Int} (hl : ∀ k,k < l.length → ∃ r : Nat,r < C.R∧l.getD k 0=r) (hl2 : l.length≤12) : ∀ (N k : Nat) (x : MirS) (y : ArrS),l.length - k < N→k≤l.length→K + l.length≤900000→MI C y lv x→NF x→Mk m x→(∃ g,x.log=some g)→Cl C (K + k) s lv y →
    (∃ x' y',mirror_Mirror_Flush_l1 l N x y k=some (.inl (x',y'))∧MI C y' lv x' ∧ NF x' ∧ Mk m x' ∧ Cl C (K + l.length) s lv y') ∨
    (∃ e x' y',mirror_Mirror_Flush_l1 l N x y k=some (.inr (e,x',y'))∧(e=18 ∧ ¬ NF x' ∧ MI C y' lv x' ∧ Mk m x' ∧ Cl C (K + l.length) s lv y' ∨ e=5∧s.fuse≠0∧ClD C (K + l.length) s lv y'))
  | 0,_,_,_,h,_,_,_,_,_,_,_=>absurd h (by omega)
  | N + 1,k,x,y,hN,hk,hK,h,hnf,hmk,⟨g,hg⟩,hc=>by
    have hrec := fun x y (hlt : k < l.length)=>clears_l1 hl hl2 N (k + 1) x y (by omega) (by omega) hK
    have hu : mirror_Mirror_Flush_l1 l (N + 1) x y k=mirror_Mirror_Flush_l1_b l (mirror_Mirror_Flush_l1 l N) x y k := rfl
    rw [hu]
    unfold mirror_Mirror_Flush_l1_b
    by_cases hlt : k < l.length
    · obtain ⟨r,hr,her⟩ := hl k hlt
      rw [if_pos (by omega),her,grd_t (decide_eq_true ⟨Int.natCast_nonneg _,by rw [h.dl]; exact Int.ofNat_lt.2 hr⟩),Int.toNat_natCast]
      by_cases hd : x.dirty.getD r false=true
      · rw [if_pos hd,grd_t (inN64_of (by omega))]
        exact hrec x y hlt h hnf hmk ⟨g,hg⟩ (hc.mono (by omega))
      · rw [if_neg hd]
        rcases logCase h with ⟨g1,g2⟩ | ⟨g',g1,g2,g3,g4,g5⟩ | ⟨g',g1,g2,g3,g4,g5,g6⟩
        · rw [hg] at g1; cases g1
        · rw [hg] at g1; cases g1
          rw [hg]; simp only [Option.elim_some]
          obtain ⟨e,gg,y',k1,k2⟩ := clear_live hc.ok hc.dn (by omega) g4 g5 hr
          rw [k1]; simp only [Option.bind_some]
          rcases k2 with ⟨rfl,k3,k4⟩ | ⟨rfl,k3,k4⟩
          · rw [note_ok (.inl rfl)]; simp only [Option.bind_some]
            have hmi := h.withLog_live g2 g3 k4.miss g4 k3 (fun q hq hdq=>k4.set q hq (fun e=>hd (by rw [← e]; exact hdq)) (h.d g2 q hq hdq))
            have hml : ({ x with log := some gg } : MirS)=withLog x gg := rfl
            rw [if_neg (by simp),hml,(result_eq hmi.l6).1 (withLog_nf hnf)]; simp only [Option.bind_some]
            rw [if_neg (by simp),grd_t (inN64_of (by omega))]
            exact hrec _ _ hlt hmi (withLog_nf hnf) (hmk.trans withLog_mk) ⟨_,rfl⟩ (hc.lg k4 (fun _=>k3.head))
          · rw [note_ok (.inr rfl)]; simp only [Option.bind_some]
            rw [if_pos (by decide)]
            refine .inr ⟨_,_,_,rfl,.inr ⟨rfl,fun hf=>(by rw [hc.fz hf] at k3; cases k3),?_⟩⟩
            have := hc.fell k4
            exact ⟨this.ok.mono (by omega),this.miss,this.leg,this.head,this.bit⟩
        · rw [hg] at g1; cases g1
          rw [hg]; simp only [Option.elim_some]
          obtain ⟨gg,k1,k2⟩ := clear_miss hc.ok hc.dn (by omega) g4 g6 hr
          rw [k1]; simp only [Option.bind_some]
          have hnl := note_log (m := { x with log := some gg }) (s:=y) (e:=6) (by decide) (by decide)
          have hlen : ({ x with log := some gg } : MirS).legs.length=x.legs.length := rfl
          rw [hlen] at hnl
          rw [hnl]; simp only [Option.bind_some]
          rw [if_neg (by simp)]
          have hmi := h.withLog_miss (z:=1) g2 g3 g4 (.inr rfl) k2
          have hbad : ¬ NF ({ x with log := some gg,logState := 1 } : MirS) := fun hx=>hx.log ⟨by rw [h.hasLog]; exact g3,rfl⟩
          rw [(result_eq hmi.l6).2 hbad]; simp only [Option.bind_some]
          rw [if_pos (by decide)]
          have h2 : x.logState≠2 := by rcases g5 with g5 | g5 <;> rw [g5] <;> decide
          refine .inr ⟨_,_,_,rfl,.inl ⟨rfl,hbad,hmi,hmk.trans ⟨rfl,fun _ _=>Iff.rfl,⟨fun x=>(by cases x),fun x=>absurd x h2⟩,rfl,rfl⟩,hc.mono (by omega)⟩⟩
    · rw [if_neg (by omega)]
      exact .inl ⟨x,y,rfl,h,hnf,hmk,hc.mono (by omega)⟩
theorem dirtyL_mem {l : List UInt64} {n k : Nat} (hk : k < (dirtyL l n).length) : ∃ r : Nat,r < n∧(dirtyL l n).getD k 0=r := by
  have h1 : (dirtyL l n).getD k 0 ∈ dirtyL l n := by
    simp only [List.getD,List.getElem?_eq_getElem hk,Option.getD_some]; exact List.getElem_mem hk
  unfold dirtyL at h1
  obtain ⟨r,hr,e⟩ := List.mem_map.1 h1
  exact ⟨r,List.mem_range.1 (List.mem_filter.1 hr).1,e.symm⟩
theorem Ff.head0 (h : MI C s lv m) : lv C.L=true → ∀ c ∈ cand s C.L 0,c=headL C.R := fun hl=>by
  rcases h.log with ⟨-, -, -,g, -,h5⟩ | ⟨h1, -⟩
  · exact h5.head
  · rw [hl] at h1; cases h1
theorem Ff.fl (h : Ff C K s lv C.L t) (h0 : MI C s lv m) (hcl : ClD C (K + 12) t lv u) : FlD C (K + 12) s lv u ∧ ∀ j,j < C.L→lv j=true → ∀ b,b < C.sz→cand u j b=[Go.Proofs.now s j b] := by
  have hfull : ∀ j,j < C.L→lv j=true → ∀ b,b < C.sz→cand u j b=[Go.Proofs.now s j b] := fun j hj hlj b hb=>by rw [(hcl.leg j b hj hb).2]; exact h.full j hj hlj hj b hb
  refine ⟨⟨hcl.ok,fun e=>by rw [hcl.miss,h.miss],fun e b he hb=>by rw [(hcl.leg e b he hb).1,h.now],fun j hj hlj b hb c hc => ?_,hcl.head,fun _ => .inr hfull,fun hl c hc r hr hb => ?_⟩,hfull⟩
  · rw [(hcl.leg j b hj hb).2] at hc; exact h.sub j hj hlj b hb c hc
  · obtain ⟨c',k1,k2⟩ := hcl.bit hl c hc r hr hb
    rw [(h.log 1 (by decide)).2] at k1
    exact ⟨c',k1,k2⟩
theorem flush_eq (h : MI C s lv m) (hnf : NF m) (hok : ArrOk C.ns K s) (hdn : s.down=false) (hK : K + 16≤900000) :
    ∃ e m' t,mirror_Mirror_Flush m s=some (e,m',t) ∧
      (e=0∧NF m' ∧ MI C t lv m' ∧ Mk m m' ∧ Fl C (K + 12) s lv t∧(∀ j,j < C.L→lv j=true → ∀ b,b < C.sz→cand t j b=[now s j b]) ∨
       e=18 ∧ ¬ NF m' ∧ MI C t lv m' ∧ Mk m m' ∧ Fl C (K + 12) s lv t ∨
       e=5∧s.fuse≠0∧FlD C (K + 12) s lv t) := by
  have hF := fuel_big
  have hR := C.hR
  unfold mirror_Mirror_Flush
  rw [(result_eq h.l6).1 hnf]; simp only [Option.bind_some]
  rw [if_neg (by simp)]
  obtain ⟨e,m1,s1,e1,e2,e3,e4⟩ := flush_legs h hok hdn (by omega)
  rw [e1]; simp only [Option.bind_some]
  have hm1 := (h.fd e2).arr e3.miss e3.log
  have hhd := Ff.head0 hm1
  rcases e4 with ⟨rfl,e4⟩ | ⟨rfl,e4⟩
  · rw [if_neg (by simp)]
    have hcl0 : Cl C K s1 lv s1 := Cl.refl e3.ok e3.dn hhd
    have hfin : ∀ {m2 : MirS} {t : ArrS},MI C t lv m2→Mk m1 m2→Cl C (K + 12) s1 lv t→MI C t lv m2∧Mk m m2∧Fl C (K + 12) s lv t ∧ ∀ j,j < C.L→lv j=true → ∀ b,b < C.sz→cand t j b=[now s j b] := fun hmi hmk hc=>by
      obtain ⟨f1,f2⟩ := e3.fl h hc.toClD
      exact ⟨hmi,e2.mks.trans hmk,⟨f1,hc.dn,fun hf=>hc.fz (by rw [e3.fuse]; exact hf)⟩,f2⟩
    cases hlog : m1.log with
    | none =>
      simp only [Option.elim_none]
      have e : ({ m1 with log := none } : MirS)=m1 := by cases m1; cases hlog; rfl
      rw [e]
      obtain ⟨f1,f2,f3,f4⟩ := hfin hm1 Mk.refl (hcl0.mono (by omega))
      exact ⟨_,_,_,rfl,.inl ⟨rfl,e4,f1,f2,f3,f4⟩⟩
    | some g =>
      have hok' : LogOk C.L 3 C.R g := by
        rcases hm1.log with ⟨-, -, -,g',q1,q2⟩ | ⟨-,⟨q1, -⟩ | ⟨-, -, -,g',q1,q2⟩⟩
        · rw [hlog] at q1; cases q1; exact q2.lok
        · rw [hlog] at q1; cases q1
        · rw [hlog] at q1; cases q1; exact q2
      simp only [Option.elim_some]
      rw [dirty_eq hok'.reg (by rw [hok'.len,MC.nW1]; omega) (by omega)]; simp only [Option.bind_some]
      have e : (⟨m1.legs,some g,m1.hasLog,m1.logState,m1.size,m1.region,m1.dirty,m1.copied⟩ : MirS)=m1 := by rw [← hlog]
      rw [e]
      have hle := @dirtyL_le g.bits C.R
      rcases clears_l1 (l:=dirtyL g.bits C.R) (m:=m1) (K:=K) (s:=s1) (fun k hk=>dirtyL_mem hk) (by omega) FUEL 0 m1 s1 (by omega) (by omega) (by omega) hm1 e4 Mk.refl ⟨g,hlog⟩ hcl0 with ⟨x',y',k1,k2,k3,k4,k5⟩ | ⟨e',x',y',k1,k2⟩
      · rw [k1,seqO_inl]
        obtain ⟨f1,f2,f3,f4⟩ := hfin k2 k4 (k5.mono (by omega))
        exact ⟨_,_,_,rfl,.inl ⟨rfl,k3,f1,f2,f3,f4⟩⟩
      · rw [k1,seqO_inr]
        rcases k2 with ⟨rfl,k2,k3,k4,k5⟩ | ⟨rfl,k2,k3⟩
        · obtain ⟨f1,f2,f3,f4⟩ := hfin k3 k4 (k5.mono (by omega))
          exact ⟨_,_,_,rfl,.inr (.inl ⟨rfl,k2,f1,f2,f3⟩)⟩
        · obtain ⟨f1, -⟩ := e3.fl h (u:=y') ⟨k3.ok.mono (by omega),k3.miss,k3.leg,k3.head,k3.bit⟩
          exact ⟨_,_,_,rfl,.inr (.inr ⟨rfl,by rw [← e3.fuse]; exact k2,f1⟩)⟩
  · rw [if_pos (by decide)]
    refine ⟨_,_,_,rfl,.inr (.inl ⟨rfl,e4,hm1,e2.mks,⟨⟨e3.ok.mono (by omega),e3.miss,fun e b _ _=>e3.now e b,e3.sub,hhd,fun hl => .inl (fun r hr hs c hc=>hs c (by rw [(e3.log 1 (by decide)).2] at hc; exact hc)),fun _ c hc r hr hb=>⟨c,by rw [(e3.log 1 (by decide)).2] at hc; exact hc,hb⟩⟩,e3.dn,fun hf=>by rw [e3.fuse]; exact hf⟩⟩)⟩
end
end Go.Proofs
namespace Go.Proofs
open Go.VG
theorem spans_l1 {s : ArrS} (h8 : s.drv.length≤1000) (hz : ∀ i,i < s.drv.length→1≤s.size i∧s.size i≤65536) : ∀ (N i : Nat) (acc : List Dvc),s.drv.length - i < N→i≤s.drv.length →
    acc=(List.range i).map (fun i=>Dvc.span ((i : Nat) : Int) 0 ((s.size i : Nat) : Int))→volumegroupmake_Spans_l1 s N acc i=some (.inl (spansA s))
  | 0,_,_,h,_,_=>absurd h (by omega)
  | N + 1,i,acc,h,hi,ha=>by
    show volumegroupmake_Spans_l1_b _ _ _ _=_
    unfold volumegroupmake_Spans_l1_b
    subst ha
    by_cases hlt : i < s.drv.length
    · have h1 := hz i hlt
      rw [if_pos (by omega),sizeI_of hlt,span_mk (by omega) (by omega) (by rw [sizeI_of hlt]; omega) (by rw [sizeI_of hlt]; omega)]
      simp only [Option.bind_some,Option.elim]
      rw [if_neg (by simp),grd_t (inLen_of (by simp; omega)),grd_t (inN64_of (by omega))]
      refine spans_l1 h8 hz N (i + 1) _ (by omega) (by omega) ?_
      simp [List.range_succ]
    · rw [if_neg (by omega)]
      have : i=s.drv.length := by omega
      rw [this]; rfl
theorem spans_eq {s : ArrS} (h8 : s.drv.length≤1000) (hz : ∀ i,i < s.drv.length→1≤s.size i∧s.size i≤65536) : volumegroupmake_Spans s=some (spansA s) := by
  unfold volumegroupmake_Spans
  have hF := fuel_big
  generalize FUEL=N at hF ⊢
  rw [spans_l1 h8 hz N 0 _ (by omega) (by omega) (by simp)]; rfl
end Go.Proofs
set_option linter.unusedSimpArgs false
set_option linter.unusedVariables false
set_option maxRecDepth 20000
set_option maxHeartbeats 4000000
namespace Go.Proofs
open Go.VG
structure OwnS where
  Open_1 : Int
  Open_2 : Int
  Open_3 : Int
  Open_4 : Bool
  X : Option MirS
  T : List Sec
  Stale : List Int
  Lost : List Int
def OwnP (a b : Nat) (l : OwnS) : HP := ex fun h : Nat × Nat × Nat × Sl3 × Sl3=>star [blk b 60 [ptr a 0,.func (.func 46) #[] #[ptr h.1 0],oifc 41 l.X h.2.1,ptr h.2.2.1 0,(Sl3.v h.2.2.2.1),(Sl3.v h.2.2.2.2)],blk h.1 28 [ptr a 0,.int .i64 l.Open_1,.int .i64 l.Open_2,.int .i64 l.Open_3,.bool l.Open_4],optP (MirP a h.2.1) l.X,Trk h.2.2.1 l.T,sl tyI (Sl3.v h.2.2.2.1) l.Stale,sl tyI (Sl3.v h.2.2.2.2) l.Lost]
theorem OwnP_open {a b : Nat} {l : OwnS} {R : List HP} : EntX (OwnP a b l::R) fun h : Nat × Nat × Nat × Sl3 × Sl3=>blk b 60 [ptr a 0,.func (.func 46) #[] #[ptr h.1 0],oifc 41 l.X h.2.1,ptr h.2.2.1 0,(Sl3.v h.2.2.2.1),(Sl3.v h.2.2.2.2)]::blk h.1 28 [ptr a 0,.int .i64 l.Open_1,.int .i64 l.Open_2,.int .i64 l.Open_3,.bool l.Open_4]::optP (MirP a h.2.1) l.X::Trk h.2.2.1 l.T::sl tyI (Sl3.v h.2.2.2.1) l.Stale::sl tyI (Sl3.v h.2.2.2.2) l.Lost::R :=
  fun _ hh=>let ⟨c,hc⟩ := stars_ex.1 hh; ⟨c,stars_star.1 hc⟩
theorem OwnP_mk {a b : Nat} {v0 : Int} {v1 : Int} {v2 : Int} {v3 : Bool} {v4 : Option MirS} {v5 : List Sec} {v6 : List Int} {v7 : List Int} {h0 : Nat} {h1 : Nat} {h2 : Nat} {h3 : Sl3} {h4 : Sl3} {R : List HP} : Ent (blk b 60 [ptr a 0,.func (.func 46) #[] #[ptr h0 0],oifc 41 v4 h1,ptr h2 0,(Sl3.v h3),(Sl3.v h4)]::blk h0 28 [ptr a 0,.int .i64 v0,.int .i64 v1,.int .i64 v2,.bool v3]::optP (MirP a h1) v4::Trk h2 v5::sl tyI (Sl3.v h3) v6::sl tyI (Sl3.v h4) v7::R) (OwnP a b ⟨v0,v1,v2,v3,v4,v5,v6,v7⟩::R) :=
  fun _ hh=>stars_ex.2 ⟨(h0,h1,h2,h3,h4),stars_star.2 hh⟩
end Go.Proofs
