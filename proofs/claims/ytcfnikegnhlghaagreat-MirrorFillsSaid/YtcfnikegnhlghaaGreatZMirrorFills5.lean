/- MirrorFills, part 5 of the proof: LX7, LX8, LX9, LX10. -/
import Derived.WalkKit
import Derived.Orders
import Derived.RangeFuncLeaves
import Derived.RangeFuncCalls
import Derived.TacticsIn
import Derived.Handy
import Derived.OrdersHeld
import Derived.OrdersIn
import Derived.Below
import Derived.OpenShut
import Derived.Deep.Slices
import Derived.Scope
import Derived.KernelRfl
import Derived.RangeFuncRecord
import Derived.ChangeKeysEq
import Derived.ProofKit
import Derived.ShutString
import Derived.ChangeOld
import Derived.Test.YtcfnikegnhlghaaGreatChecked
import Derived.Test.YtcfnikegnhlghaaGreatRows
import Derived.Test.YtcfnikegnhlghaaGreatZMirrorFills4
set_option linter.unusedSimpArgs false
set_option linter.unusedVariables false
set_option maxRecDepth 20000
set_option maxHeartbeats 4000000
namespace Go.Proofs
open Go.VG
theorem zjs {W:World} {bm:Nat} {bs:Nat} {m:MirS} {at_1:Int} {w:UInt64} {s:ArrS} {r:Int × MirS × ArrS} (h:zc6 m at_1 w s=some r) :
    CSpec Tryz.prog W 109 [ptr bm 0,.int .i64 at_1,.int .u64 (w.toNat:Int)] [MirP bs bm m,Arr bs s] (fun x:Unit => .int .i64 r.1) (fun _=>True) (fun x F=>MirP bs bm r.2.1::Arr bs r.2.2::F) :=
  CSpec.exq2 (R' := fun x:Unit=>[Arr bs r.2.2]) (fun _=>zl6) (fun _ _ _=>zl7) (fun _=>zlk h)
def zgd (i:Int) (p1:Int):Option (Bool) :=
  some ((decide (i≠p1)))
def zcs (i:Int) (p1:List Int) (x_2_v:MirS) (e_3:Int) (e_4:UInt64) (s:ArrS):Option (Int × ArrS) :=
  Option.bind (zdw p1 i) fun r2 =>
  seqO ((
    if (¬ r2=true) then
      grd (decide (0≤i∧i < (x_2_v.legs.length:Int))) <|
      Option.bind (Dvc.rd ((x_2_v.legs.getD ((i).toNat) mleg_x0).dev) s e_3) fun r15 =>
      if (((r15.2=(0:Int))∧(r15.1=e_4))∨((r15.2≠(0:Int))∧(r15.2≠(7:Int)))) then
        some (.inr (r15.2,s))
      else
        some (.inl ())
    else
      some (.inl ()):Option ((Unit) ⊕ (Int × ArrS)))) fun a7 =>
  grd (decide (0≤i∧i < (x_2_v.legs.length:Int))) <|
  Option.bind (Dvc.wr ((x_2_v.legs.getD ((i).toNat) mleg_x0).dev) s e_3 e_4) fun r45 =>
  if (r45.1≠(0:Int)) then
    some (r45.1,r45.2)
  else
    grd (decide (0≤i∧i < (x_2_v.legs.length:Int))) <|
    Option.bind (Dvc.fl ((x_2_v.legs.getD ((i).toNat) mleg_x0).dev) r45.2) fun r54 =>
    some (r54.1,r54.2)
def zev (m:MirS) (choose_c0:Int) (do_2_c0:List Int) (do_2_c2:Int) (do_2_c3:UInt64) (rec:MirS→ArrS→Nat→Option ((MirS × ArrS) ⊕ (Int × MirS × ArrS))) (x13:MirS) (x14:ArrS) (x15:Nat):Option ((MirS × ArrS) ⊕ (Int × MirS × ArrS)) :=
  if (((x15:Nat):Int) < ((m.legs.length:Nat):Int)) then
    grd (decide (x15 < x13.legs.length)) <|
    if ((x13.legs.getD x15 mleg_x0).state=(0:Int)) then
      Option.bind (zgd (((x15:Nat):Int)) choose_c0) fun r21 =>
      if r21=true then
        Option.bind (zcs (((x15:Nat):Int)) do_2_c0 x13 do_2_c2 do_2_c3 x14) fun r23 =>
        Option.bind (zbg x13 (((x15:Nat):Int)) r23.1 r23.2) fun r25 =>
        if (r25.1≠(0:Int)) then
          some (.inr (r25.1,r25.2,r23.2))
        else
          rec r25.2 r23.2 (x15 + 1)
      else
        rec x13 x14 (x15 + 1)
    else
      rec x13 x14 (x15 + 1)
  else
    some (.inl (x13,x14))
def zb3 (m:MirS) (choose_c0:Int) (do_2_c0:List Int) (do_2_c2:Int) (do_2_c3:UInt64):Nat→MirS→ArrS→Nat→Option ((MirS × ArrS) ⊕ (Int × MirS × ArrS))
  | 0,_,_,_=>none
  | n + 1,x13,x14,x15=>zev m choose_c0 do_2_c0 do_2_c2 do_2_c3 (zb3 m choose_c0 do_2_c0 do_2_c2 do_2_c3 n) x13 x14 x15
def zcm (m:MirS) (choose_c0:Int) (do_2_c0:List Int) (do_2_c2:Int) (do_2_c3:UInt64) (s:ArrS):Option (Int × MirS × ArrS) :=
  seqO (zb3 m choose_c0 do_2_c0 do_2_c2 do_2_c3 FUEL m s 0) fun a12 =>
  Option.bind (zbi a12.1 a12.2) fun r28 =>
  some (r28,a12.1,a12.2)
theorem znv {W:World} {bp1:Nat} {i:Int} {p1:Int} {r:Bool} (h:zgd i p1=some r) :
    CSpec Tryz.prog W 107 [.int .i64 i,ptr bp1 0] [blk bp1 3 [.int .i64 p1]] (fun x:Unit => .bool r) (fun _=>True) (fun x F=>blk bp1 3 [.int .i64 p1]::F) := by
 refine CSpec.of_body Tryz.func107 rfl Tryz.ntmps107 rfl fun F => ?_
 show CJ _ _ _ _ _ _ (_::F)
 unfold zgd at h
 refine sR <| oA rfl rfl <| nT <| sR <| oM rfl rfl <| oV (zag rfl foc0 rfl Tryz.isAgg3) rfl <| oP (P_neq (a:=i) (b:=p1) rfl rfl) rfl <| oA rfl rfl <| nT <| zah ?_
 cases h
 exact fE (res1 Tryz.results107 rfl) () eR
theorem znw {W:World} {bp1:Nat} {Ap1:HP} {vp1:Value} {bx_2:Nat} {bx_2_v:Nat} {vlx_2_v:Sl3} {be_3:Nat} {be_4:Nat} {bs:Nat} {i:Int} {p1:List Int} {x_2_v:MirS} {e_3:Int} {e_4:UInt64} {s:ArrS} {r:Int × ArrS} (rp1:Reads Ap1 tyI vp1 p1) (h:zcs i p1 x_2_v e_3 e_4 s=some r) :
    CSpec Tryz.prog W 108 [.int .i64 i,ptr bp1 0,ptr bx_2 0,ptr be_3 0,ptr be_4 0] [blk bp1 45 [vp1],Ap1,blk bx_2 41 [ptr bx_2_v 0],MirQ bs vlx_2_v bx_2_v x_2_v,blk be_3 3 [.int .i64 e_3],blk be_4 23 [.int .u64 (e_4.toNat:Int)],Arr bs s] (fun x:Unit => .int .i64 r.1) (fun _=>True) (fun x F=>blk bp1 45 [vp1]::Ap1::blk bx_2 41 [ptr bx_2_v 0]::MirQ bs vlx_2_v bx_2_v x_2_v::blk be_3 3 [.int .i64 e_3]::blk be_4 23 [.int .u64 (e_4.toNat:Int)]::Arr bs r.2::F) := by
 refine CSpec.of_body Tryz.func108 rfl Tryz.ntmps108 rfl fun F => ?_
 show CJ _ _ _ _ _ _ (_::_::_::_::_::_::_::F)
 unfold zcs at h
 refine za1 (zcg rp1 del1) fun hlen1=>sR <| oA rfl rfl <| nT <| zac <| sR <| oV (zag rfl foc0 rfl Tryz.isAgg45) rfl <| oM rfl rfl ?_
 obtain ⟨r2,hr3,h⟩ := zar h
 refine oO <| zat (zgu rp1 hr3) rfl Tryz.call81 (Dels.cons del1 Dels.nil) rfl fun _ _=>oP (P_not rfl) rfl <| nT ?_
 obtain ⟨y6,hl4,hK5⟩ := seq_e h
 refine zbv (X:=Unit) [6,7,8,14,15,16,17,18,19,20,21,22,23,24,25,26,27,28,29,30,31,32,33,34,35,36,37,38,39,40,41,42] (fun _=>([]:Slots)) (fun _ R=>R) (fun _=>y6 = .inl ()) Dels.nil ?_ ?_
 ·
  have h := hl4
  refine zan rfl (zdk Iff.rfl) (fun hg1 => ?_) (fun hg1 => ?_)
  ·
   replace h := ite_t hg1 h
   refine zac <| zax (Ent.transX (t3_ eR) (zcx (l:=x_2_v))) fun oc8=>za1 (fun h hh=>za7 (zaq (del2 (A:=Rs (DevP bs) (x_2_v.legs.map mlegS.dev) oc8.1)).out h hh)) fun hdl10=>lC del1 fun hlen11 => ?_
   rw [zai (by have := hdl10; simpa using this)] at hlen11
   refine lC del4 fun hlen12=>zbc 512 (by kernel_rfl) rfl <| aV 0 1 rfl rfl (zak rfl) eR (zag rfl foc7 rfl Tryz.isAgg41) rfl <| aN 1 3 rfl rfl (zae rfl) rfl <| aN 2 7 rfl rfl (zaa rfl ⟨_,_,_,Tryz.runUnderlying119,rfl,rfl,Tryz.sizeOf115,rfl⟩) rfl <| aV 3 15 rfl rfl (zak rfl) eR (zag rfl foc0 rfl Tryz.isAgg115) rfl <| aN 4 31 rfl rfl (zaj rfl) rfl ?_
   obtain ⟨hg2,h⟩ := zbt h
   refine aV 5 63 rfl rfl (zak rfl) eR (zay (i:=(i).toNat) rfl rfl (Int.toNat_of_nonneg (hg2.1)).symm (show (i).toNat < (zav x_2_v.legs oc8.1).length by rw [zai (by have := hdl10; simpa using this)]; exact (by omega)) foc1 (Reads.sl _ _ _) Tryz.runUnderlying115 Tryz.sizeOf129) rfl <| aN 6 127 rfl rfl (zbe rfl ⟨_,_,_,Tryz.runUnderlying129,rfl,rfl,Tryz.sizeOf96,rfl⟩) rfl <| zey (Ent.trans (t2_ eR) (zfk (i:=(i).toNat) (by omega))) <| aV 7 255 rfl rfl (zak rfl) (t2_ (t2_ (t1_ (t1_ (t1_ (t1_ (t1_ (t1_ (t1_ (t1_ (t1_ (eD eR)))))))))))) (VJ_eq (za6 rfl rfl (show (i).toNat < (zav x_2_v.legs oc8.1).length by rw [zai (by have := hdl10; simpa using this)]; exact (by omega)) foc1 (Reads.sl _ _ _) rfl rfl Tryz.isAgg96) (show (IfH.v ((oc8.1.getD ((i).toNat) tyDev.dflt)):Value)=IfH.v ((zav x_2_v.legs oc8.1).getD ((i).toNat) zbz).dev from by rw [zb2 (by have := hdl10; simpa using this)])) rfl <| aV 8 511 rfl rfl (zak rfl) (t2_ (t2_ (t1_ (t1_ (t1_ (t1_ (t1_ (t1_ (t1_ (t1_ (t1_ (eD eR)))))))))))) (zag rfl foc8 rfl Tryz.isAgg3) rfl ?_
   refine zh9 (fun h hh=>zd3 h (zaq (del0 (A:=DevP bs ((x_2_v.legs.getD ((i).toNat) mleg_x0).dev) ((oc8.1.getD ((i).toNat) tyDev.dflt)))).out h hh)) fun hdp14 => ?_
   obtain ⟨r15,hr16,h⟩ := zar h
   refine AJ_op 9 1023 rfl (by kernel_rfl) rfl (zak rfl) <| zc8 rfl (zsc hr16 hdp14) rfl (Dels.cons del0 (Dels.cons del10 Dels.nil)) rfl fun _ _=>⟨fun h=>absurd h (by decide),?_⟩
   refine aN 10 2047 rfl rfl (zaj rfl) rfl <| aN 11 4095 rfl rfl (za4 rfl rfl) rfl <| aN 12 8191 rfl rfl (za4 rfl rfl) rfl <| aN 13 16383 rfl rfl (zb0 rfl) rfl <| aN 14 32767 rfl rfl (zb0 rfl) rfl <| zcd (by kernel_rfl) <| zas (Ent.trans (t3_ (t3_ (t2_ (t2_ (t2_ eR))))) (zdq (v0:=x_2_v.legs) (v1:=x_2_v.log) (v2:=x_2_v.hasLog) (v3:=x_2_v.logState) (v4:=x_2_v.size) (v5:=x_2_v.region) (v6:=x_2_v.dirty) (v7:=x_2_v.copied) (h0:=oc8.1) (h1:=oc8.2.1) (h2:=oc8.2.2))) <| zas (t0_ (t1_ (t1_ (t1_ (t1_ (t1_ (t1_ (eD eR)))))))) <| zam <| sR <| oM rfl rfl <| oP (P_eql (a:=r15.2) (b:=(0:Int)) rfl rfl) rfl <| oM rfl rfl <| zbk rfl rfl rfl (fun hG17=>have hP18:(r15.2=(0:Int)) := (zab).1 hG17; VJ_P (zaj rfl)) <| zbk rfl rfl rfl (fun hG19=>have hP20:(r15.2=(0:Int)) := (zab).1 hG19; zag rfl foc6 rfl Tryz.isAgg23) <| zbk rfl rfl rfl (fun hG21=>have hP22:(r15.2=(0:Int)) := (zab).1 hG21; VJ_P (zpt (a:=r15.1) (b:=e_4) (mbx hG21 rfl) (mbx hG21 rfl))) <| oP (zd1 rfl (fun hh=>mbx hh rfl) rfl) rfl <| oM rfl rfl <| zaz rfl rfl rfl (fun hG23=>have hP24:¬ ((r15.2=(0:Int))∧(r15.1=e_4)) := nP ((zc3 zab zab)) hG23; VJ_P (zaj rfl)) ?_
   refine zaz rfl rfl rfl (fun hG25=>have hP26:¬ ((r15.2=(0:Int))∧(r15.1=e_4)) := nP ((zc3 zab zab)) hG25; VJ_P (P_neq (a:=r15.2) (b:=(0:Int)) (mbx hG25 rfl) rfl)) <| zaz rfl rfl rfl (fun hG27=>have hP28:¬ ((r15.2=(0:Int))∧(r15.1=e_4)) := nP ((zc3 zab zab)) hG27; VJ_P (zaj (mbx hG27 rfl))) <| zmz rfl rfl rfl (fun hG29=>have hP30:¬ ((r15.2=(0:Int))∧(r15.1=e_4)) := nP ((zc3 zab zab)) (and_l hG29); have hP31:(r15.2≠(0:Int)) := (zab).1 (and_r hG29); VJ_P (zaj rfl)) <| zmz rfl rfl rfl (fun hG32=>have hP33:¬ ((r15.2=(0:Int))∧(r15.1=e_4)) := nP ((zc3 zab zab)) (and_l hG32); have hP34:(r15.2≠(0:Int)) := (zab).1 (and_r hG32); VJ_P (P_neq (a:=r15.2) (b:=(7:Int)) (mbx hG32 rfl) rfl)) <| zaz rfl rfl rfl (fun hG35=>have hP36:¬ ((r15.2=(0:Int))∧(r15.1=e_4)) := nP ((zc3 zab zab)) hG35; VJ_P (zd1 (mbx hG35 rfl) (fun hh=>mbx (and_i hG35 hh) rfl) rfl)) <| oP (zcw rfl rfl (fun hh=>mbx (not_f hh) rfl)) rfl <| nT <| zan rfl (bT_or (zc3 zab zab) (zc3 zab zab)) (fun hg3 => ?_) (fun hg3 => ?_)
   ·
    replace h := ite_t hg3 h
    refine sR <| oM rfl rfl <| oA rfl rfl <| nT <| zah <| zad ?_
    have hE := Option.some.inj h
    replace hE := zce hK5 hE.symm
    subst hE
    exact fE (res1 Tryz.results108 rfl) () (t3_ (t2_ (t2_ (t0_ (t1_ (t1_ eR))))))
   ·
    replace h := ite_f hg3 h
    exact zbr <| cR () (Option.some.inj h).symm True.intro (t2_ (t2_ (t2_ (t0_ (t1_ (t1_ eR))))))
  ·
   replace h := ite_f hg1 h
   exact zbr <| cR () (Option.some.inj h).symm True.intro eR
 ·
  rintro _ hy37
  replace h := zd0 hK5 hy37
  show CJ _ _ _ _ _ (([]:Slots) ++ forget _ _) (_)
  refine zac <| zac <| zax (Ent.transX (t3_ eR) (zcx (l:=x_2_v))) fun oc38=>za1 (fun h hh=>za7 (zaq (del2 (A:=Rs (DevP bs) (x_2_v.legs.map mlegS.dev) oc38.1)).out h hh)) fun hdl40=>lC del1 fun hlen41 => ?_
  rw [zai (by have := hdl40; simpa using this)] at hlen41
  refine lC del4 fun hlen42=>zbc 1024 (by kernel_rfl) rfl <| aV 0 1 rfl rfl (zak rfl) eR (zag rfl foc7 rfl Tryz.isAgg41) rfl <| aN 1 3 rfl rfl (zae rfl) rfl <| aN 2 7 rfl rfl (zaa rfl ⟨_,_,_,Tryz.runUnderlying119,rfl,rfl,Tryz.sizeOf115,rfl⟩) rfl <| aV 3 15 rfl rfl (zak rfl) eR (zag rfl foc0 rfl Tryz.isAgg115) rfl <| aN 4 31 rfl rfl (zaj rfl) rfl ?_
  obtain ⟨hg4,h⟩ := zbt h
  refine aV 5 63 rfl rfl (zak rfl) eR (zay (i:=(i).toNat) rfl rfl (Int.toNat_of_nonneg (hg4.1)).symm (show (i).toNat < (zav x_2_v.legs oc38.1).length by rw [zai (by have := hdl40; simpa using this)]; exact (by omega)) foc1 (Reads.sl _ _ _) Tryz.runUnderlying115 Tryz.sizeOf129) rfl <| aN 6 127 rfl rfl (zbe rfl ⟨_,_,_,Tryz.runUnderlying129,rfl,rfl,Tryz.sizeOf96,rfl⟩) rfl <| zey (Ent.trans (t2_ eR) (zfk (i:=(i).toNat) (by omega))) <| aV 7 255 rfl rfl (zak rfl) (t2_ (t2_ (t1_ (t1_ (t1_ (t1_ (t1_ (t1_ (t1_ (t1_ (t1_ (eD eR)))))))))))) (VJ_eq (za6 rfl rfl (show (i).toNat < (zav x_2_v.legs oc38.1).length by rw [zai (by have := hdl40; simpa using this)]; exact (by omega)) foc1 (Reads.sl _ _ _) rfl rfl Tryz.isAgg96) (show (IfH.v ((oc38.1.getD ((i).toNat) tyDev.dflt)):Value)=IfH.v ((zav x_2_v.legs oc38.1).getD ((i).toNat) zbz).dev from by rw [zb2 (by have := hdl40; simpa using this)])) rfl <| aV 8 511 rfl rfl (zak rfl) (t2_ (t2_ (t1_ (t1_ (t1_ (t1_ (t1_ (t1_ (t1_ (t1_ (t1_ (eD eR)))))))))))) (zag rfl foc8 rfl Tryz.isAgg3) rfl ?_
  refine aV 9 1023 rfl rfl (zak rfl) (t2_ (t2_ (t1_ (t1_ (t1_ (t1_ (t1_ (t1_ (t1_ (t1_ (t1_ (eD eR)))))))))))) (zag rfl foc9 rfl Tryz.isAgg23) rfl <| zh9 (fun h hh=>zd3 h (zaq (del0 (A:=DevP bs ((x_2_v.legs.getD ((i).toNat) mleg_x0).dev) ((oc38.1.getD ((i).toNat) tyDev.dflt)))).out h hh)) fun hdp44 => ?_
  obtain ⟨r45,hr46,h⟩ := zar h
  refine AJ_op 10 2047 rfl (by kernel_rfl) rfl (zak rfl) <| zc8 rfl (zjn hr46 hdp44) rfl (Dels.cons del0 (Dels.cons del10 Dels.nil)) rfl fun _ _=>⟨fun h=>absurd h (by decide),?_⟩
  refine aN 11 4095 rfl rfl (zb0 rfl) rfl <| zcd (by kernel_rfl) <| zas (Ent.trans (t3_ (t3_ (t2_ (t2_ (t2_ eR))))) (zdq (v0:=x_2_v.legs) (v1:=x_2_v.log) (v2:=x_2_v.hasLog) (v3:=x_2_v.logState) (v4:=x_2_v.size) (v5:=x_2_v.region) (v6:=x_2_v.dirty) (v7:=x_2_v.copied) (h0:=oc38.1) (h1:=oc38.2.1) (h2:=oc38.2.2))) <| zas (t0_ (t1_ (t1_ (t1_ (t1_ (t1_ (t1_ (eD eR)))))))) <| zam <| sR <| oM rfl rfl <| oP (P_neq (a:=r45.1) (b:=(0:Int)) rfl rfl) rfl <| nT <| zan rfl zab (fun hg5 => ?_) (fun hg5 => ?_)
  ·
   replace h := ite_t hg5 h
   refine sR <| oM rfl rfl <| oA rfl rfl <| nT <| zah <| zad ?_
   cases h
   exact fE (res1 Tryz.results108 rfl) () (t3_ (t2_ (t2_ (t0_ (t1_ (t1_ eR))))))
  ·
   replace h := ite_f hg5 h
   refine kT <| zac <| zax (Ent.transX (t0_ eR) (zcx (l:=x_2_v))) fun oc47=>za1 (fun h hh=>za7 (zaq (del2 (A:=Rs (DevP bs) (x_2_v.legs.map mlegS.dev) oc47.1)).out h hh)) fun hdl49=>lC del1 fun hlen50 => ?_
   rw [zai (by have := hdl49; simpa using this)] at hlen50
   refine lC del4 fun hlen51=>zaf <| oV (zag rfl foc8 rfl Tryz.isAgg41) rfl <| oP (zae rfl) rfl <| oP (zaa rfl ⟨_,_,_,Tryz.runUnderlying119,rfl,rfl,Tryz.sizeOf115,rfl⟩) rfl <| oV (zag rfl foc0 rfl Tryz.isAgg115) rfl <| oM rfl rfl ?_
   obtain ⟨hg6,h⟩ := zbt h
   refine oV (zay (i:=(i).toNat) rfl rfl (Int.toNat_of_nonneg (hg6.1)).symm (show (i).toNat < (zav x_2_v.legs oc47.1).length by rw [zai (by have := hdl49; simpa using this)]; exact (by omega)) foc1 (Reads.sl _ _ _) Tryz.runUnderlying115 Tryz.sizeOf129) rfl <| oP (zbe rfl ⟨_,_,_,Tryz.runUnderlying129,rfl,rfl,Tryz.sizeOf96,rfl⟩) rfl <| zbb (Ent.trans (t2_ eR) (zfk (i:=(i).toNat) (by omega))) <| oV (VJ_eq (za6 rfl rfl (show (i).toNat < (zav x_2_v.legs oc47.1).length by rw [zai (by have := hdl49; simpa using this)]; exact (by omega)) foc3 (Reads.sl _ _ _) rfl rfl Tryz.isAgg96) (show (IfH.v ((oc47.1.getD ((i).toNat) tyDev.dflt)):Value)=IfH.v ((zav x_2_v.legs oc47.1).getD ((i).toNat) zbz).dev from by rw [zb2 (by have := hdl49; simpa using this)])) rfl <| zcl (fun h hh=>zd3 h (zaq (del0 (A:=DevP bs ((x_2_v.legs.getD ((i).toNat) mleg_x0).dev) ((oc47.1.getD ((i).toNat) tyDev.dflt)))).out h hh)) fun hdp53 => ?_
   obtain ⟨r54,hr55,h⟩ := zar h
   refine oO <| zc8 rfl (zk1 hr55 hdp53) rfl (Dels.cons del0 (Dels.cons del5 Dels.nil)) rfl fun _ _=>oA rfl rfl <| zap <| zas (Ent.trans (t3_ (t3_ (t2_ (t2_ (t2_ eR))))) (zdq (v0:=x_2_v.legs) (v1:=x_2_v.log) (v2:=x_2_v.hasLog) (v3:=x_2_v.logState) (v4:=x_2_v.size) (v5:=x_2_v.region) (v6:=x_2_v.dirty) (v7:=x_2_v.copied) (h0:=oc47.1) (h1:=oc47.2.1) (h2:=oc47.2.2))) <| zas (t0_ (t1_ (t1_ (t1_ (t1_ (t1_ (t1_ (eD eR)))))))) <| zam <| zah ?_
   cases h
   exact fE (res1 Tryz.results108 rfl) () (t3_ (t2_ (t2_ (t0_ (t1_ (t1_ eR))))))
theorem zjo {W:World} {bm:Nat} {vlm:Sl3} {bchoose_c0:Nat} {bdo_2_c0:Nat} {Ado_2_c0:HP} {vdo_2_c0:Value} {bdo_2_c1:Nat} {bdo_2_c2:Nat} {bdo_2_c3:Nat} {bs:Nat} {m:MirS} {choose_c0:Int} {do_2_c0:List Int} {do_2_c2:Int} {do_2_c3:UInt64} {s:ArrS} {r:Int × MirS × ArrS} (rdo_2_c0:Reads Ado_2_c0 tyI vdo_2_c0 do_2_c0) (h:zcm m choose_c0 do_2_c0 do_2_c2 do_2_c3 s=some r) :
    CSpec Tryz.prog W 61 [ptr bm 0,.func (.func 107) #[] #[ptr bchoose_c0 0],.func (.func 108) #[] #[ptr bdo_2_c0 0,ptr bdo_2_c1 0,ptr bdo_2_c2 0,ptr bdo_2_c3 0]] [MirQ bs vlm bm m,blk bchoose_c0 3 [.int .i64 choose_c0],blk bdo_2_c0 45 [vdo_2_c0],Ado_2_c0,blk bdo_2_c1 41 [ptr bm 0],blk bdo_2_c2 3 [.int .i64 do_2_c2],blk bdo_2_c3 23 [.int .u64 (do_2_c3.toNat:Int)],Arr bs s] (fun x:Unit => .int .i64 r.1) (fun _=>True) (fun x F=>MirQ bs vlm bm r.2.1::blk bchoose_c0 3 [.int .i64 choose_c0]::blk bdo_2_c0 45 [vdo_2_c0]::Ado_2_c0::blk bdo_2_c1 41 [ptr bm 0]::blk bdo_2_c2 3 [.int .i64 do_2_c2]::blk bdo_2_c3 23 [.int .u64 (do_2_c3.toNat:Int)]::Arr bs r.2.2::F) := by
 refine CSpec.of_body Tryz.func61 rfl Tryz.ntmps61 rfl fun F => ?_
 show CJ _ _ _ _ _ _ (_::_::_::_::_::_::_::_::F)
 unfold zcm at h
 refine za1 (zcg rdo_2_c0 del3) fun hlen1=>sR <| oA rfl rfl <| nT <| sR <| oM rfl rfl <| oP (zb6 rfl rfl) rfl <| oA rfl rfl <| nT <| zac <| zac <| zax (Ent.transX (t0_ eR) (zcx (l:=m))) fun oc2=>za1 (fun h hh=>za7 (zaq (del2 (A:=Rs (DevP bs) (m.legs.map mlegS.dev) oc2.1)).out h hh)) fun hdl4=>lC del1 fun hlen5 => ?_
 rw [zai (by have := hdl4; simpa using this)] at hlen5
 refine lC del4 fun hlen6=>zaf <| oM rfl rfl <| oP (zae rfl) rfl <| oP (zaa rfl ⟨_,_,_,Tryz.runUnderlying119,rfl,rfl,Tryz.sizeOf115,rfl⟩) rfl <| oV (zag rfl foc0 rfl Tryz.isAgg115) rfl <| oV (VJ_eq (V_len rfl foc1 (Reads.sl _ _ _) Tryz.runUnderlying115) (congrArg (fun z:Nat=>Value.int .i64 (z:Int)) (zai (by have := hdl4; simpa using this)).symm)) rfl <| oM rfl rfl <| zap <| zas (Ent.trans eR (zdq (v0:=m.legs) (v1:=m.log) (v2:=m.hasLog) (v3:=m.logState) (v4:=m.size) (v5:=m.region) (v6:=m.dirty) (v7:=m.copied) (h0:=oc2.1) (h1:=oc2.2.1) (h2:=oc2.2.2))) <| zam ?_
 obtain ⟨y9,hl7,hK8⟩ := seq_e h
 refine zbv (X:=MirS × ArrS) [6,8,9,17,18,19,20,21,22,23,24,25,26,27,28,29,30,31,32,33,34,35,36,37,38,39,40,41,42,43] (fun a12=>([]:Slots)) (fun a12 R=>MirQ bs vlm bm a12.1::Arr bs a12.2::R) (fun a12=>y9 = .inl a12) (Dels.cons del0 (Dels.cons del6 Dels.nil)) ?_ ?_
 ·
  refine zaw <| zbd (X:=Nat × MirS × ArrS × Nat) [6,8,9,17,18,19,20,21,22,23,24,25,26,27,28,29,30,31,32,33,34,35,36,37,38,39,40,41,42,43] (fun ⟨n,x13,x14,x15⟩=>([(17,.int .i64 (((x15:Nat):Int)))]:Slots)) (fun ⟨n,x13,x14,x15⟩ R=>MirQ bs vlm bm x13::Arr bs x14::R) (fun ⟨n,x13,x14,x15⟩=>zb3 m choose_c0 do_2_c0 do_2_c2 do_2_c3 n x13 x14 x15=some y9) (fun ⟨n,x13,x14,x15⟩=>n) ⟨FUEL,m,s,0⟩ ?_ ?_ (t0_ (t6_ eR)) ?_
  · exact hl7
  · exact ⟨rfl,True.intro⟩
  ·
   rintro ⟨n,x13,x14,x15⟩ h
   cases n with
   | zero=>exact zbq h
   | succ n => ?_
   replace h:zev m choose_c0 do_2_c0 do_2_c2 do_2_c3 (zb3 m choose_c0 do_2_c0 do_2_c2 do_2_c3 n) x13 x14 x15=some y9 := h
   unfold zev at h
   show CJ _ _ _ _ _ (([(17,.int .i64 (((x15:Nat):Int)))]:Slots) ++ forget _ _) (MirQ bs vlm bm x13::Arr bs x14::_)
   refine sR <| oP (P_lss (a:=((x15:Nat):Int)) (b:=((m.legs.length:Nat):Int)) rfl rfl) rfl <| nT <| zac <| zan rfl zab (fun hg1 => ?_) (fun hg1 => ?_)
   ·
    replace h := ite_t hg1 h
    refine kT <| zac <| zaw <| sR <| oM rfl rfl <| oA rfl rfl <| nT <| zac <| zax (Ent.transX (t0_ eR) (zcx (l:=x13))) fun oc16=>za1 (fun h hh=>za7 (zaq (del2 (A:=Rs (DevP bs) (x13.legs.map mlegS.dev) oc16.1)).out h hh)) fun hdl18=>lC del1 fun hlen19 => ?_
    rw [zai (by have := hdl18; simpa using this)] at hlen19
    refine lC del4 fun hlen20=>zaf <| oM rfl rfl <| oP (zae rfl) rfl <| oP (zaa rfl ⟨_,_,_,Tryz.runUnderlying119,rfl,rfl,Tryz.sizeOf115,rfl⟩) rfl <| oV (zag rfl foc0 rfl Tryz.isAgg115) rfl <| oM rfl rfl ?_
    obtain ⟨hg2,h⟩ := zbt h
    refine oV (zay (i:=x15) rfl rfl rfl (show x15 < (zav x13.legs oc16.1).length by rw [zai (by have := hdl18; simpa using this)]; exact hg2) foc1 (Reads.sl _ _ _) Tryz.runUnderlying115 Tryz.sizeOf129) rfl <| oP (zbe rfl ⟨_,_,_,Tryz.runUnderlying129,rfl,rfl,Tryz.sizeOf117,rfl⟩) rfl <| oV (VJ_eq (za6 rfl rfl (show x15 < (zav x13.legs oc16.1).length by rw [zai (by have := hdl18; simpa using this)]; exact hg2) foc1 (Reads.sl _ _ _) rfl rfl Tryz.isAgg117) (show (.int .i64 ((x13.legs.getD x15 mleg_x0).state):Value) = .int .i64 ((zav x13.legs oc16.1).getD x15 zbz).state from by rw [zb2 (by have := hdl18; simpa using this)])) rfl <| oP (P_eql (a:=(x13.legs.getD x15 mleg_x0).state) (b:=(0:Int)) rfl rfl) rfl <| oM rfl rfl <| zb7 29 rfl zab (fun hg3B hg3 => ?_) (fun hg3B hg3 => ?_)
    ·
     replace h := ite_t hg3 h
     refine gP (zal rfl rfl rfl hg3B) (zaj rfl) rfl <| gP (zal rfl rfl rfl hg3B) (zaj rfl) rfl ?_
     obtain ⟨r21,hr22,h⟩ := zar h
     refine RJ_gy (zal rfl rfl rfl hg3B) <| ze3 rfl rfl (znv hr22) Tryz.call107 (Dels.cons del6 Dels.nil) rfl fun _ _=>oP (zbh rfl hg3B rfl) rfl <| zap <| zas (Ent.trans (t1_ (t1_ (t1_ (t1_ (t1_ eR))))) (zdq (v0:=x13.legs) (v1:=x13.log) (v2:=x13.hasLog) (v3:=x13.logState) (v4:=x13.size) (v5:=x13.region) (v6:=x13.dirty) (v7:=x13.copied) (h0:=oc16.1) (h1:=oc16.2.1) (h2:=oc16.2.2))) <| zam <| zan rfl Iff.rfl (fun hg4 => ?_) (fun hg4 => ?_)
     ·
      replace h := ite_t hg4 h
      refine sR <| oM rfl rfl <| oM rfl rfl <| oM rfl rfl <| oM rfl rfl ?_
      obtain ⟨r23,hr24,h⟩ := zar h
      refine oO <| ze3 rfl rfl (znw rdo_2_c0 hr24) Tryz.call108 (Dels.cons del3 (Dels.cons del3 (Dels.cons del3 (Dels.cons del0 (Dels.cons del2 (Dels.cons del2 (Dels.cons del1 Dels.nil))))))) rfl fun _ _ => ?_
      obtain ⟨r25,hr26,h⟩ := zar h
      refine oO <| ze3 rfl rfl (zfq hr26) Tryz.call76 (Dels.cons del3 (Dels.cons del5 Dels.nil)) rfl fun _ _=>oA rfl rfl <| nT <| sR <| oM rfl rfl <| oP (P_neq (a:=r25.1) (b:=(0:Int)) rfl rfl) rfl <| nT <| zan rfl zab (fun hg5 => ?_) (fun hg5 => ?_)
      ·
       replace h := ite_t hg5 h
       refine sR <| oM rfl rfl <| oA rfl rfl <| nT <| zah <| zau <| zad <| za9 <| zau <| zad ?_
       have hE := Option.some.inj h
       replace hE := zce hK8 hE.symm
       subst hE
       exact fE (res1 Tryz.results61 rfl) () (t0_ (t6_ (t1_ (t1_ (t1_ (t1_ (t1_ eR)))))))
      ·
       replace h := ite_f hg5 h
       exact zbr <| zao <| zam <| zaf <| oP (PJ_eq (P_add (a:=((x15:Nat):Int)) (b:=(1:Int)) rfl rfl (by omega)) rfl) rfl <| oM rfl rfl <| zap <| nR ⟨n,r25.2,r23.2,(x15 + 1)⟩ h ⟨rfl,True.intro⟩ (t0_ (t0_ (t5_ eR)))
     ·
      replace h := ite_f hg4 h
      exact zbr <| zao <| zam <| zaf <| oP (PJ_eq (P_add (a:=((x15:Nat):Int)) (b:=(1:Int)) rfl rfl (by omega)) rfl) rfl <| oM rfl rfl <| zap <| nR ⟨n,x13,x14,(x15 + 1)⟩ h ⟨rfl,True.intro⟩ (t0_ (t1_ eR))
    ·
     replace h := ite_f hg3 h
     exact RJ_gn (GY_no rfl rfl rfl hg3B) rfl rfl <| RJ_gn (GY_no rfl rfl rfl hg3B) rfl rfl <| RJ_gn (GY_no rfl rfl rfl hg3B) rfl rfl <| oP (za8 rfl hg3B rfl) rfl <| zap <| zas (Ent.trans eR (zdq (v0:=x13.legs) (v1:=x13.log) (v2:=x13.hasLog) (v3:=x13.logState) (v4:=x13.size) (v5:=x13.region) (v6:=x13.dirty) (v7:=x13.copied) (h0:=oc16.1) (h1:=oc16.2.1) (h2:=oc16.2.2))) <| zam <| zgh rfl rfl <| zbr <| zao <| zam <| zaf <| oP (PJ_eq (P_add (a:=((x15:Nat):Int)) (b:=(1:Int)) rfl rfl (by omega)) rfl) rfl <| oM rfl rfl <| zap <| nR ⟨n,x13,x14,(x15 + 1)⟩ h ⟨rfl,True.intro⟩ eR
   ·
    replace h := ite_f hg1 h
    exact zbj <| za3 <| za2 <| za0 <| cR (x13,x14) (Option.some.inj h).symm True.intro eR
 ·
  rintro a12 hy27
  replace h := zd0 hK8 hy27
  show CJ _ _ _ _ _ (([]:Slots) ++ forget _ _) (MirQ bs vlm bm a12.1::Arr bs a12.2::_)
  refine sR <| oM rfl rfl ?_
  obtain ⟨r28,hr29,h⟩ := zar h
  refine oO <| zat (zhh hr29) rfl Tryz.call58 (Dels.cons del0 (Dels.cons del0 Dels.nil)) rfl fun _ _=>oA rfl rfl <| nT <| zah ?_
  cases h
  exact fE (res1 Tryz.results61 rfl) () (t0_ (t1_ (t1_ (t1_ (t1_ (t1_ (t1_ eR)))))))
def zhd (m:MirS) (at_1:Int) (w:UInt64) (from_3:Int) (bad:List Int) (s:ArrS):Option (Int × MirS × ArrS) :=
  Option.bind (zcm m from_3 bad at_1 w s) fun r9 =>
  if (r9.1≠(0:Int)) then
    some (r9.1,r9.2.1,r9.2.2)
  else
    Option.bind (zc6 r9.2.1 at_1 w r9.2.2) fun r11 =>
    some (r11.1,r11.2.1,r11.2.2)
theorem zok {W:World} {bm:Nat} {vlm:Sl3} {Abad:HP} {vbad:Value} {bs:Nat} {m:MirS} {at_1:Int} {w:UInt64} {from_3:Int} {bad:List Int} {s:ArrS} {r:Int × MirS × ArrS} (rbad:Reads Abad tyI vbad bad) (h:zhd m at_1 w from_3 bad s=some r) :
    CSpec Tryz.prog W 79 [ptr bm 0,.int .i64 at_1,.int .u64 (w.toNat:Int),.int .i64 from_3,vbad] [MirQ bs vlm bm m,Abad,Arr bs s] (fun x:Unit => .int .i64 r.1) (fun _=>True) (fun x F=>MirQ bs vlm bm r.2.1::Abad::Arr bs r.2.2::F) := by
 refine CSpec.of_body Tryz.func79 rfl Tryz.ntmps79 rfl fun F => ?_
 show CJ _ _ _ _ _ _ (_::_::_::F)
 unfold zhd at h
 refine za1 (zcg rbad del1) fun hlen1=>sR <| oO <| O_box rfl rfl rfl fun b2=>oO <| O_box rfl rfl rfl fun b3=>oO <| O_box rfl rfl rfl fun b4=>oO <| O_box rfl rfl rfl fun b5=>zcl (zqw rbad del5) fun hsv7 => ?_
 obtain ⟨sv6,hsv7⟩ := hsv7
 subst hsv7
 refine oO <| O_box rfl rfl rfl fun b8=>oA rfl rfl <| nT <| sR <| oV (zag rfl foc4 rfl Tryz.isAgg41) rfl <| oP (zb6 rfl rfl) rfl <| oP (zb6 rfl rfl) rfl ?_
 obtain ⟨r9,hr10,h⟩ := zar h
 refine oO <| zat (zjo rbad hr10) rfl Tryz.call61 (Dels.cons del5 (Dels.cons del1 (Dels.cons del0 (Dels.cons del3 (Dels.cons del2 (Dels.cons del1 (Dels.cons del0 (Dels.cons del0 Dels.nil)))))))) rfl fun _ _=>oA rfl rfl <| zap <| zas (t0_ (t2_ (t2_ (t2_ (t2_ (t2_ (eD (eD eR)))))))) <| zam <| zac <| sR <| oM rfl rfl <| oP (P_neq (a:=r9.1) (b:=(0:Int)) rfl rfl) rfl <| nT <| zan rfl zab (fun hg1 => ?_) (fun hg1 => ?_)
 ·
  replace h := ite_t hg1 h
  refine sR <| oM rfl rfl <| oA rfl rfl <| nT <| zah <| zad ?_
  cases h
  exact fE (res1 Tryz.results79 rfl) () (t0_ (t0_ (t3_ (eD (eD (eD eR))))))
 ·
  replace h := ite_f hg1 h
  refine kT <| sR <| oV (zag rfl foc2 rfl Tryz.isAgg41) rfl <| oV (zag rfl foc3 rfl Tryz.isAgg3) rfl <| oV (zag rfl foc4 rfl Tryz.isAgg23) rfl ?_
  obtain ⟨r11,hr12,h⟩ := zar h
  refine oO <| zat (zlk hr12) rfl Tryz.call109 (Dels.cons del0 (Dels.cons del4 Dels.nil)) rfl fun _ _=>oA rfl rfl <| nT <| zah ?_
  cases h
  exact fE (res1 Tryz.results79 rfl) () (t0_ (t1_ (t0_ (eD (eD (eD eR))))))
def zf4 (i:Int) (p1:List Int):Option (Bool) :=
  Option.bind (zdw p1 i) fun r2 =>
  some r2
def zh6 (i:Int) (p1_v:MirS) (p2:Int) (p3:UInt64) (s:ArrS):Option (Int × ArrS) :=
  grd (decide (0≤i∧i < (p1_v.legs.length:Int))) <|
  Option.bind (Dvc.wr ((p1_v.legs.getD ((i).toNat) mleg_x0).dev) s p2 p3) fun r8 =>
  some (r8.1,r8.2)
def ze6 (m:MirS) (choose_c0:List Int) (do_2_c1:Int) (do_2_c2:UInt64) (rec:MirS→ArrS→Nat→Option ((MirS × ArrS) ⊕ (Int × MirS × ArrS))) (x13:MirS) (x14:ArrS) (x15:Nat):Option ((MirS × ArrS) ⊕ (Int × MirS × ArrS)) :=
  if (((x15:Nat):Int) < ((m.legs.length:Nat):Int)) then
    grd (decide (x15 < x13.legs.length)) <|
    if ((x13.legs.getD x15 mleg_x0).state=(0:Int)) then
      Option.bind (zf4 (((x15:Nat):Int)) choose_c0) fun r21 =>
      if r21=true then
        Option.bind (zh6 (((x15:Nat):Int)) x13 do_2_c1 do_2_c2 x14) fun r23 =>
        Option.bind (zbg x13 (((x15:Nat):Int)) r23.1 r23.2) fun r25 =>
        if (r25.1≠(0:Int)) then
          some (.inr (r25.1,r25.2,r23.2))
        else
          rec r25.2 r23.2 (x15 + 1)
      else
        rec x13 x14 (x15 + 1)
    else
      rec x13 x14 (x15 + 1)
  else
    some (.inl (x13,x14))
def zci (m:MirS) (choose_c0:List Int) (do_2_c1:Int) (do_2_c2:UInt64):Nat→MirS→ArrS→Nat→Option ((MirS × ArrS) ⊕ (Int × MirS × ArrS))
  | 0,_,_,_=>none
  | n + 1,x13,x14,x15=>ze6 m choose_c0 do_2_c1 do_2_c2 (zci m choose_c0 do_2_c1 do_2_c2 n) x13 x14 x15
def zdm (m:MirS) (choose_c0:List Int) (do_2_c1:Int) (do_2_c2:UInt64) (s:ArrS):Option (Int × MirS × ArrS) :=
  seqO (zci m choose_c0 do_2_c1 do_2_c2 FUEL m s 0) fun a12 =>
  Option.bind (zbi a12.1 a12.2) fun r28 =>
  some (r28,a12.1,a12.2)
theorem zol {W:World} {bp1:Nat} {Ap1:HP} {vp1:Value} {i:Int} {p1:List Int} {r:Bool} (rp1:Reads Ap1 tyI vp1 p1) (h:zf4 i p1=some r) :
    CSpec Tryz.prog W 80 [.int .i64 i,ptr bp1 0] [blk bp1 45 [vp1],Ap1] (fun x:Unit => .bool r) (fun _=>True) (fun x F=>blk bp1 45 [vp1]::Ap1::F) := by
 refine CSpec.of_body Tryz.func80 rfl Tryz.ntmps80 rfl fun F => ?_
 show CJ _ _ _ _ _ _ (_::_::F)
 unfold zf4 at h
 refine za1 (zcg rp1 del1) fun hlen1=>sR <| oA rfl rfl <| nT <| sR <| oV (zag rfl foc0 rfl Tryz.isAgg45) rfl <| oM rfl rfl ?_
 obtain ⟨r2,hr3,h⟩ := zar h
 refine oO <| zat (zgu rp1 hr3) rfl Tryz.call81 (Dels.cons del1 Dels.nil) rfl fun _ _=>oA rfl rfl <| nT <| zah ?_
 cases h
 exact fE (res1 Tryz.results80 rfl) () (t1_ eR)
theorem zom {W:World} {bp1:Nat} {bp1_v:Nat} {vlp1_v:Sl3} {bp2:Nat} {bp3:Nat} {bs:Nat} {i:Int} {p1_v:MirS} {p2:Int} {p3:UInt64} {s:ArrS} {r:Int × ArrS} (h:zh6 i p1_v p2 p3 s=some r) :
    CSpec Tryz.prog W 82 [.int .i64 i,ptr bp1 0,ptr bp2 0,ptr bp3 0] [blk bp1 41 [ptr bp1_v 0],MirQ bs vlp1_v bp1_v p1_v,blk bp2 3 [.int .i64 p2],blk bp3 23 [.int .u64 (p3.toNat:Int)],Arr bs s] (fun x:Unit => .int .i64 r.1) (fun _=>True) (fun x F=>blk bp1 41 [ptr bp1_v 0]::MirQ bs vlp1_v bp1_v p1_v::blk bp2 3 [.int .i64 p2]::blk bp3 23 [.int .u64 (p3.toNat:Int)]::Arr bs r.2::F) := by
 refine CSpec.of_body Tryz.func82 rfl Tryz.ntmps82 rfl fun F => ?_
 show CJ _ _ _ _ _ _ (_::_::_::_::_::F)
 unfold zh6 at h
 refine sR <| oA rfl rfl <| nT <| zac <| zax (Ent.transX (t1_ eR) (zcx (l:=p1_v))) fun oc1=>za1 (fun h hh=>za7 (zaq (del2 (A:=Rs (DevP bs) (p1_v.legs.map mlegS.dev) oc1.1)).out h hh)) fun hdl3=>lC del1 fun hlen4 => ?_
 rw [zai (by have := hdl3; simpa using this)] at hlen4
 refine lC del4 fun hlen5=>zbc 1024 (by kernel_rfl) rfl <| aV 0 1 rfl rfl (zak rfl) eR (zag rfl foc5 rfl Tryz.isAgg41) rfl <| aN 1 3 rfl rfl (zae rfl) rfl <| aN 2 7 rfl rfl (zaa rfl ⟨_,_,_,Tryz.runUnderlying119,rfl,rfl,Tryz.sizeOf115,rfl⟩) rfl <| aV 3 15 rfl rfl (zak rfl) eR (zag rfl foc0 rfl Tryz.isAgg115) rfl <| aN 4 31 rfl rfl (zaj rfl) rfl ?_
 obtain ⟨hg1,h⟩ := zbt h
 refine aV 5 63 rfl rfl (zak rfl) eR (zay (i:=(i).toNat) rfl rfl (Int.toNat_of_nonneg (hg1.1)).symm (show (i).toNat < (zav p1_v.legs oc1.1).length by rw [zai (by have := hdl3; simpa using this)]; exact (by omega)) foc1 (Reads.sl _ _ _) Tryz.runUnderlying115 Tryz.sizeOf129) rfl <| aN 6 127 rfl rfl (zbe rfl ⟨_,_,_,Tryz.runUnderlying129,rfl,rfl,Tryz.sizeOf96,rfl⟩) rfl <| zey (Ent.trans (t2_ eR) (zfk (i:=(i).toNat) (by omega))) <| aV 7 255 rfl rfl (zak rfl) (t2_ (t2_ (t1_ (t1_ (t1_ (t1_ (t1_ (t1_ (t1_ (eD eR)))))))))) (VJ_eq (za6 rfl rfl (show (i).toNat < (zav p1_v.legs oc1.1).length by rw [zai (by have := hdl3; simpa using this)]; exact (by omega)) foc1 (Reads.sl _ _ _) rfl rfl Tryz.isAgg96) (show (IfH.v ((oc1.1.getD ((i).toNat) tyDev.dflt)):Value)=IfH.v ((zav p1_v.legs oc1.1).getD ((i).toNat) zbz).dev from by rw [zb2 (by have := hdl3; simpa using this)])) rfl <| aV 8 511 rfl rfl (zak rfl) (t2_ (t2_ (t1_ (t1_ (t1_ (t1_ (t1_ (t1_ (t1_ (eD eR)))))))))) (zag rfl foc6 rfl Tryz.isAgg3) rfl ?_
 refine aV 9 1023 rfl rfl (zak rfl) (t2_ (t2_ (t1_ (t1_ (t1_ (t1_ (t1_ (t1_ (t1_ (eD eR)))))))))) (zag rfl foc7 rfl Tryz.isAgg23) rfl <| zh9 (fun h hh=>zd3 h (zaq (del0 (A:=DevP bs ((p1_v.legs.getD ((i).toNat) mleg_x0).dev) ((oc1.1.getD ((i).toNat) tyDev.dflt)))).out h hh)) fun hdp7 => ?_
 obtain ⟨r8,hr9,h⟩ := zar h
 refine AJ_op 10 2047 rfl (by kernel_rfl) rfl (zak rfl) <| zc8 rfl (zjn hr9 hdp7) rfl (Dels.cons del0 (Dels.cons del8 Dels.nil)) rfl fun _ _=>⟨fun h=>absurd h (by decide),?_⟩
 refine aN 11 4095 rfl rfl (zb0 rfl) rfl <| zcd (by kernel_rfl) <| zas (Ent.trans (t3_ (t3_ (t2_ (t2_ (t2_ eR))))) (zdq (v0:=p1_v.legs) (v1:=p1_v.log) (v2:=p1_v.hasLog) (v3:=p1_v.logState) (v4:=p1_v.size) (v5:=p1_v.region) (v6:=p1_v.dirty) (v7:=p1_v.copied) (h0:=oc1.1) (h1:=oc1.2.1) (h2:=oc1.2.2))) <| zam <| zah ?_
 cases h
 exact fE (res1 Tryz.results82 rfl) () (t3_ (t0_ (t2_ (t2_ (t1_ (eD eR))))))
theorem zjy {W:World} {bm:Nat} {vlm:Sl3} {bchoose_c0:Nat} {Achoose_c0:HP} {vchoose_c0:Value} {bdo_2_c0:Nat} {bdo_2_c1:Nat} {bdo_2_c2:Nat} {bs:Nat} {m:MirS} {choose_c0:List Int} {do_2_c1:Int} {do_2_c2:UInt64} {s:ArrS} {r:Int × MirS × ArrS} (rchoose_c0:Reads Achoose_c0 tyI vchoose_c0 choose_c0) (h:zdm m choose_c0 do_2_c1 do_2_c2 s=some r) :
    CSpec Tryz.prog W 61 [ptr bm 0,.func (.func 80) #[] #[ptr bchoose_c0 0],.func (.func 82) #[] #[ptr bdo_2_c0 0,ptr bdo_2_c1 0,ptr bdo_2_c2 0]] [MirQ bs vlm bm m,blk bchoose_c0 45 [vchoose_c0],Achoose_c0,blk bdo_2_c0 41 [ptr bm 0],blk bdo_2_c1 3 [.int .i64 do_2_c1],blk bdo_2_c2 23 [.int .u64 (do_2_c2.toNat:Int)],Arr bs s] (fun x:Unit => .int .i64 r.1) (fun _=>True) (fun x F=>MirQ bs vlm bm r.2.1::blk bchoose_c0 45 [vchoose_c0]::Achoose_c0::blk bdo_2_c0 41 [ptr bm 0]::blk bdo_2_c1 3 [.int .i64 do_2_c1]::blk bdo_2_c2 23 [.int .u64 (do_2_c2.toNat:Int)]::Arr bs r.2.2::F) := by
 refine CSpec.of_body Tryz.func61 rfl Tryz.ntmps61 rfl fun F => ?_
 show CJ _ _ _ _ _ _ (_::_::_::_::_::_::_::F)
 unfold zdm at h
 refine za1 (zcg rchoose_c0 del2) fun hlen1=>sR <| oA rfl rfl <| nT <| sR <| oM rfl rfl <| oP (zb6 rfl rfl) rfl <| oA rfl rfl <| nT <| zac <| zac <| zax (Ent.transX (t0_ eR) (zcx (l:=m))) fun oc2=>za1 (fun h hh=>za7 (zaq (del2 (A:=Rs (DevP bs) (m.legs.map mlegS.dev) oc2.1)).out h hh)) fun hdl4=>lC del1 fun hlen5 => ?_
 rw [zai (by have := hdl4; simpa using this)] at hlen5
 refine lC del4 fun hlen6=>zaf <| oM rfl rfl <| oP (zae rfl) rfl <| oP (zaa rfl ⟨_,_,_,Tryz.runUnderlying119,rfl,rfl,Tryz.sizeOf115,rfl⟩) rfl <| oV (zag rfl foc0 rfl Tryz.isAgg115) rfl <| oV (VJ_eq (V_len rfl foc1 (Reads.sl _ _ _) Tryz.runUnderlying115) (congrArg (fun z:Nat=>Value.int .i64 (z:Int)) (zai (by have := hdl4; simpa using this)).symm)) rfl <| oM rfl rfl <| zap <| zas (Ent.trans eR (zdq (v0:=m.legs) (v1:=m.log) (v2:=m.hasLog) (v3:=m.logState) (v4:=m.size) (v5:=m.region) (v6:=m.dirty) (v7:=m.copied) (h0:=oc2.1) (h1:=oc2.2.1) (h2:=oc2.2.2))) <| zam ?_
 obtain ⟨y9,hl7,hK8⟩ := seq_e h
 refine zbv (X:=MirS × ArrS) [6,8,9,17,18,19,20,21,22,23,24,25,26,27,28,29,30,31,32,33,34,35,36,37,38,39,40,41,42,43] (fun a12=>([]:Slots)) (fun a12 R=>MirQ bs vlm bm a12.1::Arr bs a12.2::R) (fun a12=>y9 = .inl a12) (Dels.cons del0 (Dels.cons del5 Dels.nil)) ?_ ?_
 ·
  refine zaw <| zbd (X:=Nat × MirS × ArrS × Nat) [6,8,9,17,18,19,20,21,22,23,24,25,26,27,28,29,30,31,32,33,34,35,36,37,38,39,40,41,42,43] (fun ⟨n,x13,x14,x15⟩=>([(17,.int .i64 (((x15:Nat):Int)))]:Slots)) (fun ⟨n,x13,x14,x15⟩ R=>MirQ bs vlm bm x13::Arr bs x14::R) (fun ⟨n,x13,x14,x15⟩=>zci m choose_c0 do_2_c1 do_2_c2 n x13 x14 x15=some y9) (fun ⟨n,x13,x14,x15⟩=>n) ⟨FUEL,m,s,0⟩ ?_ ?_ (t0_ (t5_ eR)) ?_
  · exact hl7
  · exact ⟨rfl,True.intro⟩
  ·
   rintro ⟨n,x13,x14,x15⟩ h
   cases n with
   | zero=>exact zbq h
   | succ n => ?_
   replace h:ze6 m choose_c0 do_2_c1 do_2_c2 (zci m choose_c0 do_2_c1 do_2_c2 n) x13 x14 x15=some y9 := h
   unfold ze6 at h
   show CJ _ _ _ _ _ (([(17,.int .i64 (((x15:Nat):Int)))]:Slots) ++ forget _ _) (MirQ bs vlm bm x13::Arr bs x14::_)
   refine sR <| oP (P_lss (a:=((x15:Nat):Int)) (b:=((m.legs.length:Nat):Int)) rfl rfl) rfl <| nT <| zac <| zan rfl zab (fun hg1 => ?_) (fun hg1 => ?_)
   ·
    replace h := ite_t hg1 h
    refine kT <| zac <| zaw <| sR <| oM rfl rfl <| oA rfl rfl <| nT <| zac <| zax (Ent.transX (t0_ eR) (zcx (l:=x13))) fun oc16=>za1 (fun h hh=>za7 (zaq (del2 (A:=Rs (DevP bs) (x13.legs.map mlegS.dev) oc16.1)).out h hh)) fun hdl18=>lC del1 fun hlen19 => ?_
    rw [zai (by have := hdl18; simpa using this)] at hlen19
    refine lC del4 fun hlen20=>zaf <| oM rfl rfl <| oP (zae rfl) rfl <| oP (zaa rfl ⟨_,_,_,Tryz.runUnderlying119,rfl,rfl,Tryz.sizeOf115,rfl⟩) rfl <| oV (zag rfl foc0 rfl Tryz.isAgg115) rfl <| oM rfl rfl ?_
    obtain ⟨hg2,h⟩ := zbt h
    refine oV (zay (i:=x15) rfl rfl rfl (show x15 < (zav x13.legs oc16.1).length by rw [zai (by have := hdl18; simpa using this)]; exact hg2) foc1 (Reads.sl _ _ _) Tryz.runUnderlying115 Tryz.sizeOf129) rfl <| oP (zbe rfl ⟨_,_,_,Tryz.runUnderlying129,rfl,rfl,Tryz.sizeOf117,rfl⟩) rfl <| oV (VJ_eq (za6 rfl rfl (show x15 < (zav x13.legs oc16.1).length by rw [zai (by have := hdl18; simpa using this)]; exact hg2) foc1 (Reads.sl _ _ _) rfl rfl Tryz.isAgg117) (show (.int .i64 ((x13.legs.getD x15 mleg_x0).state):Value) = .int .i64 ((zav x13.legs oc16.1).getD x15 zbz).state from by rw [zb2 (by have := hdl18; simpa using this)])) rfl <| oP (P_eql (a:=(x13.legs.getD x15 mleg_x0).state) (b:=(0:Int)) rfl rfl) rfl <| oM rfl rfl <| zb7 29 rfl zab (fun hg3B hg3 => ?_) (fun hg3B hg3 => ?_)
    ·
     replace h := ite_t hg3 h
     refine gP (zal rfl rfl rfl hg3B) (zaj rfl) rfl <| gP (zal rfl rfl rfl hg3B) (zaj rfl) rfl ?_
     obtain ⟨r21,hr22,h⟩ := zar h
     refine RJ_gy (zal rfl rfl rfl hg3B) <| ze3 rfl rfl (zol rchoose_c0 hr22) Tryz.call80 (Dels.cons del6 (Dels.cons del6 Dels.nil)) rfl fun _ _=>oP (zbh rfl hg3B rfl) rfl <| zap <| zas (Ent.trans (t2_ (t2_ (t2_ (t2_ (t2_ eR))))) (zdq (v0:=x13.legs) (v1:=x13.log) (v2:=x13.hasLog) (v3:=x13.logState) (v4:=x13.size) (v5:=x13.region) (v6:=x13.dirty) (v7:=x13.copied) (h0:=oc16.1) (h1:=oc16.2.1) (h2:=oc16.2.2))) <| zam <| zan rfl Iff.rfl (fun hg4 => ?_) (fun hg4 => ?_)
     ·
      replace h := ite_t hg4 h
      refine sR <| oM rfl rfl <| oM rfl rfl <| oM rfl rfl <| oM rfl rfl ?_
      obtain ⟨r23,hr24,h⟩ := zar h
      refine oO <| ze3 rfl rfl (zom hr24) Tryz.call82 (Dels.cons del4 (Dels.cons del0 (Dels.cons del3 (Dels.cons del3 (Dels.cons del2 Dels.nil))))) rfl fun _ _ => ?_
      obtain ⟨r25,hr26,h⟩ := zar h
      refine oO <| ze3 rfl rfl (zfq hr26) Tryz.call76 (Dels.cons del1 (Dels.cons del3 Dels.nil)) rfl fun _ _=>oA rfl rfl <| nT <| sR <| oM rfl rfl <| oP (P_neq (a:=r25.1) (b:=(0:Int)) rfl rfl) rfl <| nT <| zan rfl zab (fun hg5 => ?_) (fun hg5 => ?_)
      ·
       replace h := ite_t hg5 h
       refine sR <| oM rfl rfl <| oA rfl rfl <| nT <| zah <| zau <| zad <| za9 <| zau <| zad ?_
       have hE := Option.some.inj h
       replace hE := zce hK8 hE.symm
       subst hE
       exact fE (res1 Tryz.results61 rfl) () (t0_ (t4_ (t4_ (t1_ (t1_ (t1_ eR))))))
      ·
       replace h := ite_f hg5 h
       exact zbr <| zao <| zam <| zaf <| oP (PJ_eq (P_add (a:=((x15:Nat):Int)) (b:=(1:Int)) rfl rfl (by omega)) rfl) rfl <| oM rfl rfl <| zap <| nR ⟨n,r25.2,r23.2,(x15 + 1)⟩ h ⟨rfl,True.intro⟩ (t0_ (t0_ (t3_ (t3_ eR))))
     ·
      replace h := ite_f hg4 h
      exact zbr <| zao <| zam <| zaf <| oP (PJ_eq (P_add (a:=((x15:Nat):Int)) (b:=(1:Int)) rfl rfl (by omega)) rfl) rfl <| oM rfl rfl <| zap <| nR ⟨n,x13,x14,(x15 + 1)⟩ h ⟨rfl,True.intro⟩ (t0_ (t2_ eR))
    ·
     replace h := ite_f hg3 h
     exact RJ_gn (GY_no rfl rfl rfl hg3B) rfl rfl <| RJ_gn (GY_no rfl rfl rfl hg3B) rfl rfl <| RJ_gn (GY_no rfl rfl rfl hg3B) rfl rfl <| oP (za8 rfl hg3B rfl) rfl <| zap <| zas (Ent.trans eR (zdq (v0:=x13.legs) (v1:=x13.log) (v2:=x13.hasLog) (v3:=x13.logState) (v4:=x13.size) (v5:=x13.region) (v6:=x13.dirty) (v7:=x13.copied) (h0:=oc16.1) (h1:=oc16.2.1) (h2:=oc16.2.2))) <| zam <| zgh rfl rfl <| zbr <| zao <| zam <| zaf <| oP (PJ_eq (P_add (a:=((x15:Nat):Int)) (b:=(1:Int)) rfl rfl (by omega)) rfl) rfl <| oM rfl rfl <| zap <| nR ⟨n,x13,x14,(x15 + 1)⟩ h ⟨rfl,True.intro⟩ eR
   ·
    replace h := ite_f hg1 h
    exact zbj <| za3 <| za2 <| za0 <| cR (x13,x14) (Option.some.inj h).symm True.intro eR
 ·
  rintro a12 hy27
  replace h := zd0 hK8 hy27
  show CJ _ _ _ _ _ (([]:Slots) ++ forget _ _) (MirQ bs vlm bm a12.1::Arr bs a12.2::_)
  refine sR <| oM rfl rfl ?_
  obtain ⟨r28,hr29,h⟩ := zar h
  refine oO <| zat (zhh hr29) rfl Tryz.call58 (Dels.cons del0 (Dels.cons del0 Dels.nil)) rfl fun _ _=>oA rfl rfl <| nT <| zah ?_
  cases h
  exact fE (res1 Tryz.results61 rfl) () (t0_ (t1_ (t1_ (t1_ (t1_ (t1_ eR))))))
end Go.Proofs
set_option linter.unusedSimpArgs false
set_option linter.unusedVariables false
set_option maxRecDepth 20000
set_option maxHeartbeats 4000000
namespace Go.Proofs
open Go.VG
def zb4 (m:MirS) (at_1:Int) (s:ArrS):Option (UInt64 × Int × MirS × ArrS) :=
  if (at_1 < (0:Int)) then
    some (((0:UInt64),(1:Int),m,s))
  else
    if (m.size≤at_1) then
      some (((0:UInt64),(1:Int),m,s))
    else
      Option.bind (zbi m s) fun r3 =>
      if (r3≠(0:Int)) then
        some (((0:UInt64),r3,m,s))
      else
        Option.bind (zeq m at_1 s) fun r5 =>
        if (r5.2.2.2.1≠(0:Int)) then
          some (((0:UInt64),r5.2.2.2.1,r5.2.2.2.2,s))
        else
          grd (decide (¬ r5.2.2.2.2.region=0)) <|
          grd (decide (0≤(IntKind.i64.wrap (at_1.tdiv r5.2.2.2.2.region))∧(IntKind.i64.wrap (at_1.tdiv r5.2.2.2.2.region)) < (r5.2.2.2.2.dirty.length:Int))) <|
          if (r5.2.2.2.2.dirty.getD (((IntKind.i64.wrap (at_1.tdiv r5.2.2.2.2.region))).toNat) false)=true then
            Option.bind (zhd r5.2.2.2.2 at_1 r5.1 r5.2.1 r5.2.2.1 s) fun r16 =>
            if (r16.1≠(0:Int)) then
              some (((0:UInt64),r16.1,r16.2.1,r16.2.2))
            else
              some ((r5.1,(0:Int),r16.2.1,r16.2.2))
          else
            Option.bind (zdm r5.2.2.2.2 r5.2.2.1 at_1 r5.1 s) fun r18 =>
            if (r18.1≠(0:Int)) then
              some (((0:UInt64),r18.1,r18.2.1,r18.2.2))
            else
              some ((r5.1,(0:Int),r18.2.1,r18.2.2))
theorem zl8 {W:World} {bm:Nat} {vlm:Sl3} {bs:Nat} {m:MirS} {at_1:Int} {s:ArrS} {r:UInt64 × Int × MirS × ArrS} (h:zb4 m at_1 s=some r) :
    CSpec Tryz.prog W 41 [ptr bm 0,.int .i64 at_1] [MirQ bs vlm bm m,Arr bs s] (fun x:Unit => .tuple #[.int .u64 (r.1.toNat:Int),.int .i64 r.2.1]) (fun _=>True) (fun x F=>MirQ bs vlm bm r.2.2.1::Arr bs r.2.2.2::F) := by
 refine CSpec.of_body Tryz.func41 rfl Tryz.ntmps41 rfl fun F => ?_
 show CJ _ _ _ _ _ _ (_::_::F)
 unfold zb4 at h
 refine sR <| oO <| O_box rfl rfl rfl fun b1=>oO <| O_box rfl rfl rfl fun b2=>oA rfl rfl <| oA rfl rfl <| nT <| zac <| zac <| zbc 0 (by kernel_rfl) rfl <| aV 0 1 rfl rfl (zak rfl) eR (zag rfl foc0 rfl Tryz.isAgg3) rfl <| aN 1 3 rfl rfl (P_lss (a:=at_1) (b:=(0:Int)) rfl rfl) rfl <| aN 2 7 rfl rfl (zaj rfl) rfl <| ziv 13 rfl zab (fun hg1B hg1 => ?_) (fun hg1B hg1 => ?_)
 ·
  replace h := ite_t hg1 h
  refine aS 3 15 rfl rfl (GY_no rfl rfl rfl hg1B) rfl <| aS 4 31 rfl rfl (GY_no rfl rfl rfl hg1B) rfl <| aS 5 63 rfl rfl (GY_no rfl rfl rfl hg1B) rfl <| aS 6 127 rfl rfl (GY_no rfl rfl rfl hg1B) rfl <| aS 7 255 rfl rfl (GY_no rfl rfl rfl hg1B) rfl <| aS 8 511 rfl rfl (GY_no rfl rfl rfl hg1B) rfl <| aN 9 1023 rfl rfl (zbh rfl hg1B rfl) rfl <| aD <| zck rfl rfl <| sR <| oA rfl rfl <| oA rfl rfl <| nT <| zah <| zad ?_
  cases h
  exact fE (res2 Tryz.results41 rfl rfl) () (t2_ (t2_ (eD (eD eR))))
 ·
  replace h := ite_f hg1 h
  refine aV 3 15 rfl rfl (zal rfl rfl rfl hg1B) eR (zag rfl foc0 rfl Tryz.isAgg3) rfl <| aV 4 31 rfl rfl (zal rfl rfl rfl hg1B) eR (zag rfl foc1 rfl Tryz.isAgg41) rfl <| aP 5 63 rfl rfl (zal rfl rfl rfl hg1B) (zae rfl) rfl <| aP 6 127 rfl rfl (zal rfl rfl rfl hg1B) (zaa rfl ⟨_,_,_,Tryz.runUnderlying119,rfl,rfl,Tryz.sizeOf3,rfl⟩) rfl <| aV 7 255 rfl rfl (zal rfl rfl rfl hg1B) eR (zil (Ent.transX (t2_ eR) (zcx (l:=m))) (fun _=>zag rfl foc0 rfl Tryz.isAgg3)) rfl <| aP 8 511 rfl rfl (zal rfl rfl rfl hg1B) (P_geq (a:=at_1) (b:=m.size) rfl rfl) rfl <| aN 9 1023 rfl rfl (za8 rfl hg1B rfl) rfl <| aD <| zan rfl zab (fun hg2 => ?_) (fun hg2 => ?_)
  ·
   replace h := ite_t hg2 h
   refine sR <| oA rfl rfl <| oA rfl rfl <| nT <| zah <| zad ?_
   cases h
   exact fE (res2 Tryz.results41 rfl rfl) () (t2_ (t2_ (eD (eD eR))))
  ·
   replace h := ite_f hg2 h
   refine kT <| zac <| sR <| oV (zag rfl foc1 rfl Tryz.isAgg41) rfl ?_
   obtain ⟨r3,hr4,h⟩ := zar h
   refine oO <| zat (zhh hr4) rfl Tryz.call58 (Dels.cons del2 (Dels.cons del2 Dels.nil)) rfl fun _ _=>oA rfl rfl <| nT <| sR <| oM rfl rfl <| oP (P_neq (a:=r3) (b:=(0:Int)) rfl rfl) rfl <| nT <| zan rfl zab (fun hg3 => ?_) (fun hg3 => ?_)
   ·
    replace h := ite_t hg3 h
    refine sR <| oM rfl rfl <| oA rfl rfl <| oA rfl rfl <| nT <| zah <| zad ?_
    cases h
    exact fE (res2 Tryz.results41 rfl rfl) () (t0_ (t0_ (eD (eD eR))))
   ·
    replace h := ite_f hg3 h
    refine kT <| sR <| oV (zag rfl foc3 rfl Tryz.isAgg41) rfl <| oV (zag rfl foc2 rfl Tryz.isAgg3) rfl ?_
    obtain ⟨r5,hr6,h⟩ := zar h
    refine oO <| zat (zlq hr6) rfl Tryz.call60 (Dels.cons del0 (Dels.cons del0 Dels.nil)) rfl fun X7 _=>oM rfl rfl <| oP (za4 rfl rfl) rfl <| oP (za4 rfl rfl) rfl <| oP (za4 (v:=X7.v) rfl rfl) rfl <| oP (za4 rfl rfl) rfl <| oO <| zes Tryz.zeroValue23 rfl rfl fun b9=>oO <| zes Tryz.zeroValue45 rfl rfl fun b10=>oO <| zbu rfl rfl foc1 rfl rfl Tryz.sizeOf23 <| oA rfl rfl <| oO <| zbu rfl rfl foc0 rfl rfl Tryz.sizeOf45 <| oA rfl rfl <| nT <| zac <| sR <| oM rfl rfl <| oP (P_neq (a:=r5.2.2.2.1) (b:=(0:Int)) rfl rfl) rfl <| nT <| zan rfl zab (fun hg4 => ?_) (fun hg4 => ?_)
    ·
     replace h := ite_t hg4 h
     refine sR <| oM rfl rfl <| oA rfl rfl <| oA rfl rfl <| zap <| zas (t2_ (t2_ (eD (eD (eD (eD (eD eR))))))) <| zam <| zah <| zad ?_
     cases h
     exact fE (res2 Tryz.results41 rfl rfl) () eR
    ·
     replace h := ite_f hg4 h
     refine kT <| zac <| zac <| zax (Ent.transX (t2_ eR) (zcx (l:=r5.2.2.2.2))) fun oc11=>za1 (fun h hh=>za7 (zaq (del2 (A:=Rs (DevP bs) (r5.2.2.2.2.legs.map mlegS.dev) oc11.1)).out h hh)) fun hdl13=>lC del1 fun hlen14 => ?_
     rw [zai (by have := hdl13; simpa using this)] at hlen14
     refine lC del4 fun hlen15=>zbc 0 (by kernel_rfl) rfl <| aV 0 1 rfl rfl (zak rfl) eR (zag rfl foc10 rfl Tryz.isAgg41) rfl <| aN 1 3 rfl rfl (zae rfl) rfl <| aN 2 7 rfl rfl (zaa rfl ⟨_,_,_,Tryz.runUnderlying119,rfl,rfl,Tryz.sizeOf34,rfl⟩) rfl <| aV 3 15 rfl rfl (zak rfl) eR (zag rfl foc0 rfl Tryz.isAgg34) rfl <| aV 4 31 rfl rfl (zak rfl) eR (zag rfl foc9 rfl Tryz.isAgg3) rfl <| aV 5 63 rfl rfl (zak rfl) eR (zag rfl foc10 rfl Tryz.isAgg41) rfl <| aN 6 127 rfl rfl (zae rfl) rfl <| aN 7 255 rfl rfl (zaa rfl ⟨_,_,_,Tryz.runUnderlying119,rfl,rfl,Tryz.sizeOf3,rfl⟩) rfl <| aV 8 511 rfl rfl (zak rfl) eR (zag rfl foc0 rfl Tryz.isAgg3) rfl ?_
     obtain ⟨hg5,h⟩ := zbt h
     refine aN 9 1023 rfl rfl (zko (a:=at_1) (b:=r5.2.2.2.2.region) rfl rfl hg5) rfl ?_
     obtain ⟨hg6,h⟩ := zbt h
     refine aV 10 2047 rfl rfl (zak rfl) eR (zay (i:=((IntKind.i64.wrap (at_1.tdiv r5.2.2.2.2.region))).toNat) rfl rfl (Int.toNat_of_nonneg (hg6.1)).symm (by omega) foc4 (Reads.sl _ _ _) Tryz.runUnderlying34 Tryz.sizeOf4) rfl <| aV 11 4095 rfl rfl (zak rfl) eR (za6 rfl rfl (by omega) foc4 (Reads.sl _ _ _) rfl rfl Tryz.isAgg4) rfl <| zcd (by kernel_rfl) <| zas (Ent.trans eR (zdq (v0:=r5.2.2.2.2.legs) (v1:=r5.2.2.2.2.log) (v2:=r5.2.2.2.2.hasLog) (v3:=r5.2.2.2.2.logState) (v4:=r5.2.2.2.2.size) (v5:=r5.2.2.2.2.region) (v6:=r5.2.2.2.2.dirty) (v7:=r5.2.2.2.2.copied) (h0:=oc11.1) (h1:=oc11.2.1) (h2:=oc11.2.2))) <| zam <| zan rfl Iff.rfl (fun hg7 => ?_) (fun hg7 => ?_)
     ·
      replace h := ite_t hg7 h
      refine zaf <| oV (zag rfl foc6 rfl Tryz.isAgg41) rfl <| oV (zag rfl foc5 rfl Tryz.isAgg3) rfl <| oV (zag rfl foc2 rfl Tryz.isAgg23) rfl <| oM rfl rfl <| oV (zag rfl foc1 rfl Tryz.isAgg45) rfl ?_
      obtain ⟨r16,hr17,h⟩ := zar h
      refine oO <| zat (zok (Reads.sl _ _ _) hr17) rfl Tryz.call79 (Dels.cons del0 (Dels.cons del3 (Dels.cons del2 Dels.nil))) rfl fun _ _=>oA rfl rfl <| zap <| zas (t0_ (t1_ (t2_ (eD (eD (eD (eD eR))))))) <| zam <| zac <| sR <| oM rfl rfl <| oP (P_neq (a:=r16.1) (b:=(0:Int)) rfl rfl) rfl <| nT <| zan rfl zab (fun hg8 => ?_) (fun hg8 => ?_)
      ·
       replace h := ite_t hg8 h
       refine sR <| oM rfl rfl <| oA rfl rfl <| oA rfl rfl <| nT <| zah <| zad ?_
       cases h
       exact fE (res2 Tryz.results41 rfl rfl) () (t0_ (t0_ (eD eR)))
      ·
       replace h := ite_f hg8 h
       refine kT <| sR <| oV (zag rfl foc2 rfl Tryz.isAgg23) rfl <| oA rfl rfl <| oA rfl rfl <| nT <| zah ?_
       cases h
       exact fE (res2 Tryz.results41 rfl rfl) () (t0_ (t0_ (eD eR)))
     ·
      replace h := ite_f hg7 h
      refine zaf <| oV (zag rfl foc6 rfl Tryz.isAgg41) rfl <| oP (zb6 rfl rfl) rfl <| oP (zb6 rfl rfl) rfl ?_
      obtain ⟨r18,hr19,h⟩ := zar h
      refine oO <| zat (zjy (Reads.sl _ _ _) hr19) rfl Tryz.call61 (Dels.cons del0 (Dels.cons del0 (Dels.cons del2 (Dels.cons del3 (Dels.cons del2 (Dels.cons del0 (Dels.cons del0 Dels.nil))))))) rfl fun _ _=>oA rfl rfl <| zap <| zas (t0_ (t4_ (t4_ (eD (eD (eD (eD eR))))))) <| zam <| zac <| sR <| oM rfl rfl <| oP (P_neq (a:=r18.1) (b:=(0:Int)) rfl rfl) rfl <| nT <| zan rfl zab (fun hg9 => ?_) (fun hg9 => ?_)
      ·
       replace h := ite_t hg9 h
       refine sR <| oM rfl rfl <| oA rfl rfl <| oA rfl rfl <| nT <| zah <| zad ?_
       cases h
       exact fE (res2 Tryz.results41 rfl rfl) () (t0_ (t1_ (eD eR)))
      ·
       replace h := ite_f hg9 h
       refine kT <| sR <| oV (zag rfl foc1 rfl Tryz.isAgg23) rfl <| oA rfl rfl <| oA rfl rfl <| nT <| zah ?_
       cases h
       exact fE (res2 Tryz.results41 rfl rfl) () (t0_ (t1_ (eD eR)))
theorem zkm {W:World} {bm:Nat} {bs:Nat} {m:MirS} {at_1:Int} {s:ArrS} {r:UInt64 × Int × MirS × ArrS} (h:zb4 m at_1 s=some r) :
    CSpec Tryz.prog W 41 [ptr bm 0,.int .i64 at_1] [MirP bs bm m,Arr bs s] (fun x:Unit => .tuple #[.int .u64 (r.1.toNat:Int),.int .i64 r.2.1]) (fun _=>True) (fun x F=>MirP bs bm r.2.2.1::Arr bs r.2.2.2::F) :=
  CSpec.exq2 (R' := fun x:Unit=>[Arr bs r.2.2.2]) (fun _=>zl6) (fun _ _ _=>zl7) (fun _=>zl8 h)
def zjc (p0:Int):Option (Bool) :=
  some true
theorem zpk {W:World} {p0:Int} {r:Bool} (h:zjc p0=some r) :
    CSpec Tryz.prog W 103 [.int .i64 p0] [] (fun x:Unit => .bool r) (fun _=>True) (fun x F=>F) := by
 refine CSpec.of_body Tryz.func103 rfl Tryz.ntmps103 rfl fun F => ?_
 show CJ _ _ _ _ _ _ (F)
 unfold zjc at h
 refine sR <| oA rfl rfl <| nT <| sR <| oA rfl rfl <| nT <| zah ?_
 cases h
 exact fE (res1 Tryz.results103 rfl) () eR
def zcn (i:Int) (p1_v:MirS) (p2:Int) (p3:UInt64) (s:ArrS):Option (Int × ArrS) :=
  grd (decide (0≤i∧i < (p1_v.legs.length:Int))) <|
  Option.bind (Dvc.wr ((p1_v.legs.getD ((i).toNat) mleg_x0).dev) s p2 p3) fun r8 =>
  some (r8.1,r8.2)
theorem zon {W:World} {bp1:Nat} {bp1_v:Nat} {bp2:Nat} {bp3:Nat} {bs:Nat} {i:Int} {p1_v:MirS} {p2:Int} {p3:UInt64} {s:ArrS} {r:Int × ArrS} (h:zcn i p1_v p2 p3 s=some r) :
    CSpec Tryz.prog W 138 [.int .i64 i,ptr bp1 0,ptr bp2 0,ptr bp3 0] [blk bp1 41 [ptr bp1_v 0],MirP bs bp1_v p1_v,blk bp2 3 [.int .i64 p2],blk bp3 23 [.int .u64 (p3.toNat:Int)],Arr bs s] (fun x:Unit => .int .i64 r.1) (fun _=>True) (fun x F=>blk bp1 41 [ptr bp1_v 0]::MirP bs bp1_v p1_v::blk bp2 3 [.int .i64 p2]::blk bp3 23 [.int .u64 (p3.toNat:Int)]::Arr bs r.2::F) := by
 refine CSpec.of_body Tryz.func138 rfl Tryz.ntmps138 rfl fun F => ?_
 show CJ _ _ _ _ _ _ (_::_::_::_::_::F)
 unfold zcn at h
 refine sR <| oA rfl rfl <| nT <| zac <| zax (Ent.transX (t1_ eR) (zba (l:=p1_v))) fun oc1=>za1 (fun h hh=>za7 (zaq (del2 (A:=Rs (DevP bs) (p1_v.legs.map mlegS.dev) oc1.2.1)).out h hh)) fun hdl3=>lC del1 fun hlen4 => ?_
 rw [zai (by have := hdl3; simpa using this)] at hlen4
 refine lC del4 fun hlen5=>zbc 1024 (by kernel_rfl) rfl <| aV 0 1 rfl rfl (zak rfl) eR (zag rfl foc5 rfl Tryz.isAgg41) rfl <| aN 1 3 rfl rfl (zae rfl) rfl <| aN 2 7 rfl rfl (zaa rfl ⟨_,_,_,Tryz.runUnderlying119,rfl,rfl,Tryz.sizeOf115,rfl⟩) rfl <| aV 3 15 rfl rfl (zak rfl) eR (zag rfl foc0 rfl Tryz.isAgg115) rfl <| aN 4 31 rfl rfl (zaj rfl) rfl ?_
 obtain ⟨hg1,h⟩ := zbt h
 refine aV 5 63 rfl rfl (zak rfl) eR (zay (i:=(i).toNat) rfl rfl (Int.toNat_of_nonneg (hg1.1)).symm (show (i).toNat < (zav p1_v.legs oc1.2.1).length by rw [zai (by have := hdl3; simpa using this)]; exact (by omega)) foc1 (Reads.sl _ _ _) Tryz.runUnderlying115 Tryz.sizeOf129) rfl <| aN 6 127 rfl rfl (zbe rfl ⟨_,_,_,Tryz.runUnderlying129,rfl,rfl,Tryz.sizeOf96,rfl⟩) rfl <| zey (Ent.trans (t2_ eR) (zfk (i:=(i).toNat) (by omega))) <| aV 7 255 rfl rfl (zak rfl) (t2_ (t2_ (t1_ (t1_ (t1_ (t1_ (t1_ (t1_ (t1_ (eD eR)))))))))) (VJ_eq (za6 rfl rfl (show (i).toNat < (zav p1_v.legs oc1.2.1).length by rw [zai (by have := hdl3; simpa using this)]; exact (by omega)) foc1 (Reads.sl _ _ _) rfl rfl Tryz.isAgg96) (show (IfH.v ((oc1.2.1.getD ((i).toNat) tyDev.dflt)):Value)=IfH.v ((zav p1_v.legs oc1.2.1).getD ((i).toNat) zbz).dev from by rw [zb2 (by have := hdl3; simpa using this)])) rfl <| aV 8 511 rfl rfl (zak rfl) (t2_ (t2_ (t1_ (t1_ (t1_ (t1_ (t1_ (t1_ (t1_ (eD eR)))))))))) (zag rfl foc6 rfl Tryz.isAgg3) rfl ?_
 refine aV 9 1023 rfl rfl (zak rfl) (t2_ (t2_ (t1_ (t1_ (t1_ (t1_ (t1_ (t1_ (t1_ (eD eR)))))))))) (zag rfl foc7 rfl Tryz.isAgg23) rfl <| zh9 (fun h hh=>zd3 h (zaq (del0 (A:=DevP bs ((p1_v.legs.getD ((i).toNat) mleg_x0).dev) ((oc1.2.1.getD ((i).toNat) tyDev.dflt)))).out h hh)) fun hdp7 => ?_
 obtain ⟨r8,hr9,h⟩ := zar h
 refine AJ_op 10 2047 rfl (by kernel_rfl) rfl (zak rfl) <| zc8 rfl (zjn hr9 hdp7) rfl (Dels.cons del0 (Dels.cons del8 Dels.nil)) rfl fun _ _=>⟨fun h=>absurd h (by decide),?_⟩
 refine aN 11 4095 rfl rfl (zb0 rfl) rfl <| zcd (by kernel_rfl) <| zas (Ent.trans (t3_ (t3_ (t2_ (t2_ (t2_ eR))))) (zbn (v0:=p1_v.legs) (v1:=p1_v.log) (v2:=p1_v.hasLog) (v3:=p1_v.logState) (v4:=p1_v.size) (v5:=p1_v.region) (v6:=p1_v.dirty) (v7:=p1_v.copied) (h0:=oc1.1) (h1:=oc1.2.1) (h2:=oc1.2.2.1) (h3:=oc1.2.2.2))) <| zam <| zah ?_
 cases h
 exact fE (res1 Tryz.results138 rfl) () (t3_ (t0_ (t2_ (t2_ (t1_ (eD eR))))))
def zgs (m:MirS) (do_2_c1:Int) (do_2_c2:UInt64) (rec:MirS→ArrS→Nat→Option ((MirS × ArrS) ⊕ (Int × MirS × ArrS))) (x12:MirS) (x13:ArrS) (x14:Nat):Option ((MirS × ArrS) ⊕ (Int × MirS × ArrS)) :=
  if (((x14:Nat):Int) < ((m.legs.length:Nat):Int)) then
    grd (decide (x14 < x12.legs.length)) <|
    if ((x12.legs.getD x14 mleg_x0).state=(0:Int)) then
      Option.bind (zjc (((x14:Nat):Int))) fun r20 =>
      if r20=true then
        Option.bind (zcn (((x14:Nat):Int)) x12 do_2_c1 do_2_c2 x13) fun r22 =>
        Option.bind (zbg x12 (((x14:Nat):Int)) r22.1 r22.2) fun r24 =>
        if (r24.1≠(0:Int)) then
          some (.inr (r24.1,r24.2,r22.2))
        else
          rec r24.2 r22.2 (x14 + 1)
      else
        rec x12 x13 (x14 + 1)
    else
      rec x12 x13 (x14 + 1)
  else
    some (.inl (x12,x13))
def zdf (m:MirS) (do_2_c1:Int) (do_2_c2:UInt64):Nat→MirS→ArrS→Nat→Option ((MirS × ArrS) ⊕ (Int × MirS × ArrS))
  | 0,_,_,_=>none
  | n + 1,x12,x13,x14=>zgs m do_2_c1 do_2_c2 (zdf m do_2_c1 do_2_c2 n) x12 x13 x14
def zcb (m:MirS) (do_2_c1:Int) (do_2_c2:UInt64) (s:ArrS):Option (Int × MirS × ArrS) :=
  seqO (zdf m do_2_c1 do_2_c2 FUEL m s 0) fun a11 =>
  Option.bind (zbi a11.1 a11.2) fun r27 =>
  some (r27,a11.1,a11.2)
theorem zhm {W:World} {bm:Nat} {bdo_2_c0:Nat} {bdo_2_c1:Nat} {bdo_2_c2:Nat} {bs:Nat} {m:MirS} {do_2_c1:Int} {do_2_c2:UInt64} {s:ArrS} {r:Int × MirS × ArrS} (h:zcb m do_2_c1 do_2_c2 s=some r) :
    CSpec Tryz.prog W 61 [ptr bm 0,.func (.func 103) #[] #[],.func (.func 138) #[] #[ptr bdo_2_c0 0,ptr bdo_2_c1 0,ptr bdo_2_c2 0]] [MirP bs bm m,blk bdo_2_c0 41 [ptr bm 0],blk bdo_2_c1 3 [.int .i64 do_2_c1],blk bdo_2_c2 23 [.int .u64 (do_2_c2.toNat:Int)],Arr bs s] (fun x:Unit => .int .i64 r.1) (fun _=>True) (fun x F=>MirP bs bm r.2.1::blk bdo_2_c0 41 [ptr bm 0]::blk bdo_2_c1 3 [.int .i64 do_2_c1]::blk bdo_2_c2 23 [.int .u64 (do_2_c2.toNat:Int)]::Arr bs r.2.2::F) := by
 refine CSpec.of_body Tryz.func61 rfl Tryz.ntmps61 rfl fun F => ?_
 show CJ _ _ _ _ _ _ (_::_::_::_::_::F)
 unfold zcb at h
 refine sR <| oA rfl rfl <| nT <| sR <| oM rfl rfl <| oP (zb6 rfl rfl) rfl <| oA rfl rfl <| nT <| zac <| zac <| zax (Ent.transX (t0_ eR) (zba (l:=m))) fun oc1=>za1 (fun h hh=>za7 (zaq (del2 (A:=Rs (DevP bs) (m.legs.map mlegS.dev) oc1.2.1)).out h hh)) fun hdl3=>lC del1 fun hlen4 => ?_
 rw [zai (by have := hdl3; simpa using this)] at hlen4
 refine lC del4 fun hlen5=>zaf <| oM rfl rfl <| oP (zae rfl) rfl <| oP (zaa rfl ⟨_,_,_,Tryz.runUnderlying119,rfl,rfl,Tryz.sizeOf115,rfl⟩) rfl <| oV (zag rfl foc0 rfl Tryz.isAgg115) rfl <| oV (VJ_eq (V_len rfl foc1 (Reads.sl _ _ _) Tryz.runUnderlying115) (congrArg (fun z:Nat=>Value.int .i64 (z:Int)) (zai (by have := hdl3; simpa using this)).symm)) rfl <| oM rfl rfl <| zap <| zas (Ent.trans eR (zbn (v0:=m.legs) (v1:=m.log) (v2:=m.hasLog) (v3:=m.logState) (v4:=m.size) (v5:=m.region) (v6:=m.dirty) (v7:=m.copied) (h0:=oc1.1) (h1:=oc1.2.1) (h2:=oc1.2.2.1) (h3:=oc1.2.2.2))) <| zam ?_
 obtain ⟨y8,hl6,hK7⟩ := seq_e h
 refine zbv (X:=MirS × ArrS) [6,8,9,17,18,19,20,21,22,23,24,25,26,27,28,29,30,31,32,33,34,35,36,37,38,39,40,41,42,43] (fun a11=>([]:Slots)) (fun a11 R=>MirP bs bm a11.1::Arr bs a11.2::R) (fun a11=>y8 = .inl a11) (Dels.cons del0 (Dels.cons del3 Dels.nil)) ?_ ?_
 ·
  refine zaw <| zbd (X:=Nat × MirS × ArrS × Nat) [6,8,9,17,18,19,20,21,22,23,24,25,26,27,28,29,30,31,32,33,34,35,36,37,38,39,40,41,42,43] (fun ⟨n,x12,x13,x14⟩=>([(17,.int .i64 (((x14:Nat):Int)))]:Slots)) (fun ⟨n,x12,x13,x14⟩ R=>MirP bs bm x12::Arr bs x13::R) (fun ⟨n,x12,x13,x14⟩=>zdf m do_2_c1 do_2_c2 n x12 x13 x14=some y8) (fun ⟨n,x12,x13,x14⟩=>n) ⟨FUEL,m,s,0⟩ ?_ ?_ (t0_ (t3_ eR)) ?_
  · exact hl6
  · exact ⟨rfl,True.intro⟩
  ·
   rintro ⟨n,x12,x13,x14⟩ h
   cases n with
   | zero=>exact zbq h
   | succ n => ?_
   replace h:zgs m do_2_c1 do_2_c2 (zdf m do_2_c1 do_2_c2 n) x12 x13 x14=some y8 := h
   unfold zgs at h
   show CJ _ _ _ _ _ (([(17,.int .i64 (((x14:Nat):Int)))]:Slots) ++ forget _ _) (MirP bs bm x12::Arr bs x13::_)
   refine sR <| oP (P_lss (a:=((x14:Nat):Int)) (b:=((m.legs.length:Nat):Int)) rfl rfl) rfl <| nT <| zac <| zan rfl zab (fun hg1 => ?_) (fun hg1 => ?_)
   ·
    replace h := ite_t hg1 h
    refine kT <| zac <| zaw <| sR <| oM rfl rfl <| oA rfl rfl <| nT <| zac <| zax (Ent.transX (t0_ eR) (zba (l:=x12))) fun oc15=>za1 (fun h hh=>za7 (zaq (del2 (A:=Rs (DevP bs) (x12.legs.map mlegS.dev) oc15.2.1)).out h hh)) fun hdl17=>lC del1 fun hlen18 => ?_
    rw [zai (by have := hdl17; simpa using this)] at hlen18
    refine lC del4 fun hlen19=>zaf <| oM rfl rfl <| oP (zae rfl) rfl <| oP (zaa rfl ⟨_,_,_,Tryz.runUnderlying119,rfl,rfl,Tryz.sizeOf115,rfl⟩) rfl <| oV (zag rfl foc0 rfl Tryz.isAgg115) rfl <| oM rfl rfl ?_
    obtain ⟨hg2,h⟩ := zbt h
    refine oV (zay (i:=x14) rfl rfl rfl (show x14 < (zav x12.legs oc15.2.1).length by rw [zai (by have := hdl17; simpa using this)]; exact hg2) foc1 (Reads.sl _ _ _) Tryz.runUnderlying115 Tryz.sizeOf129) rfl <| oP (zbe rfl ⟨_,_,_,Tryz.runUnderlying129,rfl,rfl,Tryz.sizeOf117,rfl⟩) rfl <| oV (VJ_eq (za6 rfl rfl (show x14 < (zav x12.legs oc15.2.1).length by rw [zai (by have := hdl17; simpa using this)]; exact hg2) foc1 (Reads.sl _ _ _) rfl rfl Tryz.isAgg117) (show (.int .i64 ((x12.legs.getD x14 mleg_x0).state):Value) = .int .i64 ((zav x12.legs oc15.2.1).getD x14 zbz).state from by rw [zb2 (by have := hdl17; simpa using this)])) rfl <| oP (P_eql (a:=(x12.legs.getD x14 mleg_x0).state) (b:=(0:Int)) rfl rfl) rfl <| oM rfl rfl <| zb7 29 rfl zab (fun hg3B hg3 => ?_) (fun hg3B hg3 => ?_)
    ·
     replace h := ite_t hg3 h
     refine gP (zal rfl rfl rfl hg3B) (zaj rfl) rfl <| gP (zal rfl rfl rfl hg3B) (zaj rfl) rfl ?_
     obtain ⟨r20,hr21,h⟩ := zar h
     refine RJ_gy (zal rfl rfl rfl hg3B) <| ze3 rfl rfl (zpk hr21) Tryz.call103 Dels.nil rfl fun _ _=>oP (zbh rfl hg3B rfl) rfl <| zap <| zas (Ent.trans eR (zbn (v0:=x12.legs) (v1:=x12.log) (v2:=x12.hasLog) (v3:=x12.logState) (v4:=x12.size) (v5:=x12.region) (v6:=x12.dirty) (v7:=x12.copied) (h0:=oc15.1) (h1:=oc15.2.1) (h2:=oc15.2.2.1) (h3:=oc15.2.2.2))) <| zam <| zan rfl Iff.rfl (fun hg4 => ?_) (fun hg4 => ?_)
     ·
      replace h := ite_t hg4 h
      refine sR <| oM rfl rfl <| oM rfl rfl <| oM rfl rfl <| oM rfl rfl ?_
      obtain ⟨r22,hr23,h⟩ := zar h
      refine oO <| ze3 rfl rfl (zon hr23) Tryz.call138 (Dels.cons del2 (Dels.cons del0 (Dels.cons del1 (Dels.cons del1 (Dels.cons del0 Dels.nil))))) rfl fun _ _ => ?_
      obtain ⟨r24,hr25,h⟩ := zar h
      refine oO <| ze3 rfl rfl (zee hr25) Tryz.call76 (Dels.cons del1 (Dels.cons del3 Dels.nil)) rfl fun _ _=>oA rfl rfl <| nT <| sR <| oM rfl rfl <| oP (P_neq (a:=r24.1) (b:=(0:Int)) rfl rfl) rfl <| nT <| zan rfl zab (fun hg5 => ?_) (fun hg5 => ?_)
      ·
       replace h := ite_t hg5 h
       refine sR <| oM rfl rfl <| oA rfl rfl <| nT <| zah <| zau <| zad <| za9 <| zau <| zad ?_
       have hE := Option.some.inj h
       replace hE := zce hK7 hE.symm
       subst hE
       exact fE (res1 Tryz.results61 rfl) () (t0_ (t1_ (t1_ (t1_ eR))))
      ·
       replace h := ite_f hg5 h
       exact zbr <| zao <| zam <| zaf <| oP (PJ_eq (P_add (a:=((x14:Nat):Int)) (b:=(1:Int)) rfl rfl (by omega)) rfl) rfl <| oM rfl rfl <| zap <| nR ⟨n,r24.2,r22.2,(x14 + 1)⟩ h ⟨rfl,True.intro⟩ eR
     ·
      replace h := ite_f hg4 h
      exact zbr <| zao <| zam <| zaf <| oP (PJ_eq (P_add (a:=((x14:Nat):Int)) (b:=(1:Int)) rfl rfl (by omega)) rfl) rfl <| oM rfl rfl <| zap <| nR ⟨n,x12,x13,(x14 + 1)⟩ h ⟨rfl,True.intro⟩ eR
    ·
     replace h := ite_f hg3 h
     exact RJ_gn (GY_no rfl rfl rfl hg3B) rfl rfl <| RJ_gn (GY_no rfl rfl rfl hg3B) rfl rfl <| RJ_gn (GY_no rfl rfl rfl hg3B) rfl rfl <| oP (za8 rfl hg3B rfl) rfl <| zap <| zas (Ent.trans eR (zbn (v0:=x12.legs) (v1:=x12.log) (v2:=x12.hasLog) (v3:=x12.logState) (v4:=x12.size) (v5:=x12.region) (v6:=x12.dirty) (v7:=x12.copied) (h0:=oc15.1) (h1:=oc15.2.1) (h2:=oc15.2.2.1) (h3:=oc15.2.2.2))) <| zam <| zgh rfl rfl <| zbr <| zao <| zam <| zaf <| oP (PJ_eq (P_add (a:=((x14:Nat):Int)) (b:=(1:Int)) rfl rfl (by omega)) rfl) rfl <| oM rfl rfl <| zap <| nR ⟨n,x12,x13,(x14 + 1)⟩ h ⟨rfl,True.intro⟩ eR
   ·
    replace h := ite_f hg1 h
    exact zbj <| za3 <| za2 <| za0 <| cR (x12,x13) (Option.some.inj h).symm True.intro eR
 ·
  rintro a11 hy26
  replace h := zd0 hK7 hy26
  show CJ _ _ _ _ _ (([]:Slots) ++ forget _ _) (MirP bs bm a11.1::Arr bs a11.2::_)
  refine sR <| oM rfl rfl ?_
  obtain ⟨r27,hr28,h⟩ := zar h
  refine oO <| zat (zc4 hr28) rfl Tryz.call58 (Dels.cons del0 (Dels.cons del0 Dels.nil)) rfl fun _ _=>oA rfl rfl <| nT <| zah ?_
  cases h
  exact fE (res1 Tryz.results61 rfl) () (t0_ (t1_ (t1_ (t1_ eR))))
def zkn (region:Int):Option (Int) :=
  if (region < (0:Int)) then
    some (1:Int)
  else
    none
theorem zo7 {W:World} {region:Int} {r:Int} (h:zkn region=some r) :
    CSpec Tryz.prog W 137 [.pointer none,.int .i64 region] [] (fun x:Unit => .int .i64 r) (fun _=>True) (fun x F=>F) := by
 refine CSpec.of_body Tryz.func137 rfl Tryz.ntmps137 rfl fun F => ?_
 show CJ _ _ _ _ _ _ (F)
 unfold zkn at h
 refine sR <| oA rfl rfl <| nT <| zac <| sR <| oM rfl rfl <| oP (P_lss (a:=region) (b:=(0:Int)) rfl rfl) rfl <| oM rfl rfl <| zaz rfl rfl rfl (fun hG1=>have hP2:¬ (region < (0:Int)) := nP (zab) hG1; VJ_P (zaj rfl)) <| zaz rfl rfl rfl (fun hG3=>have hP4:¬ (region < (0:Int)) := nP (zab) hG3; VJ_P (zaj rfl)) <| zb7 11 rfl zab (fun hg1B hg1 => ?_) (fun hg1B hg1 => ?_)
 ·
  replace h := ite_t hg1 h
  refine RJ_gn (GY_no rfl rfl rfl hg1B) rfl rfl <| RJ_gn (GY_no rfl rfl rfl hg1B) rfl rfl <| RJ_gn (GY_no rfl rfl rfl hg1B) rfl rfl <| RJ_gn (GY_no rfl rfl rfl hg1B) rfl rfl <| oP (zbh rfl hg1B rfl) rfl <| nT <| zck rfl rfl <| sR <| oA rfl rfl <| nT <| zah <| zad ?_
  cases h
  exact fE (res1 Tryz.results137 rfl) () eR
 ·
  replace h := ite_f hg1 h
  exact zbq h
def zer (m:MirS) (at_1:Int) (w:UInt64) (s:ArrS):Option (Int × MirS × ArrS) :=
  if (at_1 < (0:Int)) then
    some (((1:Int),m,s))
  else
    if (m.size≤at_1) then
      some (((1:Int),m,s))
    else
      Option.bind (zbi m s) fun r4 =>
      if (r4≠(0:Int)) then
        some (r4,m,s)
      else
        Option.elim m.log (
          Option.bind (zcb ({ m with log := none }) at_1 w s) fun r13 =>
          if (r13.1=(5:Int)) then
            some (r13.1,r13.2.1,r13.2.2)
          else
            Option.bind (zc6 r13.2.1 at_1 w r13.2.2) fun r15 =>
            if (r15.1≠(0:Int)) then
              some (r15.1,r15.2.1,r15.2.2)
            else
              some (r13.1,r15.2.1,r15.2.2)) fun o12 =>
        grd (decide (¬ m.region=0)) <|
        Option.elim (some o12) (
          Option.bind (zkn ((IntKind.i64.wrap (at_1.tdiv m.region)))) fun r24 =>
          Option.bind (zbg (⟨m.legs,none,m.hasLog,m.logState,m.size,m.region,m.dirty,m.copied⟩:MirS) (((m.legs.length:Nat):Int)) r24 s) fun r26 =>
          if (r26.1≠(0:Int)) then
            some (r26.1,r26.2,s)
          else
            Option.bind (zbi r26.2 s) fun r28 =>
            if (r28≠(0:Int)) then
              some (r28,r26.2,s)
            else
              Option.bind (zcb r26.2 at_1 w s) fun r30 =>
              if (r30.1=(5:Int)) then
                some (r30.1,r30.2.1,r30.2.2)
              else
                Option.bind (zc6 r30.2.1 at_1 w r30.2.2) fun r32 =>
                if (r32.1≠(0:Int)) then
                  some (r32.1,r32.2.1,r32.2.2)
                else
                  some (r30.1,r32.2.1,r32.2.2)) fun o23 =>
        Option.bind (zd4 o23 ((IntKind.i64.wrap (at_1.tdiv m.region))) s) fun r34 =>
        Option.bind (zbg ((⟨m.legs,(some r34.2.1),m.hasLog,m.logState,m.size,m.region,m.dirty,m.copied⟩:MirS)) (((m.legs.length:Nat):Int)) r34.1 r34.2.2) fun r36 =>
        if (r36.1≠(0:Int)) then
          some (r36.1,r36.2,r34.2.2)
        else
          Option.bind (zbi r36.2 r34.2.2) fun r38 =>
          if (r38≠(0:Int)) then
            some (r38,r36.2,r34.2.2)
          else
            Option.bind (zcb r36.2 at_1 w r34.2.2) fun r40 =>
            if (r40.1=(5:Int)) then
              some (r40.1,r40.2.1,r40.2.2)
            else
              Option.bind (zc6 r40.2.1 at_1 w r40.2.2) fun r42 =>
              if (r42.1≠(0:Int)) then
                some (r42.1,r42.2.1,r42.2.2)
              else
                some (r40.1,r42.2.1,r42.2.2)
theorem zl9 {W:World} {bm:Nat} {bs:Nat} {m:MirS} {at_1:Int} {w:UInt64} {s:ArrS} {r:Int × MirS × ArrS} (h:zer m at_1 w s=some r) :
    CSpec Tryz.prog W 136 [ptr bm 0,.int .i64 at_1,.int .u64 (w.toNat:Int)] [MirP bs bm m,Arr bs s] (fun x:Unit => .int .i64 r.1) (fun _=>True) (fun x F=>MirP bs bm r.2.1::Arr bs r.2.2::F) := by
 refine CSpec.of_body Tryz.func136 rfl Tryz.ntmps136 rfl fun F => ?_
 show CJ _ _ _ _ _ _ (_::_::F)
 unfold zer at h
 refine sR <| oO <| O_box rfl rfl rfl fun b1=>oO <| O_box rfl rfl rfl fun b2=>oO <| O_box rfl rfl rfl fun b3=>oA rfl rfl <| nT <| zac <| zac <| zbc 0 (by kernel_rfl) rfl <| aV 0 1 rfl rfl (zak rfl) eR (zag rfl foc1 rfl Tryz.isAgg3) rfl <| aN 1 3 rfl rfl (P_lss (a:=at_1) (b:=(0:Int)) rfl rfl) rfl <| aN 2 7 rfl rfl (zaj rfl) rfl <| ziv 14 rfl zab (fun hg1B hg1 => ?_) (fun hg1B hg1 => ?_)
 ·
  replace h := ite_t hg1 h
  refine aS 3 15 rfl rfl (GY_no rfl rfl rfl hg1B) rfl <| aS 4 31 rfl rfl (GY_no rfl rfl rfl hg1B) rfl <| aS 5 63 rfl rfl (GY_no rfl rfl rfl hg1B) rfl <| aS 6 127 rfl rfl (GY_no rfl rfl rfl hg1B) rfl <| aS 7 255 rfl rfl (GY_no rfl rfl rfl hg1B) rfl <| aS 8 511 rfl rfl (GY_no rfl rfl rfl hg1B) rfl <| aN 9 1023 rfl rfl (zbh rfl hg1B rfl) rfl <| aD <| zck rfl rfl <| sR <| oA rfl rfl <| nT <| zah <| zad ?_
  cases h
  exact fE (res1 Tryz.results136 rfl) () (t3_ (t3_ (eD (eD (eD eR)))))
 ·
  replace h := ite_f hg1 h
  refine aV 3 15 rfl rfl (zal rfl rfl rfl hg1B) eR (zag rfl foc1 rfl Tryz.isAgg3) rfl <| aV 4 31 rfl rfl (zal rfl rfl rfl hg1B) eR (zag rfl foc2 rfl Tryz.isAgg41) rfl <| aP 5 63 rfl rfl (zal rfl rfl rfl hg1B) (zae rfl) rfl <| aP 6 127 rfl rfl (zal rfl rfl rfl hg1B) (zaa rfl ⟨_,_,_,Tryz.runUnderlying119,rfl,rfl,Tryz.sizeOf3,rfl⟩) rfl <| aV 7 255 rfl rfl (zal rfl rfl rfl hg1B) eR (zil (Ent.transX (t3_ eR) (zba (l:=m))) (fun _=>zag rfl foc0 rfl Tryz.isAgg3)) rfl <| aP 8 511 rfl rfl (zal rfl rfl rfl hg1B) (P_geq (a:=at_1) (b:=m.size) rfl rfl) rfl <| aN 9 1023 rfl rfl (za8 rfl hg1B rfl) rfl <| aD <| zan rfl zab (fun hg2 => ?_) (fun hg2 => ?_)
  ·
   replace h := ite_t hg2 h
   refine sR <| oA rfl rfl <| nT <| zah <| zad ?_
   cases h
   exact fE (res1 Tryz.results136 rfl) () (t3_ (t3_ (eD (eD (eD eR)))))
  ·
   replace h := ite_f hg2 h
   refine kT <| zac <| sR <| oV (zag rfl foc2 rfl Tryz.isAgg41) rfl ?_
   obtain ⟨r4,hr5,h⟩ := zar h
   refine oO <| zat (zc4 hr5) rfl Tryz.call58 (Dels.cons del3 (Dels.cons del3 Dels.nil)) rfl fun _ _=>oA rfl rfl <| nT <| sR <| oM rfl rfl <| oP (P_neq (a:=r4) (b:=(0:Int)) rfl rfl) rfl <| nT <| zan rfl zab (fun hg3 => ?_) (fun hg3 => ?_)
   ·
    replace h := ite_t hg3 h
    refine sR <| oM rfl rfl <| oA rfl rfl <| nT <| zah <| zad ?_
    cases h
    exact fE (res1 Tryz.results136 rfl) () (t0_ (t0_ (eD (eD (eD eR)))))
   ·
    replace h := ite_f hg3 h
    refine kT <| zac <| zac <| zax (Ent.transX (t0_ eR) (zba (l:=m))) fun oc6=>za1 (fun h hh=>za7 (zaq (del2 (A:=Rs (DevP bs) (m.legs.map mlegS.dev) oc6.2.1)).out h hh)) fun hdl8=>lC del1 fun hlen9 => ?_
    rw [zai (by have := hdl8; simpa using this)] at hlen9
    refine lC del4 fun hlen10=>zaf <| oV (zag rfl foc8 rfl Tryz.isAgg41) rfl <| oP (zae rfl) rfl <| oP (zaa rfl ⟨_,_,_,Tryz.runUnderlying119,rfl,rfl,Tryz.sizeOf116,rfl⟩) rfl <| oV (zag rfl foc0 rfl Tryz.isAgg116) rfl ?_
    rcases opt_e h with ⟨ht11,h⟩ | ⟨o12,ht11,h⟩
    ·
     rw [ht11]
     refine zbb (t0_ (t0_ (t0_ (t1_ (t1_ (t1_ (t1_ (t1_ (eD eR))))))))) <| oP (z23 rfl rfl Tryz.underlying116) rfl <| zap <| zas (Ent.trans (t0_ (t0_ (t0_ (Ent.trans (fun h hh=>zb8 h hh) <| t0_ eR)))) (zbn (v0:=m.legs) (v1:=none) (v2:=m.hasLog) (v3:=m.logState) (v4:=m.size) (v5:=m.region) (v6:=m.dirty) (v7:=m.copied) (h0:=oc6.1) (h1:=oc6.2.1) (h2:=0) (h3:=oc6.2.2.2))) <| zam <| zgh rfl rfl <| kT <| sR <| oV (zag rfl foc4 rfl Tryz.isAgg41) rfl <| oP (zb6 rfl rfl) rfl ?_
     obtain ⟨r13,hr14,h⟩ := zar h
     refine oO <| zat (zhm hr14) rfl Tryz.call61 (Dels.cons del0 (Dels.cons del3 (Dels.cons del2 (Dels.cons del1 (Dels.cons del0 Dels.nil))))) rfl fun _ _=>oA rfl rfl <| nT <| zac <| sR <| oM rfl rfl <| oP (P_eql (a:=r13.1) (b:=(5:Int)) rfl rfl) rfl <| nT <| zan rfl zab (fun hg4 => ?_) (fun hg4 => ?_)
     ·
      replace h := ite_t hg4 h
      refine sR <| oM rfl rfl <| oA rfl rfl <| nT <| zah <| zad ?_
      cases h
      exact fE (res1 Tryz.results136 rfl) () (t0_ (t3_ (eD (eD (eD eR)))))
     ·
      replace h := ite_f hg4 h
      refine kT <| zac <| sR <| oV (zag rfl foc1 rfl Tryz.isAgg41) rfl <| oV (zag rfl foc2 rfl Tryz.isAgg3) rfl <| oV (zag rfl foc3 rfl Tryz.isAgg23) rfl ?_
      obtain ⟨r15,hr16,h⟩ := zar h
      refine oO <| zat (zjs hr16) rfl Tryz.call109 (Dels.cons del0 (Dels.cons del3 Dels.nil)) rfl fun _ _=>oA rfl rfl <| nT <| sR <| oM rfl rfl <| oP (P_neq (a:=r15.1) (b:=(0:Int)) rfl rfl) rfl <| nT <| zan rfl zab (fun hg5 => ?_) (fun hg5 => ?_)
      ·
       replace h := ite_t hg5 h
       refine sR <| oM rfl rfl <| oA rfl rfl <| nT <| zah <| zad ?_
       cases h
       exact fE (res1 Tryz.results136 rfl) () (t0_ (t0_ (eD (eD (eD eR)))))
      ·
       replace h := ite_f hg5 h
       refine kT <| sR <| oM rfl rfl <| oA rfl rfl <| nT <| zah ?_
       cases h
       exact fE (res1 Tryz.results136 rfl) () (t0_ (t0_ (eD (eD (eD eR)))))
    ·
     rw [ht11]
     refine zbb (Ent.takeC (A' := LogP bs oc6.2.2.1 o12) del3 rfl eR) <| oP (z22 rfl rfl Tryz.underlying116) rfl <| zap <| zas (Ent.trans (t1_ (t1_ (t1_ eR))) (zbn (v0:=m.legs) (v1:=(some o12)) (v2:=m.hasLog) (v3:=m.logState) (v4:=m.size) (v5:=m.region) (v6:=m.dirty) (v7:=m.copied) (h0:=oc6.1) (h1:=oc6.2.1) (h2:=oc6.2.2.1) (h3:=oc6.2.2.2))) <| zam <| zck rfl rfl <| zac <| zac <| zax (Ent.transX (t0_ eR) (zba (l := { m with log := (some o12) }))) fun oc17=>za1 (fun h hh=>za7 (zaq (del2 (A:=Rs (DevP bs) (m.legs.map mlegS.dev) oc17.2.1)).out h hh)) fun hdl19=>lC del1 fun hlen20 => ?_
     rw [zai (by have := hdl19; simpa using this)] at hlen20
     refine lC del4 fun hlen21=>zn6 [blk bm 119 [(Sl3.v oc17.1),oval (some o12) oc17.2.2.1,.bool m.hasLog,.int .i64 m.logState,.int .i64 m.size,.int .i64 m.region,(Sl3.v oc17.2.2.2),.int .i64 m.copied],sl zdp (Sl3.v oc17.1) (zav m.legs oc17.2.1),Rs (DevP bs) (m.legs.map mlegS.dev) oc17.2.1,sl tyB (Sl3.v oc17.2.2.2) m.dirty,blk b3 23 [.int .u64 (w.toNat:Int)],blk b2 3 [.int .i64 at_1],blk b1 41 [ptr bm 0]] 131072 (by kernel_rfl) rfl <| aV 0 1 rfl rfl (zak rfl) (t0_ (t0_ (t0_ (t1_ (t2_ (t2_ (t2_ Ent.done))))))) (zag rfl foc6 rfl Tryz.isAgg41) rfl <| aV 1 3 rfl rfl (zak rfl) (t0_ (t0_ (t0_ (t1_ (t2_ (t2_ (t2_ Ent.done))))))) (zag rfl foc6 rfl Tryz.isAgg41) rfl <| aN 2 7 rfl rfl (zae rfl) rfl <| aN 3 15 rfl rfl (zaa rfl ⟨_,_,_,Tryz.runUnderlying119,rfl,rfl,Tryz.sizeOf115,rfl⟩) rfl <| aV 4 31 rfl rfl (zak rfl) (t0_ (t0_ (t0_ (t1_ (t2_ (t2_ (t2_ Ent.done))))))) (zag rfl foc0 rfl Tryz.isAgg115) rfl ?_
     refine aV 5 63 rfl rfl (zak rfl) (t0_ (t0_ (t0_ (t1_ (t2_ (t2_ (t2_ Ent.done))))))) (VJ_eq (V_len rfl foc1 (Reads.sl _ _ _) Tryz.runUnderlying115) (congrArg (fun z:Nat=>Value.int .i64 (z:Int)) (zai (by have := hdl19; simpa using this)).symm)) rfl <| aV 6 127 rfl rfl (zak rfl) (t0_ (t0_ (t0_ (t1_ (t2_ (t2_ (t2_ Ent.done))))))) (zag rfl foc6 rfl Tryz.isAgg41) rfl <| aN 7 255 rfl rfl (zae rfl) rfl <| aN 8 511 rfl rfl (zaa rfl ⟨_,_,_,Tryz.runUnderlying119,rfl,rfl,Tryz.sizeOf116,rfl⟩) rfl <| aV 9 1023 rfl rfl (zak rfl) (t0_ (t0_ (t0_ (t1_ (t2_ (t2_ (t2_ Ent.done))))))) (zag rfl foc0 rfl Tryz.isAgg116) rfl <| aV 10 2047 rfl rfl (zak rfl) (t0_ (t0_ (t0_ (t1_ (t2_ (t2_ (t2_ Ent.done))))))) (zag rfl foc5 rfl Tryz.isAgg3) rfl <| aV 11 4095 rfl rfl (zak rfl) (t0_ (t0_ (t0_ (t1_ (t2_ (t2_ (t2_ Ent.done))))))) (zag rfl foc6 rfl Tryz.isAgg41) rfl <| aN 12 8191 rfl rfl (zae rfl) rfl <| aN 13 16383 rfl rfl (zaa rfl ⟨_,_,_,Tryz.runUnderlying119,rfl,rfl,Tryz.sizeOf3,rfl⟩) rfl ?_
     refine aV 14 32767 rfl rfl (zak rfl) (t0_ (t0_ (t0_ (t1_ (t2_ (t2_ (t2_ Ent.done))))))) (zag rfl foc0 rfl Tryz.isAgg3) rfl ?_
     obtain ⟨hg6,h⟩ := zbt h
     refine aN 15 65535 rfl rfl (zko (a:=at_1) (b:=m.region) rfl rfl hg6) rfl ?_
     rcases opt_e h with ⟨ht22,h⟩ | ⟨o23,ht22,h⟩
     ·
      rw [ht22]
      obtain ⟨r24,hr25,h⟩ := zar h
      refine AJ_op 16 131071 rfl (by kernel_rfl) rfl (zak rfl) <| zat (zo7 hr25) rfl Tryz.call137 Dels.nil rfl fun _ _=>⟨fun _=>(t0_ (t0_ (t0_ (t1_ (t2_ (t2_ (t2_ Ent.done))))))),?_⟩
      refine zey (Ent.trans (t0_ (t0_ (t0_ (Ent.trans (fun h hh=>zb8 h hh) <| t0_ (t1_ eR))))) (zbn (v0:=m.legs) (v1:=none) (v2:=m.hasLog) (v3:=m.logState) (v4:=m.size) (v5:=m.region) (v6:=m.dirty) (v7:=m.copied) (h0:=oc17.1) (h1:=oc17.2.1) (h2:=0) (h3:=oc17.2.2.2))) ?_
      obtain ⟨r26,hr27,h⟩ := zar h
      refine AJ_op 17 262143 rfl (by kernel_rfl) rfl (zak rfl) <| zat (zee hr27) rfl Tryz.call76 (Dels.cons del0 (Dels.cons del1 Dels.nil)) rfl fun _ _=>⟨fun h=>absurd h (by decide),?_⟩
      refine aN 18 524287 rfl rfl (zb0 rfl) rfl <| aD <| sR <| oM rfl rfl <| oP (P_neq (a:=r26.1) (b:=(0:Int)) rfl rfl) rfl <| nT <| zan rfl zab (fun hg7 => ?_) (fun hg7 => ?_)
      ·
       replace h := ite_t hg7 h
       refine sR <| oM rfl rfl <| oA rfl rfl <| nT <| zah <| zad <| zad ?_
       cases h
       exact fE (res1 Tryz.results136 rfl) () (t0_ (t0_ (eD (eD (eD (eD eR))))))
      ·
       replace h := ite_f hg7 h
       refine kT <| sR <| oV (zag rfl foc5 rfl Tryz.isAgg41) rfl ?_
       obtain ⟨r28,hr29,h⟩ := zar h
       refine oO <| zat (zc4 hr29) rfl Tryz.call58 (Dels.cons del0 (Dels.cons del0 Dels.nil)) rfl fun _ _=>oA rfl rfl <| nT <| sR <| oM rfl rfl <| oP (P_neq (a:=r28) (b:=(0:Int)) rfl rfl) rfl <| nT <| zan rfl zab (fun hg8 => ?_) (fun hg8 => ?_)
       ·
        replace h := ite_t hg8 h
        refine sR <| oM rfl rfl <| oA rfl rfl <| nT <| zah <| zad ?_
        cases h
        exact fE (res1 Tryz.results136 rfl) () (t0_ (t0_ (eD (eD (eD (eD eR))))))
       ·
        replace h := ite_f hg8 h
        refine kT <| sR <| oV (zag rfl foc5 rfl Tryz.isAgg41) rfl <| oP (zb6 rfl rfl) rfl ?_
        obtain ⟨r30,hr31,h⟩ := zar h
        refine oO <| zat (zhm hr31) rfl Tryz.call61 (Dels.cons del0 (Dels.cons del4 (Dels.cons del3 (Dels.cons del2 (Dels.cons del0 Dels.nil))))) rfl fun _ _=>oA rfl rfl <| nT <| zac <| sR <| oM rfl rfl <| oP (P_eql (a:=r30.1) (b:=(5:Int)) rfl rfl) rfl <| nT <| zan rfl zab (fun hg9 => ?_) (fun hg9 => ?_)
        ·
         replace h := ite_t hg9 h
         refine sR <| oM rfl rfl <| oA rfl rfl <| nT <| zah <| zad ?_
         cases h
         exact fE (res1 Tryz.results136 rfl) () (t0_ (t3_ (eD (eD (eD (eD eR))))))
        ·
         replace h := ite_f hg9 h
         refine kT <| zac <| sR <| oV (zag rfl foc1 rfl Tryz.isAgg41) rfl <| oV (zag rfl foc2 rfl Tryz.isAgg3) rfl <| oV (zag rfl foc3 rfl Tryz.isAgg23) rfl ?_
         obtain ⟨r32,hr33,h⟩ := zar h
         refine oO <| zat (zjs hr33) rfl Tryz.call109 (Dels.cons del0 (Dels.cons del3 Dels.nil)) rfl fun _ _=>oA rfl rfl <| nT <| sR <| oM rfl rfl <| oP (P_neq (a:=r32.1) (b:=(0:Int)) rfl rfl) rfl <| nT <| zan rfl zab (fun hg10 => ?_) (fun hg10 => ?_)
         ·
          replace h := ite_t hg10 h
          refine sR <| oM rfl rfl <| oA rfl rfl <| nT <| zah <| zad ?_
          cases h
          exact fE (res1 Tryz.results136 rfl) () (t0_ (t0_ (eD (eD (eD (eD eR))))))
         ·
          replace h := ite_f hg10 h
          refine kT <| sR <| oM rfl rfl <| oA rfl rfl <| nT <| zah ?_
          cases h
          exact fE (res1 Tryz.results136 rfl) () (t0_ (t0_ (eD (eD (eD (eD eR))))))
     ·
      rw [ht22]
      refine zey (Ent.takeC (A' := LogP bs oc17.2.2.1 o23) del3 rfl eR) ?_
      obtain ⟨r34,hr35,h⟩ := zar h
      refine AJ_op 16 131071 rfl (by kernel_rfl) rfl (zak rfl) <| zat (zp0 hr35) rfl Tryz.call137 (Dels.cons del0 (Dels.cons del4 Dels.nil)) rfl fun _ _=>⟨fun _=>(t2_ (t2_ (t2_ (t2_ (t2_ (t2_ (t2_ Ent.done))))))),?_⟩
      refine zey (Ent.trans (t2_ (t2_ (t2_ (t0_ (t1_ eR))))) (zbn (v0:=m.legs) (v1:=(some r34.2.1)) (v2:=m.hasLog) (v3:=m.logState) (v4:=m.size) (v5:=m.region) (v6:=m.dirty) (v7:=m.copied) (h0:=oc17.1) (h1:=oc17.2.1) (h2:=oc17.2.2.1) (h3:=oc17.2.2.2))) ?_
      obtain ⟨r36,hr37,h⟩ := zar h
      refine AJ_op 17 262143 rfl (by kernel_rfl) rfl (zak rfl) <| zat (zee hr37) rfl Tryz.call76 (Dels.cons del0 (Dels.cons del0 Dels.nil)) rfl fun _ _=>⟨fun h=>absurd h (by decide),?_⟩
      refine aN 18 524287 rfl rfl (zb0 rfl) rfl <| aD <| sR <| oM rfl rfl <| oP (P_neq (a:=r36.1) (b:=(0:Int)) rfl rfl) rfl <| nT <| zan rfl zab (fun hg11 => ?_) (fun hg11 => ?_)
      ·
       replace h := ite_t hg11 h
       refine sR <| oM rfl rfl <| oA rfl rfl <| nT <| zah <| zad <| zad ?_
       cases h
       exact fE (res1 Tryz.results136 rfl) () (t0_ (t0_ (eD (eD (eD eR)))))
      ·
       replace h := ite_f hg11 h
       refine kT <| sR <| oV (zag rfl foc4 rfl Tryz.isAgg41) rfl ?_
       obtain ⟨r38,hr39,h⟩ := zar h
       refine oO <| zat (zc4 hr39) rfl Tryz.call58 (Dels.cons del0 (Dels.cons del0 Dels.nil)) rfl fun _ _=>oA rfl rfl <| nT <| sR <| oM rfl rfl <| oP (P_neq (a:=r38) (b:=(0:Int)) rfl rfl) rfl <| nT <| zan rfl zab (fun hg12 => ?_) (fun hg12 => ?_)
       ·
        replace h := ite_t hg12 h
        refine sR <| oM rfl rfl <| oA rfl rfl <| nT <| zah <| zad ?_
        cases h
        exact fE (res1 Tryz.results136 rfl) () (t0_ (t0_ (eD (eD (eD eR)))))
       ·
        replace h := ite_f hg12 h
        refine kT <| sR <| oV (zag rfl foc4 rfl Tryz.isAgg41) rfl <| oP (zb6 rfl rfl) rfl ?_
        obtain ⟨r40,hr41,h⟩ := zar h
        refine oO <| zat (zhm hr41) rfl Tryz.call61 (Dels.cons del0 (Dels.cons del3 (Dels.cons del2 (Dels.cons del1 (Dels.cons del0 Dels.nil))))) rfl fun _ _=>oA rfl rfl <| nT <| zac <| sR <| oM rfl rfl <| oP (P_eql (a:=r40.1) (b:=(5:Int)) rfl rfl) rfl <| nT <| zan rfl zab (fun hg13 => ?_) (fun hg13 => ?_)
        ·
         replace h := ite_t hg13 h
         refine sR <| oM rfl rfl <| oA rfl rfl <| nT <| zah <| zad ?_
         cases h
         exact fE (res1 Tryz.results136 rfl) () (t0_ (t3_ (eD (eD (eD eR)))))
        ·
         replace h := ite_f hg13 h
         refine kT <| zac <| sR <| oV (zag rfl foc1 rfl Tryz.isAgg41) rfl <| oV (zag rfl foc2 rfl Tryz.isAgg3) rfl <| oV (zag rfl foc3 rfl Tryz.isAgg23) rfl ?_
         obtain ⟨r42,hr43,h⟩ := zar h
         refine oO <| zat (zjs hr43) rfl Tryz.call109 (Dels.cons del0 (Dels.cons del3 Dels.nil)) rfl fun _ _=>oA rfl rfl <| nT <| sR <| oM rfl rfl <| oP (P_neq (a:=r42.1) (b:=(0:Int)) rfl rfl) rfl <| nT <| zan rfl zab (fun hg14 => ?_) (fun hg14 => ?_)
         ·
          replace h := ite_t hg14 h
          refine sR <| oM rfl rfl <| oA rfl rfl <| nT <| zah <| zad ?_
          cases h
          exact fE (res1 Tryz.results136 rfl) () (t0_ (t0_ (eD (eD (eD eR)))))
         ·
          replace h := ite_f hg14 h
          refine kT <| sR <| oM rfl rfl <| oA rfl rfl <| nT <| zah ?_
          cases h
          exact fE (res1 Tryz.results136 rfl) () (t0_ (t0_ (eD (eD (eD eR)))))
end Go.Proofs
set_option linter.unusedSimpArgs false
set_option linter.unusedVariables false
set_option maxRecDepth 20000
set_option maxHeartbeats 4000000
namespace Go.Proofs
open Go.VG
def zet (i:Int) (p1_v:MirS) (s:ArrS):Option (Int × ArrS) :=
  grd (decide (0≤i∧i < (p1_v.legs.length:Int))) <|
  Option.bind (Dvc.fl ((p1_v.legs.getD ((i).toNat) mleg_x0).dev) s) fun r8 =>
  some (r8.1,r8.2)
theorem zoo {W:World} {bp1:Nat} {bp1_v:Nat} {bs:Nat} {i:Int} {p1_v:MirS} {s:ArrS} {r:Int × ArrS} (h:zet i p1_v s=some r) :
    CSpec Tryz.prog W 104 [.int .i64 i,ptr bp1 0] [blk bp1 41 [ptr bp1_v 0],MirP bs bp1_v p1_v,Arr bs s] (fun x:Unit => .int .i64 r.1) (fun _=>True) (fun x F=>blk bp1 41 [ptr bp1_v 0]::MirP bs bp1_v p1_v::Arr bs r.2::F) := by
 refine CSpec.of_body Tryz.func104 rfl Tryz.ntmps104 rfl fun F => ?_
 show CJ _ _ _ _ _ _ (_::_::_::F)
 unfold zet at h
 refine sR <| oA rfl rfl <| nT <| zac <| zax (Ent.transX (t1_ eR) (zba (l:=p1_v))) fun oc1=>za1 (fun h hh=>za7 (zaq (del2 (A:=Rs (DevP bs) (p1_v.legs.map mlegS.dev) oc1.2.1)).out h hh)) fun hdl3=>lC del1 fun hlen4 => ?_
 rw [zai (by have := hdl3; simpa using this)] at hlen4
 refine lC del4 fun hlen5=>zaf <| oV (zag rfl foc5 rfl Tryz.isAgg41) rfl <| oP (zae rfl) rfl <| oP (zaa rfl ⟨_,_,_,Tryz.runUnderlying119,rfl,rfl,Tryz.sizeOf115,rfl⟩) rfl <| oV (zag rfl foc0 rfl Tryz.isAgg115) rfl <| oM rfl rfl ?_
 obtain ⟨hg1,h⟩ := zbt h
 refine oV (zay (i:=(i).toNat) rfl rfl (Int.toNat_of_nonneg (hg1.1)).symm (show (i).toNat < (zav p1_v.legs oc1.2.1).length by rw [zai (by have := hdl3; simpa using this)]; exact (by omega)) foc1 (Reads.sl _ _ _) Tryz.runUnderlying115 Tryz.sizeOf129) rfl <| oP (zbe rfl ⟨_,_,_,Tryz.runUnderlying129,rfl,rfl,Tryz.sizeOf96,rfl⟩) rfl <| zbb (Ent.trans (t2_ eR) (zfk (i:=(i).toNat) (by omega))) <| oV (VJ_eq (za6 rfl rfl (show (i).toNat < (zav p1_v.legs oc1.2.1).length by rw [zai (by have := hdl3; simpa using this)]; exact (by omega)) foc3 (Reads.sl _ _ _) rfl rfl Tryz.isAgg96) (show (IfH.v ((oc1.2.1.getD ((i).toNat) tyDev.dflt)):Value)=IfH.v ((zav p1_v.legs oc1.2.1).getD ((i).toNat) zbz).dev from by rw [zb2 (by have := hdl3; simpa using this)])) rfl <| zcl (fun h hh=>zd3 h (zaq (del0 (A:=DevP bs ((p1_v.legs.getD ((i).toNat) mleg_x0).dev) ((oc1.2.1.getD ((i).toNat) tyDev.dflt)))).out h hh)) fun hdp7 => ?_
 obtain ⟨r8,hr9,h⟩ := zar h
 refine oO <| zc8 rfl (zk1 hr9 hdp7) rfl (Dels.cons del0 (Dels.cons del6 Dels.nil)) rfl fun _ _=>oA rfl rfl <| zap <| zas (Ent.trans (t3_ (t3_ (t2_ (t2_ (t2_ eR))))) (zbn (v0:=p1_v.legs) (v1:=p1_v.log) (v2:=p1_v.hasLog) (v3:=p1_v.logState) (v4:=p1_v.size) (v5:=p1_v.region) (v6:=p1_v.dirty) (v7:=p1_v.copied) (h0:=oc1.1) (h1:=oc1.2.1) (h2:=oc1.2.2.1) (h3:=oc1.2.2.2))) <| zam <| zah ?_
 cases h
 exact fE (res1 Tryz.results104 rfl) () (t3_ (t0_ (t1_ (eD eR))))
def zf9 (m:MirS) (rec:MirS→ArrS→Nat→Option ((MirS × ArrS) ⊕ (Int × MirS × ArrS))) (x12:MirS) (x13:ArrS) (x14:Nat):Option ((MirS × ArrS) ⊕ (Int × MirS × ArrS)) :=
  if (((x14:Nat):Int) < ((m.legs.length:Nat):Int)) then
    grd (decide (x14 < x12.legs.length)) <|
    if ((x12.legs.getD x14 mleg_x0).state=(0:Int)) then
      Option.bind (zjc (((x14:Nat):Int))) fun r20 =>
      if r20=true then
        Option.bind (zet (((x14:Nat):Int)) x12 x13) fun r22 =>
        Option.bind (zbg x12 (((x14:Nat):Int)) r22.1 r22.2) fun r24 =>
        if (r24.1≠(0:Int)) then
          some (.inr (r24.1,r24.2,r22.2))
        else
          rec r24.2 r22.2 (x14 + 1)
      else
        rec x12 x13 (x14 + 1)
    else
      rec x12 x13 (x14 + 1)
  else
    some (.inl (x12,x13))
def zdz (m:MirS):Nat→MirS→ArrS→Nat→Option ((MirS × ArrS) ⊕ (Int × MirS × ArrS))
  | 0,_,_,_=>none
  | n + 1,x12,x13,x14=>zf9 m (zdz m n) x12 x13 x14
def zfl (m:MirS) (s:ArrS):Option (Int × MirS × ArrS) :=
  seqO (zdz m FUEL m s 0) fun a11 =>
  Option.bind (zbi a11.1 a11.2) fun r27 =>
  some (r27,a11.1,a11.2)
theorem zk4 {W:World} {bm:Nat} {bdo_2_c0:Nat} {bs:Nat} {m:MirS} {s:ArrS} {r:Int × MirS × ArrS} (h:zfl m s=some r) :
    CSpec Tryz.prog W 61 [ptr bm 0,.func (.func 103) #[] #[],.func (.func 104) #[] #[ptr bdo_2_c0 0]] [MirP bs bm m,blk bdo_2_c0 41 [ptr bm 0],Arr bs s] (fun x:Unit => .int .i64 r.1) (fun _=>True) (fun x F=>MirP bs bm r.2.1::blk bdo_2_c0 41 [ptr bm 0]::Arr bs r.2.2::F) := by
 refine CSpec.of_body Tryz.func61 rfl Tryz.ntmps61 rfl fun F => ?_
 show CJ _ _ _ _ _ _ (_::_::_::F)
 unfold zfl at h
 refine sR <| oA rfl rfl <| nT <| sR <| oM rfl rfl <| oP (zb6 rfl rfl) rfl <| oA rfl rfl <| nT <| zac <| zac <| zax (Ent.transX (t0_ eR) (zba (l:=m))) fun oc1=>za1 (fun h hh=>za7 (zaq (del2 (A:=Rs (DevP bs) (m.legs.map mlegS.dev) oc1.2.1)).out h hh)) fun hdl3=>lC del1 fun hlen4 => ?_
 rw [zai (by have := hdl3; simpa using this)] at hlen4
 refine lC del4 fun hlen5=>zaf <| oM rfl rfl <| oP (zae rfl) rfl <| oP (zaa rfl ⟨_,_,_,Tryz.runUnderlying119,rfl,rfl,Tryz.sizeOf115,rfl⟩) rfl <| oV (zag rfl foc0 rfl Tryz.isAgg115) rfl <| oV (VJ_eq (V_len rfl foc1 (Reads.sl _ _ _) Tryz.runUnderlying115) (congrArg (fun z:Nat=>Value.int .i64 (z:Int)) (zai (by have := hdl3; simpa using this)).symm)) rfl <| oM rfl rfl <| zap <| zas (Ent.trans eR (zbn (v0:=m.legs) (v1:=m.log) (v2:=m.hasLog) (v3:=m.logState) (v4:=m.size) (v5:=m.region) (v6:=m.dirty) (v7:=m.copied) (h0:=oc1.1) (h1:=oc1.2.1) (h2:=oc1.2.2.1) (h3:=oc1.2.2.2))) <| zam ?_
 obtain ⟨y8,hl6,hK7⟩ := seq_e h
 refine zbv (X:=MirS × ArrS) [6,8,9,17,18,19,20,21,22,23,24,25,26,27,28,29,30,31,32,33,34,35,36,37,38,39,40,41,42,43] (fun a11=>([]:Slots)) (fun a11 R=>MirP bs bm a11.1::Arr bs a11.2::R) (fun a11=>y8 = .inl a11) (Dels.cons del0 (Dels.cons del1 Dels.nil)) ?_ ?_
 ·
  refine zaw <| zbd (X:=Nat × MirS × ArrS × Nat) [6,8,9,17,18,19,20,21,22,23,24,25,26,27,28,29,30,31,32,33,34,35,36,37,38,39,40,41,42,43] (fun ⟨n,x12,x13,x14⟩=>([(17,.int .i64 (((x14:Nat):Int)))]:Slots)) (fun ⟨n,x12,x13,x14⟩ R=>MirP bs bm x12::Arr bs x13::R) (fun ⟨n,x12,x13,x14⟩=>zdz m n x12 x13 x14=some y8) (fun ⟨n,x12,x13,x14⟩=>n) ⟨FUEL,m,s,0⟩ ?_ ?_ (t0_ (t1_ eR)) ?_
  · exact hl6
  · exact ⟨rfl,True.intro⟩
  ·
   rintro ⟨n,x12,x13,x14⟩ h
   cases n with
   | zero=>exact zbq h
   | succ n => ?_
   replace h:zf9 m (zdz m n) x12 x13 x14=some y8 := h
   unfold zf9 at h
   show CJ _ _ _ _ _ (([(17,.int .i64 (((x14:Nat):Int)))]:Slots) ++ forget _ _) (MirP bs bm x12::Arr bs x13::_)
   refine sR <| oP (P_lss (a:=((x14:Nat):Int)) (b:=((m.legs.length:Nat):Int)) rfl rfl) rfl <| nT <| zac <| zan rfl zab (fun hg1 => ?_) (fun hg1 => ?_)
   ·
    replace h := ite_t hg1 h
    refine kT <| zac <| zaw <| sR <| oM rfl rfl <| oA rfl rfl <| nT <| zac <| zax (Ent.transX (t0_ eR) (zba (l:=x12))) fun oc15=>za1 (fun h hh=>za7 (zaq (del2 (A:=Rs (DevP bs) (x12.legs.map mlegS.dev) oc15.2.1)).out h hh)) fun hdl17=>lC del1 fun hlen18 => ?_
    rw [zai (by have := hdl17; simpa using this)] at hlen18
    refine lC del4 fun hlen19=>zaf <| oM rfl rfl <| oP (zae rfl) rfl <| oP (zaa rfl ⟨_,_,_,Tryz.runUnderlying119,rfl,rfl,Tryz.sizeOf115,rfl⟩) rfl <| oV (zag rfl foc0 rfl Tryz.isAgg115) rfl <| oM rfl rfl ?_
    obtain ⟨hg2,h⟩ := zbt h
    refine oV (zay (i:=x14) rfl rfl rfl (show x14 < (zav x12.legs oc15.2.1).length by rw [zai (by have := hdl17; simpa using this)]; exact hg2) foc1 (Reads.sl _ _ _) Tryz.runUnderlying115 Tryz.sizeOf129) rfl <| oP (zbe rfl ⟨_,_,_,Tryz.runUnderlying129,rfl,rfl,Tryz.sizeOf117,rfl⟩) rfl <| oV (VJ_eq (za6 rfl rfl (show x14 < (zav x12.legs oc15.2.1).length by rw [zai (by have := hdl17; simpa using this)]; exact hg2) foc1 (Reads.sl _ _ _) rfl rfl Tryz.isAgg117) (show (.int .i64 ((x12.legs.getD x14 mleg_x0).state):Value) = .int .i64 ((zav x12.legs oc15.2.1).getD x14 zbz).state from by rw [zb2 (by have := hdl17; simpa using this)])) rfl <| oP (P_eql (a:=(x12.legs.getD x14 mleg_x0).state) (b:=(0:Int)) rfl rfl) rfl <| oM rfl rfl <| zb7 29 rfl zab (fun hg3B hg3 => ?_) (fun hg3B hg3 => ?_)
    ·
     replace h := ite_t hg3 h
     refine gP (zal rfl rfl rfl hg3B) (zaj rfl) rfl <| gP (zal rfl rfl rfl hg3B) (zaj rfl) rfl ?_
     obtain ⟨r20,hr21,h⟩ := zar h
     refine RJ_gy (zal rfl rfl rfl hg3B) <| ze3 rfl rfl (zpk hr21) Tryz.call103 Dels.nil rfl fun _ _=>oP (zbh rfl hg3B rfl) rfl <| zap <| zas (Ent.trans eR (zbn (v0:=x12.legs) (v1:=x12.log) (v2:=x12.hasLog) (v3:=x12.logState) (v4:=x12.size) (v5:=x12.region) (v6:=x12.dirty) (v7:=x12.copied) (h0:=oc15.1) (h1:=oc15.2.1) (h2:=oc15.2.2.1) (h3:=oc15.2.2.2))) <| zam <| zan rfl Iff.rfl (fun hg4 => ?_) (fun hg4 => ?_)
     ·
      replace h := ite_t hg4 h
      refine sR <| oM rfl rfl <| oM rfl rfl <| oM rfl rfl <| oM rfl rfl ?_
      obtain ⟨r22,hr23,h⟩ := zar h
      refine oO <| ze3 rfl rfl (zoo hr23) Tryz.call104 (Dels.cons del2 (Dels.cons del0 (Dels.cons del0 Dels.nil))) rfl fun _ _ => ?_
      obtain ⟨r24,hr25,h⟩ := zar h
      refine oO <| ze3 rfl rfl (zee hr25) Tryz.call76 (Dels.cons del1 (Dels.cons del1 Dels.nil)) rfl fun _ _=>oA rfl rfl <| nT <| sR <| oM rfl rfl <| oP (P_neq (a:=r24.1) (b:=(0:Int)) rfl rfl) rfl <| nT <| zan rfl zab (fun hg5 => ?_) (fun hg5 => ?_)
      ·
       replace h := ite_t hg5 h
       refine sR <| oM rfl rfl <| oA rfl rfl <| nT <| zah <| zau <| zad <| za9 <| zau <| zad ?_
       have hE := Option.some.inj h
       replace hE := zce hK7 hE.symm
       subst hE
       exact fE (res1 Tryz.results61 rfl) () (t0_ (t1_ eR))
      ·
       replace h := ite_f hg5 h
       exact zbr <| zao <| zam <| zaf <| oP (PJ_eq (P_add (a:=((x14:Nat):Int)) (b:=(1:Int)) rfl rfl (by omega)) rfl) rfl <| oM rfl rfl <| zap <| nR ⟨n,r24.2,r22.2,(x14 + 1)⟩ h ⟨rfl,True.intro⟩ eR
     ·
      replace h := ite_f hg4 h
      exact zbr <| zao <| zam <| zaf <| oP (PJ_eq (P_add (a:=((x14:Nat):Int)) (b:=(1:Int)) rfl rfl (by omega)) rfl) rfl <| oM rfl rfl <| zap <| nR ⟨n,x12,x13,(x14 + 1)⟩ h ⟨rfl,True.intro⟩ eR
    ·
     replace h := ite_f hg3 h
     exact RJ_gn (GY_no rfl rfl rfl hg3B) rfl rfl <| RJ_gn (GY_no rfl rfl rfl hg3B) rfl rfl <| RJ_gn (GY_no rfl rfl rfl hg3B) rfl rfl <| oP (za8 rfl hg3B rfl) rfl <| zap <| zas (Ent.trans eR (zbn (v0:=x12.legs) (v1:=x12.log) (v2:=x12.hasLog) (v3:=x12.logState) (v4:=x12.size) (v5:=x12.region) (v6:=x12.dirty) (v7:=x12.copied) (h0:=oc15.1) (h1:=oc15.2.1) (h2:=oc15.2.2.1) (h3:=oc15.2.2.2))) <| zam <| zgh rfl rfl <| zbr <| zao <| zam <| zaf <| oP (PJ_eq (P_add (a:=((x14:Nat):Int)) (b:=(1:Int)) rfl rfl (by omega)) rfl) rfl <| oM rfl rfl <| zap <| nR ⟨n,x12,x13,(x14 + 1)⟩ h ⟨rfl,True.intro⟩ eR
   ·
    replace h := ite_f hg1 h
    exact zbj <| za3 <| za2 <| za0 <| cR (x12,x13) (Option.some.inj h).symm True.intro eR
 ·
  rintro a11 hy26
  replace h := zd0 hK7 hy26
  show CJ _ _ _ _ _ (([]:Slots) ++ forget _ _) (MirP bs bm a11.1::Arr bs a11.2::_)
  refine sR <| oM rfl rfl ?_
  obtain ⟨r27,hr28,h⟩ := zar h
  refine oO <| zat (zc4 hr28) rfl Tryz.call58 (Dels.cons del0 (Dels.cons del0 Dels.nil)) rfl fun _ _=>oA rfl rfl <| nT <| zah ?_
  cases h
  exact fE (res1 Tryz.results61 rfl) () (t0_ (t1_ eR))
def zhp (m:MirS) (s:ArrS):Option (Int × MirS × ArrS) :=
  Option.bind (zfl m s) fun r2 =>
  some (r2.1,r2.2.1,r2.2.2)
theorem zma {W:World} {bm:Nat} {bs:Nat} {m:MirS} {s:ArrS} {r:Int × MirS × ArrS} (h:zhp m s=some r) :
    CSpec Tryz.prog W 74 [ptr bm 0] [MirP bs bm m,Arr bs s] (fun x:Unit => .int .i64 r.1) (fun _=>True) (fun x F=>MirP bs bm r.2.1::Arr bs r.2.2::F) := by
 refine CSpec.of_body Tryz.func74 rfl Tryz.ntmps74 rfl fun F => ?_
 show CJ _ _ _ _ _ _ (_::_::F)
 unfold zhp at h
 refine sR <| oO <| O_box rfl rfl rfl fun b1=>oA rfl rfl <| nT <| sR <| oV (zag rfl foc0 rfl Tryz.isAgg41) rfl <| oP (zb6 rfl rfl) rfl ?_
 obtain ⟨r2,hr3,h⟩ := zar h
 refine oO <| zat (zk4 hr3) rfl Tryz.call61 (Dels.cons del1 (Dels.cons del0 (Dels.cons del0 Dels.nil))) rfl fun _ _=>oA rfl rfl <| nT <| zah ?_
 cases h
 exact fE (res1 Tryz.results74 rfl) () (t0_ (t1_ (eD eR)))
def zj7 (region:Int):Option (Int) :=
  if (region < (0:Int)) then
    some (1:Int)
  else
    none
theorem zop {W:World} {region:Int} {r:Int} (h:zj7 region=some r) :
    CSpec Tryz.prog W 77 [.pointer none,.int .i64 region] [] (fun x:Unit => .int .i64 r) (fun _=>True) (fun x F=>F) := by
 refine CSpec.of_body Tryz.func77 rfl Tryz.ntmps77 rfl fun F => ?_
 show CJ _ _ _ _ _ _ (F)
 unfold zj7 at h
 refine sR <| oA rfl rfl <| nT <| zac <| sR <| oM rfl rfl <| oP (P_lss (a:=region) (b:=(0:Int)) rfl rfl) rfl <| oM rfl rfl <| zaz rfl rfl rfl (fun hG1=>have hP2:¬ (region < (0:Int)) := nP (zab) hG1; VJ_P (zaj rfl)) <| zaz rfl rfl rfl (fun hG3=>have hP4:¬ (region < (0:Int)) := nP (zab) hG3; VJ_P (zaj rfl)) <| zb7 7 rfl zab (fun hg1B hg1 => ?_) (fun hg1B hg1 => ?_)
 ·
  replace h := ite_t hg1 h
  refine RJ_gn (GY_no rfl rfl rfl hg1B) rfl rfl <| RJ_gn (GY_no rfl rfl rfl hg1B) rfl rfl <| RJ_gn (GY_no rfl rfl rfl hg1B) rfl rfl <| RJ_gn (GY_no rfl rfl rfl hg1B) rfl rfl <| oP (zbh rfl hg1B rfl) rfl <| nT <| zck rfl rfl <| sR <| oA rfl rfl <| nT <| zah <| zad ?_
  cases h
  exact fE (res1 Tryz.results77 rfl) () eR
 ·
  replace h := ite_f hg1 h
  exact zbq h
def zg6 (r29:(List Int)) (rec:MirS→ArrS→Nat→Option ((MirS × ArrS) ⊕ (Int × MirS × ArrS))) (x39:MirS) (x40:ArrS) (x41:Nat):Option ((MirS × ArrS) ⊕ (Int × MirS × ArrS)) :=
  if (((x41:Nat):Int) < ((r29.length:Nat):Int)) then
    grd (decide (0≤(r29.getD x41 0)∧(r29.getD x41 0) < (x39.dirty.length:Int))) <|
    if (x39.dirty.getD (((r29.getD x41 0)).toNat) false)=true then
      grd (inN64 (x41 + 1)) <|
      rec x39 x40 (x41 + 1)
    else
      Option.elim x39.log (
        Option.bind (zj7 (r29.getD x41 0)) fun r54 =>
        Option.bind (zbg ({ x39 with log := none }) (((x39.legs.length:Nat):Int)) r54 x40) fun r56 =>
        if (r56.1≠(0:Int)) then
          some (.inr (r56.1,r56.2,x40))
        else
          Option.bind (zbi r56.2 x40) fun r58 =>
          if (r58≠(0:Int)) then
            some (.inr (r58,r56.2,x40))
          else
            grd (inN64 (x41 + 1)) <|
            rec r56.2 x40 (x41 + 1)) fun o53 =>
      Option.bind (zeo o53 (r29.getD x41 0) x40) fun r60 =>
      Option.bind (zbg ({ x39 with log := (some r60.2.1) }) (((x39.legs.length:Nat):Int)) r60.1 r60.2.2) fun r62 =>
      if (r62.1≠(0:Int)) then
        some (.inr (r62.1,r62.2,r60.2.2))
      else
        Option.bind (zbi r62.2 r60.2.2) fun r64 =>
        if (r64≠(0:Int)) then
          some (.inr (r64,r62.2,r60.2.2))
        else
          grd (inN64 (x41 + 1)) <|
          rec r62.2 r60.2.2 (x41 + 1)
  else
    some (.inl (x39,x40))
def zeg (r29:(List Int)):Nat→MirS→ArrS→Nat→Option ((MirS × ArrS) ⊕ (Int × MirS × ArrS))
  | 0,_,_,_=>none
  | n + 1,x39,x40,x41=>zg6 r29 (zeg r29 n) x39 x40 x41
def zgj (m:MirS) (s:ArrS):Option (Int × MirS × ArrS) :=
  Option.bind (zbi m s) fun r1 =>
  if (r1≠(0:Int)) then
    some (r1,m,s)
  else
    Option.bind (zhp m s) fun r3 =>
    if (r3.1≠(0:Int)) then
      some (r3.1,r3.2.1,r3.2.2)
    else
      Option.elim r3.2.1.log (
        some (r3.1, { r3.2.1 with log := none },r3.2.2)) fun o21 =>
      Option.elim (some o21) (
        none) fun o28 =>
      Option.bind (zho o28 r3.2.2) fun r29 =>
      seqO (zeg r29 FUEL ((⟨r3.2.1.legs,(some o28),r3.2.1.hasLog,r3.2.1.logState,r3.2.1.size,r3.2.1.region,r3.2.1.dirty,r3.2.1.copied⟩:MirS)) r3.2.2 0) fun a38 =>
      some (((0:Int),a38.1,a38.2))
theorem zmb {W:World} {bm:Nat} {bs:Nat} {m:MirS} {s:ArrS} {r:Int × MirS × ArrS} (h:zgj m s=some r) :
    CSpec Tryz.prog W 37 [ptr bm 0] [MirP bs bm m,Arr bs s] (fun x:Unit => .int .i64 r.1) (fun _=>True) (fun x F=>MirP bs bm r.2.1::Arr bs r.2.2::F) := by
 refine CSpec.of_body Tryz.func37 rfl Tryz.ntmps37 rfl fun F => ?_
 show CJ _ _ _ _ _ _ (_::_::F)
 unfold zgj at h
 refine sR <| oA rfl rfl <| nT <| zac <| sR <| oM rfl rfl ?_
 obtain ⟨r1,hr2,h⟩ := zar h
 refine oO <| zat (zc4 hr2) rfl Tryz.call58 (Dels.cons del0 (Dels.cons del0 Dels.nil)) rfl fun _ _=>oA rfl rfl <| nT <| sR <| oM rfl rfl <| oP (P_neq (a:=r1) (b:=(0:Int)) rfl rfl) rfl <| nT <| zan rfl zab (fun hg1 => ?_) (fun hg1 => ?_)
 ·
  replace h := ite_t hg1 h
  refine sR <| oM rfl rfl <| oA rfl rfl <| nT <| zah <| zad ?_
  cases h
  exact fE (res1 Tryz.results37 rfl) () eR
 ·
  replace h := ite_f hg1 h
  refine kT <| zac <| sR <| oM rfl rfl ?_
  obtain ⟨r3,hr4,h⟩ := zar h
  refine oO <| zat (zma hr4) rfl Tryz.call74 (Dels.cons del0 (Dels.cons del0 Dels.nil)) rfl fun _ _=>oA rfl rfl <| nT <| zac <| zax (Ent.transX (t0_ eR) (zba (l:=r3.2.1))) fun oc5=>za1 (fun h hh=>za7 (zaq (del2 (A:=Rs (DevP bs) (r3.2.1.legs.map mlegS.dev) oc5.2.1)).out h hh)) fun hdl7=>lC del1 fun hlen8 => ?_
  rw [zai (by have := hdl7; simpa using this)] at hlen8
  refine lC del4 fun hlen9=>zaf <| oM rfl rfl <| oP (P_neq (a:=r3.1) (b:=(0:Int)) rfl rfl) rfl <| oM rfl rfl <| zaz rfl rfl rfl (fun hG10=>have hP11:¬ (r3.1≠(0:Int)) := nP (zab) hG10; VJ_P (zaj rfl)) <| zaz rfl rfl rfl (fun hG12=>have hP13:¬ (r3.1≠(0:Int)) := nP (zab) hG12; VJ_P (zae (mbx hG12 rfl))) <| zaz rfl rfl rfl (fun hG14=>have hP15:¬ (r3.1≠(0:Int)) := nP (zab) hG14; VJ_P (zaa (mbx hG14 rfl) ⟨_,_,_,Tryz.runUnderlying119,rfl,rfl,Tryz.sizeOf116,rfl⟩)) <| zaz rfl rfl rfl (fun hG16=>have hP17:¬ (r3.1≠(0:Int)) := nP (zab) hG16; zag (mbx hG16 rfl) foc0 rfl Tryz.isAgg116) <| zb7 18 rfl zab (fun hg2B hg2 => ?_) (fun hg2B hg2 => ?_)
  ·
   replace h := ite_t hg2 h
   refine RJ_gn (GY_no rfl rfl rfl hg2B) rfl rfl <| oP (zbh rfl hg2B rfl) rfl <| zap <| zas (Ent.trans eR (zbn (v0:=r3.2.1.legs) (v1:=r3.2.1.log) (v2:=r3.2.1.hasLog) (v3:=r3.2.1.logState) (v4:=r3.2.1.size) (v5:=r3.2.1.region) (v6:=r3.2.1.dirty) (v7:=r3.2.1.copied) (h0:=oc5.1) (h1:=oc5.2.1) (h2:=oc5.2.2.1) (h3:=oc5.2.2.2))) <| zam <| zck rfl rfl <| sR <| oM rfl rfl <| oA rfl rfl <| nT <| zah <| zad ?_
   cases h
   exact fE (res1 Tryz.results37 rfl) () eR
  ·
   replace h := ite_f hg2 h
   rcases opt_e h with ⟨ht20,h⟩ | ⟨o21,ht20,h⟩
   ·
    rw [ht20]
    refine zbb (t0_ (t0_ (t0_ (t1_ (t1_ (eD eR)))))) <| gP (zal rfl rfl rfl hg2B) (zmx (mbx (not_f hg2B) rfl) rfl Tryz.underlying116) rfl <| oP (za8 rfl hg2B rfl) rfl <| zap <| zas (Ent.trans (t0_ (t0_ (t0_ (Ent.trans (fun h hh=>zb8 h hh) <| t0_ eR)))) (zbn (v0:=r3.2.1.legs) (v1:=none) (v2:=r3.2.1.hasLog) (v3:=r3.2.1.logState) (v4:=r3.2.1.size) (v5:=r3.2.1.region) (v6:=r3.2.1.dirty) (v7:=r3.2.1.copied) (h0:=oc5.1) (h1:=oc5.2.1) (h2:=0) (h3:=oc5.2.2.2))) <| zam <| zck rfl rfl <| sR <| oM rfl rfl <| oA rfl rfl <| nT <| zah <| zad ?_
    cases h
    exact fE (res1 Tryz.results37 rfl) () eR
   ·
    rw [ht20]
    refine zbb (Ent.takeC (A' := LogP bs oc5.2.2.1 o21) del3 rfl eR) <| gP (zal rfl rfl rfl hg2B) (zmw (mbx (not_f hg2B) rfl) rfl Tryz.underlying116) rfl <| oP (za8 rfl hg2B rfl) rfl <| zap <| zas (Ent.trans (t1_ (t1_ (t1_ eR))) (zbn (v0:=r3.2.1.legs) (v1:=(some o21)) (v2:=r3.2.1.hasLog) (v3:=r3.2.1.logState) (v4:=r3.2.1.size) (v5:=r3.2.1.region) (v6:=r3.2.1.dirty) (v7:=r3.2.1.copied) (h0:=oc5.1) (h1:=oc5.2.1) (h2:=oc5.2.2.1) (h3:=oc5.2.2.2))) <| zam <| zgh rfl rfl <| kT <| zac <| zac <| zax (Ent.transX (t0_ eR) (zba (l := { r3.2.1 with log := (some o21) }))) fun oc22=>za1 (fun h hh=>za7 (zaq (del2 (A:=Rs (DevP bs) (r3.2.1.legs.map mlegS.dev) oc22.2.1)).out h hh)) fun hdl24=>lC del1 fun hlen25 => ?_
    rw [zai (by have := hdl24; simpa using this)] at hlen25
    refine lC del4 fun hlen26=>zaf <| oM rfl rfl <| oP (zae rfl) rfl <| oP (zaa rfl ⟨_,_,_,Tryz.runUnderlying119,rfl,rfl,Tryz.sizeOf116,rfl⟩) rfl <| oV (zag rfl foc0 rfl Tryz.isAgg116) rfl ?_
    rcases opt_e h with ⟨ht27,h⟩ | ⟨o28,ht27,h⟩
    ·
     rw [ht27]
     exact zbb (t0_ (t0_ (t0_ (t1_ (t1_ (eD eR)))))) <| zbq h
    ·
     rw [ht27]
     refine zbb (Ent.takeC (A' := LogP bs oc22.2.2.1 o28) del3 rfl eR) ?_
     obtain ⟨r29,hr30,h⟩ := zar h
     refine oO <| zat (zl5 hr30) rfl Tryz.call75 (Dels.cons del0 (Dels.cons del4 Dels.nil)) rfl fun X31 _=>oV (V_len rfl foc2 (Reads.sl _ _ _) Tryz.runUnderlying45) rfl <| oM rfl rfl <| zap <| zas (Ent.trans (t3_ (t3_ (t3_ (t0_ (t2_ eR))))) (zbn (v0:=r3.2.1.legs) (v1:=(some o28)) (v2:=r3.2.1.hasLog) (v3:=r3.2.1.logState) (v4:=r3.2.1.size) (v5:=r3.2.1.region) (v6:=r3.2.1.dirty) (v7:=r3.2.1.copied) (h0:=oc22.1) (h1:=oc22.2.1) (h2:=oc22.2.2.1) (h3:=oc22.2.2.2))) <| zam ?_
     obtain ⟨y35,hl33,hK34⟩ := seq_e h
     refine zbv (X:=MirS × ArrS) [2,6,7,8,32,33,34,35,36,37,38,39,40,41,42,43,44,45,46,47,48,49,50,51,52,53,54,55,56,57,58,59,60,61,62,63,64] (fun a38=>([]:Slots)) (fun a38 R=>MirP bs bm a38.1::Arr bs a38.2::R) (fun a38=>y35 = .inl a38) (Dels.cons del0 (Dels.cons del0 Dels.nil)) ?_ ?_
     ·
      refine zaw <| zbd (X:=Nat × MirS × ArrS × Nat) [2,6,7,8,32,33,34,35,36,37,38,39,40,41,42,43,44,45,46,47,48,49,50,51,52,53,54,55,56,57,58,59,60,61,62,63,64] (fun ⟨n,x39,x40,x41⟩=>([(32,.int .i64 (((x41:Nat):Int)))]:Slots)) (fun ⟨n,x39,x40,x41⟩ R=>MirP bs bm x39::Arr bs x40::R) (fun ⟨n,x39,x40,x41⟩=>zeg r29 n x39 x40 x41=some y35) (fun ⟨n,x39,x40,x41⟩=>n) ⟨FUEL,(⟨r3.2.1.legs,(some o28),r3.2.1.hasLog,r3.2.1.logState,r3.2.1.size,r3.2.1.region,r3.2.1.dirty,r3.2.1.copied⟩:MirS),r3.2.2,0⟩ ?_ ?_ eR ?_
      · exact hl33
      · exact ⟨rfl,True.intro⟩
      ·
       rintro ⟨n,x39,x40,x41⟩ h
       cases n with
       | zero=>exact zbq h
       | succ n => ?_
       replace h:zg6 r29 (zeg r29 n) x39 x40 x41=some y35 := h
       unfold zg6 at h
       show CJ _ _ _ _ _ (([(32,.int .i64 (((x41:Nat):Int)))]:Slots) ++ forget _ _) (MirP bs bm x39::Arr bs x40::_)
       refine sR <| oP (P_lss (a:=((x41:Nat):Int)) (b:=((r29.length:Nat):Int)) rfl rfl) rfl <| nT <| zac <| zan rfl zab (fun hg3 => ?_) (fun hg3 => ?_)
       ·
        replace h := ite_t hg3 h
        refine kT <| zac <| zaw <| sR <| oV (zay (i:=x41) rfl rfl rfl (by omega) foc2 (Reads.sl _ _ _) Tryz.runUnderlying45 Tryz.sizeOf3) rfl <| oV (za6 rfl rfl (by omega) foc2 (Reads.sl _ _ _) rfl rfl Tryz.isAgg3) rfl <| oA rfl rfl <| nT <| zac <| zac <| zax (Ent.transX (t0_ eR) (zba (l:=x39))) fun oc42=>za1 (fun h hh=>za7 (zaq (del2 (A:=Rs (DevP bs) (x39.legs.map mlegS.dev) oc42.2.1)).out h hh)) fun hdl44=>lC del1 fun hlen45 => ?_
        rw [zai (by have := hdl44; simpa using this)] at hlen45
        refine lC del4 fun hlen46=>zaf <| oM rfl rfl <| oP (zae rfl) rfl <| oP (zaa rfl ⟨_,_,_,Tryz.runUnderlying119,rfl,rfl,Tryz.sizeOf34,rfl⟩) rfl <| oV (zag rfl foc0 rfl Tryz.isAgg34) rfl <| oM rfl rfl ?_
        obtain ⟨hg4,h⟩ := zbt h
        refine oV (zay (i:=((r29.getD x41 0)).toNat) rfl rfl (Int.toNat_of_nonneg (hg4.1)).symm (by omega) foc4 (Reads.sl _ _ _) Tryz.runUnderlying34 Tryz.sizeOf4) rfl <| oV (za6 rfl rfl (by omega) foc4 (Reads.sl _ _ _) rfl rfl Tryz.isAgg4) rfl <| zap <| zas (Ent.trans eR (zbn (v0:=x39.legs) (v1:=x39.log) (v2:=x39.hasLog) (v3:=x39.logState) (v4:=x39.size) (v5:=x39.region) (v6:=x39.dirty) (v7:=x39.copied) (h0:=oc42.1) (h1:=oc42.2.1) (h2:=oc42.2.2.1) (h3:=oc42.2.2.2))) <| zam <| zan rfl Iff.rfl (fun hg5 => ?_) (fun hg5 => ?_)
        ·
         replace h := ite_t hg5 h
         refine zbj <| za3 <| za0 <| zam <| zaf ?_
         obtain ⟨hg6,h⟩ := zfg h
         exact oP (PJ_eq (P_add (a:=((x41:Nat):Int)) (b:=(1:Int)) rfl rfl (zfh hg6)) rfl) rfl <| oM rfl rfl <| zap <| nR ⟨n,x39,x40,(x41 + 1)⟩ h ⟨rfl,True.intro⟩ eR
        ·
         replace h := ite_f hg5 h
         refine kT <| zac <| zac <| zax (Ent.transX (t0_ eR) (zba (l:=x39))) fun oc47=>za1 (fun h hh=>za7 (zaq (del2 (A:=Rs (DevP bs) (x39.legs.map mlegS.dev) oc47.2.1)).out h hh)) fun hdl49=>lC del1 fun hlen50 => ?_
         rw [zai (by have := hdl49; simpa using this)] at hlen50
         refine lC del4 fun hlen51=>zn6 [blk bm 119 [(Sl3.v oc47.1),oval x39.log oc47.2.2.1,.bool x39.hasLog,.int .i64 x39.logState,.int .i64 x39.size,.int .i64 x39.region,(Sl3.v oc47.2.2.2),.int .i64 x39.copied],sl zdp (Sl3.v oc47.1) (zav x39.legs oc47.2.1),Rs (DevP bs) (x39.legs.map mlegS.dev) oc47.2.1,sl tyB (Sl3.v oc47.2.2.2) x39.dirty,sl tyI X31.v r29] 4096 (by kernel_rfl) rfl <| aN 0 1 rfl rfl (zaj rfl) rfl <| aN 1 3 rfl rfl (zaj rfl) rfl <| aN 2 7 rfl rfl (zae rfl) rfl <| aN 3 15 rfl rfl (zaa rfl ⟨_,_,_,Tryz.runUnderlying119,rfl,rfl,Tryz.sizeOf115,rfl⟩) rfl <| aV 4 31 rfl rfl (zak rfl) (t0_ (t0_ (t0_ (t1_ (t2_ Ent.done))))) (zag rfl foc0 rfl Tryz.isAgg115) rfl <| aV 5 63 rfl rfl (zak rfl) (t0_ (t0_ (t0_ (t1_ (t2_ Ent.done))))) (VJ_eq (V_len rfl foc1 (Reads.sl _ _ _) Tryz.runUnderlying115) (congrArg (fun z:Nat=>Value.int .i64 (z:Int)) (zai (by have := hdl49; simpa using this)).symm)) rfl <| aN 6 127 rfl rfl (zaj rfl) rfl <| aN 7 255 rfl rfl (zae rfl) rfl <| aN 8 511 rfl rfl (zaa rfl ⟨_,_,_,Tryz.runUnderlying119,rfl,rfl,Tryz.sizeOf116,rfl⟩) rfl <| aV 9 1023 rfl rfl (zak rfl) (t0_ (t0_ (t0_ (t1_ (t2_ Ent.done))))) (zag rfl foc0 rfl Tryz.isAgg116) rfl <| aN 10 2047 rfl rfl (zaj rfl) rfl ?_
         rcases opt_e h with ⟨ht52,h⟩ | ⟨o53,ht52,h⟩
         ·
          rw [ht52]
          obtain ⟨r54,hr55,h⟩ := zar h
          refine AJ_op 11 4095 rfl (by kernel_rfl) rfl (zak rfl) <| zat (zop hr55) rfl Tryz.call77 Dels.nil rfl fun _ _=>⟨fun _=>(t0_ (t0_ (t0_ (t1_ (t2_ Ent.done))))),?_⟩
          refine zey (Ent.trans (t0_ (t0_ (t0_ (Ent.trans (fun h hh=>zb8 h hh) <| t0_ (t1_ eR))))) (zbn (v0:=x39.legs) (v1:=none) (v2:=x39.hasLog) (v3:=x39.logState) (v4:=x39.size) (v5:=x39.region) (v6:=x39.dirty) (v7:=x39.copied) (h0:=oc47.1) (h1:=oc47.2.1) (h2:=0) (h3:=oc47.2.2.2))) ?_
          obtain ⟨r56,hr57,h⟩ := zar h
          refine AJ_op 12 8191 rfl (by kernel_rfl) rfl (zak rfl) <| zat (zee hr57) rfl Tryz.call76 (Dels.cons del0 (Dels.cons del1 Dels.nil)) rfl fun _ _=>⟨fun h=>absurd h (by decide),?_⟩
          refine aN 13 16383 rfl rfl (zb0 rfl) rfl <| aD <| sR <| oM rfl rfl <| oP (P_neq (a:=r56.1) (b:=(0:Int)) rfl rfl) rfl <| nT <| zan rfl zab (fun hg7 => ?_) (fun hg7 => ?_)
          ·
           replace h := ite_t hg7 h
           refine sR <| oM rfl rfl <| oA rfl rfl <| nT <| zah <| zad <| zau <| zad <| za9 <| zau <| zad ?_
           have hE := Option.some.inj h
           replace hE := zce hK34 hE.symm
           subst hE
           exact fE (res1 Tryz.results37 rfl) () (t0_ (t0_ (eD (eD eR))))
          ·
           replace h := ite_f hg7 h
           refine kT <| sR <| oM rfl rfl ?_
           obtain ⟨r58,hr59,h⟩ := zar h
           refine oO <| zat (zc4 hr59) rfl Tryz.call58 (Dels.cons del0 (Dels.cons del0 Dels.nil)) rfl fun _ _=>oA rfl rfl <| nT <| sR <| oM rfl rfl <| oP (P_neq (a:=r58) (b:=(0:Int)) rfl rfl) rfl <| nT <| zan rfl zab (fun hg8 => ?_) (fun hg8 => ?_)
           ·
            replace h := ite_t hg8 h
            refine sR <| oM rfl rfl <| oA rfl rfl <| nT <| zah <| zau <| zad <| za9 <| zau <| zad ?_
            have hE := Option.some.inj h
            replace hE := zce hK34 hE.symm
            subst hE
            exact fE (res1 Tryz.results37 rfl) () (t0_ (t0_ (eD (eD eR))))
           ·
            replace h := ite_f hg8 h
            refine zbr <| zao <| zam <| zaf ?_
            obtain ⟨hg9,h⟩ := zfg h
            exact oP (PJ_eq (P_add (a:=((x41:Nat):Int)) (b:=(1:Int)) rfl rfl (zfh hg9)) rfl) rfl <| oM rfl rfl <| zap <| nR ⟨n,r56.2,x40,(x41 + 1)⟩ h ⟨rfl,True.intro⟩ (t0_ (t0_ (t1_ (eD eR))))
         ·
          rw [ht52]
          refine zey (Ent.takeC (A' := LogP bs oc47.2.2.1 o53) del3 rfl eR) ?_
          obtain ⟨r60,hr61,h⟩ := zar h
          refine AJ_op 11 4095 rfl (by kernel_rfl) rfl (zak rfl) <| zat (zph hr61) rfl Tryz.call77 (Dels.cons del0 (Dels.cons del4 Dels.nil)) rfl fun _ _=>⟨fun _=>(t2_ (t2_ (t2_ (t2_ (t2_ Ent.done))))),?_⟩
          refine zey (Ent.trans (t2_ (t2_ (t2_ (t0_ (t1_ eR))))) (zbn (v0:=x39.legs) (v1:=(some r60.2.1)) (v2:=x39.hasLog) (v3:=x39.logState) (v4:=x39.size) (v5:=x39.region) (v6:=x39.dirty) (v7:=x39.copied) (h0:=oc47.1) (h1:=oc47.2.1) (h2:=oc47.2.2.1) (h3:=oc47.2.2.2))) ?_
          obtain ⟨r62,hr63,h⟩ := zar h
          refine AJ_op 12 8191 rfl (by kernel_rfl) rfl (zak rfl) <| zat (zee hr63) rfl Tryz.call76 (Dels.cons del0 (Dels.cons del0 Dels.nil)) rfl fun _ _=>⟨fun h=>absurd h (by decide),?_⟩
          refine aN 13 16383 rfl rfl (zb0 rfl) rfl <| aD <| sR <| oM rfl rfl <| oP (P_neq (a:=r62.1) (b:=(0:Int)) rfl rfl) rfl <| nT <| zan rfl zab (fun hg10 => ?_) (fun hg10 => ?_)
          ·
           replace h := ite_t hg10 h
           refine sR <| oM rfl rfl <| oA rfl rfl <| nT <| zah <| zad <| zau <| zad <| za9 <| zau <| zad ?_
           have hE := Option.some.inj h
           replace hE := zce hK34 hE.symm
           subst hE
           exact fE (res1 Tryz.results37 rfl) () (t0_ (t0_ (eD eR)))
          ·
           replace h := ite_f hg10 h
           refine kT <| sR <| oM rfl rfl ?_
           obtain ⟨r64,hr65,h⟩ := zar h
           refine oO <| zat (zc4 hr65) rfl Tryz.call58 (Dels.cons del0 (Dels.cons del0 Dels.nil)) rfl fun _ _=>oA rfl rfl <| nT <| sR <| oM rfl rfl <| oP (P_neq (a:=r64) (b:=(0:Int)) rfl rfl) rfl <| nT <| zan rfl zab (fun hg11 => ?_) (fun hg11 => ?_)
           ·
            replace h := ite_t hg11 h
            refine sR <| oM rfl rfl <| oA rfl rfl <| nT <| zah <| zau <| zad <| za9 <| zau <| zad ?_
            have hE := Option.some.inj h
            replace hE := zce hK34 hE.symm
            subst hE
            exact fE (res1 Tryz.results37 rfl) () (t0_ (t0_ (eD eR)))
           ·
            replace h := ite_f hg11 h
            refine zbr <| zao <| zam <| zaf ?_
            obtain ⟨hg12,h⟩ := zfg h
            exact oP (PJ_eq (P_add (a:=((x41:Nat):Int)) (b:=(1:Int)) rfl rfl (zfh hg12)) rfl) rfl <| oM rfl rfl <| zap <| nR ⟨n,r62.2,r60.2.2,(x41 + 1)⟩ h ⟨rfl,True.intro⟩ eR
       ·
        replace h := ite_f hg3 h
        exact zbj <| za3 <| za2 <| za0 <| cR (x39,x40) (Option.some.inj h).symm True.intro eR
     ·
      rintro a38 hy66
      replace h := zd0 hK34 hy66
      show CJ _ _ _ _ _ (([]:Slots) ++ forget _ _) (MirP bs bm a38.1::Arr bs a38.2::_)
      refine sR <| oA rfl rfl <| nT <| zah ?_
      cases h
      exact fE (res1 Tryz.results37 rfl) () (t0_ (t0_ (eD eR)))
def zir (i:Int) (p1:Int):Option (Bool) :=
  some ((decide (i≠p1)))
theorem zob {W:World} {bp1:Nat} {i:Int} {p1:Int} {r:Bool} (h:zir i p1=some r) :
    CSpec Tryz.prog W 62 [.int .i64 i,ptr bp1 0] [blk bp1 3 [.int .i64 p1]] (fun x:Unit => .bool r) (fun _=>True) (fun x F=>blk bp1 3 [.int .i64 p1]::F) := by
 refine CSpec.of_body Tryz.func62 rfl Tryz.ntmps62 rfl fun F => ?_
 show CJ _ _ _ _ _ _ (_::F)
 unfold zir at h
 refine sR <| oA rfl rfl <| nT <| sR <| oM rfl rfl <| oV (zag rfl foc0 rfl Tryz.isAgg3) rfl <| oP (P_neq (a:=i) (b:=p1) rfl rfl) rfl <| oA rfl rfl <| nT <| zah ?_
 cases h
 exact fE (res1 Tryz.results62 rfl) () eR
def zeh (i:Int) (p1_v:MirS) (p2:Int) (p3:UInt64) (s:ArrS):Option (Int × ArrS) :=
  grd (decide (0≤i∧i < (p1_v.legs.length:Int))) <|
  Option.bind (Dvc.wr ((p1_v.legs.getD ((i).toNat) mleg_x0).dev) s p2 p3) fun r8 =>
  some (r8.1,r8.2)
theorem zoc {W:World} {bp1:Nat} {bp1_v:Nat} {bp2:Nat} {bp3:Nat} {bs:Nat} {i:Int} {p1_v:MirS} {p2:Int} {p3:UInt64} {s:ArrS} {r:Int × ArrS} (h:zeh i p1_v p2 p3 s=some r) :
    CSpec Tryz.prog W 63 [.int .i64 i,ptr bp1 0,ptr bp2 0,ptr bp3 0] [blk bp1 41 [ptr bp1_v 0],MirP bs bp1_v p1_v,blk bp2 3 [.int .i64 p2],blk bp3 23 [.int .u64 (p3.toNat:Int)],Arr bs s] (fun x:Unit => .int .i64 r.1) (fun _=>True) (fun x F=>blk bp1 41 [ptr bp1_v 0]::MirP bs bp1_v p1_v::blk bp2 3 [.int .i64 p2]::blk bp3 23 [.int .u64 (p3.toNat:Int)]::Arr bs r.2::F) := by
 refine CSpec.of_body Tryz.func63 rfl Tryz.ntmps63 rfl fun F => ?_
 show CJ _ _ _ _ _ _ (_::_::_::_::_::F)
 unfold zeh at h
 refine sR <| oA rfl rfl <| nT <| zac <| zax (Ent.transX (t1_ eR) (zba (l:=p1_v))) fun oc1=>za1 (fun h hh=>za7 (zaq (del2 (A:=Rs (DevP bs) (p1_v.legs.map mlegS.dev) oc1.2.1)).out h hh)) fun hdl3=>lC del1 fun hlen4 => ?_
 rw [zai (by have := hdl3; simpa using this)] at hlen4
 refine lC del4 fun hlen5=>zbc 1024 (by kernel_rfl) rfl <| aV 0 1 rfl rfl (zak rfl) eR (zag rfl foc5 rfl Tryz.isAgg41) rfl <| aN 1 3 rfl rfl (zae rfl) rfl <| aN 2 7 rfl rfl (zaa rfl ⟨_,_,_,Tryz.runUnderlying119,rfl,rfl,Tryz.sizeOf115,rfl⟩) rfl <| aV 3 15 rfl rfl (zak rfl) eR (zag rfl foc0 rfl Tryz.isAgg115) rfl <| aN 4 31 rfl rfl (zaj rfl) rfl ?_
 obtain ⟨hg1,h⟩ := zbt h
 refine aV 5 63 rfl rfl (zak rfl) eR (zay (i:=(i).toNat) rfl rfl (Int.toNat_of_nonneg (hg1.1)).symm (show (i).toNat < (zav p1_v.legs oc1.2.1).length by rw [zai (by have := hdl3; simpa using this)]; exact (by omega)) foc1 (Reads.sl _ _ _) Tryz.runUnderlying115 Tryz.sizeOf129) rfl <| aN 6 127 rfl rfl (zbe rfl ⟨_,_,_,Tryz.runUnderlying129,rfl,rfl,Tryz.sizeOf96,rfl⟩) rfl <| zey (Ent.trans (t2_ eR) (zfk (i:=(i).toNat) (by omega))) <| aV 7 255 rfl rfl (zak rfl) (t2_ (t2_ (t1_ (t1_ (t1_ (t1_ (t1_ (t1_ (t1_ (eD eR)))))))))) (VJ_eq (za6 rfl rfl (show (i).toNat < (zav p1_v.legs oc1.2.1).length by rw [zai (by have := hdl3; simpa using this)]; exact (by omega)) foc1 (Reads.sl _ _ _) rfl rfl Tryz.isAgg96) (show (IfH.v ((oc1.2.1.getD ((i).toNat) tyDev.dflt)):Value)=IfH.v ((zav p1_v.legs oc1.2.1).getD ((i).toNat) zbz).dev from by rw [zb2 (by have := hdl3; simpa using this)])) rfl <| aV 8 511 rfl rfl (zak rfl) (t2_ (t2_ (t1_ (t1_ (t1_ (t1_ (t1_ (t1_ (t1_ (eD eR)))))))))) (zag rfl foc6 rfl Tryz.isAgg3) rfl ?_
 refine aV 9 1023 rfl rfl (zak rfl) (t2_ (t2_ (t1_ (t1_ (t1_ (t1_ (t1_ (t1_ (t1_ (eD eR)))))))))) (zag rfl foc7 rfl Tryz.isAgg23) rfl <| zh9 (fun h hh=>zd3 h (zaq (del0 (A:=DevP bs ((p1_v.legs.getD ((i).toNat) mleg_x0).dev) ((oc1.2.1.getD ((i).toNat) tyDev.dflt)))).out h hh)) fun hdp7 => ?_
 obtain ⟨r8,hr9,h⟩ := zar h
 refine AJ_op 10 2047 rfl (by kernel_rfl) rfl (zak rfl) <| zc8 rfl (zjn hr9 hdp7) rfl (Dels.cons del0 (Dels.cons del8 Dels.nil)) rfl fun _ _=>⟨fun h=>absurd h (by decide),?_⟩
 refine aN 11 4095 rfl rfl (zb0 rfl) rfl <| zcd (by kernel_rfl) <| zas (Ent.trans (t3_ (t3_ (t2_ (t2_ (t2_ eR))))) (zbn (v0:=p1_v.legs) (v1:=p1_v.log) (v2:=p1_v.hasLog) (v3:=p1_v.logState) (v4:=p1_v.size) (v5:=p1_v.region) (v6:=p1_v.dirty) (v7:=p1_v.copied) (h0:=oc1.1) (h1:=oc1.2.1) (h2:=oc1.2.2.1) (h3:=oc1.2.2.2))) <| zam <| zah ?_
 cases h
 exact fE (res1 Tryz.results63 rfl) () (t3_ (t0_ (t2_ (t2_ (t1_ (eD eR))))))
end Go.Proofs
set_option linter.unusedSimpArgs false
set_option linter.unusedVariables false
set_option maxRecDepth 20000
set_option maxHeartbeats 4000000
namespace Go.Proofs
open Go.VG
def zew (m:MirS) (choose_c0:Int) (do_2_c1:Int) (do_2_c2:UInt64) (rec:MirS→ArrS→Nat→Option ((MirS × ArrS) ⊕ (Int × MirS × ArrS))) (x12:MirS) (x13:ArrS) (x14:Nat):Option ((MirS × ArrS) ⊕ (Int × MirS × ArrS)) :=
  if (((x14:Nat):Int) < ((m.legs.length:Nat):Int)) then
    grd (decide (x14 < x12.legs.length)) <|
    if ((x12.legs.getD x14 mleg_x0).state=(0:Int)) then
      Option.bind (zir (((x14:Nat):Int)) choose_c0) fun r20 =>
      if r20=true then
        Option.bind (zeh (((x14:Nat):Int)) x12 do_2_c1 do_2_c2 x13) fun r22 =>
        Option.bind (zbg x12 (((x14:Nat):Int)) r22.1 r22.2) fun r24 =>
        if (r24.1≠(0:Int)) then
          some (.inr (r24.1,r24.2,r22.2))
        else
          rec r24.2 r22.2 (x14 + 1)
      else
        rec x12 x13 (x14 + 1)
    else
      rec x12 x13 (x14 + 1)
  else
    some (.inl (x12,x13))
def zcy (m:MirS) (choose_c0:Int) (do_2_c1:Int) (do_2_c2:UInt64):Nat→MirS→ArrS→Nat→Option ((MirS × ArrS) ⊕ (Int × MirS × ArrS))
  | 0,_,_,_=>none
  | n + 1,x12,x13,x14=>zew m choose_c0 do_2_c1 do_2_c2 (zcy m choose_c0 do_2_c1 do_2_c2 n) x12 x13 x14
def zda (m:MirS) (choose_c0:Int) (do_2_c1:Int) (do_2_c2:UInt64) (s:ArrS):Option (Int × MirS × ArrS) :=
  seqO (zcy m choose_c0 do_2_c1 do_2_c2 FUEL m s 0) fun a11 =>
  Option.bind (zbi a11.1 a11.2) fun r27 =>
  some (r27,a11.1,a11.2)
theorem zjt {W:World} {bm:Nat} {bchoose_c0:Nat} {bdo_2_c0:Nat} {bdo_2_c1:Nat} {bdo_2_c2:Nat} {bs:Nat} {m:MirS} {choose_c0:Int} {do_2_c1:Int} {do_2_c2:UInt64} {s:ArrS} {r:Int × MirS × ArrS} (h:zda m choose_c0 do_2_c1 do_2_c2 s=some r) :
    CSpec Tryz.prog W 61 [ptr bm 0,.func (.func 62) #[] #[ptr bchoose_c0 0],.func (.func 63) #[] #[ptr bdo_2_c0 0,ptr bdo_2_c1 0,ptr bdo_2_c2 0]] [MirP bs bm m,blk bchoose_c0 3 [.int .i64 choose_c0],blk bdo_2_c0 41 [ptr bm 0],blk bdo_2_c1 3 [.int .i64 do_2_c1],blk bdo_2_c2 23 [.int .u64 (do_2_c2.toNat:Int)],Arr bs s] (fun x:Unit => .int .i64 r.1) (fun _=>True) (fun x F=>MirP bs bm r.2.1::blk bchoose_c0 3 [.int .i64 choose_c0]::blk bdo_2_c0 41 [ptr bm 0]::blk bdo_2_c1 3 [.int .i64 do_2_c1]::blk bdo_2_c2 23 [.int .u64 (do_2_c2.toNat:Int)]::Arr bs r.2.2::F) := by
 refine CSpec.of_body Tryz.func61 rfl Tryz.ntmps61 rfl fun F => ?_
 show CJ _ _ _ _ _ _ (_::_::_::_::_::_::F)
 unfold zda at h
 refine sR <| oA rfl rfl <| nT <| sR <| oM rfl rfl <| oP (zb6 rfl rfl) rfl <| oA rfl rfl <| nT <| zac <| zac <| zax (Ent.transX (t0_ eR) (zba (l:=m))) fun oc1=>za1 (fun h hh=>za7 (zaq (del2 (A:=Rs (DevP bs) (m.legs.map mlegS.dev) oc1.2.1)).out h hh)) fun hdl3=>lC del1 fun hlen4 => ?_
 rw [zai (by have := hdl3; simpa using this)] at hlen4
 refine lC del4 fun hlen5=>zaf <| oM rfl rfl <| oP (zae rfl) rfl <| oP (zaa rfl ⟨_,_,_,Tryz.runUnderlying119,rfl,rfl,Tryz.sizeOf115,rfl⟩) rfl <| oV (zag rfl foc0 rfl Tryz.isAgg115) rfl <| oV (VJ_eq (V_len rfl foc1 (Reads.sl _ _ _) Tryz.runUnderlying115) (congrArg (fun z:Nat=>Value.int .i64 (z:Int)) (zai (by have := hdl3; simpa using this)).symm)) rfl <| oM rfl rfl <| zap <| zas (Ent.trans eR (zbn (v0:=m.legs) (v1:=m.log) (v2:=m.hasLog) (v3:=m.logState) (v4:=m.size) (v5:=m.region) (v6:=m.dirty) (v7:=m.copied) (h0:=oc1.1) (h1:=oc1.2.1) (h2:=oc1.2.2.1) (h3:=oc1.2.2.2))) <| zam ?_
 obtain ⟨y8,hl6,hK7⟩ := seq_e h
 refine zbv (X:=MirS × ArrS) [6,8,9,17,18,19,20,21,22,23,24,25,26,27,28,29,30,31,32,33,34,35,36,37,38,39,40,41,42,43] (fun a11=>([]:Slots)) (fun a11 R=>MirP bs bm a11.1::Arr bs a11.2::R) (fun a11=>y8 = .inl a11) (Dels.cons del0 (Dels.cons del4 Dels.nil)) ?_ ?_
 ·
  refine zaw <| zbd (X:=Nat × MirS × ArrS × Nat) [6,8,9,17,18,19,20,21,22,23,24,25,26,27,28,29,30,31,32,33,34,35,36,37,38,39,40,41,42,43] (fun ⟨n,x12,x13,x14⟩=>([(17,.int .i64 (((x14:Nat):Int)))]:Slots)) (fun ⟨n,x12,x13,x14⟩ R=>MirP bs bm x12::Arr bs x13::R) (fun ⟨n,x12,x13,x14⟩=>zcy m choose_c0 do_2_c1 do_2_c2 n x12 x13 x14=some y8) (fun ⟨n,x12,x13,x14⟩=>n) ⟨FUEL,m,s,0⟩ ?_ ?_ (t0_ (t4_ eR)) ?_
  · exact hl6
  · exact ⟨rfl,True.intro⟩
  ·
   rintro ⟨n,x12,x13,x14⟩ h
   cases n with
   | zero=>exact zbq h
   | succ n => ?_
   replace h:zew m choose_c0 do_2_c1 do_2_c2 (zcy m choose_c0 do_2_c1 do_2_c2 n) x12 x13 x14=some y8 := h
   unfold zew at h
   show CJ _ _ _ _ _ (([(17,.int .i64 (((x14:Nat):Int)))]:Slots) ++ forget _ _) (MirP bs bm x12::Arr bs x13::_)
   refine sR <| oP (P_lss (a:=((x14:Nat):Int)) (b:=((m.legs.length:Nat):Int)) rfl rfl) rfl <| nT <| zac <| zan rfl zab (fun hg1 => ?_) (fun hg1 => ?_)
   ·
    replace h := ite_t hg1 h
    refine kT <| zac <| zaw <| sR <| oM rfl rfl <| oA rfl rfl <| nT <| zac <| zax (Ent.transX (t0_ eR) (zba (l:=x12))) fun oc15=>za1 (fun h hh=>za7 (zaq (del2 (A:=Rs (DevP bs) (x12.legs.map mlegS.dev) oc15.2.1)).out h hh)) fun hdl17=>lC del1 fun hlen18 => ?_
    rw [zai (by have := hdl17; simpa using this)] at hlen18
    refine lC del4 fun hlen19=>zaf <| oM rfl rfl <| oP (zae rfl) rfl <| oP (zaa rfl ⟨_,_,_,Tryz.runUnderlying119,rfl,rfl,Tryz.sizeOf115,rfl⟩) rfl <| oV (zag rfl foc0 rfl Tryz.isAgg115) rfl <| oM rfl rfl ?_
    obtain ⟨hg2,h⟩ := zbt h
    refine oV (zay (i:=x14) rfl rfl rfl (show x14 < (zav x12.legs oc15.2.1).length by rw [zai (by have := hdl17; simpa using this)]; exact hg2) foc1 (Reads.sl _ _ _) Tryz.runUnderlying115 Tryz.sizeOf129) rfl <| oP (zbe rfl ⟨_,_,_,Tryz.runUnderlying129,rfl,rfl,Tryz.sizeOf117,rfl⟩) rfl <| oV (VJ_eq (za6 rfl rfl (show x14 < (zav x12.legs oc15.2.1).length by rw [zai (by have := hdl17; simpa using this)]; exact hg2) foc1 (Reads.sl _ _ _) rfl rfl Tryz.isAgg117) (show (.int .i64 ((x12.legs.getD x14 mleg_x0).state):Value) = .int .i64 ((zav x12.legs oc15.2.1).getD x14 zbz).state from by rw [zb2 (by have := hdl17; simpa using this)])) rfl <| oP (P_eql (a:=(x12.legs.getD x14 mleg_x0).state) (b:=(0:Int)) rfl rfl) rfl <| oM rfl rfl <| zb7 29 rfl zab (fun hg3B hg3 => ?_) (fun hg3B hg3 => ?_)
    ·
     replace h := ite_t hg3 h
     refine gP (zal rfl rfl rfl hg3B) (zaj rfl) rfl <| gP (zal rfl rfl rfl hg3B) (zaj rfl) rfl ?_
     obtain ⟨r20,hr21,h⟩ := zar h
     refine RJ_gy (zal rfl rfl rfl hg3B) <| ze3 rfl rfl (zob hr21) Tryz.call62 (Dels.cons del6 Dels.nil) rfl fun _ _=>oP (zbh rfl hg3B rfl) rfl <| zap <| zas (Ent.trans (t1_ (t1_ (t1_ (t1_ (t1_ eR))))) (zbn (v0:=x12.legs) (v1:=x12.log) (v2:=x12.hasLog) (v3:=x12.logState) (v4:=x12.size) (v5:=x12.region) (v6:=x12.dirty) (v7:=x12.copied) (h0:=oc15.1) (h1:=oc15.2.1) (h2:=oc15.2.2.1) (h3:=oc15.2.2.2))) <| zam <| zan rfl Iff.rfl (fun hg4 => ?_) (fun hg4 => ?_)
     ·
      replace h := ite_t hg4 h
      refine sR <| oM rfl rfl <| oM rfl rfl <| oM rfl rfl <| oM rfl rfl ?_
      obtain ⟨r22,hr23,h⟩ := zar h
      refine oO <| ze3 rfl rfl (zoc hr23) Tryz.call63 (Dels.cons del3 (Dels.cons del0 (Dels.cons del2 (Dels.cons del2 (Dels.cons del1 Dels.nil))))) rfl fun _ _ => ?_
      obtain ⟨r24,hr25,h⟩ := zar h
      refine oO <| ze3 rfl rfl (zee hr25) Tryz.call76 (Dels.cons del1 (Dels.cons del3 Dels.nil)) rfl fun _ _=>oA rfl rfl <| nT <| sR <| oM rfl rfl <| oP (P_neq (a:=r24.1) (b:=(0:Int)) rfl rfl) rfl <| nT <| zan rfl zab (fun hg5 => ?_) (fun hg5 => ?_)
      ·
       replace h := ite_t hg5 h
       refine sR <| oM rfl rfl <| oA rfl rfl <| nT <| zah <| zau <| zad <| za9 <| zau <| zad ?_
       have hE := Option.some.inj h
       replace hE := zce hK7 hE.symm
       subst hE
       exact fE (res1 Tryz.results61 rfl) () (t0_ (t4_ (t1_ (t1_ (t1_ eR)))))
      ·
       replace h := ite_f hg5 h
       exact zbr <| zao <| zam <| zaf <| oP (PJ_eq (P_add (a:=((x14:Nat):Int)) (b:=(1:Int)) rfl rfl (by omega)) rfl) rfl <| oM rfl rfl <| zap <| nR ⟨n,r24.2,r22.2,(x14 + 1)⟩ h ⟨rfl,True.intro⟩ (t0_ (t0_ (t3_ eR)))
     ·
      replace h := ite_f hg4 h
      exact zbr <| zao <| zam <| zaf <| oP (PJ_eq (P_add (a:=((x14:Nat):Int)) (b:=(1:Int)) rfl rfl (by omega)) rfl) rfl <| oM rfl rfl <| zap <| nR ⟨n,x12,x13,(x14 + 1)⟩ h ⟨rfl,True.intro⟩ (t0_ (t1_ eR))
    ·
     replace h := ite_f hg3 h
     exact RJ_gn (GY_no rfl rfl rfl hg3B) rfl rfl <| RJ_gn (GY_no rfl rfl rfl hg3B) rfl rfl <| RJ_gn (GY_no rfl rfl rfl hg3B) rfl rfl <| oP (za8 rfl hg3B rfl) rfl <| zap <| zas (Ent.trans eR (zbn (v0:=x12.legs) (v1:=x12.log) (v2:=x12.hasLog) (v3:=x12.logState) (v4:=x12.size) (v5:=x12.region) (v6:=x12.dirty) (v7:=x12.copied) (h0:=oc15.1) (h1:=oc15.2.1) (h2:=oc15.2.2.1) (h3:=oc15.2.2.2))) <| zam <| zgh rfl rfl <| zbr <| zao <| zam <| zaf <| oP (PJ_eq (P_add (a:=((x14:Nat):Int)) (b:=(1:Int)) rfl rfl (by omega)) rfl) rfl <| oM rfl rfl <| zap <| nR ⟨n,x12,x13,(x14 + 1)⟩ h ⟨rfl,True.intro⟩ eR
   ·
    replace h := ite_f hg1 h
    exact zbj <| za3 <| za2 <| za0 <| cR (x12,x13) (Option.some.inj h).symm True.intro eR
 ·
  rintro a11 hy26
  replace h := zd0 hK7 hy26
  show CJ _ _ _ _ _ (([]:Slots) ++ forget _ _) (MirP bs bm a11.1::Arr bs a11.2::_)
  refine sR <| oM rfl rfl ?_
  obtain ⟨r27,hr28,h⟩ := zar h
  refine oO <| zat (zc4 hr28) rfl Tryz.call58 (Dels.cons del0 (Dels.cons del0 Dels.nil)) rfl fun _ _=>oA rfl rfl <| nT <| zah ?_
  cases h
  exact fE (res1 Tryz.results61 rfl) () (t0_ (t1_ (t1_ (t1_ (t1_ eR)))))
def zis (x_0_Device:Dvc) (x_0_state:Int) (x_0_copied:Int) (s:ArrS):Option (Bool) :=
  some ((decide (x_0_state=(0:Int))))
theorem zod {W:World} {vx_0_Device:IfH} {bs:Nat} {x_0_Device:Dvc} {x_0_state:Int} {x_0_copied:Int} {s:ArrS} {r:Bool} (h:zis x_0_Device x_0_state x_0_copied s=some r) :
    CSpec Tryz.prog W 99 [.agg #[IfH.v vx_0_Device,.int .i64 x_0_state,.int .i64 x_0_copied]] [DevP bs x_0_Device vx_0_Device,Arr bs s] (fun x:Unit => .bool r) (fun _=>True) (fun x F=>DevP bs x_0_Device vx_0_Device::Arr bs s::F) := by
 refine CSpec.of_body Tryz.func99 rfl Tryz.ntmps99 rfl fun F => ?_
 show CJ _ _ _ _ _ _ (_::_::F)
 unfold zis at h
 refine sR <| oO <| O_box rfl rfl rfl fun b1=>oA rfl rfl <| nT <| sR <| oP (zaa rfl ⟨_,_,_,Tryz.runUnderlying129,rfl,rfl,Tryz.sizeOf117,rfl⟩) rfl <| oV (zag rfl foc0 rfl Tryz.isAgg117) rfl <| oP (P_eql (a:=x_0_state) (b:=(0:Int)) rfl rfl) rfl <| oA rfl rfl <| nT <| zah ?_
 cases h
 exact fE (res1 Tryz.results99 rfl) () (t1_ (t1_ (eD eR)))
def zco (p0:List mlegS) (s:ArrS) (rec:Nat→Option ((Unit) ⊕ Int)) (x7:Nat):Option ((Unit) ⊕ Int) :=
  if (((x7:Nat):Int) < ((p0.length:Nat):Int)) then
    Option.bind (zis ((p0.getD x7 mleg_x0).dev) ((p0.getD x7 mleg_x0).state) ((p0.getD x7 mleg_x0).copied) s) fun r9 =>
    if r9=true then
      some (.inr (((x7:Nat):Int)))
    else
      grd (inN64 (x7 + 1)) <|
      rec (x7 + 1)
  else
    some (.inl ())
def zby (p0:List mlegS) (s:ArrS):Nat→Nat→Option ((Unit) ⊕ Int)
  | 0,_=>none
  | n + 1,x7=>zco p0 s (zby p0 s n) x7
def zc5 (p0:List mlegS) (s:ArrS):Option (Int) :=
  seqO (zby p0 s FUEL 0) fun a6 =>
  some (-1:Int)
theorem zjh {W:World} {Ap0:HP} {vp0:Value} {hsp0:List IfH} {bs:Nat} {p0:List mlegS} {s:ArrS} {r:Int} (rp0:Reads Ap0 zdp vp0 (zav p0 hsp0)) (h:zc5 p0 s=some r) :
    CSpec Tryz.prog W 98 [vp0,.func (.func 99) #[] #[]] [Ap0,Rs (DevP bs) (p0.map mlegS.dev) hsp0,Arr bs s] (fun x:Unit => .int .i64 r) (fun _=>True) (fun x F=>Ap0::Rs (DevP bs) (p0.map mlegS.dev) hsp0::Arr bs s::F) := by
 refine CSpec.of_body Tryz.func98 rfl Tryz.ntmps98 rfl fun F => ?_
 show CJ _ _ _ _ _ _ (_::_::_::F)
 unfold zc5 at h
 refine za1 (zcg rp0 del0) fun hlen1=>za1 (fun h hh=>za7 (zaq (del1 (A:=Rs (DevP bs) (p0.map mlegS.dev) hsp0)).out h hh)) fun hdl2=>sR <| oA rfl rfl <| nT <| zac <| sR <| oM rfl rfl <| oV (VJ_eq (V_len rfl foc0 rp0 Tryz.runUnderlying115) (congrArg (fun z:Nat=>Value.int .i64 (z:Int)) (zai (by have := hdl2; simpa using this)).symm)) rfl <| oM rfl rfl <| nT ?_
 obtain ⟨y5,hl3,hK4⟩ := seq_e h
 refine zbv (X:=Unit) [4,5,8,9,10,11,12,13,14,15,16,17,18] (fun _=>([]:Slots)) (fun _ R=>R) (fun _=>y5 = .inl ()) Dels.nil ?_ ?_
 ·
  refine zaw <| zbd (X:=Nat × Nat) [4,5,8,9,10,11,12,13,14,15,16,17,18] (fun ⟨n,x7⟩=>([(8,.int .i64 (((x7:Nat):Int)))]:Slots)) (fun ⟨n,x7⟩ R=>R) (fun ⟨n,x7⟩=>zby p0 s n x7=some y5) (fun ⟨n,x7⟩=>n) ⟨FUEL,0⟩ ?_ ?_ eR ?_
  · exact hl3
  · exact ⟨rfl,True.intro⟩
  ·
   rintro ⟨n,x7⟩ h
   cases n with
   | zero=>exact zbq h
   | succ n => ?_
   replace h:zco p0 s (zby p0 s n) x7=some y5 := h
   unfold zco at h
   show CJ _ _ _ _ _ (([(8,.int .i64 (((x7:Nat):Int)))]:Slots) ++ forget _ _) (_)
   refine sR <| oP (P_lss (a:=((x7:Nat):Int)) (b:=((p0.length:Nat):Int)) rfl rfl) rfl <| nT <| zac <| zan rfl zab (fun hg1 => ?_) (fun hg1 => ?_)
   ·
    replace h := ite_t hg1 h
    refine kT <| zac <| zaw <| sR <| oM rfl rfl <| oA rfl rfl <| nT <| sR <| oM rfl rfl <| oM rfl rfl <| oM rfl rfl <| oV (zay (i:=x7) rfl rfl rfl (show x7 < (zav p0 hsp0).length by rw [zai (by have := hdl2; simpa using this)]; exact (by omega)) foc0 rp0 Tryz.runUnderlying115 Tryz.sizeOf129) rfl <| zbb (Ent.trans (t1_ eR) (zfk (i:=x7) (by omega))) <| oV (VJ_eq (zh1 rfl rfl (show x7 < (zav p0 hsp0).length by rw [zai (by have := hdl2; simpa using this)]; exact (by omega)) foc2 rp0 rfl rfl Tryz.isAgg129 Tryz.sizeOf129) (show Value.agg #[IfH.v (hsp0.getD x7 tyDev.dflt),.int .i64 ((p0.getD x7 mleg_x0).state),.int .i64 ((p0.getD x7 mleg_x0).copied)]=Value.agg #[IfH.v ((zav p0 hsp0).getD x7 zbz).dev,.int .i64 ((zav p0 hsp0).getD x7 zbz).state,.int .i64 ((zav p0 hsp0).getD x7 zbz).copied] from by rw [zb2 (by have := hdl2; simpa using this)])) rfl ?_
    obtain ⟨r9,hr10,h⟩ := zar h
    refine oO <| ze3 rfl rfl (zod hr10) Tryz.call99 (Dels.cons del0 (Dels.cons del2 Dels.nil)) rfl fun _ _=>nT <| zan rfl Iff.rfl (fun hg2 => ?_) (fun hg2 => ?_)
    ·
     replace h := ite_t hg2 h
     refine sR <| oM rfl rfl <| oA rfl rfl <| nT <| zah <| zau <| zad <| za9 <| zau <| zad ?_
     have hE := Option.some.inj h
     replace hE := zce hK4 hE.symm
     subst hE
     exact fE (res1 Tryz.results98 rfl) () (t3_ (t2_ (t1_ (eD eR))))
    ·
     replace h := ite_f hg2 h
     refine zbr <| zao <| zam <| zaf ?_
     obtain ⟨hg3,h⟩ := zfg h
     exact oP (PJ_eq (P_add (a:=((x7:Nat):Int)) (b:=(1:Int)) rfl rfl (zfh hg3)) rfl) rfl <| oM rfl rfl <| zap <| nR ⟨n,(x7 + 1)⟩ h ⟨rfl,True.intro⟩ (t3_ (t2_ (t1_ (eD eR))))
   ·
    replace h := ite_f hg1 h
    exact zbj <| za3 <| za2 <| za0 <| cR () (Option.some.inj h).symm True.intro eR
 ·
  rintro _ hy11
  replace h := zd0 hK4 hy11
  show CJ _ _ _ _ _ (([]:Slots) ++ forget _ _) (_)
  refine sR <| oA rfl rfl <| nT <| zah ?_
  cases h
  exact fE (res1 Tryz.results98 rfl) () eR
def zit (i:Int) (p1:Int):Option (Bool) :=
  some ((decide (i≠p1)))
theorem zoe {W:World} {bp1:Nat} {i:Int} {p1:Int} {r:Bool} (h:zit i p1=some r) :
    CSpec Tryz.prog W 100 [.int .i64 i,ptr bp1 0] [blk bp1 3 [.int .i64 p1]] (fun x:Unit => .bool r) (fun _=>True) (fun x F=>blk bp1 3 [.int .i64 p1]::F) := by
 refine CSpec.of_body Tryz.func100 rfl Tryz.ntmps100 rfl fun F => ?_
 show CJ _ _ _ _ _ _ (_::F)
 unfold zit at h
 refine sR <| oA rfl rfl <| nT <| sR <| oM rfl rfl <| oV (zag rfl foc0 rfl Tryz.isAgg3) rfl <| oP (P_neq (a:=i) (b:=p1) rfl rfl) rfl <| oA rfl rfl <| nT <| zah ?_
 cases h
 exact fE (res1 Tryz.results100 rfl) () eR
def zei (i:Int) (p1_v:MirS) (s:ArrS):Option (Int × ArrS) :=
  grd (decide (0≤i∧i < (p1_v.legs.length:Int))) <|
  Option.bind (Dvc.fl ((p1_v.legs.getD ((i).toNat) mleg_x0).dev) s) fun r8 =>
  some (r8.1,r8.2)
theorem zof {W:World} {bp1:Nat} {bp1_v:Nat} {bs:Nat} {i:Int} {p1_v:MirS} {s:ArrS} {r:Int × ArrS} (h:zei i p1_v s=some r) :
    CSpec Tryz.prog W 101 [.int .i64 i,ptr bp1 0] [blk bp1 41 [ptr bp1_v 0],MirP bs bp1_v p1_v,Arr bs s] (fun x:Unit => .int .i64 r.1) (fun _=>True) (fun x F=>blk bp1 41 [ptr bp1_v 0]::MirP bs bp1_v p1_v::Arr bs r.2::F) := by
 refine CSpec.of_body Tryz.func101 rfl Tryz.ntmps101 rfl fun F => ?_
 show CJ _ _ _ _ _ _ (_::_::_::F)
 unfold zei at h
 refine sR <| oA rfl rfl <| nT <| zac <| zax (Ent.transX (t1_ eR) (zba (l:=p1_v))) fun oc1=>za1 (fun h hh=>za7 (zaq (del2 (A:=Rs (DevP bs) (p1_v.legs.map mlegS.dev) oc1.2.1)).out h hh)) fun hdl3=>lC del1 fun hlen4 => ?_
 rw [zai (by have := hdl3; simpa using this)] at hlen4
 refine lC del4 fun hlen5=>zaf <| oV (zag rfl foc5 rfl Tryz.isAgg41) rfl <| oP (zae rfl) rfl <| oP (zaa rfl ⟨_,_,_,Tryz.runUnderlying119,rfl,rfl,Tryz.sizeOf115,rfl⟩) rfl <| oV (zag rfl foc0 rfl Tryz.isAgg115) rfl <| oM rfl rfl ?_
 obtain ⟨hg1,h⟩ := zbt h
 refine oV (zay (i:=(i).toNat) rfl rfl (Int.toNat_of_nonneg (hg1.1)).symm (show (i).toNat < (zav p1_v.legs oc1.2.1).length by rw [zai (by have := hdl3; simpa using this)]; exact (by omega)) foc1 (Reads.sl _ _ _) Tryz.runUnderlying115 Tryz.sizeOf129) rfl <| oP (zbe rfl ⟨_,_,_,Tryz.runUnderlying129,rfl,rfl,Tryz.sizeOf96,rfl⟩) rfl <| zbb (Ent.trans (t2_ eR) (zfk (i:=(i).toNat) (by omega))) <| oV (VJ_eq (za6 rfl rfl (show (i).toNat < (zav p1_v.legs oc1.2.1).length by rw [zai (by have := hdl3; simpa using this)]; exact (by omega)) foc3 (Reads.sl _ _ _) rfl rfl Tryz.isAgg96) (show (IfH.v ((oc1.2.1.getD ((i).toNat) tyDev.dflt)):Value)=IfH.v ((zav p1_v.legs oc1.2.1).getD ((i).toNat) zbz).dev from by rw [zb2 (by have := hdl3; simpa using this)])) rfl <| zcl (fun h hh=>zd3 h (zaq (del0 (A:=DevP bs ((p1_v.legs.getD ((i).toNat) mleg_x0).dev) ((oc1.2.1.getD ((i).toNat) tyDev.dflt)))).out h hh)) fun hdp7 => ?_
 obtain ⟨r8,hr9,h⟩ := zar h
 refine oO <| zc8 rfl (zk1 hr9 hdp7) rfl (Dels.cons del0 (Dels.cons del6 Dels.nil)) rfl fun _ _=>oA rfl rfl <| zap <| zas (Ent.trans (t3_ (t3_ (t2_ (t2_ (t2_ eR))))) (zbn (v0:=p1_v.legs) (v1:=p1_v.log) (v2:=p1_v.hasLog) (v3:=p1_v.logState) (v4:=p1_v.size) (v5:=p1_v.region) (v6:=p1_v.dirty) (v7:=p1_v.copied) (h0:=oc1.1) (h1:=oc1.2.1) (h2:=oc1.2.2.1) (h3:=oc1.2.2.2))) <| zam <| zah ?_
 cases h
 exact fE (res1 Tryz.results101 rfl) () (t3_ (t0_ (t1_ (eD eR))))
def zex (m:MirS) (choose_c0:Int) (rec:MirS→ArrS→Nat→Option ((MirS × ArrS) ⊕ (Int × MirS × ArrS))) (x12:MirS) (x13:ArrS) (x14:Nat):Option ((MirS × ArrS) ⊕ (Int × MirS × ArrS)) :=
  if (((x14:Nat):Int) < ((m.legs.length:Nat):Int)) then
    grd (decide (x14 < x12.legs.length)) <|
    if ((x12.legs.getD x14 mleg_x0).state=(0:Int)) then
      Option.bind (zit (((x14:Nat):Int)) choose_c0) fun r20 =>
      if r20=true then
        Option.bind (zei (((x14:Nat):Int)) x12 x13) fun r22 =>
        Option.bind (zbg x12 (((x14:Nat):Int)) r22.1 r22.2) fun r24 =>
        if (r24.1≠(0:Int)) then
          some (.inr (r24.1,r24.2,r22.2))
        else
          rec r24.2 r22.2 (x14 + 1)
      else
        rec x12 x13 (x14 + 1)
    else
      rec x12 x13 (x14 + 1)
  else
    some (.inl (x12,x13))
def zcz (m:MirS) (choose_c0:Int):Nat→MirS→ArrS→Nat→Option ((MirS × ArrS) ⊕ (Int × MirS × ArrS))
  | 0,_,_,_=>none
  | n + 1,x12,x13,x14=>zex m choose_c0 (zcz m choose_c0 n) x12 x13 x14
def zd9 (m:MirS) (choose_c0:Int) (s:ArrS):Option (Int × MirS × ArrS) :=
  seqO (zcz m choose_c0 FUEL m s 0) fun a11 =>
  Option.bind (zbi a11.1 a11.2) fun r27 =>
  some (r27,a11.1,a11.2)
theorem zju {W:World} {bm:Nat} {bchoose_c0:Nat} {bdo_2_c0:Nat} {bs:Nat} {m:MirS} {choose_c0:Int} {s:ArrS} {r:Int × MirS × ArrS} (h:zd9 m choose_c0 s=some r) :
    CSpec Tryz.prog W 61 [ptr bm 0,.func (.func 100) #[] #[ptr bchoose_c0 0],.func (.func 101) #[] #[ptr bdo_2_c0 0]] [MirP bs bm m,blk bchoose_c0 3 [.int .i64 choose_c0],blk bdo_2_c0 41 [ptr bm 0],Arr bs s] (fun x:Unit => .int .i64 r.1) (fun _=>True) (fun x F=>MirP bs bm r.2.1::blk bchoose_c0 3 [.int .i64 choose_c0]::blk bdo_2_c0 41 [ptr bm 0]::Arr bs r.2.2::F) := by
 refine CSpec.of_body Tryz.func61 rfl Tryz.ntmps61 rfl fun F => ?_
 show CJ _ _ _ _ _ _ (_::_::_::_::F)
 unfold zd9 at h
 refine sR <| oA rfl rfl <| nT <| sR <| oM rfl rfl <| oP (zb6 rfl rfl) rfl <| oA rfl rfl <| nT <| zac <| zac <| zax (Ent.transX (t0_ eR) (zba (l:=m))) fun oc1=>za1 (fun h hh=>za7 (zaq (del2 (A:=Rs (DevP bs) (m.legs.map mlegS.dev) oc1.2.1)).out h hh)) fun hdl3=>lC del1 fun hlen4 => ?_
 rw [zai (by have := hdl3; simpa using this)] at hlen4
 refine lC del4 fun hlen5=>zaf <| oM rfl rfl <| oP (zae rfl) rfl <| oP (zaa rfl ⟨_,_,_,Tryz.runUnderlying119,rfl,rfl,Tryz.sizeOf115,rfl⟩) rfl <| oV (zag rfl foc0 rfl Tryz.isAgg115) rfl <| oV (VJ_eq (V_len rfl foc1 (Reads.sl _ _ _) Tryz.runUnderlying115) (congrArg (fun z:Nat=>Value.int .i64 (z:Int)) (zai (by have := hdl3; simpa using this)).symm)) rfl <| oM rfl rfl <| zap <| zas (Ent.trans eR (zbn (v0:=m.legs) (v1:=m.log) (v2:=m.hasLog) (v3:=m.logState) (v4:=m.size) (v5:=m.region) (v6:=m.dirty) (v7:=m.copied) (h0:=oc1.1) (h1:=oc1.2.1) (h2:=oc1.2.2.1) (h3:=oc1.2.2.2))) <| zam ?_
 obtain ⟨y8,hl6,hK7⟩ := seq_e h
 refine zbv (X:=MirS × ArrS) [6,8,9,17,18,19,20,21,22,23,24,25,26,27,28,29,30,31,32,33,34,35,36,37,38,39,40,41,42,43] (fun a11=>([]:Slots)) (fun a11 R=>MirP bs bm a11.1::Arr bs a11.2::R) (fun a11=>y8 = .inl a11) (Dels.cons del0 (Dels.cons del2 Dels.nil)) ?_ ?_
 ·
  refine zaw <| zbd (X:=Nat × MirS × ArrS × Nat) [6,8,9,17,18,19,20,21,22,23,24,25,26,27,28,29,30,31,32,33,34,35,36,37,38,39,40,41,42,43] (fun ⟨n,x12,x13,x14⟩=>([(17,.int .i64 (((x14:Nat):Int)))]:Slots)) (fun ⟨n,x12,x13,x14⟩ R=>MirP bs bm x12::Arr bs x13::R) (fun ⟨n,x12,x13,x14⟩=>zcz m choose_c0 n x12 x13 x14=some y8) (fun ⟨n,x12,x13,x14⟩=>n) ⟨FUEL,m,s,0⟩ ?_ ?_ (t0_ (t2_ eR)) ?_
  · exact hl6
  · exact ⟨rfl,True.intro⟩
  ·
   rintro ⟨n,x12,x13,x14⟩ h
   cases n with
   | zero=>exact zbq h
   | succ n => ?_
   replace h:zex m choose_c0 (zcz m choose_c0 n) x12 x13 x14=some y8 := h
   unfold zex at h
   show CJ _ _ _ _ _ (([(17,.int .i64 (((x14:Nat):Int)))]:Slots) ++ forget _ _) (MirP bs bm x12::Arr bs x13::_)
   refine sR <| oP (P_lss (a:=((x14:Nat):Int)) (b:=((m.legs.length:Nat):Int)) rfl rfl) rfl <| nT <| zac <| zan rfl zab (fun hg1 => ?_) (fun hg1 => ?_)
   ·
    replace h := ite_t hg1 h
    refine kT <| zac <| zaw <| sR <| oM rfl rfl <| oA rfl rfl <| nT <| zac <| zax (Ent.transX (t0_ eR) (zba (l:=x12))) fun oc15=>za1 (fun h hh=>za7 (zaq (del2 (A:=Rs (DevP bs) (x12.legs.map mlegS.dev) oc15.2.1)).out h hh)) fun hdl17=>lC del1 fun hlen18 => ?_
    rw [zai (by have := hdl17; simpa using this)] at hlen18
    refine lC del4 fun hlen19=>zaf <| oM rfl rfl <| oP (zae rfl) rfl <| oP (zaa rfl ⟨_,_,_,Tryz.runUnderlying119,rfl,rfl,Tryz.sizeOf115,rfl⟩) rfl <| oV (zag rfl foc0 rfl Tryz.isAgg115) rfl <| oM rfl rfl ?_
    obtain ⟨hg2,h⟩ := zbt h
    refine oV (zay (i:=x14) rfl rfl rfl (show x14 < (zav x12.legs oc15.2.1).length by rw [zai (by have := hdl17; simpa using this)]; exact hg2) foc1 (Reads.sl _ _ _) Tryz.runUnderlying115 Tryz.sizeOf129) rfl <| oP (zbe rfl ⟨_,_,_,Tryz.runUnderlying129,rfl,rfl,Tryz.sizeOf117,rfl⟩) rfl <| oV (VJ_eq (za6 rfl rfl (show x14 < (zav x12.legs oc15.2.1).length by rw [zai (by have := hdl17; simpa using this)]; exact hg2) foc1 (Reads.sl _ _ _) rfl rfl Tryz.isAgg117) (show (.int .i64 ((x12.legs.getD x14 mleg_x0).state):Value) = .int .i64 ((zav x12.legs oc15.2.1).getD x14 zbz).state from by rw [zb2 (by have := hdl17; simpa using this)])) rfl <| oP (P_eql (a:=(x12.legs.getD x14 mleg_x0).state) (b:=(0:Int)) rfl rfl) rfl <| oM rfl rfl <| zb7 29 rfl zab (fun hg3B hg3 => ?_) (fun hg3B hg3 => ?_)
    ·
     replace h := ite_t hg3 h
     refine gP (zal rfl rfl rfl hg3B) (zaj rfl) rfl <| gP (zal rfl rfl rfl hg3B) (zaj rfl) rfl ?_
     obtain ⟨r20,hr21,h⟩ := zar h
     refine RJ_gy (zal rfl rfl rfl hg3B) <| ze3 rfl rfl (zoe hr21) Tryz.call100 (Dels.cons del6 Dels.nil) rfl fun _ _=>oP (zbh rfl hg3B rfl) rfl <| zap <| zas (Ent.trans (t1_ (t1_ (t1_ (t1_ (t1_ eR))))) (zbn (v0:=x12.legs) (v1:=x12.log) (v2:=x12.hasLog) (v3:=x12.logState) (v4:=x12.size) (v5:=x12.region) (v6:=x12.dirty) (v7:=x12.copied) (h0:=oc15.1) (h1:=oc15.2.1) (h2:=oc15.2.2.1) (h3:=oc15.2.2.2))) <| zam <| zan rfl Iff.rfl (fun hg4 => ?_) (fun hg4 => ?_)
     ·
      replace h := ite_t hg4 h
      refine sR <| oM rfl rfl <| oM rfl rfl <| oM rfl rfl <| oM rfl rfl ?_
      obtain ⟨r22,hr23,h⟩ := zar h
      refine oO <| ze3 rfl rfl (zof hr23) Tryz.call101 (Dels.cons del3 (Dels.cons del0 (Dels.cons del1 Dels.nil))) rfl fun _ _ => ?_
      obtain ⟨r24,hr25,h⟩ := zar h
      refine oO <| ze3 rfl rfl (zee hr25) Tryz.call76 (Dels.cons del1 (Dels.cons del1 Dels.nil)) rfl fun _ _=>oA rfl rfl <| nT <| sR <| oM rfl rfl <| oP (P_neq (a:=r24.1) (b:=(0:Int)) rfl rfl) rfl <| nT <| zan rfl zab (fun hg5 => ?_) (fun hg5 => ?_)
      ·
       replace h := ite_t hg5 h
       refine sR <| oM rfl rfl <| oA rfl rfl <| nT <| zah <| zau <| zad <| za9 <| zau <| zad ?_
       have hE := Option.some.inj h
       replace hE := zce hK7 hE.symm
       subst hE
       exact fE (res1 Tryz.results61 rfl) () (t0_ (t2_ (t1_ eR)))
      ·
       replace h := ite_f hg5 h
       exact zbr <| zao <| zam <| zaf <| oP (PJ_eq (P_add (a:=((x14:Nat):Int)) (b:=(1:Int)) rfl rfl (by omega)) rfl) rfl <| oM rfl rfl <| zap <| nR ⟨n,r24.2,r22.2,(x14 + 1)⟩ h ⟨rfl,True.intro⟩ (t0_ (t0_ (t1_ eR)))
     ·
      replace h := ite_f hg4 h
      exact zbr <| zao <| zam <| zaf <| oP (PJ_eq (P_add (a:=((x14:Nat):Int)) (b:=(1:Int)) rfl rfl (by omega)) rfl) rfl <| oM rfl rfl <| zap <| nR ⟨n,x12,x13,(x14 + 1)⟩ h ⟨rfl,True.intro⟩ (t0_ (t1_ eR))
    ·
     replace h := ite_f hg3 h
     exact RJ_gn (GY_no rfl rfl rfl hg3B) rfl rfl <| RJ_gn (GY_no rfl rfl rfl hg3B) rfl rfl <| RJ_gn (GY_no rfl rfl rfl hg3B) rfl rfl <| oP (za8 rfl hg3B rfl) rfl <| zap <| zas (Ent.trans eR (zbn (v0:=x12.legs) (v1:=x12.log) (v2:=x12.hasLog) (v3:=x12.logState) (v4:=x12.size) (v5:=x12.region) (v6:=x12.dirty) (v7:=x12.copied) (h0:=oc15.1) (h1:=oc15.2.1) (h2:=oc15.2.2.1) (h3:=oc15.2.2.2))) <| zam <| zgh rfl rfl <| zbr <| zao <| zam <| zaf <| oP (PJ_eq (P_add (a:=((x14:Nat):Int)) (b:=(1:Int)) rfl rfl (by omega)) rfl) rfl <| oM rfl rfl <| zap <| nR ⟨n,x12,x13,(x14 + 1)⟩ h ⟨rfl,True.intro⟩ eR
   ·
    replace h := ite_f hg1 h
    exact zbj <| za3 <| za2 <| za0 <| cR (x12,x13) (Option.some.inj h).symm True.intro eR
 ·
  rintro a11 hy26
  replace h := zd0 hK7 hy26
  show CJ _ _ _ _ _ (([]:Slots) ++ forget _ _) (MirP bs bm a11.1::Arr bs a11.2::_)
  refine sR <| oM rfl rfl ?_
  obtain ⟨r27,hr28,h⟩ := zar h
  refine oO <| zat (zc4 hr28) rfl Tryz.call58 (Dels.cons del0 (Dels.cons del0 Dels.nil)) rfl fun _ _=>oA rfl rfl <| nT <| zah ?_
  cases h
  exact fE (res1 Tryz.results61 rfl) () (t0_ (t1_ (t1_ eR)))
def zh7 (m:MirS) (s:ArrS):Option (Int × MirS × ArrS) :=
  Option.bind (zc5 m.legs s) fun r7 =>
  Option.bind (zd9 m r7 s) fun r10 =>
  some (r10.1,r10.2.1,r10.2.2)
theorem zo8 {W:World} {bm:Nat} {bs:Nat} {m:MirS} {s:ArrS} {r:Int × MirS × ArrS} (h:zh7 m s=some r) :
    CSpec Tryz.prog W 64 [ptr bm 0] [MirP bs bm m,Arr bs s] (fun x:Unit => .int .i64 r.1) (fun _=>True) (fun x F=>MirP bs bm r.2.1::Arr bs r.2.2::F) := by
 refine CSpec.of_body Tryz.func64 rfl Tryz.ntmps64 rfl fun F => ?_
 show CJ _ _ _ _ _ _ (_::_::F)
 unfold zh7 at h
 refine sR <| oO <| O_box rfl rfl rfl fun b1=>oA rfl rfl <| nT <| zac <| zax (Ent.transX (t1_ eR) (zba (l:=m))) fun oc2=>za1 (fun h hh=>za7 (zaq (del2 (A:=Rs (DevP bs) (m.legs.map mlegS.dev) oc2.2.1)).out h hh)) fun hdl4=>lC del1 fun hlen5 => ?_
 rw [zai (by have := hdl4; simpa using this)] at hlen5
 refine lC del4 fun hlen6=>zaf <| oV (zag rfl foc5 rfl Tryz.isAgg41) rfl <| oP (zae rfl) rfl <| oP (zaa rfl ⟨_,_,_,Tryz.runUnderlying119,rfl,rfl,Tryz.sizeOf115,rfl⟩) rfl <| oV (zag rfl foc0 rfl Tryz.isAgg115) rfl ?_
 obtain ⟨r7,hr8,h⟩ := zar h
 refine oO <| zat (zjh (Reads.sl _ _ _) hr8) rfl Tryz.call98 (Dels.cons del1 (Dels.cons del1 (Dels.cons del4 Dels.nil))) rfl fun _ _=>oO <| zes Tryz.zeroValue3 rfl rfl fun b9=>oO <| zbu rfl rfl foc0 rfl rfl Tryz.sizeOf3 <| zap <| zas (Ent.trans (t4_ (t1_ (t1_ (t2_ (t2_ eR))))) (zbn (v0:=m.legs) (v1:=m.log) (v2:=m.hasLog) (v3:=m.logState) (v4:=m.size) (v5:=m.region) (v6:=m.dirty) (v7:=m.copied) (h0:=oc2.1) (h1:=oc2.2.1) (h2:=oc2.2.2.1) (h3:=oc2.2.2.2))) <| zam <| sR <| oV (zag rfl foc3 rfl Tryz.isAgg41) rfl <| oP (zb6 rfl rfl) rfl <| oP (zb6 rfl rfl) rfl ?_
 obtain ⟨r10,hr11,h⟩ := zar h
 refine oO <| zat (zju hr11) rfl Tryz.call61 (Dels.cons del0 (Dels.cons del0 (Dels.cons del1 (Dels.cons del0 Dels.nil)))) rfl fun _ _=>oA rfl rfl <| nT <| zah ?_
 cases h
 exact fE (res1 Tryz.results64 rfl) () (t0_ (t2_ (eD (eD eR))))
def zgq (r4:(List Int)) (x17:Nat) (rec:MirS→ArrS→Int→Int→Option ((Int × MirS × ArrS) ⊕ ((MirS × ArrS) ⊕ (Int × Int × MirS × ArrS)))) (x26:MirS) (x27:ArrS) (x28:Int) (x29:Int):Option ((Int × MirS × ArrS) ⊕ ((MirS × ArrS) ⊕ (Int × Int × MirS × ArrS))) :=
  Option.bind (zic x26 (r4.getD x17 0) x27) fun r31 =>
  if (x29 < r31) then
    if (x28=(0:Int)) then
      some (.inr (.inl (x26,x27)))
    else
      grd (inI64 ((x28 - (1:Int)))) <|
      Option.bind (zeq x26 x29 x27) fun r33 =>
      Option.bind ((
        if (r33.2.2.2.1=(0:Int)) then
          Option.bind (zda r33.2.2.2.2 r33.2.1 x29 r33.1 x27) fun r46 =>
          some (r46.1,r46.2.1,r46.2.2)
        else
          some (r33.2.2.2.1,r33.2.2.2.2,x27):Option (Int × MirS × ArrS))) fun a45 =>
      if (a45.1≠(0:Int)) then
        some (.inr (.inr (((0:Int),a45.1,a45.2.1,a45.2.2))))
      else
        grd (inI64 ((a45.2.1.copied + (1:Int)))) <|
        grd (inI64 ((x29 + (1:Int)))) <|
        rec ({ a45.2.1 with copied := (a45.2.1.copied + (1:Int)) }) a45.2.2 ((x28 - (1:Int))) ((x29 + (1:Int)))
  else
    some (.inl (x28,x26,x27))
def zed (r4:(List Int)) (x17:Nat):Nat→MirS→ArrS→Int→Int→Option ((Int × MirS × ArrS) ⊕ ((MirS × ArrS) ⊕ (Int × Int × MirS × ArrS)))
  | 0,_,_,_,_=>none
  | n + 1,x26,x27,x28,x29=>zgq r4 x17 (zed r4 x17 n) x26 x27 x28 x29
def zgr (r4:(List Int)) (rec:MirS→ArrS→Int→Nat→Option ((MirS × ArrS) ⊕ (Int × Int × MirS × ArrS))) (x14:MirS) (x15:ArrS) (x16:Int) (x17:Nat):Option ((MirS × ArrS) ⊕ (Int × Int × MirS × ArrS)) :=
  if (((x17:Nat):Int) < ((r4.length:Nat):Int)) then
    grd (inI64 (((r4.getD x17 0) * x14.region))) <|
    grd (inI64 ((((r4.getD x17 0) * x14.region) + x14.copied))) <|
    seqO (zed r4 x17 FUEL x14 x15 x16 ((((r4.getD x17 0) * x14.region) + x14.copied))) fun a25 =>
    Option.bind (zh7 a25.2.1 a25.2.2) fun r56 =>
    if (r56.1≠(0:Int)) then
      some (.inr (((0:Int),r56.1,r56.2.1,r56.2.2)))
    else
      grd (decide (0≤(r4.getD x17 0)∧(r4.getD x17 0) < (r56.2.1.dirty.length:Int))) <|
      grd (inN64 (x17 + 1)) <|
      rec ({ r56.2.1 with dirty := (r56.2.1.dirty.set (((r4.getD x17 0)).toNat) false),copied := (0:Int) }) r56.2.2 a25.1 (x17 + 1)
  else
    some (.inl (x14,x15))
def ze2 (r4:(List Int)):Nat→MirS→ArrS→Int→Nat→Option ((MirS × ArrS) ⊕ (Int × Int × MirS × ArrS))
  | 0,_,_,_,_=>none
  | n + 1,x14,x15,x16,x17=>zgr r4 (ze2 r4 n) x14 x15 x16 x17
def zf5 (m:MirS) (n_1:Int) (s:ArrS):Option (Int × Int × MirS × ArrS) :=
  if (n_1 < (0:Int)) then
    some (((0:Int),(1:Int),m,s))
  else
    Option.bind (zbi m s) fun r2 =>
    if (r2≠(0:Int)) then
      some (((0:Int),r2,m,s))
    else
      Option.bind (zep m s) fun r4 =>
      seqO (ze2 r4 FUEL m s n_1 0) fun a13 =>
      Option.bind (ziw a13.1 a13.2) fun r64 =>
      some ((r64,(0:Int),a13.1,a13.2))
theorem zlr {W:World} {bm:Nat} {bs:Nat} {m:MirS} {n_1:Int} {s:ArrS} {r:Int × Int × MirS × ArrS} (h:zf5 m n_1 s=some r) :
    CSpec Tryz.prog W 27 [ptr bm 0,.int .i64 n_1] [MirP bs bm m,Arr bs s] (fun x:Unit => .tuple #[.int .i64 r.1,.int .i64 r.2.1]) (fun _=>True) (fun x F=>MirP bs bm r.2.2.1::Arr bs r.2.2.2::F) := by
 refine CSpec.of_body Tryz.func27 rfl Tryz.ntmps27 rfl fun F => ?_
 show CJ _ _ _ _ _ _ (_::_::F)
 unfold zf5 at h
 refine sR <| oO <| O_box rfl rfl rfl fun b1=>oA rfl rfl <| oA rfl rfl <| nT <| z1x <| zac <| sR <| oM rfl rfl <| oP (P_lss (a:=n_1) (b:=(0:Int)) rfl rfl) rfl <| nT <| zan rfl zab (fun hg1 => ?_) (fun hg1 => ?_)
 ·
  replace h := ite_t hg1 h
  refine sR <| oA rfl rfl <| oA rfl rfl <| nT <| zah <| zad <| zky ?_
  cases h
  exact fE (res2 Tryz.results27 rfl rfl) () (t1_ (t1_ (eD eR)))
 ·
  replace h := ite_f hg1 h
  refine kT <| zac <| sR <| oV (zag rfl foc0 rfl Tryz.isAgg41) rfl ?_
  obtain ⟨r2,hr3,h⟩ := zar h
  refine oO <| zat (zc4 hr3) rfl Tryz.call58 (Dels.cons del1 (Dels.cons del1 Dels.nil)) rfl fun _ _=>oA rfl rfl <| nT <| sR <| oM rfl rfl <| oP (P_neq (a:=r2) (b:=(0:Int)) rfl rfl) rfl <| nT <| zan rfl zab (fun hg2 => ?_) (fun hg2 => ?_)
  ·
   replace h := ite_t hg2 h
   refine sR <| oM rfl rfl <| oA rfl rfl <| oA rfl rfl <| nT <| zah <| zad <| zky ?_
   cases h
   exact fE (res2 Tryz.results27 rfl rfl) () (t0_ (t0_ (eD eR)))
  ·
   replace h := ite_f hg2 h
   refine kT <| zac <| z1m <| zam <| zac <| sR <| oV (zag rfl foc2 rfl Tryz.isAgg41) rfl ?_
   obtain ⟨r4,hr5,h⟩ := zar h
   refine oO <| zat (zhy hr5) rfl Tryz.call22 (Dels.cons del0 (Dels.cons del0 Dels.nil)) rfl fun X6 _=>oV (V_len rfl foc2 (Reads.sl _ _ _) Tryz.runUnderlying45) rfl <| oM rfl rfl <| nT ?_
   obtain ⟨y10,hl8,hK9⟩ := seq_e h
   refine zbv (X:=MirS × ArrS) [1,4,5,8,9,10,11,12,13,14,25,26,27,28,29,30,31,32,33,34,35,36,37,38,39,40,41,42,43,44,45,46,47,48,49,50,51,52,53,54,55,56,57,58,59,60,61,62,63,64,65,66,67,68,69,70,71,72,73,74,75,76,77,78,79,80,81,82,83,84,85,86,87,88,89,90] (fun a13=>([]:Slots)) (fun a13 R=>MirP bs bm a13.1::Arr bs a13.2::R) (fun a13=>y10 = .inl a13) (Dels.cons del0 (Dels.cons del0 Dels.nil)) ?_ ?_
   ·
    refine zaw <| zbd (X:=Nat × MirS × ArrS × Int × Nat) [1,4,5,8,9,10,11,12,13,14,25,26,27,28,29,30,31,32,33,34,35,36,37,38,39,40,41,42,43,44,45,46,47,48,49,50,51,52,53,54,55,56,57,58,59,60,61,62,63,64,65,66,67,68,69,70,71,72,73,74,75,76,77,78,79,80,81,82,83,84,85,86,87,88,89,90] (fun ⟨n,x14,x15,x16,x17⟩=>([(1,.int .i64 x16),(25,.int .i64 (((x17:Nat):Int)))]:Slots)) (fun ⟨n,x14,x15,x16,x17⟩ R=>MirP bs bm x14::Arr bs x15::R) (fun ⟨n,x14,x15,x16,x17⟩=>ze2 r4 n x14 x15 x16 x17=some y10) (fun ⟨n,x14,x15,x16,x17⟩=>n) ⟨FUEL,m,s,n_1,0⟩ ?_ ?_ eR ?_
    · exact hl8
    · exact ⟨rfl,rfl,True.intro⟩
    ·
     rintro ⟨n,x14,x15,x16,x17⟩ h
     cases n with
     | zero=>exact zbq h
     | succ n => ?_
     replace h:zgr r4 (ze2 r4 n) x14 x15 x16 x17=some y10 := h
     unfold zgr at h
     show CJ _ _ _ _ _ (([(1,.int .i64 x16),(25,.int .i64 (((x17:Nat):Int)))]:Slots) ++ forget _ _) (MirP bs bm x14::Arr bs x15::_)
     refine sR <| oP (P_lss (a:=((x17:Nat):Int)) (b:=((r4.length:Nat):Int)) rfl rfl) rfl <| nT <| zac <| zan rfl zab (fun hg3 => ?_) (fun hg3 => ?_)
     ·
      replace h := ite_t hg3 h
      refine kT <| zac <| zaw <| sR <| oV (zay (i:=x17) rfl rfl rfl (by omega) foc2 (Reads.sl _ _ _) Tryz.runUnderlying45 Tryz.sizeOf3) rfl <| oV (za6 rfl rfl (by omega) foc2 (Reads.sl _ _ _) rfl rfl Tryz.isAgg3) rfl <| oA rfl rfl <| nT <| zac <| zac <| zbc 4096 (by kernel_rfl) rfl <| aN 0 1 rfl rfl (zaj rfl) rfl <| aV 1 3 rfl rfl (zak rfl) eR (zag rfl foc3 rfl Tryz.isAgg41) rfl <| aN 2 7 rfl rfl (zae rfl) rfl <| aN 3 15 rfl rfl (zaa rfl ⟨_,_,_,Tryz.runUnderlying119,rfl,rfl,Tryz.sizeOf3,rfl⟩) rfl <| aV 4 31 rfl rfl (zak rfl) eR (zil (Ent.transX (t0_ eR) (zba (l:=x14))) (fun _=>zag rfl foc0 rfl Tryz.isAgg3)) rfl ?_
      obtain ⟨hg4,h⟩ := zd7 h
      refine aN 5 63 rfl rfl (P_mul (a:=(r4.getD x17 0)) (b:=x14.region) rfl rfl hg4) rfl <| aV 6 127 rfl rfl (zak rfl) eR (zag rfl foc3 rfl Tryz.isAgg41) rfl <| aN 7 255 rfl rfl (zae rfl) rfl <| aN 8 511 rfl rfl (zaa rfl ⟨_,_,_,Tryz.runUnderlying119,rfl,rfl,Tryz.sizeOf3,rfl⟩) rfl <| aV 9 1023 rfl rfl (zak rfl) eR (zil (Ent.transX (t0_ eR) (zba (l:=x14))) (fun _=>zag rfl foc0 rfl Tryz.isAgg3)) rfl ?_
      obtain ⟨hg5,h⟩ := zd7 h
      refine aN 10 2047 rfl rfl (P_add (a:=((r4.getD x17 0) * x14.region)) (b:=x14.copied) rfl rfl hg5) rfl <| AJ_op 11 4095 rfl (by kernel_rfl) rfl (zak rfl) <| zes Tryz.zeroValue3 rfl rfl fun b18=>⟨fun _=>(t1_ (t1_ (t1_ (t1_ (eD eR))))),?_⟩
      refine AJ_op 12 8191 rfl (by kernel_rfl) rfl (zak rfl) <| zbu rfl rfl foc0 rfl rfl Tryz.sizeOf3 <| ⟨fun h=>absurd h (by decide),?_⟩
      refine aD ?_
      obtain ⟨y21,hl19,hK20⟩ := seq_e h
      refine zbv (X:=Int × MirS × ArrS) [1,4,5,9,10,11,12,13,40,41,42,43,44,45,46,47,48,49,50,51,52,53,54,55,56,57,58,59,60,61,62,63,64,65,66,67,68,69,70,71,72,73,74,75] (fun a25=>([(1,.int .i64 a25.1)]:Slots)) (fun a25 R=>MirP bs bm a25.2.1::Arr bs a25.2.2::R) (fun a25=>y21 = .inl a25) (Dels.cons del1 (Dels.cons del1 (Dels.cons del0 Dels.nil))) ?_ ?_
      ·
       refine zaw <| zbd (X:=Nat × MirS × ArrS × Int × Int × Nat) [1,4,5,9,10,11,12,13,40,41,42,43,44,45,46,47,48,49,50,51,52,53,54,55,56,57,58,59,60,61,62,63,64,65,66,67,68,69,70,71,72,73,74,75] (fun ⟨n,x26,x27,x28,x29,pb30⟩=>([(1,.int .i64 x28),(9,ptr pb30 0)]:Slots)) (fun ⟨n,x26,x27,x28,x29,pb30⟩ R=>MirP bs bm x26::Arr bs x27::blk pb30 3 [.int .i64 x29]::R) (fun ⟨n,x26,x27,x28,x29,pb30⟩=>zed r4 x17 n x26 x27 x28 x29=some y21) (fun ⟨n,x26,x27,x28,x29,pb30⟩=>n) ⟨FUEL,x14,x15,x16,(((r4.getD x17 0) * x14.region) + x14.copied),b18⟩ ?_ ?_ (t1_ (t1_ eR)) ?_
       · exact hl19
       · exact ⟨rfl,rfl,True.intro⟩
       ·
        rintro ⟨n,x26,x27,x28,x29,pb30⟩ h
        cases n with
        | zero=>exact zbq h
        | succ n => ?_
        replace h:zgq r4 x17 (zed r4 x17 n) x26 x27 x28 x29=some y21 := h
        unfold zgq at h
        show CJ _ _ _ _ _ (([(1,.int .i64 x28),(9,ptr pb30 0)]:Slots) ++ forget _ _) (MirP bs bm x26::Arr bs x27::blk pb30 3 [.int .i64 x29]::_)
        refine zac <| zac <| zbc 0 (by kernel_rfl) rfl <| aV 0 1 rfl rfl (zak rfl) eR (zag rfl foc2 rfl Tryz.isAgg3) rfl <| aV 1 3 rfl rfl (zak rfl) eR (zag rfl foc4 rfl Tryz.isAgg41) rfl <| aN 2 7 rfl rfl (zaj rfl) rfl ?_
        obtain ⟨r31,hr32,h⟩ := zar h
        refine AJ_op 3 15 rfl (by kernel_rfl) rfl (zak rfl) <| zat (zms hr32) rfl Tryz.call59 (Dels.cons del0 (Dels.cons del0 Dels.nil)) rfl fun _ _=>⟨fun _=>eR,?_⟩
        refine aN 4 31 rfl rfl (P_lss (a:=x29) (b:=r31) rfl rfl) rfl <| aD <| zan rfl zab (fun hg6 => ?_) (fun hg6 => ?_)
        ·
         replace h := ite_t hg6 h
         refine kT <| zac <| zaw <| zac <| sR <| oM rfl rfl <| oP (P_eql (a:=x28) (b:=(0:Int)) rfl rfl) rfl <| nT <| zan rfl zab (fun hg7 => ?_) (fun hg7 => ?_)
         ·
          replace h := ite_t hg7 h
          refine zbj <| za3 <| zla rfl <| za3 <| za2 <| zla rfl <| za3 <| zla rfl <| za3 <| za2 <| za0 ?_
          have hE := Option.some.inj h
          replace hE := zce hK20 hE.symm
          exact cR (x26,x27) hE.symm True.intro (t0_ (t0_ (t1_ (t1_ (eD eR)))))
         ·
          replace h := ite_f hg7 h
          refine kT <| sR <| oM rfl rfl ?_
          obtain ⟨hg8,h⟩ := zd7 h
          refine oP (P_sub (a:=x28) (b:=(1:Int)) rfl rfl hg8) rfl <| oA rfl rfl <| nT <| sR <| oV (zag rfl foc4 rfl Tryz.isAgg41) rfl <| oV (zag rfl foc2 rfl Tryz.isAgg3) rfl ?_
          obtain ⟨r33,hr34,h⟩ := zar h
          refine oO <| zat (zpj hr34) rfl Tryz.call60 (Dels.cons del0 (Dels.cons del0 Dels.nil)) rfl fun X35 _=>oM rfl rfl <| oP (za4 rfl rfl) rfl <| oP (za4 rfl rfl) rfl <| oP (za4 (v:=X35.v) rfl rfl) rfl <| oP (za4 rfl rfl) rfl <| oO <| zes Tryz.zeroValue23 rfl rfl fun b37=>oO <| zes Tryz.zeroValue3 rfl rfl fun b38=>oO <| zbu rfl rfl foc1 rfl rfl Tryz.sizeOf23 <| oO <| zbu rfl rfl foc0 rfl rfl Tryz.sizeOf3 <| oA rfl rfl <| oA rfl rfl <| zap <| zas (t0_ (t0_ (t0_ (t0_ (t1_ (t1_ (t1_ (eD eR)))))))) <| zam <| zac <| sR <| oM rfl rfl <| oP (P_eql (a:=r33.2.2.2.1) (b:=(0:Int)) rfl rfl) rfl <| nT ?_
          obtain ⟨y41,hl39,hK40⟩ := zfw h
          refine zbv (X:=Int × MirS × ArrS) [13,61,62,63,64] (fun a45=>([(13,.int .i64 a45.1)]:Slots)) (fun a45 R=>MirP bs bm a45.2.1::Arr bs a45.2.2::R) (fun a45=>y41=a45) (Dels.cons del2 (Dels.cons del2 Dels.nil)) ?_ ?_
          ·
           have h := hl39
           refine zan rfl zab (fun hg9 => ?_) (fun hg9 => ?_)
           ·
            replace h := ite_t hg9 h
            refine zaf <| oV (zag rfl foc6 rfl Tryz.isAgg41) rfl <| oP (zb6 rfl rfl) rfl <| oP (zb6 rfl rfl) rfl ?_
            obtain ⟨r46,hr47,h⟩ := zar h
            exact oO <| zat (zjt hr47) rfl Tryz.call61 (Dels.cons del2 (Dels.cons del0 (Dels.cons del4 (Dels.cons del2 (Dels.cons del0 (Dels.cons del0 Dels.nil)))))) rfl fun _ _=>oA rfl rfl <| zap <| cR (r46.1,r46.2.1,r46.2.2) (Option.some.inj h).symm ⟨rfl,True.intro⟩ (t0_ (t4_ (t0_ (t2_ (t1_ (t1_ eR))))))
           ·
            replace h := ite_f hg9 h
            exact zbr <| cR (r33.2.2.2.1,r33.2.2.2.2,x27) (Option.some.inj h).symm ⟨rfl,True.intro⟩ (t2_ (t2_ eR))
          ·
           rintro a45 hy48
           replace h := zd2 hK40 hy48
           show CJ _ _ _ _ _ (([(13,.int .i64 a45.1)]:Slots) ++ forget _ _) (MirP bs bm a45.2.1::Arr bs a45.2.2::_)
           refine zac <| sR <| oM rfl rfl <| oP (P_neq (a:=a45.1) (b:=(0:Int)) rfl rfl) rfl <| zap <| zas (t0_ (t0_ (t2_ (t2_ (t2_ (eD (eD eR))))))) <| zam <| zan rfl zab (fun hg10 => ?_) (fun hg10 => ?_)
           ·
            replace h := ite_t hg10 h
            refine sR <| oM rfl rfl <| oA rfl rfl <| oA rfl rfl <| nT <| zah <| zad <| zau <| zad <| za9 <| zau <| zad <| zau <| zad <| za9 <| zau <| zad <| zky ?_
            have hE := Option.some.inj h
            replace hE := zce hK20 hE.symm
            replace hE := zce hK9 hE.symm
            subst hE
            exact fE (res2 Tryz.results27 rfl rfl) () (t0_ (t0_ (eD (eD (eD eR)))))
           ·
            replace h := ite_f hg10 h
            refine kT <| zax (Ent.transX (t0_ eR) (zba (l:=a45.2.1))) fun oc49=>za1 (fun h hh=>za7 (zaq (del2 (A:=Rs (DevP bs) (a45.2.1.legs.map mlegS.dev) oc49.2.1)).out h hh)) fun hdl51=>lC del1 fun hlen52 => ?_
            rw [zai (by have := hdl51; simpa using this)] at hlen52
            refine lC del4 fun hlen53=>zaf <| oV (zag rfl foc8 rfl Tryz.isAgg41) rfl <| oP (zae rfl) rfl <| oP (zaa rfl ⟨_,_,_,Tryz.runUnderlying119,rfl,rfl,Tryz.sizeOf3,rfl⟩) rfl <| oV (zag rfl foc0 rfl Tryz.isAgg3) rfl ?_
            obtain ⟨hg11,h⟩ := zd7 h
            refine oP (P_add (a:=a45.2.1.copied) (b:=(1:Int)) rfl rfl hg11) rfl <| oP (zae rfl) rfl <| oP (zaa rfl ⟨_,_,_,Tryz.runUnderlying119,rfl,rfl,Tryz.sizeOf3,rfl⟩) rfl <| oO <| zbu rfl rfl foc0 rfl rfl Tryz.sizeOf3 <| zap <| zas (Ent.trans eR (zbn (v0:=a45.2.1.legs) (v1:=a45.2.1.log) (v2:=a45.2.1.hasLog) (v3:=a45.2.1.logState) (v4:=a45.2.1.size) (v5:=a45.2.1.region) (v6:=a45.2.1.dirty) (v7:=(a45.2.1.copied + (1:Int))) (h0:=oc49.1) (h1:=oc49.2.1) (h2:=oc49.2.2.1) (h3:=oc49.2.2.2))) <| zao <| zam <| zac <| sR <| oV (zag rfl foc2 rfl Tryz.isAgg3) rfl <| nT <| zaf <| oO <| zes Tryz.zeroValue3 rfl rfl fun b54=>oO <| zbu rfl rfl foc0 rfl rfl Tryz.sizeOf3 <| nT <| zaf <| oV (zag rfl foc0 rfl Tryz.isAgg3) rfl ?_
            obtain ⟨hg12,h⟩ := zd7 h
            exact oP (P_add (a:=x29) (b:=(1:Int)) rfl rfl hg12) rfl <| oO <| zbu rfl rfl foc0 rfl rfl Tryz.sizeOf3 <| zap <| nR ⟨n, { a45.2.1 with copied := (a45.2.1.copied + (1:Int)) },a45.2.2,(x28 - (1:Int)),(x29 + (1:Int)),b54⟩ h ⟨rfl,rfl,True.intro⟩ (t1_ (t1_ (t0_ (t1_ (t1_ (eD eR))))))
        ·
         replace h := ite_f hg6 h
         exact zbj <| za3 <| za2 <| za0 <| cR (x28,x26,x27) (Option.some.inj h).symm ⟨rfl,True.intro⟩ (t0_ (t0_ (t1_ (t1_ (eD eR)))))
      ·
       rintro a25 hy55
       replace h := zd0 hK20 hy55
       show CJ _ _ _ _ _ (([(1,.int .i64 a25.1)]:Slots) ++ forget _ _) (MirP bs bm a25.2.1::Arr bs a25.2.2::_)
       refine zac <| sR <| oV (zag rfl foc3 rfl Tryz.isAgg41) rfl ?_
       obtain ⟨r56,hr57,h⟩ := zar h
       refine oO <| zat (zo8 hr57) rfl Tryz.call64 (Dels.cons del0 (Dels.cons del0 Dels.nil)) rfl fun _ _=>oA rfl rfl <| nT <| sR <| oM rfl rfl <| oP (P_neq (a:=r56.1) (b:=(0:Int)) rfl rfl) rfl <| nT <| zan rfl zab (fun hg13 => ?_) (fun hg13 => ?_)
       ·
        replace h := ite_t hg13 h
        refine sR <| oM rfl rfl <| oA rfl rfl <| oA rfl rfl <| nT <| zah <| zad <| zau <| zad <| za9 <| zau <| zad <| zky ?_
        have hE := Option.some.inj h
        replace hE := zce hK9 hE.symm
        subst hE
        exact fE (res2 Tryz.results27 rfl rfl) () (t0_ (t0_ (eD (eD eR))))
       ·
        replace h := ite_f hg13 h
        refine kT <| zax (Ent.transX (t0_ eR) (zba (l:=r56.2.1))) fun oc58=>za1 (fun h hh=>za7 (zaq (del2 (A:=Rs (DevP bs) (r56.2.1.legs.map mlegS.dev) oc58.2.1)).out h hh)) fun hdl60=>lC del1 fun hlen61 => ?_
        rw [zai (by have := hdl60; simpa using this)] at hlen61
        refine lC del4 fun hlen62=>zn6 [blk bm 119 [(Sl3.v oc58.1),oval r56.2.1.log oc58.2.2.1,.bool r56.2.1.hasLog,.int .i64 r56.2.1.logState,.int .i64 r56.2.1.size,.int .i64 r56.2.1.region,(Sl3.v oc58.2.2.2),.int .i64 r56.2.1.copied],sl zdp (Sl3.v oc58.1) (zav r56.2.1.legs oc58.2.1),Rs (DevP bs) (r56.2.1.legs.map mlegS.dev) oc58.2.1,optP (LogP bs oc58.2.2.1) r56.2.1.log,Arr bs r56.2.2,sl tyI X6.v r4,blk b1 41 [ptr bm 0]] 1024 (by kernel_rfl) rfl <| aV 0 1 rfl rfl (zak rfl) (t0_ (t0_ (t0_ (t0_ (t1_ (t1_ (t1_ Ent.done))))))) (zag rfl foc6 rfl Tryz.isAgg41) rfl <| aN 1 3 rfl rfl (zae rfl) rfl <| aN 2 7 rfl rfl (zaa rfl ⟨_,_,_,Tryz.runUnderlying119,rfl,rfl,Tryz.sizeOf34,rfl⟩) rfl <| aV 3 15 rfl rfl (zak rfl) (t0_ (t0_ (t0_ (t0_ (t1_ (t1_ (t1_ Ent.done))))))) (zag rfl foc0 rfl Tryz.isAgg34) rfl <| aN 4 31 rfl rfl (zaj rfl) rfl <| aV 5 63 rfl rfl (zak rfl) (t0_ (t0_ (t0_ (t0_ (t1_ (t1_ (t1_ Ent.done))))))) (zag rfl foc6 rfl Tryz.isAgg41) rfl ?_
        obtain ⟨hg14,h⟩ := zbt h
        refine AJ_op 6 127 rfl (by kernel_rfl) rfl (zak rfl) <| OJ_V (zay (i:=((r4.getD x17 0)).toNat) rfl rfl (Int.toNat_of_nonneg (hg14.1)).symm (by omega) foc4 (Reads.sl _ _ _) Tryz.runUnderlying34 Tryz.sizeOf4) rfl <| ⟨fun _=>(t0_ (t0_ (t0_ (t0_ (t1_ (t1_ (t1_ Ent.done))))))),?_⟩
        refine AJ_op 7 255 rfl (by kernel_rfl) rfl (zak rfl) <| zea (x' := false) rfl rfl rfl (by omega) foc4 rfl rfl rfl Tryz.sizeOf4 <| ⟨fun _=>(t0_ (t0_ (t0_ (t0_ (t1_ (t1_ (t1_ Ent.done))))))),?_⟩
        refine aN 8 511 rfl rfl (zae rfl) rfl <| aN 9 1023 rfl rfl (zaa rfl ⟨_,_,_,Tryz.runUnderlying119,rfl,rfl,Tryz.sizeOf3,rfl⟩) rfl <| AJ_op 10 2047 rfl (by kernel_rfl) rfl (zak rfl) <| zbu rfl rfl foc0 rfl rfl Tryz.sizeOf3 <| ⟨fun h=>absurd h (by decide),?_⟩
        refine zcd (by kernel_rfl) <| zas (Ent.trans eR (zbn (v0:=r56.2.1.legs) (v1:=r56.2.1.log) (v2:=r56.2.1.hasLog) (v3:=r56.2.1.logState) (v4:=r56.2.1.size) (v5:=r56.2.1.region) (v6:=(r56.2.1.dirty.set (((r4.getD x17 0)).toNat) false)) (v7:=(0:Int)) (h0:=oc58.1) (h1:=oc58.2.1) (h2:=oc58.2.2.1) (h3:=oc58.2.2.2))) <| zao <| zam <| zaf ?_
        obtain ⟨hg15,h⟩ := zfg h
        exact oP (PJ_eq (P_add (a:=((x17:Nat):Int)) (b:=(1:Int)) rfl rfl (zfh hg15)) rfl) rfl <| oM rfl rfl <| zap <| nR ⟨n, { r56.2.1 with dirty := (r56.2.1.dirty.set (((r4.getD x17 0)).toNat) false),copied := (0:Int) },r56.2.2,a25.1,(x17 + 1)⟩ h ⟨rfl,rfl,True.intro⟩ eR
     ·
      replace h := ite_f hg3 h
      exact zbj <| za3 <| za2 <| za0 <| cR (x14,x15) (Option.some.inj h).symm True.intro eR
   ·
    rintro a13 hy63
    replace h := zd0 hK9 hy63
    show CJ _ _ _ _ _ (([]:Slots) ++ forget _ _) (MirP bs bm a13.1::Arr bs a13.2::_)
    refine sR <| oV (zag rfl foc3 rfl Tryz.isAgg41) rfl ?_
    obtain ⟨r64,hr65,h⟩ := zar h
    refine oO <| zat (zp1 hr65) rfl Tryz.call65 (Dels.cons del0 (Dels.cons del0 Dels.nil)) rfl fun _ _=>oA rfl rfl <| oA rfl rfl <| nT <| zah <| zky ?_
    cases h
    exact fE (res2 Tryz.results27 rfl rfl) () (t0_ (t0_ (eD (eD eR))))
end Go.Proofs
