/- MirrorFills, part 7 of the proof: LX14, LX15, LX16, PMake, PSpans, PBits, PGood, PGood2, PArr, PMapD, PFls. -/
import Derived.WalkKit
import Derived.Orders
import Derived.RangeFuncLeaves
import Derived.RangeFuncCalls
import Derived.TacticsIn
import Derived.Handy
import Derived.OrdersHeld
import Derived.OrdersIn
import Derived.Below
import Derived.OpenShut
import Derived.Deep.Slices
import Derived.Scope
import Derived.KernelRfl
import Derived.RangeFuncRecord
import Derived.ChangeKeysEq
import Derived.ProofKit
import Derived.ShutString
import Derived.ChangeOld
import Derived.Test.YtcfnikegnhlghaaGreatChecked
import Derived.Test.YtcfnikegnhlghaaGreatRows
import Derived.Test.YtcfnikegnhlghaaGreatZMirrorFills6
set_option linter.unusedSimpArgs false
set_option linter.unusedVariables false
set_option maxRecDepth 20000
set_option maxHeartbeats 4000000
namespace Go.Proofs
open Go.VG
theorem zm2 {W:World} {bo:Nat} {bs:Nat} {o:OwnS} {at_1:Int} {settled:Bool} {s:ArrS} {r:Int × Bool × OwnS × ArrS} (h:zb9 o at_1 settled s=some r) :
    CSpec Tryz.prog W 50 [ptr bo 0,.int .i64 at_1,.bool settled] [OwnP bs bo o,Arr bs s] (fun x:Unit => .tuple #[.int .i64 r.1,.bool r.2.1]) (fun _=>True) (fun x F=>OwnP bs bo r.2.2.1::Arr bs r.2.2.2::F) :=
  CSpec.exq2 (R' := fun x:Unit=>[Arr bs r.2.2.2]) (fun _=>zrm) (fun _ _ _=>zrn) (fun _=>zif h)
def zdn (settled:Bool) (rec:OwnS→ArrS→Nat→Option ((OwnS × ArrS) ⊕ (Bool × OwnS × ArrS))) (x7:OwnS) (x8:ArrS) (x9:Nat):Option ((OwnS × ArrS) ⊕ (Bool × OwnS × ArrS)) :=
  if (((x9:Nat):Int) < ((x7.T.length:Nat):Int)) then
    Option.bind (zb9 x7 (((x9:Nat):Int)) settled x8) fun r16 =>
    if ((¬ r16.2.1=true)∨(r16.1≠(0:Int))) then
      some (.inr (false,r16.2.2.1,r16.2.2.2))
    else
      grd (inN64 (x9 + 1)) <|
      rec r16.2.2.1 r16.2.2.2 (x9 + 1)
  else
    some (.inl (x7,x8))
def zcf (settled:Bool):Nat→OwnS→ArrS→Nat→Option ((OwnS × ArrS) ⊕ (Bool × OwnS × ArrS))
  | 0,_,_,_=>none
  | n + 1,x7,x8,x9=>zdn settled (zcf settled n) x7 x8 x9
def zbl (o:OwnS) (settled:Bool) (s:ArrS):Option (Bool × OwnS × ArrS) :=
  seqO (zcf settled FUEL o s 0) fun a6 =>
  some (true,a6.1,a6.2)
theorem zm3 {W:World} {bo:Nat} {vlo:Nat} {bs:Nat} {o:OwnS} {settled:Bool} {s:ArrS} {r:Bool × OwnS × ArrS} (h:zbl o settled s=some r) :
    CSpec Tryz.prog W 34 [ptr bo 0,.bool settled] [OwnQ bs vlo bo o,Arr bs s] (fun x:Unit => .bool r.1) (fun _=>True) (fun x F=>OwnQ bs vlo bo r.2.1::Arr bs r.2.2::F) := by
 refine CSpec.of_body Tryz.func34 rfl Tryz.ntmps34 rfl fun F => ?_
 show CJ _ _ _ _ _ _ (_::_::F)
 unfold zbl at h
 refine sR <| oA rfl rfl <| nT <| zac <| sR <| oA rfl rfl <| nT ?_
 obtain ⟨y3,hl1,hK2⟩ := seq_e h
 refine zbv (X:=OwnS × ArrS) [4,5,6,7,8,9,10,11,12,13,14,15,16,17,18,19,20,21,22,23,24,25,26,27,28,29,30,31,32] (fun a6=>([]:Slots)) (fun a6 R=>OwnQ bs vlo bo a6.1::Arr bs a6.2::R) (fun a6=>y3 = .inl a6) (Dels.cons del0 (Dels.cons del0 Dels.nil)) ?_ ?_
 ·
  refine zaw <| zbd (X:=Nat × OwnS × ArrS × Nat) [4,5,6,7,8,9,10,11,12,13,14,15,16,17,18,19,20,21,22,23,24,25,26,27,28,29,30,31,32] (fun ⟨n,x7,x8,x9⟩=>([(5,.int .i64 (((x9:Nat):Int)))]:Slots)) (fun ⟨n,x7,x8,x9⟩ R=>OwnQ bs vlo bo x7::Arr bs x8::R) (fun ⟨n,x7,x8,x9⟩=>zcf settled n x7 x8 x9=some y3) (fun ⟨n,x7,x8,x9⟩=>n) ⟨FUEL,o,s,0⟩ ?_ ?_ eR ?_
  · exact hl1
  · exact ⟨rfl,True.intro⟩
  ·
   rintro ⟨n,x7,x8,x9⟩ h
   cases n with
   | zero=>exact zbq h
   | succ n => ?_
   replace h:zdn settled (zcf settled n) x7 x8 x9=some y3 := h
   unfold zdn at h
   show CJ _ _ _ _ _ (([(5,.int .i64 (((x9:Nat):Int)))]:Slots) ++ forget _ _) (OwnQ bs vlo bo x7::Arr bs x8::_)
   refine zac <| zac <| zax (Ent.transX (t0_ eR) (ze9 (l:=x7))) fun oc10=>lC del4 fun hlen12=>lC del5 fun hlen13=>zax (Ent.transX (t3_ eR) zi9) fun tc14=>zgl fun hS15=>zaf <| oM rfl rfl <| oM rfl rfl <| oP (zae rfl) rfl <| oP (zaa rfl ⟨_,_,_,Tryz.runUnderlying60,rfl,rfl,Tryz.sizeOf58,rfl⟩) rfl <| oV (zag rfl foc3 rfl Tryz.isAgg58) rfl <| oP (zae rfl) rfl <| oP (zaa rfl ⟨_,_,_,Tryz.runUnderlying54,rfl,rfl,Tryz.sizeOf52,rfl⟩) rfl <| oV (zag rfl foc0 rfl Tryz.isAgg52) rfl <| oV (VJ_eq (V_len rfl foc1 (Reads.sl _ _ _) Tryz.runUnderlying52) (congrArg (fun z:Nat=>Value.int .i64 (z:Int)) hS15.len.symm)) rfl <| oP (P_lss (a:=((x9:Nat):Int)) (b:=((x7.T.length:Nat):Int)) rfl rfl) rfl <| zap <| zas (Ent.trans (t0_ (t0_ (t0_ eR))) (zec hS15)) <| zas (Ent.trans (t1_ (t1_ (t1_ eR))) (zf1 (v0:=x7.Open_1) (v1:=x7.Open_2) (v2:=x7.Open_3) (v3:=x7.Open_4) (v4:=x7.X) (v5:=x7.T) (v6:=x7.Stale) (v7:=x7.Lost) (h0:=oc10.1) (h1:=oc10.2.1) (h2:=oc10.2.2.1) (h3:=oc10.2.2.2))) <| zam <| zan rfl zab (fun hg1 => ?_) (fun hg1 => ?_)
   ·
    replace h := ite_t hg1 h
    refine kT <| zac <| zaw <| sR <| oM rfl rfl <| oM rfl rfl <| oM rfl rfl ?_
    obtain ⟨r16,hr17,h⟩ := zar h
    refine oO <| zat (zif hr17) rfl Tryz.call50 (Dels.cons del0 (Dels.cons del0 Dels.nil)) rfl fun _ _=>oM rfl rfl <| oP (za4 rfl rfl) rfl <| oP (za4 rfl rfl) rfl <| oA rfl rfl <| oA rfl rfl <| nT <| sR <| oM rfl rfl <| oP (P_not rfl) rfl <| oM rfl rfl <| zaz rfl rfl rfl (fun hG18=>have hP19:¬ (¬ r16.2.1=true) := nP ((zdk Iff.rfl)) hG18; VJ_P (zaj rfl)) <| zaz rfl rfl rfl (fun hG20=>have hP21:¬ (¬ r16.2.1=true) := nP ((zdk Iff.rfl)) hG20; VJ_P (P_neq (a:=r16.1) (b:=(0:Int)) (mbx hG20 rfl) rfl)) <| oP (zcw rfl rfl (fun hh=>mbx (not_f hh) rfl)) rfl <| nT <| zan rfl (bT_or (zdk Iff.rfl) zab) (fun hg2 => ?_) (fun hg2 => ?_)
    ·
     replace h := ite_t hg2 h
     refine sR <| oA rfl rfl <| nT <| zah <| zau <| zad <| za9 <| zau <| zad ?_
     have hE := Option.some.inj h
     replace hE := zce hK2 hE.symm
     subst hE
     exact fE (res1 Tryz.results34 rfl) () eR
    ·
     replace h := ite_f hg2 h
     refine zbr <| zao <| zam <| zaf <| oM rfl rfl ?_
     obtain ⟨hg3,h⟩ := zfg h
     exact oP (PJ_eq (P_add (a:=((x9:Nat):Int)) (b:=(1:Int)) rfl rfl (zfh hg3)) rfl) rfl <| oA rfl rfl <| zap <| nR ⟨n,r16.2.2.1,r16.2.2.2,(x9 + 1)⟩ h ⟨rfl,True.intro⟩ eR
   ·
    replace h := ite_f hg1 h
    exact zbj <| za3 <| za2 <| za0 <| cR (x7,x8) (Option.some.inj h).symm True.intro eR
 ·
  rintro a6 hy22
  replace h := zd0 hK2 hy22
  show CJ _ _ _ _ _ (([]:Slots) ++ forget _ _) (OwnQ bs vlo bo a6.1::Arr bs a6.2::_)
  refine sR <| oA rfl rfl <| nT <| zah ?_
  cases h
  exact fE (res1 Tryz.results34 rfl) () eR
theorem zdh {W:World} {bo:Nat} {bs:Nat} {o:OwnS} {settled:Bool} {s:ArrS} {r:Bool × OwnS × ArrS} (h:zbl o settled s=some r) :
    CSpec Tryz.prog W 34 [ptr bo 0,.bool settled] [OwnP bs bo o,Arr bs s] (fun x:Unit => .bool r.1) (fun _=>True) (fun x F=>OwnP bs bo r.2.1::Arr bs r.2.2::F) :=
  CSpec.exq2 (R' := fun x:Unit=>[Arr bs r.2.2]) (fun _=>zrm) (fun _ _ _=>zrn) (fun _=>zm3 h)
def zbw (at_1:Int) (v:UInt64) (rec:OwnS→ArrS→Int→Nat→Option ((Int × OwnS × ArrS) ⊕ (Int × Bool × OwnS × ArrS))) (x16:OwnS) (x17:ArrS) (x18:Int) (x19:Nat):Option ((Int × OwnS × ArrS) ⊕ (Int × Bool × OwnS × ArrS)) :=
  if ((((x19:Nat):Int) < (8:Int))∧(x18=(18:Int))) then
    grd (decide (zj8 x16.T=true)) <|
    Option.bind (zc7 ({ x16 with T := (zcq x16.T at_1 v false) }) x17) fun r28 =>
    if (¬ r28.1=true) then
      some (.inr (x18,false,r28.2,x17))
    else
      Option.elim r28.2.X (
        none) fun o35 =>
      Option.bind (zer o35 at_1 v x17) fun r36 =>
      rec ({ r28.2 with X := (some r36.2.1) }) r36.2.2 r36.1 (x19 + 1)
  else
    some (.inl (x18,x16,x17))
def zbm (at_1:Int) (v:UInt64):Nat→OwnS→ArrS→Int→Nat→Option ((Int × OwnS × ArrS) ⊕ (Int × Bool × OwnS × ArrS))
  | 0,_,_,_,_=>none
  | n + 1,x16,x17,x18,x19=>zbw at_1 v (zbm at_1 v n) x16 x17 x18 x19
def zc1 (o:OwnS) (at_1:Int) (v:UInt64) (s:ArrS):Option (Int × Bool × OwnS × ArrS) :=
  Option.elim o.X (
    none) fun o6 =>
  Option.bind (zer o6 at_1 v s) fun r7 =>
  seqO (zbm at_1 v FUEL ({ o with X := (some r7.2.1) }) r7.2.2 r7.1 0) fun a15 =>
  grd (decide (zj8 a15.2.1.T=true)) <|
  some ((a15.1,((decide (a15.1=(0:Int))) || (decide (a15.1=(5:Int)))), { a15.2.1 with T := (zcq a15.2.1.T at_1 v ((decide (a15.1=(0:Int))))) },a15.2.2))
theorem zjp {W:World} {bo:Nat} {vlo:Nat} {bs:Nat} {o:OwnS} {at_1:Int} {v:UInt64} {s:ArrS} {r:Int × Bool × OwnS × ArrS} (h:zc1 o at_1 v s=some r) :
    CSpec Tryz.prog W 49 [ptr bo 0,.int .i64 at_1,.int .u64 (v.toNat:Int)] [OwnQ bs vlo bo o,Arr bs s] (fun x:Unit => .tuple #[.int .i64 r.1,.bool r.2.1]) (fun _=>True) (fun x F=>OwnQ bs vlo bo r.2.2.1::Arr bs r.2.2.2::F) := by
 refine CSpec.of_body Tryz.func49 rfl Tryz.ntmps49 rfl fun F => ?_
 show CJ _ _ _ _ _ _ (_::_::F)
 unfold zc1 at h
 refine sR <| oA rfl rfl <| oA rfl rfl <| nT <| zac <| zax (Ent.transX (t0_ eR) (ze9 (l:=o))) fun oc1=>lC del4 fun hlen3=>lC del5 fun hlen4=>zaf <| oM rfl rfl <| oP (zae rfl) rfl <| oP (zaa rfl ⟨_,_,_,Tryz.runUnderlying60,rfl,rfl,Tryz.sizeOf57,rfl⟩) rfl <| oV (zag rfl foc0 rfl Tryz.isAgg57) rfl <| oM rfl rfl <| oM rfl rfl ?_
 rcases opt_e h with ⟨ht5,h⟩ | ⟨o6,ht5,h⟩
 ·
  rw [ht5]
  exact zbb (t0_ (t0_ (t1_ (t1_ (t1_ (t1_ (eD eR))))))) <| zbq h
 ·
  rw [ht5]
  refine zbb (Ent.takeC (A' := MirP bs vlo o6) del2 rfl eR) ?_
  obtain ⟨r7,hr8,h⟩ := zar h
  refine oO <| zc8 rfl (ICall.of (fun w=>by kernel_rfl) Tryz.call136 (zl9 hr8)) rfl (Dels.cons del0 (Dels.cons del5 Dels.nil)) rfl fun _ _=>oA rfl rfl <| zap <| zas (Ent.trans (t2_ (t2_ (t0_ (t1_ (t1_ (t1_ eR)))))) (zf1 (v0:=o.Open_1) (v1:=o.Open_2) (v2:=o.Open_3) (v3:=o.Open_4) (v4:=(some r7.2.1)) (v5:=o.T) (v6:=o.Stale) (v7:=o.Lost) (h0:=oc1.1) (h1:=oc1.2.1) (h2:=oc1.2.2.1) (h3:=oc1.2.2.2))) <| zam <| zac <| sR <| oA rfl rfl <| nT ?_
  obtain ⟨y11,hl9,hK10⟩ := seq_e h
  refine zbv (X:=Int × OwnS × ArrS) [6,7,8,9,17,18,19,20,21,22,23,24,25,26,27,28,29,30,31,32,33,34,35,36,37,38,39,40,41,42] (fun a15=>([(8,.int .i64 a15.1)]:Slots)) (fun a15 R=>OwnQ bs vlo bo a15.2.1::Arr bs a15.2.2::R) (fun a15=>y11 = .inl a15) (Dels.cons del0 (Dels.cons del0 Dels.nil)) ?_ ?_
  ·
   refine zaw <| zbd (X:=Nat × OwnS × ArrS × Int × Nat) [6,7,8,9,17,18,19,20,21,22,23,24,25,26,27,28,29,30,31,32,33,34,35,36,37,38,39,40,41,42] (fun ⟨n,x16,x17,x18,x19⟩=>([(8,.int .i64 x18),(9,.int .i64 (((x19:Nat):Int)))]:Slots)) (fun ⟨n,x16,x17,x18,x19⟩ R=>OwnQ bs vlo bo x16::Arr bs x17::R) (fun ⟨n,x16,x17,x18,x19⟩=>zbm at_1 v n x16 x17 x18 x19=some y11) (fun ⟨n,x16,x17,x18,x19⟩=>n) ⟨FUEL, { o with X := (some r7.2.1) },r7.2.2,r7.1,0⟩ ?_ ?_ eR ?_
   · exact hl9
   · exact ⟨rfl,rfl,True.intro⟩
   ·
    rintro ⟨n,x16,x17,x18,x19⟩ h
    cases n with
    | zero=>exact zbq h
    | succ n => ?_
    replace h:zbw at_1 v (zbm at_1 v n) x16 x17 x18 x19=some y11 := h
    unfold zbw at h
    show CJ _ _ _ _ _ (([(8,.int .i64 x18),(9,.int .i64 (((x19:Nat):Int)))]:Slots) ++ forget _ _) (OwnQ bs vlo bo x16::Arr bs x17::_)
    refine zac <| sR <| oM rfl rfl <| oP (P_lss (a:=((x19:Nat):Int)) (b:=(8:Int)) rfl rfl) rfl <| oM rfl rfl <| zbk rfl rfl rfl (fun hG20=>have hP21:(((x19:Nat):Int) < (8:Int)) := (zab).1 hG20; VJ_P (zaj rfl)) <| zbk rfl rfl rfl (fun hG22=>have hP23:(((x19:Nat):Int) < (8:Int)) := (zab).1 hG22; VJ_P (P_eql (a:=x18) (b:=(18:Int)) (mbx hG22 rfl) rfl)) <| oP (zd1 rfl (fun hh=>mbx hh rfl) rfl) rfl <| nT <| zan rfl (zc3 zab zab) (fun hg1 => ?_) (fun hg1 => ?_)
    ·
     replace h := ite_t hg1 h
     refine kT <| zac <| zaw <| zac <| zax (Ent.transX (t0_ eR) (ze9 (l:=x16))) fun oc24=>lC del4 fun hlen26=>lC del5 fun hlen27=>zaf <| oM rfl rfl <| oP (zae rfl) rfl <| oP (zaa rfl ⟨_,_,_,Tryz.runUnderlying60,rfl,rfl,Tryz.sizeOf58,rfl⟩) rfl <| oV (zag rfl foc0 rfl Tryz.isAgg58) rfl <| oM rfl rfl <| oM rfl rfl ?_
     obtain ⟨hg2,h⟩ := zbt h
     refine oO <| zat (zyi (zq0 hg2) (v:=v)) rfl Tryz.call90 (Dels.cons del3 Dels.nil) rfl fun _ _=>zap <| zas (Ent.trans (t1_ (t1_ (t1_ eR))) (zf1 (v0:=x16.Open_1) (v1:=x16.Open_2) (v2:=x16.Open_3) (v3:=x16.Open_4) (v4:=x16.X) (v5:=(zcq x16.T at_1 v false)) (v6:=x16.Stale) (v7:=x16.Lost) (h0:=oc24.1) (h1:=oc24.2.1) (h2:=oc24.2.2.1) (h3:=oc24.2.2.2))) <| zam <| zac <| sR <| oM rfl rfl ?_
     obtain ⟨r28,hr29,h⟩ := zar h
     refine oO <| zat (zie hr29) rfl Tryz.call53 (Dels.cons del0 (Dels.cons del0 Dels.nil)) rfl fun _ _=>oP (P_not rfl) rfl <| nT <| zan rfl (zdk Iff.rfl) (fun hg3 => ?_) (fun hg3 => ?_)
     ·
      replace h := ite_t hg3 h
      refine sR <| oM rfl rfl <| oA rfl rfl <| oA rfl rfl <| nT <| zah <| zad <| zau <| zad <| za9 <| zau <| zad ?_
      have hE := Option.some.inj h
      replace hE := zce hK10 hE.symm
      subst hE
      exact fE (res2 Tryz.results49 rfl rfl) () eR
     ·
      replace h := ite_f hg3 h
      refine kT <| zax (Ent.transX (t0_ eR) (ze9 (l:=r28.2))) fun oc30=>lC del4 fun hlen32=>lC del5 fun hlen33=>zaf <| oM rfl rfl <| oP (zae rfl) rfl <| oP (zaa rfl ⟨_,_,_,Tryz.runUnderlying60,rfl,rfl,Tryz.sizeOf57,rfl⟩) rfl <| oV (zag rfl foc0 rfl Tryz.isAgg57) rfl <| oM rfl rfl <| oM rfl rfl ?_
      rcases opt_e h with ⟨ht34,h⟩ | ⟨o35,ht34,h⟩
      ·
       rw [ht34]
       exact zbb (t0_ (t0_ (t1_ (t1_ (t1_ (t1_ (eD eR))))))) <| zbq h
      ·
       rw [ht34]
       refine zbb (Ent.takeC (A' := MirP bs vlo o35) del2 rfl eR) ?_
       obtain ⟨r36,hr37,h⟩ := zar h
       exact oO <| zc8 rfl (ICall.of (fun w=>by kernel_rfl) Tryz.call136 (zl9 hr37)) rfl (Dels.cons del0 (Dels.cons del5 Dels.nil)) rfl fun _ _=>oA rfl rfl <| zap <| zas (Ent.trans (t2_ (t2_ (t0_ (t1_ (t1_ (t1_ eR)))))) (zf1 (v0:=r28.2.Open_1) (v1:=r28.2.Open_2) (v2:=r28.2.Open_3) (v3:=r28.2.Open_4) (v4:=(some r36.2.1)) (v5:=r28.2.T) (v6:=r28.2.Stale) (v7:=r28.2.Lost) (h0:=oc30.1) (h1:=oc30.2.1) (h2:=oc30.2.2.1) (h3:=oc30.2.2.2))) <| zao <| zam <| zaf <| oM rfl rfl <| oP (PJ_eq (P_add (a:=((x19:Nat):Int)) (b:=(1:Int)) rfl rfl (by omega)) rfl) rfl <| oA rfl rfl <| zap <| nR ⟨n, { r28.2 with X := (some r36.2.1) },r36.2.2,r36.1,(x19 + 1)⟩ h ⟨rfl,rfl,True.intro⟩ eR
    ·
     replace h := ite_f hg1 h
     exact zbj <| za3 <| za2 <| za0 <| cR (x18,x16,x17) (Option.some.inj h).symm ⟨rfl,True.intro⟩ eR
  ·
   rintro a15 hy38
   replace h := zd0 hK10 hy38
   show CJ _ _ _ _ _ (([(8,.int .i64 a15.1)]:Slots) ++ forget _ _) (OwnQ bs vlo bo a15.2.1::Arr bs a15.2.2::_)
   refine zac <| zax (Ent.transX (t0_ eR) (ze9 (l:=a15.2.1))) fun oc39=>lC del4 fun hlen41=>lC del5 fun hlen42=>zaf <| oM rfl rfl <| oP (zae rfl) rfl <| oP (zaa rfl ⟨_,_,_,Tryz.runUnderlying60,rfl,rfl,Tryz.sizeOf58,rfl⟩) rfl <| oV (zag rfl foc0 rfl Tryz.isAgg58) rfl <| oM rfl rfl <| oM rfl rfl <| oM rfl rfl <| oP (P_eql (a:=a15.1) (b:=(0:Int)) rfl rfl) rfl ?_
   obtain ⟨hg4,h⟩ := zbt h
   refine oO <| zat (zyi (zq0 hg4) (v:=v)) rfl Tryz.call90 (Dels.cons del3 Dels.nil) rfl fun _ _=>zap <| zas (Ent.trans (t1_ (t1_ (t1_ eR))) (zf1 (v0:=a15.2.1.Open_1) (v1:=a15.2.1.Open_2) (v2:=a15.2.1.Open_3) (v3:=a15.2.1.Open_4) (v4:=a15.2.1.X) (v5:=(zcq a15.2.1.T at_1 v ((decide (a15.1=(0:Int)))))) (v6:=a15.2.1.Stale) (v7:=a15.2.1.Lost) (h0:=oc39.1) (h1:=oc39.2.1) (h2:=oc39.2.2.1) (h3:=oc39.2.2.2))) <| zam <| sR <| oM rfl rfl <| oM rfl rfl <| oP (P_eql (a:=a15.1) (b:=(0:Int)) rfl rfl) rfl <| oM rfl rfl <| zaz rfl rfl rfl (fun hG43=>have hP44:¬ (a15.1=(0:Int)) := nP (zab) hG43; VJ_P (zaj rfl)) <| zaz rfl rfl rfl (fun hG45=>have hP46:¬ (a15.1=(0:Int)) := nP (zab) hG45; VJ_P (P_eql (a:=a15.1) (b:=(5:Int)) (mbx hG45 rfl) rfl)) <| oP (zcw rfl rfl (fun hh=>mbx (not_f hh) rfl)) rfl <| oA rfl rfl <| oA rfl rfl <| nT <| zah ?_
   cases h
   exact fE (res2 Tryz.results49 rfl rfl) () eR
theorem zmn {W:World} {bo:Nat} {bs:Nat} {o:OwnS} {at_1:Int} {v:UInt64} {s:ArrS} {r:Int × Bool × OwnS × ArrS} (h:zc1 o at_1 v s=some r) :
    CSpec Tryz.prog W 49 [ptr bo 0,.int .i64 at_1,.int .u64 (v.toNat:Int)] [OwnP bs bo o,Arr bs s] (fun x:Unit => .tuple #[.int .i64 r.1,.bool r.2.1]) (fun _=>True) (fun x F=>OwnP bs bo r.2.2.1::Arr bs r.2.2.2::F) :=
  CSpec.exq2 (R' := fun x:Unit=>[Arr bs r.2.2.2]) (fun _=>zrm) (fun _ _ _=>zrn) (fun _=>zjp h)
def zbx (rec:OwnS→ArrS→Int→Nat→Option ((Int × OwnS × ArrS) ⊕ (Int × Bool × OwnS × ArrS))) (x16:OwnS) (x17:ArrS) (x18:Int) (x19:Nat):Option ((Int × OwnS × ArrS) ⊕ (Int × Bool × OwnS × ArrS)) :=
  if ((((x19:Nat):Int) < (8:Int))∧(x18=(18:Int))) then
    Option.bind (zc7 x16 x17) fun r24 =>
    if (¬ r24.1=true) then
      some (.inr (x18,false,r24.2,x17))
    else
      Option.elim r24.2.X (
        none) fun o31 =>
      Option.bind (zgj o31 x17) fun r32 =>
      rec ({ r24.2 with X := (some r32.2.1) }) r32.2.2 r32.1 (x19 + 1)
  else
    some (.inl (x18,x16,x17))
def zbo:Nat→OwnS→ArrS→Int→Nat→Option ((Int × OwnS × ArrS) ⊕ (Int × Bool × OwnS × ArrS))
  | 0,_,_,_,_=>none
  | n + 1,x16,x17,x18,x19=>zbx (zbo n) x16 x17 x18 x19
def zb5 (o:OwnS) (s:ArrS):Option (Int × Bool × OwnS × ArrS) :=
  Option.elim o.X (
    none) fun o6 =>
  Option.bind (zgj o6 s) fun r7 =>
  seqO (zbo FUEL ({ o with X := (some r7.2.1) }) r7.2.2 r7.1 0) fun a15 =>
  if (a15.1=(0:Int)) then
    some ((a15.1,((decide (a15.1=(0:Int))) || (decide (a15.1=(5:Int)))), { a15.2.1 with T := (ze1 a15.2.1.T) },a15.2.2))
  else
    some ((a15.1,((decide (a15.1=(0:Int))) || (decide (a15.1=(5:Int)))),a15.2.1,a15.2.2))
theorem zh8 {W:World} {bo:Nat} {vlo:Nat} {bs:Nat} {o:OwnS} {s:ArrS} {r:Int × Bool × OwnS × ArrS} (h:zb5 o s=some r) :
    CSpec Tryz.prog W 23 [ptr bo 0] [OwnQ bs vlo bo o,Arr bs s] (fun x:Unit => .tuple #[.int .i64 r.1,.bool r.2.1]) (fun _=>True) (fun x F=>OwnQ bs vlo bo r.2.2.1::Arr bs r.2.2.2::F) := by
 refine CSpec.of_body Tryz.func23 rfl Tryz.ntmps23 rfl fun F => ?_
 show CJ _ _ _ _ _ _ (_::_::F)
 unfold zb5 at h
 refine sR <| oA rfl rfl <| oA rfl rfl <| nT <| zac <| zax (Ent.transX (t0_ eR) (ze9 (l:=o))) fun oc1=>lC del4 fun hlen3=>lC del5 fun hlen4=>zaf <| oM rfl rfl <| oP (zae rfl) rfl <| oP (zaa rfl ⟨_,_,_,Tryz.runUnderlying60,rfl,rfl,Tryz.sizeOf57,rfl⟩) rfl <| oV (zag rfl foc0 rfl Tryz.isAgg57) rfl ?_
 rcases opt_e h with ⟨ht5,h⟩ | ⟨o6,ht5,h⟩
 ·
  rw [ht5]
  exact zbb (t0_ (t0_ (t1_ (t1_ (t1_ (t1_ (eD eR))))))) <| zbq h
 ·
  rw [ht5]
  refine zbb (Ent.takeC (A' := MirP bs vlo o6) del2 rfl eR) ?_
  obtain ⟨r7,hr8,h⟩ := zar h
  refine oO <| zc8 rfl (ICall.of (fun w=>by kernel_rfl) Tryz.call37 (zmb hr8)) rfl (Dels.cons del0 (Dels.cons del5 Dels.nil)) rfl fun _ _=>oA rfl rfl <| zap <| zas (Ent.trans (t2_ (t2_ (t0_ (t1_ (t1_ (t1_ eR)))))) (zf1 (v0:=o.Open_1) (v1:=o.Open_2) (v2:=o.Open_3) (v3:=o.Open_4) (v4:=(some r7.2.1)) (v5:=o.T) (v6:=o.Stale) (v7:=o.Lost) (h0:=oc1.1) (h1:=oc1.2.1) (h2:=oc1.2.2.1) (h3:=oc1.2.2.2))) <| zam <| zac <| sR <| oA rfl rfl <| nT ?_
  obtain ⟨y11,hl9,hK10⟩ := seq_e h
  refine zbv (X:=Int × OwnS × ArrS) [2,3,4,5,11,12,13,14,15,16,17,18,19,20,21,22,23,24,25,26,27] (fun a15=>([(4,.int .i64 a15.1)]:Slots)) (fun a15 R=>OwnQ bs vlo bo a15.2.1::Arr bs a15.2.2::R) (fun a15=>y11 = .inl a15) (Dels.cons del0 (Dels.cons del0 Dels.nil)) ?_ ?_
  ·
   refine zaw <| zbd (X:=Nat × OwnS × ArrS × Int × Nat) [2,3,4,5,11,12,13,14,15,16,17,18,19,20,21,22,23,24,25,26,27] (fun ⟨n,x16,x17,x18,x19⟩=>([(4,.int .i64 x18),(5,.int .i64 (((x19:Nat):Int)))]:Slots)) (fun ⟨n,x16,x17,x18,x19⟩ R=>OwnQ bs vlo bo x16::Arr bs x17::R) (fun ⟨n,x16,x17,x18,x19⟩=>zbo n x16 x17 x18 x19=some y11) (fun ⟨n,x16,x17,x18,x19⟩=>n) ⟨FUEL, { o with X := (some r7.2.1) },r7.2.2,r7.1,0⟩ ?_ ?_ eR ?_
   · exact hl9
   · exact ⟨rfl,rfl,True.intro⟩
   ·
    rintro ⟨n,x16,x17,x18,x19⟩ h
    cases n with
    | zero=>exact zbq h
    | succ n => ?_
    replace h:zbx (zbo n) x16 x17 x18 x19=some y11 := h
    unfold zbx at h
    show CJ _ _ _ _ _ (([(4,.int .i64 x18),(5,.int .i64 (((x19:Nat):Int)))]:Slots) ++ forget _ _) (OwnQ bs vlo bo x16::Arr bs x17::_)
    refine zac <| sR <| oM rfl rfl <| oP (P_lss (a:=((x19:Nat):Int)) (b:=(8:Int)) rfl rfl) rfl <| oM rfl rfl <| zbk rfl rfl rfl (fun hG20=>have hP21:(((x19:Nat):Int) < (8:Int)) := (zab).1 hG20; VJ_P (zaj rfl)) <| zbk rfl rfl rfl (fun hG22=>have hP23:(((x19:Nat):Int) < (8:Int)) := (zab).1 hG22; VJ_P (P_eql (a:=x18) (b:=(18:Int)) (mbx hG22 rfl) rfl)) <| oP (zd1 rfl (fun hh=>mbx hh rfl) rfl) rfl <| nT <| zan rfl (zc3 zab zab) (fun hg1 => ?_) (fun hg1 => ?_)
    ·
     replace h := ite_t hg1 h
     refine kT <| zac <| zaw <| zac <| sR <| oM rfl rfl ?_
     obtain ⟨r24,hr25,h⟩ := zar h
     refine oO <| zat (zie hr25) rfl Tryz.call53 (Dels.cons del0 (Dels.cons del0 Dels.nil)) rfl fun _ _=>oP (P_not rfl) rfl <| nT <| zan rfl (zdk Iff.rfl) (fun hg2 => ?_) (fun hg2 => ?_)
     ·
      replace h := ite_t hg2 h
      refine sR <| oM rfl rfl <| oA rfl rfl <| oA rfl rfl <| nT <| zah <| zad <| zau <| zad <| za9 <| zau <| zad ?_
      have hE := Option.some.inj h
      replace hE := zce hK10 hE.symm
      subst hE
      exact fE (res2 Tryz.results23 rfl rfl) () eR
     ·
      replace h := ite_f hg2 h
      refine kT <| zax (Ent.transX (t0_ eR) (ze9 (l:=r24.2))) fun oc26=>lC del4 fun hlen28=>lC del5 fun hlen29=>zaf <| oM rfl rfl <| oP (zae rfl) rfl <| oP (zaa rfl ⟨_,_,_,Tryz.runUnderlying60,rfl,rfl,Tryz.sizeOf57,rfl⟩) rfl <| oV (zag rfl foc0 rfl Tryz.isAgg57) rfl ?_
      rcases opt_e h with ⟨ht30,h⟩ | ⟨o31,ht30,h⟩
      ·
       rw [ht30]
       exact zbb (t0_ (t0_ (t1_ (t1_ (t1_ (t1_ (eD eR))))))) <| zbq h
      ·
       rw [ht30]
       refine zbb (Ent.takeC (A' := MirP bs vlo o31) del2 rfl eR) ?_
       obtain ⟨r32,hr33,h⟩ := zar h
       exact oO <| zc8 rfl (ICall.of (fun w=>by kernel_rfl) Tryz.call37 (zmb hr33)) rfl (Dels.cons del0 (Dels.cons del5 Dels.nil)) rfl fun _ _=>oA rfl rfl <| zap <| zas (Ent.trans (t2_ (t2_ (t0_ (t1_ (t1_ (t1_ eR)))))) (zf1 (v0:=r24.2.Open_1) (v1:=r24.2.Open_2) (v2:=r24.2.Open_3) (v3:=r24.2.Open_4) (v4:=(some r32.2.1)) (v5:=r24.2.T) (v6:=r24.2.Stale) (v7:=r24.2.Lost) (h0:=oc26.1) (h1:=oc26.2.1) (h2:=oc26.2.2.1) (h3:=oc26.2.2.2))) <| zao <| zam <| zaf <| oM rfl rfl <| oP (PJ_eq (P_add (a:=((x19:Nat):Int)) (b:=(1:Int)) rfl rfl (by omega)) rfl) rfl <| oA rfl rfl <| zap <| nR ⟨n, { r24.2 with X := (some r32.2.1) },r32.2.2,r32.1,(x19 + 1)⟩ h ⟨rfl,rfl,True.intro⟩ eR
    ·
     replace h := ite_f hg1 h
     exact zbj <| za3 <| za2 <| za0 <| cR (x18,x16,x17) (Option.some.inj h).symm ⟨rfl,True.intro⟩ eR
  ·
   rintro a15 hy34
   replace h := zd0 hK10 hy34
   show CJ _ _ _ _ _ (([(4,.int .i64 a15.1)]:Slots) ++ forget _ _) (OwnQ bs vlo bo a15.2.1::Arr bs a15.2.2::_)
   refine zac <| sR <| oM rfl rfl <| oP (P_eql (a:=a15.1) (b:=(0:Int)) rfl rfl) rfl <| nT <| zan rfl zab (fun hg3 => ?_) (fun hg3 => ?_)
   ·
    replace h := ite_t hg3 h
    refine zax (Ent.transX (t0_ eR) (ze9 (l:=a15.2.1))) fun oc35=>lC del4 fun hlen37=>lC del5 fun hlen38=>zaf <| oM rfl rfl <| oP (zae rfl) rfl <| oP (zaa rfl ⟨_,_,_,Tryz.runUnderlying60,rfl,rfl,Tryz.sizeOf58,rfl⟩) rfl <| oV (zag rfl foc0 rfl Tryz.isAgg58) rfl <| oO <| zat (z0l) rfl Tryz.call54 (Dels.cons del3 Dels.nil) rfl fun _ _=>zap <| zas (Ent.trans (t1_ (t1_ (t1_ eR))) (zf1 (v0:=a15.2.1.Open_1) (v1:=a15.2.1.Open_2) (v2:=a15.2.1.Open_3) (v3:=a15.2.1.Open_4) (v4:=a15.2.1.X) (v5:=(ze1 a15.2.1.T)) (v6:=a15.2.1.Stale) (v7:=a15.2.1.Lost) (h0:=oc35.1) (h1:=oc35.2.1) (h2:=oc35.2.2.1) (h3:=oc35.2.2.2))) <| zam <| sR <| oM rfl rfl <| oM rfl rfl <| oP (P_eql (a:=a15.1) (b:=(0:Int)) rfl rfl) rfl <| oM rfl rfl <| zaz rfl rfl rfl (fun hG39=>have hP40:¬ (a15.1=(0:Int)) := nP (zab) hG39; VJ_P (zaj rfl)) <| zaz rfl rfl rfl (fun hG41=>have hP42:¬ (a15.1=(0:Int)) := nP (zab) hG41; VJ_P (P_eql (a:=a15.1) (b:=(5:Int)) (mbx hG41 rfl) rfl)) <| oP (zcw rfl rfl (fun hh=>mbx (not_f hh) rfl)) rfl <| oA rfl rfl <| oA rfl rfl <| nT <| zah ?_
    cases h
    exact fE (res2 Tryz.results23 rfl rfl) () eR
   ·
    replace h := ite_f hg3 h
    refine kT <| sR <| oM rfl rfl <| oM rfl rfl <| oP (P_eql (a:=a15.1) (b:=(0:Int)) rfl rfl) rfl <| oM rfl rfl <| zaz rfl rfl rfl (fun hG43=>have hP44:¬ (a15.1=(0:Int)) := nP (zab) hG43; VJ_P (zaj rfl)) <| zaz rfl rfl rfl (fun hG45=>have hP46:¬ (a15.1=(0:Int)) := nP (zab) hG45; VJ_P (P_eql (a:=a15.1) (b:=(5:Int)) (mbx hG45 rfl) rfl)) <| oP (zcw rfl rfl (fun hh=>mbx (not_f hh) rfl)) rfl <| oA rfl rfl <| oA rfl rfl <| nT <| zah ?_
    cases h
    exact fE (res2 Tryz.results23 rfl rfl) () eR
theorem zmo {W:World} {bo:Nat} {bs:Nat} {o:OwnS} {s:ArrS} {r:Int × Bool × OwnS × ArrS} (h:zb5 o s=some r) :
    CSpec Tryz.prog W 23 [ptr bo 0] [OwnP bs bo o,Arr bs s] (fun x:Unit => .tuple #[.int .i64 r.1,.bool r.2.1]) (fun _=>True) (fun x F=>OwnP bs bo r.2.2.1::Arr bs r.2.2.2::F) :=
  CSpec.exq2 (R' := fun x:Unit=>[Arr bs r.2.2.2]) (fun _=>zrm) (fun _ _ _=>zrn) (fun _=>zh8 h)
def ze4 (o:OwnS) (disk:Int) (leg:Int) (s:ArrS):Option (Bool × OwnS × ArrS) :=
  Option.bind (zgk o.Lost leg) fun r5 =>
  some (((decide ((smR s disk)=(0:Int))), { o with Lost := r5 },(smS s disk true)))
theorem zka {W:World} {bo:Nat} {bs:Nat} {o:OwnS} {disk:Int} {leg:Int} {s:ArrS} {r:Bool × OwnS × ArrS} (h:ze4 o disk leg s=some r) :
    CSpec Tryz.prog W 30 [ptr bo 0,.int .i64 disk,.int .i64 leg] [OwnP bs bo o,Arr bs s] (fun x:Unit => .bool r.1) (fun _=>True) (fun x F=>OwnP bs bo r.2.1::Arr bs r.2.2::F) := by
 refine CSpec.of_body Tryz.func30 rfl Tryz.ntmps30 rfl fun F => ?_
 show CJ _ _ _ _ _ _ (_::_::F)
 unfold ze4 at h
 refine sR <| oA rfl rfl <| nT <| zac <| zax (Ent.transX (t0_ eR) (ze8 (l:=o))) fun oc1=>lC del4 fun hlen3=>lC del5 fun hlen4=>zaf <| oM rfl rfl <| oM rfl rfl <| oP (zae rfl) rfl <| oP (zaa rfl ⟨_,_,_,Tryz.runUnderlying60,rfl,rfl,Tryz.sizeOf45,rfl⟩) rfl <| oV (zag rfl foc0 rfl Tryz.isAgg45) rfl <| oM rfl rfl ?_
 obtain ⟨r5,hr6,h⟩ := zar h
 refine oO <| zat (zj9 (Reads.sl _ _ _) hr6) rfl Tryz.call48 (Dels.cons del5 Dels.nil) rfl fun X7 _=>oP (zae rfl) rfl <| oP (zaa rfl ⟨_,_,_,Tryz.runUnderlying60,rfl,rfl,Tryz.sizeOf45,rfl⟩) rfl <| oO <| zbu rfl rfl foc2 rfl rfl Tryz.sizeOf45 <| zap <| zas (Ent.trans (t2_ (t2_ (t2_ (t2_ (t2_ (t1_ eR)))))) (zem (v0:=o.Open_1) (v1:=o.Open_2) (v2:=o.Open_3) (v3:=o.Open_4) (v4:=o.X) (v5:=o.T) (v6:=o.Stale) (v7:=r5) (h0:=oc1.1) (h1:=oc1.2.1) (h2:=oc1.2.2.1) (h3:=oc1.2.2.2.1) (h4:=X7))) <| zam <| zac <| zax (Ent.transX (t0_ eR) (ze8 (l := { o with Lost := r5 }))) fun oc9=>lC del4 fun hlen11=>lC del5 fun hlen12=>zaf <| oM rfl rfl <| oP (zae rfl) rfl <| oP (zaa rfl ⟨_,_,_,Tryz.runUnderlying60,rfl,rfl,Tryz.sizeOf26,rfl⟩) rfl <| oV (zag rfl foc0 rfl Tryz.isAgg26) rfl <| oM rfl rfl <| oO <| zat (zwd) rfl Tryz.call66 (Dels.cons del7 Dels.nil) rfl fun _ _=>oP (P_eql (a:=(smR s disk)) (b:=(0:Int)) rfl rfl) rfl <| oA rfl rfl <| zap ?_
 refine zas (Ent.trans (t1_ (t1_ (t1_ (t1_ (t1_ (t1_ eR)))))) (zem (v0:=o.Open_1) (v1:=o.Open_2) (v2:=o.Open_3) (v3:=o.Open_4) (v4:=o.X) (v5:=o.T) (v6:=o.Stale) (v7:=r5) (h0:=oc9.1) (h1:=oc9.2.1) (h2:=oc9.2.2.1) (h3:=oc9.2.2.2.1) (h4:=oc9.2.2.2.2))) <| zam <| zah ?_
 cases h
 exact fE (res1 Tryz.results30 rfl) () (t0_ (t0_ (eD eR)))
def zfi (o:OwnS) (s:ArrS):Option (Bool × OwnS × ArrS) :=
  Option.bind (zbl o true s) fun r1 =>
  some (r1.1,r1.2.1,r1.2.2)
theorem zme {W:World} {bo:Nat} {bs:Nat} {o:OwnS} {s:ArrS} {r:Bool × OwnS × ArrS} (h:zfi o s=some r) :
    CSpec Tryz.prog W 51 [ptr bo 0] [OwnP bs bo o,Arr bs s] (fun x:Unit => .bool r.1) (fun _=>True) (fun x F=>OwnP bs bo r.2.1::Arr bs r.2.2::F) := by
 refine CSpec.of_body Tryz.func51 rfl Tryz.ntmps51 rfl fun F => ?_
 show CJ _ _ _ _ _ _ (_::_::F)
 unfold zfi at h
 refine sR <| oA rfl rfl <| nT <| sR <| oM rfl rfl ?_
 obtain ⟨r1,hr2,h⟩ := zar h
 refine oO <| zat (zdh hr2) rfl Tryz.call34 (Dels.cons del0 (Dels.cons del0 Dels.nil)) rfl fun _ _=>oA rfl rfl <| nT <| zah ?_
 cases h
 exact fE (res1 Tryz.results51 rfl) () eR
def ze5 (o:OwnS) (s_1:volumegroupmake_Step) (s:ArrS):Option (Bool × OwnS × ArrS) :=
  grd (decide (¬ ((o.T.length:Nat):Int)=0)) <|
  grd (inI64 (((s_1.At.tmod (((o.T.length:Nat):Int))) + ((o.T.length:Nat):Int)))) <|
  grd (decide (¬ ((o.T.length:Nat):Int)=0)) <|
  lt (((((s_1.At.tmod (((o.T.length:Nat):Int))) + ((o.T.length:Nat):Int))).tmod (((o.T.length:Nat):Int)))) fun w8 =>
  Option.bind ((
    if (s_1.Kind=(0:Int)) then
      Option.bind (zc1 o w8 s_1.Value s) fun r17 =>
      some (r17.1,r17.2.1,r17.2.2.1,r17.2.2.2)
    else
      if (s_1.Kind=(1:Int)) then
        Option.bind (zb9 o w8 false s) fun r19 =>
        some (r19.1,r19.2.1,r19.2.2.1,r19.2.2.2)
      else
        if (s_1.Kind=(2:Int)) then
          Option.bind (zb5 o s) fun r21 =>
          some (r21.1,r21.2.1,r21.2.2.1,r21.2.2.2)
        else
          if (s_1.Kind=(3:Int)) then
            some (((5:Int),true,o,s))
          else
            if (s_1.Kind=(4:Int)) then
              grd (inI64 (((1:Int) + w8))) <|
              grd (inI64 (((1:Int) + w8))) <|
              some (((0:Int),true,o, { s with fuse := (((1:Int) + w8)).toNat }))
            else
              some (((0:Int),true,o,s)):Option (Int × Bool × OwnS × ArrS))) fun a16 =>
  if (¬ a16.2.1=true) then
    some (false,a16.2.2.1,a16.2.2.2)
  else
    if (a16.1≠(5:Int)) then
      some (true,a16.2.2.1,a16.2.2.2)
    else
      Option.bind (zc0 a16.2.2.1 s_1.Keep a16.2.2.2) fun r28 =>
      if r28.1=true then
        Option.bind (zfi r28.2.1 r28.2.2) fun r30 =>
        some (r30.1,r30.2.1,r30.2.2)
      else
        some (false,r28.2.1,r28.2.2)
theorem zkb {W:World} {bo:Nat} {bs:Nat} {o:OwnS} {s_1:volumegroupmake_Step} {s:ArrS} {r:Bool × OwnS × ArrS} (h:ze5 o s_1 s=some r) :
    CSpec Tryz.prog W 18 [ptr bo 0,.agg #[.int .i64 s_1.Kind,.int .i64 s_1.At,.int .u64 (s_1.Value.toNat:Int),.int .u64 (s_1.Keep.toNat:Int)]] [OwnP bs bo o,Arr bs s] (fun x:Unit => .bool r.1) (fun _=>True) (fun x F=>OwnP bs bo r.2.1::Arr bs r.2.2::F) := by
 refine CSpec.of_body Tryz.func18 rfl Tryz.ntmps18 rfl fun F => ?_
 show CJ _ _ _ _ _ _ (_::_::F)
 unfold ze5 at h
 refine sR <| oO <| O_box rfl rfl rfl fun b1=>oA rfl rfl <| nT <| zac <| zax (Ent.transX (t1_ eR) (ze8 (l:=o))) fun oc2=>lC del4 fun hlen4=>lC del5 fun hlen5=>zax (Ent.transX (t3_ eR) zi9) fun tc6=>zgl fun hS7=>zaf <| oM rfl rfl <| oP (zae rfl) rfl <| oP (zaa rfl ⟨_,_,_,Tryz.runUnderlying60,rfl,rfl,Tryz.sizeOf58,rfl⟩) rfl <| oV (zag rfl foc3 rfl Tryz.isAgg58) rfl <| oP (zae rfl) rfl <| oP (zaa rfl ⟨_,_,_,Tryz.runUnderlying54,rfl,rfl,Tryz.sizeOf52,rfl⟩) rfl <| oV (zag rfl foc0 rfl Tryz.isAgg52) rfl <| oV (VJ_eq (V_len rfl foc1 (Reads.sl _ _ _) Tryz.runUnderlying52) (congrArg (fun z:Nat=>Value.int .i64 (z:Int)) hS7.len.symm)) rfl <| oA rfl rfl <| zap <| zas (Ent.trans (t0_ (t0_ (t0_ eR))) (zec hS7)) <| zas (Ent.trans (t1_ (t1_ (t1_ eR))) (zem (v0:=o.Open_1) (v1:=o.Open_2) (v2:=o.Open_3) (v3:=o.Open_4) (v4:=o.X) (v5:=o.T) (v6:=o.Stale) (v7:=o.Lost) (h0:=oc2.1) (h1:=oc2.2.1) (h2:=oc2.2.2.1) (h3:=oc2.2.2.2.1) (h4:=oc2.2.2.2.2))) <| zam <| sR <| oP (zaa rfl ⟨_,_,_,Tryz.runUnderlying37,rfl,rfl,Tryz.sizeOf3,rfl⟩) rfl <| oV (zag rfl foc1 rfl Tryz.isAgg3) rfl <| oM rfl rfl ?_
 obtain ⟨hg1,h⟩ := zbt h
 refine oP (zqc (a:=s_1.At) (b:=((o.T.length:Nat):Int)) rfl rfl hg1) rfl <| oM rfl rfl ?_
 obtain ⟨hg2,h⟩ := zd7 h
 refine oP (P_add (a:=(s_1.At.tmod (((o.T.length:Nat):Int)))) (b:=((o.T.length:Nat):Int)) rfl rfl hg2) rfl <| oM rfl rfl ?_
 obtain ⟨hg3,h⟩ := zbt h
 refine oP (zqc (a:=((s_1.At.tmod (((o.T.length:Nat):Int))) + ((o.T.length:Nat):Int))) (b:=((o.T.length:Nat):Int)) rfl rfl hg3) rfl ?_
 obtain ⟨w8,hw8,h⟩ := lt_e h
 rw [← hw8]
 refine oA rfl rfl <| nT <| sR <| oA rfl rfl <| oA rfl rfl <| nT <| zac <| sR <| oP (zaa rfl ⟨_,_,_,Tryz.runUnderlying37,rfl,rfl,Tryz.sizeOf3,rfl⟩) rfl <| oV (zag rfl foc1 rfl Tryz.isAgg3) rfl <| nT ?_
 obtain ⟨y11,hl9,hK10⟩ := zfw h
 refine zbv (X:=Int × Bool × OwnS × ArrS) [7,8,27,28,29,30,31,32,33,34,35,36,37,38,39,40,41,42,43,44,45,46,47,48,49,50,51,52,53,54,55,56,57,58,59,60,61,62] (fun a16=>([(7,.int .i64 a16.1),(8,.bool a16.2.1)]:Slots)) (fun a16 R=>OwnP bs bo a16.2.2.1::Arr bs a16.2.2.2::R) (fun a16=>y11=a16) (Dels.cons del0 (Dels.cons del1 Dels.nil)) ?_ ?_
 ·
  have h := hl9
  refine zaw <| sR <| oP (P_eql (a:=s_1.Kind) (b:=(0:Int)) rfl rfl) rfl <| oA rfl rfl <| nT <| zan rfl zab (fun hg4 => ?_) (fun hg4 => ?_)
  ·
   replace h := ite_t hg4 h
   refine zaf <| oM rfl rfl <| oM rfl rfl <| oP (zaa rfl ⟨_,_,_,Tryz.runUnderlying37,rfl,rfl,Tryz.sizeOf23,rfl⟩) rfl <| oV (zag rfl foc1 rfl Tryz.isAgg23) rfl ?_
   obtain ⟨r17,hr18,h⟩ := zar h
   exact oO <| zat (zmn hr18) rfl Tryz.call49 (Dels.cons del0 (Dels.cons del1 Dels.nil)) rfl fun _ _=>oM rfl rfl <| oP (za4 rfl rfl) rfl <| oP (za4 rfl rfl) rfl <| oA rfl rfl <| oA rfl rfl <| zap <| zao <| cR (r17.1,r17.2.1,r17.2.2.1,r17.2.2.2) (Option.some.inj h).symm ⟨rfl,rfl,True.intro⟩ eR
  ·
   replace h := ite_f hg4 h
   refine sR <| oP (P_eql (a:=s_1.Kind) (b:=(1:Int)) rfl rfl) rfl <| oA rfl rfl <| nT <| zan rfl zab (fun hg5 => ?_) (fun hg5 => ?_)
   ·
    replace h := ite_t hg5 h
    refine zaf <| oM rfl rfl <| oM rfl rfl ?_
    obtain ⟨r19,hr20,h⟩ := zar h
    exact oO <| zat (zm2 hr20) rfl Tryz.call50 (Dels.cons del0 (Dels.cons del1 Dels.nil)) rfl fun _ _=>oM rfl rfl <| oP (za4 rfl rfl) rfl <| oP (za4 rfl rfl) rfl <| oA rfl rfl <| oA rfl rfl <| zap <| zao <| cR (r19.1,r19.2.1,r19.2.2.1,r19.2.2.2) (Option.some.inj h).symm ⟨rfl,rfl,True.intro⟩ eR
   ·
    replace h := ite_f hg5 h
    refine sR <| oP (P_eql (a:=s_1.Kind) (b:=(2:Int)) rfl rfl) rfl <| oA rfl rfl <| nT <| zan rfl zab (fun hg6 => ?_) (fun hg6 => ?_)
    ·
     replace h := ite_t hg6 h
     refine zaf <| oM rfl rfl ?_
     obtain ⟨r21,hr22,h⟩ := zar h
     exact oO <| zat (zmo hr22) rfl Tryz.call23 (Dels.cons del0 (Dels.cons del1 Dels.nil)) rfl fun _ _=>oM rfl rfl <| oP (za4 rfl rfl) rfl <| oP (za4 rfl rfl) rfl <| oA rfl rfl <| oA rfl rfl <| zap <| zao <| cR (r21.1,r21.2.1,r21.2.2.1,r21.2.2.2) (Option.some.inj h).symm ⟨rfl,rfl,True.intro⟩ eR
    ·
     replace h := ite_f hg6 h
     refine sR <| oP (P_eql (a:=s_1.Kind) (b:=(3:Int)) rfl rfl) rfl <| oA rfl rfl <| nT <| zan rfl zab (fun hg7 => ?_) (fun hg7 => ?_)
     ·
      replace h := ite_t hg7 h
      exact zaf <| oA rfl rfl <| zap <| zao <| cR ((5:Int),true,o,s) (Option.some.inj h).symm ⟨rfl,rfl,True.intro⟩ (t0_ (t1_ eR))
     ·
      replace h := ite_f hg7 h
      refine sR <| oP (P_eql (a:=s_1.Kind) (b:=(4:Int)) rfl rfl) rfl <| oA rfl rfl <| nT <| zan rfl zab (fun hg8 => ?_) (fun hg8 => ?_)
      ·
       replace h := ite_t hg8 h
       refine zax (Ent.transX (t0_ eR) (ze8 (l:=o))) fun oc23=>lC del4 fun hlen25=>lC del5 fun hlen26=>zaf <| oM rfl rfl <| oP (zae rfl) rfl <| oP (zaa rfl ⟨_,_,_,Tryz.runUnderlying60,rfl,rfl,Tryz.sizeOf26,rfl⟩) rfl <| oV (zag rfl foc0 rfl Tryz.isAgg26) rfl <| oM rfl rfl ?_
       obtain ⟨hg9,h⟩ := zd7 h
       refine oP (P_add (a:=(1:Int)) (b:=w8) rfl rfl hg9) rfl ?_
       obtain ⟨hg10,h⟩ := zd7 h
       exact oO <| zat (zt7 hg10.2) rfl Tryz.call31 (Dels.cons del7 Dels.nil) rfl fun _ _=>zap <| zas (Ent.trans (t1_ (t1_ (t1_ (t1_ (t1_ (t1_ eR)))))) (zem (v0:=o.Open_1) (v1:=o.Open_2) (v2:=o.Open_3) (v3:=o.Open_4) (v4:=o.X) (v5:=o.T) (v6:=o.Stale) (v7:=o.Lost) (h0:=oc23.1) (h1:=oc23.2.1) (h2:=oc23.2.2.1) (h3:=oc23.2.2.2.1) (h4:=oc23.2.2.2.2))) <| zao <| cR ((0:Int),true,o, { s with fuse := (((1:Int) + w8)).toNat }) (Option.some.inj h).symm ⟨rfl,rfl,True.intro⟩ eR
      ·
       replace h := ite_f hg8 h
       exact zbr <| zao <| cR ((0:Int),true,o,s) (Option.some.inj h).symm ⟨rfl,rfl,True.intro⟩ (t0_ (t1_ eR))
 ·
  rintro a16 hy27
  replace h := zd2 hK10 hy27
  show CJ _ _ _ _ _ (([(7,.int .i64 a16.1),(8,.bool a16.2.1)]:Slots) ++ forget _ _) (OwnP bs bo a16.2.2.1::Arr bs a16.2.2.2::_)
  refine zac <| sR <| oM rfl rfl <| oP (P_not rfl) rfl <| nT <| zan rfl (zdk Iff.rfl) (fun hg11 => ?_) (fun hg11 => ?_)
  ·
   replace h := ite_t hg11 h
   refine sR <| oA rfl rfl <| nT <| zah <| zad ?_
   cases h
   exact fE (res1 Tryz.results18 rfl) () (t0_ (t0_ (eD eR)))
  ·
   replace h := ite_f hg11 h
   refine kT <| sR <| oM rfl rfl <| oP (P_neq (a:=a16.1) (b:=(5:Int)) rfl rfl) rfl <| oM rfl rfl <| zb7 67 rfl zab (fun hg12B hg12 => ?_) (fun hg12B hg12 => ?_)
   ·
    replace h := ite_t hg12 h
    refine RJ_gn (GY_no rfl rfl rfl hg12B) rfl rfl <| RJ_gn (GY_no rfl rfl rfl hg12B) rfl rfl <| RJ_gn (GY_no rfl rfl rfl hg12B) rfl rfl <| RJ_gn (GY_no rfl rfl rfl hg12B) rfl rfl <| RJ_gn (GY_no rfl rfl rfl hg12B) rfl rfl <| RJ_gn (zi0 rfl rfl rfl) rfl rfl <| RJ_gn (zi0 rfl rfl rfl) rfl rfl <| RJ_gn (GY_no rfl rfl rfl hg12B) rfl rfl <| oP (zbh rfl hg12B rfl) rfl <| oA rfl rfl <| nT <| zah ?_
    cases h
    exact fE (res1 Tryz.results18 rfl) () (t0_ (t0_ (eD eR)))
   ·
    replace h := ite_f hg12 h
    refine gP (zal rfl rfl rfl hg12B) (zaj rfl) rfl <| gP (zal rfl rfl rfl hg12B) (zaa rfl ⟨_,_,_,Tryz.runUnderlying37,rfl,rfl,Tryz.sizeOf23,rfl⟩) rfl <| gV (zal rfl rfl rfl hg12B) (zag rfl foc2 rfl Tryz.isAgg23) rfl ?_
    obtain ⟨r28,hr29,h⟩ := zar h
    refine RJ_gy (zal rfl rfl rfl hg12B) <| zat (zgv hr29) rfl Tryz.call33 (Dels.cons del0 (Dels.cons del0 Dels.nil)) rfl fun _ _=>gP (zal rfl rfl rfl hg12B) (zaj rfl) rfl <| zb7 72 rfl Iff.rfl (fun hg13B hg13 => ?_) (fun hg13B hg13 => ?_)
    ·
     replace h := ite_t hg13 h
     refine gP (zal rfl rfl rfl hg13B) (zaj rfl) rfl ?_
     obtain ⟨r30,hr31,h⟩ := zar h
     refine RJ_gy (zal rfl rfl rfl hg13B) <| zat (zme hr31) rfl Tryz.call51 (Dels.cons del0 (Dels.cons del0 Dels.nil)) rfl fun _ _=>gP (zal rfl rfl rfl hg12B) (zbh rfl hg13B rfl) rfl <| oP (za8 rfl hg12B rfl) rfl <| oA rfl rfl <| nT <| zah ?_
     cases h
     exact fE (res1 Tryz.results18 rfl) () (t0_ (t0_ (eD eR)))
    ·
     replace h := ite_f hg13 h
     refine RJ_gn (GY_no rfl rfl rfl hg13B) rfl rfl <| RJ_gn (GY_no rfl rfl rfl hg13B) rfl rfl <| gP (zal rfl rfl rfl hg12B) (za8 rfl hg13B rfl) rfl <| oP (za8 rfl hg12B rfl) rfl <| oA rfl rfl <| nT <| zah ?_
     cases h
     exact fE (res1 Tryz.results18 rfl) () (t0_ (t0_ (eD eR)))
end Go.Proofs
set_option linter.unusedSimpArgs false
set_option linter.unusedVariables false
set_option maxRecDepth 20000
set_option maxHeartbeats 4000000
namespace Go.Proofs
open Go.VG
def ze0 (l:List volumegroupmake_Step) (lose:Int) (disk:Int) (leg:Int) (rec:OwnS→ArrS→Nat→Option ((OwnS × ArrS) ⊕ (Bool × OwnS × ArrS))) (x46:OwnS) (x47:ArrS) (x48:Nat):Option ((OwnS × ArrS) ⊕ (Bool × OwnS × ArrS)) :=
  if (((x48:Nat):Int) < ((l.length:Nat):Int)) then
    if (((x48:Nat):Int)=lose) then
      Option.bind (ze4 x46 disk leg x47) fun r49 =>
      if (¬ r49.1=true) then
        some (.inr (false,r49.2.1,r49.2.2))
      else
        Option.bind (ze5 r49.2.1 ((l.getD x48 (⟨0,0,0,0⟩:volumegroupmake_Step))) r49.2.2) fun r51 =>
        if (¬ r51.1=true) then
          some (.inr (false,r51.2.1,r51.2.2))
        else
          rec r51.2.1 r51.2.2 (x48 + 1)
    else
      Option.bind (ze5 x46 ((l.getD x48 (⟨0,0,0,0⟩:volumegroupmake_Step))) x47) fun r53 =>
      if (¬ r53.1=true) then
        some (.inr (false,r53.2.1,r53.2.2))
      else
        rec r53.2.1 r53.2.2 (x48 + 1)
  else
    some (.inl (x46,x47))
def zdu (l:List volumegroupmake_Step) (lose:Int) (disk:Int) (leg:Int):Nat→OwnS→ArrS→Nat→Option ((OwnS × ArrS) ⊕ (Bool × OwnS × ArrS))
  | 0,_,_,_=>none
  | n + 1,x46,x47,x48=>ze0 l lose disk leg (zdu l lose disk leg n) x46 x47 x48
def zga (o:OwnS) (l:List volumegroupmake_Step) (lose:Int) (disk:Int) (leg:Int) (s:ArrS):Option (Bool × OwnS × ArrS) :=
  Option.bind (zdg o s) fun r8 =>
  if ((¬ r8.1=true)∨(((r8.2.T.length:Nat):Int)=(0:Int))) then
    some (((decide (((r8.2.T.length:Nat):Int)=(0:Int))),r8.2,s))
  else
    seqO (zdu l lose disk leg FUEL r8.2 s 0) fun a45 =>
    grd (inI64 (0:Int)) <|
    if ({ a45.2 with fuse := ((0:Int)).toNat }).down=true then
      Option.bind (zc0 a45.1 (0:UInt64) ({ a45.2 with fuse := ((0:Int)).toNat })) fun r64 =>
      if (¬ r64.1=true) then
        some (false,r64.2.1,r64.2.2)
      else
        Option.bind (zbl r64.2.1 false r64.2.2) fun r66 =>
        if r66.1=true then
          Option.bind (zc0 r66.2.1 (0:UInt64) r66.2.2) fun r68 =>
          if r68.1=true then
            Option.bind (zbl r68.2.1 true r68.2.2) fun r70 =>
            if r70.1=true then
              Option.bind (zbl r70.2.1 true r70.2.2) fun r72 =>
              some (r72.1,r72.2.1,r72.2.2)
            else
              some (false,r70.2.1,r70.2.2)
          else
            some (false,r68.2.1,r68.2.2)
        else
          some (false,r66.2.1,r66.2.2)
    else
      Option.bind (zbl a45.1 false ({ a45.2 with fuse := ((0:Int)).toNat })) fun r74 =>
      if r74.1=true then
        Option.bind (zc0 r74.2.1 (0:UInt64) r74.2.2) fun r76 =>
        if r76.1=true then
          Option.bind (zbl r76.2.1 true r76.2.2) fun r78 =>
          if r78.1=true then
            Option.bind (zbl r78.2.1 true r78.2.2) fun r80 =>
            some (r80.1,r80.2.1,r80.2.2)
          else
            some (false,r78.2.1,r78.2.2)
        else
          some (false,r76.2.1,r76.2.2)
      else
        some (false,r74.2.1,r74.2.2)
theorem zm4 {W:World} {bo:Nat} {Al:HP} {vl:Value} {bs:Nat} {o:OwnS} {l:List volumegroupmake_Step} {lose:Int} {disk:Int} {leg:Int} {s:ArrS} {r:Bool × OwnS × ArrS} (rl:Reads Al tyvolumegroupmake_Step vl l) (h:zga o l lose disk leg s=some r) :
    CSpec Tryz.prog W 29 [ptr bo 0,vl,.int .i64 lose,.int .i64 disk,.int .i64 leg] [OwnP bs bo o,Al,Arr bs s] (fun x:Unit => .bool r.1) (fun _=>True) (fun x F=>OwnP bs bo r.2.1::Al::Arr bs r.2.2::F) := by
 refine CSpec.of_body Tryz.func29 rfl Tryz.ntmps29 rfl fun F => ?_
 show CJ _ _ _ _ _ _ (_::_::_::F)
 unfold zga at h
 refine za1 (zcg rl del1) fun hlen1=>sR <| oA rfl rfl <| nT <| zac <| zac <| zax (Ent.transX (t0_ eR) (ze8 (l:=o))) fun oc2=>lC del4 fun hlen4=>lC del5 fun hlen5=>zax (Ent.transX (t3_ eR) zi9) fun tc6=>zgl fun hS7=>zaf <| oM rfl rfl <| zbb (Ent.trans (t0_ (t0_ (t0_ eR))) (zec hS7)) <| zbb (Ent.trans (t1_ (t1_ (t1_ eR))) (zem (v0:=o.Open_1) (v1:=o.Open_2) (v2:=o.Open_3) (v3:=o.Open_4) (v4:=o.X) (v5:=o.T) (v6:=o.Stale) (v7:=o.Lost) (h0:=oc2.1) (h1:=oc2.2.1) (h2:=oc2.2.2.1) (h3:=oc2.2.2.2.1) (h4:=oc2.2.2.2.2))) ?_
 obtain ⟨r8,hr9,h⟩ := zar h
 refine oO <| zat (zjx hr9) rfl Tryz.call16 (Dels.cons del0 (Dels.cons del1 Dels.nil)) rfl fun _ _=>oP (P_not rfl) rfl <| oM rfl rfl <| zaz rfl rfl rfl (fun hG10=>have hP11:¬ (¬ r8.1=true) := nP ((zdk Iff.rfl)) hG10; VJ_P (zaj rfl)) <| zaz rfl rfl rfl (fun hG12=>have hP13:¬ (¬ r8.1=true) := nP ((zdk Iff.rfl)) hG12; VJ_P (zae (mbx hG12 rfl))) <| zaz rfl rfl rfl (fun hG14=>have hP15:¬ (¬ r8.1=true) := nP ((zdk Iff.rfl)) hG14; VJ_P (zaa (mbx hG14 rfl) ⟨_,_,_,Tryz.runUnderlying60,rfl,rfl,Tryz.sizeOf58,rfl⟩)) <| zmu (Ent.transX (t0_ eR) (ze8 (l:=r8.2))) fun oc18=>zcl (zcg (Reads.sl _ _ _) del4) fun hlen20=>zcl (zcg (Reads.sl _ _ _) del5) fun hlen21=>zaz rfl rfl rfl (fun hG16=>have hP17:¬ (¬ r8.1=true) := nP ((zdk Iff.rfl)) hG16; zag (mbx hG16 rfl) foc0 rfl Tryz.isAgg58) <| zaz rfl rfl rfl (fun hG22=>have hP23:¬ (¬ r8.1=true) := nP ((zdk Iff.rfl)) hG22; VJ_P (zae (mbx hG22 rfl))) <| zaz rfl rfl rfl (fun hG24=>have hP25:¬ (¬ r8.1=true) := nP ((zdk Iff.rfl)) hG24; VJ_P (zaa (mbx hG24 rfl) ⟨_,_,_,Tryz.runUnderlying54,rfl,rfl,Tryz.sizeOf52,rfl⟩)) <| zmu (Ent.transX (t3_ eR) zi9) fun tc28=>RJ_pur fun hS29=>zaz rfl rfl rfl (fun hG26=>have hP27:¬ (¬ r8.1=true) := nP ((zdk Iff.rfl)) hG26; zag (mbx hG26 rfl) foc0 rfl Tryz.isAgg52) ?_
 refine zaz rfl rfl rfl (fun hG30=>have hP31:¬ (¬ r8.1=true) := nP ((zdk Iff.rfl)) hG30; VJ_eq (V_len (mbx hG30 rfl) foc1 (Reads.sl _ _ _) Tryz.runUnderlying52) (congrArg (fun z:Nat=>Value.int .i64 (z:Int)) hS29.len.symm)) <| zaz rfl rfl rfl (fun hG32=>have hP33:¬ (¬ r8.1=true) := nP ((zdk Iff.rfl)) hG32; VJ_P (P_eql (a:=((r8.2.T.length:Nat):Int)) (b:=(0:Int)) (mbx hG32 rfl) rfl)) <| oP (zcw rfl rfl (fun hh=>mbx (not_f hh) rfl)) rfl <| zap <| zas (Ent.trans (t0_ (t0_ (t0_ eR))) (zec hS29)) <| zas (Ent.trans (t1_ (t1_ (t1_ eR))) (zem (v0:=r8.2.Open_1) (v1:=r8.2.Open_2) (v2:=r8.2.Open_3) (v3:=r8.2.Open_4) (v4:=r8.2.X) (v5:=r8.2.T) (v6:=r8.2.Stale) (v7:=r8.2.Lost) (h0:=oc18.1) (h1:=oc18.2.1) (h2:=oc18.2.2.1) (h3:=oc18.2.2.2.1) (h4:=oc18.2.2.2.2))) <| zam <| zan rfl (bT_or (zdk Iff.rfl) zab) (fun hg1 => ?_) (fun hg1 => ?_)
 ·
  replace h := ite_t hg1 h
  refine zac <| zax (Ent.transX (t0_ eR) (ze8 (l:=r8.2))) fun oc34=>lC del4 fun hlen36=>lC del5 fun hlen37=>zax (Ent.transX (t3_ eR) zi9) fun tc38=>zgl fun hS39=>zaf <| oM rfl rfl <| oP (zae rfl) rfl <| oP (zaa rfl ⟨_,_,_,Tryz.runUnderlying60,rfl,rfl,Tryz.sizeOf58,rfl⟩) rfl <| oV (zag rfl foc3 rfl Tryz.isAgg58) rfl <| oP (zae rfl) rfl <| oP (zaa rfl ⟨_,_,_,Tryz.runUnderlying54,rfl,rfl,Tryz.sizeOf52,rfl⟩) rfl <| oV (zag rfl foc0 rfl Tryz.isAgg52) rfl <| oV (VJ_eq (V_len rfl foc1 (Reads.sl _ _ _) Tryz.runUnderlying52) (congrArg (fun z:Nat=>Value.int .i64 (z:Int)) hS39.len.symm)) rfl <| oP (P_eql (a:=((r8.2.T.length:Nat):Int)) (b:=(0:Int)) rfl rfl) rfl <| oA rfl rfl <| zap <| zas (Ent.trans (t0_ (t0_ (t0_ eR))) (zec hS39)) <| zas (Ent.trans (t1_ (t1_ (t1_ eR))) (zem (v0:=r8.2.Open_1) (v1:=r8.2.Open_2) (v2:=r8.2.Open_3) (v3:=r8.2.Open_4) (v4:=r8.2.X) (v5:=r8.2.T) (v6:=r8.2.Stale) (v7:=r8.2.Lost) (h0:=oc34.1) (h1:=oc34.2.1) (h2:=oc34.2.2.1) (h3:=oc34.2.2.2.1) (h4:=oc34.2.2.2.2))) <| zam <| zah <| zad ?_
  cases h
  exact fE (res1 Tryz.results29 rfl) () (t0_ (t1_ eR))
 ·
  replace h := ite_f hg1 h
  refine kT <| zac <| sR <| oA rfl rfl <| nT ?_
  obtain ⟨y42,hl40,hK41⟩ := seq_e h
  refine zbv (X:=OwnS × ArrS) [10,11,35,36,37,38,39,40,41,42,43,44,45,46,47,48,49,50,51,52,53,54,55,56,57,58,59] (fun a45=>([]:Slots)) (fun a45 R=>OwnP bs bo a45.1::Arr bs a45.2::R) (fun a45=>y42 = .inl a45) (Dels.cons del0 (Dels.cons del0 Dels.nil)) ?_ ?_
  ·
   refine zaw <| zbd (X:=Nat × OwnS × ArrS × Nat) [10,11,35,36,37,38,39,40,41,42,43,44,45,46,47,48,49,50,51,52,53,54,55,56,57,58,59] (fun ⟨n,x46,x47,x48⟩=>([(11,.int .i64 (((x48:Nat):Int)))]:Slots)) (fun ⟨n,x46,x47,x48⟩ R=>OwnP bs bo x46::Arr bs x47::R) (fun ⟨n,x46,x47,x48⟩=>zdu l lose disk leg n x46 x47 x48=some y42) (fun ⟨n,x46,x47,x48⟩=>n) ⟨FUEL,r8.2,s,0⟩ ?_ ?_ eR ?_
   · exact hl40
   · exact ⟨rfl,True.intro⟩
   ·
    rintro ⟨n,x46,x47,x48⟩ h
    cases n with
    | zero=>exact zbq h
    | succ n => ?_
    replace h:ze0 l lose disk leg (zdu l lose disk leg n) x46 x47 x48=some y42 := h
    unfold ze0 at h
    show CJ _ _ _ _ _ (([(11,.int .i64 (((x48:Nat):Int)))]:Slots) ++ forget _ _) (OwnP bs bo x46::Arr bs x47::_)
    refine zac <| sR <| oM rfl rfl <| oM rfl rfl <| oV (V_len rfl foc2 rl Tryz.runUnderlying22) rfl <| oP (P_lss (a:=((x48:Nat):Int)) (b:=((l.length:Nat):Int)) rfl rfl) rfl <| nT <| zan rfl zab (fun hg2 => ?_) (fun hg2 => ?_)
    ·
     replace h := ite_t hg2 h
     refine kT <| zac <| zaw <| sR <| oM rfl rfl <| oM rfl rfl <| oP (P_eql (a:=((x48:Nat):Int)) (b:=lose) rfl rfl) rfl <| oM rfl rfl <| zb7 44 rfl zab (fun hg3B hg3 => ?_) (fun hg3B hg3 => ?_)
     ·
      replace h := ite_t hg3 h
      refine gP (zal rfl rfl rfl hg3B) (zaj rfl) rfl <| gP (zal rfl rfl rfl hg3B) (zaj rfl) rfl <| gP (zal rfl rfl rfl hg3B) (zaj rfl) rfl ?_
      obtain ⟨r49,hr50,h⟩ := zar h
      refine RJ_gy (zal rfl rfl rfl hg3B) <| zat (zka hr50) rfl Tryz.call30 (Dels.cons del0 (Dels.cons del0 Dels.nil)) rfl fun _ _=>gP (zal rfl rfl rfl hg3B) (P_not rfl) rfl <| oP (zbh rfl hg3B rfl) rfl <| oM rfl rfl <| zb7 51 rfl (zdk Iff.rfl) (fun hg4B hg4 => ?_) (fun hg4B hg4 => ?_)
      ·
       replace h := ite_t hg4 h
       refine RJ_gn (GY_no rfl rfl rfl hg4B) rfl rfl <| RJ_gn (GY_no rfl rfl rfl hg4B) rfl rfl <| RJ_gn (GY_no rfl rfl rfl hg4B) rfl rfl <| RJ_gn (GY_no rfl rfl rfl hg4B) rfl rfl <| RJ_gn (GY_no rfl rfl rfl hg4B) rfl rfl <| RJ_gn (GY_no rfl rfl rfl hg4B) rfl rfl <| RJ_gn (GY_no rfl rfl rfl hg4B) rfl rfl <| oP (zbh rfl hg4B rfl) rfl <| nT <| zck rfl rfl <| sR <| oA rfl rfl <| nT <| zah <| zau <| zad <| za9 <| zau <| zad ?_
       have hE := Option.some.inj h
       replace hE := zce hK41 hE.symm
       subst hE
       exact fE (res1 Tryz.results29 rfl) () (t0_ (t1_ eR))
      ·
       replace h := ite_f hg4 h
       refine gP (zal rfl rfl rfl hg4B) (zaj rfl) rfl <| gP (zal rfl rfl rfl hg4B) (zaj rfl) rfl <| gP (zal rfl rfl rfl hg4B) (zaj rfl) rfl <| gV (zal rfl rfl rfl hg4B) (zay (i:=x48) rfl rfl rfl (by omega) foc2 rl Tryz.runUnderlying22 Tryz.sizeOf37) rfl <| gV (zal rfl rfl rfl hg4B) (zh1 rfl rfl (by omega) foc2 rl rfl rfl Tryz.isAgg37 Tryz.sizeOf37) rfl ?_
       obtain ⟨r51,hr52,h⟩ := zar h
       refine RJ_gy (zal rfl rfl rfl hg4B) <| zat (zkb hr52) rfl Tryz.call18 (Dels.cons del0 (Dels.cons del0 Dels.nil)) rfl fun _ _=>gP (zal rfl rfl rfl hg4B) (P_not rfl) rfl <| oP (za8 rfl hg4B rfl) rfl <| nT <| zan rfl (zdk Iff.rfl) (fun hg5 => ?_) (fun hg5 => ?_)
       ·
        replace h := ite_t hg5 h
        refine sR <| oA rfl rfl <| nT <| zah <| zau <| zad <| za9 <| zau <| zad ?_
        have hE := Option.some.inj h
        replace hE := zce hK41 hE.symm
        subst hE
        exact fE (res1 Tryz.results29 rfl) () (t0_ (t1_ eR))
       ·
        replace h := ite_f hg5 h
        exact zbr <| zao <| zam <| zaf <| oM rfl rfl <| oP (PJ_eq (P_add (a:=((x48:Nat):Int)) (b:=(1:Int)) rfl rfl (by omega)) rfl) rfl <| oA rfl rfl <| zap <| nR ⟨n,r51.2.1,r51.2.2,(x48 + 1)⟩ h ⟨rfl,True.intro⟩ eR
     ·
      replace h := ite_f hg3 h
      refine RJ_gn (GY_no rfl rfl rfl hg3B) rfl rfl <| RJ_gn (GY_no rfl rfl rfl hg3B) rfl rfl <| RJ_gn (GY_no rfl rfl rfl hg3B) rfl rfl <| RJ_gn (GY_no rfl rfl rfl hg3B) rfl rfl <| RJ_gn (GY_no rfl rfl rfl hg3B) rfl rfl <| oP (za8 rfl hg3B rfl) rfl <| oM rfl rfl <| gP (zal rfl rfl rfl rfl) (zaj rfl) rfl <| gP (zal rfl rfl rfl rfl) (zaj rfl) rfl <| gP (zal rfl rfl rfl rfl) (zaj rfl) rfl <| gV (zal rfl rfl rfl rfl) (zay (i:=x48) rfl rfl rfl (by omega) foc2 rl Tryz.runUnderlying22 Tryz.sizeOf37) rfl <| gV (zal rfl rfl rfl rfl) (zh1 rfl rfl (by omega) foc2 rl rfl rfl Tryz.isAgg37 Tryz.sizeOf37) rfl ?_
      obtain ⟨r53,hr54,h⟩ := zar h
      refine RJ_gy (zal rfl rfl rfl rfl) <| zat (zkb hr54) rfl Tryz.call18 (Dels.cons del0 (Dels.cons del0 Dels.nil)) rfl fun _ _=>gP (zal rfl rfl rfl rfl) (P_not rfl) rfl <| oP (za8 rfl rfl rfl) rfl <| nT <| zan rfl (zdk Iff.rfl) (fun hg6 => ?_) (fun hg6 => ?_)
      ·
       replace h := ite_t hg6 h
       refine sR <| oA rfl rfl <| nT <| zah <| zau <| zad <| za9 <| zau <| zad ?_
       have hE := Option.some.inj h
       replace hE := zce hK41 hE.symm
       subst hE
       exact fE (res1 Tryz.results29 rfl) () (t0_ (t1_ eR))
      ·
       replace h := ite_f hg6 h
       exact zbr <| zao <| zam <| zaf <| oM rfl rfl <| oP (PJ_eq (P_add (a:=((x48:Nat):Int)) (b:=(1:Int)) rfl rfl (by omega)) rfl) rfl <| oA rfl rfl <| zap <| nR ⟨n,r53.2.1,r53.2.2,(x48 + 1)⟩ h ⟨rfl,True.intro⟩ eR
    ·
     replace h := ite_f hg2 h
     exact zbj <| za3 <| za2 <| za0 <| cR (x46,x47) (Option.some.inj h).symm True.intro eR
  ·
   rintro a45 hy55
   replace h := zd0 hK41 hy55
   show CJ _ _ _ _ _ (([]:Slots) ++ forget _ _) (OwnP bs bo a45.1::Arr bs a45.2::_)
   refine zac <| zax (Ent.transX (t0_ eR) (ze8 (l:=a45.1))) fun oc56=>lC del4 fun hlen58=>lC del5 fun hlen59=>zaf <| oM rfl rfl <| oP (zae rfl) rfl <| oP (zaa rfl ⟨_,_,_,Tryz.runUnderlying60,rfl,rfl,Tryz.sizeOf26,rfl⟩) rfl <| oV (zag rfl foc0 rfl Tryz.isAgg26) rfl ?_
   obtain ⟨hg7,h⟩ := zd7 h
   refine oO <| zat (zt7 hg7.2) rfl Tryz.call31 (Dels.cons del6 Dels.nil) rfl fun _ _=>zap <| zas (Ent.trans (t1_ (t1_ (t1_ (t1_ (t1_ (t1_ eR)))))) (zem (v0:=a45.1.Open_1) (v1:=a45.1.Open_2) (v2:=a45.1.Open_3) (v3:=a45.1.Open_4) (v4:=a45.1.X) (v5:=a45.1.T) (v6:=a45.1.Stale) (v7:=a45.1.Lost) (h0:=oc56.1) (h1:=oc56.2.1) (h2:=oc56.2.2.1) (h3:=oc56.2.2.2.1) (h4:=oc56.2.2.2.2))) <| zam <| zac <| zac <| zax (Ent.transX (t0_ eR) (ze8 (l:=a45.1))) fun oc60=>lC del4 fun hlen62=>lC del5 fun hlen63=>zaf <| oM rfl rfl <| oP (zae rfl) rfl <| oP (zaa rfl ⟨_,_,_,Tryz.runUnderlying60,rfl,rfl,Tryz.sizeOf26,rfl⟩) rfl <| oV (zag rfl foc0 rfl Tryz.isAgg26) rfl <| oO <| zat (c_Down) rfl Tryz.call32 (Dels.cons del6 Dels.nil) rfl fun _ _=>oM rfl rfl <| zb7 70 rfl Iff.rfl (fun hg8B hg8 => ?_) (fun hg8B hg8 => ?_)
   ·
    replace h := ite_t hg8 h
    refine gP (zal rfl rfl rfl hg8B) (zaj rfl) rfl <| zbb (Ent.trans (t1_ (t1_ (t1_ (t1_ (t1_ (t1_ eR)))))) (zem (v0:=a45.1.Open_1) (v1:=a45.1.Open_2) (v2:=a45.1.Open_3) (v3:=a45.1.Open_4) (v4:=a45.1.X) (v5:=a45.1.T) (v6:=a45.1.Stale) (v7:=a45.1.Lost) (h0:=oc60.1) (h1:=oc60.2.1) (h2:=oc60.2.2.1) (h3:=oc60.2.2.2.1) (h4:=oc60.2.2.2.2))) ?_
    obtain ⟨r64,hr65,h⟩ := zar h
    refine RJ_gy (zal rfl rfl rfl hg8B) <| zat (zgv hr65) rfl Tryz.call33 (Dels.cons del0 (Dels.cons del0 Dels.nil)) rfl fun _ _=>gP (zal rfl rfl rfl hg8B) (P_not rfl) rfl <| oP (zbh rfl hg8B rfl) rfl <| nT <| zan rfl (zdk Iff.rfl) (fun hg9 => ?_) (fun hg9 => ?_)
    ·
     replace h := ite_t hg9 h
     refine sR <| oA rfl rfl <| nT <| zah <| zad ?_
     cases h
     exact fE (res1 Tryz.results29 rfl) () (t0_ (t1_ eR))
    ·
     replace h := ite_f hg9 h
     refine kT <| sR <| oM rfl rfl ?_
     obtain ⟨r66,hr67,h⟩ := zar h
     refine oO <| zat (zdh hr67) rfl Tryz.call34 (Dels.cons del0 (Dels.cons del0 Dels.nil)) rfl fun _ _=>oM rfl rfl <| zb7 77 rfl Iff.rfl (fun hg10B hg10 => ?_) (fun hg10B hg10 => ?_)
     ·
      replace h := ite_t hg10 h
      refine gP (zal rfl rfl rfl hg10B) (zaj rfl) rfl ?_
      obtain ⟨r68,hr69,h⟩ := zar h
      refine RJ_gy (zal rfl rfl rfl hg10B) <| zat (zgv hr69) rfl Tryz.call33 (Dels.cons del0 (Dels.cons del0 Dels.nil)) rfl fun _ _=>oP (zbh rfl hg10B rfl) rfl <| oM rfl rfl <| zb7 81 rfl Iff.rfl (fun hg11B hg11 => ?_) (fun hg11B hg11 => ?_)
      ·
       replace h := ite_t hg11 h
       refine gP (zal rfl rfl rfl hg11B) (zaj rfl) rfl ?_
       obtain ⟨r70,hr71,h⟩ := zar h
       refine RJ_gy (zal rfl rfl rfl hg11B) <| zat (zdh hr71) rfl Tryz.call34 (Dels.cons del0 (Dels.cons del0 Dels.nil)) rfl fun _ _=>oP (zbh rfl hg11B rfl) rfl <| oM rfl rfl <| zb7 85 rfl Iff.rfl (fun hg12B hg12 => ?_) (fun hg12B hg12 => ?_)
       ·
        replace h := ite_t hg12 h
        refine gP (zal rfl rfl rfl hg12B) (zaj rfl) rfl ?_
        obtain ⟨r72,hr73,h⟩ := zar h
        refine RJ_gy (zal rfl rfl rfl hg12B) <| zat (zdh hr73) rfl Tryz.call34 (Dels.cons del0 (Dels.cons del0 Dels.nil)) rfl fun _ _=>oP (zbh rfl hg12B rfl) rfl <| oA rfl rfl <| nT <| zah ?_
        cases h
        exact fE (res1 Tryz.results29 rfl) () (t0_ (t1_ eR))
       ·
        replace h := ite_f hg12 h
        refine RJ_gn (GY_no rfl rfl rfl hg12B) rfl rfl <| RJ_gn (GY_no rfl rfl rfl hg12B) rfl rfl <| oP (za8 rfl hg12B rfl) rfl <| oA rfl rfl <| nT <| zah ?_
        cases h
        exact fE (res1 Tryz.results29 rfl) () (t0_ (t1_ eR))
      ·
       replace h := ite_f hg11 h
       refine RJ_gn (GY_no rfl rfl rfl hg11B) rfl rfl <| RJ_gn (GY_no rfl rfl rfl hg11B) rfl rfl <| oP (za8 rfl hg11B rfl) rfl <| oM rfl rfl <| RJ_gn (GY_no rfl rfl rfl rfl) rfl rfl <| RJ_gn (GY_no rfl rfl rfl rfl) rfl rfl <| oP (za8 rfl rfl rfl) rfl <| oA rfl rfl <| nT <| zah ?_
       cases h
       exact fE (res1 Tryz.results29 rfl) () (t0_ (t1_ eR))
     ·
      replace h := ite_f hg10 h
      refine RJ_gn (GY_no rfl rfl rfl hg10B) rfl rfl <| RJ_gn (GY_no rfl rfl rfl hg10B) rfl rfl <| oP (za8 rfl hg10B rfl) rfl <| oM rfl rfl <| RJ_gn (GY_no rfl rfl rfl rfl) rfl rfl <| RJ_gn (GY_no rfl rfl rfl rfl) rfl rfl <| oP (za8 rfl rfl rfl) rfl <| oM rfl rfl <| RJ_gn (GY_no rfl rfl rfl rfl) rfl rfl <| RJ_gn (GY_no rfl rfl rfl rfl) rfl rfl <| oP (za8 rfl rfl rfl) rfl <| oA rfl rfl <| nT <| zah ?_
      cases h
      exact fE (res1 Tryz.results29 rfl) () (t0_ (t1_ eR))
   ·
    replace h := ite_f hg8 h
    refine RJ_gn (GY_no rfl rfl rfl hg8B) rfl rfl <| RJ_gn (GY_no rfl rfl rfl hg8B) rfl rfl <| RJ_gn (GY_no rfl rfl rfl hg8B) rfl rfl <| oP (za8 rfl hg8B rfl) rfl <| zap <| zas (Ent.trans (t1_ (t1_ (t1_ (t1_ (t1_ (t1_ eR)))))) (zem (v0:=a45.1.Open_1) (v1:=a45.1.Open_2) (v2:=a45.1.Open_3) (v3:=a45.1.Open_4) (v4:=a45.1.X) (v5:=a45.1.T) (v6:=a45.1.Stale) (v7:=a45.1.Lost) (h0:=oc60.1) (h1:=oc60.2.1) (h2:=oc60.2.2.1) (h3:=oc60.2.2.2.1) (h4:=oc60.2.2.2.2))) <| zam <| zgh rfl rfl <| kT <| sR <| oM rfl rfl ?_
    obtain ⟨r74,hr75,h⟩ := zar h
    refine oO <| zat (zdh hr75) rfl Tryz.call34 (Dels.cons del0 (Dels.cons del0 Dels.nil)) rfl fun _ _=>oM rfl rfl <| zb7 77 rfl Iff.rfl (fun hg13B hg13 => ?_) (fun hg13B hg13 => ?_)
    ·
     replace h := ite_t hg13 h
     refine gP (zal rfl rfl rfl hg13B) (zaj rfl) rfl ?_
     obtain ⟨r76,hr77,h⟩ := zar h
     refine RJ_gy (zal rfl rfl rfl hg13B) <| zat (zgv hr77) rfl Tryz.call33 (Dels.cons del0 (Dels.cons del0 Dels.nil)) rfl fun _ _=>oP (zbh rfl hg13B rfl) rfl <| oM rfl rfl <| zb7 81 rfl Iff.rfl (fun hg14B hg14 => ?_) (fun hg14B hg14 => ?_)
     ·
      replace h := ite_t hg14 h
      refine gP (zal rfl rfl rfl hg14B) (zaj rfl) rfl ?_
      obtain ⟨r78,hr79,h⟩ := zar h
      refine RJ_gy (zal rfl rfl rfl hg14B) <| zat (zdh hr79) rfl Tryz.call34 (Dels.cons del0 (Dels.cons del0 Dels.nil)) rfl fun _ _=>oP (zbh rfl hg14B rfl) rfl <| oM rfl rfl <| zb7 85 rfl Iff.rfl (fun hg15B hg15 => ?_) (fun hg15B hg15 => ?_)
      ·
       replace h := ite_t hg15 h
       refine gP (zal rfl rfl rfl hg15B) (zaj rfl) rfl ?_
       obtain ⟨r80,hr81,h⟩ := zar h
       refine RJ_gy (zal rfl rfl rfl hg15B) <| zat (zdh hr81) rfl Tryz.call34 (Dels.cons del0 (Dels.cons del0 Dels.nil)) rfl fun _ _=>oP (zbh rfl hg15B rfl) rfl <| oA rfl rfl <| nT <| zah ?_
       cases h
       exact fE (res1 Tryz.results29 rfl) () (t0_ (t1_ eR))
      ·
       replace h := ite_f hg15 h
       refine RJ_gn (GY_no rfl rfl rfl hg15B) rfl rfl <| RJ_gn (GY_no rfl rfl rfl hg15B) rfl rfl <| oP (za8 rfl hg15B rfl) rfl <| oA rfl rfl <| nT <| zah ?_
       cases h
       exact fE (res1 Tryz.results29 rfl) () (t0_ (t1_ eR))
     ·
      replace h := ite_f hg14 h
      refine RJ_gn (GY_no rfl rfl rfl hg14B) rfl rfl <| RJ_gn (GY_no rfl rfl rfl hg14B) rfl rfl <| oP (za8 rfl hg14B rfl) rfl <| oM rfl rfl <| RJ_gn (GY_no rfl rfl rfl rfl) rfl rfl <| RJ_gn (GY_no rfl rfl rfl rfl) rfl rfl <| oP (za8 rfl rfl rfl) rfl <| oA rfl rfl <| nT <| zah ?_
      cases h
      exact fE (res1 Tryz.results29 rfl) () (t0_ (t1_ eR))
    ·
     replace h := ite_f hg13 h
     refine RJ_gn (GY_no rfl rfl rfl hg13B) rfl rfl <| RJ_gn (GY_no rfl rfl rfl hg13B) rfl rfl <| oP (za8 rfl hg13B rfl) rfl <| oM rfl rfl <| RJ_gn (GY_no rfl rfl rfl rfl) rfl rfl <| RJ_gn (GY_no rfl rfl rfl rfl) rfl rfl <| oP (za8 rfl rfl rfl) rfl <| oM rfl rfl <| RJ_gn (GY_no rfl rfl rfl rfl) rfl rfl <| RJ_gn (GY_no rfl rfl rfl rfl) rfl rfl <| oP (za8 rfl rfl rfl) rfl <| oA rfl rfl <| nT <| zah ?_
     cases h
     exact fE (res1 Tryz.results29 rfl) () (t0_ (t1_ eR))
theorem zt9 (v0:Int) (v1:Int) (v2:Int) (v3:Bool):∀ w,(Instr.build 28 (#[(1,.int .i64 v0),(2,.int .i64 v1),(3,.int .i64 v2),(4,.bool v3)]:Array (Nat × Value))).run Tryz.prog w = .ok (.agg #[.pointer none,.int .i64 v0,.int .i64 v1,.int .i64 v2,.bool v3]) w := fun w=>by kernel_rfl
theorem zu3 (v0:(Option Addr)) (v1:Nat) (v2:Nat):zfb Tryz.prog 90 1 [(0,.slice v0 v1 v2)] 29 [.slice v0 v1 v2] := fun w=>by kernel_rfl
def zha (size:Int) (region:Int):Option (Int) :=
  if ((size < (1:Int))∨(region < (1:Int))) then
    some (0:Int)
  else
    grd (inI64 ((size - (1:Int)))) <|
    grd (inI64 (((IntKind.i64.wrap (((size - (1:Int))).tdiv region)) + (1:Int)))) <|
    some (((IntKind.i64.wrap (((size - (1:Int))).tdiv region)) + (1:Int)))
theorem znk {W:World} {size:Int} {region:Int} {r:Int} (h:zha size region=some r) :
    CSpec Tryz.prog W 17 [.int .i64 size,.int .i64 region] [] (fun x:Unit => .int .i64 r) (fun _=>True) (fun x F=>F) := by
 refine CSpec.of_body Tryz.func17 rfl Tryz.ntmps17 rfl fun F => ?_
 show CJ _ _ _ _ _ _ (F)
 unfold zha at h
 refine sR <| oA rfl rfl <| nT <| zac <| sR <| oM rfl rfl <| oP (P_lss (a:=size) (b:=(1:Int)) rfl rfl) rfl <| oM rfl rfl <| zaz rfl rfl rfl (fun hG1=>have hP2:¬ (size < (1:Int)) := nP (zab) hG1; VJ_P (zaj rfl)) <| zaz rfl rfl rfl (fun hG3=>have hP4:¬ (size < (1:Int)) := nP (zab) hG3; VJ_P (P_lss (a:=region) (b:=(1:Int)) (mbx hG3 rfl) rfl)) <| oP (zcw rfl rfl (fun hh=>mbx (not_f hh) rfl)) rfl <| nT <| zan rfl (bT_or zab zab) (fun hg1 => ?_) (fun hg1 => ?_)
 ·
  replace h := ite_t hg1 h
  refine sR <| oA rfl rfl <| nT <| zah <| zad ?_
  cases h
  exact fE (res1 Tryz.results17 rfl) () eR
 ·
  replace h := ite_f hg1 h
  refine kT <| sR <| oM rfl rfl ?_
  obtain ⟨hg2,h⟩ := zd7 h
  refine oP (P_sub (a:=size) (b:=(1:Int)) rfl rfl hg2) rfl <| oM rfl rfl <| oP (zko (a:=(size - (1:Int))) (b:=region) rfl rfl (by omega)) rfl ?_
  obtain ⟨hg3,h⟩ := zd7 h
  refine oP (P_add (a:=(IntKind.i64.wrap (((size - (1:Int))).tdiv region))) (b:=(1:Int)) rfl rfl hg3) rfl <| oA rfl rfl <| nT <| zah ?_
  cases h
  exact fE (res1 Tryz.results17 rfl) () eR
def zfz (n_0:UInt8) (r3:(List UInt64)) (rec:(List (List UInt64))→Nat→Option ((List (List UInt64)))) (x16:List (List UInt64)) (x19:Nat):Option ((List (List UInt64))) :=
  if (((x19:Nat):Int) < (((2 + ((n_0 % (2:UInt8))).toNat):Nat):Int)) then
    grd (inLen (x16.length + 1)) <|
    grd (inN64 (x19 + 1)) <|
    rec (x16 ++ [r3]) (x19 + 1)
  else
    some x16
def zdx (n_0:UInt8) (r3:(List UInt64)):Nat→(List (List UInt64))→Nat→Option ((List (List UInt64)))
  | 0,_,_=>none
  | n + 1,x16,x19=>zfz n_0 r3 (zdx n_0 r3 n) x16 x19
def zge (n_0:UInt8):Option ((Option ArrS) × Nat × Nat × Nat × Bool × (List UInt64)) :=
  grd (inN64 ((2 + ((n_0 % (2:UInt8))).toNat))) <|
  grd (inN64 ((1 + (((n_0 / (2:UInt8)) % (12:UInt8))).toNat))) <|
  grd (inN64 ((1 + (((n_0 / (24:UInt8)) % (4:UInt8))).toNat))) <|
  Option.bind (zgt ((((1 + (((n_0 / (2:UInt8)) % (12:UInt8))).toNat):Nat):Int)) (5:UInt64)) fun r3 =>
  Option.bind (zdx n_0 r3 FUEL (([]:List (List UInt64))) 0) fun a15 =>
  grd (inLen (a15.length + 1)) <|
  Option.bind (zhr ((a15 ++ [(List.replicate 3 (0:UInt64))]))) fun r38 =>
  Option.elim r38 (
    some ((none,(2 + ((n_0 % (2:UInt8))).toNat),(1 + (((n_0 / (2:UInt8)) % (12:UInt8))).toNat),(1 + (((n_0 / (24:UInt8)) % (4:UInt8))).toNat),(decide (((128:UInt8).toNat:Int)≤(n_0.toNat:Int))),[]))) fun o43 =>
  Option.bind (zfp o43) fun r46 =>
  grd (inN64 (((2 + ((n_0 % (2:UInt8))).toNat) + 1))) <|
  if (((r46.length:Nat):Int)≠((((2 + ((n_0 % (2:UInt8))).toNat) + 1):Nat):Int)) then
    some ((none,(2 + ((n_0 % (2:UInt8))).toNat),(1 + (((n_0 / (2:UInt8)) % (12:UInt8))).toNat),(1 + (((n_0 / (24:UInt8)) % (4:UInt8))).toNat),(decide (((128:UInt8).toNat:Int)≤(n_0.toNat:Int))),r3))
  else
    Option.bind (zha ((((1 + (((n_0 / (2:UInt8)) % (12:UInt8))).toNat):Nat):Int)) ((((1 + (((n_0 / (24:UInt8)) % (4:UInt8))).toNat):Nat):Int))) fun r54 =>
    Option.bind (zim ((r46.getD ((2 + ((n_0 % (2:UInt8))).toNat)) dv0)) r54 o43) fun r56 =>
    if (r56.1≠(0:Int)) then
      some ((none,(2 + ((n_0 % (2:UInt8))).toNat),(1 + (((n_0 / (2:UInt8)) % (12:UInt8))).toNat),(1 + (((n_0 / (24:UInt8)) % (4:UInt8))).toNat),(decide (((128:UInt8).toNat:Int)≤(n_0.toNat:Int))),r3))
    else
      some (((some r56.2),(2 + ((n_0 % (2:UInt8))).toNat),(1 + (((n_0 / (2:UInt8)) % (12:UInt8))).toNat),(1 + (((n_0 / (24:UInt8)) % (4:UInt8))).toNat),(decide (((128:UInt8).toNat:Int)≤(n_0.toNat:Int))),r3))
theorem zk8 {W:World} {n_0:UInt8} {r:(Option ArrS) × Nat × Nat × Nat × Bool × (List UInt64)} (h:zge n_0=some r) :
    CSpec Tryz.prog W 14 [.int .u8 (n_0.toNat:Int)] [] (fun x:Nat × Value => .tuple #[.agg #[oval r.1 x.1,.int .i64 (((r.2.1:Nat):Int)),.int .i64 (((r.2.2.1:Nat):Int)),.int .i64 (((r.2.2.2.1:Nat):Int)),.bool r.2.2.2.2.1],x.2]) (fun _=>True) (fun x F=>optP (Arr x.1) r.1::RdP tyU x.2 r.2.2.2.2.2::F) := by
 refine CSpec.of_body Tryz.func14 rfl Tryz.ntmps14 rfl fun F => ?_
 show CJ _ _ _ _ _ _ (F)
 unfold zge at h
 refine sR <| oO <| zes Tryz.zeroValue28 rfl rfl fun b1=>oA rfl rfl <| nT <| sR <| oM rfl rfl <| oP (zn7 (a:=n_0) (b:=(2:UInt8)) rfl rfl (by decide)) rfl <| oP (zlb rfl Tryz.runUnderlying5 Tryz.runUnderlying3 (zm0 _ (by have h9 := ((n_0 % (2:UInt8))).toNat_lt; exact (by omega:((n_0 % (2:UInt8))).toNat < 9223372036854775808)))) rfl ?_
 obtain ⟨hg1,h⟩ := zfg h
 refine oP (PJ_eq (P_add (a:=(2:Int)) (b:=((((n_0 % (2:UInt8))).toNat:Nat):Int)) rfl rfl (zfh hg1)) rfl) rfl <| oM rfl rfl <| oP (zv6 (a:=n_0) (b:=(2:UInt8)) rfl rfl (by decide)) rfl <| oP (zn7 (a:=(n_0 / (2:UInt8))) (b:=(12:UInt8)) rfl rfl (by decide)) rfl <| oP (zlb rfl Tryz.runUnderlying5 Tryz.runUnderlying3 (zm0 _ (by have h9 := (((n_0 / (2:UInt8)) % (12:UInt8))).toNat_lt; exact (by omega:(((n_0 / (2:UInt8)) % (12:UInt8))).toNat < 9223372036854775808)))) rfl ?_
 obtain ⟨hg2,h⟩ := zfg h
 refine oP (PJ_eq (P_add (a:=(1:Int)) (b:=(((((n_0 / (2:UInt8)) % (12:UInt8))).toNat:Nat):Int)) rfl rfl (zfh hg2)) rfl) rfl <| oM rfl rfl <| oP (zv6 (a:=n_0) (b:=(24:UInt8)) rfl rfl (by decide)) rfl <| oP (zn7 (a:=(n_0 / (24:UInt8))) (b:=(4:UInt8)) rfl rfl (by decide)) rfl <| oP (zlb rfl Tryz.runUnderlying5 Tryz.runUnderlying3 (zm0 _ (by have h9 := (((n_0 / (24:UInt8)) % (4:UInt8))).toNat_lt; exact (by omega:(((n_0 / (24:UInt8)) % (4:UInt8))).toNat < 9223372036854775808)))) rfl ?_
 obtain ⟨hg3,h⟩ := zfg h
 refine oP (PJ_eq (P_add (a:=(1:Int)) (b:=(((((n_0 / (24:UInt8)) % (4:UInt8))).toNat:Nat):Int)) rfl rfl (zfh hg3)) rfl) rfl <| oM rfl rfl <| oP (P_geq (a:=(n_0.toNat:Int)) (b:=((128:UInt8).toNat:Int)) rfl rfl) rfl <| oP (zfn rfl (zt9 _ _ _ _)) rfl <| oO <| zes Tryz.zeroValue28 rfl rfl fun b2=>oO <| zfm rfl rfl foc0 Tryz.sizeOf28 rfl rfl rfl <| nT <| sR <| oP (zaa rfl ⟨_,_,_,Tryz.runUnderlying28,rfl,rfl,Tryz.sizeOf3,rfl⟩) rfl <| oV (zag rfl foc0 rfl Tryz.isAgg3) rfl ?_
 obtain ⟨r3,hr4,h⟩ := zar h
 refine oO <| zat (zlh hr4) rfl Tryz.call26 Dels.nil rfl fun X5 _=>oA rfl rfl <| nT <| sR <| oA rfl rfl <| nT <| zac <| sR <| oA rfl rfl <| nT <| zz2 del0 <| zde (fun h hh=>zdj (t:=tyRow) h (zpe (RP:=RowP) h hh)) ?_
 obtain ⟨y11,hl9,hK10⟩ := zfw h
 refine zbv (X:=(List (List UInt64)) × Sl3 × (List Sl3)) [6,7,29,30,31,32,33,34,35,36,37,38] (fun ⟨a15,hd13,hs14⟩=>([(6,hd13.v)]:Slots)) (fun ⟨a15,hd13,hs14⟩ R=>sl tyRow hd13.v hs14::Rs RowP a15 hs14::R) (fun ⟨a15,hd13,hs14⟩=>y11=a15) (Dels.cons del0 (Dels.cons del0 Dels.nil)) ?_ ?_
 ·
  refine zaw <| zbd (X:=Nat × (List (List UInt64)) × Nat × Sl3 × (List Sl3)) [6,7,29,30,31,32,33,34,35,36,37,38] (fun ⟨n,x16,x19,hd17,hs18⟩=>([(6,hd17.v),(7,.int .i64 (((x19:Nat):Int)))]:Slots)) (fun ⟨n,x16,x19,hd17,hs18⟩ R=>sl tyRow hd17.v hs18::Rs RowP x16 hs18::R) (fun ⟨n,x16,x19,hd17,hs18⟩=>zdx n_0 r3 n x16 x19=some y11) (fun ⟨n,x16,x19,hd17,hs18⟩=>n) ⟨FUEL,([]:List (List UInt64)),0,⟨none,0,0⟩,([]:List Sl3)⟩ ?_ ?_ eR ?_
  · exact hl9
  · exact ⟨rfl,rfl,True.intro⟩
  ·
   rintro ⟨n,x16,x19,hd17,hs18⟩ h
   cases n with
   | zero=>exact zbq h
   | succ n => ?_
   replace h:zfz n_0 r3 (zdx n_0 r3 n) x16 x19=some y11 := h
   unfold zfz at h
   show CJ _ _ _ _ _ (([(6,hd17.v),(7,.int .i64 (((x19:Nat):Int)))]:Slots) ++ forget _ _) (sl tyRow hd17.v hs18::Rs RowP x16 hs18::_)
   refine lC del0 fun hlen20=>za1 (fun h hh=>za7 (zaq (del1 (A:=Rs RowP x16 hs18)).out h hh)) fun hdl21=>zac <| sR <| oM rfl rfl <| oP (zaa rfl ⟨_,_,_,Tryz.runUnderlying28,rfl,rfl,Tryz.sizeOf3,rfl⟩) rfl <| oV (zag rfl foc3 rfl Tryz.isAgg3) rfl <| oP (P_lss (a:=((x19:Nat):Int)) (b:=(((2 + ((n_0 % (2:UInt8))).toNat):Nat):Int)) rfl rfl) rfl <| nT <| zan rfl zab (fun hg4 => ?_) (fun hg4 => ?_)
   ·
    replace h := ite_t hg4 h
    refine kT <| zac <| zaw <| zaf <| oM rfl rfl <| oM rfl rfl <| oO <| zbf rfl (zu3 _ _ _) rfl fun b22=>zbb (Ent.trans (t3_ eR) (fun h hh=>zi8 Dup.slR hh)) <| zbb (Ent.take1 del0 (zyj (h:=(X5:Sl3)) Dup.slR (Reads.slR _ _ _)) eR) ?_
    obtain ⟨hg5,h⟩ := zfo h
    refine oO <| zc9 (t:=tyRow) (bytes:=24) rfl rfl del3 foc2 (Reads.lit (t:=tyRow) (ys:=[(X5:Sl3)]) rfl rfl (by decide) (by decide) rfl) Tryz.underlying90 zwh (apl (m:=1) (b:=24) (by have hz:_≤1000000000 := hg5; have := hdl21; omega) (by decide)).1 (apl (m:=1) (b:=24) (by have hz:_≤1000000000 := hg5; have := hdl21; omega) (by decide)).2 rfl fun p25 c26=>zbb (Ent.trans (t4_ (t1_ eR)) (zpf (x:=r3) (g:=(X5:Sl3)) zwi)) <| zcl (fun h hh=>za7 (zaq (del0 (A:=Rs RowP (x16 ++ [r3]) ((hs18 ++ [(X5:Sl3)])))).out h hh)) fun hdl27=>oA rfl rfl <| zap <| zao <| zas (t0_ (t1_ (t1_ (t2_ (t2_ (eD (eD eR))))))) <| zam <| zaf <| oM rfl rfl ?_
    obtain ⟨hg6,h⟩ := zfg h
    exact oP (PJ_eq (P_add (a:=((x19:Nat):Int)) (b:=(1:Int)) rfl rfl (zfh hg6)) rfl) rfl <| oA rfl rfl <| zap <| nR ⟨n,(x16 ++ [r3]),(x19 + 1),⟨p25,(hs18 ++ [(X5:Sl3)]).length,c26⟩,(hs18 ++ [(X5:Sl3)])⟩ h ⟨rfl,rfl,True.intro⟩ (t1_ eR)
   ·
    replace h := ite_f hg4 h
    exact zbj <| za3 <| za2 <| za0 <| cR ⟨x16,hd17,hs18⟩ (Option.some.inj h).symm ⟨rfl,True.intro⟩ eR
 ·
  rintro ⟨a15,hd13,hs14⟩ hy28
  replace h := zd2 hK10 hy28
  show CJ _ _ _ _ _ (([(6,hd13.v)]:Slots) ++ forget _ _) (sl tyRow hd13.v hs14::Rs RowP a15 hs14::_)
  refine lC del0 fun hlen29=>za1 (fun h hh=>za7 (zaq (del1 (A:=Rs RowP a15 hs14)).out h hh)) fun hdl30=>sR <| oM rfl rfl <| oO <| zkp (t:=tyU) (m:=3) (x0:=0) (z:=_) (bytes:=_) rfl rfl rfl rfl Tryz.underlying29 ⟨Tryz.t23,by kernel_rfl,rfl,rfl,rfl⟩ rfl (by omega) (by decide) rfl fun b31=>oO <| zbf rfl (zu3 _ _ _) rfl fun b32=>zz3 del1 <| zbb (Ent.trans (t0_ eR) (fun h hh=>zi8 Dup.slR hh)) <| zbb (Ent.take1 del0 (zyj (h:=(⟨some ⟨b31,0,none⟩,3,3⟩:Sl3)) Dup.slR (Reads.slR _ _ _)) eR) ?_
  obtain ⟨hg7,h⟩ := zfo h
  refine oO <| zc9 (t:=tyRow) (bytes:=24) rfl rfl del3 foc2 (Reads.lit (t:=tyRow) (ys:=[(⟨some ⟨b31,0,none⟩,3,3⟩:Sl3)]) rfl rfl (by decide) (by decide) rfl) Tryz.underlying90 zwh (apl (m:=1) (b:=24) (by have hz:_≤1000000000 := hg7; have := hdl30; omega) (by decide)).1 (apl (m:=1) (b:=24) (by have hz:_≤1000000000 := hg7; have := hdl30; omega) (by decide)).2 rfl fun p35 c36=>zbb (Ent.trans (t4_ (t1_ eR)) (zpf (x:=(List.replicate 3 (0:UInt64))) (g:=(⟨some ⟨b31,0,none⟩,3,3⟩:Sl3)) zwi)) <| zcl (fun h hh=>za7 (zaq (del0 (A:=Rs RowP ((a15 ++ [(List.replicate 3 (0:UInt64))])) ((hs14 ++ [(⟨some ⟨b31,0,none⟩,3,3⟩:Sl3)])))).out h hh)) fun hdl37=>oA rfl rfl <| zap <| zas (t0_ (t1_ (t3_ (t3_ (t3_ (eD (eD (eD eR)))))))) <| zam <| sR <| oM rfl rfl ?_
  obtain ⟨r38,hr39,h⟩ := zar h
  refine oO <| zat (zn9 (Reads.sl _ _ _) (RowsR.rs hdl37) hr39) rfl Tryz.call43 (Dels.cons del1 (Dels.cons del0 Dels.nil)) rfl fun X40 _=>oP (zaa rfl ⟨_,_,_,Tryz.runUnderlying28,rfl,rfl,Tryz.sizeOf26,rfl⟩) rfl <| oO <| zbu rfl rfl foc4 rfl zmh Tryz.sizeOf26 <| nT <| zac <| sR <| oP (zaa rfl ⟨_,_,_,Tryz.runUnderlying28,rfl,rfl,Tryz.sizeOf26,rfl⟩) rfl <| oV (zag rfl foc4 rfl Tryz.isAgg26) rfl ?_
  rcases opt_e h with ⟨ht42,h⟩ | ⟨o43,ht42,h⟩
  ·
   rw [ht42]
   refine zbb (t0_ (t0_ (t1_ (t1_ (t1_ (eD eR)))))) <| oP (zmx rfl rfl Tryz.underlying26) rfl <| nT <| zck rfl rfl <| sR <| oV (zhb rfl foc3 Tryz.isAgg28 Tryz.sizeOf28 rfl rfl) rfl <| oO <| zfm rfl rfl foc4 Tryz.sizeOf28 rfl rfl rfl <| oA rfl rfl <| nT <| zah <| zad <| zas (fun h hh=>zdj (t:=tyU) h hh) <| zas (Ent.trans (t0_ eR) (zpg (t:=tyU) (v := .slice none 0 0) (xs:=[]) (Reads.sl _ _ _))) ?_
   cases h
   exact fE (resA2 Tryz.results14 (zpv rfl foc5 Tryz.isAgg28 Tryz.sizeOf28 rfl rfl) (zs5 rfl)) ⟨0,.slice none 0 0⟩ (Ent.trans (fun h hh=>zb8 h hh) <| t0_ (t0_ (eD (eD (eD (eD (eD eR)))))))
  ·
   rw [ht42]
   refine zbb (Ent.takeC (A' := Arr X40 o43) del2 rfl eR) <| oP (zmw rfl rfl Tryz.underlying26) rfl <| nT <| zgh rfl rfl <| kT <| sR <| oP (zaa rfl ⟨_,_,_,Tryz.runUnderlying28,rfl,rfl,Tryz.sizeOf26,rfl⟩) rfl <| oV (zag rfl foc4 rfl Tryz.isAgg26) rfl ?_
   obtain ⟨r46,hr47,h⟩ := zar h
   refine oO <| zat (zli hr47) rfl Tryz.call44 (Dels.cons del0 Dels.nil) rfl fun X48 _=>zcl (fun h hh=>za7 (zaq (del2 (A:=Rs (DevP X40) r46 X48.2)).out h hh)) fun hdl51=>oA rfl rfl <| zap <| zas (t0_ (t0_ (t0_ (t2_ (t2_ (t2_ (eD (eD eR)))))))) <| zam <| zac <| zac <| zbc 131072 (by kernel_rfl) rfl <| aN 0 1 rfl rfl (zaj rfl) rfl <| aV 1 3 rfl rfl (zak rfl) eR (VJ_eq (V_len rfl foc1 (Reads.sl _ _ _) Tryz.runUnderlying92) (congrArg (fun z:Nat=>Value.int .i64 (z:Int)) (hdl51).symm)) rfl <| aN 2 7 rfl rfl (zaa rfl ⟨_,_,_,Tryz.runUnderlying28,rfl,rfl,Tryz.sizeOf3,rfl⟩) rfl <| aV 3 15 rfl rfl (zak rfl) eR (zag rfl foc4 rfl Tryz.isAgg3) rfl ?_
   obtain ⟨hg8,h⟩ := zfg h
   refine aN 4 31 rfl rfl (PJ_eq (P_add (a:=(((2 + ((n_0 % (2:UInt8))).toNat):Nat):Int)) (b:=(1:Int)) rfl rfl (zfh hg8)) rfl) rfl <| aN 5 63 rfl rfl (P_neq (a:=((r46.length:Nat):Int)) (b:=((((2 + ((n_0 % (2:UInt8))).toNat) + 1):Nat):Int)) rfl rfl) rfl <| aN 6 127 rfl rfl (zaj rfl) rfl <| ziv 59 rfl zab (fun hg9B hg9 => ?_) (fun hg9B hg9 => ?_)
   ·
    replace h := ite_t hg9 h
    refine aS 7 255 rfl rfl (GY_no rfl rfl rfl hg9B) rfl <| aS 8 511 rfl rfl (GY_no rfl rfl rfl hg9B) rfl <| aS 9 1023 rfl rfl (GY_no rfl rfl rfl hg9B) rfl <| aS 10 2047 rfl rfl (GY_no rfl rfl rfl hg9B) rfl <| aS 11 4095 rfl rfl (GY_no rfl rfl rfl hg9B) rfl <| aS 12 8191 rfl rfl (GY_no rfl rfl rfl hg9B) rfl <| aS 13 16383 rfl rfl (GY_no rfl rfl rfl hg9B) rfl <| aS 14 32767 rfl rfl (GY_no rfl rfl rfl hg9B) rfl <| aS 15 65535 rfl rfl (GY_no rfl rfl rfl hg9B) rfl <| aS 16 131071 rfl rfl (GY_no rfl rfl rfl hg9B) rfl <| aS 17 262143 rfl rfl (GY_no rfl rfl rfl hg9B) rfl <| aS 18 524287 rfl rfl (GY_no rfl rfl rfl hg9B) rfl <| aN 19 1048575 rfl rfl (zbh rfl hg9B rfl) rfl <| aD <| zck rfl rfl <| zaf <| oP (zaa rfl ⟨_,_,_,Tryz.runUnderlying28,rfl,rfl,Tryz.sizeOf26,rfl⟩) rfl <| oO <| zbu rfl rfl foc4 rfl rfl Tryz.sizeOf26 <| nT <| sR <| oV (zhb rfl foc4 Tryz.isAgg28 Tryz.sizeOf28 rfl rfl) rfl <| oM rfl rfl <| oO <| zfm rfl rfl foc5 Tryz.sizeOf28 rfl rfl rfl <| oA rfl rfl <| nT <| zah <| zas (Ent.trans (t3_ eR) (zpg (t:=tyU) (v:=X5.v) (xs:=r3) (Reads.slR _ _ _))) ?_
    cases h
    exact fE (resA2 Tryz.results14 (zpv rfl foc5 Tryz.isAgg28 Tryz.sizeOf28 rfl rfl) (zs5 rfl)) ⟨0,X5.v⟩ (Ent.trans (fun h hh=>zb8 h hh) <| t0_ (t0_ (eD (eD (eD (eD (eD eR)))))))
   ·
    replace h := ite_f hg9 h
    refine aP 7 255 rfl rfl (zal rfl rfl rfl hg9B) (zaj rfl) rfl <| aP 8 511 rfl rfl (zal rfl rfl rfl hg9B) (zaa rfl ⟨_,_,_,Tryz.runUnderlying28,rfl,rfl,Tryz.sizeOf3,rfl⟩) rfl <| aV 9 1023 rfl rfl (zal rfl rfl rfl hg9B) eR (zag rfl foc4 rfl Tryz.isAgg3) rfl <| aV 10 2047 rfl rfl (zal rfl rfl rfl hg9B) eR (zay (i:=(2 + ((n_0 % (2:UInt8))).toNat)) rfl rfl rfl (by have hz:(2 + ((n_0 % (2:UInt8))).toNat) < r46.length := (by omega); have hy := hdl51; omega) foc1 (Reads.sl _ _ _) Tryz.runUnderlying92 Tryz.sizeOf96) rfl <| zey (Ent.trans (t2_ eR) (Rs_at (fun _ _=>zhl) (dx:=dv0) (dh:=tyDev.dflt) (i:=(2 + ((n_0 % (2:UInt8))).toNat)) (by omega))) <| aV 11 4095 rfl rfl (zal rfl rfl rfl hg9B) (t2_ (t2_ (t1_ (t1_ (t1_ (t1_ (eD eR))))))) (za6 rfl rfl (by have hz:(2 + ((n_0 % (2:UInt8))).toNat) < r46.length := (by omega); have hy := hdl51; omega) foc1 (Reads.sl _ _ _) rfl rfl Tryz.isAgg96) rfl <| aP 12 8191 rfl rfl (zal rfl rfl rfl hg9B) (zaa rfl ⟨_,_,_,Tryz.runUnderlying28,rfl,rfl,Tryz.sizeOf3,rfl⟩) rfl <| aV 13 16383 rfl rfl (zal rfl rfl rfl hg9B) (t2_ (t2_ (t1_ (t1_ (t1_ (t1_ (eD eR))))))) (zag rfl foc4 rfl Tryz.isAgg3) rfl ?_
    refine aP 14 32767 rfl rfl (zal rfl rfl rfl hg9B) (zaa rfl ⟨_,_,_,Tryz.runUnderlying28,rfl,rfl,Tryz.sizeOf3,rfl⟩) rfl <| aV 15 65535 rfl rfl (zal rfl rfl rfl hg9B) (t2_ (t2_ (t1_ (t1_ (t1_ (t1_ (eD eR))))))) (zag rfl foc4 rfl Tryz.isAgg3) rfl ?_
    obtain ⟨r54,hr55,h⟩ := zar h
    refine AJ_op 16 131071 rfl (by kernel_rfl) rfl (zal rfl rfl rfl hg9B) <| zat (znk hr55) rfl Tryz.call17 Dels.nil rfl fun _ _=>⟨fun _=>(t2_ (t2_ (t1_ (t1_ (t1_ (t1_ (eD eR))))))),?_⟩
    obtain ⟨r56,hr57,h⟩ := zar h
    refine AJ_op 17 262143 rfl (by kernel_rfl) rfl (zal rfl rfl rfl hg9B) <| zat (zqx hr57) rfl Tryz.call45 (Dels.cons del0 (Dels.cons del1 Dels.nil)) rfl fun _ _=>⟨fun h=>absurd h (by decide),?_⟩
    refine aP 18 524287 rfl rfl (zal rfl rfl rfl hg9B) (P_neq (a:=r56.1) (b:=(0:Int)) rfl rfl) rfl <| aN 19 1048575 rfl rfl (za8 rfl hg9B rfl) rfl <| zcd (by kernel_rfl) <| zas (t1_ (t3_ (t3_ (t3_ (eD (eD (eD eR))))))) <| zam <| zan rfl zab (fun hg10 => ?_) (fun hg10 => ?_)
    ·
     replace h := ite_t hg10 h
     refine zaf <| oP (zaa rfl ⟨_,_,_,Tryz.runUnderlying28,rfl,rfl,Tryz.sizeOf26,rfl⟩) rfl <| oO <| zbu rfl rfl foc2 rfl rfl Tryz.sizeOf26 <| nT <| sR <| oV (zhb rfl foc2 Tryz.isAgg28 Tryz.sizeOf28 rfl rfl) rfl <| oM rfl rfl <| oO <| zfm rfl rfl foc3 Tryz.sizeOf28 rfl rfl rfl <| oA rfl rfl <| nT <| zah <| zas (Ent.trans (t1_ eR) (zpg (t:=tyU) (v:=X5.v) (xs:=r3) (Reads.slR _ _ _))) ?_
     cases h
     exact fE (resA2 Tryz.results14 (zpv rfl foc3 Tryz.isAgg28 Tryz.sizeOf28 rfl rfl) (zs5 rfl)) ⟨0,X5.v⟩ (Ent.trans (fun h hh=>zb8 h hh) <| t0_ (t0_ (eD (eD (eD eR)))))
    ·
     replace h := ite_f hg10 h
     refine kT <| sR <| oV (zhb rfl foc2 Tryz.isAgg28 Tryz.sizeOf28 rfl rfl) rfl <| oM rfl rfl <| oO <| zfm rfl rfl foc3 Tryz.sizeOf28 rfl rfl rfl <| oA rfl rfl <| nT <| zah <| zas (Ent.trans (t1_ eR) (zpg (t:=tyU) (v:=X5.v) (xs:=r3) (Reads.slR _ _ _))) ?_
     cases h
     exact fE (resA2 Tryz.results14 (zpv rfl foc3 Tryz.isAgg28 Tryz.sizeOf28 rfl rfl) (zs5 rfl)) ⟨X40,X5.v⟩ (t1_ (t0_ (eD (eD eR))))
end Go.Proofs
set_option linter.unusedSimpArgs false
set_option linter.unusedVariables false
set_option maxRecDepth 20000
set_option maxHeartbeats 4000000
namespace Go.Proofs
open Go.VG
def zgf:Option (Bool) :=
  Option.bind (zge (2:UInt8)) fun r1 =>
  Option.elim r1.1 (
    some false) fun o8 =>
  if (((r1.2.2.2.2.2.length:Nat):Int)≠(2:Int)) then
    some false
  else
    Option.bind (zdt o8 (((r1.2.1:Nat):Int)) (((r1.2.2.1:Nat):Int)) (((r1.2.2.2.1:Nat):Int)) r1.2.2.2.2.1 ([])) fun r10 =>
    if (r10.2≠(0:Int)) then
      some false
    else
      Option.elim r10.1 (
        some false) fun o19 =>
      Option.bind (zep o19 o8) fun r20 =>
      if (((r20.length:Nat):Int)≠(2:Int)) then
        some false
      else
        Option.bind (zf5 o19 (100:Int) o8) fun r24 =>
        Option.bind (zb4 r24.2.2.1 (1:Int) r24.2.2.2) fun r26 =>
        if ((r24.2.1=(0:Int))∧(r24.1=(0:Int))) then
          Option.bind (zep r26.2.2.1 r26.2.2.2) fun r32 =>
          if (((((r32.length:Nat):Int)=(0:Int))∧(r26.2.1=(0:Int)))∧(r26.1=(r1.2.2.2.2.2.getD 1 0))) then
            Option.bind (zhc (9:Int) (4:Int)) fun r50 =>
            some ((decide (r50=(3:Int))))
          else
            some false
        else
          some false
theorem zjf {W:World} {r:Bool} (h:zgf=some r) :
    CSpec Tryz.prog W 13 [] [] (fun x:Unit => .bool r) (fun _=>True) (fun x F=>F) := by
 refine CSpec.of_body Tryz.func13 rfl Tryz.ntmps13 rfl fun F => ?_
 show CJ _ _ _ _ _ _ (F)
 unfold zgf at h
 refine sR <| oA rfl rfl <| nT <| sR ?_
 obtain ⟨r1,hr2,h⟩ := zar h
 refine oO <| zat (zk8 hr2) rfl Tryz.call14 Dels.nil rfl fun X3 _=>oM rfl rfl <| oP (za4 rfl rfl) rfl <| oP (za4 (v:=X3.2) rfl rfl) rfl <| oO <| zes Tryz.zeroValue28 rfl rfl fun b6=>oO <| zfm rfl rfl foc0 Tryz.sizeOf28 rfl rfl (by simp only [zn3,zmh,zry,zn8,Bool.true_and]; rfl) <| oA rfl rfl <| nT <| zac <| sR <| oP (zaa rfl ⟨_,_,_,Tryz.runUnderlying28,rfl,rfl,Tryz.sizeOf26,rfl⟩) rfl <| oV (zag rfl foc0 rfl Tryz.isAgg26) rfl ?_
 rcases opt_e h with ⟨ht7,h⟩ | ⟨o8,ht7,h⟩
 ·
  rw [ht7]
  refine zbb (t0_ (t1_ (eD eR))) <| oP (zmx rfl rfl Tryz.underlying26) rfl <| oM rfl rfl <| RJ_gn (GY_no rfl rfl rfl rfl) rfl rfl <| RJ_gn (GY_no rfl rfl rfl rfl) rfl rfl <| RJ_gn (GY_no rfl rfl rfl rfl) rfl rfl <| oP (zbh rfl rfl rfl) rfl <| nT <| zck rfl rfl <| sR <| oA rfl rfl <| nT <| zah <| zad ?_
  cases h
  exact fE (res1 Tryz.results13 rfl) () (eD (eD eR))
 ·
  rw [ht7]
  refine zbb (Ent.takeC (A' := Arr X3.1 o8) del1 rfl eR) <| oP (zmw rfl rfl Tryz.underlying26) rfl <| oM rfl rfl <| gP (zal rfl rfl rfl rfl) (zaj rfl) rfl <| gV (zal rfl rfl rfl rfl) (V_len rfl foc2 (Reads.rdp _ _ _) Tryz.runUnderlying29) rfl <| gP (zal rfl rfl rfl rfl) (P_neq (a:=((r1.2.2.2.2.2.length:Nat):Int)) (b:=(2:Int)) rfl rfl) rfl <| oP (za8 rfl rfl rfl) rfl <| nT <| zan rfl zab (fun hg1 => ?_) (fun hg1 => ?_)
  ·
   replace h := ite_t hg1 h
   refine sR <| oA rfl rfl <| nT <| zah <| zad ?_
   cases h
   exact fE (res1 Tryz.results13 rfl) () (eD (eD (eD eR)))
  ·
   replace h := ite_f hg1 h
   refine kT <| sR <| oV (zhb rfl foc1 Tryz.isAgg28 Tryz.sizeOf28 rfl rfl) rfl <| zbb (fun h hh=>zdj (t:=tyI) h hh) ?_
   obtain ⟨r10,hr11,h⟩ := zar h
   refine oO <| zat (zjg (Reads.sl _ _ _) hr11) rfl Tryz.call21 (Dels.cons del1 (Dels.cons del0 Dels.nil)) rfl fun X12 _=>oM rfl rfl <| oP (za4 rfl rfl) rfl <| oP (za4 rfl rfl) rfl <| oA rfl rfl <| oA rfl rfl <| nT <| zac <| sR <| oM rfl rfl <| oP (P_neq (a:=r10.2) (b:=(0:Int)) rfl rfl) rfl <| oM rfl rfl <| zaz rfl rfl rfl (fun hG14=>have hP15:¬ (r10.2≠(0:Int)) := nP (zab) hG14; VJ_P (zaj rfl)) <| zb7 28 rfl zab (fun hg2B hg2 => ?_) (fun hg2B hg2 => ?_)
   ·
    replace h := ite_t hg2 h
    refine RJ_gn (GY_no rfl rfl rfl hg2B) rfl rfl <| oP (zbh rfl hg2B rfl) rfl <| oM rfl rfl <| RJ_gn (GY_no rfl rfl rfl rfl) rfl rfl <| RJ_gn (GY_no rfl rfl rfl rfl) rfl rfl <| RJ_gn (GY_no rfl rfl rfl rfl) rfl rfl <| RJ_gn (GY_no rfl rfl rfl rfl) rfl rfl <| oP (zbh rfl rfl rfl) rfl <| nT <| zck rfl rfl <| sR <| oA rfl rfl <| nT <| zah <| zad ?_
    cases h
    exact fE (res1 Tryz.results13 rfl) () (eD (eD (eD (eD (eD eR)))))
   ·
    replace h := ite_f hg2 h
    rcases opt_e h with ⟨ht18,h⟩ | ⟨o19,ht18,h⟩
    ·
     rw [ht18]
     refine zbb (t0_ (t0_ (t1_ (t1_ (eD eR))))) <| gP (zal rfl rfl rfl hg2B) (zmx (mbx (not_f hg2B) rfl) rfl Tryz.underlying41) rfl <| oP (za8 rfl hg2B rfl) rfl <| oM rfl rfl <| RJ_gn (GY_no rfl rfl rfl rfl) rfl rfl <| RJ_gn (GY_no rfl rfl rfl rfl) rfl rfl <| RJ_gn (GY_no rfl rfl rfl rfl) rfl rfl <| RJ_gn (GY_no rfl rfl rfl rfl) rfl rfl <| oP (zbh rfl rfl rfl) rfl <| nT <| zck rfl rfl <| sR <| oA rfl rfl <| nT <| zah <| zad ?_
     cases h
     exact fE (res1 Tryz.results13 rfl) () (eD (eD (eD (eD eR))))
    ·
     rw [ht18]
     refine zbb (Ent.takeC (A' := MirP X3.1 X12 o19) del2 rfl eR) <| gP (zal rfl rfl rfl hg2B) (zmw (mbx (not_f hg2B) rfl) rfl Tryz.underlying41) rfl <| oP (za8 rfl hg2B rfl) rfl <| oM rfl rfl <| gP (zal rfl rfl rfl rfl) (zaj rfl) rfl ?_
     obtain ⟨r20,hr21,h⟩ := zar h
     refine RJ_gy (zal rfl rfl rfl rfl) <| zat (zhy hr21) rfl Tryz.call22 (Dels.cons del0 (Dels.cons del0 Dels.nil)) rfl fun X22 _=>gV (zal rfl rfl rfl rfl) (V_len rfl foc2 (Reads.sl _ _ _) Tryz.runUnderlying45) rfl <| gP (zal rfl rfl rfl rfl) (P_neq (a:=((r20.length:Nat):Int)) (b:=(2:Int)) rfl rfl) rfl <| oP (za8 rfl rfl rfl) rfl <| nT <| zan rfl zab (fun hg3 => ?_) (fun hg3 => ?_)
     ·
      replace h := ite_t hg3 h
      refine sR <| oA rfl rfl <| nT <| zah <| zad ?_
      cases h
      exact fE (res1 Tryz.results13 rfl) () (eD (eD (eD (eD (eD (eD eR))))))
     ·
      replace h := ite_f hg3 h
      refine kT <| sR <| oM rfl rfl ?_
      obtain ⟨r24,hr25,h⟩ := zar h
      refine oO <| zat (zlr hr25) rfl Tryz.call27 (Dels.cons del0 (Dels.cons del0 Dels.nil)) rfl fun _ _=>oM rfl rfl <| oP (za4 rfl rfl) rfl <| oP (za4 rfl rfl) rfl <| oA rfl rfl <| oA rfl rfl <| nT <| sR <| oM rfl rfl ?_
      obtain ⟨r26,hr27,h⟩ := zar h
      refine oO <| zat (zkm hr27) rfl Tryz.call41 (Dels.cons del0 (Dels.cons del0 Dels.nil)) rfl fun _ _=>oM rfl rfl <| oP (za4 rfl rfl) rfl <| oP (za4 rfl rfl) rfl <| oA rfl rfl <| oA rfl rfl <| nT <| sR <| oM rfl rfl <| oP (P_eql (a:=r24.2.1) (b:=(0:Int)) rfl rfl) rfl <| oM rfl rfl <| zbk rfl rfl rfl (fun hG28=>have hP29:(r24.2.1=(0:Int)) := (zab).1 hG28; VJ_P (zaj rfl)) <| zbk rfl rfl rfl (fun hG30=>have hP31:(r24.2.1=(0:Int)) := (zab).1 hG30; VJ_P (P_eql (a:=r24.1) (b:=(0:Int)) (mbx hG30 rfl) rfl)) <| oP (zd1 rfl (fun hh=>mbx hh rfl) rfl) rfl <| oM rfl rfl <| zb7 54 rfl (zc3 zab zab) (fun hg4B hg4 => ?_) (fun hg4B hg4 => ?_)
      ·
       replace h := ite_t hg4 h
       refine gP (zal rfl rfl rfl hg4B) (zaj rfl) rfl ?_
       obtain ⟨r32,hr33,h⟩ := zar h
       refine RJ_gy (zal rfl rfl rfl hg4B) <| zat (zhy hr33) rfl Tryz.call22 (Dels.cons del0 (Dels.cons del0 Dels.nil)) rfl fun X34 _=>gV (zal rfl rfl rfl hg4B) (V_len rfl foc2 (Reads.sl _ _ _) Tryz.runUnderlying45) rfl <| gP (zal rfl rfl rfl hg4B) (P_eql (a:=((r32.length:Nat):Int)) (b:=(0:Int)) rfl rfl) rfl <| oP (zbh rfl hg4B rfl) rfl <| oM rfl rfl <| zbk rfl rfl rfl (fun hG36=>have hP37:(((r32.length:Nat):Int)=(0:Int)) := (zab).1 hG36; VJ_P (zaj rfl)) <| zbk rfl rfl rfl (fun hG38=>have hP39:(((r32.length:Nat):Int)=(0:Int)) := (zab).1 hG38; VJ_P (P_eql (a:=r26.2.1) (b:=(0:Int)) (mbx hG38 rfl) rfl)) <| oP (zd1 rfl (fun hh=>mbx hh rfl) rfl) rfl <| oM rfl rfl <| zbk rfl rfl rfl (fun hG40=>have hP41:((((r32.length:Nat):Int)=(0:Int))∧(r26.2.1=(0:Int))) := ((zc3 zab zab)).1 hG40; VJ_P (zaj rfl)) <| zbk rfl rfl rfl (fun hG42=>have hP43:((((r32.length:Nat):Int)=(0:Int))∧(r26.2.1=(0:Int))) := ((zc3 zab zab)).1 hG42; VJ_P (zaj rfl)) <| zbk rfl rfl rfl (fun hG44=>have hP45:((((r32.length:Nat):Int)=(0:Int))∧(r26.2.1=(0:Int))) := ((zc3 zab zab)).1 hG44; zay (i:=1) (mbx hG44 rfl) rfl rfl (by omega) foc6 (Reads.rdp _ _ _) Tryz.runUnderlying29 Tryz.sizeOf23) ?_
       refine zbk rfl rfl rfl (fun hG46=>have hP47:((((r32.length:Nat):Int)=(0:Int))∧(r26.2.1=(0:Int))) := ((zc3 zab zab)).1 hG46; za6 (mbx hG46 rfl) rfl (by omega) foc6 (Reads.rdp _ _ _) rfl rfl Tryz.isAgg23) <| zbk rfl rfl rfl (fun hG48=>have hP49:((((r32.length:Nat):Int)=(0:Int))∧(r26.2.1=(0:Int))) := ((zc3 zab zab)).1 hG48; VJ_P (zpt (a:=r26.1) (b:=(r1.2.2.2.2.2.getD 1 0)) (mbx hG48 rfl) (mbx hG48 rfl))) <| oP (zd1 rfl (fun hh=>mbx hh rfl) rfl) rfl <| oM rfl rfl <| zb7 71 rfl (zc3 (zc3 zab zab) zab) (fun hg5B hg5 => ?_) (fun hg5B hg5 => ?_)
       ·
        replace h := ite_t hg5 h
        obtain ⟨r50,hr51,h⟩ := zar h
        refine RJ_gy (zal rfl rfl rfl hg5B) <| zat (zly hr51) rfl Tryz.call42 Dels.nil rfl fun _ _=>gP (zal rfl rfl rfl hg5B) (P_eql (a:=r50) (b:=(3:Int)) rfl rfl) rfl <| oP (zbh rfl hg5B rfl) rfl <| oA rfl rfl <| zap <| zas (t1_ (eD (eD (eD (eD (eD (eD eR))))))) <| zam <| zah ?_
        cases h
        exact fE (res1 Tryz.results13 rfl) () (eD eR)
       ·
        replace h := ite_f hg5 h
        refine RJ_gn (GY_no rfl rfl rfl hg5B) rfl rfl <| RJ_gn (GY_no rfl rfl rfl hg5B) rfl rfl <| oP (za8 rfl hg5B rfl) rfl <| oA rfl rfl <| zap <| zas (t1_ (eD (eD (eD (eD (eD (eD eR))))))) <| zam <| zah ?_
        cases h
        exact fE (res1 Tryz.results13 rfl) () (eD eR)
      ·
       replace h := ite_f hg4 h
       refine RJ_gn (GY_no rfl rfl rfl hg4B) rfl rfl <| RJ_gn (GY_no rfl rfl rfl hg4B) rfl rfl <| RJ_gn (GY_no rfl rfl rfl hg4B) rfl rfl <| RJ_gn (GY_no rfl rfl rfl hg4B) rfl rfl <| oP (za8 rfl hg4B rfl) rfl <| oM rfl rfl <| RJ_gn (GY_no rfl rfl rfl rfl) rfl rfl <| RJ_gn (GY_no rfl rfl rfl rfl) rfl rfl <| oP (za8 rfl rfl rfl) rfl <| oM rfl rfl <| RJ_gn (GY_no rfl rfl rfl rfl) rfl rfl <| RJ_gn (GY_no rfl rfl rfl rfl) rfl rfl <| RJ_gn (GY_no rfl rfl rfl rfl) rfl rfl <| RJ_gn (GY_no rfl rfl rfl rfl) rfl rfl <| RJ_gn (GY_no rfl rfl rfl rfl) rfl rfl <| oP (za8 rfl rfl rfl) rfl <| oM rfl rfl <| RJ_gn (GY_no rfl rfl rfl rfl) rfl rfl <| RJ_gn (GY_no rfl rfl rfl rfl) rfl rfl <| oP (za8 rfl rfl rfl) rfl <| oA rfl rfl <| nT <| zah ?_
       cases h
       exact fE (res1 Tryz.results13 rfl) () (eD (eD (eD (eD (eD (eD eR))))))
def zeu (o:OwnS) (s_1:volumegroupmake_Step) (s:ArrS):Option (Bool × OwnS × ArrS) :=
  grd (decide (¬ ((o.T.length:Nat):Int)=0)) <|
  grd (inI64 (((s_1.At.tmod (((o.T.length:Nat):Int))) + ((o.T.length:Nat):Int)))) <|
  grd (decide (¬ ((o.T.length:Nat):Int)=0)) <|
  lt (((((s_1.At.tmod (((o.T.length:Nat):Int))) + ((o.T.length:Nat):Int))).tmod (((o.T.length:Nat):Int)))) fun w8 =>
  Option.bind ((
    if (s_1.Kind=(0:Int)) then
      Option.bind (zc1 o w8 s_1.Value s) fun r17 =>
      some (r17.1,r17.2.1,r17.2.2.1,r17.2.2.2)
    else
      if (s_1.Kind=(1:Int)) then
        Option.bind (zb9 o w8 false s) fun r19 =>
        some (r19.1,r19.2.1,r19.2.2.1,r19.2.2.2)
      else
        if (s_1.Kind=(2:Int)) then
          Option.bind (zb5 o s) fun r21 =>
          some (r21.1,r21.2.1,r21.2.2.1,r21.2.2.2)
        else
          if (s_1.Kind=(3:Int)) then
            some (((5:Int),true,o,s))
          else
            if (s_1.Kind=(4:Int)) then
              grd (inI64 (((1:Int) + w8))) <|
              grd (inI64 (((1:Int) + w8))) <|
              some (((0:Int),true,o, { s with fuse := (((1:Int) + w8)).toNat }))
            else
              some (((0:Int),true,o,s)):Option (Int × Bool × OwnS × ArrS))) fun a16 =>
  if (¬ a16.2.1=true) then
    some (false,a16.2.2.1,a16.2.2.2)
  else
    if (a16.1≠(5:Int)) then
      some (true,a16.2.2.1,a16.2.2.2)
    else
      none
theorem zml {W:World} {bo:Nat} {vlo:Nat} {bs:Nat} {o:OwnS} {s_1:volumegroupmake_Step} {s:ArrS} {r:Bool × OwnS × ArrS} (h:zeu o s_1 s=some r) :
    CSpec Tryz.prog W 18 [ptr bo 0,.agg #[.int .i64 s_1.Kind,.int .i64 s_1.At,.int .u64 (s_1.Value.toNat:Int),.int .u64 (s_1.Keep.toNat:Int)]] [OwnQ bs vlo bo o,Arr bs s] (fun x:Unit => .bool r.1) (fun _=>True) (fun x F=>OwnQ bs vlo bo r.2.1::Arr bs r.2.2::F) := by
 refine CSpec.of_body Tryz.func18 rfl Tryz.ntmps18 rfl fun F => ?_
 show CJ _ _ _ _ _ _ (_::_::F)
 unfold zeu at h
 refine sR <| oO <| O_box rfl rfl rfl fun b1=>oA rfl rfl <| nT <| zac <| zax (Ent.transX (t1_ eR) (ze9 (l:=o))) fun oc2=>lC del4 fun hlen4=>lC del5 fun hlen5=>zax (Ent.transX (t3_ eR) zi9) fun tc6=>zgl fun hS7=>zaf <| oM rfl rfl <| oP (zae rfl) rfl <| oP (zaa rfl ⟨_,_,_,Tryz.runUnderlying60,rfl,rfl,Tryz.sizeOf58,rfl⟩) rfl <| oV (zag rfl foc3 rfl Tryz.isAgg58) rfl <| oP (zae rfl) rfl <| oP (zaa rfl ⟨_,_,_,Tryz.runUnderlying54,rfl,rfl,Tryz.sizeOf52,rfl⟩) rfl <| oV (zag rfl foc0 rfl Tryz.isAgg52) rfl <| oV (VJ_eq (V_len rfl foc1 (Reads.sl _ _ _) Tryz.runUnderlying52) (congrArg (fun z:Nat=>Value.int .i64 (z:Int)) hS7.len.symm)) rfl <| oA rfl rfl <| zap <| zas (Ent.trans (t0_ (t0_ (t0_ eR))) (zec hS7)) <| zas (Ent.trans (t1_ (t1_ (t1_ eR))) (zf1 (v0:=o.Open_1) (v1:=o.Open_2) (v2:=o.Open_3) (v3:=o.Open_4) (v4:=o.X) (v5:=o.T) (v6:=o.Stale) (v7:=o.Lost) (h0:=oc2.1) (h1:=oc2.2.1) (h2:=oc2.2.2.1) (h3:=oc2.2.2.2))) <| zam <| sR <| oP (zaa rfl ⟨_,_,_,Tryz.runUnderlying37,rfl,rfl,Tryz.sizeOf3,rfl⟩) rfl <| oV (zag rfl foc1 rfl Tryz.isAgg3) rfl <| oM rfl rfl ?_
 obtain ⟨hg1,h⟩ := zbt h
 refine oP (zqc (a:=s_1.At) (b:=((o.T.length:Nat):Int)) rfl rfl hg1) rfl <| oM rfl rfl ?_
 obtain ⟨hg2,h⟩ := zd7 h
 refine oP (P_add (a:=(s_1.At.tmod (((o.T.length:Nat):Int)))) (b:=((o.T.length:Nat):Int)) rfl rfl hg2) rfl <| oM rfl rfl ?_
 obtain ⟨hg3,h⟩ := zbt h
 refine oP (zqc (a:=((s_1.At.tmod (((o.T.length:Nat):Int))) + ((o.T.length:Nat):Int))) (b:=((o.T.length:Nat):Int)) rfl rfl hg3) rfl ?_
 obtain ⟨w8,hw8,h⟩ := lt_e h
 rw [← hw8]
 refine oA rfl rfl <| nT <| sR <| oA rfl rfl <| oA rfl rfl <| nT <| zac <| sR <| oP (zaa rfl ⟨_,_,_,Tryz.runUnderlying37,rfl,rfl,Tryz.sizeOf3,rfl⟩) rfl <| oV (zag rfl foc1 rfl Tryz.isAgg3) rfl <| nT ?_
 obtain ⟨y11,hl9,hK10⟩ := zfw h
 refine zbv (X:=Int × Bool × OwnS × ArrS) [7,8,27,28,29,30,31,32,33,34,35,36,37,38,39,40,41,42,43,44,45,46,47,48,49,50,51,52,53,54,55,56,57,58,59,60,61,62] (fun a16=>([(7,.int .i64 a16.1),(8,.bool a16.2.1)]:Slots)) (fun a16 R=>OwnQ bs vlo bo a16.2.2.1::Arr bs a16.2.2.2::R) (fun a16=>y11=a16) (Dels.cons del0 (Dels.cons del1 Dels.nil)) ?_ ?_
 ·
  have h := hl9
  refine zaw <| sR <| oP (P_eql (a:=s_1.Kind) (b:=(0:Int)) rfl rfl) rfl <| oA rfl rfl <| nT <| zan rfl zab (fun hg4 => ?_) (fun hg4 => ?_)
  ·
   replace h := ite_t hg4 h
   refine zaf <| oM rfl rfl <| oM rfl rfl <| oP (zaa rfl ⟨_,_,_,Tryz.runUnderlying37,rfl,rfl,Tryz.sizeOf23,rfl⟩) rfl <| oV (zag rfl foc1 rfl Tryz.isAgg23) rfl ?_
   obtain ⟨r17,hr18,h⟩ := zar h
   exact oO <| zat (zjp hr18) rfl Tryz.call49 (Dels.cons del0 (Dels.cons del1 Dels.nil)) rfl fun _ _=>oM rfl rfl <| oP (za4 rfl rfl) rfl <| oP (za4 rfl rfl) rfl <| oA rfl rfl <| oA rfl rfl <| zap <| zao <| cR (r17.1,r17.2.1,r17.2.2.1,r17.2.2.2) (Option.some.inj h).symm ⟨rfl,rfl,True.intro⟩ eR
  ·
   replace h := ite_f hg4 h
   refine sR <| oP (P_eql (a:=s_1.Kind) (b:=(1:Int)) rfl rfl) rfl <| oA rfl rfl <| nT <| zan rfl zab (fun hg5 => ?_) (fun hg5 => ?_)
   ·
    replace h := ite_t hg5 h
    refine zaf <| oM rfl rfl <| oM rfl rfl ?_
    obtain ⟨r19,hr20,h⟩ := zar h
    exact oO <| zat (zif hr20) rfl Tryz.call50 (Dels.cons del0 (Dels.cons del1 Dels.nil)) rfl fun _ _=>oM rfl rfl <| oP (za4 rfl rfl) rfl <| oP (za4 rfl rfl) rfl <| oA rfl rfl <| oA rfl rfl <| zap <| zao <| cR (r19.1,r19.2.1,r19.2.2.1,r19.2.2.2) (Option.some.inj h).symm ⟨rfl,rfl,True.intro⟩ eR
   ·
    replace h := ite_f hg5 h
    refine sR <| oP (P_eql (a:=s_1.Kind) (b:=(2:Int)) rfl rfl) rfl <| oA rfl rfl <| nT <| zan rfl zab (fun hg6 => ?_) (fun hg6 => ?_)
    ·
     replace h := ite_t hg6 h
     refine zaf <| oM rfl rfl ?_
     obtain ⟨r21,hr22,h⟩ := zar h
     exact oO <| zat (zh8 hr22) rfl Tryz.call23 (Dels.cons del0 (Dels.cons del1 Dels.nil)) rfl fun _ _=>oM rfl rfl <| oP (za4 rfl rfl) rfl <| oP (za4 rfl rfl) rfl <| oA rfl rfl <| oA rfl rfl <| zap <| zao <| cR (r21.1,r21.2.1,r21.2.2.1,r21.2.2.2) (Option.some.inj h).symm ⟨rfl,rfl,True.intro⟩ eR
    ·
     replace h := ite_f hg6 h
     refine sR <| oP (P_eql (a:=s_1.Kind) (b:=(3:Int)) rfl rfl) rfl <| oA rfl rfl <| nT <| zan rfl zab (fun hg7 => ?_) (fun hg7 => ?_)
     ·
      replace h := ite_t hg7 h
      exact zaf <| oA rfl rfl <| zap <| zao <| cR ((5:Int),true,o,s) (Option.some.inj h).symm ⟨rfl,rfl,True.intro⟩ (t0_ (t1_ eR))
     ·
      replace h := ite_f hg7 h
      refine sR <| oP (P_eql (a:=s_1.Kind) (b:=(4:Int)) rfl rfl) rfl <| oA rfl rfl <| nT <| zan rfl zab (fun hg8 => ?_) (fun hg8 => ?_)
      ·
       replace h := ite_t hg8 h
       refine zax (Ent.transX (t0_ eR) (ze9 (l:=o))) fun oc23=>lC del4 fun hlen25=>lC del5 fun hlen26=>zaf <| oM rfl rfl <| oP (zae rfl) rfl <| oP (zaa rfl ⟨_,_,_,Tryz.runUnderlying60,rfl,rfl,Tryz.sizeOf26,rfl⟩) rfl <| oV (zag rfl foc0 rfl Tryz.isAgg26) rfl <| oM rfl rfl ?_
       obtain ⟨hg9,h⟩ := zd7 h
       refine oP (P_add (a:=(1:Int)) (b:=w8) rfl rfl hg9) rfl ?_
       obtain ⟨hg10,h⟩ := zd7 h
       exact oO <| zat (zt7 hg10.2) rfl Tryz.call31 (Dels.cons del7 Dels.nil) rfl fun _ _=>zap <| zas (Ent.trans (t1_ (t1_ (t1_ (t1_ (t1_ (t1_ eR)))))) (zf1 (v0:=o.Open_1) (v1:=o.Open_2) (v2:=o.Open_3) (v3:=o.Open_4) (v4:=o.X) (v5:=o.T) (v6:=o.Stale) (v7:=o.Lost) (h0:=oc23.1) (h1:=oc23.2.1) (h2:=oc23.2.2.1) (h3:=oc23.2.2.2))) <| zao <| cR ((0:Int),true,o, { s with fuse := (((1:Int) + w8)).toNat }) (Option.some.inj h).symm ⟨rfl,rfl,True.intro⟩ eR
      ·
       replace h := ite_f hg8 h
       exact zbr <| zao <| cR ((0:Int),true,o,s) (Option.some.inj h).symm ⟨rfl,rfl,True.intro⟩ (t0_ (t1_ eR))
 ·
  rintro a16 hy27
  replace h := zd2 hK10 hy27
  show CJ _ _ _ _ _ (([(7,.int .i64 a16.1),(8,.bool a16.2.1)]:Slots) ++ forget _ _) (OwnQ bs vlo bo a16.2.2.1::Arr bs a16.2.2.2::_)
  refine zac <| sR <| oM rfl rfl <| oP (P_not rfl) rfl <| nT <| zan rfl (zdk Iff.rfl) (fun hg11 => ?_) (fun hg11 => ?_)
  ·
   replace h := ite_t hg11 h
   refine sR <| oA rfl rfl <| nT <| zah <| zad ?_
   cases h
   exact fE (res1 Tryz.results18 rfl) () (t0_ (t0_ (eD eR)))
  ·
   replace h := ite_f hg11 h
   refine kT <| sR <| oM rfl rfl <| oP (P_neq (a:=a16.1) (b:=(5:Int)) rfl rfl) rfl <| oM rfl rfl <| zb7 67 rfl zab (fun hg12B hg12 => ?_) (fun hg12B hg12 => ?_)
   ·
    replace h := ite_t hg12 h
    refine RJ_gn (GY_no rfl rfl rfl hg12B) rfl rfl <| RJ_gn (GY_no rfl rfl rfl hg12B) rfl rfl <| RJ_gn (GY_no rfl rfl rfl hg12B) rfl rfl <| RJ_gn (GY_no rfl rfl rfl hg12B) rfl rfl <| RJ_gn (GY_no rfl rfl rfl hg12B) rfl rfl <| RJ_gn (zi0 rfl rfl rfl) rfl rfl <| RJ_gn (zi0 rfl rfl rfl) rfl rfl <| RJ_gn (GY_no rfl rfl rfl hg12B) rfl rfl <| oP (zbh rfl hg12B rfl) rfl <| oA rfl rfl <| nT <| zah ?_
    cases h
    exact fE (res1 Tryz.results18 rfl) () (t0_ (t0_ (eD eR)))
   ·
    replace h := ite_f hg12 h
    exact gP (zal rfl rfl rfl hg12B) (zaj rfl) rfl <| gP (zal rfl rfl rfl hg12B) (zaa rfl ⟨_,_,_,Tryz.runUnderlying37,rfl,rfl,Tryz.sizeOf23,rfl⟩) rfl <| gV (zal rfl rfl rfl hg12B) (zag rfl foc2 rfl Tryz.isAgg23) rfl <| zbq h
theorem zwl (v0:(Option Addr)) (v1:Fn) (v2:(Array Value)) (v3:(Array Value)) (v4:(Option Addr)):∀ w,(Instr.build 60 (#[(0,.pointer v0),(1,.func v1 v2 v3),(3,.pointer v4)]:Array (Nat × Value))).run Tryz.prog w = .ok (.agg #[.pointer v0,.func v1 v2 v3,.nilIface,.pointer v4,.slice none 0 0,.slice none 0 0]) w := fun w=>by kernel_rfl
def zfa (s_0_a:ArrS) (s_0_legs:Int) (s_0_size:Int) (s_0_region:Int) (s_0_log:Bool) (words:List UInt64):Option (OwnS) :=
  grd (decide (words.length≤65536)) <|
  some ((⟨s_0_legs,s_0_size,s_0_region,s_0_log,none,(trkT words),[],[]⟩:OwnS))
theorem zl2 {W:World} {bs_0_a:Nat} {Awords:HP} {vwords:Value} {s_0_a:ArrS} {s_0_legs:Int} {s_0_size:Int} {s_0_region:Int} {s_0_log:Bool} {words:List UInt64} {r:OwnS} (rwords:Reads Awords tyU vwords words) (h:zfa s_0_a s_0_legs s_0_size s_0_region s_0_log words=some r) :
    CSpec Tryz.prog W 15 [.agg #[ptr bs_0_a 0,.int .i64 s_0_legs,.int .i64 s_0_size,.int .i64 s_0_region,.bool s_0_log],vwords] [Arr bs_0_a s_0_a,Awords] (fun x:Nat=>ptr x 0) (fun _=>True) (fun x F=>Arr bs_0_a s_0_a::Awords::OwnP bs_0_a x r::F) := by
 refine CSpec.of_body Tryz.func15 rfl Tryz.ntmps15 rfl fun F => ?_
 show CJ _ _ _ _ _ _ (_::_::F)
 unfold zfa at h
 refine za1 (zcg rwords del1) fun hlen1=>sR <| oO <| O_box rfl rfl rfl fun b2=>oA rfl rfl <| nT <| sR <| oP (zb6 rfl rfl) rfl <| oA rfl rfl <| nT <| zac <| zbc 64 (by kernel_rfl) rfl <| aN 0 1 rfl rfl (zaa rfl ⟨_,_,_,Tryz.runUnderlying28,rfl,rfl,Tryz.sizeOf26,rfl⟩) rfl <| aV 1 3 rfl rfl (zak rfl) eR (zag rfl foc0 rfl Tryz.isAgg26) rfl <| aN 2 7 rfl rfl (zaj rfl) rfl <| aN 3 15 rfl rfl (zaj rfl) rfl ?_
 obtain ⟨hg1,h⟩ := zbt h
 refine AJ_op 4 31 rfl (by kernel_rfl) rfl (zak rfl) <| zat (z0m rwords hg1) rfl Tryz.call47 (Dels.cons del2 Dels.nil) rfl fun X3 _=>⟨fun _=>(t2_ (t2_ (t1_ (eD eR)))),?_⟩
 refine aN 5 63 rfl rfl (zfn rfl (zwl _ _ _ _ _)) rfl <| AJ_op 6 127 rfl (by kernel_rfl) rfl (zak rfl) <| O_box rfl rfl rfl fun b5=>⟨fun h=>absurd h (by decide),?_⟩
 refine aN 7 255 rfl rfl (zb0 rfl) rfl <| aD <| zah <| zas (fun h hh=>zdj (t:=tyI) h hh) <| zas (fun h hh=>zdj (t:=tyI) h hh) <| zas (Ent.trans (t2_ (t4_ (Ent.trans (fun h hh=>zb8 h hh) <| t0_ (t2_ (t1_ eR))))) (zem (v0:=s_0_legs) (v1:=s_0_size) (v2:=s_0_region) (v3:=s_0_log) (v4:=none) (v5:=(trkT words)) (v6:=[]) (v7:=[]) (h0:=b2) (h1:=0) (h2:=X3) (h3:=⟨none,0,0⟩) (h4:=⟨none,0,0⟩))) ?_
 cases h
 exact fE (res1 Tryz.results15 rfl) b5 (t2_ (t1_ eR))
def zek (leg:UInt8) (part:UInt8) (m:List volumegroupmake_Step) (r11:(Option ArrS) × Nat × Nat × Nat × Bool × (List UInt64)) (rec:ArrS→OwnS→Nat→Option ((OwnS × ArrS) ⊕ Bool)) (x54:ArrS) (x55:OwnS) (x56:Nat):Option ((OwnS × ArrS) ⊕ Bool) :=
  if ((((x56:Nat):Int) < ((m.length:Nat):Int))∧(((x56:Nat):Int) < (8:Int))) then
    Option.elim x55.X (
      none) fun o66 =>
    Option.bind (zg7 o66 (((((leg.toNat:Nat):Int)).tmod (((r11.2.1:Nat):Int)))) (((((part % (5:UInt8))).toNat:Nat):Int)) x54) fun r67 =>
    if ((r67.2.1≠(0:Int))∨(r67.1≠(min (((r11.2.2.1:Nat):Int)) ((IntKind.i64.wrap ((((x56 + 1):Nat):Int) * ((((part % (5:UInt8))).toNat:Nat):Int))))))) then
      some (.inr false)
    else
      if (((m.getD x56 (⟨0,0,0,0⟩:volumegroupmake_Step))).Kind < (3:Int)) then
        Option.bind (zeu ({ x55 with X := (some r67.2.2.1) }) ((m.getD x56 (⟨0,0,0,0⟩:volumegroupmake_Step))) r67.2.2.2) fun r91 =>
        if (¬ r91.1=true) then
          some (.inr false)
        else
          rec r91.2.2 r91.2.1 (x56 + 1)
      else
        rec r67.2.2.2 ({ x55 with X := (some r67.2.2.1) }) (x56 + 1)
  else
    some (.inl (x55,x54))
def zdc (leg:UInt8) (part:UInt8) (m:List volumegroupmake_Step) (r11:(Option ArrS) × Nat × Nat × Nat × Bool × (List UInt64)):Nat→ArrS→OwnS→Nat→Option ((OwnS × ArrS) ⊕ Bool)
  | 0,_,_,_=>none
  | n + 1,x54,x55,x56=>zek leg part m r11 (zdc leg part m r11 n) x54 x55 x56
def zel (leg:UInt8) (r11:(Option ArrS) × Nat × Nat × Nat × Bool × (List UInt64)) (rec:ArrS→OwnS→Nat→Option ((OwnS × ArrS) ⊕ Bool)) (x143:ArrS) (x144:OwnS) (x145:Nat):Option ((OwnS × ArrS) ⊕ Bool) :=
  if (((x145:Nat):Int) < ((r11.2.1:Nat):Int)) then
    if (((x145:Nat):Int)≠((((leg.toNat:Nat):Int)).tmod (((r11.2.1:Nat):Int)))) then
      Option.bind (ze4 x144 (((x145:Nat):Int)) (((x145:Nat):Int)) x143) fun r146 =>
      if (¬ r146.1=true) then
        some (.inr false)
      else
        grd (inN64 (x145 + 1)) <|
        rec r146.2.2 r146.2.1 (x145 + 1)
    else
      grd (inN64 (x145 + 1)) <|
      rec x143 x144 (x145 + 1)
  else
    some (.inl (x144,x143))
def zdd (leg:UInt8) (r11:(Option ArrS) × Nat × Nat × Nat × Bool × (List UInt64)):Nat→ArrS→OwnS→Nat→Option ((OwnS × ArrS) ⊕ Bool)
  | 0,_,_,_=>none
  | n + 1,x143,x144,x145=>zel leg r11 (zdd leg r11 n) x143 x144 x145
def zhe (n_0:UInt8) (leg:UInt8) (part:UInt8) (l:List volumegroupmake_Step) (m:List volumegroupmake_Step) (junk:UInt64):Option (Bool) :=
  Option.bind (zhq l) fun r3 =>
  if (¬ r3=true) then
    Option.bind (zgf) fun r5 =>
    some r5
  else
    Option.bind (zhq m) fun r7 =>
    if (¬ r7=true) then
      Option.bind (zgf) fun r9 =>
      some r9
    else
      Option.bind (zge n_0) fun r11 =>
      Option.elim r11.1 (
        some false) fun o18 =>
      grd (decide (¬ ((r11.2.1:Nat):Int)=0)) <|
      Option.bind (zfa o18 (((r11.2.1:Nat):Int)) (((r11.2.2.1:Nat):Int)) (((r11.2.2.2.1:Nat):Int)) r11.2.2.2.2.1 r11.2.2.2.2.2) fun r19 =>
      Option.bind (zgt (((r11.2.2.1:Nat):Int)) junk) fun r29 =>
      grd (inLen o18.writes) <|
      if ((ldC o18 (((((leg.toNat:Nat):Int)).tmod (((r11.2.1:Nat):Int)))) r29)≠(0:Int)) then
        some false
      else
        Option.bind (zga ({ r19 with Stale := [((((leg.toNat:Nat):Int)).tmod (((r11.2.1:Nat):Int)))],Lost := [((((leg.toNat:Nat):Int)).tmod (((r11.2.1:Nat):Int)))] }) l (-1:Int) (0:Int) (0:Int) ((ldS o18 (((((leg.toNat:Nat):Int)).tmod (((r11.2.1:Nat):Int)))) r29))) fun r33 =>
        if (¬ r33.1=true) then
          some false
        else
          Option.elim r33.2.1.X (
            some false) fun o45 =>
          Option.bind (ze7 o45 (((((leg.toNat:Nat):Int)).tmod (((r11.2.1:Nat):Int)))) r33.2.2) fun r46 =>
          if (r46.1≠(20:Int)) then
            some false
          else
            seqO (zdc leg part m r11 FUEL r46.2.2 ((⟨r33.2.1.Open_1,r33.2.1.Open_2,r33.2.1.Open_3,r33.2.1.Open_4,(some r46.2.1),r33.2.1.T,r33.2.1.Stale,[]⟩:OwnS)) 0) fun a53 =>
            Option.elim a53.1.X (
              none) fun o99 =>
            Option.bind (zg7 o99 (((((leg.toNat:Nat):Int)).tmod (((r11.2.1:Nat):Int)))) (((r11.2.2.1:Nat):Int)) a53.2) fun r100 =>
            Option.bind (zf5 r100.2.2.1 (1000:Int) r100.2.2.2) fun r102 =>
            if ((((r100.2.1≠(0:Int))∨(r102.2.1≠(0:Int)))∨(r100.1≠((r11.2.2.1:Nat):Int)))∨(r102.1≠(0:Int))) then
              some false
            else
              Option.bind (ze7 r102.2.2.1 (((((leg.toNat:Nat):Int)).tmod (((r11.2.1:Nat):Int)))) r102.2.2.2) fun r120 =>
              if (r120.1≠(0:Int)) then
                some false
              else
                Option.bind (zih r120.2.1 r120.2.2) fun r122 =>
                if (((r122.length:Nat):Int)≠(0:Int)) then
                  some false
                else
                  Option.bind (zb5 ({ a53.1 with X := (some r120.2.1) }) r120.2.2) fun r126 =>
                  if ((r126.1≠(0:Int))∨(¬ r126.2.1=true)) then
                    some false
                  else
                    seqO (zdd leg r11 FUEL r126.2.2.2 ({ r126.2.2.1 with Stale := [] }) 0) fun a142 =>
                    Option.bind (zbl a142.1 false a142.2) fun r149 =>
                    if r149.1=true then
                      Option.bind (zgf) fun r151 =>
                      some r151
                    else
                      some false
theorem zmm {W:World} {Al:HP} {vl:Value} {Am:HP} {vm:Value} {n_0:UInt8} {leg:UInt8} {part:UInt8} {l:List volumegroupmake_Step} {m:List volumegroupmake_Step} {junk:UInt64} {r:Bool} (rl:Reads Al tyvolumegroupmake_Step vl l) (rm:Reads Am tyvolumegroupmake_Step vm m) (h:zhe n_0 leg part l m junk=some r) :
    CSpec Tryz.prog W 11 [.int .u8 (n_0.toNat:Int),.int .u8 (leg.toNat:Int),.int .u8 (part.toNat:Int),vl,vm,.int .u64 (junk.toNat:Int)] [Al,Am] (fun x:Unit => .bool r) (fun _=>True) (fun x F=>Al::Am::F) := by
 refine CSpec.of_body Tryz.func11 rfl Tryz.ntmps11 rfl fun F => ?_
 show CJ _ _ _ _ _ _ (_::_::F)
 unfold zhe at h
 refine za1 (zcg rl del0) fun hlen1=>za1 (zcg rm del1) fun hlen2=>sR <| oA rfl rfl <| nT <| zac <| sR <| oM rfl rfl ?_
 obtain ⟨r3,hr4,h⟩ := zar h
 refine oO <| zat (zmc rl hr4) rfl Tryz.call12 (Dels.cons del0 Dels.nil) rfl fun _ _=>oP (P_not rfl) rfl <| oM rfl rfl <| zb7 32 rfl (zdk Iff.rfl) (fun hg1B hg1 => ?_) (fun hg1B hg1 => ?_)
 ·
  replace h := ite_t hg1 h
  refine RJ_gn (GY_no rfl rfl rfl hg1B) rfl rfl <| RJ_gn (GY_no rfl rfl rfl hg1B) rfl rfl <| RJ_gn (GY_no rfl rfl rfl hg1B) rfl rfl <| oP (zbh rfl hg1B rfl) rfl <| nT <| zck rfl rfl <| sR ?_
  obtain ⟨r5,hr6,h⟩ := zar h
  refine oO <| zat (zjf hr6) rfl Tryz.call13 Dels.nil rfl fun _ _=>oA rfl rfl <| nT <| zah <| zad ?_
  cases h
  exact fE (res1 Tryz.results11 rfl) () eR
 ·
  replace h := ite_f hg1 h
  refine gP (zal rfl rfl rfl hg1B) (zaj rfl) rfl ?_
  obtain ⟨r7,hr8,h⟩ := zar h
  refine RJ_gy (zal rfl rfl rfl hg1B) <| zat (zmc rm hr8) rfl Tryz.call12 (Dels.cons del1 Dels.nil) rfl fun _ _=>gP (zal rfl rfl rfl hg1B) (P_not rfl) rfl <| oP (za8 rfl hg1B rfl) rfl <| nT <| zan rfl (zdk Iff.rfl) (fun hg2 => ?_) (fun hg2 => ?_)
  ·
   replace h := ite_t hg2 h
   refine sR ?_
   obtain ⟨r9,hr10,h⟩ := zar h
   refine oO <| zat (zjf hr10) rfl Tryz.call13 Dels.nil rfl fun _ _=>oA rfl rfl <| nT <| zah <| zad ?_
   cases h
   exact fE (res1 Tryz.results11 rfl) () (t1_ eR)
  ·
   replace h := ite_f hg2 h
   refine kT <| sR <| oM rfl rfl ?_
   obtain ⟨r11,hr12,h⟩ := zar h
   refine oO <| zat (zk8 hr12) rfl Tryz.call14 Dels.nil rfl fun X13 _=>oM rfl rfl <| oP (za4 rfl rfl) rfl <| oP (za4 (v:=X13.2) rfl rfl) rfl <| oO <| zes Tryz.zeroValue28 rfl rfl fun b16=>oO <| zfm rfl rfl foc0 Tryz.sizeOf28 rfl rfl (by simp only [zn3,zmh,zry,zn8,Bool.true_and]; rfl) <| oA rfl rfl <| nT <| zac <| sR <| oP (zaa rfl ⟨_,_,_,Tryz.runUnderlying28,rfl,rfl,Tryz.sizeOf26,rfl⟩) rfl <| oV (zag rfl foc0 rfl Tryz.isAgg26) rfl ?_
   rcases opt_e h with ⟨ht17,h⟩ | ⟨o18,ht17,h⟩
   ·
    rw [ht17]
    refine zbb (t0_ (t1_ (t1_ (t1_ (eD eR))))) <| oP (zmx rfl rfl Tryz.underlying26) rfl <| nT <| zck rfl rfl <| sR <| oA rfl rfl <| nT <| zah <| zad ?_
    cases h
    exact fE (res1 Tryz.results11 rfl) () (t3_ (t2_ (eD (eD eR))))
   ·
    rw [ht17]
    refine zbb (Ent.takeC (A' := Arr X13.1 o18) del1 rfl eR) <| oP (zmw rfl rfl Tryz.underlying26) rfl <| nT <| zgh rfl rfl <| kT <| sR <| oM rfl rfl <| oP (zlb rfl Tryz.runUnderlying5 Tryz.runUnderlying3 (zm0 _ (by have h9 := leg.toNat_lt; exact (by omega:leg.toNat < 9223372036854775808)))) rfl <| oP (zaa rfl ⟨_,_,_,Tryz.runUnderlying28,rfl,rfl,Tryz.sizeOf3,rfl⟩) rfl <| oV (zag rfl foc1 rfl Tryz.isAgg3) rfl ?_
    obtain ⟨hg3,h⟩ := zbt h
    refine oP (zqc (a:=((leg.toNat:Nat):Int)) (b:=((r11.2.1:Nat):Int)) rfl rfl hg3) rfl <| oA rfl rfl <| nT <| sR <| oV (zhb rfl foc1 Tryz.isAgg28 Tryz.sizeOf28 rfl rfl) rfl <| oM rfl rfl ?_
    obtain ⟨r19,hr20,h⟩ := zar h
    refine oO <| zat (zl2 (Reads.rdp _ _ _) hr20) rfl Tryz.call15 (Dels.cons del0 (Dels.cons del1 Dels.nil)) rfl fun X21 _=>oA rfl rfl <| nT <| zac <| zax (Ent.transX (t2_ eR) (ze8 (l:=r19))) fun oc23=>lC del4 fun hlen25=>lC del5 fun hlen26=>zaf <| oM rfl rfl <| oM rfl rfl <| oM rfl rfl <| oO <| zbf rfl (zhn _) rfl fun b27=>zbb (Ent.trans (t0_ eR) (zjl (t:=tyI) (m:=1) [((((leg.toNat:Nat):Int)).tmod (((r11.2.1:Nat):Int)))] rfl rfl rfl (by decide))) <| oM rfl rfl <| oO <| zbf rfl (zhn _) rfl fun b28=>zbb (Ent.trans (t0_ eR) (zjl (t:=tyI) (m:=1) [((((leg.toNat:Nat):Int)).tmod (((r11.2.1:Nat):Int)))] rfl rfl rfl (by decide))) <| oP (zae rfl) rfl <| oP (zaa rfl ⟨_,_,_,Tryz.runUnderlying60,rfl,rfl,Tryz.sizeOf45,rfl⟩) rfl <| oO <| zbu rfl rfl foc2 rfl rfl Tryz.sizeOf45 <| oP (zae rfl) rfl <| oP (zaa rfl ⟨_,_,_,Tryz.runUnderlying60,rfl,rfl,Tryz.sizeOf45,rfl⟩) rfl <| oO <| zbu rfl rfl foc2 rfl rfl Tryz.sizeOf45 <| zap ?_
    refine zas (Ent.trans (t2_ (t2_ (t2_ (t2_ (t1_ eR))))) (zem (v0:=r19.Open_1) (v1:=r19.Open_2) (v2:=r19.Open_3) (v3:=r19.Open_4) (v4:=r19.X) (v5:=r19.T) (v6:=[((((leg.toNat:Nat):Int)).tmod (((r11.2.1:Nat):Int)))]) (v7:=[((((leg.toNat:Nat):Int)).tmod (((r11.2.1:Nat):Int)))]) (h0:=oc23.1) (h1:=oc23.2.1) (h2:=oc23.2.2.1) (h3:=⟨some ⟨b27,0,none⟩,1,1⟩) (h4:=⟨some ⟨b28,0,none⟩,1,1⟩))) <| zas (t0_ (t2_ (t3_ (t3_ (t3_ (eD (eD (eD eR)))))))) <| zam <| zac <| zac <| zbc 4224 (by kernel_rfl) rfl <| aN 0 1 rfl rfl (zaa rfl ⟨_,_,_,Tryz.runUnderlying28,rfl,rfl,Tryz.sizeOf26,rfl⟩) rfl <| aV 1 3 rfl rfl (zak rfl) eR (zag rfl foc2 rfl Tryz.isAgg26) rfl <| aN 2 7 rfl rfl (zaj rfl) rfl <| aN 3 15 rfl rfl (zaa rfl ⟨_,_,_,Tryz.runUnderlying28,rfl,rfl,Tryz.sizeOf3,rfl⟩) rfl <| aV 4 31 rfl rfl (zak rfl) eR (zag rfl foc2 rfl Tryz.isAgg3) rfl <| aN 5 63 rfl rfl (zaj rfl) rfl ?_
    obtain ⟨r29,hr30,h⟩ := zar h
    refine AJ_op 6 127 rfl (by kernel_rfl) rfl (zak rfl) <| zat (zlh hr30) rfl Tryz.call26 Dels.nil rfl fun X31 _=>⟨fun _=>(t1_ (t1_ (t1_ (t1_ (t1_ (eD eR)))))),?_⟩
    obtain ⟨hg4,h⟩ := zfo h
    refine AJ_op 7 255 rfl (by kernel_rfl) rfl (zak rfl) <| zat (zyh (Reads.sl _ _ _) hg4) rfl Tryz.call25 (Dels.cons del2 (Dels.cons del0 Dels.nil)) rfl fun _ _=>⟨fun h=>absurd h (by decide),?_⟩
    refine aN 8 511 rfl rfl (P_neq (a:=(ldC o18 (((((leg.toNat:Nat):Int)).tmod (((r11.2.1:Nat):Int)))) r29)) (b:=(0:Int)) rfl rfl) rfl <| aN 9 1023 rfl rfl (zaj rfl) rfl <| ziv 73 rfl zab (fun hg5B hg5 => ?_) (fun hg5B hg5 => ?_)
    ·
     replace h := ite_t hg5 h
     refine aS 10 2047 rfl rfl (GY_no rfl rfl rfl hg5B) rfl <| aS 11 4095 rfl rfl (GY_no rfl rfl rfl hg5B) rfl <| aS 12 8191 rfl rfl (GY_no rfl rfl rfl hg5B) rfl <| aS 13 16383 rfl rfl (GY_no rfl rfl rfl hg5B) rfl <| aN 14 32767 rfl rfl (zbh rfl hg5B rfl) rfl <| aD <| zck rfl rfl <| sR <| oA rfl rfl <| nT <| zah <| zad ?_
     cases h
     exact fE (res1 Tryz.results11 rfl) () (t5_ (t4_ (eD (eD (eD (eD eR))))))
    ·
     replace h := ite_f hg5 h
     refine aP 10 2047 rfl rfl (zal rfl rfl rfl hg5B) (zaj rfl) rfl <| aP 11 4095 rfl rfl (zal rfl rfl rfl hg5B) (zaj rfl) rfl ?_
     obtain ⟨r33,hr34,h⟩ := zar h
     refine AJ_op 12 8191 rfl (by kernel_rfl) rfl (zal rfl rfl rfl hg5B) <| zat (zm4 rl hr34) rfl Tryz.call29 (Dels.cons del2 (Dels.cons del4 (Dels.cons del0 Dels.nil))) rfl fun _ _=>⟨fun h=>absurd h (by decide),?_⟩
     refine aP 13 16383 rfl rfl (zal rfl rfl rfl hg5B) (P_not rfl) rfl <| aN 14 32767 rfl rfl (za8 rfl hg5B rfl) rfl <| aD <| zan rfl (zdk Iff.rfl) (fun hg6 => ?_) (fun hg6 => ?_)
     ·
      replace h := ite_t hg6 h
      refine sR <| oA rfl rfl <| nT <| zah <| zad ?_
      cases h
      exact fE (res1 Tryz.results11 rfl) () (t1_ (t4_ (eD (eD (eD (eD eR))))))
     ·
      replace h := ite_f hg6 h
      refine kT <| zac <| zax (Ent.transX (t0_ eR) (ze8 (l:=r33.2.1))) fun oc35=>lC del4 fun hlen37=>lC del5 fun hlen38=>zaf <| oM rfl rfl <| oP (zae rfl) rfl <| oP (zaa rfl ⟨_,_,_,Tryz.runUnderlying60,rfl,rfl,Tryz.sizeOf45,rfl⟩) rfl <| oO <| zbu rfl rfl foc0 rfl rfl Tryz.sizeOf45 <| zap <| zas (fun h hh=>zdj (t:=tyI) h hh) <| zas (Ent.trans (t1_ (t1_ (t1_ (t1_ (t1_ eR))))) (zem (v0:=r33.2.1.Open_1) (v1:=r33.2.1.Open_2) (v2:=r33.2.1.Open_3) (v3:=r33.2.1.Open_4) (v4:=r33.2.1.X) (v5:=r33.2.1.T) (v6:=r33.2.1.Stale) (v7:=[]) (h0:=oc35.1) (h1:=oc35.2.1) (h2:=oc35.2.2.1) (h3:=oc35.2.2.2.1) (h4:=⟨none,0,0⟩))) <| zas (t0_ (t1_ (t1_ (t2_ (t2_ (eD (eD eR))))))) <| zam <| zac <| zax (Ent.transX (t0_ eR) (ze8 (l := { r33.2.1 with Lost := [] }))) fun oc40=>lC del4 fun hlen42=>lC del5 fun hlen43=>zaf <| oM rfl rfl <| oP (zae rfl) rfl <| oP (zaa rfl ⟨_,_,_,Tryz.runUnderlying60,rfl,rfl,Tryz.sizeOf57,rfl⟩) rfl <| oV (zag rfl foc0 rfl Tryz.isAgg57) rfl ?_
      rcases opt_e h with ⟨ht44,h⟩ | ⟨o45,ht44,h⟩
      ·
       rw [ht44]
       refine zbb (t0_ (t0_ (t1_ (t1_ (t1_ (t1_ (t1_ (t1_ (t1_ (eD eR)))))))))) <| oP (zvo rfl Tryz.underlying41 Tryz.zeroValue41) rfl <| oM rfl rfl <| oP (za4 rfl rfl) rfl <| oP (za4 rfl rfl) rfl <| oA rfl rfl <| oA rfl rfl <| zap <| zas (Ent.trans (t0_ (t0_ (Ent.trans (fun h hh=>zb8 h hh) <| t0_ eR))) (zem (v0:=r33.2.1.Open_1) (v1:=r33.2.1.Open_2) (v2:=r33.2.1.Open_3) (v3:=r33.2.1.Open_4) (v4:=none) (v5:=r33.2.1.T) (v6:=r33.2.1.Stale) (v7:=[]) (h0:=oc40.1) (h1:=0) (h2:=oc40.2.2.1) (h3:=oc40.2.2.2.1) (h4:=oc40.2.2.2.2))) <| zam <| zac <| sR <| oM rfl rfl <| oP (P_not rfl) rfl <| oM rfl rfl <| RJ_gn (GY_no rfl rfl rfl rfl) rfl rfl <| RJ_gn (GY_no rfl rfl rfl rfl) rfl rfl <| RJ_gn (GY_no rfl rfl rfl rfl) rfl rfl <| RJ_gn (GY_no rfl rfl rfl rfl) rfl rfl <| oP (zbh rfl rfl rfl) rfl <| nT <| zck rfl rfl <| sR <| oA rfl rfl <| nT <| zah <| zad ?_
       cases h
       exact fE (res1 Tryz.results11 rfl) () (t1_ (t3_ (eD (eD (eD eR)))))
      ·
       rw [ht44]
       refine zbb (Ent.takeC (A' := MirP X13.1 oc40.2.1 o45) del2 rfl eR) <| oP (zvn rfl Tryz.underlying41) rfl <| oM rfl rfl <| oP (za4 rfl rfl) rfl <| oP (za4 rfl rfl) rfl <| oA rfl rfl <| oA rfl rfl <| nT <| zac <| sR <| oM rfl rfl <| oP (P_not rfl) rfl <| oM rfl rfl <| gP (zal rfl rfl rfl rfl) (zaj rfl) rfl <| gP (zal rfl rfl rfl rfl) (zaj rfl) rfl ?_
       obtain ⟨r46,hr47,h⟩ := zar h
       refine RJ_gy (zal rfl rfl rfl rfl) <| zat (zls hr47) rfl Tryz.call38 (Dels.cons del0 (Dels.cons del6 Dels.nil)) rfl fun _ _=>gP (zal rfl rfl rfl rfl) (P_neq (a:=r46.1) (b:=(20:Int)) rfl rfl) rfl <| oP (za8 rfl rfl rfl) rfl <| nT <| zan rfl zab (fun hg7 => ?_) (fun hg7 => ?_)
       ·
        replace h := ite_t hg7 h
        refine sR <| oA rfl rfl <| zap <| zas (t1_ (t6_ (t7_ (eD (eD (eD (eD (eD (eD (eD eR)))))))))) <| zam <| zah <| zad ?_
        cases h
        exact fE (res1 Tryz.results11 rfl) () (t1_ (t1_ (eD eR)))
       ·
        replace h := ite_f hg7 h
        refine kT <| zac <| sR <| oA rfl rfl <| nT <| zde (Ent.trans (t2_ (t2_ (t0_ (t1_ (t1_ (t1_ eR)))))) (zf1 (v0:=r33.2.1.Open_1) (v1:=r33.2.1.Open_2) (v2:=r33.2.1.Open_3) (v3:=r33.2.1.Open_4) (v4:=(some r46.2.1)) (v5:=r33.2.1.T) (v6:=r33.2.1.Stale) (v7:=[]) (h0:=oc40.1) (h1:=oc40.2.2.1) (h2:=oc40.2.2.2.1) (h3:=oc40.2.2.2.2))) ?_
        obtain ⟨y50,hl48,hK49⟩ := seq_e h
        refine zbv (X:=OwnS × ArrS) [12,19,20,21,98,99,100,101,102,103,104,105,106,107,108,109,110,111,112,113,114,115,116,117,118,119,120,121,122,123,124,125,126,127,128,129,130,131,132,133,134,135,136,137,138,139,140,141,142,143,144,145,146,147,148] (fun a53=>([]:Slots)) (fun a53 R=>OwnQ X13.1 oc40.2.1 X21 a53.1::Arr X13.1 a53.2::R) (fun a53=>y50 = .inl a53) (Dels.cons del0 (Dels.cons del0 Dels.nil)) ?_ ?_
        ·
         refine zaw <| zbd (X:=Nat × ArrS × OwnS × Nat) [12,19,20,21,98,99,100,101,102,103,104,105,106,107,108,109,110,111,112,113,114,115,116,117,118,119,120,121,122,123,124,125,126,127,128,129,130,131,132,133,134,135,136,137,138,139,140,141,142,143,144,145,146,147,148] (fun ⟨n,x54,x55,x56⟩=>([(19,.int .i64 (((x56:Nat):Int)))]:Slots)) (fun ⟨n,x54,x55,x56⟩ R=>Arr X13.1 x54::OwnQ X13.1 oc40.2.1 X21 x55::R) (fun ⟨n,x54,x55,x56⟩=>zdc leg part m r11 n x54 x55 x56=some y50) (fun ⟨n,x54,x55,x56⟩=>n) ⟨FUEL,r46.2.2,(⟨r33.2.1.Open_1,r33.2.1.Open_2,r33.2.1.Open_3,r33.2.1.Open_4,(some r46.2.1),r33.2.1.T,r33.2.1.Stale,[]⟩:OwnS),0⟩ ?_ ?_ (t1_ eR) ?_
         · exact hl48
         · exact ⟨rfl,True.intro⟩
         ·
          rintro ⟨n,x54,x55,x56⟩ h
          cases n with
          | zero=>exact zbq h
          | succ n => ?_
          replace h:zek leg part m r11 (zdc leg part m r11 n) x54 x55 x56=some y50 := h
          unfold zek at h
          show CJ _ _ _ _ _ (([(19,.int .i64 (((x56:Nat):Int)))]:Slots) ++ forget _ _) (Arr X13.1 x54::OwnQ X13.1 oc40.2.1 X21 x55::_)
          refine zac <| sR <| oM rfl rfl <| oM rfl rfl <| oV (V_len rfl foc4 rm Tryz.runUnderlying22) rfl <| oP (P_lss (a:=((x56:Nat):Int)) (b:=((m.length:Nat):Int)) rfl rfl) rfl <| oM rfl rfl <| zbk rfl rfl rfl (fun hG57=>have hP58:(((x56:Nat):Int) < ((m.length:Nat):Int)) := (zab).1 hG57; VJ_P (zaj rfl)) <| zbk rfl rfl rfl (fun hG59=>have hP60:(((x56:Nat):Int) < ((m.length:Nat):Int)) := (zab).1 hG59; VJ_P (P_lss (a:=((x56:Nat):Int)) (b:=(8:Int)) (mbx hG59 rfl) rfl)) <| oP (zd1 rfl (fun hh=>mbx hh rfl) rfl) rfl <| nT <| zan rfl (zc3 zab zab) (fun hg8 => ?_) (fun hg8 => ?_)
          ·
           replace h := ite_t hg8 h
           refine kT <| zac <| zaw <| sR <| oM rfl rfl <| oM rfl rfl <| oM rfl rfl <| oP (zn7 (a:=part) (b:=(5:UInt8)) rfl rfl (by decide)) rfl <| oP (zlb rfl Tryz.runUnderlying5 Tryz.runUnderlying3 (zm0 _ (by have h9 := ((part % (5:UInt8))).toNat_lt; exact (by omega:((part % (5:UInt8))).toNat < 9223372036854775808)))) rfl <| zmu (Ent.transX (t1_ eR) (ze9 (l:=x55))) fun oc61=>zcl (zcg (Reads.sl _ _ _) del4) fun hlen63=>zcl (zcg (Reads.sl _ _ _) del5) fun hlen64 => ?_
           rcases opt_e h with ⟨ht65,h⟩ | ⟨o66,ht65,h⟩
           ·
            rw [ht65]
            exact zbb (t0_ (t0_ (t1_ (t1_ (t1_ (t1_ (t1_ (t1_ (t1_ (eD eR)))))))))) <| zbq h
           ·
            rw [ht65]
            refine zbb (Ent.takeC (A' := MirP X13.1 oc40.2.1 o66) del2 rfl eR) ?_
            obtain ⟨r67,hr68,h⟩ := zar h
            refine oO <| zat (zmk hr68) rfl Tryz.call39 (Dels.cons del0 (Dels.cons del5 Dels.nil)) rfl fun _ _=>oM rfl rfl <| oP (za4 rfl rfl) rfl <| oP (za4 rfl rfl) rfl <| oA rfl rfl <| oA rfl rfl <| nT <| sR <| oM rfl rfl <| oP (P_neq (a:=r67.2.1) (b:=(0:Int)) rfl rfl) rfl <| oM rfl rfl <| zaz rfl rfl rfl (fun hG69=>have hP70:¬ (r67.2.1≠(0:Int)) := nP (zab) hG69; VJ_P (zaj rfl)) <| zaz rfl rfl rfl (fun hG71=>have hP72:¬ (r67.2.1≠(0:Int)) := nP (zab) hG71; VJ_P (zaa rfl ⟨_,_,_,Tryz.runUnderlying28,rfl,rfl,Tryz.sizeOf3,rfl⟩)) <| zaz rfl rfl rfl (fun hG73=>have hP74:¬ (r67.2.1≠(0:Int)) := nP (zab) hG73; zag (mbx hG73 rfl) foc8 rfl Tryz.isAgg3) <| zaz rfl rfl rfl (fun hG75=>have hP76:¬ (r67.2.1≠(0:Int)) := nP (zab) hG75; VJ_P (zaj rfl)) <| zaz rfl rfl rfl (fun hG77=>have hP78:¬ (r67.2.1≠(0:Int)) := nP (zab) hG77; VJ_P (PJ_eq (P_add (a:=((x56:Nat):Int)) (b:=(1:Int)) (mbx hG77 rfl) rfl (by omega)) rfl)) <| zaz rfl rfl rfl (fun hG79=>have hP80:¬ (r67.2.1≠(0:Int)) := nP (zab) hG79; VJ_P (zaj rfl)) <| zaz rfl rfl rfl (fun hG81=>have hP82:¬ (r67.2.1≠(0:Int)) := nP (zab) hG81; VJ_P (zn7 (a:=part) (b:=(5:UInt8)) (mbx hG81 rfl) rfl (by decide))) ?_
            refine zaz rfl rfl rfl (fun hG83=>have hP84:¬ (r67.2.1≠(0:Int)) := nP (zab) hG83; VJ_P (zlb (mbx hG83 rfl) Tryz.runUnderlying5 Tryz.runUnderlying3 (zm0 _ (by have h9 := ((part % (5:UInt8))).toNat_lt; exact (by omega:((part % (5:UInt8))).toNat < 9223372036854775808))))) <| zaz rfl rfl rfl (fun hG85=>have hP86:¬ (r67.2.1≠(0:Int)) := nP (zab) hG85; VJ_P (zzu (a:=(((x56 + 1):Nat):Int)) (b:=((((part % (5:UInt8))).toNat:Nat):Int)) (mbx hG85 rfl) (mbx hG85 rfl))) <| zaz rfl rfl rfl (fun hG87=>have hP88:¬ (r67.2.1≠(0:Int)) := nP (zab) hG87; VJ_P (P_min (a:=((r11.2.2.1:Nat):Int)) (b:=(IntKind.i64.wrap ((((x56 + 1):Nat):Int) * ((((part % (5:UInt8))).toNat:Nat):Int)))) (mbx hG87 rfl) (mbx hG87 rfl))) <| zaz rfl rfl rfl (fun hG89=>have hP90:¬ (r67.2.1≠(0:Int)) := nP (zab) hG89; VJ_P (P_neq (a:=r67.1) (b:=(min (((r11.2.2.1:Nat):Int)) ((IntKind.i64.wrap ((((x56 + 1):Nat):Int) * ((((part % (5:UInt8))).toNat:Nat):Int)))))) (mbx hG89 rfl) (mbx hG89 rfl))) <| oP (zcw rfl rfl (fun hh=>mbx (not_f hh) rfl)) rfl <| oM rfl rfl <| zb7 132 rfl (bT_or zab zab) (fun hg9B hg9 => ?_) (fun hg9B hg9 => ?_)
            ·
             replace h := ite_t hg9 h
             refine RJ_gn (GY_no rfl rfl rfl hg9B) rfl rfl <| RJ_gn (GY_no rfl rfl rfl hg9B) rfl rfl <| RJ_gn (GY_no rfl rfl rfl hg9B) rfl rfl <| RJ_gn (GY_no rfl rfl rfl hg9B) rfl rfl <| RJ_gn (GY_no rfl rfl rfl hg9B) rfl rfl <| RJ_gn (GY_no rfl rfl rfl hg9B) rfl rfl <| RJ_gn (GY_no rfl rfl rfl hg9B) rfl rfl <| RJ_gn (zi0 rfl rfl rfl) rfl rfl <| RJ_gn (zi0 rfl rfl rfl) rfl rfl <| RJ_gn (zi0 rfl rfl rfl) rfl rfl <| RJ_gn (zi0 rfl rfl rfl) rfl rfl <| RJ_gn (zi0 rfl rfl rfl) rfl rfl <| RJ_gn (zi0 rfl rfl rfl) rfl rfl <| RJ_gn (zi0 rfl rfl rfl) rfl rfl <| RJ_gn (GY_no rfl rfl rfl hg9B) rfl rfl <| oP (zbh rfl hg9B rfl) rfl <| nT <| zck rfl rfl <| sR <| oA rfl rfl <| nT <| zah <| zau <| zad <| za9 <| zau <| zad <| zas (Ent.trans (t2_ (t2_ (t0_ (t1_ (t1_ (t1_ eR)))))) (zem (v0:=x55.Open_1) (v1:=x55.Open_2) (v2:=x55.Open_3) (v3:=x55.Open_4) (v4:=(some r67.2.2.1)) (v5:=x55.T) (v6:=x55.Stale) (v7:=x55.Lost) (h0:=oc61.1) (h1:=oc40.2.1) (h2:=oc61.2.1) (h3:=oc61.2.2.1) (h4:=oc61.2.2.2))) ?_
             have hE := Option.some.inj h
             replace hE := zce hK49 hE.symm
             subst hE
             exact fE (res1 Tryz.results11 rfl) () (t2_ (t3_ (eD (eD (eD eR)))))
            ·
             replace h := ite_f hg9 h
             refine gP (zal rfl rfl rfl hg9B) (zaj rfl) rfl <| gP (zal rfl rfl rfl hg9B) (zaj rfl) rfl <| gV (zal rfl rfl rfl hg9B) (zay (i:=x56) rfl rfl rfl (by omega) foc9 rm Tryz.runUnderlying22 Tryz.sizeOf37) rfl <| gP (zal rfl rfl rfl hg9B) (zbe rfl ⟨_,_,_,Tryz.runUnderlying37,rfl,rfl,Tryz.sizeOf3,rfl⟩) rfl <| gV (zal rfl rfl rfl hg9B) (za6 rfl rfl (by omega) foc9 rm rfl rfl Tryz.isAgg3) rfl <| gP (zal rfl rfl rfl hg9B) (P_lss (a:=((m.getD x56 (⟨0,0,0,0⟩:volumegroupmake_Step))).Kind) (b:=(3:Int)) rfl rfl) rfl <| gP (zal rfl rfl rfl hg9B) (zaj rfl) rfl <| zb7 139 rfl zab (fun hg10B hg10 => ?_) (fun hg10B hg10 => ?_)
             ·
              replace h := ite_t hg10 h
              refine gP (zal rfl rfl rfl hg10B) (zaj rfl) rfl <| gP (zal rfl rfl rfl hg10B) (zaj rfl) rfl <| gP (zal rfl rfl rfl hg10B) (zaj rfl) rfl <| gV (zal rfl rfl rfl hg10B) (zay (i:=x56) rfl rfl rfl (by omega) foc9 rm Tryz.runUnderlying22 Tryz.sizeOf37) rfl <| gV (zal rfl rfl rfl hg10B) (zh1 rfl rfl (by omega) foc9 rm rfl rfl Tryz.isAgg37 Tryz.sizeOf37) rfl <| zbb (Ent.trans (t2_ (t2_ (t0_ (t1_ (t1_ (t1_ eR)))))) (zf1 (v0:=x55.Open_1) (v1:=x55.Open_2) (v2:=x55.Open_3) (v3:=x55.Open_4) (v4:=(some r67.2.2.1)) (v5:=x55.T) (v6:=x55.Stale) (v7:=x55.Lost) (h0:=oc61.1) (h1:=oc61.2.1) (h2:=oc61.2.2.1) (h3:=oc61.2.2.2))) ?_
              obtain ⟨r91,hr92,h⟩ := zar h
              refine RJ_gy (zal rfl rfl rfl hg10B) <| zat (zml hr92) rfl Tryz.call18 (Dels.cons del0 (Dels.cons del0 Dels.nil)) rfl fun _ _=>gP (zal rfl rfl rfl hg10B) (P_not rfl) rfl <| gP (zal rfl rfl rfl hg9B) (zbh rfl hg10B rfl) rfl <| oP (za8 rfl hg9B rfl) rfl <| nT <| zan rfl (zdk Iff.rfl) (fun hg11 => ?_) (fun hg11 => ?_)
              ·
               replace h := ite_t hg11 h
               refine sR <| oA rfl rfl <| nT <| zah <| zau <| zad <| za9 <| zau <| zad ?_
               have hE := Option.some.inj h
               replace hE := zce hK49 hE.symm
               subst hE
               exact fE (res1 Tryz.results11 rfl) () (t2_ (t3_ (eD (eD (eD eR)))))
              ·
               replace h := ite_f hg11 h
               exact zbr <| zao <| zam <| zaf <| oM rfl rfl <| oP (PJ_eq (P_add (a:=((x56:Nat):Int)) (b:=(1:Int)) rfl rfl (by omega)) rfl) rfl <| oA rfl rfl <| zap <| nR ⟨n,r91.2.2,r91.2.1,(x56 + 1)⟩ h ⟨rfl,True.intro⟩ (t1_ eR)
             ·
              replace h := ite_f hg10 h
              exact RJ_gn (GY_no rfl rfl rfl hg10B) rfl rfl <| RJ_gn (GY_no rfl rfl rfl hg10B) rfl rfl <| RJ_gn (GY_no rfl rfl rfl hg10B) rfl rfl <| RJ_gn (GY_no rfl rfl rfl hg10B) rfl rfl <| RJ_gn (GY_no rfl rfl rfl hg10B) rfl rfl <| RJ_gn (GY_no rfl rfl rfl hg10B) rfl rfl <| RJ_gn (GY_no rfl rfl rfl hg10B) rfl rfl <| gP (zal rfl rfl rfl hg9B) (za8 rfl hg10B rfl) rfl <| oP (za8 rfl hg9B rfl) rfl <| nT <| zgh rfl rfl <| zbr <| zao <| zam <| zaf <| oM rfl rfl <| oP (PJ_eq (P_add (a:=((x56:Nat):Int)) (b:=(1:Int)) rfl rfl (by omega)) rfl) rfl <| oA rfl rfl <| zap <| zas (Ent.trans (t2_ (t2_ (t0_ (t1_ (t1_ (t1_ eR)))))) (zf1 (v0:=x55.Open_1) (v1:=x55.Open_2) (v2:=x55.Open_3) (v3:=x55.Open_4) (v4:=(some r67.2.2.1)) (v5:=x55.T) (v6:=x55.Stale) (v7:=x55.Lost) (h0:=oc61.1) (h1:=oc61.2.1) (h2:=oc61.2.2.1) (h3:=oc61.2.2.2))) <| nR ⟨n,r67.2.2.2, { x55 with X := (some r67.2.2.1) },(x56 + 1)⟩ h ⟨rfl,True.intro⟩ (t1_ eR)
          ·
           replace h := ite_f hg8 h
           exact zbj <| za3 <| za2 <| za0 <| cR (x55,x54) (Option.some.inj h).symm True.intro (t1_ eR)
        ·
         rintro a53 hy93
         replace h := zd0 hK49 hy93
         show CJ _ _ _ _ _ (([]:Slots) ++ forget _ _) (OwnQ X13.1 oc40.2.1 X21 a53.1::Arr X13.1 a53.2::_)
         refine sR <| oM rfl rfl <| oM rfl rfl <| oP (zaa rfl ⟨_,_,_,Tryz.runUnderlying28,rfl,rfl,Tryz.sizeOf3,rfl⟩) rfl <| oV (zag rfl foc3 rfl Tryz.isAgg3) rfl <| zmu (Ent.transX (t0_ eR) (ze9 (l:=a53.1))) fun oc94=>zcl (zcg (Reads.sl _ _ _) del4) fun hlen96=>zcl (zcg (Reads.sl _ _ _) del5) fun hlen97 => ?_
         rcases opt_e h with ⟨ht98,h⟩ | ⟨o99,ht98,h⟩
         ·
          rw [ht98]
          exact zbb (t0_ (t0_ (t1_ (t1_ (t1_ (t1_ (t1_ (t1_ (t1_ (eD eR)))))))))) <| zbq h
         ·
          rw [ht98]
          refine zbb (Ent.takeC (A' := MirP X13.1 oc40.2.1 o99) del2 rfl eR) ?_
          obtain ⟨r100,hr101,h⟩ := zar h
          refine oO <| zat (zmk hr101) rfl Tryz.call39 (Dels.cons del0 (Dels.cons del5 Dels.nil)) rfl fun _ _=>oM rfl rfl <| oP (za4 rfl rfl) rfl <| oP (za4 rfl rfl) rfl <| oA rfl rfl <| oA rfl rfl <| nT <| sR <| oM rfl rfl ?_
          obtain ⟨r102,hr103,h⟩ := zar h
          refine oO <| zat (zlr hr103) rfl Tryz.call27 (Dels.cons del0 (Dels.cons del0 Dels.nil)) rfl fun _ _=>oM rfl rfl <| oP (za4 rfl rfl) rfl <| oP (za4 rfl rfl) rfl <| oA rfl rfl <| oA rfl rfl <| nT <| zac <| sR <| oM rfl rfl <| oP (P_neq (a:=r100.2.1) (b:=(0:Int)) rfl rfl) rfl <| oM rfl rfl <| zaz rfl rfl rfl (fun hG104=>have hP105:¬ (r100.2.1≠(0:Int)) := nP (zab) hG104; VJ_P (zaj rfl)) <| zaz rfl rfl rfl (fun hG106=>have hP107:¬ (r100.2.1≠(0:Int)) := nP (zab) hG106; VJ_P (P_neq (a:=r102.2.1) (b:=(0:Int)) (mbx hG106 rfl) rfl)) <| oP (zcw rfl rfl (fun hh=>mbx (not_f hh) rfl)) rfl <| oM rfl rfl <| zaz rfl rfl rfl (fun hG108=>have hP109:¬ ((r100.2.1≠(0:Int))∨(r102.2.1≠(0:Int))) := nP ((bT_or zab zab)) hG108; VJ_P (zaj rfl)) <| zaz rfl rfl rfl (fun hG110=>have hP111:¬ ((r100.2.1≠(0:Int))∨(r102.2.1≠(0:Int))) := nP ((bT_or zab zab)) hG110; VJ_P (zaa rfl ⟨_,_,_,Tryz.runUnderlying28,rfl,rfl,Tryz.sizeOf3,rfl⟩)) <| zaz rfl rfl rfl (fun hG112=>have hP113:¬ ((r100.2.1≠(0:Int))∨(r102.2.1≠(0:Int))) := nP ((bT_or zab zab)) hG112; zag (mbx hG112 rfl) foc8 rfl Tryz.isAgg3) <| zaz rfl rfl rfl (fun hG114=>have hP115:¬ ((r100.2.1≠(0:Int))∨(r102.2.1≠(0:Int))) := nP ((bT_or zab zab)) hG114; VJ_P (P_neq (a:=r100.1) (b:=((r11.2.2.1:Nat):Int)) (mbx hG114 rfl) (mbx hG114 rfl))) ?_
          refine oP (zcw rfl rfl (fun hh=>mbx (not_f hh) rfl)) rfl <| oM rfl rfl <| zaz rfl rfl rfl (fun hG116=>have hP117:¬ (((r100.2.1≠(0:Int))∨(r102.2.1≠(0:Int)))∨(r100.1≠((r11.2.2.1:Nat):Int))) := nP ((bT_or (bT_or zab zab) zab)) hG116; VJ_P (zaj rfl)) <| zaz rfl rfl rfl (fun hG118=>have hP119:¬ (((r100.2.1≠(0:Int))∨(r102.2.1≠(0:Int)))∨(r100.1≠((r11.2.2.1:Nat):Int))) := nP ((bT_or (bT_or zab zab) zab)) hG118; VJ_P (P_neq (a:=r102.1) (b:=(0:Int)) (mbx hG118 rfl) rfl)) <| oP (zcw rfl rfl (fun hh=>mbx (not_f hh) rfl)) rfl <| oM rfl rfl <| zb7 178 rfl (bT_or (bT_or (bT_or zab zab) zab) zab) (fun hg12B hg12 => ?_) (fun hg12B hg12 => ?_)
          ·
           replace h := ite_t hg12 h
           refine RJ_gn (GY_no rfl rfl rfl hg12B) rfl rfl <| RJ_gn (GY_no rfl rfl rfl hg12B) rfl rfl <| RJ_gn (GY_no rfl rfl rfl hg12B) rfl rfl <| RJ_gn (GY_no rfl rfl rfl hg12B) rfl rfl <| oP (zbh rfl hg12B rfl) rfl <| oM rfl rfl <| RJ_gn (GY_no rfl rfl rfl rfl) rfl rfl <| RJ_gn (GY_no rfl rfl rfl rfl) rfl rfl <| RJ_gn (GY_no rfl rfl rfl rfl) rfl rfl <| RJ_gn (GY_no rfl rfl rfl rfl) rfl rfl <| oP (zbh rfl rfl rfl) rfl <| nT <| zck rfl rfl <| sR <| oA rfl rfl <| zap <| zas (t1_ (t6_ (t7_ (eD (eD (eD (eD (eD (eD (eD eR)))))))))) <| zam <| zah <| zad ?_
           cases h
           exact fE (res1 Tryz.results11 rfl) () (t1_ (t1_ (eD eR)))
          ·
           replace h := ite_f hg12 h
           refine gP (zal rfl rfl rfl hg12B) (zaj rfl) rfl <| gP (zal rfl rfl rfl hg12B) (zaj rfl) rfl ?_
           obtain ⟨r120,hr121,h⟩ := zar h
           refine RJ_gy (zal rfl rfl rfl hg12B) <| zat (zls hr121) rfl Tryz.call38 (Dels.cons del0 (Dels.cons del0 Dels.nil)) rfl fun _ _=>gP (zal rfl rfl rfl hg12B) (P_neq (a:=r120.1) (b:=(0:Int)) rfl rfl) rfl <| oP (za8 rfl hg12B rfl) rfl <| oM rfl rfl <| zb7 184 rfl zab (fun hg13B hg13 => ?_) (fun hg13B hg13 => ?_)
           ·
            replace h := ite_t hg13 h
            refine RJ_gn (GY_no rfl rfl rfl hg13B) rfl rfl <| RJ_gn (GY_no rfl rfl rfl hg13B) rfl rfl <| RJ_gn (GY_no rfl rfl rfl hg13B) rfl rfl <| RJ_gn (GY_no rfl rfl rfl hg13B) rfl rfl <| oP (zbh rfl hg13B rfl) rfl <| nT <| zck rfl rfl <| sR <| oA rfl rfl <| zap <| zas (t1_ (t6_ (t7_ (eD (eD (eD (eD (eD (eD (eD eR)))))))))) <| zam <| zah <| zad ?_
            cases h
            exact fE (res1 Tryz.results11 rfl) () (t1_ (t1_ (eD eR)))
           ·
            replace h := ite_f hg13 h
            refine gP (zal rfl rfl rfl hg13B) (zaj rfl) rfl ?_
            obtain ⟨r122,hr123,h⟩ := zar h
            refine RJ_gy (zal rfl rfl rfl hg13B) <| zat (zpi hr123) rfl Tryz.call40 (Dels.cons del0 (Dels.cons del0 Dels.nil)) rfl fun X124 _=>gV (zal rfl rfl rfl hg13B) (V_len rfl foc2 (Reads.sl _ _ _) Tryz.runUnderlying45) rfl <| gP (zal rfl rfl rfl hg13B) (P_neq (a:=((r122.length:Nat):Int)) (b:=(0:Int)) rfl rfl) rfl <| oP (za8 rfl hg13B rfl) rfl <| zap <| zas (t0_ (t0_ (t1_ (t1_ (t1_ (t1_ (t1_ (t1_ (t1_ (t1_ (eD eR))))))))))) <| zam <| zan rfl zab (fun hg14 => ?_) (fun hg14 => ?_)
            ·
             replace h := ite_t hg14 h
             refine sR <| oA rfl rfl <| zap <| zas (t1_ (t6_ (t7_ (eD (eD (eD (eD (eD (eD (eD eR)))))))))) <| zam <| zah <| zad ?_
             cases h
             exact fE (res1 Tryz.results11 rfl) () (t1_ (t1_ (eD eR)))
            ·
             replace h := ite_f hg14 h
             refine kT <| zac <| sR <| oM rfl rfl <| zbb (Ent.trans (t2_ (t2_ (t0_ (t1_ (t1_ (t1_ eR)))))) (zf1 (v0:=a53.1.Open_1) (v1:=a53.1.Open_2) (v2:=a53.1.Open_3) (v3:=a53.1.Open_4) (v4:=(some r120.2.1)) (v5:=a53.1.T) (v6:=a53.1.Stale) (v7:=a53.1.Lost) (h0:=oc94.1) (h1:=oc94.2.1) (h2:=oc94.2.2.1) (h3:=oc94.2.2.2))) ?_
             obtain ⟨r126,hr127,h⟩ := zar h
             refine oO <| zat (zh8 hr127) rfl Tryz.call23 (Dels.cons del0 (Dels.cons del0 Dels.nil)) rfl fun _ _=>oM rfl rfl <| oP (za4 rfl rfl) rfl <| oP (za4 rfl rfl) rfl <| oA rfl rfl <| oA rfl rfl <| nT <| sR <| oM rfl rfl <| oP (P_neq (a:=r126.1) (b:=(0:Int)) rfl rfl) rfl <| oM rfl rfl <| zaz rfl rfl rfl (fun hG128=>have hP129:¬ (r126.1≠(0:Int)) := nP (zab) hG128; VJ_P (zaj rfl)) <| zaz rfl rfl rfl (fun hG130=>have hP131:¬ (r126.1≠(0:Int)) := nP (zab) hG130; VJ_P (P_not (mbx hG130 rfl))) <| oP (zcw rfl rfl (fun hh=>mbx (not_f hh) rfl)) rfl <| nT <| zan rfl (bT_or zab (zdk Iff.rfl)) (fun hg15 => ?_) (fun hg15 => ?_)
             ·
              replace h := ite_t hg15 h
              refine sR <| oA rfl rfl <| nT <| zah <| zad ?_
              cases h
              exact fE (res1 Tryz.results11 rfl) () (t2_ (t3_ (eD (eD (eD eR)))))
             ·
              replace h := ite_f hg15 h
              refine kT <| zac <| zax (Ent.transX (t0_ eR) (ze9 (l:=r126.2.2.1))) fun oc132=>lC del4 fun hlen134=>lC del5 fun hlen135=>zaf <| oM rfl rfl <| oP (zae rfl) rfl <| oP (zaa rfl ⟨_,_,_,Tryz.runUnderlying60,rfl,rfl,Tryz.sizeOf45,rfl⟩) rfl <| oO <| zbu rfl rfl foc0 rfl rfl Tryz.sizeOf45 <| zap <| zas (fun h hh=>zdj (t:=tyI) h hh) <| zas (Ent.trans (t1_ (t1_ (t1_ (t1_ (t0_ (t1_ eR)))))) (zem (v0:=r126.2.2.1.Open_1) (v1:=r126.2.2.1.Open_2) (v2:=r126.2.2.1.Open_3) (v3:=r126.2.2.1.Open_4) (v4:=r126.2.2.1.X) (v5:=r126.2.2.1.T) (v6:=[]) (v7:=r126.2.2.1.Lost) (h0:=oc132.1) (h1:=oc40.2.1) (h2:=oc132.2.1) (h3:=⟨none,0,0⟩) (h4:=oc132.2.2.2))) <| zam <| zac <| sR <| oA rfl rfl <| nT ?_
              obtain ⟨y139,hl137,hK138⟩ := seq_e h
              refine zbv (X:=OwnS × ArrS) [12,28,204,205,206,207,208,209,210,211,212,213,214,215,216,217,218,219] (fun a142=>([]:Slots)) (fun a142 R=>OwnP X13.1 X21 a142.1::Arr X13.1 a142.2::R) (fun a142=>y139 = .inl a142) (Dels.cons del0 (Dels.cons del1 Dels.nil)) ?_ ?_
              ·
               refine zaw <| zbd (X:=Nat × ArrS × OwnS × Nat) [12,28,204,205,206,207,208,209,210,211,212,213,214,215,216,217,218,219] (fun ⟨n,x143,x144,x145⟩=>([(28,.int .i64 (((x145:Nat):Int)))]:Slots)) (fun ⟨n,x143,x144,x145⟩ R=>Arr X13.1 x143::OwnP X13.1 X21 x144::R) (fun ⟨n,x143,x144,x145⟩=>zdd leg r11 n x143 x144 x145=some y139) (fun ⟨n,x143,x144,x145⟩=>n) ⟨FUEL,r126.2.2.2, { r126.2.2.1 with Stale := [] },0⟩ ?_ ?_ (t2_ eR) ?_
               · exact hl137
               · exact ⟨rfl,True.intro⟩
               ·
                rintro ⟨n,x143,x144,x145⟩ h
                cases n with
                | zero=>exact zbq h
                | succ n => ?_
                replace h:zel leg r11 (zdd leg r11 n) x143 x144 x145=some y139 := h
                unfold zel at h
                show CJ _ _ _ _ _ (([(28,.int .i64 (((x145:Nat):Int)))]:Slots) ++ forget _ _) (Arr X13.1 x143::OwnP X13.1 X21 x144::_)
                refine zac <| sR <| oM rfl rfl <| oP (zaa rfl ⟨_,_,_,Tryz.runUnderlying28,rfl,rfl,Tryz.sizeOf3,rfl⟩) rfl <| oV (zag rfl foc4 rfl Tryz.isAgg3) rfl <| oP (P_lss (a:=((x145:Nat):Int)) (b:=((r11.2.1:Nat):Int)) rfl rfl) rfl <| nT <| zan rfl zab (fun hg16 => ?_) (fun hg16 => ?_)
                ·
                 replace h := ite_t hg16 h
                 refine kT <| zac <| zaw <| sR <| oM rfl rfl <| oM rfl rfl <| oP (P_neq (a:=((x145:Nat):Int)) (b:=((((leg.toNat:Nat):Int)).tmod (((r11.2.1:Nat):Int)))) rfl rfl) rfl <| oM rfl rfl <| zb7 213 rfl zab (fun hg17B hg17 => ?_) (fun hg17B hg17 => ?_)
                 ·
                  replace h := ite_t hg17 h
                  refine gP (zal rfl rfl rfl hg17B) (zaj rfl) rfl <| gP (zal rfl rfl rfl hg17B) (zaj rfl) rfl <| gP (zal rfl rfl rfl hg17B) (zaj rfl) rfl ?_
                  obtain ⟨r146,hr147,h⟩ := zar h
                  refine RJ_gy (zal rfl rfl rfl hg17B) <| zat (zka hr147) rfl Tryz.call30 (Dels.cons del1 (Dels.cons del0 Dels.nil)) rfl fun _ _=>gP (zal rfl rfl rfl hg17B) (P_not rfl) rfl <| oP (zbh rfl hg17B rfl) rfl <| nT <| zan rfl (zdk Iff.rfl) (fun hg18 => ?_) (fun hg18 => ?_)
                  ·
                   replace h := ite_t hg18 h
                   refine sR <| oA rfl rfl <| nT <| zah <| zau <| zad <| za9 <| zau <| zad ?_
                   have hE := Option.some.inj h
                   replace hE := zce hK138 hE.symm
                   subst hE
                   exact fE (res1 Tryz.results11 rfl) () (t3_ (t4_ (eD (eD (eD (eD eR))))))
                  ·
                   replace h := ite_f hg18 h
                   refine zbr <| zao <| zam <| zaf <| oM rfl rfl ?_
                   obtain ⟨hg19,h⟩ := zfg h
                   exact oP (PJ_eq (P_add (a:=((x145:Nat):Int)) (b:=(1:Int)) rfl rfl (zfh hg19)) rfl) rfl <| oA rfl rfl <| zap <| nR ⟨n,r146.2.2,r146.2.1,(x145 + 1)⟩ h ⟨rfl,True.intro⟩ (t1_ eR)
                 ·
                  replace h := ite_f hg17 h
                  refine RJ_gn (GY_no rfl rfl rfl hg17B) rfl rfl <| RJ_gn (GY_no rfl rfl rfl hg17B) rfl rfl <| RJ_gn (GY_no rfl rfl rfl hg17B) rfl rfl <| RJ_gn (GY_no rfl rfl rfl hg17B) rfl rfl <| RJ_gn (GY_no rfl rfl rfl hg17B) rfl rfl <| oP (za8 rfl hg17B rfl) rfl <| nT <| zgh rfl rfl <| zbr <| zao <| zam <| zaf <| oM rfl rfl ?_
                  obtain ⟨hg20,h⟩ := zfg h
                  exact oP (PJ_eq (P_add (a:=((x145:Nat):Int)) (b:=(1:Int)) rfl rfl (zfh hg20)) rfl) rfl <| oA rfl rfl <| zap <| nR ⟨n,x143,x144,(x145 + 1)⟩ h ⟨rfl,True.intro⟩ eR
                ·
                 replace h := ite_f hg16 h
                 exact zbj <| za3 <| za2 <| za0 <| cR (x144,x143) (Option.some.inj h).symm True.intro (t1_ eR)
              ·
               rintro a142 hy148
               replace h := zd0 hK138 hy148
               show CJ _ _ _ _ _ (([]:Slots) ++ forget _ _) (OwnP X13.1 X21 a142.1::Arr X13.1 a142.2::_)
               refine sR <| oM rfl rfl ?_
               obtain ⟨r149,hr150,h⟩ := zar h
               refine oO <| zat (zdh hr150) rfl Tryz.call34 (Dels.cons del0 (Dels.cons del0 Dels.nil)) rfl fun _ _=>oM rfl rfl <| zb7 222 rfl Iff.rfl (fun hg21B hg21 => ?_) (fun hg21B hg21 => ?_)
               ·
                replace h := ite_t hg21 h
                obtain ⟨r151,hr152,h⟩ := zar h
                refine RJ_gy (zal rfl rfl rfl hg21B) <| zat (zjf hr152) rfl Tryz.call13 Dels.nil rfl fun _ _=>oP (zbh rfl hg21B rfl) rfl <| oA rfl rfl <| nT <| zah ?_
                cases h
                exact fE (res1 Tryz.results11 rfl) () (t3_ (t4_ (eD (eD (eD (eD eR))))))
               ·
                replace h := ite_f hg21 h
                refine RJ_gn (GY_no rfl rfl rfl hg21B) rfl rfl <| oP (za8 rfl hg21B rfl) rfl <| oA rfl rfl <| nT <| zah ?_
                cases h
                exact fE (res1 Tryz.results11 rfl) () (t3_ (t4_ (eD (eD (eD (eD eR))))))
end Go.Proofs
namespace Go.Proofs
open Go.VG
def mkS (ims:List (List UInt64)):ArrS := ⟨ims.map (fun im=>⟨im,im,false⟩),[],[],0,false,0⟩
theorem zd5 {n:Nat} (h:n≤1000000000):inLen n=true := inLen_iff.2 h
theorem zdy {n:Nat} (h:n≤9000000000000000000):inN64 n=true := inN64_iff.2 (by omega)
theorem grd_t {α:Type} {b:Bool} {o:Option α} (h:b=true):grd b o=o := by rw [h]; rfl
theorem zd6 {α ρ:Type} {a:α} {k:α→Option ρ} : seqO (some (.inl a)) k=k a := rfl
theorem zjv {α ρ:Type} {a:ρ} {k:α→Option ρ} : seqO (some (.inr a)) k=some a := rfl
def lensI (l:List (List UInt64)):List Int := l.map fun im=>(im.length:Int)
theorem zlf {α:Type} {l:List α} {i:Nat} {d:α} (h:i < l.length):l.take (i + 1)=l.take i ++ [l.getD i d] := by
  rw [List.take_succ_eq_append_getElem h]; simp [List.getD,h]
theorem zu4 {l:List (List UInt64)} (h8:l.length≤1000):∀ (N i:Nat) (acc:List Int),l.length - i < N→i≤l.length→acc=lensI (l.take i) →
    zgm l N acc i=some (lensI l)
  | 0,_,_,h,_,_=>absurd h (by omega)
  | N + 1,i,acc,h,hi,ha=>by
    show zfx _ _ _ _=_
    unfold zfx
    subst ha
    by_cases hlt:i < l.length
    · rw [if_pos (by omega),grd_t (zd5 (by simp [lensI]; omega)),grd_t (zdy (by omega))]
      refine zu4 h8 N (i + 1) _ (by omega) (by omega) ?_
      rw [zlf (d:=[]) hlt]; simp [lensI]
    · rw [if_neg (by omega)]
      have:i=l.length := by omega
      rw [this,List.take_length]
def ldDrv (l:List (List UInt64)) (i:Nat):List Drive := (l.take i).map (fun im=>⟨im,im,false⟩) ++ (lensI (l.drop i)).map mkD
theorem zu5 {l:List (List UInt64)} (h8:l.length≤8) (hz:∀ im ∈ l,1≤im.length∧im.length≤65536):∀ (N i:Nat) (x:ArrS),l.length - i < N→i≤l.length→x=⟨ldDrv l i,[],[],0,false,0⟩ →
    zgn l N x i=some (.inl (mkS l))
  | 0,_,_,h,_,_=>absurd h (by omega)
  | N + 1,i,x,h,hi,hx=>by
    show zfy _ _ _ _=_
    unfold zfy
    subst hx
    by_cases hlt:i < l.length
    · have hlen:(ldDrv l i).length=l.length := by simp [ldDrv,lensI]; omega
      have hin:inR ⟨ldDrv l i,[],[],0,false,0⟩ (i:Int) := by unfold inR; simp only [hlen]; omega
      have hg:(ldDrv l i).getD i d0=mkD ((l.getD i []).length:Int) := by
        unfold ldDrv
        have e1:((l.take i).map (fun im=>(⟨im,im,false⟩:Drive))).length=i := by simp; omega
        simp only [List.getD]
        rw [List.getElem?_append_right (by omega),e1,Nat.sub_self,List.drop_eq_getElem_cons hlt]; simp [lensI,hlt]
      have hc:ldC ⟨ldDrv l i,[],[],0,false,0⟩ (i:Int) (l.getD i [])=0 := by
        unfold ldC; rw [if_pos hin]; simp only [Int.toNat_natCast,hg]
        rw [if_pos (by simp [mkD])]
      rw [if_pos (by omega),grd_t (zd5 (by simp)),if_neg (by rw [hc]; simp),grd_t (zdy (by omega))]
      refine zu5 h8 hz N (i + 1) _ (by omega) (by omega) ?_
      have hC:ldS ⟨ldDrv l i,[],[],0,false,0⟩ (i:Int) (l.getD i [])=⟨ldDrv l (i + 1),[],[],0,false,0⟩ := by
        unfold ldS; rw [if_pos hc]
        have hd:∀ n,zku [] (i:Int) n=[] := fun n=>by
          induction n with
          | zero=>rfl
          | succ n ih=>rw [← zqs,ih]; rfl
        simp only [Int.toNat_natCast,hg,hd,List.filter_nil]
        congr 1
        unfold ldDrv
        rw [zlf (d:=[]) hlt,List.drop_eq_getElem_cons hlt]
        have e1:((l.take i).map (fun im=>(⟨im,im,false⟩:Drive))).length=i := by simp; omega
        rw [List.set_append_right _ _ (by omega),e1,Nat.sub_self]
        simp only [lensI,List.map_cons,List.set_cons_zero,List.map_append,List.map_nil,List.append_assoc,List.cons_append,List.nil_append]
        rfl
      exact hC
    · rw [if_neg (by omega)]
      have:i=l.length := by omega
      rw [this]; simp [ldDrv,mkS,lensI]
theorem z0p {l:List (List UInt64)} (h8:l.length≤8) (hz:∀ im ∈ l,1≤im.length∧im.length≤65536):zhr l=some (some (mkS l)) := by
  unfold zhr
  have hF := zbp
  generalize FUEL=N at hF ⊢
  rw [zu4 (by omega) N 0 [] (by omega) (by omega) (by simp [lensI])]
  have hN:newB (lensI l)=true := by
    unfold newB
    rw [Bool.and_eq_true,Nat.ble_eq,List.all_eq_true]
    refine ⟨by simpa [lensI] using h8,fun z hz' => ?_⟩
    obtain ⟨im,him,rfl⟩ := List.mem_map.1 hz'
    have := hz im him
    simp; omega
  simp only [Option.bind_some]
  rw [grd_t (zd5 (by simp [lensI]; omega))]
  have hnc:newC (lensI l)=0 := by unfold newC; rw [if_pos hN]
  have hno:newO (lensI l)=some (newS (lensI l)) := by unfold newO; rw [if_pos hN]
  rw [if_neg (by rw [hnc]; simp),hno]
  simp only [Option.elim]
  rw [zu5 h8 hz N 0 _ (by omega) (by omega) (by simp [newS,ldDrv])]
  rfl
end Go.Proofs
namespace Go.Proofs
open Go.VG
theorem zua {n k m:Int} (hn:0≤n∧n≤4611686018427387904):zgw n k m=some (decide (0≤k∧k≤n∧0≤m∧m≤n - k)) := by
  unfold zgw
  refine congrArg some ?_
  rw [Bool.eq_iff_iff]
  by_cases h:0≤k∧k≤n
  · rw [ziu (by omega) (by omega)]; simp; omega
  · simp; omega
theorem zyk {n k:Int} (hn:0≤n∧n≤4611686018427387904):zgw n k 1=some (decide (0≤k∧k < n)) := by
  rw [zua hn]; exact congrArg some (decide_eq_decide.2 (by omega))
theorem zdo {n:Int} (h : -4611686018427387904≤n∧n≤4611686018427387904):inI64 n=true := inI64_iff.2 (by omega)
def zjq (s:ArrS):List Dvc := (List.range s.drv.length).map fun i=>Dvc.span ((i:Nat):Int) 0 ((s.size i:Nat):Int)
@[simp] theorem znl {s:ArrS} : (zjq s).length=s.drv.length := by simp [zjq]
theorem zo9 {s:ArrS} {i:Nat} (h:i < s.drv.length):(zjq s).getD i dv0=Dvc.span ((i:Nat):Int) 0 ((s.size i:Nat):Int) := by
  simp [zjq,List.getD,h]
theorem zog {s:ArrS} {i:Nat} (h:i < s.drv.length):sizeI s (i:Int)=((s.size i:Nat):Int) := by
  rw [sizeI,if_pos (show inR s (i:Int) from ⟨by omega,by omega⟩)]; simp
theorem z3m {s:ArrS} {d st n:Int} (h1:1≤n) (h2:0≤st) (h3:st + n≤sizeI s d) (h4:sizeI s d≤1000000000):zmi s d st n=some (some (Dvc.span d st n),0) := by
  unfold zmi
  rw [if_neg (by omega),zua (by omega)]
  simp only [Option.bind_some]
  rw [if_neg (by simp; omega)]
theorem zne {s:ArrS} {d st n:Int} : (Dvc.span d st n).size s=some n := rfl
theorem span_rd {s:ArrS} {d st n k:Int} (hn:0≤n∧n≤1000000000) (hs:0≤st∧st≤1000000000):(Dvc.span d st n).rd s k=some (if 0≤k∧k < n then (rdV s d (st + k),rdC s d (st + k)) else (0,1)) := by
  show zkr _ _ _ _ _=_
  unfold zkr
  rw [zyk (by omega)]; simp only [Option.bind_some]
  by_cases h:0≤k∧k < n
  · rw [if_neg (by simp [h]),grd_t (zdo (by omega)),if_pos h]
  · rw [if_pos (by simpa using h),if_neg h]
theorem span_wr {s:ArrS} {d st n k:Int} {v:UInt64} (hn:0≤n∧n≤1000000000) (hs:0≤st∧st≤1000000000) (hw:s.writes≤1000000000):(Dvc.span d st n).wr s k v=some (if 0≤k∧k < n then (wrR s d (st + k),wrS s d (st + k) v) else (1,s)) := by
  show zj3 _ _ _ _ _ _=_
  unfold zj3
  rw [zyk (by omega)]; simp only [Option.bind_some]
  by_cases h:0≤k∧k < n
  · rw [if_neg (by simp [h]),grd_t (zdo (by omega)),grd_t (zd5 hw),if_pos h]
  · rw [if_pos (by simpa using h),if_neg h]
theorem zyl {s:ArrS} {d st n:Int} (hw:s.writes≤1000000000):(Dvc.span d st n).fl s=some (flC s d,flS s d) := by
  show zj4 s d st n=_
  unfold zj4
  rw [grd_t (zd5 hw)]
theorem zsi {n k m:Int} (hn:n≤1000000000) (h:0≤k∧0≤m∧k + m≤n):zgw n k m=some true := by
  rw [zua (by omega)]; exact congrArg some (decide_eq_true (by omega))
end Go.Proofs
namespace Go.Proofs
open Go.VG
def tb (a:UInt64) (k:Nat):Bool := a.toNat.testBit k
theorem tb_ext {a b:UInt64} (h:∀ k,tb a k=tb b k):a=b := UInt64.toNat_inj.1 (Nat.eq_of_testBit_eq h)
theorem zwm {a b:UInt64} {k:Nat} : tb (a &&& b) k=(tb a k && tb b k) := by unfold tb; rw [UInt64.toNat_and,Nat.testBit_and]
theorem tb_or {a b:UInt64} {k:Nat} : tb (a ||| b) k=(tb a k || tb b k) := by unfold tb; rw [UInt64.toNat_or,Nat.testBit_or]
theorem tb_not {a:UInt64} {k:Nat} (hk:k < 64):tb (~~~a) k = !tb a k := by
  unfold tb
  rw [UInt64.toNat_not,Nat.sub_sub,Nat.add_comm 1,Nat.testBit_two_pow_sub_succ a.toNat_lt]
  simp [hk]
theorem z0q {a:UInt64} {m:Nat} (hm:m < 64):(zik a m).toNat=a.toNat / 2 ^ m := by
  unfold zik
  rw [show min m 64=m by omega,UInt64.toNat_ofNat',Nat.mod_eq_of_lt (Nat.lt_of_le_of_lt (Nat.div_le_self _ _) a.toNat_lt)]
theorem z0r {a:UInt64} {m k:Nat} (hm:m < 64):tb (zik a m) k=tb a (m + k) := by
  unfold tb; rw [z0q hm,Nat.testBit_div_two_pow,Nat.add_comm]
theorem z0s {k:Nat} : tb 1 k=decide (k=0) := by
  unfold tb
  show Nat.testBit 1 k=_
  cases k with
  | zero=>rfl
  | succ k=>rw [Nat.testBit_succ]; simp
theorem z0t {m k:Nat} (hm:m < 64):tb (zj0 1 m) k=decide (k=m) := by
  unfold tb
  rw [zp8,show min m 64=m by omega]
  show Nat.testBit (1 * 2 ^ m % 18446744073709551616) k=_
  rw [Nat.one_mul,Nat.mod_eq_of_lt (by have := Nat.pow_lt_pow_right (a:=2) (by decide) hm; exact this),Nat.testBit_two_pow]
  simp [eq_comm]
theorem zym {a:UInt64} {m:Nat} (hm:m < 64):(zik a m) &&& 1=1↔tb a m=true := by
  constructor
  · intro h
    have := congrArg (fun x=>tb x 0) h
    simp only [zwm,z0r hm,z0s,Nat.add_zero] at this
    simpa using this
  · intro h
    apply tb_ext
    intro k
    rw [zwm,z0r hm,z0s]
    by_cases hk:k=0
    · subst hk; simpa using h
    · simp [hk]
def bitR (l:List UInt64) (r:Nat):Bool := tb (l.getD (r / 64) 0) (r % 64)
def setW (a:UInt64) (k:Nat) (is:Bool):UInt64 := if is then a ||| zj0 1 k else a &&& ~~~(zj0 1 k)
def setR (l:List UInt64) (r:Nat) (is:Bool):List UInt64 := l.set (r / 64) (setW (l.getD (r / 64) 0) (r % 64) is)
theorem z3n {a:UInt64} {k j:Nat} {is:Bool} (hk:k < 64) (hj:j < 64):tb (setW a k is) j=if j=k then is else tb a j := by
  unfold setW
  cases is
  · rw [if_neg (by decide),zwm,tb_not hj,z0t hk]; by_cases h:j=k <;> simp [h]
  · rw [if_pos rfl,tb_or,z0t hk]; by_cases h:j=k <;> simp [h]
theorem znc {l:List UInt64} {r:Nat} {is:Bool} : (setR l r is).length=l.length := by simp [setR]
theorem z0u {l:List UInt64} {i j:Nat} {v:UInt64} (h:i < l.length):(l.set i v).getD j 0=if j=i then v else l.getD j 0 := by
  simp only [List.getD,List.getElem?_set]
  by_cases e:i=j
  · subst e; simp [h]
  · rw [if_neg e,if_neg (fun x=>e x.symm)]
theorem zzd {r q:Nat} (h1:r / 64=q / 64) (h2:r % 64=q % 64):r=q := by omega
theorem z0v {l:List UInt64} {r q:Nat} {is:Bool} (h:r / 64 < l.length):bitR (setR l r is) q=if q=r then is else bitR l q := by
  unfold bitR setR
  rw [z0u h]
  by_cases e:q / 64=r / 64
  · rw [if_pos e,z3n (Nat.mod_lt _ (by decide)) (Nat.mod_lt _ (by decide))]
    by_cases e2:q % 64=r % 64
    · rw [if_pos e2,if_pos (zzd e e2)]
    · rw [if_neg e2,if_neg (fun x=>e2 (by rw [x])),e]
  · rw [if_neg e,if_neg (fun x=>e (by rw [x]))]
theorem div64 {r:Nat} (hr:r≤1000000000000):IntKind.i64.wrap ((r:Int).tdiv (64:Int))=((r / 64:Nat):Int) := by
  have:(r:Int).tdiv (64:Int)=((r / 64:Nat):Int) := (Int.ofNat_tdiv r 64).symm
  rw [this]; exact ziu (by omega) (by omega)
theorem mod64 {r:Nat} : ((r:Int) % (64:Int)).toNat=r % 64 := by omega
theorem z3o {l:List UInt64} {r:Nat} (h:r / 64 < l.length) (hr:r≤1000000000000):zoa l (r:Int)=some (bitR l r,0) := by
  unfold zoa
  rw [div64 hr,if_neg (by omega),grd_t (decide_eq_true ⟨by omega,by omega⟩),mod64,Int.toNat_natCast]
  simp only [lt]
  congr 2
  unfold bitR
  by_cases hb:tb (l.getD (r / 64) 0) (r % 64)=true
  · rw [hb]; exact decide_eq_true ((zym (Nat.mod_lt _ (by decide))).2 hb)
  · rw [Bool.not_eq_true] at hb
    rw [hb]; exact decide_eq_false (fun e=>by rw [(zym (Nat.mod_lt _ (by decide))).1 e] at hb; cases hb)
theorem zze {l:List UInt64} {r:Nat} {is:Bool} (h:r / 64 < l.length) (hr:r≤1000000000000) (hl:l.length≤1000000000):zlp l (r:Int) is=some (setR l r is,0) := by
  unfold zlp
  rw [div64 hr,if_neg (by omega),grd_t (zd5 hl)]
  simp only [grd_t (decide_eq_true (show (0:Int)≤((r / 64:Nat):Int)∧((r / 64:Nat):Int) < (l.length:Int) from ⟨by omega,by omega⟩)),mod64,Int.toNat_natCast,lt]
  unfold setR setW
  cases is <;> simp
end Go.Proofs
namespace Go.Proofs
open Go.VG
def nowL (s:ArrS) (d:Nat):List UInt64 := (s.drv.getD d d0).now
theorem zf0 {s:ArrS} {d:Nat} : s.size d=(nowL s d).length := rfl
structure Good (s:ArrS):Prop where
  down:s.down=false
  fuse:s.fuse=0
  bad:s.bad=[]
  miss:∀ d,(s.drv.getD d d0).miss=false
theorem z2b {ims:List (List UInt64)} : Good (mkS ims) where
  down := rfl
  fuse := rfl
  bad := rfl
  miss d := by
    simp only [mkS,List.getD,List.getElem?_map]
    cases ims[d]? <;> rfl
theorem z2c {ims:List (List UInt64)} {d:Nat} : nowL (mkS ims) d=ims.getD d [] := by
  simp only [nowL,mkS,List.getD,List.getElem?_map]
  cases ims[d]? <;> rfl
@[simp] theorem drv_mkS {ims:List (List UInt64)} : (mkS ims).drv.length=ims.length := by simp [mkS]
theorem Good.chk {s:ArrS} (hg:Good s) {d a:Nat} (hd:d < s.drv.length) (ha:a < s.size d):cPow s=0∧cLoc s d=0∧cPla s d a=0∧cPre s d=0∧cWho s d a=0 := by
  refine ⟨by simp [cPow,hg.down],?_,?_,by simp only [cPre,missI,Int.toNat_natCast,hg.miss d]; rfl,by simp [cWho,isBad,hg.bad,lookM]⟩
  · rw [cLoc,if_pos (show inR s (d:Int) from ⟨by omega,by omega⟩)]
  · rw [cPla,zog hd,if_pos (by omega)]
theorem Good.rdC {s:ArrS} (hg:Good s) {d a:Nat} (hd:d < s.drv.length) (ha:a < s.size d):rdC s d a=0 := by
  obtain ⟨h1,h2,h3,h4,h5⟩ := hg.chk hd ha
  simp [Go.Proofs.rdC,fz,h1,h2,h3,h4,h5]
theorem Good.rdV {s:ArrS} (hg:Good s) {d a:Nat} (hd:d < s.drv.length) (ha:a < s.size d):rdV s d a=(nowL s d).getD a 0 := by
  rw [Go.Proofs.rdV,if_pos (hg.rdC hd ha)]; rfl
def wr1 (s:ArrS) (d a:Nat) (v:UInt64):ArrS := { s with drv := zhu s d a v,log := s.log ++ [⟨d,a,v⟩],writes := s.writes + 1 }
theorem Good.wr {s:ArrS} (hg:Good s) {d a:Nat} {v:UInt64} (hd:d < s.drv.length) (ha:a < s.size d):wrR s d a=0∧wrS s d a v=wr1 s d a v := by
  obtain ⟨h1,h2,h3,h4,h5⟩ := hg.chk hd ha
  have hc:wrC s d a=0 := by simp [wrC,fz,h1,h2,h3,h4]
  refine ⟨by rw [wrR,if_neg (by simp [hc]),if_neg (by rw [hg.fuse]; decide)],?_⟩
  rw [wrS,if_neg (by simp [hc]),if_neg (by rw [hg.fuse]; decide)]
  have hdel:delM ([]:List ((Int × Int) × Unit)) ((d:Int),(a:Int))=[] := rfl
  simp only [wr1,Int.toNat_natCast,hg.bad,hg.fuse,hdel]
theorem zsj {s:ArrS} {d a e:Nat} {v:UInt64} (hd:d < s.drv.length):nowL (wr1 s d a v) e=if e=d then (nowL s d).set a v else nowL s e := by
  unfold nowL wr1 zhu
  simp only [List.getD,List.getElem?_set]
  by_cases h:d=e
  · subst h; simp [hd]
  · rw [if_neg h,if_neg (fun x=>h x.symm)]
@[simp] theorem zub {s:ArrS} {d a:Nat} {v:UInt64} : (wr1 s d a v).drv.length=s.drv.length := by simp [wr1,zhu]
@[simp] theorem zzf {s:ArrS} {d a:Nat} {v:UInt64} : (wr1 s d a v).writes=s.writes + 1 := rfl
theorem zsk {s:ArrS} {d a e:Nat} {v:UInt64} (hd:d < s.drv.length):(wr1 s d a v).size e=s.size e := by
  rw [zf0,zf0,zsj hd]; split
  · rename_i h; rw [List.length_set,h]
  · rfl
theorem Good.wr1 {s:ArrS} (hg:Good s) {d a:Nat} {v:UInt64} : Good (wr1 s d a v) where
  down := hg.down
  fuse := hg.fuse
  bad := hg.bad
  miss e := by
    have h0 := hg.miss e
    simp only [Go.Proofs.wr1,zhu,List.getD,List.getElem?_set] at h0 ⊢
    by_cases h:d=e
    · subst h
      by_cases hl:d < s.drv.length
      · have h1 := hg.miss d
        simp [hl,List.getD] at h1 ⊢
        exact h1
      · simp [hl]
    · rw [if_neg h]; exact h0
end Go.Proofs
namespace Go.Proofs
open Go.VG
theorem Good.span_rd {s:ArrS} (hg:Good s) {d st n k:Nat} (hd:d < s.drv.length) (hk:k < n) (hn:st + n≤s.size d) (hb:s.size d≤1000000000):(Dvc.span (d:Int) (st:Int) (n:Int)).rd s (k:Int)=some ((nowL s d).getD (st + k) 0,0) := by
  rw [Go.Proofs.span_rd (by omega) (by omega),if_pos (by omega)]
  have e:(st:Int) + (k:Int)=((st + k:Nat):Int) := by omega
  rw [e,hg.rdC hd (by omega),hg.rdV hd (by omega)]
theorem Good.span_wr {s:ArrS} (hg:Good s) {d st n k:Nat} {v:UInt64} (hd:d < s.drv.length) (hk:k < n) (hn:st + n≤s.size d) (hb:s.size d≤1000000000) (hw:s.writes≤1000000000):(Dvc.span (d:Int) (st:Int) (n:Int)).wr s (k:Int) v=some (0,Go.Proofs.wr1 s d (st + k) v) := by
  rw [Go.Proofs.span_wr (by omega) (by omega) hw,if_pos (by omega)]
  have e:(st:Int) + (k:Int)=((st + k:Nat):Int) := by omega
  rw [e,(hg.wr (v:=v) hd (by omega)).1,(hg.wr hd (by omega)).2]
def wrN (s:ArrS) (d a:Nat) (f:Nat→UInt64):Nat→ArrS
  | 0=>s
  | n + 1=>wr1 (wrN s d a f n) d (a + n) (f n)
theorem Good.wrN {s:ArrS} (hg:Good s) {d a:Nat} {f:Nat→UInt64} : ∀ n,Good (wrN s d a f n)
  | 0=>hg
  | n + 1=>(Good.wrN hg n).wr1
@[simp] theorem z3p {s:ArrS} {d a:Nat} {f:Nat→UInt64} : ∀ {n},(wrN s d a f n).drv.length=s.drv.length
  | 0=>rfl
  | n + 1=>by rw [wrN,zub,z3p]
@[simp] theorem zzg {s:ArrS} {d a:Nat} {f:Nat→UInt64} : ∀ {n},(wrN s d a f n).writes=s.writes + n
  | 0=>rfl
  | n + 1=>by rw [wrN,zzf,zzg]; omega
theorem getD_set_ne {l:List UInt64} {i j:Nat} {v:UInt64} (h:i≠j):(l.set i v).getD j 0=l.getD j 0 := by
  simp [List.getD,List.getElem?_set,h]
theorem zpa {l:List UInt64} {i:Nat} {v:UInt64} (h:i < l.length):(l.set i v).getD i 0=v := by
  simp [List.getD,List.getElem?_set,h]
end Go.Proofs
namespace Go.Proofs
open Go.VG
def durL (s:ArrS) (d:Nat):List UInt64 := (s.drv.getD d d0).dur
def pendR (log:List Rec) (d a:Nat):List UInt64 := (log.filter fun r=>decide (r.d=d∧r.a=a)).map Rec.v
abbrev pend (s:ArrS) (d a:Nat):List UInt64 := pendR s.log d a
def now (s:ArrS) (d a:Nat):UInt64 := (nowL s d).getD a 0
def dur (s:ArrS) (d a:Nat):UInt64 := (durL s d).getD a 0
abbrev cand (s:ArrS) (d a:Nat):List UInt64 := dur s d a::pend s d a
theorem zu6 {d a:Nat} : pendR [] d a=[] := rfl
theorem zq2 {l l':List Rec} {d a:Nat} : pendR (l ++ l') d a=pendR l d a ++ pendR l' d a := by simp [pendR]
theorem zu7 {r:Rec} {d a:Nat} : pendR [r] d a=if r.d=d∧r.a=a then [r.v] else [] := by
  by_cases h:r.d=d∧r.a=a
  · simp [pendR,h]
  · simp [pendR,h]
theorem zp3 {r:Rec} {l:List Rec} {d a:Nat} : pendR (r::l) d a=if r.d=d∧r.a=a then r.v::pendR l d a else pendR l d a := by
  rw [show r::l=[r] ++ l from rfl,zq2,zu7]; split <;> rfl
theorem zwn {l:List Rec} {d e a:Nat} : pendR (zi3 e l) d a=if d=e then [] else pendR l d a := by
  unfold pendR zi3
  rw [List.filter_filter]
  by_cases h:d=e
  · subst h
    rw [if_pos rfl,List.filter_eq_nil_iff.2]; · rfl
    intro r _ hr; simp at hr; exact hr.2 hr.1.1
  · rw [if_neg h]
    congr 1; apply List.filter_congr; intro r _
    by_cases h2:r.d=d∧r.a=a
    · simp [h2,h]
    · simp [h2]
def lastD:UInt64→List UInt64→UInt64
  | d,[]=>d
  | _,x::l=>lastD x l
theorem ztj {v:UInt64} : ∀ {l:List UInt64} {d:UInt64},lastD d (l ++ [v])=v
  | [],_=>rfl
  | x::l,_=>ztj (l:=l) (d:=x)
theorem zu8:∀ {l:List UInt64} {d:UInt64},lastD d l ∈ d::l
  | [],_=>List.mem_cons_self
  | x::l,_=>List.mem_cons_of_mem _ (zu8 (l:=l) (d:=x))
structure Coh (s:ArrS):Prop where
  len:∀ d,(durL s d).length=(nowL s d).length
  last:∀ d a,a < s.size d→lastD (dur s d a) (pend s d a)=now s d a
  log:∀ r ∈ s.log,r.d < s.drv.length∧r.a < s.size r.d
theorem z3q {ims:List (List UInt64)} : Coh (mkS ims) where
  len d := by simp only [durL,nowL,mkS,List.getD,List.getElem?_map]; cases ims[d]? <;> rfl
  last d a _ := by
    show dur (mkS ims) d a=_
    simp only [dur,now,durL,nowL,mkS,List.getD,List.getElem?_map]
    cases ims[d]? <;> rfl
  log r h := by cases h
theorem z2d {l:List UInt64} {i j:Nat} {v:UInt64} (h:i < l.length):(l.set i v).getD j 0=if j=i then v else l.getD j 0 := by
  by_cases e:j=i
  · subst e; rw [if_pos rfl,zpa h]
  · rw [if_neg e,getD_set_ne (fun x=>e x.symm)]
theorem zjj {l:List Drive} {i j:Nat} {x:Drive} (h:i < l.length):(l.set i x).getD j d0=if j=i then x else l.getD j d0 := by
  simp only [List.getD,List.getElem?_set]
  by_cases e:i=j
  · subst e; simp [h]
  · rw [if_neg e,if_neg (fun x=>e x.symm)]
section
variable {s:ArrS} {d a:Nat} {v:UInt64}
theorem zwo {e:Nat} (hd:d < s.drv.length):durL (wr1 s d a v) e=durL s e := by
  unfold durL wr1 zhu
  rw [zjj hd]; split
  · rename_i h; subst h; rfl
  · rfl
theorem zwp {e b:Nat} : pend (wr1 s d a v) e b=if d=e∧a=b then pend s e b ++ [v] else pend s e b := by
  show pendR (s.log ++ [⟨d,a,v⟩]) e b=_
  rw [zq2,zu7]; split <;> simp_all
theorem zyn {e b:Nat} (hd:d < s.drv.length) (ha:a < s.size d):now (wr1 s d a v) e b=if d=e∧a=b then v else now s e b := by
  unfold now
  rw [zsj hd]
  by_cases h:e=d
  · subst h; rw [if_pos rfl,z2d (show a < (nowL s e).length from ha)]
    by_cases h2:b=a
    · subst h2; simp
    · rw [if_neg h2,if_neg (fun x=>h2 x.2.symm)]
  · rw [if_neg h,if_neg (fun x=>h x.1.symm)]
theorem zyo {e b:Nat} (hd:d < s.drv.length):dur (wr1 s d a v) e b=dur s e b := by unfold dur; rw [zwo hd]
theorem Coh.wr1 (hc:Coh s) (hd:d < s.drv.length) (ha:a < s.size d):Coh (wr1 s d a v) where
  len e := by rw [zwo hd,zsj hd]; split
              · rename_i h; subst h; rw [List.length_set]; exact hc.len _
              · exact hc.len e
  last e b hb := by
    rw [zsk hd] at hb
    have h1 := hc.last e b hb
    rw [zyo hd,zwp,zyn hd ha]
    by_cases h:d=e∧a=b
    · rw [if_pos h,if_pos h,ztj]
    · rw [if_neg h,if_neg h]; exact h1
  log r hr := by
    rw [zub,zsk hd]
    rcases List.mem_append.1 (show r ∈ s.log ++ [⟨d,a,v⟩] from hr) with h | h
    · exact hc.log r h
    · rw [List.mem_singleton.1 h]; exact ⟨hd,ha⟩
end
def fl1 (s:ArrS) (d:Nat):ArrS := { s with drv := s.drv.set d { s.drv.getD d d0 with dur := flDur (s.drv.getD d d0).now d s.log (s.drv.getD d d0).dur },log := zi3 d s.log }
theorem zwq {nw:List UInt64} {i a:Nat} : ∀ {log:List Rec} {du:List UInt64},a < du.length→(flDur nw i log du).getD a 0=if pendR log i a=[] then du.getD a 0 else nw.getD a 0
  | [],du,_=>by rw [zu6,if_pos rfl]; rfl
  | r::log,du,h=>by
    show (flDur nw i log (if r.d=i then du.set r.a (nw.getD r.a 0) else du)).getD a 0=_
    rw [zwq (by split <;> simpa using h),zp3]
    by_cases hr:r.d=i
    · rw [if_pos hr]
      by_cases ha:r.a=a
      · rw [show (if r.d=i∧r.a=a then r.v::pendR log i a else pendR log i a)=r.v::pendR log i a from if_pos ⟨hr,ha⟩,if_neg (show ¬ r.v::pendR log i a=[] by simp)]
        subst ha
        split
        · rw [zpa h]
        · rfl
      · rw [show (if r.d=i∧r.a=a then r.v::pendR log i a else pendR log i a)=pendR log i a from if_neg (fun x=>ha x.2),getD_set_ne ha]
    · rw [if_neg hr,show (if r.d=i∧r.a=a then r.v::pendR log i a else pendR log i a)=pendR log i a from if_neg (fun x=>hr x.1)]
section
variable {s:ArrS} {d:Nat}
@[simp] theorem zuc:(fl1 s d).drv.length=s.drv.length := by simp [fl1]
theorem zp4 {e:Nat} (hd:d < s.drv.length):nowL (fl1 s d) e=nowL s e := by
  unfold nowL fl1
  rw [zjj hd]; split
  · rename_i h; subst h; rfl
  · rfl
theorem zp5 {e:Nat} (hd:d < s.drv.length):(fl1 s d).size e=s.size e := by rw [zf0,zf0,zp4 hd]
theorem zwr {e b:Nat} : pend (fl1 s d) e b=if e=d then [] else pend s e b := zwn
theorem zyp {e b:Nat} (hc:Coh s) (hd:d < s.drv.length) (hb:b < s.size e):dur (fl1 s d) e b=if e=d then now s e b else dur s e b := by
  unfold dur durL fl1
  rw [zjj hd]
  by_cases h:e=d
  · subst h
    rw [if_pos rfl,if_pos rfl]
    have hl := hc.last e b hb
    rw [zwq (by have := hc.len e; unfold durL at this; rw [this]; exact hb)]
    by_cases hp:pendR s.log e b=[]
    · rw [if_pos hp]
      have:pend s e b=[] := hp
      rw [this] at hl
      exact hl
    · rw [if_neg hp]; rfl
  · rw [if_neg h,if_neg h]
theorem zyq {e b:Nat} (hd:d < s.drv.length):now (fl1 s d) e b=now s e b := by unfold now; rw [zp4 hd]
theorem Coh.fl1 (hc:Coh s) (hd:d < s.drv.length):Coh (fl1 s d) where
  len e := by
    rw [zp4 hd]
    unfold durL Go.Proofs.fl1
    rw [zjj hd]; split
    · rename_i h; subst h; rw [zoz]; exact hc.len _
    · exact hc.len e
  last e b hb := by
    rw [zp5 hd] at hb
    have h1 := hc.last e b hb
    rw [zyp hc hd hb,zwr,zyq hd]
    by_cases h:e=d
    · rw [if_pos h,if_pos h]; rfl
    · rw [if_neg h,if_neg h]; exact h1
  log r hr := by
    rw [zuc,zp5 hd]
    exact hc.log r (List.mem_filter.1 (show r ∈ zi3 d s.log from hr)).1
theorem zws {e:Nat} (hd:d < s.drv.length):((fl1 s d).drv.getD e d0).miss=(s.drv.getD e d0).miss := by
  unfold fl1
  rw [zjj hd]; split
  · rename_i h; subst h; rfl
  · rfl
theorem Good.fl1 (hg:Good s) (hd:d < s.drv.length):Good (fl1 s d) where
  down := hg.down
  fuse := hg.fuse
  bad := hg.bad
  miss e := by rw [zws hd]; exact hg.miss e
theorem flC_of (hdn:s.down=false) (hd:d < s.drv.length):flC s d=if (s.drv.getD d d0).miss then 6 else 0 := by
  have h1:cPow s=0 := by simp [cPow,hdn]
  have h2:cLoc s d=0 := by rw [cLoc,if_pos (show inR s (d:Int) from ⟨by omega,by omega⟩)]
  simp only [flC,fz,h1,h2,cPre,missI,Int.toNat_natCast]
  by_cases hm:(s.drv.getD d d0).miss=true
  · simp [hm]
  · simp [hm]
theorem flS_of (h:flC s d=0):flS s d=fl1 s d := z0g h
end
theorem zsl {ks:List Bool} {d a:Nat} : ∀ {log:List Rec} {n:Nat} {ds:List Drive},d < ds.length→a < (ds.getD d d0).dur.length →
    (((rsGo ks n log ds).getD d d0).dur.getD a 0) ∈ ((ds.getD d d0).dur.getD a 0)::pendR log d a
  | [],_,_,_,_=>List.mem_cons_self
  | r::log,n,ds,hd,ha=>by
    show ((rsGo ks (n + 1) log (if ks.getD n false=true then putD ds r else ds)).getD d d0).dur.getD a 0 ∈ _
    have hk := zuy ds r d
    by_cases h:ks.getD n false=true
    · rw [if_pos h]
      have := zsl (ks:=ks) (d:=d) (a:=a) (log:=log) (n:=n + 1) (ds:=putD ds r) (by rw [hk.1]; exact hd) (by rw [hk.2.2.1]; exact ha)
      rw [zp3]
      by_cases hr:r.d=d
      · have e1:(putD ds r).getD d d0 = { ds.getD d d0 with dur := (ds.getD d d0).dur.set r.a r.v } := by
          unfold putD; rw [zjj (by omega),if_pos hr.symm,hr]
        rw [e1] at this
        by_cases hra:r.a=a
        · rw [if_pos ⟨hr,hra⟩]
          rw [hra,zpa ha] at this
          exact List.mem_cons_of_mem _ this
        · rw [if_neg (fun x=>hra x.2)]
          rw [getD_set_ne hra] at this
          exact this
      · have e1:(putD ds r).getD d d0=ds.getD d d0 := by
          unfold putD
          by_cases hl:r.d < ds.length
          · rw [zjj hl,if_neg (fun x=>hr x.symm)]
          · rw [List.set_eq_of_length_le (by omega)]
        rw [e1] at this
        rw [if_neg (fun x=>hr x.1)]; exact this
    · rw [if_neg h,zp3]
      have := zsl (ks:=ks) (d:=d) (a:=a) (log:=log) (n:=n + 1) (ds:=ds) hd ha
      split
      · rcases List.mem_cons.1 this with e | e
        · rw [e]; exact List.mem_cons_self
        · exact List.mem_cons_of_mem _ (List.mem_cons_of_mem _ e)
      · exact this
section
variable {s:ArrS} {ks:List Bool}
@[simp] theorem drv_rs:(rsS s ks).drv.length=s.drv.length := by simp [rsS,(zkf ks s.log 0 s.drv 0).1]
theorem zud {d:Nat} : nowL (rsS s ks) d=durL (rsS s ks) d := by unfold nowL durL; rw [rs_at]; rfl
theorem zx5 {d:Nat} : (durL (rsS s ks) d).length=(durL s d).length := by
  unfold durL; rw [rs_at]; exact (zkf ks s.log 0 s.drv d).2.2.1
theorem z3r {d:Nat} (hc:Coh s):(rsS s ks).size d=s.size d := by rw [zf0,zud,zx5,hc.len]; rfl
theorem zwt {d a:Nat} : now (rsS s ks) d a=dur (rsS s ks) d a := by unfold now dur; rw [zud]
theorem dur_rs {d a:Nat} (hc:Coh s) (hd:d < s.drv.length) (ha:a < s.size d):dur (rsS s ks) d a ∈ cand s d a := by
  unfold dur durL; rw [rs_at]
  exact zsl hd (by have := hc.len d; unfold durL at this; rw [this]; exact ha)
theorem Coh.rs (hc:Coh s):Coh (rsS s ks) where
  len d := by rw [zud]
  last d a _ := by show dur (rsS s ks) d a=_; rw [zwt]
  log r h := by cases h
theorem z3s {d:Nat} : ((rsS s ks).drv.getD d d0).miss=(s.drv.getD d d0).miss := by rw [rs_at]; exact (zkf ks s.log 0 s.drv d).2.2.2
end
end Go.Proofs
namespace Go.Proofs
open Go.VG
structure InSz (ns:List Nat) (s:ArrS):Prop where
  cnt:s.drv.length=ns.length
  size:∀ d,d < ns.length→s.size d=ns.getD d 0
  wr:s.writes≤1000000000
theorem z3t {s:ArrS} {d:Nat} : (flS s d).drv.length=s.drv.length := by unfold flS; split <;> simp
theorem zzh {s:ArrS} {d:Int} : (flS s d).writes=s.writes := by unfold flS; split <;> rfl
theorem z2e {s:ArrS} {d e:Nat} : (flS s d).size e=s.size e := by
  unfold flS; split
  · rfl
  · rename_i h
    have hd:d < s.drv.length := by
      rcases Nat.lt_or_ge d s.drv.length with h' | h'
      · exact h'
      · exfalso; apply h
        have:cLoc s (d:Int)=1 := by rw [cLoc,if_neg (fun x:inR s (d:Int)=>by have := x.2; omega)]
        intro h0
        have h1 := h0
        unfold flC fz at h1
        by_cases hp:cPow s=0
        · simp [hp,fz,this] at h1
        · simp [hp] at h1
    exact zp5 (s:=s) hd
theorem InSz.flS {ns:List Nat} {s:ArrS} (h:InSz ns s) (d:Nat):InSz ns (flS s d) := ⟨by rw [z3t]; exact h.cnt,fun e he=>by rw [z2e]; exact h.size e he,by rw [zzh]; exact h.wr⟩
def flsS:ArrS→List Nat→ArrS
  | s,[]=>s
  | s,d::ds=>flsS (flS s d) ds
def flsC:ArrS→List Nat→Int
  | _,[]=>0
  | s,d::ds=>if flC s d=0 then flsC (flS s d) ds else flC s d
theorem InSz.flsS {ns:List Nat} : ∀ {ds:List Nat} {s:ArrS},InSz ns s→InSz ns (flsS s ds)
  | [],_,h=>h
  | d::ds,s,h=>show InSz ns (Go.Proofs.flsS (Go.Proofs.flS s d) ds) from InSz.flsS (h.flS d)
structure MapD (ns:List Nat) (x:Dvc) (n:Nat) (f:Nat→Nat × Nat) (ds:List Nat):Prop where
  small:n≤1000000000
  at_:∀ k,k < n→(f k).1 < ns.length∧(f k).2 < ns.getD (f k).1 0∧(f k).1 ∈ ds
  size:∀ s,InSz ns s→x.size s=some (n:Int)
  rd:∀ s (k:Nat),InSz ns s→k < n→x.rd s (k:Int)=some (rdV s (f k).1 (f k).2,rdC s (f k).1 (f k).2)
  rdo:∀ s (k:Int),InSz ns s → ¬ (0≤k∧k < n)→x.rd s k=some (0,1)
  wr:∀ s (k:Nat) v,InSz ns s→k < n→x.wr s (k:Int) v=some (wrR s (f k).1 (f k).2,wrS s (f k).1 (f k).2 v)
  wro:∀ s (k:Int) v,InSz ns s → ¬ (0≤k∧k < n)→x.wr s k v=some (1,s)
  fl:∀ s,InSz ns s→x.fl s=some (flsC s ds,flsS s ds)
theorem MapD.span {ns:List Nat} {d st n:Nat} (hd:d < ns.length) (hn:st + n≤ns.getD d 0) (hb:ns.getD d 0≤1000000000):MapD ns (Dvc.span (d:Int) (st:Int) (n:Int)) n (fun k=>(d,st + k)) [d] where
  small := by omega
  at_ k hk := ⟨hd,by show st + k < ns.getD d 0; omega,List.mem_singleton.2 rfl⟩
  size s h := rfl
  rd s k h hk := by
    rw [span_rd (by omega) (by omega),if_pos (by omega)]
    have e:(st:Int) + (k:Int)=((st + k:Nat):Int) := by omega
    rw [e]
  rdo s k h hk := by rw [span_rd (by omega) (by omega),if_neg hk]
  wr s k v h hk := by
    rw [span_wr (by omega) (by omega) h.wr,if_pos (by omega)]
    have e:(st:Int) + (k:Int)=((st + k:Nat):Int) := by omega
    rw [e]
  wro s k v h hk := by rw [span_wr (by omega) (by omega) h.wr,if_neg hk]
  fl s h := by
    rw [zyl h.wr]
    show _=some ((if flC s d=0 then (0:Int) else flC s d),flS s d)
    by_cases e:flC s d=0
    · rw [if_pos e,e]
    · rw [if_neg e]
end Go.Proofs
namespace Go.Proofs
open Go.VG
def miss (s:ArrS) (d:Nat):Bool := (s.drv.getD d d0).miss
structure Flushed (s:ArrS) (ds:List Nat) (t:ArrS):Prop where
  drv:t.drv.length=s.drv.length
  now:∀ d,nowL t d=nowL s d
  dur:∀ d a,a < s.size d→dur t d a=if d ∈ ds∧miss s d=false then Go.Proofs.now s d a else Go.Proofs.dur s d a
  pend:∀ d a,pend t d a=if d ∈ ds∧miss s d=false then [] else Go.Proofs.pend s d a
  miss:∀ d,miss t d=Go.Proofs.miss s d
  down:t.down=s.down
  fuse:t.fuse=s.fuse
  bad:t.bad=s.bad
  wr:t.writes=s.writes
  coh:Coh t
theorem Flushed.none {s:ArrS} (h:Coh s):Flushed s [] s where
  drv := rfl
  now _ := rfl
  dur _ _ _ := by simp
  pend _ _ := by simp
  miss _ := rfl
  down := rfl
  fuse := rfl
  bad := rfl
  wr := rfl
  coh := h
theorem zwu {s:ArrS} {d:Nat} (hdn:s.down=false) (hd:d < s.drv.length):flC s d=if miss s d then 6 else 0 := flC_of hdn hd
theorem z2f {s:ArrS} {d:Nat} (hdn:s.down=false) (hd:d < s.drv.length):flS s d=if miss s d then s else fl1 s d := by
  have h := zwu hdn hd
  by_cases hm:miss s d=true
  · rw [if_pos hm] at h; rw [if_pos hm]
    unfold flS; rw [if_pos (by rw [h]; decide)]
  · rw [if_neg hm] at h; rw [if_neg hm]; exact flS_of h
theorem zue:∀ {ds:List Nat} {s:ArrS},Coh s→s.down=false→(∀ d ∈ ds,d < s.drv.length)→Flushed s ds (flsS s ds)∧flsC s ds=if ds.any (fun d=>miss s d) then 6 else 0
  | [],s,hc,_,_=>⟨Flushed.none hc,rfl⟩
  | d::ds,s,hc,hdn,hds=>by
    have hd := hds d List.mem_cons_self
    have hC := zwu hdn hd
    have hS := z2f hdn hd
    show Flushed s (d::ds) (flsS (flS s d) ds)∧(if flC s d=0 then flsC (flS s d) ds else flC s d)=_
    by_cases hm:miss s d=true
    · rw [if_pos hm] at hC hS
      rw [hS,hC]
      obtain ⟨h1, -⟩ := zue (ds:=ds) hc hdn (fun e he=>hds e (List.mem_cons_of_mem _ he))
      refine ⟨{ h1 with dur := fun e a ha => ?_,pend := fun e a => ?_ },by simp [hm]⟩
      · rw [h1.dur e a ha]
        by_cases he:e=d
        · subst he; rw [if_neg (by simp [hm]),if_neg (by simp [hm])]
        · simp [he]
      · rw [h1.pend e a]
        by_cases he:e=d
        · subst he; rw [if_neg (by simp [hm]),if_neg (by simp [hm])]
        · simp [he]
    · have hm':miss s d=false := by simpa using hm
      rw [if_neg hm] at hC hS
      rw [hS,hC]
      have hmm:∀ e,miss (fl1 s d) e=miss s e := fun e=>zws hd
      obtain ⟨h1,h2⟩ := zue (ds:=ds) (s:=fl1 s d) (hc.fl1 hd) hdn (fun e he=>by rw [zuc]; exact hds e (List.mem_cons_of_mem _ he))
      refine ⟨⟨by rw [h1.drv,zuc],fun e=>by rw [h1.now,zp4 hd],fun e a ha => ?_,fun e a => ?_,fun e=>by rw [h1.miss,hmm],h1.down,h1.fuse,h1.bad,h1.wr,h1.coh⟩,?_⟩
      · rw [h1.dur e a (by rw [zp5 hd]; exact ha),hmm,zyq hd,zyp hc hd ha]
        by_cases he:e=d
        · subst he; simp [hm']
        · simp [he]
      · rw [h1.pend e a,hmm,zwr]
        by_cases he:e=d
        · subst he; simp [hm']
        · simp [he]
      · rw [if_pos rfl,h2,List.any_cons,hm',Bool.false_or]
        congr 1
        simp only [hmm]
theorem Flushed.size {s t:ArrS} {ds:List Nat} (h:Flushed s ds t) {d:Nat} : t.size d=s.size d := by rw [zf0,zf0,h.now]
theorem Flushed.inSz {ns:List Nat} {s t:ArrS} {ds:List Nat} (h:Flushed s ds t) (hs:InSz ns s):InSz ns t := ⟨by rw [h.drv]; exact hs.cnt,fun d hd=>by rw [h.size]; exact hs.size d hd,by rw [h.wr]; exact hs.wr⟩
theorem Flushed.nowAt {s t:ArrS} {ds:List Nat} (h:Flushed s ds t) {d a:Nat} : Go.Proofs.now t d a=Go.Proofs.now s d a := by unfold Go.Proofs.now; rw [h.now]
structure Missed (s:ArrS) (p:Nat→Bool) (t:ArrS):Prop where
  drv:t.drv.length=s.drv.length
  now:∀ d,nowL t d=nowL s d
  dur:∀ d,durL t d=durL s d
  log:t.log=s.log
  miss:∀ d,d < s.drv.length→miss t d=p d
  down:t.down=s.down
  fuse:t.fuse=s.fuse
  bad:t.bad=s.bad
  wr:t.writes=s.writes
theorem Missed.coh {s t:ArrS} {p:Nat→Bool} (h:Missed s p t) (hc:Coh s):Coh t where
  len d := by rw [h.now,h.dur]; exact hc.len d
  last d a ha := by
    have h1 := hc.last d a (by rw [zf0] at ha ⊢; rw [← h.now]; exact ha)
    unfold Go.Proofs.now Go.Proofs.dur pend at h1 ⊢
    rw [h.now,h.dur,h.log]; exact h1
  log r hr := by
    rw [h.log] at hr
    have := hc.log r hr
    rw [h.drv,zf0,h.now]; exact this
theorem Missed.size {s t:ArrS} {p:Nat→Bool} (h:Missed s p t) {d:Nat} : t.size d=s.size d := by rw [zf0,zf0,h.now]
theorem Missed.inSz {ns:List Nat} {s t:ArrS} {p:Nat→Bool} (h:Missed s p t) (hs:InSz ns s):InSz ns t := ⟨by rw [h.drv]; exact hs.cnt,fun d hd=>by rw [h.size]; exact hs.size d hd,by rw [h.wr]; exact hs.wr⟩
theorem Missed.self {s:ArrS} : Missed s (Go.Proofs.miss s) s := ⟨rfl,fun _=>rfl,fun _=>rfl,rfl,fun _ _=>rfl,rfl,rfl,rfl,rfl⟩
theorem smS_of {s:ArrS} {d:Nat} {b:Bool} (hd:d < s.drv.length):smS s d b = { s with drv := s.drv.set d { s.drv.getD d d0 with miss := b } } := by
  rw [smS,if_pos (show inR s (d:Int) from ⟨by omega,by omega⟩)]; rfl
theorem Missed.set {s t:ArrS} {p:Nat→Bool} (h:Missed s p t) {d:Nat} {b:Bool} (hd:d < s.drv.length):Missed s (fun e=>if e=d then b else p e) (smS t d b) := by
  have hd':d < t.drv.length := by rw [h.drv]; exact hd
  rw [smS_of hd']
  refine ⟨by simpa using h.drv,fun e => ?_,fun e => ?_,h.log,fun e he => ?_,h.down,h.fuse,h.bad,h.wr⟩
  · rw [← h.now]; unfold nowL; rw [zjj hd']; split
    · rename_i x; subst x; rfl
    · rfl
  · rw [← h.dur]; unfold durL; rw [zjj hd']; split
    · rename_i x; subst x; rfl
    · rfl
  · unfold Go.Proofs.miss; rw [zjj hd']; split
    · rfl
    · exact h.miss e he
end Go.Proofs
