/- MirrorFills, part 4 of the proof: LX3, LX4, LX5, LX6. -/
import Derived.WalkKit
import Derived.Orders
import Derived.RangeFuncLeaves
import Derived.RangeFuncCalls
import Derived.TacticsIn
import Derived.Handy
import Derived.OrdersHeld
import Derived.OrdersIn
import Derived.Below
import Derived.OpenShut
import Derived.Deep.Slices
import Derived.Scope
import Derived.KernelRfl
import Derived.RangeFuncRecord
import Derived.ChangeKeysEq
import Derived.ProofKit
import Derived.ShutString
import Derived.ChangeOld
import Derived.Test.YtcfnikegnhlghaaGreatChecked
import Derived.Test.YtcfnikegnhlghaaGreatRows
import Derived.Test.YtcfnikegnhlghaaGreatZMirrorFills3
set_option linter.unusedSimpArgs false
set_option linter.unusedVariables false
set_option maxRecDepth 20000
set_option maxHeartbeats 4000000
namespace Go.Proofs
open Go.VG
def zib (l:LogS) (region:Int) (is:Bool) (keep:Bool) (s:ArrS):Option (Int × LogS × ArrS) :=
  Option.bind (zlp l.bits region is) fun r4 =>
  if (r4.2≠(0:Int)) then
    some (r4.2,l,s)
  else
    grd (inI64 (((1:Int) + (IntKind.i64.wrap (region.tdiv (64:Int)))))) <|
    grd (decide (0≤(IntKind.i64.wrap (region.tdiv (64:Int)))∧(IntKind.i64.wrap (region.tdiv (64:Int))) < (r4.1.length:Int))) <|
    Option.bind (Dvc.wr l.x s (((1:Int) + (IntKind.i64.wrap (region.tdiv (64:Int))))) ((r4.1.getD (((IntKind.i64.wrap (region.tdiv (64:Int)))).toNat) 0))) fun r12 =>
    if ((r12.1=(0:Int))∨keep=true) then
      some (r12.1, { l with bits := r4.1 },r12.2)
    else
      some (r12.1,l,r12.2)
theorem zmr {W:World} {bl:Nat} {bs:Nat} {l:LogS} {region:Int} {is:Bool} {keep:Bool} {s:ArrS} {r:Int × LogS × ArrS} (h:zib l region is keep s=some r) :
    CSpec Tryz.prog W 106 [ptr bl 0,.int .i64 region,.bool is,.bool keep] [LogP bs bl l,Arr bs s] (fun x:Unit => .int .i64 r.1) (fun _=>True) (fun x F=>LogP bs bl r.2.1::Arr bs r.2.2::F) := by
 refine CSpec.of_body Tryz.func106 rfl Tryz.ntmps106 rfl fun F => ?_
 show CJ _ _ _ _ _ _ (_::_::F)
 unfold zib at h
 refine sR <| oA rfl rfl <| nT <| zac <| zax (Ent.transX (t0_ eR) (zid (l:=l))) fun oc1=>za1 (zcg (Reads.rdp _ _ _) del2) fun hlen3=>zaf <| oM rfl rfl <| oP (zae rfl) rfl <| oP (zaa rfl ⟨_,_,_,Tryz.runUnderlying156,rfl,rfl,Tryz.sizeOf29,rfl⟩) rfl <| oV (zag rfl foc0 rfl Tryz.isAgg29) rfl <| oM rfl rfl <| oM rfl rfl ?_
 obtain ⟨r4,hr5,h⟩ := zar h
 refine oO <| zat (zvr (Reads.rdp _ _ _) hr5) rfl Tryz.call115 (Dels.cons del2 Dels.nil) rfl fun X6 _=>oM rfl rfl <| oP (za4 (v:=X6.v) rfl rfl) rfl <| oP (za4 rfl rfl) rfl <| oA rfl rfl <| oA rfl rfl <| zap <| zas (Ent.trans (t2_ (t2_ (t0_ (t1_ eR)))) (zle (v0:=l.x) (v1:=l.regions) (v2:=l.bits) (v3:=l.durable) (h0:=oc1.1) (h1:=oc1.2.1) (h2:=oc1.2.2))) <| zam <| zac <| sR <| oM rfl rfl <| oP (P_neq (a:=r4.2) (b:=(0:Int)) rfl rfl) rfl <| nT <| zan rfl zab (fun hg1 => ?_) (fun hg1 => ?_)
 ·
  replace h := ite_t hg1 h
  refine sR <| oM rfl rfl <| oA rfl rfl <| nT <| zah <| zad ?_
  cases h
  exact fE (res1 Tryz.results106 rfl) () (t0_ (t1_ (eD eR)))
 ·
  replace h := ite_f hg1 h
  refine kT <| zac <| zax (Ent.transX (t0_ eR) (zid (l:=l))) fun oc8=>za1 (zcg (Reads.rdp _ _ _) del2) fun hlen10=>zbc 16384 (by kernel_rfl) rfl <| aN 0 1 rfl rfl (zaj rfl) rfl <| aN 1 3 rfl rfl (zae rfl) rfl <| aN 2 7 rfl rfl (zaa rfl ⟨_,_,_,Tryz.runUnderlying156,rfl,rfl,Tryz.sizeOf96,rfl⟩) rfl <| aV 3 15 rfl rfl (zak rfl) eR (zag rfl foc0 rfl Tryz.isAgg96) rfl <| aN 4 31 rfl rfl (zaj rfl) rfl <| aN 5 63 rfl rfl (zko (a:=region) (b:=(64:Int)) rfl rfl (by decide)) rfl ?_
  obtain ⟨hg2,h⟩ := zd7 h
  refine aN 6 127 rfl rfl (P_add (a:=(1:Int)) (b:=(IntKind.i64.wrap (region.tdiv (64:Int)))) rfl rfl hg2) rfl <| aN 7 255 rfl rfl (zaj rfl) rfl <| aN 8 511 rfl rfl (zaj rfl) rfl <| aN 9 1023 rfl rfl (zko (a:=region) (b:=(64:Int)) rfl rfl (by decide)) rfl ?_
  obtain ⟨hg3,h⟩ := zbt h
  refine aV 10 2047 rfl rfl (zak rfl) eR (zay (i:=((IntKind.i64.wrap (region.tdiv (64:Int)))).toNat) rfl rfl (Int.toNat_of_nonneg (hg3.1)).symm (by omega) foc4 (Reads.sl _ _ _) Tryz.runUnderlying29 Tryz.sizeOf23) rfl <| aV 11 4095 rfl rfl (zak rfl) eR (za6 rfl rfl (by omega) foc4 (Reads.sl _ _ _) rfl rfl Tryz.isAgg23) rfl <| aN 12 8191 rfl rfl (zo4 rfl) rfl <| aN 13 16383 rfl rfl (zaj rfl) rfl <| zh9 (fun h hh=>zd3 h (zaq (del1 (A:=DevP bs l.x oc8.1)).out h hh)) fun hdp11 => ?_
  obtain ⟨r12,hr13,h⟩ := zar h
  refine AJ_op 14 32767 rfl (by kernel_rfl) rfl (zak rfl) <| zc8 rfl (zjn hr13 hdp11) rfl (Dels.cons del1 (Dels.cons del4 Dels.nil)) rfl fun _ _=>⟨fun h=>absurd h (by decide),?_⟩
  refine aN 15 65535 rfl rfl (zb0 rfl) rfl <| zcd (by kernel_rfl) <| zas (Ent.trans (t0_ eR) (fun h hh=>zi8 zhl hh)) <| zas (Ent.trans (t3_ (t0_ (t2_ (t2_ eR)))) (zle (v0:=l.x) (v1:=l.regions) (v2:=l.bits) (v3:=l.durable) (h0:=oc8.1) (h1:=oc8.2.1) (h2:=oc8.2.2))) <| zam <| zac <| sR <| oM rfl rfl <| oP (P_eql (a:=r12.1) (b:=(0:Int)) rfl rfl) rfl <| oM rfl rfl <| zaz rfl rfl rfl (fun hG15=>have hP16:¬ (r12.1=(0:Int)) := nP (zab) hG15; VJ_P (zaj rfl)) <| oP (zcw rfl rfl (fun hh=>mbx (not_f hh) rfl)) rfl <| nT <| zan rfl (bT_or zab Iff.rfl) (fun hg4 => ?_) (fun hg4 => ?_)
  ·
   replace h := ite_t hg4 h
   refine zax (Ent.transX (t0_ eR) (zid (l:=l))) fun oc17=>za1 (zcg (Reads.rdp _ _ _) del2) fun hlen19=>zaf <| oM rfl rfl <| oM rfl rfl <| oP (zae rfl) rfl <| oP (zaa rfl ⟨_,_,_,Tryz.runUnderlying156,rfl,rfl,Tryz.sizeOf29,rfl⟩) rfl <| oO <| zbu rfl rfl foc0 rfl rfl Tryz.sizeOf29 <| zap <| zyc (zqw (Reads.sl _ _ _) del6) fun hsv21 => ?_
   obtain ⟨sv20,hsv21⟩ := hsv21
   refine zas (Ent.trans (t6_ eR) (zpg (t:=tyU) (v:=Sl3.v sv20) (xs:=r4.1) (hsv21 ▸ (Reads.sl _ _ _)))) <| zas (Ent.trans (Ent.takeC del1 (congrArg (fun z=>blk bl 156 [IfH.v oc17.1,.int .i64 l.regions,z,.map (some oc17.2.2)]) hsv21) (t1_ (t0_ (t1_ eR)))) (zle (v0:=l.x) (v1:=l.regions) (v2:=r4.1) (v3:=l.durable) (h0:=oc17.1) (h1:=sv20) (h2:=oc17.2.2))) <| zam <| sR <| oM rfl rfl <| oA rfl rfl <| nT <| zah ?_
   cases h
   exact fE (res1 Tryz.results106 rfl) () (t0_ (t2_ (eD (eD eR))))
  ·
   replace h := ite_f hg4 h
   refine kT <| sR <| oM rfl rfl <| oA rfl rfl <| nT <| zah ?_
   cases h
   exact fE (res1 Tryz.results106 rfl) () (t0_ (t1_ (eD (eD eR))))
def zd4 (l:LogS) (region:Int) (s:ArrS):Option (Int × LogS × ArrS) :=
  if ((region < (0:Int))∨(l.regions≤region)) then
    some (((1:Int),l,s))
  else
    if ((lookM l.durable region)).isSome=true then
      some (((0:Int),l,s))
    else
      Option.bind (zib l region true true s) fun r17 =>
      if (r17.1≠(0:Int)) then
        some (r17.1,r17.2.1,r17.2.2)
      else
        Option.bind (Dvc.fl r17.2.1.x r17.2.2) fun r23 =>
        if (r23.1≠(0:Int)) then
          some (r23.1,r17.2.1,r23.2)
        else
          some (((0:Int), { r17.2.1 with durable := (setM r17.2.1.durable region ()) },r23.2))
theorem zp0 {W:World} {bl:Nat} {bs:Nat} {l:LogS} {region:Int} {s:ArrS} {r:Int × LogS × ArrS} (h:zd4 l region s=some r) :
    CSpec Tryz.prog W 137 [ptr bl 0,.int .i64 region] [LogP bs bl l,Arr bs s] (fun x:Unit => .int .i64 r.1) (fun _=>True) (fun x F=>LogP bs bl r.2.1::Arr bs r.2.2::F) := by
 refine CSpec.of_body Tryz.func137 rfl Tryz.ntmps137 rfl fun F => ?_
 show CJ _ _ _ _ _ _ (_::_::F)
 unfold zd4 at h
 refine sR <| oA rfl rfl <| nT <| zac <| sR <| oM rfl rfl <| oP (P_lss (a:=region) (b:=(0:Int)) rfl rfl) rfl <| oM rfl rfl <| zaz rfl rfl rfl (fun hG1=>have hP2:¬ (region < (0:Int)) := nP (zab) hG1; VJ_P (zaj rfl)) <| zaz rfl rfl rfl (fun hG3=>have hP4:¬ (region < (0:Int)) := nP (zab) hG3; VJ_P (zaj rfl)) <| zaz rfl rfl rfl (fun hG5=>have hP6:¬ (region < (0:Int)) := nP (zab) hG5; VJ_P (zae (mbx hG5 rfl))) <| zaz rfl rfl rfl (fun hG7=>have hP8:¬ (region < (0:Int)) := nP (zab) hG7; VJ_P (zaa (mbx hG7 rfl) ⟨_,_,_,Tryz.runUnderlying156,rfl,rfl,Tryz.sizeOf3,rfl⟩)) <| zaz rfl rfl rfl (fun hG9=>have hP10:¬ (region < (0:Int)) := nP (zab) hG9; zil (Ent.transX (t0_ eR) (zid (l:=l))) (fun _=>zag (mbx hG9 rfl) foc0 rfl Tryz.isAgg3)) <| zaz rfl rfl rfl (fun hG11=>have hP12:¬ (region < (0:Int)) := nP (zab) hG11; VJ_P (P_geq (a:=region) (b:=l.regions) (mbx hG11 rfl) (mbx hG11 rfl))) <| oP (zcw rfl rfl (fun hh=>mbx (not_f hh) rfl)) rfl <| nT <| zan rfl (bT_or zab zab) (fun hg1 => ?_) (fun hg1 => ?_)
 ·
  replace h := ite_t hg1 h
  refine sR <| oA rfl rfl <| nT <| zah <| zad ?_
  cases h
  exact fE (res1 Tryz.results137 rfl) () eR
 ·
  replace h := ite_f hg1 h
  refine kT <| zac <| zac <| zax (Ent.transX (t0_ eR) (zid (l:=l))) fun oc13=>za1 (zcg (Reads.rdp _ _ _) del2) fun hlen15=>zaf <| oM rfl rfl <| oP (zae rfl) rfl <| oP (zaa rfl ⟨_,_,_,Tryz.runUnderlying156,rfl,rfl,Tryz.sizeOf154,rfl⟩) rfl <| oV (zag rfl foc0 rfl Tryz.isAgg154) rfl <| oM rfl rfl <| oV (zz0 (M:=mp154) (k:=region) (z := .agg #[]) (out:=fun o => .agg #[]) rfl rfl foc3 zsg Tryz.zeroValue185 (fun _=>rfl) rfl) rfl <| oM rfl rfl <| oP (za4 rfl rfl) rfl <| oP (za4 rfl rfl) rfl <| oO <| zes Tryz.zeroValue185 rfl rfl fun b16=>oO <| zfm rfl rfl foc0 Tryz.sizeOf185 rfl rfl rfl <| oA rfl rfl <| zap <| zas (Ent.trans (t1_ (t1_ (t1_ (t1_ eR)))) (zle (v0:=l.x) (v1:=l.regions) (v2:=l.bits) (v3:=l.durable) (h0:=oc13.1) (h1:=oc13.2.1) (h2:=oc13.2.2))) <| zam <| sR <| oM rfl rfl <| nT <| zan rfl Iff.rfl (fun hg2 => ?_) (fun hg2 => ?_)
  ·
   replace h := ite_t hg2 h
   refine sR <| oA rfl rfl <| nT <| zah <| zad ?_
   cases h
   exact fE (res1 Tryz.results137 rfl) () (t0_ (t1_ (eD eR)))
  ·
   replace h := ite_f hg2 h
   refine kT <| zac <| sR <| oM rfl rfl <| oM rfl rfl ?_
   obtain ⟨r17,hr18,h⟩ := zar h
   refine oO <| zat (zmr hr18) rfl Tryz.call106 (Dels.cons del0 (Dels.cons del1 Dels.nil)) rfl fun _ _=>oA rfl rfl <| nT <| sR <| oM rfl rfl <| oP (P_neq (a:=r17.1) (b:=(0:Int)) rfl rfl) rfl <| nT <| zan rfl zab (fun hg3 => ?_) (fun hg3 => ?_)
   ·
    replace h := ite_t hg3 h
    refine sR <| oM rfl rfl <| oA rfl rfl <| nT <| zah <| zad ?_
    cases h
    exact fE (res1 Tryz.results137 rfl) () (t0_ (t0_ (eD eR)))
   ·
    replace h := ite_f hg3 h
    refine kT <| zac <| zac <| zax (Ent.transX (t0_ eR) (zid (l:=r17.2.1))) fun oc19=>za1 (zcg (Reads.rdp _ _ _) del2) fun hlen21=>zaf <| oM rfl rfl <| oP (zae rfl) rfl <| oP (zaa rfl ⟨_,_,_,Tryz.runUnderlying156,rfl,rfl,Tryz.sizeOf96,rfl⟩) rfl <| oV (zag rfl foc0 rfl Tryz.isAgg96) rfl <| zcl (fun h hh=>zd3 h (zaq (del1 (A:=DevP bs r17.2.1.x oc19.1)).out h hh)) fun hdp22 => ?_
    obtain ⟨r23,hr24,h⟩ := zar h
    refine oO <| zc8 rfl (zk1 hr24 hdp22) rfl (Dels.cons del1 (Dels.cons del3 Dels.nil)) rfl fun _ _=>oA rfl rfl <| zap <| zas (Ent.trans (t0_ eR) (fun h hh=>zi8 zhl hh)) <| zas (Ent.trans (t3_ (t0_ (t2_ (t2_ eR)))) (zle (v0:=r17.2.1.x) (v1:=r17.2.1.regions) (v2:=r17.2.1.bits) (v3:=r17.2.1.durable) (h0:=oc19.1) (h1:=oc19.2.1) (h2:=oc19.2.2))) <| zam <| sR <| oM rfl rfl <| oP (P_neq (a:=r23.1) (b:=(0:Int)) rfl rfl) rfl <| nT <| zan rfl zab (fun hg4 => ?_) (fun hg4 => ?_)
    ·
     replace h := ite_t hg4 h
     refine sR <| oM rfl rfl <| oA rfl rfl <| nT <| zah <| zad ?_
     cases h
     exact fE (res1 Tryz.results137 rfl) () (t0_ (t1_ (eD (eD eR))))
    ·
     replace h := ite_f hg4 h
     refine kT <| zac <| zax (Ent.transX (t0_ eR) (zid (l:=r17.2.1))) fun oc26=>za1 (zcg (Reads.rdp _ _ _) del2) fun hlen28=>zaf <| oM rfl rfl <| oP (zae rfl) rfl <| oP (zaa rfl ⟨_,_,_,Tryz.runUnderlying156,rfl,rfl,Tryz.sizeOf154,rfl⟩) rfl <| oV (zag rfl foc0 rfl Tryz.isAgg154) rfl <| oM rfl rfl <| oP (zfn rfl (z3l)) rfl <| oO <| zxy (M:=mp154) (k:=region) (v:=()) rfl rfl rfl foc3 zsg <| zap <| zas (Ent.trans eR (zle (v0:=r17.2.1.x) (v1:=r17.2.1.regions) (v2:=r17.2.1.bits) (v3:=(setM r17.2.1.durable region ())) (h0:=oc26.1) (h1:=oc26.2.1) (h2:=oc26.2.2))) <| zam <| sR <| oA rfl rfl <| nT <| zah ?_
     cases h
     exact fE (res1 Tryz.results137 rfl) () (t0_ (t1_ (eD (eD eR))))
def zeo (l:LogS) (region:Int) (s:ArrS):Option (Int × LogS × ArrS) :=
  if ((region < (0:Int))∨(l.regions≤region)) then
    some (((1:Int),l,s))
  else
    Option.bind (zib ({ l with durable := (delM l.durable region) }) region false false s) fun r16 =>
    some (r16.1,r16.2.1,r16.2.2)
theorem zph {W:World} {bl:Nat} {bs:Nat} {l:LogS} {region:Int} {s:ArrS} {r:Int × LogS × ArrS} (h:zeo l region s=some r) :
    CSpec Tryz.prog W 77 [ptr bl 0,.int .i64 region] [LogP bs bl l,Arr bs s] (fun x:Unit => .int .i64 r.1) (fun _=>True) (fun x F=>LogP bs bl r.2.1::Arr bs r.2.2::F) := by
 refine CSpec.of_body Tryz.func77 rfl Tryz.ntmps77 rfl fun F => ?_
 show CJ _ _ _ _ _ _ (_::_::F)
 unfold zeo at h
 refine sR <| oA rfl rfl <| nT <| zac <| sR <| oM rfl rfl <| oP (P_lss (a:=region) (b:=(0:Int)) rfl rfl) rfl <| oM rfl rfl <| zaz rfl rfl rfl (fun hG1=>have hP2:¬ (region < (0:Int)) := nP (zab) hG1; VJ_P (zaj rfl)) <| zaz rfl rfl rfl (fun hG3=>have hP4:¬ (region < (0:Int)) := nP (zab) hG3; VJ_P (zaj rfl)) <| zaz rfl rfl rfl (fun hG5=>have hP6:¬ (region < (0:Int)) := nP (zab) hG5; VJ_P (zae (mbx hG5 rfl))) <| zaz rfl rfl rfl (fun hG7=>have hP8:¬ (region < (0:Int)) := nP (zab) hG7; VJ_P (zaa (mbx hG7 rfl) ⟨_,_,_,Tryz.runUnderlying156,rfl,rfl,Tryz.sizeOf3,rfl⟩)) <| zaz rfl rfl rfl (fun hG9=>have hP10:¬ (region < (0:Int)) := nP (zab) hG9; zil (Ent.transX (t0_ eR) (zid (l:=l))) (fun _=>zag (mbx hG9 rfl) foc0 rfl Tryz.isAgg3)) <| zaz rfl rfl rfl (fun hG11=>have hP12:¬ (region < (0:Int)) := nP (zab) hG11; VJ_P (P_geq (a:=region) (b:=l.regions) (mbx hG11 rfl) (mbx hG11 rfl))) <| oP (zcw rfl rfl (fun hh=>mbx (not_f hh) rfl)) rfl <| nT <| zan rfl (bT_or zab zab) (fun hg1 => ?_) (fun hg1 => ?_)
 ·
  replace h := ite_t hg1 h
  refine sR <| oA rfl rfl <| nT <| zah <| zad ?_
  cases h
  exact fE (res1 Tryz.results77 rfl) () eR
 ·
  replace h := ite_f hg1 h
  refine kT <| zac <| zax (Ent.transX (t0_ eR) (zid (l:=l))) fun oc13=>za1 (zcg (Reads.rdp _ _ _) del2) fun hlen15=>zaf <| oM rfl rfl <| oP (zae rfl) rfl <| oP (zaa rfl ⟨_,_,_,Tryz.runUnderlying156,rfl,rfl,Tryz.sizeOf154,rfl⟩) rfl <| oV (zag rfl foc0 rfl Tryz.isAgg154) rfl <| oM rfl rfl <| oO <| zps (M:=mp154) (k:=region) rfl rfl foc3 zsg <| zap <| zas (Ent.trans eR (zle (v0:=l.x) (v1:=l.regions) (v2:=l.bits) (v3:=(delM l.durable region)) (h0:=oc13.1) (h1:=oc13.2.1) (h2:=oc13.2.2))) <| zam <| sR <| oM rfl rfl <| oM rfl rfl ?_
  obtain ⟨r16,hr17,h⟩ := zar h
  refine oO <| zat (zmr hr17) rfl Tryz.call106 (Dels.cons del0 (Dels.cons del0 Dels.nil)) rfl fun _ _=>oA rfl rfl <| nT <| zah ?_
  cases h
  exact fE (res1 Tryz.results77 rfl) () eR
def zhw (l:LogS) (region:Int) (s:ArrS):Option (Bool) :=
  if ((region < (0:Int))∨(l.regions≤region)) then
    some false
  else
    Option.bind (zoa l.bits region) fun r16 =>
    some r16.1
theorem zoj {W:World} {bl:Nat} {bs:Nat} {l:LogS} {region:Int} {s:ArrS} {r:Bool} (h:zhw l region s=some r) :
    CSpec Tryz.prog W 105 [ptr bl 0,.int .i64 region] [LogP bs bl l,Arr bs s] (fun x:Unit => .bool r) (fun _=>True) (fun x F=>LogP bs bl l::Arr bs s::F) := by
 refine CSpec.of_body Tryz.func105 rfl Tryz.ntmps105 rfl fun F => ?_
 show CJ _ _ _ _ _ _ (_::_::F)
 unfold zhw at h
 refine sR <| oA rfl rfl <| nT <| zac <| sR <| oM rfl rfl <| oP (P_lss (a:=region) (b:=(0:Int)) rfl rfl) rfl <| oM rfl rfl <| zaz rfl rfl rfl (fun hG1=>have hP2:¬ (region < (0:Int)) := nP (zab) hG1; VJ_P (zaj rfl)) <| zaz rfl rfl rfl (fun hG3=>have hP4:¬ (region < (0:Int)) := nP (zab) hG3; VJ_P (zaj rfl)) <| zaz rfl rfl rfl (fun hG5=>have hP6:¬ (region < (0:Int)) := nP (zab) hG5; VJ_P (zae (mbx hG5 rfl))) <| zaz rfl rfl rfl (fun hG7=>have hP8:¬ (region < (0:Int)) := nP (zab) hG7; VJ_P (zaa (mbx hG7 rfl) ⟨_,_,_,Tryz.runUnderlying156,rfl,rfl,Tryz.sizeOf3,rfl⟩)) <| zaz rfl rfl rfl (fun hG9=>have hP10:¬ (region < (0:Int)) := nP (zab) hG9; zil (Ent.transX (t0_ eR) (zid (l:=l))) (fun _=>zag (mbx hG9 rfl) foc0 rfl Tryz.isAgg3)) <| zaz rfl rfl rfl (fun hG11=>have hP12:¬ (region < (0:Int)) := nP (zab) hG11; VJ_P (P_geq (a:=region) (b:=l.regions) (mbx hG11 rfl) (mbx hG11 rfl))) <| oP (zcw rfl rfl (fun hh=>mbx (not_f hh) rfl)) rfl <| nT <| zan rfl (bT_or zab zab) (fun hg1 => ?_) (fun hg1 => ?_)
 ·
  replace h := ite_t hg1 h
  refine sR <| oA rfl rfl <| nT <| zah <| zad ?_
  cases h
  exact fE (res1 Tryz.results105 rfl) () eR
 ·
  replace h := ite_f hg1 h
  refine kT <| zac <| zax (Ent.transX (t0_ eR) (zid (l:=l))) fun oc13=>za1 (zcg (Reads.rdp _ _ _) del2) fun hlen15=>zaf <| oM rfl rfl <| oP (zae rfl) rfl <| oP (zaa rfl ⟨_,_,_,Tryz.runUnderlying156,rfl,rfl,Tryz.sizeOf29,rfl⟩) rfl <| oV (zag rfl foc0 rfl Tryz.isAgg29) rfl <| oM rfl rfl ?_
  obtain ⟨r16,hr17,h⟩ := zar h
  refine oO <| zat (zzc (Reads.rdp _ _ _) hr17) rfl Tryz.call114 (Dels.cons del2 Dels.nil) rfl fun _ _=>oM rfl rfl <| oP (za4 rfl rfl) rfl <| oP (za4 rfl rfl) rfl <| oA rfl rfl <| oA rfl rfl <| zap <| zas (Ent.trans (t1_ (t1_ eR)) (zle (v0:=l.x) (v1:=l.regions) (v2:=l.bits) (v3:=l.durable) (h0:=oc13.1) (h1:=oc13.2.1) (h2:=oc13.2.2))) <| zam <| sR <| oM rfl rfl <| oA rfl rfl <| nT <| zah ?_
  cases h
  exact fE (res1 Tryz.results105 rfl) () eR
def zg0 (l:LogS) (s:ArrS) (rec:(List Int)→Nat→Option ((List Int))) (x8:List Int) (x10:Nat):Option ((List Int)) :=
  if (((x10:Nat):Int) < l.regions) then
    Option.bind (zhw l (((x10:Nat):Int)) s) fun r12 =>
    if r12=true then
      grd (inLen (x8.length + 1)) <|
      grd (inN64 (x10 + 1)) <|
      rec ((x8 ++ [((x10:Nat):Int)])) (x10 + 1)
    else
      grd (inN64 (x10 + 1)) <|
      rec x8 (x10 + 1)
  else
    some x8
def zhs (l:LogS) (s:ArrS):Nat→(List Int)→Nat→Option ((List Int))
  | 0,_,_=>none
  | n + 1,x8,x10=>zg0 l s (zhs l s n) x8 x10
def zho (l:LogS) (s:ArrS):Option ((List Int)) :=
  Option.bind (zhs l s FUEL ([]) 0) fun a7 =>
  some a7
theorem zl5 {W:World} {bl:Nat} {bs:Nat} {l:LogS} {s:ArrS} {r:(List Int)} (h:zho l s=some r) :
    CSpec Tryz.prog W 75 [ptr bl 0] [LogP bs bl l,Arr bs s] (fun x:Sl3=>x.v) (fun _=>True) (fun x F=>LogP bs bl l::Arr bs s::sl tyI x.v r::F) := by
 refine CSpec.of_body Tryz.func75 rfl Tryz.ntmps75 rfl fun F => ?_
 show CJ _ _ _ _ _ _ (_::_::F)
 unfold zho at h
 refine sR <| oA rfl rfl <| nT <| sR <| oA rfl rfl <| nT <| zac <| sR <| oM rfl rfl <| oP (zae rfl) rfl <| oP (zaa rfl ⟨_,_,_,Tryz.runUnderlying156,rfl,rfl,Tryz.sizeOf3,rfl⟩) rfl <| oV (zil (Ent.transX (t0_ eR) (zid (l:=l))) (fun _=>zag rfl foc0 rfl Tryz.isAgg3)) rfl <| oM rfl rfl <| nT <| zde (fun h hh=>zdj (t:=tyI) h hh) ?_
 obtain ⟨y4,hl2,hK3⟩ := zfw h
 refine zbv (X:=(List Int) × Sl3) [3,4,9,10,11,12,13,14,15,16,17,18,19] (fun ⟨a7,hd6⟩=>([(3,hd6.v)]:Slots)) (fun ⟨a7,hd6⟩ R=>sl tyI hd6.v a7::R) (fun ⟨a7,hd6⟩=>y4=a7) (Dels.cons del0 Dels.nil) ?_ ?_
 ·
  refine zaw <| zbd (X:=Nat × (List Int) × Nat × Sl3) [3,4,9,10,11,12,13,14,15,16,17,18,19] (fun ⟨n,x8,x10,hd9⟩=>([(3,hd9.v),(9,.int .i64 (((x10:Nat):Int)))]:Slots)) (fun ⟨n,x8,x10,hd9⟩ R=>sl tyI hd9.v x8::R) (fun ⟨n,x8,x10,hd9⟩=>zhs l s n x8 x10=some y4) (fun ⟨n,x8,x10,hd9⟩=>n) ⟨FUEL,[],0,⟨none,0,0⟩⟩ ?_ ?_ eR ?_
  · exact hl2
  · exact ⟨rfl,rfl,True.intro⟩
  ·
   rintro ⟨n,x8,x10,hd9⟩ h
   cases n with
   | zero=>exact zbq h
   | succ n => ?_
   replace h:zg0 l s (zhs l s n) x8 x10=some y4 := h
   unfold zg0 at h
   show CJ _ _ _ _ _ (([(3,hd9.v),(9,.int .i64 (((x10:Nat):Int)))]:Slots) ++ forget _ _) (sl tyI hd9.v x8::_)
   refine lC del0 fun hlen11=>sR <| oP (P_lss (a:=((x10:Nat):Int)) (b:=l.regions) rfl rfl) rfl <| nT <| zac <| zan rfl zab (fun hg1 => ?_) (fun hg1 => ?_)
   ·
    replace h := ite_t hg1 h
    refine kT <| zac <| zaw <| sR <| oM rfl rfl <| oA rfl rfl <| nT <| sR <| oM rfl rfl <| oM rfl rfl ?_
    obtain ⟨r12,hr13,h⟩ := zar h
    refine oO <| zat (zoj hr13) rfl Tryz.call105 (Dels.cons del1 (Dels.cons del1 Dels.nil)) rfl fun _ _=>nT <| zan rfl Iff.rfl (fun hg2 => ?_) (fun hg2 => ?_)
    ·
     replace h := ite_t hg2 h
     refine zaf <| oM rfl rfl <| oM rfl rfl <| oO <| zbf rfl (zhn _) rfl fun b14 => ?_
     obtain ⟨hg3,h⟩ := zfo h
     refine oO <| zc9 (t:=tyI) (bytes:=8) rfl rfl del3 foc0 (Reads.lit (t:=tyI) (ys:=[((x10:Nat):Int)]) rfl rfl (by decide) (by decide) rfl) Tryz.underlying45 zkq (apl (m:=1) (b:=8) hg3 (by decide)).1 (apl (m:=1) (b:=8) hg3 (by decide)).2 rfl fun p16 c17=>oA rfl rfl <| zap <| zao <| zam <| zaf ?_
     obtain ⟨hg4,h⟩ := zfg h
     exact oP (PJ_eq (P_add (a:=((x10:Nat):Int)) (b:=(1:Int)) rfl rfl (zfh hg4)) rfl) rfl <| oM rfl rfl <| zap <| nR ⟨n,(x8 ++ [((x10:Nat):Int)]),(x10 + 1),⟨p16,(x8 ++ [((x10:Nat):Int)]).length,c17⟩⟩ h ⟨rfl,rfl,True.intro⟩ (t0_ (t1_ (t1_ (eD eR))))
    ·
     replace h := ite_f hg2 h
     refine zbr <| zao <| zam <| zaf ?_
     obtain ⟨hg5,h⟩ := zfg h
     exact oP (PJ_eq (P_add (a:=((x10:Nat):Int)) (b:=(1:Int)) rfl rfl (zfh hg5)) rfl) rfl <| oM rfl rfl <| zap <| nR ⟨n,x8,(x10 + 1),hd9⟩ h ⟨rfl,rfl,True.intro⟩ (t2_ eR)
   ·
    replace h := ite_f hg1 h
    exact zbj <| za3 <| za2 <| za0 <| cR ⟨x8,hd9⟩ (Option.some.inj h).symm ⟨rfl,True.intro⟩ eR
 ·
  rintro ⟨a7,hd6⟩ hy18
  replace h := zd2 hK3 hy18
  show CJ _ _ _ _ _ (([(3,hd6.v)]:Slots) ++ forget _ _) (sl tyI hd6.v a7::_)
  refine lC del0 fun hlen19=>sR <| oM rfl rfl <| oA rfl rfl <| nT <| zah ?_
  cases h
  exact fE (res1 Tryz.results75 rfl) hd6 (t1_ (t1_ eR))
structure mlegS where
  dev:Dvc
  state:Int
  copied:Int
structure mlegH where
  dev:IfH
  state:Int
  copied:Int
abbrev mleg_x0:mlegS := ⟨dv0,0,0⟩
abbrev zbz:mlegH := ⟨tyDev.dflt,0,0⟩
abbrev zdp:Ty mlegH := { T := 129,sz := 3,enc := fun x=>[x.dev.v,.int .i64 x.state,.int .i64 x.copied],dflt := zbz,len := fun _=>rfl,one := fun _=>rfl,pos := by decide }
theorem ztf:ElemOk Tryz.prog zdp 32 := ⟨Tryz.t129,.agg #[.nilIface,.int .i64 0,.int .i64 0],by kernel_rfl,rfl,rfl,rfl,rfl⟩
def zav (l:List mlegS) (hs:List IfH):List mlegH := List.zipWith (fun x h=>⟨h,x.state,x.copied⟩) l hs
theorem zai {l:List mlegS} {hs:List IfH} (hl:hs.length=l.length):(zav l hs).length=l.length := by simp [zav,hl]
theorem zb2 {l:List mlegS} {hs:List IfH} (hl:hs.length=l.length) (i:Nat):(zav l hs).getD i zbz=⟨hs.getD i tyDev.dflt,(l.getD i mleg_x0).state,(l.getD i mleg_x0).copied⟩ := by
  by_cases h:i < l.length
  · have h2:i < hs.length := by omega
    have h4:i < (zav l hs).length := by rw [zai hl]; exact h
    simp only [List.getD,List.getElem?_eq_getElem h,List.getElem?_eq_getElem h2,List.getElem?_eq_getElem h4,Option.getD_some]
    simp [zav]
  · have h2:¬ i < hs.length := by omega
    have h3:(zav l hs).length=l.length := zai hl
    simp only [List.getD]
    rw [List.getElem?_eq_none (by omega),List.getElem?_eq_none (by omega),List.getElem?_eq_none (by omega)]; rfl
theorem zr3 {l:List mlegS} {hs:List IfH} (hl:hs.length=l.length) {i:Nat} (hi:i < l.length) (y:mlegS):(zav l hs).set i ⟨hs.getD i tyDev.dflt,y.state,y.copied⟩=zav (l.set i y) hs := by
  apply List.ext_getElem (by simp [zav])
  intro j h1 h2
  rw [List.getElem_set]
  simp only [zav,List.getElem_zipWith,List.getElem_set]
  by_cases e:i=j
  · subst e; simp [List.getD,show i < hs.length by omega]
  · simp [e]
theorem zll {l:List mlegS} {hs:List IfH} (hl:hs.length=l.length) {i:Nat} (hi:i < l.length) (v:Int):(zav l hs).set i { (zav l hs).getD i zbz with state := v } = zav (l.set i { l.getD i mleg_x0 with state := v }) hs := by
  rw [zb2 hl, ← zr3 hl hi]
theorem zlm {l:List mlegS} {i:Nat} (v:Int):(l.set i { l.getD i mleg_x0 with state := v }).map mlegS.dev=l.map mlegS.dev := by
  apply List.ext_getElem (by simp)
  intro j h1 h2
  simp only [List.getElem_map,List.getElem_set]
  split
  · rename_i e; subst e; simp at h2; simp [List.getD,h2]
  · rfl
theorem zk2 {l:List mlegS} {hs:List IfH} (hl:hs.length=l.length) {i:Nat} (hi:i < l.length) (v:Int):(zav l hs).set i { (zav l hs).getD i zbz with copied := v } = zav (l.set i { l.getD i mleg_x0 with copied := v }) hs := by
  rw [zb2 hl, ← zr3 hl hi]
theorem zk3 {l:List mlegS} {i:Nat} (v:Int):(l.set i { l.getD i mleg_x0 with copied := v }).map mlegS.dev=l.map mlegS.dev := by
  apply List.ext_getElem (by simp)
  intro j h1 h2
  simp only [List.getElem_map,List.getElem_set]
  split
  · rename_i e; subst e; simp at h2; simp [List.getD,h2]
  · rfl
theorem zqy {l:List mlegS} {hs:List IfH} (hl:hs.length=l.length) (x:mlegS) (h:IfH):zav l hs ++ [⟨h,x.state,x.copied⟩]=zav (l ++ [x]) (hs ++ [h]) := by
  simp only [zav]; rw [List.zipWith_append hl.symm]; rfl
theorem zfk {a:Nat} {l:List mlegS} {hs:List IfH} {i:Nat} {R:List HP} (hi:i < l.length):Ent (Rs (DevP a) (l.map mlegS.dev) hs::R) (DevP a (l.getD i mleg_x0).dev (hs.getD i tyDev.dflt)::Rs (DevP a) (l.map mlegS.dev) hs::R) := by
  have h := Rs_at (RP:=DevP a) (fun _ _=>zhl) (dx:=dv0) (dh:=tyDev.dflt) (l:=l.map mlegS.dev) (hs:=hs) (i:=i) (R:=R) (by simpa using hi)
  have e:(l.map mlegS.dev).getD i dv0=(l.getD i mleg_x0).dev := by simp [List.getD,hi]
  rwa [e] at h
structure MirS where
  legs:List mlegS
  log:Option LogS
  hasLog:Bool
  logState:Int
  size:Int
  region:Int
  dirty:List Bool
  copied:Int
def MirP (a b:Nat) (l:MirS):HP := ex fun h:Sl3 × (List IfH) × Nat × Sl3=>star [blk b 119 [(Sl3.v h.1),oval l.log h.2.2.1,.bool l.hasLog,.int .i64 l.logState,.int .i64 l.size,.int .i64 l.region,(Sl3.v h.2.2.2),.int .i64 l.copied],sl zdp (Sl3.v h.1) (zav l.legs h.2.1),Rs (DevP a) (l.legs.map mlegS.dev) h.2.1,optP (LogP a h.2.2.1) l.log,sl tyB (Sl3.v h.2.2.2) l.dirty]
theorem zba {a b:Nat} {l:MirS} {R:List HP} : EntX (MirP a b l::R) fun h:Sl3 × (List IfH) × Nat × Sl3=>blk b 119 [(Sl3.v h.1),oval l.log h.2.2.1,.bool l.hasLog,.int .i64 l.logState,.int .i64 l.size,.int .i64 l.region,(Sl3.v h.2.2.2),.int .i64 l.copied]::sl zdp (Sl3.v h.1) (zav l.legs h.2.1)::Rs (DevP a) (l.legs.map mlegS.dev) h.2.1::optP (LogP a h.2.2.1) l.log::sl tyB (Sl3.v h.2.2.2) l.dirty::R :=
  fun _ hh=>let ⟨c,hc⟩ := stars_ex.1 hh; ⟨c,stars_star.1 hc⟩
theorem zbn {a b:Nat} {v0:List mlegS} {v1:Option LogS} {v2:Bool} {v3:Int} {v4:Int} {v5:Int} {v6:List Bool} {v7:Int} {h0:Sl3} {h1:List IfH} {h2:Nat} {h3:Sl3} {R:List HP} : Ent (blk b 119 [(Sl3.v h0),oval v1 h2,.bool v2,.int .i64 v3,.int .i64 v4,.int .i64 v5,(Sl3.v h3),.int .i64 v7]::sl zdp (Sl3.v h0) (zav v0 h1)::Rs (DevP a) (v0.map mlegS.dev) h1::optP (LogP a h2) v1::sl tyB (Sl3.v h3) v6::R) (MirP a b ⟨v0,v1,v2,v3,v4,v5,v6,v7⟩::R) :=
  fun _ hh=>stars_ex.2 ⟨(h0,h1,h2,h3),stars_star.2 hh⟩
theorem zp9 (v0:Int) (v1:Int) (v2:Bool):∀ w,(Instr.build 119 (#[(4,.int .i64 v0),(5,.int .i64 v1),(2,.bool v2)]:Array (Nat × Value))).run Tryz.prog w = .ok (.agg #[.slice none 0 0,.pointer none,.bool v2,.int .i64 (0:Int),.int .i64 v0,.int .i64 v1,.slice none 0 0,.int .i64 (0:Int)]) w := fun w=>by kernel_rfl
theorem zu2 (v0:TypeId) (v1:Value):∀ w,(Instr.build 129 (#[(0,.iface v0 v1)]:Array (Nat × Value))).run Tryz.prog w = .ok (.agg #[.iface v0 v1,.int .i64 (0:Int),.int .i64 (0:Int)]) w := fun w=>by kernel_rfl
theorem ztg (v0:TypeId) (v1:Value) (v2:Int) (v3:Int):zfb Tryz.prog 115 1 [(0,.agg #[.iface v0 v1,.int .i64 v2,.int .i64 v3])] 129 [.iface v0 v1,.int .i64 v2,.int .i64 v3] := fun w=>by kernel_rfl
def zhc (size:Int) (region:Int):Option (Int) :=
  if ((size < (1:Int))∨(region < (1:Int))) then
    some (0:Int)
  else
    grd (inI64 ((size - (1:Int)))) <|
    grd (inI64 (((IntKind.i64.wrap (((size - (1:Int))).tdiv region)) + (1:Int)))) <|
    some (((IntKind.i64.wrap (((size - (1:Int))).tdiv region)) + (1:Int)))
theorem zly {W:World} {size:Int} {region:Int} {r:Int} (h:zhc size region=some r) :
    CSpec Tryz.prog W 42 [.int .i64 size,.int .i64 region] [] (fun x:Unit => .int .i64 r) (fun _=>True) (fun x F=>F) := by
 refine CSpec.of_body Tryz.func42 rfl Tryz.ntmps42 rfl fun F => ?_
 show CJ _ _ _ _ _ _ (F)
 unfold zhc at h
 refine sR <| oA rfl rfl <| nT <| zac <| sR <| oM rfl rfl <| oP (P_lss (a:=size) (b:=(1:Int)) rfl rfl) rfl <| oM rfl rfl <| zaz rfl rfl rfl (fun hG1=>have hP2:¬ (size < (1:Int)) := nP (zab) hG1; VJ_P (zaj rfl)) <| zaz rfl rfl rfl (fun hG3=>have hP4:¬ (size < (1:Int)) := nP (zab) hG3; VJ_P (P_lss (a:=region) (b:=(1:Int)) (mbx hG3 rfl) rfl)) <| oP (zcw rfl rfl (fun hh=>mbx (not_f hh) rfl)) rfl <| nT <| zan rfl (bT_or zab zab) (fun hg1 => ?_) (fun hg1 => ?_)
 ·
  replace h := ite_t hg1 h
  refine sR <| oA rfl rfl <| nT <| zah <| zad ?_
  cases h
  exact fE (res1 Tryz.results42 rfl) () eR
 ·
  replace h := ite_f hg1 h
  refine kT <| sR <| oM rfl rfl ?_
  obtain ⟨hg2,h⟩ := zd7 h
  refine oP (P_sub (a:=size) (b:=(1:Int)) rfl rfl hg2) rfl <| oM rfl rfl <| oP (zko (a:=(size - (1:Int))) (b:=region) rfl rfl (by omega)) rfl ?_
  obtain ⟨hg3,h⟩ := zd7 h
  refine oP (P_add (a:=(IntKind.i64.wrap (((size - (1:Int))).tdiv region))) (b:=(1:Int)) rfl rfl hg3) rfl <| oA rfl rfl <| nT <| zah ?_
  cases h
  exact fE (res1 Tryz.results42 rfl) () eR
def zlu (k:Int) (p1:Int):Option (Bool) :=
  some (((decide (k < (0:Int))) || (decide (p1 < k))))
theorem zth {W:World} {bp1:Nat} {k:Int} {p1:Int} {r:Bool} (h:zlu k p1=some r) :
    CSpec Tryz.prog W 92 [.int .i64 k,ptr bp1 0] [blk bp1 3 [.int .i64 p1]] (fun x:Unit => .bool r) (fun _=>True) (fun x F=>blk bp1 3 [.int .i64 p1]::F) := by
 refine CSpec.of_body Tryz.func92 rfl Tryz.ntmps92 rfl fun F => ?_
 show CJ _ _ _ _ _ _ (_::F)
 unfold zlu at h
 refine sR <| oA rfl rfl <| nT <| sR <| oM rfl rfl <| oP (P_lss (a:=k) (b:=(0:Int)) rfl rfl) rfl <| oM rfl rfl <| zaz rfl rfl rfl (fun hG1=>have hP2:¬ (k < (0:Int)) := nP (zab) hG1; VJ_P (zaj rfl)) <| zaz rfl rfl rfl (fun hG3=>have hP4:¬ (k < (0:Int)) := nP (zab) hG3; zag rfl foc0 rfl Tryz.isAgg3) <| zaz rfl rfl rfl (fun hG5=>have hP6:¬ (k < (0:Int)) := nP (zab) hG5; VJ_P (P_gtr (a:=k) (b:=p1) (mbx hG5 rfl) (mbx hG5 rfl))) <| oP (zcw rfl rfl (fun hh=>mbx (not_f hh) rfl)) rfl <| oA rfl rfl <| nT <| zah ?_
 cases h
 exact fE (res1 Tryz.results92 rfl) () eR
def zdl (p0:List Int) (p1_c0:Int) (rec:Nat→Option ((Unit) ⊕ Int)) (x6:Nat):Option ((Unit) ⊕ Int) :=
  if (((x6:Nat):Int) < ((p0.length:Nat):Int)) then
    Option.bind (zlu (p0.getD x6 0) p1_c0) fun r7 =>
    if r7=true then
      some (.inr (((x6:Nat):Int)))
    else
      rec (x6 + 1)
  else
    some (.inl ())
def zch (p0:List Int) (p1_c0:Int):Nat→Nat→Option ((Unit) ⊕ Int)
  | 0,_=>none
  | n + 1,x6=>zdl p0 p1_c0 (zch p0 p1_c0 n) x6
def zff (p0:List Int) (p1_c0:Int):Option (Int) :=
  seqO (zch p0 p1_c0 FUEL 0) fun a5 =>
  some (-1:Int)
theorem zkw {W:World} {Ap0:HP} {vp0:Value} {bp1_c0:Nat} {p0:List Int} {p1_c0:Int} {r:Int} (rp0:Reads Ap0 tyI vp0 p0) (h:zff p0 p1_c0=some r) :
    CSpec Tryz.prog W 112 [vp0,.func (.func 92) #[] #[ptr bp1_c0 0]] [Ap0,blk bp1_c0 3 [.int .i64 p1_c0]] (fun x:Unit => .int .i64 r) (fun _=>True) (fun x F=>Ap0::blk bp1_c0 3 [.int .i64 p1_c0]::F) := by
 refine CSpec.of_body Tryz.func112 rfl Tryz.ntmps112 rfl fun F => ?_
 show CJ _ _ _ _ _ _ (_::_::F)
 unfold zff at h
 refine za1 (zcg rp0 del0) fun hlen1=>sR <| oA rfl rfl <| nT <| zac <| sR <| oM rfl rfl <| oV (V_len rfl foc0 rp0 Tryz.runUnderlying45) rfl <| oM rfl rfl <| nT ?_
 obtain ⟨y4,hl2,hK3⟩ := seq_e h
 refine zbv (X:=Unit) [4,5,8,9,10,11,12,13,14,15,16,17,18] (fun _=>([]:Slots)) (fun _ R=>R) (fun _=>y4 = .inl ()) Dels.nil ?_ ?_
 ·
  refine zaw <| zbd (X:=Nat × Nat) [4,5,8,9,10,11,12,13,14,15,16,17,18] (fun ⟨n,x6⟩=>([(8,.int .i64 (((x6:Nat):Int)))]:Slots)) (fun ⟨n,x6⟩ R=>R) (fun ⟨n,x6⟩=>zch p0 p1_c0 n x6=some y4) (fun ⟨n,x6⟩=>n) ⟨FUEL,0⟩ ?_ ?_ eR ?_
  · exact hl2
  · exact ⟨rfl,True.intro⟩
  ·
   rintro ⟨n,x6⟩ h
   cases n with
   | zero=>exact zbq h
   | succ n => ?_
   replace h:zdl p0 p1_c0 (zch p0 p1_c0 n) x6=some y4 := h
   unfold zdl at h
   show CJ _ _ _ _ _ (([(8,.int .i64 (((x6:Nat):Int)))]:Slots) ++ forget _ _) (_)
   refine sR <| oP (P_lss (a:=((x6:Nat):Int)) (b:=((p0.length:Nat):Int)) rfl rfl) rfl <| nT <| zac <| zan rfl zab (fun hg1 => ?_) (fun hg1 => ?_)
   ·
    replace h := ite_t hg1 h
    refine kT <| zac <| zaw <| sR <| oM rfl rfl <| oA rfl rfl <| nT <| sR <| oM rfl rfl <| oM rfl rfl <| oM rfl rfl <| oV (zay (i:=x6) rfl rfl rfl (by omega) foc0 rp0 Tryz.runUnderlying45 Tryz.sizeOf3) rfl <| oV (za6 rfl rfl (by omega) foc0 rp0 rfl rfl Tryz.isAgg3) rfl ?_
    obtain ⟨r7,hr8,h⟩ := zar h
    refine oO <| ze3 rfl rfl (zth hr8) Tryz.call92 (Dels.cons del1 Dels.nil) rfl fun _ _=>nT <| zan rfl Iff.rfl (fun hg2 => ?_) (fun hg2 => ?_)
    ·
     replace h := ite_t hg2 h
     refine sR <| oM rfl rfl <| oA rfl rfl <| nT <| zah <| zau <| zad <| za9 <| zau <| zad ?_
     have hE := Option.some.inj h
     replace hE := zce hK3 hE.symm
     subst hE
     exact fE (res1 Tryz.results112 rfl) () (t1_ eR)
    ·
     replace h := ite_f hg2 h
     exact zbr <| zao <| zam <| zaf <| oP (PJ_eq (P_add (a:=((x6:Nat):Int)) (b:=(1:Int)) rfl rfl (by omega)) rfl) rfl <| oM rfl rfl <| zap <| nR ⟨n,(x6 + 1)⟩ h ⟨rfl,True.intro⟩ (t1_ eR)
   ·
    replace h := ite_f hg1 h
    exact zbj <| za3 <| za2 <| za0 <| cR () (Option.some.inj h).symm True.intro eR
 ·
  rintro _ hy9
  replace h := zd0 hK3 hy9
  show CJ _ _ _ _ _ (([]:Slots) ++ forget _ _) (_)
  refine sR <| oA rfl rfl <| nT <| zah ?_
  cases h
  exact fE (res1 Tryz.results112 rfl) () eR
def zc2 (p0:List Int) (p1_c0:Int):Option (Bool) :=
  Option.bind (zff p0 p1_c0) fun r2 =>
  some ((decide ((0:Int)≤r2)))
theorem zh5 {W:World} {Ap0:HP} {vp0:Value} {bp1_c0:Nat} {p0:List Int} {p1_c0:Int} {r:Bool} (rp0:Reads Ap0 tyI vp0 p0) (h:zc2 p0 p1_c0=some r) :
    CSpec Tryz.prog W 93 [vp0,.func (.func 92) #[] #[ptr bp1_c0 0]] [Ap0,blk bp1_c0 3 [.int .i64 p1_c0]] (fun x:Unit => .bool r) (fun _=>True) (fun x F=>Ap0::blk bp1_c0 3 [.int .i64 p1_c0]::F) := by
 refine CSpec.of_body Tryz.func93 rfl Tryz.ntmps93 rfl fun F => ?_
 show CJ _ _ _ _ _ _ (_::_::F)
 unfold zc2 at h
 refine za1 (zcg rp0 del0) fun hlen1=>sR <| oA rfl rfl <| nT <| sR <| oM rfl rfl <| oM rfl rfl ?_
 obtain ⟨r2,hr3,h⟩ := zar h
 refine oO <| zat (zkw rp0 hr3) rfl Tryz.call112 (Dels.cons del0 (Dels.cons del0 Dels.nil)) rfl fun _ _=>oP (P_geq (a:=r2) (b:=(0:Int)) rfl rfl) rfl <| oA rfl rfl <| nT <| zah ?_
 cases h
 exact fE (res1 Tryz.results93 rfl) () eR
def zhx (p0:List Int) (p1:Int) (rec:Nat→Option ((Unit) ⊕ Int)) (x6:Nat):Option ((Unit) ⊕ Int) :=
  if (((x6:Nat):Int) < ((p0.length:Nat):Int)) then
    if (p1=(p0.getD x6 0)) then
      some (.inr (((x6:Nat):Int)))
    else
      rec (x6 + 1)
  else
    some (.inl ())
def zfj (p0:List Int) (p1:Int):Nat→Nat→Option ((Unit) ⊕ Int)
  | 0,_=>none
  | n + 1,x6=>zhx p0 p1 (zfj p0 p1 n) x6
def zkl (p0:List Int) (p1:Int):Option (Int) :=
  seqO (zfj p0 p1 FUEL 0) fun a5 =>
  some (-1:Int)
theorem zqz {W:World} {Ap0:HP} {vp0:Value} {p0:List Int} {p1:Int} {r:Int} (rp0:Reads Ap0 tyI vp0 p0) (h:zkl p0 p1=some r) :
    CSpec Tryz.prog W 110 [vp0,.int .i64 p1] [Ap0] (fun x:Unit => .int .i64 r) (fun _=>True) (fun x F=>Ap0::F) := by
 refine CSpec.of_body Tryz.func110 rfl Tryz.ntmps110 rfl fun F => ?_
 show CJ _ _ _ _ _ _ (_::F)
 unfold zkl at h
 refine za1 (zcg rp0 del0) fun hlen1=>sR <| oA rfl rfl <| nT <| zac <| sR <| oM rfl rfl <| oV (V_len rfl foc0 rp0 Tryz.runUnderlying45) rfl <| oM rfl rfl <| nT ?_
 obtain ⟨y4,hl2,hK3⟩ := seq_e h
 refine zbv (X:=Unit) [4,5,8,9,10,11,12,13,14,15,16,17,18] (fun _=>([]:Slots)) (fun _ R=>R) (fun _=>y4 = .inl ()) Dels.nil ?_ ?_
 ·
  refine zaw <| zbd (X:=Nat × Nat) [4,5,8,9,10,11,12,13,14,15,16,17,18] (fun ⟨n,x6⟩=>([(8,.int .i64 (((x6:Nat):Int)))]:Slots)) (fun ⟨n,x6⟩ R=>R) (fun ⟨n,x6⟩=>zfj p0 p1 n x6=some y4) (fun ⟨n,x6⟩=>n) ⟨FUEL,0⟩ ?_ ?_ eR ?_
  · exact hl2
  · exact ⟨rfl,True.intro⟩
  ·
   rintro ⟨n,x6⟩ h
   cases n with
   | zero=>exact zbq h
   | succ n => ?_
   replace h:zhx p0 p1 (zfj p0 p1 n) x6=some y4 := h
   unfold zhx at h
   show CJ _ _ _ _ _ (([(8,.int .i64 (((x6:Nat):Int)))]:Slots) ++ forget _ _) (_)
   refine sR <| oP (P_lss (a:=((x6:Nat):Int)) (b:=((p0.length:Nat):Int)) rfl rfl) rfl <| nT <| zac <| zan rfl zab (fun hg1 => ?_) (fun hg1 => ?_)
   ·
    replace h := ite_t hg1 h
    refine kT <| zac <| zaw <| sR <| oM rfl rfl <| oA rfl rfl <| nT <| sR <| oM rfl rfl <| oM rfl rfl <| oM rfl rfl <| oV (zay (i:=x6) rfl rfl rfl (by omega) foc0 rp0 Tryz.runUnderlying45 Tryz.sizeOf3) rfl <| oV (za6 rfl rfl (by omega) foc0 rp0 rfl rfl Tryz.isAgg3) rfl <| oP (P_eql (a:=p1) (b:=(p0.getD x6 0)) rfl rfl) rfl <| nT <| zan rfl zab (fun hg2 => ?_) (fun hg2 => ?_)
    ·
     replace h := ite_t hg2 h
     refine sR <| oM rfl rfl <| oA rfl rfl <| nT <| zah <| zau <| zad <| za9 <| zau <| zad ?_
     have hE := Option.some.inj h
     replace hE := zce hK3 hE.symm
     subst hE
     exact fE (res1 Tryz.results110 rfl) () eR
    ·
     replace h := ite_f hg2 h
     exact zbr <| zao <| zam <| zaf <| oP (PJ_eq (P_add (a:=((x6:Nat):Int)) (b:=(1:Int)) rfl rfl (by omega)) rfl) rfl <| oM rfl rfl <| zap <| nR ⟨n,(x6 + 1)⟩ h ⟨rfl,True.intro⟩ eR
   ·
    replace h := ite_f hg1 h
    exact zbj <| za3 <| za2 <| za0 <| cR () (Option.some.inj h).symm True.intro eR
 ·
  rintro _ hy7
  replace h := zd0 hK3 hy7
  show CJ _ _ _ _ _ (([]:Slots) ++ forget _ _) (_)
  refine sR <| oA rfl rfl <| nT <| zah ?_
  cases h
  exact fE (res1 Tryz.results110 rfl) () eR
end Go.Proofs
set_option linter.unusedSimpArgs false
set_option linter.unusedVariables false
set_option maxRecDepth 20000
set_option maxHeartbeats 4000000
namespace Go.Proofs
open Go.VG
def zdw (p0:List Int) (p1:Int):Option (Bool) :=
  Option.bind (zkl p0 p1) fun r2 =>
  some ((decide ((0:Int)≤r2)))
theorem zgu {W:World} {Ap0:HP} {vp0:Value} {p0:List Int} {p1:Int} {r:Bool} (rp0:Reads Ap0 tyI vp0 p0) (h:zdw p0 p1=some r) :
    CSpec Tryz.prog W 81 [vp0,.int .i64 p1] [Ap0] (fun x:Unit => .bool r) (fun _=>True) (fun x F=>Ap0::F) := by
 refine CSpec.of_body Tryz.func81 rfl Tryz.ntmps81 rfl fun F => ?_
 show CJ _ _ _ _ _ _ (_::F)
 unfold zdw at h
 refine za1 (zcg rp0 del0) fun hlen1=>sR <| oA rfl rfl <| nT <| sR <| oM rfl rfl <| oM rfl rfl ?_
 obtain ⟨r2,hr3,h⟩ := zar h
 refine oO <| zat (zqz rp0 hr3) rfl Tryz.call110 (Dels.cons del0 Dels.nil) rfl fun _ _=>oP (P_geq (a:=r2) (b:=(0:Int)) rfl rfl) rfl <| oA rfl rfl <| nT <| zah ?_
 cases h
 exact fE (res1 Tryz.results81 rfl) () eR
def zlz (legs:List Dvc) (staleLegs:List Int) (log:Dvc) (region:Int) (s:ArrS) (rec:MirS→Nat→Nat→Option (Nat × MirS)) (x33:MirS) (x34:Nat) (x35:Nat):Option (Nat × MirS) :=
  if (((x35:Nat):Int) < ((legs.length:Nat):Int)) then
    Option.bind (zdw staleLegs (((x35:Nat):Int))) fun r38 =>
    Option.bind ((
      if r38=true then
        some (x34,2)
      else
        grd (inN64 (x34 + 1)) <|
        some (((x34 + 1),0)):Option (Nat × Nat))) fun a45 =>
    grd (inLen (x33.legs.length + 1)) <|
    Option.bind (Dvc.size (legs.getD x35 dv0) s) fun r63 =>
    rec ((⟨(x33.legs ++ [(⟨(legs.getD x35 dv0),((a45.2:Nat):Int),(0:Int)⟩:mlegS)]),x33.log,x33.hasLog,x33.logState,(min x33.size r63),x33.region,x33.dirty,x33.copied⟩:MirS)) a45.1 (x35 + 1)
  else
    some (x34,x33)
def zio (legs:List Dvc) (staleLegs:List Int) (log:Dvc) (region:Int) (s:ArrS):Nat→MirS→Nat→Nat→Option (Nat × MirS)
  | 0,_,_,_=>none
  | n + 1,x33,x34,x35=>zlz legs staleLegs log region s (zio legs staleLegs log region s n) x33 x34 x35
def zl0 (r71:Int) (rec:MirS→Nat→Option (MirS)) (x101:MirS) (x102:Nat):Option (MirS) :=
  if (((x102:Nat):Int) < ((((List.replicate ((r71).toNat) false)).length:Nat):Int)) then
    grd (decide (x102 < x101.dirty.length)) <|
    grd (inN64 (x102 + 1)) <|
    rec ({ x101 with dirty := (x101.dirty.set x102 true) }) (x102 + 1)
  else
    some x101
def zj6 (r71:Int):Nat→MirS→Nat→Option (MirS)
  | 0,_,_=>none
  | n + 1,x101,x102=>zl0 r71 (zj6 r71 n) x101 x102
def zja (r129:(List Int)) (rec:MirS→Nat→Option (MirS)) (x138:MirS) (x139:Nat):Option (MirS) :=
  if (((x139:Nat):Int) < ((r129.length:Nat):Int)) then
    grd (decide (0≤(r129.getD x139 0)∧(r129.getD x139 0) < (x138.dirty.length:Int))) <|
    grd (inN64 (x139 + 1)) <|
    rec ({ x138 with dirty := (x138.dirty.set (((r129.getD x139 0)).toNat) true) }) (x139 + 1)
  else
    some x138
def zip (r129:(List Int)):Nat→MirS→Nat→Option (MirS)
  | 0,_,_=>none
  | n + 1,x138,x139=>zja r129 (zip r129 n) x138 x139
def zgc (legs:List Dvc) (staleLegs:List Int) (log:Dvc) (region:Int) (s:ArrS):Option ((Option MirS) × Int) :=
  if ((((((legs.length:Nat):Int) < (2:Int))∨((6:Int) < ((legs.length:Nat):Int)))∨(region < (1:Int)))∨((65536:Int) < region)) then
    some ((none,(1:Int)))
  else
    Option.bind (zc2 staleLegs (((legs.length:Nat):Int))) fun r17 =>
    if r17=true then
      some ((none,(1:Int)))
    else
      Option.bind (Dvc.size (legs.getD 0 dv0) s) fun r21 =>
      Option.bind (zio legs staleLegs log region s FUEL ((⟨([]:List mlegS),none,true,(0:Int),r21,region,[],(0:Int)⟩:MirS)) 0 0) fun a32 =>
      if (((a32.1:Nat):Int)=(0:Int)) then
        some ((none,(19:Int)))
      else
        Option.bind (zhc a32.2.size region) fun r71 =>
        grd (decide (0≤r71∧r71≤1000000000)) <|
        Option.bind (zdw staleLegs (((legs.length:Nat):Int))) fun r74 =>
        if (r74=true∨(¬ a32.2.hasLog=true)) then
          Option.bind (zj6 r71 FUEL ((⟨a32.2.legs,a32.2.log,a32.2.hasLog,(2:Int),a32.2.size,a32.2.region,(List.replicate ((r71).toNat) false),a32.2.copied⟩:MirS)) 0) fun a100 =>
          some (((some a100),(0:Int)))
        else
          Option.bind (zin log (((((List.replicate ((r71).toNat) false)).length:Nat):Int)) s) fun r114 =>
          if ((r114.2≠(0:Int))∧(r114.2≠(5:Int))) then
            some ((none,(18:Int)))
          else
            if (r114.2≠(0:Int)) then
              some (none,r114.2)
            else
              Option.elim r114.1 (
                none) fun o128 =>
              Option.bind (zho o128 s) fun r129 =>
              Option.bind (zip r129 FUEL ((⟨a32.2.legs,(some o128),a32.2.hasLog,a32.2.logState,a32.2.size,a32.2.region,(List.replicate ((r71).toNat) false),a32.2.copied⟩:MirS)) 0) fun a137 =>
              some (((some a137),(0:Int)))
theorem zvs {W:World} {Alegs:HP} {vlegs:Value} {hslegs:List IfH} {AstaleLegs:HP} {vstaleLegs:Value} {vlog:IfH} {bs:Nat} {legs:List Dvc} {staleLegs:List Int} {log:Dvc} {region:Int} {s:ArrS} {r:(Option MirS) × Int} (rlegs:Reads Alegs tyDev vlegs hslegs) (rstaleLegs:Reads AstaleLegs tyI vstaleLegs staleLegs) (h:zgc legs staleLegs log region s=some r) :
    CSpec Tryz.prog W 52 [vlegs,vstaleLegs,IfH.v vlog,.int .i64 region] [Alegs,Rs (DevP bs) legs hslegs,AstaleLegs,DevP bs log vlog,Arr bs s] (fun x:Nat => .tuple #[oval r.1 x,.int .i64 r.2]) (fun _=>True) (fun x F=>Alegs::Rs (DevP bs) legs hslegs::AstaleLegs::DevP bs log vlog::Arr bs s::optP (MirP bs x) r.1::F) := by
 refine CSpec.of_body Tryz.func52 rfl Tryz.ntmps52 rfl fun F => ?_
 show CJ _ _ _ _ _ _ (_::_::_::_::_::F)
 unfold zgc at h
 refine za1 (zcg rlegs del0) fun hlen1=>za1 (fun h hh=>za7 (zaq (del1 (A:=Rs (DevP bs) legs hslegs)).out h hh)) fun hdl2=>za1 (zcg rstaleLegs del2) fun hlen3=>sR <| oA rfl rfl <| oA rfl rfl <| nT <| sR <| oM rfl rfl <| oV (VJ_eq (V_len rfl foc0 rlegs Tryz.runUnderlying92) (congrArg (fun z:Nat=>Value.int .i64 (z:Int)) (hdl2).symm)) rfl <| oO <| zes Tryz.zeroValue3 rfl rfl fun b4=>oO <| zbu rfl rfl foc0 rfl rfl Tryz.sizeOf3 <| nT <| sR <| oP (zb6 rfl rfl) rfl <| oA rfl rfl <| nT <| zac <| sR <| oV (zag rfl foc0 rfl Tryz.isAgg3) rfl <| oP (P_lss (a:=((legs.length:Nat):Int)) (b:=(2:Int)) rfl rfl) rfl <| oM rfl rfl <| zaz rfl rfl rfl (fun hG5=>have hP6:¬ (((legs.length:Nat):Int) < (2:Int)) := nP (zab) hG5; zag rfl foc0 rfl Tryz.isAgg3) <| zaz rfl rfl rfl (fun hG7=>have hP8:¬ (((legs.length:Nat):Int) < (2:Int)) := nP (zab) hG7; VJ_P (P_gtr (a:=((legs.length:Nat):Int)) (b:=(6:Int)) (mbx hG7 rfl) rfl)) <| oP (zcw rfl rfl (fun hh=>mbx (not_f hh) rfl)) rfl <| oM rfl rfl <| zaz rfl rfl rfl (fun hG9=>have hP10:¬ ((((legs.length:Nat):Int) < (2:Int))∨((6:Int) < ((legs.length:Nat):Int))) := nP ((bT_or zab zab)) hG9; VJ_P (zaj rfl)) ?_
 refine zaz rfl rfl rfl (fun hG11=>have hP12:¬ ((((legs.length:Nat):Int) < (2:Int))∨((6:Int) < ((legs.length:Nat):Int))) := nP ((bT_or zab zab)) hG11; VJ_P (P_lss (a:=region) (b:=(1:Int)) (mbx hG11 rfl) rfl)) <| oP (zcw rfl rfl (fun hh=>mbx (not_f hh) rfl)) rfl <| oM rfl rfl <| zaz rfl rfl rfl (fun hG13=>have hP14:¬ (((((legs.length:Nat):Int) < (2:Int))∨((6:Int) < ((legs.length:Nat):Int)))∨(region < (1:Int))) := nP ((bT_or (bT_or zab zab) zab)) hG13; VJ_P (zaj rfl)) <| zaz rfl rfl rfl (fun hG15=>have hP16:¬ (((((legs.length:Nat):Int) < (2:Int))∨((6:Int) < ((legs.length:Nat):Int)))∨(region < (1:Int))) := nP ((bT_or (bT_or zab zab) zab)) hG15; VJ_P (P_gtr (a:=region) (b:=(65536:Int)) (mbx hG15 rfl) rfl)) <| oP (zcw rfl rfl (fun hh=>mbx (not_f hh) rfl)) rfl <| oM rfl rfl <| zb7 39 rfl (bT_or (bT_or (bT_or zab zab) zab) zab) (fun hg1B hg1 => ?_) (fun hg1B hg1 => ?_)
 ·
  replace h := ite_t hg1 h
  refine RJ_gn (GY_no rfl rfl rfl hg1B) rfl rfl <| RJ_gn (GY_no rfl rfl rfl hg1B) rfl rfl <| RJ_gn (GY_no rfl rfl rfl hg1B) rfl rfl <| oP (zbh rfl hg1B rfl) rfl <| nT <| zck rfl rfl <| sR <| oA rfl rfl <| oA rfl rfl <| nT <| zah <| zad ?_
  cases h
  exact fE (res2 Tryz.results52 rfl rfl) 0 (t1_ (t1_ (t1_ (t1_ (t1_ (Ent.trans (fun h hh=>zb8 h hh) <| t0_ (eD eR)))))))
 ·
  replace h := ite_f hg1 h
  refine gP (zal rfl rfl rfl hg1B) (zaj rfl) rfl <| gP (zal rfl rfl rfl hg1B) (zaj rfl) rfl ?_
  obtain ⟨r17,hr18,h⟩ := zar h
  refine RJ_gy (zal rfl rfl rfl hg1B) <| zat (zh5 rstaleLegs hr18) rfl Tryz.call93 (Dels.cons del3 (Dels.cons del0 Dels.nil)) rfl fun _ _=>oP (za8 rfl hg1B rfl) rfl <| nT <| zan rfl Iff.rfl (fun hg2 => ?_) (fun hg2 => ?_)
  ·
   replace h := ite_t hg2 h
   refine sR <| oA rfl rfl <| oA rfl rfl <| nT <| zah <| zad ?_
   cases h
   exact fE (res2 Tryz.results52 rfl rfl) 0 (t2_ (t2_ (t0_ (t1_ (t1_ (Ent.trans (fun h hh=>zb8 h hh) <| t0_ (eD eR)))))))
  ·
   replace h := ite_f hg2 h
   refine kT <| zac <| zbc 264 (by kernel_rfl) rfl <| aN 0 1 rfl rfl (zaj rfl) rfl <| aV 1 3 rfl rfl (zak rfl) eR (zay (i:=0) rfl rfl rfl (by have hz:0 < legs.length := (by omega); have hy := hdl2; omega) foc2 rlegs Tryz.runUnderlying92 Tryz.sizeOf96) rfl <| zey (Ent.trans (t3_ eR) (Rs_at (fun _ _=>zhl) (dx:=dv0) (dh:=tyDev.dflt) (i:=0) (by omega))) <| aV 2 7 rfl rfl (zak rfl) (t2_ (t2_ (t2_ (t1_ (t1_ (t1_ (eD eR))))))) (za6 rfl rfl (by have hz:0 < legs.length := (by omega); have hy := hdl2; omega) foc2 rlegs rfl rfl Tryz.isAgg96) rfl <| aN 4 23 rfl rfl (zaj rfl) rfl <| aN 5 55 rfl rfl (zaj rfl) rfl <| aN 6 119 rfl rfl (zv7 rfl rfl Tryz.underlying96) rfl <| zh9 (fun h hh=>zd3 h (zaq (del0 (A:=DevP bs (legs.getD 0 dv0) (hslegs.getD 0 tyDev.dflt))).out h hh)) fun hdp20 => ?_
   obtain ⟨r21,hr22,h⟩ := zar h
   refine AJ_op 3 127 rfl (by kernel_rfl) rfl (zak rfl) <| zc8 rfl (zlx hr22 hdp20) rfl (Dels.cons del0 (Dels.cons del5 Dels.nil)) rfl fun _ _=>⟨fun h=>absurd h (by decide),?_⟩
   refine aN 7 255 rfl rfl (zfn rfl (zp9 _ _ _)) rfl <| AJ_op 8 511 rfl (by kernel_rfl) rfl (zak rfl) <| O_box rfl rfl rfl fun b23=>⟨fun h=>absurd h (by decide),?_⟩
   refine aN 9 1023 rfl rfl (zb0 rfl) rfl <| zcd (by kernel_rfl) <| zas (t0_ (t1_ (t1_ (t1_ (t1_ (t1_ (t1_ (eD eR)))))))) <| zam <| sR <| oA rfl rfl <| nT <| zac <| sR <| oM rfl rfl <| oV (VJ_eq (V_len rfl foc5 rlegs Tryz.runUnderlying92) (congrArg (fun z:Nat=>Value.int .i64 (z:Int)) (hdl2).symm)) rfl <| oM rfl rfl <| nT <| zde (fun h hh=>zdj (t:=zdp) h (zpe (RP:=DevP bs) h hh)) <| zde (fun h hh=>zdj (t:=tyB) h hh) <| zde (Ent.trans (t3_ (t1_ (t1_ (Ent.trans (fun h hh=>zb8 h hh) <| t0_ eR)))) (zbn (v0:=([]:List mlegS)) (v1:=none) (v2:=true) (v3:=(0:Int)) (v4:=r21) (v5:=region) (v6:=[]) (v7:=(0:Int)) (h0:=⟨none,0,0⟩) (h1:=([]:List IfH)) (h2:=0) (h3:=⟨none,0,0⟩))) ?_
   obtain ⟨y29,hl27,hK28⟩ := zfw h
   refine zbv (X:=Nat × MirS) [13,14,15,16,55,56,57,58,59,60,61,62,63,64,65,66,67,68,69,70,71,72,73,74,75,76,77,78,79,80,81,82,83,84,85,86,87,88] (fun a32=>([(13,.int .i64 (((a32.1:Nat):Int)))]:Slots)) (fun a32 R=>MirP bs b23 a32.2::R) (fun a32=>y29=a32) (Dels.cons del0 Dels.nil) ?_ ?_
   ·
    refine zaw <| zbd (X:=Nat × MirS × Nat × Nat) [13,14,15,16,55,56,57,58,59,60,61,62,63,64,65,66,67,68,69,70,71,72,73,74,75,76,77,78,79,80,81,82,83,84,85,86,87,88] (fun ⟨n,x33,x34,x35⟩=>([(13,.int .i64 (((x34:Nat):Int))),(55,.int .i64 (((x35:Nat):Int)))]:Slots)) (fun ⟨n,x33,x34,x35⟩ R=>MirP bs b23 x33::R) (fun ⟨n,x33,x34,x35⟩=>zio legs staleLegs log region s n x33 x34 x35=some y29) (fun ⟨n,x33,x34,x35⟩=>n) ⟨FUEL,(⟨([]:List mlegS),none,true,(0:Int),r21,region,[],(0:Int)⟩:MirS),0,0⟩ ?_ ?_ eR ?_
    · exact hl27
    · exact ⟨rfl,rfl,True.intro⟩
    ·
     rintro ⟨n,x33,x34,x35⟩ h
     cases n with
     | zero=>exact zbq h
     | succ n => ?_
     replace h:zlz legs staleLegs log region s (zio legs staleLegs log region s n) x33 x34 x35=some y29 := h
     unfold zlz at h
     show CJ _ _ _ _ _ (([(13,.int .i64 (((x34:Nat):Int))),(55,.int .i64 (((x35:Nat):Int)))]:Slots) ++ forget _ _) (MirP bs b23 x33::_)
     refine sR <| oP (P_lss (a:=((x35:Nat):Int)) (b:=((legs.length:Nat):Int)) rfl rfl) rfl <| nT <| zac <| zan rfl zab (fun hg3 => ?_) (fun hg3 => ?_)
     ·
      replace h := ite_t hg3 h
      refine kT <| zac <| zaw <| sR <| oM rfl rfl <| oV (zay (i:=x35) rfl rfl rfl (by have hz:x35 < legs.length := (by omega); have hy := hdl2; omega) foc5 rlegs Tryz.runUnderlying92 Tryz.sizeOf96) rfl <| zbb (Ent.trans (t2_ eR) (Rs_at (fun _ _=>zhl) (dx:=dv0) (dh:=tyDev.dflt) (i:=x35) (by omega))) <| oV (za6 rfl rfl (by have hz:x35 < legs.length := (by omega); have hy := hdl2; omega) foc6 rlegs rfl rfl Tryz.isAgg96) rfl <| oA rfl rfl <| oA rfl rfl <| nT <| sR <| oM rfl rfl <| oP (zfn rfl (zu2 _ _)) rfl <| oO <| zes Tryz.zeroValue129 rfl rfl fun b37=>oO <| zfm rfl rfl foc0 Tryz.sizeOf129 rfl rfl rfl <| nT <| zac <| sR <| oM rfl rfl <| oM rfl rfl ?_
      obtain ⟨r38,hr39,h⟩ := zar h
      refine oO <| zat (zgu rstaleLegs hr39) rfl Tryz.call81 (Dels.cons del5 Dels.nil) rfl fun _ _=>nT ?_
      obtain ⟨y42,hl40,hK41⟩ := zfw h
      refine zbv (X:=Nat × Nat) [13,65,66,67] (fun a45=>([(13,.int .i64 (((a45.1:Nat):Int)))]:Slots)) (fun a45 R=>blk b37 129 [IfH.v (hslegs.getD x35 tyDev.dflt),.int .i64 (((a45.2:Nat):Int)),.int .i64 (0:Int)]::R) (fun a45=>y42=a45) (Dels.cons del1 Dels.nil) ?_ ?_
      ·
       have h := hl40
       refine zan rfl Iff.rfl (fun hg4 => ?_) (fun hg4 => ?_)
       ·
        replace h := ite_t hg4 h
        exact zaf <| oP (zaa rfl ⟨_,_,_,Tryz.runUnderlying129,rfl,rfl,Tryz.sizeOf117,rfl⟩) rfl <| oO <| zbu rfl rfl foc1 rfl rfl Tryz.sizeOf117 <| zap <| cR (x34,2) (Option.some.inj h).symm ⟨rfl,True.intro⟩ (t1_ eR)
       ·
        replace h := ite_f hg4 h
        refine zaf <| oM rfl rfl ?_
        obtain ⟨hg5,h⟩ := zfg h
        exact oP (PJ_eq (P_add (a:=((x34:Nat):Int)) (b:=(1:Int)) rfl rfl (zfh hg5)) rfl) rfl <| oA rfl rfl <| zap <| cR ((x34 + 1),0) (Option.some.inj h).symm ⟨rfl,True.intro⟩ (t1_ eR)
      ·
       rintro a45 hy46
       replace h := zd2 hK41 hy46
       show CJ _ _ _ _ _ (([(13,.int .i64 (((a45.1:Nat):Int)))]:Slots) ++ forget _ _) (blk b37 129 [IfH.v (hslegs.getD x35 tyDev.dflt),.int .i64 (((a45.2:Nat):Int)),.int .i64 (0:Int)]::_)
       refine zac <| zax (Ent.transX (t4_ eR) (zba (l:=x33))) fun oc47=>za1 (fun h hh=>za7 (zaq (del2 (A:=Rs (DevP bs) (x33.legs.map mlegS.dev) oc47.2.1)).out h hh)) fun hdl49=>lC del1 fun hlen50 => ?_
       rw [zai (by have := hdl49; simpa using this)] at hlen50
       refine lC del4 fun hlen51=>zbc 1152 (by kernel_rfl) rfl <| aN 0 1 rfl rfl (zaj rfl) rfl <| aN 1 3 rfl rfl (zaj rfl) rfl <| aN 2 7 rfl rfl (zae rfl) rfl <| aN 3 15 rfl rfl (zaa rfl ⟨_,_,_,Tryz.runUnderlying119,rfl,rfl,Tryz.sizeOf115,rfl⟩) rfl <| aV 4 31 rfl rfl (zak rfl) eR (zag rfl foc0 rfl Tryz.isAgg115) rfl <| aV 5 63 rfl rfl (zak rfl) eR (zhb rfl foc5 Tryz.isAgg129 Tryz.sizeOf129 rfl rfl) rfl <| AJ_op 6 127 rfl (by kernel_rfl) rfl (zak rfl) <| zbf rfl (ztg _ _ _ _) rfl fun b52=>⟨fun _=>(t1_ (t1_ (t1_ (t1_ (t1_ (t1_ (t1_ (t1_ (t1_ (t1_ (t1_ (t1_ (t1_ (eD eR)))))))))))))),?_⟩
       obtain ⟨hg6,h⟩ := zfo h
       refine AJ_op 7 255 rfl (by kernel_rfl) rfl (zak rfl) <| zc9 (t:=zdp) (bytes:=32) rfl rfl del2 foc0 (Reads.lit (t:=zdp) (ys:=[(⟨((hslegs.getD x35 tyDev.dflt):IfH),((a45.2:Nat):Int),(0:Int)⟩:mlegH)]) rfl rfl (by decide) (by decide) rfl) Tryz.underlying115 ztf (apl (m:=1) (b:=32) (show (zav x33.legs oc47.2.1).length + 1≤1000000000 by rw [zai (by have := hdl49; simpa using this)]; exact hg6) (by decide)).1 (apl (m:=1) (b:=32) (show (zav x33.legs oc47.2.1).length + 1≤1000000000 by rw [zai (by have := hdl49; simpa using this)]; exact hg6) (by decide)).2 rfl fun p54 c55=>⟨fun h=>absurd h (by decide),?_⟩
       refine zey (Ent.takeC (A' := sl zdp (.slice p54 (zav x33.legs oc47.2.1 ++ [(⟨((hslegs.getD x35 tyDev.dflt):IfH),((a45.2:Nat):Int),(0:Int)⟩:mlegH)]).length c55) (zav (x33.legs ++ [(⟨(legs.getD x35 dv0),((a45.2:Nat):Int),(0:Int)⟩:mlegS)]) (oc47.2.1 ++ [((hslegs.getD x35 tyDev.dflt):IfH)]))) del0 (congrArg (sl zdp _) (zqy (by have := hdl49; simpa using this) (⟨(legs.getD x35 dv0),((a45.2:Nat):Int),(0:Int)⟩:mlegS) ((hslegs.getD x35 tyDev.dflt):IfH))) eR) <| zey (Ent.trans (t3_ (t7_ eR)) (zpf (x:=(legs.getD x35 dv0)) (g:=((hslegs.getD x35 tyDev.dflt):IfH)) (fun _ _=>zhl))) <| zey (Ent.takeC (A' := Rs (DevP bs) (((x33.legs ++ [(⟨(legs.getD x35 dv0),((a45.2:Nat):Int),(0:Int)⟩:mlegS)])).map mlegS.dev) (oc47.2.1 ++ [((hslegs.getD x35 tyDev.dflt):IfH)])) del0 (congrArg (fun z=>Rs (DevP bs) z (oc47.2.1 ++ [((hslegs.getD x35 tyDev.dflt):IfH)])) (by simp)) eR) <| zh9 (fun h hh=>za7 (zaq (del0 (A:=Rs (DevP bs) ((((x33.legs ++ [(⟨(legs.getD x35 dv0),((a45.2:Nat):Int),(0:Int)⟩:mlegS)])).map mlegS.dev)) ((oc47.2.1 ++ [((hslegs.getD x35 tyDev.dflt):IfH)])))).out h hh)) fun hdl56=>aN 8 511 rfl rfl (zae rfl) rfl <| aN 9 1023 rfl rfl (zaa rfl ⟨_,_,_,Tryz.runUnderlying119,rfl,rfl,Tryz.sizeOf115,rfl⟩) rfl <| AJ_op 10 2047 rfl (by kernel_rfl) rfl (zak rfl) <| zbu rfl rfl foc4 rfl rfl Tryz.sizeOf115 ?_
       refine ⟨fun h=>absurd h (by decide),?_⟩
       refine zcd (by kernel_rfl) <| zas (Ent.trans (t4_ (t2_ (t0_ (t2_ (t2_ eR))))) (zbn (v0:=(x33.legs ++ [(⟨(legs.getD x35 dv0),((a45.2:Nat):Int),(0:Int)⟩:mlegS)])) (v1:=x33.log) (v2:=x33.hasLog) (v3:=x33.logState) (v4:=x33.size) (v5:=x33.region) (v6:=x33.dirty) (v7:=x33.copied) (h0:=⟨p54,(zav x33.legs oc47.2.1 ++ [(⟨((hslegs.getD x35 tyDev.dflt):IfH),((a45.2:Nat):Int),(0:Int)⟩:mlegH)]).length,c55⟩) (h1:=(oc47.2.1 ++ [((hslegs.getD x35 tyDev.dflt):IfH)])) (h2:=oc47.2.2.1) (h3:=oc47.2.2.2))) <| zas (t0_ (t0_ (t2_ (t2_ (t2_ (t2_ (t2_ (t2_ (eD (eD eR)))))))))) <| zam <| zax (Ent.transX (t0_ eR) (zba (l := { x33 with legs := (x33.legs ++ [(⟨(legs.getD x35 dv0),((a45.2:Nat):Int),(0:Int)⟩:mlegS)]) }))) fun oc57=>za1 (fun h hh=>za7 (zaq (del2 (A:=Rs (DevP bs) ((((x33.legs ++ [(⟨(legs.getD x35 dv0),((a45.2:Nat):Int),(0:Int)⟩:mlegS)])).map mlegS.dev)) oc57.2.1)).out h hh)) fun hdl59=>lC del1 fun hlen60 => ?_
       rw [zai (by have := hdl59; simpa using this)] at hlen60
       refine lC del4 fun hlen61=>zbc 1024 (by kernel_rfl) rfl <| aN 0 1 rfl rfl (zaj rfl) rfl <| aN 1 3 rfl rfl (zaj rfl) rfl <| aN 2 7 rfl rfl (zae rfl) rfl <| aN 3 15 rfl rfl (zaa rfl ⟨_,_,_,Tryz.runUnderlying119,rfl,rfl,Tryz.sizeOf3,rfl⟩) rfl <| aV 4 31 rfl rfl (zak rfl) eR (zag rfl foc0 rfl Tryz.isAgg3) rfl <| aN 5 63 rfl rfl (zaj rfl) rfl <| zh9 (fun h hh=>zd3 h (zaq (del5 (A:=DevP bs (legs.getD x35 dv0) (hslegs.getD x35 tyDev.dflt))).out h hh)) fun hdp62 => ?_
       obtain ⟨r63,hr64,h⟩ := zar h
       refine AJ_op 6 127 rfl (by kernel_rfl) rfl (zak rfl) <| zc8 rfl (zlx hr64 hdp62) rfl (Dels.cons del5 (Dels.cons del7 Dels.nil)) rfl fun _ _=>⟨fun _=>(t2_ (t2_ (t2_ (t2_ (t2_ (t0_ (t1_ (t1_ eR)))))))),?_⟩
       refine aN 7 255 rfl rfl (P_min (a:=x33.size) (b:=r63) rfl rfl) rfl <| aN 8 511 rfl rfl (zae rfl) rfl <| aN 9 1023 rfl rfl (zaa rfl ⟨_,_,_,Tryz.runUnderlying119,rfl,rfl,Tryz.sizeOf3,rfl⟩) rfl <| AJ_op 10 2047 rfl (by kernel_rfl) rfl (zak rfl) <| zbu rfl rfl foc2 rfl rfl Tryz.sizeOf3 <| ⟨fun h=>absurd h (by decide),?_⟩
       exact zcd (by kernel_rfl) <| zas (Ent.trans (t2_ (t2_ (t2_ (t2_ (t2_ eR))))) (zbn (v0:=(x33.legs ++ [(⟨(legs.getD x35 dv0),((a45.2:Nat):Int),(0:Int)⟩:mlegS)])) (v1:=x33.log) (v2:=x33.hasLog) (v3:=x33.logState) (v4:=(min x33.size r63)) (v5:=x33.region) (v6:=x33.dirty) (v7:=x33.copied) (h0:=oc57.1) (h1:=oc57.2.1) (h2:=oc57.2.2.1) (h3:=oc57.2.2.2))) <| zao <| zas (t0_ (t1_ (t1_ (t1_ (t1_ (t1_ (t1_ (eD eR)))))))) <| zam <| zaf <| oP (PJ_eq (P_add (a:=((x35:Nat):Int)) (b:=(1:Int)) rfl rfl (by omega)) rfl) rfl <| oM rfl rfl <| zap <| nR ⟨n,(⟨(x33.legs ++ [(⟨(legs.getD x35 dv0),((a45.2:Nat):Int),(0:Int)⟩:mlegS)]),x33.log,x33.hasLog,x33.logState,(min x33.size r63),x33.region,x33.dirty,x33.copied⟩:MirS),a45.1,(x35 + 1)⟩ h ⟨rfl,rfl,True.intro⟩ (t0_ (t0_ (t1_ eR)))
     ·
      replace h := ite_f hg3 h
      exact zbj <| za3 <| za2 <| za0 <| cR (x34,x33) (Option.some.inj h).symm ⟨rfl,True.intro⟩ eR
   ·
    rintro a32 hy65
    replace h := zd2 hK28 hy65
    show CJ _ _ _ _ _ (([(13,.int .i64 (((a32.1:Nat):Int)))]:Slots) ++ forget _ _) (MirP bs b23 a32.2::_)
    refine zac <| sR <| oM rfl rfl <| oP (P_eql (a:=((a32.1:Nat):Int)) (b:=(0:Int)) rfl rfl) rfl <| nT <| zan rfl zab (fun hg7 => ?_) (fun hg7 => ?_)
    ·
     replace h := ite_t hg7 h
     refine sR <| oA rfl rfl <| oA rfl rfl <| zap <| zas (t1_ (t1_ (t1_ (t2_ (t2_ (eD (eD eR))))))) <| zam <| zah <| zad ?_
     cases h
     exact fE (res2 Tryz.results52 rfl rfl) 0 (t3_ (t1_ (t1_ (t1_ (t0_ (Ent.trans (fun h hh=>zb8 h hh) <| t0_ eR))))))
    ·
     replace h := ite_f hg7 h
     refine kT <| zac <| zax (Ent.transX (t0_ eR) (zba (l:=a32.2))) fun oc66=>za1 (fun h hh=>za7 (zaq (del2 (A:=Rs (DevP bs) (a32.2.legs.map mlegS.dev) oc66.2.1)).out h hh)) fun hdl68=>lC del1 fun hlen69 => ?_
     rw [zai (by have := hdl68; simpa using this)] at hlen69
     refine lC del4 fun hlen70=>zaf <| oM rfl rfl <| oM rfl rfl <| oP (zae rfl) rfl <| oP (zaa rfl ⟨_,_,_,Tryz.runUnderlying119,rfl,rfl,Tryz.sizeOf3,rfl⟩) rfl <| oV (zag rfl foc0 rfl Tryz.isAgg3) rfl <| oM rfl rfl ?_
     obtain ⟨r71,hr72,h⟩ := zar h
     refine oO <| zat (zly hr72) rfl Tryz.call42 Dels.nil rfl fun _ _ => ?_
     obtain ⟨hg8,h⟩ := zbt h
     refine oO <| zkp (t:=tyB) (m:=(r71).toNat) (x0:=false) (z:=_) (bytes:=_) rfl rfl (Int.toNat_of_nonneg (hg8.1)).symm (Int.toNat_of_nonneg (hg8.1)).symm Tryz.underlying34 ⟨Tryz.t4,by kernel_rfl,rfl,rfl,rfl⟩ rfl (by omega) (by decide) rfl fun b73=>oP (zae rfl) rfl <| oP (zaa rfl ⟨_,_,_,Tryz.runUnderlying119,rfl,rfl,Tryz.sizeOf34,rfl⟩) rfl <| oO <| zbu rfl rfl foc1 rfl rfl Tryz.sizeOf34 <| zap <| zas (Ent.trans (t1_ (t1_ (t1_ (t1_ eR)))) (zbn (v0:=a32.2.legs) (v1:=a32.2.log) (v2:=a32.2.hasLog) (v3:=a32.2.logState) (v4:=a32.2.size) (v5:=a32.2.region) (v6:=(List.replicate ((r71).toNat) false)) (v7:=a32.2.copied) (h0:=oc66.1) (h1:=oc66.2.1) (h2:=oc66.2.2.1) (h3:=⟨some ⟨b73,0,none⟩,(r71).toNat,(r71).toNat⟩))) <| zas (t0_ (t1_ (t1_ (t1_ (t1_ (t1_ (t1_ (eD eR)))))))) <| zam <| zac <| sR <| oM rfl rfl <| oV (zag rfl foc4 rfl Tryz.isAgg3) rfl ?_
     obtain ⟨r74,hr75,h⟩ := zar h
     refine oO <| zat (zgu rstaleLegs hr75) rfl Tryz.call81 (Dels.cons del3 Dels.nil) rfl fun _ _=>oM rfl rfl <| zaz rfl rfl rfl (fun hG76=>have hP77:¬ r74=true := nP (Iff.rfl) hG76; VJ_P (zaj rfl)) <| zaz rfl rfl rfl (fun hG78=>have hP79:¬ r74=true := nP (Iff.rfl) hG78; VJ_P (zae (mbx hG78 rfl))) <| zaz rfl rfl rfl (fun hG80=>have hP81:¬ r74=true := nP (Iff.rfl) hG80; VJ_P (zaa (mbx hG80 rfl) ⟨_,_,_,Tryz.runUnderlying119,rfl,rfl,Tryz.sizeOf4,rfl⟩)) <| zaz rfl rfl rfl (fun hG82=>have hP83:¬ r74=true := nP (Iff.rfl) hG82; zil (Ent.transX (t1_ eR) (zba (l := { a32.2 with dirty := (List.replicate ((r71).toNat) false) }))) (fun _=>zag (mbx hG82 rfl) foc0 rfl Tryz.isAgg4)) <| zaz rfl rfl rfl (fun hG84=>have hP85:¬ r74=true := nP (Iff.rfl) hG84; VJ_P (P_not (mbx hG84 rfl))) <| oP (zcw rfl rfl (fun hh=>mbx (not_f hh) rfl)) rfl <| zap <| zas (t0_ (t0_ (t0_ (t0_ (t1_ (t1_ (eD eR))))))) <| zam <| zan rfl (bT_or Iff.rfl (zdk Iff.rfl)) (fun hg9 => ?_) (fun hg9 => ?_)
     ·
      replace h := ite_t hg9 h
      refine zac <| zax (Ent.transX (t1_ eR) (zba (l := { a32.2 with dirty := (List.replicate ((r71).toNat) false) }))) fun oc86=>za1 (fun h hh=>za7 (zaq (del2 (A:=Rs (DevP bs) (a32.2.legs.map mlegS.dev) oc86.2.1)).out h hh)) fun hdl88=>lC del1 fun hlen89 => ?_
      rw [zai (by have := hdl88; simpa using this)] at hlen89
      refine lC del4 fun hlen90=>zaf <| oM rfl rfl <| oP (zae rfl) rfl <| oP (zaa rfl ⟨_,_,_,Tryz.runUnderlying119,rfl,rfl,Tryz.sizeOf117,rfl⟩) rfl <| oO <| zbu rfl rfl foc0 rfl rfl Tryz.sizeOf117 <| zap <| zas (Ent.trans eR (zbn (v0:=a32.2.legs) (v1:=a32.2.log) (v2:=a32.2.hasLog) (v3:=(2:Int)) (v4:=a32.2.size) (v5:=a32.2.region) (v6:=(List.replicate ((r71).toNat) false)) (v7:=a32.2.copied) (h0:=oc86.1) (h1:=oc86.2.1) (h2:=oc86.2.2.1) (h3:=oc86.2.2.2))) <| zam <| zac <| zac <| zax (Ent.transX (t0_ eR) (zba (l:=(⟨a32.2.legs,a32.2.log,a32.2.hasLog,(2:Int),a32.2.size,a32.2.region,(List.replicate ((r71).toNat) false),a32.2.copied⟩:MirS)))) fun oc91=>za1 (fun h hh=>za7 (zaq (del2 (A:=Rs (DevP bs) (a32.2.legs.map mlegS.dev) oc91.2.1)).out h hh)) fun hdl93=>lC del1 fun hlen94 => ?_
      rw [zai (by have := hdl93; simpa using this)] at hlen94
      refine lC del4 fun hlen95=>zaf <| oM rfl rfl <| oP (zae rfl) rfl <| oP (zaa rfl ⟨_,_,_,Tryz.runUnderlying119,rfl,rfl,Tryz.sizeOf34,rfl⟩) rfl <| oV (zag rfl foc0 rfl Tryz.isAgg34) rfl <| oV (V_len rfl foc4 (Reads.sl _ _ _) Tryz.runUnderlying34) rfl <| oM rfl rfl <| zap <| zas (Ent.trans eR (zbn (v0:=a32.2.legs) (v1:=a32.2.log) (v2:=a32.2.hasLog) (v3:=(2:Int)) (v4:=a32.2.size) (v5:=a32.2.region) (v6:=(List.replicate ((r71).toNat) false)) (v7:=a32.2.copied) (h0:=oc91.1) (h1:=oc91.2.1) (h2:=oc91.2.2.1) (h3:=oc91.2.2.2))) <| zam ?_
      obtain ⟨y98,hl96,hK97⟩ := zfw h
      refine zbv (X:=MirS) [17,119,120,121,122,123,124,125,126,127,128] (fun a100=>([]:Slots)) (fun a100 R=>MirP bs b23 a100::R) (fun a100=>y98=a100) (Dels.cons del0 Dels.nil) ?_ ?_
      ·
       refine zaw <| zbd (X:=Nat × MirS × Nat) [17,119,120,121,122,123,124,125,126,127,128] (fun ⟨n,x101,x102⟩=>([(119,.int .i64 (((x102:Nat):Int)))]:Slots)) (fun ⟨n,x101,x102⟩ R=>MirP bs b23 x101::R) (fun ⟨n,x101,x102⟩=>zj6 r71 n x101 x102=some y98) (fun ⟨n,x101,x102⟩=>n) ⟨FUEL,(⟨a32.2.legs,a32.2.log,a32.2.hasLog,(2:Int),a32.2.size,a32.2.region,(List.replicate ((r71).toNat) false),a32.2.copied⟩:MirS),0⟩ ?_ ?_ eR ?_
       · exact hl96
       · exact ⟨rfl,True.intro⟩
       ·
        rintro ⟨n,x101,x102⟩ h
        cases n with
        | zero=>exact zbq h
        | succ n => ?_
        replace h:zl0 r71 (zj6 r71 n) x101 x102=some y98 := h
        unfold zl0 at h
        show CJ _ _ _ _ _ (([(119,.int .i64 (((x102:Nat):Int)))]:Slots) ++ forget _ _) (MirP bs b23 x101::_)
        refine sR <| oP (P_lss (a:=((x102:Nat):Int)) (b:=((((List.replicate ((r71).toNat) false)).length:Nat):Int)) rfl rfl) rfl <| nT <| zac <| zan rfl zab (fun hg10 => ?_) (fun hg10 => ?_)
        ·
         replace h := ite_t hg10 h
         refine kT <| zac <| zaw <| sR <| oM rfl rfl <| oA rfl rfl <| nT <| zax (Ent.transX (t0_ eR) (zba (l:=x101))) fun oc103=>za1 (fun h hh=>za7 (zaq (del2 (A:=Rs (DevP bs) (x101.legs.map mlegS.dev) oc103.2.1)).out h hh)) fun hdl105=>lC del1 fun hlen106 => ?_
         rw [zai (by have := hdl105; simpa using this)] at hlen106
         refine lC del4 fun hlen107=>zaf <| oM rfl rfl <| oP (zae rfl) rfl <| oP (zaa rfl ⟨_,_,_,Tryz.runUnderlying119,rfl,rfl,Tryz.sizeOf34,rfl⟩) rfl <| oV (zag rfl foc0 rfl Tryz.isAgg34) rfl <| oM rfl rfl ?_
         obtain ⟨hg11,h⟩ := zbt h
         refine oV (zay (i:=x102) rfl rfl rfl hg11 foc4 (Reads.sl _ _ _) Tryz.runUnderlying34 Tryz.sizeOf4) rfl <| oO <| zea (x' := true) rfl rfl rfl hg11 foc4 rfl rfl rfl Tryz.sizeOf4 <| zap <| zas (Ent.trans eR (zbn (v0:=x101.legs) (v1:=x101.log) (v2:=x101.hasLog) (v3:=x101.logState) (v4:=x101.size) (v5:=x101.region) (v6:=(x101.dirty.set x102 true)) (v7:=x101.copied) (h0:=oc103.1) (h1:=oc103.2.1) (h2:=oc103.2.2.1) (h3:=oc103.2.2.2))) <| zao <| zam <| zaf ?_
         obtain ⟨hg12,h⟩ := zfg h
         exact oP (PJ_eq (P_add (a:=((x102:Nat):Int)) (b:=(1:Int)) rfl rfl (zfh hg12)) rfl) rfl <| oM rfl rfl <| zap <| nR ⟨n, { x101 with dirty := (x101.dirty.set x102 true) },(x102 + 1)⟩ h ⟨rfl,True.intro⟩ eR
        ·
         replace h := ite_f hg10 h
         exact zbj <| za3 <| za2 <| za0 <| cR x101 (Option.some.inj h).symm True.intro eR
      ·
       rintro a100 hy108
       replace h := zd2 hK97 hy108
       show CJ _ _ _ _ _ (([]:Slots) ++ forget _ _) (MirP bs b23 a100::_)
       refine sR <| oM rfl rfl <| oA rfl rfl <| oA rfl rfl <| nT <| zah <| zad ?_
       cases h
       exact fE (res2 Tryz.results52 rfl rfl) b23 (t4_ (t3_ (t1_ (t2_ (t1_ eR)))))
     ·
      replace h := ite_f hg9 h
      refine kT <| zac <| zax (Ent.transX (t1_ eR) (zba (l := { a32.2 with dirty := (List.replicate ((r71).toNat) false) }))) fun oc109=>za1 (fun h hh=>za7 (zaq (del2 (A:=Rs (DevP bs) (a32.2.legs.map mlegS.dev) oc109.2.1)).out h hh)) fun hdl111=>lC del1 fun hlen112 => ?_
      rw [zai (by have := hdl111; simpa using this)] at hlen112
      refine lC del4 fun hlen113=>zaf <| oM rfl rfl <| oM rfl rfl <| oP (zae rfl) rfl <| oP (zaa rfl ⟨_,_,_,Tryz.runUnderlying119,rfl,rfl,Tryz.sizeOf34,rfl⟩) rfl <| oV (zag rfl foc0 rfl Tryz.isAgg34) rfl <| oV (V_len rfl foc4 (Reads.sl _ _ _) Tryz.runUnderlying34) rfl ?_
      obtain ⟨r114,hr115,h⟩ := zar h
      refine oO <| zat (zsh hr115) rfl Tryz.call94 (Dels.cons del9 (Dels.cons del6 Dels.nil)) rfl fun X116 _=>oM rfl rfl <| oP (za4 rfl rfl) rfl <| oP (za4 rfl rfl) rfl <| oA rfl rfl <| oA rfl rfl <| zap <| zas (Ent.trans (t3_ (t3_ (t3_ (t3_ (t3_ eR))))) (zbn (v0:=a32.2.legs) (v1:=a32.2.log) (v2:=a32.2.hasLog) (v3:=a32.2.logState) (v4:=a32.2.size) (v5:=a32.2.region) (v6:=(List.replicate ((r71).toNat) false)) (v7:=a32.2.copied) (h0:=oc109.1) (h1:=oc109.2.1) (h2:=oc109.2.2.1) (h3:=oc109.2.2.2))) <| zam <| zac <| sR <| oM rfl rfl <| oP (P_neq (a:=r114.2) (b:=(0:Int)) rfl rfl) rfl <| oM rfl rfl <| zbk rfl rfl rfl (fun hG118=>have hP119:(r114.2≠(0:Int)) := (zab).1 hG118; VJ_P (zaj rfl)) <| zbk rfl rfl rfl (fun hG120=>have hP121:(r114.2≠(0:Int)) := (zab).1 hG120; VJ_P (P_neq (a:=r114.2) (b:=(5:Int)) (mbx hG120 rfl) rfl)) <| oP (zd1 rfl (fun hh=>mbx hh rfl) rfl) rfl <| nT <| zan rfl (zc3 zab zab) (fun hg13 => ?_) (fun hg13 => ?_)
      ·
       replace h := ite_t hg13 h
       refine sR <| oA rfl rfl <| oA rfl rfl <| zap <| zas (t1_ (t1_ (t2_ (t2_ (t2_ (eD (eD eR))))))) <| zam <| zah <| zad ?_
       cases h
       exact fE (res2 Tryz.results52 rfl rfl) 0 (t4_ (t3_ (t2_ (t0_ (t0_ (Ent.trans (fun h hh=>zb8 h hh) <| t0_ eR))))))
      ·
       replace h := ite_f hg13 h
       refine kT <| zac <| sR <| oM rfl rfl <| oP (P_neq (a:=r114.2) (b:=(0:Int)) rfl rfl) rfl <| nT <| zan rfl zab (fun hg14 => ?_) (fun hg14 => ?_)
       ·
        replace h := ite_t hg14 h
        refine sR <| oM rfl rfl <| oA rfl rfl <| oA rfl rfl <| zap <| zas (t1_ (t1_ (t2_ (t2_ (t2_ (eD (eD eR))))))) <| zam <| zah <| zad ?_
        cases h
        exact fE (res2 Tryz.results52 rfl rfl) 0 (t4_ (t3_ (t2_ (t0_ (t0_ (Ent.trans (fun h hh=>zb8 h hh) <| t0_ eR))))))
       ·
        replace h := ite_f hg14 h
        refine kT <| zac <| zax (Ent.transX (t0_ eR) (zba (l := { a32.2 with dirty := (List.replicate ((r71).toNat) false) }))) fun oc122=>za1 (fun h hh=>za7 (zaq (del2 (A:=Rs (DevP bs) (a32.2.legs.map mlegS.dev) oc122.2.1)).out h hh)) fun hdl124=>lC del1 fun hlen125 => ?_
        rw [zai (by have := hdl124; simpa using this)] at hlen125
        refine lC del4 fun hlen126=>zaf <| oM rfl rfl <| oM rfl rfl <| oP (zae rfl) rfl <| oP (zaa rfl ⟨_,_,_,Tryz.runUnderlying119,rfl,rfl,Tryz.sizeOf116,rfl⟩) rfl <| oO <| zbu rfl rfl foc0 rfl zmh Tryz.sizeOf116 <| zap <| zas (t0_ (t0_ (t0_ (t1_ (t1_ (t1_ (t1_ (t1_ (t1_ (t1_ (eD eR))))))))))) <| zam <| zac <| sR <| oM rfl rfl ?_
        rcases opt_e h with ⟨ht127,h⟩ | ⟨o128,ht127,h⟩
        ·
         rw [ht127]
         exact zbb (t0_ (t0_ (t0_ (t0_ (t0_ (t0_ (t1_ (t1_ (t1_ (eD eR)))))))))) <| zbq h
        ·
         rw [ht127]
         refine zbb (Ent.takeC (A' := LogP bs X116 o128) del6 rfl eR) ?_
         obtain ⟨r129,hr130,h⟩ := zar h
         refine oO <| zat (zl5 hr130) rfl Tryz.call75 (Dels.cons del0 (Dels.cons del5 Dels.nil)) rfl fun X131 _=>oV (V_len rfl foc2 (Reads.sl _ _ _) Tryz.runUnderlying45) rfl <| oM rfl rfl <| nT <| zde (Ent.trans (t3_ (t3_ (t3_ (t0_ (t2_ eR))))) (zbn (v0:=a32.2.legs) (v1:=(some o128)) (v2:=a32.2.hasLog) (v3:=a32.2.logState) (v4:=a32.2.size) (v5:=a32.2.region) (v6:=(List.replicate ((r71).toNat) false)) (v7:=a32.2.copied) (h0:=oc122.1) (h1:=oc122.2.1) (h2:=X116) (h3:=oc122.2.2.2))) ?_
         obtain ⟨y135,hl133,hK134⟩ := zfw h
         refine zbv (X:=MirS) [21,156,157,158,159,160,161,162,163,164,165,166] (fun a137=>([]:Slots)) (fun a137 R=>MirP bs b23 a137::R) (fun a137=>y135=a137) (Dels.cons del0 Dels.nil) ?_ ?_
         ·
          refine zaw <| zbd (X:=Nat × MirS × Nat) [21,156,157,158,159,160,161,162,163,164,165,166] (fun ⟨n,x138,x139⟩=>([(156,.int .i64 (((x139:Nat):Int)))]:Slots)) (fun ⟨n,x138,x139⟩ R=>MirP bs b23 x138::R) (fun ⟨n,x138,x139⟩=>zip r129 n x138 x139=some y135) (fun ⟨n,x138,x139⟩=>n) ⟨FUEL,(⟨a32.2.legs,(some o128),a32.2.hasLog,a32.2.logState,a32.2.size,a32.2.region,(List.replicate ((r71).toNat) false),a32.2.copied⟩:MirS),0⟩ ?_ ?_ eR ?_
          · exact hl133
          · exact ⟨rfl,True.intro⟩
          ·
           rintro ⟨n,x138,x139⟩ h
           cases n with
           | zero=>exact zbq h
           | succ n => ?_
           replace h:zja r129 (zip r129 n) x138 x139=some y135 := h
           unfold zja at h
           show CJ _ _ _ _ _ (([(156,.int .i64 (((x139:Nat):Int)))]:Slots) ++ forget _ _) (MirP bs b23 x138::_)
           refine sR <| oP (P_lss (a:=((x139:Nat):Int)) (b:=((r129.length:Nat):Int)) rfl rfl) rfl <| nT <| zac <| zan rfl zab (fun hg15 => ?_) (fun hg15 => ?_)
           ·
            replace h := ite_t hg15 h
            refine kT <| zac <| zaw <| sR <| oV (zay (i:=x139) rfl rfl rfl (by omega) foc2 (Reads.sl _ _ _) Tryz.runUnderlying45 Tryz.sizeOf3) rfl <| oV (za6 rfl rfl (by omega) foc2 (Reads.sl _ _ _) rfl rfl Tryz.isAgg3) rfl <| oA rfl rfl <| nT <| zax (Ent.transX (t0_ eR) (zba (l:=x138))) fun oc140=>za1 (fun h hh=>za7 (zaq (del2 (A:=Rs (DevP bs) (x138.legs.map mlegS.dev) oc140.2.1)).out h hh)) fun hdl142=>lC del1 fun hlen143 => ?_
            rw [zai (by have := hdl142; simpa using this)] at hlen143
            refine lC del4 fun hlen144=>zaf <| oM rfl rfl <| oP (zae rfl) rfl <| oP (zaa rfl ⟨_,_,_,Tryz.runUnderlying119,rfl,rfl,Tryz.sizeOf34,rfl⟩) rfl <| oV (zag rfl foc0 rfl Tryz.isAgg34) rfl <| oM rfl rfl ?_
            obtain ⟨hg16,h⟩ := zbt h
            refine oV (zay (i:=((r129.getD x139 0)).toNat) rfl rfl (Int.toNat_of_nonneg (hg16.1)).symm (by omega) foc4 (Reads.sl _ _ _) Tryz.runUnderlying34 Tryz.sizeOf4) rfl <| oO <| zea (x' := true) rfl rfl rfl (by omega) foc4 rfl rfl rfl Tryz.sizeOf4 <| zap <| zas (Ent.trans eR (zbn (v0:=x138.legs) (v1:=x138.log) (v2:=x138.hasLog) (v3:=x138.logState) (v4:=x138.size) (v5:=x138.region) (v6:=(x138.dirty.set (((r129.getD x139 0)).toNat) true)) (v7:=x138.copied) (h0:=oc140.1) (h1:=oc140.2.1) (h2:=oc140.2.2.1) (h3:=oc140.2.2.2))) <| zao <| zam <| zaf ?_
            obtain ⟨hg17,h⟩ := zfg h
            exact oP (PJ_eq (P_add (a:=((x139:Nat):Int)) (b:=(1:Int)) rfl rfl (zfh hg17)) rfl) rfl <| oM rfl rfl <| zap <| nR ⟨n, { x138 with dirty := (x138.dirty.set (((r129.getD x139 0)).toNat) true) },(x139 + 1)⟩ h ⟨rfl,True.intro⟩ eR
           ·
            replace h := ite_f hg15 h
            exact zbj <| za3 <| za2 <| za0 <| cR x138 (Option.some.inj h).symm True.intro eR
         ·
          rintro a137 hy145
          replace h := zd2 hK134 hy145
          show CJ _ _ _ _ _ (([]:Slots) ++ forget _ _) (MirP bs b23 a137::_)
          refine sR <| oM rfl rfl <| oA rfl rfl <| oA rfl rfl <| zap <| zas (t0_ (t0_ (t1_ (t1_ (t1_ (t1_ (eD eR))))))) <| zam <| zah ?_
          cases h
          exact fE (res2 Tryz.results52 rfl rfl) b23 (t5_ (t4_ (t3_ (t2_ (t1_ eR)))))
end Go.Proofs
set_option linter.unusedSimpArgs false
set_option linter.unusedVariables false
set_option maxRecDepth 20000
set_option maxHeartbeats 4000000
namespace Go.Proofs
open Go.VG
def zg1 (m:MirS) (s:ArrS):Option (Int) :=
  some m.size
theorem zmj {W:World} {bm:Nat} {bs:Nat} {m:MirS} {s:ArrS} {r:Int} (h:zg1 m s=some r) :
    CSpec Tryz.prog W 135 [ptr bm 0] [MirP bs bm m,Arr bs s] (fun x:Unit => .int .i64 r) (fun _=>True) (fun x F=>MirP bs bm m::Arr bs s::F) := by
 refine CSpec.of_body Tryz.func135 rfl Tryz.ntmps135 rfl fun F => ?_
 show CJ _ _ _ _ _ _ (_::_::F)
 unfold zg1 at h
 refine sR <| oA rfl rfl <| nT <| sR <| oM rfl rfl <| oP (zae rfl) rfl <| oP (zaa rfl ⟨_,_,_,Tryz.runUnderlying119,rfl,rfl,Tryz.sizeOf3,rfl⟩) rfl <| oV (zil (Ent.transX (t0_ eR) (zba (l:=m))) (fun _=>zag rfl foc0 rfl Tryz.isAgg3)) rfl <| oA rfl rfl <| nT <| zah ?_
 cases h
 exact fE (res1 Tryz.results135 rfl) () eR
def zgp (m:MirS) (rec:Nat→(List Int)→Option ((List Int))) (x13:Nat) (x14:List Int):Option ((List Int)) :=
  if (((x13:Nat):Int) < ((m.legs.length:Nat):Int)) then
    if ((m.legs.getD x13 mleg_x0).state=(1:Int)) then
      grd (inLen (x14.length + 1)) <|
      rec (x13 + 1) ((x14 ++ [((x13:Nat):Int)]))
    else
      rec (x13 + 1) x14
  else
    some x14
def zhg (m:MirS):Nat→Nat→(List Int)→Option ((List Int))
  | 0,_,_=>none
  | n + 1,x13,x14=>zgp m (zhg m n) x13 x14
def zf3 (m:MirS) (s:ArrS):Option ((List Int)) :=
  Option.bind (zhg m FUEL 0 ([])) fun a12 =>
  if (m.hasLog=true∧(m.logState=(1:Int))) then
    grd (inLen (a12.length + 1)) <|
    some ((a12 ++ [((m.legs.length:Nat):Int)]))
  else
    some a12
def MirQ (a:Nat) (vl:Sl3) (b:Nat) (l:MirS):HP := ex fun h:(List IfH) × Nat × Sl3=>star [blk b 119 [(Sl3.v vl),oval l.log h.2.1,.bool l.hasLog,.int .i64 l.logState,.int .i64 l.size,.int .i64 l.region,(Sl3.v h.2.2),.int .i64 l.copied],sl zdp (Sl3.v vl) (zav l.legs h.1),Rs (DevP a) (l.legs.map mlegS.dev) h.1,optP (LogP a h.2.1) l.log,sl tyB (Sl3.v h.2.2) l.dirty]
theorem zdq {a b:Nat} {vl:Sl3} {v0:List mlegS} {v1:Option LogS} {v2:Bool} {v3:Int} {v4:Int} {v5:Int} {v6:List Bool} {v7:Int} {h0:List IfH} {h1:Nat} {h2:Sl3} {R:List HP} : Ent (blk b 119 [(Sl3.v vl),oval v1 h1,.bool v2,.int .i64 v3,.int .i64 v4,.int .i64 v5,(Sl3.v h2),.int .i64 v7]::sl zdp (Sl3.v vl) (zav v0 h0)::Rs (DevP a) (v0.map mlegS.dev) h0::optP (LogP a h1) v1::sl tyB (Sl3.v h2) v6::R) (MirQ a vl b ⟨v0,v1,v2,v3,v4,v5,v6,v7⟩::R) :=
  fun _ hh=>stars_ex.2 ⟨(h0,h1,h2),stars_star.2 hh⟩
theorem zcx {a b:Nat} {vl:Sl3} {l:MirS} {R:List HP} : EntX (MirQ a vl b l::R) fun h:(List IfH) × Nat × Sl3=>blk b 119 [(Sl3.v vl),oval l.log h.2.1,.bool l.hasLog,.int .i64 l.logState,.int .i64 l.size,.int .i64 l.region,(Sl3.v h.2.2),.int .i64 l.copied]::sl zdp (Sl3.v vl) (zav l.legs h.1)::Rs (DevP a) (l.legs.map mlegS.dev) h.1::optP (LogP a h.2.1) l.log::sl tyB (Sl3.v h.2.2) l.dirty::R :=
  fun _ hh=>let ⟨c,hc⟩ := stars_ex.1 hh; ⟨c,stars_star.1 hc⟩
theorem zlj {W:World} {bm:Nat} {vlm:Sl3} {bs:Nat} {m:MirS} {s:ArrS} {r:(List Int)} (h:zf3 m s=some r) :
    CSpec Tryz.prog W 97 [ptr bm 0] [MirQ bs vlm bm m,Arr bs s] (fun x:Sl3=>x.v) (fun _=>True) (fun x F=>MirQ bs vlm bm m::Arr bs s::sl tyI x.v r::F) := by
 refine CSpec.of_body Tryz.func97 rfl Tryz.ntmps97 rfl fun F => ?_
 show CJ _ _ _ _ _ _ (_::_::F)
 unfold zf3 at h
 refine sR <| oA rfl rfl <| nT <| sR <| oA rfl rfl <| nT <| zac <| zac <| zax (Ent.transX (t0_ eR) (zcx (l:=m))) fun oc1=>za1 (fun h hh=>za7 (zaq (del2 (A:=Rs (DevP bs) (m.legs.map mlegS.dev) oc1.1)).out h hh)) fun hdl3=>lC del1 fun hlen4 => ?_
 rw [zai (by have := hdl3; simpa using this)] at hlen4
 refine lC del4 fun hlen5=>zaf <| oM rfl rfl <| oP (zae rfl) rfl <| oP (zaa rfl ⟨_,_,_,Tryz.runUnderlying119,rfl,rfl,Tryz.sizeOf115,rfl⟩) rfl <| oV (zag rfl foc0 rfl Tryz.isAgg115) rfl <| oV (VJ_eq (V_len rfl foc1 (Reads.sl _ _ _) Tryz.runUnderlying115) (congrArg (fun z:Nat=>Value.int .i64 (z:Int)) (zai (by have := hdl3; simpa using this)).symm)) rfl <| oM rfl rfl <| nT <| zde (fun h hh=>zdj (t:=tyI) h hh) ?_
 obtain ⟨y9,hl7,hK8⟩ := zfw h
 refine zbv (X:=(List Int) × Sl3) [3,4,5,11,12,13,14,15,16,17,18,19,20,21,22,23] (fun ⟨a12,hd11⟩=>([(3,hd11.v)]:Slots)) (fun ⟨a12,hd11⟩ R=>sl tyI hd11.v a12::R) (fun ⟨a12,hd11⟩=>y9=a12) (Dels.cons del0 Dels.nil) ?_ ?_
 ·
  refine zaw <| zbd (X:=Nat × Nat × (List Int) × Sl3) [3,4,5,11,12,13,14,15,16,17,18,19,20,21,22,23] (fun ⟨n,x13,x14,hd15⟩=>([(3,hd15.v),(11,.int .i64 (((x13:Nat):Int)))]:Slots)) (fun ⟨n,x13,x14,hd15⟩ R=>sl tyI hd15.v x14::R) (fun ⟨n,x13,x14,hd15⟩=>zhg m n x13 x14=some y9) (fun ⟨n,x13,x14,hd15⟩=>n) ⟨FUEL,0,[],⟨none,0,0⟩⟩ ?_ ?_ eR ?_
  · exact hl7
  · exact ⟨rfl,rfl,True.intro⟩
  ·
   rintro ⟨n,x13,x14,hd15⟩ h
   cases n with
   | zero=>exact zbq h
   | succ n => ?_
   replace h:zgp m (zhg m n) x13 x14=some y9 := h
   unfold zgp at h
   show CJ _ _ _ _ _ (([(3,hd15.v),(11,.int .i64 (((x13:Nat):Int)))]:Slots) ++ forget _ _) (sl tyI hd15.v x14::_)
   refine lC del0 fun hlen16=>sR <| oP (P_lss (a:=((x13:Nat):Int)) (b:=((m.legs.length:Nat):Int)) rfl rfl) rfl <| nT <| zac <| zan rfl zab (fun hg1 => ?_) (fun hg1 => ?_)
   ·
    replace h := ite_t hg1 h
    refine kT <| zac <| zaw <| sR <| oM rfl rfl <| oV (zay (i:=x13) rfl rfl rfl (show x13 < (zav m.legs oc1.1).length by rw [zai (by have := hdl3; simpa using this)]; exact (by omega)) foc2 (Reads.sl _ _ _) Tryz.runUnderlying115 Tryz.sizeOf129) rfl <| zbb (Ent.trans (t3_ eR) (zfk (i:=x13) (by omega))) <| oV (VJ_eq (zh1 rfl rfl (show x13 < (zav m.legs oc1.1).length by rw [zai (by have := hdl3; simpa using this)]; exact (by omega)) foc4 (Reads.sl _ _ _) rfl rfl Tryz.isAgg129 Tryz.sizeOf129) (show Value.agg #[IfH.v (oc1.1.getD x13 tyDev.dflt),.int .i64 ((m.legs.getD x13 mleg_x0).state),.int .i64 ((m.legs.getD x13 mleg_x0).copied)]=Value.agg #[IfH.v ((zav m.legs oc1.1).getD x13 zbz).dev,.int .i64 ((zav m.legs oc1.1).getD x13 zbz).state,.int .i64 ((zav m.legs oc1.1).getD x13 zbz).copied] from by rw [zb2 (by have := hdl3; simpa using this)])) rfl <| oO <| zes Tryz.zeroValue129 rfl rfl fun b18=>oA rfl rfl <| oO <| zfm rfl rfl foc0 Tryz.sizeOf129 rfl rfl rfl <| nT <| sR <| oP (zaa rfl ⟨_,_,_,Tryz.runUnderlying129,rfl,rfl,Tryz.sizeOf117,rfl⟩) rfl <| oV (zag rfl foc0 rfl Tryz.isAgg117) rfl <| oP (P_eql (a:=(m.legs.getD x13 mleg_x0).state) (b:=(1:Int)) rfl rfl) rfl <| zap <| zas (t2_ (t2_ (t2_ (t2_ (t2_ (t2_ (t2_ (eD (eD eR))))))))) <| zam ?_
    refine zan rfl zab (fun hg2 => ?_) (fun hg2 => ?_)
    ·
     replace h := ite_t hg2 h
     refine zaf <| oM rfl rfl <| oM rfl rfl <| oO <| zbf rfl (zhn _) rfl fun b19 => ?_
     obtain ⟨hg3,h⟩ := zfo h
     exact oO <| zc9 (t:=tyI) (bytes:=8) rfl rfl del2 foc0 (Reads.lit (t:=tyI) (ys:=[((x13:Nat):Int)]) rfl rfl (by decide) (by decide) rfl) Tryz.underlying45 zkq (apl (m:=1) (b:=8) hg3 (by decide)).1 (apl (m:=1) (b:=8) hg3 (by decide)).2 rfl fun p21 c22=>oA rfl rfl <| zap <| zao <| zas (t0_ (t1_ (t1_ (t1_ (t1_ (t1_ (t1_ (eD eR)))))))) <| zam <| zaf <| oP (PJ_eq (P_add (a:=((x13:Nat):Int)) (b:=(1:Int)) rfl rfl (by omega)) rfl) rfl <| oM rfl rfl <| zap <| nR ⟨n,(x13 + 1),(x14 ++ [((x13:Nat):Int)]),⟨p21,(x14 ++ [((x13:Nat):Int)]).length,c22⟩⟩ h ⟨rfl,rfl,True.intro⟩ (t0_ (t1_ (t1_ eR)))
    ·
     replace h := ite_f hg2 h
     exact zbr <| zao <| zam <| zaf <| oP (PJ_eq (P_add (a:=((x13:Nat):Int)) (b:=(1:Int)) rfl rfl (by omega)) rfl) rfl <| oM rfl rfl <| zap <| nR ⟨n,(x13 + 1),x14,hd15⟩ h ⟨rfl,rfl,True.intro⟩ (t1_ (t1_ (t1_ eR)))
   ·
    replace h := ite_f hg1 h
    exact zbj <| za3 <| za2 <| za0 <| cR ⟨x14,hd15⟩ (Option.some.inj h).symm ⟨rfl,True.intro⟩ eR
 ·
  rintro ⟨a12,hd11⟩ hy23
  replace h := zd2 hK8 hy23
  show CJ _ _ _ _ _ (([(3,hd11.v)]:Slots) ++ forget _ _) (sl tyI hd11.v a12::_)
  refine lC del0 fun hlen24=>zac <| sR <| oM rfl rfl <| oP (zae rfl) rfl <| oP (zaa rfl ⟨_,_,_,Tryz.runUnderlying119,rfl,rfl,Tryz.sizeOf4,rfl⟩) rfl <| oV (zag rfl foc1 rfl Tryz.isAgg4) rfl <| oM rfl rfl <| zbk rfl rfl rfl (fun hG25=>have hP26:m.hasLog=true := (Iff.rfl).1 hG25; VJ_P (zaj rfl)) <| zbk rfl rfl rfl (fun hG27=>have hP28:m.hasLog=true := (Iff.rfl).1 hG27; VJ_P (zae (mbx hG27 rfl))) <| zbk rfl rfl rfl (fun hG29=>have hP30:m.hasLog=true := (Iff.rfl).1 hG29; VJ_P (zaa (mbx hG29 rfl) ⟨_,_,_,Tryz.runUnderlying119,rfl,rfl,Tryz.sizeOf117,rfl⟩)) <| zbk rfl rfl rfl (fun hG31=>have hP32:m.hasLog=true := (Iff.rfl).1 hG31; zag (mbx hG31 rfl) foc1 rfl Tryz.isAgg117) <| zbk rfl rfl rfl (fun hG33=>have hP34:m.hasLog=true := (Iff.rfl).1 hG33; VJ_P (P_eql (a:=m.logState) (b:=(1:Int)) (mbx hG33 rfl) rfl)) <| oP (zd1 rfl (fun hh=>mbx hh rfl) rfl) rfl <| nT <| zan rfl (zc3 Iff.rfl zab) (fun hg4 => ?_) (fun hg4 => ?_)
  ·
   replace h := ite_t hg4 h
   refine zaf <| oM rfl rfl <| oM rfl rfl <| oP (zae rfl) rfl <| oP (zaa rfl ⟨_,_,_,Tryz.runUnderlying119,rfl,rfl,Tryz.sizeOf115,rfl⟩) rfl <| oV (zag rfl foc1 rfl Tryz.isAgg115) rfl <| oV (VJ_eq (V_len rfl foc2 (Reads.sl _ _ _) Tryz.runUnderlying115) (congrArg (fun z:Nat=>Value.int .i64 (z:Int)) (zai (by have := hdl3; simpa using this)).symm)) rfl <| oO <| zbf rfl (zhn _) rfl fun b35 => ?_
   obtain ⟨hg5,h⟩ := zfo h
   refine oO <| zc9 (t:=tyI) (bytes:=8) rfl rfl del1 foc0 (Reads.lit (t:=tyI) (ys:=[((m.legs.length:Nat):Int)]) rfl rfl (by decide) (by decide) rfl) Tryz.underlying45 zkq (apl (m:=1) (b:=8) hg5 (by decide)).1 (apl (m:=1) (b:=8) hg5 (by decide)).2 rfl fun p37 c38=>oA rfl rfl <| zap <| zas (t0_ (t1_ (t1_ (t1_ (t1_ (t1_ (t1_ (eD eR)))))))) <| zam <| sR <| oM rfl rfl <| oA rfl rfl <| nT <| zah <| zas (Ent.trans (t1_ (t1_ (t1_ (t1_ (t1_ eR))))) (zdq (v0:=m.legs) (v1:=m.log) (v2:=m.hasLog) (v3:=m.logState) (v4:=m.size) (v5:=m.region) (v6:=m.dirty) (v7:=m.copied) (h0:=oc1.1) (h1:=oc1.2.1) (h2:=oc1.2.2))) ?_
   cases h
   exact fE (res1 Tryz.results97 rfl) ⟨p37,(a12 ++ [((m.legs.length:Nat):Int)]).length,c38⟩ (t0_ (t1_ eR))
  ·
   replace h := ite_f hg4 h
   refine kT <| sR <| oM rfl rfl <| oA rfl rfl <| nT <| zah <| zas (Ent.trans (t1_ (t1_ (t1_ (t1_ (t1_ eR))))) (zdq (v0:=m.legs) (v1:=m.log) (v2:=m.hasLog) (v3:=m.logState) (v4:=m.size) (v5:=m.region) (v6:=m.dirty) (v7:=m.copied) (h0:=oc1.1) (h1:=oc1.2.1) (h2:=oc1.2.2))) ?_
   cases h
   exact fE (res1 Tryz.results97 rfl) hd11 (t0_ (t1_ eR))
theorem zl6 {a b:Nat} {l:MirS} {R:List HP} : EntX (MirP a b l::R) fun vl:Sl3=>MirQ a vl b l::R :=
  fun _ hh=>let ⟨c,hc⟩ := stars_ex.1 hh; ⟨c.1,stars_ex.2 ⟨(c.2.1,c.2.2.1,c.2.2.2),hc⟩⟩
theorem zl7 {a b:Nat} {vl:Sl3} {l:MirS} {R:List HP} : Ent (MirQ a vl b l::R) (MirP a b l::R) :=
  fun _ hh=>let ⟨c,hc⟩ := stars_ex.1 hh; stars_ex.2 ⟨(vl,c.1,c.2.1,c.2.2),hc⟩
theorem zo6 {W:World} {bm:Nat} {bs:Nat} {m:MirS} {s:ArrS} {r:(List Int)} (h:zf3 m s=some r) :
    CSpec Tryz.prog W 97 [ptr bm 0] [MirP bs bm m,Arr bs s] (fun x:Sl3=>x.v) (fun _=>True) (fun x F=>MirP bs bm m::Arr bs s::sl tyI x.v r::F) :=
  CSpec.exq2 (R' := fun x:Sl3=>[Arr bs s,sl tyI x.v r]) (fun _=>zl6) (fun _ _ _=>zl7) (fun _=>zlj h)
def zbi (m:MirS) (s:ArrS):Option (Int) :=
  Option.bind (zf3 m s) fun r1 =>
  if ((0:Int) < ((r1.length:Nat):Int)) then
    some (18:Int)
  else
    some (0:Int)
theorem zhh {W:World} {bm:Nat} {vlm:Sl3} {bs:Nat} {m:MirS} {s:ArrS} {r:Int} (h:zbi m s=some r) :
    CSpec Tryz.prog W 58 [ptr bm 0] [MirQ bs vlm bm m,Arr bs s] (fun x:Unit => .int .i64 r) (fun _=>True) (fun x F=>MirQ bs vlm bm m::Arr bs s::F) := by
 refine CSpec.of_body Tryz.func58 rfl Tryz.ntmps58 rfl fun F => ?_
 show CJ _ _ _ _ _ _ (_::_::F)
 unfold zbi at h
 refine sR <| oA rfl rfl <| nT <| zac <| sR <| oM rfl rfl ?_
 obtain ⟨r1,hr2,h⟩ := zar h
 refine oO <| zat (zlj hr2) rfl Tryz.call97 (Dels.cons del0 (Dels.cons del0 Dels.nil)) rfl fun X3 _=>oV (V_len rfl foc2 (Reads.sl _ _ _) Tryz.runUnderlying45) rfl <| oP (P_gtr (a:=((r1.length:Nat):Int)) (b:=(0:Int)) rfl rfl) rfl <| nT <| zan rfl zab (fun hg1 => ?_) (fun hg1 => ?_)
 ·
  replace h := ite_t hg1 h
  refine sR <| oA rfl rfl <| nT <| zah <| zad ?_
  cases h
  exact fE (res1 Tryz.results58 rfl) () (t0_ (t0_ (eD eR)))
 ·
  replace h := ite_f hg1 h
  refine kT <| sR <| oA rfl rfl <| nT <| zah ?_
  cases h
  exact fE (res1 Tryz.results58 rfl) () (t0_ (t0_ (eD eR)))
theorem zc4 {W:World} {bm:Nat} {bs:Nat} {m:MirS} {s:ArrS} {r:Int} (h:zbi m s=some r) :
    CSpec Tryz.prog W 58 [ptr bm 0] [MirP bs bm m,Arr bs s] (fun x:Unit => .int .i64 r) (fun _=>True) (fun x F=>MirP bs bm m::Arr bs s::F) :=
  CSpec.exq2 (R' := fun x:Unit=>[Arr bs s]) (fun _=>zl6) (fun _ _ _=>zl7) (fun _=>zhh h)
def zbg (m:MirS) (i:Int) (e_2:Int) (s:ArrS):Option (Int × MirS) :=
  if ((e_2=(0:Int))∨(e_2=(5:Int))) then
    some (e_2,m)
  else
    if (i=((m.legs.length:Nat):Int)) then
      some (((0:Int), { m with logState := (1:Int) }))
    else
      grd (decide (0≤i∧i < (m.legs.length:Int))) <|
      if ((m.legs.getD ((i).toNat) mleg_x0).state=(2:Int)) then
        grd (decide (0≤i∧i < (m.legs.length:Int))) <|
        some (((0:Int), { m with legs := (m.legs.set ((i).toNat) { m.legs.getD ((i).toNat) mleg_x0 with copied := (0:Int) }) }))
      else
        grd (decide (0≤i∧i < (m.legs.length:Int))) <|
        some (((0:Int), { m with legs := (m.legs.set ((i).toNat) { m.legs.getD ((i).toNat) mleg_x0 with state := (1:Int) }) }))
theorem zfq {W:World} {bm:Nat} {vlm:Sl3} {bs:Nat} {m:MirS} {i:Int} {e_2:Int} {s:ArrS} {r:Int × MirS} (h:zbg m i e_2 s=some r) :
    CSpec Tryz.prog W 76 [ptr bm 0,.int .i64 i,.int .i64 e_2] [MirQ bs vlm bm m,Arr bs s] (fun x:Unit => .int .i64 r.1) (fun _=>True) (fun x F=>MirQ bs vlm bm r.2::Arr bs s::F) := by
 refine CSpec.of_body Tryz.func76 rfl Tryz.ntmps76 rfl fun F => ?_
 show CJ _ _ _ _ _ _ (_::_::F)
 unfold zbg at h
 refine sR <| oA rfl rfl <| nT <| zac <| zaw <| sR <| oM rfl rfl <| oP (P_eql (a:=e_2) (b:=(0:Int)) rfl rfl) rfl <| oM rfl rfl <| zaz rfl rfl rfl (fun hG1=>have hP2:¬ (e_2=(0:Int)) := nP (zab) hG1; VJ_P (zaj rfl)) <| zaz rfl rfl rfl (fun hG3=>have hP4:¬ (e_2=(0:Int)) := nP (zab) hG3; VJ_P (P_eql (a:=e_2) (b:=(5:Int)) (mbx hG3 rfl) rfl)) <| oP (zcw rfl rfl (fun hh=>mbx (not_f hh) rfl)) rfl <| oA rfl rfl <| nT <| zan rfl (bT_or zab zab) (fun hg1 => ?_) (fun hg1 => ?_)
 ·
  replace h := ite_t hg1 h
  refine sR <| oM rfl rfl <| oA rfl rfl <| nT <| zah <| zau <| zad ?_
  cases h
  exact fE (res1 Tryz.results76 rfl) () eR
 ·
  replace h := ite_f hg1 h
  refine zac <| zax (Ent.transX (t0_ eR) (zcx (l:=m))) fun oc5=>za1 (fun h hh=>za7 (zaq (del2 (A:=Rs (DevP bs) (m.legs.map mlegS.dev) oc5.1)).out h hh)) fun hdl7=>lC del1 fun hlen8 => ?_
  rw [zai (by have := hdl7; simpa using this)] at hlen8
  refine lC del4 fun hlen9=>zaf <| oM rfl rfl <| oM rfl rfl <| oP (zae rfl) rfl <| oP (zaa rfl ⟨_,_,_,Tryz.runUnderlying119,rfl,rfl,Tryz.sizeOf115,rfl⟩) rfl <| oV (zag rfl foc0 rfl Tryz.isAgg115) rfl <| oV (VJ_eq (V_len rfl foc1 (Reads.sl _ _ _) Tryz.runUnderlying115) (congrArg (fun z:Nat=>Value.int .i64 (z:Int)) (zai (by have := hdl7; simpa using this)).symm)) rfl <| oP (P_eql (a:=i) (b:=((m.legs.length:Nat):Int)) rfl rfl) rfl <| oA rfl rfl <| zap <| zas (Ent.trans eR (zdq (v0:=m.legs) (v1:=m.log) (v2:=m.hasLog) (v3:=m.logState) (v4:=m.size) (v5:=m.region) (v6:=m.dirty) (v7:=m.copied) (h0:=oc5.1) (h1:=oc5.2.1) (h2:=oc5.2.2))) <| zam <| zan rfl zab (fun hg2 => ?_) (fun hg2 => ?_)
  ·
   replace h := ite_t hg2 h
   refine zax (Ent.transX (t0_ eR) (zcx (l:=m))) fun oc10=>za1 (fun h hh=>za7 (zaq (del2 (A:=Rs (DevP bs) (m.legs.map mlegS.dev) oc10.1)).out h hh)) fun hdl12=>lC del1 fun hlen13 => ?_
   rw [zai (by have := hdl12; simpa using this)] at hlen13
   refine lC del4 fun hlen14=>zaf <| oM rfl rfl <| oP (zae rfl) rfl <| oP (zaa rfl ⟨_,_,_,Tryz.runUnderlying119,rfl,rfl,Tryz.sizeOf117,rfl⟩) rfl <| oO <| zbu rfl rfl foc0 rfl rfl Tryz.sizeOf117 <| zap <| zas (Ent.trans eR (zdq (v0:=m.legs) (v1:=m.log) (v2:=m.hasLog) (v3:=(1:Int)) (v4:=m.size) (v5:=m.region) (v6:=m.dirty) (v7:=m.copied) (h0:=oc10.1) (h1:=oc10.2.1) (h2:=oc10.2.2))) <| zao <| zam <| sR <| oA rfl rfl <| nT <| zah ?_
   cases h
   exact fE (res1 Tryz.results76 rfl) () eR
  ·
   replace h := ite_f hg2 h
   refine zac <| zax (Ent.transX (t0_ eR) (zcx (l:=m))) fun oc15=>za1 (fun h hh=>za7 (zaq (del2 (A:=Rs (DevP bs) (m.legs.map mlegS.dev) oc15.1)).out h hh)) fun hdl17=>lC del1 fun hlen18 => ?_
   rw [zai (by have := hdl17; simpa using this)] at hlen18
   refine lC del4 fun hlen19=>zaf <| oM rfl rfl <| oP (zae rfl) rfl <| oP (zaa rfl ⟨_,_,_,Tryz.runUnderlying119,rfl,rfl,Tryz.sizeOf115,rfl⟩) rfl <| oV (zag rfl foc0 rfl Tryz.isAgg115) rfl <| oM rfl rfl ?_
   obtain ⟨hg3,h⟩ := zbt h
   refine oV (zay (i:=(i).toNat) rfl rfl (Int.toNat_of_nonneg (hg3.1)).symm (show (i).toNat < (zav m.legs oc15.1).length by rw [zai (by have := hdl17; simpa using this)]; exact (by omega)) foc1 (Reads.sl _ _ _) Tryz.runUnderlying115 Tryz.sizeOf129) rfl <| oP (zbe rfl ⟨_,_,_,Tryz.runUnderlying129,rfl,rfl,Tryz.sizeOf117,rfl⟩) rfl <| oV (VJ_eq (za6 rfl rfl (show (i).toNat < (zav m.legs oc15.1).length by rw [zai (by have := hdl17; simpa using this)]; exact (by omega)) foc1 (Reads.sl _ _ _) rfl rfl Tryz.isAgg117) (show (.int .i64 ((m.legs.getD ((i).toNat) mleg_x0).state):Value) = .int .i64 ((zav m.legs oc15.1).getD ((i).toNat) zbz).state from by rw [zb2 (by have := hdl17; simpa using this)])) rfl <| oP (P_eql (a:=(m.legs.getD ((i).toNat) mleg_x0).state) (b:=(2:Int)) rfl rfl) rfl <| oA rfl rfl <| zap <| zas (Ent.trans eR (zdq (v0:=m.legs) (v1:=m.log) (v2:=m.hasLog) (v3:=m.logState) (v4:=m.size) (v5:=m.region) (v6:=m.dirty) (v7:=m.copied) (h0:=oc15.1) (h1:=oc15.2.1) (h2:=oc15.2.2))) <| zam <| zan rfl zab (fun hg4 => ?_) (fun hg4 => ?_)
   ·
    replace h := ite_t hg4 h
    refine zax (Ent.transX (t0_ eR) (zcx (l:=m))) fun oc20=>za1 (fun h hh=>za7 (zaq (del2 (A:=Rs (DevP bs) (m.legs.map mlegS.dev) oc20.1)).out h hh)) fun hdl22=>lC del1 fun hlen23 => ?_
    rw [zai (by have := hdl22; simpa using this)] at hlen23
    refine lC del4 fun hlen24=>zaf <| oM rfl rfl <| oP (zae rfl) rfl <| oP (zaa rfl ⟨_,_,_,Tryz.runUnderlying119,rfl,rfl,Tryz.sizeOf115,rfl⟩) rfl <| oV (zag rfl foc0 rfl Tryz.isAgg115) rfl <| oM rfl rfl ?_
    obtain ⟨hg5,h⟩ := zbt h
    refine oV (zay (i:=(i).toNat) rfl rfl (Int.toNat_of_nonneg (hg5.1)).symm (show (i).toNat < (zav m.legs oc20.1).length by rw [zai (by have := hdl22; simpa using this)]; exact (by omega)) foc1 (Reads.sl _ _ _) Tryz.runUnderlying115 Tryz.sizeOf129) rfl <| oP (zbe rfl ⟨_,_,_,Tryz.runUnderlying129,rfl,rfl,Tryz.sizeOf3,rfl⟩) rfl <| oO <| zea (x' := { (zav m.legs oc20.1).getD ((i).toNat) zbz with copied := (0:Int) }) rfl rfl rfl (show (i).toNat < (zav m.legs oc20.1).length by rw [zai (by have := hdl22; simpa using this)]; exact (by omega)) foc1 rfl rfl rfl Tryz.sizeOf3 <| zbb (Ent.takeC (A' := sl zdp (Sl3.v vlm) (zav (m.legs.set ((i).toNat) { m.legs.getD ((i).toNat) mleg_x0 with copied := (0:Int) }) oc20.1)) del1 (congrArg (sl zdp (Sl3.v vlm)) (zk2 (by have := hdl22; simpa using this) (by omega) (0:Int))) (Ent.takeC (A' := Rs (DevP bs) (((m.legs.set ((i).toNat) { m.legs.getD ((i).toNat) mleg_x0 with copied := (0:Int) })).map mlegS.dev) oc20.1) del1 (congrArg (fun z=>Rs (DevP bs) z oc20.1) (zk3 (l:=m.legs) (i:=((i).toNat)) (0:Int)).symm) eR)) <| zcl (fun h hh=>za7 (zaq (del1 (A:=Rs (DevP bs) ((((m.legs.set ((i).toNat) { m.legs.getD ((i).toNat) mleg_x0 with copied := (0:Int) })).map mlegS.dev)) oc20.1)).out h hh)) fun hdl25=>zap ?_
    refine zas (Ent.trans (t2_ eR) (zdq (v0:=(m.legs.set ((i).toNat) { m.legs.getD ((i).toNat) mleg_x0 with copied := (0:Int) })) (v1:=m.log) (v2:=m.hasLog) (v3:=m.logState) (v4:=m.size) (v5:=m.region) (v6:=m.dirty) (v7:=m.copied) (h0:=oc20.1) (h1:=oc20.2.1) (h2:=oc20.2.2))) <| zao <| zam <| sR <| oA rfl rfl <| nT <| zah ?_
    cases h
    exact fE (res1 Tryz.results76 rfl) () eR
   ·
    replace h := ite_f hg4 h
    refine zax (Ent.transX (t0_ eR) (zcx (l:=m))) fun oc26=>za1 (fun h hh=>za7 (zaq (del2 (A:=Rs (DevP bs) (m.legs.map mlegS.dev) oc26.1)).out h hh)) fun hdl28=>lC del1 fun hlen29 => ?_
    rw [zai (by have := hdl28; simpa using this)] at hlen29
    refine lC del4 fun hlen30=>zaf <| oM rfl rfl <| oP (zae rfl) rfl <| oP (zaa rfl ⟨_,_,_,Tryz.runUnderlying119,rfl,rfl,Tryz.sizeOf115,rfl⟩) rfl <| oV (zag rfl foc0 rfl Tryz.isAgg115) rfl <| oM rfl rfl ?_
    obtain ⟨hg6,h⟩ := zbt h
    refine oV (zay (i:=(i).toNat) rfl rfl (Int.toNat_of_nonneg (hg6.1)).symm (show (i).toNat < (zav m.legs oc26.1).length by rw [zai (by have := hdl28; simpa using this)]; exact (by omega)) foc1 (Reads.sl _ _ _) Tryz.runUnderlying115 Tryz.sizeOf129) rfl <| oP (zbe rfl ⟨_,_,_,Tryz.runUnderlying129,rfl,rfl,Tryz.sizeOf117,rfl⟩) rfl <| oO <| zea (x' := { (zav m.legs oc26.1).getD ((i).toNat) zbz with state := (1:Int) }) rfl rfl rfl (show (i).toNat < (zav m.legs oc26.1).length by rw [zai (by have := hdl28; simpa using this)]; exact (by omega)) foc1 rfl rfl rfl Tryz.sizeOf117 <| zbb (Ent.takeC (A' := sl zdp (Sl3.v vlm) (zav (m.legs.set ((i).toNat) { m.legs.getD ((i).toNat) mleg_x0 with state := (1:Int) }) oc26.1)) del1 (congrArg (sl zdp (Sl3.v vlm)) (zll (by have := hdl28; simpa using this) (by omega) (1:Int))) (Ent.takeC (A' := Rs (DevP bs) (((m.legs.set ((i).toNat) { m.legs.getD ((i).toNat) mleg_x0 with state := (1:Int) })).map mlegS.dev) oc26.1) del1 (congrArg (fun z=>Rs (DevP bs) z oc26.1) (zlm (l:=m.legs) (i:=((i).toNat)) (1:Int)).symm) eR)) <| zcl (fun h hh=>za7 (zaq (del1 (A:=Rs (DevP bs) ((((m.legs.set ((i).toNat) { m.legs.getD ((i).toNat) mleg_x0 with state := (1:Int) })).map mlegS.dev)) oc26.1)).out h hh)) fun hdl31=>zap ?_
    refine zas (Ent.trans (t2_ eR) (zdq (v0:=(m.legs.set ((i).toNat) { m.legs.getD ((i).toNat) mleg_x0 with state := (1:Int) })) (v1:=m.log) (v2:=m.hasLog) (v3:=m.logState) (v4:=m.size) (v5:=m.region) (v6:=m.dirty) (v7:=m.copied) (h0:=oc26.1) (h1:=oc26.2.1) (h2:=oc26.2.2))) <| zao <| zam <| sR <| oA rfl rfl <| nT <| zah ?_
    cases h
    exact fE (res1 Tryz.results76 rfl) () eR
theorem zee {W:World} {bm:Nat} {bs:Nat} {m:MirS} {i:Int} {e_2:Int} {s:ArrS} {r:Int × MirS} (h:zbg m i e_2 s=some r) :
    CSpec Tryz.prog W 76 [ptr bm 0,.int .i64 i,.int .i64 e_2] [MirP bs bm m,Arr bs s] (fun x:Unit => .int .i64 r.1) (fun _=>True) (fun x F=>MirP bs bm r.2::Arr bs s::F) :=
  CSpec.exq2 (R' := fun x:Unit=>[Arr bs s]) (fun _=>zl6) (fun _ _ _=>zl7) (fun _=>zfq h)
def zg2 (m:MirS) (rec:Nat→(List Int)→Option ((List Int))) (x13:Nat) (x14:List Int):Option ((List Int)) :=
  if (((x13:Nat):Int) < ((m.legs.length:Nat):Int)) then
    if ((m.legs.getD x13 mleg_x0).state=(2:Int)) then
      grd (inLen (x14.length + 1)) <|
      rec (x13 + 1) ((x14 ++ [((x13:Nat):Int)]))
    else
      rec (x13 + 1) x14
  else
    some x14
def zfc (m:MirS):Nat→Nat→(List Int)→Option ((List Int))
  | 0,_,_=>none
  | n + 1,x13,x14=>zg2 m (zfc m n) x13 x14
def zih (m:MirS) (s:ArrS):Option ((List Int)) :=
  Option.bind (zfc m FUEL 0 ([])) fun a12 =>
  if (m.hasLog=true∧(m.logState=(2:Int))) then
    grd (inLen (a12.length + 1)) <|
    some ((a12 ++ [((m.legs.length:Nat):Int)]))
  else
    some a12
theorem zpi {W:World} {bm:Nat} {bs:Nat} {m:MirS} {s:ArrS} {r:(List Int)} (h:zih m s=some r) :
    CSpec Tryz.prog W 40 [ptr bm 0] [MirP bs bm m,Arr bs s] (fun x:Sl3=>x.v) (fun _=>True) (fun x F=>MirP bs bm m::Arr bs s::sl tyI x.v r::F) := by
 refine CSpec.of_body Tryz.func40 rfl Tryz.ntmps40 rfl fun F => ?_
 show CJ _ _ _ _ _ _ (_::_::F)
 unfold zih at h
 refine sR <| oA rfl rfl <| nT <| sR <| oA rfl rfl <| nT <| zac <| zac <| zax (Ent.transX (t0_ eR) (zba (l:=m))) fun oc1=>za1 (fun h hh=>za7 (zaq (del2 (A:=Rs (DevP bs) (m.legs.map mlegS.dev) oc1.2.1)).out h hh)) fun hdl3=>lC del1 fun hlen4 => ?_
 rw [zai (by have := hdl3; simpa using this)] at hlen4
 refine lC del4 fun hlen5=>zaf <| oM rfl rfl <| oP (zae rfl) rfl <| oP (zaa rfl ⟨_,_,_,Tryz.runUnderlying119,rfl,rfl,Tryz.sizeOf115,rfl⟩) rfl <| oV (zag rfl foc0 rfl Tryz.isAgg115) rfl <| oV (VJ_eq (V_len rfl foc1 (Reads.sl _ _ _) Tryz.runUnderlying115) (congrArg (fun z:Nat=>Value.int .i64 (z:Int)) (zai (by have := hdl3; simpa using this)).symm)) rfl <| oM rfl rfl <| nT <| zde (fun h hh=>zdj (t:=tyI) h hh) ?_
 obtain ⟨y9,hl7,hK8⟩ := zfw h
 refine zbv (X:=(List Int) × Sl3) [3,4,5,11,12,13,14,15,16,17,18,19,20,21,22,23] (fun ⟨a12,hd11⟩=>([(3,hd11.v)]:Slots)) (fun ⟨a12,hd11⟩ R=>sl tyI hd11.v a12::R) (fun ⟨a12,hd11⟩=>y9=a12) (Dels.cons del0 Dels.nil) ?_ ?_
 ·
  refine zaw <| zbd (X:=Nat × Nat × (List Int) × Sl3) [3,4,5,11,12,13,14,15,16,17,18,19,20,21,22,23] (fun ⟨n,x13,x14,hd15⟩=>([(3,hd15.v),(11,.int .i64 (((x13:Nat):Int)))]:Slots)) (fun ⟨n,x13,x14,hd15⟩ R=>sl tyI hd15.v x14::R) (fun ⟨n,x13,x14,hd15⟩=>zfc m n x13 x14=some y9) (fun ⟨n,x13,x14,hd15⟩=>n) ⟨FUEL,0,[],⟨none,0,0⟩⟩ ?_ ?_ eR ?_
  · exact hl7
  · exact ⟨rfl,rfl,True.intro⟩
  ·
   rintro ⟨n,x13,x14,hd15⟩ h
   cases n with
   | zero=>exact zbq h
   | succ n => ?_
   replace h:zg2 m (zfc m n) x13 x14=some y9 := h
   unfold zg2 at h
   show CJ _ _ _ _ _ (([(3,hd15.v),(11,.int .i64 (((x13:Nat):Int)))]:Slots) ++ forget _ _) (sl tyI hd15.v x14::_)
   refine lC del0 fun hlen16=>sR <| oP (P_lss (a:=((x13:Nat):Int)) (b:=((m.legs.length:Nat):Int)) rfl rfl) rfl <| nT <| zac <| zan rfl zab (fun hg1 => ?_) (fun hg1 => ?_)
   ·
    replace h := ite_t hg1 h
    refine kT <| zac <| zaw <| sR <| oM rfl rfl <| oV (zay (i:=x13) rfl rfl rfl (show x13 < (zav m.legs oc1.2.1).length by rw [zai (by have := hdl3; simpa using this)]; exact (by omega)) foc2 (Reads.sl _ _ _) Tryz.runUnderlying115 Tryz.sizeOf129) rfl <| zbb (Ent.trans (t3_ eR) (zfk (i:=x13) (by omega))) <| oV (VJ_eq (zh1 rfl rfl (show x13 < (zav m.legs oc1.2.1).length by rw [zai (by have := hdl3; simpa using this)]; exact (by omega)) foc4 (Reads.sl _ _ _) rfl rfl Tryz.isAgg129 Tryz.sizeOf129) (show Value.agg #[IfH.v (oc1.2.1.getD x13 tyDev.dflt),.int .i64 ((m.legs.getD x13 mleg_x0).state),.int .i64 ((m.legs.getD x13 mleg_x0).copied)]=Value.agg #[IfH.v ((zav m.legs oc1.2.1).getD x13 zbz).dev,.int .i64 ((zav m.legs oc1.2.1).getD x13 zbz).state,.int .i64 ((zav m.legs oc1.2.1).getD x13 zbz).copied] from by rw [zb2 (by have := hdl3; simpa using this)])) rfl <| oO <| zes Tryz.zeroValue129 rfl rfl fun b18=>oA rfl rfl <| oO <| zfm rfl rfl foc0 Tryz.sizeOf129 rfl rfl rfl <| nT <| sR <| oP (zaa rfl ⟨_,_,_,Tryz.runUnderlying129,rfl,rfl,Tryz.sizeOf117,rfl⟩) rfl <| oV (zag rfl foc0 rfl Tryz.isAgg117) rfl <| oP (P_eql (a:=(m.legs.getD x13 mleg_x0).state) (b:=(2:Int)) rfl rfl) rfl <| zap <| zas (t2_ (t2_ (t2_ (t2_ (t2_ (t2_ (t2_ (eD (eD eR))))))))) <| zam ?_
    refine zan rfl zab (fun hg2 => ?_) (fun hg2 => ?_)
    ·
     replace h := ite_t hg2 h
     refine zaf <| oM rfl rfl <| oM rfl rfl <| oO <| zbf rfl (zhn _) rfl fun b19 => ?_
     obtain ⟨hg3,h⟩ := zfo h
     exact oO <| zc9 (t:=tyI) (bytes:=8) rfl rfl del2 foc0 (Reads.lit (t:=tyI) (ys:=[((x13:Nat):Int)]) rfl rfl (by decide) (by decide) rfl) Tryz.underlying45 zkq (apl (m:=1) (b:=8) hg3 (by decide)).1 (apl (m:=1) (b:=8) hg3 (by decide)).2 rfl fun p21 c22=>oA rfl rfl <| zap <| zao <| zas (t0_ (t1_ (t1_ (t1_ (t1_ (t1_ (t1_ (eD eR)))))))) <| zam <| zaf <| oP (PJ_eq (P_add (a:=((x13:Nat):Int)) (b:=(1:Int)) rfl rfl (by omega)) rfl) rfl <| oM rfl rfl <| zap <| nR ⟨n,(x13 + 1),(x14 ++ [((x13:Nat):Int)]),⟨p21,(x14 ++ [((x13:Nat):Int)]).length,c22⟩⟩ h ⟨rfl,rfl,True.intro⟩ (t0_ (t1_ (t1_ eR)))
    ·
     replace h := ite_f hg2 h
     exact zbr <| zao <| zam <| zaf <| oP (PJ_eq (P_add (a:=((x13:Nat):Int)) (b:=(1:Int)) rfl rfl (by omega)) rfl) rfl <| oM rfl rfl <| zap <| nR ⟨n,(x13 + 1),x14,hd15⟩ h ⟨rfl,rfl,True.intro⟩ (t1_ (t1_ (t1_ eR)))
   ·
    replace h := ite_f hg1 h
    exact zbj <| za3 <| za2 <| za0 <| cR ⟨x14,hd15⟩ (Option.some.inj h).symm ⟨rfl,True.intro⟩ eR
 ·
  rintro ⟨a12,hd11⟩ hy23
  replace h := zd2 hK8 hy23
  show CJ _ _ _ _ _ (([(3,hd11.v)]:Slots) ++ forget _ _) (sl tyI hd11.v a12::_)
  refine lC del0 fun hlen24=>zac <| sR <| oM rfl rfl <| oP (zae rfl) rfl <| oP (zaa rfl ⟨_,_,_,Tryz.runUnderlying119,rfl,rfl,Tryz.sizeOf4,rfl⟩) rfl <| oV (zag rfl foc1 rfl Tryz.isAgg4) rfl <| oM rfl rfl <| zbk rfl rfl rfl (fun hG25=>have hP26:m.hasLog=true := (Iff.rfl).1 hG25; VJ_P (zaj rfl)) <| zbk rfl rfl rfl (fun hG27=>have hP28:m.hasLog=true := (Iff.rfl).1 hG27; VJ_P (zae (mbx hG27 rfl))) <| zbk rfl rfl rfl (fun hG29=>have hP30:m.hasLog=true := (Iff.rfl).1 hG29; VJ_P (zaa (mbx hG29 rfl) ⟨_,_,_,Tryz.runUnderlying119,rfl,rfl,Tryz.sizeOf117,rfl⟩)) <| zbk rfl rfl rfl (fun hG31=>have hP32:m.hasLog=true := (Iff.rfl).1 hG31; zag (mbx hG31 rfl) foc1 rfl Tryz.isAgg117) <| zbk rfl rfl rfl (fun hG33=>have hP34:m.hasLog=true := (Iff.rfl).1 hG33; VJ_P (P_eql (a:=m.logState) (b:=(2:Int)) (mbx hG33 rfl) rfl)) <| oP (zd1 rfl (fun hh=>mbx hh rfl) rfl) rfl <| nT <| zan rfl (zc3 Iff.rfl zab) (fun hg4 => ?_) (fun hg4 => ?_)
  ·
   replace h := ite_t hg4 h
   refine zaf <| oM rfl rfl <| oM rfl rfl <| oP (zae rfl) rfl <| oP (zaa rfl ⟨_,_,_,Tryz.runUnderlying119,rfl,rfl,Tryz.sizeOf115,rfl⟩) rfl <| oV (zag rfl foc1 rfl Tryz.isAgg115) rfl <| oV (VJ_eq (V_len rfl foc2 (Reads.sl _ _ _) Tryz.runUnderlying115) (congrArg (fun z:Nat=>Value.int .i64 (z:Int)) (zai (by have := hdl3; simpa using this)).symm)) rfl <| oO <| zbf rfl (zhn _) rfl fun b35 => ?_
   obtain ⟨hg5,h⟩ := zfo h
   refine oO <| zc9 (t:=tyI) (bytes:=8) rfl rfl del1 foc0 (Reads.lit (t:=tyI) (ys:=[((m.legs.length:Nat):Int)]) rfl rfl (by decide) (by decide) rfl) Tryz.underlying45 zkq (apl (m:=1) (b:=8) hg5 (by decide)).1 (apl (m:=1) (b:=8) hg5 (by decide)).2 rfl fun p37 c38=>oA rfl rfl <| zap <| zas (t0_ (t1_ (t1_ (t1_ (t1_ (t1_ (t1_ (eD eR)))))))) <| zam <| sR <| oM rfl rfl <| oA rfl rfl <| nT <| zah <| zas (Ent.trans (t1_ (t1_ (t1_ (t1_ (t1_ eR))))) (zbn (v0:=m.legs) (v1:=m.log) (v2:=m.hasLog) (v3:=m.logState) (v4:=m.size) (v5:=m.region) (v6:=m.dirty) (v7:=m.copied) (h0:=oc1.1) (h1:=oc1.2.1) (h2:=oc1.2.2.1) (h3:=oc1.2.2.2))) ?_
   cases h
   exact fE (res1 Tryz.results40 rfl) ⟨p37,(a12 ++ [((m.legs.length:Nat):Int)]).length,c38⟩ (t0_ (t1_ eR))
  ·
   replace h := ite_f hg4 h
   refine kT <| sR <| oM rfl rfl <| oA rfl rfl <| nT <| zah <| zas (Ent.trans (t1_ (t1_ (t1_ (t1_ (t1_ eR))))) (zbn (v0:=m.legs) (v1:=m.log) (v2:=m.hasLog) (v3:=m.logState) (v4:=m.size) (v5:=m.region) (v6:=m.dirty) (v7:=m.copied) (h0:=oc1.1) (h1:=oc1.2.1) (h2:=oc1.2.2.1) (h3:=oc1.2.2.2))) ?_
   cases h
   exact fE (res1 Tryz.results40 rfl) hd11 (t0_ (t1_ eR))
def zg3 (m:MirS) (rec:Nat→(List Int)→Option ((List Int))) (x13:Nat) (x14:List Int):Option ((List Int)) :=
  if (((x13:Nat):Int) < ((m.dirty.length:Nat):Int)) then
    if (m.dirty.getD x13 false)=true then
      grd (inLen (x14.length + 1)) <|
      rec (x13 + 1) ((x14 ++ [((x13:Nat):Int)]))
    else
      rec (x13 + 1) x14
  else
    some x14
def zfd (m:MirS):Nat→Nat→(List Int)→Option ((List Int))
  | 0,_,_=>none
  | n + 1,x13,x14=>zg3 m (zfd m n) x13 x14
def zep (m:MirS) (s:ArrS):Option ((List Int)) :=
  Option.bind (zfd m FUEL 0 ([])) fun a12 =>
  some a12
theorem zhy {W:World} {bm:Nat} {bs:Nat} {m:MirS} {s:ArrS} {r:(List Int)} (h:zep m s=some r) :
    CSpec Tryz.prog W 22 [ptr bm 0] [MirP bs bm m,Arr bs s] (fun x:Sl3=>x.v) (fun _=>True) (fun x F=>MirP bs bm m::Arr bs s::sl tyI x.v r::F) := by
 refine CSpec.of_body Tryz.func22 rfl Tryz.ntmps22 rfl fun F => ?_
 show CJ _ _ _ _ _ _ (_::_::F)
 unfold zep at h
 refine sR <| oA rfl rfl <| nT <| sR <| oA rfl rfl <| nT <| zac <| zac <| zax (Ent.transX (t0_ eR) (zba (l:=m))) fun oc1=>za1 (fun h hh=>za7 (zaq (del2 (A:=Rs (DevP bs) (m.legs.map mlegS.dev) oc1.2.1)).out h hh)) fun hdl3=>lC del1 fun hlen4 => ?_
 rw [zai (by have := hdl3; simpa using this)] at hlen4
 refine lC del4 fun hlen5=>zaf <| oM rfl rfl <| oP (zae rfl) rfl <| oP (zaa rfl ⟨_,_,_,Tryz.runUnderlying119,rfl,rfl,Tryz.sizeOf34,rfl⟩) rfl <| oV (zag rfl foc0 rfl Tryz.isAgg34) rfl <| oV (V_len rfl foc4 (Reads.sl _ _ _) Tryz.runUnderlying34) rfl <| oM rfl rfl <| nT <| zde (fun h hh=>zdj (t:=tyI) h hh) ?_
 obtain ⟨y9,hl7,hK8⟩ := zfw h
 refine zbv (X:=(List Int) × Sl3) [3,4,5,11,12,13,14,15,16,17,18,19,20,21] (fun ⟨a12,hd11⟩=>([(3,hd11.v)]:Slots)) (fun ⟨a12,hd11⟩ R=>sl tyI hd11.v a12::R) (fun ⟨a12,hd11⟩=>y9=a12) (Dels.cons del0 Dels.nil) ?_ ?_
 ·
  refine zaw <| zbd (X:=Nat × Nat × (List Int) × Sl3) [3,4,5,11,12,13,14,15,16,17,18,19,20,21] (fun ⟨n,x13,x14,hd15⟩=>([(3,hd15.v),(11,.int .i64 (((x13:Nat):Int)))]:Slots)) (fun ⟨n,x13,x14,hd15⟩ R=>sl tyI hd15.v x14::R) (fun ⟨n,x13,x14,hd15⟩=>zfd m n x13 x14=some y9) (fun ⟨n,x13,x14,hd15⟩=>n) ⟨FUEL,0,[],⟨none,0,0⟩⟩ ?_ ?_ eR ?_
  · exact hl7
  · exact ⟨rfl,rfl,True.intro⟩
  ·
   rintro ⟨n,x13,x14,hd15⟩ h
   cases n with
   | zero=>exact zbq h
   | succ n => ?_
   replace h:zg3 m (zfd m n) x13 x14=some y9 := h
   unfold zg3 at h
   show CJ _ _ _ _ _ (([(3,hd15.v),(11,.int .i64 (((x13:Nat):Int)))]:Slots) ++ forget _ _) (sl tyI hd15.v x14::_)
   refine lC del0 fun hlen16=>sR <| oP (P_lss (a:=((x13:Nat):Int)) (b:=((m.dirty.length:Nat):Int)) rfl rfl) rfl <| nT <| zac <| zan rfl zab (fun hg1 => ?_) (fun hg1 => ?_)
   ·
    replace h := ite_t hg1 h
    refine kT <| zac <| zaw <| sR <| oM rfl rfl <| oV (zay (i:=x13) rfl rfl rfl (by omega) foc5 (Reads.sl _ _ _) Tryz.runUnderlying34 Tryz.sizeOf4) rfl <| oV (za6 rfl rfl (by omega) foc5 (Reads.sl _ _ _) rfl rfl Tryz.isAgg4) rfl <| oA rfl rfl <| oA rfl rfl <| nT <| sR <| oM rfl rfl <| nT <| zan rfl Iff.rfl (fun hg2 => ?_) (fun hg2 => ?_)
    ·
     replace h := ite_t hg2 h
     refine zaf <| oM rfl rfl <| oM rfl rfl <| oO <| zbf rfl (zhn _) rfl fun b17 => ?_
     obtain ⟨hg3,h⟩ := zfo h
     exact oO <| zc9 (t:=tyI) (bytes:=8) rfl rfl del1 foc0 (Reads.lit (t:=tyI) (ys:=[((x13:Nat):Int)]) rfl rfl (by decide) (by decide) rfl) Tryz.underlying45 zkq (apl (m:=1) (b:=8) hg3 (by decide)).1 (apl (m:=1) (b:=8) hg3 (by decide)).2 rfl fun p19 c20=>oA rfl rfl <| zap <| zao <| zas (t0_ (t1_ (t1_ (t1_ (t1_ (t1_ (t1_ (eD eR)))))))) <| zam <| zaf <| oP (PJ_eq (P_add (a:=((x13:Nat):Int)) (b:=(1:Int)) rfl rfl (by omega)) rfl) rfl <| oM rfl rfl <| zap <| nR ⟨n,(x13 + 1),(x14 ++ [((x13:Nat):Int)]),⟨p19,(x14 ++ [((x13:Nat):Int)]).length,c20⟩⟩ h ⟨rfl,rfl,True.intro⟩ eR
    ·
     replace h := ite_f hg2 h
     exact zbr <| zao <| zam <| zaf <| oP (PJ_eq (P_add (a:=((x13:Nat):Int)) (b:=(1:Int)) rfl rfl (by omega)) rfl) rfl <| oM rfl rfl <| zap <| nR ⟨n,(x13 + 1),x14,hd15⟩ h ⟨rfl,rfl,True.intro⟩ eR
   ·
    replace h := ite_f hg1 h
    exact zbj <| za3 <| za2 <| za0 <| cR ⟨x14,hd15⟩ (Option.some.inj h).symm ⟨rfl,True.intro⟩ eR
 ·
  rintro ⟨a12,hd11⟩ hy21
  replace h := zd2 hK8 hy21
  show CJ _ _ _ _ _ (([(3,hd11.v)]:Slots) ++ forget _ _) (sl tyI hd11.v a12::_)
  refine lC del0 fun hlen22=>sR <| oM rfl rfl <| oA rfl rfl <| nT <| zah <| zas (Ent.trans (t1_ (t1_ (t1_ (t1_ (t1_ eR))))) (zbn (v0:=m.legs) (v1:=m.log) (v2:=m.hasLog) (v3:=m.logState) (v4:=m.size) (v5:=m.region) (v6:=m.dirty) (v7:=m.copied) (h0:=oc1.1) (h1:=oc1.2.1) (h2:=oc1.2.2.1) (h3:=oc1.2.2.2))) ?_
  cases h
  exact fE (res1 Tryz.results22 rfl) hd11 (t0_ (t1_ eR))
def zic (m:MirS) (r_1:Int) (s:ArrS):Option (Int) :=
  grd (inI64 ((r_1 + (1:Int)))) <|
  grd (inI64 (((r_1 + (1:Int)) * m.region))) <|
  some ((min (((r_1 + (1:Int)) * m.region)) m.size))
theorem zms {W:World} {bm:Nat} {bs:Nat} {m:MirS} {r_1:Int} {s:ArrS} {r:Int} (h:zic m r_1 s=some r) :
    CSpec Tryz.prog W 59 [ptr bm 0,.int .i64 r_1] [MirP bs bm m,Arr bs s] (fun x:Unit => .int .i64 r) (fun _=>True) (fun x F=>MirP bs bm m::Arr bs s::F) := by
 refine CSpec.of_body Tryz.func59 rfl Tryz.ntmps59 rfl fun F => ?_
 show CJ _ _ _ _ _ _ (_::_::F)
 unfold zic at h
 refine sR <| oA rfl rfl <| nT <| zac <| zbc 0 (by kernel_rfl) rfl <| aN 0 1 rfl rfl (zaj rfl) rfl ?_
 obtain ⟨hg1,h⟩ := zd7 h
 refine aN 1 3 rfl rfl (P_add (a:=r_1) (b:=(1:Int)) rfl rfl hg1) rfl <| aN 2 7 rfl rfl (zaj rfl) rfl <| aN 3 15 rfl rfl (zae rfl) rfl <| aN 4 31 rfl rfl (zaa rfl ⟨_,_,_,Tryz.runUnderlying119,rfl,rfl,Tryz.sizeOf3,rfl⟩) rfl <| aV 5 63 rfl rfl (zak rfl) eR (zil (Ent.transX (t0_ eR) (zba (l:=m))) (fun _=>zag rfl foc0 rfl Tryz.isAgg3)) rfl ?_
 obtain ⟨hg2,h⟩ := zd7 h
 refine aN 6 127 rfl rfl (P_mul (a:=(r_1 + (1:Int))) (b:=m.region) rfl rfl hg2) rfl <| aN 7 255 rfl rfl (zaj rfl) rfl <| aN 8 511 rfl rfl (zae rfl) rfl <| aN 9 1023 rfl rfl (zaa rfl ⟨_,_,_,Tryz.runUnderlying119,rfl,rfl,Tryz.sizeOf3,rfl⟩) rfl <| aV 10 2047 rfl rfl (zak rfl) eR (zil (Ent.transX (t0_ eR) (zba (l:=m))) (fun _=>zag rfl foc0 rfl Tryz.isAgg3)) rfl <| aN 11 4095 rfl rfl (P_min (a:=((r_1 + (1:Int)) * m.region)) (b:=m.size) rfl rfl) rfl <| aN 12 8191 rfl rfl (zb0 rfl) rfl <| aD <| zah ?_
 cases h
 exact fE (res1 Tryz.results59 rfl) () eR
def zhi (m:MirS) (s:ArrS) (r1:(List Int)) (rec:Nat→Int→Option (Int)) (x10:Nat) (x11:Int):Option (Int) :=
  if (((x10:Nat):Int) < ((r1.length:Nat):Int)) then
    grd (inI64 (((r1.getD x10 0) * m.region))) <|
    Option.bind (zic m (r1.getD x10 0) s) fun r12 =>
    grd (inI64 ((r12 - ((r1.getD x10 0) * m.region)))) <|
    grd (inI64 ((x11 + (r12 - ((r1.getD x10 0) * m.region))))) <|
    grd (inN64 (x10 + 1)) <|
    rec (x10 + 1) ((x11 + (r12 - ((r1.getD x10 0) * m.region))))
  else
    some x11
def zfr (m:MirS) (s:ArrS) (r1:(List Int)):Nat→Nat→Int→Option (Int)
  | 0,_,_=>none
  | n + 1,x10,x11=>zhi m s r1 (zfr m s r1 n) x10 x11
end Go.Proofs
set_option linter.unusedSimpArgs false
set_option linter.unusedVariables false
set_option maxRecDepth 20000
set_option maxHeartbeats 4000000
namespace Go.Proofs
open Go.VG
def ziw (m:MirS) (s:ArrS):Option (Int) :=
  grd (inI64 (0 - m.copied)) <|
  Option.bind (zep m s) fun r1 =>
  Option.bind (zfr m s r1 FUEL 0 (0 - m.copied)) fun a9 =>
  some a9
theorem zp1 {W:World} {bm:Nat} {bs:Nat} {m:MirS} {s:ArrS} {r:Int} (h:ziw m s=some r) :
    CSpec Tryz.prog W 65 [ptr bm 0] [MirP bs bm m,Arr bs s] (fun x:Unit => .int .i64 r) (fun _=>True) (fun x F=>MirP bs bm m::Arr bs s::F) := by
 refine CSpec.of_body Tryz.func65 rfl Tryz.ntmps65 rfl fun F => ?_
 show CJ _ _ _ _ _ _ (_::_::F)
 unfold ziw at h
 refine sR <| oA rfl rfl <| nT <| sR <| oM rfl rfl <| oP (zae rfl) rfl <| oP (zaa rfl ⟨_,_,_,Tryz.runUnderlying119,rfl,rfl,Tryz.sizeOf3,rfl⟩) rfl <| oV (zil (Ent.transX (t0_ eR) (zba (l:=m))) (fun _=>zag rfl foc0 rfl Tryz.isAgg3)) rfl ?_
 obtain ⟨hg1,h⟩ := zd7 h
 refine oP (P_neg rfl hg1) rfl <| oA rfl rfl <| nT <| zac <| sR <| oM rfl rfl ?_
 obtain ⟨r1,hr2,h⟩ := zar h
 refine oO <| zat (zhy hr2) rfl Tryz.call22 (Dels.cons del0 (Dels.cons del0 Dels.nil)) rfl fun X3 _=>oV (V_len rfl foc2 (Reads.sl _ _ _) Tryz.runUnderlying45) rfl <| oM rfl rfl <| nT ?_
 obtain ⟨y7,hl5,hK6⟩ := zfw h
 refine zbv (X:=Int) [3,5,14,15,16,17,18,19,20,21,22,23,24,25,26,27,28,29,30] (fun a9=>([(3,.int .i64 a9)]:Slots)) (fun a9 R=>R) (fun a9=>y7=a9) Dels.nil ?_ ?_
 ·
  refine zaw <| zbd (X:=Nat × Nat × Int) [3,5,14,15,16,17,18,19,20,21,22,23,24,25,26,27,28,29,30] (fun ⟨n,x10,x11⟩=>([(3,.int .i64 x11),(14,.int .i64 (((x10:Nat):Int)))]:Slots)) (fun ⟨n,x10,x11⟩ R=>R) (fun ⟨n,x10,x11⟩=>zfr m s r1 n x10 x11=some y7) (fun ⟨n,x10,x11⟩=>n) ⟨FUEL,0,(0 - m.copied)⟩ ?_ ?_ eR ?_
  · exact hl5
  · exact ⟨rfl,rfl,True.intro⟩
  ·
   rintro ⟨n,x10,x11⟩ h
   cases n with
   | zero=>exact zbq h
   | succ n => ?_
   replace h:zhi m s r1 (zfr m s r1 n) x10 x11=some y7 := h
   unfold zhi at h
   show CJ _ _ _ _ _ (([(3,.int .i64 x11),(14,.int .i64 (((x10:Nat):Int)))]:Slots) ++ forget _ _) (_)
   refine sR <| oP (P_lss (a:=((x10:Nat):Int)) (b:=((r1.length:Nat):Int)) rfl rfl) rfl <| nT <| zac <| zan rfl zab (fun hg2 => ?_) (fun hg2 => ?_)
   ·
    replace h := ite_t hg2 h
    refine kT <| zac <| zaw <| sR <| oV (zay (i:=x10) rfl rfl rfl (by omega) foc2 (Reads.sl _ _ _) Tryz.runUnderlying45 Tryz.sizeOf3) rfl <| oV (za6 rfl rfl (by omega) foc2 (Reads.sl _ _ _) rfl rfl Tryz.isAgg3) rfl <| oA rfl rfl <| nT <| zbc 0 (by kernel_rfl) rfl <| aN 0 1 rfl rfl (zaj rfl) rfl <| aN 1 3 rfl rfl (zaj rfl) rfl <| aN 2 7 rfl rfl (zaj rfl) rfl <| aN 4 23 rfl rfl (zaj rfl) rfl <| aN 5 55 rfl rfl (zaj rfl) rfl <| aN 6 119 rfl rfl (zae rfl) rfl <| aN 7 247 rfl rfl (zaa rfl ⟨_,_,_,Tryz.runUnderlying119,rfl,rfl,Tryz.sizeOf3,rfl⟩) rfl <| aV 8 503 rfl rfl (zak rfl) eR (zil (Ent.transX (t0_ eR) (zba (l:=m))) (fun _=>zag rfl foc0 rfl Tryz.isAgg3)) rfl ?_
    obtain ⟨hg3,h⟩ := zd7 h
    refine aN 9 1015 rfl rfl (P_mul (a:=(r1.getD x10 0)) (b:=m.region) rfl rfl hg3) rfl ?_
    obtain ⟨r12,hr13,h⟩ := zar h
    refine AJ_op 3 1023 rfl (by kernel_rfl) rfl (zak rfl) <| zat (zms hr13) rfl Tryz.call59 (Dels.cons del0 (Dels.cons del0 Dels.nil)) rfl fun _ _=>⟨fun _=>eR,?_⟩
    obtain ⟨hg4,h⟩ := zd7 h
    refine aN 10 2047 rfl rfl (P_sub (a:=r12) (b:=((r1.getD x10 0) * m.region)) rfl rfl hg4) rfl ?_
    obtain ⟨hg5,h⟩ := zd7 h
    refine aN 11 4095 rfl rfl (P_add (a:=x11) (b:=(r12 - ((r1.getD x10 0) * m.region))) rfl rfl hg5) rfl <| aN 12 8191 rfl rfl (zb0 rfl) rfl <| zcd (by kernel_rfl) <| zao <| zam <| zaf ?_
    obtain ⟨hg6,h⟩ := zfg h
    exact oP (PJ_eq (P_add (a:=((x10:Nat):Int)) (b:=(1:Int)) rfl rfl (zfh hg6)) rfl) rfl <| oM rfl rfl <| zap <| nR ⟨n,(x10 + 1),(x11 + (r12 - ((r1.getD x10 0) * m.region)))⟩ h ⟨rfl,rfl,True.intro⟩ eR
   ·
    replace h := ite_f hg2 h
    exact zbj <| za3 <| za2 <| za0 <| cR x11 (Option.some.inj h).symm ⟨rfl,True.intro⟩ eR
 ·
  rintro a9 hy14
  replace h := zd2 hK6 hy14
  show CJ _ _ _ _ _ (([(3,.int .i64 a9)]:Slots) ++ forget _ _) (_)
  refine sR <| oM rfl rfl <| oA rfl rfl <| nT <| zah ?_
  cases h
  exact fE (res1 Tryz.results65 rfl) () (t0_ (t0_ (eD eR)))
def zhj (m:MirS) (k:Int) (rec:Nat→Nat→Option (Nat)) (x48:Nat) (x49:Nat):Option (Nat) :=
  if (((x48:Nat):Int) < ((m.legs.length:Nat):Int)) then
    if ((((x48:Nat):Int)≠k)∧((m.legs.getD x48 mleg_x0).state≠(2:Int))) then
      grd (inN64 (x49 + 1)) <|
      rec (x48 + 1) (x49 + 1)
    else
      rec (x48 + 1) x49
  else
    some x49
def zfs (m:MirS) (k:Int):Nat→Nat→Nat→Option (Nat)
  | 0,_,_=>none
  | n + 1,x48,x49=>zhj m k (zfs m k n) x48 x49
def zg4 (m:MirS) (k:Int) (s:ArrS):Option (Int × MirS) :=
  if ((k=((m.legs.length:Nat):Int))∧m.hasLog=true) then
    some (((0:Int), { m with log := none,logState := (2:Int) }))
  else
    if ((k < (0:Int))∨(((m.legs.length:Nat):Int)≤k)) then
      some (((1:Int),m))
    else
      Option.bind (zfs m k FUEL 0 0) fun a47 =>
      if (((a47:Nat):Int)=(0:Int)) then
        some (((19:Int),m))
      else
        grd (decide (0≤k∧k < (((m.legs.set ((k).toNat) { m.legs.getD ((k).toNat) mleg_x0 with state := (2:Int) })).length:Int))) <|
        some (((0:Int), { m with legs := (((m.legs.set ((k).toNat) { m.legs.getD ((k).toNat) mleg_x0 with state := (2:Int) })).set ((k).toNat) { ((m.legs.set ((k).toNat) { m.legs.getD ((k).toNat) mleg_x0 with state := (2:Int) })).getD ((k).toNat) mleg_x0 with copied := (0:Int) }) }))
theorem zp2 {W:World} {bm:Nat} {bs:Nat} {m:MirS} {k:Int} {s:ArrS} {r:Int × MirS} (h:zg4 m k s=some r) :
    CSpec Tryz.prog W 134 [ptr bm 0,.int .i64 k] [MirP bs bm m,Arr bs s] (fun x:Unit => .int .i64 r.1) (fun _=>True) (fun x F=>MirP bs bm r.2::Arr bs s::F) := by
 refine CSpec.of_body Tryz.func134 rfl Tryz.ntmps134 rfl fun F => ?_
 show CJ _ _ _ _ _ _ (_::_::F)
 unfold zg4 at h
 refine sR <| oA rfl rfl <| nT <| zac <| zac <| zax (Ent.transX (t0_ eR) (zba (l:=m))) fun oc1=>za1 (fun h hh=>za7 (zaq (del2 (A:=Rs (DevP bs) (m.legs.map mlegS.dev) oc1.2.1)).out h hh)) fun hdl3=>lC del1 fun hlen4 => ?_
 rw [zai (by have := hdl3; simpa using this)] at hlen4
 refine lC del4 fun hlen5=>zaf <| oM rfl rfl <| oM rfl rfl <| oP (zae rfl) rfl <| oP (zaa rfl ⟨_,_,_,Tryz.runUnderlying119,rfl,rfl,Tryz.sizeOf115,rfl⟩) rfl <| oV (zag rfl foc0 rfl Tryz.isAgg115) rfl <| oV (VJ_eq (V_len rfl foc1 (Reads.sl _ _ _) Tryz.runUnderlying115) (congrArg (fun z:Nat=>Value.int .i64 (z:Int)) (zai (by have := hdl3; simpa using this)).symm)) rfl <| oP (P_eql (a:=k) (b:=((m.legs.length:Nat):Int)) rfl rfl) rfl <| oM rfl rfl <| zbk rfl rfl rfl (fun hG6=>have hP7:(k=((m.legs.length:Nat):Int)) := (zab).1 hG6; VJ_P (zaj rfl)) <| zbk rfl rfl rfl (fun hG8=>have hP9:(k=((m.legs.length:Nat):Int)) := (zab).1 hG8; VJ_P (zae (mbx hG8 rfl))) <| zbk rfl rfl rfl (fun hG10=>have hP11:(k=((m.legs.length:Nat):Int)) := (zab).1 hG10; VJ_P (zaa (mbx hG10 rfl) ⟨_,_,_,Tryz.runUnderlying119,rfl,rfl,Tryz.sizeOf4,rfl⟩)) <| zbk rfl rfl rfl (fun hG12=>have hP13:(k=((m.legs.length:Nat):Int)) := (zab).1 hG12; zag (mbx hG12 rfl) foc0 rfl Tryz.isAgg4) <| oP (zd1 rfl (fun hh=>mbx hh rfl) rfl) rfl <| zap <| zas (Ent.trans eR (zbn (v0:=m.legs) (v1:=m.log) (v2:=m.hasLog) (v3:=m.logState) (v4:=m.size) (v5:=m.region) (v6:=m.dirty) (v7:=m.copied) (h0:=oc1.1) (h1:=oc1.2.1) (h2:=oc1.2.2.1) (h3:=oc1.2.2.2))) <| zam <| zan rfl (zc3 zab Iff.rfl) (fun hg1 => ?_) (fun hg1 => ?_)
 ·
  replace h := ite_t hg1 h
  refine zac <| zax (Ent.transX (t0_ eR) (zba (l:=m))) fun oc14=>za1 (fun h hh=>za7 (zaq (del2 (A:=Rs (DevP bs) (m.legs.map mlegS.dev) oc14.2.1)).out h hh)) fun hdl16=>lC del1 fun hlen17 => ?_
  rw [zai (by have := hdl16; simpa using this)] at hlen17
  refine lC del4 fun hlen18=>zaf <| oM rfl rfl <| oM rfl rfl <| oP (zae rfl) rfl <| oP (zaa rfl ⟨_,_,_,Tryz.runUnderlying119,rfl,rfl,Tryz.sizeOf116,rfl⟩) rfl <| oO <| zbu rfl rfl foc0 rfl rfl Tryz.sizeOf116 <| oP (zae rfl) rfl <| oP (zaa rfl ⟨_,_,_,Tryz.runUnderlying119,rfl,rfl,Tryz.sizeOf117,rfl⟩) rfl <| oO <| zbu rfl rfl foc0 rfl rfl Tryz.sizeOf117 <| zap <| zas (Ent.trans (t0_ (t0_ (t0_ (Ent.trans (fun h hh=>zb8 h hh) <| t0_ (t1_ eR))))) (zbn (v0:=m.legs) (v1:=none) (v2:=m.hasLog) (v3:=(2:Int)) (v4:=m.size) (v5:=m.region) (v6:=m.dirty) (v7:=m.copied) (h0:=oc14.1) (h1:=oc14.2.1) (h2:=0) (h3:=oc14.2.2.2))) <| zam <| sR <| oA rfl rfl <| nT <| zah <| zad ?_
  cases h
  exact fE (res1 Tryz.results134 rfl) () (t0_ (t1_ (eD eR)))
 ·
  replace h := ite_f hg1 h
  refine kT <| zac <| zac <| zax (Ent.transX (t0_ eR) (zba (l:=m))) fun oc19=>za1 (fun h hh=>za7 (zaq (del2 (A:=Rs (DevP bs) (m.legs.map mlegS.dev) oc19.2.1)).out h hh)) fun hdl21=>lC del1 fun hlen22 => ?_
  rw [zai (by have := hdl21; simpa using this)] at hlen22
  refine lC del4 fun hlen23=>zaf <| oM rfl rfl <| oP (P_lss (a:=k) (b:=(0:Int)) rfl rfl) rfl <| oM rfl rfl <| zaz rfl rfl rfl (fun hG24=>have hP25:¬ (k < (0:Int)) := nP (zab) hG24; VJ_P (zaj rfl)) <| zaz rfl rfl rfl (fun hG26=>have hP27:¬ (k < (0:Int)) := nP (zab) hG26; VJ_P (zaj rfl)) <| zaz rfl rfl rfl (fun hG28=>have hP29:¬ (k < (0:Int)) := nP (zab) hG28; VJ_P (zae (mbx hG28 rfl))) <| zaz rfl rfl rfl (fun hG30=>have hP31:¬ (k < (0:Int)) := nP (zab) hG30; VJ_P (zaa (mbx hG30 rfl) ⟨_,_,_,Tryz.runUnderlying119,rfl,rfl,Tryz.sizeOf115,rfl⟩)) <| zaz rfl rfl rfl (fun hG32=>have hP33:¬ (k < (0:Int)) := nP (zab) hG32; zag (mbx hG32 rfl) foc0 rfl Tryz.isAgg115) <| zaz rfl rfl rfl (fun hG34=>have hP35:¬ (k < (0:Int)) := nP (zab) hG34; VJ_eq (V_len (mbx hG34 rfl) foc1 (Reads.sl _ _ _) Tryz.runUnderlying115) (congrArg (fun z:Nat=>Value.int .i64 (z:Int)) (zai (by have := hdl21; simpa using this)).symm)) <| zaz rfl rfl rfl (fun hG36=>have hP37:¬ (k < (0:Int)) := nP (zab) hG36; VJ_P (P_geq (a:=k) (b:=((m.legs.length:Nat):Int)) (mbx hG36 rfl) (mbx hG36 rfl))) <| oP (zcw rfl rfl (fun hh=>mbx (not_f hh) rfl)) rfl <| zap ?_
  refine zas (Ent.trans eR (zbn (v0:=m.legs) (v1:=m.log) (v2:=m.hasLog) (v3:=m.logState) (v4:=m.size) (v5:=m.region) (v6:=m.dirty) (v7:=m.copied) (h0:=oc19.1) (h1:=oc19.2.1) (h2:=oc19.2.2.1) (h3:=oc19.2.2.2))) <| zam <| zan rfl (bT_or zab zab) (fun hg2 => ?_) (fun hg2 => ?_)
  ·
   replace h := ite_t hg2 h
   refine sR <| oA rfl rfl <| nT <| zah <| zad ?_
   cases h
   exact fE (res1 Tryz.results134 rfl) () eR
  ·
   replace h := ite_f hg2 h
   refine kT <| sR <| oA rfl rfl <| nT <| zac <| zac <| zax (Ent.transX (t0_ eR) (zba (l:=m))) fun oc38=>za1 (fun h hh=>za7 (zaq (del2 (A:=Rs (DevP bs) (m.legs.map mlegS.dev) oc38.2.1)).out h hh)) fun hdl40=>lC del1 fun hlen41 => ?_
   rw [zai (by have := hdl40; simpa using this)] at hlen41
   refine lC del4 fun hlen42=>zaf <| oM rfl rfl <| oP (zae rfl) rfl <| oP (zaa rfl ⟨_,_,_,Tryz.runUnderlying119,rfl,rfl,Tryz.sizeOf115,rfl⟩) rfl <| oV (zag rfl foc0 rfl Tryz.isAgg115) rfl <| oV (VJ_eq (V_len rfl foc1 (Reads.sl _ _ _) Tryz.runUnderlying115) (congrArg (fun z:Nat=>Value.int .i64 (z:Int)) (zai (by have := hdl40; simpa using this)).symm)) rfl <| oM rfl rfl <| nT ?_
   obtain ⟨y45,hl43,hK44⟩ := zfw h
   refine zbv (X:=Nat) [5,6,7,43,44,45,46,47,48,49,50,51,52,53,54,55,56,57,58] (fun a47=>([(5,.int .i64 (((a47:Nat):Int)))]:Slots)) (fun a47 R=>R) (fun a47=>y45=a47) Dels.nil ?_ ?_
   ·
    refine zaw <| zbd (X:=Nat × Nat × Nat) [5,6,7,43,44,45,46,47,48,49,50,51,52,53,54,55,56,57,58] (fun ⟨n,x48,x49⟩=>([(5,.int .i64 (((x49:Nat):Int))),(43,.int .i64 (((x48:Nat):Int)))]:Slots)) (fun ⟨n,x48,x49⟩ R=>R) (fun ⟨n,x48,x49⟩=>zfs m k n x48 x49=some y45) (fun ⟨n,x48,x49⟩=>n) ⟨FUEL,0,0⟩ ?_ ?_ eR ?_
    · exact hl43
    · exact ⟨rfl,rfl,True.intro⟩
    ·
     rintro ⟨n,x48,x49⟩ h
     cases n with
     | zero=>exact zbq h
     | succ n => ?_
     replace h:zhj m k (zfs m k n) x48 x49=some y45 := h
     unfold zhj at h
     show CJ _ _ _ _ _ (([(5,.int .i64 (((x49:Nat):Int))),(43,.int .i64 (((x48:Nat):Int)))]:Slots) ++ forget _ _) (_)
     refine sR <| oP (P_lss (a:=((x48:Nat):Int)) (b:=((m.legs.length:Nat):Int)) rfl rfl) rfl <| nT <| zac <| zan rfl zab (fun hg3 => ?_) (fun hg3 => ?_)
     ·
      replace h := ite_t hg3 h
      refine kT <| zac <| zaw <| sR <| oM rfl rfl <| oV (zay (i:=x48) rfl rfl rfl (show x48 < (zav m.legs oc38.2.1).length by rw [zai (by have := hdl40; simpa using this)]; exact (by omega)) foc1 (Reads.sl _ _ _) Tryz.runUnderlying115 Tryz.sizeOf129) rfl <| zbb (Ent.trans (t2_ eR) (zfk (i:=x48) (by omega))) <| oV (VJ_eq (zh1 rfl rfl (show x48 < (zav m.legs oc38.2.1).length by rw [zai (by have := hdl40; simpa using this)]; exact (by omega)) foc3 (Reads.sl _ _ _) rfl rfl Tryz.isAgg129 Tryz.sizeOf129) (show Value.agg #[IfH.v (oc38.2.1.getD x48 tyDev.dflt),.int .i64 ((m.legs.getD x48 mleg_x0).state),.int .i64 ((m.legs.getD x48 mleg_x0).copied)]=Value.agg #[IfH.v ((zav m.legs oc38.2.1).getD x48 zbz).dev,.int .i64 ((zav m.legs oc38.2.1).getD x48 zbz).state,.int .i64 ((zav m.legs oc38.2.1).getD x48 zbz).copied] from by rw [zb2 (by have := hdl40; simpa using this)])) rfl <| oO <| zes Tryz.zeroValue129 rfl rfl fun b51=>oA rfl rfl <| oO <| zfm rfl rfl foc0 Tryz.sizeOf129 rfl rfl rfl <| nT <| sR <| oM rfl rfl <| oM rfl rfl <| oP (P_neq (a:=((x48:Nat):Int)) (b:=k) rfl rfl) rfl <| oM rfl rfl <| zbk rfl rfl rfl (fun hG52=>have hP53:(((x48:Nat):Int)≠k) := (zab).1 hG52; VJ_P (zaa rfl ⟨_,_,_,Tryz.runUnderlying129,rfl,rfl,Tryz.sizeOf117,rfl⟩)) ?_
      refine zbk rfl rfl rfl (fun hG54=>have hP55:(((x48:Nat):Int)≠k) := (zab).1 hG54; zag (mbx hG54 rfl) foc0 rfl Tryz.isAgg117) <| zbk rfl rfl rfl (fun hG56=>have hP57:(((x48:Nat):Int)≠k) := (zab).1 hG56; VJ_P (P_neq (a:=(m.legs.getD x48 mleg_x0).state) (b:=(2:Int)) (mbx hG56 rfl) rfl)) <| oP (zd1 rfl (fun hh=>mbx hh rfl) rfl) rfl <| zap <| zas (t2_ (t2_ (t2_ (t2_ (t2_ (t2_ (eD (eD eR)))))))) <| zam <| zan rfl (zc3 zab zab) (fun hg4 => ?_) (fun hg4 => ?_)
      ·
       replace h := ite_t hg4 h
       refine zaf <| oM rfl rfl ?_
       obtain ⟨hg5,h⟩ := zfg h
       exact oP (PJ_eq (P_add (a:=((x49:Nat):Int)) (b:=(1:Int)) rfl rfl (zfh hg5)) rfl) rfl <| oA rfl rfl <| zap <| zao <| zam <| zaf <| oP (PJ_eq (P_add (a:=((x48:Nat):Int)) (b:=(1:Int)) rfl rfl (by omega)) rfl) rfl <| oM rfl rfl <| zap <| nR ⟨n,(x48 + 1),(x49 + 1)⟩ h ⟨rfl,rfl,True.intro⟩ (t1_ (t1_ eR))
      ·
       replace h := ite_f hg4 h
       exact zbr <| zao <| zam <| zaf <| oP (PJ_eq (P_add (a:=((x48:Nat):Int)) (b:=(1:Int)) rfl rfl (by omega)) rfl) rfl <| oM rfl rfl <| zap <| nR ⟨n,(x48 + 1),x49⟩ h ⟨rfl,rfl,True.intro⟩ (t1_ (t1_ eR))
     ·
      replace h := ite_f hg3 h
      exact zbj <| za3 <| za2 <| za0 <| cR x49 (Option.some.inj h).symm ⟨rfl,True.intro⟩ eR
   ·
    rintro a47 hy58
    replace h := zd2 hK44 hy58
    show CJ _ _ _ _ _ (([(5,.int .i64 (((a47:Nat):Int)))]:Slots) ++ forget _ _) (_)
    refine zac <| sR <| oM rfl rfl <| oP (P_eql (a:=((a47:Nat):Int)) (b:=(0:Int)) rfl rfl) rfl <| nT <| zan rfl zab (fun hg6 => ?_) (fun hg6 => ?_)
    ·
     replace h := ite_t hg6 h
     refine sR <| oA rfl rfl <| nT <| zah <| zad <| zas (Ent.trans eR (zbn (v0:=m.legs) (v1:=m.log) (v2:=m.hasLog) (v3:=m.logState) (v4:=m.size) (v5:=m.region) (v6:=m.dirty) (v7:=m.copied) (h0:=oc38.1) (h1:=oc38.2.1) (h2:=oc38.2.2.1) (h3:=oc38.2.2.2))) ?_
     cases h
     exact fE (res1 Tryz.results134 rfl) () eR
    ·
     replace h := ite_f hg6 h
     refine kT <| zac <| zn6 [blk bm 119 [(Sl3.v oc38.1),oval m.log oc38.2.2.1,.bool m.hasLog,.int .i64 m.logState,.int .i64 m.size,.int .i64 m.region,(Sl3.v oc38.2.2.2),.int .i64 m.copied],optP (LogP bs oc38.2.2.1) m.log,sl tyB (Sl3.v oc38.2.2.2) m.dirty,Arr bs s] 32768 (by kernel_rfl) rfl <| aN 0 1 rfl rfl (zaj rfl) rfl <| aN 1 3 rfl rfl (zae rfl) rfl <| aN 2 7 rfl rfl (zaa rfl ⟨_,_,_,Tryz.runUnderlying119,rfl,rfl,Tryz.sizeOf115,rfl⟩) rfl <| aV 3 15 rfl rfl (zak rfl) (t0_ (t2_ (t2_ (t2_ Ent.done)))) (zag rfl foc0 rfl Tryz.isAgg115) rfl <| aN 4 31 rfl rfl (zaj rfl) rfl <| aN 5 63 rfl rfl (zaj rfl) rfl <| aN 6 127 rfl rfl (zae rfl) rfl <| aN 7 255 rfl rfl (zaa rfl ⟨_,_,_,Tryz.runUnderlying119,rfl,rfl,Tryz.sizeOf115,rfl⟩) rfl <| aV 8 511 rfl rfl (zak rfl) (t0_ (t2_ (t2_ (t2_ Ent.done)))) (zag rfl foc0 rfl Tryz.isAgg115) rfl <| aN 9 1023 rfl rfl (zaj rfl) rfl <| AJ_op 10 2047 rfl (by kernel_rfl) rfl (zak rfl) <| OJ_V (zay (i:=(k).toNat) rfl rfl (Int.toNat_of_nonneg (by omega)).symm (show (k).toNat < (zav m.legs oc38.2.1).length by rw [zai (by have := hdl40; simpa using this)]; exact (by omega)) foc1 (Reads.sl _ _ _) Tryz.runUnderlying115 Tryz.sizeOf129) rfl <| ⟨fun _=>(t0_ (t2_ (t2_ (t2_ Ent.done)))),?_⟩
     refine aN 11 4095 rfl rfl (zbe rfl ⟨_,_,_,Tryz.runUnderlying129,rfl,rfl,Tryz.sizeOf117,rfl⟩) rfl <| AJ_op 12 8191 rfl (by kernel_rfl) rfl (zak rfl) <| zea (x' := { (zav m.legs oc38.2.1).getD ((k).toNat) zbz with state := (2:Int) }) rfl rfl rfl (show (k).toNat < (zav m.legs oc38.2.1).length by rw [zai (by have := hdl40; simpa using this)]; exact (by omega)) foc1 rfl rfl rfl Tryz.sizeOf117 <| ⟨fun _=>(t0_ (t2_ (t2_ (t2_ Ent.done)))),?_⟩
     refine zey (Ent.takeC (A' := sl zdp (Sl3.v oc38.1) (zav (m.legs.set ((k).toNat) { m.legs.getD ((k).toNat) mleg_x0 with state := (2:Int) }) oc38.2.1)) del1 (congrArg (sl zdp (Sl3.v oc38.1)) (zll (by have := hdl40; simpa using this) (by omega) (2:Int))) (Ent.takeC (A' := Rs (DevP bs) (((m.legs.set ((k).toNat) { m.legs.getD ((k).toNat) mleg_x0 with state := (2:Int) })).map mlegS.dev) oc38.2.1) del1 (congrArg (fun z=>Rs (DevP bs) z oc38.2.1) (zlm (l:=m.legs) (i:=((k).toNat)) (2:Int)).symm) eR)) <| zh9 (fun h hh=>za7 (zaq (del1 (A:=Rs (DevP bs) ((((m.legs.set ((k).toNat) { m.legs.getD ((k).toNat) mleg_x0 with state := (2:Int) })).map mlegS.dev)) oc38.2.1)).out h hh)) fun hdl59 => ?_
     obtain ⟨hg7,h⟩ := zbt h
     refine AJ_op 13 16383 rfl (by kernel_rfl) rfl (zak rfl) <| OJ_V (zay (i:=(k).toNat) rfl rfl (Int.toNat_of_nonneg (hg7.1)).symm (show (k).toNat < (zav ((m.legs.set ((k).toNat) { m.legs.getD ((k).toNat) mleg_x0 with state := (2:Int) })) oc38.2.1).length by rw [zai (by have := hdl59; simpa using this)]; exact (by omega)) foc0 (Reads.sl _ _ _) Tryz.runUnderlying115 Tryz.sizeOf129) rfl <| ⟨fun _=>(t2_ (t2_ (t2_ (t2_ Ent.done)))),?_⟩
     refine aN 14 32767 rfl rfl (zbe rfl ⟨_,_,_,Tryz.runUnderlying129,rfl,rfl,Tryz.sizeOf3,rfl⟩) rfl <| AJ_op 15 65535 rfl (by kernel_rfl) rfl (zak rfl) <| zea (x' := { (zav ((m.legs.set ((k).toNat) { m.legs.getD ((k).toNat) mleg_x0 with state := (2:Int) })) oc38.2.1).getD ((k).toNat) zbz with copied := (0:Int) }) rfl rfl rfl (show (k).toNat < (zav ((m.legs.set ((k).toNat) { m.legs.getD ((k).toNat) mleg_x0 with state := (2:Int) })) oc38.2.1).length by rw [zai (by have := hdl59; simpa using this)]; exact (by omega)) foc0 rfl rfl rfl Tryz.sizeOf3 <| ⟨fun h=>absurd h (by decide),?_⟩
     refine zey (Ent.takeC (A' := sl zdp (Sl3.v oc38.1) (zav (((m.legs.set ((k).toNat) { m.legs.getD ((k).toNat) mleg_x0 with state := (2:Int) })).set ((k).toNat) { ((m.legs.set ((k).toNat) { m.legs.getD ((k).toNat) mleg_x0 with state := (2:Int) })).getD ((k).toNat) mleg_x0 with copied := (0:Int) }) oc38.2.1)) del0 (congrArg (sl zdp (Sl3.v oc38.1)) (zk2 (by have := hdl59; simpa using this) (by omega) (0:Int))) (Ent.takeC (A' := Rs (DevP bs) (((((m.legs.set ((k).toNat) { m.legs.getD ((k).toNat) mleg_x0 with state := (2:Int) })).set ((k).toNat) { ((m.legs.set ((k).toNat) { m.legs.getD ((k).toNat) mleg_x0 with state := (2:Int) })).getD ((k).toNat) mleg_x0 with copied := (0:Int) })).map mlegS.dev) oc38.2.1) del0 (congrArg (fun z=>Rs (DevP bs) z oc38.2.1) (zk3 (l:=((m.legs.set ((k).toNat) { m.legs.getD ((k).toNat) mleg_x0 with state := (2:Int) }))) (i:=((k).toNat)) (0:Int)).symm) eR)) <| zh9 (fun h hh=>za7 (zaq (del1 (A:=Rs (DevP bs) ((((((m.legs.set ((k).toNat) { m.legs.getD ((k).toNat) mleg_x0 with state := (2:Int) })).set ((k).toNat) { ((m.legs.set ((k).toNat) { m.legs.getD ((k).toNat) mleg_x0 with state := (2:Int) })).getD ((k).toNat) mleg_x0 with copied := (0:Int) })).map mlegS.dev)) oc38.2.1)).out h hh)) fun hdl60=>aD <| sR <| oA rfl rfl <| nT <| zah ?_
     refine zas (Ent.trans (t2_ eR) (zbn (v0:=(((m.legs.set ((k).toNat) { m.legs.getD ((k).toNat) mleg_x0 with state := (2:Int) })).set ((k).toNat) { ((m.legs.set ((k).toNat) { m.legs.getD ((k).toNat) mleg_x0 with state := (2:Int) })).getD ((k).toNat) mleg_x0 with copied := (0:Int) })) (v1:=m.log) (v2:=m.hasLog) (v3:=m.logState) (v4:=m.size) (v5:=m.region) (v6:=m.dirty) (v7:=m.copied) (h0:=oc38.1) (h1:=oc38.2.1) (h2:=oc38.2.2.1) (h3:=oc38.2.2.2))) ?_
     cases h
     exact fE (res1 Tryz.results134 rfl) () eR
def zg5 (m:MirS) (at_1:Int) (s:ArrS) (rec:Nat→(List Int)→Option (((List Int)) ⊕ (UInt64 × Int × (List Int) × Int × MirS))) (x13:Nat) (x14:List Int):Option (((List Int)) ⊕ (UInt64 × Int × (List Int) × Int × MirS)) :=
  if (((x13:Nat):Int) < ((m.legs.length:Nat):Int)) then
    if ((m.legs.getD x13 mleg_x0).state≠(0:Int)) then
      rec (x13 + 1) x14
    else
      Option.bind (Dvc.rd ((m.legs.getD x13 mleg_x0).dev) s at_1) fun r29 =>
      if (r29.2=(0:Int)) then
        some (.inr ((r29.1,((x13:Nat):Int),x14,(0:Int),m)))
      else
        if (r29.2=(7:Int)) then
          grd (inLen (x14.length + 1)) <|
          rec (x13 + 1) ((x14 ++ [((x13:Nat):Int)]))
        else
          Option.bind (zbg m (((x13:Nat):Int)) r29.2 s) fun r35 =>
          if (r35.1≠(0:Int)) then
            some (.inr (((0:UInt64),(0:Int),[],r35.1,r35.2)))
          else
            some (.inr (((0:UInt64),(0:Int),[],(18:Int),r35.2)))
  else
    some (.inl x14)
def zef (m:MirS) (at_1:Int) (s:ArrS):Nat→Nat→(List Int)→Option (((List Int)) ⊕ (UInt64 × Int × (List Int) × Int × MirS))
  | 0,_,_=>none
  | n + 1,x13,x14=>zg5 m at_1 s (zef m at_1 s n) x13 x14
def zjb (s:ArrS) (a12:(List Int)) (rec:MirS→Nat→Option (MirS)) (x46:MirS) (x47:Nat):Option (MirS) :=
  if (((x47:Nat):Int) < ((a12.length:Nat):Int)) then
    Option.bind (zbg x46 (a12.getD x47 0) (7:Int) s) fun r48 =>
    rec r48.2 (x47 + 1)
  else
    some x46
def ziq (s:ArrS) (a12:(List Int)):Nat→MirS→Nat→Option (MirS)
  | 0,_,_=>none
  | n + 1,x46,x47=>zjb s a12 (ziq s a12 n) x46 x47
def zeq (m:MirS) (at_1:Int) (s:ArrS):Option (UInt64 × Int × (List Int) × Int × MirS) :=
  seqO (zef m at_1 s FUEL 0 ([])) fun a12 =>
  Option.bind (ziq s a12 FUEL m 0) fun a45 =>
  some (((0:UInt64),(0:Int),[],(18:Int),a45))
theorem zlq {W:World} {bm:Nat} {vlm:Sl3} {bs:Nat} {m:MirS} {at_1:Int} {s:ArrS} {r:UInt64 × Int × (List Int) × Int × MirS} (h:zeq m at_1 s=some r) :
    CSpec Tryz.prog W 60 [ptr bm 0,.int .i64 at_1] [MirQ bs vlm bm m,Arr bs s] (fun x:Sl3 => .tuple #[.int .u64 (r.1.toNat:Int),.int .i64 r.2.1,x.v,.int .i64 r.2.2.2.1]) (fun _=>True) (fun x F=>MirQ bs vlm bm r.2.2.2.2::Arr bs s::sl tyI x.v r.2.2.1::F) := by
 refine CSpec.of_body Tryz.func60 rfl Tryz.ntmps60 rfl fun F => ?_
 show CJ _ _ _ _ _ _ (_::_::F)
 unfold zeq at h
 refine sR <| oA rfl rfl <| oA rfl rfl <| oA rfl rfl <| oA rfl rfl <| nT <| zac <| zac <| zax (Ent.transX (t0_ eR) (zcx (l:=m))) fun oc1=>za1 (fun h hh=>za7 (zaq (del2 (A:=Rs (DevP bs) (m.legs.map mlegS.dev) oc1.1)).out h hh)) fun hdl3=>lC del1 fun hlen4 => ?_
 rw [zai (by have := hdl3; simpa using this)] at hlen4
 refine lC del4 fun hlen5=>zaf <| oM rfl rfl <| oP (zae rfl) rfl <| oP (zaa rfl ⟨_,_,_,Tryz.runUnderlying119,rfl,rfl,Tryz.sizeOf115,rfl⟩) rfl <| oV (zag rfl foc0 rfl Tryz.isAgg115) rfl <| oV (VJ_eq (V_len rfl foc1 (Reads.sl _ _ _) Tryz.runUnderlying115) (congrArg (fun z:Nat=>Value.int .i64 (z:Int)) (zai (by have := hdl3; simpa using this)).symm)) rfl <| oM rfl rfl <| zap <| zas (Ent.trans eR (zdq (v0:=m.legs) (v1:=m.log) (v2:=m.hasLog) (v3:=m.logState) (v4:=m.size) (v5:=m.region) (v6:=m.dirty) (v7:=m.copied) (h0:=oc1.1) (h1:=oc1.2.1) (h2:=oc1.2.2))) <| zam <| zde (fun h hh=>zdj (t:=tyI) h hh) ?_
 obtain ⟨y9,hl7,hK8⟩ := seq_e h
 refine zbv (X:=(List Int) × Sl3) [4,5,6,7,8,9,10,11,19,20,21,22,23,24,25,26,27,28,29,30,31,32,33,34,35,36,37,38,39,40,41,42,43,44,45,46,47,48,49,50,51,52,53,54,55,56,57,58,59,60,61,62,63] (fun ⟨a12,hd11⟩=>([(6,hd11.v)]:Slots)) (fun ⟨a12,hd11⟩ R=>sl tyI hd11.v a12::R) (fun ⟨a12,hd11⟩=>y9 = .inl a12) (Dels.cons del0 Dels.nil) ?_ ?_
 ·
  refine zaw <| zbd (X:=Nat × Nat × (List Int) × Sl3) [4,5,6,7,8,9,10,11,19,20,21,22,23,24,25,26,27,28,29,30,31,32,33,34,35,36,37,38,39,40,41,42,43,44,45,46,47,48,49,50,51,52,53,54,55,56,57,58,59,60,61,62,63] (fun ⟨n,x13,x14,hd15⟩=>([(6,hd15.v),(19,.int .i64 (((x13:Nat):Int)))]:Slots)) (fun ⟨n,x13,x14,hd15⟩ R=>sl tyI hd15.v x14::R) (fun ⟨n,x13,x14,hd15⟩=>zef m at_1 s n x13 x14=some y9) (fun ⟨n,x13,x14,hd15⟩=>n) ⟨FUEL,0,[],⟨none,0,0⟩⟩ ?_ ?_ eR ?_
  · exact hl7
  · exact ⟨rfl,rfl,True.intro⟩
  ·
   rintro ⟨n,x13,x14,hd15⟩ h
   cases n with
   | zero=>exact zbq h
   | succ n => ?_
   replace h:zg5 m at_1 s (zef m at_1 s n) x13 x14=some y9 := h
   unfold zg5 at h
   show CJ _ _ _ _ _ (([(6,hd15.v),(19,.int .i64 (((x13:Nat):Int)))]:Slots) ++ forget _ _) (sl tyI hd15.v x14::_)
   refine lC del0 fun hlen16=>sR <| oP (P_lss (a:=((x13:Nat):Int)) (b:=((m.legs.length:Nat):Int)) rfl rfl) rfl <| nT <| zac <| zan rfl zab (fun hg1 => ?_) (fun hg1 => ?_)
   ·
    replace h := ite_t hg1 h
    refine kT <| zac <| zaw <| sR <| oM rfl rfl <| oA rfl rfl <| nT <| zac <| zac <| zax (Ent.transX (t1_ eR) (zcx (l:=m))) fun oc17=>za1 (fun h hh=>za7 (zaq (del2 (A:=Rs (DevP bs) (m.legs.map mlegS.dev) oc17.1)).out h hh)) fun hdl19=>lC del1 fun hlen20 => ?_
    rw [zai (by have := hdl19; simpa using this)] at hlen20
    refine lC del4 fun hlen21=>zaf <| oM rfl rfl <| oP (zae rfl) rfl <| oP (zaa rfl ⟨_,_,_,Tryz.runUnderlying119,rfl,rfl,Tryz.sizeOf115,rfl⟩) rfl <| oV (zag rfl foc0 rfl Tryz.isAgg115) rfl <| oM rfl rfl <| oV (zay (i:=x13) rfl rfl rfl (show x13 < (zav m.legs oc17.1).length by rw [zai (by have := hdl19; simpa using this)]; exact (by omega)) foc1 (Reads.sl _ _ _) Tryz.runUnderlying115 Tryz.sizeOf129) rfl <| oP (zbe rfl ⟨_,_,_,Tryz.runUnderlying129,rfl,rfl,Tryz.sizeOf117,rfl⟩) rfl <| oV (VJ_eq (za6 rfl rfl (show x13 < (zav m.legs oc17.1).length by rw [zai (by have := hdl19; simpa using this)]; exact (by omega)) foc1 (Reads.sl _ _ _) rfl rfl Tryz.isAgg117) (show (.int .i64 ((m.legs.getD x13 mleg_x0).state):Value) = .int .i64 ((zav m.legs oc17.1).getD x13 zbz).state from by rw [zb2 (by have := hdl19; simpa using this)])) rfl <| oP (P_neq (a:=(m.legs.getD x13 mleg_x0).state) (b:=(0:Int)) rfl rfl) rfl <| zap <| zas (Ent.trans eR (zdq (v0:=m.legs) (v1:=m.log) (v2:=m.hasLog) (v3:=m.logState) (v4:=m.size) (v5:=m.region) (v6:=m.dirty) (v7:=m.copied) (h0:=oc17.1) (h1:=oc17.2.1) (h2:=oc17.2.2))) <| zam <| zan rfl zab (fun hg2 => ?_) (fun hg2 => ?_)
    ·
     replace h := ite_t hg2 h
     exact zbj <| za3 <| za0 <| zam <| zaf <| oP (PJ_eq (P_add (a:=((x13:Nat):Int)) (b:=(1:Int)) rfl rfl (by omega)) rfl) rfl <| oM rfl rfl <| zap <| nR ⟨n,(x13 + 1),x14,hd15⟩ h ⟨rfl,rfl,True.intro⟩ (t1_ eR)
    ·
     replace h := ite_f hg2 h
     refine kT <| zac <| zax (Ent.transX (t0_ eR) (zcx (l:=m))) fun oc22=>za1 (fun h hh=>za7 (zaq (del2 (A:=Rs (DevP bs) (m.legs.map mlegS.dev) oc22.1)).out h hh)) fun hdl24=>lC del1 fun hlen25 => ?_
     rw [zai (by have := hdl24; simpa using this)] at hlen25
     refine lC del4 fun hlen26=>zaf <| oM rfl rfl <| oP (zae rfl) rfl <| oP (zaa rfl ⟨_,_,_,Tryz.runUnderlying119,rfl,rfl,Tryz.sizeOf115,rfl⟩) rfl <| oV (zag rfl foc0 rfl Tryz.isAgg115) rfl <| oM rfl rfl <| oV (zay (i:=x13) rfl rfl rfl (show x13 < (zav m.legs oc22.1).length by rw [zai (by have := hdl24; simpa using this)]; exact (by omega)) foc1 (Reads.sl _ _ _) Tryz.runUnderlying115 Tryz.sizeOf129) rfl <| oP (zbe rfl ⟨_,_,_,Tryz.runUnderlying129,rfl,rfl,Tryz.sizeOf96,rfl⟩) rfl <| zbb (Ent.trans (t2_ eR) (zfk (i:=x13) (by omega))) <| oV (VJ_eq (za6 rfl rfl (show x13 < (zav m.legs oc22.1).length by rw [zai (by have := hdl24; simpa using this)]; exact (by omega)) foc3 (Reads.sl _ _ _) rfl rfl Tryz.isAgg96) (show (IfH.v (oc22.1.getD x13 tyDev.dflt):Value)=IfH.v ((zav m.legs oc22.1).getD x13 zbz).dev from by rw [zb2 (by have := hdl24; simpa using this)])) rfl <| oM rfl rfl <| zcl (fun h hh=>zd3 h (zaq (del0 (A:=DevP bs ((m.legs.getD x13 mleg_x0).dev) (oc22.1.getD x13 tyDev.dflt))).out h hh)) fun hdp28 => ?_
     obtain ⟨r29,hr30,h⟩ := zar h
     refine oO <| zc8 rfl (zsc hr30 hdp28) rfl (Dels.cons del0 (Dels.cons del6 Dels.nil)) rfl fun _ _=>oM rfl rfl <| oP (za4 rfl rfl) rfl <| oP (za4 rfl rfl) rfl <| oA rfl rfl <| oA rfl rfl <| zap <| zas (Ent.trans (t3_ (t3_ (t2_ (t2_ (t2_ eR))))) (zdq (v0:=m.legs) (v1:=m.log) (v2:=m.hasLog) (v3:=m.logState) (v4:=m.size) (v5:=m.region) (v6:=m.dirty) (v7:=m.copied) (h0:=oc22.1) (h1:=oc22.2.1) (h2:=oc22.2.2))) <| zam <| zac <| sR <| oM rfl rfl <| nT <| zaw <| sR <| oP (P_eql (a:=r29.2) (b:=(0:Int)) rfl rfl) rfl <| oA rfl rfl <| nT <| zan rfl zab (fun hg3 => ?_) (fun hg3 => ?_)
     ·
      replace h := ite_t hg3 h
      refine sR <| oM rfl rfl <| oM rfl rfl <| oM rfl rfl <| oA rfl rfl <| oA rfl rfl <| oA rfl rfl <| oA rfl rfl <| nT <| zah <| zau <| zad <| zau <| zad <| za9 <| zau <| zad ?_
      have hE := Option.some.inj h
      replace hE := zce hK8 hE.symm
      subst hE
      exact fE (res4 Tryz.results60 rfl rfl rfl rfl) hd15 (t0_ (t1_ (t1_ (eD eR))))
     ·
      replace h := ite_f hg3 h
      refine sR <| oP (P_eql (a:=r29.2) (b:=(7:Int)) rfl rfl) rfl <| oA rfl rfl <| nT <| zan rfl zab (fun hg4 => ?_) (fun hg4 => ?_)
      ·
       replace h := ite_t hg4 h
       refine sR <| oM rfl rfl <| oM rfl rfl <| oO <| zbf rfl (zhn _) rfl fun b31 => ?_
       obtain ⟨hg5,h⟩ := zfo h
       exact oO <| zc9 (t:=tyI) (bytes:=8) rfl rfl del4 foc0 (Reads.lit (t:=tyI) (ys:=[((x13:Nat):Int)]) rfl rfl (by decide) (by decide) rfl) Tryz.underlying45 zkq (apl (m:=1) (b:=8) hg5 (by decide)).1 (apl (m:=1) (b:=8) hg5 (by decide)).2 rfl fun p33 c34=>oA rfl rfl <| nT <| zbj <| zla rfl <| za3 <| za0 <| zam <| zaf <| oP (PJ_eq (P_add (a:=((x13:Nat):Int)) (b:=(1:Int)) rfl rfl (by omega)) rfl) rfl <| oM rfl rfl <| zap <| nR ⟨n,(x13 + 1),(x14 ++ [((x13:Nat):Int)]),⟨p33,(x14 ++ [((x13:Nat):Int)]).length,c34⟩⟩ h ⟨rfl,rfl,True.intro⟩ (t0_ (t1_ (t2_ (eD (eD eR)))))
      ·
       replace h := ite_f hg4 h
       refine zbr <| zao <| zam <| zac <| sR <| oM rfl rfl <| oM rfl rfl <| oM rfl rfl ?_
       obtain ⟨r35,hr36,h⟩ := zar h
       refine oO <| zat (zfq hr36) rfl Tryz.call76 (Dels.cons del0 (Dels.cons del1 Dels.nil)) rfl fun _ _=>oA rfl rfl <| nT <| sR <| oM rfl rfl <| oP (P_neq (a:=r35.1) (b:=(0:Int)) rfl rfl) rfl <| nT <| zan rfl zab (fun hg6 => ?_) (fun hg6 => ?_)
       ·
        replace h := ite_t hg6 h
        refine sR <| oM rfl rfl <| oA rfl rfl <| oA rfl rfl <| oA rfl rfl <| oA rfl rfl <| nT <| zah <| zad <| zau <| zad <| za9 <| zau <| zad <| zas (fun h hh=>zdj (t:=tyI) h hh) ?_
        have hE := Option.some.inj h
        replace hE := zce hK8 hE.symm
        subst hE
        exact fE (res4 Tryz.results60 rfl rfl rfl rfl) ⟨none,0,0⟩ (t1_ (t1_ (t0_ (eD (eD eR)))))
       ·
        replace h := ite_f hg6 h
        refine kT <| sR <| oA rfl rfl <| oA rfl rfl <| oA rfl rfl <| oA rfl rfl <| nT <| zah <| zau <| zad <| za9 <| zau <| zad <| zas (fun h hh=>zdj (t:=tyI) h hh) ?_
        have hE := Option.some.inj h
        replace hE := zce hK8 hE.symm
        subst hE
        exact fE (res4 Tryz.results60 rfl rfl rfl rfl) ⟨none,0,0⟩ (t1_ (t1_ (t0_ (eD (eD eR)))))
   ·
    replace h := ite_f hg1 h
    exact zbj <| za3 <| za2 <| za0 <| cR ⟨x14,hd15⟩ (Option.some.inj h).symm ⟨rfl,True.intro⟩ eR
 ·
  rintro ⟨a12,hd11⟩ hy39
  replace h := zd0 hK8 hy39
  show CJ _ _ _ _ _ (([(6,hd11.v)]:Slots) ++ forget _ _) (sl tyI hd11.v a12::_)
  refine lC del0 fun hlen40=>zac <| sR <| oM rfl rfl <| oV (V_len rfl foc0 (Reads.sl _ _ _) Tryz.runUnderlying45) rfl <| oM rfl rfl <| nT ?_
  obtain ⟨y43,hl41,hK42⟩ := zfw h
  refine zbv (X:=MirS) [13,66,67,68,69,70,71,72,73] (fun a45=>([]:Slots)) (fun a45 R=>MirQ bs vlm bm a45::R) (fun a45=>y43=a45) (Dels.cons del1 Dels.nil) ?_ ?_
  ·
   refine zaw <| zbd (X:=Nat × MirS × Nat) [13,66,67,68,69,70,71,72,73] (fun ⟨n,x46,x47⟩=>([(66,.int .i64 (((x47:Nat):Int)))]:Slots)) (fun ⟨n,x46,x47⟩ R=>MirQ bs vlm bm x46::R) (fun ⟨n,x46,x47⟩=>ziq s a12 n x46 x47=some y43) (fun ⟨n,x46,x47⟩=>n) ⟨FUEL,m,0⟩ ?_ ?_ (t1_ eR) ?_
   · exact hl41
   · exact ⟨rfl,True.intro⟩
   ·
    rintro ⟨n,x46,x47⟩ h
    cases n with
    | zero=>exact zbq h
    | succ n => ?_
    replace h:zjb s a12 (ziq s a12 n) x46 x47=some y43 := h
    unfold zjb at h
    show CJ _ _ _ _ _ (([(66,.int .i64 (((x47:Nat):Int)))]:Slots) ++ forget _ _) (MirQ bs vlm bm x46::_)
    refine sR <| oP (P_lss (a:=((x47:Nat):Int)) (b:=((a12.length:Nat):Int)) rfl rfl) rfl <| nT <| zac <| zan rfl zab (fun hg7 => ?_) (fun hg7 => ?_)
    ·
     replace h := ite_t hg7 h
     refine kT <| zac <| zaw <| sR <| oV (zay (i:=x47) rfl rfl rfl (by omega) foc1 (Reads.sl _ _ _) Tryz.runUnderlying45 Tryz.sizeOf3) rfl <| oV (za6 rfl rfl (by omega) foc1 (Reads.sl _ _ _) rfl rfl Tryz.isAgg3) rfl <| oA rfl rfl <| nT <| zaf <| oM rfl rfl <| oM rfl rfl ?_
     obtain ⟨r48,hr49,h⟩ := zar h
     exact oO <| zat (zfq hr49) rfl Tryz.call76 (Dels.cons del0 (Dels.cons del1 Dels.nil)) rfl fun _ _=>zap <| zao <| zam <| zaf <| oP (PJ_eq (P_add (a:=((x47:Nat):Int)) (b:=(1:Int)) rfl rfl (by omega)) rfl) rfl <| oM rfl rfl <| zap <| nR ⟨n,r48.2,(x47 + 1)⟩ h ⟨rfl,True.intro⟩ (t0_ (t1_ eR))
    ·
     replace h := ite_f hg7 h
     exact zbj <| za3 <| za2 <| za0 <| cR x46 (Option.some.inj h).symm True.intro eR
  ·
   rintro a45 hy50
   replace h := zd2 hK42 hy50
   show CJ _ _ _ _ _ (([]:Slots) ++ forget _ _) (MirQ bs vlm bm a45::_)
   refine sR <| oA rfl rfl <| oA rfl rfl <| oA rfl rfl <| oA rfl rfl <| nT <| zah <| zas (fun h hh=>zdj (t:=tyI) h hh) ?_
   cases h
   exact fE (res4 Tryz.results60 rfl rfl rfl rfl) ⟨none,0,0⟩ (t1_ (t2_ (t0_ (eD eR))))
theorem zpj {W:World} {bm:Nat} {bs:Nat} {m:MirS} {at_1:Int} {s:ArrS} {r:UInt64 × Int × (List Int) × Int × MirS} (h:zeq m at_1 s=some r) :
    CSpec Tryz.prog W 60 [ptr bm 0,.int .i64 at_1] [MirP bs bm m,Arr bs s] (fun x:Sl3 => .tuple #[.int .u64 (r.1.toNat:Int),.int .i64 r.2.1,x.v,.int .i64 r.2.2.2.1]) (fun _=>True) (fun x F=>MirP bs bm r.2.2.2.2::Arr bs s::sl tyI x.v r.2.2.1::F) :=
  CSpec.exq2 (R' := fun x:Sl3=>[Arr bs s,sl tyI x.v r.2.2.1]) (fun _=>zl6) (fun _ _ _=>zl7) (fun _=>zlq h)
def zdb (m:MirS) (at_1:Int) (w:UInt64) (rec:MirS→ArrS→Nat→Option ((MirS × ArrS) ⊕ (Int × MirS × ArrS))) (x12:MirS) (x13:ArrS) (x14:Nat):Option ((MirS × ArrS) ⊕ (Int × MirS × ArrS)) :=
  if (((x14:Nat):Int) < ((m.legs.length:Nat):Int)) then
    grd (decide (x14 < x12.legs.length)) <|
    grd (decide (((x12.legs.getD x14 mleg_x0).state=(2:Int))→x14 < x12.legs.length)) <|
    if (((x12.legs.getD x14 mleg_x0).state=(2:Int))∧(at_1 < (x12.legs.getD x14 mleg_x0).copied)) then
      grd (decide (x14 < x12.legs.length)) <|
      Option.bind (Dvc.wr ((x12.legs.getD x14 mleg_x0).dev) x13 at_1 w) fun r47 =>
      Option.bind (zbg x12 (((x14:Nat):Int)) r47.1 r47.2) fun r49 =>
      if (r49.1≠(0:Int)) then
        some (.inr (r49.1,r49.2,r47.2))
      else
        rec r49.2 r47.2 (x14 + 1)
    else
      rec x12 x13 (x14 + 1)
  else
    some (.inl (x12,x13))
def zca (m:MirS) (at_1:Int) (w:UInt64):Nat→MirS→ArrS→Nat→Option ((MirS × ArrS) ⊕ (Int × MirS × ArrS))
  | 0,_,_,_=>none
  | n + 1,x12,x13,x14=>zdb m at_1 w (zca m at_1 w n) x12 x13 x14
def zc6 (m:MirS) (at_1:Int) (w:UInt64) (s:ArrS):Option (Int × MirS × ArrS) :=
  seqO (zca m at_1 w FUEL m s 0) fun a11 =>
  some (((0:Int),a11.1,a11.2))
theorem zlk {W:World} {bm:Nat} {vlm:Sl3} {bs:Nat} {m:MirS} {at_1:Int} {w:UInt64} {s:ArrS} {r:Int × MirS × ArrS} (h:zc6 m at_1 w s=some r) :
    CSpec Tryz.prog W 109 [ptr bm 0,.int .i64 at_1,.int .u64 (w.toNat:Int)] [MirQ bs vlm bm m,Arr bs s] (fun x:Unit => .int .i64 r.1) (fun _=>True) (fun x F=>MirQ bs vlm bm r.2.1::Arr bs r.2.2::F) := by
 refine CSpec.of_body Tryz.func109 rfl Tryz.ntmps109 rfl fun F => ?_
 show CJ _ _ _ _ _ _ (_::_::F)
 unfold zc6 at h
 refine sR <| oA rfl rfl <| nT <| zac <| zac <| zax (Ent.transX (t0_ eR) (zcx (l:=m))) fun oc1=>za1 (fun h hh=>za7 (zaq (del2 (A:=Rs (DevP bs) (m.legs.map mlegS.dev) oc1.1)).out h hh)) fun hdl3=>lC del1 fun hlen4 => ?_
 rw [zai (by have := hdl3; simpa using this)] at hlen4
 refine lC del4 fun hlen5=>zaf <| oM rfl rfl <| oP (zae rfl) rfl <| oP (zaa rfl ⟨_,_,_,Tryz.runUnderlying119,rfl,rfl,Tryz.sizeOf115,rfl⟩) rfl <| oV (zag rfl foc0 rfl Tryz.isAgg115) rfl <| oV (VJ_eq (V_len rfl foc1 (Reads.sl _ _ _) Tryz.runUnderlying115) (congrArg (fun z:Nat=>Value.int .i64 (z:Int)) (zai (by have := hdl3; simpa using this)).symm)) rfl <| oM rfl rfl <| zap <| zas (Ent.trans eR (zdq (v0:=m.legs) (v1:=m.log) (v2:=m.hasLog) (v3:=m.logState) (v4:=m.size) (v5:=m.region) (v6:=m.dirty) (v7:=m.copied) (h0:=oc1.1) (h1:=oc1.2.1) (h2:=oc1.2.2))) <| zam ?_
 obtain ⟨y8,hl6,hK7⟩ := seq_e h
 refine zbv (X:=MirS × ArrS) [6,7,8,14,15,16,17,18,19,20,21,22,23,24,25,26,27,28,29,30,31,32,33,34,35,36,37,38,39,40,41,42,43,44,45,46,47,48,49,50,51,52,53,54,55] (fun a11=>([]:Slots)) (fun a11 R=>MirQ bs vlm bm a11.1::Arr bs a11.2::R) (fun a11=>y8 = .inl a11) (Dels.cons del0 (Dels.cons del0 Dels.nil)) ?_ ?_
 ·
  refine zaw <| zbd (X:=Nat × MirS × ArrS × Nat) [6,7,8,14,15,16,17,18,19,20,21,22,23,24,25,26,27,28,29,30,31,32,33,34,35,36,37,38,39,40,41,42,43,44,45,46,47,48,49,50,51,52,53,54,55] (fun ⟨n,x12,x13,x14⟩=>([(14,.int .i64 (((x14:Nat):Int)))]:Slots)) (fun ⟨n,x12,x13,x14⟩ R=>MirQ bs vlm bm x12::Arr bs x13::R) (fun ⟨n,x12,x13,x14⟩=>zca m at_1 w n x12 x13 x14=some y8) (fun ⟨n,x12,x13,x14⟩=>n) ⟨FUEL,m,s,0⟩ ?_ ?_ eR ?_
  · exact hl6
  · exact ⟨rfl,True.intro⟩
  ·
   rintro ⟨n,x12,x13,x14⟩ h
   cases n with
   | zero=>exact zbq h
   | succ n => ?_
   replace h:zdb m at_1 w (zca m at_1 w n) x12 x13 x14=some y8 := h
   unfold zdb at h
   show CJ _ _ _ _ _ (([(14,.int .i64 (((x14:Nat):Int)))]:Slots) ++ forget _ _) (MirQ bs vlm bm x12::Arr bs x13::_)
   refine sR <| oP (P_lss (a:=((x14:Nat):Int)) (b:=((m.legs.length:Nat):Int)) rfl rfl) rfl <| nT <| zac <| zan rfl zab (fun hg1 => ?_) (fun hg1 => ?_)
   ·
    replace h := ite_t hg1 h
    refine kT <| zac <| zaw <| sR <| oM rfl rfl <| oA rfl rfl <| nT <| zac <| zax (Ent.transX (t0_ eR) (zcx (l:=x12))) fun oc15=>za1 (fun h hh=>za7 (zaq (del2 (A:=Rs (DevP bs) (x12.legs.map mlegS.dev) oc15.1)).out h hh)) fun hdl17=>lC del1 fun hlen18 => ?_
    rw [zai (by have := hdl17; simpa using this)] at hlen18
    refine lC del4 fun hlen19=>zaf <| oM rfl rfl <| oP (zae rfl) rfl <| oP (zaa rfl ⟨_,_,_,Tryz.runUnderlying119,rfl,rfl,Tryz.sizeOf115,rfl⟩) rfl <| oV (zag rfl foc0 rfl Tryz.isAgg115) rfl <| oM rfl rfl ?_
    obtain ⟨hg2,h⟩ := zbt h
    refine oV (zay (i:=x14) rfl rfl rfl (show x14 < (zav x12.legs oc15.1).length by rw [zai (by have := hdl17; simpa using this)]; exact hg2) foc1 (Reads.sl _ _ _) Tryz.runUnderlying115 Tryz.sizeOf129) rfl <| oP (zbe rfl ⟨_,_,_,Tryz.runUnderlying129,rfl,rfl,Tryz.sizeOf117,rfl⟩) rfl <| oV (VJ_eq (za6 rfl rfl (show x14 < (zav x12.legs oc15.1).length by rw [zai (by have := hdl17; simpa using this)]; exact hg2) foc1 (Reads.sl _ _ _) rfl rfl Tryz.isAgg117) (show (.int .i64 ((x12.legs.getD x14 mleg_x0).state):Value) = .int .i64 ((zav x12.legs oc15.1).getD x14 zbz).state from by rw [zb2 (by have := hdl17; simpa using this)])) rfl <| oP (P_eql (a:=(x12.legs.getD x14 mleg_x0).state) (b:=(2:Int)) rfl rfl) rfl <| oM rfl rfl <| zbk rfl rfl rfl (fun hG20=>have hP21:((x12.legs.getD x14 mleg_x0).state=(2:Int)) := (zab).1 hG20; VJ_P (zaj rfl)) <| zbk rfl rfl rfl (fun hG22=>have hP23:((x12.legs.getD x14 mleg_x0).state=(2:Int)) := (zab).1 hG22; VJ_P (zaj rfl)) <| zbk rfl rfl rfl (fun hG24=>have hP25:((x12.legs.getD x14 mleg_x0).state=(2:Int)) := (zab).1 hG24; VJ_P (zae (mbx hG24 rfl))) <| zbk rfl rfl rfl (fun hG26=>have hP27:((x12.legs.getD x14 mleg_x0).state=(2:Int)) := (zab).1 hG26; VJ_P (zaa (mbx hG26 rfl) ⟨_,_,_,Tryz.runUnderlying119,rfl,rfl,Tryz.sizeOf115,rfl⟩)) ?_
    refine zbk rfl rfl rfl (fun hG28=>have hP29:((x12.legs.getD x14 mleg_x0).state=(2:Int)) := (zab).1 hG28; zag (mbx hG28 rfl) foc0 rfl Tryz.isAgg115) <| zbk rfl rfl rfl (fun hG30=>have hP31:((x12.legs.getD x14 mleg_x0).state=(2:Int)) := (zab).1 hG30; VJ_P (zaj rfl)) ?_
    obtain ⟨hg3,h⟩ := zbt h
    refine zbk rfl rfl rfl (fun hG32=>have hP33:((x12.legs.getD x14 mleg_x0).state=(2:Int)) := (zab).1 hG32; zay (i:=x14) (mbx hG32 rfl) (mbx hG32 rfl) rfl (show x14 < (zav x12.legs oc15.1).length by rw [zai (by have := hdl17; simpa using this)]; exact (hg3 hP33)) foc1 (Reads.sl _ _ _) Tryz.runUnderlying115 Tryz.sizeOf129) <| zbk rfl rfl rfl (fun hG34=>have hP35:((x12.legs.getD x14 mleg_x0).state=(2:Int)) := (zab).1 hG34; VJ_P (zbe (mbx hG34 rfl) ⟨_,_,_,Tryz.runUnderlying129,rfl,rfl,Tryz.sizeOf3,rfl⟩)) <| zbk rfl rfl rfl (fun hG36=>have hP37:((x12.legs.getD x14 mleg_x0).state=(2:Int)) := (zab).1 hG36; VJ_eq (za6 (mbx hG36 rfl) rfl (show x14 < (zav x12.legs oc15.1).length by rw [zai (by have := hdl17; simpa using this)]; exact (by omega)) foc1 (Reads.sl _ _ _) rfl rfl Tryz.isAgg3) (show (.int .i64 ((x12.legs.getD x14 mleg_x0).copied):Value) = .int .i64 ((zav x12.legs oc15.1).getD x14 zbz).copied from by rw [zb2 (by have := hdl17; simpa using this)])) <| zbk rfl rfl rfl (fun hG38=>have hP39:((x12.legs.getD x14 mleg_x0).state=(2:Int)) := (zab).1 hG38; VJ_P (P_lss (a:=at_1) (b:=(x12.legs.getD x14 mleg_x0).copied) (mbx hG38 rfl) (mbx hG38 rfl))) <| oP (zd1 rfl (fun hh=>mbx hh rfl) rfl) rfl <| zap ?_
    refine zas (Ent.trans eR (zdq (v0:=x12.legs) (v1:=x12.log) (v2:=x12.hasLog) (v3:=x12.logState) (v4:=x12.size) (v5:=x12.region) (v6:=x12.dirty) (v7:=x12.copied) (h0:=oc15.1) (h1:=oc15.2.1) (h2:=oc15.2.2))) <| zam <| zan rfl (zc3 zab zab) (fun hg4 => ?_) (fun hg4 => ?_)
    ·
     replace h := ite_t hg4 h
     refine zac <| zax (Ent.transX (t0_ eR) (zcx (l:=x12))) fun oc40=>za1 (fun h hh=>za7 (zaq (del2 (A:=Rs (DevP bs) (x12.legs.map mlegS.dev) oc40.1)).out h hh)) fun hdl42=>lC del1 fun hlen43 => ?_
     rw [zai (by have := hdl42; simpa using this)] at hlen43
     refine lC del4 fun hlen44=>zaf <| oM rfl rfl <| oM rfl rfl <| oM rfl rfl <| oP (zae rfl) rfl <| oP (zaa rfl ⟨_,_,_,Tryz.runUnderlying119,rfl,rfl,Tryz.sizeOf115,rfl⟩) rfl <| oV (zag rfl foc0 rfl Tryz.isAgg115) rfl <| oM rfl rfl ?_
     obtain ⟨hg5,h⟩ := zbt h
     refine oV (zay (i:=x14) rfl rfl rfl (show x14 < (zav x12.legs oc40.1).length by rw [zai (by have := hdl42; simpa using this)]; exact hg5) foc1 (Reads.sl _ _ _) Tryz.runUnderlying115 Tryz.sizeOf129) rfl <| oP (zbe rfl ⟨_,_,_,Tryz.runUnderlying129,rfl,rfl,Tryz.sizeOf96,rfl⟩) rfl <| zbb (Ent.trans (t2_ eR) (zfk (i:=x14) hg5)) <| oV (VJ_eq (za6 rfl rfl (show x14 < (zav x12.legs oc40.1).length by rw [zai (by have := hdl42; simpa using this)]; exact hg5) foc3 (Reads.sl _ _ _) rfl rfl Tryz.isAgg96) (show (IfH.v (oc40.1.getD x14 tyDev.dflt):Value)=IfH.v ((zav x12.legs oc40.1).getD x14 zbz).dev from by rw [zb2 (by have := hdl42; simpa using this)])) rfl <| oM rfl rfl <| oM rfl rfl <| zcl (fun h hh=>zd3 h (zaq (del0 (A:=DevP bs ((x12.legs.getD x14 mleg_x0).dev) (oc40.1.getD x14 tyDev.dflt))).out h hh)) fun hdp46 => ?_
     obtain ⟨r47,hr48,h⟩ := zar h
     refine oO <| zc8 rfl (zjn hr48 hdp46) rfl (Dels.cons del0 (Dels.cons del5 Dels.nil)) rfl fun _ _=>zbb (Ent.trans (t3_ (t3_ (t2_ (t2_ (t2_ eR))))) (zdq (v0:=x12.legs) (v1:=x12.log) (v2:=x12.hasLog) (v3:=x12.logState) (v4:=x12.size) (v5:=x12.region) (v6:=x12.dirty) (v7:=x12.copied) (h0:=oc40.1) (h1:=oc40.2.1) (h2:=oc40.2.2))) ?_
     obtain ⟨r49,hr50,h⟩ := zar h
     refine oO <| zat (zfq hr50) rfl Tryz.call76 (Dels.cons del0 (Dels.cons del1 Dels.nil)) rfl fun _ _=>oA rfl rfl <| nT <| sR <| oM rfl rfl <| oP (P_neq (a:=r49.1) (b:=(0:Int)) rfl rfl) rfl <| nT <| zan rfl zab (fun hg6 => ?_) (fun hg6 => ?_)
     ·
      replace h := ite_t hg6 h
      refine sR <| oM rfl rfl <| oA rfl rfl <| nT <| zah <| zau <| zad <| za9 <| zau <| zad ?_
      have hE := Option.some.inj h
      replace hE := zce hK7 hE.symm
      subst hE
      exact fE (res1 Tryz.results109 rfl) () (t0_ (t0_ (eD eR)))
     ·
      replace h := ite_f hg6 h
      exact zbr <| zao <| zam <| zaf <| oP (PJ_eq (P_add (a:=((x14:Nat):Int)) (b:=(1:Int)) rfl rfl (by omega)) rfl) rfl <| oM rfl rfl <| zap <| nR ⟨n,r49.2,r47.2,(x14 + 1)⟩ h ⟨rfl,True.intro⟩ (t0_ (t0_ (eD eR)))
    ·
     replace h := ite_f hg4 h
     exact zbr <| zao <| zam <| zaf <| oP (PJ_eq (P_add (a:=((x14:Nat):Int)) (b:=(1:Int)) rfl rfl (by omega)) rfl) rfl <| oM rfl rfl <| zap <| nR ⟨n,x12,x13,(x14 + 1)⟩ h ⟨rfl,True.intro⟩ eR
   ·
    replace h := ite_f hg1 h
    exact zbj <| za3 <| za2 <| za0 <| cR (x12,x13) (Option.some.inj h).symm True.intro eR
 ·
  rintro a11 hy51
  replace h := zd0 hK7 hy51
  show CJ _ _ _ _ _ (([]:Slots) ++ forget _ _) (MirQ bs vlm bm a11.1::Arr bs a11.2::_)
  refine sR <| oA rfl rfl <| nT <| zah ?_
  cases h
  exact fE (res1 Tryz.results109 rfl) () eR
end Go.Proofs
