/- MirrorFills, part 6 of the proof: LX11, LX12, LX13. -/
import Derived.WalkKit
import Derived.Orders
import Derived.RangeFuncLeaves
import Derived.RangeFuncCalls
import Derived.TacticsIn
import Derived.Handy
import Derived.OrdersHeld
import Derived.OrdersIn
import Derived.Below
import Derived.OpenShut
import Derived.Deep.Slices
import Derived.Scope
import Derived.KernelRfl
import Derived.RangeFuncRecord
import Derived.ChangeKeysEq
import Derived.ProofKit
import Derived.ShutString
import Derived.ChangeOld
import Derived.Test.YtcfnikegnhlghaaGreatChecked
import Derived.Test.YtcfnikegnhlghaaGreatRows
import Derived.Test.YtcfnikegnhlghaaGreatZMirrorFills5
set_option linter.unusedSimpArgs false
set_option linter.unusedVariables false
set_option maxRecDepth 20000
set_option maxHeartbeats 4000000
namespace Go.Proofs
open Go.VG
def zft (m:MirS) (k:Int) (s:ArrS):Option (Int) :=
  if (((k < (0:Int))∨(((m.legs.length:Nat):Int) < k))∨((k=((m.legs.length:Nat):Int))∧(¬ m.hasLog=true))) then
    some (1:Int)
  else
    Option.bind (zbi m s) fun r53 =>
    if (r53≠(0:Int)) then
      some (18:Int)
    else
      if ((k=((m.legs.length:Nat):Int))∨((m.legs.getD ((k).toNat) mleg_x0).state≠(2:Int))) then
        some (20:Int)
      else
        some (0:Int)
theorem zk5 {W:World} {bm:Nat} {vlm:Sl3} {bs:Nat} {m:MirS} {k:Int} {s:ArrS} {r:Int} (h:zft m k s=some r) :
    CSpec Tryz.prog W 78 [ptr bm 0,.int .i64 k] [MirQ bs vlm bm m,Arr bs s] (fun x:Unit => .int .i64 r) (fun _=>True) (fun x F=>MirQ bs vlm bm m::Arr bs s::F) := by
 refine CSpec.of_body Tryz.func78 rfl Tryz.ntmps78 rfl fun F => ?_
 show CJ _ _ _ _ _ _ (_::_::F)
 unfold zft at h
 refine sR <| oA rfl rfl <| nT <| zac <| zaw <| zac <| zax (Ent.transX (t0_ eR) (zcx (l:=m))) fun oc1=>za1 (fun h hh=>za7 (zaq (del2 (A:=Rs (DevP bs) (m.legs.map mlegS.dev) oc1.1)).out h hh)) fun hdl3=>lC del1 fun hlen4 => ?_
 rw [zai (by have := hdl3; simpa using this)] at hlen4
 refine lC del4 fun hlen5=>zaf <| oM rfl rfl <| oP (P_lss (a:=k) (b:=(0:Int)) rfl rfl) rfl <| oM rfl rfl <| zaz rfl rfl rfl (fun hG6=>have hP7:¬ (k < (0:Int)) := nP (zab) hG6; VJ_P (zaj rfl)) <| zaz rfl rfl rfl (fun hG8=>have hP9:¬ (k < (0:Int)) := nP (zab) hG8; VJ_P (zaj rfl)) <| zaz rfl rfl rfl (fun hG10=>have hP11:¬ (k < (0:Int)) := nP (zab) hG10; VJ_P (zae (mbx hG10 rfl))) <| zaz rfl rfl rfl (fun hG12=>have hP13:¬ (k < (0:Int)) := nP (zab) hG12; VJ_P (zaa (mbx hG12 rfl) ⟨_,_,_,Tryz.runUnderlying119,rfl,rfl,Tryz.sizeOf115,rfl⟩)) <| zaz rfl rfl rfl (fun hG14=>have hP15:¬ (k < (0:Int)) := nP (zab) hG14; zag (mbx hG14 rfl) foc0 rfl Tryz.isAgg115) <| zaz rfl rfl rfl (fun hG16=>have hP17:¬ (k < (0:Int)) := nP (zab) hG16; VJ_eq (V_len (mbx hG16 rfl) foc1 (Reads.sl _ _ _) Tryz.runUnderlying115) (congrArg (fun z:Nat=>Value.int .i64 (z:Int)) (zai (by have := hdl3; simpa using this)).symm)) <| zaz rfl rfl rfl (fun hG18=>have hP19:¬ (k < (0:Int)) := nP (zab) hG18; VJ_P (P_gtr (a:=k) (b:=((m.legs.length:Nat):Int)) (mbx hG18 rfl) (mbx hG18 rfl))) <| oP (zcw rfl rfl (fun hh=>mbx (not_f hh) rfl)) rfl <| oM rfl rfl <| zaz rfl rfl rfl (fun hG20=>have hP21:¬ ((k < (0:Int))∨(((m.legs.length:Nat):Int) < k)) := nP ((bT_or zab zab)) hG20; VJ_P (zaj rfl)) ?_
 refine zaz rfl rfl rfl (fun hG22=>have hP23:¬ ((k < (0:Int))∨(((m.legs.length:Nat):Int) < k)) := nP ((bT_or zab zab)) hG22; VJ_P (zaj rfl)) <| zaz rfl rfl rfl (fun hG24=>have hP25:¬ ((k < (0:Int))∨(((m.legs.length:Nat):Int) < k)) := nP ((bT_or zab zab)) hG24; VJ_P (zae (mbx hG24 rfl))) <| zaz rfl rfl rfl (fun hG26=>have hP27:¬ ((k < (0:Int))∨(((m.legs.length:Nat):Int) < k)) := nP ((bT_or zab zab)) hG26; VJ_P (zaa (mbx hG26 rfl) ⟨_,_,_,Tryz.runUnderlying119,rfl,rfl,Tryz.sizeOf115,rfl⟩)) <| zaz rfl rfl rfl (fun hG28=>have hP29:¬ ((k < (0:Int))∨(((m.legs.length:Nat):Int) < k)) := nP ((bT_or zab zab)) hG28; zag (mbx hG28 rfl) foc0 rfl Tryz.isAgg115) <| zaz rfl rfl rfl (fun hG30=>have hP31:¬ ((k < (0:Int))∨(((m.legs.length:Nat):Int) < k)) := nP ((bT_or zab zab)) hG30; VJ_eq (V_len (mbx hG30 rfl) foc1 (Reads.sl _ _ _) Tryz.runUnderlying115) (congrArg (fun z:Nat=>Value.int .i64 (z:Int)) (zai (by have := hdl3; simpa using this)).symm)) <| zaz rfl rfl rfl (fun hG32=>have hP33:¬ ((k < (0:Int))∨(((m.legs.length:Nat):Int) < k)) := nP ((bT_or zab zab)) hG32; VJ_P (P_eql (a:=k) (b:=((m.legs.length:Nat):Int)) (mbx hG32 rfl) (mbx hG32 rfl))) <| zaz rfl rfl rfl (fun hG34=>have hP35:¬ ((k < (0:Int))∨(((m.legs.length:Nat):Int) < k)) := nP ((bT_or zab zab)) hG34; VJ_P (zaj (mbx hG34 rfl))) ?_
 refine zmz rfl rfl rfl (fun hG36=>have hP37:¬ ((k < (0:Int))∨(((m.legs.length:Nat):Int) < k)) := nP ((bT_or zab zab)) (and_l hG36); have hP38:(k=((m.legs.length:Nat):Int)) := (zab).1 (and_r hG36); VJ_P (zaj rfl)) <| zmz rfl rfl rfl (fun hG39=>have hP40:¬ ((k < (0:Int))∨(((m.legs.length:Nat):Int) < k)) := nP ((bT_or zab zab)) (and_l hG39); have hP41:(k=((m.legs.length:Nat):Int)) := (zab).1 (and_r hG39); VJ_P (zae (mbx hG39 rfl))) <| zmz rfl rfl rfl (fun hG42=>have hP43:¬ ((k < (0:Int))∨(((m.legs.length:Nat):Int) < k)) := nP ((bT_or zab zab)) (and_l hG42); have hP44:(k=((m.legs.length:Nat):Int)) := (zab).1 (and_r hG42); VJ_P (zaa (mbx hG42 rfl) ⟨_,_,_,Tryz.runUnderlying119,rfl,rfl,Tryz.sizeOf4,rfl⟩)) <| zmz rfl rfl rfl (fun hG45=>have hP46:¬ ((k < (0:Int))∨(((m.legs.length:Nat):Int) < k)) := nP ((bT_or zab zab)) (and_l hG45); have hP47:(k=((m.legs.length:Nat):Int)) := (zab).1 (and_r hG45); zag (mbx hG45 rfl) foc0 rfl Tryz.isAgg4) <| zmz rfl rfl rfl (fun hG48=>have hP49:¬ ((k < (0:Int))∨(((m.legs.length:Nat):Int) < k)) := nP ((bT_or zab zab)) (and_l hG48); have hP50:(k=((m.legs.length:Nat):Int)) := (zab).1 (and_r hG48); VJ_P (P_not (mbx hG48 rfl))) ?_
 refine zaz rfl rfl rfl (fun hG51=>have hP52:¬ ((k < (0:Int))∨(((m.legs.length:Nat):Int) < k)) := nP ((bT_or zab zab)) hG51; VJ_P (zd1 (mbx hG51 rfl) (fun hh=>mbx (and_i hG51 hh) rfl) rfl)) <| oP (zcw rfl rfl (fun hh=>mbx (not_f hh) rfl)) rfl <| oA rfl rfl <| zap <| zas (Ent.trans eR (zdq (v0:=m.legs) (v1:=m.log) (v2:=m.hasLog) (v3:=m.logState) (v4:=m.size) (v5:=m.region) (v6:=m.dirty) (v7:=m.copied) (h0:=oc1.1) (h1:=oc1.2.1) (h2:=oc1.2.2))) <| zam <| zan rfl (bT_or (bT_or zab zab) (zc3 zab (zdk Iff.rfl))) (fun hg1 => ?_) (fun hg1 => ?_)
 ·
  replace h := ite_t hg1 h
  refine sR <| oA rfl rfl <| nT <| zah <| zau <| zad ?_
  cases h
  exact fE (res1 Tryz.results78 rfl) () eR
 ·
  replace h := ite_f hg1 h
  refine sR <| oM rfl rfl ?_
  obtain ⟨r53,hr54,h⟩ := zar h
  refine oO <| zat (zhh hr54) rfl Tryz.call58 (Dels.cons del0 (Dels.cons del0 Dels.nil)) rfl fun _ _=>oP (P_neq (a:=r53) (b:=(0:Int)) rfl rfl) rfl <| oA rfl rfl <| nT <| zan rfl zab (fun hg2 => ?_) (fun hg2 => ?_)
  ·
   replace h := ite_t hg2 h
   refine sR <| oA rfl rfl <| nT <| zah <| zau <| zad ?_
   cases h
   exact fE (res1 Tryz.results78 rfl) () eR
  ·
   replace h := ite_f hg2 h
   refine zac <| zax (Ent.transX (t0_ eR) (zcx (l:=m))) fun oc55=>za1 (fun h hh=>za7 (zaq (del2 (A:=Rs (DevP bs) (m.legs.map mlegS.dev) oc55.1)).out h hh)) fun hdl57=>lC del1 fun hlen58 => ?_
   rw [zai (by have := hdl57; simpa using this)] at hlen58
   refine lC del4 fun hlen59=>zaf <| oM rfl rfl <| oM rfl rfl <| oP (zae rfl) rfl <| oP (zaa rfl ⟨_,_,_,Tryz.runUnderlying119,rfl,rfl,Tryz.sizeOf115,rfl⟩) rfl <| oV (zag rfl foc0 rfl Tryz.isAgg115) rfl <| oV (VJ_eq (V_len rfl foc1 (Reads.sl _ _ _) Tryz.runUnderlying115) (congrArg (fun z:Nat=>Value.int .i64 (z:Int)) (zai (by have := hdl57; simpa using this)).symm)) rfl <| oP (P_eql (a:=k) (b:=((m.legs.length:Nat):Int)) rfl rfl) rfl <| oM rfl rfl <| zaz rfl rfl rfl (fun hG60=>have hP61:¬ (k=((m.legs.length:Nat):Int)) := nP (zab) hG60; VJ_P (zaj rfl)) <| zaz rfl rfl rfl (fun hG62=>have hP63:¬ (k=((m.legs.length:Nat):Int)) := nP (zab) hG62; VJ_P (zae (mbx hG62 rfl))) <| zaz rfl rfl rfl (fun hG64=>have hP65:¬ (k=((m.legs.length:Nat):Int)) := nP (zab) hG64; VJ_P (zaa (mbx hG64 rfl) ⟨_,_,_,Tryz.runUnderlying119,rfl,rfl,Tryz.sizeOf115,rfl⟩)) <| zaz rfl rfl rfl (fun hG66=>have hP67:¬ (k=((m.legs.length:Nat):Int)) := nP (zab) hG66; zag (mbx hG66 rfl) foc0 rfl Tryz.isAgg115) <| zaz rfl rfl rfl (fun hG68=>have hP69:¬ (k=((m.legs.length:Nat):Int)) := nP (zab) hG68; VJ_P (zaj rfl)) ?_
   refine zaz rfl rfl rfl (fun hG70=>have hP71:¬ (k=((m.legs.length:Nat):Int)) := nP (zab) hG70; zay (i:=(k).toNat) (mbx hG70 rfl) (mbx hG70 rfl) (Int.toNat_of_nonneg (by omega)).symm (show (k).toNat < (zav m.legs oc55.1).length by rw [zai (by have := hdl57; simpa using this)]; exact (by omega)) foc1 (Reads.sl _ _ _) Tryz.runUnderlying115 Tryz.sizeOf129) <| zaz rfl rfl rfl (fun hG72=>have hP73:¬ (k=((m.legs.length:Nat):Int)) := nP (zab) hG72; VJ_P (zbe (mbx hG72 rfl) ⟨_,_,_,Tryz.runUnderlying129,rfl,rfl,Tryz.sizeOf117,rfl⟩)) <| zaz rfl rfl rfl (fun hG74=>have hP75:¬ (k=((m.legs.length:Nat):Int)) := nP (zab) hG74; VJ_eq (za6 (mbx hG74 rfl) rfl (show (k).toNat < (zav m.legs oc55.1).length by rw [zai (by have := hdl57; simpa using this)]; exact (by omega)) foc1 (Reads.sl _ _ _) rfl rfl Tryz.isAgg117) (show (.int .i64 ((m.legs.getD ((k).toNat) mleg_x0).state):Value) = .int .i64 ((zav m.legs oc55.1).getD ((k).toNat) zbz).state from by rw [zb2 (by have := hdl57; simpa using this)])) <| zaz rfl rfl rfl (fun hG76=>have hP77:¬ (k=((m.legs.length:Nat):Int)) := nP (zab) hG76; VJ_P (P_neq (a:=(m.legs.getD ((k).toNat) mleg_x0).state) (b:=(2:Int)) (mbx hG76 rfl) rfl)) <| oP (zcw rfl rfl (fun hh=>mbx (not_f hh) rfl)) rfl <| oA rfl rfl <| zap ?_
   refine zas (Ent.trans eR (zdq (v0:=m.legs) (v1:=m.log) (v2:=m.hasLog) (v3:=m.logState) (v4:=m.size) (v5:=m.region) (v6:=m.dirty) (v7:=m.copied) (h0:=oc55.1) (h1:=oc55.2.1) (h2:=oc55.2.2))) <| zam <| zan rfl (bT_or zab zab) (fun hg3 => ?_) (fun hg3 => ?_)
   ·
    replace h := ite_t hg3 h
    refine sR <| oA rfl rfl <| nT <| zah <| zau <| zad ?_
    cases h
    exact fE (res1 Tryz.results78 rfl) () eR
   ·
    replace h := ite_f hg3 h
    refine zbr <| zao <| zam <| sR <| oA rfl rfl <| nT <| zah ?_
    cases h
    exact fE (res1 Tryz.results78 rfl) () eR
theorem zoq {W:World} {bm:Nat} {bs:Nat} {m:MirS} {k:Int} {s:ArrS} {r:Int} (h:zft m k s=some r) :
    CSpec Tryz.prog W 78 [ptr bm 0,.int .i64 k] [MirP bs bm m,Arr bs s] (fun x:Unit => .int .i64 r) (fun _=>True) (fun x F=>MirP bs bm m::Arr bs s::F) :=
  CSpec.exq2 (R' := fun x:Unit=>[Arr bs s]) (fun _=>zl6) (fun _ _ _=>zl7) (fun _=>zk5 h)
def zhk (k:Int) (rec:MirS→ArrS→Int→Option ((MirS × ArrS) ⊕ (Int × Int × MirS × ArrS))) (x14:MirS) (x15:ArrS) (x16:Int):Option ((MirS × ArrS) ⊕ (Int × Int × MirS × ArrS)) :=
  if ((0:Int) < x16) then
    grd (decide ((k).toNat < x14.legs.length)) <|
    if ((x14.legs.getD ((k).toNat) mleg_x0).copied < x14.size) then
      grd (decide ((k).toNat < x14.legs.length)) <|
      Option.bind (zb4 x14 ((x14.legs.getD ((k).toNat) mleg_x0).copied) x15) fun r27 =>
      if (r27.2.1≠(0:Int)) then
        some (.inr (((0:Int),r27.2.1,r27.2.2.1,r27.2.2.2)))
      else
        grd (decide ((k).toNat < r27.2.2.1.legs.length)) <|
        grd (decide ((k).toNat < r27.2.2.1.legs.length)) <|
        Option.bind (Dvc.wr ((r27.2.2.1.legs.getD ((k).toNat) mleg_x0).dev) r27.2.2.2 ((r27.2.2.1.legs.getD ((k).toNat) mleg_x0).copied) r27.1) fun r36 =>
        if (r36.1≠(0:Int)) then
          Option.bind (zbg r27.2.2.1 k r36.1 r36.2) fun r38 =>
          some (.inr (((0:Int),r38.1,r38.2,r36.2)))
        else
          grd (decide ((k).toNat < r27.2.2.1.legs.length)) <|
          grd (inI64 (((r27.2.2.1.legs.getD ((k).toNat) mleg_x0).copied + (1:Int)))) <|
          grd (decide ((k).toNat < r27.2.2.1.legs.length)) <|
          grd (inI64 ((x16 - (1:Int)))) <|
          rec ({ r27.2.2.1 with legs := (r27.2.2.1.legs.set ((k).toNat) { r27.2.2.1.legs.getD ((k).toNat) mleg_x0 with copied := ((r27.2.2.1.legs.getD ((k).toNat) mleg_x0).copied + (1:Int)) }) }) r36.2 ((x16 - (1:Int)))
    else
      some (.inl (x14,x15))
  else
    some (.inl (x14,x15))
def zfu (k:Int):Nat→MirS→ArrS→Int→Option ((MirS × ArrS) ⊕ (Int × Int × MirS × ArrS))
  | 0,_,_,_=>none
  | n + 1,x14,x15,x16=>zhk k (zfu k n) x14 x15 x16
def zg7 (m:MirS) (k:Int) (n_2:Int) (s:ArrS):Option (Int × Int × MirS × ArrS) :=
  if (n_2 < (0:Int)) then
    some (((0:Int),(1:Int),m,s))
  else
    Option.bind (zft m k s) fun r1 =>
    if (r1≠(0:Int)) then
      some (((0:Int),r1,m,s))
    else
      grd (decide (0≤k∧k < (m.legs.length:Int))) <|
      seqO (zfu k FUEL m s n_2) fun a13 =>
      grd (decide ((k).toNat < a13.1.legs.length)) <|
      some (((a13.1.legs.getD ((k).toNat) mleg_x0).copied,(0:Int),a13.1,a13.2))
theorem zpl {W:World} {bm:Nat} {vlm:Sl3} {bs:Nat} {m:MirS} {k:Int} {n_2:Int} {s:ArrS} {r:Int × Int × MirS × ArrS} (h:zg7 m k n_2 s=some r) :
    CSpec Tryz.prog W 39 [ptr bm 0,.int .i64 k,.int .i64 n_2] [MirQ bs vlm bm m,Arr bs s] (fun x:Unit => .tuple #[.int .i64 r.1,.int .i64 r.2.1]) (fun _=>True) (fun x F=>MirQ bs vlm bm r.2.2.1::Arr bs r.2.2.2::F) := by
 refine CSpec.of_body Tryz.func39 rfl Tryz.ntmps39 rfl fun F => ?_
 show CJ _ _ _ _ _ _ (_::_::F)
 unfold zg7 at h
 refine sR <| oA rfl rfl <| oA rfl rfl <| nT <| zac <| sR <| oM rfl rfl <| oP (P_lss (a:=n_2) (b:=(0:Int)) rfl rfl) rfl <| nT <| zan rfl zab (fun hg1 => ?_) (fun hg1 => ?_)
 ·
  replace h := ite_t hg1 h
  refine sR <| oA rfl rfl <| oA rfl rfl <| nT <| zah <| zad ?_
  cases h
  exact fE (res2 Tryz.results39 rfl rfl) () eR
 ·
  replace h := ite_f hg1 h
  refine kT <| zac <| sR <| oM rfl rfl <| oM rfl rfl ?_
  obtain ⟨r1,hr2,h⟩ := zar h
  refine oO <| zat (zk5 hr2) rfl Tryz.call78 (Dels.cons del0 (Dels.cons del0 Dels.nil)) rfl fun _ _=>oA rfl rfl <| nT <| sR <| oM rfl rfl <| oP (P_neq (a:=r1) (b:=(0:Int)) rfl rfl) rfl <| nT <| zan rfl zab (fun hg2 => ?_) (fun hg2 => ?_)
  ·
   replace h := ite_t hg2 h
   refine sR <| oM rfl rfl <| oA rfl rfl <| oA rfl rfl <| nT <| zah <| zad ?_
   cases h
   exact fE (res2 Tryz.results39 rfl rfl) () eR
  ·
   replace h := ite_f hg2 h
   refine kT <| zac <| zax (Ent.transX (t0_ eR) (zcx (l:=m))) fun oc3=>za1 (fun h hh=>za7 (zaq (del2 (A:=Rs (DevP bs) (m.legs.map mlegS.dev) oc3.1)).out h hh)) fun hdl5=>lC del1 fun hlen6 => ?_
   rw [zai (by have := hdl5; simpa using this)] at hlen6
   refine lC del4 fun hlen7=>zaf <| oM rfl rfl <| oP (zae rfl) rfl <| oP (zaa rfl ⟨_,_,_,Tryz.runUnderlying119,rfl,rfl,Tryz.sizeOf115,rfl⟩) rfl <| oV (zag rfl foc0 rfl Tryz.isAgg115) rfl <| oM rfl rfl ?_
   obtain ⟨hg3,h⟩ := zbt h
   refine oV (zay (i:=(k).toNat) rfl rfl (Int.toNat_of_nonneg (hg3.1)).symm (show (k).toNat < (zav m.legs oc3.1).length by rw [zai (by have := hdl5; simpa using this)]; exact (by omega)) foc1 (Reads.sl _ _ _) Tryz.runUnderlying115 Tryz.sizeOf129) rfl <| oA rfl rfl <| zap <| zas (Ent.trans eR (zdq (v0:=m.legs) (v1:=m.log) (v2:=m.hasLog) (v3:=m.logState) (v4:=m.size) (v5:=m.region) (v6:=m.dirty) (v7:=m.copied) (h0:=oc3.1) (h1:=oc3.2.1) (h2:=oc3.2.2))) <| zam <| zac ?_
   obtain ⟨y10,hl8,hK9⟩ := seq_e h
   refine zbv (X:=MirS × ArrS) [2,6,7,10,11,12,27,28,29,30,31,32,33,34,35,36,37,38,39,40,41,42,43,44,45,46,47,48,49,50,51,52,53,54,55,56,57,58,59,60,61,62,63,64,65,66,67,68,69,70,71,72,73,74,75,76,77,78] (fun a13=>([]:Slots)) (fun a13 R=>MirQ bs vlm bm a13.1::Arr bs a13.2::R) (fun a13=>y10 = .inl a13) (Dels.cons del0 (Dels.cons del0 Dels.nil)) ?_ ?_
   ·
    refine zaw <| zbd (X:=Nat × MirS × ArrS × Int) [2,6,7,10,11,12,27,28,29,30,31,32,33,34,35,36,37,38,39,40,41,42,43,44,45,46,47,48,49,50,51,52,53,54,55,56,57,58,59,60,61,62,63,64,65,66,67,68,69,70,71,72,73,74,75,76,77,78] (fun ⟨n,x14,x15,x16⟩=>([(2,.int .i64 x16)]:Slots)) (fun ⟨n,x14,x15,x16⟩ R=>MirQ bs vlm bm x14::Arr bs x15::R) (fun ⟨n,x14,x15,x16⟩=>zfu k n x14 x15 x16=some y10) (fun ⟨n,x14,x15,x16⟩=>n) ⟨FUEL,m,s,n_2⟩ ?_ ?_ eR ?_
    · exact hl8
    · exact ⟨rfl,True.intro⟩
    ·
     rintro ⟨n,x14,x15,x16⟩ h
     cases n with
     | zero=>exact zbq h
     | succ n => ?_
     replace h:zhk k (zfu k n) x14 x15 x16=some y10 := h
     unfold zhk at h
     show CJ _ _ _ _ _ (([(2,.int .i64 x16)]:Slots) ++ forget _ _) (MirQ bs vlm bm x14::Arr bs x15::_)
     refine zac <| zac <| zax (Ent.transX (t0_ eR) (zcx (l:=x14))) fun oc17=>za1 (fun h hh=>za7 (zaq (del2 (A:=Rs (DevP bs) (x14.legs.map mlegS.dev) oc17.1)).out h hh)) fun hdl19=>lC del1 fun hlen20 => ?_
     rw [zai (by have := hdl19; simpa using this)] at hlen20
     refine lC del4 fun hlen21=>zbc 0 (by kernel_rfl) rfl <| aN 0 1 rfl rfl (zaj rfl) rfl <| aN 1 3 rfl rfl (P_gtr (a:=x16) (b:=(0:Int)) rfl rfl) rfl <| aN 2 7 rfl rfl (zaj rfl) rfl <| ziv 29 rfl zab (fun hg4B hg4 => ?_) (fun hg4B hg4 => ?_)
     ·
      replace h := ite_t hg4 h
      refine aP 3 15 rfl rfl (zal rfl rfl rfl hg4B) (zaj rfl) rfl <| aP 4 31 rfl rfl (zal rfl rfl rfl hg4B) (zdi rfl) rfl <| aP 5 63 rfl rfl (zal rfl rfl rfl hg4B) (zbe rfl ⟨_,_,_,Tryz.runUnderlying129,rfl,rfl,Tryz.sizeOf3,rfl⟩) rfl ?_
      obtain ⟨hg5,h⟩ := zbt h
      refine aV 6 127 rfl rfl (zal rfl rfl rfl hg4B) eR (VJ_eq (za6 rfl rfl (show (k).toNat < (zav x14.legs oc17.1).length by rw [zai (by have := hdl19; simpa using this)]; exact hg5) foc1 (Reads.sl _ _ _) rfl rfl Tryz.isAgg3) (show (.int .i64 ((x14.legs.getD ((k).toNat) mleg_x0).copied):Value) = .int .i64 ((zav x14.legs oc17.1).getD ((k).toNat) zbz).copied from by rw [zb2 (by have := hdl19; simpa using this)])) rfl <| aP 7 255 rfl rfl (zal rfl rfl rfl hg4B) (zaj rfl) rfl <| aP 8 511 rfl rfl (zal rfl rfl rfl hg4B) (zae rfl) rfl <| aP 9 1023 rfl rfl (zal rfl rfl rfl hg4B) (zaa rfl ⟨_,_,_,Tryz.runUnderlying119,rfl,rfl,Tryz.sizeOf3,rfl⟩) rfl <| aV 10 2047 rfl rfl (zal rfl rfl rfl hg4B) eR (zag rfl foc0 rfl Tryz.isAgg3) rfl <| aP 11 4095 rfl rfl (zal rfl rfl rfl hg4B) (P_lss (a:=(x14.legs.getD ((k).toNat) mleg_x0).copied) (b:=x14.size) rfl rfl) rfl <| aN 12 8191 rfl rfl (zbh rfl hg4B rfl) rfl <| zcd (by kernel_rfl) <| zas (Ent.trans eR (zdq (v0:=x14.legs) (v1:=x14.log) (v2:=x14.hasLog) (v3:=x14.logState) (v4:=x14.size) (v5:=x14.region) (v6:=x14.dirty) (v7:=x14.copied) (h0:=oc17.1) (h1:=oc17.2.1) (h2:=oc17.2.2))) <| zam <| zan rfl zab (fun hg6 => ?_) (fun hg6 => ?_)
      ·
       replace h := ite_t hg6 h
       refine kT <| zac <| zaw <| sR <| oM rfl rfl <| oM rfl rfl <| oP (zdi rfl) rfl <| oP (zbe rfl ⟨_,_,_,Tryz.runUnderlying129,rfl,rfl,Tryz.sizeOf3,rfl⟩) rfl <| zmu (Ent.transX (t0_ eR) (zcx (l:=x14))) fun oc22=>zcl (fun h hh=>za7 (zaq (del2 (A:=Rs (DevP bs) (x14.legs.map mlegS.dev) oc22.1)).out h hh)) fun hdl24=>zcl (zcg (Reads.sl _ _ _) del1) fun hlen25 => ?_
       rw [zai (by have := hdl24; simpa using this)] at hlen25
       refine zcl (zcg (Reads.sl _ _ _) del4) fun hlen26 => ?_
       obtain ⟨hg7,h⟩ := zbt h
       refine oV (VJ_eq (za6 rfl rfl (show (k).toNat < (zav x14.legs oc22.1).length by rw [zai (by have := hdl24; simpa using this)]; exact hg7) foc1 (Reads.sl _ _ _) rfl rfl Tryz.isAgg3) (show (.int .i64 ((x14.legs.getD ((k).toNat) mleg_x0).copied):Value) = .int .i64 ((zav x14.legs oc22.1).getD ((k).toNat) zbz).copied from by rw [zb2 (by have := hdl24; simpa using this)])) rfl <| zbb (Ent.trans eR (zdq (v0:=x14.legs) (v1:=x14.log) (v2:=x14.hasLog) (v3:=x14.logState) (v4:=x14.size) (v5:=x14.region) (v6:=x14.dirty) (v7:=x14.copied) (h0:=oc22.1) (h1:=oc22.2.1) (h2:=oc22.2.2))) ?_
       obtain ⟨r27,hr28,h⟩ := zar h
       refine oO <| zat (zl8 hr28) rfl Tryz.call41 (Dels.cons del0 (Dels.cons del0 Dels.nil)) rfl fun _ _=>oM rfl rfl <| oP (za4 rfl rfl) rfl <| oP (za4 rfl rfl) rfl <| oA rfl rfl <| oA rfl rfl <| nT <| zac <| sR <| oM rfl rfl <| oP (P_neq (a:=r27.2.1) (b:=(0:Int)) rfl rfl) rfl <| nT <| zan rfl zab (fun hg8 => ?_) (fun hg8 => ?_)
       ·
        replace h := ite_t hg8 h
        refine sR <| oM rfl rfl <| oA rfl rfl <| oA rfl rfl <| nT <| zah <| zad <| zau <| zad <| za9 <| zau <| zad ?_
        have hE := Option.some.inj h
        replace hE := zce hK9 hE.symm
        subst hE
        exact fE (res2 Tryz.results39 rfl rfl) () eR
       ·
        replace h := ite_f hg8 h
        refine kT <| zac <| zac <| zax (Ent.transX (t0_ eR) (zcx (l:=r27.2.2.1))) fun oc29=>za1 (fun h hh=>za7 (zaq (del2 (A:=Rs (DevP bs) (r27.2.2.1.legs.map mlegS.dev) oc29.1)).out h hh)) fun hdl31=>lC del1 fun hlen32 => ?_
        rw [zai (by have := hdl31; simpa using this)] at hlen32
        refine lC del4 fun hlen33=>zbc 2048 (by kernel_rfl) rfl <| aN 0 1 rfl rfl (zaj rfl) rfl <| aN 1 3 rfl rfl (zdi rfl) rfl <| aN 2 7 rfl rfl (zbe rfl ⟨_,_,_,Tryz.runUnderlying129,rfl,rfl,Tryz.sizeOf96,rfl⟩) rfl ?_
        obtain ⟨hg9,h⟩ := zbt h
        refine zey (Ent.trans (t2_ eR) (zfk (i:=(k).toNat) hg9)) <| aV 3 15 rfl rfl (zak rfl) (t2_ (t2_ (t1_ (t1_ (t1_ (t1_ (eD eR))))))) (VJ_eq (za6 rfl rfl (show (k).toNat < (zav r27.2.2.1.legs oc29.1).length by rw [zai (by have := hdl31; simpa using this)]; exact hg9) foc1 (Reads.sl _ _ _) rfl rfl Tryz.isAgg96) (show (IfH.v ((oc29.1.getD ((k).toNat) tyDev.dflt)):Value)=IfH.v ((zav r27.2.2.1.legs oc29.1).getD ((k).toNat) zbz).dev from by rw [zb2 (by have := hdl31; simpa using this)])) rfl <| aN 4 31 rfl rfl (zaj rfl) rfl <| aN 5 63 rfl rfl (zdi rfl) rfl <| aN 6 127 rfl rfl (zbe rfl ⟨_,_,_,Tryz.runUnderlying129,rfl,rfl,Tryz.sizeOf3,rfl⟩) rfl ?_
        obtain ⟨hg10,h⟩ := zbt h
        refine aV 7 255 rfl rfl (zak rfl) (t2_ (t2_ (t1_ (t1_ (t1_ (t1_ (eD eR))))))) (VJ_eq (za6 rfl rfl (show (k).toNat < (zav r27.2.2.1.legs oc29.1).length by rw [zai (by have := hdl31; simpa using this)]; exact hg10) foc1 (Reads.sl _ _ _) rfl rfl Tryz.isAgg3) (show (.int .i64 ((r27.2.2.1.legs.getD ((k).toNat) mleg_x0).copied):Value) = .int .i64 ((zav r27.2.2.1.legs oc29.1).getD ((k).toNat) zbz).copied from by rw [zb2 (by have := hdl31; simpa using this)])) rfl <| aN 8 511 rfl rfl (zaj rfl) rfl <| aN 9 1023 rfl rfl (zo4 rfl) rfl <| aN 10 2047 rfl rfl (zaj rfl) rfl <| zh9 (fun h hh=>zd3 h (zaq (del0 (A:=DevP bs ((r27.2.2.1.legs.getD ((k).toNat) mleg_x0).dev) ((oc29.1.getD ((k).toNat) tyDev.dflt)))).out h hh)) fun hdp35 => ?_
        obtain ⟨r36,hr37,h⟩ := zar h
        refine AJ_op 11 4095 rfl (by kernel_rfl) rfl (zak rfl) <| zc8 rfl (zjn hr37 hdp35) rfl (Dels.cons del0 (Dels.cons del5 Dels.nil)) rfl fun _ _=>⟨fun h=>absurd h (by decide),?_⟩
        refine aN 12 8191 rfl rfl (zb0 rfl) rfl <| zcd (by kernel_rfl) <| zas (Ent.trans (t3_ (t3_ (t2_ (t2_ (t2_ eR))))) (zdq (v0:=r27.2.2.1.legs) (v1:=r27.2.2.1.log) (v2:=r27.2.2.1.hasLog) (v3:=r27.2.2.1.logState) (v4:=r27.2.2.1.size) (v5:=r27.2.2.1.region) (v6:=r27.2.2.1.dirty) (v7:=r27.2.2.1.copied) (h0:=oc29.1) (h1:=oc29.2.1) (h2:=oc29.2.2))) <| zam <| sR <| oM rfl rfl <| oP (P_neq (a:=r36.1) (b:=(0:Int)) rfl rfl) rfl <| nT <| zan rfl zab (fun hg11 => ?_) (fun hg11 => ?_)
        ·
         replace h := ite_t hg11 h
         refine sR <| oM rfl rfl <| oM rfl rfl <| oM rfl rfl ?_
         obtain ⟨r38,hr39,h⟩ := zar h
         refine oO <| zat (zfq hr39) rfl Tryz.call76 (Dels.cons del0 (Dels.cons del1 Dels.nil)) rfl fun _ _=>oA rfl rfl <| oA rfl rfl <| nT <| zah <| zad <| zau <| zad <| za9 <| zau <| zad ?_
         have hE := Option.some.inj h
         replace hE := zce hK9 hE.symm
         subst hE
         exact fE (res2 Tryz.results39 rfl rfl) () (t0_ (t0_ (eD eR)))
        ·
         replace h := ite_f hg11 h
         refine kT <| zaf <| oM rfl rfl <| oP (zdi rfl) rfl <| oP (zbe rfl ⟨_,_,_,Tryz.runUnderlying129,rfl,rfl,Tryz.sizeOf3,rfl⟩) rfl <| zmu (Ent.transX (t0_ eR) (zcx (l:=r27.2.2.1))) fun oc40=>zcl (fun h hh=>za7 (zaq (del2 (A:=Rs (DevP bs) (r27.2.2.1.legs.map mlegS.dev) oc40.1)).out h hh)) fun hdl42=>zcl (zcg (Reads.sl _ _ _) del1) fun hlen43 => ?_
         rw [zai (by have := hdl42; simpa using this)] at hlen43
         refine zcl (zcg (Reads.sl _ _ _) del4) fun hlen44 => ?_
         obtain ⟨hg12,h⟩ := zbt h
         refine oV (VJ_eq (za6 rfl rfl (show (k).toNat < (zav r27.2.2.1.legs oc40.1).length by rw [zai (by have := hdl42; simpa using this)]; exact hg12) foc1 (Reads.sl _ _ _) rfl rfl Tryz.isAgg3) (show (.int .i64 ((r27.2.2.1.legs.getD ((k).toNat) mleg_x0).copied):Value) = .int .i64 ((zav r27.2.2.1.legs oc40.1).getD ((k).toNat) zbz).copied from by rw [zb2 (by have := hdl42; simpa using this)])) rfl ?_
         obtain ⟨hg13,h⟩ := zd7 h
         refine oP (P_add (a:=(r27.2.2.1.legs.getD ((k).toNat) mleg_x0).copied) (b:=(1:Int)) rfl rfl hg13) rfl <| oP (zdi rfl) rfl <| oP (zbe rfl ⟨_,_,_,Tryz.runUnderlying129,rfl,rfl,Tryz.sizeOf3,rfl⟩) rfl ?_
         obtain ⟨hg14,h⟩ := zbt h
         refine oO <| zea (x' := { (zav r27.2.2.1.legs oc40.1).getD ((k).toNat) zbz with copied := ((r27.2.2.1.legs.getD ((k).toNat) mleg_x0).copied + (1:Int)) }) rfl rfl rfl (show (k).toNat < (zav r27.2.2.1.legs oc40.1).length by rw [zai (by have := hdl42; simpa using this)]; exact hg14) foc1 rfl rfl rfl Tryz.sizeOf3 <| zbb (Ent.takeC (A' := sl zdp (Sl3.v vlm) (zav (r27.2.2.1.legs.set ((k).toNat) { r27.2.2.1.legs.getD ((k).toNat) mleg_x0 with copied := ((r27.2.2.1.legs.getD ((k).toNat) mleg_x0).copied + (1:Int)) }) oc40.1)) del1 (congrArg (sl zdp (Sl3.v vlm)) (zk2 (by have := hdl42; simpa using this) hg14 (((r27.2.2.1.legs.getD ((k).toNat) mleg_x0).copied + (1:Int))))) (Ent.takeC (A' := Rs (DevP bs) (((r27.2.2.1.legs.set ((k).toNat) { r27.2.2.1.legs.getD ((k).toNat) mleg_x0 with copied := ((r27.2.2.1.legs.getD ((k).toNat) mleg_x0).copied + (1:Int)) })).map mlegS.dev) oc40.1) del1 (congrArg (fun z=>Rs (DevP bs) z oc40.1) (zk3 (l:=r27.2.2.1.legs) (i:=((k).toNat)) (((r27.2.2.1.legs.getD ((k).toNat) mleg_x0).copied + (1:Int)))).symm) eR)) <| zcl (fun h hh=>za7 (zaq (del1 (A:=Rs (DevP bs) ((((r27.2.2.1.legs.set ((k).toNat) { r27.2.2.1.legs.getD ((k).toNat) mleg_x0 with copied := ((r27.2.2.1.legs.getD ((k).toNat) mleg_x0).copied + (1:Int)) })).map mlegS.dev)) oc40.1)).out h hh)) fun hdl45=>zap ?_
         refine zas (Ent.trans (t2_ eR) (zdq (v0:=(r27.2.2.1.legs.set ((k).toNat) { r27.2.2.1.legs.getD ((k).toNat) mleg_x0 with copied := ((r27.2.2.1.legs.getD ((k).toNat) mleg_x0).copied + (1:Int)) })) (v1:=r27.2.2.1.log) (v2:=r27.2.2.1.hasLog) (v3:=r27.2.2.1.logState) (v4:=r27.2.2.1.size) (v5:=r27.2.2.1.region) (v6:=r27.2.2.1.dirty) (v7:=r27.2.2.1.copied) (h0:=oc40.1) (h1:=oc40.2.1) (h2:=oc40.2.2))) <| zao <| zam <| zaf <| oM rfl rfl ?_
         obtain ⟨hg15,h⟩ := zd7 h
         exact oP (P_sub (a:=x16) (b:=(1:Int)) rfl rfl hg15) rfl <| oA rfl rfl <| zap <| nR ⟨n, { r27.2.2.1 with legs := (r27.2.2.1.legs.set ((k).toNat) { r27.2.2.1.legs.getD ((k).toNat) mleg_x0 with copied := ((r27.2.2.1.legs.getD ((k).toNat) mleg_x0).copied + (1:Int)) }) },r36.2,(x16 - (1:Int))⟩ h ⟨rfl,True.intro⟩ (t0_ (t1_ (eD eR)))
      ·
       replace h := ite_f hg6 h
       exact zbj <| za3 <| za2 <| za0 <| cR (x14,x15) (Option.some.inj h).symm True.intro eR
     ·
      replace h := ite_f hg4 h
      exact aS 3 15 rfl rfl (GY_no rfl rfl rfl hg4B) rfl <| aS 4 31 rfl rfl (GY_no rfl rfl rfl hg4B) rfl <| aS 5 63 rfl rfl (GY_no rfl rfl rfl hg4B) rfl <| aS 6 127 rfl rfl (GY_no rfl rfl rfl hg4B) rfl <| aS 7 255 rfl rfl (GY_no rfl rfl rfl hg4B) rfl <| aS 8 511 rfl rfl (GY_no rfl rfl rfl hg4B) rfl <| aS 9 1023 rfl rfl (GY_no rfl rfl rfl hg4B) rfl <| aS 10 2047 rfl rfl (GY_no rfl rfl rfl hg4B) rfl <| aS 11 4095 rfl rfl (GY_no rfl rfl rfl hg4B) rfl <| aN 12 8191 rfl rfl (za8 rfl hg4B rfl) rfl <| zcd (by kernel_rfl) <| zas (Ent.trans eR (zdq (v0:=x14.legs) (v1:=x14.log) (v2:=x14.hasLog) (v3:=x14.logState) (v4:=x14.size) (v5:=x14.region) (v6:=x14.dirty) (v7:=x14.copied) (h0:=oc17.1) (h1:=oc17.2.1) (h2:=oc17.2.2))) <| zam <| zgh rfl rfl <| zbj <| za3 <| za2 <| za0 <| cR (x14,x15) (Option.some.inj h).symm True.intro eR
   ·
    rintro a13 hy46
    replace h := zd0 hK9 hy46
    show CJ _ _ _ _ _ (([]:Slots) ++ forget _ _) (MirQ bs vlm bm a13.1::Arr bs a13.2::_)
    refine sR <| oM rfl rfl <| oP (zdi rfl) rfl <| oP (zbe rfl ⟨_,_,_,Tryz.runUnderlying129,rfl,rfl,Tryz.sizeOf3,rfl⟩) rfl <| zmu (Ent.transX (t0_ eR) (zcx (l:=a13.1))) fun oc47=>zcl (fun h hh=>za7 (zaq (del2 (A:=Rs (DevP bs) (a13.1.legs.map mlegS.dev) oc47.1)).out h hh)) fun hdl49=>zcl (zcg (Reads.sl _ _ _) del1) fun hlen50 => ?_
    rw [zai (by have := hdl49; simpa using this)] at hlen50
    refine zcl (zcg (Reads.sl _ _ _) del4) fun hlen51 => ?_
    obtain ⟨hg16,h⟩ := zbt h
    refine oV (VJ_eq (za6 rfl rfl (show (k).toNat < (zav a13.1.legs oc47.1).length by rw [zai (by have := hdl49; simpa using this)]; exact hg16) foc1 (Reads.sl _ _ _) rfl rfl Tryz.isAgg3) (show (.int .i64 ((a13.1.legs.getD ((k).toNat) mleg_x0).copied):Value) = .int .i64 ((zav a13.1.legs oc47.1).getD ((k).toNat) zbz).copied from by rw [zb2 (by have := hdl49; simpa using this)])) rfl <| oA rfl rfl <| oA rfl rfl <| zap <| zas (Ent.trans eR (zdq (v0:=a13.1.legs) (v1:=a13.1.log) (v2:=a13.1.hasLog) (v3:=a13.1.logState) (v4:=a13.1.size) (v5:=a13.1.region) (v6:=a13.1.dirty) (v7:=a13.1.copied) (h0:=oc47.1) (h1:=oc47.2.1) (h2:=oc47.2.2))) <| zam <| zah ?_
    cases h
    exact fE (res2 Tryz.results39 rfl rfl) () eR
theorem CSpec.exq {α:Type} {P:Program} {W:World} {f:FuncId} {args:List Value} {A:α→HP} {A0 B0:HP} {B:α→HP} {R R':List HP} {X:Type} {res:X→Value} {pf:X→Prop} (hA:∀ F,EntX (A0::F) (fun v=>A v::F)) (hB:∀ v F,Ent (B v::F) (B0::F)) (h:∀ v,CSpec P W f args (A v::R) res pf (fun _ F=>B v::(R' ++ F))):CSpec P W f args (A0::R) res pf (fun _ F=>B0::(R' ++ F)) := by
  intro F w hs
  obtain ⟨gg,hgg⟩ := hs.heap
  obtain ⟨v,hv⟩ := hA (R ++ F) _ hgg
  refine (h v F w ⟨hs.os,hs.tape,hs.output,gg,hv⟩).mono ?_
  rintro e w' ⟨x,h1,h2,h3⟩
  exact ⟨x,h1,h2,h3.imp (hB v _)⟩
theorem zmk {W:World} {bm:Nat} {bs:Nat} {m:MirS} {k:Int} {n_2:Int} {s:ArrS} {r:Int × Int × MirS × ArrS} (h:zg7 m k n_2 s=some r) :
    CSpec Tryz.prog W 39 [ptr bm 0,.int .i64 k,.int .i64 n_2] [MirP bs bm m,Arr bs s] (fun x:Unit => .tuple #[.int .i64 r.1,.int .i64 r.2.1]) (fun _=>True) (fun x F=>MirP bs bm r.2.2.1::Arr bs r.2.2.2::F) :=
  CSpec.exq (R' := [Arr bs r.2.2.2]) (fun _=>zl6) (fun _ _=>zl7) (fun _=>zpl h)
def ze7 (m:MirS) (k:Int) (s:ArrS):Option (Int × MirS × ArrS) :=
  Option.bind (zft m k s) fun r1 =>
  if (r1≠(0:Int)) then
    some (r1,m,s)
  else
    grd (decide (0≤k∧k < (m.legs.length:Int))) <|
    if ((m.legs.getD ((k).toNat) mleg_x0).copied < m.size) then
      some (((20:Int),m,s))
    else
      Option.bind (zep m s) fun r8 =>
      if ((0:Int) < ((r8.length:Nat):Int)) then
        some (((20:Int),m,s))
      else
        Option.bind (zhp m s) fun r12 =>
        if (r12.1≠(0:Int)) then
          some (r12.1,r12.2.1,r12.2.2)
        else
          grd (decide (0≤k∧k < (r12.2.1.legs.length:Int))) <|
          Option.bind (Dvc.fl ((r12.2.1.legs.getD ((k).toNat) mleg_x0).dev) r12.2.2) fun r21 =>
          if (r21.1≠(0:Int)) then
            Option.bind (zbg r12.2.1 k r21.1 r21.2) fun r23 =>
            if (r23.1≠(0:Int)) then
              some (r23.1,r23.2,r21.2)
            else
              some (((20:Int),r23.2,r21.2))
          else
            grd (decide (0≤k∧k < (r12.2.1.legs.length:Int))) <|
            some (((0:Int), { r12.2.1 with legs := (r12.2.1.legs.set ((k).toNat) { r12.2.1.legs.getD ((k).toNat) mleg_x0 with state := (0:Int) }) },r21.2))
theorem zls {W:World} {bm:Nat} {bs:Nat} {m:MirS} {k:Int} {s:ArrS} {r:Int × MirS × ArrS} (h:ze7 m k s=some r) :
    CSpec Tryz.prog W 38 [ptr bm 0,.int .i64 k] [MirP bs bm m,Arr bs s] (fun x:Unit => .int .i64 r.1) (fun _=>True) (fun x F=>MirP bs bm r.2.1::Arr bs r.2.2::F) := by
 refine CSpec.of_body Tryz.func38 rfl Tryz.ntmps38 rfl fun F => ?_
 show CJ _ _ _ _ _ _ (_::_::F)
 unfold ze7 at h
 refine sR <| oA rfl rfl <| nT <| zac <| sR <| oM rfl rfl <| oM rfl rfl ?_
 obtain ⟨r1,hr2,h⟩ := zar h
 refine oO <| zat (zoq hr2) rfl Tryz.call78 (Dels.cons del0 (Dels.cons del0 Dels.nil)) rfl fun _ _=>oA rfl rfl <| nT <| sR <| oM rfl rfl <| oP (P_neq (a:=r1) (b:=(0:Int)) rfl rfl) rfl <| nT <| zan rfl zab (fun hg1 => ?_) (fun hg1 => ?_)
 ·
  replace h := ite_t hg1 h
  refine sR <| oM rfl rfl <| oA rfl rfl <| nT <| zah <| zad ?_
  cases h
  exact fE (res1 Tryz.results38 rfl) () eR
 ·
  replace h := ite_f hg1 h
  refine kT <| zac <| zac <| zax (Ent.transX (t0_ eR) (zba (l:=m))) fun oc3=>za1 (fun h hh=>za7 (zaq (del2 (A:=Rs (DevP bs) (m.legs.map mlegS.dev) oc3.2.1)).out h hh)) fun hdl5=>lC del1 fun hlen6 => ?_
  rw [zai (by have := hdl5; simpa using this)] at hlen6
  refine lC del4 fun hlen7=>zbc 98304 (by kernel_rfl) rfl <| aN 0 1 rfl rfl (zaj rfl) rfl <| aN 1 3 rfl rfl (zae rfl) rfl <| aN 2 7 rfl rfl (zaa rfl ⟨_,_,_,Tryz.runUnderlying119,rfl,rfl,Tryz.sizeOf115,rfl⟩) rfl <| aV 3 15 rfl rfl (zak rfl) eR (zag rfl foc0 rfl Tryz.isAgg115) rfl <| aN 4 31 rfl rfl (zaj rfl) rfl ?_
  obtain ⟨hg2,h⟩ := zbt h
  refine aV 5 63 rfl rfl (zak rfl) eR (zay (i:=(k).toNat) rfl rfl (Int.toNat_of_nonneg (hg2.1)).symm (show (k).toNat < (zav m.legs oc3.2.1).length by rw [zai (by have := hdl5; simpa using this)]; exact (by omega)) foc1 (Reads.sl _ _ _) Tryz.runUnderlying115 Tryz.sizeOf129) rfl <| aN 6 127 rfl rfl (zbe rfl ⟨_,_,_,Tryz.runUnderlying129,rfl,rfl,Tryz.sizeOf3,rfl⟩) rfl <| aV 7 255 rfl rfl (zak rfl) eR (VJ_eq (za6 rfl rfl (show (k).toNat < (zav m.legs oc3.2.1).length by rw [zai (by have := hdl5; simpa using this)]; exact (by omega)) foc1 (Reads.sl _ _ _) rfl rfl Tryz.isAgg3) (show (.int .i64 ((m.legs.getD ((k).toNat) mleg_x0).copied):Value) = .int .i64 ((zav m.legs oc3.2.1).getD ((k).toNat) zbz).copied from by rw [zb2 (by have := hdl5; simpa using this)])) rfl <| aN 8 511 rfl rfl (zaj rfl) rfl <| aN 9 1023 rfl rfl (zae rfl) rfl <| aN 10 2047 rfl rfl (zaa rfl ⟨_,_,_,Tryz.runUnderlying119,rfl,rfl,Tryz.sizeOf3,rfl⟩) rfl <| aV 11 4095 rfl rfl (zak rfl) eR (zag rfl foc0 rfl Tryz.isAgg3) rfl <| aN 12 8191 rfl rfl (P_lss (a:=(m.legs.getD ((k).toNat) mleg_x0).copied) (b:=m.size) rfl rfl) rfl <| aN 13 16383 rfl rfl (zaj rfl) rfl <| ziv 28 rfl zab (fun hg3B hg3 => ?_) (fun hg3B hg3 => ?_)
  ·
   replace h := ite_t hg3 h
   refine aS 14 32767 rfl rfl (GY_no rfl rfl rfl hg3B) rfl <| aS 15 65535 rfl rfl (GY_no rfl rfl rfl hg3B) rfl <| aS 16 131071 rfl rfl (GY_no rfl rfl rfl hg3B) rfl <| aS 17 262143 rfl rfl (GY_no rfl rfl rfl hg3B) rfl <| aN 18 524287 rfl rfl (zbh rfl hg3B rfl) rfl <| zcd (by kernel_rfl) <| zas (Ent.trans eR (zbn (v0:=m.legs) (v1:=m.log) (v2:=m.hasLog) (v3:=m.logState) (v4:=m.size) (v5:=m.region) (v6:=m.dirty) (v7:=m.copied) (h0:=oc3.1) (h1:=oc3.2.1) (h2:=oc3.2.2.1) (h3:=oc3.2.2.2))) <| zam <| zck rfl rfl <| sR <| oA rfl rfl <| nT <| zah <| zad ?_
   cases h
   exact fE (res1 Tryz.results38 rfl) () eR
  ·
   replace h := ite_f hg3 h
   refine aP 14 32767 rfl rfl (zal rfl rfl rfl hg3B) (zaj rfl) rfl <| zey (Ent.trans eR (zbn (v0:=m.legs) (v1:=m.log) (v2:=m.hasLog) (v3:=m.logState) (v4:=m.size) (v5:=m.region) (v6:=m.dirty) (v7:=m.copied) (h0:=oc3.1) (h1:=oc3.2.1) (h2:=oc3.2.2.1) (h3:=oc3.2.2.2))) ?_
   obtain ⟨r8,hr9,h⟩ := zar h
   refine AJ_op 15 65535 rfl (by kernel_rfl) rfl (zal rfl rfl rfl hg3B) <| zat (zhy hr9) rfl Tryz.call22 (Dels.cons del0 (Dels.cons del0 Dels.nil)) rfl fun X10 _=>⟨fun h=>absurd h (by decide),?_⟩
   refine AJ_op 16 131071 rfl (by kernel_rfl) rfl (zal rfl rfl rfl hg3B) <| OJ_V (V_len rfl foc2 (Reads.sl _ _ _) Tryz.runUnderlying45) rfl <| ⟨fun h=>absurd h (by decide),?_⟩
   refine aP 17 262143 rfl rfl (zal rfl rfl rfl hg3B) (P_gtr (a:=((r8.length:Nat):Int)) (b:=(0:Int)) rfl rfl) rfl <| aN 18 524287 rfl rfl (za8 rfl hg3B rfl) rfl <| aD <| zan rfl zab (fun hg4 => ?_) (fun hg4 => ?_)
   ·
    replace h := ite_t hg4 h
    refine sR <| oA rfl rfl <| nT <| zah <| zad ?_
    cases h
    exact fE (res1 Tryz.results38 rfl) () (t0_ (t0_ (eD eR)))
   ·
    replace h := ite_f hg4 h
    refine kT <| zac <| sR <| oM rfl rfl ?_
    obtain ⟨r12,hr13,h⟩ := zar h
    refine oO <| zat (zma hr13) rfl Tryz.call74 (Dels.cons del0 (Dels.cons del0 Dels.nil)) rfl fun _ _=>oA rfl rfl <| nT <| sR <| oM rfl rfl <| oP (P_neq (a:=r12.1) (b:=(0:Int)) rfl rfl) rfl <| nT <| zan rfl zab (fun hg5 => ?_) (fun hg5 => ?_)
    ·
     replace h := ite_t hg5 h
     refine sR <| oM rfl rfl <| oA rfl rfl <| nT <| zah <| zad ?_
     cases h
     exact fE (res1 Tryz.results38 rfl) () (t0_ (t0_ (eD eR)))
    ·
     replace h := ite_f hg5 h
     refine kT <| zac <| zac <| zax (Ent.transX (t0_ eR) (zba (l:=r12.2.1))) fun oc14=>za1 (fun h hh=>za7 (zaq (del2 (A:=Rs (DevP bs) (r12.2.1.legs.map mlegS.dev) oc14.2.1)).out h hh)) fun hdl16=>lC del1 fun hlen17 => ?_
     rw [zai (by have := hdl16; simpa using this)] at hlen17
     refine lC del4 fun hlen18=>zaf <| oM rfl rfl <| oP (zae rfl) rfl <| oP (zaa rfl ⟨_,_,_,Tryz.runUnderlying119,rfl,rfl,Tryz.sizeOf115,rfl⟩) rfl <| oV (zag rfl foc0 rfl Tryz.isAgg115) rfl <| oM rfl rfl ?_
     obtain ⟨hg6,h⟩ := zbt h
     refine oV (zay (i:=(k).toNat) rfl rfl (Int.toNat_of_nonneg (hg6.1)).symm (show (k).toNat < (zav r12.2.1.legs oc14.2.1).length by rw [zai (by have := hdl16; simpa using this)]; exact (by omega)) foc1 (Reads.sl _ _ _) Tryz.runUnderlying115 Tryz.sizeOf129) rfl <| oP (zbe rfl ⟨_,_,_,Tryz.runUnderlying129,rfl,rfl,Tryz.sizeOf96,rfl⟩) rfl <| zbb (Ent.trans (t2_ eR) (zfk (i:=(k).toNat) (by omega))) <| oV (VJ_eq (za6 rfl rfl (show (k).toNat < (zav r12.2.1.legs oc14.2.1).length by rw [zai (by have := hdl16; simpa using this)]; exact (by omega)) foc3 (Reads.sl _ _ _) rfl rfl Tryz.isAgg96) (show (IfH.v ((oc14.2.1.getD ((k).toNat) tyDev.dflt)):Value)=IfH.v ((zav r12.2.1.legs oc14.2.1).getD ((k).toNat) zbz).dev from by rw [zb2 (by have := hdl16; simpa using this)])) rfl <| zcl (fun h hh=>zd3 h (zaq (del0 (A:=DevP bs ((r12.2.1.legs.getD ((k).toNat) mleg_x0).dev) ((oc14.2.1.getD ((k).toNat) tyDev.dflt)))).out h hh)) fun hdp20 => ?_
     obtain ⟨r21,hr22,h⟩ := zar h
     refine oO <| zc8 rfl (zk1 hr22 hdp20) rfl (Dels.cons del0 (Dels.cons del5 Dels.nil)) rfl fun _ _=>oA rfl rfl <| zap <| zas (Ent.trans (t3_ (t3_ (t2_ (t2_ (t2_ eR))))) (zbn (v0:=r12.2.1.legs) (v1:=r12.2.1.log) (v2:=r12.2.1.hasLog) (v3:=r12.2.1.logState) (v4:=r12.2.1.size) (v5:=r12.2.1.region) (v6:=r12.2.1.dirty) (v7:=r12.2.1.copied) (h0:=oc14.1) (h1:=oc14.2.1) (h2:=oc14.2.2.1) (h3:=oc14.2.2.2))) <| zam <| sR <| oM rfl rfl <| oP (P_neq (a:=r21.1) (b:=(0:Int)) rfl rfl) rfl <| nT <| zan rfl zab (fun hg7 => ?_) (fun hg7 => ?_)
     ·
      replace h := ite_t hg7 h
      refine zac <| sR <| oM rfl rfl <| oM rfl rfl <| oM rfl rfl ?_
      obtain ⟨r23,hr24,h⟩ := zar h
      refine oO <| zat (zee hr24) rfl Tryz.call76 (Dels.cons del0 (Dels.cons del1 Dels.nil)) rfl fun _ _=>oA rfl rfl <| nT <| sR <| oM rfl rfl <| oP (P_neq (a:=r23.1) (b:=(0:Int)) rfl rfl) rfl <| nT <| zan rfl zab (fun hg8 => ?_) (fun hg8 => ?_)
      ·
       replace h := ite_t hg8 h
       refine sR <| oM rfl rfl <| oA rfl rfl <| nT <| zah <| zad <| zad ?_
       cases h
       exact fE (res1 Tryz.results38 rfl) () (t0_ (t0_ (eD (eD eR))))
      ·
       replace h := ite_f hg8 h
       refine kT <| sR <| oA rfl rfl <| nT <| zah <| zad ?_
       cases h
       exact fE (res1 Tryz.results38 rfl) () (t0_ (t0_ (eD (eD eR))))
     ·
      replace h := ite_f hg7 h
      refine kT <| zac <| zax (Ent.transX (t0_ eR) (zba (l:=r12.2.1))) fun oc25=>za1 (fun h hh=>za7 (zaq (del2 (A:=Rs (DevP bs) (r12.2.1.legs.map mlegS.dev) oc25.2.1)).out h hh)) fun hdl27=>lC del1 fun hlen28 => ?_
      rw [zai (by have := hdl27; simpa using this)] at hlen28
      refine lC del4 fun hlen29=>zaf <| oM rfl rfl <| oP (zae rfl) rfl <| oP (zaa rfl ⟨_,_,_,Tryz.runUnderlying119,rfl,rfl,Tryz.sizeOf115,rfl⟩) rfl <| oV (zag rfl foc0 rfl Tryz.isAgg115) rfl <| oM rfl rfl ?_
      obtain ⟨hg9,h⟩ := zbt h
      refine oV (zay (i:=(k).toNat) rfl rfl (Int.toNat_of_nonneg (hg9.1)).symm (show (k).toNat < (zav r12.2.1.legs oc25.2.1).length by rw [zai (by have := hdl27; simpa using this)]; exact (by omega)) foc1 (Reads.sl _ _ _) Tryz.runUnderlying115 Tryz.sizeOf129) rfl <| oP (zbe rfl ⟨_,_,_,Tryz.runUnderlying129,rfl,rfl,Tryz.sizeOf117,rfl⟩) rfl <| oO <| zea (x' := { (zav r12.2.1.legs oc25.2.1).getD ((k).toNat) zbz with state := (0:Int) }) rfl rfl rfl (show (k).toNat < (zav r12.2.1.legs oc25.2.1).length by rw [zai (by have := hdl27; simpa using this)]; exact (by omega)) foc1 rfl rfl rfl Tryz.sizeOf117 <| zbb (Ent.takeC (A' := sl zdp (Sl3.v oc25.1) (zav (r12.2.1.legs.set ((k).toNat) { r12.2.1.legs.getD ((k).toNat) mleg_x0 with state := (0:Int) }) oc25.2.1)) del1 (congrArg (sl zdp (Sl3.v oc25.1)) (zll (by have := hdl27; simpa using this) (by omega) (0:Int))) (Ent.takeC (A' := Rs (DevP bs) (((r12.2.1.legs.set ((k).toNat) { r12.2.1.legs.getD ((k).toNat) mleg_x0 with state := (0:Int) })).map mlegS.dev) oc25.2.1) del1 (congrArg (fun z=>Rs (DevP bs) z oc25.2.1) (zlm (l:=r12.2.1.legs) (i:=((k).toNat)) (0:Int)).symm) eR)) <| zcl (fun h hh=>za7 (zaq (del1 (A:=Rs (DevP bs) ((((r12.2.1.legs.set ((k).toNat) { r12.2.1.legs.getD ((k).toNat) mleg_x0 with state := (0:Int) })).map mlegS.dev)) oc25.2.1)).out h hh)) fun hdl30=>zap ?_
      refine zas (Ent.trans (t2_ eR) (zbn (v0:=(r12.2.1.legs.set ((k).toNat) { r12.2.1.legs.getD ((k).toNat) mleg_x0 with state := (0:Int) })) (v1:=r12.2.1.log) (v2:=r12.2.1.hasLog) (v3:=r12.2.1.logState) (v4:=r12.2.1.size) (v5:=r12.2.1.region) (v6:=r12.2.1.dirty) (v7:=r12.2.1.copied) (h0:=oc25.1) (h1:=oc25.2.1) (h2:=oc25.2.2.1) (h3:=oc25.2.2.2))) <| zam <| sR <| oA rfl rfl <| nT <| zah ?_
      cases h
      exact fE (res1 Tryz.results38 rfl) () (t0_ (t1_ (eD (eD eR))))
end Go.Proofs
set_option linter.unusedSimpArgs false
set_option linter.unusedVariables false
set_option maxRecDepth 20000
set_option maxHeartbeats 4000000
namespace Go.Proofs
open Go.VG
def zj8 (t:List Sec):Bool := t.all fun x=>Nat.ble x.some.length 100000
theorem zq0 {t:List Sec} (h:zj8 t=true) (i:Nat):(t.getD i s0).some.length≤100000 := by
  unfold zj8 at h
  rw [List.all_eq_true] at h
  rcases Nat.lt_or_ge i t.length with h1 | h1
  · have := h t[i] (List.getElem_mem h1)
    have e:t.getD i s0=t[i] := by simp [List.getD,h1]
    rw [e]; exact Nat.le_of_ble_eq_true this
  · have e:t.getD i s0=s0 := by simp [List.getD,List.getElem?_eq_none h1]
    rw [e]; exact Nat.zero_le _
@[ext] structure volumegroupmake_Step where
  Kind:Int
  At:Int
  Value:UInt64
  Keep:UInt64
  deriving DecidableEq
abbrev tyvolumegroupmake_Step:Ty volumegroupmake_Step := { T := 37,sz := 4,enc := fun x=>[.int .i64 x.Kind,.int .i64 x.At,.int .u64 (x.Value.toNat:Int),.int .u64 (x.Keep.toNat:Int)],dflt := ⟨0,0,0,0⟩,len := fun _=>rfl,one := fun _=>rfl,pos := by decide }
def zhq (l:List volumegroupmake_Step):Option (Bool) :=
  some ((decide (((l.length:Nat):Int)≤(24:Int))))
theorem zmc {W:World} {Al:HP} {vl:Value} {l:List volumegroupmake_Step} {r:Bool} (rl:Reads Al tyvolumegroupmake_Step vl l) (h:zhq l=some r) :
    CSpec Tryz.prog W 12 [vl] [Al] (fun x:Unit => .bool r) (fun _=>True) (fun x F=>Al::F) := by
 refine CSpec.of_body Tryz.func12 rfl Tryz.ntmps12 rfl fun F => ?_
 show CJ _ _ _ _ _ _ (_::F)
 unfold zhq at h
 refine za1 (zcg rl del0) fun hlen1=>sR <| oA rfl rfl <| nT <| sR <| oM rfl rfl <| oV (V_len rfl foc0 rl Tryz.runUnderlying22) rfl <| oP (P_leq (a:=((l.length:Nat):Int)) (b:=(24:Int)) rfl rfl) rfl <| oA rfl rfl <| nT <| zah ?_
 cases h
 exact fE (res1 Tryz.results12 rfl) () eR
structure OwnS where
  Open_1:Int
  Open_2:Int
  Open_3:Int
  Open_4:Bool
  X:Option MirS
  T:List Sec
  Stale:List Int
  Lost:List Int
def OwnP (a b:Nat) (l:OwnS):HP := ex fun h:Nat × Nat × Nat × Sl3 × Sl3=>star [blk b 60 [ptr a 0,.func (.func 46) #[] #[ptr h.1 0],oifc 41 l.X h.2.1,ptr h.2.2.1 0,(Sl3.v h.2.2.2.1),(Sl3.v h.2.2.2.2)],blk h.1 28 [ptr a 0,.int .i64 l.Open_1,.int .i64 l.Open_2,.int .i64 l.Open_3,.bool l.Open_4],optP (MirP a h.2.1) l.X,Trk h.2.2.1 l.T,sl tyI (Sl3.v h.2.2.2.1) l.Stale,sl tyI (Sl3.v h.2.2.2.2) l.Lost]
theorem ze8 {a b:Nat} {l:OwnS} {R:List HP} : EntX (OwnP a b l::R) fun h:Nat × Nat × Nat × Sl3 × Sl3=>blk b 60 [ptr a 0,.func (.func 46) #[] #[ptr h.1 0],oifc 41 l.X h.2.1,ptr h.2.2.1 0,(Sl3.v h.2.2.2.1),(Sl3.v h.2.2.2.2)]::blk h.1 28 [ptr a 0,.int .i64 l.Open_1,.int .i64 l.Open_2,.int .i64 l.Open_3,.bool l.Open_4]::optP (MirP a h.2.1) l.X::Trk h.2.2.1 l.T::sl tyI (Sl3.v h.2.2.2.1) l.Stale::sl tyI (Sl3.v h.2.2.2.2) l.Lost::R :=
  fun _ hh=>let ⟨c,hc⟩ := stars_ex.1 hh; ⟨c,stars_star.1 hc⟩
theorem zem {a b:Nat} {v0:Int} {v1:Int} {v2:Int} {v3:Bool} {v4:Option MirS} {v5:List Sec} {v6:List Int} {v7:List Int} {h0:Nat} {h1:Nat} {h2:Nat} {h3:Sl3} {h4:Sl3} {R:List HP} : Ent (blk b 60 [ptr a 0,.func (.func 46) #[] #[ptr h0 0],oifc 41 v4 h1,ptr h2 0,(Sl3.v h3),(Sl3.v h4)]::blk h0 28 [ptr a 0,.int .i64 v0,.int .i64 v1,.int .i64 v2,.bool v3]::optP (MirP a h1) v4::Trk h2 v5::sl tyI (Sl3.v h3) v6::sl tyI (Sl3.v h4) v7::R) (OwnP a b ⟨v0,v1,v2,v3,v4,v5,v6,v7⟩::R) :=
  fun _ hh=>stars_ex.2 ⟨(h0,h1,h2,h3,h4),stars_star.2 hh⟩
def zg8 (l:List Int) (n_1:Int) (rec:Nat→Option ((Unit) ⊕ Bool)) (x6:Nat):Option ((Unit) ⊕ Bool) :=
  if (((x6:Nat):Int) < ((l.length:Nat):Int)) then
    if ((l.getD x6 0)=n_1) then
      some (.inr true)
    else
      rec (x6 + 1)
  else
    some (.inl ())
def zej (l:List Int) (n_1:Int):Nat→Nat→Option ((Unit) ⊕ Bool)
  | 0,_=>none
  | n + 1,x6=>zg8 l n_1 (zej l n_1 n) x6
def zii (l:List Int) (n_1:Int):Option (Bool) :=
  seqO (zej l n_1 FUEL 0) fun a5 =>
  some false
theorem zpm {W:World} {Al:HP} {vl:Value} {l:List Int} {n_1:Int} {r:Bool} (rl:Reads Al tyI vl l) (h:zii l n_1=some r) :
    CSpec Tryz.prog W 95 [vl,.int .i64 n_1] [Al] (fun x:Unit => .bool r) (fun _=>True) (fun x F=>Al::F) := by
 refine CSpec.of_body Tryz.func95 rfl Tryz.ntmps95 rfl fun F => ?_
 show CJ _ _ _ _ _ _ (_::F)
 unfold zii at h
 refine za1 (zcg rl del0) fun hlen1=>sR <| oA rfl rfl <| nT <| zac <| sR <| oA rfl rfl <| nT ?_
 obtain ⟨y4,hl2,hK3⟩ := seq_e h
 refine zbv (X:=Unit) [4,5,6,7,8,9,10,11,12,13,14,15,16,17] (fun _=>([]:Slots)) (fun _ R=>R) (fun _=>y4 = .inl ()) Dels.nil ?_ ?_
 ·
  refine zaw <| zbd (X:=Nat × Nat) [4,5,6,7,8,9,10,11,12,13,14,15,16,17] (fun ⟨n,x6⟩=>([(5,.int .i64 (((x6:Nat):Int)))]:Slots)) (fun ⟨n,x6⟩ R=>R) (fun ⟨n,x6⟩=>zej l n_1 n x6=some y4) (fun ⟨n,x6⟩=>n) ⟨FUEL,0⟩ ?_ ?_ eR ?_
  · exact hl2
  · exact ⟨rfl,True.intro⟩
  ·
   rintro ⟨n,x6⟩ h
   cases n with
   | zero=>exact zbq h
   | succ n => ?_
   replace h:zg8 l n_1 (zej l n_1 n) x6=some y4 := h
   unfold zg8 at h
   show CJ _ _ _ _ _ (([(5,.int .i64 (((x6:Nat):Int)))]:Slots) ++ forget _ _) (_)
   refine zac <| sR <| oM rfl rfl <| oM rfl rfl <| oV (V_len rfl foc0 rl Tryz.runUnderlying45) rfl <| oP (P_lss (a:=((x6:Nat):Int)) (b:=((l.length:Nat):Int)) rfl rfl) rfl <| nT <| zan rfl zab (fun hg1 => ?_) (fun hg1 => ?_)
   ·
    replace h := ite_t hg1 h
    refine kT <| zac <| zaw <| sR <| oM rfl rfl <| oM rfl rfl <| oV (zay (i:=x6) rfl rfl rfl (by omega) foc0 rl Tryz.runUnderlying45 Tryz.sizeOf3) rfl <| oV (za6 rfl rfl (by omega) foc0 rl rfl rfl Tryz.isAgg3) rfl <| oM rfl rfl <| oP (P_eql (a:=(l.getD x6 0)) (b:=n_1) rfl rfl) rfl <| nT <| zan rfl zab (fun hg2 => ?_) (fun hg2 => ?_)
    ·
     replace h := ite_t hg2 h
     refine sR <| oA rfl rfl <| nT <| zah <| zau <| zad <| za9 <| zau <| zad ?_
     have hE := Option.some.inj h
     replace hE := zce hK3 hE.symm
     subst hE
     exact fE (res1 Tryz.results95 rfl) () eR
    ·
     replace h := ite_f hg2 h
     exact zbr <| zao <| zam <| zaf <| oM rfl rfl <| oP (PJ_eq (P_add (a:=((x6:Nat):Int)) (b:=(1:Int)) rfl rfl (by omega)) rfl) rfl <| oA rfl rfl <| zap <| nR ⟨n,(x6 + 1)⟩ h ⟨rfl,True.intro⟩ eR
   ·
    replace h := ite_f hg1 h
    exact zbj <| za3 <| za2 <| za0 <| cR () (Option.some.inj h).symm True.intro eR
 ·
  rintro _ hy7
  replace h := zd0 hK3 hy7
  show CJ _ _ _ _ _ (([]:Slots) ++ forget _ _) (_)
  refine sR <| oA rfl rfl <| nT <| zah ?_
  cases h
  exact fE (res1 Tryz.results95 rfl) () eR
def zg9 (l:List Int) (rec:Int→(List Int)→Nat→Option (Int × (List Int))) (x10:Int) (x11:List Int) (x13:Nat):Option (Int × (List Int)) :=
  if (((x13:Nat):Int) < ((l.length:Nat):Int)) then
    Option.bind ((
      if (((0:Int)≤x10)∧(x10 < (l.getD x13 0))) then
        grd (inLen (x11.length + 1)) <|
        some (((-1:Int),(x11 ++ [x10])))
      else
        some (x10,x11):Option (Int × (List Int)))) fun a33 =>
    if ((l.getD x13 0)=a33.1) then
      grd (inLen (a33.2.length + 1)) <|
      rec (-1:Int) ((a33.2 ++ [(l.getD x13 0)])) (x13 + 1)
    else
      grd (inLen (a33.2.length + 1)) <|
      rec a33.1 ((a33.2 ++ [(l.getD x13 0)])) (x13 + 1)
  else
    some (x10,x11)
def zfe (l:List Int):Nat→Int→(List Int)→Nat→Option (Int × (List Int))
  | 0,_,_,_=>none
  | n + 1,x10,x11,x13=>zg9 l (zfe l n) x10 x11 x13
def zgk (l:List Int) (n_1:Int):Option ((List Int)) :=
  Option.bind (zfe l FUEL n_1 ([]) 0) fun a9 =>
  if ((0:Int)≤a9.1) then
    grd (inLen (a9.2.length + 1)) <|
    some (a9.2 ++ [a9.1])
  else
    some a9.2
theorem zj9 {W:World} {Al:HP} {vl:Value} {l:List Int} {n_1:Int} {r:(List Int)} (rl:Reads Al tyI vl l) (h:zgk l n_1=some r) :
    CSpec Tryz.prog W 48 [vl,.int .i64 n_1] [Al] (fun x:Sl3=>x.v) (fun _=>True) (fun x F=>Al::sl tyI x.v r::F) := by
 refine CSpec.of_body Tryz.func48 rfl Tryz.ntmps48 rfl fun F => ?_
 show CJ _ _ _ _ _ _ (_::F)
 unfold zgk at h
 refine za1 (zcg rl del0) fun hlen1=>sR <| oA rfl rfl <| nT <| sR <| oA rfl rfl <| nT <| zac <| sR <| oA rfl rfl <| nT <| zde (fun h hh=>zdj (t:=tyI) h hh) ?_
 obtain ⟨y5,hl3,hK4⟩ := zfw h
 refine zbv (X:=(Int × (List Int)) × Sl3) [1,5,6,7,8,9,10,11,12,13,14,15,16,17,18,19,20,21,22,23,24,25,26,27,28,29,30,31,32,33,34,35,36,37,38,39] (fun ⟨a9,hd8⟩=>([(1,.int .i64 a9.1),(5,hd8.v)]:Slots)) (fun ⟨a9,hd8⟩ R=>sl tyI hd8.v a9.2::R) (fun ⟨a9,hd8⟩=>y5=a9) (Dels.cons del0 Dels.nil) ?_ ?_
 ·
  refine zaw <| zbd (X:=Nat × Int × (List Int) × Nat × Sl3) [1,5,6,7,8,9,10,11,12,13,14,15,16,17,18,19,20,21,22,23,24,25,26,27,28,29,30,31,32,33,34,35,36,37,38,39] (fun ⟨n,x10,x11,x13,hd12⟩=>([(1,.int .i64 x10),(5,hd12.v),(6,.int .i64 (((x13:Nat):Int)))]:Slots)) (fun ⟨n,x10,x11,x13,hd12⟩ R=>sl tyI hd12.v x11::R) (fun ⟨n,x10,x11,x13,hd12⟩=>zfe l n x10 x11 x13=some y5) (fun ⟨n,x10,x11,x13,hd12⟩=>n) ⟨FUEL,n_1,[],0,⟨none,0,0⟩⟩ ?_ ?_ eR ?_
  · exact hl3
  · exact ⟨rfl,rfl,rfl,True.intro⟩
  ·
   rintro ⟨n,x10,x11,x13,hd12⟩ h
   cases n with
   | zero=>exact zbq h
   | succ n => ?_
   replace h:zg9 l (zfe l n) x10 x11 x13=some y5 := h
   unfold zg9 at h
   show CJ _ _ _ _ _ (([(1,.int .i64 x10),(5,hd12.v),(6,.int .i64 (((x13:Nat):Int)))]:Slots) ++ forget _ _) (sl tyI hd12.v x11::_)
   refine lC del0 fun hlen14=>zac <| sR <| oM rfl rfl <| oM rfl rfl <| oV (V_len rfl foc1 rl Tryz.runUnderlying45) rfl <| oP (P_lss (a:=((x13:Nat):Int)) (b:=((l.length:Nat):Int)) rfl rfl) rfl <| nT <| zan rfl zab (fun hg1 => ?_) (fun hg1 => ?_)
   ·
    replace h := ite_t hg1 h
    refine kT <| zac <| zaw <| zac <| sR <| oM rfl rfl <| oP (P_geq (a:=x10) (b:=(0:Int)) rfl rfl) rfl <| oM rfl rfl <| zbk rfl rfl rfl (fun hG15=>have hP16:((0:Int)≤x10) := (zab).1 hG15; VJ_P (zaj rfl)) <| zbk rfl rfl rfl (fun hG17=>have hP18:((0:Int)≤x10) := (zab).1 hG17; VJ_P (zaj rfl)) <| zbk rfl rfl rfl (fun hG19=>have hP20:((0:Int)≤x10) := (zab).1 hG19; zay (i:=x13) (mbx hG19 rfl) (mbx hG19 rfl) rfl (by omega) foc1 rl Tryz.runUnderlying45 Tryz.sizeOf3) <| zbk rfl rfl rfl (fun hG21=>have hP22:((0:Int)≤x10) := (zab).1 hG21; za6 (mbx hG21 rfl) rfl (by omega) foc1 rl rfl rfl Tryz.isAgg3) <| zbk rfl rfl rfl (fun hG23=>have hP24:((0:Int)≤x10) := (zab).1 hG23; VJ_P (zaj rfl)) <| zbk rfl rfl rfl (fun hG25=>have hP26:((0:Int)≤x10) := (zab).1 hG25; VJ_P (P_gtr (a:=(l.getD x13 0)) (b:=x10) (mbx hG25 rfl) (mbx hG25 rfl))) <| oP (zd1 rfl (fun hh=>mbx hh rfl) rfl) rfl <| nT ?_
    obtain ⟨y29,hl27,hK28⟩ := zfw h
    refine zbv (X:=(Int × (List Int)) × Sl3) [1,5,23,24,25,26] (fun ⟨a33,hd32⟩=>([(1,.int .i64 a33.1),(5,hd32.v)]:Slots)) (fun ⟨a33,hd32⟩ R=>sl tyI hd32.v a33.2::R) (fun ⟨a33,hd32⟩=>y29=a33) (Dels.cons del0 Dels.nil) ?_ ?_
    ·
     have h := hl27
     refine zan rfl (zc3 zab zab) (fun hg2 => ?_) (fun hg2 => ?_)
     ·
      replace h := ite_t hg2 h
      refine zaf <| oM rfl rfl <| oM rfl rfl <| oO <| zbf rfl (zhn _) rfl fun b34 => ?_
      obtain ⟨hg3,h⟩ := zfo h
      exact oO <| zc9 (t:=tyI) (bytes:=8) rfl rfl del1 foc0 (Reads.lit (t:=tyI) (ys:=[x10]) rfl rfl (by decide) (by decide) rfl) Tryz.underlying45 zkq (apl (m:=1) (b:=8) hg3 (by decide)).1 (apl (m:=1) (b:=8) hg3 (by decide)).2 rfl fun p36 c37=>oA rfl rfl <| oA rfl rfl <| zap <| cR ⟨((-1:Int),(x11 ++ [x10])),⟨p36,(x11 ++ [x10]).length,c37⟩⟩ (Option.some.inj h).symm ⟨rfl,rfl,True.intro⟩ (t0_ (t1_ (eD eR)))
     ·
      replace h := ite_f hg2 h
      exact zbr <| cR ⟨(x10,x11),hd12⟩ (Option.some.inj h).symm ⟨rfl,rfl,True.intro⟩ eR
    ·
     rintro ⟨a33,hd32⟩ hy38
     replace h := zd2 hK28 hy38
     show CJ _ _ _ _ _ (([(1,.int .i64 a33.1),(5,hd32.v)]:Slots) ++ forget _ _) (sl tyI hd32.v a33.2::_)
     refine zac <| sR <| oM rfl rfl <| oM rfl rfl <| oV (zay (i:=x13) rfl rfl rfl (by omega) foc1 rl Tryz.runUnderlying45 Tryz.sizeOf3) rfl <| oV (za6 rfl rfl (by omega) foc1 rl rfl rfl Tryz.isAgg3) rfl <| oM rfl rfl <| oP (P_eql (a:=(l.getD x13 0)) (b:=a33.1) rfl rfl) rfl <| nT <| zan rfl zab (fun hg4 => ?_) (fun hg4 => ?_)
     ·
      replace h := ite_t hg4 h
      refine zaf <| oA rfl rfl <| nT <| zaf <| oM rfl rfl <| oM rfl rfl <| oM rfl rfl <| oV (zay (i:=x13) rfl rfl rfl (by omega) foc1 rl Tryz.runUnderlying45 Tryz.sizeOf3) rfl <| oV (za6 rfl rfl (by omega) foc1 rl rfl rfl Tryz.isAgg3) rfl <| oO <| zbf rfl (zhn _) rfl fun b39 => ?_
      obtain ⟨hg5,h⟩ := zfo h
      exact oO <| zc9 (t:=tyI) (bytes:=8) rfl rfl del1 foc0 (Reads.lit (t:=tyI) (ys:=[(l.getD x13 0)]) rfl rfl (by decide) (by decide) rfl) Tryz.underlying45 zkq (apl (m:=1) (b:=8) hg5 (by decide)).1 (apl (m:=1) (b:=8) hg5 (by decide)).2 rfl fun p41 c42=>oA rfl rfl <| zap <| zao <| zam <| zaf <| oM rfl rfl <| oP (PJ_eq (P_add (a:=((x13:Nat):Int)) (b:=(1:Int)) rfl rfl (by omega)) rfl) rfl <| oA rfl rfl <| zap <| nR ⟨n,(-1:Int),(a33.2 ++ [(l.getD x13 0)]),(x13 + 1),⟨p41,(a33.2 ++ [(l.getD x13 0)]).length,c42⟩⟩ h ⟨rfl,rfl,rfl,True.intro⟩ (t0_ (t1_ (eD eR)))
     ·
      replace h := ite_f hg4 h
      refine kT <| zaf <| oM rfl rfl <| oM rfl rfl <| oM rfl rfl <| oV (zay (i:=x13) rfl rfl rfl (by omega) foc1 rl Tryz.runUnderlying45 Tryz.sizeOf3) rfl <| oV (za6 rfl rfl (by omega) foc1 rl rfl rfl Tryz.isAgg3) rfl <| oO <| zbf rfl (zhn _) rfl fun b43 => ?_
      obtain ⟨hg6,h⟩ := zfo h
      exact oO <| zc9 (t:=tyI) (bytes:=8) rfl rfl del1 foc0 (Reads.lit (t:=tyI) (ys:=[(l.getD x13 0)]) rfl rfl (by decide) (by decide) rfl) Tryz.underlying45 zkq (apl (m:=1) (b:=8) hg6 (by decide)).1 (apl (m:=1) (b:=8) hg6 (by decide)).2 rfl fun p45 c46=>oA rfl rfl <| zap <| zao <| zam <| zaf <| oM rfl rfl <| oP (PJ_eq (P_add (a:=((x13:Nat):Int)) (b:=(1:Int)) rfl rfl (by omega)) rfl) rfl <| oA rfl rfl <| zap <| nR ⟨n,a33.1,(a33.2 ++ [(l.getD x13 0)]),(x13 + 1),⟨p45,(a33.2 ++ [(l.getD x13 0)]).length,c46⟩⟩ h ⟨rfl,rfl,rfl,True.intro⟩ (t0_ (t1_ (eD eR)))
   ·
    replace h := ite_f hg1 h
    exact zbj <| za3 <| za2 <| za0 <| cR ⟨(x10,x11),hd12⟩ (Option.some.inj h).symm ⟨rfl,rfl,True.intro⟩ eR
 ·
  rintro ⟨a9,hd8⟩ hy47
  replace h := zd2 hK4 hy47
  show CJ _ _ _ _ _ (([(1,.int .i64 a9.1),(5,hd8.v)]:Slots) ++ forget _ _) (sl tyI hd8.v a9.2::_)
  refine lC del0 fun hlen48=>zac <| sR <| oM rfl rfl <| oP (P_geq (a:=a9.1) (b:=(0:Int)) rfl rfl) rfl <| nT <| zan rfl zab (fun hg7 => ?_) (fun hg7 => ?_)
  ·
   replace h := ite_t hg7 h
   refine zaf <| oM rfl rfl <| oM rfl rfl <| oO <| zbf rfl (zhn _) rfl fun b49 => ?_
   obtain ⟨hg8,h⟩ := zfo h
   refine oO <| zc9 (t:=tyI) (bytes:=8) rfl rfl del1 foc0 (Reads.lit (t:=tyI) (ys:=[a9.1]) rfl rfl (by decide) (by decide) rfl) Tryz.underlying45 zkq (apl (m:=1) (b:=8) hg8 (by decide)).1 (apl (m:=1) (b:=8) hg8 (by decide)).2 rfl fun p51 c52=>oA rfl rfl <| nT <| sR <| oM rfl rfl <| oA rfl rfl <| nT <| zah ?_
   cases h
   exact fE (res1 Tryz.results48 rfl) ⟨p51,(a9.2 ++ [a9.1]).length,c52⟩ (t2_ (t0_ (eD eR)))
  ·
   replace h := ite_f hg7 h
   refine kT <| sR <| oM rfl rfl <| oA rfl rfl <| nT <| zah ?_
   cases h
   exact fE (res1 Tryz.results48 rfl) hd8 (t1_ eR)
def zez (s:ArrS) (r7:(List Int)) (rec:OwnS→Nat→Option ((OwnS) ⊕ (Bool × OwnS))) (x16:OwnS) (x17:Nat):Option ((OwnS) ⊕ (Bool × OwnS)) :=
  if (((x17:Nat):Int) < ((r7.length:Nat):Int)) then
    Option.bind (zii x16.Lost (r7.getD x17 0)) fun r22 =>
    if (¬ r22=true) then
      some (.inr (false,x16))
    else
      Option.elim x16.X (
        none) fun o25 =>
      Option.bind (zg4 o25 (r7.getD x17 0) s) fun r26 =>
      if (r26.1≠(0:Int)) then
        some (.inr ((false, { x16 with X := (some r26.2) })))
      else
        Option.bind (zgk x16.Stale (r7.getD x17 0)) fun r32 =>
        grd (inN64 (x17 + 1)) <|
        rec ((⟨x16.Open_1,x16.Open_2,x16.Open_3,x16.Open_4,(some r26.2),x16.T,r32,x16.Lost⟩:OwnS)) (x17 + 1)
  else
    some (.inl x16)
def zds (s:ArrS) (r7:(List Int)):Nat→OwnS→Nat→Option ((OwnS) ⊕ (Bool × OwnS))
  | 0,_,_=>none
  | n + 1,x16,x17=>zez s r7 (zds s r7 n) x16 x17
def zc7 (o:OwnS) (s:ArrS):Option (Bool × OwnS) :=
  Option.elim o.X (
    none) fun o6 =>
  Option.bind (zf3 o6 s) fun r7 =>
  seqO (zds s r7 FUEL ({ o with X := (some o6) }) 0) fun a15 =>
  some (((decide ((0:Int) < ((r7.length:Nat):Int))),a15))
def OwnQ (a:Nat) (vl:Nat) (b:Nat) (l:OwnS):HP := ex fun h:Nat × Nat × Sl3 × Sl3=>star [blk b 60 [ptr a 0,.func (.func 46) #[] #[ptr h.1 0],oifc 41 l.X vl,ptr h.2.1 0,(Sl3.v h.2.2.1),(Sl3.v h.2.2.2)],blk h.1 28 [ptr a 0,.int .i64 l.Open_1,.int .i64 l.Open_2,.int .i64 l.Open_3,.bool l.Open_4],optP (MirP a vl) l.X,Trk h.2.1 l.T,sl tyI (Sl3.v h.2.2.1) l.Stale,sl tyI (Sl3.v h.2.2.2) l.Lost]
theorem zf1 {a b:Nat} {vl:Nat} {v0:Int} {v1:Int} {v2:Int} {v3:Bool} {v4:Option MirS} {v5:List Sec} {v6:List Int} {v7:List Int} {h0:Nat} {h1:Nat} {h2:Sl3} {h3:Sl3} {R:List HP} : Ent (blk b 60 [ptr a 0,.func (.func 46) #[] #[ptr h0 0],oifc 41 v4 vl,ptr h1 0,(Sl3.v h2),(Sl3.v h3)]::blk h0 28 [ptr a 0,.int .i64 v0,.int .i64 v1,.int .i64 v2,.bool v3]::optP (MirP a vl) v4::Trk h1 v5::sl tyI (Sl3.v h2) v6::sl tyI (Sl3.v h3) v7::R) (OwnQ a vl b ⟨v0,v1,v2,v3,v4,v5,v6,v7⟩::R) :=
  fun _ hh=>stars_ex.2 ⟨(h0,h1,h2,h3),stars_star.2 hh⟩
theorem ze9 {a b:Nat} {vl:Nat} {l:OwnS} {R:List HP} : EntX (OwnQ a vl b l::R) fun h:Nat × Nat × Sl3 × Sl3=>blk b 60 [ptr a 0,.func (.func 46) #[] #[ptr h.1 0],oifc 41 l.X vl,ptr h.2.1 0,(Sl3.v h.2.2.1),(Sl3.v h.2.2.2)]::blk h.1 28 [ptr a 0,.int .i64 l.Open_1,.int .i64 l.Open_2,.int .i64 l.Open_3,.bool l.Open_4]::optP (MirP a vl) l.X::Trk h.2.1 l.T::sl tyI (Sl3.v h.2.2.1) l.Stale::sl tyI (Sl3.v h.2.2.2) l.Lost::R :=
  fun _ hh=>let ⟨c,hc⟩ := stars_ex.1 hh; ⟨c,stars_star.1 hc⟩
theorem zie {W:World} {bo:Nat} {vlo:Nat} {bs:Nat} {o:OwnS} {s:ArrS} {r:Bool × OwnS} (h:zc7 o s=some r) :
    CSpec Tryz.prog W 53 [ptr bo 0] [OwnQ bs vlo bo o,Arr bs s] (fun x:Unit => .bool r.1) (fun _=>True) (fun x F=>OwnQ bs vlo bo r.2::Arr bs s::F) := by
 refine CSpec.of_body Tryz.func53 rfl Tryz.ntmps53 rfl fun F => ?_
 show CJ _ _ _ _ _ _ (_::_::F)
 unfold zc7 at h
 refine sR <| oA rfl rfl <| nT <| zac <| zax (Ent.transX (t0_ eR) (ze9 (l:=o))) fun oc1=>lC del4 fun hlen3=>lC del5 fun hlen4=>zaf <| oM rfl rfl <| oP (zae rfl) rfl <| oP (zaa rfl ⟨_,_,_,Tryz.runUnderlying60,rfl,rfl,Tryz.sizeOf57,rfl⟩) rfl <| oV (zag rfl foc0 rfl Tryz.isAgg57) rfl ?_
 rcases opt_e h with ⟨ht5,h⟩ | ⟨o6,ht5,h⟩
 ·
  rw [ht5]
  exact zbb (t0_ (t0_ (t1_ (t1_ (t1_ (t1_ (eD eR))))))) <| zbq h
 ·
  rw [ht5]
  refine zbb (Ent.takeC (A' := MirP bs vlo o6) del2 rfl eR) ?_
  obtain ⟨r7,hr8,h⟩ := zar h
  refine oO <| zc8 rfl (ICall.of (fun w=>by kernel_rfl) Tryz.call97 (zo6 hr8)) rfl (Dels.cons del0 (Dels.cons del5 Dels.nil)) rfl fun X9 _=>oA rfl rfl <| zap <| zas (Ent.trans (t3_ (t3_ (t0_ (t2_ (t2_ (t2_ eR)))))) (zf1 (v0:=o.Open_1) (v1:=o.Open_2) (v2:=o.Open_3) (v3:=o.Open_4) (v4:=(some o6)) (v5:=o.T) (v6:=o.Stale) (v7:=o.Lost) (h0:=oc1.1) (h1:=oc1.2.1) (h2:=oc1.2.2.1) (h3:=oc1.2.2.2))) <| zam <| zac <| sR <| oA rfl rfl <| nT ?_
  obtain ⟨y13,hl11,hK12⟩ := seq_e h
  refine zbv (X:=OwnS) [2,4,10,11,12,13,14,15,16,17,18,19,20,21,22,23,24,25,26,27,28,29,30,31,32,33,34,35,36,37,38,39,40,41,42,43,44,45,46,47,48,49,50,51] (fun a15=>([]:Slots)) (fun a15 R=>OwnQ bs vlo bo a15::R) (fun a15=>y13 = .inl a15) (Dels.cons del0 Dels.nil) ?_ ?_
  ·
   refine zaw <| zbd (X:=Nat × OwnS × Nat) [2,4,10,11,12,13,14,15,16,17,18,19,20,21,22,23,24,25,26,27,28,29,30,31,32,33,34,35,36,37,38,39,40,41,42,43,44,45,46,47,48,49,50,51] (fun ⟨n,x16,x17⟩=>([(4,.int .i64 (((x17:Nat):Int)))]:Slots)) (fun ⟨n,x16,x17⟩ R=>OwnQ bs vlo bo x16::R) (fun ⟨n,x16,x17⟩=>zds s r7 n x16 x17=some y13) (fun ⟨n,x16,x17⟩=>n) ⟨FUEL, { o with X := (some o6) },0⟩ ?_ ?_ eR ?_
   · exact hl11
   · exact ⟨rfl,True.intro⟩
   ·
    rintro ⟨n,x16,x17⟩ h
    cases n with
    | zero=>exact zbq h
    | succ n => ?_
    replace h:zez s r7 (zds s r7 n) x16 x17=some y13 := h
    unfold zez at h
    show CJ _ _ _ _ _ (([(4,.int .i64 (((x17:Nat):Int)))]:Slots) ++ forget _ _) (OwnQ bs vlo bo x16::_)
    refine zac <| sR <| oM rfl rfl <| oM rfl rfl <| oV (V_len rfl foc2 (Reads.sl _ _ _) Tryz.runUnderlying45) rfl <| oP (P_lss (a:=((x17:Nat):Int)) (b:=((r7.length:Nat):Int)) rfl rfl) rfl <| nT <| zan rfl zab (fun hg1 => ?_) (fun hg1 => ?_)
    ·
     replace h := ite_t hg1 h
     refine kT <| zac <| zaw <| zac <| zac <| zax (Ent.transX (t0_ eR) (ze9 (l:=x16))) fun oc18=>lC del4 fun hlen20=>lC del5 fun hlen21=>zbc 2097152 (by kernel_rfl) rfl <| aN 0 1 rfl rfl (zaj rfl) rfl <| aN 1 3 rfl rfl (zae rfl) rfl <| aN 2 7 rfl rfl (zaa rfl ⟨_,_,_,Tryz.runUnderlying60,rfl,rfl,Tryz.sizeOf45,rfl⟩) rfl <| aV 3 15 rfl rfl (zak rfl) eR (zag rfl foc0 rfl Tryz.isAgg45) rfl <| aN 4 31 rfl rfl (zaj rfl) rfl <| aN 5 63 rfl rfl (zaj rfl) rfl <| aV 6 127 rfl rfl (zak rfl) eR (zay (i:=x17) rfl rfl rfl (by omega) foc7 (Reads.sl _ _ _) Tryz.runUnderlying45 Tryz.sizeOf3) rfl <| aV 7 255 rfl rfl (zak rfl) eR (za6 rfl rfl (by omega) foc7 (Reads.sl _ _ _) rfl rfl Tryz.isAgg3) rfl ?_
     obtain ⟨r22,hr23,h⟩ := zar h
     refine AJ_op 8 511 rfl (by kernel_rfl) rfl (zak rfl) <| zat (zpm (Reads.sl _ _ _) hr23) rfl Tryz.call95 (Dels.cons del5 Dels.nil) rfl fun _ _=>⟨fun _=>(t1_ (t1_ (t1_ (t1_ (t1_ eR))))),?_⟩
     refine aN 9 1023 rfl rfl (P_not rfl) rfl <| aN 10 2047 rfl rfl (zaj rfl) rfl <| ziv 26 rfl (zdk Iff.rfl) (fun hg2B hg2 => ?_) (fun hg2B hg2 => ?_)
     ·
      replace h := ite_t hg2 h
      refine aS 11 4095 rfl rfl (GY_no rfl rfl rfl hg2B) rfl <| aS 12 8191 rfl rfl (GY_no rfl rfl rfl hg2B) rfl <| aS 13 16383 rfl rfl (GY_no rfl rfl rfl hg2B) rfl <| aS 14 32767 rfl rfl (GY_no rfl rfl rfl hg2B) rfl <| aS 15 65535 rfl rfl (GY_no rfl rfl rfl hg2B) rfl <| aS 16 131071 rfl rfl (GY_no rfl rfl rfl hg2B) rfl <| aS 17 262143 rfl rfl (GY_no rfl rfl rfl hg2B) rfl <| aS 18 524287 rfl rfl (GY_no rfl rfl rfl hg2B) rfl <| aS 19 1048575 rfl rfl (GY_no rfl rfl rfl hg2B) rfl <| aS 20 2097151 rfl rfl (GY_no rfl rfl rfl hg2B) rfl <| aS 21 4194303 rfl rfl (GY_no rfl rfl rfl hg2B) rfl <| aS 22 8388607 rfl rfl (GY_no rfl rfl rfl hg2B) rfl <| aN 23 16777215 rfl rfl (zbh rfl hg2B rfl) rfl <| zcd (by kernel_rfl) <| zas (Ent.trans (t1_ (t1_ (t1_ (t1_ (t1_ eR))))) (zf1 (v0:=x16.Open_1) (v1:=x16.Open_2) (v2:=x16.Open_3) (v3:=x16.Open_4) (v4:=x16.X) (v5:=x16.T) (v6:=x16.Stale) (v7:=x16.Lost) (h0:=oc18.1) (h1:=oc18.2.1) (h2:=oc18.2.2.1) (h3:=oc18.2.2.2))) <| zam <| zck rfl rfl <| sR <| oA rfl rfl <| nT <| zah <| zad <| zau <| zad <| za9 <| zau <| zad ?_
      have hE := Option.some.inj h
      replace hE := zce hK12 hE.symm
      subst hE
      exact fE (res1 Tryz.results53 rfl) () (t0_ (t0_ (eD eR)))
     ·
      replace h := ite_f hg2 h
      refine aP 11 4095 rfl rfl (zal rfl rfl rfl hg2B) (zaj rfl) rfl <| aP 12 8191 rfl rfl (zal rfl rfl rfl hg2B) (zae rfl) rfl <| aP 13 16383 rfl rfl (zal rfl rfl rfl hg2B) (zaa rfl ⟨_,_,_,Tryz.runUnderlying60,rfl,rfl,Tryz.sizeOf57,rfl⟩) rfl <| aV 14 32767 rfl rfl (zal rfl rfl rfl hg2B) (t1_ (t1_ (t1_ (t1_ (t1_ eR))))) (zag rfl foc0 rfl Tryz.isAgg57) rfl <| aP 15 65535 rfl rfl (zal rfl rfl rfl hg2B) (zaj rfl) rfl <| aP 16 131071 rfl rfl (zal rfl rfl rfl hg2B) (zaj rfl) rfl <| aV 17 262143 rfl rfl (zal rfl rfl rfl hg2B) (t1_ (t1_ (t1_ (t1_ (t1_ eR))))) (zay (i:=x17) rfl rfl rfl (by omega) foc7 (Reads.sl _ _ _) Tryz.runUnderlying45 Tryz.sizeOf3) rfl <| aV 18 524287 rfl rfl (zal rfl rfl rfl hg2B) (t1_ (t1_ (t1_ (t1_ (t1_ eR))))) (za6 rfl rfl (by omega) foc7 (Reads.sl _ _ _) rfl rfl Tryz.isAgg3) rfl ?_
      rcases opt_e h with ⟨ht24,h⟩ | ⟨o25,ht24,h⟩
      ·
       rw [ht24]
       exact zbq h
      ·
       rw [ht24]
       refine zey (Ent.takeC (A' := MirP bs vlo o25) del3 rfl eR) <| aP 19 1048575 rfl rfl (zal rfl rfl rfl hg2B) (zo4 rfl) rfl <| aP 20 2097151 rfl rfl (zal rfl rfl rfl hg2B) (zaj rfl) rfl ?_
       obtain ⟨r26,hr27,h⟩ := zar h
       refine AJ_op 21 4194303 rfl (by kernel_rfl) rfl (zal rfl rfl rfl hg2B) <| zc8 rfl (ICall.of (fun w=>by kernel_rfl) Tryz.call134 (zp2 hr27)) rfl (Dels.cons del0 (Dels.cons del5 Dels.nil)) rfl fun _ _=>⟨fun h=>absurd h (by decide),?_⟩
       refine aP 22 8388607 rfl rfl (zal rfl rfl rfl hg2B) (P_neq (a:=r26.1) (b:=(0:Int)) rfl rfl) rfl <| aN 23 16777215 rfl rfl (za8 rfl hg2B rfl) rfl <| zcd (by kernel_rfl) <| zas (Ent.trans (t3_ (t3_ (t0_ (t2_ (t2_ (t1_ eR)))))) (zf1 (v0:=x16.Open_1) (v1:=x16.Open_2) (v2:=x16.Open_3) (v3:=x16.Open_4) (v4:=(some r26.2)) (v5:=x16.T) (v6:=x16.Stale) (v7:=x16.Lost) (h0:=oc18.1) (h1:=oc18.2.1) (h2:=oc18.2.2.1) (h3:=oc18.2.2.2))) <| zam <| zan rfl zab (fun hg3 => ?_) (fun hg3 => ?_)
       ·
        replace h := ite_t hg3 h
        refine sR <| oA rfl rfl <| nT <| zah <| zad <| zau <| zad <| za9 <| zau <| zad ?_
        have hE := Option.some.inj h
        replace hE := zce hK12 hE.symm
        subst hE
        exact fE (res1 Tryz.results53 rfl) () (t0_ (t0_ (eD eR)))
       ·
        replace h := ite_f hg3 h
        refine kT <| zax (Ent.transX (t0_ eR) (ze9 (l := { x16 with X := (some r26.2) }))) fun oc28=>lC del4 fun hlen30=>lC del5 fun hlen31=>zbc 4608 (by kernel_rfl) rfl <| aN 0 1 rfl rfl (zaj rfl) rfl <| aN 1 3 rfl rfl (zaj rfl) rfl <| aN 2 7 rfl rfl (zae rfl) rfl <| aN 3 15 rfl rfl (zaa rfl ⟨_,_,_,Tryz.runUnderlying60,rfl,rfl,Tryz.sizeOf45,rfl⟩) rfl <| aV 4 31 rfl rfl (zak rfl) eR (zag rfl foc0 rfl Tryz.isAgg45) rfl <| aN 5 63 rfl rfl (zaj rfl) rfl <| aN 6 127 rfl rfl (zaj rfl) rfl <| aV 7 255 rfl rfl (zak rfl) eR (zay (i:=x17) rfl rfl rfl (by omega) foc7 (Reads.sl _ _ _) Tryz.runUnderlying45 Tryz.sizeOf3) rfl <| aV 8 511 rfl rfl (zak rfl) eR (za6 rfl rfl (by omega) foc7 (Reads.sl _ _ _) rfl rfl Tryz.isAgg3) rfl ?_
        obtain ⟨r32,hr33,h⟩ := zar h
        refine AJ_op 9 1023 rfl (by kernel_rfl) rfl (zak rfl) <| zat (zj9 (Reads.sl _ _ _) hr33) rfl Tryz.call48 (Dels.cons del4 Dels.nil) rfl fun X34 _=>⟨fun h=>absurd h (by decide),?_⟩
        refine aN 10 2047 rfl rfl (zae rfl) rfl <| aN 11 4095 rfl rfl (zaa rfl ⟨_,_,_,Tryz.runUnderlying60,rfl,rfl,Tryz.sizeOf45,rfl⟩) rfl <| AJ_op 12 8191 rfl (by kernel_rfl) rfl (zak rfl) <| zbu rfl rfl foc2 rfl rfl Tryz.sizeOf45 <| ⟨fun h=>absurd h (by decide),?_⟩
        refine zcd (by kernel_rfl) <| zas (Ent.trans (t2_ (t2_ (t2_ (t2_ (t1_ (t1_ eR)))))) (zf1 (v0:=x16.Open_1) (v1:=x16.Open_2) (v2:=x16.Open_3) (v3:=x16.Open_4) (v4:=(some r26.2)) (v5:=x16.T) (v6:=r32) (v7:=x16.Lost) (h0:=oc28.1) (h1:=oc28.2.1) (h2:=X34) (h3:=oc28.2.2.2))) <| zao <| zam <| zaf <| oM rfl rfl ?_
        obtain ⟨hg4,h⟩ := zfg h
        exact oP (PJ_eq (P_add (a:=((x17:Nat):Int)) (b:=(1:Int)) rfl rfl (zfh hg4)) rfl) rfl <| oA rfl rfl <| zap <| nR ⟨n,(⟨x16.Open_1,x16.Open_2,x16.Open_3,x16.Open_4,(some r26.2),x16.T,r32,x16.Lost⟩:OwnS),(x17 + 1)⟩ h ⟨rfl,True.intro⟩ (t0_ (t1_ (t1_ (eD eR))))
    ·
     replace h := ite_f hg1 h
     exact zbj <| za3 <| za2 <| za0 <| cR x16 (Option.some.inj h).symm True.intro eR
  ·
   rintro a15 hy36
   replace h := zd0 hK12 hy36
   show CJ _ _ _ _ _ (([]:Slots) ++ forget _ _) (OwnQ bs vlo bo a15::_)
   refine sR <| oM rfl rfl <| oV (V_len rfl foc2 (Reads.sl _ _ _) Tryz.runUnderlying45) rfl <| oP (P_gtr (a:=((r7.length:Nat):Int)) (b:=(0:Int)) rfl rfl) rfl <| oA rfl rfl <| nT <| zah ?_
   cases h
   exact fE (res1 Tryz.results53 rfl) () (t0_ (t0_ (eD eR)))
theorem zrm {a b:Nat} {l:OwnS} {R:List HP} : EntX (OwnP a b l::R) fun vl:Nat=>OwnQ a vl b l::R :=
  fun _ hh=>let ⟨c,hc⟩ := stars_ex.1 hh; ⟨c.2.1,stars_ex.2 ⟨(c.1,c.2.2.1,c.2.2.2.1,c.2.2.2.2),hc⟩⟩
theorem zrn {a b:Nat} {vl:Nat} {l:OwnS} {R:List HP} : Ent (OwnQ a vl b l::R) (OwnP a b l::R) :=
  fun _ hh=>let ⟨c,hc⟩ := stars_ex.1 hh; stars_ex.2 ⟨(c.1,vl,c.2.1,c.2.2.1,c.2.2.2),hc⟩
def zln (regions:Int):Option (Int) :=
  Option.bind (zfv regions) fun r1 =>
  if (r1=(0:Int)) then
    some (1:Int)
  else
    none
theorem zqb {W:World} {regions:Int} {r:Int} (h:zln regions=some r) :
    CSpec Tryz.prog W 87 [.nilIface,.int .i64 regions] [] (fun x:Unit => .int .i64 r) (fun _=>True) (fun x F=>F) := by
 refine CSpec.of_body Tryz.func87 rfl Tryz.ntmps87 rfl fun F => ?_
 show CJ _ _ _ _ _ _ (F)
 unfold zln at h
 refine sR <| oA rfl rfl <| nT <| zac <| sR <| oM rfl rfl ?_
 obtain ⟨r1,hr2,h⟩ := zar h
 refine oO <| zat (zi5 hr2) rfl Tryz.call89 Dels.nil rfl fun _ _=>oA rfl rfl <| nT <| zaw <| sR <| oM rfl rfl <| oP (P_eql (a:=r1) (b:=(0:Int)) rfl rfl) rfl <| oA rfl rfl <| nT <| zan rfl zab (fun hg1 => ?_) (fun hg1 => ?_)
 ·
  replace h := ite_t hg1 h
  refine sR <| oA rfl rfl <| nT <| zah <| zau <| zad ?_
  cases h
  exact fE (res1 Tryz.results87 rfl) () eR
 ·
  replace h := ite_f hg1 h
  exact sR <| oM rfl rfl <| zbq h
def zl1 (regions:Int):Option (Int) :=
  Option.bind (zln regions) fun r1 =>
  if (r1≠(0:Int)) then
    some r1
  else
    Option.bind (zfv regions) fun r3 =>
    none
theorem zq1 {W:World} {regions:Int} {r:Int} (h:zl1 regions=some r) :
    CSpec Tryz.prog W 94 [.nilIface,.int .i64 regions] [] (fun x:Unit => .tuple #[.pointer none,.int .i64 r]) (fun _=>True) (fun x F=>F) := by
 refine CSpec.of_body Tryz.func94 rfl Tryz.ntmps94 rfl fun F => ?_
 show CJ _ _ _ _ _ _ (F)
 unfold zl1 at h
 refine sR <| oA rfl rfl <| oA rfl rfl <| nT <| zac <| sR <| oM rfl rfl <| oM rfl rfl ?_
 obtain ⟨r1,hr2,h⟩ := zar h
 refine oO <| zat (zqb hr2) rfl Tryz.call87 Dels.nil rfl fun _ _=>oA rfl rfl <| nT <| sR <| oM rfl rfl <| oP (P_neq (a:=r1) (b:=(0:Int)) rfl rfl) rfl <| nT <| zan rfl zab (fun hg1 => ?_) (fun hg1 => ?_)
 ·
  replace h := ite_t hg1 h
  refine sR <| oM rfl rfl <| oA rfl rfl <| oA rfl rfl <| nT <| zah <| zad ?_
  cases h
  exact fE (res2 Tryz.results94 rfl rfl) () eR
 ·
  replace h := ite_f hg1 h
  refine kT <| sR <| oM rfl rfl <| oM rfl rfl ?_
  obtain ⟨r3,hr4,h⟩ := zar h
  exact oO <| zat (zi5 hr4) rfl Tryz.call89 Dels.nil rfl fun _ _=>zbq h
def zk6 (legs:List Dvc) (staleLegs:List Int) (region:Int) (s:ArrS) (rec:MirS→Nat→Nat→Option (Nat × MirS)) (x33:MirS) (x34:Nat) (x35:Nat):Option (Nat × MirS) :=
  if (((x35:Nat):Int) < ((legs.length:Nat):Int)) then
    Option.bind (zdw staleLegs (((x35:Nat):Int))) fun r38 =>
    Option.bind ((
      if r38=true then
        some (x34,2)
      else
        grd (inN64 (x34 + 1)) <|
        some (((x34 + 1),0)):Option (Nat × Nat))) fun a45 =>
    grd (inLen (x33.legs.length + 1)) <|
    Option.bind (Dvc.size (legs.getD x35 dv0) s) fun r63 =>
    rec ((⟨(x33.legs ++ [(⟨(legs.getD x35 dv0),((a45.2:Nat):Int),(0:Int)⟩:mlegS)]),x33.log,x33.hasLog,x33.logState,(min x33.size r63),x33.region,x33.dirty,x33.copied⟩:MirS)) a45.1 (x35 + 1)
  else
    some (x34,x33)
def zjd (legs:List Dvc) (staleLegs:List Int) (region:Int) (s:ArrS):Nat→MirS→Nat→Nat→Option (Nat × MirS)
  | 0,_,_,_=>none
  | n + 1,x33,x34,x35=>zk6 legs staleLegs region s (zjd legs staleLegs region s n) x33 x34 x35
def zk7 (r71:Int) (rec:MirS→Nat→Option (MirS)) (x101:MirS) (x102:Nat):Option (MirS) :=
  if (((x102:Nat):Int) < ((((List.replicate ((r71).toNat) false)).length:Nat):Int)) then
    grd (decide (x102 < x101.dirty.length)) <|
    grd (inN64 (x102 + 1)) <|
    rec ({ x101 with dirty := (x101.dirty.set x102 true) }) (x102 + 1)
  else
    some x101
def zje (r71:Int):Nat→MirS→Nat→Option (MirS)
  | 0,_,_=>none
  | n + 1,x101,x102=>zk7 r71 (zje r71 n) x101 x102
def zi2 (legs:List Dvc) (staleLegs:List Int) (region:Int) (s:ArrS):Option ((Option MirS) × Int) :=
  if ((((((legs.length:Nat):Int) < (2:Int))∨((6:Int) < ((legs.length:Nat):Int)))∨(region < (1:Int)))∨((65536:Int) < region)) then
    some ((none,(1:Int)))
  else
    Option.bind (zc2 staleLegs (((legs.length:Nat):Int))) fun r17 =>
    if r17=true then
      some ((none,(1:Int)))
    else
      Option.bind (Dvc.size (legs.getD 0 dv0) s) fun r21 =>
      Option.bind (zjd legs staleLegs region s FUEL ((⟨([]:List mlegS),none,false,(0:Int),r21,region,[],(0:Int)⟩:MirS)) 0 0) fun a32 =>
      if (((a32.1:Nat):Int)=(0:Int)) then
        some ((none,(19:Int)))
      else
        Option.bind (zhc a32.2.size region) fun r71 =>
        grd (decide (0≤r71∧r71≤1000000000)) <|
        Option.bind (zdw staleLegs (((legs.length:Nat):Int))) fun r74 =>
        if (r74=true∨(¬ a32.2.hasLog=true)) then
          Option.bind (zje r71 FUEL ((⟨a32.2.legs,a32.2.log,a32.2.hasLog,(2:Int),a32.2.size,a32.2.region,(List.replicate ((r71).toNat) false),a32.2.copied⟩:MirS)) 0) fun a100 =>
          some (((some a100),(0:Int)))
        else
          Option.bind (zl1 (((((List.replicate ((r71).toNat) false)).length:Nat):Int))) fun r114 =>
          if ((r114≠(0:Int))∧(r114≠(5:Int))) then
            some ((none,(18:Int)))
          else
            if (r114≠(0:Int)) then
              some (none,r114)
            else
              none
theorem zti {W:World} {Alegs:HP} {vlegs:Value} {hslegs:List IfH} {AstaleLegs:HP} {vstaleLegs:Value} {bs:Nat} {legs:List Dvc} {staleLegs:List Int} {region:Int} {s:ArrS} {r:(Option MirS) × Int} (rlegs:Reads Alegs tyDev vlegs hslegs) (rstaleLegs:Reads AstaleLegs tyI vstaleLegs staleLegs) (h:zi2 legs staleLegs region s=some r) :
    CSpec Tryz.prog W 52 [vlegs,vstaleLegs,.nilIface,.int .i64 region] [Alegs,Rs (DevP bs) legs hslegs,AstaleLegs,Arr bs s] (fun x:Nat => .tuple #[oval r.1 x,.int .i64 r.2]) (fun _=>True) (fun x F=>Alegs::Rs (DevP bs) legs hslegs::AstaleLegs::Arr bs s::optP (MirP bs x) r.1::F) := by
 refine CSpec.of_body Tryz.func52 rfl Tryz.ntmps52 rfl fun F => ?_
 show CJ _ _ _ _ _ _ (_::_::_::_::F)
 unfold zi2 at h
 refine za1 (zcg rlegs del0) fun hlen1=>za1 (fun h hh=>za7 (zaq (del1 (A:=Rs (DevP bs) legs hslegs)).out h hh)) fun hdl2=>za1 (zcg rstaleLegs del2) fun hlen3=>sR <| oA rfl rfl <| oA rfl rfl <| nT <| sR <| oM rfl rfl <| oV (VJ_eq (V_len rfl foc0 rlegs Tryz.runUnderlying92) (congrArg (fun z:Nat=>Value.int .i64 (z:Int)) (hdl2).symm)) rfl <| oO <| zes Tryz.zeroValue3 rfl rfl fun b4=>oO <| zbu rfl rfl foc0 rfl rfl Tryz.sizeOf3 <| nT <| sR <| oP (zb6 rfl rfl) rfl <| oA rfl rfl <| nT <| zac <| sR <| oV (zag rfl foc0 rfl Tryz.isAgg3) rfl <| oP (P_lss (a:=((legs.length:Nat):Int)) (b:=(2:Int)) rfl rfl) rfl <| oM rfl rfl <| zaz rfl rfl rfl (fun hG5=>have hP6:¬ (((legs.length:Nat):Int) < (2:Int)) := nP (zab) hG5; zag rfl foc0 rfl Tryz.isAgg3) <| zaz rfl rfl rfl (fun hG7=>have hP8:¬ (((legs.length:Nat):Int) < (2:Int)) := nP (zab) hG7; VJ_P (P_gtr (a:=((legs.length:Nat):Int)) (b:=(6:Int)) (mbx hG7 rfl) rfl)) <| oP (zcw rfl rfl (fun hh=>mbx (not_f hh) rfl)) rfl <| oM rfl rfl <| zaz rfl rfl rfl (fun hG9=>have hP10:¬ ((((legs.length:Nat):Int) < (2:Int))∨((6:Int) < ((legs.length:Nat):Int))) := nP ((bT_or zab zab)) hG9; VJ_P (zaj rfl)) ?_
 refine zaz rfl rfl rfl (fun hG11=>have hP12:¬ ((((legs.length:Nat):Int) < (2:Int))∨((6:Int) < ((legs.length:Nat):Int))) := nP ((bT_or zab zab)) hG11; VJ_P (P_lss (a:=region) (b:=(1:Int)) (mbx hG11 rfl) rfl)) <| oP (zcw rfl rfl (fun hh=>mbx (not_f hh) rfl)) rfl <| oM rfl rfl <| zaz rfl rfl rfl (fun hG13=>have hP14:¬ (((((legs.length:Nat):Int) < (2:Int))∨((6:Int) < ((legs.length:Nat):Int)))∨(region < (1:Int))) := nP ((bT_or (bT_or zab zab) zab)) hG13; VJ_P (zaj rfl)) <| zaz rfl rfl rfl (fun hG15=>have hP16:¬ (((((legs.length:Nat):Int) < (2:Int))∨((6:Int) < ((legs.length:Nat):Int)))∨(region < (1:Int))) := nP ((bT_or (bT_or zab zab) zab)) hG15; VJ_P (P_gtr (a:=region) (b:=(65536:Int)) (mbx hG15 rfl) rfl)) <| oP (zcw rfl rfl (fun hh=>mbx (not_f hh) rfl)) rfl <| oM rfl rfl <| zb7 39 rfl (bT_or (bT_or (bT_or zab zab) zab) zab) (fun hg1B hg1 => ?_) (fun hg1B hg1 => ?_)
 ·
  replace h := ite_t hg1 h
  refine RJ_gn (GY_no rfl rfl rfl hg1B) rfl rfl <| RJ_gn (GY_no rfl rfl rfl hg1B) rfl rfl <| RJ_gn (GY_no rfl rfl rfl hg1B) rfl rfl <| oP (zbh rfl hg1B rfl) rfl <| nT <| zck rfl rfl <| sR <| oA rfl rfl <| oA rfl rfl <| nT <| zah <| zad ?_
  cases h
  exact fE (res2 Tryz.results52 rfl rfl) 0 (t1_ (t1_ (t1_ (t1_ (Ent.trans (fun h hh=>zb8 h hh) <| t0_ (eD eR))))))
 ·
  replace h := ite_f hg1 h
  refine gP (zal rfl rfl rfl hg1B) (zaj rfl) rfl <| gP (zal rfl rfl rfl hg1B) (zaj rfl) rfl ?_
  obtain ⟨r17,hr18,h⟩ := zar h
  refine RJ_gy (zal rfl rfl rfl hg1B) <| zat (zh5 rstaleLegs hr18) rfl Tryz.call93 (Dels.cons del3 (Dels.cons del0 Dels.nil)) rfl fun _ _=>oP (za8 rfl hg1B rfl) rfl <| nT <| zan rfl Iff.rfl (fun hg2 => ?_) (fun hg2 => ?_)
  ·
   replace h := ite_t hg2 h
   refine sR <| oA rfl rfl <| oA rfl rfl <| nT <| zah <| zad ?_
   cases h
   exact fE (res2 Tryz.results52 rfl rfl) 0 (t2_ (t2_ (t0_ (t1_ (Ent.trans (fun h hh=>zb8 h hh) <| t0_ (eD eR))))))
  ·
   replace h := ite_f hg2 h
   refine kT <| zac <| zbc 264 (by kernel_rfl) rfl <| aN 0 1 rfl rfl (zaj rfl) rfl <| aV 1 3 rfl rfl (zak rfl) eR (zay (i:=0) rfl rfl rfl (by have hz:0 < legs.length := (by omega); have hy := hdl2; omega) foc2 rlegs Tryz.runUnderlying92 Tryz.sizeOf96) rfl <| zey (Ent.trans (t3_ eR) (Rs_at (fun _ _=>zhl) (dx:=dv0) (dh:=tyDev.dflt) (i:=0) (by omega))) <| aV 2 7 rfl rfl (zak rfl) (t2_ (t2_ (t2_ (t1_ (t1_ (eD eR)))))) (za6 rfl rfl (by have hz:0 < legs.length := (by omega); have hy := hdl2; omega) foc2 rlegs rfl rfl Tryz.isAgg96) rfl <| aN 4 23 rfl rfl (zaj rfl) rfl <| aN 5 55 rfl rfl (zaj rfl) rfl <| aN 6 119 rfl rfl (zyb rfl Tryz.underlying96) rfl <| zh9 (fun h hh=>zd3 h (zaq (del0 (A:=DevP bs (legs.getD 0 dv0) (hslegs.getD 0 tyDev.dflt))).out h hh)) fun hdp20 => ?_
   obtain ⟨r21,hr22,h⟩ := zar h
   refine AJ_op 3 127 rfl (by kernel_rfl) rfl (zak rfl) <| zc8 rfl (zlx hr22 hdp20) rfl (Dels.cons del0 (Dels.cons del4 Dels.nil)) rfl fun _ _=>⟨fun h=>absurd h (by decide),?_⟩
   refine aN 7 255 rfl rfl (zfn rfl (zp9 _ _ _)) rfl <| AJ_op 8 511 rfl (by kernel_rfl) rfl (zak rfl) <| O_box rfl rfl rfl fun b23=>⟨fun h=>absurd h (by decide),?_⟩
   refine aN 9 1023 rfl rfl (zb0 rfl) rfl <| zcd (by kernel_rfl) <| zas (t0_ (t1_ (t1_ (t1_ (t1_ (t1_ (eD eR))))))) <| zam <| sR <| oA rfl rfl <| nT <| zac <| sR <| oM rfl rfl <| oV (VJ_eq (V_len rfl foc5 rlegs Tryz.runUnderlying92) (congrArg (fun z:Nat=>Value.int .i64 (z:Int)) (hdl2).symm)) rfl <| oM rfl rfl <| nT <| zde (fun h hh=>zdj (t:=zdp) h (zpe (RP:=DevP bs) h hh)) <| zde (fun h hh=>zdj (t:=tyB) h hh) <| zde (Ent.trans (t3_ (t1_ (t1_ (Ent.trans (fun h hh=>zb8 h hh) <| t0_ eR)))) (zbn (v0:=([]:List mlegS)) (v1:=none) (v2:=false) (v3:=(0:Int)) (v4:=r21) (v5:=region) (v6:=[]) (v7:=(0:Int)) (h0:=⟨none,0,0⟩) (h1:=([]:List IfH)) (h2:=0) (h3:=⟨none,0,0⟩))) ?_
   obtain ⟨y29,hl27,hK28⟩ := zfw h
   refine zbv (X:=Nat × MirS) [13,14,15,16,55,56,57,58,59,60,61,62,63,64,65,66,67,68,69,70,71,72,73,74,75,76,77,78,79,80,81,82,83,84,85,86,87,88] (fun a32=>([(13,.int .i64 (((a32.1:Nat):Int)))]:Slots)) (fun a32 R=>MirP bs b23 a32.2::R) (fun a32=>y29=a32) (Dels.cons del0 Dels.nil) ?_ ?_
   ·
    refine zaw <| zbd (X:=Nat × MirS × Nat × Nat) [13,14,15,16,55,56,57,58,59,60,61,62,63,64,65,66,67,68,69,70,71,72,73,74,75,76,77,78,79,80,81,82,83,84,85,86,87,88] (fun ⟨n,x33,x34,x35⟩=>([(13,.int .i64 (((x34:Nat):Int))),(55,.int .i64 (((x35:Nat):Int)))]:Slots)) (fun ⟨n,x33,x34,x35⟩ R=>MirP bs b23 x33::R) (fun ⟨n,x33,x34,x35⟩=>zjd legs staleLegs region s n x33 x34 x35=some y29) (fun ⟨n,x33,x34,x35⟩=>n) ⟨FUEL,(⟨([]:List mlegS),none,false,(0:Int),r21,region,[],(0:Int)⟩:MirS),0,0⟩ ?_ ?_ eR ?_
    · exact hl27
    · exact ⟨rfl,rfl,True.intro⟩
    ·
     rintro ⟨n,x33,x34,x35⟩ h
     cases n with
     | zero=>exact zbq h
     | succ n => ?_
     replace h:zk6 legs staleLegs region s (zjd legs staleLegs region s n) x33 x34 x35=some y29 := h
     unfold zk6 at h
     show CJ _ _ _ _ _ (([(13,.int .i64 (((x34:Nat):Int))),(55,.int .i64 (((x35:Nat):Int)))]:Slots) ++ forget _ _) (MirP bs b23 x33::_)
     refine sR <| oP (P_lss (a:=((x35:Nat):Int)) (b:=((legs.length:Nat):Int)) rfl rfl) rfl <| nT <| zac <| zan rfl zab (fun hg3 => ?_) (fun hg3 => ?_)
     ·
      replace h := ite_t hg3 h
      refine kT <| zac <| zaw <| sR <| oM rfl rfl <| oV (zay (i:=x35) rfl rfl rfl (by have hz:x35 < legs.length := (by omega); have hy := hdl2; omega) foc5 rlegs Tryz.runUnderlying92 Tryz.sizeOf96) rfl <| zbb (Ent.trans (t2_ eR) (Rs_at (fun _ _=>zhl) (dx:=dv0) (dh:=tyDev.dflt) (i:=x35) (by omega))) <| oV (za6 rfl rfl (by have hz:x35 < legs.length := (by omega); have hy := hdl2; omega) foc6 rlegs rfl rfl Tryz.isAgg96) rfl <| oA rfl rfl <| oA rfl rfl <| nT <| sR <| oM rfl rfl <| oP (zfn rfl (zu2 _ _)) rfl <| oO <| zes Tryz.zeroValue129 rfl rfl fun b37=>oO <| zfm rfl rfl foc0 Tryz.sizeOf129 rfl rfl rfl <| nT <| zac <| sR <| oM rfl rfl <| oM rfl rfl ?_
      obtain ⟨r38,hr39,h⟩ := zar h
      refine oO <| zat (zgu rstaleLegs hr39) rfl Tryz.call81 (Dels.cons del5 Dels.nil) rfl fun _ _=>nT ?_
      obtain ⟨y42,hl40,hK41⟩ := zfw h
      refine zbv (X:=Nat × Nat) [13,65,66,67] (fun a45=>([(13,.int .i64 (((a45.1:Nat):Int)))]:Slots)) (fun a45 R=>blk b37 129 [IfH.v (hslegs.getD x35 tyDev.dflt),.int .i64 (((a45.2:Nat):Int)),.int .i64 (0:Int)]::R) (fun a45=>y42=a45) (Dels.cons del1 Dels.nil) ?_ ?_
      ·
       have h := hl40
       refine zan rfl Iff.rfl (fun hg4 => ?_) (fun hg4 => ?_)
       ·
        replace h := ite_t hg4 h
        exact zaf <| oP (zaa rfl ⟨_,_,_,Tryz.runUnderlying129,rfl,rfl,Tryz.sizeOf117,rfl⟩) rfl <| oO <| zbu rfl rfl foc1 rfl rfl Tryz.sizeOf117 <| zap <| cR (x34,2) (Option.some.inj h).symm ⟨rfl,True.intro⟩ (t1_ eR)
       ·
        replace h := ite_f hg4 h
        refine zaf <| oM rfl rfl ?_
        obtain ⟨hg5,h⟩ := zfg h
        exact oP (PJ_eq (P_add (a:=((x34:Nat):Int)) (b:=(1:Int)) rfl rfl (zfh hg5)) rfl) rfl <| oA rfl rfl <| zap <| cR ((x34 + 1),0) (Option.some.inj h).symm ⟨rfl,True.intro⟩ (t1_ eR)
      ·
       rintro a45 hy46
       replace h := zd2 hK41 hy46
       show CJ _ _ _ _ _ (([(13,.int .i64 (((a45.1:Nat):Int)))]:Slots) ++ forget _ _) (blk b37 129 [IfH.v (hslegs.getD x35 tyDev.dflt),.int .i64 (((a45.2:Nat):Int)),.int .i64 (0:Int)]::_)
       refine zac <| zax (Ent.transX (t4_ eR) (zba (l:=x33))) fun oc47=>za1 (fun h hh=>za7 (zaq (del2 (A:=Rs (DevP bs) (x33.legs.map mlegS.dev) oc47.2.1)).out h hh)) fun hdl49=>lC del1 fun hlen50 => ?_
       rw [zai (by have := hdl49; simpa using this)] at hlen50
       refine lC del4 fun hlen51=>zbc 1152 (by kernel_rfl) rfl <| aN 0 1 rfl rfl (zaj rfl) rfl <| aN 1 3 rfl rfl (zaj rfl) rfl <| aN 2 7 rfl rfl (zae rfl) rfl <| aN 3 15 rfl rfl (zaa rfl ⟨_,_,_,Tryz.runUnderlying119,rfl,rfl,Tryz.sizeOf115,rfl⟩) rfl <| aV 4 31 rfl rfl (zak rfl) eR (zag rfl foc0 rfl Tryz.isAgg115) rfl <| aV 5 63 rfl rfl (zak rfl) eR (zhb rfl foc5 Tryz.isAgg129 Tryz.sizeOf129 rfl rfl) rfl <| AJ_op 6 127 rfl (by kernel_rfl) rfl (zak rfl) <| zbf rfl (ztg _ _ _ _) rfl fun b52=>⟨fun _=>(t1_ (t1_ (t1_ (t1_ (t1_ (t1_ (t1_ (t1_ (t1_ (t1_ (t1_ (t1_ (eD eR))))))))))))),?_⟩
       obtain ⟨hg6,h⟩ := zfo h
       refine AJ_op 7 255 rfl (by kernel_rfl) rfl (zak rfl) <| zc9 (t:=zdp) (bytes:=32) rfl rfl del2 foc0 (Reads.lit (t:=zdp) (ys:=[(⟨((hslegs.getD x35 tyDev.dflt):IfH),((a45.2:Nat):Int),(0:Int)⟩:mlegH)]) rfl rfl (by decide) (by decide) rfl) Tryz.underlying115 ztf (apl (m:=1) (b:=32) (show (zav x33.legs oc47.2.1).length + 1≤1000000000 by rw [zai (by have := hdl49; simpa using this)]; exact hg6) (by decide)).1 (apl (m:=1) (b:=32) (show (zav x33.legs oc47.2.1).length + 1≤1000000000 by rw [zai (by have := hdl49; simpa using this)]; exact hg6) (by decide)).2 rfl fun p54 c55=>⟨fun h=>absurd h (by decide),?_⟩
       refine zey (Ent.takeC (A' := sl zdp (.slice p54 (zav x33.legs oc47.2.1 ++ [(⟨((hslegs.getD x35 tyDev.dflt):IfH),((a45.2:Nat):Int),(0:Int)⟩:mlegH)]).length c55) (zav (x33.legs ++ [(⟨(legs.getD x35 dv0),((a45.2:Nat):Int),(0:Int)⟩:mlegS)]) (oc47.2.1 ++ [((hslegs.getD x35 tyDev.dflt):IfH)]))) del0 (congrArg (sl zdp _) (zqy (by have := hdl49; simpa using this) (⟨(legs.getD x35 dv0),((a45.2:Nat):Int),(0:Int)⟩:mlegS) ((hslegs.getD x35 tyDev.dflt):IfH))) eR) <| zey (Ent.trans (t3_ (t7_ eR)) (zpf (x:=(legs.getD x35 dv0)) (g:=((hslegs.getD x35 tyDev.dflt):IfH)) (fun _ _=>zhl))) <| zey (Ent.takeC (A' := Rs (DevP bs) (((x33.legs ++ [(⟨(legs.getD x35 dv0),((a45.2:Nat):Int),(0:Int)⟩:mlegS)])).map mlegS.dev) (oc47.2.1 ++ [((hslegs.getD x35 tyDev.dflt):IfH)])) del0 (congrArg (fun z=>Rs (DevP bs) z (oc47.2.1 ++ [((hslegs.getD x35 tyDev.dflt):IfH)])) (by simp)) eR) <| zh9 (fun h hh=>za7 (zaq (del0 (A:=Rs (DevP bs) ((((x33.legs ++ [(⟨(legs.getD x35 dv0),((a45.2:Nat):Int),(0:Int)⟩:mlegS)])).map mlegS.dev)) ((oc47.2.1 ++ [((hslegs.getD x35 tyDev.dflt):IfH)])))).out h hh)) fun hdl56=>aN 8 511 rfl rfl (zae rfl) rfl <| aN 9 1023 rfl rfl (zaa rfl ⟨_,_,_,Tryz.runUnderlying119,rfl,rfl,Tryz.sizeOf115,rfl⟩) rfl <| AJ_op 10 2047 rfl (by kernel_rfl) rfl (zak rfl) <| zbu rfl rfl foc4 rfl rfl Tryz.sizeOf115 ?_
       refine ⟨fun h=>absurd h (by decide),?_⟩
       refine zcd (by kernel_rfl) <| zas (Ent.trans (t4_ (t2_ (t0_ (t2_ (t2_ eR))))) (zbn (v0:=(x33.legs ++ [(⟨(legs.getD x35 dv0),((a45.2:Nat):Int),(0:Int)⟩:mlegS)])) (v1:=x33.log) (v2:=x33.hasLog) (v3:=x33.logState) (v4:=x33.size) (v5:=x33.region) (v6:=x33.dirty) (v7:=x33.copied) (h0:=⟨p54,(zav x33.legs oc47.2.1 ++ [(⟨((hslegs.getD x35 tyDev.dflt):IfH),((a45.2:Nat):Int),(0:Int)⟩:mlegH)]).length,c55⟩) (h1:=(oc47.2.1 ++ [((hslegs.getD x35 tyDev.dflt):IfH)])) (h2:=oc47.2.2.1) (h3:=oc47.2.2.2))) <| zas (t0_ (t0_ (t2_ (t2_ (t2_ (t2_ (t2_ (eD (eD eR))))))))) <| zam <| zax (Ent.transX (t0_ eR) (zba (l := { x33 with legs := (x33.legs ++ [(⟨(legs.getD x35 dv0),((a45.2:Nat):Int),(0:Int)⟩:mlegS)]) }))) fun oc57=>za1 (fun h hh=>za7 (zaq (del2 (A:=Rs (DevP bs) ((((x33.legs ++ [(⟨(legs.getD x35 dv0),((a45.2:Nat):Int),(0:Int)⟩:mlegS)])).map mlegS.dev)) oc57.2.1)).out h hh)) fun hdl59=>lC del1 fun hlen60 => ?_
       rw [zai (by have := hdl59; simpa using this)] at hlen60
       refine lC del4 fun hlen61=>zbc 1024 (by kernel_rfl) rfl <| aN 0 1 rfl rfl (zaj rfl) rfl <| aN 1 3 rfl rfl (zaj rfl) rfl <| aN 2 7 rfl rfl (zae rfl) rfl <| aN 3 15 rfl rfl (zaa rfl ⟨_,_,_,Tryz.runUnderlying119,rfl,rfl,Tryz.sizeOf3,rfl⟩) rfl <| aV 4 31 rfl rfl (zak rfl) eR (zag rfl foc0 rfl Tryz.isAgg3) rfl <| aN 5 63 rfl rfl (zaj rfl) rfl <| zh9 (fun h hh=>zd3 h (zaq (del5 (A:=DevP bs (legs.getD x35 dv0) (hslegs.getD x35 tyDev.dflt))).out h hh)) fun hdp62 => ?_
       obtain ⟨r63,hr64,h⟩ := zar h
       refine AJ_op 6 127 rfl (by kernel_rfl) rfl (zak rfl) <| zc8 rfl (zlx hr64 hdp62) rfl (Dels.cons del5 (Dels.cons del7 Dels.nil)) rfl fun _ _=>⟨fun _=>(t2_ (t2_ (t2_ (t2_ (t2_ (t0_ (t1_ (t1_ eR)))))))),?_⟩
       refine aN 7 255 rfl rfl (P_min (a:=x33.size) (b:=r63) rfl rfl) rfl <| aN 8 511 rfl rfl (zae rfl) rfl <| aN 9 1023 rfl rfl (zaa rfl ⟨_,_,_,Tryz.runUnderlying119,rfl,rfl,Tryz.sizeOf3,rfl⟩) rfl <| AJ_op 10 2047 rfl (by kernel_rfl) rfl (zak rfl) <| zbu rfl rfl foc2 rfl rfl Tryz.sizeOf3 <| ⟨fun h=>absurd h (by decide),?_⟩
       exact zcd (by kernel_rfl) <| zas (Ent.trans (t2_ (t2_ (t2_ (t2_ (t2_ eR))))) (zbn (v0:=(x33.legs ++ [(⟨(legs.getD x35 dv0),((a45.2:Nat):Int),(0:Int)⟩:mlegS)])) (v1:=x33.log) (v2:=x33.hasLog) (v3:=x33.logState) (v4:=(min x33.size r63)) (v5:=x33.region) (v6:=x33.dirty) (v7:=x33.copied) (h0:=oc57.1) (h1:=oc57.2.1) (h2:=oc57.2.2.1) (h3:=oc57.2.2.2))) <| zao <| zas (t0_ (t1_ (t1_ (t1_ (t1_ (t1_ (eD eR))))))) <| zam <| zaf <| oP (PJ_eq (P_add (a:=((x35:Nat):Int)) (b:=(1:Int)) rfl rfl (by omega)) rfl) rfl <| oM rfl rfl <| zap <| nR ⟨n,(⟨(x33.legs ++ [(⟨(legs.getD x35 dv0),((a45.2:Nat):Int),(0:Int)⟩:mlegS)]),x33.log,x33.hasLog,x33.logState,(min x33.size r63),x33.region,x33.dirty,x33.copied⟩:MirS),a45.1,(x35 + 1)⟩ h ⟨rfl,rfl,True.intro⟩ (t0_ (t0_ (t1_ eR)))
     ·
      replace h := ite_f hg3 h
      exact zbj <| za3 <| za2 <| za0 <| cR (x34,x33) (Option.some.inj h).symm ⟨rfl,True.intro⟩ eR
   ·
    rintro a32 hy65
    replace h := zd2 hK28 hy65
    show CJ _ _ _ _ _ (([(13,.int .i64 (((a32.1:Nat):Int)))]:Slots) ++ forget _ _) (MirP bs b23 a32.2::_)
    refine zac <| sR <| oM rfl rfl <| oP (P_eql (a:=((a32.1:Nat):Int)) (b:=(0:Int)) rfl rfl) rfl <| nT <| zan rfl zab (fun hg7 => ?_) (fun hg7 => ?_)
    ·
     replace h := ite_t hg7 h
     refine sR <| oA rfl rfl <| oA rfl rfl <| nT <| zah <| zad ?_
     cases h
     exact fE (res2 Tryz.results52 rfl rfl) 0 (t5_ (t2_ (t2_ (t1_ (Ent.trans (fun h hh=>zb8 h hh) <| t0_ (eD (eD eR)))))))
    ·
     replace h := ite_f hg7 h
     refine kT <| zac <| zax (Ent.transX (t0_ eR) (zba (l:=a32.2))) fun oc66=>za1 (fun h hh=>za7 (zaq (del2 (A:=Rs (DevP bs) (a32.2.legs.map mlegS.dev) oc66.2.1)).out h hh)) fun hdl68=>lC del1 fun hlen69 => ?_
     rw [zai (by have := hdl68; simpa using this)] at hlen69
     refine lC del4 fun hlen70=>zaf <| oM rfl rfl <| oM rfl rfl <| oP (zae rfl) rfl <| oP (zaa rfl ⟨_,_,_,Tryz.runUnderlying119,rfl,rfl,Tryz.sizeOf3,rfl⟩) rfl <| oV (zag rfl foc0 rfl Tryz.isAgg3) rfl <| oM rfl rfl ?_
     obtain ⟨r71,hr72,h⟩ := zar h
     refine oO <| zat (zly hr72) rfl Tryz.call42 Dels.nil rfl fun _ _ => ?_
     obtain ⟨hg8,h⟩ := zbt h
     refine oO <| zkp (t:=tyB) (m:=(r71).toNat) (x0:=false) (z:=_) (bytes:=_) rfl rfl (Int.toNat_of_nonneg (hg8.1)).symm (Int.toNat_of_nonneg (hg8.1)).symm Tryz.underlying34 ⟨Tryz.t4,by kernel_rfl,rfl,rfl,rfl⟩ rfl (by omega) (by decide) rfl fun b73=>oP (zae rfl) rfl <| oP (zaa rfl ⟨_,_,_,Tryz.runUnderlying119,rfl,rfl,Tryz.sizeOf34,rfl⟩) rfl <| oO <| zbu rfl rfl foc1 rfl rfl Tryz.sizeOf34 <| zap <| zas (Ent.trans (t1_ (t1_ (t1_ (t1_ eR)))) (zbn (v0:=a32.2.legs) (v1:=a32.2.log) (v2:=a32.2.hasLog) (v3:=a32.2.logState) (v4:=a32.2.size) (v5:=a32.2.region) (v6:=(List.replicate ((r71).toNat) false)) (v7:=a32.2.copied) (h0:=oc66.1) (h1:=oc66.2.1) (h2:=oc66.2.2.1) (h3:=⟨some ⟨b73,0,none⟩,(r71).toNat,(r71).toNat⟩))) <| zas (t0_ (t1_ (t1_ (t1_ (t1_ (t1_ (eD eR))))))) <| zam <| zac <| sR <| oM rfl rfl <| oV (zag rfl foc4 rfl Tryz.isAgg3) rfl ?_
     obtain ⟨r74,hr75,h⟩ := zar h
     refine oO <| zat (zgu rstaleLegs hr75) rfl Tryz.call81 (Dels.cons del3 Dels.nil) rfl fun _ _=>oM rfl rfl <| zaz rfl rfl rfl (fun hG76=>have hP77:¬ r74=true := nP (Iff.rfl) hG76; VJ_P (zaj rfl)) <| zaz rfl rfl rfl (fun hG78=>have hP79:¬ r74=true := nP (Iff.rfl) hG78; VJ_P (zae (mbx hG78 rfl))) <| zaz rfl rfl rfl (fun hG80=>have hP81:¬ r74=true := nP (Iff.rfl) hG80; VJ_P (zaa (mbx hG80 rfl) ⟨_,_,_,Tryz.runUnderlying119,rfl,rfl,Tryz.sizeOf4,rfl⟩)) <| zaz rfl rfl rfl (fun hG82=>have hP83:¬ r74=true := nP (Iff.rfl) hG82; zil (Ent.transX (t1_ eR) (zba (l := { a32.2 with dirty := (List.replicate ((r71).toNat) false) }))) (fun _=>zag (mbx hG82 rfl) foc0 rfl Tryz.isAgg4)) <| zaz rfl rfl rfl (fun hG84=>have hP85:¬ r74=true := nP (Iff.rfl) hG84; VJ_P (P_not (mbx hG84 rfl))) <| oP (zcw rfl rfl (fun hh=>mbx (not_f hh) rfl)) rfl <| nT <| zan rfl (bT_or Iff.rfl (zdk Iff.rfl)) (fun hg9 => ?_) (fun hg9 => ?_)
     ·
      replace h := ite_t hg9 h
      refine zac <| zax (Ent.transX (t1_ eR) (zba (l := { a32.2 with dirty := (List.replicate ((r71).toNat) false) }))) fun oc86=>za1 (fun h hh=>za7 (zaq (del2 (A:=Rs (DevP bs) (a32.2.legs.map mlegS.dev) oc86.2.1)).out h hh)) fun hdl88=>lC del1 fun hlen89 => ?_
      rw [zai (by have := hdl88; simpa using this)] at hlen89
      refine lC del4 fun hlen90=>zaf <| oM rfl rfl <| oP (zae rfl) rfl <| oP (zaa rfl ⟨_,_,_,Tryz.runUnderlying119,rfl,rfl,Tryz.sizeOf117,rfl⟩) rfl <| oO <| zbu rfl rfl foc0 rfl rfl Tryz.sizeOf117 <| zap <| zas (Ent.trans eR (zbn (v0:=a32.2.legs) (v1:=a32.2.log) (v2:=a32.2.hasLog) (v3:=(2:Int)) (v4:=a32.2.size) (v5:=a32.2.region) (v6:=(List.replicate ((r71).toNat) false)) (v7:=a32.2.copied) (h0:=oc86.1) (h1:=oc86.2.1) (h2:=oc86.2.2.1) (h3:=oc86.2.2.2))) <| zam <| zac <| zac <| zax (Ent.transX (t0_ eR) (zba (l:=(⟨a32.2.legs,a32.2.log,a32.2.hasLog,(2:Int),a32.2.size,a32.2.region,(List.replicate ((r71).toNat) false),a32.2.copied⟩:MirS)))) fun oc91=>za1 (fun h hh=>za7 (zaq (del2 (A:=Rs (DevP bs) (a32.2.legs.map mlegS.dev) oc91.2.1)).out h hh)) fun hdl93=>lC del1 fun hlen94 => ?_
      rw [zai (by have := hdl93; simpa using this)] at hlen94
      refine lC del4 fun hlen95=>zaf <| oM rfl rfl <| oP (zae rfl) rfl <| oP (zaa rfl ⟨_,_,_,Tryz.runUnderlying119,rfl,rfl,Tryz.sizeOf34,rfl⟩) rfl <| oV (zag rfl foc0 rfl Tryz.isAgg34) rfl <| oV (V_len rfl foc4 (Reads.sl _ _ _) Tryz.runUnderlying34) rfl <| oM rfl rfl <| zap <| zas (Ent.trans eR (zbn (v0:=a32.2.legs) (v1:=a32.2.log) (v2:=a32.2.hasLog) (v3:=(2:Int)) (v4:=a32.2.size) (v5:=a32.2.region) (v6:=(List.replicate ((r71).toNat) false)) (v7:=a32.2.copied) (h0:=oc91.1) (h1:=oc91.2.1) (h2:=oc91.2.2.1) (h3:=oc91.2.2.2))) <| zam ?_
      obtain ⟨y98,hl96,hK97⟩ := zfw h
      refine zbv (X:=MirS) [17,119,120,121,122,123,124,125,126,127,128] (fun a100=>([]:Slots)) (fun a100 R=>MirP bs b23 a100::R) (fun a100=>y98=a100) (Dels.cons del0 Dels.nil) ?_ ?_
      ·
       refine zaw <| zbd (X:=Nat × MirS × Nat) [17,119,120,121,122,123,124,125,126,127,128] (fun ⟨n,x101,x102⟩=>([(119,.int .i64 (((x102:Nat):Int)))]:Slots)) (fun ⟨n,x101,x102⟩ R=>MirP bs b23 x101::R) (fun ⟨n,x101,x102⟩=>zje r71 n x101 x102=some y98) (fun ⟨n,x101,x102⟩=>n) ⟨FUEL,(⟨a32.2.legs,a32.2.log,a32.2.hasLog,(2:Int),a32.2.size,a32.2.region,(List.replicate ((r71).toNat) false),a32.2.copied⟩:MirS),0⟩ ?_ ?_ eR ?_
       · exact hl96
       · exact ⟨rfl,True.intro⟩
       ·
        rintro ⟨n,x101,x102⟩ h
        cases n with
        | zero=>exact zbq h
        | succ n => ?_
        replace h:zk7 r71 (zje r71 n) x101 x102=some y98 := h
        unfold zk7 at h
        show CJ _ _ _ _ _ (([(119,.int .i64 (((x102:Nat):Int)))]:Slots) ++ forget _ _) (MirP bs b23 x101::_)
        refine sR <| oP (P_lss (a:=((x102:Nat):Int)) (b:=((((List.replicate ((r71).toNat) false)).length:Nat):Int)) rfl rfl) rfl <| nT <| zac <| zan rfl zab (fun hg10 => ?_) (fun hg10 => ?_)
        ·
         replace h := ite_t hg10 h
         refine kT <| zac <| zaw <| sR <| oM rfl rfl <| oA rfl rfl <| nT <| zax (Ent.transX (t0_ eR) (zba (l:=x101))) fun oc103=>za1 (fun h hh=>za7 (zaq (del2 (A:=Rs (DevP bs) (x101.legs.map mlegS.dev) oc103.2.1)).out h hh)) fun hdl105=>lC del1 fun hlen106 => ?_
         rw [zai (by have := hdl105; simpa using this)] at hlen106
         refine lC del4 fun hlen107=>zaf <| oM rfl rfl <| oP (zae rfl) rfl <| oP (zaa rfl ⟨_,_,_,Tryz.runUnderlying119,rfl,rfl,Tryz.sizeOf34,rfl⟩) rfl <| oV (zag rfl foc0 rfl Tryz.isAgg34) rfl <| oM rfl rfl ?_
         obtain ⟨hg11,h⟩ := zbt h
         refine oV (zay (i:=x102) rfl rfl rfl hg11 foc4 (Reads.sl _ _ _) Tryz.runUnderlying34 Tryz.sizeOf4) rfl <| oO <| zea (x' := true) rfl rfl rfl hg11 foc4 rfl rfl rfl Tryz.sizeOf4 <| zap <| zas (Ent.trans eR (zbn (v0:=x101.legs) (v1:=x101.log) (v2:=x101.hasLog) (v3:=x101.logState) (v4:=x101.size) (v5:=x101.region) (v6:=(x101.dirty.set x102 true)) (v7:=x101.copied) (h0:=oc103.1) (h1:=oc103.2.1) (h2:=oc103.2.2.1) (h3:=oc103.2.2.2))) <| zao <| zam <| zaf ?_
         obtain ⟨hg12,h⟩ := zfg h
         exact oP (PJ_eq (P_add (a:=((x102:Nat):Int)) (b:=(1:Int)) rfl rfl (zfh hg12)) rfl) rfl <| oM rfl rfl <| zap <| nR ⟨n, { x101 with dirty := (x101.dirty.set x102 true) },(x102 + 1)⟩ h ⟨rfl,True.intro⟩ eR
        ·
         replace h := ite_f hg10 h
         exact zbj <| za3 <| za2 <| za0 <| cR x101 (Option.some.inj h).symm True.intro eR
      ·
       rintro a100 hy108
       replace h := zd2 hK97 hy108
       show CJ _ _ _ _ _ (([]:Slots) ++ forget _ _) (MirP bs b23 a100::_)
       refine sR <| oM rfl rfl <| oA rfl rfl <| oA rfl rfl <| nT <| zah <| zad ?_
       cases h
       exact fE (res2 Tryz.results52 rfl rfl) b23 (t5_ (t3_ (t1_ (t1_ (t0_ (eD eR))))))
     ·
      replace h := ite_f hg9 h
      refine kT <| zac <| zax (Ent.transX (t1_ eR) (zba (l := { a32.2 with dirty := (List.replicate ((r71).toNat) false) }))) fun oc109=>za1 (fun h hh=>za7 (zaq (del2 (A:=Rs (DevP bs) (a32.2.legs.map mlegS.dev) oc109.2.1)).out h hh)) fun hdl111=>lC del1 fun hlen112 => ?_
      rw [zai (by have := hdl111; simpa using this)] at hlen112
      refine lC del4 fun hlen113=>zaf <| oM rfl rfl <| oM rfl rfl <| oP (zae rfl) rfl <| oP (zaa rfl ⟨_,_,_,Tryz.runUnderlying119,rfl,rfl,Tryz.sizeOf34,rfl⟩) rfl <| oV (zag rfl foc0 rfl Tryz.isAgg34) rfl <| oV (V_len rfl foc4 (Reads.sl _ _ _) Tryz.runUnderlying34) rfl ?_
      obtain ⟨r114,hr115,h⟩ := zar h
      refine oO <| zat (zq1 hr115) rfl Tryz.call94 Dels.nil rfl fun _ _=>oM rfl rfl <| oP (za4 rfl rfl) rfl <| oP (za4 rfl rfl) rfl <| oA rfl rfl <| oA rfl rfl <| zap <| zas (Ent.trans eR (zbn (v0:=a32.2.legs) (v1:=a32.2.log) (v2:=a32.2.hasLog) (v3:=a32.2.logState) (v4:=a32.2.size) (v5:=a32.2.region) (v6:=(List.replicate ((r71).toNat) false)) (v7:=a32.2.copied) (h0:=oc109.1) (h1:=oc109.2.1) (h2:=oc109.2.2.1) (h3:=oc109.2.2.2))) <| zam <| zac <| sR <| oM rfl rfl <| oP (P_neq (a:=r114) (b:=(0:Int)) rfl rfl) rfl <| oM rfl rfl <| zbk rfl rfl rfl (fun hG116=>have hP117:(r114≠(0:Int)) := (zab).1 hG116; VJ_P (zaj rfl)) <| zbk rfl rfl rfl (fun hG118=>have hP119:(r114≠(0:Int)) := (zab).1 hG118; VJ_P (P_neq (a:=r114) (b:=(5:Int)) (mbx hG118 rfl) rfl)) <| oP (zd1 rfl (fun hh=>mbx hh rfl) rfl) rfl <| nT <| zan rfl (zc3 zab zab) (fun hg13 => ?_) (fun hg13 => ?_)
      ·
       replace h := ite_t hg13 h
       refine sR <| oA rfl rfl <| oA rfl rfl <| nT <| zah <| zad ?_
       cases h
       exact fE (res2 Tryz.results52 rfl rfl) 0 (t5_ (t3_ (t1_ (t1_ (Ent.trans (fun h hh=>zb8 h hh) <| t0_ (eD (eD eR)))))))
      ·
       replace h := ite_f hg13 h
       refine kT <| zac <| sR <| oM rfl rfl <| oP (P_neq (a:=r114) (b:=(0:Int)) rfl rfl) rfl <| nT <| zan rfl zab (fun hg14 => ?_) (fun hg14 => ?_)
       ·
        replace h := ite_t hg14 h
        refine sR <| oM rfl rfl <| oA rfl rfl <| oA rfl rfl <| nT <| zah <| zad ?_
        cases h
        exact fE (res2 Tryz.results52 rfl rfl) 0 (t5_ (t3_ (t1_ (t1_ (Ent.trans (fun h hh=>zb8 h hh) <| t0_ (eD (eD eR)))))))
       ·
        replace h := ite_f hg14 h
        refine kT <| zac <| zax (Ent.transX (t0_ eR) (zba (l := { a32.2 with dirty := (List.replicate ((r71).toNat) false) }))) fun oc120=>za1 (fun h hh=>za7 (zaq (del2 (A:=Rs (DevP bs) (a32.2.legs.map mlegS.dev) oc120.2.1)).out h hh)) fun hdl122=>lC del1 fun hlen123 => ?_
        rw [zai (by have := hdl122; simpa using this)] at hlen123
        exact lC del4 fun hlen124=>zaf <| oM rfl rfl <| oM rfl rfl <| oP (zae rfl) rfl <| oP (zaa rfl ⟨_,_,_,Tryz.runUnderlying119,rfl,rfl,Tryz.sizeOf116,rfl⟩) rfl <| oO <| zbu rfl rfl foc0 rfl rfl Tryz.sizeOf116 <| zap <| zas (Ent.trans (t0_ (t0_ (t0_ (Ent.trans (fun h hh=>zb8 h hh) <| t0_ (t1_ eR))))) (zbn (v0:=a32.2.legs) (v1:=none) (v2:=a32.2.hasLog) (v3:=a32.2.logState) (v4:=a32.2.size) (v5:=a32.2.region) (v6:=(List.replicate ((r71).toNat) false)) (v7:=a32.2.copied) (h0:=oc120.1) (h1:=oc120.2.1) (h2:=0) (h3:=oc120.2.2.2))) <| zas (t0_ (t1_ (t1_ (t1_ (t2_ (eD (eD eR))))))) <| zam <| zac <| sR <| oM rfl rfl <| zbq h
end Go.Proofs
set_option linter.unusedSimpArgs false
set_option linter.unusedVariables false
set_option maxRecDepth 20000
set_option maxHeartbeats 4000000
namespace Go.Proofs
open Go.VG
def zdt (s_0_a:ArrS) (s_0_legs:Int) (s_0_size:Int) (s_0_region:Int) (s_0_log:Bool) (stale:List Int):Option ((Option MirS) × Int) :=
  Option.bind (zfp s_0_a) fun r3 =>
  if (((r3.length:Nat):Int) < s_0_legs) then
    some ((none,(12:Int)))
  else
    Option.bind ((
      if (s_0_log=true∧(s_0_legs < ((r3.length:Nat):Int))) then
        grd (decide (0≤s_0_legs∧s_0_legs < (r3.length:Int))) <|
        some ((some ((r3.getD ((s_0_legs).toNat) dv0))))
      else
        some none:Option ((Option Dvc)))) fun a25 =>
    grd (decide (0≤s_0_legs∧(s_0_legs).toNat≤r3.length)) <|
    Option.elim a25 (
      Option.bind (zi2 ((r3.take ((s_0_legs).toNat))) stale s_0_region s_0_a) fun r33 =>
      some (r33.1,r33.2)) fun o32 =>
    Option.bind (zgc ((r3.take ((s_0_legs).toNat))) stale o32 s_0_region s_0_a) fun r37 =>
    some (r37.1,r37.2)
theorem zjg {W:World} {bs_0_a:Nat} {Astale:HP} {vstale:Value} {s_0_a:ArrS} {s_0_legs:Int} {s_0_size:Int} {s_0_region:Int} {s_0_log:Bool} {stale:List Int} {r:(Option MirS) × Int} (rstale:Reads Astale tyI vstale stale) (h:zdt s_0_a s_0_legs s_0_size s_0_region s_0_log stale=some r) :
    CSpec Tryz.prog W 21 [.agg #[ptr bs_0_a 0,.int .i64 s_0_legs,.int .i64 s_0_size,.int .i64 s_0_region,.bool s_0_log],vstale] [Arr bs_0_a s_0_a,Astale] (fun x:Nat => .tuple #[oval r.1 x,.int .i64 r.2]) (fun _=>True) (fun x F=>Arr bs_0_a s_0_a::Astale::optP (MirP bs_0_a x) r.1::F) := by
 refine CSpec.of_body Tryz.func21 rfl Tryz.ntmps21 rfl fun F => ?_
 show CJ _ _ _ _ _ _ (_::_::F)
 unfold zdt at h
 refine za1 (zcg rstale del1) fun hlen1=>sR <| oO <| O_box rfl rfl rfl fun b2=>oA rfl rfl <| oA rfl rfl <| nT <| sR <| oP (zaa rfl ⟨_,_,_,Tryz.runUnderlying28,rfl,rfl,Tryz.sizeOf26,rfl⟩) rfl <| oV (zag rfl foc0 rfl Tryz.isAgg26) rfl ?_
 obtain ⟨r3,hr4,h⟩ := zar h
 refine oO <| zat (zli hr4) rfl Tryz.call44 (Dels.cons del1 Dels.nil) rfl fun X5 _=>zcl (fun h hh=>za7 (zaq (del2 (A:=Rs (DevP bs_0_a) r3 X5.2)).out h hh)) fun hdl8=>oA rfl rfl <| nT <| zac <| sR <| oM rfl rfl <| oV (VJ_eq (V_len rfl foc1 (Reads.sl _ _ _) Tryz.runUnderlying92) (congrArg (fun z:Nat=>Value.int .i64 (z:Int)) (hdl8).symm)) rfl <| oP (zaa rfl ⟨_,_,_,Tryz.runUnderlying28,rfl,rfl,Tryz.sizeOf3,rfl⟩) rfl <| oV (zag rfl foc3 rfl Tryz.isAgg3) rfl <| oP (P_lss (a:=((r3.length:Nat):Int)) (b:=s_0_legs) rfl rfl) rfl <| nT <| zan rfl zab (fun hg1 => ?_) (fun hg1 => ?_)
 ·
  replace h := ite_t hg1 h
  refine sR <| oA rfl rfl <| oA rfl rfl <| nT <| zah <| zad ?_
  cases h
  exact fE (res2 Tryz.results21 rfl rfl) 0 (t0_ (t3_ (Ent.trans (fun h hh=>zb8 h hh) <| t0_ (eD (eD (eD eR))))))
 ·
  replace h := ite_f hg1 h
  refine kT <| sR <| oA rfl rfl <| nT <| zac <| sR <| oP (zaa rfl ⟨_,_,_,Tryz.runUnderlying28,rfl,rfl,Tryz.sizeOf4,rfl⟩) rfl <| oV (zag rfl foc3 rfl Tryz.isAgg4) rfl <| oM rfl rfl <| zbk rfl rfl rfl (fun hG9=>have hP10:s_0_log=true := (Iff.rfl).1 hG9; VJ_P (zaj rfl)) <| zbk rfl rfl rfl (fun hG11=>have hP12:s_0_log=true := (Iff.rfl).1 hG11; VJ_eq (V_len (mbx hG11 rfl) foc1 (Reads.sl _ _ _) Tryz.runUnderlying92) (congrArg (fun z:Nat=>Value.int .i64 (z:Int)) (hdl8).symm)) <| zbk rfl rfl rfl (fun hG13=>have hP14:s_0_log=true := (Iff.rfl).1 hG13; VJ_P (zaa rfl ⟨_,_,_,Tryz.runUnderlying28,rfl,rfl,Tryz.sizeOf3,rfl⟩)) <| zbk rfl rfl rfl (fun hG15=>have hP16:s_0_log=true := (Iff.rfl).1 hG15; zag (mbx hG15 rfl) foc3 rfl Tryz.isAgg3) <| zbk rfl rfl rfl (fun hG17=>have hP18:s_0_log=true := (Iff.rfl).1 hG17; VJ_P (P_gtr (a:=((r3.length:Nat):Int)) (b:=s_0_legs) (mbx hG17 rfl) (mbx hG17 rfl))) <| oP (zd1 rfl (fun hh=>mbx hh rfl) rfl) rfl <| nT <| zde (fun h hh=>zb8 (f:=(DevP bs_0_a · ⟨0,.bool false⟩)) h hh) ?_
  obtain ⟨y22,hl20,hK21⟩ := zfw h
  refine zbv (X:=(Option Dvc) × IfH) [7,25,26,27,28,29] (fun ⟨a25,dv24⟩=>([(7,oif a25 dv24)]:Slots)) (fun ⟨a25,dv24⟩ R=>optP (DevP bs_0_a · dv24) a25::R) (fun ⟨a25,dv24⟩=>y22=a25) (Dels.cons del0 Dels.nil) ?_ ?_
  ·
   have h := hl20
   refine zan rfl (zc3 Iff.rfl zab) (fun hg2 => ?_) (fun hg2 => ?_)
   ·
    replace h := ite_t hg2 h
    refine zaf <| oM rfl rfl <| oP (zaa rfl ⟨_,_,_,Tryz.runUnderlying28,rfl,rfl,Tryz.sizeOf3,rfl⟩) rfl <| oV (zag rfl foc4 rfl Tryz.isAgg3) rfl ?_
    obtain ⟨hg3,h⟩ := zbt h
    exact oV (zay (i:=(s_0_legs).toNat) rfl rfl (Int.toNat_of_nonneg (hg3.1)).symm (by have hz:(s_0_legs).toNat < r3.length := (by omega); have hy := hdl8; omega) foc2 (Reads.sl _ _ _) Tryz.runUnderlying92 Tryz.sizeOf96) rfl <| zbb (Ent.trans (t3_ eR) (Rs_at (fun _ _=>zhl) (dx:=dv0) (dh:=tyDev.dflt) (i:=(s_0_legs).toNat) (by omega))) <| oV (za6 rfl rfl (by have hz:(s_0_legs).toNat < r3.length := (by omega); have hy := hdl8; omega) foc4 (Reads.sl _ _ _) rfl rfl Tryz.isAgg96) rfl <| oA rfl rfl <| zap <| zas (Ent.trans (t0_ eR) (fun h hh=>zi8 zhl hh)) <| zas (Ent.takeC (A' := optP (DevP bs_0_a · ((X5.2.getD ((s_0_legs).toNat) tyDev.dflt))) ((some ((r3.getD ((s_0_legs).toNat) dv0))))) del0 rfl eR) <| cR ⟨(some ((r3.getD ((s_0_legs).toNat) dv0))),(X5.2.getD ((s_0_legs).toNat) tyDev.dflt)⟩ (Option.some.inj h).symm ⟨rfl,True.intro⟩ (t0_ (t3_ (t3_ (t1_ (t2_ (t2_ (eD (eD eR))))))))
   ·
    replace h := ite_f hg2 h
    exact zbr <| cR ⟨none,⟨0,.bool false⟩⟩ (Option.some.inj h).symm ⟨rfl,True.intro⟩ eR
  ·
   rintro ⟨a25,dv24⟩ hy28
   replace h := zd2 hK21 hy28
   show CJ _ _ _ _ _ (([(7,oif a25 dv24)]:Slots) ++ forget _ _) (optP (DevP bs_0_a · dv24) a25::_)
   refine zac <| zbc 256 (by kernel_rfl) rfl <| aN 0 1 rfl rfl (zaj rfl) rfl <| aN 1 3 rfl rfl (zaa rfl ⟨_,_,_,Tryz.runUnderlying28,rfl,rfl,Tryz.sizeOf3,rfl⟩) rfl <| aV 2 7 rfl rfl (zak rfl) eR (zag rfl foc4 rfl Tryz.isAgg3) rfl ?_
   obtain ⟨hg4,h⟩ := zbt h
   refine zey (Ent.trans (t3_ eR) (fun h hh=>zi8 (zv8 (fun _ _=>zhl)) hh)) <| zey (Ent.trans (t0_ eR) (zyd (fun _ _=>zhl) ((s_0_legs).toNat))) <| zh9 (fun h hh=>za7 (zaq (del0 (A:=Rs (DevP bs_0_a) ((r3.take ((s_0_legs).toNat))) ((X5.2.take ((s_0_legs).toNat))))).out h hh)) fun hdl30=>aV 3 15 rfl rfl (zak rfl) (t2_ (t2_ (t2_ (t1_ (t1_ (t1_ (eD eR))))))) (zrg (l:=0) (h:=(s_0_legs).toNat) rfl foc2 (Reads.sl _ _ _) rfl ⟨_,by rw [Int.toNat_of_nonneg (by omega)]; exact rfl⟩ (Nat.zero_le _) (show (s_0_legs).toNat≤X5.2.length by have := hg4; have := hdl8; omega) Tryz.underlying92 Tryz.sizeOf96) rfl <| aN 4 31 rfl rfl (zaj rfl) rfl <| aN 5 63 rfl rfl (zaj rfl) rfl <| aN 6 127 rfl rfl (zaa rfl ⟨_,_,_,Tryz.runUnderlying28,rfl,rfl,Tryz.sizeOf3,rfl⟩) rfl <| aV 7 255 rfl rfl (zak rfl) (t2_ (t2_ (t2_ (t1_ (t1_ (t1_ (eD eR))))))) (zag rfl foc4 rfl Tryz.isAgg3) rfl ?_
   rcases opt_e h with ⟨ht31,h⟩ | ⟨o32,ht31,h⟩
   ·
    rw [ht31]
    obtain ⟨r33,hr34,h⟩ := zar h
    refine AJ_op 8 511 rfl (by kernel_rfl) rfl (zak rfl) <| zat (zti (zs4 (Reads.sliceV (l:=0) (h:=(s_0_legs).toNat) (Reads.sl _ _ _) (Nat.zero_le _) (show (s_0_legs).toNat≤X5.2.length by have := hg4; have := hdl8; omega))) rstale hr34) rfl Tryz.call52 (Dels.cons del4 (Dels.cons del0 (Dels.cons del4 (Dels.cons del2 Dels.nil)))) rfl fun X35 _=>⟨fun h=>absurd h (by decide),?_⟩
    refine aN 9 1023 rfl rfl (za4 rfl rfl) rfl <| aN 10 2047 rfl rfl (za4 rfl rfl) rfl <| aN 11 4095 rfl rfl (zb0 rfl) rfl <| aN 12 8191 rfl rfl (zb0 rfl) rfl <| zcd (by kernel_rfl) <| zas (t2_ (t2_ (t2_ (eD (eD (eD (eD (eD eR)))))))) <| zam <| zah ?_
    cases h
    exact fE (res2 Tryz.results21 rfl rfl) X35 (t1_ eR)
   ·
    rw [ht31]
    refine zey (Ent.takeC (A' := DevP bs_0_a o32 dv24) del2 rfl eR) ?_
    obtain ⟨r37,hr38,h⟩ := zar h
    refine AJ_op 8 511 rfl (by kernel_rfl) rfl (zak rfl) <| zat (zvs (zs4 (Reads.sliceV (l:=0) (h:=(s_0_legs).toNat) (Reads.sl _ _ _) (Nat.zero_le _) (show (s_0_legs).toNat≤X5.2.length by have := hg4; have := hdl8; omega))) rstale hr38) rfl Tryz.call52 (Dels.cons del4 (Dels.cons del1 (Dels.cons del4 (Dels.cons del0 (Dels.cons del1 Dels.nil))))) rfl fun X39 _=>⟨fun h=>absurd h (by decide),?_⟩
    refine aN 9 1023 rfl rfl (za4 rfl rfl) rfl <| aN 10 2047 rfl rfl (za4 rfl rfl) rfl <| aN 11 4095 rfl rfl (zb0 rfl) rfl <| aN 12 8191 rfl rfl (zb0 rfl) rfl <| zcd (by kernel_rfl) <| zas (t2_ (t3_ (t3_ (eD (eD (eD (eD (eD eR)))))))) <| zam <| zah ?_
    cases h
    exact fE (res2 Tryz.results21 rfl rfl) X39 (t1_ eR)
def za5 (stale:List Int) (p1_a:ArrS) (p1_legs:Int) (p1_size:Int) (p1_region:Int) (p1_log:Bool):Option ((Option MirS) × Int) :=
  Option.bind (zdt p1_a p1_legs p1_size p1_region p1_log stale) fun r2 =>
  Option.elim r2.1 (
    if (r2.2=(0:Int)) then
      some ((none,(20:Int)))
    else
      some (none,r2.2)) fun o7 =>
  some (((some o7),r2.2))
theorem zi6 {W:World} {Astale:HP} {vstale:Value} {bp1:Nat} {bp1_a:Nat} {stale:List Int} {p1_a:ArrS} {p1_legs:Int} {p1_size:Int} {p1_region:Int} {p1_log:Bool} {r:(Option MirS) × Int} (rstale:Reads Astale tyI vstale stale) (h:za5 stale p1_a p1_legs p1_size p1_region p1_log=some r) :
    CSpec Tryz.prog W 46 [vstale,ptr bp1 0] [Astale,blk bp1 28 [ptr bp1_a 0,.int .i64 p1_legs,.int .i64 p1_size,.int .i64 p1_region,.bool p1_log],Arr bp1_a p1_a] (fun x:Nat => .tuple #[oifc 41 r.1 x,.int .i64 r.2]) (fun _=>True) (fun x F=>Astale::blk bp1 28 [ptr bp1_a 0,.int .i64 p1_legs,.int .i64 p1_size,.int .i64 p1_region,.bool p1_log]::Arr bp1_a p1_a::optP (MirP bp1_a x) r.1::F) := by
 refine CSpec.of_body Tryz.func46 rfl Tryz.ntmps46 rfl fun F => ?_
 show CJ _ _ _ _ _ _ (_::_::_::F)
 unfold za5 at h
 refine za1 (zcg rstale del0) fun hlen1=>sR <| oA rfl rfl <| oA rfl rfl <| nT <| sR <| oV (zhb rfl foc1 Tryz.isAgg28 Tryz.sizeOf28 rfl rfl) rfl <| oM rfl rfl ?_
 obtain ⟨r2,hr3,h⟩ := zar h
 refine oO <| zat (zjg rstale hr3) rfl Tryz.call21 (Dels.cons del2 (Dels.cons del0 Dels.nil)) rfl fun X4 _=>oM rfl rfl <| oP (za4 rfl rfl) rfl <| oP (za4 rfl rfl) rfl <| oA rfl rfl <| oA rfl rfl <| nT <| zac <| sR <| oM rfl rfl ?_
 rcases opt_e h with ⟨ht6,h⟩ | ⟨o7,ht6,h⟩
 ·
  rw [ht6]
  refine zbb (t0_ (t0_ (t1_ (eD eR)))) <| oP (zmx rfl rfl Tryz.underlying41) rfl <| nT <| zck rfl rfl <| zac <| sR <| oM rfl rfl <| oP (P_eql (a:=r2.2) (b:=(0:Int)) rfl rfl) rfl <| nT <| zan rfl zab (fun hg1 => ?_) (fun hg1 => ?_)
  ·
   replace h := ite_t hg1 h
   refine zaf <| oA rfl rfl <| nT <| sR <| oM rfl rfl <| oA rfl rfl <| oA rfl rfl <| nT <| zah <| zad ?_
   cases h
   exact fE (res2 Tryz.results46 rfl rfl) 0 (t1_ (t1_ (t0_ (Ent.trans (fun h hh=>zb8 h hh) <| t0_ eR))))
  ·
   replace h := ite_f hg1 h
   refine kT <| sR <| oM rfl rfl <| oA rfl rfl <| oA rfl rfl <| nT <| zah <| zad ?_
   cases h
   exact fE (res2 Tryz.results46 rfl rfl) 0 (t1_ (t1_ (t0_ (Ent.trans (fun h hh=>zb8 h hh) <| t0_ eR))))
 ·
  rw [ht6]
  refine zbb (Ent.takeC (A' := MirP bp1_a X4 o7) del2 rfl eR) <| oP (zmw rfl rfl Tryz.underlying41) rfl <| nT <| zgh rfl rfl <| kT <| sR <| oM rfl rfl <| oP (zrt rfl Tryz.runUnderlying41 (by intro ms h; cases h)) rfl <| oM rfl rfl <| oA rfl rfl <| oA rfl rfl <| nT <| zah ?_
  cases h
  exact fE (res2 Tryz.results46 rfl rfl) X4 (t2_ (t2_ (t1_ eR)))
def zen (s:ArrS) (rec:OwnS→(Option MirS)→Int→Nat→Option ((Option MirS) × Int × OwnS)) (x17:OwnS) (x18:Option MirS) (x20:Int) (x21:Nat):Option ((Option MirS) × Int × OwnS) :=
  if ((((x21:Nat):Int) < ((x17.Lost.length:Nat):Int))∧(x20=(18:Int))) then
    Option.bind (zgk x17.Stale (x17.Lost.getD x21 0)) fun r34 =>
    Option.bind (za5 r34 s x17.Open_1 x17.Open_2 x17.Open_3 x17.Open_4) fun r42 =>
    rec ({ x17 with Stale := r34 }) r42.1 r42.2 (x21 + 1)
  else
    some (x18,x20,x17)
def zcj (s:ArrS):Nat→OwnS→(Option MirS)→Int→Nat→Option ((Option MirS) × Int × OwnS)
  | 0,_,_,_,_=>none
  | n + 1,x17,x18,x20,x21=>zen s (zcj s n) x17 x18 x20 x21
def zdg (o:OwnS) (s:ArrS):Option (Bool × OwnS) :=
  Option.bind (za5 o.Stale s o.Open_1 o.Open_2 o.Open_3 o.Open_4) fun r5 =>
  Option.bind (zcj s FUEL o r5.1 r5.2 0) fun a16 =>
  if (a16.2.1=(0:Int)) then
    Option.elim a16.1 (
      if false=true then
        none
      else
        some (false, { a16.2.2 with X := none })) fun o54 =>
    if true=true then
      Option.bind (zg1 o54 s) fun r55 =>
      some (((decide (r55=((a16.2.2.T.length:Nat):Int))), { a16.2.2 with X := (some o54) }))
    else
      some ((false, { a16.2.2 with X := (some o54) }))
  else
    if false=true then
      Option.elim a16.1 (
        none) fun o58 =>
      Option.bind (zg1 o58 s) fun r59 =>
      some (((decide (r59=((a16.2.2.T.length:Nat):Int))), { a16.2.2 with X := (some o58) }))
    else
      some (false, { a16.2.2 with X := a16.1 })
theorem zjx {W:World} {bo:Nat} {bs:Nat} {o:OwnS} {s:ArrS} {r:Bool × OwnS} (h:zdg o s=some r) :
    CSpec Tryz.prog W 16 [ptr bo 0] [OwnP bs bo o,Arr bs s] (fun x:Unit => .bool r.1) (fun _=>True) (fun x F=>OwnP bs bo r.2::Arr bs s::F) := by
 refine CSpec.of_body Tryz.func16 rfl Tryz.ntmps16 rfl fun F => ?_
 show CJ _ _ _ _ _ _ (_::_::F)
 unfold zdg at h
 refine sR <| oA rfl rfl <| nT <| zac <| zax (Ent.transX (t0_ eR) (ze8 (l:=o))) fun oc1=>lC del4 fun hlen3=>lC del5 fun hlen4=>zbc 256 (by kernel_rfl) rfl <| aN 0 1 rfl rfl (zaj rfl) rfl <| aN 1 3 rfl rfl (zae rfl) rfl <| aN 2 7 rfl rfl (zaa rfl ⟨_,_,_,Tryz.runUnderlying60,rfl,rfl,Tryz.sizeOf55,rfl⟩) rfl <| aV 3 15 rfl rfl (zak rfl) eR (zag rfl foc0 rfl Tryz.isAgg55) rfl <| aN 4 31 rfl rfl (zaj rfl) rfl <| aN 5 63 rfl rfl (zae rfl) rfl <| aN 6 127 rfl rfl (zaa rfl ⟨_,_,_,Tryz.runUnderlying60,rfl,rfl,Tryz.sizeOf45,rfl⟩) rfl <| aV 7 255 rfl rfl (zak rfl) eR (zag rfl foc0 rfl Tryz.isAgg45) rfl ?_
 obtain ⟨r5,hr6,h⟩ := zar h
 refine AJ_op 8 511 rfl (by kernel_rfl) rfl (zak rfl) <| ze3 rfl rfl (zi6 (Reads.sl _ _ _) hr6) Tryz.call46 (Dels.cons del4 (Dels.cons del1 (Dels.cons del4 Dels.nil))) rfl fun X7 _=>⟨fun h=>absurd h (by decide),?_⟩
 refine aN 9 1023 rfl rfl (zaj rfl) rfl <| aN 10 2047 rfl rfl (za4 rfl rfl) rfl <| aN 11 4095 rfl rfl (za4 rfl rfl) rfl <| aN 12 8191 rfl rfl (zb0 rfl) rfl <| aN 13 16383 rfl rfl (zb0 rfl) rfl <| zcd (by kernel_rfl) <| zas (Ent.trans (t4_ (t1_ (t3_ (t3_ (t0_ (t2_ eR)))))) (zem (v0:=o.Open_1) (v1:=o.Open_2) (v2:=o.Open_3) (v3:=o.Open_4) (v4:=o.X) (v5:=o.T) (v6:=o.Stale) (v7:=o.Lost) (h0:=oc1.1) (h1:=oc1.2.1) (h2:=oc1.2.2.1) (h3:=oc1.2.2.2.1) (h4:=oc1.2.2.2.2))) <| zam <| zac <| sR <| oA rfl rfl <| nT ?_
 obtain ⟨y11,hl9,hK10⟩ := zfw h
 refine zbv (X:=((Option MirS) × Int × OwnS) × Nat) [3,4,5,18,19,20,21,22,23,24,25,26,27,28,29,30,31,32,33,34,35,36,37,38,39,40,41,42,43,44,45,46,47,48,49,50,51,52,53,54,55,56,57] (fun ⟨a16,pb13⟩=>([(3,oifc 41 a16.1 pb13),(4,.int .i64 a16.2.1)]:Slots)) (fun ⟨a16,pb13⟩ R=>optP (MirP bs pb13) a16.1::OwnP bs bo a16.2.2::R) (fun ⟨a16,pb13⟩=>y11=a16) (Dels.cons del2 (Dels.cons del0 Dels.nil)) ?_ ?_
 ·
  refine zaw <| zbd (X:=Nat × OwnS × (Option MirS) × Int × Nat × Nat) [3,4,5,18,19,20,21,22,23,24,25,26,27,28,29,30,31,32,33,34,35,36,37,38,39,40,41,42,43,44,45,46,47,48,49,50,51,52,53,54,55,56,57] (fun ⟨n,x17,x18,x20,x21,pb19⟩=>([(3,oifc 41 x18 pb19),(4,.int .i64 x20),(5,.int .i64 (((x21:Nat):Int)))]:Slots)) (fun ⟨n,x17,x18,x20,x21,pb19⟩ R=>OwnP bs bo x17::optP (MirP bs pb19) x18::R) (fun ⟨n,x17,x18,x20,x21,pb19⟩=>zcj s n x17 x18 x20 x21=some y11) (fun ⟨n,x17,x18,x20,x21,pb19⟩=>n) ⟨FUEL,o,r5.1,r5.2,0,X7⟩ ?_ ?_ (t0_ (t1_ eR)) ?_
  · exact hl9
  · exact ⟨rfl,rfl,rfl,True.intro⟩
  ·
   rintro ⟨n,x17,x18,x20,x21,pb19⟩ h
   cases n with
   | zero=>exact zbq h
   | succ n => ?_
   replace h:zen s (zcj s n) x17 x18 x20 x21=some y11 := h
   unfold zen at h
   show CJ _ _ _ _ _ (([(3,oifc 41 x18 pb19),(4,.int .i64 x20),(5,.int .i64 (((x21:Nat):Int)))]:Slots) ++ forget _ _) (OwnP bs bo x17::optP (MirP bs pb19) x18::_)
   refine zac <| zac <| zax (Ent.transX (t0_ eR) (ze8 (l:=x17))) fun oc22=>lC del4 fun hlen24=>lC del5 fun hlen25=>zaf <| oM rfl rfl <| oM rfl rfl <| oP (zae rfl) rfl <| oP (zaa rfl ⟨_,_,_,Tryz.runUnderlying60,rfl,rfl,Tryz.sizeOf45,rfl⟩) rfl <| oV (zag rfl foc0 rfl Tryz.isAgg45) rfl <| oV (V_len rfl foc5 (Reads.sl _ _ _) Tryz.runUnderlying45) rfl <| oP (P_lss (a:=((x21:Nat):Int)) (b:=((x17.Lost.length:Nat):Int)) rfl rfl) rfl <| oM rfl rfl <| zbk rfl rfl rfl (fun hG26=>have hP27:(((x21:Nat):Int) < ((x17.Lost.length:Nat):Int)) := (zab).1 hG26; VJ_P (zaj rfl)) <| zbk rfl rfl rfl (fun hG28=>have hP29:(((x21:Nat):Int) < ((x17.Lost.length:Nat):Int)) := (zab).1 hG28; VJ_P (P_eql (a:=x20) (b:=(18:Int)) (mbx hG28 rfl) rfl)) <| oP (zd1 rfl (fun hh=>mbx hh rfl) rfl) rfl <| zap <| zas (Ent.trans eR (zem (v0:=x17.Open_1) (v1:=x17.Open_2) (v2:=x17.Open_3) (v3:=x17.Open_4) (v4:=x17.X) (v5:=x17.T) (v6:=x17.Stale) (v7:=x17.Lost) (h0:=oc22.1) (h1:=oc22.2.1) (h2:=oc22.2.2.1) (h3:=oc22.2.2.2.1) (h4:=oc22.2.2.2.2))) <| zam <| zan rfl (zc3 zab zab) (fun hg1 => ?_) (fun hg1 => ?_)
   ·
    replace h := ite_t hg1 h
    refine kT <| zac <| zaw <| zac <| zax (Ent.transX (t0_ eR) (ze8 (l:=x17))) fun oc30=>lC del4 fun hlen32=>lC del5 fun hlen33=>zbc 36864 (by kernel_rfl) rfl <| aN 0 1 rfl rfl (zaj rfl) rfl <| aN 1 3 rfl rfl (zaj rfl) rfl <| aN 2 7 rfl rfl (zae rfl) rfl <| aN 3 15 rfl rfl (zaa rfl ⟨_,_,_,Tryz.runUnderlying60,rfl,rfl,Tryz.sizeOf45,rfl⟩) rfl <| aV 4 31 rfl rfl (zak rfl) eR (zag rfl foc0 rfl Tryz.isAgg45) rfl <| aN 5 63 rfl rfl (zaj rfl) rfl <| aN 6 127 rfl rfl (zae rfl) rfl <| aN 7 255 rfl rfl (zaa rfl ⟨_,_,_,Tryz.runUnderlying60,rfl,rfl,Tryz.sizeOf45,rfl⟩) rfl <| aV 8 511 rfl rfl (zak rfl) eR (zag rfl foc0 rfl Tryz.isAgg45) rfl <| aN 9 1023 rfl rfl (zaj rfl) rfl <| aV 10 2047 rfl rfl (zak rfl) eR (zay (i:=x21) rfl rfl rfl (by omega) foc5 (Reads.sl _ _ _) Tryz.runUnderlying45 Tryz.sizeOf3) rfl <| aV 11 4095 rfl rfl (zak rfl) eR (za6 rfl rfl (by omega) foc5 (Reads.sl _ _ _) rfl rfl Tryz.isAgg3) rfl ?_
    obtain ⟨r34,hr35,h⟩ := zar h
    refine AJ_op 12 8191 rfl (by kernel_rfl) rfl (zak rfl) <| zat (zj9 (Reads.sl _ _ _) hr35) rfl Tryz.call48 (Dels.cons del4 Dels.nil) rfl fun X36 _=>⟨fun h=>absurd h (by decide),?_⟩
    refine aN 13 16383 rfl rfl (zae rfl) rfl <| aN 14 32767 rfl rfl (zaa rfl ⟨_,_,_,Tryz.runUnderlying60,rfl,rfl,Tryz.sizeOf45,rfl⟩) rfl <| AJ_op 15 65535 rfl (by kernel_rfl) rfl (zak rfl) <| zbu rfl rfl foc2 rfl rfl Tryz.sizeOf45 <| ⟨fun h=>absurd h (by decide),?_⟩
    refine zcd (by kernel_rfl) <| zas (Ent.trans (t2_ (t2_ (t2_ (t2_ (t1_ (t1_ eR)))))) (zem (v0:=x17.Open_1) (v1:=x17.Open_2) (v2:=x17.Open_3) (v3:=x17.Open_4) (v4:=x17.X) (v5:=x17.T) (v6:=r34) (v7:=x17.Lost) (h0:=oc30.1) (h1:=oc30.2.1) (h2:=oc30.2.2.1) (h3:=X36) (h4:=oc30.2.2.2.2))) <| zam <| zax (Ent.transX (t0_ eR) (ze8 (l := { x17 with Stale := r34 }))) fun oc38=>lC del4 fun hlen40=>lC del5 fun hlen41=>zbc 256 (by kernel_rfl) rfl <| aN 0 1 rfl rfl (zaj rfl) rfl <| aN 1 3 rfl rfl (zae rfl) rfl <| aN 2 7 rfl rfl (zaa rfl ⟨_,_,_,Tryz.runUnderlying60,rfl,rfl,Tryz.sizeOf55,rfl⟩) rfl <| aV 3 15 rfl rfl (zak rfl) eR (zag rfl foc0 rfl Tryz.isAgg55) rfl <| aN 4 31 rfl rfl (zaj rfl) rfl <| aN 5 63 rfl rfl (zae rfl) rfl <| aN 6 127 rfl rfl (zaa rfl ⟨_,_,_,Tryz.runUnderlying60,rfl,rfl,Tryz.sizeOf45,rfl⟩) rfl <| aV 7 255 rfl rfl (zak rfl) eR (zag rfl foc0 rfl Tryz.isAgg45) rfl ?_
    obtain ⟨r42,hr43,h⟩ := zar h
    refine AJ_op 8 511 rfl (by kernel_rfl) rfl (zak rfl) <| ze3 rfl rfl (zi6 (Reads.sl _ _ _) hr43) Tryz.call46 (Dels.cons del4 (Dels.cons del1 (Dels.cons del6 Dels.nil))) rfl fun X44 _=>⟨fun h=>absurd h (by decide),?_⟩
    exact aN 9 1023 rfl rfl (zaj rfl) rfl <| aN 10 2047 rfl rfl (za4 rfl rfl) rfl <| aN 11 4095 rfl rfl (za4 rfl rfl) rfl <| aN 12 8191 rfl rfl (zb0 rfl) rfl <| aN 13 16383 rfl rfl (zb0 rfl) rfl <| zcd (by kernel_rfl) <| zas (Ent.trans (t4_ (t1_ (t3_ (t3_ (t0_ (t2_ eR)))))) (zem (v0:=x17.Open_1) (v1:=x17.Open_2) (v2:=x17.Open_3) (v3:=x17.Open_4) (v4:=x17.X) (v5:=x17.T) (v6:=r34) (v7:=x17.Lost) (h0:=oc38.1) (h1:=oc38.2.1) (h2:=oc38.2.2.1) (h3:=oc38.2.2.2.1) (h4:=oc38.2.2.2.2))) <| zao <| zam <| zaf <| oM rfl rfl <| oP (PJ_eq (P_add (a:=((x21:Nat):Int)) (b:=(1:Int)) rfl rfl (by omega)) rfl) rfl <| oA rfl rfl <| zap <| nR ⟨n, { x17 with Stale := r34 },r42.1,r42.2,(x21 + 1),X44⟩ h ⟨rfl,rfl,rfl,True.intro⟩ (t0_ (t1_ (t0_ (eD (eD eR)))))
   ·
    replace h := ite_f hg1 h
    exact zbj <| za3 <| za2 <| za0 <| cR ⟨(x18,x20,x17),pb19⟩ (Option.some.inj h).symm ⟨rfl,rfl,True.intro⟩ (t1_ eR)
 ·
  rintro ⟨a16,pb13⟩ hy46
  replace h := zd2 hK10 hy46
  show CJ _ _ _ _ _ (([(3,oifc 41 a16.1 pb13),(4,.int .i64 a16.2.1)]:Slots) ++ forget _ _) (optP (MirP bs pb13) a16.1::OwnP bs bo a16.2.2::_)
  refine zac <| zax (Ent.transX (t1_ eR) (ze8 (l:=a16.2.2))) fun oc47=>lC del4 fun hlen49=>lC del5 fun hlen50=>zaf <| oM rfl rfl <| oM rfl rfl <| oP (zae rfl) rfl <| oP (zaa rfl ⟨_,_,_,Tryz.runUnderlying60,rfl,rfl,Tryz.sizeOf57,rfl⟩) rfl <| oO <| zbu rfl rfl foc0 rfl zn8 Tryz.sizeOf57 <| zap <| zas (t0_ (t0_ (t1_ (t1_ (t1_ (t1_ (t1_ (eD eR)))))))) <| zam <| zac <| zax (Ent.transX (t2_ eR) zi9) fun tc51=>zgl fun hS52=>zbc 0 (by kernel_rfl) rfl <| aN 0 1 rfl rfl (zaj rfl) rfl <| aN 1 3 rfl rfl (P_eql (a:=a16.2.1) (b:=(0:Int)) rfl rfl) rfl <| aN 2 7 rfl rfl (zaj rfl) rfl <| ziv 64 rfl zab (fun hg2B hg2 => ?_) (fun hg2B hg2 => ?_)
  ·
   replace h := ite_t hg2 h
   refine aP 3 15 rfl rfl (zal rfl rfl rfl hg2B) (zaj rfl) rfl ?_
   rcases opt_e h with ⟨ht53,h⟩ | ⟨o54,ht53,h⟩
   ·
    rw [ht53]
    refine aP 4 31 rfl rfl (zal rfl rfl rfl hg2B) (zyb rfl Tryz.underlying57) rfl <| aN 5 63 rfl rfl (zbh rfl hg2B rfl) rfl <| aN 6 127 rfl rfl (zaj rfl) rfl <| ziv 68 rfl Iff.rfl (fun hg3B hg3 => ?_) (fun hg3B hg3 => ?_)
    ·
     replace h := ite_t hg3 h
     exact aP 7 255 rfl rfl (zal rfl rfl rfl hg3B) (zaj rfl) rfl <| aP 9 767 rfl rfl (zal rfl rfl rfl hg3B) (zaj rfl) rfl <| aP 10 1791 rfl rfl (zal rfl rfl rfl hg3B) (zae rfl) rfl <| aP 11 3839 rfl rfl (zal rfl rfl rfl hg3B) (zaa rfl ⟨_,_,_,Tryz.runUnderlying60,rfl,rfl,Tryz.sizeOf58,rfl⟩) rfl <| aV 12 7935 rfl rfl (zal rfl rfl rfl hg3B) eR (zag rfl foc3 rfl Tryz.isAgg58) rfl <| aP 13 16127 rfl rfl (zal rfl rfl rfl hg3B) (zae rfl) rfl <| aP 14 32511 rfl rfl (zal rfl rfl rfl hg3B) (zaa rfl ⟨_,_,_,Tryz.runUnderlying54,rfl,rfl,Tryz.sizeOf52,rfl⟩) rfl <| aV 15 65279 rfl rfl (zal rfl rfl rfl hg3B) eR (zag rfl foc0 rfl Tryz.isAgg52) rfl <| aV 16 130815 rfl rfl (zal rfl rfl rfl hg3B) eR (VJ_eq (V_len rfl foc1 (Reads.sl _ _ _) Tryz.runUnderlying52) (congrArg (fun z:Nat=>Value.int .i64 (z:Int)) hS52.len.symm)) rfl <| zbq h
    ·
     replace h := ite_f hg3 h
     refine aS 7 255 rfl rfl (GY_no rfl rfl rfl hg3B) rfl <| aS 9 767 rfl rfl (GY_no rfl rfl rfl hg3B) rfl <| aS 10 1791 rfl rfl (GY_no rfl rfl rfl hg3B) rfl <| aS 11 3839 rfl rfl (GY_no rfl rfl rfl hg3B) rfl <| aS 12 7935 rfl rfl (GY_no rfl rfl rfl hg3B) rfl <| aS 13 16127 rfl rfl (GY_no rfl rfl rfl hg3B) rfl <| aS 14 32511 rfl rfl (GY_no rfl rfl rfl hg3B) rfl <| aS 15 65279 rfl rfl (GY_no rfl rfl rfl hg3B) rfl <| aS 16 130815 rfl rfl (GY_no rfl rfl rfl hg3B) rfl <| aS 8 131071 rfl rfl (GY_no rfl rfl rfl hg3B) rfl <| aS 17 262143 rfl rfl (GY_no rfl rfl rfl hg3B) rfl <| aN 18 524287 rfl rfl (za8 rfl hg3B rfl) rfl <| aN 19 1048575 rfl rfl (zb0 rfl) rfl <| zcd (by kernel_rfl) <| zas (Ent.trans (t0_ (t0_ (t0_ eR))) (zec hS52)) <| zas (t0_ (t0_ (t0_ (t0_ (t0_ (t1_ (eD eR))))))) <| zam <| zah <| zas (Ent.trans (t1_ (t1_ (Ent.trans (fun h hh=>zb8 h hh) <| t0_ eR))) (zem (v0:=a16.2.2.Open_1) (v1:=a16.2.2.Open_2) (v2:=a16.2.2.Open_3) (v3:=a16.2.2.Open_4) (v4:=none) (v5:=a16.2.2.T) (v6:=a16.2.2.Stale) (v7:=a16.2.2.Lost) (h0:=oc47.1) (h1:=0) (h2:=oc47.2.2.1) (h3:=oc47.2.2.2.1) (h4:=oc47.2.2.2.2))) ?_
     cases h
     exact fE (res1 Tryz.results16 rfl) () eR
   ·
    rw [ht53]
    refine zey (Ent.takeC (A' := MirP bs pb13 o54) del7 rfl eR) <| aP 4 31 rfl rfl (zal rfl rfl rfl hg2B) (zv7 rfl rfl Tryz.underlying57) rfl <| aN 5 63 rfl rfl (zbh rfl hg2B rfl) rfl <| aN 6 127 rfl rfl (zaj rfl) rfl <| ziv 68 rfl Iff.rfl (fun hg4B hg4 => ?_) (fun hg4B hg4 => ?_)
    ·
     replace h := ite_t hg4 h
     refine aP 7 255 rfl rfl (zal rfl rfl rfl hg4B) (zaj rfl) rfl <| aP 9 767 rfl rfl (zal rfl rfl rfl hg4B) (zaj rfl) rfl <| aP 10 1791 rfl rfl (zal rfl rfl rfl hg4B) (zae rfl) rfl <| aP 11 3839 rfl rfl (zal rfl rfl rfl hg4B) (zaa rfl ⟨_,_,_,Tryz.runUnderlying60,rfl,rfl,Tryz.sizeOf58,rfl⟩) rfl <| aV 12 7935 rfl rfl (zal rfl rfl rfl hg4B) (t1_ (t1_ (t1_ (t1_ (t1_ (t1_ (t1_ eR))))))) (zag rfl foc3 rfl Tryz.isAgg58) rfl <| aP 13 16127 rfl rfl (zal rfl rfl rfl hg4B) (zae rfl) rfl <| aP 14 32511 rfl rfl (zal rfl rfl rfl hg4B) (zaa rfl ⟨_,_,_,Tryz.runUnderlying54,rfl,rfl,Tryz.sizeOf52,rfl⟩) rfl <| aV 15 65279 rfl rfl (zal rfl rfl rfl hg4B) (t1_ (t1_ (t1_ (t1_ (t1_ (t1_ (t1_ eR))))))) (zag rfl foc0 rfl Tryz.isAgg52) rfl <| aV 16 130815 rfl rfl (zal rfl rfl rfl hg4B) (t1_ (t1_ (t1_ (t1_ (t1_ (t1_ (t1_ eR))))))) (VJ_eq (V_len rfl foc1 (Reads.sl _ _ _) Tryz.runUnderlying52) (congrArg (fun z:Nat=>Value.int .i64 (z:Int)) hS52.len.symm)) rfl ?_
     obtain ⟨r55,hr56,h⟩ := zar h
     refine AJ_op 8 131071 rfl (by kernel_rfl) rfl (zal rfl rfl rfl hg4B) <| zc8 rfl (ICall.of (fun w=>by kernel_rfl) Tryz.call135 (zmj hr56)) rfl (Dels.cons del0 (Dels.cons del7 Dels.nil)) rfl fun _ _=>⟨fun _=>(t2_ (t2_ (t2_ (t2_ (t2_ (t2_ (t2_ eR))))))),?_⟩
     refine aP 17 262143 rfl rfl (zal rfl rfl rfl hg4B) (P_eql (a:=r55) (b:=((a16.2.2.T.length:Nat):Int)) rfl rfl) rfl <| aN 18 524287 rfl rfl (zbh rfl hg4B rfl) rfl <| aN 19 1048575 rfl rfl (zb0 rfl) rfl <| zcd (by kernel_rfl) <| zas (Ent.trans (t2_ (t2_ (t2_ eR))) (zec hS52)) <| zam <| zah <| zas (Ent.trans (t3_ (t3_ (t1_ (t0_ (t1_ (t1_ eR)))))) (zem (v0:=a16.2.2.Open_1) (v1:=a16.2.2.Open_2) (v2:=a16.2.2.Open_3) (v3:=a16.2.2.Open_4) (v4:=(some o54)) (v5:=a16.2.2.T) (v6:=a16.2.2.Stale) (v7:=a16.2.2.Lost) (h0:=oc47.1) (h1:=pb13) (h2:=oc47.2.2.1) (h3:=oc47.2.2.2.1) (h4:=oc47.2.2.2.2))) ?_
     cases h
     exact fE (res1 Tryz.results16 rfl) () eR
    ·
     replace h := ite_f hg4 h
     refine aS 7 255 rfl rfl (GY_no rfl rfl rfl hg4B) rfl <| aS 9 767 rfl rfl (GY_no rfl rfl rfl hg4B) rfl <| aS 10 1791 rfl rfl (GY_no rfl rfl rfl hg4B) rfl <| aS 11 3839 rfl rfl (GY_no rfl rfl rfl hg4B) rfl <| aS 12 7935 rfl rfl (GY_no rfl rfl rfl hg4B) rfl <| aS 13 16127 rfl rfl (GY_no rfl rfl rfl hg4B) rfl <| aS 14 32511 rfl rfl (GY_no rfl rfl rfl hg4B) rfl <| aS 15 65279 rfl rfl (GY_no rfl rfl rfl hg4B) rfl <| aS 16 130815 rfl rfl (GY_no rfl rfl rfl hg4B) rfl <| aS 8 131071 rfl rfl (GY_no rfl rfl rfl hg4B) rfl <| aS 17 262143 rfl rfl (GY_no rfl rfl rfl hg4B) rfl <| aN 18 524287 rfl rfl (za8 rfl hg4B rfl) rfl <| aN 19 1048575 rfl rfl (zb0 rfl) rfl <| zcd (by kernel_rfl) <| zas (Ent.trans (t1_ (t1_ (t1_ eR))) (zec hS52)) <| zam <| zah <| zas (Ent.trans (t2_ (t2_ (t1_ eR))) (zem (v0:=a16.2.2.Open_1) (v1:=a16.2.2.Open_2) (v2:=a16.2.2.Open_3) (v3:=a16.2.2.Open_4) (v4:=(some o54)) (v5:=a16.2.2.T) (v6:=a16.2.2.Stale) (v7:=a16.2.2.Lost) (h0:=oc47.1) (h1:=pb13) (h2:=oc47.2.2.1) (h3:=oc47.2.2.2.1) (h4:=oc47.2.2.2.2))) ?_
     cases h
     exact fE (res1 Tryz.results16 rfl) () eR
  ·
   replace h := ite_f hg2 h
   refine aS 3 15 rfl rfl (GY_no rfl rfl rfl hg2B) rfl <| aS 4 31 rfl rfl (GY_no rfl rfl rfl hg2B) rfl <| aN 5 63 rfl rfl (za8 rfl hg2B rfl) rfl <| aN 6 127 rfl rfl (zaj rfl) rfl <| ziv 68 rfl Iff.rfl (fun hg5B hg5 => ?_) (fun hg5B hg5 => ?_)
   ·
    replace h := ite_t hg5 h
    refine aP 7 255 rfl rfl (zal rfl rfl rfl hg5B) (zaj rfl) rfl <| aP 9 767 rfl rfl (zal rfl rfl rfl hg5B) (zaj rfl) rfl <| aP 10 1791 rfl rfl (zal rfl rfl rfl hg5B) (zae rfl) rfl <| aP 11 3839 rfl rfl (zal rfl rfl rfl hg5B) (zaa rfl ⟨_,_,_,Tryz.runUnderlying60,rfl,rfl,Tryz.sizeOf58,rfl⟩) rfl <| aV 12 7935 rfl rfl (zal rfl rfl rfl hg5B) eR (zag rfl foc3 rfl Tryz.isAgg58) rfl <| aP 13 16127 rfl rfl (zal rfl rfl rfl hg5B) (zae rfl) rfl <| aP 14 32511 rfl rfl (zal rfl rfl rfl hg5B) (zaa rfl ⟨_,_,_,Tryz.runUnderlying54,rfl,rfl,Tryz.sizeOf52,rfl⟩) rfl <| aV 15 65279 rfl rfl (zal rfl rfl rfl hg5B) eR (zag rfl foc0 rfl Tryz.isAgg52) rfl <| aV 16 130815 rfl rfl (zal rfl rfl rfl hg5B) eR (VJ_eq (V_len rfl foc1 (Reads.sl _ _ _) Tryz.runUnderlying52) (congrArg (fun z:Nat=>Value.int .i64 (z:Int)) hS52.len.symm)) rfl ?_
    rcases opt_e h with ⟨ht57,h⟩ | ⟨o58,ht57,h⟩
    ·
     rw [ht57]
     exact zbq h
    ·
     rw [ht57]
     refine zey (Ent.takeC (A' := MirP bs pb13 o58) del7 rfl eR) ?_
     obtain ⟨r59,hr60,h⟩ := zar h
     refine AJ_op 8 131071 rfl (by kernel_rfl) rfl (zal rfl rfl rfl hg5B) <| zc8 rfl (ICall.of (fun w=>by kernel_rfl) Tryz.call135 (zmj hr60)) rfl (Dels.cons del0 (Dels.cons del7 Dels.nil)) rfl fun _ _=>⟨fun _=>(t2_ (t2_ (t2_ (t2_ (t2_ (t2_ (t2_ eR))))))),?_⟩
     refine aP 17 262143 rfl rfl (zal rfl rfl rfl hg5B) (P_eql (a:=r59) (b:=((a16.2.2.T.length:Nat):Int)) rfl rfl) rfl <| aN 18 524287 rfl rfl (zbh rfl hg5B rfl) rfl <| aN 19 1048575 rfl rfl (zb0 rfl) rfl <| zcd (by kernel_rfl) <| zas (Ent.trans (t2_ (t2_ (t2_ eR))) (zec hS52)) <| zam <| zah <| zas (Ent.trans (t3_ (t3_ (t1_ (t0_ (t1_ (t1_ eR)))))) (zem (v0:=a16.2.2.Open_1) (v1:=a16.2.2.Open_2) (v2:=a16.2.2.Open_3) (v3:=a16.2.2.Open_4) (v4:=(some o58)) (v5:=a16.2.2.T) (v6:=a16.2.2.Stale) (v7:=a16.2.2.Lost) (h0:=oc47.1) (h1:=pb13) (h2:=oc47.2.2.1) (h3:=oc47.2.2.2.1) (h4:=oc47.2.2.2.2))) ?_
     cases h
     exact fE (res1 Tryz.results16 rfl) () eR
   ·
    replace h := ite_f hg5 h
    refine aS 7 255 rfl rfl (GY_no rfl rfl rfl hg5B) rfl <| aS 9 767 rfl rfl (GY_no rfl rfl rfl hg5B) rfl <| aS 10 1791 rfl rfl (GY_no rfl rfl rfl hg5B) rfl <| aS 11 3839 rfl rfl (GY_no rfl rfl rfl hg5B) rfl <| aS 12 7935 rfl rfl (GY_no rfl rfl rfl hg5B) rfl <| aS 13 16127 rfl rfl (GY_no rfl rfl rfl hg5B) rfl <| aS 14 32511 rfl rfl (GY_no rfl rfl rfl hg5B) rfl <| aS 15 65279 rfl rfl (GY_no rfl rfl rfl hg5B) rfl <| aS 16 130815 rfl rfl (GY_no rfl rfl rfl hg5B) rfl <| aS 8 131071 rfl rfl (GY_no rfl rfl rfl hg5B) rfl <| aS 17 262143 rfl rfl (GY_no rfl rfl rfl hg5B) rfl <| aN 18 524287 rfl rfl (za8 rfl hg5B rfl) rfl <| aN 19 1048575 rfl rfl (zb0 rfl) rfl <| zcd (by kernel_rfl) <| zas (Ent.trans (t0_ (t0_ (t0_ eR))) (zec hS52)) <| zam <| zah <| zas (Ent.trans (t1_ (t1_ (t3_ eR))) (zem (v0:=a16.2.2.Open_1) (v1:=a16.2.2.Open_2) (v2:=a16.2.2.Open_3) (v3:=a16.2.2.Open_4) (v4:=a16.1) (v5:=a16.2.2.T) (v6:=a16.2.2.Stale) (v7:=a16.2.2.Lost) (h0:=oc47.1) (h1:=pb13) (h2:=oc47.2.2.1) (h3:=oc47.2.2.2.1) (h4:=oc47.2.2.2.2))) ?_
    cases h
    exact fE (res1 Tryz.results16 rfl) () eR
def zc0 (o:OwnS) (keep:UInt64) (s:ArrS):Option (Bool × OwnS × ArrS) :=
  Option.bind (zh4 keep) fun r9 =>
  grd (inLen s.writes) <|
  Option.bind (zdg ({ o with T := (zji o.T) }) (rsS s r9)) fun r13 =>
  some ((r13.1,r13.2,(rsS s r9)))
theorem zgv {W:World} {bo:Nat} {bs:Nat} {o:OwnS} {keep:UInt64} {s:ArrS} {r:Bool × OwnS × ArrS} (h:zc0 o keep s=some r) :
    CSpec Tryz.prog W 33 [ptr bo 0,.int .u64 (keep.toNat:Int)] [OwnP bs bo o,Arr bs s] (fun x:Unit => .bool r.1) (fun _=>True) (fun x F=>OwnP bs bo r.2.1::Arr bs r.2.2::F) := by
 refine CSpec.of_body Tryz.func33 rfl Tryz.ntmps33 rfl fun F => ?_
 show CJ _ _ _ _ _ _ (_::_::F)
 unfold zc0 at h
 refine sR <| oA rfl rfl <| nT <| zac <| zax (Ent.transX (t0_ eR) (ze8 (l:=o))) fun oc1=>lC del4 fun hlen3=>lC del5 fun hlen4=>zaf <| oM rfl rfl <| oP (zae rfl) rfl <| oP (zaa rfl ⟨_,_,_,Tryz.runUnderlying60,rfl,rfl,Tryz.sizeOf58,rfl⟩) rfl <| oV (zag rfl foc0 rfl Tryz.isAgg58) rfl <| oO <| zat (z19) rfl Tryz.call67 (Dels.cons del3 Dels.nil) rfl fun _ _=>zap <| zas (Ent.trans (t1_ (t1_ (t1_ eR))) (zem (v0:=o.Open_1) (v1:=o.Open_2) (v2:=o.Open_3) (v3:=o.Open_4) (v4:=o.X) (v5:=(zji o.T)) (v6:=o.Stale) (v7:=o.Lost) (h0:=oc1.1) (h1:=oc1.2.1) (h2:=oc1.2.2.1) (h3:=oc1.2.2.2.1) (h4:=oc1.2.2.2.2))) <| zam <| zac <| zax (Ent.transX (t0_ eR) (ze8 (l := { o with T := (zji o.T) }))) fun oc5=>lC del4 fun hlen7=>lC del5 fun hlen8=>zbc 64 (by kernel_rfl) rfl <| aN 0 1 rfl rfl (zaj rfl) rfl <| aN 1 3 rfl rfl (zae rfl) rfl <| aN 2 7 rfl rfl (zaa rfl ⟨_,_,_,Tryz.runUnderlying60,rfl,rfl,Tryz.sizeOf26,rfl⟩) rfl <| aV 3 15 rfl rfl (zak rfl) eR (zag rfl foc0 rfl Tryz.isAgg26) rfl <| aN 4 31 rfl rfl (zaj rfl) rfl ?_
 obtain ⟨r9,hr10,h⟩ := zar h
 refine AJ_op 5 63 rfl (by kernel_rfl) rfl (zak rfl) <| zat (zo5 hr10) rfl Tryz.call20 Dels.nil rfl fun X11 _=>⟨fun _=>(t1_ (t1_ (t1_ (t1_ (t1_ (t1_ (t1_ (eD eR)))))))),?_⟩
 obtain ⟨hg1,h⟩ := zfo h
 refine AJ_op 6 127 rfl (by kernel_rfl) rfl (zak rfl) <| zat (z0i (Reads.sl _ _ _) hg1) rfl Tryz.call19 (Dels.cons del7 (Dels.cons del0 Dels.nil)) rfl fun _ _=>⟨fun h=>absurd h (by decide),?_⟩
 refine zcd (by kernel_rfl) <| zas (Ent.trans (t2_ (t2_ (t2_ (t2_ (t2_ (t2_ eR)))))) (zem (v0:=o.Open_1) (v1:=o.Open_2) (v2:=o.Open_3) (v3:=o.Open_4) (v4:=o.X) (v5:=(zji o.T)) (v6:=o.Stale) (v7:=o.Lost) (h0:=oc5.1) (h1:=oc5.2.1) (h2:=oc5.2.2.1) (h3:=oc5.2.2.2.1) (h4:=oc5.2.2.2.2))) <| zam <| sR <| oM rfl rfl ?_
 obtain ⟨r13,hr14,h⟩ := zar h
 refine oO <| zat (zjx hr14) rfl Tryz.call16 (Dels.cons del0 (Dels.cons del0 Dels.nil)) rfl fun _ _=>oA rfl rfl <| nT <| zah ?_
 cases h
 exact fE (res1 Tryz.results33 rfl) () (t0_ (t0_ (eD eR)))
def zcc (at_1:Int) (rec:OwnS→ArrS→Nat→UInt64→Int→Option ((UInt64 × Int × OwnS × ArrS) ⊕ (Int × Bool × OwnS × ArrS))) (x17:OwnS) (x18:ArrS) (x19:Nat) (x20:UInt64) (x21:Int):Option ((UInt64 × Int × OwnS × ArrS) ⊕ (Int × Bool × OwnS × ArrS)) :=
  if ((((x19:Nat):Int) < (8:Int))∧(x21=(18:Int))) then
    Option.bind (zc7 x17 x18) fun r26 =>
    if (¬ r26.1=true) then
      some (.inr (x21,false,r26.2,x18))
    else
      Option.elim r26.2.X (
        none) fun o33 =>
      Option.bind (zb4 o33 at_1 x18) fun r34 =>
      rec ({ r26.2 with X := (some r34.2.2.1) }) r34.2.2.2 (x19 + 1) r34.1 r34.2.1
  else
    some (.inl (x20,x21,x17,x18))
def zbs (at_1:Int):Nat→OwnS→ArrS→Nat→UInt64→Int→Option ((UInt64 × Int × OwnS × ArrS) ⊕ (Int × Bool × OwnS × ArrS))
  | 0,_,_,_,_,_=>none
  | n + 1,x17,x18,x19,x20,x21=>zcc at_1 (zbs at_1 n) x17 x18 x19 x20 x21
def zb9 (o:OwnS) (at_1:Int) (settled:Bool) (s:ArrS):Option (Int × Bool × OwnS × ArrS) :=
  Option.elim o.X (
    none) fun o6 =>
  Option.bind (zb4 o6 at_1 s) fun r7 =>
  seqO (zbs at_1 FUEL ({ o with X := (some r7.2.2.1) }) r7.2.2.2 0 r7.1 r7.2.1) fun a16 =>
  if (a16.2.1=(5:Int)) then
    some (a16.2.1,true,a16.2.2.1,a16.2.2.2)
  else
    if (a16.2.1=(0:Int)) then
      grd (decide (zj8 a16.2.2.1.T=true)) <|
      some ((a16.2.1,(rdTR a16.2.2.1.T at_1 a16.1), { a16.2.2.1 with T := (rdTS a16.2.2.1.T at_1 a16.1 settled) },a16.2.2.2))
    else
      some (a16.2.1,false,a16.2.2.1,a16.2.2.2)
theorem zif {W:World} {bo:Nat} {vlo:Nat} {bs:Nat} {o:OwnS} {at_1:Int} {settled:Bool} {s:ArrS} {r:Int × Bool × OwnS × ArrS} (h:zb9 o at_1 settled s=some r) :
    CSpec Tryz.prog W 50 [ptr bo 0,.int .i64 at_1,.bool settled] [OwnQ bs vlo bo o,Arr bs s] (fun x:Unit => .tuple #[.int .i64 r.1,.bool r.2.1]) (fun _=>True) (fun x F=>OwnQ bs vlo bo r.2.2.1::Arr bs r.2.2.2::F) := by
 refine CSpec.of_body Tryz.func50 rfl Tryz.ntmps50 rfl fun F => ?_
 show CJ _ _ _ _ _ _ (_::_::F)
 unfold zb9 at h
 refine sR <| oA rfl rfl <| oA rfl rfl <| nT <| zac <| zax (Ent.transX (t0_ eR) (ze9 (l:=o))) fun oc1=>lC del4 fun hlen3=>lC del5 fun hlen4=>zaf <| oM rfl rfl <| oP (zae rfl) rfl <| oP (zaa rfl ⟨_,_,_,Tryz.runUnderlying60,rfl,rfl,Tryz.sizeOf57,rfl⟩) rfl <| oV (zag rfl foc0 rfl Tryz.isAgg57) rfl <| oM rfl rfl ?_
 rcases opt_e h with ⟨ht5,h⟩ | ⟨o6,ht5,h⟩
 ·
  rw [ht5]
  exact zbb (t0_ (t0_ (t1_ (t1_ (t1_ (t1_ (eD eR))))))) <| zbq h
 ·
  rw [ht5]
  refine zbb (Ent.takeC (A' := MirP bs vlo o6) del2 rfl eR) ?_
  obtain ⟨r7,hr8,h⟩ := zar h
  refine oO <| zc8 rfl (ICall.of (fun w=>by kernel_rfl) Tryz.call41 (zkm hr8)) rfl (Dels.cons del0 (Dels.cons del5 Dels.nil)) rfl fun _ _=>oM rfl rfl <| oP (za4 rfl rfl) rfl <| oP (za4 rfl rfl) rfl <| oA rfl rfl <| oA rfl rfl <| zap <| zas (Ent.trans (t2_ (t2_ (t0_ (t1_ (t1_ (t1_ eR)))))) (zf1 (v0:=o.Open_1) (v1:=o.Open_2) (v2:=o.Open_3) (v3:=o.Open_4) (v4:=(some r7.2.2.1)) (v5:=o.T) (v6:=o.Stale) (v7:=o.Lost) (h0:=oc1.1) (h1:=oc1.2.1) (h2:=oc1.2.2.1) (h3:=oc1.2.2.2))) <| zam <| zac <| sR <| oA rfl rfl <| nT ?_
  obtain ⟨y11,hl9,hK10⟩ := seq_e h
  refine zbv (X:=UInt64 × Int × OwnS × ArrS) [6,7,8,9,10,20,21,22,23,24,25,26,27,28,29,30,31,32,33,34,35,36,37,38,39,40] (fun a16=>([(8,.int .u64 (a16.1.toNat:Int)),(9,.int .i64 a16.2.1)]:Slots)) (fun a16 R=>OwnQ bs vlo bo a16.2.2.1::Arr bs a16.2.2.2::R) (fun a16=>y11 = .inl a16) (Dels.cons del0 (Dels.cons del0 Dels.nil)) ?_ ?_
  ·
   refine zaw <| zbd (X:=Nat × OwnS × ArrS × Nat × UInt64 × Int) [6,7,8,9,10,20,21,22,23,24,25,26,27,28,29,30,31,32,33,34,35,36,37,38,39,40] (fun ⟨n,x17,x18,x19,x20,x21⟩=>([(8,.int .u64 (x20.toNat:Int)),(9,.int .i64 x21),(10,.int .i64 (((x19:Nat):Int)))]:Slots)) (fun ⟨n,x17,x18,x19,x20,x21⟩ R=>OwnQ bs vlo bo x17::Arr bs x18::R) (fun ⟨n,x17,x18,x19,x20,x21⟩=>zbs at_1 n x17 x18 x19 x20 x21=some y11) (fun ⟨n,x17,x18,x19,x20,x21⟩=>n) ⟨FUEL, { o with X := (some r7.2.2.1) },r7.2.2.2,0,r7.1,r7.2.1⟩ ?_ ?_ eR ?_
   · exact hl9
   · exact ⟨rfl,rfl,rfl,True.intro⟩
   ·
    rintro ⟨n,x17,x18,x19,x20,x21⟩ h
    cases n with
    | zero=>exact zbq h
    | succ n => ?_
    replace h:zcc at_1 (zbs at_1 n) x17 x18 x19 x20 x21=some y11 := h
    unfold zcc at h
    show CJ _ _ _ _ _ (([(8,.int .u64 (x20.toNat:Int)),(9,.int .i64 x21),(10,.int .i64 (((x19:Nat):Int)))]:Slots) ++ forget _ _) (OwnQ bs vlo bo x17::Arr bs x18::_)
    refine zac <| sR <| oM rfl rfl <| oP (P_lss (a:=((x19:Nat):Int)) (b:=(8:Int)) rfl rfl) rfl <| oM rfl rfl <| zbk rfl rfl rfl (fun hG22=>have hP23:(((x19:Nat):Int) < (8:Int)) := (zab).1 hG22; VJ_P (zaj rfl)) <| zbk rfl rfl rfl (fun hG24=>have hP25:(((x19:Nat):Int) < (8:Int)) := (zab).1 hG24; VJ_P (P_eql (a:=x21) (b:=(18:Int)) (mbx hG24 rfl) rfl)) <| oP (zd1 rfl (fun hh=>mbx hh rfl) rfl) rfl <| nT <| zan rfl (zc3 zab zab) (fun hg1 => ?_) (fun hg1 => ?_)
    ·
     replace h := ite_t hg1 h
     refine kT <| zac <| zaw <| zac <| sR <| oM rfl rfl ?_
     obtain ⟨r26,hr27,h⟩ := zar h
     refine oO <| zat (zie hr27) rfl Tryz.call53 (Dels.cons del0 (Dels.cons del0 Dels.nil)) rfl fun _ _=>oP (P_not rfl) rfl <| nT <| zan rfl (zdk Iff.rfl) (fun hg2 => ?_) (fun hg2 => ?_)
     ·
      replace h := ite_t hg2 h
      refine sR <| oM rfl rfl <| oA rfl rfl <| oA rfl rfl <| nT <| zah <| zad <| zau <| zad <| za9 <| zau <| zad ?_
      have hE := Option.some.inj h
      replace hE := zce hK10 hE.symm
      subst hE
      exact fE (res2 Tryz.results50 rfl rfl) () eR
     ·
      replace h := ite_f hg2 h
      refine kT <| zax (Ent.transX (t0_ eR) (ze9 (l:=r26.2))) fun oc28=>lC del4 fun hlen30=>lC del5 fun hlen31=>zaf <| oM rfl rfl <| oP (zae rfl) rfl <| oP (zaa rfl ⟨_,_,_,Tryz.runUnderlying60,rfl,rfl,Tryz.sizeOf57,rfl⟩) rfl <| oV (zag rfl foc0 rfl Tryz.isAgg57) rfl <| oM rfl rfl ?_
      rcases opt_e h with ⟨ht32,h⟩ | ⟨o33,ht32,h⟩
      ·
       rw [ht32]
       exact zbb (t0_ (t0_ (t1_ (t1_ (t1_ (t1_ (eD eR))))))) <| zbq h
      ·
       rw [ht32]
       refine zbb (Ent.takeC (A' := MirP bs vlo o33) del2 rfl eR) ?_
       obtain ⟨r34,hr35,h⟩ := zar h
       exact oO <| zc8 rfl (ICall.of (fun w=>by kernel_rfl) Tryz.call41 (zkm hr35)) rfl (Dels.cons del0 (Dels.cons del5 Dels.nil)) rfl fun _ _=>oM rfl rfl <| oP (za4 rfl rfl) rfl <| oP (za4 rfl rfl) rfl <| oA rfl rfl <| oA rfl rfl <| zap <| zas (Ent.trans (t2_ (t2_ (t0_ (t1_ (t1_ (t1_ eR)))))) (zf1 (v0:=r26.2.Open_1) (v1:=r26.2.Open_2) (v2:=r26.2.Open_3) (v3:=r26.2.Open_4) (v4:=(some r34.2.2.1)) (v5:=r26.2.T) (v6:=r26.2.Stale) (v7:=r26.2.Lost) (h0:=oc28.1) (h1:=oc28.2.1) (h2:=oc28.2.2.1) (h3:=oc28.2.2.2))) <| zao <| zam <| zaf <| oM rfl rfl <| oP (PJ_eq (P_add (a:=((x19:Nat):Int)) (b:=(1:Int)) rfl rfl (by omega)) rfl) rfl <| oA rfl rfl <| zap <| nR ⟨n, { r26.2 with X := (some r34.2.2.1) },r34.2.2.2,(x19 + 1),r34.1,r34.2.1⟩ h ⟨rfl,rfl,rfl,True.intro⟩ eR
    ·
     replace h := ite_f hg1 h
     exact zbj <| za3 <| za2 <| za0 <| cR (x20,x21,x17,x18) (Option.some.inj h).symm ⟨rfl,rfl,True.intro⟩ eR
  ·
   rintro a16 hy36
   replace h := zd0 hK10 hy36
   show CJ _ _ _ _ _ (([(8,.int .u64 (a16.1.toNat:Int)),(9,.int .i64 a16.2.1)]:Slots) ++ forget _ _) (OwnQ bs vlo bo a16.2.2.1::Arr bs a16.2.2.2::_)
   refine zac <| sR <| oM rfl rfl <| oP (P_eql (a:=a16.2.1) (b:=(5:Int)) rfl rfl) rfl <| nT <| zan rfl zab (fun hg3 => ?_) (fun hg3 => ?_)
   ·
    replace h := ite_t hg3 h
    refine sR <| oM rfl rfl <| oA rfl rfl <| oA rfl rfl <| nT <| zah <| zad ?_
    cases h
    exact fE (res2 Tryz.results50 rfl rfl) () eR
   ·
    replace h := ite_f hg3 h
    refine kT <| zac <| zax (Ent.transX (t0_ eR) (ze9 (l:=a16.2.2.1))) fun oc37=>lC del4 fun hlen39=>lC del5 fun hlen40=>zaf <| oM rfl rfl <| oM rfl rfl <| oP (P_eql (a:=a16.2.1) (b:=(0:Int)) rfl rfl) rfl <| oM rfl rfl <| zb7 47 rfl zab (fun hg4B hg4 => ?_) (fun hg4B hg4 => ?_)
    ·
     replace h := ite_t hg4 h
     refine gP (zal rfl rfl rfl hg4B) (zaj rfl) rfl <| gP (zal rfl rfl rfl hg4B) (zae rfl) rfl <| gP (zal rfl rfl rfl hg4B) (zaa rfl ⟨_,_,_,Tryz.runUnderlying60,rfl,rfl,Tryz.sizeOf58,rfl⟩) rfl <| gV (zal rfl rfl rfl hg4B) (zag rfl foc0 rfl Tryz.isAgg58) rfl <| gP (zal rfl rfl rfl hg4B) (zaj rfl) rfl <| gP (zal rfl rfl rfl hg4B) (zaj rfl) rfl <| gP (zal rfl rfl rfl hg4B) (zaj rfl) rfl ?_
     obtain ⟨hg5,h⟩ := zbt h
     refine RJ_gy (zal rfl rfl rfl hg4B) <| zat (z3i (zq0 hg5) (v:=a16.1)) rfl Tryz.call91 (Dels.cons del3 Dels.nil) rfl fun _ _=>oP (zbh rfl hg4B rfl) rfl <| oA rfl rfl <| oA rfl rfl <| zap <| zas (Ent.trans (t1_ (t1_ (t1_ eR))) (zf1 (v0:=a16.2.2.1.Open_1) (v1:=a16.2.2.1.Open_2) (v2:=a16.2.2.1.Open_3) (v3:=a16.2.2.1.Open_4) (v4:=a16.2.2.1.X) (v5:=(rdTS a16.2.2.1.T at_1 a16.1 settled)) (v6:=a16.2.2.1.Stale) (v7:=a16.2.2.1.Lost) (h0:=oc37.1) (h1:=oc37.2.1) (h2:=oc37.2.2.1) (h3:=oc37.2.2.2))) <| zam <| zah ?_
     cases h
     exact fE (res2 Tryz.results50 rfl rfl) () eR
    ·
     replace h := ite_f hg4 h
     refine RJ_gn (GY_no rfl rfl rfl hg4B) rfl rfl <| RJ_gn (GY_no rfl rfl rfl hg4B) rfl rfl <| RJ_gn (GY_no rfl rfl rfl hg4B) rfl rfl <| RJ_gn (GY_no rfl rfl rfl hg4B) rfl rfl <| RJ_gn (GY_no rfl rfl rfl hg4B) rfl rfl <| RJ_gn (GY_no rfl rfl rfl hg4B) rfl rfl <| RJ_gn (GY_no rfl rfl rfl hg4B) rfl rfl <| RJ_gn (GY_no rfl rfl rfl hg4B) rfl rfl <| oP (za8 rfl hg4B rfl) rfl <| oA rfl rfl <| oA rfl rfl <| zap <| zas (Ent.trans eR (zf1 (v0:=a16.2.2.1.Open_1) (v1:=a16.2.2.1.Open_2) (v2:=a16.2.2.1.Open_3) (v3:=a16.2.2.1.Open_4) (v4:=a16.2.2.1.X) (v5:=a16.2.2.1.T) (v6:=a16.2.2.1.Stale) (v7:=a16.2.2.1.Lost) (h0:=oc37.1) (h1:=oc37.2.1) (h2:=oc37.2.2.1) (h3:=oc37.2.2.2))) <| zam <| zah ?_
     cases h
     exact fE (res2 Tryz.results50 rfl rfl) () eR
end Go.Proofs
