/- MapperCalls, part 7 of the proof: CRf6, CRf7, CRf8, CRf9, CRf10. -/
import Derived.WalkKit
import Derived.Orders
import Derived.RangeFuncLeaves
import Derived.RangeFuncCalls
import Derived.TacticsIn
import Derived.Handy
import Derived.OrdersHeld
import Derived.OrdersIn
import Derived.Below
import Derived.OpenShut
import Derived.Deep.Slices
import Derived.Scope
import Derived.RangeFuncRecord
import Derived.ChangeKeysEq
import Derived.Laws.BytesArg
import Derived.KernelRfl
import Derived.Maps.RangeRun
import Derived.LaidEql
import Derived.ProofKit
import Derived.ShutString
import Derived.ChangeOld
import Derived.Test.YtbmipeiphoghcaaGreatChecked
import Derived.Test.YtbmipeiphoghcaaGreatRows
import Derived.Test.YtbmipeiphoghcaaGreatZMapperCalls6
set_option linter.unusedSimpArgs false
set_option maxRecDepth 20000
namespace Go.Proofs
open Go.VG
theorem zps {α:Type} {t:Ty α} {x d:α} : ∀ {xs:List α} {k:Nat},k < xs.length→t.enc x=t.enc (xs.getD k d)→flat t (xs.set k x)=flat t xs
  | a::xs,0,_,h=>by
    show t.enc x ++ flat t xs=t.enc a ++ flat t xs
    rw [h]; rfl
  | a::xs,k + 1,hk,h=>by
    show t.enc a ++ flat t (xs.set k x)=t.enc a ++ flat t xs
    rw [zps (by simpa using hk) (by simpa using h)]
theorem zzd {α:Type} {t:Ty α} {v:Value} {xs:List α} {x d:α} {k:Nat} (hk:k < xs.length) (h:t.enc x=t.enc (xs.getD k d)):sl t v xs=sl t v (xs.set k x) := by
  unfold sl; rw [zps hk h,List.length_set]
theorem zv2 {W:World} {b:Nat} {c:RH} {m:Md} {rk:Nat→Nat} (hrk:m.Rank rk):∀ (r:Nat) (k:Int) (t:api_Task),m.okK rk r k→CSpec Tryz.prog W 40 [ptr b 0,.int .i64 k,.agg #[.int .i64 t.Kind,.int .i64 t.At,.int .u64 (t.Value.toNat:Int)]] [blk b 72 (zbi c m),RefR c m] (fun _:Unit => .int .i64 (m.wayI r k t)) (fun _=>True) (fun _ F=>blk b 72 (zbi c m)::RefR c m::F)
  | 0,_,_,hn=>zms hrk (fun r2 h=>by omega) hn
  | r + 1,_,_,hn=>zms hrk (fun r2 h=>by obtain rfl:r2=r := (by omega); exact zv2 hrk r2) hn
theorem zik {W:World} {b:Nat} {c:RH} {m:Md} {k:Int} {t:api_Task} (hO:MdOk m) (hk:∀ q:Nat,k=(q:Int)→q < m.dv.length∧(m.at q).gone=false):CSpec Tryz.prog W 40 [ptr b 0,.int .i64 k,.agg #[.int .i64 t.Kind,.int .i64 t.At,.int .u64 (t.Value.toNat:Int)]] [blk b 72 (zbi c m),RefR c m] (fun _:Unit => .int .i64 (m.wayI (m.dv.length + 1) k t)) (fun _=>True) (fun _ F=>blk b 72 (zbi c m)::RefR c m::F) := by
  obtain ⟨rk,hrk,hrb⟩ := Md.rank_bd hO.acy
  exact zv2 hrk _ _ _ fun q hq=>⟨(hk q hq).1,(hk q hq).2,by have := hrb q; omega⟩
namespace Md
def carryI (m:Md) (r:Nat) (k:Int) (t:api_Task):(UInt64 × Int) × Md := if k < 0 then ((0,1),m) else m.carry r k.toNat t
section
variable {m:Md} {n:ByteArray} {t:api_Task} {r k:Nat}
theorem carryI_nat:m.carryI r (k:Int) t=m.carry r k t := by unfold carryI; rw [if_neg (by omega)]; rfl
theorem carryI_neg {j:Int} (h:j < 0):m.carryI r j t=((0,1),m) := if_pos h
theorem carryI_find:m.carryI r (m.findI n) t=m.carryN r n t := by
  unfold carryI carryN findI
  cases h:m.find n with
  | none=>rfl
  | some k=>rw [if_neg (by simp)]; rfl
theorem carry_fl (h3:t.Kind=3):m.carry r k t=((0,0),m) := by cases r with
  | zero=>rfl
  | succ r=>unfold carry; rw [if_pos h3]
theorem carry_range (h3:t.Kind≠3) (h:t.At < 0∨m.size k≤t.At):m.carry (r + 1) k t=((0,1),m) := by unfold carry; rw [if_neg h3,if_pos h]
theorem sizeI_nat:m.sizeI (k:Int)=m.size k := by unfold sizeI; rw [if_neg (by omega)]; rfl
theorem size_base (hb:(m.at k).isB=true):m.size k=((m.at k).base.length:Int) := if_pos hb
theorem size_tab (hb:(m.at k).isB=false) (hc:Go.Proofs.chk (m.at k).live=0):m.size k=tsum (m.at k).live := by unfold Md.size tsize; rw [if_neg (by simp [hb]),if_pos hc]
theorem ok_base (hO:MdOk m) (hB:MdBig m) (hk:k < m.dv.length) (hb:(m.at k).isB=true) (hw:m.wr < 100000000) {l:List UInt64} (hl:l.length=(m.at k).base.length):MdOk { m.set k { m.at k with base := l } with wr := m.wr + 1 } ∧ MdBig { m.set k { m.at k with base := l } with wr := m.wr + 1 } := by
  have hlike:Md.Like m { m.set k { m.at k with base := l } with wr := m.wr + 1 } := ⟨by show (m.dv.set k _).length=_; simp,fun i=>(Md.Like.set (m:=m) (k:=k) (d' := { m.at k with base := l }) ⟨rfl,rfl,rfl,rfl,rfl,rfl,rfl,rfl⟩).at_ i⟩
  have hat:∀ i,({ m.set k { m.at k with base := l } with wr := m.wr + 1 } : Md).at i=if i=k then { m.at k with base := l } else m.at i := fun i=>Md.at_set (m:=m) hk
  refine ⟨hlike.ok hO (fun i hi => ?_) (fun i hi w hw' => ?_),hB.wr1 hw⟩
  · rw [hat]
    obtain ⟨_,_,g3,_,_,_,g4⟩ := hO.bas i hi
    split
    · rename_i e; subst e; exact ⟨g3,by show l.length≤_; rw [hl]; exact g4⟩
    · exact ⟨g3,g4⟩
  · rw [hat] at hw'
    refine hO.org i hi w ?_
    split at hw'
    · rename_i e; subst e; exact hw'
    · exact hw'
end
end Md
theorem zxx {l:List api_Target} (h:chk l=0) {a:Int} (ha:0≤a) (hs:a < tsum l):∃ (i:Nat) (o:Int),tfind l a=some (i,o)∧i < l.length∧0≤o∧o≤1073741824 := by
  rcases zig h ha with ⟨h1,_⟩ | ⟨r,h1,_,_,_,h5⟩
  · omega
  · have h6 := Md.tfind_ok (l:=l) (a:=a) (by rw [h5]; rfl) h
    exact h6
theorem zkk {W:World} {b:Nat} {c:RH} {m:Md} {rk:Nat→Nat} {r:Nat} {k:Int} {t:api_Task} (hrk:m.Rank rk) (hw:m.wr < 100000000) (ih:∀ r2,r2 + 1=r → ∀ (k:Int) (t:api_Task),m.okK rk r2 k→t.Kind≠3∨0≤k→CSpec Tryz.prog W 41 [ptr b 0,.int .i64 k,.agg #[.int .i64 t.Kind,.int .i64 t.At,.int .u64 (t.Value.toNat:Int)]] [blk b 72 (zbi c m),RefR c m] (fun _:RH => .tuple #[.int .u64 ((m.carryI r2 k t).1.1.toNat:Int),.int .i64 (m.carryI r2 k t).1.2]) (fun c2=>zbi c2 (m.carryI r2 k t).2=zbi c m) (fun c2 F=>blk b 72 (zbi c m)::RefR c2 (m.carryI r2 k t).2::F)) (hk:m.okK rk r k) (hkk:t.Kind≠3∨0≤k) :
    CSpec Tryz.prog W 41 [ptr b 0,.int .i64 k,.agg #[.int .i64 t.Kind,.int .i64 t.At,.int .u64 (t.Value.toNat:Int)]] [blk b 72 (zbi c m),RefR c m] ((fun _:RH => .tuple #[.int .u64 ((m.carryI r k t).1.1.toNat:Int),.int .i64 (m.carryI r k t).1.2])) ((fun c2=>zbi c2 (m.carryI r k t).2=zbi c m)) (fun c2 F=>blk b 72 (zbi c m)::RefR c2 (m.carryI r k t).2::F) := by
 refine CSpec.of_body Tryz.func41 rfl Tryz.ntmps41 rfl fun F => ?_
 show CJ _ _ _ _ _ _ (_::_::F)
 refine zba (zci foc1) fun hW => ?_
 have hO := hW.ok
 have hln := hW.big.len
 have hll := hW.len
 have hat := hW.at
 have hkl := Md.okK_lt hk
 refine sR <| oO <| O_box rfl rfl rfl fun b1=>oA rfl rfl <| oA rfl rfl <| nT <| zad <| sR <| oP (zaa rfl ⟨_,_,_,Tryz.runUnderlying33,rfl,rfl,Tryz.sizeOf3,rfl⟩) rfl <| oV (zag rfl foc0 rfl Tryz.isAgg3) rfl <| oP (P_eql rfl rfl) rfl <| nT ?_
 first | (refine zao rfl (fun hg1 => ?_) (fun hg1 => ?_)) | (refine zap rfl (fun hg1 => ?_) (fun hg1 => ?_)) | (refine zar rfl (fun hg1 => ?_) (fun hg1 => ?_))
 ·
  refine sR <| oA rfl rfl <| oA rfl rfl <| nT <| zaj <| zae <| zan (res2 Tryz.results41 rfl rfl) ?_
  have e1:(m.carryI r k t)=((0,0),m) := by
    have hk0:0≤k := hkk.resolve_left (fun h=>h (by assumption))
    obtain ⟨q,rfl⟩:∃ q:Nat,k=(q:Int) := ⟨k.toNat,by omega⟩
    rw [Md.carryI_nat,Md.carry_fl (by assumption)]
  rw [e1]
  refine CSpec.close c ?_ ?_ (t1_ (t1_ (eD eR)))
  · rfl
  · rfl
 ·
  refine kT <| zad <| zad <| za4 0 (by kernel_rfl) rfl <| aN 0 1 rfl rfl (zah rfl) rfl <| aN 1 3 rfl rfl (P_lss rfl rfl) rfl <| aN 2 7 rfl rfl (zah rfl) rfl ?_
  first | (refine zc6 18 rfl (fun hg2B hg2 => ?_) (fun hg2B hg2 => ?_)) | (refine zc7 18 rfl (fun hg2B hg2 => ?_) (fun hg2B hg2 => ?_)) | (refine zdm 18 rfl (fun hg2B => ?_) (fun hg2B => ?_))
  ·
   refine aS 3 15 rfl rfl (GY_no rfl rfl rfl hg2B) rfl <| aS 4 31 rfl rfl (GY_no rfl rfl rfl hg2B) rfl <| aS 5 63 rfl rfl (GY_no rfl rfl rfl hg2B) rfl <| aN 6 127 rfl rfl (za2 rfl hg2B rfl) rfl <| aN 7 255 rfl rfl (zah rfl) rfl <| aS 8 511 rfl rfl (GY_no rfl rfl rfl rfl) rfl <| aS 9 1023 rfl rfl (GY_no rfl rfl rfl rfl) rfl <| aS 10 2047 rfl rfl (GY_no rfl rfl rfl rfl) rfl <| aS 11 4095 rfl rfl (GY_no rfl rfl rfl rfl) rfl <| aS 12 8191 rfl rfl (GY_no rfl rfl rfl rfl) rfl <| aS 13 16383 rfl rfl (GY_no rfl rfl rfl rfl) rfl <| aN 14 32767 rfl rfl (za2 rfl rfl rfl) rfl <| aD <| zbk rfl rfl <| sR <| oA rfl rfl <| oA rfl rfl <| nT <| zaj <| zae <| zan (res2 Tryz.results41 rfl rfl) ?_
   have e1:(m.carryI r k t)=((0,1),m) := by
     by_cases h0:k < 0
     · exact Md.carryI_neg h0
     · obtain ⟨q,rfl⟩:∃ q:Nat,k=(q:Int) := ⟨k.toNat,by omega⟩
       obtain ⟨r2,rfl⟩:∃ r2,r=r2 + 1 := ⟨r - 1,by have := (hk q rfl).2.2; omega⟩
       have hs9 := Md.sizeI_nat (m:=m) (k:=q)
       rw [Md.carryI_nat,Md.carry_range (by assumption) (by omega)]
   rw [e1]
   refine CSpec.close c ?_ ?_ (t1_ (t1_ (eD eR)))
   · rfl
   · rfl
  ·
   refine aP 3 15 rfl rfl (zab rfl rfl rfl hg2B) (zaa rfl ⟨_,_,_,Tryz.runUnderlying33,rfl,rfl,Tryz.sizeOf3,rfl⟩) rfl <| aV 4 31 rfl rfl (zab rfl rfl rfl hg2B) (t0_ (t0_ (t0_ eR))) (zag rfl foc0 rfl Tryz.isAgg3) rfl <| aP 5 63 rfl rfl (zab rfl rfl rfl hg2B) (P_lss rfl rfl) rfl <| aN 6 127 rfl rfl (za5 rfl hg2B rfl) rfl <| aN 7 255 rfl rfl (zah rfl) rfl ?_
   first | (refine zc6 23 rfl (fun hg3B hg3 => ?_) (fun hg3B hg3 => ?_)) | (refine zc7 23 rfl (fun hg3B hg3 => ?_) (fun hg3B hg3 => ?_)) | (refine zdm 23 rfl (fun hg3B => ?_) (fun hg3B => ?_))
   ·
    refine aS 8 511 rfl rfl (GY_no rfl rfl rfl hg3B) rfl <| aS 9 1023 rfl rfl (GY_no rfl rfl rfl hg3B) rfl <| aS 10 2047 rfl rfl (GY_no rfl rfl rfl hg3B) rfl <| aS 11 4095 rfl rfl (GY_no rfl rfl rfl hg3B) rfl <| aS 12 8191 rfl rfl (GY_no rfl rfl rfl hg3B) rfl <| aS 13 16383 rfl rfl (GY_no rfl rfl rfl hg3B) rfl <| aN 14 32767 rfl rfl (za2 rfl hg3B rfl) rfl <| aD <| zbk rfl rfl <| sR <| oA rfl rfl <| oA rfl rfl <| nT <| zaj <| zae <| zan (res2 Tryz.results41 rfl rfl) ?_
    have e1:(m.carryI r k t)=((0,1),m) := by
      by_cases h0:k < 0
      · exact Md.carryI_neg h0
      · obtain ⟨q,rfl⟩:∃ q:Nat,k=(q:Int) := ⟨k.toNat,by omega⟩
        obtain ⟨r2,rfl⟩:∃ r2,r=r2 + 1 := ⟨r - 1,by have := (hk q rfl).2.2; omega⟩
        have hs9 := Md.sizeI_nat (m:=m) (k:=q)
        rw [Md.carryI_nat,Md.carry_range (by assumption) (by omega)]
    rw [e1]
    refine CSpec.close c ?_ ?_ (t1_ (t1_ (eD eR)))
    · rfl
    · rfl
   ·
    refine aP 8 511 rfl rfl (zab rfl rfl rfl hg3B) (zaa rfl ⟨_,_,_,Tryz.runUnderlying33,rfl,rfl,Tryz.sizeOf3,rfl⟩) rfl <| aV 9 1023 rfl rfl (zab rfl rfl rfl hg3B) (t0_ (t0_ (t0_ eR))) (zag rfl foc0 rfl Tryz.isAgg3) rfl <| aP 10 2047 rfl rfl (zab rfl rfl rfl hg3B) (zah rfl) rfl <| aP 11 4095 rfl rfl (zab rfl rfl rfl hg3B) (zah rfl) rfl <| AJ_op 12 8191 rfl (by kernel_rfl) rfl (zab rfl rfl rfl hg3B) <| zaq (zo3 (by omega)) rfl Tryz.call88 (Dels.cons del1 (Dels.cons del1 Dels.nil)) rfl fun _ hc2=>⟨fun _=>(t2_ (t0_ (t0_ eR))),?_⟩
    refine aP 13 16383 rfl rfl (zab rfl rfl rfl hg3B) (P_geq rfl rfl) rfl <| aN 14 32767 rfl rfl (za5 rfl hg3B rfl) rfl <| aD ?_
    first | (refine zao rfl (fun hg4 => ?_) (fun hg4 => ?_)) | (refine zap rfl (fun hg4 => ?_) (fun hg4 => ?_)) | (refine zar rfl (fun hg4 => ?_) (fun hg4 => ?_))
    ·
     refine sR <| oA rfl rfl <| oA rfl rfl <| nT <| zaj <| zae <| zan (res2 Tryz.results41 rfl rfl) ?_
     have e1:(m.carryI r k t)=((0,1),m) := by
       by_cases h0:k < 0
       · exact Md.carryI_neg h0
       · obtain ⟨q,rfl⟩:∃ q:Nat,k=(q:Int) := ⟨k.toNat,by omega⟩
         obtain ⟨r2,rfl⟩:∃ r2,r=r2 + 1 := ⟨r - 1,by have := (hk q rfl).2.2; omega⟩
         have hs9 := Md.sizeI_nat (m:=m) (k:=q)
         rw [Md.carryI_nat,Md.carry_range (by assumption) (by omega)]
     rw [e1]
     refine CSpec.close c ?_ ?_ (t0_ (t0_ (eD eR)))
     · rfl
     · rfl
    ·
     refine kT <| zad ?_
     obtain ⟨q,rfl⟩:∃ q:Nat,k=(q:Int) := ⟨k.toNat,by omega⟩
     obtain ⟨hq,hqg,hqr⟩ := hk q rfl
     have hqa := hat q
     obtain ⟨r2,rfl⟩:∃ r2,r=r2 + 1 := ⟨r - 1,by omega⟩
     have hch := zbx (hO.chk q).1
     have hk3:t.Kind≠3 := by assumption
     rw [Md.sizeI_nat] at *
     refine zai <| oM rfl rfl <| oP (zaf rfl) rfl <| oP (zaa rfl ⟨_,_,_,Tryz.runUnderlying72,rfl,rfl,Tryz.sizeOf70,rfl⟩) rfl <| oV (zag rfl foc0 rfl Tryz.isAgg70) rfl <| oM rfl rfl ?_
     first | (refine RJ_op rfl (OJ_V (zal rfl rfl rfl (by omega) foc1 rdDv Tryz.runUnderlying70 Tryz.sizeOf91) rfl ?_)) | (refine RJ_op rfl (OJ_V (zal rfl rfl (Int.toNat_of_nonneg (by omega)).symm (by omega) foc1 rdDv Tryz.runUnderlying70 Tryz.sizeOf91) rfl ?_))
     refine oA rfl rfl <| nT <| zad <| sR <| oM rfl rfl <| oP (zga rfl) rfl <| oP (zay rfl ⟨_,_,_,Tryz.runUnderlying91,rfl,rfl,Tryz.sizeOf4,rfl⟩) rfl <| oV (zaz rfl rfl (by omega) foc1 rdDv rfl rfl Tryz.isAgg4) rfl <| nT ?_
     first | (refine zao rfl (fun hg5 => ?_) (fun hg5 => ?_)) | (refine zap rfl (fun hg5 => ?_) (fun hg5 => ?_)) | (refine zar rfl (fun hg5 => ?_) (fun hg5 => ?_))
     ·
      refine zad <| sR <| oP (zaa rfl ⟨_,_,_,Tryz.runUnderlying33,rfl,rfl,Tryz.sizeOf3,rfl⟩) rfl <| oV (zag rfl foc2 rfl Tryz.isAgg3) rfl <| oP (P_eql rfl rfl) rfl <| nT ?_
      first | (refine zao rfl (fun hg6 => ?_) (fun hg6 => ?_)) | (refine zap rfl (fun hg6 => ?_) (fun hg6 => ?_)) | (refine zar rfl (fun hg6 => ?_) (fun hg6 => ?_))
      ·
       refine zad ?_
       have hqB:(m.at q).isB=true := by rw [← hqa]; assumption
       have hsz := Md.size_base hqB
       refine zbd (Ent.trans (t1_ eR) (zc5 hq)) <| za4 512 (by kernel_rfl) rfl <| aN 0 1 rfl rfl (zah rfl) rfl <| aN 1 3 rfl rfl (zga rfl) rfl <| aN 2 7 rfl rfl (zay rfl ⟨_,_,_,Tryz.runUnderlying91,rfl,rfl,Tryz.sizeOf67,rfl⟩) rfl <| aV 3 15 rfl rfl (zac rfl) (t0_ (t0_ (t0_ (t0_ (t0_ (t0_ (t0_ (t0_ (t0_ eR))))))))) (zaz rfl rfl (by omega) foc4 (Reads.sl _ _ _) rfl rfl Tryz.isAgg67) rfl <| aN 4 31 rfl rfl (zaa rfl ⟨_,_,_,Tryz.runUnderlying33,rfl,rfl,Tryz.sizeOf3,rfl⟩) rfl <| aV 5 63 rfl rfl (zac rfl) (t0_ (t0_ (t0_ (t0_ (t0_ (t0_ (t0_ (t0_ (t0_ eR))))))))) (zag rfl foc8 rfl Tryz.isAgg3) rfl <| aN 6 127 rfl rfl (zaa rfl ⟨_,_,_,Tryz.runUnderlying33,rfl,rfl,Tryz.sizeOf31,rfl⟩) rfl <| aV 7 255 rfl rfl (zac rfl) (t0_ (t0_ (t0_ (t0_ (t0_ (t0_ (t0_ (t0_ (t0_ eR))))))))) (zag rfl foc8 rfl Tryz.isAgg31) rfl <| aV 8 511 rfl rfl (zac rfl) (t0_ (t0_ (t0_ (t0_ (t0_ (t0_ (t0_ (t0_ (t0_ eR))))))))) (zal rfl rfl (Int.toNat_of_nonneg (by omega)).symm (by omega) foc0 (Reads.sl _ _ _) Tryz.runUnderlying67 Tryz.sizeOf31) rfl ?_
       refine AJ_op 9 1023 rfl (by kernel_rfl) rfl (zac rfl) <| zb3 (x' := t.Value) rfl rfl rfl (by omega) foc0 rfl rfl rfl Tryz.sizeOf31 <| ⟨fun h=>absurd h (by decide),?_⟩
       refine aD <| sR <| oA rfl rfl <| oA rfl rfl <| nT <| zaj <| zae <| zae <| zan (res2 Tryz.results41 rfl rfl) ?_
       have e1:(m.carryI (r2 + 1) (q:Int) t)=((0,0), { m.set q { m.at q with base := (m.at q).base.set t.At.toNat t.Value } with wr := m.wr + 1 }) := by rw [Md.carryI_nat,Md.carry_baseW hqB (by assumption),if_pos (by omega)]
       rw [e1]
       have hok2 := Md.ok_base (l:=(m.at q).base.set t.At.toNat t.Value) hO hW.big hq hqB hw (by simp)
       refine CSpec.close (c.put q (c.hd q) { m.at q with base := (m.at q).base.set t.At.toNat t.Value }) ?_ ?_ (Ent.trans (Ent.trans (Ent.takeC del0 (show sl tyU _ _=sl tyU (c.hd q).ba.v ((m.at q).base.set t.At.toNat t.Value) from rfl) (t0_ (t0_ (t0_ (Ent.takeC del0 (zzd (x:=(c.hd q, { m.at q with base := (m.at q).base.set t.At.toNat t.Value })) (d:=tyDv.dflt) (by omega) (by rw [hd_at hW])) (t0_ (t0_ eR))))))) (zed (h:=c.hd q) (d := { m.at q with base := (m.at q).base.set t.At.toNat t.Value }) (m' := { m.set q { m.at q with base := (m.at q).base.set t.At.toNat t.Value } with wr := m.wr + 1 }) hW hq rfl hok2.1 hok2.2 rfl)) (t1_ (t0_ (eD eR))))
       · rfl
       · rfl
      ·
       refine kT <| zad ?_
       have hqB:(m.at q).isB=true := by rw [← hqa]; assumption
       have hsz := Md.size_base hqB
       refine za4 0 (by kernel_rfl) rfl <| aN 0 1 rfl rfl (zah rfl) rfl <| aN 1 3 rfl rfl (zga rfl) rfl <| aN 2 7 rfl rfl (zay rfl ⟨_,_,_,Tryz.runUnderlying91,rfl,rfl,Tryz.sizeOf67,rfl⟩) rfl <| aV 3 15 rfl rfl (zac rfl) (t0_ (t0_ (t0_ eR))) (zaz rfl rfl (by omega) foc1 rdDv rfl rfl Tryz.isAgg67) rfl <| aN 4 31 rfl rfl (zaa rfl ⟨_,_,_,Tryz.runUnderlying33,rfl,rfl,Tryz.sizeOf3,rfl⟩) rfl <| aV 5 63 rfl rfl (zac rfl) (t0_ (t0_ (t0_ eR))) (zag rfl foc2 rfl Tryz.isAgg3) rfl <| aV 6 127 rfl rfl (zac rfl) (t0_ (t0_ (t0_ eR))) (zal rfl rfl (Int.toNat_of_nonneg (by omega)).symm (by omega) foc1 (rrBa (by omega)) Tryz.runUnderlying67 Tryz.sizeOf31) rfl <| aV 7 255 rfl rfl (zac rfl) (t0_ (t0_ (t0_ eR))) (zaz rfl rfl (by omega) foc1 (rrBa (by omega)) rfl rfl Tryz.isAgg31) rfl <| aN 8 511 rfl rfl (zbc rfl) rfl <| aN 9 1023 rfl rfl (zbc rfl) rfl <| aD <| zaj <| zae <| zan (res2 Tryz.results41 rfl rfl) ?_
       have e1:(m.carryI (r2 + 1) (q:Int) t)=(((m.at q).base.getD t.At.toNat 0,0),m) := by rw [Md.carryI_nat,Md.carry_baseR hqB hk3 (by assumption),if_pos (by omega),if_pos (by omega)]
       rw [e1]
       refine CSpec.close c ?_ ?_ (t0_ (t0_ (eD eR)))
       · rfl
       · rfl
     ·
      refine kT <| zad ?_
      have hqB:(m.at q).isB=false := by rw [← hqa]; simp_all
      have hqD:m.isD q := ⟨hq,hqg,hqB⟩
      have hsz := Md.size_tab hqB (hO.chk q).1
      obtain ⟨i,o,hf,hi,ho1,ho2⟩ := zxx (hO.chk q).1 (a:=t.At) (by omega) (by omega)
      have hcd := Md.carry_dev (r:=r2) (hO.chk q).1 hqB hk3
      rw [hf] at hcd
      refine za4 64 (by kernel_rfl) rfl <| aN 0 1 rfl rfl (zah rfl) rfl <| aN 1 3 rfl rfl (zga rfl) rfl <| aN 2 7 rfl rfl (zay rfl ⟨_,_,_,Tryz.runUnderlying91,rfl,rfl,Tryz.sizeOf30,rfl⟩) rfl <| aV 3 15 rfl rfl (zac rfl) (t0_ (t0_ (t0_ eR))) (zaz rfl rfl (by omega) foc1 rdDv rfl rfl Tryz.isAgg30) rfl <| aN 4 31 rfl rfl (zaa rfl ⟨_,_,_,Tryz.runUnderlying33,rfl,rfl,Tryz.sizeOf3,rfl⟩) rfl <| aV 5 63 rfl rfl (zac rfl) (t0_ (t0_ (t0_ eR))) (zag rfl foc2 rfl Tryz.isAgg3) rfl <| AJ_op 6 127 rfl (by kernel_rfl) rfl (zac rfl) <| zaq (zf5 (rrLv (by omega)) zpr) rfl Tryz.call87 (Dels.cons del1 Dels.nil) rfl fun _ hc3=>⟨fun h=>absurd h (by decide),?_⟩
      refine aN 7 255 rfl rfl (zah rfl) rfl <| aN 8 511 rfl rfl (za1 rfl rfl) rfl <| aN 9 1023 rfl rfl (za1 rfl rfl) rfl <| aN 10 2047 rfl rfl (za1 rfl rfl) rfl <| aN 11 4095 rfl rfl (zbc rfl) rfl <| aN 12 8191 rfl rfl (zbc rfl) rfl <| aN 13 16383 rfl rfl (zbc rfl) rfl <| aD <| zad ?_
      rw [hf]
      refine zai <| oM rfl rfl <| oP (zga rfl) rfl <| oP (zay rfl ⟨_,_,_,Tryz.runUnderlying91,rfl,rfl,Tryz.sizeOf30,rfl⟩) rfl <| oV (zaz rfl rfl (by omega) foc0 rdDv rfl rfl Tryz.isAgg30) rfl <| oM rfl rfl <| oV (zal rfl rfl rfl (by exact hi) foc0 (rrLv (by omega)) Tryz.runUnderlying30 Tryz.sizeOf37) rfl <| oV (zb7 rfl rfl (by omega) foc0 (rrLv (by omega)) rfl rfl Tryz.isAgg37 Tryz.sizeOf37) rfl <| oO <| zb1 Tryz.zeroValue37 rfl rfl fun b4=>oO <| zbj rfl rfl foc0 Tryz.sizeOf37 rfl rfl rfl <| nT <| zad <| zas <| sR <| oP (zaa rfl ⟨_,_,_,Tryz.runUnderlying37,rfl,rfl,Tryz.sizeOf4,rfl⟩) rfl <| oV (zag rfl foc0 rfl Tryz.isAgg4) rfl <| oA rfl rfl <| nT ?_
      first | (refine zao rfl (fun hg7 => ?_) (fun hg7 => ?_)) | (refine zap rfl (fun hg7 => ?_) (fun hg7 => ?_)) | (refine zar rfl (fun hg7 => ?_) (fun hg7 => ?_))
      ·
       refine sR <| oA rfl rfl <| oA rfl rfl <| nT <| zaj <| zam <| zae <| zan (res2 Tryz.results41 rfl rfl) ?_
       have e1:(m.carryI (r2 + 1) (q:Int) t)=((0,7),m) := by
         rw [Md.carryI_nat,hcd]
         show (if _ then _ else _)=_
         exact if_pos (by assumption)
       rw [e1]
       refine CSpec.close c ?_ ?_ (t2_ (t1_ (eD (eD eR))))
       · rfl
       · rfl
      ·
       refine sR <| oP (zaa rfl ⟨_,_,_,Tryz.runUnderlying37,rfl,rfl,Tryz.sizeOf9,rfl⟩) rfl <| oV (zag rfl foc0 rfl Tryz.isAgg9) rfl <| oP (zcj rfl rfl Tryz.underlying9) rfl <| oM rfl rfl ?_
       first | (refine zbp 86 rfl (fun hg8B hg8 => ?_) (fun hg8B hg8 => ?_)) | (refine zbq 86 rfl (fun hg8B hg8 => ?_) (fun hg8B hg8 => ?_)) | (refine zbr 86 rfl (fun hg8B => ?_) (fun hg8B => ?_))
       ·
        refine gP (zab rfl rfl rfl hg8B) (zaa rfl ⟨_,_,_,Tryz.runUnderlying33,rfl,rfl,Tryz.sizeOf3,rfl⟩) rfl <| gV (zab rfl rfl rfl hg8B) (zag rfl foc3 rfl Tryz.isAgg3) rfl <| gP (zab rfl rfl rfl hg8B) (P_eql rfl rfl) rfl <| oP (za2 rfl hg8B rfl) rfl <| oA rfl rfl <| nT ?_
        first | (refine zao rfl (fun hg9 => ?_) (fun hg9 => ?_)) | (refine zap rfl (fun hg9 => ?_) (fun hg9 => ?_)) | (refine zar rfl (fun hg9 => ?_) (fun hg9 => ?_))
        ·
         refine sR <| oA rfl rfl <| oA rfl rfl <| nT <| zaj <| zam <| zae <| zan (res2 Tryz.results41 rfl rfl) ?_
         have e1:(m.carryI (r2 + 1) (q:Int) t)=((0,22),m) := by
           rw [Md.carryI_nat,hcd]
           show (if _ then _ else _)=_
           rw [if_neg (by simp_all)]
           refine (if_pos (by simp_all)).trans ?_
           rw [if_pos (by simp_all)]
         rw [e1]
         refine CSpec.close c ?_ ?_ (t2_ (t1_ (eD (eD eR))))
         · rfl
         · rfl
        ·
         refine sR <| oP (zaa rfl ⟨_,_,_,Tryz.runUnderlying37,rfl,rfl,Tryz.sizeOf9,rfl⟩) rfl <| oV (zag rfl foc0 rfl Tryz.isAgg9) rfl <| oP (zcj rfl rfl Tryz.underlying9) rfl <| oA rfl rfl <| nT ?_
         first | (refine zao rfl (fun hg10 => ?_) (fun hg10 => ?_)) | (refine zap rfl (fun hg10 => ?_) (fun hg10 => ?_)) | (refine zar rfl (fun hg10 => ?_) (fun hg10 => ?_))
         ·
          refine sR <| oA rfl rfl <| oA rfl rfl <| nT <| zaj <| zam <| zae <| zan (res2 Tryz.results41 rfl rfl) ?_
          have e1:(m.carryI (r2 + 1) (q:Int) t)=((0,0),m) := by
            rw [Md.carryI_nat,hcd]
            show (if _ then _ else _)=_
            rw [if_neg (by simp_all)]
            refine (if_pos (by simp_all)).trans ?_
            rw [if_neg (by simp_all)]
          rw [e1]
          refine CSpec.close c ?_ ?_ (t2_ (t1_ (eD (eD eR))))
          · rfl
          · rfl
         ·
          refine za8 <| zak <| zat <| zad ?_
          have hfb := zej (hO.chk q).1 (zb9 tgt0 hi)
          refine zai <| oP (zaa rfl ⟨_,_,_,Tryz.runUnderlying37,rfl,rfl,Tryz.sizeOf3,rfl⟩) rfl <| oV (zag rfl foc0 rfl Tryz.isAgg3) rfl <| oM rfl rfl <| oP (P_add rfl rfl (by show -9223372036854775808≤((m.at q).live.getD i tgt0).Offset + o∧((m.at q).live.getD i tgt0).Offset + o≤9223372036854775807; omega)) rfl <| oP (zaa rfl ⟨_,_,_,Tryz.runUnderlying33,rfl,rfl,Tryz.sizeOf3,rfl⟩) rfl <| oO <| zbh rfl rfl foc3 rfl rfl Tryz.sizeOf3 <| nT <| zad <| za4 64 (by kernel_rfl) rfl <| aN 0 1 rfl rfl (zah rfl) rfl <| aN 1 3 rfl rfl (zah rfl) rfl <| aN 2 7 rfl rfl (zaa rfl ⟨_,_,_,Tryz.runUnderlying37,rfl,rfl,Tryz.sizeOf9,rfl⟩) rfl <| aV 3 15 rfl rfl (zac rfl) (t0_ (t0_ (t0_ (t0_ eR)))) (zag rfl foc0 rfl Tryz.isAgg9) rfl <| aV 5 47 rfl rfl (zac rfl) (t0_ (t0_ (t0_ (t0_ eR)))) (zbo rfl foc3 Tryz.isAgg33 Tryz.sizeOf33 rfl rfl) rfl <| AJ_op 4 63 rfl (by kernel_rfl) rfl (zac rfl) <| zaq (zew) rfl Tryz.call39 (Dels.cons del2 (Dels.cons del1 Dels.nil)) rfl fun _ hc5=>⟨fun _=>(t2_ (t1_ (t0_ (t0_ eR)))),?_⟩
          refine AJ_op 6 127 rfl (by kernel_rfl) rfl (zac rfl) <| zaq ((ih r2 rfl _ { t with At := ((m.at q).live.getD i tgt0).Offset + o } (Md.okK_find (zfg hrk hqD hqr ⟨_,List.mem_append.2 (.inl (zb9 tgt0 hi)),rfl⟩)) (.inl hk3))) rfl Tryz.call41 (Dels.cons del0 (Dels.cons del0 Dels.nil)) rfl fun c9 h9=>⟨fun h=>absurd h (by decide),?_⟩
          refine aN 7 255 rfl rfl (za1 rfl rfl) rfl <| aN 8 511 rfl rfl (za1 rfl rfl) rfl <| aN 9 1023 rfl rfl (zbc rfl) rfl <| aN 10 2047 rfl rfl (zbc rfl) rfl <| aD <| zaj <| zan (res2 Tryz.results41 rfl rfl) ?_
          have e1:(m.carryI (r2 + 1) (q:Int) t)=m.carryI r2 (m.findI ((m.at q).live.getD i tgt0).On) { t with At := ((m.at q).live.getD i tgt0).Offset + o } := by
            rw [Md.carryI_nat,Md.carryI_find,hcd]
            show (if _ then _ else _)=_
            rw [if_neg (by simp_all)]
            exact if_neg (by simp_all)
          rw [e1]
          refine CSpec.close c9 ?_ ?_ (t0_ (t0_ (eD (eD eR))))
          · rfl
          · exact h9
       ·
        refine RJ_gn (GY_no rfl rfl rfl hg8B) rfl rfl <| RJ_gn (GY_no rfl rfl rfl hg8B) rfl rfl <| RJ_gn (GY_no rfl rfl rfl hg8B) rfl rfl <| oP (za5 rfl hg8B rfl) rfl <| oA rfl rfl <| nT <| zbf rfl rfl <| sR <| oP (zaa rfl ⟨_,_,_,Tryz.runUnderlying37,rfl,rfl,Tryz.sizeOf9,rfl⟩) rfl <| oV (zag rfl foc0 rfl Tryz.isAgg9) rfl <| oP (zcj rfl rfl Tryz.underlying9) rfl <| oA rfl rfl <| nT ?_
        first | (refine zao rfl (fun hg11 => ?_) (fun hg11 => ?_)) | (refine zap rfl (fun hg11 => ?_) (fun hg11 => ?_)) | (refine zar rfl (fun hg11 => ?_) (fun hg11 => ?_))
        ·
         refine sR <| oA rfl rfl <| oA rfl rfl <| nT <| zaj <| zam <| zae <| zan (res2 Tryz.results41 rfl rfl) ?_
         have e1:(m.carryI (r2 + 1) (q:Int) t)=((0,0),m) := by
           rw [Md.carryI_nat,hcd]
           show (if _ then _ else _)=_
           rw [if_neg (by simp_all)]
           refine (if_pos (by simp_all)).trans ?_
           rw [if_neg (by simp_all)]
         rw [e1]
         refine CSpec.close c ?_ ?_ (t2_ (t1_ (eD (eD eR))))
         · rfl
         · rfl
        ·
         refine za8 <| zak <| zat <| zad ?_
         have hfb := zej (hO.chk q).1 (zb9 tgt0 hi)
         refine zai <| oP (zaa rfl ⟨_,_,_,Tryz.runUnderlying37,rfl,rfl,Tryz.sizeOf3,rfl⟩) rfl <| oV (zag rfl foc0 rfl Tryz.isAgg3) rfl <| oM rfl rfl <| oP (P_add rfl rfl (by show -9223372036854775808≤((m.at q).live.getD i tgt0).Offset + o∧((m.at q).live.getD i tgt0).Offset + o≤9223372036854775807; omega)) rfl <| oP (zaa rfl ⟨_,_,_,Tryz.runUnderlying33,rfl,rfl,Tryz.sizeOf3,rfl⟩) rfl <| oO <| zbh rfl rfl foc3 rfl rfl Tryz.sizeOf3 <| nT <| zad <| za4 64 (by kernel_rfl) rfl <| aN 0 1 rfl rfl (zah rfl) rfl <| aN 1 3 rfl rfl (zah rfl) rfl <| aN 2 7 rfl rfl (zaa rfl ⟨_,_,_,Tryz.runUnderlying37,rfl,rfl,Tryz.sizeOf9,rfl⟩) rfl <| aV 3 15 rfl rfl (zac rfl) (t0_ (t0_ (t0_ (t0_ eR)))) (zag rfl foc0 rfl Tryz.isAgg9) rfl <| aV 5 47 rfl rfl (zac rfl) (t0_ (t0_ (t0_ (t0_ eR)))) (zbo rfl foc3 Tryz.isAgg33 Tryz.sizeOf33 rfl rfl) rfl <| AJ_op 4 63 rfl (by kernel_rfl) rfl (zac rfl) <| zaq (zew) rfl Tryz.call39 (Dels.cons del2 (Dels.cons del1 Dels.nil)) rfl fun _ hc7=>⟨fun _=>(t2_ (t1_ (t0_ (t0_ eR)))),?_⟩
         refine AJ_op 6 127 rfl (by kernel_rfl) rfl (zac rfl) <| zaq ((ih r2 rfl _ { t with At := ((m.at q).live.getD i tgt0).Offset + o } (Md.okK_find (zfg hrk hqD hqr ⟨_,List.mem_append.2 (.inl (zb9 tgt0 hi)),rfl⟩)) (.inl hk3))) rfl Tryz.call41 (Dels.cons del0 (Dels.cons del0 Dels.nil)) rfl fun c9 h9=>⟨fun h=>absurd h (by decide),?_⟩
         refine aN 7 255 rfl rfl (za1 rfl rfl) rfl <| aN 8 511 rfl rfl (za1 rfl rfl) rfl <| aN 9 1023 rfl rfl (zbc rfl) rfl <| aN 10 2047 rfl rfl (zbc rfl) rfl <| aD <| zaj <| zan (res2 Tryz.results41 rfl rfl) ?_
         have e1:(m.carryI (r2 + 1) (q:Int) t)=m.carryI r2 (m.findI ((m.at q).live.getD i tgt0).On) { t with At := ((m.at q).live.getD i tgt0).Offset + o } := by
           rw [Md.carryI_nat,Md.carryI_find,hcd]
           show (if _ then _ else _)=_
           rw [if_neg (by simp_all)]
           exact if_neg (by simp_all)
         rw [e1]
         refine CSpec.close c9 ?_ ?_ (t0_ (t0_ (eD (eD eR))))
         · rfl
         · exact h9
end Go.Proofs
set_option linter.unusedSimpArgs false
set_option maxRecDepth 20000
namespace Go.Proofs
open Go.VG
theorem zrh {W:World} {b:Nat} {c:RH} {m:Md} {rk:Nat→Nat} (hrk:m.Rank rk) (hw:m.wr < 100000000):∀ (r:Nat) (k:Int) (t:api_Task),m.okK rk r k→t.Kind≠3∨0≤k→CSpec Tryz.prog W 41 [ptr b 0,.int .i64 k,.agg #[.int .i64 t.Kind,.int .i64 t.At,.int .u64 (t.Value.toNat:Int)]] [blk b 72 (zbi c m),RefR c m] (fun _:RH => .tuple #[.int .u64 ((m.carryI r k t).1.1.toNat:Int),.int .i64 (m.carryI r k t).1.2]) (fun c2=>zbi c2 (m.carryI r k t).2=zbi c m) (fun c2 F=>blk b 72 (zbi c m)::RefR c2 (m.carryI r k t).2::F)
  | 0,_,_,hn,hk=>zkk hrk hw (fun r2 h=>by omega) hn hk
  | r + 1,_,_,hn,hk=>zkk hrk hw (fun r2 h=>by obtain rfl:r2=r := (by omega); exact zrh hrk hw r2) hn hk
theorem zhs {W:World} {b:Nat} {c:RH} {m:Md} {k:Nat} {t:api_Task} (hO:MdOk m) (hw:m.wr < 100000000) (hk:k < m.dv.length∧(m.at k).gone=false):CSpec Tryz.prog W 41 [ptr b 0,.int .i64 (k:Int),.agg #[.int .i64 t.Kind,.int .i64 t.At,.int .u64 (t.Value.toNat:Int)]] [blk b 72 (zbi c m),RefR c m] (fun _:RH => .tuple #[.int .u64 ((m.carryk k t).1.1.toNat:Int),.int .i64 (m.carryk k t).1.2]) (fun c2=>zbi c2 (m.carryk k t).2=zbi c m) (fun c2 F=>blk b 72 (zbi c m)::RefR c2 (m.carryk k t).2::F) := by
  obtain ⟨rk,hrk,hrb⟩ := Md.rank_bd hO.acy
  have h := zrh (W:=W) (b:=b) (c:=c) (t:=t) hrk hw (m.dv.length + 1) (k:Int) (fun q hq=>by
    obtain rfl:k=q := by omega
    exact ⟨hk.1,hk.2,by have := hrb k; omega⟩) (.inr (by omega))
  rw [Md.carryI_nat] at h
  exact h
theorem zkl {W:World} {b k f dp:Nat} {c:RH} {m:Md} {n:ByteArray} (hfd:f + dp=m.dv.length + 1) (ih:∀ f2,f2 + 1=f → ∀ n:ByteArray,CSpec Tryz.prog W 76 [ptr b 0,.string n,.int .i64 (k:Int),.int .i64 (((dp + 1:Nat):Int):Int)] [blk b 72 (zbi c m),RefR c m] (fun _:Unit => .bool (m.reach k f2 n)) (fun _=>True) (fun _ F=>blk b 72 (zbi c m)::RefR c m::F)) :
    CSpec Tryz.prog W 76 [ptr b 0,.string n,.int .i64 (k:Int),.int .i64 (dp:Int)] [blk b 72 (zbi c m),RefR c m] (fun _:Unit => .bool (m.reach k f n)) (fun _=>True) (fun _ F=>blk b 72 (zbi c m)::RefR c m::F) := by
 refine CSpec.of_body Tryz.func76 rfl Tryz.ntmps76 rfl fun F => ?_
 show CJ _ _ _ _ _ _ (_::_::F)
 refine zba (zci foc1) fun hW => ?_
 have hO := hW.ok
 have hln := hW.big.len
 have hll := hW.len
 have hat := hW.at
 refine sR <| oA rfl rfl <| nT <| sR <| oM rfl rfl <| oM rfl rfl <| oO <| zaq (zew) rfl Tryz.call39 (Dels.cons del0 (Dels.cons del0 Dels.nil)) rfl fun _ hc1=>oA rfl rfl <| nT <| zad <| zad ?_
 have hfc := Md.findI_cases (m:=m) (n:=n)
 refine zai <| oM rfl rfl <| oP (P_lss rfl rfl) rfl <| oM rfl rfl ?_
 first | (refine zbp 17 rfl (fun hg1B hg1 => ?_) (fun hg1B hg1 => ?_)) | (refine zbq 17 rfl (fun hg1B hg1 => ?_) (fun hg1B hg1 => ?_)) | (refine zbr 17 rfl (fun hg1B => ?_) (fun hg1B => ?_))
 ·
  refine RJ_gn (GY_no rfl rfl rfl hg1B) rfl rfl <| RJ_gn (GY_no rfl rfl rfl hg1B) rfl rfl <| RJ_gn (GY_no rfl rfl rfl hg1B) rfl rfl <| RJ_gn (GY_no rfl rfl rfl hg1B) rfl rfl <| RJ_gn (GY_no rfl rfl rfl hg1B) rfl rfl <| RJ_gn (GY_no rfl rfl rfl hg1B) rfl rfl <| RJ_gn (GY_no rfl rfl rfl hg1B) rfl rfl <| oP (za2 rfl hg1B rfl) rfl <| nT <| zbk rfl rfl <| sR <| oA rfl rfl <| nT <| zaj <| zae <| zan (res1 Tryz.results76 rfl) <| CSpec.close () ?_ ?_ (t0_ (t0_ eR))
  ·
   refine bv <| Eq.symm ?_
   obtain ⟨hfn,hfi⟩ | ⟨i,hfn,hfi,hil,hig,hin⟩ := hfc
   · exact Md.reach_none hfn
   · obtain rfl:f=0 := by omega
     rfl
  · trivial
 ·
  refine gP (zab rfl rfl rfl hg1B) (zah rfl) rfl <| gP (zab rfl rfl rfl hg1B) (zah rfl) rfl <| gP (zab rfl rfl rfl hg1B) (zaf rfl) rfl <| gP (zab rfl rfl rfl hg1B) (zaa rfl ⟨_,_,_,Tryz.runUnderlying72,rfl,rfl,Tryz.sizeOf70,rfl⟩) rfl <| gV (zab rfl rfl rfl hg1B) (zag rfl foc0 rfl Tryz.isAgg70) rfl <| gV (zab rfl rfl rfl hg1B) (V_len rfl foc1 rdDv Tryz.runUnderlying70) rfl <| gP (zab rfl rfl rfl hg1B) (P_gtr rfl rfl) rfl <| oP (za5 rfl hg1B rfl) rfl <| nT ?_
  first | (refine zao rfl (fun hg2 => ?_) (fun hg2 => ?_)) | (refine zap rfl (fun hg2 => ?_) (fun hg2 => ?_)) | (refine zar rfl (fun hg2 => ?_) (fun hg2 => ?_))
  ·
   refine sR <| oA rfl rfl <| nT <| zaj <| zae <| zan (res1 Tryz.results76 rfl) <| CSpec.close () ?_ ?_ (t0_ (t0_ eR))
   ·
    refine bv <| Eq.symm ?_
    obtain ⟨hfn,hfi⟩ | ⟨i,hfn,hfi,hil,hig,hin⟩ := hfc
    · exact Md.reach_none hfn
    · obtain rfl:f=0 := by omega
      rfl
   · trivial
  ·
   refine kT <| zad <| zad ?_
   obtain ⟨hfn,hfi⟩ | ⟨i,hfn,hfi,hil,hig,hin⟩ := hfc
   · exfalso; omega
   rw [hfi]
   obtain ⟨f2,rfl⟩:∃ f2,f=f2 + 1 := ⟨f - 1,by omega⟩
   refine zai <| oM rfl rfl <| oM rfl rfl <| oP (P_eql rfl rfl) rfl <| nT ?_
   first | (refine zao rfl (fun hg3 => ?_) (fun hg3 => ?_)) | (refine zap rfl (fun hg3 => ?_) (fun hg3 => ?_)) | (refine zar rfl (fun hg3 => ?_) (fun hg3 => ?_))
   ·
    refine sR <| oA rfl rfl <| nT <| zaj <| zae <| zan (res1 Tryz.results76 rfl) <| CSpec.close () ?_ ?_ (t0_ (t0_ eR))
    ·
     refine bv <| Eq.symm ?_
     rw [Md.reach_step hfn,decide_eq_true (show i=k by omega),Bool.true_or]
    · trivial
   ·
    refine kT <| zad ?_
    have hlv := (zbx (hO.chk i).1).1
    have hnw := (zbx (hO.chk i).2).1
    have htl:(Md.tbl (m.at i)).length=(m.at i).live.length + (m.at i).new.length := List.length_append
    refine za4 131072 (by kernel_rfl) rfl <| aN 0 1 rfl rfl (zah rfl) rfl <| aN 1 3 rfl rfl (zaf rfl) rfl <| aN 2 7 rfl rfl (zaa rfl ⟨_,_,_,Tryz.runUnderlying72,rfl,rfl,Tryz.sizeOf70,rfl⟩) rfl <| aV 3 15 rfl rfl (zac rfl) (t0_ (t0_ eR)) (zag rfl foc0 rfl Tryz.isAgg70) rfl <| aN 4 31 rfl rfl (zah rfl) rfl ?_
    first | (refine za9 5 63 rfl (by kernel_rfl) rfl (by kernel_rfl) (by kernel_rfl) (zac rfl) (t0_ (t0_ eR)) (zal rfl rfl rfl (by omega) foc1 rdDv Tryz.runUnderlying70 Tryz.sizeOf91) rfl (fun _ _ _ _ h=>h) ?_) | (refine za9 5 63 rfl (by kernel_rfl) rfl (by kernel_rfl) (by kernel_rfl) (zac rfl) (t0_ (t0_ eR)) (zal rfl rfl (Int.toNat_of_nonneg (by omega)).symm (by omega) foc1 rdDv Tryz.runUnderlying70 Tryz.sizeOf91) rfl (fun _ _ _ _ h=>h) ?_)
    refine aN 6 127 rfl rfl (zay rfl ⟨_,_,_,Tryz.runUnderlying91,rfl,rfl,Tryz.sizeOf30,rfl⟩) rfl <| aV 7 255 rfl rfl (zac rfl) (t0_ (t0_ eR)) (zaz rfl rfl (by omega) foc1 rdDv rfl rfl Tryz.isAgg30) rfl <| aN 9 767 rfl rfl (zah rfl) rfl <| aN 10 1791 rfl rfl (zaf rfl) rfl <| aN 11 3839 rfl rfl (zaa rfl ⟨_,_,_,Tryz.runUnderlying72,rfl,rfl,Tryz.sizeOf70,rfl⟩) rfl <| aV 12 7935 rfl rfl (zac rfl) (t0_ (t0_ eR)) (zag rfl foc0 rfl Tryz.isAgg70) rfl <| aN 13 16127 rfl rfl (zah rfl) rfl ?_
    first | (refine za9 14 32511 rfl (by kernel_rfl) rfl (by kernel_rfl) (by kernel_rfl) (zac rfl) (t0_ (t0_ eR)) (zal rfl rfl rfl (by omega) foc1 rdDv Tryz.runUnderlying70 Tryz.sizeOf91) rfl (fun _ _ _ _ h=>h) ?_) | (refine za9 14 32511 rfl (by kernel_rfl) rfl (by kernel_rfl) (by kernel_rfl) (zac rfl) (t0_ (t0_ eR)) (zal rfl rfl (Int.toNat_of_nonneg (by omega)).symm (by omega) foc1 rdDv Tryz.runUnderlying70 Tryz.sizeOf91) rfl (fun _ _ _ _ h=>h) ?_)
    refine aN 15 65279 rfl rfl (zay rfl ⟨_,_,_,Tryz.runUnderlying91,rfl,rfl,Tryz.sizeOf30,rfl⟩) rfl <| aV 16 130815 rfl rfl (zac rfl) (t0_ (t0_ eR)) (zaz rfl rfl (by omega) foc1 rdDv rfl rfl Tryz.isAgg30) rfl <| zio (fun h hh=>zb2 (t:=tyapi_Target) h hh) <| AJ_op 8 131071 rfl (by kernel_rfl) rfl (zac rfl) <| zbv (t:=tyapi_Target) (bytes:=48) rfl rfl del0 foc1 (rrLv (by omega)) Tryz.underlying30 zcf (by simp only [List.length_append,List.length_cons,List.length_nil,maxLen] at *; omega) (by simp only [List.length_append,List.length_cons,List.length_nil,maxLen] at *; omega) rfl fun p4 c5=>⟨fun _=>(t1_ (t1_ (eD eR))),?_⟩
    refine AJ_op 17 262143 rfl (by kernel_rfl) rfl (zac rfl) <| zbv (t:=tyapi_Target) (bytes:=48) rfl rfl del0 foc1 (rrNw (by omega)) Tryz.underlying30 zcf (by simp only [List.length_append,List.length_cons,List.length_nil,maxLen] at *; omega) (by simp only [List.length_append,List.length_cons,List.length_nil,maxLen] at *; omega) rfl fun p6 c7=>⟨fun h=>absurd h (by decide),?_⟩
    refine aN 18 524287 rfl rfl (zbc rfl) rfl <| aD <| zad <| sR <| oA rfl rfl <| nT <| zas <| zbd (Ent.takeC del0 (show sl tyapi_Target _ (([] ++ (m.at i).live) ++ (m.at i).new)=sl tyapi_Target _ (Md.tbl (m.at i)) from rfl) (t0_ (t0_ eR))) <| zbe (X:=Nat) [8,11,47,48,49,50,51,52,53,54,55,56,57,58,59,60,61,62,63,64,65,66,67,68,69,70] (fun j  => ([(11,.int .i64 (j:Nat))]:Slots)) (fun j R=>R) (fun j  => j≤(Md.tbl (m.at i)).length ∧ ∀ t ∈ (Md.tbl (m.at i)).take j,t.On=noN∨m.reach k f2 t.On=false) (fun j  => (Md.tbl (m.at i)).length - j) (0) ?_ ?_ (t0_ (t0_ (t0_ eR))) ?_
    · exact ⟨Nat.zero_le _,fun t ht=>by simp at ht⟩
    · exact ⟨rfl,True.intro⟩
    ·
     intro j hpf
     obtain ⟨hj,hjn⟩ := hpf
     show CJ _ _ _ _ _ (([(11,.int .i64 (j:Nat))]:Slots) ++ forget _ _) (_)
     refine zad <| sR <| oM rfl rfl <| oM rfl rfl <| oV (V_len rfl foc0 (Reads.sl _ _ _) Tryz.runUnderlying30) rfl <| oP (P_lss rfl rfl) rfl <| nT ?_
     first | (refine zao rfl (fun hg4 => ?_) (fun hg4 => ?_)) | (refine zap rfl (fun hg4 => ?_) (fun hg4 => ?_)) | (refine zar rfl (fun hg4 => ?_) (fun hg4 => ?_))
     ·
      refine kT <| zad <| zas <| zad ?_
      have hjl:j < (Md.tbl (m.at i)).length := by omega
      refine zai <| oM rfl rfl <| oM rfl rfl ?_
      first | (refine RJ_op rfl (OJ_V (zal rfl rfl rfl (by omega) foc0 (Reads.sl _ _ _) Tryz.runUnderlying30 Tryz.sizeOf37) rfl ?_)) | (refine RJ_op rfl (OJ_V (zal rfl rfl (Int.toNat_of_nonneg (by omega)).symm (by omega) foc0 (Reads.sl _ _ _) Tryz.runUnderlying30 Tryz.sizeOf37) rfl ?_))
      refine oP (zay rfl ⟨_,_,_,Tryz.runUnderlying37,rfl,rfl,Tryz.sizeOf9,rfl⟩) rfl <| oV (zaz rfl rfl (by omega) foc0 (Reads.sl _ _ _) rfl rfl Tryz.isAgg9) rfl <| oP (zdo rfl rfl Tryz.underlying9) rfl <| oM rfl rfl ?_
      first | (refine zbp 59 rfl (fun hg5B hg5 => ?_) (fun hg5B hg5 => ?_)) | (refine zbq 59 rfl (fun hg5B hg5 => ?_) (fun hg5B hg5 => ?_)) | (refine zbr 59 rfl (fun hg5B => ?_) (fun hg5B => ?_))
      ·
       refine gP (zab rfl rfl rfl hg5B) (zah rfl) rfl <| gP (zab rfl rfl rfl hg5B) (zah rfl) rfl <| gP (zab rfl rfl rfl hg5B) (zah rfl) rfl ?_
       first | (refine RJ_gy (zab rfl rfl rfl hg5B) (OJ_V (zal rfl rfl rfl (by omega) foc0 (Reads.sl _ _ _) Tryz.runUnderlying30 Tryz.sizeOf37) rfl ?_)) | (refine RJ_gy (zab rfl rfl rfl hg5B) (OJ_V (zal rfl rfl (Int.toNat_of_nonneg (by omega)).symm (by omega) foc0 (Reads.sl _ _ _) Tryz.runUnderlying30 Tryz.sizeOf37) rfl ?_))
       refine gP (zab rfl rfl rfl hg5B) (zay rfl ⟨_,_,_,Tryz.runUnderlying37,rfl,rfl,Tryz.sizeOf9,rfl⟩) rfl <| gV (zab rfl rfl rfl hg5B) (zaz rfl rfl (by omega) foc0 (Reads.sl _ _ _) rfl rfl Tryz.isAgg9) rfl <| gP (zab rfl rfl rfl hg5B) (zah rfl) rfl <| gP (zab rfl rfl rfl hg5B) (zah rfl) rfl <| gP (zab rfl rfl rfl hg5B) (P_add rfl rfl (by omega)) rfl <| RJ_gy (zab rfl rfl rfl hg5B) <| zaq ((ih f2 rfl ((Md.tbl (m.at i)).getD j tyapi_Target.dflt).On)) rfl Tryz.call76 (Dels.cons del1 (Dels.cons del1 Dels.nil)) rfl fun _ hc8=>oP (za2 rfl hg5B rfl) rfl <| nT ?_
       first | (refine zao rfl (fun hg6 => ?_) (fun hg6 => ?_)) | (refine zap rfl (fun hg6 => ?_) (fun hg6 => ?_)) | (refine zar rfl (fun hg6 => ?_) (fun hg6 => ?_))
       ·
        refine sR <| oA rfl rfl <| nT <| zaj <| zam <| zae <| zbb <| zam <| zae <| zan (res1 Tryz.results76 rfl) <| CSpec.close () ?_ ?_ (t0_ (t0_ (eD eR)))
        ·
         refine bv <| Eq.symm ?_
         rw [Md.reach_step hfn,Bool.or_eq_true]
         exact .inr (List.any_eq_true.2 ⟨_,zb9 tyapi_Target.dflt hjl,by simp_all⟩)
        · trivial
       ·
        refine za8 <| zak <| zat <| zai <| oM rfl rfl <| oP (P_add rfl rfl (by omega)) rfl <| oA rfl rfl <| za0 <| za6 (j + 1) (by first | omega | (simp only []; omega)) ?_ (by repeat (first | exact Kp.base | exact Kp.self | refine Kp.cons rfl ?_ | refine Kp.forget rfl ?_)) ?_ (t2_ (t0_ (t0_ eR)))
        ·
         refine ⟨by omega,fun t ht => ?_⟩
         rw [takeD tyapi_Target.dflt hjl] at ht
         rcases List.mem_append.1 ht with h | h
         · exact hjn t h
         · rw [List.mem_singleton] at h; subst h
           first | (left; simp_all; done) | (right; simp_all; done)
        · exact ⟨rfl,True.intro⟩
      ·
       refine RJ_gn (GY_no rfl rfl rfl hg5B) rfl rfl <| RJ_gn (GY_no rfl rfl rfl hg5B) rfl rfl <| RJ_gn (GY_no rfl rfl rfl hg5B) rfl rfl <| RJ_gn (GY_no rfl rfl rfl hg5B) rfl rfl <| RJ_gn (GY_no rfl rfl rfl hg5B) rfl rfl <| RJ_gn (GY_no rfl rfl rfl hg5B) rfl rfl <| RJ_gn (GY_no rfl rfl rfl hg5B) rfl rfl <| RJ_gn (GY_no rfl rfl rfl hg5B) rfl rfl <| RJ_gn (GY_no rfl rfl rfl hg5B) rfl rfl <| RJ_gn (GY_no rfl rfl rfl hg5B) rfl rfl <| oP (za5 rfl hg5B rfl) rfl <| nT <| zbf rfl rfl <| za8 <| zak <| zat <| zai <| oM rfl rfl <| oP (P_add rfl rfl (by omega)) rfl <| oA rfl rfl <| za0 <| za6 (j + 1) (by first | omega | (simp only []; omega)) ?_ (by repeat (first | exact Kp.base | exact Kp.self | refine Kp.cons rfl ?_ | refine Kp.forget rfl ?_)) ?_ (t0_ (t0_ (t0_ eR)))
       ·
        refine ⟨by omega,fun t ht => ?_⟩
        rw [takeD tyapi_Target.dflt hjl] at ht
        rcases List.mem_append.1 ht with h | h
        · exact hjn t h
        · rw [List.mem_singleton] at h; subst h
          first | (left; simp_all; done) | (right; simp_all; done)
       · exact ⟨rfl,True.intro⟩
     ·
      refine zbg <| zaw <| zav <| zau <| zat <| sR <| oA rfl rfl <| nT <| zaj <| zan (res1 Tryz.results76 rfl) <| CSpec.close () ?_ ?_ (t1_ (t1_ (eD eR)))
      ·
       refine bv <| Eq.symm ?_
       obtain rfl:j=(Md.tbl (m.at i)).length := by omega
       rw [List.take_length] at hjn
       rw [Md.reach_step hfn,decide_eq_false (show ¬ i=k by omega),Bool.false_or,List.any_eq_false]
       intro t ht
       rcases hjn t ht with h | h <;> simp [h]
      · trivial
end Go.Proofs
set_option linter.unusedSimpArgs false
set_option maxRecDepth 20000
namespace Go.Proofs
open Go.VG
theorem zp3 (v0:Int):∀ w,(Instr.build 33 (#[(0,.int .i64 v0)]:Array (Nat × Value))).run Tryz.prog w = .ok (.agg #[.int .i64 v0,.int .i64 0,.int .u64 0]) w := fun w=>by kernel_rfl
theorem zri {W:World} {b k:Nat} {c:RH} {m:Md} : ∀ (f dp:Nat) (n:ByteArray),f + dp=m.dv.length + 1→CSpec Tryz.prog W 76 [ptr b 0,.string n,.int .i64 (k:Int),.int .i64 (dp:Int)] [blk b 72 (zbi c m),RefR c m] (fun _:Unit => .bool (m.reach k f n)) (fun _=>True) (fun _ F=>blk b 72 (zbi c m)::RefR c m::F)
  | 0,_,_,h=>zkl h (fun f2 e=>by omega)
  | f + 1,dp,_,h=>zkl h (fun f2 e n2=>by obtain rfl:f2=f := by omega
                                         exact zri f2 (dp + 1) n2 (by omega))
theorem kq {m:Md} {k:Nat} (h:m.isD k):∀ q:Nat,(k:Int)=(q:Int)→q < m.dv.length∧(m.at q).gone=false := fun q hq=>by
  obtain rfl:k=q := by omega
  exact ⟨h.1,h.2.1⟩
section
variable {m:Md} {xs:List api_Target} {i k:Nat}
abbrev ldP1 (m:Md) (t:api_Target):Bool := decide (t.On≠noN) && (m.find t.On).isNone
abbrev ldP2 (m:Md) (k:Nat) (t:api_Target):Bool := decide (t.On≠noN) && m.reach k (m.dv.length + 1) t.On
theorem zke {p:api_Target→Bool} (hi:i < xs.length) (h:(xs.take i).any p=false) (h2:p (xs.getD i tyapi_Target.dflt)=false):(xs.take (i + 1)).any p=false := by
  rw [takeD tyapi_Target.dflt hi,List.any_append,h,List.any_cons,h2]; rfl
theorem zs0 {p:api_Target→Bool} (hi:i < xs.length) (h2:p (xs.getD i tyapi_Target.dflt)=true):xs.any p=true := List.any_eq_true.2 ⟨_,zb9 tyapi_Target.dflt hi,h2⟩
theorem ld_ok {n:ByteArray} (hd:m.dev n=some k) (hc:chk xs=0) (h1:xs.any (ldP1 m)=false) (h2:xs.any (ldP2 m k)=false):m.ldE n xs=if m.fits xs then 0 else 1 := by
  unfold Md.ldE; rw [hd]
  show (if chk xs≠0 then _ else if _ then _ else if _ then _ else _)=_
  rw [if_neg (by simp [hc]),if_neg (by rw [h1]; decide),if_neg (by rw [h2]; decide)]
theorem ld_chk {n:ByteArray} (hd:m.dev n=some k) (hc:chk xs≠0):m.ldE n xs=chk xs := by
  unfold Md.ldE; rw [hd]
  show (if chk xs≠0 then _ else _)=_
  rw [if_pos hc]
theorem zze {n:ByteArray} (hd:m.dev n=some k) (hc:chk xs=0) (h1:xs.any (ldP1 m)=true):m.ldE n xs=12 := by
  unfold Md.ldE; rw [hd]
  show (if chk xs≠0 then _ else if _ then _ else _)=_
  rw [if_neg (by simp [hc]),if_pos h1]
theorem ld_cyc {n:ByteArray} (hd:m.dev n=some k) (hc:chk xs=0) (h1:xs.any (ldP1 m)=false) (h2:xs.any (ldP2 m k)=true):m.ldE n xs=21 := by
  unfold Md.ldE; rw [hd]
  show (if chk xs≠0 then _ else if _ then _ else if _ then _ else _)=_
  rw [if_neg (by simp [hc]),if_neg (by rw [h1]; decide),if_pos h2]
theorem zl7 {n:ByteArray} (h:m.ldE n xs≠0):m.ldS n xs=m := by
  unfold Md.ldS
  cases hd:m.dev n with
  | none=>rfl
  | some k=>exact if_neg h
theorem zzf {n:ByteArray} (hd:m.dev n=some k) (h:m.ldE n xs=0):m.ldS n xs=m.set k { m.at k with new := xs,hn := true } := by
  unfold Md.ldS; rw [hd]; exact if_pos h
end
theorem zzg {W:World} {b:Nat} {A:HP} {v:Value} {xs:List api_Target} {c:RH} {m:Md} {n:ByteArray} (hA:Reads A tyapi_Target v xs) :
    CSpec Tryz.prog W 29 [ptr b 0,.string n,v] [A,blk b 72 (zbi c m),RefR c m] (fun _:RH => .int .i64 (m.ldE n xs)) (fun _=>True) (fun c2 F=>A::blk b 72 (zbi c2 (m.ldS n xs))::RefR c2 (m.ldS n xs)::F) := by
 refine CSpec.of_body Tryz.func29 rfl Tryz.ntmps29 rfl fun F => ?_
 show CJ _ _ _ _ _ _ (_::_::_::F)
 refine zba (zci foc2) fun hW => ?_
 have hO := hW.ok
 have hln := hW.big.len
 have hll := hW.len
 have hat := hW.at
 refine sR <| oA rfl rfl <| nT <| sR <| oM rfl rfl <| oM rfl rfl <| oO <| zaq (zgs) rfl Tryz.call65 (Dels.cons del1 (Dels.cons del1 Dels.nil)) rfl fun _ hc1=>oA rfl rfl <| nT <| zad <| sR <| oM rfl rfl <| oP (P_lss rfl rfl) rfl <| nT ?_
 first | (refine zao rfl (fun hg1 => ?_) (fun hg1 => ?_)) | (refine zap rfl (fun hg1 => ?_) (fun hg1 => ?_)) | (refine zar rfl (fun hg1 => ?_) (fun hg1 => ?_))
 ·
  refine sR <| oA rfl rfl <| nT <| zaj <| zae <| zan (res1 Tryz.results29 rfl) ?_
  have e1:m.ldE n xs=12∧m.ldS n xs=m := by
    rcases Md.devI_cases (m:=m) (n:=n) with ⟨h1,_⟩ | ⟨k,_,h2,_⟩
    · unfold Md.ldE Md.ldS; rw [h1]; exact ⟨rfl,rfl⟩
    · exfalso; omega
  rw [e1.2]
  refine CSpec.close c ?_ ?_ (t2_ (t0_ (t0_ eR)))
  · rw [e1.1]
  · trivial
 ·
  refine kT <| zad <| zad ?_
  obtain ⟨hdn,hdi⟩ | ⟨k,hdn,hdi,hk,hfk⟩ := Md.devI_cases (m:=m) (n:=n)
  · exfalso; omega
  rw [hdi]
  have hkl := hk.1
  refine zai <| oM rfl rfl <| oO <| zaq (zes hA zk7) rfl Tryz.call75 (Dels.cons del2 Dels.nil) rfl fun _ hc2=>oA rfl rfl <| nT <| sR <| oM rfl rfl <| oP (P_neq rfl rfl) rfl <| nT ?_
  first | (refine zao rfl (fun hg2 => ?_) (fun hg2 => ?_)) | (refine zap rfl (fun hg2 => ?_) (fun hg2 => ?_)) | (refine zar rfl (fun hg2 => ?_) (fun hg2 => ?_))
  ·
   refine sR <| oM rfl rfl <| oA rfl rfl <| nT <| zaj <| zae <| zan (res1 Tryz.results29 rfl) ?_
   have e1 := ld_chk (m:=m) hdn (show chk xs≠0 by assumption)
   have e2 := zl7 (m:=m) (n:=n) (xs:=xs) (by rw [e1]; assumption)
   rw [e2]
   refine CSpec.close c ?_ ?_ (t0_ (t0_ (t0_ eR)))
   · rw [e1]
   · trivial
  ·
   refine kT <| zad <| zad ?_
   have hcx:chk xs=0 := by simp_all
   have hx64 := (zbx hcx).1
   refine zai <| oA rfl rfl <| nT <| zas <| zbe (X:=Nat) [6,9,21,22,23,24,25,26,27,28,29,30,31,32,33,34,35,36,37,38,39,40,41,42] (fun i  => ([(9,.int .i64 (i:Nat))]:Slots)) (fun i R=>R) (fun i  => i≤xs.length∧(xs.take i).any (ldP1 m)=false) (fun i  => xs.length - i) (0) ?_ ?_ (t0_ (t0_ (t0_ eR))) ?_
   · exact ⟨Nat.zero_le _,rfl⟩
   · exact ⟨rfl,True.intro⟩
   ·
    intro i hpf
    obtain ⟨hi,hany⟩ := hpf
    show CJ _ _ _ _ _ (([(9,.int .i64 (i:Nat))]:Slots) ++ forget _ _) (_)
    refine zad <| sR <| oM rfl rfl <| oM rfl rfl <| oV (V_len rfl foc0 hA Tryz.runUnderlying30) rfl <| oP (P_lss rfl rfl) rfl <| nT ?_
    first | (refine zao rfl (fun hg3 => ?_) (fun hg3 => ?_)) | (refine zap rfl (fun hg3 => ?_) (fun hg3 => ?_)) | (refine zar rfl (fun hg3 => ?_) (fun hg3 => ?_))
    ·
     refine kT <| zad <| zas <| zad ?_
     have hlt:i < xs.length := by omega
     have hfc := Md.findI_cases (m:=m) (n:=(xs.getD i tyapi_Target.dflt).On)
     refine zai <| oM rfl rfl <| oM rfl rfl ?_
     first | (refine RJ_op rfl (OJ_V (zal rfl rfl rfl (by first | omega | (simp only [List.length_set]; omega)) foc0 hA Tryz.runUnderlying30 Tryz.sizeOf37) rfl ?_)) | (refine RJ_op rfl (OJ_V (zal rfl rfl (Int.toNat_of_nonneg (by first | omega | (simp only [List.length_set]; omega))).symm (by first | omega | (simp only [List.length_set]; omega)) foc0 hA Tryz.runUnderlying30 Tryz.sizeOf37) rfl ?_))
     refine oP (zay rfl ⟨_,_,_,Tryz.runUnderlying37,rfl,rfl,Tryz.sizeOf9,rfl⟩) rfl <| oV (zaz rfl rfl (by first | omega | (simp only [List.length_set]; omega)) foc0 hA rfl rfl Tryz.isAgg9) rfl <| oP (zdo rfl rfl Tryz.underlying9) rfl <| oM rfl rfl ?_
     first | (refine zbp 33 rfl (fun hg4B hg4 => ?_) (fun hg4B hg4 => ?_)) | (refine zbq 33 rfl (fun hg4B hg4 => ?_) (fun hg4B hg4 => ?_)) | (refine zbr 33 rfl (fun hg4B => ?_) (fun hg4B => ?_))
     ·
      refine gP (zab rfl rfl rfl hg4B) (zah rfl) rfl <| gP (zab rfl rfl rfl hg4B) (zah rfl) rfl <| gP (zab rfl rfl rfl hg4B) (zah rfl) rfl ?_
      first | (refine RJ_gy (zab rfl rfl rfl hg4B) (OJ_V (zal rfl rfl rfl (by first | omega | (simp only [List.length_set]; omega)) foc0 hA Tryz.runUnderlying30 Tryz.sizeOf37) rfl ?_)) | (refine RJ_gy (zab rfl rfl rfl hg4B) (OJ_V (zal rfl rfl (Int.toNat_of_nonneg (by first | omega | (simp only [List.length_set]; omega))).symm (by first | omega | (simp only [List.length_set]; omega)) foc0 hA Tryz.runUnderlying30 Tryz.sizeOf37) rfl ?_))
      refine gP (zab rfl rfl rfl hg4B) (zay rfl ⟨_,_,_,Tryz.runUnderlying37,rfl,rfl,Tryz.sizeOf9,rfl⟩) rfl <| gV (zab rfl rfl rfl hg4B) (zaz rfl rfl (by first | omega | (simp only [List.length_set]; omega)) foc0 hA rfl rfl Tryz.isAgg9) rfl <| RJ_gy (zab rfl rfl rfl hg4B) <| zaq (zew) rfl Tryz.call39 (Dels.cons del1 (Dels.cons del1 Dels.nil)) rfl fun _ hc3=>gP (zab rfl rfl rfl hg4B) (P_lss rfl rfl) rfl <| oP (za2 rfl hg4B rfl) rfl <| nT ?_
      first | (refine zao rfl (fun hg5 => ?_) (fun hg5 => ?_)) | (refine zap rfl (fun hg5 => ?_) (fun hg5 => ?_)) | (refine zar rfl (fun hg5 => ?_) (fun hg5 => ?_))
      ·
       refine sR <| oA rfl rfl <| nT <| zaj <| zam <| zae <| zbb <| zam <| zae <| zan (res1 Tryz.results29 rfl) ?_
       have e1 := zze hdn hcx (zs0 hlt (by obtain ⟨h8,h9⟩ | ⟨q,h8,h9,_⟩ := hfc <;> simp_all <;> omega))
       have e2 := zl7 (m:=m) (n:=n) (xs:=xs) (by rw [e1]; decide)
       rw [e2]
       refine CSpec.close c ?_ ?_ (t2_ (t0_ (t0_ eR)))
       · rw [e1]
       · trivial
      ·
       refine za8 <| zak <| zat <| zai <| oM rfl rfl <| oP (P_add rfl rfl (by first | omega | (simp only [List.length_set]; omega))) rfl <| oA rfl rfl <| za0 <| za6 (i + 1) (by first | omega | (simp only []; omega)) ?_ (by repeat (first | exact Kp.base | exact Kp.self | refine Kp.cons rfl ?_ | refine Kp.forget rfl ?_)) ?_ (t2_ (t0_ (t0_ eR)))
       · exact ⟨by omega,zke hlt hany (by obtain ⟨h8,h9⟩ | ⟨q,h8,h9,_⟩ := hfc <;> simp_all)⟩
       · exact ⟨rfl,True.intro⟩
     ·
      refine RJ_gn (GY_no rfl rfl rfl hg4B) rfl rfl <| RJ_gn (GY_no rfl rfl rfl hg4B) rfl rfl <| RJ_gn (GY_no rfl rfl rfl hg4B) rfl rfl <| RJ_gn (GY_no rfl rfl rfl hg4B) rfl rfl <| RJ_gn (GY_no rfl rfl rfl hg4B) rfl rfl <| RJ_gn (GY_no rfl rfl rfl hg4B) rfl rfl <| RJ_gn (GY_no rfl rfl rfl hg4B) rfl rfl <| RJ_gn (GY_no rfl rfl rfl hg4B) rfl rfl <| oP (za5 rfl hg4B rfl) rfl <| nT <| zbf rfl rfl <| za8 <| zak <| zat <| zai <| oM rfl rfl <| oP (P_add rfl rfl (by first | omega | (simp only [List.length_set]; omega))) rfl <| oA rfl rfl <| za0 <| za6 (i + 1) (by first | omega | (simp only []; omega)) ?_ (by repeat (first | exact Kp.base | exact Kp.self | refine Kp.cons rfl ?_ | refine Kp.forget rfl ?_)) ?_ (t0_ (t0_ (t0_ eR)))
      · exact ⟨by omega,zke hlt hany (by obtain ⟨h8,h9⟩ | ⟨q,h8,h9,_⟩ := hfc <;> simp_all)⟩
      · exact ⟨rfl,True.intro⟩
    ·
     refine zbg <| zaw <| zav <| zau <| zat <| zad <| zad ?_
     obtain rfl:i=xs.length := by omega
     rw [List.take_length] at hany
     have h1x := hany
     clear hany hi
     refine zai <| oA rfl rfl <| nT <| zas <| zbe (X:=Nat) [6,10,43,44,45,46,47,48,49,50,51,52,53,54,55,56,57,58,59,60,61,62,63,64] (fun i  => ([(10,.int .i64 (i:Nat))]:Slots)) (fun i R=>R) (fun i  => i≤xs.length∧(xs.take i).any (ldP2 m k)=false) (fun i  => xs.length - i) (0) ?_ ?_ (t0_ (t0_ (t0_ eR))) ?_
     · exact ⟨Nat.zero_le _,rfl⟩
     · exact ⟨rfl,True.intro⟩
     ·
      intro i hpf
      obtain ⟨hi,hany⟩ := hpf
      show CJ _ _ _ _ _ (([(10,.int .i64 (i:Nat))]:Slots) ++ forget _ _) (_)
      refine zad <| sR <| oM rfl rfl <| oM rfl rfl <| oV (V_len rfl foc0 hA Tryz.runUnderlying30) rfl <| oP (P_lss rfl rfl) rfl <| nT ?_
      first | (refine zao rfl (fun hg6 => ?_) (fun hg6 => ?_)) | (refine zap rfl (fun hg6 => ?_) (fun hg6 => ?_)) | (refine zar rfl (fun hg6 => ?_) (fun hg6 => ?_))
      ·
       refine kT <| zad <| zas <| zad ?_
       have hlt:i < xs.length := by omega
       refine zai <| oM rfl rfl <| oM rfl rfl ?_
       first | (refine RJ_op rfl (OJ_V (zal rfl rfl rfl (by first | omega | (simp only [List.length_set]; omega)) foc0 hA Tryz.runUnderlying30 Tryz.sizeOf37) rfl ?_)) | (refine RJ_op rfl (OJ_V (zal rfl rfl (Int.toNat_of_nonneg (by first | omega | (simp only [List.length_set]; omega))).symm (by first | omega | (simp only [List.length_set]; omega)) foc0 hA Tryz.runUnderlying30 Tryz.sizeOf37) rfl ?_))
       refine oP (zay rfl ⟨_,_,_,Tryz.runUnderlying37,rfl,rfl,Tryz.sizeOf9,rfl⟩) rfl <| oV (zaz rfl rfl (by first | omega | (simp only [List.length_set]; omega)) foc0 hA rfl rfl Tryz.isAgg9) rfl <| oP (zdo rfl rfl Tryz.underlying9) rfl <| oM rfl rfl ?_
       first | (refine zbp 55 rfl (fun hg7B hg7 => ?_) (fun hg7B hg7 => ?_)) | (refine zbq 55 rfl (fun hg7B hg7 => ?_) (fun hg7B hg7 => ?_)) | (refine zbr 55 rfl (fun hg7B => ?_) (fun hg7B => ?_))
       ·
        refine gP (zab rfl rfl rfl hg7B) (zah rfl) rfl <| gP (zab rfl rfl rfl hg7B) (zah rfl) rfl <| gP (zab rfl rfl rfl hg7B) (zah rfl) rfl ?_
        first | (refine RJ_gy (zab rfl rfl rfl hg7B) (OJ_V (zal rfl rfl rfl (by first | omega | (simp only [List.length_set]; omega)) foc0 hA Tryz.runUnderlying30 Tryz.sizeOf37) rfl ?_)) | (refine RJ_gy (zab rfl rfl rfl hg7B) (OJ_V (zal rfl rfl (Int.toNat_of_nonneg (by first | omega | (simp only [List.length_set]; omega))).symm (by first | omega | (simp only [List.length_set]; omega)) foc0 hA Tryz.runUnderlying30 Tryz.sizeOf37) rfl ?_))
        refine gP (zab rfl rfl rfl hg7B) (zay rfl ⟨_,_,_,Tryz.runUnderlying37,rfl,rfl,Tryz.sizeOf9,rfl⟩) rfl <| gV (zab rfl rfl rfl hg7B) (zaz rfl rfl (by first | omega | (simp only [List.length_set]; omega)) foc0 hA rfl rfl Tryz.isAgg9) rfl <| gP (zab rfl rfl rfl hg7B) (zah rfl) rfl <| RJ_gy (zab rfl rfl rfl hg7B) <| zaq ((zri (m.dv.length + 1) 0 _ (by omega))) rfl Tryz.call76 (Dels.cons del1 (Dels.cons del1 Dels.nil)) rfl fun _ hc4=>oP (za2 rfl hg7B rfl) rfl <| nT ?_
        first | (refine zao rfl (fun hg8 => ?_) (fun hg8 => ?_)) | (refine zap rfl (fun hg8 => ?_) (fun hg8 => ?_)) | (refine zar rfl (fun hg8 => ?_) (fun hg8 => ?_))
        ·
         refine sR <| oA rfl rfl <| nT <| zaj <| zam <| zae <| zbb <| zam <| zae <| zan (res1 Tryz.results29 rfl) ?_
         have e1 := ld_cyc hdn hcx h1x (zs0 hlt (by simp_all))
         have e2 := zl7 (m:=m) (n:=n) (xs:=xs) (by rw [e1]; decide)
         rw [e2]
         refine CSpec.close c ?_ ?_ (t2_ (t0_ (t0_ eR)))
         · rw [e1]
         · trivial
        ·
         refine za8 <| zak <| zat <| zai <| oM rfl rfl <| oP (P_add rfl rfl (by first | omega | (simp only [List.length_set]; omega))) rfl <| oA rfl rfl <| za0 <| za6 (i + 1) (by first | omega | (simp only []; omega)) ?_ (by repeat (first | exact Kp.base | exact Kp.self | refine Kp.cons rfl ?_ | refine Kp.forget rfl ?_)) ?_ (t2_ (t0_ (t0_ eR)))
         · exact ⟨by omega,zke hlt hany (by simp_all)⟩
         · exact ⟨rfl,True.intro⟩
       ·
        refine RJ_gn (GY_no rfl rfl rfl hg7B) rfl rfl <| RJ_gn (GY_no rfl rfl rfl hg7B) rfl rfl <| RJ_gn (GY_no rfl rfl rfl hg7B) rfl rfl <| RJ_gn (GY_no rfl rfl rfl hg7B) rfl rfl <| RJ_gn (GY_no rfl rfl rfl hg7B) rfl rfl <| RJ_gn (GY_no rfl rfl rfl hg7B) rfl rfl <| RJ_gn (GY_no rfl rfl rfl hg7B) rfl rfl <| RJ_gn (GY_no rfl rfl rfl hg7B) rfl rfl <| oP (za5 rfl hg7B rfl) rfl <| nT <| zbf rfl rfl <| za8 <| zak <| zat <| zai <| oM rfl rfl <| oP (P_add rfl rfl (by first | omega | (simp only [List.length_set]; omega))) rfl <| oA rfl rfl <| za0 <| za6 (i + 1) (by first | omega | (simp only []; omega)) ?_ (by repeat (first | exact Kp.base | exact Kp.self | refine Kp.cons rfl ?_ | refine Kp.forget rfl ?_)) ?_ (t0_ (t0_ (t0_ eR)))
        · exact ⟨by omega,zke hlt hany (by simp_all)⟩
        · exact ⟨rfl,True.intro⟩
      ·
       refine zbg <| zaw <| zav <| zau <| zat <| zad <| zad ?_
       obtain rfl:i=xs.length := by omega
       rw [List.take_length] at hany
       have h2x := hany
       refine zai <| oM rfl rfl <| oM rfl rfl <| oO <| zaq (zzc hA hcx) rfl Tryz.call77 (Dels.cons del0 (Dels.cons del0 (Dels.cons del0 Dels.nil))) rfl fun _ hc5=>oP (P_not rfl) rfl <| nT ?_
       first | (refine zao rfl (fun hg9 => ?_) (fun hg9 => ?_)) | (refine zap rfl (fun hg9 => ?_) (fun hg9 => ?_)) | (refine zar rfl (fun hg9 => ?_) (fun hg9 => ?_))
       ·
        refine sR <| oA rfl rfl <| nT <| zaj <| zae <| zan (res1 Tryz.results29 rfl) ?_
        have e1 := show m.ldE n xs=1 by rw [ld_ok hdn hcx h1x h2x,if_neg (by simp_all)]
        have e2 := zl7 (m:=m) (n:=n) (xs:=xs) (by rw [e1]; decide)
        rw [e2]
        refine CSpec.close c ?_ ?_ (t0_ (t0_ (t0_ eR)))
        · rw [e1]
        · trivial
       ·
        refine kT <| zad <| zbd (Ent.trans (t2_ eR) (zc5 hkl)) <| za4 180224 (by kernel_rfl) rfl <| aN 0 1 rfl rfl (zah rfl) rfl <| aN 1 3 rfl rfl (zaf rfl) rfl <| aN 2 7 rfl rfl (zaa rfl ⟨_,_,_,Tryz.runUnderlying72,rfl,rfl,Tryz.sizeOf70,rfl⟩) rfl <| aV 3 15 rfl rfl (zac rfl) (t0_ (t0_ (t0_ (t0_ (t0_ (t0_ (t0_ (t0_ (t0_ eR))))))))) (zag rfl foc8 rfl Tryz.isAgg70) rfl <| aN 4 31 rfl rfl (zah rfl) rfl <| aN 5 63 rfl rfl (zah rfl) rfl <| aN 6 127 rfl rfl (zaf rfl) rfl <| aN 7 255 rfl rfl (zaa rfl ⟨_,_,_,Tryz.runUnderlying72,rfl,rfl,Tryz.sizeOf70,rfl⟩) rfl <| aV 8 511 rfl rfl (zac rfl) (t0_ (t0_ (t0_ (t0_ (t0_ (t0_ (t0_ (t0_ (t0_ eR))))))))) (zag rfl foc8 rfl Tryz.isAgg70) rfl <| aN 9 1023 rfl rfl (zah rfl) rfl <| aN 10 2047 rfl rfl (zah rfl) rfl <| zio (fun h hh=>zb2 (t:=tyapi_Target) h hh) <| AJ_op 11 4095 rfl (by kernel_rfl) rfl (zac rfl) <| zbv (t:=tyapi_Target) (bytes:=48) rfl rfl del0 foc7 hA Tryz.underlying30 zcf (by simp only [List.length_append,List.length_cons,List.length_nil,maxLen] at *; omega) (by simp only [List.length_append,List.length_cons,List.length_nil,maxLen] at *; omega) rfl fun p8 c9 => ?_
        refine ⟨fun _=>(t1_ (t1_ (t1_ (t1_ (t1_ (t1_ (t1_ (t1_ (t1_ (eD eR)))))))))),?_⟩
        first | (refine za9 12 8191 rfl (by kernel_rfl) rfl (by kernel_rfl) (by kernel_rfl) (zac rfl) (t1_ (t1_ (t1_ (t1_ (t1_ (t1_ (t1_ (t1_ (t1_ (eD eR)))))))))) (zal rfl rfl rfl (by first | omega | (simp only [List.length_set]; omega)) foc4 (Reads.sl _ _ _) Tryz.runUnderlying70 Tryz.sizeOf91) rfl (fun _ _ _ _ h=>h) ?_) | (refine za9 12 8191 rfl (by kernel_rfl) rfl (by kernel_rfl) (by kernel_rfl) (zac rfl) (t1_ (t1_ (t1_ (t1_ (t1_ (t1_ (t1_ (t1_ (t1_ (eD eR)))))))))) (zal rfl rfl (Int.toNat_of_nonneg (by first | omega | (simp only [List.length_set]; omega))).symm (by first | omega | (simp only [List.length_set]; omega)) foc4 (Reads.sl _ _ _) Tryz.runUnderlying70 Tryz.sizeOf91) rfl (fun _ _ _ _ h=>h) ?_)
        refine aN 13 16383 rfl rfl (zay rfl ⟨_,_,_,Tryz.runUnderlying91,rfl,rfl,Tryz.sizeOf30,rfl⟩) rfl <| AJ_op 14 32767 rfl (by kernel_rfl) rfl (zac rfl) <| zb3 (x' := ({ (c.l.getD k tyDv.dflt).1 with nw := ⟨p8,([] ++ xs).length,c9⟩ }, { (c.l.getD k tyDv.dflt).2 with new := xs })) rfl rfl rfl (by first | omega | (simp only [List.length_set]; omega)) foc5 rfl rfl rfl Tryz.sizeOf30 <| ⟨fun h=>absurd h (by decide),?_⟩
        refine AJ_op 15 65535 rfl (by kernel_rfl) rfl (zac rfl) <| OJ_V (zal rfl rfl rfl (by simp only [List.length_set]; omega) foc5 (Reads.sl _ _ _) Tryz.runUnderlying70 Tryz.sizeOf91) rfl <| ⟨fun h=>absurd h (by decide),?_⟩
        refine aN 16 131071 rfl rfl (zay rfl ⟨_,_,_,Tryz.runUnderlying91,rfl,rfl,Tryz.sizeOf4,rfl⟩) rfl <| AJ_op 17 262143 rfl (by kernel_rfl) rfl (zac rfl) <| zb3 (x' := (((c.l.set k ({ (c.l.getD k tyDv.dflt).1 with nw := ⟨p8,([] ++ xs).length,c9⟩ }, { (c.l.getD k tyDv.dflt).2 with new := xs })).getD k tyDv.dflt).1, { ((c.l.set k ({ (c.l.getD k tyDv.dflt).1 with nw := ⟨p8,([] ++ xs).length,c9⟩ }, { (c.l.getD k tyDv.dflt).2 with new := xs })).getD k tyDv.dflt).2 with hn := true })) rfl rfl rfl (by first | omega | (simp only [List.length_set]; omega)) foc5 rfl rfl rfl Tryz.sizeOf4 <| ⟨fun h=>absurd h (by decide),?_⟩
        refine aD <| sR <| oA rfl rfl <| nT <| zaj <| zan (res1 Tryz.results29 rfl) ?_
        have e0:m.ldE n xs=0 := by rw [ld_ok hdn hcx h1x h2x,if_pos (by simp_all)]
        rw [zzf hdn e0]
        refine CSpec.close (c.put k { c.hd k with nw := ⟨p8,([] ++ xs).length,c9⟩ } { m.at k with new := xs,hn := true }) ?_ ?_ (Ent.trans (Ent.trans (t1_ (t1_ (Ent.takeC del0 (show sl tyapi_Target (Sl3.v ⟨p8,([] ++ xs).length,c9⟩) ([] ++ xs)=sl tyapi_Target (Sl3.v ⟨p8,([] ++ xs).length,c9⟩) xs from rfl) (t1_ (Ent.takeC del1 (congrArg (sl tyDv _) (by simp only [stq (show k < c.l.length by omega),hd_at hW,List.set_set])) (t1_ (t1_ eR))))))) (zed (h := { c.hd k with nw := ⟨p8,([] ++ xs).length,c9⟩ }) (d := { m.at k with new := xs,hn := true }) (m' := (m.set k { m.at k with new := xs,hn := true })) hW hkl rfl (Md.ok_load hO hk hcx (fun t ht hne=>by
          have := List.any_eq_false.1 h1x t ht
          exact Option.isSome_iff_ne_none.2 (by simpa [ldP1,hne] using this)) (fun t ht hne=>by
          have := List.any_eq_false.1 h2x t ht
          simpa [ldP2,hne] using this)) (hW.big.set hkl rfl (hW.big.wl _) hW.big.tks hW.big.told hW.big.wr) rfl)) (t2_ (t2_ (t0_ (eD eR)))))
        · rw [e0]
        · trivial
theorem ztr {W:World} {b:Nat} {c:RH} {m:Md} {n:ByteArray} :
    CSpec Tryz.prog W 33 [ptr b 0,.string n] [blk b 72 (zbi c m),RefR c m] (fun _:RH => .int .i64 (m.suE n)) (fun _=>True) (fun c2 F=>blk b 72 (zbi c2 (m.suS n))::RefR c2 (m.suS n)::F) := by
 refine CSpec.of_body Tryz.func33 rfl Tryz.ntmps33 rfl fun F => ?_
 show CJ _ _ _ _ _ _ (_::_::F)
 refine zba (zci foc1) fun hW => ?_
 have hO := hW.ok
 have hln := hW.big.len
 have hll := hW.len
 have hat := hW.at
 refine sR <| oA rfl rfl <| nT <| sR <| oM rfl rfl <| oM rfl rfl <| oO <| zaq (zgs) rfl Tryz.call65 (Dels.cons del0 (Dels.cons del0 Dels.nil)) rfl fun _ hc1=>oA rfl rfl <| nT <| zad <| sR <| oM rfl rfl <| oP (P_lss rfl rfl) rfl <| nT ?_
 first | (refine zao rfl (fun hg1 => ?_) (fun hg1 => ?_)) | (refine zap rfl (fun hg1 => ?_) (fun hg1 => ?_)) | (refine zar rfl (fun hg1 => ?_) (fun hg1 => ?_))
 ·
  refine sR <| oA rfl rfl <| nT <| zaj <| zae <| zan (res1 Tryz.results33 rfl) ?_
  have e1:m.suE n=12∧m.suS n=m := by
    rcases Md.devI_cases (m:=m) (n:=n) with ⟨h1,_⟩ | ⟨k,_,h2,_⟩
    · unfold Md.suE Md.suS; rw [h1]; exact ⟨rfl,rfl⟩
    · exfalso; omega
  rw [e1.2]
  refine CSpec.close c ?_ ?_ (t0_ (t0_ eR))
  · rw [e1.1]
  · trivial
 ·
  refine kT <| zad <| zad ?_
  obtain ⟨hdn,hdi⟩ | ⟨k,hdn,hdi,hk,hfk⟩ := Md.devI_cases (m:=m) (n:=n)
  · exfalso; omega
  rw [hdi]
  have hkl := hk.1
  refine zai <| oM rfl rfl <| oP (zaf rfl) rfl <| oP (zaa rfl ⟨_,_,_,Tryz.runUnderlying72,rfl,rfl,Tryz.sizeOf70,rfl⟩) rfl <| oV (zag rfl foc0 rfl Tryz.isAgg70) rfl <| oM rfl rfl ?_
  first | (refine RJ_op rfl (OJ_V (zal rfl rfl rfl (by first | omega | (simp only [List.length_set]; omega)) foc1 rdDv Tryz.runUnderlying70 Tryz.sizeOf91) rfl ?_)) | (refine RJ_op rfl (OJ_V (zal rfl rfl (Int.toNat_of_nonneg (by first | omega | (simp only [List.length_set]; omega))).symm (by first | omega | (simp only [List.length_set]; omega)) foc1 rdDv Tryz.runUnderlying70 Tryz.sizeOf91) rfl ?_))
  refine oP (zay rfl ⟨_,_,_,Tryz.runUnderlying91,rfl,rfl,Tryz.sizeOf4,rfl⟩) rfl <| oV (zaz rfl rfl (by first | omega | (simp only [List.length_set]; omega)) foc1 rdDv rfl rfl Tryz.isAgg4) rfl <| oM rfl rfl ?_
  first | (refine zbp 19 rfl (fun hg2B hg2 => ?_) (fun hg2B hg2 => ?_)) | (refine zbq 19 rfl (fun hg2B hg2 => ?_) (fun hg2B hg2 => ?_)) | (refine zbr 19 rfl (fun hg2B => ?_) (fun hg2B => ?_))
  ·
   refine RJ_gn (GY_no rfl rfl rfl hg2B) rfl rfl <| RJ_gn (GY_no rfl rfl rfl hg2B) rfl rfl <| RJ_gn (GY_no rfl rfl rfl hg2B) rfl rfl <| RJ_gn (GY_no rfl rfl rfl hg2B) rfl rfl <| RJ_gn (GY_no rfl rfl rfl hg2B) rfl rfl <| oP (za2 rfl hg2B rfl) rfl <| nT <| zbk rfl rfl <| sR <| oA rfl rfl <| nT <| zaj <| zae <| zan (res1 Tryz.results33 rfl) ?_
   have e0:m.suE n=20 := by
     unfold Md.suE; rw [hdn]
     refine if_pos ?_
     first | exact .inl (by rw [← hat]; assumption) | exact .inr (Md.oI_nonneg.1 (by have h9 := Md.wayI_nat (m:=m) (f:=m.dv.length + 1) (k:=k) (t:=⟨3,0,0⟩); rw [h9] at *; assumption))
   have e1:m.suS n=m := by unfold Md.suS; rw [hdn]; exact if_neg (by rw [e0]; decide)
   rw [e1]
   refine CSpec.close c ?_ ?_ (t0_ (t0_ eR))
   · rw [e0]
   · trivial
  ·
   refine gP (zab rfl rfl rfl hg2B) (zah rfl) rfl <| gP (zab rfl rfl rfl hg2B) (zah rfl) rfl <| gP (zab rfl rfl rfl hg2B) (zbm rfl (zp3 _)) rfl <| RJ_gy (zab rfl rfl rfl hg2B) <| zaq ((zik (k:=(k:Int)) (t:=⟨3,0,0⟩) hO (kq hk))) rfl Tryz.call40 (Dels.cons del0 (Dels.cons del0 Dels.nil)) rfl fun _ hc2=>gP (zab rfl rfl rfl hg2B) (P_geq rfl rfl) rfl <| oP (za5 rfl hg2B rfl) rfl <| nT ?_
   first | (refine zao rfl (fun hg3 => ?_) (fun hg3 => ?_)) | (refine zap rfl (fun hg3 => ?_) (fun hg3 => ?_)) | (refine zar rfl (fun hg3 => ?_) (fun hg3 => ?_))
   ·
    refine sR <| oA rfl rfl <| nT <| zaj <| zae <| zan (res1 Tryz.results33 rfl) ?_
    have e0:m.suE n=20 := by
      unfold Md.suE; rw [hdn]
      refine if_pos ?_
      first | exact .inl (by rw [← hat]; assumption) | exact .inr (Md.oI_nonneg.1 (by have h9 := Md.wayI_nat (m:=m) (f:=m.dv.length + 1) (k:=k) (t:=⟨3,0,0⟩); rw [h9] at *; assumption))
    have e1:m.suS n=m := by unfold Md.suS; rw [hdn]; exact if_neg (by rw [e0]; decide)
    rw [e1]
    refine CSpec.close c ?_ ?_ (t0_ (t0_ eR))
    · rw [e0]
    · trivial
   ·
    refine kT <| zad <| zbd (Ent.trans (t1_ eR) (zc5 hkl)) <| zai <| oM rfl rfl <| oP (zaf rfl) rfl <| oP (zaa rfl ⟨_,_,_,Tryz.runUnderlying72,rfl,rfl,Tryz.sizeOf70,rfl⟩) rfl <| oV (zag rfl foc7 rfl Tryz.isAgg70) rfl <| oM rfl rfl ?_
    first | (refine RJ_op rfl (OJ_V (zal rfl rfl rfl (by first | omega | (simp only [List.length_set]; omega)) foc4 (Reads.sl _ _ _) Tryz.runUnderlying70 Tryz.sizeOf91) rfl ?_)) | (refine RJ_op rfl (OJ_V (zal rfl rfl (Int.toNat_of_nonneg (by first | omega | (simp only [List.length_set]; omega))).symm (by first | omega | (simp only [List.length_set]; omega)) foc4 (Reads.sl _ _ _) Tryz.runUnderlying70 Tryz.sizeOf91) rfl ?_))
    refine oP (zay rfl ⟨_,_,_,Tryz.runUnderlying91,rfl,rfl,Tryz.sizeOf4,rfl⟩) rfl <| oO <| zb3 (x' := ((c.l.getD k tyDv.dflt).1, { (c.l.getD k tyDv.dflt).2 with susp := true })) rfl rfl rfl (by first | omega | (simp only [List.length_set]; omega)) foc4 rfl rfl rfl Tryz.sizeOf4 <| nT <| sR <| oA rfl rfl <| nT <| zaj <| zan (res1 Tryz.results33 rfl) ?_
    have e0:m.suE n=0 := by
      unfold Md.suE; rw [hdn]
      refine if_neg ?_
      rintro (h | h)
      · rw [← hat] at h; simp_all
      · have h8 := Md.oI_nonneg.2 h
        have h9 := Md.wayI_nat (m:=m) (f:=m.dv.length + 1) (k:=k) (t:=⟨3,0,0⟩)
        unfold Md.wayk at *
        omega
    have e1:m.suS n=m.set k { m.at k with susp := true } := by unfold Md.suS; rw [hdn]; exact if_pos e0
    rw [e1]
    refine CSpec.close (c.put k (c.hd k) { m.at k with susp := true }) ?_ ?_ (Ent.trans (Ent.trans (t0_ (t0_ (t0_ (t0_ (Ent.takeC del0 (congrArg (sl tyDv _) (by simp only [stq (show k < c.l.length by omega),hd_at hW,List.set_set])) (t0_ (t0_ eR))))))) (zed (h:=c.hd k) (d := { m.at k with susp := true }) (m' := (m.set k { m.at k with susp := true })) hW hkl rfl (Md.ok_susp hO hk) (hW.big.set hkl rfl (hW.big.wl _) hW.big.tks hW.big.told hW.big.wr) rfl)) (t1_ (t0_ eR)))
    · rw [e0]
    · trivial
end Go.Proofs
set_option linter.unusedSimpArgs false
set_option maxRecDepth 20000
namespace Go.Proofs
open Go.VG
theorem zg1:∀ w,(Instr.build 51 (#[]:Array (Nat × Value))).run Tryz.prog w = .ok (.agg #[.bool false,.int .i64 0,.int .u64 0,.int .i64 0]) w := fun w=>by kernel_rfl
theorem zf7 (v0:Int) (v1:Int) (v2:Int) (v3:Int) (v4:Int):∀ w,(Instr.build 94 (#[(0,.int .i64 v0),(1,.int .i64 v1),(2,.agg #[.int .i64 v2,.int .i64 v3,.int .u64 v4])]:Array (Nat × Value))).run Tryz.prog w = .ok (.agg #[.int .i64 v0,.int .i64 v1,.int .i64 v2,.int .i64 v3,.int .u64 v4]) w := fun w=>by kernel_rfl
theorem zhh (v0:Int) (v1:Int) (v2:Int) (v3:Int) (v4:Int):zbt Tryz.prog 89 1 [(0,.agg #[.int .i64 v0,.int .i64 v1,.int .i64 v2,.int .i64 v3,.int .u64 v4])] 94 [.int .i64 v0,.int .i64 v1,.int .i64 v2,.int .i64 v3,.int .u64 v4] := fun w=>by kernel_rfl
theorem zhz (v0:Int):∀ w,(Instr.build 51 (#[(1,.int .i64 v0)]:Array (Nat × Value))).run Tryz.prog w = .ok (.agg #[.bool false,.int .i64 v0,.int .u64 0,.int .i64 0]) w := fun w=>by kernel_rfl
theorem zf8 (v0:Bool) (v1:Int) (v2:Int):∀ w,(Instr.build 51 (#[(0,.bool v0),(2,.int .u64 v1),(3,.int .i64 v2)]:Array (Nat × Value))).run Tryz.prog w = .ok (.agg #[.bool v0,.int .i64 0,.int .u64 v1,.int .i64 v2]) w := fun w=>by kernel_rfl
theorem kq2 {m:Md} {k:Nat} (h:k < m.dv.length) (hg:(m.at k).gone=false):∀ q:Nat,(k:Int)=(q:Int)→q < m.dv.length∧(m.at q).gone=false := fun q hq=>by
  obtain rfl:k=q := by omega
  exact ⟨h,hg⟩
theorem zht {m:Md} {k:Nat} {t:api_Task} (hO:MdOk m) (hk:k < m.dv.length) (hg:(m.at k).gone=false) (h:0≤m.wayI (m.dv.length + 1) (k:Int) t):∃ w,m.wayk k t=some w∧m.wayI (m.dv.length + 1) (k:Int) t=(w:Int)∧m.isD w := by
  rw [Md.wayI_nat] at h
  obtain ⟨w,hw⟩ := Option.isSome_iff_exists.1 (Md.oI_nonneg.1 h)
  have := Md.way_is hO _ _ _ _ hk hg hw
  exact ⟨w,hw,by rw [Md.wayI_nat,hw]; rfl,this.1,this.2.1,this.2.2.1⟩
theorem zjr {m:Md} {k:Nat} {t:api_Task} (h:¬ 0≤m.wayI (m.dv.length + 1) (k:Int) t):m.wayk k t=none := by
  rw [Md.wayI_nat] at h
  exact Md.oI_none h
theorem zna {m:Md} {k w:Nat} {t:api_Task} (h:m.wayk k t=some w):(m.at k).isB=false := by
  cases hb:(m.at k).isB with
  | false=>rfl
  | true=>unfold Md.wayk at h; rw [Md.way_base hb] at h; cases h
theorem c_rDo {W:World} {b:Nat} {c:RH} {m:Md} {n:ByteArray} {t:api_Task} (hwr:m.wr < 100000000) (htk1:m.tks + 1≤100000) (hwq:∀ i,(m.at i).wait.length < 100000) (hb : -9223372036854775808≤t.At∧t.At≤9223372036854775807) :
    CSpec Tryz.prog W 12 [ptr b 0,.string n,.agg #[.int .i64 t.Kind,.int .i64 t.At,.int .u64 (t.Value.toNat:Int)]] [blk b 72 (zbi c m),RefR c m] (fun _:RH => .tuple #[.agg #[.bool (m.doA n t).Done,.int .i64 (m.doA n t).Ticket,.int .u64 ((m.doA n t).Value.toNat:Int),.int .i64 (m.doA n t).Error],.int .i64 (m.doE n t)]) (fun _=>True) (fun c2 F=>blk b 72 (zbi c2 (m.doS n t))::RefR c2 (m.doS n t)::F) := by
 refine CSpec.of_body Tryz.func12 rfl Tryz.ntmps12 rfl fun F => ?_
 show CJ _ _ _ _ _ _ (_::_::F)
 refine zba (zci foc1) fun hW => ?_
 have hO := hW.ok
 have hln := hW.big.len
 have hll := hW.len
 have hat := hW.at
 have htk := hW.big.tks
 refine sR <| oO <| O_box rfl rfl rfl fun b1=>oO <| zb1 Tryz.zeroValue51 rfl rfl fun b2=>oA rfl rfl <| nT <| sR <| oM rfl rfl <| oM rfl rfl <| oO <| zaq (zew) rfl Tryz.call39 (Dels.cons del2 (Dels.cons del2 Dels.nil)) rfl fun _ hc3=>oA rfl rfl <| nT <| zad <| zad ?_
 have hfc := Md.findI_cases (m:=m) (n:=n)
 refine zai <| oM rfl rfl <| oP (P_lss rfl rfl) rfl <| nT ?_
 first | (refine zao rfl (fun hg1 => ?_) (fun hg1 => ?_)) | (refine zap rfl (fun hg1 => ?_) (fun hg1 => ?_)) | (refine zar rfl (fun hg1 => ?_) (fun hg1 => ?_))
 ·
  refine sR <| oP (zbm rfl (zg1)) rfl <| oO <| zbj rfl rfl foc2 Tryz.sizeOf51 rfl rfl rfl <| oA rfl rfl <| nT <| zaj <| zae <| zan (resA2 Tryz.results12 (zb8 rfl foc2 Tryz.isAgg51 Tryz.sizeOf51 rfl rfl) (zcy rfl)) ?_
  have e1:m.doE n t=12∧m.doA n t=ans0∧m.doS n t=m := by
    rcases hfc with ⟨h1,_⟩ | ⟨k,_,h2,_⟩
    · exact Md.do_none h1
    · exfalso; omega
  rw [e1.2.2]
  refine CSpec.close c ?_ ?_ (t0_ (t0_ (eD (eD eR))))
  · rw [e1.1,e1.2.1]; rfl
  · trivial
 ·
  refine kT <| zad <| zad ?_
  obtain ⟨hfk,hfi⟩ | ⟨k,hfk,hfi,hkl,hkg,hkn⟩ := hfc
  · exfalso; omega
  rw [hfi]
  refine zai <| oP (zaa rfl ⟨_,_,_,Tryz.runUnderlying33,rfl,rfl,Tryz.sizeOf3,rfl⟩) rfl <| oV (zag rfl foc3 rfl Tryz.isAgg3) rfl <| oP (P_lss rfl rfl) rfl <| oM rfl rfl ?_
  first | (refine zbp 22 rfl (fun hg2B hg2 => ?_) (fun hg2B hg2 => ?_)) | (refine zbq 22 rfl (fun hg2B hg2 => ?_) (fun hg2B hg2 => ?_)) | (refine zbr 22 rfl (fun hg2B => ?_) (fun hg2B => ?_))
  ·
   refine RJ_gn (GY_no rfl rfl rfl hg2B) rfl rfl <| RJ_gn (GY_no rfl rfl rfl hg2B) rfl rfl <| RJ_gn (GY_no rfl rfl rfl hg2B) rfl rfl <| oP (za2 rfl hg2B rfl) rfl <| nT <| zbk rfl rfl <| sR <| oP (zbm rfl (zg1)) rfl <| oO <| zbj rfl rfl foc2 Tryz.sizeOf51 rfl rfl rfl <| oA rfl rfl <| nT <| zaj <| zae <| zan (resA2 Tryz.results12 (zb8 rfl foc2 Tryz.isAgg51 Tryz.sizeOf51 rfl rfl) (zcy rfl)) ?_
   have e1 := Md.do_kind (t:=t) hfk (by omega)
   rw [e1.2.2]
   refine CSpec.close c ?_ ?_ (t0_ (t0_ (eD (eD eR))))
   · rw [e1.1,e1.2.1]; rfl
   · trivial
  ·
   refine gP (zab rfl rfl rfl hg2B) (zaa rfl ⟨_,_,_,Tryz.runUnderlying33,rfl,rfl,Tryz.sizeOf3,rfl⟩) rfl <| gV (zab rfl rfl rfl hg2B) (zag rfl foc3 rfl Tryz.isAgg3) rfl <| gP (zab rfl rfl rfl hg2B) (P_gtr rfl rfl) rfl <| oP (za5 rfl hg2B rfl) rfl <| nT ?_
   first | (refine zao rfl (fun hg3 => ?_) (fun hg3 => ?_)) | (refine zap rfl (fun hg3 => ?_) (fun hg3 => ?_)) | (refine zar rfl (fun hg3 => ?_) (fun hg3 => ?_))
   ·
    refine sR <| oP (zbm rfl (zg1)) rfl <| oO <| zbj rfl rfl foc2 Tryz.sizeOf51 rfl rfl rfl <| oA rfl rfl <| nT <| zaj <| zae <| zan (resA2 Tryz.results12 (zb8 rfl foc2 Tryz.isAgg51 Tryz.sizeOf51 rfl rfl) (zcy rfl)) ?_
    have e1 := Md.do_kind (t:=t) hfk (by omega)
    rw [e1.2.2]
    refine CSpec.close c ?_ ?_ (t0_ (t0_ (eD (eD eR))))
    · rw [e1.1,e1.2.1]; rfl
    · trivial
   ·
    refine kT <| zad <| sR <| oM rfl rfl <| oP (zaf rfl) rfl <| oP (zaa rfl ⟨_,_,_,Tryz.runUnderlying72,rfl,rfl,Tryz.sizeOf70,rfl⟩) rfl <| oV (zag rfl foc0 rfl Tryz.isAgg70) rfl <| oM rfl rfl ?_
    first | (refine RJ_op rfl (OJ_V (zal rfl rfl rfl (by first | omega | (simp only [List.length_set]; omega)) foc1 rdDv Tryz.runUnderlying70 Tryz.sizeOf91) rfl ?_)) | (refine RJ_op rfl (OJ_V (zal rfl rfl (Int.toNat_of_nonneg (by first | omega | (simp only [List.length_set]; omega))).symm (by first | omega | (simp only [List.length_set]; omega)) foc1 rdDv Tryz.runUnderlying70 Tryz.sizeOf91) rfl ?_))
    refine oV (zb7 rfl rfl (by first | omega | (simp only [List.length_set]; omega)) foc1 rdDv rfl rfl Tryz.isAgg91 Tryz.sizeOf91) rfl <| oO <| zb1 Tryz.zeroValue91 rfl rfl fun b4=>oO <| zbj rfl rfl foc0 Tryz.sizeOf91 rfl rfl rfl <| nT <| sR <| oP (zaa rfl ⟨_,_,_,Tryz.runUnderlying91,rfl,rfl,Tryz.sizeOf4,rfl⟩) rfl <| oV (zag rfl foc0 rfl Tryz.isAgg4) rfl <| oP (P_not rfl) rfl <| oM rfl rfl ?_
    first | (refine zbp 38 rfl (fun hg4B hg4 => ?_) (fun hg4B hg4 => ?_)) | (refine zbq 38 rfl (fun hg4B hg4 => ?_) (fun hg4B hg4 => ?_)) | (refine zbr 38 rfl (fun hg4B => ?_) (fun hg4B => ?_))
    ·
     refine gP (zab rfl rfl rfl hg4B) (zaa rfl ⟨_,_,_,Tryz.runUnderlying91,rfl,rfl,Tryz.sizeOf4,rfl⟩) rfl <| gV (zab rfl rfl rfl hg4B) (zag rfl foc0 rfl Tryz.isAgg4) rfl <| gP (zab rfl rfl rfl hg4B) (P_not rfl) rfl <| oP (za2 rfl hg4B rfl) rfl <| oM rfl rfl ?_
     first | (refine zbp 43 rfl (fun hg5B hg5 => ?_) (fun hg5B hg5 => ?_)) | (refine zbq 43 rfl (fun hg5B hg5 => ?_) (fun hg5B hg5 => ?_)) | (refine zbr 43 rfl (fun hg5B => ?_) (fun hg5B => ?_))
     ·
      refine gP (zab rfl rfl rfl hg5B) (zaa rfl ⟨_,_,_,Tryz.runUnderlying91,rfl,rfl,Tryz.sizeOf4,rfl⟩) rfl <| gV (zab rfl rfl rfl hg5B) (zag rfl foc0 rfl Tryz.isAgg4) rfl <| gP (zab rfl rfl rfl hg5B) (P_not rfl) rfl <| oP (za2 rfl hg5B rfl) rfl <| nT ?_
      first | (refine zao rfl (fun hg6 => ?_) (fun hg6 => ?_)) | (refine zap rfl (fun hg6 => ?_) (fun hg6 => ?_)) | (refine zar rfl (fun hg6 => ?_) (fun hg6 => ?_))
      ·
       refine sR <| oP (zbm rfl (zg1)) rfl <| oO <| zbj rfl rfl foc3 Tryz.sizeOf51 rfl rfl rfl <| oA rfl rfl <| nT <| zaj <| zae <| zan (resA2 Tryz.results12 (zb8 rfl foc3 Tryz.isAgg51 Tryz.sizeOf51 rfl rfl) (zcy rfl)) ?_
       have e1 := Md.do_state (t:=t) hfk (by omega) ⟨by rw [← hat]; simp_all,by rw [← hat]; simp_all,by rw [← hat]; simp_all⟩
       rw [e1.2.2]
       refine CSpec.close c ?_ ?_ (t1_ (t1_ (eD (eD (eD eR)))))
       · rw [e1.1,e1.2.1]; rfl
       · trivial
      ·
       refine kT <| zad <| zad ?_
       have hst:¬ ((m.at k).isB=false∧(m.at k).hl=false∧(m.at k).susp=false) := by rw [← hat k]; simp_all
       refine zai <| oM rfl rfl <| oM rfl rfl <| oV (zbo rfl foc4 Tryz.isAgg33 Tryz.sizeOf33 rfl rfl) rfl <| oO <| zaq ((zik (k:=(k:Int)) (t:=t) hO (kq2 hkl hkg))) rfl Tryz.call40 (Dels.cons del1 (Dels.cons del1 Dels.nil)) rfl fun _ hc5=>oA rfl rfl <| nT <| sR <| oM rfl rfl <| oP (P_geq rfl rfl) rfl <| nT ?_
       first | (refine zao rfl (fun hg7 => ?_) (fun hg7 => ?_)) | (refine zap rfl (fun hg7 => ?_) (fun hg7 => ?_)) | (refine zar rfl (fun hg7 => ?_) (fun hg7 => ?_))
       ·
        refine sR <| oM rfl rfl <| oP (zaf rfl) rfl <| oP (zaa rfl ⟨_,_,_,Tryz.runUnderlying72,rfl,rfl,Tryz.sizeOf3,rfl⟩) rfl <| oV (zag rfl foc0 rfl Tryz.isAgg3) rfl <| oP (P_add rfl rfl (by first | omega | (simp only [List.length_set]; omega))) rfl <| oP (zaf rfl) rfl <| oP (zaa rfl ⟨_,_,_,Tryz.runUnderlying72,rfl,rfl,Tryz.sizeOf3,rfl⟩) rfl <| oO <| zbh rfl rfl foc0 rfl rfl Tryz.sizeOf3 <| nT <| zad ?_
        obtain ⟨w,hw,hwi,hwD⟩ := zht hO hkl hkg (show 0≤m.wayI (m.dv.length + 1) (k:Int) t by assumption)
        rw [hwi]
        have hwl := hwD.1
        have hww := hW.big.wl w
        refine zbd (Ent.trans (t1_ eR) (zc5 hwl)) <| zdl [sl tyDv c.dv.v c.l,blk b 72 [c.dv.v,.int .i64 ((m.tks:Int) + 1),c.tv.v],blk b1 33 [.int .i64 t.Kind,.int .i64 t.At,.int .u64 (t.Value.toNat:Int)]] 20971520 (by kernel_rfl) rfl <| aN 0 1 rfl rfl (zah rfl) rfl <| aN 1 3 rfl rfl (zaf rfl) rfl <| aN 2 7 rfl rfl (zaa rfl ⟨_,_,_,Tryz.runUnderlying72,rfl,rfl,Tryz.sizeOf70,rfl⟩) rfl <| aV 3 15 rfl rfl (zac rfl) (t4_ (t6_ (t8_ (eD (eD (eD (eD (eD (eD (eD (eD (fun _ _=>trivial)))))))))))) (zag rfl foc1 rfl Tryz.isAgg70) rfl <| aN 4 31 rfl rfl (zah rfl) rfl <| aN 5 63 rfl rfl (zah rfl) rfl <| aN 6 127 rfl rfl (zaf rfl) rfl <| aN 7 255 rfl rfl (zaa rfl ⟨_,_,_,Tryz.runUnderlying72,rfl,rfl,Tryz.sizeOf70,rfl⟩) rfl <| aV 8 511 rfl rfl (zac rfl) (t4_ (t6_ (t8_ (eD (eD (eD (eD (eD (eD (eD (eD (fun _ _=>trivial)))))))))))) (zag rfl foc1 rfl Tryz.isAgg70) rfl <| aN 9 1023 rfl rfl (zah rfl) rfl ?_
        first | (refine za9 10 2047 rfl (by kernel_rfl) rfl (by kernel_rfl) (by kernel_rfl) (zac rfl) (t4_ (t6_ (t8_ (eD (eD (eD (eD (eD (eD (eD (eD (fun _ _=>trivial)))))))))))) (zal rfl rfl rfl (by first | omega | (simp only [List.length_set]; omega)) foc0 (Reads.sl _ _ _) Tryz.runUnderlying70 Tryz.sizeOf91) rfl (fun _ _ _ _ h=>h) ?_) | (refine za9 10 2047 rfl (by kernel_rfl) rfl (by kernel_rfl) (by kernel_rfl) (zac rfl) (t4_ (t6_ (t8_ (eD (eD (eD (eD (eD (eD (eD (eD (fun _ _=>trivial)))))))))))) (zal rfl rfl (Int.toNat_of_nonneg (by first | omega | (simp only [List.length_set]; omega))).symm (by first | omega | (simp only [List.length_set]; omega)) foc0 (Reads.sl _ _ _) Tryz.runUnderlying70 Tryz.sizeOf91) rfl (fun _ _ _ _ h=>h) ?_)
        refine aN 11 4095 rfl rfl (zay rfl ⟨_,_,_,Tryz.runUnderlying91,rfl,rfl,Tryz.sizeOf89,rfl⟩) rfl <| aV 12 8191 rfl rfl (zac rfl) (t4_ (t6_ (t8_ (eD (eD (eD (eD (eD (eD (eD (eD (fun _ _=>trivial)))))))))))) (zaz rfl rfl (by first | omega | (simp only [List.length_set]; omega)) foc0 (Reads.sl _ _ _) rfl rfl Tryz.isAgg89) rfl <| aN 13 16383 rfl rfl (zah rfl) rfl <| aN 14 32767 rfl rfl (zaf rfl) rfl <| aN 15 65535 rfl rfl (zaa rfl ⟨_,_,_,Tryz.runUnderlying72,rfl,rfl,Tryz.sizeOf3,rfl⟩) rfl <| aV 16 131071 rfl rfl (zac rfl) (t4_ (t6_ (t8_ (eD (eD (eD (eD (eD (eD (eD (eD (fun _ _=>trivial)))))))))))) (zag rfl foc1 rfl Tryz.isAgg3) rfl <| aN 17 262143 rfl rfl (zah rfl) rfl <| aV 18 524287 rfl rfl (zac rfl) (t4_ (t6_ (t8_ (eD (eD (eD (eD (eD (eD (eD (eD (fun _ _=>trivial)))))))))))) (zbo rfl foc2 Tryz.isAgg33 Tryz.sizeOf33 rfl rfl) rfl <| aN 19 1048575 rfl rfl (zbm rfl (zf7 _ _ _ _ _)) rfl <| AJ_op 20 2097151 rfl (by kernel_rfl) rfl (zac rfl) <| za7 rfl (zhh _ _ _ _ _) rfl fun b6 => ?_
        refine ⟨fun _=>(t5_ (t7_ (t9_ (eD (eD (eD (eD (eD (eD (eD (eD (eD (fun _ _=>trivial))))))))))))),?_⟩
        refine AJ_op 21 4194303 rfl (by kernel_rfl) rfl (zac rfl) <| zbv (t:=tyWt) (bytes:=40) rfl rfl del4 foc0 (Reads.lit (t:=tyWt) (ys:=[(⟨m.tks + 1,k,t⟩:Wt)]) rfl rfl (by decide) (by decide) rfl) Tryz.underlying89 zjq (by have h8 := hwq w; simp only [List.length_append,List.length_cons,List.length_nil,maxLen] at *; omega) (by have h8 := hwq w; simp only [List.length_append,List.length_cons,List.length_nil,maxLen] at *; omega) rfl fun p7 c8=>⟨fun _=>(t5_ (t7_ (t9_ (eD (eD (eD (eD (eD (eD (eD (eD (eD (fun _ _=>trivial))))))))))))),?_⟩
        first | (refine AJ_op 22 8388607 rfl (by kernel_rfl) rfl (zac rfl) (OJ_V (zal rfl rfl rfl (by first | omega | (simp only [List.length_set]; omega)) foc5 (Reads.sl _ _ _) Tryz.runUnderlying70 Tryz.sizeOf91) rfl ?_)) | (refine AJ_op 22 8388607 rfl (by kernel_rfl) rfl (zac rfl) (OJ_V (zal rfl rfl (Int.toNat_of_nonneg (by first | omega | (simp only [List.length_set]; omega))).symm (by first | omega | (simp only [List.length_set]; omega)) foc5 (Reads.sl _ _ _) Tryz.runUnderlying70 Tryz.sizeOf91) rfl ?_))
        refine ⟨fun h=>absurd h (by decide),?_⟩
        refine aN 23 16777215 rfl rfl (zay rfl ⟨_,_,_,Tryz.runUnderlying91,rfl,rfl,Tryz.sizeOf89,rfl⟩) rfl <| AJ_op 24 33554431 rfl (by kernel_rfl) rfl (zac rfl) <| zb3 (x' := ({ (c.l.getD w tyDv.dflt).1 with wt := ⟨p7,((m.at w).wait ++ [(⟨m.tks + 1,k,t⟩:Wt)]).length,c8⟩ }, { (c.l.getD w tyDv.dflt).2 with wait := (c.l.getD w tyDv.dflt).2.wait ++ [(⟨m.tks + 1,k,t⟩:Wt)] })) rfl rfl rfl (by first | omega | (simp only [List.length_set]; omega)) foc5 rfl rfl rfl Tryz.sizeOf89 <| ⟨fun h=>absurd h (by decide),?_⟩
        refine aD <| sR <| oM rfl rfl <| oP (zaf rfl) rfl <| oP (zaa rfl ⟨_,_,_,Tryz.runUnderlying72,rfl,rfl,Tryz.sizeOf3,rfl⟩) rfl <| oV (zag rfl foc8 rfl Tryz.isAgg3) rfl <| oP (zbm rfl (zhz _)) rfl <| oO <| zbj rfl rfl foc10 Tryz.sizeOf51 rfl rfl rfl <| oA rfl rfl <| nT <| zaj <| zae <| zan (resA2 Tryz.results12 (zb8 rfl foc10 Tryz.isAgg51 Tryz.sizeOf51 rfl rfl) (zcy rfl)) ?_
        have e1 := Md.do_wait (t:=t) hfk (by omega) hst hw
        rw [e1.2.2]
        refine CSpec.close (c.put w { c.hd w with wt := ⟨p7,((m.at w).wait ++ [(⟨m.tks + 1,k,t⟩:Wt)]).length,c8⟩ } { m.at w with wait := (m.at w).wait ++ [(⟨m.tks + 1,k,t⟩:Wt)] }) ?_ ?_ (Ent.trans (Ent.trans (t2_ (t2_ (t2_ (t0_ (Ent.takeC del1 (congrArg (sl tyDv _) (by simp only [stq (show w < c.l.length by omega),hd_at hW,List.set_set])) (t1_ (t1_ eR))))))) (zed (h := { c.hd w with wt := ⟨p7,((m.at w).wait ++ [(⟨m.tks + 1,k,t⟩:Wt)]).length,c8⟩ }) (d := { m.at w with wait := (m.at w).wait ++ [(⟨m.tks + 1,k,t⟩:Wt)] }) (m' := ({ m with tks := m.tks + 1 }.addW w (⟨m.tks + 1,k,t⟩:Wt))) hW hwl rfl (Md.ok_addW hO hwD ⟨hkl,hkg,zna hw,by show 1≤t.Kind; omega,by show t.Kind≤3; omega,(show inT t from hb)⟩) (hW.big.set hwl rfl (by show ((m.at w).wait ++ _).length≤_; rw [List.length_append]; have := hwq w; simp; omega) htk1 hW.big.told hW.big.wr) rfl)) (t2_ (t0_ (eD (eD (eD (eD eR)))))))
        · rw [e1.1,e1.2.1]; rfl
        · trivial
       ·
        refine kT <| sR <| oM rfl rfl <| oM rfl rfl <| oV (zbo rfl foc4 Tryz.isAgg33 Tryz.sizeOf33 rfl rfl) rfl <| oO <| zaq ((zhs (t:=t) hO hwr ⟨hkl,hkg⟩)) rfl Tryz.call41 (Dels.cons del0 (Dels.cons del0 Dels.nil)) rfl fun c9 h9=>oM rfl rfl <| oP (za1 rfl rfl) rfl <| oP (za1 rfl rfl) rfl <| oA rfl rfl <| oA rfl rfl <| nT <| sR <| oM rfl rfl <| oM rfl rfl <| oP (zbm rfl (zf8 _ _ _)) rfl <| oO <| zbj rfl rfl foc3 Tryz.sizeOf51 rfl rfl rfl <| oA rfl rfl <| nT <| zaj <| zan (resA2 Tryz.results12 (zb8 rfl foc3 Tryz.isAgg51 Tryz.sizeOf51 rfl rfl) (zcy rfl)) ?_
        have e1 := Md.do_go (t:=t) hfk (by omega) hst (zjr (by assumption))
        rw [e1.2.2]
        refine CSpec.close c9 ?_ ?_ (Ent.takeC del0 (congrArg (blk b 72) h9.symm) (t0_ (eD (eD (eD eR)))))
        · rw [e1.1,e1.2.1]; rfl
        · trivial
     ·
      refine RJ_gn (GY_no rfl rfl rfl hg5B) rfl rfl <| RJ_gn (GY_no rfl rfl rfl hg5B) rfl rfl <| RJ_gn (GY_no rfl rfl rfl hg5B) rfl rfl <| oP (za5 rfl hg5B rfl) rfl <| nT <| zbf rfl rfl <| kT <| zad <| zad ?_
      have hst:¬ ((m.at k).isB=false∧(m.at k).hl=false∧(m.at k).susp=false) := by rw [← hat k]; simp_all
      refine zai <| oM rfl rfl <| oM rfl rfl <| oV (zbo rfl foc4 Tryz.isAgg33 Tryz.sizeOf33 rfl rfl) rfl <| oO <| zaq ((zik (k:=(k:Int)) (t:=t) hO (kq2 hkl hkg))) rfl Tryz.call40 (Dels.cons del1 (Dels.cons del1 Dels.nil)) rfl fun _ hc10=>oA rfl rfl <| nT <| sR <| oM rfl rfl <| oP (P_geq rfl rfl) rfl <| nT ?_
      first | (refine zao rfl (fun hg8 => ?_) (fun hg8 => ?_)) | (refine zap rfl (fun hg8 => ?_) (fun hg8 => ?_)) | (refine zar rfl (fun hg8 => ?_) (fun hg8 => ?_))
      ·
       refine sR <| oM rfl rfl <| oP (zaf rfl) rfl <| oP (zaa rfl ⟨_,_,_,Tryz.runUnderlying72,rfl,rfl,Tryz.sizeOf3,rfl⟩) rfl <| oV (zag rfl foc0 rfl Tryz.isAgg3) rfl <| oP (P_add rfl rfl (by first | omega | (simp only [List.length_set]; omega))) rfl <| oP (zaf rfl) rfl <| oP (zaa rfl ⟨_,_,_,Tryz.runUnderlying72,rfl,rfl,Tryz.sizeOf3,rfl⟩) rfl <| oO <| zbh rfl rfl foc0 rfl rfl Tryz.sizeOf3 <| nT <| zad ?_
       obtain ⟨w,hw,hwi,hwD⟩ := zht hO hkl hkg (show 0≤m.wayI (m.dv.length + 1) (k:Int) t by assumption)
       rw [hwi]
       have hwl := hwD.1
       have hww := hW.big.wl w
       refine zbd (Ent.trans (t1_ eR) (zc5 hwl)) <| zdl [sl tyDv c.dv.v c.l,blk b 72 [c.dv.v,.int .i64 ((m.tks:Int) + 1),c.tv.v],blk b1 33 [.int .i64 t.Kind,.int .i64 t.At,.int .u64 (t.Value.toNat:Int)]] 20971520 (by kernel_rfl) rfl <| aN 0 1 rfl rfl (zah rfl) rfl <| aN 1 3 rfl rfl (zaf rfl) rfl <| aN 2 7 rfl rfl (zaa rfl ⟨_,_,_,Tryz.runUnderlying72,rfl,rfl,Tryz.sizeOf70,rfl⟩) rfl <| aV 3 15 rfl rfl (zac rfl) (t4_ (t6_ (t8_ (eD (eD (eD (eD (eD (eD (eD (eD (fun _ _=>trivial)))))))))))) (zag rfl foc1 rfl Tryz.isAgg70) rfl <| aN 4 31 rfl rfl (zah rfl) rfl <| aN 5 63 rfl rfl (zah rfl) rfl <| aN 6 127 rfl rfl (zaf rfl) rfl <| aN 7 255 rfl rfl (zaa rfl ⟨_,_,_,Tryz.runUnderlying72,rfl,rfl,Tryz.sizeOf70,rfl⟩) rfl <| aV 8 511 rfl rfl (zac rfl) (t4_ (t6_ (t8_ (eD (eD (eD (eD (eD (eD (eD (eD (fun _ _=>trivial)))))))))))) (zag rfl foc1 rfl Tryz.isAgg70) rfl <| aN 9 1023 rfl rfl (zah rfl) rfl ?_
       first | (refine za9 10 2047 rfl (by kernel_rfl) rfl (by kernel_rfl) (by kernel_rfl) (zac rfl) (t4_ (t6_ (t8_ (eD (eD (eD (eD (eD (eD (eD (eD (fun _ _=>trivial)))))))))))) (zal rfl rfl rfl (by first | omega | (simp only [List.length_set]; omega)) foc0 (Reads.sl _ _ _) Tryz.runUnderlying70 Tryz.sizeOf91) rfl (fun _ _ _ _ h=>h) ?_) | (refine za9 10 2047 rfl (by kernel_rfl) rfl (by kernel_rfl) (by kernel_rfl) (zac rfl) (t4_ (t6_ (t8_ (eD (eD (eD (eD (eD (eD (eD (eD (fun _ _=>trivial)))))))))))) (zal rfl rfl (Int.toNat_of_nonneg (by first | omega | (simp only [List.length_set]; omega))).symm (by first | omega | (simp only [List.length_set]; omega)) foc0 (Reads.sl _ _ _) Tryz.runUnderlying70 Tryz.sizeOf91) rfl (fun _ _ _ _ h=>h) ?_)
       refine aN 11 4095 rfl rfl (zay rfl ⟨_,_,_,Tryz.runUnderlying91,rfl,rfl,Tryz.sizeOf89,rfl⟩) rfl <| aV 12 8191 rfl rfl (zac rfl) (t4_ (t6_ (t8_ (eD (eD (eD (eD (eD (eD (eD (eD (fun _ _=>trivial)))))))))))) (zaz rfl rfl (by first | omega | (simp only [List.length_set]; omega)) foc0 (Reads.sl _ _ _) rfl rfl Tryz.isAgg89) rfl <| aN 13 16383 rfl rfl (zah rfl) rfl <| aN 14 32767 rfl rfl (zaf rfl) rfl <| aN 15 65535 rfl rfl (zaa rfl ⟨_,_,_,Tryz.runUnderlying72,rfl,rfl,Tryz.sizeOf3,rfl⟩) rfl <| aV 16 131071 rfl rfl (zac rfl) (t4_ (t6_ (t8_ (eD (eD (eD (eD (eD (eD (eD (eD (fun _ _=>trivial)))))))))))) (zag rfl foc1 rfl Tryz.isAgg3) rfl <| aN 17 262143 rfl rfl (zah rfl) rfl <| aV 18 524287 rfl rfl (zac rfl) (t4_ (t6_ (t8_ (eD (eD (eD (eD (eD (eD (eD (eD (fun _ _=>trivial)))))))))))) (zbo rfl foc2 Tryz.isAgg33 Tryz.sizeOf33 rfl rfl) rfl <| aN 19 1048575 rfl rfl (zbm rfl (zf7 _ _ _ _ _)) rfl <| AJ_op 20 2097151 rfl (by kernel_rfl) rfl (zac rfl) <| za7 rfl (zhh _ _ _ _ _) rfl fun b11 => ?_
       refine ⟨fun _=>(t5_ (t7_ (t9_ (eD (eD (eD (eD (eD (eD (eD (eD (eD (fun _ _=>trivial))))))))))))),?_⟩
       refine AJ_op 21 4194303 rfl (by kernel_rfl) rfl (zac rfl) <| zbv (t:=tyWt) (bytes:=40) rfl rfl del4 foc0 (Reads.lit (t:=tyWt) (ys:=[(⟨m.tks + 1,k,t⟩:Wt)]) rfl rfl (by decide) (by decide) rfl) Tryz.underlying89 zjq (by have h8 := hwq w; simp only [List.length_append,List.length_cons,List.length_nil,maxLen] at *; omega) (by have h8 := hwq w; simp only [List.length_append,List.length_cons,List.length_nil,maxLen] at *; omega) rfl fun p12 c13=>⟨fun _=>(t5_ (t7_ (t9_ (eD (eD (eD (eD (eD (eD (eD (eD (eD (fun _ _=>trivial))))))))))))),?_⟩
       first | (refine AJ_op 22 8388607 rfl (by kernel_rfl) rfl (zac rfl) (OJ_V (zal rfl rfl rfl (by first | omega | (simp only [List.length_set]; omega)) foc5 (Reads.sl _ _ _) Tryz.runUnderlying70 Tryz.sizeOf91) rfl ?_)) | (refine AJ_op 22 8388607 rfl (by kernel_rfl) rfl (zac rfl) (OJ_V (zal rfl rfl (Int.toNat_of_nonneg (by first | omega | (simp only [List.length_set]; omega))).symm (by first | omega | (simp only [List.length_set]; omega)) foc5 (Reads.sl _ _ _) Tryz.runUnderlying70 Tryz.sizeOf91) rfl ?_))
       refine ⟨fun h=>absurd h (by decide),?_⟩
       refine aN 23 16777215 rfl rfl (zay rfl ⟨_,_,_,Tryz.runUnderlying91,rfl,rfl,Tryz.sizeOf89,rfl⟩) rfl <| AJ_op 24 33554431 rfl (by kernel_rfl) rfl (zac rfl) <| zb3 (x' := ({ (c.l.getD w tyDv.dflt).1 with wt := ⟨p12,((m.at w).wait ++ [(⟨m.tks + 1,k,t⟩:Wt)]).length,c13⟩ }, { (c.l.getD w tyDv.dflt).2 with wait := (c.l.getD w tyDv.dflt).2.wait ++ [(⟨m.tks + 1,k,t⟩:Wt)] })) rfl rfl rfl (by first | omega | (simp only [List.length_set]; omega)) foc5 rfl rfl rfl Tryz.sizeOf89 <| ⟨fun h=>absurd h (by decide),?_⟩
       refine aD <| sR <| oM rfl rfl <| oP (zaf rfl) rfl <| oP (zaa rfl ⟨_,_,_,Tryz.runUnderlying72,rfl,rfl,Tryz.sizeOf3,rfl⟩) rfl <| oV (zag rfl foc8 rfl Tryz.isAgg3) rfl <| oP (zbm rfl (zhz _)) rfl <| oO <| zbj rfl rfl foc10 Tryz.sizeOf51 rfl rfl rfl <| oA rfl rfl <| nT <| zaj <| zae <| zan (resA2 Tryz.results12 (zb8 rfl foc10 Tryz.isAgg51 Tryz.sizeOf51 rfl rfl) (zcy rfl)) ?_
       have e1 := Md.do_wait (t:=t) hfk (by omega) hst hw
       rw [e1.2.2]
       refine CSpec.close (c.put w { c.hd w with wt := ⟨p12,((m.at w).wait ++ [(⟨m.tks + 1,k,t⟩:Wt)]).length,c13⟩ } { m.at w with wait := (m.at w).wait ++ [(⟨m.tks + 1,k,t⟩:Wt)] }) ?_ ?_ (Ent.trans (Ent.trans (t2_ (t2_ (t2_ (t0_ (Ent.takeC del1 (congrArg (sl tyDv _) (by simp only [stq (show w < c.l.length by omega),hd_at hW,List.set_set])) (t1_ (t1_ eR))))))) (zed (h := { c.hd w with wt := ⟨p12,((m.at w).wait ++ [(⟨m.tks + 1,k,t⟩:Wt)]).length,c13⟩ }) (d := { m.at w with wait := (m.at w).wait ++ [(⟨m.tks + 1,k,t⟩:Wt)] }) (m' := ({ m with tks := m.tks + 1 }.addW w (⟨m.tks + 1,k,t⟩:Wt))) hW hwl rfl (Md.ok_addW hO hwD ⟨hkl,hkg,zna hw,by show 1≤t.Kind; omega,by show t.Kind≤3; omega,(show inT t from hb)⟩) (hW.big.set hwl rfl (by show ((m.at w).wait ++ _).length≤_; rw [List.length_append]; have := hwq w; simp; omega) htk1 hW.big.told hW.big.wr) rfl)) (t2_ (t0_ (eD (eD (eD (eD eR)))))))
       · rw [e1.1,e1.2.1]; rfl
       · trivial
      ·
       refine kT <| sR <| oM rfl rfl <| oM rfl rfl <| oV (zbo rfl foc4 Tryz.isAgg33 Tryz.sizeOf33 rfl rfl) rfl <| oO <| zaq ((zhs (t:=t) hO hwr ⟨hkl,hkg⟩)) rfl Tryz.call41 (Dels.cons del0 (Dels.cons del0 Dels.nil)) rfl fun c9 h9=>oM rfl rfl <| oP (za1 rfl rfl) rfl <| oP (za1 rfl rfl) rfl <| oA rfl rfl <| oA rfl rfl <| nT <| sR <| oM rfl rfl <| oM rfl rfl <| oP (zbm rfl (zf8 _ _ _)) rfl <| oO <| zbj rfl rfl foc3 Tryz.sizeOf51 rfl rfl rfl <| oA rfl rfl <| nT <| zaj <| zan (resA2 Tryz.results12 (zb8 rfl foc3 Tryz.isAgg51 Tryz.sizeOf51 rfl rfl) (zcy rfl)) ?_
       have e1 := Md.do_go (t:=t) hfk (by omega) hst (zjr (by assumption))
       rw [e1.2.2]
       refine CSpec.close c9 ?_ ?_ (Ent.takeC del0 (congrArg (blk b 72) h9.symm) (t0_ (eD (eD (eD eR)))))
       · rw [e1.1,e1.2.1]; rfl
       · trivial
    ·
     refine RJ_gn (GY_no rfl rfl rfl hg4B) rfl rfl <| RJ_gn (GY_no rfl rfl rfl hg4B) rfl rfl <| RJ_gn (GY_no rfl rfl rfl hg4B) rfl rfl <| oP (za5 rfl hg4B rfl) rfl <| oM rfl rfl <| RJ_gn (GY_no rfl rfl rfl rfl) rfl rfl <| RJ_gn (GY_no rfl rfl rfl rfl) rfl rfl <| RJ_gn (GY_no rfl rfl rfl rfl) rfl rfl <| oP (za5 rfl rfl rfl) rfl <| nT <| zbf rfl rfl <| kT <| zad <| zad ?_
     have hst:¬ ((m.at k).isB=false∧(m.at k).hl=false∧(m.at k).susp=false) := by rw [← hat k]; simp_all
     refine zai <| oM rfl rfl <| oM rfl rfl <| oV (zbo rfl foc4 Tryz.isAgg33 Tryz.sizeOf33 rfl rfl) rfl <| oO <| zaq ((zik (k:=(k:Int)) (t:=t) hO (kq2 hkl hkg))) rfl Tryz.call40 (Dels.cons del1 (Dels.cons del1 Dels.nil)) rfl fun _ hc15=>oA rfl rfl <| nT <| sR <| oM rfl rfl <| oP (P_geq rfl rfl) rfl <| nT ?_
     first | (refine zao rfl (fun hg9 => ?_) (fun hg9 => ?_)) | (refine zap rfl (fun hg9 => ?_) (fun hg9 => ?_)) | (refine zar rfl (fun hg9 => ?_) (fun hg9 => ?_))
     ·
      refine sR <| oM rfl rfl <| oP (zaf rfl) rfl <| oP (zaa rfl ⟨_,_,_,Tryz.runUnderlying72,rfl,rfl,Tryz.sizeOf3,rfl⟩) rfl <| oV (zag rfl foc0 rfl Tryz.isAgg3) rfl <| oP (P_add rfl rfl (by first | omega | (simp only [List.length_set]; omega))) rfl <| oP (zaf rfl) rfl <| oP (zaa rfl ⟨_,_,_,Tryz.runUnderlying72,rfl,rfl,Tryz.sizeOf3,rfl⟩) rfl <| oO <| zbh rfl rfl foc0 rfl rfl Tryz.sizeOf3 <| nT <| zad ?_
      obtain ⟨w,hw,hwi,hwD⟩ := zht hO hkl hkg (show 0≤m.wayI (m.dv.length + 1) (k:Int) t by assumption)
      rw [hwi]
      have hwl := hwD.1
      have hww := hW.big.wl w
      refine zbd (Ent.trans (t1_ eR) (zc5 hwl)) <| zdl [sl tyDv c.dv.v c.l,blk b 72 [c.dv.v,.int .i64 ((m.tks:Int) + 1),c.tv.v],blk b1 33 [.int .i64 t.Kind,.int .i64 t.At,.int .u64 (t.Value.toNat:Int)]] 20971520 (by kernel_rfl) rfl <| aN 0 1 rfl rfl (zah rfl) rfl <| aN 1 3 rfl rfl (zaf rfl) rfl <| aN 2 7 rfl rfl (zaa rfl ⟨_,_,_,Tryz.runUnderlying72,rfl,rfl,Tryz.sizeOf70,rfl⟩) rfl <| aV 3 15 rfl rfl (zac rfl) (t4_ (t6_ (t8_ (eD (eD (eD (eD (eD (eD (eD (eD (fun _ _=>trivial)))))))))))) (zag rfl foc1 rfl Tryz.isAgg70) rfl <| aN 4 31 rfl rfl (zah rfl) rfl <| aN 5 63 rfl rfl (zah rfl) rfl <| aN 6 127 rfl rfl (zaf rfl) rfl <| aN 7 255 rfl rfl (zaa rfl ⟨_,_,_,Tryz.runUnderlying72,rfl,rfl,Tryz.sizeOf70,rfl⟩) rfl <| aV 8 511 rfl rfl (zac rfl) (t4_ (t6_ (t8_ (eD (eD (eD (eD (eD (eD (eD (eD (fun _ _=>trivial)))))))))))) (zag rfl foc1 rfl Tryz.isAgg70) rfl <| aN 9 1023 rfl rfl (zah rfl) rfl ?_
      first | (refine za9 10 2047 rfl (by kernel_rfl) rfl (by kernel_rfl) (by kernel_rfl) (zac rfl) (t4_ (t6_ (t8_ (eD (eD (eD (eD (eD (eD (eD (eD (fun _ _=>trivial)))))))))))) (zal rfl rfl rfl (by first | omega | (simp only [List.length_set]; omega)) foc0 (Reads.sl _ _ _) Tryz.runUnderlying70 Tryz.sizeOf91) rfl (fun _ _ _ _ h=>h) ?_) | (refine za9 10 2047 rfl (by kernel_rfl) rfl (by kernel_rfl) (by kernel_rfl) (zac rfl) (t4_ (t6_ (t8_ (eD (eD (eD (eD (eD (eD (eD (eD (fun _ _=>trivial)))))))))))) (zal rfl rfl (Int.toNat_of_nonneg (by first | omega | (simp only [List.length_set]; omega))).symm (by first | omega | (simp only [List.length_set]; omega)) foc0 (Reads.sl _ _ _) Tryz.runUnderlying70 Tryz.sizeOf91) rfl (fun _ _ _ _ h=>h) ?_)
      refine aN 11 4095 rfl rfl (zay rfl ⟨_,_,_,Tryz.runUnderlying91,rfl,rfl,Tryz.sizeOf89,rfl⟩) rfl <| aV 12 8191 rfl rfl (zac rfl) (t4_ (t6_ (t8_ (eD (eD (eD (eD (eD (eD (eD (eD (fun _ _=>trivial)))))))))))) (zaz rfl rfl (by first | omega | (simp only [List.length_set]; omega)) foc0 (Reads.sl _ _ _) rfl rfl Tryz.isAgg89) rfl <| aN 13 16383 rfl rfl (zah rfl) rfl <| aN 14 32767 rfl rfl (zaf rfl) rfl <| aN 15 65535 rfl rfl (zaa rfl ⟨_,_,_,Tryz.runUnderlying72,rfl,rfl,Tryz.sizeOf3,rfl⟩) rfl <| aV 16 131071 rfl rfl (zac rfl) (t4_ (t6_ (t8_ (eD (eD (eD (eD (eD (eD (eD (eD (fun _ _=>trivial)))))))))))) (zag rfl foc1 rfl Tryz.isAgg3) rfl <| aN 17 262143 rfl rfl (zah rfl) rfl <| aV 18 524287 rfl rfl (zac rfl) (t4_ (t6_ (t8_ (eD (eD (eD (eD (eD (eD (eD (eD (fun _ _=>trivial)))))))))))) (zbo rfl foc2 Tryz.isAgg33 Tryz.sizeOf33 rfl rfl) rfl <| aN 19 1048575 rfl rfl (zbm rfl (zf7 _ _ _ _ _)) rfl <| AJ_op 20 2097151 rfl (by kernel_rfl) rfl (zac rfl) <| za7 rfl (zhh _ _ _ _ _) rfl fun b16 => ?_
      refine ⟨fun _=>(t5_ (t7_ (t9_ (eD (eD (eD (eD (eD (eD (eD (eD (eD (fun _ _=>trivial))))))))))))),?_⟩
      refine AJ_op 21 4194303 rfl (by kernel_rfl) rfl (zac rfl) <| zbv (t:=tyWt) (bytes:=40) rfl rfl del4 foc0 (Reads.lit (t:=tyWt) (ys:=[(⟨m.tks + 1,k,t⟩:Wt)]) rfl rfl (by decide) (by decide) rfl) Tryz.underlying89 zjq (by have h8 := hwq w; simp only [List.length_append,List.length_cons,List.length_nil,maxLen] at *; omega) (by have h8 := hwq w; simp only [List.length_append,List.length_cons,List.length_nil,maxLen] at *; omega) rfl fun p17 c18=>⟨fun _=>(t5_ (t7_ (t9_ (eD (eD (eD (eD (eD (eD (eD (eD (eD (fun _ _=>trivial))))))))))))),?_⟩
      first | (refine AJ_op 22 8388607 rfl (by kernel_rfl) rfl (zac rfl) (OJ_V (zal rfl rfl rfl (by first | omega | (simp only [List.length_set]; omega)) foc5 (Reads.sl _ _ _) Tryz.runUnderlying70 Tryz.sizeOf91) rfl ?_)) | (refine AJ_op 22 8388607 rfl (by kernel_rfl) rfl (zac rfl) (OJ_V (zal rfl rfl (Int.toNat_of_nonneg (by first | omega | (simp only [List.length_set]; omega))).symm (by first | omega | (simp only [List.length_set]; omega)) foc5 (Reads.sl _ _ _) Tryz.runUnderlying70 Tryz.sizeOf91) rfl ?_))
      refine ⟨fun h=>absurd h (by decide),?_⟩
      refine aN 23 16777215 rfl rfl (zay rfl ⟨_,_,_,Tryz.runUnderlying91,rfl,rfl,Tryz.sizeOf89,rfl⟩) rfl <| AJ_op 24 33554431 rfl (by kernel_rfl) rfl (zac rfl) <| zb3 (x' := ({ (c.l.getD w tyDv.dflt).1 with wt := ⟨p17,((m.at w).wait ++ [(⟨m.tks + 1,k,t⟩:Wt)]).length,c18⟩ }, { (c.l.getD w tyDv.dflt).2 with wait := (c.l.getD w tyDv.dflt).2.wait ++ [(⟨m.tks + 1,k,t⟩:Wt)] })) rfl rfl rfl (by first | omega | (simp only [List.length_set]; omega)) foc5 rfl rfl rfl Tryz.sizeOf89 <| ⟨fun h=>absurd h (by decide),?_⟩
      refine aD <| sR <| oM rfl rfl <| oP (zaf rfl) rfl <| oP (zaa rfl ⟨_,_,_,Tryz.runUnderlying72,rfl,rfl,Tryz.sizeOf3,rfl⟩) rfl <| oV (zag rfl foc8 rfl Tryz.isAgg3) rfl <| oP (zbm rfl (zhz _)) rfl <| oO <| zbj rfl rfl foc10 Tryz.sizeOf51 rfl rfl rfl <| oA rfl rfl <| nT <| zaj <| zae <| zan (resA2 Tryz.results12 (zb8 rfl foc10 Tryz.isAgg51 Tryz.sizeOf51 rfl rfl) (zcy rfl)) ?_
      have e1 := Md.do_wait (t:=t) hfk (by omega) hst hw
      rw [e1.2.2]
      refine CSpec.close (c.put w { c.hd w with wt := ⟨p17,((m.at w).wait ++ [(⟨m.tks + 1,k,t⟩:Wt)]).length,c18⟩ } { m.at w with wait := (m.at w).wait ++ [(⟨m.tks + 1,k,t⟩:Wt)] }) ?_ ?_ (Ent.trans (Ent.trans (t2_ (t2_ (t2_ (t0_ (Ent.takeC del1 (congrArg (sl tyDv _) (by simp only [stq (show w < c.l.length by omega),hd_at hW,List.set_set])) (t1_ (t1_ eR))))))) (zed (h := { c.hd w with wt := ⟨p17,((m.at w).wait ++ [(⟨m.tks + 1,k,t⟩:Wt)]).length,c18⟩ }) (d := { m.at w with wait := (m.at w).wait ++ [(⟨m.tks + 1,k,t⟩:Wt)] }) (m' := ({ m with tks := m.tks + 1 }.addW w (⟨m.tks + 1,k,t⟩:Wt))) hW hwl rfl (Md.ok_addW hO hwD ⟨hkl,hkg,zna hw,by show 1≤t.Kind; omega,by show t.Kind≤3; omega,(show inT t from hb)⟩) (hW.big.set hwl rfl (by show ((m.at w).wait ++ _).length≤_; rw [List.length_append]; have := hwq w; simp; omega) htk1 hW.big.told hW.big.wr) rfl)) (t2_ (t0_ (eD (eD (eD (eD eR)))))))
      · rw [e1.1,e1.2.1]; rfl
      · trivial
     ·
      refine kT <| sR <| oM rfl rfl <| oM rfl rfl <| oV (zbo rfl foc4 Tryz.isAgg33 Tryz.sizeOf33 rfl rfl) rfl <| oO <| zaq ((zhs (t:=t) hO hwr ⟨hkl,hkg⟩)) rfl Tryz.call41 (Dels.cons del0 (Dels.cons del0 Dels.nil)) rfl fun c9 h9=>oM rfl rfl <| oP (za1 rfl rfl) rfl <| oP (za1 rfl rfl) rfl <| oA rfl rfl <| oA rfl rfl <| nT <| sR <| oM rfl rfl <| oM rfl rfl <| oP (zbm rfl (zf8 _ _ _)) rfl <| oO <| zbj rfl rfl foc3 Tryz.sizeOf51 rfl rfl rfl <| oA rfl rfl <| nT <| zaj <| zan (resA2 Tryz.results12 (zb8 rfl foc3 Tryz.isAgg51 Tryz.sizeOf51 rfl rfl) (zcy rfl)) ?_
      have e1 := Md.do_go (t:=t) hfk (by omega) hst (zjr (by assumption))
      rw [e1.2.2]
      refine CSpec.close c9 ?_ ?_ (Ent.takeC del0 (congrArg (blk b 72) h9.symm) (t0_ (eD (eD (eD eR)))))
      · rw [e1.1,e1.2.1]; rfl
      · trivial
end Go.Proofs
set_option linter.unusedSimpArgs false
set_option maxRecDepth 20000
namespace Go.Proofs
open Go.VG
theorem zi9 (v0:Int) (v1:Int) (v2:Int) (v3:Int) (v4:Int):zbt Tryz.prog 89 1 [(0,.agg #[.int .i64 v0,.int .i64 v1,.int .i64 v2,.int .i64 v3,.int .u64 v4])] 94 [.int .i64 v0,.int .i64 v1,.int .i64 v2,.int .i64 v3,.int .u64 v4] := fun w=>by kernel_rfl
theorem zg2 (v0:Bool) (v1:Int) (v2:Int) (v3:Int):∀ w,(Instr.build 51 (#[(0,.bool v0),(1,.int .i64 v1),(2,.int .u64 v2),(3,.int .i64 v3)]:Array (Nat × Value))).run Tryz.prog w = .ok (.agg #[.bool v0,.int .i64 v1,.int .u64 v2,.int .i64 v3]) w := fun w=>by kernel_rfl
theorem zja (v0:Bool) (v1:Int) (v2:Int) (v3:Int):zbt Tryz.prog 54 1 [(0,.agg #[.bool v0,.int .i64 v1,.int .u64 v2,.int .i64 v3])] 51 [.bool v0,.int .i64 v1,.int .u64 v2,.int .i64 v3] := fun w=>by kernel_rfl
theorem zpt {c:RH} {m:Md} {R:List HP} {tv:Sl3} {l:List api_Answer} (hl:l.length≤100000000):Ent (sl tyapi_Answer tv.v l::RefR c m::R) (RefR { c with tv := tv } { m with told := l } :: R) := fun h hh=>by
  obtain ⟨a1,a2,d1,e1,p1,q1⟩ := hh
  obtain ⟨hw,h1⟩ := stars_pur.1 (stars_star.1 q1)
  have hw2:RefWF { c with tv := tv } { m with told := l } := ⟨hw.dv,⟨hw.ok.uniq,hw.ok.nm,hw.ok.chk,hw.ok.nam,hw.ok.acy,hw.ok.bas,hw.ok.hl,hw.ok.hn,hw.ok.org⟩,⟨hw.big.len,hw.big.wl,hw.big.tks,hl,hw.big.wr⟩⟩
  have h2 := zbn (List.Perm.swap _ _ _) _ h1
  have h3:stars (sl tyapi_Answer tv.v l::sl tyDv c.dv.v c.l::Go.VG.Own RowC c.l::R) h := ⟨a1,a2,d1,e1,p1,zex h2⟩
  exact stars_star.2 (stars_pur.2 ⟨hw2,zbn (List.Perm.swap _ _ _) _ h3⟩)
theorem zxy {W:World} {b:Nat} {v:Value} {xs:List api_Target} {c:RH} {m:Md} (hA:Reads (RefR c m) tyapi_Target v xs) (hc:chk xs=0) :
    CSpec Tryz.prog W 77 [ptr b 0,v] [blk b 72 (zbi c m),RefR c m] (fun _:Unit => .bool (m.fits xs)) (fun _=>True) (fun _ F=>blk b 72 (zbi c m)::RefR c m::F) := by
 refine CSpec.of_body Tryz.func77 rfl Tryz.ntmps77 rfl fun F => ?_
 show CJ _ _ _ _ _ _ (_::_::F)
 refine zba (zci foc1) fun hW => ?_
 have hO := hW.ok
 have hln := hW.big.len
 have hll := hW.len
 have hat := hW.at
 have htk := hW.big.tks
 refine sR <| oA rfl rfl <| nT <| zad <| sR <| oA rfl rfl <| nT <| zas <| zbe (X:=Nat) [4,5,6,7,8,9,10,11,12,13,14,15,16,17,18,19,20,21,22,23,24,25,26,27,28,29,30,31,32,33,34,35,36,37,38,39,40] (fun i  => ([(5,.int .i64 (i:Nat))]:Slots)) (fun i R=>R) (fun i  => i≤xs.length∧m.fits (xs.take i)=true) (fun i  => xs.length - i) (0) ?_ ?_ (t0_ (t0_ eR)) ?_
 · exact ⟨Nat.zero_le _,rfl⟩
 · exact ⟨rfl,True.intro⟩
 ·
  intro i hpf
  obtain ⟨hi,hft⟩ := hpf
  show CJ _ _ _ _ _ (([(5,.int .i64 (i:Nat))]:Slots) ++ forget _ _) (_)
  have hx64 := (zbx hc).1
  refine zad <| sR <| oM rfl rfl <| oM rfl rfl <| oV (V_len rfl foc1 hA Tryz.runUnderlying30) rfl <| oP (P_lss rfl rfl) rfl <| nT ?_
  first | (refine zao rfl (fun hg1 => ?_) (fun hg1 => ?_)) | (refine zap rfl (fun hg1 => ?_) (fun hg1 => ?_)) | (refine zar rfl (fun hg1 => ?_) (fun hg1 => ?_))
  ·
   refine kT <| zad <| zas <| zad ?_
   have hlt:i < xs.length := by omega
   have hbd := zrg hc hlt
   refine za4 0 (by kernel_rfl) rfl <| aN 0 1 rfl rfl (zah rfl) rfl <| aN 1 3 rfl rfl (zah rfl) rfl ?_
   first | (refine za9 2 7 rfl (by kernel_rfl) rfl (by kernel_rfl) (by kernel_rfl) (zac rfl) (t0_ (t0_ eR)) (zal rfl rfl rfl (by omega) foc1 hA Tryz.runUnderlying30 Tryz.sizeOf37) rfl (fun _ _ _ _ h=>h) ?_) | (refine za9 2 7 rfl (by kernel_rfl) rfl (by kernel_rfl) (by kernel_rfl) (zac rfl) (t0_ (t0_ eR)) (zal rfl rfl (Int.toNat_of_nonneg (by omega)).symm (by omega) foc1 hA Tryz.runUnderlying30 Tryz.sizeOf37) rfl (fun _ _ _ _ h=>h) ?_)
   refine aN 3 15 rfl rfl (zay rfl ⟨_,_,_,Tryz.runUnderlying37,rfl,rfl,Tryz.sizeOf9,rfl⟩) rfl <| aV 4 31 rfl rfl (zac rfl) (t0_ (t0_ eR)) (zaz rfl rfl (by omega) foc1 hA rfl rfl Tryz.isAgg9) rfl <| aN 5 63 rfl rfl (zdo rfl rfl Tryz.underlying9) rfl <| aN 6 127 rfl rfl (zah rfl) rfl ?_
   first | (refine zc6 18 rfl (fun hg2B hg2 => ?_) (fun hg2B hg2 => ?_)) | (refine zc7 18 rfl (fun hg2B hg2 => ?_) (fun hg2B hg2 => ?_)) | (refine zdm 18 rfl (fun hg2B => ?_) (fun hg2B => ?_))
   ·
    refine aP 7 255 rfl rfl (zab rfl rfl rfl hg2B) (zah rfl) rfl <| aP 8 511 rfl rfl (zab rfl rfl rfl hg2B) (zah rfl) rfl ?_
    first | (refine za9 9 1023 rfl (by kernel_rfl) rfl (by kernel_rfl) (by kernel_rfl) (zab rfl rfl rfl hg2B) (t0_ (t0_ eR)) (zal rfl rfl rfl (by omega) foc1 hA Tryz.runUnderlying30 Tryz.sizeOf37) rfl (fun _ _ _ _ h=>h) ?_) | (refine za9 9 1023 rfl (by kernel_rfl) rfl (by kernel_rfl) (by kernel_rfl) (zab rfl rfl rfl hg2B) (t0_ (t0_ eR)) (zal rfl rfl (Int.toNat_of_nonneg (by omega)).symm (by omega) foc1 hA Tryz.runUnderlying30 Tryz.sizeOf37) rfl (fun _ _ _ _ h=>h) ?_)
    refine aP 10 2047 rfl rfl (zab rfl rfl rfl hg2B) (zay rfl ⟨_,_,_,Tryz.runUnderlying37,rfl,rfl,Tryz.sizeOf3,rfl⟩) rfl <| aV 11 4095 rfl rfl (zab rfl rfl rfl hg2B) (t0_ (t0_ eR)) (zaz rfl rfl (by omega) foc1 hA rfl rfl Tryz.isAgg3) rfl <| aP 12 8191 rfl rfl (zab rfl rfl rfl hg2B) (zah rfl) rfl <| aP 13 16383 rfl rfl (zab rfl rfl rfl hg2B) (zah rfl) rfl ?_
    first | (refine za9 14 32767 rfl (by kernel_rfl) rfl (by kernel_rfl) (by kernel_rfl) (zab rfl rfl rfl hg2B) (t0_ (t0_ eR)) (zal rfl rfl rfl (by omega) foc1 hA Tryz.runUnderlying30 Tryz.sizeOf37) rfl (fun _ _ _ _ h=>h) ?_) | (refine za9 14 32767 rfl (by kernel_rfl) rfl (by kernel_rfl) (by kernel_rfl) (zab rfl rfl rfl hg2B) (t0_ (t0_ eR)) (zal rfl rfl (Int.toNat_of_nonneg (by omega)).symm (by omega) foc1 hA Tryz.runUnderlying30 Tryz.sizeOf37) rfl (fun _ _ _ _ h=>h) ?_)
    refine aP 15 65535 rfl rfl (zab rfl rfl rfl hg2B) (zay rfl ⟨_,_,_,Tryz.runUnderlying37,rfl,rfl,Tryz.sizeOf3,rfl⟩) rfl <| aV 16 131071 rfl rfl (zab rfl rfl rfl hg2B) (t0_ (t0_ eR)) (zaz rfl rfl (by omega) foc1 hA rfl rfl Tryz.isAgg3) rfl <| aP 17 262143 rfl rfl (zab rfl rfl rfl hg2B) (P_add rfl rfl (by omega)) rfl <| aP 18 524287 rfl rfl (zab rfl rfl rfl hg2B) (zah rfl) rfl <| aP 19 1048575 rfl rfl (zab rfl rfl rfl hg2B) (zah rfl) rfl <| aP 20 2097151 rfl rfl (zab rfl rfl rfl hg2B) (zah rfl) rfl <| aP 21 4194303 rfl rfl (zab rfl rfl rfl hg2B) (zah rfl) rfl ?_
    first | (refine za9 22 8388607 rfl (by kernel_rfl) rfl (by kernel_rfl) (by kernel_rfl) (zab rfl rfl rfl hg2B) (t0_ (t0_ eR)) (zal rfl rfl rfl (by omega) foc1 hA Tryz.runUnderlying30 Tryz.sizeOf37) rfl (fun _ _ _ _ h=>h) ?_) | (refine za9 22 8388607 rfl (by kernel_rfl) rfl (by kernel_rfl) (by kernel_rfl) (zab rfl rfl rfl hg2B) (t0_ (t0_ eR)) (zal rfl rfl (Int.toNat_of_nonneg (by omega)).symm (by omega) foc1 hA Tryz.runUnderlying30 Tryz.sizeOf37) rfl (fun _ _ _ _ h=>h) ?_)
    refine aP 23 16777215 rfl rfl (zab rfl rfl rfl hg2B) (zay rfl ⟨_,_,_,Tryz.runUnderlying37,rfl,rfl,Tryz.sizeOf9,rfl⟩) rfl <| aV 24 33554431 rfl rfl (zab rfl rfl rfl hg2B) (t0_ (t0_ eR)) (zaz rfl rfl (by omega) foc1 hA rfl rfl Tryz.isAgg9) rfl <| AJ_op 25 67108863 rfl (by kernel_rfl) rfl (zab rfl rfl rfl hg2B) <| zaq (zew) rfl Tryz.call39 (Dels.cons del0 (Dels.cons del0 Dels.nil)) rfl fun _ hc1=>⟨fun _=>(t0_ (t0_ eR)),?_⟩
    refine AJ_op 26 134217727 rfl (by kernel_rfl) rfl (zab rfl rfl rfl hg2B) <| zaq (zo3 (Int.lt_of_le_of_lt Md.findI_lt (by omega))) rfl Tryz.call88 (Dels.cons del0 (Dels.cons del0 Dels.nil)) rfl fun _ hc2=>⟨fun _=>(t0_ (t0_ eR)),?_⟩
    refine aP 27 268435455 rfl rfl (zab rfl rfl rfl hg2B) (P_gtr rfl rfl) rfl <| aN 28 536870911 rfl rfl (za2 rfl hg2B rfl) rfl <| aD ?_
    first | (refine zao rfl (fun hg3 => ?_) (fun hg3 => ?_)) | (refine zap rfl (fun hg3 => ?_) (fun hg3 => ?_)) | (refine zar rfl (fun hg3 => ?_) (fun hg3 => ?_))
    ·
     refine sR <| oA rfl rfl <| nT <| zaj <| zam <| zae <| zbb <| zam <| zae <| zan (res1 Tryz.results77 rfl) <| CSpec.close () ?_ ?_ (t0_ (t0_ eR))
     ·
      exact bv (Md.fits_no hlt (by rw [← Md.sizeI_find]; rintro (h | h)
                                   · exact absurd h (by simp_all)
                                   · omega)).symm
     · trivial
    ·
     refine za8 <| zak <| zat <| zai <| oM rfl rfl <| oP (P_add rfl rfl (by omega)) rfl <| oA rfl rfl <| za0 <| za6 (i + 1) (by first | omega | (simp only []; omega)) ?_ (by repeat (first | exact Kp.base | exact Kp.self | refine Kp.cons rfl ?_ | refine Kp.forget rfl ?_)) ?_ (t0_ (t0_ eR))
     ·
      refine ⟨by omega,Md.fits_take (by omega) hft ?_⟩
      rw [← Md.sizeI_find]
      first | (left; simp_all; done) | (right; omega) | (right; simp_all; done)
     · exact ⟨rfl,True.intro⟩
   ·
    refine aS 7 255 rfl rfl (GY_no rfl rfl rfl hg2B) rfl <| aS 8 511 rfl rfl (GY_no rfl rfl rfl hg2B) rfl <| aS 9 1023 rfl rfl (GY_no rfl rfl rfl hg2B) rfl <| aS 10 2047 rfl rfl (GY_no rfl rfl rfl hg2B) rfl <| aS 11 4095 rfl rfl (GY_no rfl rfl rfl hg2B) rfl <| aS 12 8191 rfl rfl (GY_no rfl rfl rfl hg2B) rfl <| aS 13 16383 rfl rfl (GY_no rfl rfl rfl hg2B) rfl <| aS 14 32767 rfl rfl (GY_no rfl rfl rfl hg2B) rfl <| aS 15 65535 rfl rfl (GY_no rfl rfl rfl hg2B) rfl <| aS 16 131071 rfl rfl (GY_no rfl rfl rfl hg2B) rfl <| aS 17 262143 rfl rfl (GY_no rfl rfl rfl hg2B) rfl <| aS 18 524287 rfl rfl (GY_no rfl rfl rfl hg2B) rfl <| aS 19 1048575 rfl rfl (GY_no rfl rfl rfl hg2B) rfl <| aS 20 2097151 rfl rfl (GY_no rfl rfl rfl hg2B) rfl <| aS 21 4194303 rfl rfl (GY_no rfl rfl rfl hg2B) rfl <| aS 22 8388607 rfl rfl (GY_no rfl rfl rfl hg2B) rfl <| aS 23 16777215 rfl rfl (GY_no rfl rfl rfl hg2B) rfl <| aS 24 33554431 rfl rfl (GY_no rfl rfl rfl hg2B) rfl <| aS 25 67108863 rfl rfl (GY_no rfl rfl rfl hg2B) rfl <| aS 26 134217727 rfl rfl (GY_no rfl rfl rfl hg2B) rfl <| aS 27 268435455 rfl rfl (GY_no rfl rfl rfl hg2B) rfl <| aN 28 536870911 rfl rfl (za5 rfl hg2B rfl) rfl <| aD <| zbf rfl rfl <| za8 <| zak <| zat <| zai <| oM rfl rfl <| oP (P_add rfl rfl (by omega)) rfl <| oA rfl rfl <| za0 ?_
    refine za6 (i + 1) (by first | omega | (simp only []; omega)) ?_ (by repeat (first | exact Kp.base | exact Kp.self | refine Kp.cons rfl ?_ | refine Kp.forget rfl ?_)) ?_ (t0_ (t0_ eR))
    ·
     refine ⟨by omega,Md.fits_take (by omega) hft ?_⟩
     rw [← Md.sizeI_find]
     first | (left; simp_all; done) | (right; omega) | (right; simp_all; done)
    · exact ⟨rfl,True.intro⟩
  ·
   refine zbg <| zaw <| zav <| zau <| zat <| sR <| oA rfl rfl <| nT <| zaj <| zan (res1 Tryz.results77 rfl) <| CSpec.close () ?_ ?_ (t0_ (t0_ eR))
   ·
    obtain rfl:i=xs.length := by omega
    rw [List.take_length] at hft
    exact bv hft.symm
   · trivial
theorem zv3 {W:World} {b:Nat} {c:RH} {m:Md} {n:ByteArray} (hwr:m.wr + m.wsum < 100000000) (hto:m.told.length + m.wsum < 100000000) (hws:m.wsum < 100000) :
    CSpec Tryz.prog W 35 [ptr b 0,.string n] [blk b 72 (zbi c m),RefR c m] (fun _:RH => .int .i64 (m.rsE n)) (fun _=>True) (fun c2 F=>blk b 72 (zbi c2 (m.rsS n))::RefR c2 (m.rsS n)::F) := by
 refine CSpec.of_body Tryz.func35 rfl Tryz.ntmps35 rfl fun F => ?_
 show CJ _ _ _ _ _ _ (_::_::F)
 refine zba (zci foc1) fun hW => ?_
 have hO := hW.ok
 have hln := hW.big.len
 have hll := hW.len
 have hat := hW.at
 have htk := hW.big.tks
 refine sR <| oA rfl rfl <| nT <| sR <| oM rfl rfl <| oM rfl rfl <| oO <| zaq (zgs) rfl Tryz.call65 (Dels.cons del0 (Dels.cons del0 Dels.nil)) rfl fun _ hc1=>oA rfl rfl <| nT <| zad <| sR <| oM rfl rfl <| oP (P_lss rfl rfl) rfl <| nT ?_
 first | (refine zao rfl (fun hg1 => ?_) (fun hg1 => ?_)) | (refine zap rfl (fun hg1 => ?_) (fun hg1 => ?_)) | (refine zar rfl (fun hg1 => ?_) (fun hg1 => ?_))
 ·
  refine sR <| oA rfl rfl <| nT <| zaj <| zae <| zan (res1 Tryz.results35 rfl) ?_
  have e1:m.rsE n=12∧m.rsS n=m := by
    rcases Md.devI_cases (m:=m) (n:=n) with ⟨h1,_⟩ | ⟨k,_,h2,_⟩
    · exact Md.rs_none h1
    · exfalso; omega
  rw [e1.2]
  refine CSpec.close c ?_ ?_ (t0_ (t0_ eR))
  · rw [e1.1]
  · trivial
 ·
  refine kT <| zad ?_
  obtain ⟨hdn,hdi⟩ | ⟨k,hdn,hdi,hk,hfk⟩ := Md.devI_cases (m:=m) (n:=n)
  · exfalso; omega
  rw [hdi]
  have hkl := hk.1
  refine zai <| oM rfl rfl <| oP (zaf rfl) rfl <| oP (zaa rfl ⟨_,_,_,Tryz.runUnderlying72,rfl,rfl,Tryz.sizeOf70,rfl⟩) rfl <| oV (zag rfl foc0 rfl Tryz.isAgg70) rfl <| oM rfl rfl ?_
  first | (refine RJ_op rfl (OJ_V (zal rfl rfl rfl (by first | omega | (simp only [List.length_set]; omega)) foc1 rdDv Tryz.runUnderlying70 Tryz.sizeOf91) rfl ?_)) | (refine RJ_op rfl (OJ_V (zal rfl rfl (Int.toNat_of_nonneg (by first | omega | (simp only [List.length_set]; omega))).symm (by first | omega | (simp only [List.length_set]; omega)) foc1 rdDv Tryz.runUnderlying70 Tryz.sizeOf91) rfl ?_))
  refine oV (zb7 rfl rfl (by first | omega | (simp only [List.length_set]; omega)) foc1 rdDv rfl rfl Tryz.isAgg91 Tryz.sizeOf91) rfl <| oO <| zb1 Tryz.zeroValue91 rfl rfl fun b2=>oO <| zbj rfl rfl foc0 Tryz.sizeOf91 rfl rfl rfl <| nT <| zjc (X:=Unit) [4,24,25,26,27,28,29,30,31,32,33,34,35,36] (fun _=>([]:Slots)) (fun _ R=>R) (fun _ => ¬ ((m.at k).susp=false∨((m.at k).hl=false∧(m.at k).hn=false))) Dels.nil ?_ ?_
  ·
   refine sR <| oP (zaa rfl ⟨_,_,_,Tryz.runUnderlying91,rfl,rfl,Tryz.sizeOf4,rfl⟩) rfl <| oV (zag rfl foc0 rfl Tryz.isAgg4) rfl <| oP (P_not rfl) rfl <| oM rfl rfl ?_
   first | (refine zbp 27 rfl (fun hg2B hg2 => ?_) (fun hg2B hg2 => ?_)) | (refine zbq 27 rfl (fun hg2B hg2 => ?_) (fun hg2B hg2 => ?_)) | (refine zbr 27 rfl (fun hg2B => ?_) (fun hg2B => ?_))
   ·
    refine RJ_gn (GY_no rfl rfl rfl hg2B) rfl rfl <| RJ_gn (GY_no rfl rfl rfl hg2B) rfl rfl <| RJ_gn (GY_no rfl rfl rfl hg2B) rfl rfl <| RJ_gn (GY_no rfl rfl rfl hg2B) rfl rfl <| RJ_gn (zbu rfl rfl rfl) rfl rfl <| RJ_gn (zbu rfl rfl rfl) rfl rfl <| RJ_gn (zbu rfl rfl rfl) rfl rfl <| RJ_gn (GY_no rfl rfl rfl hg2B) rfl rfl <| oP (za2 rfl hg2B rfl) rfl <| nT <| zbk rfl rfl <| sR <| oA rfl rfl <| nT <| zaj <| zae <| zan (res1 Tryz.results35 rfl) ?_
    have e1 := (fun z=>(⟨z,Md.rsS_no (by rw [z]; decide)⟩:m.rsE n=20∧m.rsS n=m)) (Md.rs_state hdn (by rw [← hat]; simp_all))
    rw [e1.2]
    refine CSpec.close c ?_ ?_ (t1_ (t1_ (eD eR)))
    · rw [e1.1]
    · trivial
   ·
    refine gP (zab rfl rfl rfl hg2B) (zaa rfl ⟨_,_,_,Tryz.runUnderlying91,rfl,rfl,Tryz.sizeOf4,rfl⟩) rfl <| gV (zab rfl rfl rfl hg2B) (zag rfl foc0 rfl Tryz.isAgg4) rfl <| gP (zab rfl rfl rfl hg2B) (P_not rfl) rfl <| gP (zab rfl rfl rfl hg2B) (zah rfl) rfl ?_
    first | (refine zbp 31 rfl (fun hg3B hg3 => ?_) (fun hg3B hg3 => ?_)) | (refine zbq 31 rfl (fun hg3B hg3 => ?_) (fun hg3B hg3 => ?_)) | (refine zbr 31 rfl (fun hg3B => ?_) (fun hg3B => ?_))
    ·
     refine gP (zab rfl rfl rfl hg3B) (zaa rfl ⟨_,_,_,Tryz.runUnderlying91,rfl,rfl,Tryz.sizeOf4,rfl⟩) rfl <| gV (zab rfl rfl rfl hg3B) (zag rfl foc0 rfl Tryz.isAgg4) rfl <| gP (zab rfl rfl rfl hg3B) (P_not rfl) rfl <| gP (zab rfl rfl rfl hg2B) (za2 rfl hg3B rfl) rfl <| oP (za5 rfl hg2B rfl) rfl <| nT ?_
     first | (refine zao rfl (fun hg4 => ?_) (fun hg4 => ?_)) | (refine zap rfl (fun hg4 => ?_) (fun hg4 => ?_)) | (refine zar rfl (fun hg4 => ?_) (fun hg4 => ?_))
     ·
      refine sR <| oA rfl rfl <| nT <| zaj <| zae <| zan (res1 Tryz.results35 rfl) ?_
      have e1 := (fun z=>(⟨z,Md.rsS_no (by rw [z]; decide)⟩:m.rsE n=20∧m.rsS n=m)) (Md.rs_state hdn (by rw [← hat]; simp_all))
      rw [e1.2]
      refine CSpec.close c ?_ ?_ (t1_ (t1_ (eD eR)))
      · rw [e1.1]
      · trivial
     ·
      refine za8 <| zjd () ?_ (by repeat (first | exact Kp.base | exact Kp.self | refine Kp.cons rfl ?_ | refine Kp.forget rfl ?_)) ?_ (t0_ (t0_ (t0_ eR)))
      · rw [← hat]; simp_all
      · exact True.intro
    ·
     refine RJ_gn (GY_no rfl rfl rfl hg3B) rfl rfl <| RJ_gn (GY_no rfl rfl rfl hg3B) rfl rfl <| RJ_gn (GY_no rfl rfl rfl hg3B) rfl rfl <| gP (zab rfl rfl rfl hg2B) (za5 rfl hg3B rfl) rfl <| oP (za5 rfl hg2B rfl) rfl <| nT <| zbf rfl rfl <| za8 <| zjd () ?_ (by repeat (first | exact Kp.base | exact Kp.self | refine Kp.cons rfl ?_ | refine Kp.forget rfl ?_)) ?_ (t0_ (t0_ (t0_ eR)))
     · rw [← hat]; simp_all
     · exact True.intro
  ·
   intro _ hst
   show CJ _ _ _ _ _ (([]:Slots) ++ forget _ _) (_)
   refine zjc (X:=Unit) [4,37,38,39,40,41,42,43,44,45,46,47,48,49,50,51,52,53,54] (fun _=>([]:Slots)) (fun _ R=>R) (fun _ => ¬ ((m.at k).hn=true∧(m.needs k (tsize (m.at k).new)=false∨m.fits (m.at k).new=false))) Dels.nil ?_ ?_
   ·
    refine sR <| oP (zaa rfl ⟨_,_,_,Tryz.runUnderlying91,rfl,rfl,Tryz.sizeOf4,rfl⟩) rfl <| oV (zag rfl foc0 rfl Tryz.isAgg4) rfl <| oM rfl rfl ?_
    first | (refine zbp 39 rfl (fun hg5B hg5 => ?_) (fun hg5B hg5 => ?_)) | (refine zbq 39 rfl (fun hg5B hg5 => ?_) (fun hg5B hg5 => ?_)) | (refine zbr 39 rfl (fun hg5B => ?_) (fun hg5B => ?_))
    ·
     refine gP (zab rfl rfl rfl hg5B) (zah rfl) rfl <| gP (zab rfl rfl rfl hg5B) (zah rfl) rfl <| gP (zab rfl rfl rfl hg5B) (zaa rfl ⟨_,_,_,Tryz.runUnderlying91,rfl,rfl,Tryz.sizeOf30,rfl⟩) rfl <| gV (zab rfl rfl rfl hg5B) (zag rfl foc0 rfl Tryz.isAgg30) rfl <| RJ_gy (zab rfl rfl rfl hg5B) <| zaq (zf4 (rrNw (by omega)) zql) rfl Tryz.call84 (Dels.cons del2 Dels.nil) rfl fun _ hc3=>RJ_gy (zab rfl rfl rfl hg5B) <| zaq (zxw hk) rfl Tryz.call83 (Dels.cons del2 (Dels.cons del0 Dels.nil)) rfl fun _ hc4=>gP (zab rfl rfl rfl hg5B) (P_not rfl) rfl <| gP (zab rfl rfl rfl hg5B) (zah rfl) rfl ?_
     first | (refine zbp 47 rfl (fun hg6B hg6 => ?_) (fun hg6B hg6 => ?_)) | (refine zbq 47 rfl (fun hg6B hg6 => ?_) (fun hg6B hg6 => ?_)) | (refine zbr 47 rfl (fun hg6B => ?_) (fun hg6B => ?_))
     ·
      refine RJ_gn (GY_no rfl rfl rfl hg6B) rfl rfl <| RJ_gn (GY_no rfl rfl rfl hg6B) rfl rfl <| RJ_gn (GY_no rfl rfl rfl hg6B) rfl rfl <| RJ_gn (GY_no rfl rfl rfl hg6B) rfl rfl <| RJ_gn (GY_no rfl rfl rfl hg6B) rfl rfl <| gP (zab rfl rfl rfl hg5B) (za2 rfl hg6B rfl) rfl <| oP (za2 rfl hg5B rfl) rfl <| nT <| zbk rfl rfl <| sR <| oA rfl rfl <| nT <| zaj <| zae <| zan (res1 Tryz.results35 rfl) ?_
      have e1 := (fun z=>(⟨z,Md.rsS_no (by rw [z]; decide)⟩:m.rsE n=1∧m.rsS n=m)) (Md.rs_fit hdn hst ⟨by rw [← hat]; simp_all,by simp_all⟩)
      rw [e1.2]
      refine CSpec.close c ?_ ?_ (t0_ (t0_ (eD eR)))
      · rw [e1.1]
      · trivial
     ·
      refine gP (zab rfl rfl rfl hg6B) (zah rfl) rfl <| gP (zab rfl rfl rfl hg6B) (zaa rfl ⟨_,_,_,Tryz.runUnderlying91,rfl,rfl,Tryz.sizeOf30,rfl⟩) rfl <| gV (zab rfl rfl rfl hg6B) (zag rfl foc2 rfl Tryz.isAgg30) rfl <| RJ_gy (zab rfl rfl rfl hg6B) <| zaq (zxy (rrNw hkl) (hO.chk k).2) rfl Tryz.call77 (Dels.cons del0 (Dels.cons del0 Dels.nil)) rfl fun _ hc5=>gP (zab rfl rfl rfl hg6B) (P_not rfl) rfl <| gP (zab rfl rfl rfl hg5B) (za5 rfl hg6B rfl) rfl <| oP (za2 rfl hg5B rfl) rfl <| nT ?_
      first | (refine zao rfl (fun hg7 => ?_) (fun hg7 => ?_)) | (refine zap rfl (fun hg7 => ?_) (fun hg7 => ?_)) | (refine zar rfl (fun hg7 => ?_) (fun hg7 => ?_))
      ·
       refine sR <| oA rfl rfl <| nT <| zaj <| zae <| zan (res1 Tryz.results35 rfl) ?_
       have e1 := (fun z=>(⟨z,Md.rsS_no (by rw [z]; decide)⟩:m.rsE n=1∧m.rsS n=m)) (Md.rs_fit hdn hst ⟨by rw [← hat]; simp_all,by simp_all⟩)
       rw [e1.2]
       refine CSpec.close c ?_ ?_ (t0_ (t0_ (eD eR)))
       · rw [e1.1]
       · trivial
      ·
       refine za8 <| zjd () ?_ (by repeat (first | exact Kp.base | exact Kp.self | refine Kp.cons rfl ?_ | refine Kp.forget rfl ?_)) ?_ (t2_ (t0_ (t0_ eR)))
       ·
        have hq := congrArg Dv.hn (hat k)
        rw [← hq]
        simp_all
       · exact True.intro
    ·
     refine RJ_gn (GY_no rfl rfl rfl hg5B) rfl rfl <| RJ_gn (GY_no rfl rfl rfl hg5B) rfl rfl <| RJ_gn (GY_no rfl rfl rfl hg5B) rfl rfl <| RJ_gn (GY_no rfl rfl rfl hg5B) rfl rfl <| RJ_gn (GY_no rfl rfl rfl hg5B) rfl rfl <| RJ_gn (GY_no rfl rfl rfl hg5B) rfl rfl <| RJ_gn (GY_no rfl rfl rfl hg5B) rfl rfl <| RJ_gn (GY_no rfl rfl rfl hg5B) rfl rfl <| RJ_gn (zbu rfl rfl rfl) rfl rfl <| RJ_gn (zbu rfl rfl rfl) rfl rfl <| RJ_gn (zbu rfl rfl rfl) rfl rfl <| RJ_gn (zbu rfl rfl rfl) rfl rfl <| RJ_gn (zbu rfl rfl rfl) rfl rfl <| RJ_gn (GY_no rfl rfl rfl hg5B) rfl rfl <| oP (za5 rfl hg5B rfl) rfl <| nT <| zbf rfl rfl <| za8 <| zjd () ?_ (by repeat (first | exact Kp.base | exact Kp.self | refine Kp.cons rfl ?_ | refine Kp.forget rfl ?_)) ?_ (t0_ (t0_ (t0_ eR)))
     ·
      have hq := congrArg Dv.hn (hat k)
      rw [← hq]
      simp_all
     · exact True.intro
   ·
    intro _ hft
    show CJ _ _ _ _ _ (([]:Slots) ++ forget _ _) (_)
    refine zad <| sR <| oP (zaa rfl ⟨_,_,_,Tryz.runUnderlying91,rfl,rfl,Tryz.sizeOf4,rfl⟩) rfl <| oV (zag rfl foc0 rfl Tryz.isAgg4) rfl <| nT ?_
    first | (refine zao rfl (fun hg8 => ?_) (fun hg8 => ?_)) | (refine zap rfl (fun hg8 => ?_) (fun hg8 => ?_)) | (refine zar rfl (fun hg8 => ?_) (fun hg8 => ?_))
    ·
     refine zbd (Ent.trans (t2_ eR) (zc5 hkl)) ?_
     let y1:RD × Dv := ({ (c.l.getD k tyDv.dflt).1 with lv := (c.l.getD k tyDv.dflt).1.nw }, { (c.l.getD k tyDv.dflt).2 with live := (c.l.getD k tyDv.dflt).2.new })
     let l1 := c.l.set k y1
     let y2:RD × Dv := ((l1.getD k tyDv.dflt).1, { (l1.getD k tyDv.dflt).2 with hl := true })
     let l2 := l1.set k y2
     let y3:RD × Dv := ({ (l2.getD k tyDv.dflt).1 with nw := s3z }, { (l2.getD k tyDv.dflt).2 with new := [] })
     let l3 := l2.set k y3
     let y4:RD × Dv := ((l3.getD k tyDv.dflt).1, { (l3.getD k tyDv.dflt).2 with hn := false })
     let l4 := l3.set k y4
     refine za4 12264144896 (by kernel_rfl) rfl <| aN 0 1 rfl rfl (zah rfl) rfl <| aN 1 3 rfl rfl (zaf rfl) rfl <| aN 2 7 rfl rfl (zaa rfl ⟨_,_,_,Tryz.runUnderlying72,rfl,rfl,Tryz.sizeOf70,rfl⟩) rfl <| aV 3 15 rfl rfl (zac rfl) (t0_ (t0_ (t0_ (t0_ (t0_ (t0_ (t0_ (t0_ (t0_ eR))))))))) (zag rfl foc8 rfl Tryz.isAgg70) rfl <| aN 4 31 rfl rfl (zah rfl) rfl <| aN 5 63 rfl rfl (zah rfl) rfl <| aN 6 127 rfl rfl (zaf rfl) rfl <| aN 7 255 rfl rfl (zaa rfl ⟨_,_,_,Tryz.runUnderlying72,rfl,rfl,Tryz.sizeOf70,rfl⟩) rfl <| aV 8 511 rfl rfl (zac rfl) (t0_ (t0_ (t0_ (t0_ (t0_ (t0_ (t0_ (t0_ (t0_ eR))))))))) (zag rfl foc8 rfl Tryz.isAgg70) rfl <| aN 9 1023 rfl rfl (zah rfl) rfl <| aN 10 2047 rfl rfl (zah rfl) rfl <| aN 11 4095 rfl rfl (zaf rfl) rfl <| aN 12 8191 rfl rfl (zaa rfl ⟨_,_,_,Tryz.runUnderlying72,rfl,rfl,Tryz.sizeOf70,rfl⟩) rfl <| aV 13 16383 rfl rfl (zac rfl) (t0_ (t0_ (t0_ (t0_ (t0_ (t0_ (t0_ (t0_ (t0_ eR))))))))) (zag rfl foc8 rfl Tryz.isAgg70) rfl <| aN 14 32767 rfl rfl (zah rfl) rfl <| aN 15 65535 rfl rfl (zah rfl) rfl <| aN 16 131071 rfl rfl (zaf rfl) rfl ?_
     refine aN 17 262143 rfl rfl (zaa rfl ⟨_,_,_,Tryz.runUnderlying72,rfl,rfl,Tryz.sizeOf70,rfl⟩) rfl <| aV 18 524287 rfl rfl (zac rfl) (t0_ (t0_ (t0_ (t0_ (t0_ (t0_ (t0_ (t0_ (t0_ eR))))))))) (zag rfl foc8 rfl Tryz.isAgg70) rfl <| aN 19 1048575 rfl rfl (zah rfl) rfl <| aN 20 2097151 rfl rfl (zaa rfl ⟨_,_,_,Tryz.runUnderlying91,rfl,rfl,Tryz.sizeOf30,rfl⟩) rfl <| aV 21 4194303 rfl rfl (zac rfl) (t0_ (t0_ (t0_ (t0_ (t0_ (t0_ (t0_ (t0_ (t0_ eR))))))))) (zag rfl foc7 rfl Tryz.isAgg30) rfl ?_
     first | (refine za9 22 8388607 rfl (by kernel_rfl) rfl (by kernel_rfl) (by kernel_rfl) (zac rfl) (t0_ (t0_ (t0_ (t0_ (t0_ (t0_ (t0_ (t0_ (t0_ eR))))))))) (zal rfl rfl rfl (by first | omega | (simp only [List.length_set]; omega)) foc4 (Reads.sl _ _ _) Tryz.runUnderlying70 Tryz.sizeOf91) rfl (fun _ _ _ _ h=>h) ?_) | (refine za9 22 8388607 rfl (by kernel_rfl) rfl (by kernel_rfl) (by kernel_rfl) (zac rfl) (t0_ (t0_ (t0_ (t0_ (t0_ (t0_ (t0_ (t0_ (t0_ eR))))))))) (zal rfl rfl (Int.toNat_of_nonneg (by first | omega | (simp only [List.length_set]; omega))).symm (by first | omega | (simp only [List.length_set]; omega)) foc4 (Reads.sl _ _ _) Tryz.runUnderlying70 Tryz.sizeOf91) rfl (fun _ _ _ _ h=>h) ?_)
     refine aN 23 16777215 rfl rfl (zay rfl ⟨_,_,_,Tryz.runUnderlying91,rfl,rfl,Tryz.sizeOf30,rfl⟩) rfl <| AJ_op 24 33554431 rfl (by kernel_rfl) rfl (zac rfl) <| zb3 (x' := y1) rfl rfl rfl (by first | omega | (simp only [List.length_set]; omega)) foc4 rfl rfl rfl Tryz.sizeOf30 <| ⟨fun h=>absurd h (by decide),?_⟩
     refine AJ_op 25 67108863 rfl (by kernel_rfl) rfl (zac rfl) <| OJ_V (zal rfl rfl rfl (by first | omega | (simp only [List.length_set]; omega)) foc4 (Reads.sl _ _ _) Tryz.runUnderlying70 Tryz.sizeOf91) rfl <| ⟨fun h=>absurd h (by decide),?_⟩
     refine aN 26 134217727 rfl rfl (zay rfl ⟨_,_,_,Tryz.runUnderlying91,rfl,rfl,Tryz.sizeOf4,rfl⟩) rfl <| AJ_op 27 268435455 rfl (by kernel_rfl) rfl (zac rfl) <| zb3 (x' := y2) rfl rfl rfl (by first | omega | (simp only [List.length_set]; omega)) foc4 rfl rfl rfl Tryz.sizeOf4 <| ⟨fun h=>absurd h (by decide),?_⟩
     refine AJ_op 28 536870911 rfl (by kernel_rfl) rfl (zac rfl) <| OJ_V (zal rfl rfl rfl (by first | omega | (simp only [List.length_set]; omega)) foc4 (Reads.sl _ _ _) Tryz.runUnderlying70 Tryz.sizeOf91) rfl <| ⟨fun h=>absurd h (by decide),?_⟩
     refine aN 29 1073741823 rfl rfl (zay rfl ⟨_,_,_,Tryz.runUnderlying91,rfl,rfl,Tryz.sizeOf30,rfl⟩) rfl <| AJ_op 30 2147483647 rfl (by kernel_rfl) rfl (zac rfl) <| zb3 (x' := y3) rfl rfl rfl (by first | omega | (simp only [List.length_set]; omega)) foc4 rfl rfl rfl Tryz.sizeOf30 <| ⟨fun h=>absurd h (by decide),?_⟩
     refine AJ_op 31 4294967295 rfl (by kernel_rfl) rfl (zac rfl) <| OJ_V (zal rfl rfl rfl (by first | omega | (simp only [List.length_set]; omega)) foc4 (Reads.sl _ _ _) Tryz.runUnderlying70 Tryz.sizeOf91) rfl <| ⟨fun h=>absurd h (by decide),?_⟩
     refine aN 32 8589934591 rfl rfl (zay rfl ⟨_,_,_,Tryz.runUnderlying91,rfl,rfl,Tryz.sizeOf4,rfl⟩) rfl <| AJ_op 33 17179869183 rfl (by kernel_rfl) rfl (zac rfl) <| zb3 (x' := y4) rfl rfl rfl (by first | omega | (simp only [List.length_set]; omega)) foc4 rfl rfl rfl Tryz.sizeOf4 <| ⟨fun h=>absurd h (by decide),?_⟩
     refine aD <| zad ?_
     let y5:RD × Dv := ((l4.getD k tyDv.dflt).1, { (l4.getD k tyDv.dflt).2 with susp := false })
     let l5 := l4.set k y5
     let y6:RD × Dv := ({ (l5.getD k tyDv.dflt).1 with wt := s3z }, { (l5.getD k tyDv.dflt).2 with wait := [] })
     let l6 := l5.set k y6
     refine za4 45056 (by kernel_rfl) rfl <| aN 0 1 rfl rfl (zah rfl) rfl <| aN 1 3 rfl rfl (zaf rfl) rfl <| aN 2 7 rfl rfl (zaa rfl ⟨_,_,_,Tryz.runUnderlying72,rfl,rfl,Tryz.sizeOf70,rfl⟩) rfl <| aV 3 15 rfl rfl (zac rfl) (t0_ (t0_ (t0_ (t0_ (t0_ (t0_ (t0_ (t0_ (t0_ eR))))))))) (zag rfl foc8 rfl Tryz.isAgg70) rfl <| aN 4 31 rfl rfl (zah rfl) rfl <| aN 5 63 rfl rfl (zah rfl) rfl <| aN 6 127 rfl rfl (zaf rfl) rfl <| aN 7 255 rfl rfl (zaa rfl ⟨_,_,_,Tryz.runUnderlying72,rfl,rfl,Tryz.sizeOf70,rfl⟩) rfl <| aV 8 511 rfl rfl (zac rfl) (t0_ (t0_ (t0_ (t0_ (t0_ (t0_ (t0_ (t0_ (t0_ eR))))))))) (zag rfl foc8 rfl Tryz.isAgg70) rfl <| aN 9 1023 rfl rfl (zah rfl) rfl <| aV 10 2047 rfl rfl (zac rfl) (t0_ (t0_ (t0_ (t0_ (t0_ (t0_ (t0_ (t0_ (t0_ eR))))))))) (zal rfl rfl rfl (by first | omega | (simp only [List.length_set]; omega)) foc4 (Reads.sl _ _ _) Tryz.runUnderlying70 Tryz.sizeOf91) rfl <| aN 11 4095 rfl rfl (zay rfl ⟨_,_,_,Tryz.runUnderlying91,rfl,rfl,Tryz.sizeOf4,rfl⟩) rfl ?_
     refine AJ_op 12 8191 rfl (by kernel_rfl) rfl (zac rfl) <| zb3 (x' := y5) rfl rfl rfl (by first | omega | (simp only [List.length_set]; omega)) foc4 rfl rfl rfl Tryz.sizeOf4 <| ⟨fun h=>absurd h (by decide),?_⟩
     refine AJ_op 13 16383 rfl (by kernel_rfl) rfl (zac rfl) <| OJ_V (zal rfl rfl rfl (by first | omega | (simp only [List.length_set]; omega)) foc4 (Reads.sl _ _ _) Tryz.runUnderlying70 Tryz.sizeOf91) rfl <| ⟨fun h=>absurd h (by decide),?_⟩
     refine aN 14 32767 rfl rfl (zay rfl ⟨_,_,_,Tryz.runUnderlying91,rfl,rfl,Tryz.sizeOf89,rfl⟩) rfl <| AJ_op 15 65535 rfl (by kernel_rfl) rfl (zac rfl) <| zb3 (x' := y6) rfl rfl rfl (by first | omega | (simp only [List.length_set]; omega)) foc4 rfl rfl rfl Tryz.sizeOf89 <| ⟨fun h=>absurd h (by decide),?_⟩
     refine aD <| zad <| zad <| zbd (fun h hh=>zb2 (t:=tyapi_Target) h hh) <| zbd (fun h hh=>zb2 (t:=tyWt) h hh) ?_
     have he:m.rs0 k=m.set k { m.at k with live := (m.at k).new,hl := true,new := [],hn := false,susp := false,wait := [] } := by unfold Md.rs0 Md.rsX; rw [if_pos (by rw [← hat]; assumption)]
     refine zbd (t0_ (t0_ (t0_ (t0_ (t0_ (t0_ (Ent.takeC del0 (show sl tyDv c.dv.v l6=sl tyDv c.dv.v (c.l.set k ({ c.hd k with lv := (c.hd k).nw,nw := s3z,wt := s3z }, { m.at k with live := (m.at k).new,hl := true,new := [],hn := false,susp := false,wait := [] })) from congrArg (sl tyDv _) (by simp (config := { zetaDelta := true }) only [stq (show k < c.l.length by omega),hd_at hW,List.set_set])) (t0_ (t0_ (t0_ (t0_ eR))))))))))) <| zbd (Ent.trans (t2_ (t3_ (t1_ (t0_ (t2_ (t2_ (t2_ eR))))))) (zed (h := { c.hd k with lv := (c.hd k).nw,nw := s3z,wt := s3z }) (d := { m.at k with live := (m.at k).new,hl := true,new := [],hn := false,susp := false,wait := [] }) (m' := m.set k { m.at k with live := (m.at k).new,hl := true,new := [],hn := false,susp := false,wait := [] }) hW hkl rfl (he ▸ Md.ok_rs0 hO hk) (hW.big.set hkl rfl (Nat.zero_le _) hW.big.tks hW.big.told hW.big.wr) rfl)) ?_
     rw [← he]
     refine zai <| oA rfl rfl <| nT <| zas <| zbe (X:=Nat × RH) [7,8,9,10,11,101,102,103,104,105,106,107,108,109,110,111,112,113,114,115,116,117,118,119,120,121,122,123,124,125,126,127,128,129,130,131,132,133,134,135,136,137,138,139,140,141,142,143,144,145,146,147,148,149,150,151,152,153,154,155,156,157,158,159,160,161] (fun ⟨i,c2⟩  => ([(7,.int .i64 (i:Nat))]:Slots)) (fun ⟨i,c2⟩ R=>blk b 72 (zbi c2 (m.rsI k i))::RefR c2 (m.rsI k i)::R) (fun ⟨i,c2⟩  => i≤(m.at k).wait.length) (fun ⟨i,c2⟩  => (m.at k).wait.length - i) ⟨0,(c.put k { c.hd k with lv := (c.hd k).nw,nw := s3z,wt := s3z } { m.at k with live := (m.at k).new,hl := true,new := [],hn := false,susp := false,wait := [] })⟩ ?_ ?_ (Ent.takeC del4 (by rw [Md.rsI_zero] <;> rfl) (Ent.takeC del0 (by rw [Md.rsI_zero] <;> rfl) (t0_ (t0_ (t0_ eR))))) ?_
     · exact Nat.zero_le _
     · exact ⟨rfl,True.intro⟩
     ·
      rintro ⟨i,c2⟩ hi
      show CJ _ _ _ _ _ (([(7,.int .i64 (i:Nat))]:Slots) ++ forget _ _) (blk b 72 (zbi c2 (m.rsI k i))::RefR c2 (m.rsI k i)::_)
      refine zba (zci foc1) fun hW2 => ?_
      have hO2 := hW2.ok
      have hln2 := hW2.big.len
      have hll2 := hW2.len
      have hK := Md.rsI_K hi
      have hKt := hK.told
      have hKw := hK.wr
      have hKs := hK.wsum
      have hK0 := Md.rs0_wsum (m:=m) hkl
      have hr0t:(m.rs0 k).told=m.told := rfl
      have hr0w:(m.rs0 k).wr=m.wr := rfl
      rw [hr0t] at hKt
      rw [hr0w] at hKw
      have hwl := m.wait_le k
      refine zad <| sR <| oM rfl rfl <| oP (zaa rfl ⟨_,_,_,Tryz.runUnderlying91,rfl,rfl,Tryz.sizeOf89,rfl⟩) rfl <| oV (zag rfl foc4 rfl Tryz.isAgg89) rfl <| oV (V_len rfl foc3 (Reads.sl _ _ _) Tryz.runUnderlying89) rfl <| oP (P_lss rfl rfl) rfl <| nT ?_
      first | (refine zao rfl (fun hg9 => ?_) (fun hg9 => ?_)) | (refine zap rfl (fun hg9 => ?_) (fun hg9 => ?_)) | (refine zar rfl (fun hg9 => ?_) (fun hg9 => ?_))
      ·
       refine kT <| zad <| zas <| zad ?_
       have hi2:i < (m.at k).wait.length := by omega
       have hog := Md.org_at hO hkl hi2
       have hgv := Md.rsI_isD hkl hi hog.1
       refine zai <| oP (zaa rfl ⟨_,_,_,Tryz.runUnderlying91,rfl,rfl,Tryz.sizeOf89,rfl⟩) rfl <| oV (zag rfl foc4 rfl Tryz.isAgg89) rfl <| oM rfl rfl ?_
       first | (refine RJ_op rfl (OJ_V (zal rfl rfl rfl (by first | omega | (simp only [List.length_set]; omega)) foc3 (Reads.sl _ _ _) Tryz.runUnderlying89 Tryz.sizeOf94) rfl ?_)) | (refine RJ_op rfl (OJ_V (zal rfl rfl (Int.toNat_of_nonneg (by first | omega | (simp only [List.length_set]; omega))).symm (by first | omega | (simp only [List.length_set]; omega)) foc3 (Reads.sl _ _ _) Tryz.runUnderlying89 Tryz.sizeOf94) rfl ?_))
       refine oV (zb7 rfl rfl (by first | omega | (simp only [List.length_set]; omega)) foc3 (Reads.sl _ _ _) rfl rfl Tryz.isAgg94 Tryz.sizeOf94) rfl <| oO <| zb1 Tryz.zeroValue94 rfl rfl fun b6=>oO <| zbj rfl rfl foc0 Tryz.sizeOf94 rfl rfl rfl <| nT <| zad <| sR <| oM rfl rfl <| oP (zaa rfl ⟨_,_,_,Tryz.runUnderlying94,rfl,rfl,Tryz.sizeOf3,rfl⟩) rfl <| oV (zag rfl foc0 rfl Tryz.isAgg3) rfl <| oP (zaa rfl ⟨_,_,_,Tryz.runUnderlying94,rfl,rfl,Tryz.sizeOf33,rfl⟩) rfl <| oV (zbo rfl foc0 Tryz.isAgg33 Tryz.sizeOf33 rfl rfl) rfl <| oO <| zaq ((zik (k:=(((m.at k).wait.getD i Wt.z).gv:Int)) (t:=((m.at k).wait.getD i Wt.z).t) hO2 (kq2 hgv.1 hgv.2.1))) rfl Tryz.call40 (Dels.cons del1 (Dels.cons del1 Dels.nil)) rfl fun _ hc7=>oA rfl rfl <| nT <| sR <| oM rfl rfl <| oP (P_geq rfl rfl) rfl <| nT ?_
       first | (refine zao rfl (fun hg10 => ?_) (fun hg10 => ?_)) | (refine zap rfl (fun hg10 => ?_) (fun hg10 => ?_)) | (refine zar rfl (fun hg10 => ?_) (fun hg10 => ?_))
       ·
        refine zad ?_
        obtain ⟨w,hw,hwi,hwD⟩ := zht hO2 hgv.1 hgv.2.1 (show 0≤(m.rsI k i).wayI ((m.rsI k i).dv.length + 1) (((m.at k).wait.getD i Wt.z).gv:Int) ((m.at k).wait.getD i Wt.z).t by assumption)
        rw [hwi]
        have hwl2 := hwD.1
        have hww := hW2.big.wl w
        have hwle := (m.rsI k i).wait_le w
        refine zbd (Ent.trans (t1_ eR) (zc5 hwl2)) <| zdl [sl tyDv c2.dv.v c2.l,blk b 72 (zbi c2 (m.rsI k i)),blk b6 94 [.int .i64 (((m.at k).wait.getD i Wt.z).tk:Int),.int .i64 (((m.at k).wait.getD i Wt.z).gv:Int),.int .i64 ((m.at k).wait.getD i Wt.z).t.Kind,.int .i64 ((m.at k).wait.getD i Wt.z).t.At,.int .u64 (((m.at k).wait.getD i Wt.z).t.Value.toNat:Int)]] 327680 (by kernel_rfl) rfl <| aN 0 1 rfl rfl (zah rfl) rfl <| aN 1 3 rfl rfl (zaf rfl) rfl <| aN 2 7 rfl rfl (zaa rfl ⟨_,_,_,Tryz.runUnderlying72,rfl,rfl,Tryz.sizeOf70,rfl⟩) rfl <| aV 3 15 rfl rfl (zac rfl) (t4_ (t6_ (t6_ (eD (eD (eD (eD (eD (eD (eD (eD (eD (fun _ _=>trivial))))))))))))) (zag rfl foc1 rfl Tryz.isAgg70) rfl <| aN 4 31 rfl rfl (zah rfl) rfl <| aN 5 63 rfl rfl (zah rfl) rfl <| aN 6 127 rfl rfl (zaf rfl) rfl <| aN 7 255 rfl rfl (zaa rfl ⟨_,_,_,Tryz.runUnderlying72,rfl,rfl,Tryz.sizeOf70,rfl⟩) rfl <| aV 8 511 rfl rfl (zac rfl) (t4_ (t6_ (t6_ (eD (eD (eD (eD (eD (eD (eD (eD (eD (fun _ _=>trivial))))))))))))) (zag rfl foc1 rfl Tryz.isAgg70) rfl <| aN 9 1023 rfl rfl (zah rfl) rfl ?_
        first | (refine za9 10 2047 rfl (by kernel_rfl) rfl (by kernel_rfl) (by kernel_rfl) (zac rfl) (t4_ (t6_ (t6_ (eD (eD (eD (eD (eD (eD (eD (eD (eD (fun _ _=>trivial))))))))))))) (zal rfl rfl rfl (by first | omega | (simp only [List.length_set]; omega)) foc0 (Reads.sl _ _ _) Tryz.runUnderlying70 Tryz.sizeOf91) rfl (fun _ _ _ _ h=>h) ?_) | (refine za9 10 2047 rfl (by kernel_rfl) rfl (by kernel_rfl) (by kernel_rfl) (zac rfl) (t4_ (t6_ (t6_ (eD (eD (eD (eD (eD (eD (eD (eD (eD (fun _ _=>trivial))))))))))))) (zal rfl rfl (Int.toNat_of_nonneg (by first | omega | (simp only [List.length_set]; omega))).symm (by first | omega | (simp only [List.length_set]; omega)) foc0 (Reads.sl _ _ _) Tryz.runUnderlying70 Tryz.sizeOf91) rfl (fun _ _ _ _ h=>h) ?_)
        refine aN 11 4095 rfl rfl (zay rfl ⟨_,_,_,Tryz.runUnderlying91,rfl,rfl,Tryz.sizeOf89,rfl⟩) rfl <| aV 12 8191 rfl rfl (zac rfl) (t4_ (t6_ (t6_ (eD (eD (eD (eD (eD (eD (eD (eD (eD (fun _ _=>trivial))))))))))))) (zaz rfl rfl (by first | omega | (simp only [List.length_set]; omega)) foc0 (Reads.sl _ _ _) rfl rfl Tryz.isAgg89) rfl <| aV 13 16383 rfl rfl (zac rfl) (t4_ (t6_ (t6_ (eD (eD (eD (eD (eD (eD (eD (eD (eD (fun _ _=>trivial))))))))))))) (zbo rfl foc2 Tryz.isAgg94 Tryz.sizeOf94 rfl rfl) rfl <| AJ_op 14 32767 rfl (by kernel_rfl) rfl (zac rfl) <| za7 rfl (zi9 _ _ _ _ _) rfl fun b8=>⟨fun _=>(t5_ (t7_ (t7_ (eD (eD (eD (eD (eD (eD (eD (eD (eD (eD (fun _ _=>trivial)))))))))))))),?_⟩
        refine AJ_op 15 65535 rfl (by kernel_rfl) rfl (zac rfl) <| zbv (t:=tyWt) (bytes:=40) rfl rfl del4 foc0 (Reads.lit (t:=tyWt) (ys:=[((m.at k).wait.getD i Wt.z)]) rfl rfl (by decide) (by decide) rfl) Tryz.underlying89 zjq (by have := (m.rsI k i).wait_le w; simp only [List.length_append,List.length_map,List.length_cons,List.length_nil,maxLen] at *; omega) (by have := (m.rsI k i).wait_le w; simp only [List.length_append,List.length_map,List.length_cons,List.length_nil,maxLen] at *; omega) rfl fun p9 c10=>⟨fun _=>(t5_ (t7_ (t7_ (eD (eD (eD (eD (eD (eD (eD (eD (eD (eD (fun _ _=>trivial)))))))))))))),?_⟩
        first | (refine AJ_op 16 131071 rfl (by kernel_rfl) rfl (zac rfl) (OJ_V (zal rfl rfl rfl (by first | omega | (simp only [List.length_set]; omega)) foc5 (Reads.sl _ _ _) Tryz.runUnderlying70 Tryz.sizeOf91) rfl ?_)) | (refine AJ_op 16 131071 rfl (by kernel_rfl) rfl (zac rfl) (OJ_V (zal rfl rfl (Int.toNat_of_nonneg (by first | omega | (simp only [List.length_set]; omega))).symm (by first | omega | (simp only [List.length_set]; omega)) foc5 (Reads.sl _ _ _) Tryz.runUnderlying70 Tryz.sizeOf91) rfl ?_))
        refine ⟨fun h=>absurd h (by decide),?_⟩
        refine aN 17 262143 rfl rfl (zay rfl ⟨_,_,_,Tryz.runUnderlying91,rfl,rfl,Tryz.sizeOf89,rfl⟩) rfl <| AJ_op 18 524287 rfl (by kernel_rfl) rfl (zac rfl) <| zb3 (x' := ({ (c2.l.getD w tyDv.dflt).1 with wt := ⟨p9,(((m.rsI k i).at w).wait ++ [((m.at k).wait.getD i Wt.z)]).length,c10⟩ }, { (c2.l.getD w tyDv.dflt).2 with wait := (c2.l.getD w tyDv.dflt).2.wait ++ [((m.at k).wait.getD i Wt.z)] })) rfl rfl rfl (by first | omega | (simp only [List.length_set]; omega)) foc5 rfl rfl rfl Tryz.sizeOf89 <| ⟨fun h=>absurd h (by decide),?_⟩
        refine aD <| zbg <| zaw <| zau <| zat <| zai <| oM rfl rfl <| oP (P_add rfl rfl (by first | omega | (simp only [List.length_set]; omega))) rfl <| oA rfl rfl <| za0 ?_
        have he2:m.rsI k (i + 1)=(m.rsI k i).addW w ((m.at k).wait.getD i Wt.z) := by rw [Md.rsI_succ hi2,Md.rsT_way hw]
        refine za6 ⟨i + 1,(c2.put w { c2.hd w with wt := ⟨p9,(((m.rsI k i).at w).wait ++ [((m.at k).wait.getD i Wt.z)]).length,c10⟩ } { (m.rsI k i).at w with wait := ((m.rsI k i).at w).wait ++ [((m.at k).wait.getD i Wt.z)] })⟩ (by show (m.at k).wait.length - (i + 1) < (m.at k).wait.length - i; omega) ?_ (by repeat (first | exact Kp.base | exact Kp.self | refine Kp.cons rfl ?_ | refine Kp.forget rfl ?_)) ?_ (Ent.trans (Ent.trans (t2_ (t2_ (t2_ (t0_ (Ent.takeC del1 (congrArg (sl tyDv _) (by simp only [stq (show w < c2.l.length by omega),hd_at hW2,List.set_set])) (t1_ (t1_ eR))))))) (zed (h := { c2.hd w with wt := ⟨p9,(((m.rsI k i).at w).wait ++ [((m.at k).wait.getD i Wt.z)]).length,c10⟩ }) (d := { (m.rsI k i).at w with wait := ((m.rsI k i).at w).wait ++ [((m.at k).wait.getD i Wt.z)] }) (m' := (m.rsI k i).addW w ((m.at k).wait.getD i Wt.z)) hW2 hwl2 rfl (Md.ok_addW hO2 hwD ⟨hgv.1,hgv.2.1,hgv.2.2,hog.2⟩) (hW2.big.set hwl2 rfl (by show (((m.rsI k i).at w).wait ++ _).length≤_; rw [List.length_append]; have := (m.rsI k i).wait_le w; simp; omega) hW2.big.tks hW2.big.told hW2.big.wr) rfl)) (Ent.takeC del2 (by rw [he2] <;> rfl) (Ent.takeC del0 (by rw [he2] <;> rfl) (t2_ (t2_ (t2_ (eD (eD eR))))))))
        · omega
        · exact ⟨rfl,True.intro⟩
       ·
        refine kT <| sR <| oM rfl rfl <| oP (zaa rfl ⟨_,_,_,Tryz.runUnderlying94,rfl,rfl,Tryz.sizeOf3,rfl⟩) rfl <| oV (zag rfl foc2 rfl Tryz.isAgg3) rfl <| oP (zaa rfl ⟨_,_,_,Tryz.runUnderlying94,rfl,rfl,Tryz.sizeOf33,rfl⟩) rfl <| oV (zbo rfl foc2 Tryz.isAgg33 Tryz.sizeOf33 rfl rfl) rfl <| oO <| zaq ((zhs (k:=((m.at k).wait.getD i Wt.z).gv) (t:=((m.at k).wait.getD i Wt.z).t) hO2 (by omega) ⟨hgv.1,hgv.2.1⟩)) rfl Tryz.call41 (Dels.cons del0 (Dels.cons del0 Dels.nil)) rfl fun c9 h9=>oM rfl rfl <| oP (za1 rfl rfl) rfl <| oP (za1 rfl rfl) rfl <| oA rfl rfl <| oA rfl rfl <| nT ?_
        have hnw := zjr (show ¬ 0≤(m.rsI k i).wayI ((m.rsI k i).dv.length + 1) (((m.at k).wait.getD i Wt.z).gv:Int) ((m.at k).wait.getD i Wt.z).t by assumption)
        refine zbd (Ent.takeC del0 (congrArg (blk b 72) h9.symm) (t0_ (t0_ (t0_ (t0_ (t0_ eR)))))) <| zbd (Ent.trans (t1_ eR) zln) ?_
        have hto9:((m.rsI k i).carryk ((m.at k).wait.getD i Wt.z).gv ((m.at k).wait.getD i Wt.z).t).2.told=(m.rsI k i).told := (Md.carry_kept _ _ _).told
        have hto8 := congrArg List.length hto9
        refine za4 18432 (by kernel_rfl) rfl <| aN 0 1 rfl rfl (zah rfl) rfl <| aN 1 3 rfl rfl (zah rfl) rfl <| aN 2 7 rfl rfl (zaf rfl) rfl <| aN 3 15 rfl rfl (zaa rfl ⟨_,_,_,Tryz.runUnderlying72,rfl,rfl,Tryz.sizeOf54,rfl⟩) rfl <| aV 4 31 rfl rfl (zac rfl) (t0_ (t0_ (t0_ (t0_ (t0_ (t0_ (t0_ eR))))))) (zag rfl foc2 rfl Tryz.isAgg54) rfl <| aN 5 63 rfl rfl (zaa rfl ⟨_,_,_,Tryz.runUnderlying94,rfl,rfl,Tryz.sizeOf3,rfl⟩) rfl <| aV 6 127 rfl rfl (zac rfl) (t0_ (t0_ (t0_ (t0_ (t0_ (t0_ (t0_ eR))))))) (zag rfl foc3 rfl Tryz.isAgg3) rfl <| aN 7 255 rfl rfl (zah rfl) rfl <| aN 8 511 rfl rfl (zah rfl) rfl <| aN 9 1023 rfl rfl (zbm rfl (zg2 _ _ _ _)) rfl <| AJ_op 10 2047 rfl (by kernel_rfl) rfl (zac rfl) <| za7 rfl (zja _ _ _ _) rfl fun b12=>⟨fun _=>(t1_ (t1_ (t1_ (t1_ (t1_ (t1_ (t1_ (eD eR)))))))),?_⟩
        refine AJ_op 11 4095 rfl (by kernel_rfl) rfl (zac rfl) <| zbv (t:=tyapi_Answer) (bytes:=32) rfl rfl del1 foc0 (Reads.lit (t:=tyapi_Answer) (ys:=[(⟨true,(((m.at k).wait.getD i Wt.z).tk:Int),((m.rsI k i).carryk ((m.at k).wait.getD i Wt.z).gv ((m.at k).wait.getD i Wt.z).t).1.1,((m.rsI k i).carryk ((m.at k).wait.getD i Wt.z).gv ((m.at k).wait.getD i Wt.z).t).1.2⟩:api_Answer)]) rfl rfl (by decide) (by decide) rfl) Tryz.underlying54 zea (by simp only [List.length_append,List.length_map,List.length_cons,List.length_nil,maxLen] at *; omega) (by simp only [List.length_append,List.length_map,List.length_cons,List.length_nil,maxLen] at *; omega) rfl fun p13 c14=>⟨fun h=>absurd h (by decide),?_⟩
        refine aN 12 8191 rfl rfl (zaf rfl) rfl <| aN 13 16383 rfl rfl (zaa rfl ⟨_,_,_,Tryz.runUnderlying72,rfl,rfl,Tryz.sizeOf54,rfl⟩) rfl <| AJ_op 14 32767 rfl (by kernel_rfl) rfl (zac rfl) <| zbh rfl rfl foc3 rfl rfl Tryz.sizeOf54 <| ⟨fun h=>absurd h (by decide),?_⟩
        refine zds (by kernel_rfl) <| zak <| zat <| zai <| oM rfl rfl <| oP (P_add rfl rfl (by first | omega | (simp only [List.length_set]; omega))) rfl <| oA rfl rfl <| za0 ?_
        have he2:m.rsI k (i + 1) = { { ((m.rsI k i).carryk ((m.at k).wait.getD i Wt.z).gv ((m.at k).wait.getD i Wt.z).t).2 with told := [] } with told := (((m.rsI k i).carryk ((m.at k).wait.getD i Wt.z).gv ((m.at k).wait.getD i Wt.z).t).2.told ++ [(⟨true,(((m.at k).wait.getD i Wt.z).tk:Int),((m.rsI k i).carryk ((m.at k).wait.getD i Wt.z).gv ((m.at k).wait.getD i Wt.z).t).1.1,((m.rsI k i).carryk ((m.at k).wait.getD i Wt.z).gv ((m.at k).wait.getD i Wt.z).t).1.2⟩:api_Answer)]) } := by
          rw [Md.rsI_succ hi2,Md.rsT_go hnw]
        have htl9:(((m.rsI k i).carryk ((m.at k).wait.getD i Wt.z).gv ((m.at k).wait.getD i Wt.z).t).2.told ++ [(⟨true,(((m.at k).wait.getD i Wt.z).tk:Int),((m.rsI k i).carryk ((m.at k).wait.getD i Wt.z).gv ((m.at k).wait.getD i Wt.z).t).1.1,((m.rsI k i).carryk ((m.at k).wait.getD i Wt.z).gv ((m.at k).wait.getD i Wt.z).t).1.2⟩:api_Answer)]).length≤100000000 := by rw [List.length_append,hto9]; simp; omega
        refine za6 ⟨i + 1, { { c9 with tv := s3z } with tv := ⟨p13,(((m.rsI k i).carryk ((m.at k).wait.getD i Wt.z).gv ((m.at k).wait.getD i Wt.z).t).2.told ++ [(⟨true,(((m.at k).wait.getD i Wt.z).tk:Int),((m.rsI k i).carryk ((m.at k).wait.getD i Wt.z).gv ((m.at k).wait.getD i Wt.z).t).1.1,((m.rsI k i).carryk ((m.at k).wait.getD i Wt.z).gv ((m.at k).wait.getD i Wt.z).t).1.2⟩:api_Answer)]).length,c14⟩ }⟩ (by show (m.at k).wait.length - (i + 1) < (m.at k).wait.length - i; omega) ?_ (by repeat (first | exact Kp.base | exact Kp.self | refine Kp.cons rfl ?_ | refine Kp.forget rfl ?_)) ?_ (Ent.trans (Ent.trans (t0_ (t1_ eR)) (zpt (tv:=⟨p13,(((m.rsI k i).carryk ((m.at k).wait.getD i Wt.z).gv ((m.at k).wait.getD i Wt.z).t).2.told ++ [(⟨true,(((m.at k).wait.getD i Wt.z).tk:Int),((m.rsI k i).carryk ((m.at k).wait.getD i Wt.z).gv ((m.at k).wait.getD i Wt.z).t).1.1,((m.rsI k i).carryk ((m.at k).wait.getD i Wt.z).gv ((m.at k).wait.getD i Wt.z).t).1.2⟩:api_Answer)]).length,c14⟩) htl9)) (Ent.takeC del2 (by rw [he2] <;> rfl) (Ent.takeC del0 (by rw [he2] <;> rfl) (t2_ (t2_ (t2_ (eD (eD eR))))))))
        · omega
        · exact ⟨rfl,True.intro⟩
      ·
       refine zbg <| zaw <| zav <| zau <| zat <| sR <| oA rfl rfl <| nT <| zaj <| zan (res1 Tryz.results35 rfl) ?_
       obtain rfl:i=(m.at k).wait.length := by omega
       have e1 := Md.rs_ok hdn hst hft
       rw [e1.2, ← Md.rsI_end]
       refine CSpec.close c2 ?_ ?_ (t0_ (t0_ (eD (eD (eD eR)))))
       · rw [e1.1]
       · trivial
    ·
     refine kT <| zad <| zbd (Ent.trans (t2_ eR) (zc5 hkl)) ?_
     let y1:RD × Dv := ((c.l.getD k tyDv.dflt).1, { (c.l.getD k tyDv.dflt).2 with susp := false })
     let l1 := c.l.set k y1
     let y2:RD × Dv := ({ (l1.getD k tyDv.dflt).1 with wt := s3z }, { (l1.getD k tyDv.dflt).2 with wait := [] })
     let l2 := l1.set k y2
     refine za4 45056 (by kernel_rfl) rfl <| aN 0 1 rfl rfl (zah rfl) rfl <| aN 1 3 rfl rfl (zaf rfl) rfl <| aN 2 7 rfl rfl (zaa rfl ⟨_,_,_,Tryz.runUnderlying72,rfl,rfl,Tryz.sizeOf70,rfl⟩) rfl <| aV 3 15 rfl rfl (zac rfl) (t0_ (t0_ (t0_ (t0_ (t0_ (t0_ (t0_ (t0_ (t0_ eR))))))))) (zag rfl foc8 rfl Tryz.isAgg70) rfl <| aN 4 31 rfl rfl (zah rfl) rfl <| aN 5 63 rfl rfl (zah rfl) rfl <| aN 6 127 rfl rfl (zaf rfl) rfl <| aN 7 255 rfl rfl (zaa rfl ⟨_,_,_,Tryz.runUnderlying72,rfl,rfl,Tryz.sizeOf70,rfl⟩) rfl <| aV 8 511 rfl rfl (zac rfl) (t0_ (t0_ (t0_ (t0_ (t0_ (t0_ (t0_ (t0_ (t0_ eR))))))))) (zag rfl foc8 rfl Tryz.isAgg70) rfl <| aN 9 1023 rfl rfl (zah rfl) rfl <| aV 10 2047 rfl rfl (zac rfl) (t0_ (t0_ (t0_ (t0_ (t0_ (t0_ (t0_ (t0_ (t0_ eR))))))))) (zal rfl rfl rfl (by first | omega | (simp only [List.length_set]; omega)) foc4 (Reads.sl _ _ _) Tryz.runUnderlying70 Tryz.sizeOf91) rfl <| aN 11 4095 rfl rfl (zay rfl ⟨_,_,_,Tryz.runUnderlying91,rfl,rfl,Tryz.sizeOf4,rfl⟩) rfl ?_
     refine AJ_op 12 8191 rfl (by kernel_rfl) rfl (zac rfl) <| zb3 (x' := y1) rfl rfl rfl (by first | omega | (simp only [List.length_set]; omega)) foc4 rfl rfl rfl Tryz.sizeOf4 <| ⟨fun h=>absurd h (by decide),?_⟩
     refine AJ_op 13 16383 rfl (by kernel_rfl) rfl (zac rfl) <| OJ_V (zal rfl rfl rfl (by first | omega | (simp only [List.length_set]; omega)) foc4 (Reads.sl _ _ _) Tryz.runUnderlying70 Tryz.sizeOf91) rfl <| ⟨fun h=>absurd h (by decide),?_⟩
     refine aN 14 32767 rfl rfl (zay rfl ⟨_,_,_,Tryz.runUnderlying91,rfl,rfl,Tryz.sizeOf89,rfl⟩) rfl <| AJ_op 15 65535 rfl (by kernel_rfl) rfl (zac rfl) <| zb3 (x' := y2) rfl rfl rfl (by first | omega | (simp only [List.length_set]; omega)) foc4 rfl rfl rfl Tryz.sizeOf89 <| ⟨fun h=>absurd h (by decide),?_⟩
     refine aD <| zad <| zad <| zbd (fun h hh=>zb2 (t:=tyWt) h hh) ?_
     have he:m.rs0 k=m.set k { m.at k with susp := false,wait := [] } := by unfold Md.rs0 Md.rsX; rw [if_neg (by rw [← hat]; simp_all)]
     refine zbd (t0_ (t0_ (t0_ (t0_ (t0_ (Ent.takeC del0 (show sl tyDv c.dv.v l2=sl tyDv c.dv.v (c.l.set k ({ c.hd k with wt := s3z }, { m.at k with susp := false,wait := [] })) from congrArg (sl tyDv _) (by simp (config := { zetaDelta := true }) only [stq (show k < c.l.length by omega),hd_at hW,List.set_set])) (t0_ (t0_ (t0_ (t0_ eR)))))))))) <| zbd (Ent.trans (t1_ (t1_ (t1_ (t0_ (t1_ (t1_ (t1_ eR))))))) (zed (h := { c.hd k with wt := s3z }) (d := { m.at k with susp := false,wait := [] }) (m' := m.set k { m.at k with susp := false,wait := [] }) hW hkl rfl (he ▸ Md.ok_rs0 hO hk) (hW.big.set hkl rfl (Nat.zero_le _) hW.big.tks hW.big.told hW.big.wr) rfl)) ?_
     rw [← he]
     refine zai <| oA rfl rfl <| nT <| zas <| zbe (X:=Nat × RH) [7,8,9,10,11,101,102,103,104,105,106,107,108,109,110,111,112,113,114,115,116,117,118,119,120,121,122,123,124,125,126,127,128,129,130,131,132,133,134,135,136,137,138,139,140,141,142,143,144,145,146,147,148,149,150,151,152,153,154,155,156,157,158,159,160,161] (fun ⟨i,c2⟩  => ([(7,.int .i64 (i:Nat))]:Slots)) (fun ⟨i,c2⟩ R=>blk b 72 (zbi c2 (m.rsI k i))::RefR c2 (m.rsI k i)::R) (fun ⟨i,c2⟩  => i≤(m.at k).wait.length) (fun ⟨i,c2⟩  => (m.at k).wait.length - i) ⟨0,(c.put k { c.hd k with wt := s3z } { m.at k with susp := false,wait := [] })⟩ ?_ ?_ (Ent.takeC del3 (by rw [Md.rsI_zero] <;> rfl) (Ent.takeC del0 (by rw [Md.rsI_zero] <;> rfl) (t0_ (t0_ eR)))) ?_
     · exact Nat.zero_le _
     · exact ⟨rfl,True.intro⟩
     ·
      rintro ⟨i,c2⟩ hi
      show CJ _ _ _ _ _ (([(7,.int .i64 (i:Nat))]:Slots) ++ forget _ _) (blk b 72 (zbi c2 (m.rsI k i))::RefR c2 (m.rsI k i)::_)
      refine zba (zci foc1) fun hW2 => ?_
      have hO2 := hW2.ok
      have hln2 := hW2.big.len
      have hll2 := hW2.len
      have hK := Md.rsI_K hi
      have hKt := hK.told
      have hKw := hK.wr
      have hKs := hK.wsum
      have hK0 := Md.rs0_wsum (m:=m) hkl
      have hr0t:(m.rs0 k).told=m.told := rfl
      have hr0w:(m.rs0 k).wr=m.wr := rfl
      rw [hr0t] at hKt
      rw [hr0w] at hKw
      have hwl := m.wait_le k
      refine zad <| sR <| oM rfl rfl <| oP (zaa rfl ⟨_,_,_,Tryz.runUnderlying91,rfl,rfl,Tryz.sizeOf89,rfl⟩) rfl <| oV (zag rfl foc3 rfl Tryz.isAgg89) rfl <| oV (V_len rfl foc2 (Reads.sl _ _ _) Tryz.runUnderlying89) rfl <| oP (P_lss rfl rfl) rfl <| nT ?_
      first | (refine zao rfl (fun hg11 => ?_) (fun hg11 => ?_)) | (refine zap rfl (fun hg11 => ?_) (fun hg11 => ?_)) | (refine zar rfl (fun hg11 => ?_) (fun hg11 => ?_))
      ·
       refine kT <| zad <| zas <| zad ?_
       have hi2:i < (m.at k).wait.length := by omega
       have hog := Md.org_at hO hkl hi2
       have hgv := Md.rsI_isD hkl hi hog.1
       refine zai <| oP (zaa rfl ⟨_,_,_,Tryz.runUnderlying91,rfl,rfl,Tryz.sizeOf89,rfl⟩) rfl <| oV (zag rfl foc3 rfl Tryz.isAgg89) rfl <| oM rfl rfl ?_
       first | (refine RJ_op rfl (OJ_V (zal rfl rfl rfl (by first | omega | (simp only [List.length_set]; omega)) foc2 (Reads.sl _ _ _) Tryz.runUnderlying89 Tryz.sizeOf94) rfl ?_)) | (refine RJ_op rfl (OJ_V (zal rfl rfl (Int.toNat_of_nonneg (by first | omega | (simp only [List.length_set]; omega))).symm (by first | omega | (simp only [List.length_set]; omega)) foc2 (Reads.sl _ _ _) Tryz.runUnderlying89 Tryz.sizeOf94) rfl ?_))
       refine oV (zb7 rfl rfl (by first | omega | (simp only [List.length_set]; omega)) foc2 (Reads.sl _ _ _) rfl rfl Tryz.isAgg94 Tryz.sizeOf94) rfl <| oO <| zb1 Tryz.zeroValue94 rfl rfl fun b15=>oO <| zbj rfl rfl foc0 Tryz.sizeOf94 rfl rfl rfl <| nT <| zad <| sR <| oM rfl rfl <| oP (zaa rfl ⟨_,_,_,Tryz.runUnderlying94,rfl,rfl,Tryz.sizeOf3,rfl⟩) rfl <| oV (zag rfl foc0 rfl Tryz.isAgg3) rfl <| oP (zaa rfl ⟨_,_,_,Tryz.runUnderlying94,rfl,rfl,Tryz.sizeOf33,rfl⟩) rfl <| oV (zbo rfl foc0 Tryz.isAgg33 Tryz.sizeOf33 rfl rfl) rfl <| oO <| zaq ((zik (k:=(((m.at k).wait.getD i Wt.z).gv:Int)) (t:=((m.at k).wait.getD i Wt.z).t) hO2 (kq2 hgv.1 hgv.2.1))) rfl Tryz.call40 (Dels.cons del1 (Dels.cons del1 Dels.nil)) rfl fun _ hc16=>oA rfl rfl <| nT <| sR <| oM rfl rfl <| oP (P_geq rfl rfl) rfl <| nT ?_
       first | (refine zao rfl (fun hg12 => ?_) (fun hg12 => ?_)) | (refine zap rfl (fun hg12 => ?_) (fun hg12 => ?_)) | (refine zar rfl (fun hg12 => ?_) (fun hg12 => ?_))
       ·
        refine zad ?_
        obtain ⟨w,hw,hwi,hwD⟩ := zht hO2 hgv.1 hgv.2.1 (show 0≤(m.rsI k i).wayI ((m.rsI k i).dv.length + 1) (((m.at k).wait.getD i Wt.z).gv:Int) ((m.at k).wait.getD i Wt.z).t by assumption)
        rw [hwi]
        have hwl2 := hwD.1
        have hww := hW2.big.wl w
        have hwle := (m.rsI k i).wait_le w
        refine zbd (Ent.trans (t1_ eR) (zc5 hwl2)) <| zdl [sl tyDv c2.dv.v c2.l,blk b 72 (zbi c2 (m.rsI k i)),blk b15 94 [.int .i64 (((m.at k).wait.getD i Wt.z).tk:Int),.int .i64 (((m.at k).wait.getD i Wt.z).gv:Int),.int .i64 ((m.at k).wait.getD i Wt.z).t.Kind,.int .i64 ((m.at k).wait.getD i Wt.z).t.At,.int .u64 (((m.at k).wait.getD i Wt.z).t.Value.toNat:Int)]] 327680 (by kernel_rfl) rfl <| aN 0 1 rfl rfl (zah rfl) rfl <| aN 1 3 rfl rfl (zaf rfl) rfl <| aN 2 7 rfl rfl (zaa rfl ⟨_,_,_,Tryz.runUnderlying72,rfl,rfl,Tryz.sizeOf70,rfl⟩) rfl <| aV 3 15 rfl rfl (zac rfl) (t4_ (t6_ (t6_ (eD (eD (eD (eD (eD (eD (eD (eD (fun _ _=>trivial)))))))))))) (zag rfl foc1 rfl Tryz.isAgg70) rfl <| aN 4 31 rfl rfl (zah rfl) rfl <| aN 5 63 rfl rfl (zah rfl) rfl <| aN 6 127 rfl rfl (zaf rfl) rfl <| aN 7 255 rfl rfl (zaa rfl ⟨_,_,_,Tryz.runUnderlying72,rfl,rfl,Tryz.sizeOf70,rfl⟩) rfl <| aV 8 511 rfl rfl (zac rfl) (t4_ (t6_ (t6_ (eD (eD (eD (eD (eD (eD (eD (eD (fun _ _=>trivial)))))))))))) (zag rfl foc1 rfl Tryz.isAgg70) rfl <| aN 9 1023 rfl rfl (zah rfl) rfl ?_
        first | (refine za9 10 2047 rfl (by kernel_rfl) rfl (by kernel_rfl) (by kernel_rfl) (zac rfl) (t4_ (t6_ (t6_ (eD (eD (eD (eD (eD (eD (eD (eD (fun _ _=>trivial)))))))))))) (zal rfl rfl rfl (by first | omega | (simp only [List.length_set]; omega)) foc0 (Reads.sl _ _ _) Tryz.runUnderlying70 Tryz.sizeOf91) rfl (fun _ _ _ _ h=>h) ?_) | (refine za9 10 2047 rfl (by kernel_rfl) rfl (by kernel_rfl) (by kernel_rfl) (zac rfl) (t4_ (t6_ (t6_ (eD (eD (eD (eD (eD (eD (eD (eD (fun _ _=>trivial)))))))))))) (zal rfl rfl (Int.toNat_of_nonneg (by first | omega | (simp only [List.length_set]; omega))).symm (by first | omega | (simp only [List.length_set]; omega)) foc0 (Reads.sl _ _ _) Tryz.runUnderlying70 Tryz.sizeOf91) rfl (fun _ _ _ _ h=>h) ?_)
        refine aN 11 4095 rfl rfl (zay rfl ⟨_,_,_,Tryz.runUnderlying91,rfl,rfl,Tryz.sizeOf89,rfl⟩) rfl <| aV 12 8191 rfl rfl (zac rfl) (t4_ (t6_ (t6_ (eD (eD (eD (eD (eD (eD (eD (eD (fun _ _=>trivial)))))))))))) (zaz rfl rfl (by first | omega | (simp only [List.length_set]; omega)) foc0 (Reads.sl _ _ _) rfl rfl Tryz.isAgg89) rfl <| aV 13 16383 rfl rfl (zac rfl) (t4_ (t6_ (t6_ (eD (eD (eD (eD (eD (eD (eD (eD (fun _ _=>trivial)))))))))))) (zbo rfl foc2 Tryz.isAgg94 Tryz.sizeOf94 rfl rfl) rfl <| AJ_op 14 32767 rfl (by kernel_rfl) rfl (zac rfl) <| za7 rfl (zi9 _ _ _ _ _) rfl fun b17=>⟨fun _=>(t5_ (t7_ (t7_ (eD (eD (eD (eD (eD (eD (eD (eD (eD (fun _ _=>trivial))))))))))))),?_⟩
        refine AJ_op 15 65535 rfl (by kernel_rfl) rfl (zac rfl) <| zbv (t:=tyWt) (bytes:=40) rfl rfl del4 foc0 (Reads.lit (t:=tyWt) (ys:=[((m.at k).wait.getD i Wt.z)]) rfl rfl (by decide) (by decide) rfl) Tryz.underlying89 zjq (by have := (m.rsI k i).wait_le w; simp only [List.length_append,List.length_map,List.length_cons,List.length_nil,maxLen] at *; omega) (by have := (m.rsI k i).wait_le w; simp only [List.length_append,List.length_map,List.length_cons,List.length_nil,maxLen] at *; omega) rfl fun p18 c19=>⟨fun _=>(t5_ (t7_ (t7_ (eD (eD (eD (eD (eD (eD (eD (eD (eD (fun _ _=>trivial))))))))))))),?_⟩
        first | (refine AJ_op 16 131071 rfl (by kernel_rfl) rfl (zac rfl) (OJ_V (zal rfl rfl rfl (by first | omega | (simp only [List.length_set]; omega)) foc5 (Reads.sl _ _ _) Tryz.runUnderlying70 Tryz.sizeOf91) rfl ?_)) | (refine AJ_op 16 131071 rfl (by kernel_rfl) rfl (zac rfl) (OJ_V (zal rfl rfl (Int.toNat_of_nonneg (by first | omega | (simp only [List.length_set]; omega))).symm (by first | omega | (simp only [List.length_set]; omega)) foc5 (Reads.sl _ _ _) Tryz.runUnderlying70 Tryz.sizeOf91) rfl ?_))
        refine ⟨fun h=>absurd h (by decide),?_⟩
        refine aN 17 262143 rfl rfl (zay rfl ⟨_,_,_,Tryz.runUnderlying91,rfl,rfl,Tryz.sizeOf89,rfl⟩) rfl <| AJ_op 18 524287 rfl (by kernel_rfl) rfl (zac rfl) <| zb3 (x' := ({ (c2.l.getD w tyDv.dflt).1 with wt := ⟨p18,(((m.rsI k i).at w).wait ++ [((m.at k).wait.getD i Wt.z)]).length,c19⟩ }, { (c2.l.getD w tyDv.dflt).2 with wait := (c2.l.getD w tyDv.dflt).2.wait ++ [((m.at k).wait.getD i Wt.z)] })) rfl rfl rfl (by first | omega | (simp only [List.length_set]; omega)) foc5 rfl rfl rfl Tryz.sizeOf89 <| ⟨fun h=>absurd h (by decide),?_⟩
        refine aD <| zbg <| zaw <| zau <| zat <| zai <| oM rfl rfl <| oP (P_add rfl rfl (by first | omega | (simp only [List.length_set]; omega))) rfl <| oA rfl rfl <| za0 ?_
        have he2:m.rsI k (i + 1)=(m.rsI k i).addW w ((m.at k).wait.getD i Wt.z) := by rw [Md.rsI_succ hi2,Md.rsT_way hw]
        refine za6 ⟨i + 1,(c2.put w { c2.hd w with wt := ⟨p18,(((m.rsI k i).at w).wait ++ [((m.at k).wait.getD i Wt.z)]).length,c19⟩ } { (m.rsI k i).at w with wait := ((m.rsI k i).at w).wait ++ [((m.at k).wait.getD i Wt.z)] })⟩ (by show (m.at k).wait.length - (i + 1) < (m.at k).wait.length - i; omega) ?_ (by repeat (first | exact Kp.base | exact Kp.self | refine Kp.cons rfl ?_ | refine Kp.forget rfl ?_)) ?_ (Ent.trans (Ent.trans (t2_ (t2_ (t2_ (t0_ (Ent.takeC del1 (congrArg (sl tyDv _) (by simp only [stq (show w < c2.l.length by omega),hd_at hW2,List.set_set])) (t1_ (t1_ eR))))))) (zed (h := { c2.hd w with wt := ⟨p18,(((m.rsI k i).at w).wait ++ [((m.at k).wait.getD i Wt.z)]).length,c19⟩ }) (d := { (m.rsI k i).at w with wait := ((m.rsI k i).at w).wait ++ [((m.at k).wait.getD i Wt.z)] }) (m' := (m.rsI k i).addW w ((m.at k).wait.getD i Wt.z)) hW2 hwl2 rfl (Md.ok_addW hO2 hwD ⟨hgv.1,hgv.2.1,hgv.2.2,hog.2⟩) (hW2.big.set hwl2 rfl (by show (((m.rsI k i).at w).wait ++ _).length≤_; rw [List.length_append]; have := (m.rsI k i).wait_le w; simp; omega) hW2.big.tks hW2.big.told hW2.big.wr) rfl)) (Ent.takeC del2 (by rw [he2] <;> rfl) (Ent.takeC del0 (by rw [he2] <;> rfl) (t2_ (t2_ (eD (eD eR)))))))
        · omega
        · exact ⟨rfl,True.intro⟩
       ·
        refine kT <| sR <| oM rfl rfl <| oP (zaa rfl ⟨_,_,_,Tryz.runUnderlying94,rfl,rfl,Tryz.sizeOf3,rfl⟩) rfl <| oV (zag rfl foc2 rfl Tryz.isAgg3) rfl <| oP (zaa rfl ⟨_,_,_,Tryz.runUnderlying94,rfl,rfl,Tryz.sizeOf33,rfl⟩) rfl <| oV (zbo rfl foc2 Tryz.isAgg33 Tryz.sizeOf33 rfl rfl) rfl <| oO <| zaq ((zhs (k:=((m.at k).wait.getD i Wt.z).gv) (t:=((m.at k).wait.getD i Wt.z).t) hO2 (by omega) ⟨hgv.1,hgv.2.1⟩)) rfl Tryz.call41 (Dels.cons del0 (Dels.cons del0 Dels.nil)) rfl fun c9 h9=>oM rfl rfl <| oP (za1 rfl rfl) rfl <| oP (za1 rfl rfl) rfl <| oA rfl rfl <| oA rfl rfl <| nT ?_
        have hnw := zjr (show ¬ 0≤(m.rsI k i).wayI ((m.rsI k i).dv.length + 1) (((m.at k).wait.getD i Wt.z).gv:Int) ((m.at k).wait.getD i Wt.z).t by assumption)
        refine zbd (Ent.takeC del0 (congrArg (blk b 72) h9.symm) (t0_ (t0_ (t0_ (t0_ eR))))) <| zbd (Ent.trans (t1_ eR) zln) ?_
        have hto9:((m.rsI k i).carryk ((m.at k).wait.getD i Wt.z).gv ((m.at k).wait.getD i Wt.z).t).2.told=(m.rsI k i).told := (Md.carry_kept _ _ _).told
        have hto8 := congrArg List.length hto9
        refine za4 18432 (by kernel_rfl) rfl <| aN 0 1 rfl rfl (zah rfl) rfl <| aN 1 3 rfl rfl (zah rfl) rfl <| aN 2 7 rfl rfl (zaf rfl) rfl <| aN 3 15 rfl rfl (zaa rfl ⟨_,_,_,Tryz.runUnderlying72,rfl,rfl,Tryz.sizeOf54,rfl⟩) rfl <| aV 4 31 rfl rfl (zac rfl) (t0_ (t0_ (t0_ (t0_ (t0_ (t0_ eR)))))) (zag rfl foc2 rfl Tryz.isAgg54) rfl <| aN 5 63 rfl rfl (zaa rfl ⟨_,_,_,Tryz.runUnderlying94,rfl,rfl,Tryz.sizeOf3,rfl⟩) rfl <| aV 6 127 rfl rfl (zac rfl) (t0_ (t0_ (t0_ (t0_ (t0_ (t0_ eR)))))) (zag rfl foc3 rfl Tryz.isAgg3) rfl <| aN 7 255 rfl rfl (zah rfl) rfl <| aN 8 511 rfl rfl (zah rfl) rfl <| aN 9 1023 rfl rfl (zbm rfl (zg2 _ _ _ _)) rfl <| AJ_op 10 2047 rfl (by kernel_rfl) rfl (zac rfl) <| za7 rfl (zja _ _ _ _) rfl fun b21=>⟨fun _=>(t1_ (t1_ (t1_ (t1_ (t1_ (t1_ (eD eR))))))),?_⟩
        refine AJ_op 11 4095 rfl (by kernel_rfl) rfl (zac rfl) <| zbv (t:=tyapi_Answer) (bytes:=32) rfl rfl del1 foc0 (Reads.lit (t:=tyapi_Answer) (ys:=[(⟨true,(((m.at k).wait.getD i Wt.z).tk:Int),((m.rsI k i).carryk ((m.at k).wait.getD i Wt.z).gv ((m.at k).wait.getD i Wt.z).t).1.1,((m.rsI k i).carryk ((m.at k).wait.getD i Wt.z).gv ((m.at k).wait.getD i Wt.z).t).1.2⟩:api_Answer)]) rfl rfl (by decide) (by decide) rfl) Tryz.underlying54 zea (by simp only [List.length_append,List.length_map,List.length_cons,List.length_nil,maxLen] at *; omega) (by simp only [List.length_append,List.length_map,List.length_cons,List.length_nil,maxLen] at *; omega) rfl fun p22 c23=>⟨fun h=>absurd h (by decide),?_⟩
        refine aN 12 8191 rfl rfl (zaf rfl) rfl <| aN 13 16383 rfl rfl (zaa rfl ⟨_,_,_,Tryz.runUnderlying72,rfl,rfl,Tryz.sizeOf54,rfl⟩) rfl <| AJ_op 14 32767 rfl (by kernel_rfl) rfl (zac rfl) <| zbh rfl rfl foc3 rfl rfl Tryz.sizeOf54 <| ⟨fun h=>absurd h (by decide),?_⟩
        refine zds (by kernel_rfl) <| zak <| zat <| zai <| oM rfl rfl <| oP (P_add rfl rfl (by first | omega | (simp only [List.length_set]; omega))) rfl <| oA rfl rfl <| za0 ?_
        have he2:m.rsI k (i + 1) = { { ((m.rsI k i).carryk ((m.at k).wait.getD i Wt.z).gv ((m.at k).wait.getD i Wt.z).t).2 with told := [] } with told := (((m.rsI k i).carryk ((m.at k).wait.getD i Wt.z).gv ((m.at k).wait.getD i Wt.z).t).2.told ++ [(⟨true,(((m.at k).wait.getD i Wt.z).tk:Int),((m.rsI k i).carryk ((m.at k).wait.getD i Wt.z).gv ((m.at k).wait.getD i Wt.z).t).1.1,((m.rsI k i).carryk ((m.at k).wait.getD i Wt.z).gv ((m.at k).wait.getD i Wt.z).t).1.2⟩:api_Answer)]) } := by
          rw [Md.rsI_succ hi2,Md.rsT_go hnw]
        have htl9:(((m.rsI k i).carryk ((m.at k).wait.getD i Wt.z).gv ((m.at k).wait.getD i Wt.z).t).2.told ++ [(⟨true,(((m.at k).wait.getD i Wt.z).tk:Int),((m.rsI k i).carryk ((m.at k).wait.getD i Wt.z).gv ((m.at k).wait.getD i Wt.z).t).1.1,((m.rsI k i).carryk ((m.at k).wait.getD i Wt.z).gv ((m.at k).wait.getD i Wt.z).t).1.2⟩:api_Answer)]).length≤100000000 := by rw [List.length_append,hto9]; simp; omega
        refine za6 ⟨i + 1, { { c9 with tv := s3z } with tv := ⟨p22,(((m.rsI k i).carryk ((m.at k).wait.getD i Wt.z).gv ((m.at k).wait.getD i Wt.z).t).2.told ++ [(⟨true,(((m.at k).wait.getD i Wt.z).tk:Int),((m.rsI k i).carryk ((m.at k).wait.getD i Wt.z).gv ((m.at k).wait.getD i Wt.z).t).1.1,((m.rsI k i).carryk ((m.at k).wait.getD i Wt.z).gv ((m.at k).wait.getD i Wt.z).t).1.2⟩:api_Answer)]).length,c23⟩ }⟩ (by show (m.at k).wait.length - (i + 1) < (m.at k).wait.length - i; omega) ?_ (by repeat (first | exact Kp.base | exact Kp.self | refine Kp.cons rfl ?_ | refine Kp.forget rfl ?_)) ?_ (Ent.trans (Ent.trans (t0_ (t1_ eR)) (zpt (tv:=⟨p22,(((m.rsI k i).carryk ((m.at k).wait.getD i Wt.z).gv ((m.at k).wait.getD i Wt.z).t).2.told ++ [(⟨true,(((m.at k).wait.getD i Wt.z).tk:Int),((m.rsI k i).carryk ((m.at k).wait.getD i Wt.z).gv ((m.at k).wait.getD i Wt.z).t).1.1,((m.rsI k i).carryk ((m.at k).wait.getD i Wt.z).gv ((m.at k).wait.getD i Wt.z).t).1.2⟩:api_Answer)]).length,c23⟩) htl9)) (Ent.takeC del2 (by rw [he2] <;> rfl) (Ent.takeC del0 (by rw [he2] <;> rfl) (t2_ (t2_ (eD (eD eR)))))))
        · omega
        · exact ⟨rfl,True.intro⟩
      ·
       refine zbg <| zaw <| zav <| zau <| zat <| sR <| oA rfl rfl <| nT <| zaj <| zan (res1 Tryz.results35 rfl) ?_
       obtain rfl:i=(m.at k).wait.length := by omega
       have e1 := Md.rs_ok hdn hst hft
       rw [e1.2, ← Md.rsI_end]
       refine CSpec.close c2 ?_ ?_ (t0_ (t0_ (eD (eD eR))))
       · rw [e1.1]
       · trivial
end Go.Proofs
