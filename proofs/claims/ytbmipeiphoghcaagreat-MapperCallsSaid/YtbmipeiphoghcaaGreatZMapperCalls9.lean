/- MapperCalls, part 9 of the proof: CLaw4, LMapO, LAw23, PAwake23, CLaw5, CLaw6. -/
import Derived.WalkKit
import Derived.Orders
import Derived.RangeFuncLeaves
import Derived.RangeFuncCalls
import Derived.TacticsIn
import Derived.Handy
import Derived.OrdersHeld
import Derived.OrdersIn
import Derived.Below
import Derived.OpenShut
import Derived.Deep.Slices
import Derived.Scope
import Derived.RangeFuncRecord
import Derived.ChangeKeysEq
import Derived.Laws.BytesArg
import Derived.KernelRfl
import Derived.Maps.RangeRun
import Derived.LaidEql
import Derived.ProofKit
import Derived.ShutString
import Derived.ChangeOld
import Derived.Test.YtbmipeiphoghcaaGreatChecked
import Derived.Test.YtbmipeiphoghcaaGreatRows
import Derived.Test.YtbmipeiphoghcaaGreatZMapperCalls8
set_option linter.unusedSimpArgs false
set_option maxRecDepth 20000
namespace Go.Proofs
open Go.VG
theorem zgt (v0:ByteArray) (v1:ByteArray) (v2:ByteArray) (v3:ByteArray):zbt Tryz.prog 59 4 [(0,.string v0),(1,.string v1),(2,.string v2),(3,.string v3)] 9 [.string v0,.string v1,.string v2,.string v3] := fun w=>by kernel_rfl
theorem zeq (v0:Int) (v1:Int) (v2:Int) (v3:Int) (v4:Int) (v5:Int) (v6:Int) (v7:Int) (v8:Int) (v9:Int) (v10:Int) (v11:Int) (v12:Int) (v13:Int) (v14:Int):zbt Tryz.prog 22 15 [(0,.int .i64 v0),(1,.int .i64 v1),(2,.int .i64 v2),(3,.int .i64 v3),(4,.int .i64 v4),(5,.int .i64 v5),(6,.int .i64 v6),(7,.int .i64 v7),(8,.int .i64 v8),(9,.int .i64 v9),(10,.int .i64 v10),(11,.int .i64 v11),(12,.int .i64 v12),(13,.int .i64 v13),(14,.int .i64 v14)] 3 [.int .i64 v0,.int .i64 v1,.int .i64 v2,.int .i64 v3,.int .i64 v4,.int .i64 v5,.int .i64 v6,.int .i64 v7,.int .i64 v8,.int .i64 v9,.int .i64 v10,.int .i64 v11,.int .i64 v12,.int .i64 v13,.int .i64 v14] := fun w=>by kernel_rfl
theorem zlr (v0:Int) (v1:ByteArray) (v2:ByteArray):∀ w,(Instr.build 35 (#[(0,.int .i64 v0),(1,.string v1),(2,.string v2)]:Array (Nat × Value))).run Tryz.prog w = .ok (.agg #[.int .i64 v0,.string v1,.string v2,.slice none 0 0,.int .i64 0,.int .i64 0,.int .u64 0]) w := fun w=>by kernel_rfl
theorem zi0 (v0:ByteArray) (v1:ByteArray) (v2:ByteArray) (v3:ByteArray) (v4:ByteArray):zbt Tryz.prog 59 5 [(0,.string v0),(1,.string v1),(2,.string v2),(3,.string v3),(4,.string v4)] 9 [.string v0,.string v1,.string v2,.string v3,.string v4] := fun w=>by kernel_rfl
theorem znc (v0:Int) (v1:Int):∀ w,(Instr.build 37 (#[(0,.int .i64 v0),(1,.int .i64 v1)]:Array (Nat × Value))).run Tryz.prog w = .ok (.agg #[.int .i64 v0,.int .i64 v1,.string ByteArray.empty,.int .i64 0,.bool false]) w := fun w=>by kernel_rfl
theorem zez (v0:Int) (v1:Int) (v2:ByteArray) (v3:Int) (v4:Bool):zbt Tryz.prog 30 1 [(0,.agg #[.int .i64 v0,.int .i64 v1,.string v2,.int .i64 v3,.bool v4])] 37 [.int .i64 v0,.int .i64 v1,.string v2,.int .i64 v3,.bool v4] := fun w=>by kernel_rfl
theorem zhu (v0:ByteArray) (v1:ByteArray) (v2:ByteArray) (v3:ByteArray) (v4:ByteArray) (v5:ByteArray) (v6:ByteArray):zbt Tryz.prog 59 7 [(0,.string v0),(1,.string v1),(2,.string v2),(3,.string v3),(4,.string v4),(5,.string v5),(6,.string v6)] 9 [.string v0,.string v1,.string v2,.string v3,.string v4,.string v5,.string v6] := fun w=>by kernel_rfl
theorem zhv (v0:Int) (v1:Int) (v2:Int) (v3:Int) (v4:Int) (v5:Int) (v6:Int):zbt Tryz.prog 22 7 [(0,.int .i64 v0),(1,.int .i64 v1),(2,.int .i64 v2),(3,.int .i64 v3),(4,.int .i64 v4),(5,.int .i64 v5),(6,.int .i64 v6)] 3 [.int .i64 v0,.int .i64 v1,.int .i64 v2,.int .i64 v3,.int .i64 v4,.int .i64 v5,.int .i64 v6] := fun w=>by kernel_rfl
theorem zls (v0:Int) (v1:Int) (v2:Int):∀ w,(Instr.build 33 (#[(0,.int .i64 v0),(1,.int .i64 v1),(2,.int .u64 v2)]:Array (Nat × Value))).run Tryz.prog w = .ok (.agg #[.int .i64 v0,.int .i64 v1,.int .u64 v2]) w := fun w=>by kernel_rfl
structure CallS where
  kd:Int
  nm:ByteArray
  to:ByteArray
  tb:Sl3
  t:api_Task
abbrev callC (x:CallS):List Value := [.int .i64 x.kd,.string x.nm,.string x.to,x.tb.v,.int .i64 x.t.Kind,.int .i64 x.t.At,.int .u64 (x.t.Value.toNat:Int)]
theorem zwi {W:World} {sb:Nat} {a:Int} {v:Value} {L:List Int} {A:HP} (hA:Reads A tyI v L) (hL:L.length≤1000) (ha:0≤a∧a≤1000) :
    CSpec Tryz.prog W 16 [ptr sb 0] [blk sb 63 [v,.int .i64 a],A] (fun x:CallS × List api_Target × Int => .agg (callC x.1).toArray) (fun x=>(0≤x.2.2∧x.2.2≤1000)∧x.2.1.length≤3∧inT x.1.t) (fun x F=>sl tyapi_Target x.1.tb.v x.2.1::blk sb 63 [v,.int .i64 x.2.2]::A::F) := by
 refine CSpec.of_body Tryz.func16 rfl Tryz.ntmps16 rfl fun F => ?_
 show CJ _ _ _ _ _ _ (_::_::F)
 refine sR <| oO <| zb1 Tryz.zeroValue35 rfl rfl fun b1=>nT <| sR <| oO <| za7 rfl (zgt _ _ _ _) rfl fun b2=>zcl (Ent.trans (t0_ eR) (zcd (t:=tyS) (m:=4) [(ByteArray.mk #[97]),(ByteArray.mk #[98]),(ByteArray.mk #[99]),(ByteArray.mk #[100])] rfl rfl rfl (by decide))) <| oA rfl rfl <| nT <| sR <| oM rfl rfl <| oO <| za7 rfl (zeq _ _ _ _ _ _ _ _ _ _ _ _ _ _ _) rfl fun b3=>zcl (Ent.trans (t0_ eR) (zcd (t:=tyI) (m:=15) [(3:Int),(3:Int),(5:Int),(6:Int),(6:Int),(8:Int),(8:Int),(8:Int),(8:Int),(8:Int),(0:Int),(1:Int),(2:Int),(4:Int),(7:Int)] rfl rfl rfl (by decide))) <| oO <| zaq ((zs8 hA hL ha (Reads.sl _ _ _) (by decide))) rfl Tryz.call47 (Dels.cons del3 (Dels.cons del3 (Dels.cons del0 Dels.nil))) rfl fun s4 hs5=>oM rfl rfl <| oM rfl rfl <| oO <| zaq ((zl9 hA hL hs5 (Reads.sl _ _ _) (by decide))) rfl Tryz.call48 (Dels.cons del0 (Dels.cons del0 (Dels.cons del1 Dels.nil))) rfl fun s7 hs8=>oM rfl rfl <| oO <| za7 rfl (zgt _ _ _ _) rfl fun b10=>zcl (Ent.trans (t0_ eR) (zcd (t:=tyS) (m:=4) [(ByteArray.mk #[101]),(ByteArray.mk #[97]),(ByteArray.mk #[102]),(ByteArray.mk #[])] rfl rfl rfl (by decide))) ?_
 refine oO <| zaq ((zl9 hA hL hs8 (Reads.sl _ _ _) (by decide))) rfl Tryz.call48 (Dels.cons del1 (Dels.cons del1 (Dels.cons del0 Dels.nil))) rfl fun s11 hs12=>oP (zbm rfl (zlr _ _ _)) rfl <| oO <| zb1 Tryz.zeroValue35 rfl rfl fun b14=>oO <| zbj rfl rfl foc0 Tryz.sizeOf35 rfl rfl rfl <| nT <| zjc (X:=ByteArray × Int) [19,20,21,22,23,24,25] (fun ⟨nm,a5⟩  => ([]:Slots)) (fun ⟨nm,a5⟩ R=>blk b14 35 [.int .i64 s4.1,.string nm,.string s11.1,.slice none 0 0,.int .i64 0,.int .i64 0,.int .u64 0]::blk sb 63 [v,.int .i64 a5]::R) (fun ⟨nm,a5⟩  => 0≤a5∧a5≤1000) (Dels.cons del0 (Dels.cons del0 Dels.nil)) ?_ ?_
 ·
  refine sR <| oM rfl rfl <| oO <| zaq ((c_sN hA hL hs12 (by omega))) rfl Tryz.call10 (Dels.cons del1 (Dels.cons del1 Dels.nil)) rfl fun s15 hs16=>oP (P_eql rfl rfl) rfl <| nT ?_
  first | (refine zao rfl (fun hg1 => ?_) (fun hg1 => ?_)) | (refine zap rfl (fun hg1 => ?_) (fun hg1 => ?_)) | (refine zar rfl (fun hg1 => ?_) (fun hg1 => ?_))
  ·
   exact zai <| oM rfl rfl <| oO <| za7 rfl (zi0 _ _ _ _ _) rfl fun b18=>zcl (Ent.trans (t0_ eR) (zcd (t:=tyS) (m:=5) [(ByteArray.mk #[100,105,115,107,48]),(ByteArray.mk #[122,122]),(ByteArray.mk #[]),(ByteArray.mk #[101]),(ByteArray.mk #[102])] rfl rfl rfl (by decide))) <| oO <| zaq ((zl9 hA hL hs16.1 (Reads.sl _ _ _) (by decide))) rfl Tryz.call48 (Dels.cons del1 (Dels.cons del1 (Dels.cons del0 Dels.nil))) rfl fun s19 hs20=>oP (zaa rfl ⟨_,_,_,Tryz.runUnderlying35,rfl,rfl,Tryz.sizeOf9,rfl⟩) rfl <| oO <| zbh rfl rfl foc3 rfl rfl Tryz.sizeOf9 <| za0 <| cR ⟨s19.1,s19.2⟩ hs20 True.intro (t3_ (t0_ (t0_ (t1_ (t1_ (t1_ (t1_ (eD eR))))))))
  ·
   exact za8 <| cR ⟨s7.1,s15.2⟩ hs16.1 True.intro (t2_ (t0_ (t0_ (t0_ (t0_ (t0_ (t0_ eR)))))))
 ·
  rintro ⟨nm,a5⟩ ha5
  show CJ _ _ _ _ _ (([]:Slots) ++ forget _ _) (blk b14 35 [.int .i64 s4.1,.string nm,.string s11.1,.slice none 0 0,.int .i64 0,.int .i64 0,.int .u64 0]::blk sb 63 [v,.int .i64 a5]::_)
  refine sR <| oA rfl rfl <| nT <| zad <| sR <| oM rfl rfl <| oO <| zaq ((zro hA hL ha5 (by omega))) rfl Tryz.call11 (Dels.cons del1 (Dels.cons del1 Dels.nil)) rfl fun s22 hs23=>oA rfl rfl <| nT <| zas <| zbd (fun h hh=>zb2 (t:=tyapi_Target) h hh) <| zbe (X:=Int × Int × Int × Sl3 × List api_Target) [5,6,7,28,29,30,31,32,33,34,35,36,37,38,39,40,41,42,43,44,45,46,47,48,49,50,51,52,53,54,55,56,57,58,59,60,61,62,63,64,65,66,67,68,69,70] (fun ⟨i,st,a7,tv,tbl⟩  => ([(6,.int .i64 i),(5,.int .i64 st)]:Slots)) (fun ⟨i,st,a7,tv,tbl⟩ R=>blk b14 35 [.int .i64 s4.1,.string nm,.string s11.1,tv.v,.int .i64 0,.int .i64 0,.int .u64 0]::sl tyapi_Target tv.v tbl::blk sb 63 [v,.int .i64 a7]::R) (fun ⟨i,st,a7,tv,tbl⟩  => (0≤i∧i≤3)∧(0≤st∧st≤100 - 10 * i)∧(0≤a7∧a7≤1000)∧(tbl.length:Int)≤3 - i) (fun ⟨i,st,a7,tv,tbl⟩  => i.toNat) ⟨s22.1,0,s22.2,s3z,[]⟩ ?_ ?_ (t3_ (t0_ (t0_ (t0_ (t0_ (t0_ (t0_ (t0_ eR)))))))) ?_
  · exact ⟨⟨by omega,by omega⟩,⟨by omega,by omega⟩,hs23.1,by simp; omega⟩
  · exact ⟨rfl,rfl,True.intro⟩
  ·
   rintro ⟨i,st,a7,tv,tbl⟩ ⟨hi,hst,ha7,htl⟩
   show CJ _ _ _ _ _ (([(6,.int .i64 i),(5,.int .i64 st)]:Slots) ++ forget _ _) (blk b14 35 [.int .i64 s4.1,.string nm,.string s11.1,tv.v,.int .i64 0,.int .i64 0,.int .u64 0]::sl tyapi_Target tv.v tbl::blk sb 63 [v,.int .i64 a7]::_)
   refine zad <| sR <| oM rfl rfl <| oP (P_gtr rfl rfl) rfl <| nT ?_
   first | (refine zao rfl (fun hg2 => ?_) (fun hg2 => ?_)) | (refine zap rfl (fun hg2 => ?_) (fun hg2 => ?_)) | (refine zar rfl (fun hg2 => ?_) (fun hg2 => ?_))
   ·
    refine kT <| zad <| zas <| sR <| oM rfl rfl <| oM rfl rfl <| oO <| zaq ((zro hA hL ha7 (by omega))) rfl Tryz.call11 (Dels.cons del2 (Dels.cons del2 Dels.nil)) rfl fun s25 hs26=>oP (zbm rfl (znc _ _)) rfl <| oO <| zb1 Tryz.zeroValue37 rfl rfl fun b28=>oO <| zbj rfl rfl foc0 Tryz.sizeOf37 rfl rfl rfl <| nT <| zad <| sR <| oM rfl rfl <| oO <| zaq ((c_sN hA hL hs26.1 (by omega))) rfl Tryz.call10 (Dels.cons del1 (Dels.cons del1 Dels.nil)) rfl fun s29 hs30=>nT <| zas <| sR <| oP (P_eql rfl rfl) rfl <| oA rfl rfl <| nT ?_
    first | (refine zao rfl (fun hg3 => ?_) (fun hg3 => ?_)) | (refine zap rfl (fun hg3 => ?_) (fun hg3 => ?_)) | (refine zar rfl (fun hg3 => ?_) (fun hg3 => ?_))
    ·
     refine zai <| oP (zaa rfl ⟨_,_,_,Tryz.runUnderlying37,rfl,rfl,Tryz.sizeOf4,rfl⟩) rfl <| oO <| zbh rfl rfl foc2 rfl rfl Tryz.sizeOf4 <| za0 <| zak <| zat <| sR <| oM rfl rfl <| oP (zaa rfl ⟨_,_,_,Tryz.runUnderlying37,rfl,rfl,Tryz.sizeOf3,rfl⟩) rfl <| oV (zag rfl foc2 rfl Tryz.isAgg3) rfl <| oP (P_add rfl rfl (by omega)) rfl <| oA rfl rfl <| nT <| zai <| oP (zaa rfl ⟨_,_,_,Tryz.runUnderlying35,rfl,rfl,Tryz.sizeOf30,rfl⟩) rfl <| oV (zag rfl foc3 rfl Tryz.isAgg30) rfl <| oV (zbo rfl foc2 Tryz.isAgg37 Tryz.sizeOf37 rfl rfl) rfl <| oO <| za7 rfl (zez _ _ _ _ _) rfl fun b32=>oO <| zbv (t:=tyapi_Target) (bytes:=48) rfl rfl del5 foc0 (Reads.lit (t:=tyapi_Target) (ys:=[(⟨st,s25.1,ByteArray.empty,0,true⟩:api_Target)]) rfl rfl (by decide) (by decide) rfl) Tryz.underlying30 zcf (by simp only [List.length_append,List.length_cons,List.length_nil,maxLen] at *; omega) (by simp only [List.length_append,List.length_cons,List.length_nil,maxLen] at *; omega) rfl fun p33 c34=>oP (zaa rfl ⟨_,_,_,Tryz.runUnderlying35,rfl,rfl,Tryz.sizeOf30,rfl⟩) rfl <| oO <| zbh rfl rfl foc5 rfl rfl Tryz.sizeOf30 <| za0 <| zak <| zat ?_
     have hz9 := hi
     refine zai <| oM rfl rfl <| oP (P_sub rfl rfl (by omega)) rfl <| oA rfl rfl <| za0 <| za6 ⟨i - 1,st + s25.1,s29.2,⟨p33,(tbl ++ [(⟨st,s25.1,ByteArray.empty,0,true⟩:api_Target)]).length,c34⟩,(tbl ++ [(⟨st,s25.1,ByteArray.empty,0,true⟩:api_Target)])⟩ (by show (i - 1).toNat < i.toNat; omega) ?_ (by repeat (first | exact Kp.base | exact Kp.self | refine Kp.cons rfl ?_ | refine Kp.forget rfl ?_)) ?_ (t5_ (t0_ (t1_ (t1_ (t2_ (t2_ (t2_ (t2_ (eD (eD eR))))))))))
     ·
      refine ⟨by omega,by omega,?_,by simp; omega⟩
      exact hs30.1
     · exact ⟨rfl,rfl,True.intro⟩
    ·
     refine sR <| oP (P_eql rfl rfl) rfl <| oA rfl rfl <| nT ?_
     first | (refine zao rfl (fun hg4 => ?_) (fun hg4 => ?_)) | (refine zap rfl (fun hg4 => ?_) (fun hg4 => ?_)) | (refine zar rfl (fun hg4 => ?_) (fun hg4 => ?_))
     ·
      refine za8 <| zak <| zat <| sR <| oM rfl rfl <| oP (zaa rfl ⟨_,_,_,Tryz.runUnderlying37,rfl,rfl,Tryz.sizeOf3,rfl⟩) rfl <| oV (zag rfl foc2 rfl Tryz.isAgg3) rfl <| oP (P_add rfl rfl (by omega)) rfl <| oA rfl rfl <| nT <| zai <| oP (zaa rfl ⟨_,_,_,Tryz.runUnderlying35,rfl,rfl,Tryz.sizeOf30,rfl⟩) rfl <| oV (zag rfl foc3 rfl Tryz.isAgg30) rfl <| oV (zbo rfl foc2 Tryz.isAgg37 Tryz.sizeOf37 rfl rfl) rfl <| oO <| za7 rfl (zez _ _ _ _ _) rfl fun b35=>oO <| zbv (t:=tyapi_Target) (bytes:=48) rfl rfl del5 foc0 (Reads.lit (t:=tyapi_Target) (ys:=[(⟨st,s25.1,ByteArray.empty,0,false⟩:api_Target)]) rfl rfl (by decide) (by decide) rfl) Tryz.underlying30 zcf (by simp only [List.length_append,List.length_cons,List.length_nil,maxLen] at *; omega) (by simp only [List.length_append,List.length_cons,List.length_nil,maxLen] at *; omega) rfl fun p36 c37=>oP (zaa rfl ⟨_,_,_,Tryz.runUnderlying35,rfl,rfl,Tryz.sizeOf30,rfl⟩) rfl <| oO <| zbh rfl rfl foc5 rfl rfl Tryz.sizeOf30 <| za0 <| zak <| zat ?_
      have hz9 := hi
      refine zai <| oM rfl rfl <| oP (P_sub rfl rfl (by omega)) rfl <| oA rfl rfl <| za0 <| za6 ⟨i - 1,st + s25.1,s29.2,⟨p36,(tbl ++ [(⟨st,s25.1,ByteArray.empty,0,false⟩:api_Target)]).length,c37⟩,(tbl ++ [(⟨st,s25.1,ByteArray.empty,0,false⟩:api_Target)])⟩ (by show (i - 1).toNat < i.toNat; omega) ?_ (by repeat (first | exact Kp.base | exact Kp.self | refine Kp.cons rfl ?_ | refine Kp.forget rfl ?_)) ?_ (t5_ (t0_ (t1_ (t1_ (t2_ (t2_ (t2_ (t2_ (eD (eD eR))))))))))
      ·
       refine ⟨by omega,by omega,?_,by simp; omega⟩
       exact hs30.1
      · exact ⟨rfl,rfl,True.intro⟩
     ·
      refine sR <| oM rfl rfl <| oO <| za7 rfl (zhu _ _ _ _ _ _ _) rfl fun b38=>zcl (Ent.trans (t0_ eR) (zcd (t:=tyS) (m:=7) [(ByteArray.mk #[100,105,115,107,48]),(ByteArray.mk #[100,105,115,107,49]),(ByteArray.mk #[100,105,115,107,48]),(ByteArray.mk #[97]),(ByteArray.mk #[98]),(ByteArray.mk #[99]),(ByteArray.mk #[122,122])] rfl rfl rfl (by decide))) <| oO <| zaq ((zl9 hA hL hs30.1 (Reads.sl _ _ _) (by decide))) rfl Tryz.call48 (Dels.cons del1 (Dels.cons del1 (Dels.cons del0 Dels.nil))) rfl fun s39 hs40=>oM rfl rfl <| oO <| zaq ((c_sN hA hL hs40 (by omega))) rfl Tryz.call10 (Dels.cons del0 (Dels.cons del0 Dels.nil)) rfl fun s42 hs43=>oP (zaa rfl ⟨_,_,_,Tryz.runUnderlying37,rfl,rfl,Tryz.sizeOf9,rfl⟩) rfl <| oO <| zbh rfl rfl foc3 rfl rfl Tryz.sizeOf9 <| oP (zaa rfl ⟨_,_,_,Tryz.runUnderlying37,rfl,rfl,Tryz.sizeOf3,rfl⟩) rfl <| oO <| zbh rfl rfl foc3 rfl rfl Tryz.sizeOf3 <| nT <| sR <| oP (zaa rfl ⟨_,_,_,Tryz.runUnderlying37,rfl,rfl,Tryz.sizeOf9,rfl⟩) rfl <| oV (zag rfl foc3 rfl Tryz.isAgg9) rfl <| oP (zdo rfl rfl Tryz.underlying9) rfl <| oM rfl rfl ?_
      first | (refine zbp 48 rfl (fun hg5B hg5 => ?_) (fun hg5B hg5 => ?_)) | (refine zbq 48 rfl (fun hg5B hg5 => ?_) (fun hg5B hg5 => ?_)) | (refine zbr 48 rfl (fun hg5B => ?_) (fun hg5B => ?_))
      ·
       refine gP (zab rfl rfl rfl hg5B) (zaa rfl ⟨_,_,_,Tryz.runUnderlying37,rfl,rfl,Tryz.sizeOf9,rfl⟩) rfl <| gV (zab rfl rfl rfl hg5B) (zag rfl foc3 rfl Tryz.isAgg9) rfl <| gP (zab rfl rfl rfl hg5B) (zdo rfl rfl Tryz.underlying9) rfl <| oP (za2 rfl hg5B rfl) rfl <| nT ?_
       first | (refine zao rfl (fun hg6 => ?_) (fun hg6 => ?_)) | (refine zap rfl (fun hg6 => ?_) (fun hg6 => ?_)) | (refine zar rfl (fun hg6 => ?_) (fun hg6 => ?_))
       ·
        refine zai <| oM rfl rfl <| oO <| zaq ((c_sN hA hL hs43.1 (by omega))) rfl Tryz.call10 (Dels.cons del0 (Dels.cons del0 Dels.nil)) rfl fun s45 hs46=>oP (zaa rfl ⟨_,_,_,Tryz.runUnderlying37,rfl,rfl,Tryz.sizeOf3,rfl⟩) rfl <| oO <| zbh rfl rfl foc3 rfl rfl Tryz.sizeOf3 <| za0 <| zak <| zat <| sR <| oM rfl rfl <| oP (zaa rfl ⟨_,_,_,Tryz.runUnderlying37,rfl,rfl,Tryz.sizeOf3,rfl⟩) rfl <| oV (zag rfl foc3 rfl Tryz.isAgg3) rfl <| oP (P_add rfl rfl (by omega)) rfl <| oA rfl rfl <| nT <| zai <| oP (zaa rfl ⟨_,_,_,Tryz.runUnderlying35,rfl,rfl,Tryz.sizeOf30,rfl⟩) rfl <| oV (zag rfl foc4 rfl Tryz.isAgg30) rfl <| oV (zbo rfl foc3 Tryz.isAgg37 Tryz.sizeOf37 rfl rfl) rfl <| oO <| za7 rfl (zez _ _ _ _ _) rfl fun b48=>oO <| zbv (t:=tyapi_Target) (bytes:=48) rfl rfl del6 foc0 (Reads.lit (t:=tyapi_Target) (ys:=[(⟨st,s25.1,s39.1,s45.1,false⟩:api_Target)]) rfl rfl (by decide) (by decide) rfl) Tryz.underlying30 zcf (by simp only [List.length_append,List.length_cons,List.length_nil,maxLen] at *; omega) (by simp only [List.length_append,List.length_cons,List.length_nil,maxLen] at *; omega) rfl fun p49 c50=>oP (zaa rfl ⟨_,_,_,Tryz.runUnderlying35,rfl,rfl,Tryz.sizeOf30,rfl⟩) rfl <| oO <| zbh rfl rfl foc6 rfl rfl Tryz.sizeOf30 <| za0 <| zak <| zat ?_
        have hz9 := hi
        refine zai <| oM rfl rfl <| oP (P_sub rfl rfl (by omega)) rfl <| oA rfl rfl <| za0 <| za6 ⟨i - 1,st + s25.1,s45.2,⟨p49,(tbl ++ [(⟨st,s25.1,s39.1,s45.1,false⟩:api_Target)]).length,c50⟩,(tbl ++ [(⟨st,s25.1,s39.1,s45.1,false⟩:api_Target)])⟩ (by show (i - 1).toNat < i.toNat; omega) ?_ (by repeat (first | exact Kp.base | exact Kp.self | refine Kp.cons rfl ?_ | refine Kp.forget rfl ?_)) ?_ (t6_ (t0_ (t1_ (t1_ (t3_ (t3_ (t3_ (t3_ (eD (eD (eD eR)))))))))))
        ·
         refine ⟨by omega,by omega,?_,by simp; omega⟩
         exact hs46.1
        · exact ⟨rfl,rfl,True.intro⟩
       ·
        refine za8 <| zak <| zat <| sR <| oM rfl rfl <| oP (zaa rfl ⟨_,_,_,Tryz.runUnderlying37,rfl,rfl,Tryz.sizeOf3,rfl⟩) rfl <| oV (zag rfl foc3 rfl Tryz.isAgg3) rfl <| oP (P_add rfl rfl (by omega)) rfl <| oA rfl rfl <| nT <| zai <| oP (zaa rfl ⟨_,_,_,Tryz.runUnderlying35,rfl,rfl,Tryz.sizeOf30,rfl⟩) rfl <| oV (zag rfl foc4 rfl Tryz.isAgg30) rfl <| oV (zbo rfl foc3 Tryz.isAgg37 Tryz.sizeOf37 rfl rfl) rfl <| oO <| za7 rfl (zez _ _ _ _ _) rfl fun b51=>oO <| zbv (t:=tyapi_Target) (bytes:=48) rfl rfl del6 foc0 (Reads.lit (t:=tyapi_Target) (ys:=[(⟨st,s25.1,s39.1,s42.1,false⟩:api_Target)]) rfl rfl (by decide) (by decide) rfl) Tryz.underlying30 zcf (by simp only [List.length_append,List.length_cons,List.length_nil,maxLen] at *; omega) (by simp only [List.length_append,List.length_cons,List.length_nil,maxLen] at *; omega) rfl fun p52 c53=>oP (zaa rfl ⟨_,_,_,Tryz.runUnderlying35,rfl,rfl,Tryz.sizeOf30,rfl⟩) rfl <| oO <| zbh rfl rfl foc6 rfl rfl Tryz.sizeOf30 <| za0 <| zak <| zat ?_
        have hz9 := hi
        refine zai <| oM rfl rfl <| oP (P_sub rfl rfl (by omega)) rfl <| oA rfl rfl <| za0 <| za6 ⟨i - 1,st + s25.1,s42.2,⟨p52,(tbl ++ [(⟨st,s25.1,s39.1,s42.1,false⟩:api_Target)]).length,c53⟩,(tbl ++ [(⟨st,s25.1,s39.1,s42.1,false⟩:api_Target)])⟩ (by show (i - 1).toNat < i.toNat; omega) ?_ (by repeat (first | exact Kp.base | exact Kp.self | refine Kp.cons rfl ?_ | refine Kp.forget rfl ?_)) ?_ (t6_ (t0_ (t1_ (t1_ (t3_ (t3_ (t3_ (t3_ (eD (eD (eD eR)))))))))))
        ·
         refine ⟨by omega,by omega,?_,by simp; omega⟩
         exact hs43.1
        · exact ⟨rfl,rfl,True.intro⟩
      ·
       refine RJ_gn (GY_no rfl rfl rfl hg5B) rfl rfl <| RJ_gn (GY_no rfl rfl rfl hg5B) rfl rfl <| RJ_gn (GY_no rfl rfl rfl hg5B) rfl rfl <| oP (za5 rfl hg5B rfl) rfl <| nT <| zbf rfl rfl <| za8 <| zak <| zat <| sR <| oM rfl rfl <| oP (zaa rfl ⟨_,_,_,Tryz.runUnderlying37,rfl,rfl,Tryz.sizeOf3,rfl⟩) rfl <| oV (zag rfl foc3 rfl Tryz.isAgg3) rfl <| oP (P_add rfl rfl (by omega)) rfl <| oA rfl rfl <| nT <| zai <| oP (zaa rfl ⟨_,_,_,Tryz.runUnderlying35,rfl,rfl,Tryz.sizeOf30,rfl⟩) rfl <| oV (zag rfl foc4 rfl Tryz.isAgg30) rfl <| oV (zbo rfl foc3 Tryz.isAgg37 Tryz.sizeOf37 rfl rfl) rfl <| oO <| za7 rfl (zez _ _ _ _ _) rfl fun b54=>oO <| zbv (t:=tyapi_Target) (bytes:=48) rfl rfl del6 foc0 (Reads.lit (t:=tyapi_Target) (ys:=[(⟨st,s25.1,s39.1,s42.1,false⟩:api_Target)]) rfl rfl (by decide) (by decide) rfl) Tryz.underlying30 zcf (by simp only [List.length_append,List.length_cons,List.length_nil,maxLen] at *; omega) (by simp only [List.length_append,List.length_cons,List.length_nil,maxLen] at *; omega) rfl fun p55 c56=>oP (zaa rfl ⟨_,_,_,Tryz.runUnderlying35,rfl,rfl,Tryz.sizeOf30,rfl⟩) rfl <| oO <| zbh rfl rfl foc6 rfl rfl Tryz.sizeOf30 <| za0 <| zak <| zat ?_
       have hz9 := hi
       refine zai <| oM rfl rfl <| oP (P_sub rfl rfl (by omega)) rfl <| oA rfl rfl <| za0 <| za6 ⟨i - 1,st + s25.1,s42.2,⟨p55,(tbl ++ [(⟨st,s25.1,s39.1,s42.1,false⟩:api_Target)]).length,c56⟩,(tbl ++ [(⟨st,s25.1,s39.1,s42.1,false⟩:api_Target)])⟩ (by show (i - 1).toNat < i.toNat; omega) ?_ (by repeat (first | exact Kp.base | exact Kp.self | refine Kp.cons rfl ?_ | refine Kp.forget rfl ?_)) ?_ (t6_ (t0_ (t1_ (t1_ (t3_ (t3_ (t3_ (t3_ (eD (eD (eD eR)))))))))))
       ·
        refine ⟨by omega,by omega,?_,by simp; omega⟩
        exact hs43.1
       · exact ⟨rfl,rfl,True.intro⟩
   ·
    refine zbg <| zaw <| zav <| zau <| zat <| sR <| oM rfl rfl <| oO <| za7 rfl (zhv _ _ _ _ _ _ _) rfl fun b57=>zcl (Ent.trans (t0_ eR) (zcd (t:=tyI) (m:=7) [(1:Int),(2:Int),(2:Int),(3:Int),(1:Int),(2:Int),(0:Int)] rfl rfl rfl (by decide))) <| oO <| zaq ((zs8 hA hL ha7 (Reads.sl _ _ _) (by decide))) rfl Tryz.call47 (Dels.cons del3 (Dels.cons del3 (Dels.cons del0 Dels.nil))) rfl fun s58 hs59=>oM rfl rfl <| oO <| zaq ((c_sN hA hL hs59 (by omega))) rfl Tryz.call10 (Dels.cons del0 (Dels.cons del0 Dels.nil)) rfl fun s61 hs62=>oM rfl rfl <| oO <| zaq ((c_sN hA hL hs62.1 (by omega))) rfl Tryz.call10 (Dels.cons del0 (Dels.cons del0 Dels.nil)) rfl fun s64 hs65=>oP (zx8 rfl Tryz.runUnderlying3 Tryz.runUnderlying31) rfl <| oP (zbm rfl (zls _ _ _)) rfl <| oP (zaa rfl ⟨_,_,_,Tryz.runUnderlying35,rfl,rfl,Tryz.sizeOf33,rfl⟩) rfl <| oO <| zbj rfl rfl foc3 Tryz.sizeOf33 rfl rfl rfl <| nT <| zad <| sR <| oM rfl rfl <| oO <| zaq ((c_sN hA hL hs65.1 (by omega))) rfl Tryz.call10 (Dels.cons del0 (Dels.cons del0 Dels.nil)) rfl fun s67 hs68=>oP (P_gtr rfl rfl) rfl <| nT ?_
    first | (refine zao rfl (fun hg7 => ?_) (fun hg7 => ?_)) | (refine zap rfl (fun hg7 => ?_) (fun hg7 => ?_)) | (refine zar rfl (fun hg7 => ?_) (fun hg7 => ?_))
    ·
     refine zai <| oM rfl rfl <| oO <| zaq ((c_sN hA hL hs68.1 (by omega))) rfl Tryz.call10 (Dels.cons del0 (Dels.cons del0 Dels.nil)) rfl fun s70 hs71=>oP (zaa rfl ⟨_,_,_,Tryz.runUnderlying35,rfl,rfl,Tryz.sizeOf33,rfl⟩) rfl <| oP (zaa rfl ⟨_,_,_,Tryz.runUnderlying33,rfl,rfl,Tryz.sizeOf3,rfl⟩) rfl <| oO <| zbh rfl rfl foc3 rfl rfl Tryz.sizeOf3 <| nT <| sR <| oV (zbo rfl foc3 Tryz.isAgg35 Tryz.sizeOf35 rfl rfl) rfl <| oO <| zbj rfl rfl foc8 Tryz.sizeOf35 rfl rfl rfl <| nT <| zaj <| zan (resA1 Tryz.results16 (zb8 rfl foc8 Tryz.isAgg35 Tryz.sizeOf35 rfl rfl)) <| CSpec.close ⟨⟨s4.1,nm,s11.1,tv,⟨s58.1,s70.1,zeg s64.1⟩⟩,tbl,s70.2⟩ ?_ ?_ (t4_ (t0_ (t0_ (eD (eD (eD (eD (eD (eD eR)))))))))
     · rfl
     ·
      refine ⟨hs71.1,by show (tbl.length:Nat)≤3; omega,?_⟩
      exact ⟨by show -9223372036854775808≤s70.1; omega,by show s70.1≤9223372036854775807; omega⟩
    ·
     refine kT <| sR <| oV (zbo rfl foc3 Tryz.isAgg35 Tryz.sizeOf35 rfl rfl) rfl <| oO <| zbj rfl rfl foc8 Tryz.sizeOf35 rfl rfl rfl <| nT <| zaj <| zan (resA1 Tryz.results16 (zb8 rfl foc8 Tryz.isAgg35 Tryz.sizeOf35 rfl rfl)) <| CSpec.close ⟨⟨s4.1,nm,s11.1,tv,⟨s58.1,s61.1,zeg s64.1⟩⟩,tbl,s67.2⟩ ?_ ?_ (t4_ (t0_ (t0_ (eD (eD (eD (eD (eD (eD eR)))))))))
     · rfl
     ·
      refine ⟨hs68.1,by show (tbl.length:Nat)≤3; omega,?_⟩
      exact ⟨by show -9223372036854775808≤s61.1; omega,by show s61.1≤9223372036854775807; omega⟩
end Go.Proofs
set_option linter.unusedSimpArgs false
set_option linter.unusedVariables false
set_option maxRecDepth 20000
set_option maxHeartbeats 4000000
namespace Go.Proofs
open Go.VG
instance {t:api_Task} : Decidable (inT t) := by unfold inT; infer_instance
theorem c_DoG {W:World} {b:Nat} {m:Md} {n:ByteArray} {t:api_Task} (h:m.cl < 4000∧inT t):CSpec Tryz.prog W 37 [ptr b 0,.string n,.agg #[.int .i64 t.Kind,.int .i64 t.At,.int .u64 (t.Value.toNat:Int)]] (MapP b m::[]) (fun _:Unit => .tuple #[.agg #[.bool (m.doA n t).Done,.int .i64 (m.doA n t).Ticket,.int .u64 ((m.doA n t).Value.toNat:Int),.int .i64 (m.doA n t).Error],.int .i64 (m.doE n t)]) (fun _=>True) (fun _ F=>MapP b (m.doS n t).tick::([] ++ F)) := c_DoP h.1 h.2
theorem zs9 {W:World} {b:Nat} {m:Md} {n:ByteArray} {A:HP} {v:Sl3} {l:List api_Target} (hA:Reads A tyapi_Target v.v l) (h:m.cl < 4000∧l.length≤100000000):CSpec Tryz.prog W 28 [ptr b 0,.string n,v.v] (MapP b m::[A]) (fun _:Unit => .int .i64 (m.ldE n l)) (fun _=>True) (fun _ F=>MapP b (m.ldS n l).tick::([A] ++ F)) := zsy hA h.1 h.2
end Go.Proofs
set_option linter.unusedSimpArgs false
set_option linter.unusedVariables false
set_option maxRecDepth 20000
set_option maxHeartbeats 4000000
namespace Go.Proofs
open Go.VG
theorem zt0 (v0:Int) (v1:ByteArray):∀ w,(Instr.build 37 (#[(1,.int .i64 v0),(2,.string v1)]:Array (Nat × Value))).run Tryz.prog w = .ok (.agg #[.int .i64 (0:Int),.int .i64 v0,.string v1,.int .i64 (0:Int),.bool false]) w := fun w=>by kernel_rfl
theorem zpy (v0:Int) (v1:Int) (v2:ByteArray) (v3:Int) (v4:Bool):zbt Tryz.prog 30 1 [(0,.agg #[.int .i64 v0,.int .i64 v1,.string v2,.int .i64 v3,.bool v4])] 37 [.int .i64 v0,.int .i64 v1,.string v2,.int .i64 v3,.bool v4] := fun w=>by kernel_rfl
theorem zrp (v0:Int) (v1:Int) (v2:Int):∀ w,(Instr.build 33 (#[(0,.int .i64 v0),(1,.int .i64 v1),(2,.int .u64 v2)]:Array (Nat × Value))).run Tryz.prog w = .ok (.agg #[.int .i64 v0,.int .i64 v1,.int .u64 v2]) w := fun w=>by kernel_rfl
theorem zrq (v0:Int) (v1:ByteArray) (v2:Int):∀ w,(Instr.build 37 (#[(1,.int .i64 v0),(2,.string v1),(3,.int .i64 v2)]:Array (Nat × Value))).run Tryz.prog w = .ok (.agg #[.int .i64 (0:Int),.int .i64 v0,.string v1,.int .i64 v2,.bool false]) w := fun w=>by kernel_rfl
theorem zt1 (v0:Int) (v1:Int):∀ w,(Instr.build 33 (#[(0,.int .i64 v0),(1,.int .i64 v1)]:Array (Nat × Value))).run Tryz.prog w = .ok (.agg #[.int .i64 v0,.int .i64 v1,.int .u64 0]) w := fun w=>by kernel_rfl
def ze4:Option (Bool) :=
  grd (decide (Mb2.cl < 4000)) <|
  if ((Md.crE Mb2 (ByteArray.mk #[120]))≠(0:Int)) then
    some false
  else
    grd (decide (((Md.tick (Md.crS Mb2 (ByteArray.mk #[120])))).cl < 4000∧([(⟨(0:Int),(4:Int),(ByteArray.mk #[100,105,115,107,48]),(0:Int),false⟩:api_Target)]).length≤100000000)) <|
    lt ((Md.ldE ((Md.tick (Md.crS Mb2 (ByteArray.mk #[120])))) (ByteArray.mk #[120]) ([(⟨(0:Int),(4:Int),(ByteArray.mk #[100,105,115,107,48]),(0:Int),false⟩:api_Target)]))) fun w5 =>
    if (w5≠(0:Int)) then
      some false
    else
      grd (decide (((Md.tick (Md.ldS ((Md.tick (Md.crS Mb2 (ByteArray.mk #[120])))) (ByteArray.mk #[120]) ([(⟨(0:Int),(4:Int),(ByteArray.mk #[100,105,115,107,48]),(0:Int),false⟩:api_Target)])))).cl < 4000)) <|
      lt ((Md.suE ((Md.tick (Md.ldS ((Md.tick (Md.crS Mb2 (ByteArray.mk #[120])))) (ByteArray.mk #[120]) ([(⟨(0:Int),(4:Int),(ByteArray.mk #[100,105,115,107,48]),(0:Int),false⟩:api_Target)])))) (ByteArray.mk #[120]))) fun w6 =>
      if (w6≠(0:Int)) then
        some false
      else
        grd (decide (((Md.tick (Md.suS ((Md.tick (Md.ldS ((Md.tick (Md.crS Mb2 (ByteArray.mk #[120])))) (ByteArray.mk #[120]) ([(⟨(0:Int),(4:Int),(ByteArray.mk #[100,105,115,107,48]),(0:Int),false⟩:api_Target)])))) (ByteArray.mk #[120])))).cl < 4000)) <|
        lt ((Md.rsE ((Md.tick (Md.suS ((Md.tick (Md.ldS ((Md.tick (Md.crS Mb2 (ByteArray.mk #[120])))) (ByteArray.mk #[120]) ([(⟨(0:Int),(4:Int),(ByteArray.mk #[100,105,115,107,48]),(0:Int),false⟩:api_Target)])))) (ByteArray.mk #[120])))) (ByteArray.mk #[120]))) fun w7 =>
        if (w7≠(0:Int)) then
          some false
        else
          grd (decide (((Md.tick (Md.rsS ((Md.tick (Md.suS ((Md.tick (Md.ldS ((Md.tick (Md.crS Mb2 (ByteArray.mk #[120])))) (ByteArray.mk #[120]) ([(⟨(0:Int),(4:Int),(ByteArray.mk #[100,105,115,107,48]),(0:Int),false⟩:api_Target)])))) (ByteArray.mk #[120])))) (ByteArray.mk #[120])))).cl < 4000)) <|
          lt ((Md.suE ((Md.tick (Md.rsS ((Md.tick (Md.suS ((Md.tick (Md.ldS ((Md.tick (Md.crS Mb2 (ByteArray.mk #[120])))) (ByteArray.mk #[120]) ([(⟨(0:Int),(4:Int),(ByteArray.mk #[100,105,115,107,48]),(0:Int),false⟩:api_Target)])))) (ByteArray.mk #[120])))) (ByteArray.mk #[120])))) (ByteArray.mk #[120]))) fun w8 =>
          if (w8≠(0:Int)) then
            some false
          else
            grd (decide (((Md.tick (Md.suS ((Md.tick (Md.rsS ((Md.tick (Md.suS ((Md.tick (Md.ldS ((Md.tick (Md.crS Mb2 (ByteArray.mk #[120])))) (ByteArray.mk #[120]) ([(⟨(0:Int),(4:Int),(ByteArray.mk #[100,105,115,107,48]),(0:Int),false⟩:api_Target)])))) (ByteArray.mk #[120])))) (ByteArray.mk #[120])))) (ByteArray.mk #[120])))).cl < 4000∧inT ((⟨(2:Int),(1:Int),(9:UInt64)⟩:api_Task)))) <|
            lt ((Md.doA ((Md.tick (Md.suS ((Md.tick (Md.rsS ((Md.tick (Md.suS ((Md.tick (Md.ldS ((Md.tick (Md.crS Mb2 (ByteArray.mk #[120])))) (ByteArray.mk #[120]) ([(⟨(0:Int),(4:Int),(ByteArray.mk #[100,105,115,107,48]),(0:Int),false⟩:api_Target)])))) (ByteArray.mk #[120])))) (ByteArray.mk #[120])))) (ByteArray.mk #[120])))) (ByteArray.mk #[120]) ((⟨(2:Int),(1:Int),(9:UInt64)⟩:api_Task)))) fun w9 =>
            lt ((Md.doE ((Md.tick (Md.suS ((Md.tick (Md.rsS ((Md.tick (Md.suS ((Md.tick (Md.ldS ((Md.tick (Md.crS Mb2 (ByteArray.mk #[120])))) (ByteArray.mk #[120]) ([(⟨(0:Int),(4:Int),(ByteArray.mk #[100,105,115,107,48]),(0:Int),false⟩:api_Target)])))) (ByteArray.mk #[120])))) (ByteArray.mk #[120])))) (ByteArray.mk #[120])))) (ByteArray.mk #[120]) ((⟨(2:Int),(1:Int),(9:UInt64)⟩:api_Task)))) fun w10 =>
            if (((w10≠(0:Int))∨w9.Done=true)∨(w9.Ticket≠(1:Int))) then
              some false
            else
              grd (decide (((Md.tick (Md.doS ((Md.tick (Md.suS ((Md.tick (Md.rsS ((Md.tick (Md.suS ((Md.tick (Md.ldS ((Md.tick (Md.crS Mb2 (ByteArray.mk #[120])))) (ByteArray.mk #[120]) ([(⟨(0:Int),(4:Int),(ByteArray.mk #[100,105,115,107,48]),(0:Int),false⟩:api_Target)])))) (ByteArray.mk #[120])))) (ByteArray.mk #[120])))) (ByteArray.mk #[120])))) (ByteArray.mk #[120]) ((⟨(2:Int),(1:Int),(9:UInt64)⟩:api_Task))))).cl < 4000∧([(⟨(0:Int),(4:Int),(ByteArray.mk #[100,105,115,107,49]),(2:Int),false⟩:api_Target)]).length≤100000000)) <|
              lt ((Md.ldE ((Md.tick (Md.doS ((Md.tick (Md.suS ((Md.tick (Md.rsS ((Md.tick (Md.suS ((Md.tick (Md.ldS ((Md.tick (Md.crS Mb2 (ByteArray.mk #[120])))) (ByteArray.mk #[120]) ([(⟨(0:Int),(4:Int),(ByteArray.mk #[100,105,115,107,48]),(0:Int),false⟩:api_Target)])))) (ByteArray.mk #[120])))) (ByteArray.mk #[120])))) (ByteArray.mk #[120])))) (ByteArray.mk #[120]) ((⟨(2:Int),(1:Int),(9:UInt64)⟩:api_Task))))) (ByteArray.mk #[120]) ([(⟨(0:Int),(4:Int),(ByteArray.mk #[100,105,115,107,49]),(2:Int),false⟩:api_Target)]))) fun w23 =>
              if (w23≠(0:Int)) then
                some false
              else
                grd (decide (((Md.tick (Md.ldS ((Md.tick (Md.doS ((Md.tick (Md.suS ((Md.tick (Md.rsS ((Md.tick (Md.suS ((Md.tick (Md.ldS ((Md.tick (Md.crS Mb2 (ByteArray.mk #[120])))) (ByteArray.mk #[120]) ([(⟨(0:Int),(4:Int),(ByteArray.mk #[100,105,115,107,48]),(0:Int),false⟩:api_Target)])))) (ByteArray.mk #[120])))) (ByteArray.mk #[120])))) (ByteArray.mk #[120])))) (ByteArray.mk #[120]) ((⟨(2:Int),(1:Int),(9:UInt64)⟩:api_Task))))) (ByteArray.mk #[120]) ([(⟨(0:Int),(4:Int),(ByteArray.mk #[100,105,115,107,49]),(2:Int),false⟩:api_Target)])))).cl < 4000)) <|
                lt ((Md.rsE ((Md.tick (Md.ldS ((Md.tick (Md.doS ((Md.tick (Md.suS ((Md.tick (Md.rsS ((Md.tick (Md.suS ((Md.tick (Md.ldS ((Md.tick (Md.crS Mb2 (ByteArray.mk #[120])))) (ByteArray.mk #[120]) ([(⟨(0:Int),(4:Int),(ByteArray.mk #[100,105,115,107,48]),(0:Int),false⟩:api_Target)])))) (ByteArray.mk #[120])))) (ByteArray.mk #[120])))) (ByteArray.mk #[120])))) (ByteArray.mk #[120]) ((⟨(2:Int),(1:Int),(9:UInt64)⟩:api_Task))))) (ByteArray.mk #[120]) ([(⟨(0:Int),(4:Int),(ByteArray.mk #[100,105,115,107,49]),(2:Int),false⟩:api_Target)])))) (ByteArray.mk #[120]))) fun w24 =>
                if (w24≠(0:Int)) then
                  some false
                else
                  grd (decide (((Md.tick (Md.rsS ((Md.tick (Md.ldS ((Md.tick (Md.doS ((Md.tick (Md.suS ((Md.tick (Md.rsS ((Md.tick (Md.suS ((Md.tick (Md.ldS ((Md.tick (Md.crS Mb2 (ByteArray.mk #[120])))) (ByteArray.mk #[120]) ([(⟨(0:Int),(4:Int),(ByteArray.mk #[100,105,115,107,48]),(0:Int),false⟩:api_Target)])))) (ByteArray.mk #[120])))) (ByteArray.mk #[120])))) (ByteArray.mk #[120])))) (ByteArray.mk #[120]) ((⟨(2:Int),(1:Int),(9:UInt64)⟩:api_Task))))) (ByteArray.mk #[120]) ([(⟨(0:Int),(4:Int),(ByteArray.mk #[100,105,115,107,49]),(2:Int),false⟩:api_Target)])))) (ByteArray.mk #[120])))).cl < 4000)) <|
                  lt (((Md.told ((Md.tick (Md.rsS ((Md.tick (Md.ldS ((Md.tick (Md.doS ((Md.tick (Md.suS ((Md.tick (Md.rsS ((Md.tick (Md.suS ((Md.tick (Md.ldS ((Md.tick (Md.crS Mb2 (ByteArray.mk #[120])))) (ByteArray.mk #[120]) ([(⟨(0:Int),(4:Int),(ByteArray.mk #[100,105,115,107,48]),(0:Int),false⟩:api_Target)])))) (ByteArray.mk #[120])))) (ByteArray.mk #[120])))) (ByteArray.mk #[120])))) (ByteArray.mk #[120]) ((⟨(2:Int),(1:Int),(9:UInt64)⟩:api_Task))))) (ByteArray.mk #[120]) ([(⟨(0:Int),(4:Int),(ByteArray.mk #[100,105,115,107,49]),(2:Int),false⟩:api_Target)])))) (ByteArray.mk #[120])))))).length) fun w28 =>
                  if (((w28:Nat):Int)≠(1:Int)) then
                    some false
                  else
                    grd (decide (((Md.tick (Md.anS ((Md.tick (Md.rsS ((Md.tick (Md.ldS ((Md.tick (Md.doS ((Md.tick (Md.suS ((Md.tick (Md.rsS ((Md.tick (Md.suS ((Md.tick (Md.ldS ((Md.tick (Md.crS Mb2 (ByteArray.mk #[120])))) (ByteArray.mk #[120]) ([(⟨(0:Int),(4:Int),(ByteArray.mk #[100,105,115,107,48]),(0:Int),false⟩:api_Target)])))) (ByteArray.mk #[120])))) (ByteArray.mk #[120])))) (ByteArray.mk #[120])))) (ByteArray.mk #[120]) ((⟨(2:Int),(1:Int),(9:UInt64)⟩:api_Task))))) (ByteArray.mk #[120]) ([(⟨(0:Int),(4:Int),(ByteArray.mk #[100,105,115,107,49]),(2:Int),false⟩:api_Target)])))) (ByteArray.mk #[120]))))))).cl < 4000∧inT ((⟨(1:Int),(3:Int),(0:UInt64)⟩:api_Task)))) <|
                    lt ((Md.doA ((Md.tick (Md.anS ((Md.tick (Md.rsS ((Md.tick (Md.ldS ((Md.tick (Md.doS ((Md.tick (Md.suS ((Md.tick (Md.rsS ((Md.tick (Md.suS ((Md.tick (Md.ldS ((Md.tick (Md.crS Mb2 (ByteArray.mk #[120])))) (ByteArray.mk #[120]) ([(⟨(0:Int),(4:Int),(ByteArray.mk #[100,105,115,107,48]),(0:Int),false⟩:api_Target)])))) (ByteArray.mk #[120])))) (ByteArray.mk #[120])))) (ByteArray.mk #[120])))) (ByteArray.mk #[120]) ((⟨(2:Int),(1:Int),(9:UInt64)⟩:api_Task))))) (ByteArray.mk #[120]) ([(⟨(0:Int),(4:Int),(ByteArray.mk #[100,105,115,107,49]),(2:Int),false⟩:api_Target)])))) (ByteArray.mk #[120]))))))) (ByteArray.mk #[100,105,115,107,49]) ((⟨(1:Int),(3:Int),(0:UInt64)⟩:api_Task)))) fun w29 =>
                    lt ((Md.doE ((Md.tick (Md.anS ((Md.tick (Md.rsS ((Md.tick (Md.ldS ((Md.tick (Md.doS ((Md.tick (Md.suS ((Md.tick (Md.rsS ((Md.tick (Md.suS ((Md.tick (Md.ldS ((Md.tick (Md.crS Mb2 (ByteArray.mk #[120])))) (ByteArray.mk #[120]) ([(⟨(0:Int),(4:Int),(ByteArray.mk #[100,105,115,107,48]),(0:Int),false⟩:api_Target)])))) (ByteArray.mk #[120])))) (ByteArray.mk #[120])))) (ByteArray.mk #[120])))) (ByteArray.mk #[120]) ((⟨(2:Int),(1:Int),(9:UInt64)⟩:api_Task))))) (ByteArray.mk #[120]) ([(⟨(0:Int),(4:Int),(ByteArray.mk #[100,105,115,107,49]),(2:Int),false⟩:api_Target)])))) (ByteArray.mk #[120]))))))) (ByteArray.mk #[100,105,115,107,49]) ((⟨(1:Int),(3:Int),(0:UInt64)⟩:api_Task)))) fun w30 =>
                    some ((((decide (w30=(0:Int))) && w29.Done) && (decide (w29.Value=(9:UInt64)))))
theorem zf0 {W:World} {r:Bool} (h:ze4=some r) :
    CSpec Tryz.prog W 14 [] [] (fun x:Unit => .bool r) (fun _=>True) (fun x F=>F) := by
 refine CSpec.of_body Tryz.func14 rfl Tryz.ntmps14 rfl fun F => ?_
 show CJ _ _ _ _ _ _ (F)
 unfold ze4 at h
 refine sR <| oA rfl rfl <| nT <| sR <| oO <| zaq (zs5) rfl Tryz.call7 Dels.nil rfl fun X1 _=>oM rfl rfl <| oP (za1 rfl rfl) rfl <| oP (za1 rfl rfl) rfl <| oA rfl rfl <| oA rfl rfl <| nT <| zad <| sR <| oM rfl rfl <| oP (zd3 rfl rfl Tryz.underlying25) rfl <| oM rfl rfl <| gP (zab rfl rfl rfl rfl) (zah rfl) rfl ?_
 obtain ⟨hg1,h⟩ := zd0 h
 refine RJ_gy (zab rfl rfl rfl rfl) <| zaq (zpq hg1) rfl Tryz.call22 (Dels.cons del0 Dels.nil) rfl fun _ _=>gP (zab rfl rfl rfl rfl) (P_neq (a:=(Md.crE Mb2 (ByteArray.mk #[120]))) (b:=(0:Int)) rfl rfl) rfl <| oP (za5 rfl rfl rfl) rfl <| oM rfl rfl <| zel 17 rfl zax (fun hg2B hg2 => ?_) (fun hg2B hg2 => ?_)
 ·
  replace h := ite_t hg2 h
  refine RJ_gn (GY_no rfl rfl rfl hg2B) rfl rfl <| RJ_gn (GY_no rfl rfl rfl hg2B) rfl rfl <| RJ_gn (GY_no rfl rfl rfl hg2B) rfl rfl <| RJ_gn (GY_no rfl rfl rfl hg2B) rfl rfl <| RJ_gn (GY_no rfl rfl rfl hg2B) rfl rfl <| oP (za2 rfl hg2B rfl) rfl <| oM rfl rfl <| RJ_gn (GY_no rfl rfl rfl rfl) rfl rfl <| RJ_gn (GY_no rfl rfl rfl rfl) rfl rfl <| RJ_gn (GY_no rfl rfl rfl rfl) rfl rfl <| oP (za2 rfl rfl rfl) rfl <| oM rfl rfl <| RJ_gn (GY_no rfl rfl rfl rfl) rfl rfl <| RJ_gn (GY_no rfl rfl rfl rfl) rfl rfl <| RJ_gn (GY_no rfl rfl rfl rfl) rfl rfl <| oP (za2 rfl rfl rfl) rfl <| oM rfl rfl <| RJ_gn (GY_no rfl rfl rfl rfl) rfl rfl <| RJ_gn (GY_no rfl rfl rfl rfl) rfl rfl <| RJ_gn (GY_no rfl rfl rfl rfl) rfl rfl <| oP (za2 rfl rfl rfl) rfl <| nT <| zbk rfl rfl <| sR <| oA rfl rfl <| nT <| zaj <| zae ?_
  cases h
  exact fE (res1 Tryz.results14 rfl) () (eD (eD eR))
 ·
  replace h := ite_f hg2 h
  refine gP (zab rfl rfl rfl hg2B) (zah rfl) rfl <| gP (zab rfl rfl rfl hg2B) (zbm rfl (zt0 _ _)) rfl <| RJ_gy (zab rfl rfl rfl hg2B) <| za7 rfl (zpy _ _ _ _ _) rfl fun b4=>zcl (Ent.trans (t0_ eR) (zcd (t:=tyapi_Target) (m:=1) [(⟨(0:Int),(4:Int),(ByteArray.mk #[100,105,115,107,48]),(0:Int),false⟩:api_Target)] rfl rfl rfl (by decide))) ?_
  obtain ⟨hg3,h⟩ := zd0 h
  refine RJ_gy (zab rfl rfl rfl hg2B) <| zaq (zs9 (Reads.sl _ _ _) hg3 (v:=⟨_,_,_⟩)) rfl Tryz.call28 (Dels.cons del1 (Dels.cons del0 Dels.nil)) rfl fun _ _ => ?_
  obtain ⟨w5,hw5,h⟩ := lt_e h
  rw [← hw5]
  refine gP (zab rfl rfl rfl hg2B) (P_neq (a:=w5) (b:=(0:Int)) rfl rfl) rfl <| oP (za5 rfl hg2B rfl) rfl <| oM rfl rfl <| zel 24 rfl zax (fun hg4B hg4 => ?_) (fun hg4B hg4 => ?_)
  ·
   replace h := ite_t hg4 h
   refine RJ_gn (GY_no rfl rfl rfl hg4B) rfl rfl <| RJ_gn (GY_no rfl rfl rfl hg4B) rfl rfl <| RJ_gn (GY_no rfl rfl rfl hg4B) rfl rfl <| oP (za2 rfl hg4B rfl) rfl <| oM rfl rfl <| RJ_gn (GY_no rfl rfl rfl rfl) rfl rfl <| RJ_gn (GY_no rfl rfl rfl rfl) rfl rfl <| RJ_gn (GY_no rfl rfl rfl rfl) rfl rfl <| oP (za2 rfl rfl rfl) rfl <| oM rfl rfl <| RJ_gn (GY_no rfl rfl rfl rfl) rfl rfl <| RJ_gn (GY_no rfl rfl rfl rfl) rfl rfl <| RJ_gn (GY_no rfl rfl rfl rfl) rfl rfl <| oP (za2 rfl rfl rfl) rfl <| nT <| zbk rfl rfl <| sR <| oA rfl rfl <| nT <| zaj <| zae ?_
   cases h
   exact fE (res1 Tryz.results14 rfl) () (eD (eD (eD eR)))
  ·
   replace h := ite_f hg4 h
   refine gP (zab rfl rfl rfl hg4B) (zah rfl) rfl ?_
   obtain ⟨hg5,h⟩ := zd0 h
   refine RJ_gy (zab rfl rfl rfl hg4B) <| zaq (zkd hg5) rfl Tryz.call32 (Dels.cons del0 Dels.nil) rfl fun _ _ => ?_
   obtain ⟨w6,hw6,h⟩ := lt_e h
   rw [← hw6]
   refine gP (zab rfl rfl rfl hg4B) (P_neq (a:=w6) (b:=(0:Int)) rfl rfl) rfl <| oP (za5 rfl hg4B rfl) rfl <| oM rfl rfl <| zel 29 rfl zax (fun hg6B hg6 => ?_) (fun hg6B hg6 => ?_)
   ·
    replace h := ite_t hg6 h
    refine RJ_gn (GY_no rfl rfl rfl hg6B) rfl rfl <| RJ_gn (GY_no rfl rfl rfl hg6B) rfl rfl <| RJ_gn (GY_no rfl rfl rfl hg6B) rfl rfl <| oP (za2 rfl hg6B rfl) rfl <| oM rfl rfl <| RJ_gn (GY_no rfl rfl rfl rfl) rfl rfl <| RJ_gn (GY_no rfl rfl rfl rfl) rfl rfl <| RJ_gn (GY_no rfl rfl rfl rfl) rfl rfl <| oP (za2 rfl rfl rfl) rfl <| nT <| zbk rfl rfl <| sR <| oA rfl rfl <| nT <| zaj <| zae ?_
    cases h
    exact fE (res1 Tryz.results14 rfl) () (eD (eD (eD eR)))
   ·
    replace h := ite_f hg6 h
    refine gP (zab rfl rfl rfl hg6B) (zah rfl) rfl ?_
    obtain ⟨hg7,h⟩ := zd0 h
    refine RJ_gy (zab rfl rfl rfl hg6B) <| zaq (zll hg7) rfl Tryz.call34 (Dels.cons del0 Dels.nil) rfl fun _ _ => ?_
    obtain ⟨w7,hw7,h⟩ := lt_e h
    rw [← hw7]
    refine gP (zab rfl rfl rfl hg6B) (P_neq (a:=w7) (b:=(0:Int)) rfl rfl) rfl <| oP (za5 rfl hg6B rfl) rfl <| oM rfl rfl <| zel 34 rfl zax (fun hg8B hg8 => ?_) (fun hg8B hg8 => ?_)
    ·
     replace h := ite_t hg8 h
     refine RJ_gn (GY_no rfl rfl rfl hg8B) rfl rfl <| RJ_gn (GY_no rfl rfl rfl hg8B) rfl rfl <| RJ_gn (GY_no rfl rfl rfl hg8B) rfl rfl <| oP (za2 rfl hg8B rfl) rfl <| nT <| zbk rfl rfl <| sR <| oA rfl rfl <| nT <| zaj <| zae ?_
     cases h
     exact fE (res1 Tryz.results14 rfl) () (eD (eD (eD eR)))
    ·
     replace h := ite_f hg8 h
     refine gP (zab rfl rfl rfl hg8B) (zah rfl) rfl ?_
     obtain ⟨hg9,h⟩ := zd0 h
     refine RJ_gy (zab rfl rfl rfl hg8B) <| zaq (zkd hg9) rfl Tryz.call32 (Dels.cons del0 Dels.nil) rfl fun _ _ => ?_
     obtain ⟨w8,hw8,h⟩ := lt_e h
     rw [← hw8]
     refine gP (zab rfl rfl rfl hg8B) (P_neq (a:=w8) (b:=(0:Int)) rfl rfl) rfl <| oP (za5 rfl hg8B rfl) rfl <| nT <| zbs rfl zax (fun hg10 => ?_) (fun hg10 => ?_)
     ·
      replace h := ite_t hg10 h
      refine sR <| oA rfl rfl <| nT <| zaj <| zae ?_
      cases h
      exact fE (res1 Tryz.results14 rfl) () (eD (eD (eD eR)))
     ·
      replace h := ite_f hg10 h
      refine kT <| sR <| oM rfl rfl <| oP (zbm rfl (zrp _ _ _)) rfl ?_
      obtain ⟨hg11,h⟩ := zd0 h
      refine oO <| zaq (c_DoG hg11) rfl Tryz.call37 (Dels.cons del0 Dels.nil) rfl fun _ _=>oM rfl rfl <| oP (za1 rfl rfl) rfl ?_
      obtain ⟨w9,hw9,h⟩ := lt_e h
      rw [← hw9]
      refine oP (za1 rfl rfl) rfl ?_
      obtain ⟨w10,hw10,h⟩ := lt_e h
      rw [← hw10]
      refine oO <| zb1 Tryz.zeroValue51 rfl rfl fun b11=>oO <| zbj rfl rfl foc0 Tryz.sizeOf51 rfl rfl rfl <| oA rfl rfl <| nT <| zad <| sR <| oM rfl rfl <| oP (P_neq (a:=w10) (b:=(0:Int)) rfl rfl) rfl <| oM rfl rfl <| zb6 rfl rfl rfl (fun hG12=>have hP13:¬ (w10≠(0:Int)) := nP (zax) hG12; VJ_P (zaa rfl ⟨_,_,_,Tryz.runUnderlying51,rfl,rfl,Tryz.sizeOf4,rfl⟩)) <| zb6 rfl rfl rfl (fun hG14=>have hP15:¬ (w10≠(0:Int)) := nP (zax) hG14; zag (mbx hG14 rfl) foc0 rfl Tryz.isAgg4) <| oP (ze1 rfl rfl (fun hh=>mbx (not_f hh) rfl)) rfl <| oM rfl rfl <| zb6 rfl rfl rfl (fun hG16=>have hP17:¬ ((w10≠(0:Int))∨w9.Done=true) := nP ((bT_or zax Iff.rfl)) hG16; VJ_P (zaa rfl ⟨_,_,_,Tryz.runUnderlying51,rfl,rfl,Tryz.sizeOf3,rfl⟩)) <| zb6 rfl rfl rfl (fun hG18=>have hP19:¬ ((w10≠(0:Int))∨w9.Done=true) := nP ((bT_or zax Iff.rfl)) hG18; zag (mbx hG18 rfl) foc0 rfl Tryz.isAgg3) <| zb6 rfl rfl rfl (fun hG20=>have hP21:¬ ((w10≠(0:Int))∨w9.Done=true) := nP ((bT_or zax Iff.rfl)) hG20; VJ_P (P_neq (a:=w9.Ticket) (b:=(1:Int)) (mbx hG20 rfl) rfl)) <| oP (ze1 rfl rfl (fun hh=>mbx (not_f hh) rfl)) rfl <| oM rfl rfl <| zel 56 rfl (bT_or (bT_or zax Iff.rfl) zax) (fun hg12B hg12 => ?_) (fun hg12B hg12 => ?_)
      ·
       replace h := ite_t hg12 h
       refine RJ_gn (GY_no rfl rfl rfl hg12B) rfl rfl <| RJ_gn (GY_no rfl rfl rfl hg12B) rfl rfl <| RJ_gn (GY_no rfl rfl rfl hg12B) rfl rfl <| RJ_gn (GY_no rfl rfl rfl hg12B) rfl rfl <| RJ_gn (GY_no rfl rfl rfl hg12B) rfl rfl <| oP (za2 rfl hg12B rfl) rfl <| oM rfl rfl <| RJ_gn (GY_no rfl rfl rfl rfl) rfl rfl <| RJ_gn (GY_no rfl rfl rfl rfl) rfl rfl <| RJ_gn (GY_no rfl rfl rfl rfl) rfl rfl <| oP (za2 rfl rfl rfl) rfl <| oM rfl rfl <| RJ_gn (GY_no rfl rfl rfl rfl) rfl rfl <| RJ_gn (GY_no rfl rfl rfl rfl) rfl rfl <| RJ_gn (GY_no rfl rfl rfl rfl) rfl rfl <| RJ_gn (GY_no rfl rfl rfl rfl) rfl rfl <| oP (za2 rfl rfl rfl) rfl <| nT <| zbk rfl rfl <| sR <| oA rfl rfl <| nT <| zaj <| zae ?_
       cases h
       exact fE (res1 Tryz.results14 rfl) () (eD (eD (eD (eD eR))))
      ·
       replace h := ite_f hg12 h
       refine gP (zab rfl rfl rfl hg12B) (zah rfl) rfl <| gP (zab rfl rfl rfl hg12B) (zbm rfl (zrq _ _ _)) rfl <| RJ_gy (zab rfl rfl rfl hg12B) <| za7 rfl (zpy _ _ _ _ _) rfl fun b22=>zcl (Ent.trans (t0_ eR) (zcd (t:=tyapi_Target) (m:=1) [(⟨(0:Int),(4:Int),(ByteArray.mk #[100,105,115,107,49]),(2:Int),false⟩:api_Target)] rfl rfl rfl (by decide))) ?_
       obtain ⟨hg13,h⟩ := zd0 h
       refine RJ_gy (zab rfl rfl rfl hg12B) <| zaq (zs9 (Reads.sl _ _ _) hg13 (v:=⟨_,_,_⟩)) rfl Tryz.call28 (Dels.cons del2 (Dels.cons del0 Dels.nil)) rfl fun _ _ => ?_
       obtain ⟨w23,hw23,h⟩ := lt_e h
       rw [← hw23]
       refine gP (zab rfl rfl rfl hg12B) (P_neq (a:=w23) (b:=(0:Int)) rfl rfl) rfl <| oP (za5 rfl hg12B rfl) rfl <| oM rfl rfl <| zel 63 rfl zax (fun hg14B hg14 => ?_) (fun hg14B hg14 => ?_)
       ·
        replace h := ite_t hg14 h
        refine RJ_gn (GY_no rfl rfl rfl hg14B) rfl rfl <| RJ_gn (GY_no rfl rfl rfl hg14B) rfl rfl <| RJ_gn (GY_no rfl rfl rfl hg14B) rfl rfl <| oP (za2 rfl hg14B rfl) rfl <| oM rfl rfl <| RJ_gn (GY_no rfl rfl rfl rfl) rfl rfl <| RJ_gn (GY_no rfl rfl rfl rfl) rfl rfl <| RJ_gn (GY_no rfl rfl rfl rfl) rfl rfl <| RJ_gn (GY_no rfl rfl rfl rfl) rfl rfl <| oP (za2 rfl rfl rfl) rfl <| nT <| zbk rfl rfl <| sR <| oA rfl rfl <| nT <| zaj <| zae ?_
        cases h
        exact fE (res1 Tryz.results14 rfl) () (eD (eD (eD (eD (eD eR)))))
       ·
        replace h := ite_f hg14 h
        refine gP (zab rfl rfl rfl hg14B) (zah rfl) rfl ?_
        obtain ⟨hg15,h⟩ := zd0 h
        refine RJ_gy (zab rfl rfl rfl hg14B) <| zaq (zll hg15) rfl Tryz.call34 (Dels.cons del0 Dels.nil) rfl fun _ _ => ?_
        obtain ⟨w24,hw24,h⟩ := lt_e h
        rw [← hw24]
        refine gP (zab rfl rfl rfl hg14B) (P_neq (a:=w24) (b:=(0:Int)) rfl rfl) rfl <| oP (za5 rfl hg14B rfl) rfl <| oM rfl rfl <| zel 68 rfl zax (fun hg16B hg16 => ?_) (fun hg16B hg16 => ?_)
        ·
         replace h := ite_t hg16 h
         refine RJ_gn (GY_no rfl rfl rfl hg16B) rfl rfl <| RJ_gn (GY_no rfl rfl rfl hg16B) rfl rfl <| RJ_gn (GY_no rfl rfl rfl hg16B) rfl rfl <| RJ_gn (GY_no rfl rfl rfl hg16B) rfl rfl <| oP (za2 rfl hg16B rfl) rfl <| nT <| zbk rfl rfl <| sR <| oA rfl rfl <| nT <| zaj <| zae ?_
         cases h
         exact fE (res1 Tryz.results14 rfl) () (eD (eD (eD (eD (eD eR)))))
        ·
         replace h := ite_f hg16 h
         refine gP (zab rfl rfl rfl hg16B) (zah rfl) rfl ?_
         obtain ⟨hg17,h⟩ := zd0 h
         refine RJ_gy (zab rfl rfl rfl hg16B) <| zaq (zoa hg17) rfl Tryz.call13 (Dels.cons del0 Dels.nil) rfl fun X25 _=>zr7 (zc4 (Reads.sl _ _ _) del0) fun hlen27=>gV (zab rfl rfl rfl hg16B) (V_len rfl foc0 (Reads.sl _ _ _) Tryz.runUnderlying54) rfl ?_
         obtain ⟨w28,hw28,h⟩ := lt_e h
         rw [← hw28]
         refine gP (zab rfl rfl rfl hg16B) (P_neq (a:=((w28:Nat):Int)) (b:=(1:Int)) rfl rfl) rfl <| oP (za5 rfl hg16B rfl) rfl <| nT <| zbs rfl zax (fun hg18 => ?_) (fun hg18 => ?_)
         ·
          replace h := ite_t hg18 h
          refine sR <| oA rfl rfl <| nT <| zaj <| zae ?_
          cases h
          exact fE (res1 Tryz.results14 rfl) () (eD (eD (eD (eD (eD (eD eR))))))
         ·
          replace h := ite_f hg18 h
          refine kT <| sR <| oM rfl rfl <| oP (zbm rfl (zt1 _ _)) rfl ?_
          obtain ⟨hg19,h⟩ := zd0 h
          refine oO <| zaq (c_DoG hg19) rfl Tryz.call37 (Dels.cons del1 Dels.nil) rfl fun _ _=>oM rfl rfl <| oP (za1 rfl rfl) rfl ?_
          obtain ⟨w29,hw29,h⟩ := lt_e h
          rw [← hw29]
          refine oP (za1 rfl rfl) rfl ?_
          obtain ⟨w30,hw30,h⟩ := lt_e h
          rw [← hw30]
          refine oO <| zb1 Tryz.zeroValue51 rfl rfl fun b31=>oO <| zbj rfl rfl foc0 Tryz.sizeOf51 rfl rfl rfl <| oA rfl rfl <| za0 <| QJ_ent (t0_ (eD (eD (eD (eD (eD (eD eR))))))) <| zat <| sR <| oM rfl rfl <| oP (P_eql (a:=w30) (b:=(0:Int)) rfl rfl) rfl <| oM rfl rfl <| zc3 rfl rfl rfl (fun hG32=>have hP33:(w30=(0:Int)) := (zax).1 hG32; VJ_P (zaa rfl ⟨_,_,_,Tryz.runUnderlying51,rfl,rfl,Tryz.sizeOf4,rfl⟩)) <| zc3 rfl rfl rfl (fun hG34=>have hP35:(w30=(0:Int)) := (zax).1 hG34; zag (mbx hG34 rfl) foc0 rfl Tryz.isAgg4) <| oP (zek rfl (fun hh=>mbx hh rfl) rfl) rfl <| oM rfl rfl <| zc3 rfl rfl rfl (fun hG36=>have hP37:((w30=(0:Int))∧w29.Done=true) := ((zca zax Iff.rfl)).1 hG36; VJ_P (zaa rfl ⟨_,_,_,Tryz.runUnderlying51,rfl,rfl,Tryz.sizeOf31,rfl⟩)) <| zc3 rfl rfl rfl (fun hG38=>have hP39:((w30=(0:Int))∧w29.Done=true) := ((zca zax Iff.rfl)).1 hG38; zag (mbx hG38 rfl) foc0 rfl Tryz.isAgg31) <| zc3 rfl rfl rfl (fun hG40=>have hP41:((w30=(0:Int))∧w29.Done=true) := ((zca zax Iff.rfl)).1 hG40; VJ_P (zwn (a:=w29.Value) (b:=(9:UInt64)) (mbx hG40 rfl) rfl)) <| oP (zek rfl (fun hh=>mbx hh rfl) rfl) rfl <| oA rfl rfl <| nT <| zaj ?_
          cases h
          exact fE (res1 Tryz.results14 rfl) () (eD eR)
end Go.Proofs
namespace Go.Proofs
open Go.VG
theorem zoe:ze4=some true := by kernel_rfl
end Go.Proofs
set_option linter.unusedSimpArgs false
set_option maxRecDepth 20000
namespace Go.Proofs
open Go.VG
end Go.Proofs
set_option linter.unusedSimpArgs false
set_option maxRecDepth 20000
namespace Go.Proofs
open Go.VG
theorem zg6 (v0:ByteArray) (v1:ByteArray) (v2:ByteArray) (v3:ByteArray) (v4:ByteArray) (v5:ByteArray) (v6:ByteArray) (v7:ByteArray):zbt Tryz.prog 59 8 [(0,.string v0),(1,.string v1),(2,.string v2),(3,.string v3),(4,.string v4),(5,.string v5),(6,.string v6),(7,.string v7)] 9 [.string v0,.string v1,.string v2,.string v3,.string v4,.string v5,.string v6,.string v7] := fun w=>by kernel_rfl
theorem zo4 (v0:ByteArray):∀ w,(Instr.build 35 (#[(1,.string v0)]:Array (Nat × Value))).run Tryz.prog w = .ok (.agg #[.int .i64 0,.string v0,.string ByteArray.empty,.slice none 0 0,.int .i64 0,.int .i64 0,.int .u64 0]) w := fun w=>by kernel_rfl
theorem zlt (v0:Int) (v1:ByteArray) (v2:Int):∀ w,(Instr.build 37 (#[(1,.int .i64 v0),(2,.string v1),(3,.int .i64 v2)]:Array (Nat × Value))).run Tryz.prog w = .ok (.agg #[.int .i64 0,.int .i64 v0,.string v1,.int .i64 v2,.bool false]) w := fun w=>by kernel_rfl
theorem zkf (v0:Int) (v1:Int) (v2:ByteArray) (v3:Int):∀ w,(Instr.build 37 (#[(0,.int .i64 v0),(1,.int .i64 v1),(2,.string v2),(3,.int .i64 v3)]:Array (Nat × Value))).run Tryz.prog w = .ok (.agg #[.int .i64 v0,.int .i64 v1,.string v2,.int .i64 v3,.bool false]) w := fun w=>by kernel_rfl
theorem zmg (v0:Int) (v1:Int) (v2:ByteArray) (v3:Int) (v4:Bool) (v5:Int) (v6:Int) (v7:ByteArray) (v8:Int) (v9:Bool):zbt Tryz.prog 30 2 [(0,.agg #[.int .i64 v0,.int .i64 v1,.string v2,.int .i64 v3,.bool v4]),(1,.agg #[.int .i64 v5,.int .i64 v6,.string v7,.int .i64 v8,.bool v9])] 37 [.int .i64 v0,.int .i64 v1,.string v2,.int .i64 v3,.bool v4,.int .i64 v5,.int .i64 v6,.string v7,.int .i64 v8,.bool v9] := fun w=>by kernel_rfl
theorem zlu (v0:Int) (v1:ByteArray) (v2:(Option Addr)) (v3:Nat) (v4:Nat):∀ w,(Instr.build 35 (#[(0,.int .i64 v0),(1,.string v1),(3,.slice v2 v3 v4)]:Array (Nat × Value))).run Tryz.prog w = .ok (.agg #[.int .i64 v0,.string v1,.string ByteArray.empty,.slice v2 v3 v4,.int .i64 0,.int .i64 0,.int .u64 0]) w := fun w=>by kernel_rfl
theorem ziy (v0:Int) (v1:ByteArray):∀ w,(Instr.build 35 (#[(0,.int .i64 v0),(1,.string v1)]:Array (Nat × Value))).run Tryz.prog w = .ok (.agg #[.int .i64 v0,.string v1,.string ByteArray.empty,.slice none 0 0,.int .i64 0,.int .i64 0,.int .u64 0]) w := fun w=>by kernel_rfl
theorem zju (v0:Int):∀ w,(Instr.build 35 (#[(0,.int .i64 v0)]:Array (Nat × Value))).run Tryz.prog w = .ok (.agg #[.int .i64 v0,.string ByteArray.empty,.string ByteArray.empty,.slice none 0 0,.int .i64 0,.int .i64 0,.int .u64 0]) w := fun w=>by kernel_rfl
theorem zp5 {W:World} {A:HP} {v:Sl3} {L:List Int} (hA:Reads A tyI v.v L) (hL:L.length≤9223372036854775807) :
    CSpec Tryz.prog W 5 [v.v] [A] (fun _:Unit => .bool true) (fun _=>True) (fun _ F=>A::F) := by
 refine CSpec.of_body Tryz.func5 rfl Tryz.ntmps5 rfl fun F => ?_
 show CJ _ _ _ _ _ _ (_::F)
 refine sR <| oA rfl rfl <| nT <| sR <| oM rfl rfl <| oO <| zaq ((c_sNew hA hL)) rfl Tryz.call6 (Dels.cons del0 Dels.nil) rfl fun sw ⟨L2,hL2,hA2⟩=>oA rfl rfl <| nT <| sR <| oO <| zaq (zs5) rfl Tryz.call7 Dels.nil rfl fun bg hc5=>oM rfl rfl <| oP (za1 rfl rfl) rfl <| oP (za1 rfl rfl) rfl <| oA rfl rfl <| oA rfl rfl <| nT <| zad <| sR <| oM rfl rfl <| oP (zd3 rfl rfl Tryz.underlying25) rfl <| nT <| zbf rfl rfl <| kT <| sR <| oO <| za7 rfl (zg6 _ _ _ _ _ _ _ _) rfl fun b6=>zcl (Ent.trans (t0_ eR) (zcd (t:=tyS) (m:=8) [(ByteArray.mk #[97]),(ByteArray.mk #[98]),(ByteArray.mk #[99]),(ByteArray.mk #[100]),(ByteArray.mk #[101]),(ByteArray.mk #[102]),(ByteArray.mk #[100,105,115,107,48]),(ByteArray.mk #[122,122])] rfl rfl rfl (by decide))) <| oA rfl rfl <| nT <| zad <| sR <| oA rfl rfl <| nT <| zas ?_
 refine zbe (X:=Nat × Md × Int) [2,7,8,19,20,21,22,23,24,25,26,27,28,29,30,31,32,33,34,35,36,37,38,39,40,41,42,43,44,45,46,47,48,49,50,51,52,53,54,55,56,57,58,59,60,61,62,63,64,65,66,67,68,69,70,71,72,73,74,75] (fun ⟨i,m1,a⟩  => ([(7,.int .i64 (i:Nat))]:Slots)) (fun ⟨i,m1,a⟩ R=>blk sw.1 63 [sw.2,.int .i64 a]::MapP bg.1 m1::RefP bg.2 m1::R) (fun ⟨i,m1,a⟩  => i≤4∧m1.cl≤4 * i∧0≤a∧a≤1000) (fun ⟨i,m1,a⟩  => 4 - i) ⟨0,Mb2,0⟩ ?_ ?_ (t3_ (t1_ (t1_ (t0_ (t0_ eR))))) ?_
 · exact ⟨by omega,Nat.le_refl _,by omega,by omega⟩
 · exact ⟨rfl,True.intro⟩
 ·
  rintro ⟨i,m1,a⟩ ⟨hi,hm1,ha⟩
  show CJ _ _ _ _ _ (([(7,.int .i64 (i:Nat))]:Slots) ++ forget _ _) (blk sw.1 63 [sw.2,.int .i64 a]::MapP bg.1 m1::RefP bg.2 m1::_)
  refine zad <| sR <| oM rfl rfl <| oP (P_lss rfl rfl) rfl <| nT ?_
  first | (refine zao rfl (fun hg1 => ?_) (fun hg1 => ?_)) | (refine zap rfl (fun hg1 => ?_) (fun hg1 => ?_)) | (refine zar rfl (fun hg1 => ?_) (fun hg1 => ?_))
  ·
   refine kT <| zad <| zas <| zad <| sR <| oM rfl rfl <| oM rfl rfl <| oM rfl rfl <| oM rfl rfl <| oV (zal rfl rfl rfl (by show i < 8; omega) foc3 (Reads.sl _ _ _) Tryz.runUnderlying59 Tryz.sizeOf9) rfl <| oV (zaz rfl rfl (by first | omega | (show i < 8; omega)) foc3 (Reads.sl _ _ _) rfl rfl Tryz.isAgg9) rfl <| oP (zbm rfl (zo4 _)) rfl <| oO <| zaq ((zg4 (tv:=s3z) (tbl:=[]) (t:=⟨0,0,0⟩) (fun h _ => .inl ⟨rfl,rfl⟩) (Nat.zero_le _) (by omega) ⟨by decide,by decide⟩)) rfl Tryz.call8 (Dels.cons del4 (Dels.cons del1 (Dels.cons del1 Dels.nil))) rfl fun m7 hm8=>oP (P_not rfl) rfl <| nT <| zbf rfl rfl <| kT <| sR <| oM rfl rfl <| oO <| zaq ((c_sN hA2 hL2 ha (by omega))) rfl Tryz.call10 (Dels.cons del3 (Dels.cons del0 Dels.nil)) rfl fun sn hsn=>oP (P_gtr rfl rfl) rfl <| nT ?_
   first | (refine zao rfl (fun hg2 => ?_) (fun hg2 => ?_)) | (refine zap rfl (fun hg2 => ?_) (fun hg2 => ?_)) | (refine zar rfl (fun hg2 => ?_) (fun hg2 => ?_))
   ·
    refine sR <| oM rfl rfl <| oP (P_mul rfl rfl (by first | omega | (show i < 8; omega))) rfl <| oP (P_rem rfl rfl (by first | omega | (show i < 8; omega))) rfl <| oP (zbm rfl (zlt _ _ _)) rfl <| oM rfl rfl <| oP (P_mul rfl rfl (by first | omega | (show i < 8; omega))) rfl <| oP (P_rem rfl rfl (by first | omega | (show i < 8; omega))) rfl <| oP (zbm rfl (zkf _ _ _ _)) rfl <| oO <| za7 rfl (zmg _ _ _ _ _ _ _ _ _ _) rfl fun b11=>zcl (Ent.trans (t0_ eR) (zcd (t:=tyapi_Target) (m:=2) [⟨0,3,(ByteArray.mk #[100,105,115,107,48]),3 * (i:Int) % 9,false⟩,⟨3,2,(ByteArray.mk #[100,105,115,107,49]),2 * (i:Int) % 6,false⟩] rfl rfl rfl (by decide))) <| oA rfl rfl <| nT <| sR <| oM rfl rfl <| oM rfl rfl <| oM rfl rfl <| oM rfl rfl <| oV (zal rfl rfl rfl (by show i < 8; omega) foc5 (Reads.sl _ _ _) Tryz.runUnderlying59 Tryz.sizeOf9) rfl <| oV (zaz rfl rfl (by first | omega | (show i < 8; omega)) foc5 (Reads.sl _ _ _) rfl rfl Tryz.isAgg9) rfl <| oM rfl rfl <| oP (zbm rfl (zlu _ _ _ _ _)) rfl <| oO <| zaq ((zg4 (tv:=⟨some ⟨b11,0,none⟩,2,2⟩) (t:=⟨0,0,0⟩) (Reads.sl _ _ _) (by show 2≤100000000; omega) (by omega) ⟨by decide,by decide⟩)) rfl Tryz.call8 (Dels.cons del0 (Dels.cons del2 (Dels.cons del2 Dels.nil))) rfl fun m12 hm13=>oP (P_not rfl) rfl <| oM rfl rfl <| gP (zab rfl rfl rfl rfl) (zah rfl) rfl ?_
    refine gP (zab rfl rfl rfl rfl) (zah rfl) rfl <| gP (zab rfl rfl rfl rfl) (zah rfl) rfl <| gP (zab rfl rfl rfl rfl) (zah rfl) rfl <| gV (zab rfl rfl rfl rfl) (zal rfl rfl rfl (by show i < 8; omega) foc5 (Reads.sl _ _ _) Tryz.runUnderlying59 Tryz.sizeOf9) rfl <| gV (zab rfl rfl rfl rfl) (zaz rfl rfl (by first | omega | (show i < 8; omega)) foc5 (Reads.sl _ _ _) rfl rfl Tryz.isAgg9) rfl <| gP (zab rfl rfl rfl rfl) (zbm rfl (ziy _ _)) rfl <| RJ_gy (zab rfl rfl rfl rfl) <| zaq ((zg4 (tv:=s3z) (tbl:=[]) (t:=⟨0,0,0⟩) (fun h _ => .inl ⟨rfl,rfl⟩) (Nat.zero_le _) (by omega) ⟨by decide,by decide⟩)) rfl Tryz.call8 (Dels.cons del4 (Dels.cons del1 (Dels.cons del1 Dels.nil))) rfl fun m15 hm16=>gP (zab rfl rfl rfl rfl) (P_not rfl) rfl <| oP (za5 rfl rfl rfl) rfl <| oM rfl rfl <| gP (zab rfl rfl rfl rfl) (zah rfl) rfl <| gP (zab rfl rfl rfl rfl) (zah rfl) rfl <| gP (zab rfl rfl rfl rfl) (zah rfl) rfl <| gP (zab rfl rfl rfl rfl) (zah rfl) rfl <| gV (zab rfl rfl rfl rfl) (zal rfl rfl rfl (by show i < 8; omega) foc5 (Reads.sl _ _ _) Tryz.runUnderlying59 Tryz.sizeOf9) rfl <| gV (zab rfl rfl rfl rfl) (zaz rfl rfl (by first | omega | (show i < 8; omega)) foc5 (Reads.sl _ _ _) rfl rfl Tryz.isAgg9) rfl <| gP (zab rfl rfl rfl rfl) (zbm rfl (ziy _ _)) rfl ?_
    refine RJ_gy (zab rfl rfl rfl rfl) <| zaq ((zg4 (tv:=s3z) (tbl:=[]) (t:=⟨0,0,0⟩) (fun h _ => .inl ⟨rfl,rfl⟩) (Nat.zero_le _) (by omega) ⟨by decide,by decide⟩)) rfl Tryz.call8 (Dels.cons del0 (Dels.cons del0 (Dels.cons del0 Dels.nil))) rfl fun m18 hm19=>gP (zab rfl rfl rfl rfl) (P_not rfl) rfl <| oP (za5 rfl rfl rfl) rfl <| nT <| zbf rfl rfl <| za8 <| zak <| zat <| zai <| oM rfl rfl <| oP (P_add rfl rfl (by first | omega | (show i < 8; omega))) rfl <| oA rfl rfl <| za0 <| za6 ⟨i + 1,m18,sn.2⟩ (by first | omega | (simp only []; omega)) ?_ (by repeat (first | exact Kp.base | exact Kp.self | refine Kp.cons rfl ?_ | refine Kp.forget rfl ?_)) ?_ (t4_ (t1_ (t1_ (t2_ (t0_ (eD eR))))))
    · exact ⟨by omega,by omega,hsn.1⟩
    · exact ⟨rfl,True.intro⟩
   ·
    refine za8 <| zak <| zat <| zai <| oM rfl rfl <| oP (P_add rfl rfl (by first | omega | (show i < 8; omega))) rfl <| oA rfl rfl <| za0 <| za6 ⟨i + 1,m7,sn.2⟩ (by first | omega | (simp only []; omega)) ?_ (by repeat (first | exact Kp.base | exact Kp.self | refine Kp.cons rfl ?_ | refine Kp.forget rfl ?_)) ?_ (t0_ (t1_ (t1_ (t1_ (t0_ eR)))))
    · exact ⟨by omega,by omega,hsn.1⟩
    · exact ⟨rfl,True.intro⟩
  ·
   refine zbg <| zaw <| zav <| zau <| zat <| zad <| sR <| oA rfl rfl <| nT <| zas <| zbe (X:=Nat × Md × Int) [2,9,76,77,78,79,80,81,82,83,84,85,86,87,88,89,90,91,92,93,94,95,96,97,98,99,100,101,102,103,104,105,106,107,108] (fun ⟨k,m1,a⟩  => ([(9,.int .i64 (k:Nat))]:Slots)) (fun ⟨k,m1,a⟩ R=>blk sw.1 63 [sw.2,.int .i64 a]::MapP bg.1 m1::RefP bg.2 m1::R) (fun ⟨k,m1,a⟩  => k≤40∧m1.cl≤16 + 25 * k∧0≤a∧a≤1000) (fun ⟨k,m1,a⟩  => 40 - k) ⟨0,m1,a⟩ ?_ ?_ (t0_ (t0_ (t0_ (t0_ (t0_ eR))))) ?_
   · exact ⟨by omega,by omega,ha⟩
   · exact ⟨rfl,True.intro⟩
   ·
    rintro ⟨k,m1,a⟩ ⟨hk,hm1,ha⟩
    show CJ _ _ _ _ _ (([(9,.int .i64 (k:Nat))]:Slots) ++ forget _ _) (blk sw.1 63 [sw.2,.int .i64 a]::MapP bg.1 m1::RefP bg.2 m1::_)
    refine zad <| zad <| za4 0 (by kernel_rfl) rfl <| aN 0 1 rfl rfl (zah rfl) rfl <| aN 1 3 rfl rfl (P_lss rfl rfl) rfl <| aN 2 7 rfl rfl (zah rfl) rfl ?_
    first | (refine zc6 78 rfl (fun hg3B hg3 => ?_) (fun hg3B hg3 => ?_)) | (refine zc7 78 rfl (fun hg3B hg3 => ?_) (fun hg3B hg3 => ?_)) | (refine zdm 78 rfl (fun hg3B => ?_) (fun hg3B => ?_))
    ·
     refine aP 3 15 rfl rfl (zab rfl rfl rfl hg3B) (zah rfl) rfl <| aP 4 31 rfl rfl (zab rfl rfl rfl hg3B) (P_lss rfl rfl) rfl <| aP 5 63 rfl rfl (zab rfl rfl rfl hg3B) (zah rfl) rfl ?_
     first | (refine zc6 81 rfl (fun hg4B hg4 => ?_) (fun hg4B hg4 => ?_)) | (refine zc7 81 rfl (fun hg4B hg4 => ?_) (fun hg4B hg4 => ?_)) | (refine zdm 81 rfl (fun hg4B => ?_) (fun hg4B => ?_))
     ·
      refine aS 6 127 rfl rfl (GY_no rfl rfl rfl hg4B) rfl <| aS 7 255 rfl rfl (GY_no rfl rfl rfl hg4B) rfl <| aS 8 511 rfl rfl (GY_no rfl rfl rfl hg4B) rfl <| aS 9 1023 rfl rfl (GY_no rfl rfl rfl hg4B) rfl <| aS 10 2047 rfl rfl (GY_no rfl rfl rfl hg4B) rfl <| aS 11 4095 rfl rfl (GY_no rfl rfl rfl hg4B) rfl <| aS 12 8191 rfl rfl (GY_no rfl rfl rfl hg4B) rfl <| aS 13 16383 rfl rfl (GY_no rfl rfl rfl hg4B) rfl <| aS 14 32767 rfl rfl (GY_no rfl rfl rfl hg4B) rfl <| aS 15 65535 rfl rfl (GY_no rfl rfl rfl hg4B) rfl <| aP 16 131071 rfl rfl (zab rfl rfl rfl hg3B) (za2 rfl hg4B rfl) rfl <| aN 17 262143 rfl rfl (za2 rfl hg3B rfl) rfl <| aD <| zbk rfl rfl <| kT <| zad <| zas <| sR <| oM rfl rfl <| oM rfl rfl <| oM rfl rfl <| oO <| zaq ((zwi hA2 hL2 ha)) rfl Tryz.call16 (Dels.cons del0 (Dels.cons del3 Dels.nil)) rfl fun cx hcx=>oO <| zaq ((zg4 (tv:=cx.1.tb) (t:=cx.1.t) (Reads.sl _ _ _) (by omega) (by omega) hcx.2.2)) rfl Tryz.call8 (Dels.cons del0 (Dels.cons del2 (Dels.cons del2 Dels.nil))) rfl fun m23 hm24=>oP (P_not rfl) rfl <| oM rfl rfl <| gP (zab rfl rfl rfl rfl) (zah rfl) rfl <| gP (zab rfl rfl rfl rfl) (zah rfl) rfl <| gP (zab rfl rfl rfl rfl) (zah rfl) rfl <| RJ_gy (zab rfl rfl rfl rfl) <| zaq ((zwh (Reads.sl _ _ _) (by show 8≤1000000; omega) (by omega))) rfl Tryz.call15 (Dels.cons del5 (Dels.cons del1 (Dels.cons del1 Dels.nil))) rfl fun m26 hm27=>gP (zab rfl rfl rfl rfl) (P_not rfl) rfl ?_
      refine oP (za5 rfl rfl rfl) rfl <| nT <| zbf rfl rfl <| za8 <| zak <| zat <| zai <| oM rfl rfl <| oP (P_add rfl rfl (by first | omega | (show i < 8; omega))) rfl <| oA rfl rfl <| za0 <| za6 ⟨k + 1,m26,cx.2.2⟩ (by first | omega | (simp only []; omega)) ?_ (by repeat (first | exact Kp.base | exact Kp.self | refine Kp.cons rfl ?_ | refine Kp.forget rfl ?_)) ?_ (t4_ (t1_ (t1_ (t0_ (t1_ (eD eR))))))
      · exact ⟨by omega,by omega,hcx.1⟩
      · exact ⟨rfl,True.intro⟩
     ·
      refine aP 6 127 rfl rfl (zab rfl rfl rfl hg4B) (zah rfl) rfl <| aP 7 255 rfl rfl (zab rfl rfl rfl hg4B) (zaf rfl) rfl <| aP 8 511 rfl rfl (zab rfl rfl rfl hg4B) (zaa rfl ⟨_,_,_,Tryz.runUnderlying63,rfl,rfl,Tryz.sizeOf3,rfl⟩) rfl <| aV 9 1023 rfl rfl (zab rfl rfl rfl hg4B) (t0_ (t0_ (t0_ (t0_ (t0_ eR))))) (zag rfl foc0 rfl Tryz.isAgg3) rfl <| aP 10 2047 rfl rfl (zab rfl rfl rfl hg4B) (zah rfl) rfl <| aP 11 4095 rfl rfl (zab rfl rfl rfl hg4B) (zaf rfl) rfl <| aP 12 8191 rfl rfl (zab rfl rfl rfl hg4B) (zaa rfl ⟨_,_,_,Tryz.runUnderlying63,rfl,rfl,Tryz.sizeOf22,rfl⟩) rfl <| aV 13 16383 rfl rfl (zab rfl rfl rfl hg4B) (t0_ (t0_ (t0_ (t0_ (t0_ eR))))) (zag rfl foc0 rfl Tryz.isAgg22) rfl <| aV 14 32767 rfl rfl (zab rfl rfl rfl hg4B) (t0_ (t0_ (t0_ (t0_ (t0_ eR))))) (V_len rfl foc4 hA2 Tryz.runUnderlying22) rfl <| aP 15 65535 rfl rfl (zab rfl rfl rfl hg4B) (P_lss rfl rfl) rfl <| aP 16 131071 rfl rfl (zab rfl rfl rfl hg3B) (za5 rfl hg4B rfl) rfl <| aN 17 262143 rfl rfl (za2 rfl hg3B rfl) rfl <| aD ?_
      first | (refine zao rfl (fun hg5 => ?_) (fun hg5 => ?_)) | (refine zap rfl (fun hg5 => ?_) (fun hg5 => ?_)) | (refine zar rfl (fun hg5 => ?_) (fun hg5 => ?_))
      ·
       refine kT <| zad <| zas <| sR <| oM rfl rfl <| oM rfl rfl <| oM rfl rfl <| oO <| zaq ((zwi hA2 hL2 ha)) rfl Tryz.call16 (Dels.cons del0 (Dels.cons del3 Dels.nil)) rfl fun cx hcx=>oO <| zaq ((zg4 (tv:=cx.1.tb) (t:=cx.1.t) (Reads.sl _ _ _) (by omega) (by omega) hcx.2.2)) rfl Tryz.call8 (Dels.cons del0 (Dels.cons del2 (Dels.cons del2 Dels.nil))) rfl fun m31 hm32=>oP (P_not rfl) rfl <| oM rfl rfl <| gP (zab rfl rfl rfl rfl) (zah rfl) rfl <| gP (zab rfl rfl rfl rfl) (zah rfl) rfl <| gP (zab rfl rfl rfl rfl) (zah rfl) rfl <| RJ_gy (zab rfl rfl rfl rfl) <| zaq ((zwh (Reads.sl _ _ _) (by show 8≤1000000; omega) (by omega))) rfl Tryz.call15 (Dels.cons del5 (Dels.cons del1 (Dels.cons del1 Dels.nil))) rfl fun m34 hm35=>gP (zab rfl rfl rfl rfl) (P_not rfl) rfl <| oP (za5 rfl rfl rfl) rfl <| nT <| zbf rfl rfl <| za8 <| zak <| zat <| zai <| oM rfl rfl <| oP (P_add rfl rfl (by first | omega | (show i < 8; omega))) rfl <| oA rfl rfl <| za0 <| za6 ⟨k + 1,m34,cx.2.2⟩ (by first | omega | (simp only []; omega)) ?_ (by repeat (first | exact Kp.base | exact Kp.self | refine Kp.cons rfl ?_ | refine Kp.forget rfl ?_)) ?_ (t4_ (t1_ (t1_ (t0_ (t1_ (eD eR))))))
       · exact ⟨by omega,by omega,hcx.1⟩
       · exact ⟨rfl,True.intro⟩
      ·
       refine zbg <| zaw <| zav <| zau <| zat <| sR <| oM rfl rfl <| oM rfl rfl <| oP (zbm rfl (zju _)) rfl <| oO <| zaq ((zg4 (tv:=s3z) (tbl:=[]) (t:=⟨0,0,0⟩) (fun h _ => .inl ⟨rfl,rfl⟩) (Nat.zero_le _) (by omega) ⟨by decide,by decide⟩)) rfl Tryz.call8 (Dels.cons del4 (Dels.cons del1 (Dels.cons del1 Dels.nil))) rfl fun m37 hm38=>oM rfl rfl <| RJ_gy (zab rfl rfl rfl rfl) <| zaq ((zf0 zoe)) rfl Tryz.call14 Dels.nil rfl fun _ hc40=>oP (za2 rfl rfl rfl) rfl <| oA rfl rfl <| nT <| zaj <| zan (res1 Tryz.results5 rfl) <| CSpec.close () ?_ ?_ (t0_ (eD (eD (eD (eD eR)))))
       · rfl
       · trivial
    ·
     refine aS 3 15 rfl rfl (GY_no rfl rfl rfl hg3B) rfl <| aS 4 31 rfl rfl (GY_no rfl rfl rfl hg3B) rfl <| aS 5 63 rfl rfl (GY_no rfl rfl rfl hg3B) rfl <| aS 6 127 rfl rfl (zbu rfl rfl rfl) rfl <| aS 7 255 rfl rfl (zbu rfl rfl rfl) rfl <| aS 8 511 rfl rfl (zbu rfl rfl rfl) rfl <| aS 9 1023 rfl rfl (zbu rfl rfl rfl) rfl <| aS 10 2047 rfl rfl (zbu rfl rfl rfl) rfl <| aS 11 4095 rfl rfl (zbu rfl rfl rfl) rfl <| aS 12 8191 rfl rfl (zbu rfl rfl rfl) rfl <| aS 13 16383 rfl rfl (zbu rfl rfl rfl) rfl <| aS 14 32767 rfl rfl (zbu rfl rfl rfl) rfl <| aS 15 65535 rfl rfl (zbu rfl rfl rfl) rfl <| aS 16 131071 rfl rfl (GY_no rfl rfl rfl hg3B) rfl <| aN 17 262143 rfl rfl (za5 rfl hg3B rfl) rfl <| aD <| zbf rfl rfl <| zbg <| zaw <| zav <| zau <| zat <| sR <| oM rfl rfl <| oM rfl rfl <| oP (zbm rfl (zju _)) rfl <| oO <| zaq ((zg4 (tv:=s3z) (tbl:=[]) (t:=⟨0,0,0⟩) (fun h _ => .inl ⟨rfl,rfl⟩) (Nat.zero_le _) (by omega) ⟨by decide,by decide⟩)) rfl Tryz.call8 (Dels.cons del4 (Dels.cons del1 (Dels.cons del1 Dels.nil))) rfl fun m41 hm42=>oM rfl rfl <| RJ_gy (zab rfl rfl rfl rfl) <| zaq ((zf0 zoe)) rfl Tryz.call14 Dels.nil rfl fun _ hc44=>oP (za2 rfl rfl rfl) rfl <| oA rfl rfl <| nT <| zaj <| zan (res1 Tryz.results5 rfl) <| CSpec.close () ?_ ?_ (t0_ (eD (eD (eD (eD eR)))))
     · rfl
     · trivial
end Go.Proofs
