/- TopStacks, part 7 of the proof: CTs19, PTs28, CTrack, CTs20, CTs21, PTs29, PTs30, PTs31, CTs22, PTs32, CTs23, PEx. -/
import Derived.WalkKit
import Derived.Orders
import Derived.RangeFuncLeaves
import Derived.RangeFuncCalls
import Derived.TacticsIn
import Derived.Handy
import Derived.OrdersHeld
import Derived.OrdersIn
import Derived.Below
import Derived.OpenShut
import Derived.Deep.Slices
import Derived.Scope
import Derived.KernelRfl
import Derived.RangeFuncRecord
import Derived.ChangeKeysEq
import Derived.Laws.BytesArg
import Derived.Lib.Bytealg
import Derived.Lib.AppendStr
import Derived.Lib.Builder
import Derived.Lib.UnsafeStr
import Derived.ProofKit
import Derived.ShutString
import Derived.ChangeOld
import Derived.Stop.Joined
import Derived.LaidLaws
import Derived.LaidHandle
import Derived.MakeChecks
import Derived.SevenTiedAt
import Derived.Test.YthfaiagepigmcaaGreatDoorChecked
import Derived.Test.YthfaiagepigmcaaGreatDoorRows
import Derived.Test.YthfaiagepigmcaaGreatDoorZTopStacks6
set_option linter.unusedSimpArgs false
set_option maxRecDepth 20000
namespace Go.Proofs
open Go.VG Ts
theorem zj7 (v0:Int):∀ w,(Instr.build 30 (#[(0,.int .i64 v0)]:Array (Nat × Value))).run Tryz.prog w = .ok (.agg #[.int .i64 v0,.int .i64 0,.int .i64 0,.int .i64 0,.slice none 0 0,.int .i64 0]) w := fun w=>by kernel_rfl
theorem zem (v0:Int) (v1:Int) (v2:Int) (v3:Int) (v4:(Option Addr)) (v5:Nat) (v6:Nat) (v7:Int) (v8:Int) (v9:Int) (v10:Int) (v11:Int) (v12:(Option Addr)) (v13:Nat) (v14:Nat) (v15:Int):zbg Tryz.prog 28 2 [(0,.agg #[.int .i64 v0,.int .i64 v1,.int .i64 v2,.int .i64 v3,.slice v4 v5 v6,.int .i64 v7]),(1,.agg #[.int .i64 v8,.int .i64 v9,.int .i64 v10,.int .i64 v11,.slice v12 v13 v14,.int .i64 v15])] 30 [.int .i64 v0,.int .i64 v1,.int .i64 v2,.int .i64 v3,.slice v4 v5 v6,.int .i64 v7,.int .i64 v8,.int .i64 v9,.int .i64 v10,.int .i64 v11,.slice v12 v13 v14,.int .i64 v15] := fun w=>by kernel_rfl
theorem zg9 (v0:Int) (v1:Int) (v2:Int) (v3:Int) (v4:(Option Addr)) (v5:Nat) (v6:Nat) (v7:Int):zbg Tryz.prog 28 1 [(0,.agg #[.int .i64 v0,.int .i64 v1,.int .i64 v2,.int .i64 v3,.slice v4 v5 v6,.int .i64 v7])] 30 [.int .i64 v0,.int .i64 v1,.int .i64 v2,.int .i64 v3,.slice v4 v5 v6,.int .i64 v7] := fun w=>by kernel_rfl
theorem zuj {k st c:Nat} {pv:Sl3} {sz:Int} (h:0≤sz):Value.agg #[.int .i64 (k:Int),.int .i64 0,.int .i64 (st:Int),.int .i64 sz,pv.v,.int .i64 (c:Int)]=(⟨k,0,st,sz.toNat,pv,c⟩:NV).val := by
  show _=Value.agg #[.int .i64 (k:Int),.int .i64 0,.int .i64 (st:Int),.int .i64 ((sz.toNat:Nat):Int),pv.v,.int .i64 (c:Int)]
  rw [Int.toNat_of_nonneg h]
theorem zsz {d:Nat} {st:Nat} {sz:Int} (h:0≤sz):Value.agg #[.int .i64 0,.int .i64 (d:Int),.int .i64 (st:Int),.int .i64 sz,.slice none 0 0,.int .i64 0]=(⟨0,d,st,sz.toNat,⟨none,0,0⟩,0⟩:NV).val := by
  show _=Value.agg #[.int .i64 0,.int .i64 (d:Int),.int .i64 (st:Int),.int .i64 ((sz.toNat:Nat):Int),.slice none 0 0,.int .i64 0]
  rw [Int.toNat_of_nonneg h]
theorem nh0 {v:NV} {d st len:Nat} {F:List HP} : Ent (NHg (fun _ _=>star []) v (.span d st len)::F) (NH 0 v (.span d st len)::F) := fun _ hh=>stars_star.2 (stars_pur.2 ⟨rfl,hh⟩)
theorem zzi {W:World} {sb:Nat} {a:Int} {v:Value} {L:List Int} {A:HP} (hA:Reads A tyI v L) (hL:L.length≤1000) (ha:0≤a∧a≤1000) {nv:Sl3} {nx:Nat→Nat} {sz:Int} (hs:1≤sz∧sz≤lim 0) (hnx:Sp 1 0 nx) :
    CSpec Tryz.prog W 7 [ptr sb 0,.int .i64 0,nv.v,.int .i64 sz] [blk sb 67 [v,.int .i64 a],A,sl tyI nv.v (nxL nx)] (fun x:(NV × Nd) × Int × (Nat→Nat)=>x.1.1.val) (fun x=>(0≤x.2.1∧x.2.1≤1000)∧PlanOk 0 sz nx x.2.2 x.1.2) (fun x F=>blk sb 67 [v,.int .i64 x.2.1]::A::sl tyI nv.v (nxL x.2.2)::NH 0 x.1.1 x.1.2::F) := by
 refine CSpec.of_body Tryz.func7 rfl Tryz.ntmps7 rfl fun F => ?_
 show CJ _ _ _ _ _ _ (_::_::_::F)
 have hlim:lim 0=26 := rfl
 have hnl := @zqg nx
 refine sR<|oO<|zbi Tryz.zeroValue30 rfl rfl fun b1=>nT<|sR<|oM rfl<|oO<|zai ((zfx hA hL ⟨by omega,by omega⟩ (by omega))) rfl Tryz.call18 (Dels.cons del1 (dC_ del1)) rfl fun x14 h14=>oP (zbk rfl (zj7 _))<|oO<|zbi Tryz.zeroValue30 rfl rfl fun b3=>oO<|zbo rfl rfl foc0 Tryz.sizeOf30 rfl rfl rfl<|nT<|zab<|sR<|oM rfl<|oP (P_eql rfl rfl)<|nT<|za7 rfl (by first | exact decide_eq_true (by rfl) | (rfl))<|zag<|oP (zaa rfl ⟨_,_,_,Tryz.runUnderlying30,rfl,rfl,Tryz.sizeOf3,rfl⟩)<|oO<|za5 rfl rfl foc0 rfl rfl Tryz.sizeOf3<|nT<|zab<|sR<|oP (zaa rfl ⟨_,_,_,Tryz.runUnderlying30,rfl,rfl,Tryz.sizeOf3,rfl⟩)<|oV (zac rfl foc0 rfl Tryz.isAgg3)<|oP (P_eql rfl rfl)<|oM rfl<|zbp 22 false rfl dF_ fun hg2B=>g_ rfl rfl rfl hg2B rfl<|g_ rfl rfl rfl hg2B rfl<|oP (za2 rfl hg2B rfl)<|nT<|zap rfl rfl<|kT<|zab<|sR<|oP (zaa rfl ⟨_,_,_,Tryz.runUnderlying30,rfl,rfl,Tryz.sizeOf3,rfl⟩)<|oV (zac rfl foc0 rfl Tryz.isAgg3)<|nT<|zao<|sR<|oP (P_eql rfl rfl)<|oA rfl<|nT<|za7 rfl (by first | exact decide_eq_true (by rfl) | (rfl))<|sR<|oM rfl<|oM rfl<|oV (V_len rfl foc4 (Reads.sl _ _ _) Tryz.runUnderlying22)<|oO<|zai ((zfx hA hL ⟨by omega,by omega⟩ (by omega))) rfl Tryz.call18 (Dels.cons del1 (dC_ del1)) rfl fun x34 h34=>oM rfl ?_
 refine oP (zaa rfl ⟨_,_,_,Tryz.runUnderlying30,rfl,rfl,Tryz.sizeOf3,rfl⟩)<|oO<|za5 rfl rfl foc2 rfl rfl Tryz.sizeOf3<|oP (zaa rfl ⟨_,_,_,Tryz.runUnderlying30,rfl,rfl,Tryz.sizeOf3,rfl⟩)<|oO<|za5 rfl rfl foc2 rfl rfl Tryz.sizeOf3<|nT<|sR ?_
 have hd3:x34.1 < 3 := by have := h34.2; omega
 have hnb := hnx x34.1 hd3
 refine oM rfl<|oP (zaa rfl ⟨_,_,_,Tryz.runUnderlying30,rfl,rfl,Tryz.sizeOf3,rfl⟩)<|oV (zac rfl foc2 rfl Tryz.isAgg3) ?_
 first | (refine RJ_op rfl (OJ_V (zam rfl rfl rfl (by omega) foc4 (Reads.sl _ _ _) Tryz.runUnderlying22 Tryz.sizeOf3) rfl ?_)) | (refine RJ_op rfl (OJ_V (zam rfl rfl (Int.toNat_of_nonneg (by omega)).symm (by omega) foc4 (Reads.sl _ _ _) Tryz.runUnderlying22 Tryz.sizeOf3) rfl ?_))
 refine oV (VJ_eq (v := .int .i64 ((nx x34.1:Nat):Int)) (za6 rfl rfl (by omega) foc4 (Reads.sl _ _ _) rfl rfl Tryz.isAgg3) (by rw [show tyI.dflt=0 from rfl,zo8 hd3]))<|oP (zaa rfl ⟨_,_,_,Tryz.runUnderlying30,rfl,rfl,Tryz.sizeOf3,rfl⟩)<|oO<|za5 rfl rfl foc2 rfl rfl Tryz.sizeOf3<|nT<|zag<|oM rfl<|oP (zaa rfl ⟨_,_,_,Tryz.runUnderlying30,rfl,rfl,Tryz.sizeOf3,rfl⟩)<|oV (zac rfl foc2 rfl Tryz.isAgg3) ?_
 first | (refine RJ_op rfl (OJ_V (zam rfl rfl rfl (by omega) foc4 (Reads.sl _ _ _) Tryz.runUnderlying22 Tryz.sizeOf3) rfl ?_)) | (refine RJ_op rfl (OJ_V (zam rfl rfl (Int.toNat_of_nonneg (by omega)).symm (by omega) foc4 (Reads.sl _ _ _) Tryz.runUnderlying22 Tryz.sizeOf3) rfl ?_))
 refine oV (VJ_eq (v := .int .i64 ((nx x34.1:Nat):Int)) (za6 rfl rfl (by omega) foc4 (Reads.sl _ _ _) rfl rfl Tryz.isAgg3) (by rw [show tyI.dflt=0 from rfl,zo8 hd3]))<|oM rfl<|oP (P_add rfl rfl (by omega)) ?_
 first | (refine RJ_op rfl (OJ_V (zam rfl rfl rfl (by omega) foc4 (Reads.sl _ _ _) Tryz.runUnderlying22 Tryz.sizeOf3) rfl ?_)) | (refine RJ_op rfl (OJ_V (zam rfl rfl (Int.toNat_of_nonneg (by omega)).symm (by omega) foc4 (Reads.sl _ _ _) Tryz.runUnderlying22 Tryz.sizeOf3) rfl ?_))
 refine oO<|zcb (x' := _) rfl rfl rfl (by omega) foc4 rfl rfl rfl Tryz.sizeOf3<|za0<|zah<|zar<|sR<|oV (zbq rfl foc2 Tryz.isAgg30 Tryz.sizeOf30 rfl rfl)<|oO<|zbo rfl rfl foc3 Tryz.sizeOf30 rfl rfl rfl<|nT<|zaf<|zan (resA1 Tryz.results7 (zdp rfl foc3 Tryz.isAgg30 Tryz.sizeOf30 rfl rfl))<|CSpec.close (((⟨0,x34.1,nx x34.1,sz.toNat,⟨none,0,0⟩,0⟩:NV),.span x34.1 (nx x34.1) sz.toNat),x34.2,fun e=>if e=x34.1 then nx x34.1 + sz.toNat else nx e) ?_ ?_ (Ent.trans (t0_ (t0_ (Ent.takeC del2 (by rw [zui hd3 (by omega)]) (e_ (e_ r_))))) (t0_ (t0_ (t0_ (Ent.trans (nhg0 (g:=(fun _ _=>star [])) (v:=(⟨0,x34.1,nx x34.1,sz.toNat,⟨none,0,0⟩,0⟩:NV)) (n := .span x34.1 (nx x34.1) sz.toNat) ⟨rfl,rfl,rfl,rfl⟩ rfl rfl) nh0)))))
 · exact zsz (by omega)
 · exact ⟨h34.1,zq2 hd3 (by omega) fun _=>rfl⟩
theorem zs0 {W:World} {sb:Nat} {a:Int} {v:Value} {L:List Int} {A:HP} (hA:Reads A tyI v L) (hL:L.length≤1000) (ha:0≤a∧a≤1000) {nv:Sl3} {nx:Nat→Nat} {sz:Int} {K:Nat} {D:Int} {g:NV→Nd→HP} (hK:K≤1) (hD:1≤D∧D≤2) (hs:1≤sz∧sz≤lim (K + 1)) (hnx:Sp 3 K nx) (hrec:∀ {W:World} (sz a:Int) (nx:Nat→Nat),1≤sz∧sz≤lim K→0≤a∧a≤1000→Sp 1 K nx→CSpec Tryz.prog W 7 [ptr sb 0,.int .i64 (D - 1),nv.v,.int .i64 sz] [blk sb 67 [v,.int .i64 a],A,sl tyI nv.v (nxL nx)] (fun x:(NV × Nd) × Int × (Nat→Nat)=>x.1.1.val) (fun x=>(0≤x.2.1∧x.2.1≤1000)∧PlanOk K sz nx x.2.2 x.1.2) (fun x F=>blk sb 67 [v,.int .i64 x.2.1]::A::sl tyI nv.v (nxL x.2.2)::g x.1.1 x.1.2::F)) :
    CSpec Tryz.prog W 7 [ptr sb 0,.int .i64 D,nv.v,.int .i64 sz] [blk sb 67 [v,.int .i64 a],A,sl tyI nv.v (nxL nx)] (fun x:(NV × Nd) × Int × (Nat→Nat)=>x.1.1.val) (fun x=>(0≤x.2.1∧x.2.1≤1000)∧PlanOk (K + 1) sz nx x.2.2 x.1.2) (fun x F=>blk sb 67 [v,.int .i64 x.2.1]::A::sl tyI nv.v (nxL x.2.2)::NHg g x.1.1 x.1.2::F) := by
 refine CSpec.of_body Tryz.func7 rfl Tryz.ntmps7 rfl fun F => ?_
 show CJ _ _ _ _ _ _ (_::_::_::F)
 have hlim:lim K=26∧lim (K + 1)=24∨lim K=24∧lim (K + 1)=8 := by
   have h9:K=0∨K=1 := by omega
   rcases h9 with rfl | rfl
   · exact .inl ⟨rfl,rfl⟩
   · exact .inr ⟨rfl,rfl⟩
 have hnl := @zqg nx
 refine sR<|oO<|zbi Tryz.zeroValue30 rfl rfl fun b1=>nT<|sR<|oM rfl<|oO<|zai ((zfx hA hL ⟨by omega,by omega⟩ (by omega))) rfl Tryz.call18 (Dels.cons del1 (dC_ del1)) rfl fun x14 h14=>oP (zbk rfl (zj7 _))<|oO<|zbi Tryz.zeroValue30 rfl rfl fun b3=>oO<|zbo rfl rfl foc0 Tryz.sizeOf30 rfl rfl rfl<|nT<|zab<|sR<|oM rfl<|oP (P_eql rfl rfl)<|nT<|zap rfl wF_<|kT<|zab<|sR<|oP (zaa rfl ⟨_,_,_,Tryz.runUnderlying30,rfl,rfl,Tryz.sizeOf3,rfl⟩)<|oV (zac rfl foc0 rfl Tryz.isAgg3)<|oP (P_eql rfl rfl)<|oM rfl ?_
 first | (refine zbu 22 rfl (fun hg2B hg2 => ?_) (fun hg2B hg2 => ?_)) | (refine zbv 22 rfl (fun hg2B hg2 => ?_) (fun hg2B hg2 => ?_)) | (refine zb3 22 rfl (fun hg2B => ?_) (fun hg2B => ?_))
 ·
  refine p_ rfl rfl rfl hg2B (zae rfl)<|p_ rfl rfl rfl hg2B (P_gtr rfl rfl)<|oP (zbe rfl hg2B rfl)<|nT ?_
  first | (refine zav rfl (fun hg3 => ?_) (fun hg3 => ?_)) | (refine zaw rfl (fun hg3 => ?_) (fun hg3 => ?_)) | (refine za1 rfl (fun hg3 => ?_) (fun hg3 => ?_))
  ·
   refine zag<|oP (zaa rfl ⟨_,_,_,Tryz.runUnderlying30,rfl,rfl,Tryz.sizeOf3,rfl⟩)<|oO<|za5 rfl rfl foc0 rfl rfl Tryz.sizeOf3<|nT<|zab<|sR<|oP (zaa rfl ⟨_,_,_,Tryz.runUnderlying30,rfl,rfl,Tryz.sizeOf3,rfl⟩)<|oV (zac rfl foc0 rfl Tryz.isAgg3)<|nT<|zao<|sR<|oP (P_eql rfl rfl)<|oA rfl<|nT<|zap rfl dF_<|sR<|oP (P_eql rfl rfl)<|oA rfl<|nT<|za7 rfl dT_<|sR<|oM rfl<|oM rfl<|oP (P_add rfl rfl (by first | omega | (rcases (show x108.1=1∨x108.1=2 by omega) with h9 | h9 <;> rw [h9] <;> omega)))<|oO<|zai ((zfx hA hL ⟨by omega,by omega⟩ (by omega))) rfl Tryz.call18 (Dels.cons del1 (dC_ del1)) rfl fun x57 h57=>oA rfl<|nT<|zag<|oM rfl<|oM rfl<|oP (P_sub rfl rfl (by first | omega | (rcases (show x108.1=1∨x108.1=2 by omega) with h9 | h9 <;> rw [h9] <;> omega)))<|oM rfl<|oM rfl<|oP (P_max rfl rfl)<|oO<|zai ((hrec _ _ _ ⟨by omega,by omega⟩ ⟨by omega,by omega⟩ (hnx.le (by decide)))) rfl Tryz.call7 (Dels.cons del0 (Dels.cons del0 (dC_ del2))) rfl fun x64 h64=>oM rfl<|oM rfl<|oP (P_sub rfl rfl (by first | omega | (rcases (show x108.1=1∨x108.1=2 by omega) with h9 | h9 <;> rw [h9] <;> omega)))<|oM rfl<|oM rfl<|oM rfl<|oP (P_sub rfl rfl (by first | omega | (rcases (show x108.1=1∨x108.1=2 by omega) with h9 | h9 <;> rw [h9] <;> omega)))<|oP (P_max rfl rfl) ?_
   refine oO<|zai ((hrec _ _ _ ⟨by omega,by omega⟩ ⟨by omega,by omega⟩ ((hnx.nxt h64.2).le (by decide)))) rfl Tryz.call7 (Dels.cons del0 (Dels.cons del0 (dC_ del0))) rfl fun x73 h73=>oO<|za4 rfl (zem _ _ _ _ _ _ _ _ _ _ _ _ _ _ _ _) rfl fun b9=>zcg (Ent.trans r_ (zb5 (t:=zcr) (m:=2) [x64.1.1,x73.1.1] rfl rfl rfl (by decide)))<|oP (zaa rfl ⟨_,_,_,Tryz.runUnderlying30,rfl,rfl,Tryz.sizeOf28,rfl⟩)<|oO<|za5 rfl rfl foc6 rfl rfl Tryz.sizeOf28<|za0<|zah<|zar<|sR<|oV (zbq rfl foc6 Tryz.isAgg30 Tryz.sizeOf30 rfl rfl)<|oO<|zbo rfl rfl foc7 Tryz.sizeOf30 rfl rfl rfl<|nT<|zaf<|zan (resA1 Tryz.results7 (zdp rfl foc7 Tryz.isAgg30 Tryz.sizeOf30 rfl rfl))<|CSpec.close (((⟨1,0,0,0,⟨some ⟨b9,0,none⟩,2,2⟩,0⟩:NV),.cat x64.1.2 x73.1.2),x73.2) ?_ ?_ (Ent.trans (t1_ (t1_ (t1_ (t0_ (t1_ (t0_ (e_ (e_ r_)))))))) (t0_ (t0_ (t0_ (nhg2 (v:=(⟨1,0,0,0,⟨some ⟨b9,0,none⟩,2,2⟩,0⟩:NV)) (n := .cat x64.1.2 x73.1.2) (show 1=1 by omega) rfl)))))
   · rfl
   · exact ⟨h73.1,zsx hK (by omega) ⟨by omega,by omega,by omega,by omega⟩ h64.2 h73.2⟩
  ·
   refine kT<|zab<|sR<|oP (zaa rfl ⟨_,_,_,Tryz.runUnderlying30,rfl,rfl,Tryz.sizeOf3,rfl⟩)<|oV (zac rfl foc0 rfl Tryz.isAgg3)<|nT<|zao<|sR<|oP (P_eql rfl rfl)<|oA rfl<|nT<|zap rfl wF_<|sR<|oP (P_eql rfl rfl)<|oA rfl<|nT<|zap rfl wF_<|zab<|sR<|oP (P_eql rfl rfl)<|oA rfl<|nT<|zap rfl wF_<|zag<|oP (P_eql rfl rfl)<|oA rfl<|nT<|zap rfl wF_<|sR<|oP (P_eql rfl rfl)<|oA rfl<|nT<|za7 rfl wT_<|sR<|oM rfl<|oO<|zai ((zil hA hL ⟨by omega,by omega⟩ (lo:=1) (hi:=2) (by omega))) rfl Tryz.call8 (Dels.cons del1 (dC_ del1)) rfl fun x108 h108=>oP (zaa rfl ⟨_,_,_,Tryz.runUnderlying30,rfl,rfl,Tryz.sizeOf3,rfl⟩)<|oO<|za5 rfl rfl foc2 rfl rfl Tryz.sizeOf3<|nT<|sR<|oA rfl<|nT<|zao<|zbs (fun h hh=>zch (t:=zcr) h hh)<|zbs (fun h hh=>(stars_star (Hs:=[])).2 hh) ?_
   refine za8 (X:=Nat × List (NV × Nd) × Int × (Nat→Nat) × Sl3) [12,110,111,112,113,114,115,116,117,118,119,120,121,122,123,124,125,126,127,128,129,130,131] (fun ⟨i,ps,a2,n2,lv⟩  => ([(12,.int .i64 (i:Nat))]:Slots)) (fun ⟨i,ps,a2,n2,lv⟩ R=>blk sb 67 [v,.int .i64 a2]::sl tyI nv.v (nxL n2)::blk b3 30 [.int .i64 (x14.1:Int),.int .i64 0,.int .i64 0,.int .i64 0,lv.v,.int .i64 (x108.1:Int)]::sl zcr lv.v (ps.map fun x=>x.1)::star (ps.map fun x=>g x.1 x.2)::R) (fun ⟨i,ps,a2,n2,lv⟩  => (0≤a2∧a2≤1000)∧(i≤3∧ps.length=i)∧Chain K (16 + 2 * (x108.1:Int) * (sz / 4 + 1)) nx ps.reverse n2) (fun ⟨i,ps,a2,n2,lv⟩  => 3 - i) ⟨0,[],x108.2,nx,⟨none,0,0⟩⟩ ?_ ?_ (t2_ (t5_ (t3_ (t1_ r_)))) ?_
   · exact ⟨h108.1,⟨Nat.zero_le _,rfl⟩,rfl⟩
   · exact ⟨rfl,True.intro⟩
   ·
    rintro ⟨i,ps,a2,n2,lv⟩ ⟨ha2,hi3,hC⟩
    show CJ _ _ _ _ _ (([(12,.int .i64 (i:Nat))]:Slots) ++ forget _ _) (blk sb 67 [v,.int .i64 a2]::sl tyI nv.v (nxL n2)::blk b3 30 [.int .i64 (x14.1:Int),.int .i64 0,.int .i64 0,.int .i64 0,lv.v,.int .i64 (x108.1:Int)]::sl zcr lv.v (ps.map fun x=>x.1)::star (ps.map fun x=>g x.1 x.2)::_)
    have hpl:(ps.map fun x=>x.1).length=i := by rw [List.length_map]; exact hi3.2
    refine zab<|sR<|oM rfl<|oP (P_lss rfl rfl)<|nT ?_
    first | (refine zav rfl (fun hg11 => ?_) (fun hg11 => ?_)) | (refine zaw rfl (fun hg11 => ?_) (fun hg11 => ?_)) | (refine za1 rfl (fun hg11 => ?_) (fun hg11 => ?_))
    ·
     refine kT<|zab<|zao<|zkh [blk b3 30 [.int .i64 (x14.1:Int),.int .i64 0,.int .i64 0,.int .i64 0,lv.v,.int .i64 (x108.1:Int)]] 327680 kR_ rfl<|aN 0 1 rfl rfl (zaa rfl ⟨_,_,_,Tryz.runUnderlying30,rfl,rfl,Tryz.sizeOf28,rfl⟩)<|aW 1 3 rfl rfl (t2_ (e_ (e_ (e_ (e_ (e_ (e_ (fun _ _=>trivial)))))))) (zac rfl foc0 rfl Tryz.isAgg28)<|aN 2 7 rfl rfl (zae rfl)<|aN 3 15 rfl rfl (zae rfl)<|aN 4 31 rfl rfl (P_sub rfl rfl (by first | omega | (rcases (show x108.1=1∨x108.1=2 by omega) with h9 | h9 <;> rw [h9] <;> omega)))<|aN 5 63 rfl rfl (zae rfl)<|aN 6 127 rfl rfl (zaa rfl ⟨_,_,_,Tryz.runUnderlying30,rfl,rfl,Tryz.sizeOf3,rfl⟩)<|aW 7 255 rfl rfl (t2_ (e_ (e_ (e_ (e_ (e_ (e_ (fun _ _=>trivial)))))))) (zac rfl foc0 rfl Tryz.isAgg3)<|aN 8 511 rfl rfl (P_mul rfl rfl (by first | omega | (rcases (show x108.1=1∨x108.1=2 by omega) with h9 | h9 <;> rw [h9] <;> omega)))<|aN 9 1023 rfl rfl (zae rfl)<|aN 10 2047 rfl rfl (P_quo rfl rfl (by first | omega | (rcases (show x108.1=1∨x108.1=2 by omega) with h9 | h9 <;> rw [h9] <;> omega)))<|aN 11 4095 rfl rfl (P_add rfl rfl (by first | omega | (rcases (show x108.1=1∨x108.1=2 by omega) with h9 | h9 <;> rw [h9] <;> omega))) ?_
     refine aN 12 8191 rfl rfl (P_mul rfl rfl (by first | omega | (rcases (show x108.1=1∨x108.1=2 by omega) with h9 | h9 <;> rw [h9] <;> omega)))<|aN 13 16383 rfl rfl (P_add rfl rfl (by first | omega | (rcases (show x108.1=1∨x108.1=2 by omega) with h9 | h9 <;> rw [h9] <;> omega))) ?_
     have hsz1:1≤16 + 2 * (x108.1:Int) * (sz / 4 + 1)∧16 + 2 * (x108.1:Int) * (sz / 4 + 1)≤24 := by
       rcases (show x108.1=1∨x108.1=2 by omega) with h9 | h9 <;> rw [h9] <;> omega
     refine AJ_op 14 32767 rfl kR_ rfl (zal rfl)<|zai ((hrec _ _ _ ⟨by omega,by omega⟩ ⟨by omega,by omega⟩ ((Chain.sp hnx (by rw [List.length_reverse]; omega) hC).le (by rw [List.length_reverse]; omega)))) rfl Tryz.call7 (Dels.cons del0 (Dels.cons del4 (dC_ del0))) rfl fun x128 h128=>⟨fun _=>(t4_ (e_ (e_ (e_ (e_ (e_ (e_ (e_ (fun _ _=>trivial))))))))),?_⟩
     refine AJ_op 15 65535 rfl kR_ rfl (zal rfl)<|za4 rfl (zg9 _ _ _ _ _ _ _ _) rfl fun b13=>⟨fun _=>(t5_ (e_ (e_ (e_ (e_ (e_ (e_ (e_ (e_ (fun _ _=>trivial)))))))))),?_⟩
     refine AJ_op 16 131071 rfl kR_ rfl (zal rfl)<|zb1 (t:=zcr) (bytes:=64) rfl rfl del6 foc0 (Reads.lit (t:=zcr) (ys:=[x128.1.1]) rfl rfl (by decide) (by decide) rfl) Tryz.underlying28 zw1 (by show (ps.map fun x=>x.1).length + 1≤maxLen; rw [hpl]; unfold maxLen; omega) (by show ((ps.map fun x=>x.1).length + 1) * 64≤_; rw [hpl]; omega) rfl fun p14 c15=>⟨fun h=>absurd h (by decide),?_⟩
     refine aN 17 262143 rfl rfl (zaa rfl ⟨_,_,_,Tryz.runUnderlying30,rfl,rfl,Tryz.sizeOf28,rfl⟩)<|AJ_op 18 524287 rfl kR_ rfl (zal rfl)<|za5 rfl rfl foc6 rfl rfl Tryz.sizeOf28<|⟨fun h=>absurd h (by decide),?_⟩
     refine zcf kR_<|zah<|zar<|zbs (Ent.trans (t7_ (t5_ r_)) foldS)<|zag<|oM rfl<|oP (P_add rfl rfl (by first | omega | (rcases (show x108.1=1∨x108.1=2 by omega) with h9 | h9 <;> rw [h9] <;> omega)))<|oA rfl<|za0<|zba ⟨i + 1,ps ++ [x128.1],x128.2.1,x128.2.2,⟨p14,((ps.map fun x=>x.1) ++ [x128.1.1]).length,c15⟩⟩ (by first | omega | (simp only []; omega)) ?_ kP_ ?_ (t3_ (t4_ (t4_ (Ent.takeC del1 (by rw [List.map_append] <;> rfl) (Ent.takeC del0 (by rw [List.map_append] <;> rfl) (t1_ (t1_ (e_ r_))))))))
     · exact ⟨h128.1,⟨by omega,by rw [List.length_append,hi3.2]; rfl⟩,by rw [List.reverse_append]; exact ⟨n2,hC,h128.2⟩⟩
     · exact ⟨rfl,True.intro⟩
    ·
     refine zbc<|zay<|zau<|zat<|zah<|zar<|zab ?_
     obtain rfl:i=3 := by omega
     obtain ⟨y1,y2,y3,rfl⟩ := three hi3.2
     have hC2:Chain K (16 + 2 * (x108.1:Int) * (sz / 4 + 1)) nx [y3,y2,y1] n2 := hC
     obtain ⟨m2,⟨m1,⟨m0,hm0,p1⟩,p2⟩,p3⟩ := hC2
     obtain rfl:m0=nx := hm0
     refine zag<|oV (zbq rfl foc2 Tryz.isAgg30 Tryz.sizeOf30 rfl rfl)<|oO<|zbo rfl rfl foc6 Tryz.sizeOf30 rfl rfl rfl<|nT<|zaf<|zan (resA1 Tryz.results7 (zdp rfl foc6 Tryz.isAgg30 Tryz.sizeOf30 rfl rfl))<|CSpec.close (((⟨x14.1,0,0,0,lv,x108.1⟩:NV),.par x108.1 y1.2 y2.2 y3.2),a2,n2) ?_ ?_ (Ent.trans (t0_ (t4_ (t0_ (t1_ (t1_ (e_ (e_ r_))))))) (t0_ (t0_ (t0_ (Ent.trans openS3 (nhg3 (v:=(⟨x14.1,0,0,0,lv,x108.1⟩:NV)) (n := .par x108.1 y1.2 y2.2 y3.2) ⟨show x14.1=4 by omega,rfl⟩ rfl))))))
     · rfl
     · exact ⟨ha2,zzf hK (by omega) (by omega) rfl p1 p2 p3⟩
 ·
  refine g_ rfl rfl rfl hg2B rfl<|g_ rfl rfl rfl hg2B rfl<|oP (za2 rfl hg2B rfl)<|nT<|zap rfl rfl<|kT<|zab<|sR<|oP (zaa rfl ⟨_,_,_,Tryz.runUnderlying30,rfl,rfl,Tryz.sizeOf3,rfl⟩)<|oV (zac rfl foc0 rfl Tryz.isAgg3)<|nT<|zao<|sR<|oP (P_eql rfl rfl)<|oA rfl<|nT ?_
  first | (refine zav rfl (fun hg12 => ?_) (fun hg12 => ?_)) | (refine zaw rfl (fun hg12 => ?_) (fun hg12 => ?_)) | (refine za1 rfl (fun hg12 => ?_) (fun hg12 => ?_))
  ·
   refine sR<|oM rfl<|oM rfl<|oV (V_len rfl foc4 (Reads.sl _ _ _) Tryz.runUnderlying22)<|oO<|zai ((zfx hA hL ⟨by omega,by omega⟩ (by omega))) rfl Tryz.call18 (Dels.cons del1 (dC_ del1)) rfl fun x34 h34=>oM rfl<|oP (zaa rfl ⟨_,_,_,Tryz.runUnderlying30,rfl,rfl,Tryz.sizeOf3,rfl⟩)<|oO<|za5 rfl rfl foc2 rfl rfl Tryz.sizeOf3<|oP (zaa rfl ⟨_,_,_,Tryz.runUnderlying30,rfl,rfl,Tryz.sizeOf3,rfl⟩)<|oO<|za5 rfl rfl foc2 rfl rfl Tryz.sizeOf3<|nT<|sR ?_
   have hd3:x34.1 < 3 := by have := h34.2; omega
   have hnb := hnx x34.1 hd3
   refine oM rfl<|oP (zaa rfl ⟨_,_,_,Tryz.runUnderlying30,rfl,rfl,Tryz.sizeOf3,rfl⟩)<|oV (zac rfl foc2 rfl Tryz.isAgg3) ?_
   first | (refine RJ_op rfl (OJ_V (zam rfl rfl rfl (by first | omega | (rcases (show x108.1=1∨x108.1=2 by omega) with h9 | h9 <;> rw [h9] <;> omega)) foc4 (Reads.sl _ _ _) Tryz.runUnderlying22 Tryz.sizeOf3) rfl ?_)) | (refine RJ_op rfl (OJ_V (zam rfl rfl (Int.toNat_of_nonneg (by first | omega | (rcases (show x108.1=1∨x108.1=2 by omega) with h9 | h9 <;> rw [h9] <;> omega))).symm (by first | omega | (rcases (show x108.1=1∨x108.1=2 by omega) with h9 | h9 <;> rw [h9] <;> omega)) foc4 (Reads.sl _ _ _) Tryz.runUnderlying22 Tryz.sizeOf3) rfl ?_))
   refine oV (VJ_eq (v := .int .i64 ((nx x34.1:Nat):Int)) (za6 rfl rfl (by first | omega | (rcases (show x108.1=1∨x108.1=2 by omega) with h9 | h9 <;> rw [h9] <;> omega)) foc4 (Reads.sl _ _ _) rfl rfl Tryz.isAgg3) (by rw [show tyI.dflt=0 from rfl,zo8 hd3]))<|oP (zaa rfl ⟨_,_,_,Tryz.runUnderlying30,rfl,rfl,Tryz.sizeOf3,rfl⟩)<|oO<|za5 rfl rfl foc2 rfl rfl Tryz.sizeOf3<|nT<|zag<|oM rfl<|oP (zaa rfl ⟨_,_,_,Tryz.runUnderlying30,rfl,rfl,Tryz.sizeOf3,rfl⟩)<|oV (zac rfl foc2 rfl Tryz.isAgg3) ?_
   first | (refine RJ_op rfl (OJ_V (zam rfl rfl rfl (by first | omega | (rcases (show x108.1=1∨x108.1=2 by omega) with h9 | h9 <;> rw [h9] <;> omega)) foc4 (Reads.sl _ _ _) Tryz.runUnderlying22 Tryz.sizeOf3) rfl ?_)) | (refine RJ_op rfl (OJ_V (zam rfl rfl (Int.toNat_of_nonneg (by first | omega | (rcases (show x108.1=1∨x108.1=2 by omega) with h9 | h9 <;> rw [h9] <;> omega))).symm (by first | omega | (rcases (show x108.1=1∨x108.1=2 by omega) with h9 | h9 <;> rw [h9] <;> omega)) foc4 (Reads.sl _ _ _) Tryz.runUnderlying22 Tryz.sizeOf3) rfl ?_))
   refine oV (VJ_eq (v := .int .i64 ((nx x34.1:Nat):Int)) (za6 rfl rfl (by first | omega | (rcases (show x108.1=1∨x108.1=2 by omega) with h9 | h9 <;> rw [h9] <;> omega)) foc4 (Reads.sl _ _ _) rfl rfl Tryz.isAgg3) (by rw [show tyI.dflt=0 from rfl,zo8 hd3]))<|oM rfl<|oP (P_add rfl rfl (by first | omega | (rcases (show x108.1=1∨x108.1=2 by omega) with h9 | h9 <;> rw [h9] <;> omega))) ?_
   first | (refine RJ_op rfl (OJ_V (zam rfl rfl rfl (by first | omega | (rcases (show x108.1=1∨x108.1=2 by omega) with h9 | h9 <;> rw [h9] <;> omega)) foc4 (Reads.sl _ _ _) Tryz.runUnderlying22 Tryz.sizeOf3) rfl ?_)) | (refine RJ_op rfl (OJ_V (zam rfl rfl (Int.toNat_of_nonneg (by first | omega | (rcases (show x108.1=1∨x108.1=2 by omega) with h9 | h9 <;> rw [h9] <;> omega))).symm (by first | omega | (rcases (show x108.1=1∨x108.1=2 by omega) with h9 | h9 <;> rw [h9] <;> omega)) foc4 (Reads.sl _ _ _) Tryz.runUnderlying22 Tryz.sizeOf3) rfl ?_))
   refine oO<|zcb (x' := _) rfl rfl rfl (by first | omega | (rcases (show x108.1=1∨x108.1=2 by omega) with h9 | h9 <;> rw [h9] <;> omega)) foc4 rfl rfl rfl Tryz.sizeOf3<|za0<|zah<|zar<|sR<|oV (zbq rfl foc2 Tryz.isAgg30 Tryz.sizeOf30 rfl rfl)<|oO<|zbo rfl rfl foc3 Tryz.sizeOf30 rfl rfl rfl<|nT<|zaf<|zan (resA1 Tryz.results7 (zdp rfl foc3 Tryz.isAgg30 Tryz.sizeOf30 rfl rfl))<|CSpec.close (((⟨0,x34.1,nx x34.1,sz.toNat,⟨none,0,0⟩,0⟩:NV),.span x34.1 (nx x34.1) sz.toNat),x34.2,fun e=>if e=x34.1 then nx x34.1 + sz.toNat else nx e) ?_ ?_ (Ent.trans (t0_ (t0_ (Ent.takeC del2 (by rw [zui hd3 (by omega)]) (e_ (e_ r_))))) (t0_ (t0_ (t0_ (nhg0 (g:=g) (v:=(⟨0,x34.1,nx x34.1,sz.toNat,⟨none,0,0⟩,0⟩:NV)) (n := .span x34.1 (nx x34.1) sz.toNat) ⟨rfl,rfl,rfl,rfl⟩ rfl rfl)))))
   ·
    rw [show x14.1=0 by omega]
    exact zsz (by omega)
   · exact ⟨h34.1,zq2 hd3 (by omega) fun _=>rfl⟩
  ·
   refine sR<|oP (P_eql rfl rfl)<|oA rfl<|nT ?_
   first | (refine zav rfl (fun hg13 => ?_) (fun hg13 => ?_)) | (refine zaw rfl (fun hg13 => ?_) (fun hg13 => ?_)) | (refine za1 rfl (fun hg13 => ?_) (fun hg13 => ?_))
   ·
    refine sR<|oM rfl<|oM rfl<|oP (P_add rfl rfl (by first | omega | (rcases (show x108.1=1∨x108.1=2 by omega) with h9 | h9 <;> rw [h9] <;> omega)))<|oO<|zai ((zfx hA hL ⟨by omega,by omega⟩ (by omega))) rfl Tryz.call18 (Dels.cons del1 (dC_ del1)) rfl fun x57 h57=>oA rfl<|nT<|zag<|oM rfl<|oM rfl<|oP (P_sub rfl rfl (by first | omega | (rcases (show x108.1=1∨x108.1=2 by omega) with h9 | h9 <;> rw [h9] <;> omega)))<|oM rfl<|oM rfl<|oP (P_max rfl rfl)<|oO<|zai ((hrec _ _ _ ⟨by omega,by omega⟩ ⟨by omega,by omega⟩ (hnx.le (by decide)))) rfl Tryz.call7 (Dels.cons del0 (Dels.cons del0 (dC_ del2))) rfl fun x64 h64=>oM rfl<|oM rfl<|oP (P_sub rfl rfl (by first | omega | (rcases (show x108.1=1∨x108.1=2 by omega) with h9 | h9 <;> rw [h9] <;> omega)))<|oM rfl<|oM rfl<|oM rfl<|oP (P_sub rfl rfl (by first | omega | (rcases (show x108.1=1∨x108.1=2 by omega) with h9 | h9 <;> rw [h9] <;> omega)))<|oP (P_max rfl rfl)<|oO<|zai ((hrec _ _ _ ⟨by omega,by omega⟩ ⟨by omega,by omega⟩ ((hnx.nxt h64.2).le (by decide)))) rfl Tryz.call7 (Dels.cons del0 (Dels.cons del0 (dC_ del0))) rfl fun x73 h73=>oO<|za4 rfl (zem _ _ _ _ _ _ _ _ _ _ _ _ _ _ _ _) rfl fun b22=>zcg (Ent.trans r_ (zb5 (t:=zcr) (m:=2) [x64.1.1,x73.1.1] rfl rfl rfl (by decide))) ?_
    refine oP (zaa rfl ⟨_,_,_,Tryz.runUnderlying30,rfl,rfl,Tryz.sizeOf28,rfl⟩)<|oO<|za5 rfl rfl foc6 rfl rfl Tryz.sizeOf28<|za0<|zah<|zar<|sR<|oV (zbq rfl foc6 Tryz.isAgg30 Tryz.sizeOf30 rfl rfl)<|oO<|zbo rfl rfl foc7 Tryz.sizeOf30 rfl rfl rfl<|nT<|zaf<|zan (resA1 Tryz.results7 (zdp rfl foc7 Tryz.isAgg30 Tryz.sizeOf30 rfl rfl))<|CSpec.close (((⟨x14.1,0,0,0,⟨some ⟨b22,0,none⟩,2,2⟩,0⟩:NV),.cat x64.1.2 x73.1.2),x73.2) ?_ ?_ (Ent.trans (t1_ (t1_ (t1_ (t0_ (t1_ (t0_ (e_ (e_ r_)))))))) (t0_ (t0_ (t0_ (nhg2 (v:=(⟨x14.1,0,0,0,⟨some ⟨b22,0,none⟩,2,2⟩,0⟩:NV)) (n := .cat x64.1.2 x73.1.2) (show x14.1=1 by omega) rfl)))))
    · rfl
    · exact ⟨h73.1,zsx hK (by omega) ⟨by omega,by omega,by omega,by omega⟩ h64.2 h73.2⟩
   ·
    refine zab<|sR<|oP (P_eql rfl rfl)<|oA rfl<|nT ?_
    first | (refine zav rfl (fun hg14 => ?_) (fun hg14 => ?_)) | (refine zaw rfl (fun hg14 => ?_) (fun hg14 => ?_)) | (refine za1 rfl (fun hg14 => ?_) (fun hg14 => ?_))
    ·
     refine kT ?_
     first | (refine zav rfl (fun hg15 => ?_) (fun hg15 => ?_)) | (refine zaw rfl (fun hg15 => ?_) (fun hg15 => ?_)) | (refine za1 rfl (fun hg15 => ?_) (fun hg15 => ?_))
     ·
      refine sR<|oM rfl<|oO<|zai ((zil hA hL ⟨by omega,by omega⟩ (lo:=1) (hi:=3) (by omega))) rfl Tryz.call8 (Dels.cons del1 (dC_ del1)) rfl fun x80 h80=>oP (zaa rfl ⟨_,_,_,Tryz.runUnderlying30,rfl,rfl,Tryz.sizeOf3,rfl⟩)<|oO<|za5 rfl rfl foc2 rfl rfl Tryz.sizeOf3<|nT<|sR<|oM rfl<|oA rfl<|nT<|zab<|sR<|oP (zaa rfl ⟨_,_,_,Tryz.runUnderlying30,rfl,rfl,Tryz.sizeOf3,rfl⟩)<|oV (zac rfl foc2 rfl Tryz.isAgg3)<|oP (P_eql rfl rfl)<|nT<|za7 rfl wT_<|zag<|oM rfl<|oP (P_quo rfl rfl (by first | omega | (rcases (show x108.1=1∨x108.1=2 by omega) with h9 | h9 <;> rw [h9] <;> omega)))<|oP (zaa rfl ⟨_,_,_,Tryz.runUnderlying30,rfl,rfl,Tryz.sizeOf3,rfl⟩)<|oV (zac rfl foc2 rfl Tryz.isAgg3)<|oP (P_add rfl rfl (by first | omega | (rcases (show x108.1=1∨x108.1=2 by omega) with h9 | h9 <;> rw [h9] <;> omega)))<|oA rfl<|nT<|zag<|oM rfl<|oM rfl<|oP (P_sub rfl rfl (by first | omega | (rcases (show x108.1=1∨x108.1=2 by omega) with h9 | h9 <;> rw [h9] <;> omega)))<|oM rfl<|oM rfl<|oO<|zai ((hrec _ _ _ ⟨by omega,by omega⟩ ⟨by omega,by omega⟩ (hnx.le (by decide)))) rfl Tryz.call7 (Dels.cons del0 (Dels.cons del0 (dC_ del2))) rfl fun x96 h96=>oM rfl<|oM rfl<|oP (P_sub rfl rfl (by first | omega | (rcases (show x108.1=1∨x108.1=2 by omega) with h9 | h9 <;> rw [h9] <;> omega)))<|oM rfl<|oM rfl ?_
      refine oO<|zai ((hrec _ _ _ ⟨by omega,by omega⟩ ⟨by omega,by omega⟩ ((hnx.nxt h96.2).le (by decide)))) rfl Tryz.call7 (Dels.cons del0 (Dels.cons del0 (dC_ del0))) rfl fun x102 h102=>oO<|za4 rfl (zem _ _ _ _ _ _ _ _ _ _ _ _ _ _ _ _) rfl fun b28=>zcg (Ent.trans r_ (zb5 (t:=zcr) (m:=2) [x96.1.1,x102.1.1] rfl rfl rfl (by decide)))<|oP (zaa rfl ⟨_,_,_,Tryz.runUnderlying30,rfl,rfl,Tryz.sizeOf28,rfl⟩)<|oO<|za5 rfl rfl foc6 rfl rfl Tryz.sizeOf28<|za0<|zah<|zar<|sR<|oV (zbq rfl foc6 Tryz.isAgg30 Tryz.sizeOf30 rfl rfl)<|oO<|zbo rfl rfl foc7 Tryz.sizeOf30 rfl rfl rfl<|nT<|zaf<|zan (resA1 Tryz.results7 (zdp rfl foc7 Tryz.isAgg30 Tryz.sizeOf30 rfl rfl))<|CSpec.close (((⟨x14.1,0,0,0,⟨some ⟨b28,0,none⟩,2,2⟩,x80.1⟩:NV),.str x80.1 x96.1.2 x102.1.2),x102.2) ?_ ?_ (Ent.trans (t1_ (t1_ (t1_ (t0_ (t1_ (t0_ (e_ (e_ r_)))))))) (t0_ (t0_ (t0_ (nhg2 (v:=(⟨x14.1,0,0,0,⟨some ⟨b28,0,none⟩,2,2⟩,x80.1⟩:NV)) (n := .str x80.1 x96.1.2 x102.1.2) ⟨show x14.1=2 by omega,rfl⟩ rfl)))))
      · rfl
      · exact ⟨h102.1,zzd hK (by omega) (by omega) rfl h96.2 h102.2⟩
     ·
      refine sR<|oP (P_eql rfl rfl)<|oA rfl<|nT<|zap rfl wF_<|sR<|oP (P_eql rfl rfl)<|oA rfl<|nT<|za7 rfl wT_<|sR<|oM rfl<|oO<|zai ((zfx hA hL ⟨by omega,by omega⟩ (by omega))) rfl Tryz.call18 (Dels.cons del1 (dC_ del1)) rfl fun x135 h135=>oM rfl<|oP (zaa rfl ⟨_,_,_,Tryz.runUnderlying30,rfl,rfl,Tryz.sizeOf3,rfl⟩)<|oO<|za5 rfl rfl foc2 rfl rfl Tryz.sizeOf3<|oP (zaa rfl ⟨_,_,_,Tryz.runUnderlying30,rfl,rfl,Tryz.sizeOf3,rfl⟩)<|oO<|za5 rfl rfl foc2 rfl rfl Tryz.sizeOf3<|nT<|zkh [blk b3 30 [.int .i64 (x14.1:Int),.int .i64 0,.int .i64 (x135.1:Int),.int .i64 sz,.slice none 0 0,.int .i64 0]] 22528 kR_ rfl<|aN 0 1 rfl rfl (zae rfl)<|aN 1 3 rfl rfl (zae rfl)<|aN 2 7 rfl rfl (P_sub rfl rfl (by first | omega | (rcases (show x108.1=1∨x108.1=2 by omega) with h9 | h9 <;> rw [h9] <;> omega)))<|aN 3 15 rfl rfl (zae rfl)<|aN 4 31 rfl rfl (zae rfl)<|aN 5 63 rfl rfl (zaa rfl ⟨_,_,_,Tryz.runUnderlying30,rfl,rfl,Tryz.sizeOf3,rfl⟩)<|aW 6 127 rfl rfl (t2_ (e_ (e_ (e_ (e_ (fun _ _=>trivial)))))) (zac rfl foc0 rfl Tryz.isAgg3)<|aN 7 255 rfl rfl (P_add rfl rfl (by first | omega | (rcases (show x108.1=1∨x108.1=2 by omega) with h9 | h9 <;> rw [h9] <;> omega)))<|aN 8 511 rfl rfl (zae rfl) ?_
      refine AJ_op 9 1023 rfl kR_ rfl (zal rfl)<|zai ((zfx hA hL ⟨by omega,by omega⟩ (by omega))) rfl Tryz.call18 (Dels.cons del0 (dC_ del0)) rfl fun x148 h148=>⟨fun _=>(t2_ (e_ (e_ (e_ (e_ (fun _ _=>trivial)))))),?_⟩
      refine aN 10 2047 rfl rfl (P_add rfl rfl (by first | omega | (rcases (show x108.1=1∨x108.1=2 by omega) with h9 | h9 <;> rw [h9] <;> omega)))<|AJ_op 11 4095 rfl kR_ rfl (zal rfl)<|zai ((hrec _ _ _ ⟨by omega,by omega⟩ ⟨by omega,by omega⟩ (hnx.le (by decide)))) rfl Tryz.call7 (Dels.cons del0 (Dels.cons del0 (dC_ del2))) rfl fun x150 h150=>⟨fun h=>absurd h (by decide),?_⟩
      refine AJ_op 12 8191 rfl kR_ rfl (zal rfl)<|za4 rfl (zg9 _ _ _ _ _ _ _ _) rfl fun b33=>⟨fun h=>absurd h (by decide),?_⟩
      refine aN 13 16383 rfl rfl (zaa rfl ⟨_,_,_,Tryz.runUnderlying30,rfl,rfl,Tryz.sizeOf28,rfl⟩)<|AJ_op 14 32767 rfl kR_ rfl (zal rfl)<|za5 rfl rfl foc5 rfl rfl Tryz.sizeOf28<|⟨fun h=>absurd h (by decide),?_⟩
      refine zcf kR_<|zah<|zar<|zab<|zbs (Ent.trans r_ (zb5 (t:=zcr) (m:=1) [x150.1.1] rfl rfl rfl (by decide)))<|zag<|oV (zbq rfl foc5 Tryz.isAgg30 Tryz.sizeOf30 rfl rfl)<|oO<|zbo rfl rfl foc6 Tryz.sizeOf30 rfl rfl rfl<|nT<|zaf<|zan (resA1 Tryz.results7 (zdp rfl foc6 Tryz.isAgg30 Tryz.sizeOf30 rfl rfl))<|CSpec.close (((⟨x14.1,0,x135.1,sz.toNat,⟨some ⟨b33,0,none⟩,1,1⟩,0⟩:NV),.win x135.1 sz.toNat x150.1.2),x150.2) ?_ ?_ (Ent.trans (t1_ (t1_ (t1_ (t0_ (t0_ (e_ (e_ r_))))))) (t0_ (t0_ (t0_ (nhg1 (v:=(⟨x14.1,0,x135.1,sz.toNat,⟨some ⟨b33,0,none⟩,1,1⟩,0⟩:NV)) (n := .win x135.1 sz.toNat x150.1.2) ⟨show x14.1=5 by omega,rfl,rfl⟩ rfl)))))
      · exact zuj (k:=x14.1) (st:=x135.1) (c:=0) (pv:=⟨some ⟨b33,0,none⟩,1,1⟩) (sz:=sz) (by omega)
      · exact ⟨h150.1,zsy (by omega) (by omega) h150.2⟩
    ·
     refine zag<|oP (P_eql rfl rfl)<|oA rfl<|nT ?_
     first | (refine zav rfl (fun hg19 => ?_) (fun hg19 => ?_)) | (refine zaw rfl (fun hg19 => ?_) (fun hg19 => ?_)) | (refine za1 rfl (fun hg19 => ?_) (fun hg19 => ?_))
     ·
      refine sR<|oM rfl<|oO<|zai ((zil hA hL ⟨by omega,by omega⟩ (lo:=1) (hi:=3) (by omega))) rfl Tryz.call8 (Dels.cons del1 (dC_ del1)) rfl fun x80 h80=>oP (zaa rfl ⟨_,_,_,Tryz.runUnderlying30,rfl,rfl,Tryz.sizeOf3,rfl⟩)<|oO<|za5 rfl rfl foc2 rfl rfl Tryz.sizeOf3<|nT<|sR<|oM rfl<|oA rfl<|nT<|zab<|sR<|oP (zaa rfl ⟨_,_,_,Tryz.runUnderlying30,rfl,rfl,Tryz.sizeOf3,rfl⟩)<|oV (zac rfl foc2 rfl Tryz.isAgg3)<|oP (P_eql rfl rfl)<|nT<|zap rfl wF_<|kT<|zag<|oM rfl<|oM rfl<|oP (P_sub rfl rfl (by first | omega | (rcases (show x108.1=1∨x108.1=2 by omega) with h9 | h9 <;> rw [h9] <;> omega)))<|oM rfl<|oM rfl<|oO<|zai ((hrec _ _ _ ⟨by omega,by omega⟩ ⟨by omega,by omega⟩ (hnx.le (by decide)))) rfl Tryz.call7 (Dels.cons del0 (Dels.cons del0 (dC_ del2))) rfl fun x96 h96=>oM rfl<|oM rfl<|oP (P_sub rfl rfl (by first | omega | (rcases (show x108.1=1∨x108.1=2 by omega) with h9 | h9 <;> rw [h9] <;> omega)))<|oM rfl<|oM rfl<|oO<|zai ((hrec _ _ _ ⟨by omega,by omega⟩ ⟨by omega,by omega⟩ ((hnx.nxt h96.2).le (by decide)))) rfl Tryz.call7 (Dels.cons del0 (Dels.cons del0 (dC_ del0))) rfl fun x102 h102=>oO<|za4 rfl (zem _ _ _ _ _ _ _ _ _ _ _ _ _ _ _ _) rfl fun b39=>zcg (Ent.trans r_ (zb5 (t:=zcr) (m:=2) [x96.1.1,x102.1.1] rfl rfl rfl (by decide))) ?_
      refine oP (zaa rfl ⟨_,_,_,Tryz.runUnderlying30,rfl,rfl,Tryz.sizeOf28,rfl⟩)<|oO<|za5 rfl rfl foc6 rfl rfl Tryz.sizeOf28<|za0<|zah<|zar<|sR<|oV (zbq rfl foc6 Tryz.isAgg30 Tryz.sizeOf30 rfl rfl)<|oO<|zbo rfl rfl foc7 Tryz.sizeOf30 rfl rfl rfl<|nT<|zaf<|zan (resA1 Tryz.results7 (zdp rfl foc7 Tryz.isAgg30 Tryz.sizeOf30 rfl rfl))<|CSpec.close (((⟨x14.1,0,0,0,⟨some ⟨b39,0,none⟩,2,2⟩,x80.1⟩:NV),.mir x96.1.2 x102.1.2),x102.2) ?_ ?_ (Ent.trans (t1_ (t1_ (t1_ (t0_ (t1_ (t0_ (e_ (e_ r_)))))))) (t0_ (t0_ (t0_ (nhg2 (v:=(⟨x14.1,0,0,0,⟨some ⟨b39,0,none⟩,2,2⟩,x80.1⟩:NV)) (n := .mir x96.1.2 x102.1.2) ⟨show x14.1=3 by omega,show 1≤x80.1 by omega,show x80.1≤3 by omega⟩ rfl)))))
      · rfl
      · exact ⟨h102.1,zze hK (by omega) h96.2 h102.2⟩
     ·
      refine sR<|oP (P_eql rfl rfl)<|oA rfl<|nT<|zap rfl wF_<|sR<|oP (P_eql rfl rfl)<|oA rfl<|nT<|za7 rfl wT_<|sR<|oM rfl<|oO<|zai ((zfx hA hL ⟨by omega,by omega⟩ (by omega))) rfl Tryz.call18 (Dels.cons del1 (dC_ del1)) rfl fun x135 h135=>oM rfl<|oP (zaa rfl ⟨_,_,_,Tryz.runUnderlying30,rfl,rfl,Tryz.sizeOf3,rfl⟩)<|oO<|za5 rfl rfl foc2 rfl rfl Tryz.sizeOf3<|oP (zaa rfl ⟨_,_,_,Tryz.runUnderlying30,rfl,rfl,Tryz.sizeOf3,rfl⟩)<|oO<|za5 rfl rfl foc2 rfl rfl Tryz.sizeOf3<|nT<|zkh [blk b3 30 [.int .i64 (x14.1:Int),.int .i64 0,.int .i64 (x135.1:Int),.int .i64 sz,.slice none 0 0,.int .i64 0]] 22528 kR_ rfl<|aN 0 1 rfl rfl (zae rfl)<|aN 1 3 rfl rfl (zae rfl)<|aN 2 7 rfl rfl (P_sub rfl rfl (by first | omega | (rcases (show x108.1=1∨x108.1=2 by omega) with h9 | h9 <;> rw [h9] <;> omega)))<|aN 3 15 rfl rfl (zae rfl)<|aN 4 31 rfl rfl (zae rfl)<|aN 5 63 rfl rfl (zaa rfl ⟨_,_,_,Tryz.runUnderlying30,rfl,rfl,Tryz.sizeOf3,rfl⟩)<|aW 6 127 rfl rfl (t2_ (e_ (e_ (e_ (e_ (fun _ _=>trivial)))))) (zac rfl foc0 rfl Tryz.isAgg3)<|aN 7 255 rfl rfl (P_add rfl rfl (by first | omega | (rcases (show x108.1=1∨x108.1=2 by omega) with h9 | h9 <;> rw [h9] <;> omega)))<|aN 8 511 rfl rfl (zae rfl) ?_
      refine AJ_op 9 1023 rfl kR_ rfl (zal rfl)<|zai ((zfx hA hL ⟨by omega,by omega⟩ (by omega))) rfl Tryz.call18 (Dels.cons del0 (dC_ del0)) rfl fun x148 h148=>⟨fun _=>(t2_ (e_ (e_ (e_ (e_ (fun _ _=>trivial)))))),?_⟩
      refine aN 10 2047 rfl rfl (P_add rfl rfl (by first | omega | (rcases (show x108.1=1∨x108.1=2 by omega) with h9 | h9 <;> rw [h9] <;> omega)))<|AJ_op 11 4095 rfl kR_ rfl (zal rfl)<|zai ((hrec _ _ _ ⟨by omega,by omega⟩ ⟨by omega,by omega⟩ (hnx.le (by decide)))) rfl Tryz.call7 (Dels.cons del0 (Dels.cons del0 (dC_ del2))) rfl fun x150 h150=>⟨fun h=>absurd h (by decide),?_⟩
      refine AJ_op 12 8191 rfl kR_ rfl (zal rfl)<|za4 rfl (zg9 _ _ _ _ _ _ _ _) rfl fun b44=>⟨fun h=>absurd h (by decide),?_⟩
      refine aN 13 16383 rfl rfl (zaa rfl ⟨_,_,_,Tryz.runUnderlying30,rfl,rfl,Tryz.sizeOf28,rfl⟩)<|AJ_op 14 32767 rfl kR_ rfl (zal rfl)<|za5 rfl rfl foc5 rfl rfl Tryz.sizeOf28<|⟨fun h=>absurd h (by decide),?_⟩
      refine zcf kR_<|zah<|zar<|zab<|zbs (Ent.trans r_ (zb5 (t:=zcr) (m:=1) [x150.1.1] rfl rfl rfl (by decide)))<|zag<|oV (zbq rfl foc5 Tryz.isAgg30 Tryz.sizeOf30 rfl rfl)<|oO<|zbo rfl rfl foc6 Tryz.sizeOf30 rfl rfl rfl<|nT<|zaf<|zan (resA1 Tryz.results7 (zdp rfl foc6 Tryz.isAgg30 Tryz.sizeOf30 rfl rfl))<|CSpec.close (((⟨x14.1,0,x135.1,sz.toNat,⟨some ⟨b44,0,none⟩,1,1⟩,0⟩:NV),.win x135.1 sz.toNat x150.1.2),x150.2) ?_ ?_ (Ent.trans (t1_ (t1_ (t1_ (t0_ (t0_ (e_ (e_ r_))))))) (t0_ (t0_ (t0_ (nhg1 (v:=(⟨x14.1,0,x135.1,sz.toNat,⟨some ⟨b44,0,none⟩,1,1⟩,0⟩:NV)) (n := .win x135.1 sz.toNat x150.1.2) ⟨show x14.1=5 by omega,rfl,rfl⟩ rfl)))))
      · exact zuj (k:=x14.1) (st:=x135.1) (c:=0) (pv:=⟨some ⟨b44,0,none⟩,1,1⟩) (sz:=sz) (by omega)
      · exact ⟨h150.1,zsy (by omega) (by omega) h150.2⟩
end Go.Proofs
namespace Go.Proofs.Ts
open Go.VG
theorem z1s {W:World} {sb:Nat} {a:Int} {v:Value} {L:List Int} {A:HP} (hA:Reads A tyI v L) (hL:L.length≤1000) (ha:0≤a∧a≤1000) {nv:Sl3} {nx:Nat→Nat} {sz:Int} (hs:1≤sz∧sz≤8) (hnx:∀ d,d < 3→nx d≤1000) :
    CSpec Tryz.prog W 7 [ptr sb 0,.int .i64 2,nv.v,.int .i64 sz] [blk sb 67 [v,.int .i64 a],A,sl tyI nv.v (nxL nx)] (fun x:(NV × Nd) × Int × (Nat→Nat)=>x.1.1.val) (fun x=>(0≤x.2.1∧x.2.1≤1000)∧PlanOk 2 sz nx x.2.2 x.1.2) (fun x F=>blk sb 67 [v,.int .i64 x.2.1]::A::sl tyI nv.v (nxL x.2.2)::NH 2 x.1.1 x.1.2::F) :=
  zs0 hA hL ha (K:=1) (D:=2) (g:=NH 1) (by decide) (by decide) hs (fun d hd=>by have := hnx d hd; show nx d + 3 * 78≤10000; omega)
    fun sz a nx h1 h2 h3=>zs0 hA hL h2 (K:=0) (D:=1) (g:=NH 0) (by decide) (by decide) h1 (fun d hd=>by have := h3 d hd; have h9:nx d + 1 * 78≤10000 := this; show nx d + 3 * 26≤10000; omega)
      fun sz a nx h1 h2 h3=>zzi hA hL h2 h1 h3
end Go.Proofs.Ts
set_option linter.unusedSimpArgs false
set_option maxRecDepth 20000
namespace Go.Proofs
open Go.VG
theorem ze7 (v0:Int):zbg Tryz.prog 44 1 [(0,.int .u64 v0)] 47 [.int .u64 v0] := fun w=>by kernel_rfl
theorem zo9:∀ w,(Instr.build 154 (#[]:Array (Nat × Value))).run Tryz.prog w = .ok (.agg #[.slice none 0 0]) w := fun w=>by kernel_rfl
theorem zk0 (v0:(Option Addr)) (v1:Nat) (v2:Nat) (v3:Bool) (v4:Int):∀ w,(Instr.build 156 (#[(0,.slice v0 v1 v2),(1,.bool v3),(2,.int .u64 v4)]:Array (Nat × Value))).run Tryz.prog w = .ok (.agg #[.slice v0 v1 v2,.bool v3,.int .u64 v4]) w := fun w=>by kernel_rfl
theorem zm6 (v0:(Option Addr)) (v1:Nat) (v2:Nat) (v3:Bool) (v4:Int):zbg Tryz.prog 152 1 [(0,.agg #[.slice v0 v1 v2,.bool v3,.int .u64 v4])] 156 [.slice v0 v1 v2,.bool v3,.int .u64 v4] := fun w=>by kernel_rfl
structure SecH where
  some:Sl3
  known:Bool
  value:UInt64
structure Sec where
  some:List UInt64
  known:Bool
  value:UInt64
abbrev sH0:SecH := ⟨⟨none,0,0⟩,false,0⟩
abbrev s0:Sec := ⟨[],false,0⟩
abbrev tySec:Ty SecH := { T := 156,sz := 3,enc := fun x=>[x.some.v,.bool x.known,.int .u64 (x.value.toNat:Int)],dflt := sH0,len := fun _=>rfl,one := fun _=>rfl,pos := by decide }
theorem zzj:ElemOk Tryz.prog tySec 40 := ⟨Tryz.t156,.agg #[.slice none 0 0,.bool false,.int .u64 0],by kernel_rfl,rfl,rfl,rfl,rfl⟩
abbrev SL := List (SecH × Sec)
def ownS (p:SecH × Sec):HP := sl tyU p.1.some.v p.2.some
abbrev SL.hs (l:SL):List SecH := l.map Prod.fst
structure SOk (l:SL) (t:List Sec):Prop where
  ds:l.map Prod.snd=t
  ag:∀ p ∈ l,p.1.known=p.2.known∧p.1.value=p.2.value
  cnt:t.length≤65536
theorem SOk.len {l:SL} {t:List Sec} (h:SOk l t):(SL.hs l).length=t.length := by rw [← h.ds]; simp
theorem SOk.at {l:SL} {t:List Sec} (h:SOk l t) {i:Nat} (hi:i < t.length):((SL.hs l).getD i sH0).known=(t.getD i s0).known∧((SL.hs l).getD i sH0).value=(t.getD i s0).value := by
  have hi':i < l.length := by rw [← h.ds] at hi; simpa using hi
  rw [← h.ds]
  show ((l.map Prod.fst).getD i (Prod.fst (sH0,s0))).known=((l.map Prod.snd).getD i (Prod.snd (sH0,s0))).known∧((l.map Prod.fst).getD i (Prod.fst (sH0,s0))).value=((l.map Prod.snd).getD i (Prod.snd (sH0,s0))).value
  rw [zhn,zhn]
  have:l.getD i (sH0,s0)=l[i] := by simp [List.getD,hi']
  rw [this]
  exact h.ag _ (List.getElem_mem hi')
theorem SOk.set {l:SL} {t:List Sec} (h:SOk l t) (i:Nat) (x:SecH × Sec) (hx:x.1.known=x.2.known∧x.1.value=x.2.value):SOk (l.set i x) (t.set i x.2) where
  ds := by rw [List.map_set,h.ds]
  ag := fun p hp=>by
    rcases List.mem_or_eq_of_mem_set hp with hp | rfl
    · exact h.ag p hp
    · exact hx
  cnt := by simpa using h.cnt
def Trk (b:Nat) (t:List Sec):HP := ex fun c:Sl3 × SL=>star [pur (SOk c.2 t),blk b 154 [c.1.v],sl tySec c.1.v (SL.hs c.2),VG.Own ownS c.2]
theorem zht {b:Nat} {t:List Sec} {R:List HP} : EntX (Trk b t::R) fun c:Sl3 × SL=>pur (SOk c.2 t)::blk b 154 [c.1.v]::sl tySec c.1.v (SL.hs c.2)::VG.Own ownS c.2::R :=
  fun _ hh=>let ⟨c,hc⟩ := stars_ex.1 hh; ⟨c,stars_star.1 hc⟩
theorem zc6 {b:Nat} {t:List Sec} {sv:Sl3} {l:SL} (h:SOk l t) {R:List HP} : Ent (blk b 154 [sv.v]::sl tySec sv.v (SL.hs l)::VG.Own ownS l::R) (Trk b t::R) :=
  fun _ hh=>stars_ex.2 ⟨(sv,l),stars_star.2 (stars_pur.2 ⟨h,hh⟩)⟩
theorem zmc {l:SL} {t:List Sec} (h:SOk l t) (i:Nat) (hi:i < t.length) {R:List HP} : Ent (VG.Own ownS l::R) (sl tyU ((SL.hs l).getD i sH0).some.v (t.getD i s0).some::ORest ownS l i::R) := by
  have hi':i < l.length := by rw [← h.ds] at hi; simpa using hi
  have := zxo ownS (R:=R) i (sH0,s0) hi'
  rw [← h.ds]
  show Ent _ (sl tyU ((l.map Prod.fst).getD i (Prod.fst (sH0,s0))).some.v ((l.map Prod.snd).getD i (Prod.snd (sH0,s0))).some::_)
  rw [zhn,zhn]; exact this
def upto {α:Type} (g:α→α) (n:Nat) (D:List α):List α := (D.take n).map g ++ D.drop n
theorem zq3 {α:Type} (g:α→α) (D:List α):upto g 0 D=D := by simp [upto]
theorem zs1 {α:Type} (g:α→α) (D:List α):upto g D.length D=D.map g := by simp [upto]
theorem zoc {α:Type} (g:α→α) (n:Nat) (D:List α):(upto g n D).length=D.length := by simp [upto]; omega
theorem zmy {α:Type} {g:α→α} {n:Nat} {D:List α} {d:α} (hn:n < D.length):(upto g n D).getD n d=D.getD n d := by
  have:((D.take n).map g).length=n := by simp; omega
  simp only [upto,List.getD]
  rw [List.getElem?_append_right (by omega),this]; simp
theorem zmd {α:Type} {g:α→α} {n:Nat} {D:List α} {d:α} (hn:n < D.length):(upto g n D).set n (g (D.getD n d))=upto g (n + 1) D := by
  have h1:((D.take n).map g).length=n := by simp; omega
  simp only [upto]
  rw [List.set_append,if_neg (by omega),h1,Nat.sub_self,List.drop_eq_getElem_cons hn,List.set_cons_zero,List.take_succ_eq_append_getElem hn,List.map_append,List.append_assoc,show D.getD n d=D[n] by simp [List.getD,hn]]
  rfl
theorem zzk {l:SL} {t:List Sec} (h:SOk l t) {i:Nat} {x:SecH × Sec} (h1:x.1.some=((SL.hs l).getD i sH0).some) (h2:x.2.some=(t.getD i s0).some):VG.Own ownS (l.set i x)=VG.Own ownS l := by
  unfold VG.Own
  have e:(l.set i x).map ownS=l.map ownS := by
    apply List.ext_getElem?
    intro j
    simp only [List.getElem?_map,List.getElem?_set]
    by_cases h3:i=j
    · subst h3
      by_cases h4:i < l.length
      · rw [← h.ds] at h2
        have a1:((l.map Prod.fst).getD i (Prod.fst (sH0,s0)))=(l.getD i (sH0,s0)).1 := zhn Prod.fst l i (sH0,s0)
        have a2:((l.map Prod.snd).getD i (Prod.snd (sH0,s0)))=(l.getD i (sH0,s0)).2 := zhn Prod.snd l i (sH0,s0)
        have a3:l.getD i (sH0,s0)=l[i] := by simp [List.getD,h4]
        have b1:x.1.some=l[i].1.some := h1.trans (by rw [← a3, ← a1])
        have b2:x.2.some=l[i].2.some := h2.trans (by rw [← a3, ← a2])
        simp [h4,ownS,b1,b2]
      · simp [h4]
    · simp [h3]
  rw [e]
def failX (x:Sec):Sec := { x with known := false }
def zdm (x:Sec):Sec := if x.known=true then { x with some := [x.value] } else x
def zgh (t:List Sec) (d:Int) (v:UInt64) (ok:Bool):List Sec := if 0≤d∧d < t.length then t.set d.toNat ⟨(t.getD d.toNat s0).some ++ [v],ok,v⟩ else t
def zgn (t:List Sec):List Sec := t.map zdm
def zhu (t:List Sec):List Sec := t.map failX
theorem set3 {l:List SecH} {i:Nat} {A B C:SecH} : ((l.set i A).set i B).set i C=l.set i C := by simp [List.set_set]
theorem zjj {l:List SecH} {i:Nat} (hi:i < l.length) {A:SecH} : (l.set i A).getD i sH0=A := by simp [List.getD,hi]
theorem zme {t:List Sec} {i:Nat} {v:UInt64} {ok:Bool} (hi:i < t.length):zgh t i v ok=t.set i ⟨(t.getD i s0).some ++ [v],ok,v⟩ := if_pos ⟨Int.natCast_nonneg _,by omega⟩
theorem zq4 {t:List Sec} {d:Int} {v:UInt64} {ok:Bool} (h:¬ (0≤d∧d < t.length)):zgh t d v ok=t := if_neg h
theorem zw5 {α:Type} {g:α→α} {n:Nat} {D:List α} {d:α} (hn:n < D.length) (h:g (D.getD n d)=D.getD n d):upto g n D=upto g (n + 1) D := by
  rw [← zmd (d:=d) hn,h, ← zmy (g:=g) (n:=n) (D:=D) (d:=d) hn]
  have hl := zoc g n D
  apply List.ext_getElem?
  intro j
  simp only [List.getElem?_set]
  split
  · rename_i h1; subst h1
    have:n < (upto g n D).length := by omega
    rw [if_pos this,List.getElem?_eq_getElem this]; simp [List.getD,this]
  · rfl
theorem zs2 {x:Sec} (h:x.known=true):zdm x = { x with some := [x.value] } := if_pos h
theorem zzl {x:Sec} (h:x.known=false):zdm x=x := if_neg (by simp [h])
def rdTS (t:List Sec) (d:Int) (v:UInt64) (q:Bool):List Sec := if 0≤d∧d < t.length then (if (t.getD d.toNat s0).known=true then t else t.set d.toNat ⟨if q=true then [v] else (t.getD d.toNat s0).some,true,v⟩) else t
def rdTR (t:List Sec) (d:Int) (v:UInt64):Bool := if 0≤d∧d < t.length then (if (t.getD d.toNat s0).known=true then decide (v=(t.getD d.toNat s0).value) else (t.getD d.toNat s0).some.any (fun u=>decide (u=v))) else false
theorem zs3 {xs:List UInt64} {k:Nat} {v:UInt64} (hk:k < xs.length):(xs.take (k + 1)).any (fun u=>decide (u=v))=((xs.take k).any (fun u=>decide (u=v)) || decide (xs.getD k 0=v)) := by
  rw [List.take_succ_eq_append_getElem hk,List.any_append]; simp [List.getD,hk]
theorem decU {a b:UInt64} : decide ((a.toNat:Int)=(b.toNat:Int))=decide (a=b) := decide_eq_decide.2 ⟨fun h=>UInt64.toNat_inj.1 (by omega),fun h=>by rw [h]⟩
def mkSec (x:UInt64):Sec := ⟨[x],true,x⟩
def trkT (xs:List UInt64):List Sec := xs.map mkSec
theorem SL.snoc (l:SL) (x:SecH × Sec):SL.hs (l ++ [x])=SL.hs l ++ [x.1] := by simp [SL.hs]
theorem SOk.push {l:SL} {t:List Sec} (h:SOk l t) (x:SecH × Sec) (hx:x.1.known=x.2.known∧x.1.value=x.2.value) (hc:t.length + 1≤65536):SOk (l ++ [x]) (t ++ [x.2]) where
  ds := by rw [List.map_append,h.ds]; rfl
  ag := fun p hp=>by
    rcases List.mem_append.1 hp with hp | hp
    · exact h.ag p hp
    · simp at hp; subst hp; exact hx
  cnt := by simpa using hc
theorem takeU (xs:List UInt64) (k:Nat) (h:k < xs.length):trkT (xs.take (k + 1))=trkT (xs.take k) ++ [mkSec (xs.getD k 0)] := by
  rw [List.take_succ_eq_append_getElem h,trkT,trkT,List.map_append]; simp [List.getD,h]
theorem zzm {W:World} {b:Nat} {t:List Sec} :
    CSpec Tryz.prog W 59 [ptr b 0] [Trk b t] (fun _:Unit => .tuple #[]) (fun _=>True) (fun _ F=>Trk b (zhu t)::F) := by
 refine CSpec.of_body Tryz.func59 rfl Tryz.ntmps59 rfl fun F => ?_
 show CJ _ _ _ _ _ _ (_::F)
 refine zc7 (Ent.transX r_ zht) fun ⟨sv,l⟩=>zdk fun hX => ?_
 have hl:SOk l t := hX
 have hn := hl.len
 have hcn := hl.cnt
 show CJ _ _ _ _ _ _ (blk b 154 [Sl3.v sv]::sl tySec (Sl3.v sv) (SL.hs l)::VG.Own ownS l::_)
 refine sR<|oA rfl<|nT<|zao<|za8 (X:=Nat × SL) [2,3,4,5,6,7,8,9,10,11,12,13,14,15,16,17,18] (fun ⟨i,l1⟩  => ([(2,.int .i64 (i:Nat))]:Slots)) (fun ⟨i,l1⟩ R=>sl tySec (Sl3.v sv) (SL.hs l1)::VG.Own ownS l1::R) (fun ⟨i,l1⟩  => i≤t.length∧SOk l1 (upto failX i t)) (fun ⟨i,l1⟩  => t.length - i) ⟨0,l⟩ ?_ ?_ (t1_ (t1_ r_)) ?_
 ·
  refine ⟨Nat.zero_le _,?_⟩
  rw [zq3]; exact hl
 · exact ⟨rfl,True.intro⟩
 ·
  rintro ⟨i,l1⟩ ⟨hi,h1⟩
  show CJ _ _ _ _ _ (([(2,.int .i64 (i:Nat))]:Slots) ++ forget _ _) (sl tySec (Sl3.v sv) (SL.hs l1)::VG.Own ownS l1::_)
  have hn1 := h1.len
  have hul := zoc failX i t
  refine zab<|sR<|oM rfl<|oM rfl<|oP (zad rfl)<|oP (zaa rfl ⟨_,_,_,Tryz.runUnderlying154,rfl,rfl,Tryz.sizeOf152,rfl⟩)<|oV (zac rfl foc2 rfl Tryz.isAgg152)<|oV (V_len rfl foc0 (Reads.sl _ _ _) Tryz.runUnderlying152)<|oP (P_lss rfl rfl)<|nT ?_
  first | (refine zav rfl (fun hg1 => ?_) (fun hg1 => ?_)) | (refine zaw rfl (fun hg1 => ?_) (fun hg1 => ?_)) | (refine za1 rfl (fun hg1 => ?_) (fun hg1 => ?_))
  ·
   refine kT<|zab<|zao<|zag<|oM rfl<|oP (zad rfl)<|oP (zaa rfl ⟨_,_,_,Tryz.runUnderlying154,rfl,rfl,Tryz.sizeOf152,rfl⟩)<|oV (zac rfl foc2 rfl Tryz.isAgg152)<|oM rfl ?_
   first | (refine RJ_op rfl (OJ_V (zam rfl rfl rfl (by omega) foc0 (Reads.sl _ _ _) Tryz.runUnderlying152 Tryz.sizeOf156) rfl ?_)) | (refine RJ_op rfl (OJ_V (zam rfl rfl (Int.toNat_of_nonneg (by omega)).symm (by omega) foc0 (Reads.sl _ _ _) Tryz.runUnderlying152 Tryz.sizeOf156) rfl ?_))
   refine oP (zbl rfl ⟨_,_,_,Tryz.runUnderlying156,rfl,rfl,Tryz.sizeOf4,rfl⟩)<|oO<|zcb (x' := { (SL.hs l1).getD i sH0 with known := false }) rfl rfl rfl (by omega) foc0 rfl rfl rfl Tryz.sizeOf4<|za0<|zah<|zar<|zag<|oM rfl<|oP (P_add rfl rfl (by omega))<|oA rfl<|za0<|zba ⟨i + 1,l1.set i ({ (SL.hs l1).getD i sH0 with known := false },failX ((upto failX i t).getD i s0))⟩ (by first | omega | (simp only []; omega)) ?_ kP_ ?_ (Ent.takeC del0 (congrArg (sl tySec _) (by simp only [SL.hs,List.map_set])) (Ent.takeC del0 (zzk h1 rfl rfl).symm r_))
   ·
    refine ⟨by omega,?_⟩
    rw [← zmd (d:=s0) (by omega), ← zmy (g:=failX) (n:=i) (D:=t) (d:=s0) (by omega)]
    exact h1.set i ({ (SL.hs l1).getD i sH0 with known := false },failX ((upto failX i t).getD i s0)) ⟨rfl,(h1.at (by omega)).2⟩
   · exact ⟨rfl,True.intro⟩
  ·
   refine zbc<|zay<|zau<|zat<|zce (res0 Tryz.results59) ?_
   obtain rfl:i=t.length := by omega
   rw [zs1] at h1
   refine CSpec.close () ?_ ?_ (Ent.trans (Ent.trans (t2_ r_) (zc6 h1)) r_)
   · rfl
   · trivial
theorem zuk {W:World} {b:Nat} {t:List Sec} {d:Int} {v:UInt64} {o:Bool} (hs1:∀ i,(t.getD i s0).some.length≤100000) :
    CSpec Tryz.prog W 26 [ptr b 0,.int .i64 d,.int .u64 (v.toNat:Int),.bool o] [Trk b t] (fun _:Unit => .tuple #[]) (fun _=>True) (fun _ F=>Trk b (zgh t d v o)::F) := by
 refine CSpec.of_body Tryz.func26 rfl Tryz.ntmps26 rfl fun F => ?_
 show CJ _ _ _ _ _ _ (_::F)
 refine zc7 (Ent.transX r_ zht) fun ⟨sv,l⟩=>zdk fun hX => ?_
 have hl:SOk l t := hX
 have hn := hl.len
 have hcn := hl.cnt
 show CJ _ _ _ _ _ _ (blk b 154 [Sl3.v sv]::sl tySec (Sl3.v sv) (SL.hs l)::VG.Own ownS l::_)
 refine zab<|sR<|oM rfl<|oP (P_lss rfl rfl)<|oM rfl ?_
 first | (refine zbu 11 rfl (fun hg1B hg1 => ?_) (fun hg1B hg1 => ?_)) | (refine zbv 11 rfl (fun hg1B hg1 => ?_) (fun hg1B hg1 => ?_)) | (refine zb3 11 rfl (fun hg1B => ?_) (fun hg1B => ?_))
 ·
  refine g_ rfl rfl rfl hg1B rfl<|g_ rfl rfl rfl hg1B rfl<|g_ rfl rfl rfl hg1B rfl<|g_ rfl rfl rfl hg1B rfl<|g_ rfl rfl rfl hg1B rfl<|g_ rfl rfl rfl hg1B rfl<|g_ rfl rfl rfl hg1B rfl<|oP (zbe rfl hg1B rfl)<|nT<|za7 rfl rfl<|zaf<|zak<|zan (res0 Tryz.results26) ?_
  rw [zq4 (by omega)]
  refine CSpec.close () ?_ ?_ (Ent.trans (Ent.trans r_ (zc6 hl)) r_)
  · rfl
  · trivial
 ·
  refine p_ rfl rfl rfl hg1B (zae rfl)<|p_ rfl rfl rfl hg1B (zae rfl)<|p_ rfl rfl rfl hg1B (zad rfl)<|p_ rfl rfl rfl hg1B (zaa rfl ⟨_,_,_,Tryz.runUnderlying154,rfl,rfl,Tryz.sizeOf152,rfl⟩)<|v_ rfl rfl rfl hg1B (zac rfl foc0 rfl Tryz.isAgg152)<|v_ rfl rfl rfl hg1B (V_len rfl foc1 (Reads.sl _ _ _) Tryz.runUnderlying152)<|p_ rfl rfl rfl hg1B (P_geq rfl rfl)<|oP (za2 rfl hg1B rfl)<|nT ?_
  first | (refine zav rfl (fun hg2 => ?_) (fun hg2 => ?_)) | (refine zaw rfl (fun hg2 => ?_) (fun hg2 => ?_)) | (refine za1 rfl (fun hg2 => ?_) (fun hg2 => ?_))
  ·
   refine zaf<|zak<|zan (res0 Tryz.results26) ?_
   rw [zq4 (by omega)]
   refine CSpec.close () ?_ ?_ (Ent.trans (Ent.trans r_ (zc6 hl)) r_)
   · rfl
   · trivial
  ·
   obtain ⟨i,rfl⟩ := Int.eq_ofNat_of_zero_le (show 0≤d by omega)
   have hi:i < t.length := by omega
   have hil:i < (SL.hs l).length := by omega
   have hsi := hs1 i
   refine kT<|zab<|zbs (Ent.trans (t2_ r_) (zmc hl i (by omega)))<|zag<|oM rfl<|oP (zad rfl)<|oP (zaa rfl ⟨_,_,_,Tryz.runUnderlying154,rfl,rfl,Tryz.sizeOf152,rfl⟩)<|oV (zac rfl foc2 rfl Tryz.isAgg152)<|oM rfl ?_
   first | (refine RJ_op rfl (OJ_V (zam rfl rfl rfl (by first | omega | (simp only [List.length_set]; omega)) foc3 (Reads.sl _ _ _) Tryz.runUnderlying152 Tryz.sizeOf156) rfl ?_)) | (refine RJ_op rfl (OJ_V (zam rfl rfl (Int.toNat_of_nonneg (by first | omega | (simp only [List.length_set]; omega))).symm (by first | omega | (simp only [List.length_set]; omega)) foc3 (Reads.sl _ _ _) Tryz.runUnderlying152 Tryz.sizeOf156) rfl ?_))
   refine oA rfl<|nT<|sR<|oM rfl<|oM rfl<|oP (zco rfl)<|oP (zbl rfl ⟨_,_,_,Tryz.runUnderlying156,rfl,rfl,Tryz.sizeOf44,rfl⟩)<|oV (za6 rfl rfl (by first | omega | (simp only [List.length_set]; omega)) foc3 (Reads.sl _ _ _) rfl rfl Tryz.isAgg44)<|zcg (fun h hh=>zch (t:=tyU) h hh)<|oO<|zb1 (t:=tyU) (bytes:=8) rfl rfl del0 foc0 (Reads.sl _ _ _) Tryz.underlying44 zjw (by simp only [List.length_append,List.length_cons,List.length_nil,maxLen] at *; omega) (by simp only [List.length_append,List.length_cons,List.length_nil,maxLen] at *; omega) rfl fun p3 c4=>oM rfl<|oO<|za4 rfl (ze7 _) rfl fun b5=>oO<|zb1 (t:=tyU) (bytes:=8) rfl rfl del1 foc0 (Reads.lit (t:=tyU) (ys:=[v]) rfl rfl (by decide) (by decide) rfl) Tryz.underlying44 zjw (by simp only [List.length_append,List.length_cons,List.length_nil,maxLen] at *; omega) (by simp only [List.length_append,List.length_cons,List.length_nil,maxLen] at *; omega) rfl fun p6 c7=>oP (zco rfl)<|oP (zbl rfl ⟨_,_,_,Tryz.runUnderlying156,rfl,rfl,Tryz.sizeOf44,rfl⟩)<|oO<|zcb (x' := ⟨⟨p6,_,c7⟩,((SL.hs l).getD i sH0).known,((SL.hs l).getD i sH0).value⟩) rfl rfl rfl (by first | omega | (simp only [List.length_set]; omega)) foc5 rfl rfl rfl Tryz.sizeOf44<|nT<|zag<|oM rfl<|oM rfl<|oM rfl<|oM rfl<|oP (zco rfl) ?_
   refine oP (zbl rfl ⟨_,_,_,Tryz.runUnderlying156,rfl,rfl,Tryz.sizeOf4,rfl⟩)<|oO<|zcb (x' := ⟨⟨p6,_,c7⟩,o,((SL.hs l).getD i sH0).value⟩) rfl rfl rfl (by first | omega | (simp only [List.length_set]; omega)) foc5 rfl rfl (by rw [show List.getD _ _ tySec.dflt=_ from zjj hil]; rfl) Tryz.sizeOf4<|oP (zco rfl)<|oP (zbl rfl ⟨_,_,_,Tryz.runUnderlying156,rfl,rfl,Tryz.sizeOf47,rfl⟩)<|oO<|zcb (x' := ⟨⟨p6,_,c7⟩,o,v⟩) rfl rfl rfl (by first | omega | (simp only [List.length_set]; omega)) foc5 rfl rfl (by rw [show List.getD _ _ tySec.dflt=_ from zjj (by simpa using hil)]; rfl) Tryz.sizeOf47<|za0<|zce (res0 Tryz.results26) ?_
   rw [zme (by omega)]
   refine CSpec.close () ?_ ?_ (Ent.trans (Ent.trans (Ent.takeC del0 (show _=ownS ((⟨⟨p6,_,c7⟩,o,v⟩:SecH),(⟨(t.getD i s0).some ++ [v],o,v⟩:Sec)) from rfl) (t2_ r_)) (zjc ownS ((⟨⟨p6,_,c7⟩,o,v⟩:SecH),(⟨(t.getD i s0).some ++ [v],o,v⟩:Sec)) (by have := hl.len; simp at this; omega))) (Ent.trans (Ent.trans (t3_ (Ent.takeC del3 (congrArg (sl tySec _) (by rw [set3]; simp only [SL.hs,List.map_set])) r_)) (zc6 (hl.set i ((⟨⟨p6,_,c7⟩,o,v⟩:SecH),(⟨(t.getD i s0).some ++ [v],o,v⟩:Sec)) ⟨rfl,rfl⟩))) (t0_ (e_ (e_ r_)))))
   · rfl
   · trivial
theorem zw6 {W:World} {b:Nat} {t:List Sec} :
    CSpec Tryz.prog W 28 [ptr b 0] [Trk b t] (fun _:Unit => .tuple #[]) (fun _=>True) (fun _ F=>Trk b (zgn t)::F) := by
 refine CSpec.of_body Tryz.func28 rfl Tryz.ntmps28 rfl fun F => ?_
 show CJ _ _ _ _ _ _ (_::F)
 refine zc7 (Ent.transX r_ zht) fun ⟨sv,l⟩=>zdk fun hX => ?_
 have hl:SOk l t := hX
 have hn := hl.len
 have hcn := hl.cnt
 show CJ _ _ _ _ _ _ (blk b 154 [Sl3.v sv]::sl tySec (Sl3.v sv) (SL.hs l)::VG.Own ownS l::_)
 refine sR<|oA rfl<|nT<|zao<|za8 (X:=Nat × SL) [2,3,4,5,6,7,8,9,10,11,12,13,14,15,16,17,18,19,20,21,22,23,24,25,26,27,28,29,30] (fun ⟨i,l1⟩  => ([(2,.int .i64 (i:Nat))]:Slots)) (fun ⟨i,l1⟩ R=>sl tySec (Sl3.v sv) (SL.hs l1)::VG.Own ownS l1::R) (fun ⟨i,l1⟩  => i≤t.length∧SOk l1 (upto zdm i t)) (fun ⟨i,l1⟩  => t.length - i) ⟨0,l⟩ ?_ ?_ (t1_ (t1_ r_)) ?_
 ·
  refine ⟨Nat.zero_le _,?_⟩
  rw [zq3]; exact hl
 · exact ⟨rfl,True.intro⟩
 ·
  rintro ⟨i,l1⟩ ⟨hi,h1⟩
  show CJ _ _ _ _ _ (([(2,.int .i64 (i:Nat))]:Slots) ++ forget _ _) (sl tySec (Sl3.v sv) (SL.hs l1)::VG.Own ownS l1::_)
  have hn1 := h1.len
  have hul := zoc zdm i t
  refine zab<|sR<|oM rfl<|oM rfl<|oP (zad rfl)<|oP (zaa rfl ⟨_,_,_,Tryz.runUnderlying154,rfl,rfl,Tryz.sizeOf152,rfl⟩)<|oV (zac rfl foc2 rfl Tryz.isAgg152)<|oV (V_len rfl foc0 (Reads.sl _ _ _) Tryz.runUnderlying152)<|oP (P_lss rfl rfl)<|nT ?_
  first | (refine zav rfl (fun hg1 => ?_) (fun hg1 => ?_)) | (refine zaw rfl (fun hg1 => ?_) (fun hg1 => ?_)) | (refine za1 rfl (fun hg1 => ?_) (fun hg1 => ?_))
  ·
   refine kT<|zab<|zao<|sR<|oM rfl<|oP (zad rfl)<|oP (zaa rfl ⟨_,_,_,Tryz.runUnderlying154,rfl,rfl,Tryz.sizeOf152,rfl⟩)<|oV (zac rfl foc2 rfl Tryz.isAgg152)<|oM rfl ?_
   first | (refine RJ_op rfl (OJ_V (zam rfl rfl rfl (by omega) foc0 (Reads.sl _ _ _) Tryz.runUnderlying152 Tryz.sizeOf156) rfl ?_)) | (refine RJ_op rfl (OJ_V (zam rfl rfl (Int.toNat_of_nonneg (by omega)).symm (by omega) foc0 (Reads.sl _ _ _) Tryz.runUnderlying152 Tryz.sizeOf156) rfl ?_))
   refine oA rfl<|nT<|sR<|oM rfl<|oP (zco rfl)<|oP (zbl rfl ⟨_,_,_,Tryz.runUnderlying156,rfl,rfl,Tryz.sizeOf4,rfl⟩)<|oV (za6 rfl rfl (by omega) foc0 (Reads.sl _ _ _) rfl rfl Tryz.isAgg4)<|nT ?_
   first | (refine zav rfl (fun hg2 => ?_) (fun hg2 => ?_)) | (refine zaw rfl (fun hg2 => ?_) (fun hg2 => ?_)) | (refine za1 rfl (fun hg2 => ?_) (fun hg2 => ?_))
   ·
    have hkn:((upto zdm i t).getD i s0).known=true := by rw [← (h1.at (by omega)).1]; assumption
    refine zbs (Ent.trans (t1_ r_) (zmc h1 i (by omega)))<|zag<|oM rfl<|oM rfl<|oP (zco rfl)<|oP (zbl rfl ⟨_,_,_,Tryz.runUnderlying156,rfl,rfl,Tryz.sizeOf47,rfl⟩)<|oV (za6 rfl rfl (by omega) foc2 (Reads.sl _ _ _) rfl rfl Tryz.isAgg47)<|oO<|za4 rfl (ze7 _) rfl fun b1=>zcg (Ent.trans r_ (zb5 (t:=tyU) (m:=1) [((SL.hs l1).getD i sH0).value] rfl rfl rfl (by decide)))<|oP (zco rfl)<|oP (zbl rfl ⟨_,_,_,Tryz.runUnderlying156,rfl,rfl,Tryz.sizeOf44,rfl⟩)<|oO<|zcb (x' := { (SL.hs l1).getD i sH0 with some := ⟨some ⟨b1,0,none⟩,1,1⟩ }) rfl rfl rfl (by omega) foc3 rfl rfl rfl Tryz.sizeOf44<|za0<|zah<|zar<|zag<|oM rfl<|oP (P_add rfl rfl (by omega))<|oA rfl<|za0 ?_
    refine zba ⟨i + 1,l1.set i ({ (SL.hs l1).getD i sH0 with some := ⟨some ⟨b1,0,none⟩,1,1⟩ },zdm ((upto zdm i t).getD i s0))⟩ (by first | omega | (simp only []; omega)) ?_ kP_ ?_ (Ent.trans (Ent.trans (Ent.takeC del0 (show _=sl tyU _ _ by rw [zs2 hkn]; exact congrArg (fun z=>sl tyU _ [z]) (h1.at (by omega)).2) (t1_ r_)) (zjc ownS ({ (SL.hs l1).getD i sH0 with some := ⟨some ⟨b1,0,none⟩,1,1⟩ },zdm ((upto zdm i t).getD i s0)) (by have := h1.len; simp at this; omega))) (Ent.takeC del2 (congrArg (sl tySec _) (by simp only [SL.hs,List.map_set])) (t0_ (t1_ (e_ r_)))))
    ·
     refine ⟨by omega,?_⟩
     rw [← zmd (d:=s0) (by omega), ← zmy (g:=zdm) (n:=i) (D:=t) (d:=s0) (by omega)]
     refine h1.set i ({ (SL.hs l1).getD i sH0 with some := ⟨some ⟨b1,0,none⟩,1,1⟩ },zdm ((upto zdm i t).getD i s0)) ?_
     rw [zs2 hkn]; exact h1.at (by omega)
    · exact ⟨rfl,True.intro⟩
   ·
    refine zbh<|zah<|zar<|zag<|oM rfl<|oP (P_add rfl rfl (by omega))<|oA rfl<|za0<|zba ⟨i + 1,l1⟩ (by first | omega | (simp only []; omega)) ?_ kP_ ?_ r_
    ·
     refine ⟨by omega,?_⟩
     rw [← zw5 (d:=s0) (by omega) (zzl (by rw [← zmy (g:=zdm) (n:=i) (by omega), ← (h1.at (by omega)).1]; assumption))]; exact h1
    · exact ⟨rfl,True.intro⟩
  ·
   refine zbc<|zay<|zau<|zat<|zce (res0 Tryz.results28) ?_
   obtain rfl:i=t.length := by omega
   rw [zs1] at h1
   refine CSpec.close () ?_ ?_ (Ent.trans (Ent.trans (t2_ r_) (zc6 h1)) r_)
   · rfl
   · trivial
theorem zul {W:World} {b:Nat} {t:List Sec} {d:Int} {v:UInt64} {q:Bool} (hs1:∀ i,(t.getD i s0).some.length≤100000) :
    CSpec Tryz.prog W 27 [ptr b 0,.int .i64 d,.int .u64 (v.toNat:Int),.bool q] [Trk b t] (fun _:Unit => .bool (rdTR t d v)) (fun _=>True) (fun _ F=>Trk b (rdTS t d v q)::F) := by
 refine CSpec.of_body Tryz.func27 rfl Tryz.ntmps27 rfl fun F => ?_
 show CJ _ _ _ _ _ _ (_::F)
 refine zc7 (Ent.transX r_ zht) fun ⟨sv,l⟩=>zdk fun hX => ?_
 have hl:SOk l t := hX
 have hn := hl.len
 have hcn := hl.cnt
 show CJ _ _ _ _ _ _ (blk b 154 [Sl3.v sv]::sl tySec (Sl3.v sv) (SL.hs l)::VG.Own ownS l::_)
 refine sR<|oA rfl<|nT<|zab<|sR<|oM rfl<|oP (P_lss rfl rfl)<|oM rfl ?_
 first | (refine zbu 14 rfl (fun hg1B hg1 => ?_) (fun hg1B hg1 => ?_)) | (refine zbv 14 rfl (fun hg1B hg1 => ?_) (fun hg1B hg1 => ?_)) | (refine zb3 14 rfl (fun hg1B => ?_) (fun hg1B => ?_))
 ·
  refine g_ rfl rfl rfl hg1B rfl<|g_ rfl rfl rfl hg1B rfl<|g_ rfl rfl rfl hg1B rfl<|g_ rfl rfl rfl hg1B rfl<|g_ rfl rfl rfl hg1B rfl<|g_ rfl rfl rfl hg1B rfl<|g_ rfl rfl rfl hg1B rfl<|oP (zbe rfl hg1B rfl)<|nT<|za7 rfl rfl<|sR<|oA rfl<|nT<|zaf<|zak<|zan (res1 Tryz.results27 rfl) ?_
  have hR:¬ (0≤d∧d < t.length) := by omega
  rw [rdTS,if_neg hR]
  refine CSpec.close () ?_ ?_ (Ent.trans (Ent.trans r_ (zc6 hl)) r_)
  · exact bv (show _=rdTR t d v by rw [rdTR,if_neg hR])
  · trivial
 ·
  refine p_ rfl rfl rfl hg1B (zae rfl)<|p_ rfl rfl rfl hg1B (zae rfl)<|p_ rfl rfl rfl hg1B (zad rfl)<|p_ rfl rfl rfl hg1B (zaa rfl ⟨_,_,_,Tryz.runUnderlying154,rfl,rfl,Tryz.sizeOf152,rfl⟩)<|v_ rfl rfl rfl hg1B (zac rfl foc0 rfl Tryz.isAgg152)<|v_ rfl rfl rfl hg1B (V_len rfl foc1 (Reads.sl _ _ _) Tryz.runUnderlying152)<|p_ rfl rfl rfl hg1B (P_geq rfl rfl)<|oP (za2 rfl hg1B rfl)<|nT ?_
  first | (refine zav rfl (fun hg2 => ?_) (fun hg2 => ?_)) | (refine zaw rfl (fun hg2 => ?_) (fun hg2 => ?_)) | (refine za1 rfl (fun hg2 => ?_) (fun hg2 => ?_))
  ·
   refine sR<|oA rfl<|nT<|zaf<|zak<|zan (res1 Tryz.results27 rfl) ?_
   have hR:¬ (0≤d∧d < t.length) := by omega
   rw [rdTS,if_neg hR]
   refine CSpec.close () ?_ ?_ (Ent.trans (Ent.trans r_ (zc6 hl)) r_)
   · exact bv (show _=rdTR t d v by rw [rdTR,if_neg hR])
   · trivial
  ·
   obtain ⟨i,rfl⟩ := Int.eq_ofNat_of_zero_le (show 0≤d by omega)
   have hi:i < t.length := by omega
   have hil:i < (SL.hs l).length := by omega
   have hll:i < l.length := by simpa using hil
   have hsi := hs1 i
   have hat := hl.at hi
   have hR:0≤(i:Int)∧(i:Int) < t.length := ⟨by omega,by omega⟩
   refine kT<|sR<|oM rfl<|oP (zad rfl)<|oP (zaa rfl ⟨_,_,_,Tryz.runUnderlying154,rfl,rfl,Tryz.sizeOf152,rfl⟩)<|oV (zac rfl foc0 rfl Tryz.isAgg152)<|oM rfl ?_
   first | (refine RJ_op rfl (OJ_V (zam rfl rfl rfl (by first | omega | (simp only [List.length_set]; omega)) foc1 (Reads.sl _ _ _) Tryz.runUnderlying152 Tryz.sizeOf156) rfl ?_)) | (refine RJ_op rfl (OJ_V (zam rfl rfl (Int.toNat_of_nonneg (by first | omega | (simp only [List.length_set]; omega))).symm (by first | omega | (simp only [List.length_set]; omega)) foc1 (Reads.sl _ _ _) Tryz.runUnderlying152 Tryz.sizeOf156) rfl ?_))
   refine oA rfl<|nT<|zab<|sR<|oM rfl<|oP (zco rfl)<|oP (zbl rfl ⟨_,_,_,Tryz.runUnderlying156,rfl,rfl,Tryz.sizeOf4,rfl⟩)<|oV (za6 rfl rfl (by first | omega | (simp only [List.length_set]; omega)) foc1 (Reads.sl _ _ _) rfl rfl Tryz.isAgg4)<|nT ?_
   first | (refine zav rfl (fun hg3 => ?_) (fun hg3 => ?_)) | (refine zaw rfl (fun hg3 => ?_) (fun hg3 => ?_)) | (refine za1 rfl (fun hg3 => ?_) (fun hg3 => ?_))
   ·
    have hkn:(t.getD ((i:Int)).toNat s0).known=true := hat.1.symm.trans hg3
    refine sR<|oM rfl<|oM rfl<|oP (zco rfl)<|oP (zbl rfl ⟨_,_,_,Tryz.runUnderlying156,rfl,rfl,Tryz.sizeOf47,rfl⟩)<|oV (za6 rfl rfl (by first | omega | (simp only [List.length_set]; omega)) foc1 (Reads.sl _ _ _) rfl rfl Tryz.isAgg47)<|oP (P_eql rfl rfl)<|oA rfl<|nT<|zaf<|zak<|zan (res1 Tryz.results27 rfl) ?_
    rw [rdTS,if_pos hR,if_pos hkn]
    refine CSpec.close () ?_ ?_ (Ent.trans (Ent.trans r_ (zc6 hl)) r_)
    · exact bv (show _=rdTR t i v by rw [rdTR,if_pos hR,if_pos hkn,hat.2]; exact decU)
    · trivial
   ·
    have hkf:¬ (t.getD ((i:Int)).toNat s0).known=true := by
      have h9:(t.getD i s0).known=false := hat.1.symm.trans hg3
      intro e; exact absurd (show (t.getD i s0).known=true from e) (by rw [h9]; decide)
    refine kT<|zab<|zbs (Ent.trans (t2_ r_) (zmc hl i (by omega)))<|zag<|oA rfl<|nT<|zab<|sR<|oA rfl<|nT<|zao<|za8 (X:=Nat) [10,11,39,40,41,42,43,44,45,46,47,48,49,50,51,52,53,54,55,56,57,58,59] (fun k  => ([(11,.int .i64 (k:Nat)),(10,.bool (((t.getD i s0).some.take k).any (fun u=>decide (u=v))))]:Slots)) (fun k R=>R) (fun k  => k≤(t.getD i s0).some.length) (fun k  => (t.getD i s0).some.length - k) (0) ?_ ?_ r_ ?_
    · omega
    · exact ⟨rfl,rfl,True.intro⟩
    ·
     intro k hk
     show CJ _ _ _ _ _ (([(11,.int .i64 (k:Nat)),(10,.bool (((t.getD i s0).some.take k).any (fun u=>decide (u=v))))]:Slots) ++ forget _ _) (_)
     refine zab<|sR<|oM rfl<|oM rfl<|oP (zco rfl)<|oP (zbl rfl ⟨_,_,_,Tryz.runUnderlying156,rfl,rfl,Tryz.sizeOf44,rfl⟩)<|oV (za6 rfl rfl (by first | omega | (simp only [List.length_set]; omega)) foc3 (Reads.sl _ _ _) rfl rfl Tryz.isAgg44)<|oV (V_len rfl foc0 (Reads.sl _ _ _) Tryz.runUnderlying44)<|oP (P_lss rfl rfl)<|nT ?_
     first | (refine zav rfl (fun hg4 => ?_) (fun hg4 => ?_)) | (refine zaw rfl (fun hg4 => ?_) (fun hg4 => ?_)) | (refine za1 rfl (fun hg4 => ?_) (fun hg4 => ?_))
     ·
      refine kT<|zab<|zao<|zag<|oM rfl<|oM rfl ?_
      first | (refine zbu 49 rfl (fun hg5B hg5 => ?_) (fun hg5B hg5 => ?_)) | (refine zbv 49 rfl (fun hg5B hg5 => ?_) (fun hg5B hg5 => ?_)) | (refine zb3 49 rfl (fun hg5B => ?_) (fun hg5B => ?_))
      ·
       refine g_ rfl rfl rfl hg5B rfl<|g_ rfl rfl rfl hg5B rfl<|g_ rfl rfl rfl hg5B rfl<|g_ rfl rfl rfl hg5B rfl<|g_ rfl rfl rfl hg5B rfl<|g_ rfl rfl rfl hg5B rfl<|g_ rfl rfl rfl hg5B rfl<|g_ rfl rfl rfl hg5B rfl<|g_ rfl rfl rfl hg5B rfl<|oP (zbe rfl hg5B rfl)<|oA rfl<|za0<|zah<|zar<|zag<|oM rfl<|oP (P_add rfl rfl (by first | omega | (simp only [List.length_set]; omega)))<|oA rfl<|za0<|zba (k + 1) (by first | omega | (simp only []; omega)) ?_ kP_ ?_ r_
       · omega
       ·
        refine ⟨rfl,?_,True.intro⟩
        refine (congrArg (fun z=>some (Value.bool z)) ?_:some (Value.bool _)=some (Value.bool _))
        rw [zs3 (by omega), ‹(((t.getD i s0).some.take k).any (fun u=>decide (u=v)))=true›]; rfl
      ·
       refine p_ rfl rfl rfl hg5B (zae rfl)<|p_ rfl rfl rfl hg5B (zco rfl)<|p_ rfl rfl rfl hg5B (zbl rfl ⟨_,_,_,Tryz.runUnderlying156,rfl,rfl,Tryz.sizeOf44,rfl⟩)<|v_ rfl rfl rfl hg5B (za6 rfl rfl (by first | omega | (simp only [List.length_set]; omega)) foc3 (Reads.sl _ _ _) rfl rfl Tryz.isAgg44)<|p_ rfl rfl rfl hg5B (zae rfl) ?_
       first | (refine RJ_gy (zaz rfl rfl rfl hg5B) (OJ_V (zam rfl rfl rfl (by first | omega | (simp only [List.length_set]; omega)) foc0 (Reads.sl _ _ _) Tryz.runUnderlying44 Tryz.sizeOf47) rfl ?_)) | (refine RJ_gy (zaz rfl rfl rfl hg5B) (OJ_V (zam rfl rfl (Int.toNat_of_nonneg (by first | omega | (simp only [List.length_set]; omega))).symm (by first | omega | (simp only [List.length_set]; omega)) foc0 (Reads.sl _ _ _) Tryz.runUnderlying44 Tryz.sizeOf47) rfl ?_))
       refine v_ rfl rfl rfl hg5B (za6 rfl rfl (by first | omega | (simp only [List.length_set]; omega)) foc0 (Reads.sl _ _ _) rfl rfl Tryz.isAgg47)<|p_ rfl rfl rfl hg5B (zae rfl)<|p_ rfl rfl rfl hg5B (P_eql rfl rfl)<|oP (za2 rfl hg5B rfl)<|oA rfl<|za0<|zah<|zar<|zag<|oM rfl<|oP (P_add rfl rfl (by first | omega | (simp only [List.length_set]; omega)))<|oA rfl<|za0<|zba (k + 1) (by first | omega | (simp only []; omega)) ?_ kP_ ?_ r_
       · omega
       ·
        refine ⟨rfl,?_,True.intro⟩
        refine (congrArg (fun z=>some (Value.bool z)) ?_:some (Value.bool _)=some (Value.bool _))
        rw [zs3 (by omega), ‹(((t.getD i s0).some.take k).any (fun u=>decide (u=v)))=false›,Bool.false_or]; exact decU
     ·
      refine zbc<|zay<|zau<|zat<|zar<|zab ?_
      have hk2:k=(t.getD i s0).some.length := by omega
      refine zag<|oM rfl<|oM rfl<|oM rfl<|oP (zco rfl)<|oP (zbl rfl ⟨_,_,_,Tryz.runUnderlying156,rfl,rfl,Tryz.sizeOf4,rfl⟩)<|oO<|zcb (x' := { (SL.hs l).getD i sH0 with known := true }) rfl rfl rfl (by first | omega | (simp only [List.length_set]; omega)) foc3 rfl rfl rfl Tryz.sizeOf4<|oP (zco rfl)<|oP (zbl rfl ⟨_,_,_,Tryz.runUnderlying156,rfl,rfl,Tryz.sizeOf47,rfl⟩)<|oO<|zcb (x' := ⟨((SL.hs l).getD i sH0).some,true,v⟩) rfl rfl rfl (by first | omega | (simp only [List.length_set]; omega)) foc3 rfl rfl (by rw [show List.getD _ _ tySec.dflt=_ from zjj hil]; rfl) Tryz.sizeOf47<|nT<|zab<|sR<|oM rfl<|nT ?_
      first | (refine zav rfl (fun hg6 => ?_) (fun hg6 => ?_)) | (refine zaw rfl (fun hg6 => ?_) (fun hg6 => ?_)) | (refine za1 rfl (fun hg6 => ?_) (fun hg6 => ?_))
      ·
       refine zag<|oM rfl<|oM rfl<|oO<|za4 rfl (ze7 _) rfl fun b1=>zcg (Ent.trans r_ (zb5 (t:=tyU) (m:=1) [v] rfl rfl rfl (by decide)))<|oP (zco rfl)<|oP (zbl rfl ⟨_,_,_,Tryz.runUnderlying156,rfl,rfl,Tryz.sizeOf44,rfl⟩)<|oO<|zcb (x' := ⟨⟨some ⟨b1,0,none⟩,1,1⟩,true,v⟩) rfl rfl rfl (by first | omega | (simp only [List.length_set]; omega)) foc4 rfl rfl (by rw [show List.getD _ _ tySec.dflt=_ from zjj (by simpa using hil)]; rfl) Tryz.sizeOf44<|nT<|sR<|oM rfl<|oA rfl<|nT<|zaf<|zan (res1 Tryz.results27 rfl) ?_
       rw [rdTS,if_pos hR,if_neg hkf,if_pos ‹q=true›]
       refine CSpec.close () ?_ ?_ (Ent.trans (Ent.trans (t0_ (t1_ r_)) (zjc ownS ((⟨⟨some ⟨b1,0,none⟩,1,1⟩,true,v⟩:SecH),(⟨[v],true,v⟩:Sec)) hll)) (Ent.trans (Ent.trans (t2_ (Ent.takeC del2 (congrArg (sl tySec _) (by rw [set3]; simp only [SL.hs,List.map_set])) r_)) (zc6 (hl.set i ((⟨⟨some ⟨b1,0,none⟩,1,1⟩,true,v⟩:SecH),(⟨[v],true,v⟩:Sec)) ⟨rfl,rfl⟩))) (t0_ (e_ r_))))
       · exact bv (show _=rdTR t i v by rw [rdTR,if_pos hR,if_neg hkf,hk2,List.take_length]; rfl)
       · trivial
      ·
       refine kT<|sR<|oM rfl<|oA rfl<|nT<|zaf<|zan (res1 Tryz.results27 rfl) ?_
       rw [rdTS,if_pos hR,if_neg hkf,if_neg (by rw [‹q=false›]; decide)]
       refine CSpec.close () ?_ ?_ (Ent.trans (Ent.trans r_ (zjc ownS ((⟨((SL.hs l).getD i sH0).some,true,v⟩:SecH),(⟨(t.getD i s0).some,true,v⟩:Sec)) hll)) (Ent.trans (Ent.trans (t1_ (Ent.takeC del1 (congrArg (sl tySec _) (by rw [List.set_set]; simp only [SL.hs,List.map_set])) r_)) (zc6 (hl.set i ((⟨((SL.hs l).getD i sH0).some,true,v⟩:SecH),(⟨(t.getD i s0).some,true,v⟩:Sec)) ⟨rfl,rfl⟩))) r_))
       · exact bv (show _=rdTR t i v by rw [rdTR,if_pos hR,if_neg hkf,hk2,List.take_length]; rfl)
       · trivial
theorem zw7 {W:World} {A:HP} {v:Value} {xs:List UInt64} (hA:Reads A tyU v xs) (hl:xs.length≤65536) :
    CSpec Tryz.prog W 25 [v] [A] (fun b:Nat=>ptr b 0) (fun _=>True) (fun b F=>Trk b (trkT xs)::A::F) := by
 refine CSpec.of_body Tryz.func25 rfl Tryz.ntmps25 rfl fun F => ?_
 show CJ _ _ _ _ _ _ (_::F)
 refine sR<|oA rfl<|nT<|sR<|oP (zbk rfl (zo9))<|oO<|O_box rfl rfl rfl fun b1=>oA rfl<|nT<|zab<|sR<|oA rfl<|nT<|zao<|zbs (fun h hh=>zch (t:=tySec) h hh)<|zbs (zz8 ownS)<|za8 (X:=Nat × Sl3 × SL) [4,7,8,9,10,11,12,13,14,15,16,17,18,19,20,21,22,23,24,25,26,27,28,29,30,31] (fun ⟨k,sv,l⟩  => ([(4,.int .i64 (k:Nat))]:Slots)) (fun ⟨k,sv,l⟩ R=>blk b1 154 [sv.v]::sl tySec sv.v (SL.hs l)::VG.Own ownS l::R) (fun ⟨k,sv,l⟩  => k≤xs.length∧SOk l (trkT (xs.take k))) (fun ⟨k,sv,l⟩  => xs.length - k) ⟨0,⟨none,0,0⟩,[]⟩ ?_ ?_ (t2_ (t1_ r_)) ?_
 · exact ⟨Nat.zero_le _,rfl,(fun p hp=>by cases hp),Nat.zero_le _⟩
 · exact ⟨rfl,True.intro⟩
 ·
  rintro ⟨k,sv,l⟩ ⟨hk,hs⟩
  show CJ _ _ _ _ _ (([(4,.int .i64 (k:Nat))]:Slots) ++ forget _ _) (blk b1 154 [sv.v]::sl tySec sv.v (SL.hs l)::VG.Own ownS l::_)
  have hlen:(SL.hs l).length=k := by rw [hs.len]; simp [trkT]; omega
  refine zab<|sR<|oM rfl<|oM rfl<|oV (V_len rfl foc3 hA Tryz.runUnderlying44)<|oP (P_lss rfl rfl)<|nT ?_
  first | (refine zav rfl (fun hg1 => ?_) (fun hg1 => ?_)) | (refine zaw rfl (fun hg1 => ?_) (fun hg1 => ?_)) | (refine za1 rfl (fun hg1 => ?_) (fun hg1 => ?_))
  ·
   refine kT<|zab<|zao<|za3 589824 kR_ rfl<|aN 0 1 rfl rfl (zae rfl)<|aN 1 3 rfl rfl (zae rfl)<|aN 2 7 rfl rfl (zad rfl)<|aN 3 15 rfl rfl (zaa rfl ⟨_,_,_,Tryz.runUnderlying154,rfl,rfl,Tryz.sizeOf152,rfl⟩)<|aW 4 31 rfl rfl r_ (zac rfl foc0 rfl Tryz.isAgg152)<|aN 5 63 rfl rfl (zae rfl)<|aN 6 127 rfl rfl (zae rfl) ?_
   first | (refine zbj 7 255 rfl kR_ rfl kR_ kR_ (zal rfl) r_ (zam rfl rfl rfl (by omega) foc3 hA Tryz.runUnderlying44 Tryz.sizeOf47) rfl (fun _ _ _ _ h=>h) ?_) | (refine zbj 7 255 rfl kR_ rfl kR_ kR_ (zal rfl) r_ (zam rfl rfl (Int.toNat_of_nonneg (by omega)).symm (by omega) foc3 hA Tryz.runUnderlying44 Tryz.sizeOf47) rfl (fun _ _ _ _ h=>h) ?_)
   refine aW 8 511 rfl rfl r_ (za6 rfl rfl (by omega) foc3 hA rfl rfl Tryz.isAgg47)<|aN 10 1535 rfl rfl (zae rfl)<|aN 11 3583 rfl rfl (zae rfl) ?_
   first | (refine zbj 12 7679 rfl kR_ rfl kR_ kR_ (zal rfl) r_ (zam rfl rfl rfl (by omega) foc3 hA Tryz.runUnderlying44 Tryz.sizeOf47) rfl (fun _ _ _ _ h=>h) ?_) | (refine zbj 12 7679 rfl kR_ rfl kR_ kR_ (zal rfl) r_ (zam rfl rfl (Int.toNat_of_nonneg (by omega)).symm (by omega) foc3 hA Tryz.runUnderlying44 Tryz.sizeOf47) rfl (fun _ _ _ _ h=>h) ?_)
   refine aW 13 15871 rfl rfl r_ (za6 rfl rfl (by omega) foc3 hA rfl rfl Tryz.isAgg47)<|AJ_op 9 16383 rfl kR_ rfl (zal rfl)<|za4 rfl (ze7 _) rfl fun b2=>⟨fun _=>(t1_ (t1_ (t1_ (t1_ (e_ r_))))),?_⟩
   refine aN 14 32767 rfl rfl (zbk rfl (zk0 _ _ _ _ _))<|AJ_op 15 65535 rfl kR_ rfl (zal rfl)<|za4 rfl (zm6 _ _ _ _ _) rfl fun b3=>⟨fun _=>(t2_ (t2_ (t2_ (t2_ (e_ (e_ r_)))))),?_⟩
   refine AJ_op 16 131071 rfl kR_ rfl (zal rfl)<|zb1 (t:=tySec) (bytes:=40) rfl rfl del3 foc0 (Reads.lit (t:=tySec) (ys:=[⟨⟨some ⟨b2,0,none⟩,1,1⟩,true,xs.getD k 0⟩]) rfl rfl (by decide) (by decide) rfl) Tryz.underlying152 zzj (by simp only [List.length_append,List.length_cons,List.length_nil,maxLen] at *; omega) (by simp only [List.length_append,List.length_cons,List.length_nil,maxLen] at *; omega) rfl fun p4 c5=>⟨fun h=>absurd h (by decide),?_⟩
   refine aN 17 262143 rfl rfl (zad rfl)<|aN 18 524287 rfl rfl (zaa rfl ⟨_,_,_,Tryz.runUnderlying154,rfl,rfl,Tryz.sizeOf152,rfl⟩)<|AJ_op 19 1048575 rfl kR_ rfl (zal rfl)<|za5 rfl rfl foc3 rfl rfl Tryz.sizeOf152<|⟨fun h=>absurd h (by decide),?_⟩
   refine zcf kR_<|zah<|zar<|zag<|oM rfl<|oP (P_add rfl rfl (by omega))<|oA rfl<|za0<|zba ⟨k + 1,⟨p4,_,c5⟩,l ++ [((⟨⟨some ⟨b2,0,none⟩,1,1⟩,true,xs.getD k 0⟩:SecH),mkSec (xs.getD k 0))]⟩ (by first | omega | (simp only []; omega)) ?_ kP_ ?_ (Ent.trans (Ent.trans (t2_ r_) (zb5 (t:=tyU) (m:=1) [xs.getD k 0] rfl rfl rfl (by decide))) (Ent.trans (Ent.trans (t0_ (t3_ r_)) (zxp ownS ((⟨⟨some ⟨b2,0,none⟩,1,1⟩,true,xs.getD k 0⟩:SecH),mkSec (xs.getD k 0)))) (t3_ (Ent.takeC del1 (congrArg (sl tySec _) (SL.snoc l ((⟨⟨some ⟨b2,0,none⟩,1,1⟩,true,xs.getD k 0⟩:SecH),mkSec (xs.getD k 0))).symm) (t0_ (t1_ (e_ r_)))))))
   ·
    refine ⟨by omega,?_⟩
    rw [takeU xs k (by omega)]
    exact hs.push ((⟨⟨some ⟨b2,0,none⟩,1,1⟩,true,xs.getD k 0⟩:SecH),mkSec (xs.getD k 0)) ⟨rfl,rfl⟩ (by simp [trkT]; omega)
   · exact ⟨rfl,True.intro⟩
  ·
   refine zbc<|zay<|zau<|zat<|zar<|sR<|oM rfl<|oA rfl<|nT<|zaf<|zan (res1 Tryz.results25 rfl) ?_
   obtain rfl:k=xs.length := by omega
   rw [List.take_length] at hs
   refine CSpec.close b1 ?_ ?_ (Ent.trans (Ent.trans r_ (zc6 hs)) r_)
   · rfl
   · trivial
end Go.Proofs
set_option linter.unusedSimpArgs false
set_option maxRecDepth 20000
namespace Go.Proofs
open Go.VG Ts
theorem zod (v0:Bool):zbg Tryz.prog 103 1 [(0,.bool v0)] 4 [.bool v0] := fun w=>by kernel_rfl
def keepB (u:UInt64) (i:Nat):Bool := decide ((((shrU u (i % 64)) &&& 1).toNat:Int)=1)
theorem zu9 (u:UInt64) (k:Nat):(List.range k).map (keepB u) ++ [keepB u k]=(List.range (k + 1)).map (keepB u) := by
  rw [List.range_succ,List.map_append]; rfl
theorem c_Keep {W:World} {u:UInt64} :
    CSpec Tryz.prog W 61 [.int .u64 (u.toNat:Int)] [] (fun x:Sl3=>x.v) (fun _=>True) (fun x F=>sl tyB x.v ((List.range 192).map (keepB u))::F) := by
 refine CSpec.of_body Tryz.func61 rfl Tryz.ntmps61 rfl fun F => ?_
 show CJ _ _ _ _ _ _ (F)
 refine sR<|oA rfl<|nT<|sR<|oA rfl<|nT<|zab<|sR<|oA rfl<|nT<|zao<|zbs (fun h hh=>zch (t:=tyB) h hh)<|za8 (X:=Nat × Sl3) [3,4,5,6,7,8,9,10,11,12,13,14,15,16,17] (fun ⟨k,rv⟩  => ([(4,.int .i64 (k:Nat)),(3,rv.v)]:Slots)) (fun ⟨k,rv⟩ R=>sl tyB rv.v ((List.range k).map (keepB u))::R) (fun ⟨k,rv⟩  => k≤192) (fun ⟨k,rv⟩  => 192 - k) ⟨0,⟨none,0,0⟩⟩ ?_ ?_ r_ ?_
 · exact Nat.zero_le _
 · exact ⟨rfl,rfl,True.intro⟩
 ·
  rintro ⟨k,rv⟩ hk
  show CJ _ _ _ _ _ (([(4,.int .i64 (k:Nat)),(3,rv.v)]:Slots) ++ forget _ _) (sl tyB rv.v ((List.range k).map (keepB u))::_)
  have hlen:((List.range k).map (keepB u)).length=k := by simp
  refine zab<|sR<|oM rfl<|oP (P_lss rfl rfl)<|nT ?_
  first | (refine zav rfl (fun hg1 => ?_) (fun hg1 => ?_)) | (refine zaw rfl (fun hg1 => ?_) (fun hg1 => ?_)) | (refine za1 rfl (fun hg1 => ?_) (fun hg1 => ?_))
  ·
   refine kT<|zab<|zao<|zag<|oM rfl<|oM rfl<|oM rfl<|oP (P_rem rfl rfl (by omega))<|oP (P_shrU (a:=u) (m:=k % 64) rfl rfl (by omega) (by omega))<|oP (P_andU (a:=shrU u (k % 64)) (b:=1) rfl rfl)<|oP (P_eql rfl rfl)<|oO<|za4 rfl (zod _) rfl fun b1=>oO<|zb1 (t:=tyB) (bytes:=1) rfl rfl del1 foc0 (Reads.lit (t:=tyB) (ys:=[keepB u k]) rfl rfl (by decide) (by decide) rfl) Tryz.underlying103 ok_tyB (by simp only [List.length_append,List.length_cons,List.length_nil,maxLen] at *; omega) (by simp only [List.length_append,List.length_cons,List.length_nil,maxLen] at *; omega) rfl fun p2 c3=>oA rfl<|za0<|zah<|zar<|zag<|oM rfl<|oP (P_add rfl rfl (by omega))<|oA rfl<|za0<|zba ⟨k + 1,⟨p2,_,c3⟩⟩ (by first | omega | (simp only []; omega)) ?_ kP_ ?_ (Ent.takeC del0 (congrArg (sl tyB _) (zu9 u k)) (e_ r_))
   · show k + 1≤192; omega
   · exact ⟨rfl,rfl,True.intro⟩
  ·
   refine zbc<|zay<|zau<|zat<|zar<|sR<|oM rfl<|oA rfl<|nT<|zaf ?_
   obtain rfl:k=192 := by omega
   refine zan (res1 Tryz.results61 rfl)<|CSpec.close rv ?_ ?_ r_
   · rfl
   · trivial
theorem c_All {W : World} {σ : Type} {S : σ → HP} {Inv : Nat → σ → List Sec → Prop} {n tb : Nat} {h : IfH} {s1 : σ} {t1 : List Sec} (hsm : ∀ i s t, Inv i s t → t.length = n ∧ ∀ j, (t.getD j s0).some.length ≤ 100000) (hread : ∀ {W : World} (i : Nat) (s : σ) (t : List Sec), i < n → Inv i s t → IOk Tryz.prog W 60 h "Read" [.int .i64 (i : Int)] [S s] (fun x : UInt64 × σ => .tuple #[.int .u64 (x.1.toNat : Int), .int .i64 0]) (fun x => rdTR t i x.1 = true ∧ Inv (i + 1) x.2 (rdTS t i x.1 true)) (fun x F => S x.2 :: F)) (h0 : Inv 0 s1 t1) :
    CSpec Tryz.prog W 31 [ptr tb 0,h.v,.bool true] [S s1,Trk tb t1] (fun _:σ × List Sec => .bool true) (fun x=>Inv n x.1 x.2) (fun x F=>S x.1::Trk tb x.2::F) := by
 refine CSpec.of_body Tryz.func31 rfl Tryz.ntmps31 rfl fun F => ?_
 show CJ _ _ _ _ _ _ (_::_::F)
 refine sR<|oA rfl<|nT<|zab<|sR<|oA rfl<|nT<|zao<|za8 (X:=Nat × σ × List Sec) [6,7,8,9,10,11,12,13,14,15,16,17,18,19,20,21,22,23,24,25,26,27,28,29,30,31,32,33,34] (fun ⟨i,s,t⟩  => ([(7,.int .i64 (i:Nat))]:Slots)) (fun ⟨i,s,t⟩ R=>S s::Trk tb t::R) (fun ⟨i,s,t⟩  => i≤n∧Inv i s t) (fun ⟨i,s,t⟩  => n - i) ⟨0,s1,t1⟩ ?_ ?_ r_ ?_
 · exact ⟨Nat.zero_le _,h0⟩
 · exact ⟨rfl,True.intro⟩
 ·
  rintro ⟨i,s,t⟩ ⟨hin,hI⟩
  show CJ _ _ _ _ _ (([(7,.int .i64 (i:Nat))]:Slots) ++ forget _ _) (S s::Trk tb t::_)
  obtain ⟨hln,hsl⟩ := hsm _ _ _ hI
  refine zab<|zab<|zc7 (Ent.transX (t1_ r_) zht) fun ⟨sv,l⟩=>zdk fun hX => ?_
  have hl:SOk l t := hX
  have hn := hl.len
  have hcn := hl.cnt
  show CJ _ _ _ _ _ _ (blk tb 154 [Sl3.v sv]::sl tySec (Sl3.v sv) (SL.hs l)::VG.Own ownS l::_)
  refine zag<|oM rfl<|oM rfl<|oP (zad rfl)<|oP (zaa rfl ⟨_,_,_,Tryz.runUnderlying154,rfl,rfl,Tryz.sizeOf152,rfl⟩)<|oV (zac rfl foc0 rfl Tryz.isAgg152)<|oV (V_len rfl foc1 (Reads.sl _ _ _) Tryz.runUnderlying152)<|oP (P_lss rfl rfl)<|nT ?_
  first | (refine zav rfl (fun hg1 => ?_) (fun hg1 => ?_)) | (refine zaw rfl (fun hg1 => ?_) (fun hg1 => ?_)) | (refine za1 rfl (fun hg1 => ?_) (fun hg1 => ?_))
  ·
   refine kT<|zab<|zao<|zab<|zbs (Ent.trans r_ (zc6 hl)) ?_
   have hi:i < n := by omega
   refine zag<|oM rfl<|oM rfl<|oO<|zbz rfl (IOk.call (hread i s t hi hI) (by decide)) rfl (dC_ del1) rfl fun o9 ho9=>oM rfl<|oP (zaj rfl rfl)<|oP (zaj rfl rfl)<|oA rfl<|oA rfl<|nT<|sR<|oM rfl<|oP (P_neq rfl rfl)<|oM rfl<|zbp 27 false rfl dF_ fun hg2B=>p_ rfl rfl rfl hg2B (zae rfl)<|p_ rfl rfl rfl hg2B (zae rfl)<|p_ rfl rfl rfl hg2B (zae rfl)<|p_ rfl rfl rfl hg2B (zae rfl)<|RJ_gy (zaz rfl rfl rfl hg2B)<|zai ((zul (d:=(i:Int)) (v:=o9.1) hsl)) rfl Tryz.call27 (dC_ del1) rfl fun _ hc1=>p_ rfl rfl rfl hg2B (P_not rfl)<|oP (za2 rfl hg2B rfl)<|nT<|zap rfl (by first | exact decide_eq_false (by rw [ho9.1]; rfl) | (rw [ho9.1]; rfl))<|zbh<|zah<|zar<|zag<|oM rfl<|oP (P_add rfl rfl (by omega))<|oA rfl<|za0<|zba ⟨i + 1,o9.2,rdTS t i o9.1 true⟩ (by first | omega | (simp only []; omega)) ?_ kP_ ?_ (t1_ r_)
   · exact ⟨by omega,ho9.2⟩
   · exact ⟨rfl,True.intro⟩
  ·
   refine zbc<|zay<|zau<|zat<|zar<|zab<|zbs (Ent.trans r_ (zc6 hl)) ?_
   obtain rfl:i=n := by omega
   refine zag<|oA rfl<|nT<|zaf<|zan (res1 Tryz.results31 rfl)<|CSpec.close (s,t) ?_ ?_ (t1_ r_)
   · rfl
   · exact hI
theorem z1t {W:World} {σ:Type} {S:σ→HP} {S0:HP} {S1:List Bool→HP} {O:HP} {ov:Value} {Inv:IfH→Nat→σ→List Sec→Prop} {n tb b:Nat} {t0:List Sec} {u:UInt64}
    (hres:∀ {W:World} {K:HP} {v:Value} (ks:List Bool),Reads K tyB v ks→CSpec Tryz.prog W 60 [ptr b 0,v] [S0,K] (fun _:Unit => .tuple #[]) (fun _=>True) (fun _ F=>S1 ks::K::F))
    (hop:∀ {W:World} (ks:List Bool),FOk Tryz.prog W ov [] [S1 ks,O] (fun x:IfH × σ => .tuple #[x.1.v,.bool true]) (fun x=>Inv x.1 0 x.2 (zhu t0)) (fun x F=>S x.2::O::F))
    (hsz : ∀ {W : World} (h : IfH) (s : σ), Inv h 0 s (zhu t0) → IOk Tryz.prog W 60 h "Size" [] [S s] (fun _ : Unit => .int .i64 (n : Int)) (fun _ => True) (fun _ F => S s :: F))
    (hsm:∀ h i s t,Inv h i s t→t.length=n ∧ ∀ j,(t.getD j s0).some.length≤100000)
    (hread : ∀ {W : World} (h : IfH) (i : Nat) (s : σ) (t : List Sec), i < n → Inv h i s t → IOk Tryz.prog W 60 h "Read" [.int .i64 (i : Int)] [S s] (fun x : UInt64 × σ => .tuple #[.int .u64 (x.1.toNat : Int), .int .i64 0]) (fun x => rdTR t i x.1 = true ∧ Inv h (i + 1) x.2 (rdTS t i x.1 true)) (fun x F => S x.2 :: F)) :
    CSpec Tryz.prog W 30 [ptr tb 0,ptr b 0,ov,.int .u64 (u.toNat:Int)] [S0,Trk tb t0,O] (fun x:IfH × σ × List Sec => .tuple #[x.1.v,.bool true]) (fun x=>Inv x.1 n x.2.1 x.2.2) (fun x F=>S x.2.1::Trk tb x.2.2::O::F) := by
 refine CSpec.of_body Tryz.func30 rfl Tryz.ntmps30 rfl fun F => ?_
 show CJ _ _ _ _ _ _ (_::_::_::F)
 refine sR<|oA rfl<|oA rfl<|nT<|sR<|oM rfl<|oO<|zai (zzm) rfl Tryz.call59 (dC_ del1) rfl fun _ hc1=>nT<|sR<|oM rfl<|oM rfl<|oO<|zai ((c_Keep (u:=u))) rfl Tryz.call61 Dels.nil rfl fun kv hc3=>oO<|zai ((hres _ (Reads.sl _ _ _))) rfl Tryz.call60 (Dels.cons del2 (dC_ del0)) rfl fun _ hc4=>nT<|sR<|oM rfl<|oO<|zgz rfl rfl (hop ((List.range 192).map (keepB u))) (Dels.cons del0 (dC_ del2)) rfl fun x9 hx9=>oM rfl<|oP (zaj rfl rfl)<|oP (zaj rfl rfl)<|oA rfl<|oA rfl<|nT<|zab<|zab<|zc7 (Ent.transX (t3_ r_) zht) fun ⟨sv,l⟩=>zdk fun hX => ?_
 have hl:SOk l (zhu t0) := hX
 have hn := hl.len
 have hcn := hl.cnt
 show CJ _ _ _ _ _ _ (blk tb 154 [Sl3.v sv]::sl tySec (Sl3.v sv) (SL.hs l)::VG.Own ownS l::_)
 obtain ⟨hln,hsl⟩ := hsm _ _ _ _ hx9
 refine za3 0 kR_ rfl<|aN 0 1 rfl rfl (zae rfl)<|aN 1 3 rfl rfl (P_not rfl)<|aN 2 7 rfl rfl (zae rfl)<|zd5 25 false rfl (by first | exact decide_eq_false (by rfl) | (rfl)) fun hg1B=>aP 3 15 rfl rfl (zaz rfl rfl rfl hg1B) (zae rfl)<|aP 4 31 rfl rfl (zaz rfl rfl rfl hg1B) (znv rfl rfl Tryz.underlying38)<|aN 5 63 rfl rfl (za2 rfl hg1B rfl)<|aN 6 127 rfl rfl (zae rfl)<|aP 7 255 rfl rfl (zaz rfl rfl rfl rfl) (zae rfl)<|aP 9 767 rfl rfl (zaz rfl rfl rfl rfl) (zae rfl)<|aP 10 1791 rfl rfl (zaz rfl rfl rfl rfl) (zad rfl)<|aP 11 3839 rfl rfl (zaz rfl rfl rfl rfl) (zaa rfl ⟨_,_,_,Tryz.runUnderlying154,rfl,rfl,Tryz.sizeOf152,rfl⟩)<|aV 12 7935 rfl rfl (zaz rfl rfl rfl rfl) r_ (zac rfl foc0 rfl Tryz.isAgg152)<|aV 13 16127 rfl rfl (zaz rfl rfl rfl rfl) r_ (V_len rfl foc1 (Reads.sl _ _ _) Tryz.runUnderlying152)<|AJ_op 8 16383 rfl kR_ rfl (zaz rfl rfl rfl rfl)<|zbz rfl (IOk.call (hsz x9.1 x9.2 hx9) (by decide)) rfl (dC_ del3) rfl fun o5 ho6=>⟨fun _=>(t1_ (t1_ (t1_ r_))),?_⟩
 refine aP 14 32767 rfl rfl (zaz rfl rfl rfl rfl) (P_neq rfl rfl)<|aN 15 65535 rfl rfl (za2 rfl rfl rfl)<|aD<|zap rfl wF_<|kT<|zab<|zbs (Ent.trans (t1_ (t1_ (t1_ r_))) (zc6 hl))<|zag<|oM rfl<|oM rfl<|oM rfl<|oO<|zai ((c_All (Inv:=Inv x9.1) (n:=n) (hsm x9.1) (fun {W} i s t hi hI=>hread x9.1 i s t hi hI) hx9)) rfl Tryz.call31 (Dels.cons del1 (dC_ del0)) rfl fun o9 ho9=>oA rfl<|oA rfl<|nT<|zaf<|zan (res2 Tryz.results30 rfl rfl)<|CSpec.close (x9.1,o9) ?_ ?_ (t0_ (t0_ (t0_ (e_ r_))))
 · rfl
 · exact ho9
end Go.Proofs
set_option linter.unusedSimpArgs false
set_option maxRecDepth 20000
namespace Go.Proofs
open Go.VG Ts
section
variable {P:Program} {n:Env} {W:World} {s:Slots} {H:List HP} {K:Slots→List HP→Prop} {d:Nat} {ty:TypeId} {pos:String} {after:Array Edge} {g:Option (Nat × Bool)}
theorem zs4 {x:Operand} {name:String} {xs:List Operand} {ats:Array TypeId} {vs:List Value} {v:Value} {pre F:List HP} {σ:Type} {res:Bool × σ→Value} {pf:Bool × σ→Prop} {post:Bool × σ→List HP→List HP}
    (hx:ev s x=some v) (hc:ICall P W v name vs pre res pf post) (hv:evs s xs=some vs) (hdel:Dels H pre F) (hd:Nat.blt d n.n=true)
    (h0:∀ y,pf (false,y)→K ((d,res (false,y))::s) (post (false,y) F)) (h1:∀ y,pf (true,y)→K ((d,res (true,y))::s) (post (true,y) F)) :
    OJ P n W ⟨some d,.call { callee := .invoke x name,args := xs.toArray,argTypes := ats },ty,pos,after,g⟩ s H K :=
  zbz hx hc hv hdel hd (fun x=>match x with | (false,y)=>h0 y | (true,y)=>h1 y)
end
theorem at_bd (x:Int) {n:Nat} (hn:1≤n):(-(n:Int) < x.tmod (n:Int)∧x.tmod (n:Int) < n)∧0≤(x.tmod (n:Int) + (n:Int)).tmod (n:Int)∧(x.tmod (n:Int) + (n:Int)).tmod (n:Int) < n := by
  have h1 := zuh x (n:=(n:Int)) (by omega)
  refine ⟨h1,Int.tmod_nonneg _ (by omega),Int.tmod_lt_of_pos _ (by omega)⟩
theorem z1u {W:World} {σ:Type} {S:σ→HP} {O:HP} {ov:Value} {Up:Nat→IfH→σ→List Sec→Prop} {Fr:IfH→σ→List Sec→Prop} {Dn:Nat→σ→List Sec→Prop} {b:Nat} {s00:σ} {init:List UInt64} {A1 A2:HP} {iv lv:Value} {ls:List StepV}
    (hI:Reads A1 tyU iv init) (hil:1≤init.length∧init.length≤1000) (hA:Reads A2 tyStep lv ls) (hls:ls.length≤24)
    (hop:∀ {W:World},FOk Tryz.prog W ov [] [S s00,O] (fun x:IfH × σ => .tuple #[x.1.v,.bool true]) (fun x=>Up 0 x.1 x.2 (trkT init)) (fun x F=>S x.2::O::F))
    (hsz : ∀ {W : World} (h : IfH) (s : σ), Up 0 h s (trkT init) → IOk Tryz.prog W 60 h "Size" [] [S s] (fun _ : Unit => .int .i64 (init.length : Int)) (fun _ => True) (fun _ F => S s :: F))
    (hsm:∀ i h s t,Up i h s t → ∀ j,(t.getD j s0).some.length≤100000)
    (hna : ∀ i h s t, Up i h s t → ∀ m, 100 ≤ m → ∀ w, (nilAhead m h.t h.u "Write").run Tryz.prog w = .ok (some false) w)
    (hwr : ∀ {W : World} (i : Nat) (h : IfH) (s : σ) (t : List Sec) (a : Nat) (v : UInt64), i < 24 → Up i h s t → a < init.length → IOk Tryz.prog W 60 h "Write" [.int .i64 (a : Int), .int .u64 (v.toNat : Int)] [S s] (fun x : Bool × σ => .int .i64 (if x.1 then 0 else 5)) (fun x => (x.1 = true → Up (i + 1) h x.2 (zgh t a v true)) ∧ (x.1 = false → Dn i x.2 (zgh t a v false))) (fun x F => S x.2 :: F))
    (hrd : ∀ {W : World} (i : Nat) (h : IfH) (s : σ) (t : List Sec) (a : Nat), i < 24 → Up i h s t → a < init.length → IOk Tryz.prog W 60 h "Read" [.int .i64 (a : Int)] [S s] (fun x : Bool × UInt64 × σ => .tuple #[.int .u64 ((if x.1 then x.2.1 else 0 : UInt64).toNat : Int), .int .i64 (if x.1 then 0 else 5)]) (fun x => (x.1 = true → rdTR t a x.2.1 = true ∧ Up (i + 1) h x.2.2 (rdTS t a x.2.1 false)) ∧ (x.1 = false → Dn i x.2.2 t)) (fun x F => S x.2.2 :: F))
    (hfl : ∀ {W : World} (i : Nat) (h : IfH) (s : σ) (t : List Sec), i < 24 → Up i h s t → IOk Tryz.prog W 60 h "Flush" [] [S s] (fun _ : σ => .int .i64 0) (fun s' => Up (i + 1) h s' (zgn t)) (fun s' F => S s' :: F))
    (hfu:∀ {W:World} (i:Nat) (h:IfH) (s:σ) (t:List Sec) (a:Nat),i < 24→Up i h s t→a < init.length→CSpec Tryz.prog W 29 [ptr b 0,.int .i64 (1 + (a:Int))] [S s] (fun _:σ => .tuple #[]) (fun s' => Up (i + 1) h s' t) (fun s' F=>S s' :: F))
    (hdn:∀ i h s t,Up i h s t→Dn i s t) (hsk:∀ i h s t,i < 24→Up i h s t→Up (i + 1) h s t)
    (hag:∀ {W:World} (tb i:Nat) (s:σ) (t:List Sec) (u:UInt64),i≤24→Dn i s t→CSpec Tryz.prog W 30 [ptr tb 0,ptr b 0,ov,.int .u64 (u.toNat:Int)] [S s,Trk tb t,O] (fun x:IfH × σ × List Sec => .tuple #[x.1.v,.bool true]) (fun x=>Up (i + 1) x.1 x.2.1 x.2.2∧Fr x.1 x.2.1 x.2.2) (fun x F=>S x.2.1::Trk tb x.2.2::O::F))
    (hal:∀ {W:World} (tb:Nat) (h:IfH) (s:σ) (t:List Sec),Fr h s t→CSpec Tryz.prog W 31 [ptr tb 0,h.v,.bool true] [S s,Trk tb t] (fun _:σ × List Sec => .bool true) (fun _=>True) (fun x F=>S x.1::Trk tb x.2::F)) :
    CSpec Tryz.prog W 12 [ptr b 0,ov,iv,lv] [S s00,O,A1,A2] (fun _:σ × List Sec => .bool true) (fun _=>True) (fun x F=>S x.1::O::A1::A2::F) := by
 refine CSpec.of_body Tryz.func12 rfl Tryz.ntmps12 rfl fun F => ?_
 show CJ _ _ _ _ _ _ (_::_::_::_::F)
 refine sR<|oA rfl<|nT<|sR<|oM rfl<|oO<|zai ((zw7 hI (by omega))) rfl Tryz.call25 (dC_ del2) rfl fun tb hc2=>oA rfl<|nT<|sR<|oM rfl<|oO<|zgz rfl rfl hop (Dels.cons del2 (dC_ del2)) rfl fun x9 hx9=>oM rfl<|oP (zaj rfl rfl)<|oP (zaj rfl rfl)<|oA rfl<|oA rfl<|nT<|zab<|sR<|oM rfl<|oP (P_not rfl)<|oM rfl<|zbp 25 false rfl (by first | exact decide_eq_false (by rfl) | (rfl)) fun hg1B=>p_ rfl rfl rfl hg1B (zae rfl)<|p_ rfl rfl rfl hg1B (znv rfl rfl Tryz.underlying38)<|oP (za2 rfl hg1B rfl)<|oM rfl<|p_ rfl rfl rfl rfl (zae rfl)<|RJ_gy (zaz rfl rfl rfl rfl)<|zbz rfl (IOk.call (hsz x9.1 x9.2 hx9) (by decide)) rfl (dC_ del0) rfl fun o3 ho4=>p_ rfl rfl rfl rfl (zae rfl)<|v_ rfl rfl rfl rfl (V_len rfl foc3 hI Tryz.runUnderlying44)<|p_ rfl rfl rfl rfl (P_neq rfl rfl)<|oP (za2 rfl rfl rfl)<|nT<|zap rfl wF_<|kT<|zab<|sR<|oM rfl<|oV (V_len rfl foc3 hI Tryz.runUnderlying44)<|oP (P_eql rfl rfl)<|nT<|zap rfl wF_<|kT<|zab<|sR<|oA rfl<|nT<|zao ?_
 refine za8 (X:=Nat × IfH × σ × List Sec) [8,10,11,12,13,14,15,39,40,41,42,43,44,45,46,47,48,49,50,51,52,53,54,55,56,57,58,59,60,61,62,63,64,65,66,67,68,69,70,71,72,73,74,75,76,77,78,79,80,81,82,83,84,85,86,87,88,89,90,91,92,93,94,95,96,97,98,99,100,101,102,103,104,105,106,107,108,109,110,111,112,113,114,115,116,117,118,119,120,121,122,123,124,125,126,127,128,129,130,131,132,133,134,135,136,137] (fun ⟨i,h,s,t⟩  => ([(12,.int .i64 (i:Nat)),(10,h.v)]:Slots)) (fun ⟨i,h,s,t⟩ R=>S s::Trk tb t::R) (fun ⟨i,h,s,t⟩  => i≤ls.length∧Up i h s t) (fun ⟨i,h,s,t⟩  => ls.length - i) ⟨0,x9.1,x9.2,trkT init⟩ ?_ ?_ (t0_ (t1_ r_)) ?_
 · exact ⟨Nat.zero_le _,hx9⟩
 · exact ⟨rfl,rfl,True.intro⟩
 ·
  rintro ⟨i,h,s,t⟩ ⟨hil2,hU⟩
  show CJ _ _ _ _ _ (([(12,.int .i64 (i:Nat)),(10,h.v)]:Slots) ++ forget _ _) (S s::Trk tb t::_)
  refine zab<|sR<|oM rfl<|oM rfl<|oV (V_len rfl foc4 hA Tryz.runUnderlying23)<|oP (P_lss rfl rfl)<|nT ?_
  first | (refine zav rfl (fun hg4 => ?_) (fun hg4 => ?_)) | (refine zaw rfl (fun hg4 => ?_) (fun hg4 => ?_)) | (refine za1 rfl (fun hg4 => ?_) (fun hg4 => ?_))
  ·
   refine kT<|zab<|zao<|sR<|oM rfl<|oM rfl ?_
   first | (refine RJ_op rfl (OJ_V (zam rfl rfl rfl (by omega) foc4 hA Tryz.runUnderlying23 Tryz.sizeOf89) rfl ?_)) | (refine RJ_op rfl (OJ_V (zam rfl rfl (Int.toNat_of_nonneg (by omega)).symm (by omega) foc4 hA Tryz.runUnderlying23 Tryz.sizeOf89) rfl ?_))
   refine oP (zbl rfl ⟨_,_,_,Tryz.runUnderlying89,rfl,rfl,Tryz.sizeOf3,rfl⟩)<|oV (za6 rfl rfl (by omega) foc4 hA rfl rfl Tryz.isAgg3)<|oM rfl<|oV (V_len rfl foc3 hI Tryz.runUnderlying44) ?_
   have htm := (at_bd (ls.getD i tyStep.dflt).f1 (n:=init.length) hil.1)
   refine oP (zg3 rfl rfl (by omega))<|oM rfl<|oV (V_len rfl foc3 hI Tryz.runUnderlying44)<|oP (P_add rfl rfl (by omega))<|oM rfl<|oV (V_len rfl foc3 hI Tryz.runUnderlying44)<|oP (zg3 rfl rfl (by omega))<|oA rfl<|nT<|zab ?_
   have hat := (at_bd (ls.getD i tyStep.dflt).f1 (n:=init.length) hil.1).2
   generalize ((ls.getD i tyStep.dflt).f1.tmod (init.length:Int) + (init.length:Int)).tmod (init.length:Int)=av at *
   obtain ⟨a,rfl⟩ := Int.eq_ofNat_of_zero_le hat.1
   have ha:a < init.length := by omega
   refine zag<|oA rfl<|nT<|zab<|sR<|oM rfl<|oM rfl ?_
   first | (refine RJ_op rfl (OJ_V (zam rfl rfl rfl (by omega) foc4 hA Tryz.runUnderlying23 Tryz.sizeOf89) rfl ?_)) | (refine RJ_op rfl (OJ_V (zam rfl rfl (Int.toNat_of_nonneg (by omega)).symm (by omega) foc4 hA Tryz.runUnderlying23 Tryz.sizeOf89) rfl ?_))
   refine oP (zbl rfl ⟨_,_,_,Tryz.runUnderlying89,rfl,rfl,Tryz.sizeOf3,rfl⟩)<|oV (za6 rfl rfl (by omega) foc4 hA rfl rfl Tryz.isAgg3)<|nT<|zao<|sR<|oP (P_eql rfl rfl)<|oA rfl<|nT ?_
   first | (refine zav rfl (fun hg5 => ?_) (fun hg5 => ?_)) | (refine zaw rfl (fun hg5 => ?_) (fun hg5 => ?_)) | (refine za1 rfl (fun hg5 => ?_) (fun hg5 => ?_))
   ·
    refine zab<|za3 1024 kR_ rfl<|aN 0 1 rfl rfl (zae rfl)<|aN 1 3 rfl rfl (zae rfl)<|aN 2 7 rfl rfl (zae rfl)<|aN 3 15 rfl rfl (zae rfl) ?_
    first | (refine zbj 4 31 rfl kR_ rfl kR_ kR_ (zal rfl) r_ (zam rfl rfl rfl (by omega) foc4 hA Tryz.runUnderlying23 Tryz.sizeOf89) rfl (fun _ _ _ _ h=>h) ?_) | (refine zbj 4 31 rfl kR_ rfl kR_ kR_ (zal rfl) r_ (zam rfl rfl (Int.toNat_of_nonneg (by omega)).symm (by omega) foc4 hA Tryz.runUnderlying23 Tryz.sizeOf89) rfl (fun _ _ _ _ h=>h) ?_)
    refine aN 5 63 rfl rfl (zbl rfl ⟨_,_,_,Tryz.runUnderlying89,rfl,rfl,Tryz.sizeOf47,rfl⟩)<|aW 6 127 rfl rfl r_ (za6 rfl rfl (by omega) foc4 hA rfl rfl Tryz.isAgg47)<|aN 7 255 rfl rfl (zbb rfl rfl)<|aN 8 511 rfl rfl (zjo (hna i h s t hU) rfl)<|aN 9 1023 rfl rfl (zae rfl)<|AJ_op 10 2047 rfl kR_ rfl (zal rfl) (zs4 rfl (IOk.call (hwr i h s t a (ls.getD i tyStep.dflt).f2 (by omega) hU ha) (by decide)) rfl (dC_ del0) rfl (fun s9 ho9 => ?_) (fun s9 ho9 => ?_))
    ·
     refine ⟨fun h=>absurd h (by decide),?_⟩
     refine aN 11 4095 rfl rfl (za9 rfl)<|aD<|zag<|oM rfl<|oM rfl<|oM rfl<|oM rfl ?_
     first | (refine RJ_op rfl (OJ_V (zam rfl rfl rfl (by omega) foc4 hA Tryz.runUnderlying23 Tryz.sizeOf89) rfl ?_)) | (refine RJ_op rfl (OJ_V (zam rfl rfl (Int.toNat_of_nonneg (by omega)).symm (by omega) foc4 hA Tryz.runUnderlying23 Tryz.sizeOf89) rfl ?_))
     refine oP (zbl rfl ⟨_,_,_,Tryz.runUnderlying89,rfl,rfl,Tryz.sizeOf47,rfl⟩)<|oV (za6 rfl rfl (by omega) foc4 hA rfl rfl Tryz.isAgg47)<|oM rfl<|oP (P_eql rfl rfl)<|oO<|zai ((zuk (d:=(a:Int)) (v:=(ls.getD i tyStep.dflt).f2) (o:=false) (hsm i h s t hU))) rfl Tryz.call26 (dC_ del1) rfl fun _ hc5=>za0<|zah<|zar<|sR<|oM rfl<|oP (P_eql rfl rfl)<|nT<|za7 rfl (by first | exact decide_eq_true (by first | decide | simp) | (first | decide | simp))<|sR<|oM rfl<|oM rfl<|oM rfl<|oM rfl<|oM rfl ?_
     first | (refine RJ_op rfl (OJ_V (zam rfl rfl rfl (by omega) foc4 hA Tryz.runUnderlying23 Tryz.sizeOf89) rfl ?_)) | (refine RJ_op rfl (OJ_V (zam rfl rfl (Int.toNat_of_nonneg (by omega)).symm (by omega) foc4 hA Tryz.runUnderlying23 Tryz.sizeOf89) rfl ?_))
     refine oP (zbl rfl ⟨_,_,_,Tryz.runUnderlying89,rfl,rfl,Tryz.sizeOf47,rfl⟩)<|oV (za6 rfl rfl (by omega) foc4 hA rfl rfl Tryz.isAgg47)<|oO<|zai ((hag tb i _ _ (ls.getD i tyStep.dflt).f3 (by omega) (ho9.2 rfl))) rfl Tryz.call30 (Dels.cons del1 (Dels.cons del0 (dC_ del0))) rfl fun x8 hx8=>oM rfl<|oP (zaj rfl rfl)<|oP (zaj rfl rfl)<|oA rfl<|oA rfl<|nT<|sR<|oM rfl<|oP (P_not rfl)<|nT<|zap rfl rfl<|zbh<|zah<|zar<|zag<|oM rfl<|oP (P_add rfl rfl (by omega))<|oA rfl<|za0<|zba ⟨i + 1,x8.1,x8.2.1,x8.2.2⟩ (by first | omega | (simp only []; omega)) ?_ kP_ ?_ r_
     · exact ⟨by omega,hx8.1⟩
     · exact ⟨rfl,rfl,True.intro⟩
    ·
     refine ⟨fun h=>absurd h (by decide),?_⟩
     refine aN 11 4095 rfl rfl (za9 rfl)<|aD<|zag<|oM rfl<|oM rfl<|oM rfl<|oM rfl ?_
     first | (refine RJ_op rfl (OJ_V (zam rfl rfl rfl (by omega) foc4 hA Tryz.runUnderlying23 Tryz.sizeOf89) rfl ?_)) | (refine RJ_op rfl (OJ_V (zam rfl rfl (Int.toNat_of_nonneg (by omega)).symm (by omega) foc4 hA Tryz.runUnderlying23 Tryz.sizeOf89) rfl ?_))
     refine oP (zbl rfl ⟨_,_,_,Tryz.runUnderlying89,rfl,rfl,Tryz.sizeOf47,rfl⟩)<|oV (za6 rfl rfl (by omega) foc4 hA rfl rfl Tryz.isAgg47)<|oM rfl<|oP (P_eql rfl rfl)<|oO<|zai ((zuk (d:=(a:Int)) (v:=(ls.getD i tyStep.dflt).f2) (o:=true) (hsm i h s t hU))) rfl Tryz.call26 (dC_ del1) rfl fun _ hc7=>za0<|zah<|zar<|sR<|oM rfl<|oP (P_eql rfl rfl)<|nT<|zap rfl (by first | exact decide_eq_false (by first | decide | simp) | (first | decide | simp))<|sR<|oM rfl<|oP (P_neq rfl rfl)<|nT<|zap rfl (by first | exact decide_eq_false (by first | decide | simp) | (first | decide | simp))<|zbh<|zah<|zar<|zag<|oM rfl<|oP (P_add rfl rfl (by omega))<|oA rfl<|za0<|zba ⟨i + 1,h,s9,zgh t (a:Int) (ls.getD i tyStep.dflt).f2 true⟩ (by first | omega | (simp only []; omega)) ?_ kP_ ?_ (t1_ r_)
     · exact ⟨by omega,ho9.1 rfl⟩
     · exact ⟨rfl,rfl,True.intro⟩
   ·
    refine sR<|oP (P_eql rfl rfl)<|oA rfl<|nT ?_
    first | (refine zav rfl (fun hg9 => ?_) (fun hg9 => ?_)) | (refine zaw rfl (fun hg9 => ?_) (fun hg9 => ?_)) | (refine za1 rfl (fun hg9 => ?_) (fun hg9 => ?_))
    ·
     refine sR<|oA rfl<|nT<|sR<|oM rfl<|oM rfl<|oO (zs4 rfl (IOk.call (hrd i h s t a (by omega) hU ha) (by decide)) rfl (dC_ del0) rfl (fun y9 hq9 => ?_) (fun y9 hq9 => ?_))
     ·
      refine oM rfl<|oP (zaj rfl rfl)<|oP (zaj rfl rfl)<|oA rfl<|oA rfl<|nT<|sR<|oM rfl<|oP (P_eql rfl rfl)<|oM rfl<|zbp 97 false rfl (by first | exact decide_eq_false (by first | decide | simp) | (first | decide | simp)) fun hg10B=>g_ rfl rfl rfl hg10B rfl<|g_ rfl rfl rfl hg10B rfl<|g_ rfl rfl rfl hg10B rfl<|g_ rfl rfl rfl hg10B rfl<|g_ rfl rfl rfl hg10B rfl<|oP (za2 rfl hg10B rfl)<|nT<|zap rfl rfl<|zbh<|zah<|zar<|sR<|oM rfl<|oP (P_eql rfl rfl)<|nT<|za7 rfl (by first | exact decide_eq_true (by first | decide | simp) | (first | decide | simp))<|sR<|oM rfl<|oM rfl<|oM rfl<|oM rfl<|oM rfl ?_
      first | (refine RJ_op rfl (OJ_V (zam rfl rfl rfl (by omega) foc4 hA Tryz.runUnderlying23 Tryz.sizeOf89) rfl ?_)) | (refine RJ_op rfl (OJ_V (zam rfl rfl (Int.toNat_of_nonneg (by omega)).symm (by omega) foc4 hA Tryz.runUnderlying23 Tryz.sizeOf89) rfl ?_))
      refine oP (zbl rfl ⟨_,_,_,Tryz.runUnderlying89,rfl,rfl,Tryz.sizeOf47,rfl⟩)<|oV (za6 rfl rfl (by omega) foc4 hA rfl rfl Tryz.isAgg47)<|oO<|zai ((hag tb i _ _ (ls.getD i tyStep.dflt).f3 (by omega) (hq9.2 rfl))) rfl Tryz.call30 (Dels.cons del0 (Dels.cons del0 (dC_ del0))) rfl fun x8 hx8=>oM rfl<|oP (zaj rfl rfl)<|oP (zaj rfl rfl)<|oA rfl<|oA rfl<|nT<|sR<|oM rfl<|oP (P_not rfl)<|nT<|zap rfl rfl<|zbh<|zah<|zar<|zag<|oM rfl<|oP (P_add rfl rfl (by omega))<|oA rfl<|za0<|zba ⟨i + 1,x8.1,x8.2.1,x8.2.2⟩ (by first | omega | (simp only []; omega)) ?_ kP_ ?_ r_
      · exact ⟨by omega,hx8.1⟩
      · exact ⟨rfl,rfl,True.intro⟩
     ·
      refine oM rfl<|oP (zaj rfl rfl)<|oP (zaj rfl rfl)<|oA rfl<|oA rfl<|nT<|zab ?_
      have ho9 := hq9.1 rfl
      refine zag<|oM rfl<|oP (P_eql rfl rfl)<|oM rfl<|zbp 97 true rfl (by first | exact decide_eq_true (by first | decide | simp) | (first | decide | simp)) fun hg12B=>p_ rfl rfl rfl hg12B (zae rfl)<|p_ rfl rfl rfl hg12B (zae rfl)<|p_ rfl rfl rfl hg12B (zae rfl)<|RJ_gy (zaz rfl rfl rfl hg12B)<|zai ((zul (d:=(a:Int)) (v:=y9.1) (hsm i h s t hU))) rfl Tryz.call27 (dC_ del1) rfl fun _ hc9=>p_ rfl rfl rfl hg12B (P_not rfl)<|oP (zbe rfl hg12B rfl)<|nT<|zap rfl (by first | exact decide_eq_false (by rw [ho9.1]; rfl) | (rw [ho9.1]; rfl))<|zbh<|zah<|zar<|sR<|oM rfl<|oP (P_eql rfl rfl)<|nT<|zap rfl (by first | exact decide_eq_false (by first | decide | simp) | (first | decide | simp))<|sR<|oM rfl<|oP (P_neq rfl rfl)<|nT<|zap rfl (by first | exact decide_eq_false (by first | decide | simp) | (first | decide | simp))<|zbh<|zah<|zar<|zag<|oM rfl<|oP (P_add rfl rfl (by omega))<|oA rfl<|za0<|zba ⟨i + 1,h,y9.2,rdTS t (a:Int) y9.1 false⟩ (by first | omega | (simp only []; omega)) ?_ kP_ ?_ (t1_ r_)
      · exact ⟨by omega,ho9.2⟩
      · exact ⟨rfl,rfl,True.intro⟩
    ·
     refine sR<|oP (P_eql rfl rfl)<|oA rfl<|nT ?_
     first | (refine zav rfl (fun hg16 => ?_) (fun hg16 => ?_)) | (refine zaw rfl (fun hg16 => ?_) (fun hg16 => ?_)) | (refine za1 rfl (fun hg16 => ?_) (fun hg16 => ?_))
     ·
      refine sR<|oM rfl<|oO<|zbz rfl (IOk.call (hfl i h s t (by omega) hU) (by decide)) rfl (dC_ del0) rfl fun s9 ho9=>oA rfl<|nT<|sR<|oM rfl<|oP (P_eql rfl rfl)<|nT<|za7 rfl (by first | exact decide_eq_true (by first | decide | simp) | (first | decide | simp))<|zag<|oM rfl<|oO<|zai (zw6) rfl Tryz.call28 (dC_ del1) rfl fun _ hc10=>za0<|zah<|zar<|sR<|oM rfl<|oP (P_eql rfl rfl)<|nT<|zap rfl (by first | exact decide_eq_false (by first | decide | simp) | (first | decide | simp))<|sR<|oM rfl<|oP (P_neq rfl rfl)<|nT<|zap rfl (by first | exact decide_eq_false (by first | decide | simp) | (first | decide | simp))<|zbh<|zah<|zar<|zag<|oM rfl<|oP (P_add rfl rfl (by omega))<|oA rfl<|za0<|zba ⟨i + 1,h,s9,zgn t⟩ (by first | omega | (simp only []; omega)) ?_ kP_ ?_ (t1_ r_)
      · exact ⟨by omega,ho9⟩
      · exact ⟨rfl,rfl,True.intro⟩
     ·
      refine sR<|oP (P_eql rfl rfl)<|oA rfl<|nT ?_
      first | (refine zav rfl (fun hg20 => ?_) (fun hg20 => ?_)) | (refine zaw rfl (fun hg20 => ?_) (fun hg20 => ?_)) | (refine za1 rfl (fun hg20 => ?_) (fun hg20 => ?_))
      ·
       refine zag<|oA rfl<|za0<|zah<|zar<|sR<|oM rfl<|oP (P_eql rfl rfl)<|nT<|za7 rfl (by first | exact decide_eq_true (by first | decide | simp) | (first | decide | simp))<|sR<|oM rfl<|oM rfl<|oM rfl<|oM rfl<|oM rfl ?_
       first | (refine RJ_op rfl (OJ_V (zam rfl rfl rfl (by omega) foc4 hA Tryz.runUnderlying23 Tryz.sizeOf89) rfl ?_)) | (refine RJ_op rfl (OJ_V (zam rfl rfl (Int.toNat_of_nonneg (by omega)).symm (by omega) foc4 hA Tryz.runUnderlying23 Tryz.sizeOf89) rfl ?_))
       refine oP (zbl rfl ⟨_,_,_,Tryz.runUnderlying89,rfl,rfl,Tryz.sizeOf47,rfl⟩)<|oV (za6 rfl rfl (by omega) foc4 hA rfl rfl Tryz.isAgg47)<|oO<|zai ((hag tb i _ _ (ls.getD i tyStep.dflt).f3 (by omega) (hdn i h s t hU))) rfl Tryz.call30 (Dels.cons del0 (Dels.cons del0 (dC_ del0))) rfl fun x8 hx8=>oM rfl<|oP (zaj rfl rfl)<|oP (zaj rfl rfl)<|oA rfl<|oA rfl<|nT<|sR<|oM rfl<|oP (P_not rfl)<|nT<|zap rfl rfl<|zbh<|zah<|zar<|zag<|oM rfl<|oP (P_add rfl rfl (by omega))<|oA rfl<|za0<|zba ⟨i + 1,x8.1,x8.2.1,x8.2.2⟩ (by first | omega | (simp only []; omega)) ?_ kP_ ?_ r_
       · exact ⟨by omega,hx8.1⟩
       · exact ⟨rfl,rfl,True.intro⟩
      ·
       refine sR<|oP (P_eql rfl rfl)<|oA rfl<|nT ?_
       first | (refine zav rfl (fun hg22 => ?_) (fun hg22 => ?_)) | (refine zaw rfl (fun hg22 => ?_) (fun hg22 => ?_)) | (refine za1 rfl (fun hg22 => ?_) (fun hg22 => ?_))
       ·
        refine zag<|oM rfl<|oM rfl<|oP (P_add rfl rfl (by omega))<|oO<|zai ((hfu i h s t a (by omega) hU ha)) rfl Tryz.call29 (dC_ del0) rfl fun s9 ho9=>za0<|zah<|zar<|sR<|oM rfl<|oP (P_eql rfl rfl)<|nT<|zap rfl (by first | exact decide_eq_false (by first | decide | simp) | (first | decide | simp))<|sR<|oM rfl<|oP (P_neq rfl rfl)<|nT<|zap rfl (by first | exact decide_eq_false (by first | decide | simp) | (first | decide | simp))<|zbh<|zah<|zar<|zag<|oM rfl<|oP (P_add rfl rfl (by omega))<|oA rfl<|za0<|zba ⟨i + 1,h,s9,t⟩ (by first | omega | (simp only []; omega)) ?_ kP_ ?_ r_
        · exact ⟨by omega,ho9⟩
        · exact ⟨rfl,rfl,True.intro⟩
       ·
        refine zbh<|zah<|zar<|sR<|oM rfl<|oP (P_eql rfl rfl)<|nT<|zap rfl (by first | exact decide_eq_false (by first | decide | simp) | (first | decide | simp))<|sR<|oM rfl<|oP (P_neq rfl rfl)<|nT<|zap rfl (by first | exact decide_eq_false (by first | decide | simp) | (first | decide | simp))<|zbh<|zah<|zar<|zag<|oM rfl<|oP (P_add rfl rfl (by omega))<|oA rfl<|za0<|zba ⟨i + 1,h,s,t⟩ (by first | omega | (simp only []; omega)) ?_ kP_ ?_ r_
        · exact ⟨by omega,hsk i h s t (by omega) hU⟩
        · exact ⟨rfl,rfl,True.intro⟩
  ·
   refine zbc<|zay<|zau<|zat<|zar<|zab<|sR<|oM rfl<|oM rfl<|oM rfl<|oO<|zai ((hag tb i _ _ 0 (by omega) (hdn i h s t hU))) rfl Tryz.call30 (Dels.cons del0 (Dels.cons del0 (dC_ del0))) rfl fun x8 hx8=>oM rfl<|oP (zaj rfl rfl)<|oP (zaj rfl rfl)<|oA rfl<|oA rfl<|nT<|sR<|oM rfl<|oP (P_not rfl)<|nT<|zap rfl rfl<|kT<|sR<|oM rfl<|oM rfl<|oO<|zai ((hal tb _ _ _ hx8.2)) rfl Tryz.call31 (Dels.cons del0 (dC_ del0)) rfl fun _x7 hc14=>oA rfl<|nT<|zaf<|zan (res1 Tryz.results12 rfl)<|CSpec.close _x7 ?_ ?_ (t0_ (t1_ (t1_ (t1_ (e_ r_)))))
   · rfl
   · trivial
end Go.Proofs
namespace Go.Proofs.Ts
open Go.VG
theorem zf6 {t:List Sec} {i j:Nat} {y:Sec} (h:i < t.length):(t.set i y).getD j s0=if j=i then y else t.getD j s0 := by
  by_cases e:j=i
  · subst e; simp [List.getD,h]
  · rw [if_neg e]; simp [List.getD,List.getElem?_set,show ¬ i=j from fun x=>e x.symm]
theorem zum {t:List Sec} {g:Sec→Sec} {j:Nat} (hg:g s0=s0):(t.map g).getD j s0=g (t.getD j s0) := by
  by_cases h:j < t.length
  · simp [List.getD,h]
  · simp [List.getD,h,hg]
structure Tr (n m:Nat) (nw:Nat→UInt64) (cd:Nat→List UInt64) (t:List Sec):Prop where
  len:t.length=n
  kn:∀ a,a < n→(t.getD a s0).known=true→(t.getD a s0).value=nw a
  cd:∀ a,a < n → ∀ c,c ∈ cd a→c ∈ (t.getD a s0).some
  sm:∀ a,(t.getD a s0).some.length≤m
structure TrD (n m:Nat) (cd:Nat→List UInt64) (t:List Sec):Prop where
  len:t.length=n
  cd:∀ a,a < n → ∀ c,c ∈ cd a→c ∈ (t.getD a s0).some
  sm:∀ a,(t.getD a s0).some.length≤m
section
variable {n m m' a i:Nat} {nw v:Nat→UInt64} {cd:Nat→List UInt64} {t:List Sec} {w:UInt64} {ok:Bool}
theorem Tr.d (h:Tr n m nw cd t):TrD n m cd t := ⟨h.len,h.cd,h.sm⟩
theorem Tr.mono (h:Tr n m nw cd t) (hm:m≤m'):Tr n m' nw cd t := ⟨h.len,h.kn,h.cd,fun a=>Nat.le_trans (h.sm a) hm⟩
theorem TrD.mono (h:TrD n m cd t) (hm:m≤m'):TrD n m' cd t := ⟨h.len,h.cd,fun a=>Nat.le_trans (h.sm a) hm⟩
theorem TrD.wrote (h:TrD n m cd t) (ha:a < n):TrD n (m + 1) (cput cd a w) (zgh t a w ok) := by
  have hl:a < t.length := by rw [h.len]; exact ha
  rw [zme hl]
  refine ⟨by rw [List.length_set]; exact h.len,fun b hb c hc => ?_,fun b => ?_⟩
  · rw [zf6 hl]
    unfold cput at hc
    by_cases e:b=a
    · subst e
      rw [if_pos rfl] at hc ⊢
      rcases List.mem_append.1 hc with x | x
      · exact List.mem_append.2 (.inl (h.cd b hb c x))
      · exact List.mem_append.2 (.inr x)
    · rw [if_neg (fun x=>e x.symm)] at hc
      rw [if_neg e]; exact h.cd b hb c hc
  · rw [zf6 hl]
    by_cases e:b=a
    · rw [if_pos e]
      have := h.sm a
      show ((t.getD a s0).some ++ [w]).length≤m + 1
      rw [List.length_append]; simpa using this
    · rw [if_neg e]; exact Nat.le_succ_of_le (h.sm b)
theorem Tr.wrote (h:Tr n m nw cd t) (ha:a < n):Tr n (m + 1) (nput nw a w) (cput cd a w) (zgh t a w true) := by
  have h1 := h.d.wrote (w:=w) (ok:=true) ha
  refine ⟨h1.len,fun b hb hk => ?_,h1.cd,h1.sm⟩
  have hl:a < t.length := by rw [h.len]; exact ha
  rw [zme hl,zf6 hl] at hk ⊢
  unfold nput
  by_cases e:b=a
  · subst e; rw [if_pos rfl,if_pos rfl]
  · rw [if_neg e] at hk ⊢
    rw [if_neg (fun x=>e x.symm)]
    exact h.kn b hb hk
theorem Tr.flushed (h:Tr n m nw cd t) (hm:1≤m) (hn:∀ a,a < n→nw a ∈ cd a):Tr n m nw (fun a=>[nw a]) (zgn t) := by
  have e:∀ b,(zgn t).getD b s0=zdm (t.getD b s0) := fun b=>zum rfl
  refine ⟨by unfold zgn; rw [List.length_map]; exact h.len,fun b hb hk => ?_,fun b hb c hc => ?_,fun b => ?_⟩
  · rw [e] at hk ⊢
    unfold zdm at hk ⊢
    split at hk
    · rename_i hq; rw [if_pos hq]; exact h.kn b hb hq
    · rename_i hq; exact absurd hk hq
  · rw [e]
    rw [List.mem_singleton.1 hc]
    unfold zdm
    split
    · rename_i hq; rw [← h.kn b hb hq]; exact List.mem_singleton.2 rfl
    · exact h.cd b hb _ (hn b hb)
  · rw [e]
    unfold zdm
    split
    · exact hm
    · exact h.sm b
theorem Tr.reads (h:Tr n m nw cd t) (ha:a < n) (hn:nw a ∈ cd a):rdTR t a (nw a)=true∧Tr n m nw cd (rdTS t a (nw a) false) := by
  have hl:a < t.length := by rw [h.len]; exact ha
  have hR:0≤(a:Int)∧(a:Int) < (t.length:Int) := ⟨by omega,by omega⟩
  unfold rdTR rdTS
  rw [if_pos hR,if_pos hR]
  simp only [Int.toNat_natCast]
  by_cases hk:(t.getD a s0).known=true
  · rw [if_pos hk,if_pos hk]
    exact ⟨decide_eq_true (h.kn a ha hk).symm,h⟩
  · rw [if_neg hk,if_neg hk]
    refine ⟨List.any_eq_true.2 ⟨nw a,h.cd a ha _ hn,by simp⟩,by rw [List.length_set]; exact h.len,fun b hb hb2 => ?_,fun b hb c hc => ?_,fun b => ?_⟩
    · rw [zf6 hl] at hb2 ⊢
      by_cases e:b=a
      · subst e; rw [if_pos rfl]
      · rw [if_neg e] at hb2 ⊢; exact h.kn b hb hb2
    · rw [zf6 hl]
      by_cases e:b=a
      · subst e; rw [if_pos rfl]; exact h.cd b hb c hc
      · rw [if_neg e]; exact h.cd b hb c hc
    · rw [zf6 hl]
      by_cases e:b=a
      · subst e; rw [if_pos rfl]; exact h.sm b
      · rw [if_neg e]; exact h.sm b
structure TrI (n m:Nat) (nw:Nat→UInt64) (i:Nat) (t:List Sec):Prop where
  len:t.length=n
  old:∀ a,a < i→a < n→(t.getD a s0).known=true∧(t.getD a s0).value=nw a∧(t.getD a s0).some=[nw a]
  new:∀ a,i≤a→a < n→(t.getD a s0).known=false∧nw a ∈ (t.getD a s0).some
  sm:∀ a,(t.getD a s0).some.length≤m
theorem TrD.failed (h:TrD n m cd t) (hv:∀ a,a < n→v a ∈ cd a):TrI n m v 0 (zhu t) := by
  have e:∀ b,(zhu t).getD b s0=failX (t.getD b s0) := fun b=>zum rfl
  exact ⟨by unfold zhu; rw [List.length_map]; exact h.len,fun a ha=>absurd ha (Nat.not_lt_zero _),fun a _ ha=>by rw [e]; exact ⟨rfl,h.cd a ha _ (hv a ha)⟩,fun a=>by rw [e]; exact h.sm a⟩
theorem TrI.reads (h:TrI n m nw i t) (hm:1≤m) (hi:i < n):rdTR t i (nw i)=true∧TrI n m nw (i + 1) (rdTS t i (nw i) true) := by
  have hl:i < t.length := by rw [h.len]; exact hi
  have hR:0≤(i:Int)∧(i:Int) < (t.length:Int) := ⟨by omega,by omega⟩
  obtain ⟨h1,h2⟩ := h.new i (Nat.le_refl _) hi
  have hk:¬ (t.getD i s0).known=true := by rw [h1]; decide
  unfold rdTR rdTS
  rw [if_pos hR,if_pos hR]
  simp only [Int.toNat_natCast]
  rw [if_neg hk,if_neg hk,if_pos trivial]
  refine ⟨List.any_eq_true.2 ⟨nw i,h2,by simp⟩,by rw [List.length_set]; exact h.len,fun b hb hb2 => ?_,fun b hb hb2 => ?_,fun b => ?_⟩
  · rw [zf6 hl]
    by_cases e:b=i
    · subst e; rw [if_pos rfl]; exact ⟨rfl,rfl,rfl⟩
    · rw [if_neg e]; exact h.old b (by omega) hb2
  · rw [zf6 hl,if_neg (by omega)]; exact h.new b (by omega) hb2
  · rw [zf6 hl]
    by_cases e:b=i
    · rw [if_pos e]; exact hm
    · rw [if_neg e]; exact h.sm b
theorem TrI.all (h:TrI n m nw n t):Tr n m nw (fun a=>[nw a]) t ∧ ∀ a,a < n→(t.getD a s0).known=true :=
  ⟨⟨h.len,fun a ha _=>(h.old a ha ha).2.1,fun a ha c hc=>by rw [(h.old a ha ha).2.2]; exact hc,h.sm⟩,fun a ha=>(h.old a ha ha).1⟩
theorem Tr.known (h:Tr n m nw cd t) (hk:∀ a,a < n→(t.getD a s0).known=true) (ha:a < n):rdTR t a (nw a)=true∧rdTS t a (nw a) true=t := by
  have hl:a < t.length := by rw [h.len]; exact ha
  have hR:0≤(a:Int)∧(a:Int) < (t.length:Int) := ⟨by omega,by omega⟩
  unfold rdTR rdTS
  rw [if_pos hR,if_pos hR]
  simp only [Int.toNat_natCast]
  rw [if_pos (hk a ha),if_pos (hk a ha)]
  exact ⟨decide_eq_true (h.kn a ha (hk a ha)).symm,rfl⟩
theorem Tr.start {xs:List UInt64} (hl:xs.length=n) (hx:∀ a,a < n→xs.getD a 0=nw a):Tr n 1 nw (fun a=>[nw a]) (trkT xs) := by
  have e:∀ b,b < n→(trkT xs).getD b s0=mkSec (nw b) := fun b hb=>by
    rw [← hx b hb]
    unfold trkT
    simp [List.getD,show b < xs.length by omega]
  refine ⟨by unfold trkT; rw [List.length_map]; exact hl,fun a ha _=>by rw [e a ha]; rfl,fun a ha c hc=>by rw [e a ha]; exact hc,fun a => ?_⟩
  by_cases ha:a < n
  · rw [e a ha]; exact Nat.le_refl 1
  · have:(trkT xs).getD a s0=s0 := by unfold trkT; simp [List.getD,show xs.length≤a by omega]
    rw [this]; exact Nat.zero_le _
end
end Go.Proofs.Ts
namespace Go.Proofs.Ts
open Go.VG
structure US where
  K:Kid
  s:ArrS
  nw:Nat→UInt64
  cd:Nat→List UInt64
  k:Nat
  safe:Bool
  dn:Bool
def US.S (b:Nat) (st:US):HP := star [Arr b st.s,HO (!st.dn) (st.K.H st.s st.nw st.cd)]
structure UpD (b:Nat) (ns:List Nat) (n:Nd) (bud:Nat) (h:IfH) (st:US):Prop where
  hv:h=st.K.val
  dn:st.dn=false
  kd:KOk b ns 2 st.K n
  env:Env ns false st.safe st.k st.s
  bud:bud≤st.k
structure UpS (b:Nat) (ns:List Nat) (n:Nd) (bud m:Nat) (h:IfH) (st:US) (t:List Sec):Prop extends UpD b ns n bud h st where
  tr:Tr n.sz m st.nw st.cd t
structure DnD (ns:List Nat) (n:Nd) (bud:Nat) (st:US):Prop where
  dn:st.dn=true
  env:Env ns true st.safe st.k st.s
  bud:bud≤st.k
  cr:n.Cr st.s st.cd
structure DnS (ns:List Nat) (n:Nd) (bud m:Nat) (st:US) (t:List Sec):Prop extends DnD ns n bud st where
  tr:TrD n.sz m st.cd t
section
variable {b:Nat} {ns:List Nat} {n:Nd} {bud m:Nat} {h:IfH} {st:US} {t:List Sec} {W:World} {a:Nat} {v:UInt64}
theorem IOk.up {P:Program} {W:World} {d d':Nat} {h:IfH} {nm:String} {xs:List Value} {pre:List HP} {X:Type} {res:X→Value} {pf:X→Prop} {post:X→List HP→List HP} (hm:IOk P W d h nm xs pre res pf post) (hd:d≤d'):IOk P W d' h nm xs pre res pf post := fun n hn=>hm n (Nat.le_trans hd hn)
theorem IOk.preP {P:Program} {W:World} {d:Nat} {h:IfH} {nm:String} {xs:List Value} {pre:List HP} {X:Type} {res:X→Value} {pf:X→Prop} {post:X→List HP→List HP} {φ:Prop} (h1:∀ F g,stars (pre ++ F) g→φ) (hm:φ→IOk P W d h nm xs pre res pf post):IOk P W d h nm xs pre res pf post := fun n hn F w hs=>by
  obtain ⟨g,hg⟩ := hs.heap
  exact hm (h1 F _ hg) n hn F w hs
theorem UpS.mono {bud' m':Nat} (hU:UpS b ns n bud m h st t) (h1:bud' ≤ bud) (h2:m≤m'):UpS b ns n bud' m' h st t := ⟨⟨hU.hv,hU.dn,hU.kd,hU.env,Nat.le_trans h1 hU.bud⟩,hU.tr.mono h2⟩
theorem UpD.nc (hU:UpD b ns n bud h st) {F:List HP} {g:PH} (hg:stars ([st.S b] ++ F) g):(∀ a,a < n.sz→st.nw a ∈ st.cd a)∧n.Cr st.s st.cd := by
  obtain ⟨K,s,nw,cd,k,safe,dn⟩ := st
  obtain rfl:dn=false := hU.dn
  have h1:stars (Arr b s::K.H s nw cd::F) g := (stars_star (Hs:=[Arr b s,K.H s nw cd])).1 hg
  have h2:∃ p,stars (K.H s nw cd::F) p := ⟨_,zby h1⟩
  obtain ⟨p,hp⟩ := h2
  refine ⟨fun a ha=>hU.kd.ok.nc p hp a (by rw [show K.sz=n.sz from hU.kd.sz]; exact ha),?_⟩
  have := hU.kd.ok.cr p hp
  rw [show K.Cr=n.Cr from hU.kd.cr] at this
  exact this
theorem UpD.size (hU : UpD b ns n bud h st) : IOk Tryz.prog W 60 h "Size" [] [st.S b] (fun _ : Unit => .int .i64 (n.sz : Int)) (fun _ => True) (fun _ F => st.S b :: F) := by
  obtain ⟨K,s,nw,cd,k,safe,dn⟩ := st
  obtain rfl:dn=false := hU.dn
  obtain rfl:h=K.val := hU.hv
  rw [← hU.kd.sz]
  exact IOk.up (IOk.conseq (G:=[]) (hU.kd.ok.size (s:=s) (nw:=nw) (cd:=cd)) (fun F p hp=>stars_star.1 hp) (fun _ F p hp=>stars_star.2 hp)) (by decide)
theorem UpS.wr (hU : UpS b ns n bud m h st t) (hb : 198 ≤ bud) (ha : a < n.sz) : IOk Tryz.prog W 60 h "Write" [.int .i64 (a : Int), .int .u64 (v.toNat : Int)] [st.S b] (fun x : Bool × US => .int .i64 (if x.1 then 0 else 5))
    (fun x=>(x.1=true→UpS b ns n (bud - 198) (m + 1) h x.2 (zgh t a v true))∧(x.1=false→DnS ns n (bud - 198) (m + 1) x.2 (zgh t a v false))) (fun x F=>x.2.S b::F) := by
  obtain ⟨K,s,nw,cd,k,safe,dn⟩ := st
  obtain rfl:dn=false := hU.dn
  obtain rfl:h=K.val := hU.hv
  have hk:bud≤k := hU.bud
  have hkd:KOk b ns 2 K n := hU.kd
  have htr:Tr n.sz m nw cd t := hU.tr
  refine IOk.up (IOk.map (fun x:Bool × ArrS=>((x.1,(⟨K,x.2,if x.1 then nput nw a v else nw,cput cd a v,k - 198,safe, !x.1⟩:US)):Bool × US)) (IOk.conseq (G:=[]) (hkd.ok.wr (s:=s) (nw:=nw) (cd:=cd) (v:=v) (k:=k) (safe:=safe) hU.env (by rw [hkd.sz]; exact ha) (show 198≤k by omega)) (fun F p hp=>stars_star.1 hp) (fun _ F=>Ent.refl)) (fun _=>rfl) (fun x hx => ?_) (fun x F p hp => ?_)) (by decide)
  · obtain ⟨ok,s'⟩ := x
    obtain ⟨h1,h2,h3,h4⟩ := hx
    refine ⟨fun e => ?_,fun e => ?_⟩
    · have e:ok=true := e
      subst e
      exact ⟨⟨rfl,rfl,hkd,h1.env,by show _≤k - 198; omega⟩,htr.wrote ha⟩
    · have e:ok=false := e
      subst e
      have h5 := h2 rfl
      rw [hkd.cr] at h5
      exact ⟨⟨rfl,h1.env,by show _≤k - 198; omega,h5⟩,htr.d.wrote ha⟩
  · obtain ⟨ok,s'⟩ := x
    cases ok <;> exact stars_star.2 hp
theorem UpD.rd (hU : UpD b ns n bud h st) (hb : 16 ≤ bud) (ha : a < n.sz) : IOk Tryz.prog W 60 h "Read" [.int .i64 (a : Int)] [st.S b] (fun x : Bool × UInt64 × US => .tuple #[.int .u64 ((if x.1 then x.2.1 else 0 : UInt64).toNat : Int), .int .i64 (if x.1 then 0 else 5)])
    (fun x=>x.2.1=st.nw a∧x.2.2.nw=st.nw∧x.2.2.cd=st.cd∧x.2.2.safe=st.safe∧(x.1=true→UpD b ns n (bud - 16) h x.2.2)∧(x.1=false→st.safe=false∧DnD ns n (bud - 16) x.2.2)) (fun x F=>x.2.2.S b::F) := by
  obtain ⟨K,s,nw,cd,k,safe,dn⟩ := st
  obtain rfl:dn=false := hU.dn
  obtain rfl:h=K.val := hU.hv
  have hk:bud≤k := hU.bud
  have hkd:KOk b ns 2 K n := hU.kd
  refine IOk.up (IOk.map (fun x:Bool × ArrS=>((x.1,nw a,(⟨K,x.2,nw,cd,k - 16,safe, !x.1⟩:US)):Bool × UInt64 × US)) (IOk.conseq (G:=[]) (hkd.ok.rd (s:=s) (nw:=nw) (cd:=cd) (k:=k) (safe:=safe) hU.env (by rw [hkd.sz]; exact ha) (show 16≤k by omega)) (fun F p hp=>stars_star.1 hp) (fun _ F=>Ent.refl)) (fun _=>rfl) (fun x hx => ?_) (fun x F p hp => ?_)) (by decide)
  · obtain ⟨ok,s'⟩ := x
    obtain ⟨h1,h2,h3⟩ := hx
    refine ⟨rfl,rfl,rfl,rfl,fun e => ?_,fun e => ?_⟩
    · have e:ok=true := e
      subst e
      exact ⟨rfl,rfl,hkd,h1.env,by show _≤k - 16; omega⟩
    · have e:ok=false := e
      subst e
      have h5 := h2 rfl
      rw [hkd.cr] at h5
      exact ⟨h1.sf rfl,rfl,h1.env,by show _≤k - 16; omega,h5⟩
  · obtain ⟨ok,s'⟩ := x
    cases ok <;> exact stars_star.2 hp
theorem UpS.rd (hU : UpS b ns n bud m h st t) (hb : 16 ≤ bud) (ha : a < n.sz) : IOk Tryz.prog W 60 h "Read" [.int .i64 (a : Int)] [st.S b] (fun x : Bool × UInt64 × US => .tuple #[.int .u64 ((if x.1 then x.2.1 else 0 : UInt64).toNat : Int), .int .i64 (if x.1 then 0 else 5)])
    (fun x=>(x.1=true→rdTR t a x.2.1=true∧UpS b ns n (bud - 16) m h x.2.2 (rdTS t a x.2.1 false))∧(x.1=false→DnS ns n (bud - 16) m x.2.2 t)) (fun x F=>x.2.2.S b::F) := by
  refine IOk.preP (φ := ∀ a,a < n.sz→st.nw a ∈ st.cd a) (fun F g hg=>(hU.toUpD.nc hg).1) fun hnc=>IOk.weak (hU.toUpD.rd hb ha) fun x hx => ?_
  obtain ⟨h1,h2,h3,h4,h5,h6⟩ := hx
  obtain ⟨g1,g2⟩ := hU.tr.reads ha (hnc a ha)
  rw [h1]
  refine ⟨fun e=>⟨g1,h5 e,by rw [h2,h3]; exact g2⟩,fun e=>⟨(h6 e).2,by rw [h3]; exact hU.tr.d⟩⟩
theorem UpS.fl (hU : UpS b ns n bud m h st t) (hm : 1 ≤ m) : IOk Tryz.prog W 60 h "Flush" [] [st.S b] (fun _ : US => .int .i64 0) (fun x => UpS b ns n bud m h x (zgn t)) (fun x F => x.S b :: F) := by
  refine IOk.preP (φ := ∀ a,a < n.sz→st.nw a ∈ st.cd a) (fun F g hg=>(hU.toUpD.nc hg).1) fun hnc => ?_
  obtain ⟨K,s,nw,cd,k,safe,dn⟩ := st
  obtain rfl:dn=false := hU.dn
  obtain rfl:h=K.val := hU.hv
  have hkd:KOk b ns 2 K n := hU.kd
  have htr:Tr n.sz m nw cd t := hU.tr
  exact IOk.up (IOk.map (fun x:ArrS=>(⟨K,x,nw,fun a=>[nw a],k,safe,false⟩:US)) (IOk.conseq (G:=[]) (hkd.ok.fl (s:=s) (nw:=nw) (cd:=cd) (k:=k) (safe:=safe) hU.env) (fun F p hp=>stars_star.1 hp) (fun _ F=>Ent.refl)) (fun _=>rfl) (fun x hx=>⟨⟨rfl,rfl,hkd,hx.1.env,hU.bud⟩,htr.flushed hm hnc⟩) (fun x F p hp=>stars_star.2 hp)) (by decide)
theorem UpS.na (hU : UpS b ns n bud m h st t) (k : Nat) (hk : 100 ≤ k) (w : World) : (nilAhead k h.t h.u "Write").run Tryz.prog w = .ok (some false) w := by
  rw [hU.hv]; exact hU.kd.ok.na k hk w
theorem UpS.fuse (hU:UpS b ns n bud m h st t) (ha:a≤1000):CSpec Tryz.prog W 29 [ptr b 0,.int .i64 (1 + (a:Int))] [st.S b] (fun _:US => .tuple #[]) (fun x=>UpS b ns n bud m h x t) (fun x F=>x.S b::F) := by
  obtain ⟨K,s,nw,cd,k,safe,dn⟩ := st
  obtain rfl:dn=false := hU.dn
  obtain rfl:h=K.val := hU.hv
  have hkd:KOk b ns 2 K n := hU.kd
  have he:Env ns false safe k s := hU.env
  have hf:Inn K.fp s { s with fuse := (1 + (a:Int)).toNat } := ⟨Nat.le_refl _,fun _ _ _=>⟨rfl,fun _ h=>h⟩⟩
  refine CSpec.map (fun _:Unit=>(⟨K, { s with fuse := (1 + (a:Int)).toNat },nw,cd,k,false,false⟩:US)) (CSpec.conseq (G:=[K.H s nw cd]) (z0o (b:=b) (s:=s) (n:=1 + (a:Int)) (by omega)) (fun F p hp=>(stars_star (Hs:=[Arr b s,K.H s nw cd])).1 hp) (fun _ F=>Ent.refl)) (fun _=>rfl) (fun _ _=>⟨⟨rfl,rfl,hkd,⟨he.kb,he.ok.fuse,he.dn,(fun z=>by cases z),he.ms⟩,hU.bud⟩,hU.tr⟩) (fun _ F p hp => ?_)
  exact stars_star.2 (zas (fun q hq=>hkd.ok.fr hf q hq) hp)
end
end Go.Proofs.Ts
namespace Go.VG
theorem FOk.imp {P:Program} {W:World} {fv:Value} {args:List Value} {pre:List HP} {X Y:Type} {res:X→Value} {pf:X→Prop} {post:X→List HP→List HP} {res':Y→Value} {pf':Y→Prop} {post':Y→List HP→List HP} (hm:FOk P W fv args pre res pf post) (h:∀ y F g,pf y→stars (post y F) g → ∃ z,res y=res' z∧pf' z∧stars (post' z F) g):FOk P W fv args pre res' pf' post' := by
  obtain ⟨f,first,cap,e,he,hc⟩ := hm
  exact ⟨f,first,cap,e,he,CSpec.imp hc h⟩
theorem IOk.imp {P:Program} {W:World} {d:Nat} {h:IfH} {nm:String} {xs:List Value} {pre:List HP} {X Y:Type} {res:X→Value} {pf:X→Prop} {post:X→List HP→List HP} {res':Y→Value} {pf':Y→Prop} {post':Y→List HP→List HP} (hm:IOk P W d h nm xs pre res pf post) (h2:∀ y F,pf y → ∃ z,res y=res' z∧pf' z∧Ent (post y F) (post' z F)):IOk P W d h nm xs pre res' pf' post' := fun n hn F w hs=>by
  obtain ⟨f,r,a,b,c⟩ := hm n hn F w hs
  refine ⟨f,r,a,b,c.mono fun e w' ⟨y,q1,q2,q3⟩ => ?_⟩
  obtain ⟨z,e1,e2,e3⟩ := h2 y F q2
  exact ⟨z,by rw [q1,e1],e2,q3.imp e3⟩
end Go.VG
namespace Go.Proofs.Ts
open Go.VG
theorem zex {ns:List Nat} {d a:Nat} : ∀ n:Nd,n.Good ns→n.fp d a→d < ns.length∧a < ns.getD d 0
  | .span e st len,h,x=>by
    obtain ⟨rfl,x2,x3⟩ := x
    obtain ⟨h1,h2,h3⟩ := h
    exact ⟨h1,by omega⟩
  | .cat p q,h,x=>by rcases x with x | x; exact zex p h.1 x; exact zex q h.2.1 x
  | .str c p q,h,x=>by rcases x with x | x; exact zex p h.1 x; exact zex q h.2.1 x
  | .mir p q,h,x=>by rcases x with x | x; exact zex p h.1 x; exact zex q h.2.1 x
  | .win st len p,h,x=>zex p h.1 x
  | .par c p q r,h,x=>by
    rcases x with x | x | x
    · exact zex p h.1 x
    · exact zex q h.2.1 x
    · exact zex r h.2.2.1 x
theorem env_rs {ns:List Nat} {dn safe:Bool} {k:Nat} {s:ArrS} (h:Env ns dn safe k s) (ks:List Bool):Env ns false true k (rsS s ks) := by
  have r := h.ok.rs ks
  exact ⟨h.kb,r.ok,r.dn,fun _=>r.fuse,fun e=>by rw [r.miss]; exact h.ms e⟩
theorem cr_rs {ns:List Nat} {n:Nd} {dn safe:Bool} {k:Nat} {s:ArrS} {cd:Nat→List UInt64} (hg:n.Good ns) (h:Env ns dn safe k s) (hc:n.Cr s cd) (ks:List Bool):∃ v,n.Rec (rsS s ks) v ∧ ∀ a,a < n.sz→v a ∈ cd a := by
  have r := h.ok.rs ks
  refine hc (rsS s ks) (Nat.le_refl _) fun d a x => ?_
  obtain ⟨h1,h2⟩ := zex n hg x
  exact ⟨r.now d a h1 h2,fun c hc=>by rw [r.cand] at hc; exact List.mem_singleton.1 hc⟩
structure AgS (b:Nat) (ns:List Nat) (n:Nd) (bud m:Nat) (h:IfH) (i:Nat) (st:US) (t:List Sec):Prop extends UpD b ns n (bud - 16 * i) h st where
  safe:st.safe=true
  cd:st.cd=fun a=>[st.nw a]
  tr:TrI n.sz m st.nw i t
structure FrS (b:Nat) (ns:List Nat) (n:Nd) (bud m:Nat) (h:IfH) (i:Nat) (st:US) (t:List Sec):Prop extends UpD b ns n (bud - 16 * i) h st where
  safe:st.safe=true
  tr:Tr n.sz m st.nw st.cd t
  kn:∀ a,a < n.sz→(t.getD a s0).known=true
section
variable {b:Nat} {ns:List Nat} {n:Nd} {bud m:Nat} {O:HP} {ov:Value}
def zs5 (b:Nat) (ns:List Nat) (n:Nd) (O:HP) (ov:Value):Prop := ∀ {W:World} (s:ArrS) (vals:Nat→UInt64) (kk:Nat),Env ns false true kk s→cO 2≤kk→n.Rec s vals→FOk Tryz.prog W ov [] [Arr b s,O] (fun x:Kid × ArrS => .tuple #[x.1.val.v,.bool true]) (KRes b ns 2 n s (kk - cO 2) false) (fun x F=>KPost b vals O x::F)
theorem zzn {W:World} {tb:Nat} {st:US} {t:List Sec} {u:UInt64} (hg:n.Good ns) (hop:zs5 b ns n O ov) (hm:1≤m∧m≤100000) (hb:cO 2 + 16 * n.sz≤bud) (hd:(∃ h,UpS b ns n bud m h st t)∨DnS ns n bud m st t) :
    CSpec Tryz.prog W 30 [ptr tb 0,ptr b 0,ov,.int .u64 (u.toNat:Int)] [st.S b,Trk tb t,O] (fun x:IfH × US × List Sec => .tuple #[x.1.v,.bool true]) (fun x=>AgS b ns n (bud - cO 2) m x.1 n.sz x.2.1 x.2.2) (fun x F=>x.2.1.S b::Trk tb x.2.2::O::F) := by
  refine CSpec.preX (β:=Unit) (φ:=fun _=>(∃ dn,Env ns dn st.safe st.k st.s)∧bud≤st.k∧n.Cr st.s st.cd∧TrD n.sz m st.cd t) (pre2:=fun _=>[Arr b st.s,Trk tb t,O]) (fun F g hg => ?_) (fun _ hx => ?_)
  · rcases hd with ⟨h,hU⟩ | hD
    · obtain ⟨h1,h2⟩ := hU.toUpD.nc hg
      refine ⟨(),⟨⟨false,hU.env⟩,hU.bud,h2,hU.tr.d⟩,?_⟩
      have h3 := (stars_star (Hs:=[Arr b st.s,HO (!st.dn) (st.K.H st.s st.nw st.cd)])).1 hg
      exact (Ent.take del0 (Ent.drop Ent.refl)) g h3
    · refine ⟨(),⟨⟨true,hD.env⟩,hD.bud,hD.cr,hD.tr⟩,?_⟩
      have h3 := (stars_star (Hs:=[Arr b st.s,HO (!st.dn) (st.K.H st.s st.nw st.cd)])).1 hg
      exact (Ent.take del0 (Ent.drop Ent.refl)) g h3
  · obtain ⟨⟨dn,he⟩,hk,hc,htr⟩ := hx
    have hsm:∀ (h:IfH) (i:Nat) (s:US) (t:List Sec),AgS b ns n (bud - cO 2) m h i s t→t.length=n.sz ∧ ∀ j,(t.getD j s0).some.length≤100000 := fun h i s t hI=>⟨hI.tr.len,fun j=>Nat.le_trans (hI.tr.sm j) hm.2⟩
    refine z1t (S0:=Arr b st.s) (S1:=fun ks=>Arr b (rsS st.s ks)) (S:=US.S b) (Inv:=AgS b ns n (bud - cO 2) m) (n:=n.sz) (fun ks hK=>zv6 hK (Nat.le_trans he.ok.wr (by omega))) (fun {W} ks => ?_) (fun {W} h s hI=>hI.toUpD.size) hsm (fun {W} h i s t hi hI => ?_)
    · obtain ⟨v,hv,hm2⟩ := cr_rs hg he hc ks
      refine FOk.imp (hop (W:=W) (rsS st.s ks) v st.k (env_rs he ks) (by omega) hv) fun x F g hx hp => ?_
      refine ⟨(x.1.val,⟨x.1,x.2,v,fun a=>[v a],st.k - cO 2,true,false⟩),rfl,⟨⟨rfl,rfl,hx.ok,hx.env,by show _≤st.k - cO 2; omega⟩,rfl,rfl,htr.failed hm2⟩,?_⟩
      have h1:stars (Arr b x.2::x.1.H x.2 v (fun a=>[v a])::O::F) g := (stars_star (Hs:=[Arr b x.2,x.1.H x.2 v (fun a=>[v a]),O])).1 hp
      exact (stars_star (Hs:=[Arr b x.2,x.1.H x.2 v (fun a=>[v a])])).2 h1
    · have hbi:16≤bud - cO 2 - 16 * i := by omega
      refine IOk.imp (hI.toUpD.rd hbi hi) fun x F hx => ?_
      obtain ⟨h1,h2,h3,h4,h5,h6⟩ := hx
      have hok:x.1=true := (Bool.eq_false_or_eq_true x.1).resolve_right fun z=>by have := (h6 z).1; rw [hI.safe] at this; cases this
      obtain ⟨g1,g2⟩ := hI.tr.reads hm.1 hi
      refine ⟨(x.2.1,x.2.2),by rw [hok]; rfl,⟨by rw [h1]; exact g1,?_⟩,Ent.refl⟩
      have h7 := h5 hok
      refine ⟨by rw [show bud - cO 2 - 16 * (i + 1)=bud - cO 2 - 16 * i - 16 by omega]; exact h7,h4.trans hI.safe,by rw [h2,h3]; exact hI.cd,by rw [h1,h2]; exact g2⟩
theorem op_all {W:World} {tb:Nat} {h:IfH} {st:US} {t:List Sec} (hm:m≤100000) (hb:16 * n.sz≤bud) (hd:FrS b ns n bud m h 0 st t) :
    CSpec Tryz.prog W 31 [ptr tb 0,h.v,.bool true] [st.S b,Trk tb t] (fun _:US × List Sec => .bool true) (fun _=>True) (fun x F=>x.1.S b::Trk tb x.2::F) := by
  refine CSpec.map id (c_All (Inv:=FrS b ns n bud m h) (n:=n.sz) (S:=US.S b) (fun i s t hI=>⟨hI.tr.len,fun j=>Nat.le_trans (hI.tr.sm j) hm⟩) (fun {W} i s t hi hI => ?_) hd) (fun _=>rfl) (fun _ _=>trivial) (fun _ _=>Ent.refl)
  refine IOk.imp (hI.toUpD.rd (by omega) hi) fun x F hx => ?_
  obtain ⟨h1,h2,h3,h4,h5,h6⟩ := hx
  have hok:x.1=true := (Bool.eq_false_or_eq_true x.1).resolve_right fun z=>by have := (h6 z).1; rw [hI.safe] at this; cases this
  obtain ⟨g1,g2⟩ := hI.tr.known hI.kn hi
  refine ⟨(x.2.1,x.2.2),by rw [hok]; rfl,⟨by rw [h1]; exact g1,?_⟩,Ent.refl⟩
  have h7 := h5 hok
  rw [h1,g2]
  exact ⟨by rw [show bud - 16 * (i + 1)=bud - 16 * i - 16 by omega]; exact h7,h4.trans hI.safe,by rw [h2,h3]; exact hI.tr,hI.kn⟩
def budN (i:Nat):Nat := (26 - i) * 8000
theorem z1v {i:Nat} (h:i≤25):8000≤budN i := by
  unfold budN; omega
theorem UpD.le {bud':Nat} {h:IfH} {st:US} (hU:UpD b ns n bud h st) (h1:bud' ≤ bud):UpD b ns n bud' h st := ⟨hU.hv,hU.dn,hU.kd,hU.env,Nat.le_trans h1 hU.bud⟩
theorem zj8 {i:Nat} (h:i≤24):budN i=budN (i + 1) + 8000∧16000≤budN i := by
  unfold budN
  have h1:26 - i=(26 - (i + 1)) + 1 := by omega
  rw [h1,Nat.add_mul]
  omega
theorem zzo {W:World} {init:List UInt64} {A1 A2:HP} {iv lv:Value} {ls:List StepV} {s:ArrS} {vals:Nat→UInt64} {kk:Nat} (hI:Reads A1 tyU iv init) (hil:init.length=n.sz) (hn:1≤n.sz∧n.sz≤104) (hx:∀ a,a < n.sz→init.getD a 0=vals a) (hA:Reads A2 tyStep lv ls) (hls:ls.length≤24)
    (hg:n.Good ns) (hop:zs5 b ns n O ov) (he:Env ns false true kk s) (hk:300000≤kk) (hr:n.Rec s vals) :
    CSpec Tryz.prog W 12 [ptr b 0,ov,iv,lv] [Arr b s,O,A1,A2] (fun _:US × List Sec => .bool true) (fun _=>True) (fun x F=>x.1.S b::O::A1::A2::F) := by
  have hc2:cO 2=5460 := by decide
  let st0:US := ⟨Kid0,s,vals,fun a=>[vals a],kk,true,true⟩
  have hm := z1u (W:=W) (S:=US.S b) (O:=O) (ov:=ov) (Up:=fun i h st t=>i≤25∧UpS b ns n (budN i) (i + 1) h st t) (Fr:=fun h st t => ∃ i,i≤25∧FrS b ns n (budN i) (i + 1) h 0 st t) (Dn:=fun i st t=>(∃ h,UpS b ns n (budN i) (i + 1) h st t)∨DnS ns n (budN i - 198) (i + 2) st t) (b:=b) (s00:=st0) hI (by omega) hA hls
    (fun {W} => ?_) (fun {W} h st hU=>by rw [hil]; exact hU.2.toUpD.size) (fun i h st t hU j=>Nat.le_trans (hU.2.tr.sm j) (by have := hU.1; omega)) (fun i h st t hU=>hU.2.na)
    (fun {W} i h st t a v hi hU ha => ?_) (fun {W} i h st t a hi hU ha => ?_) (fun {W} i h st t hi hU => ?_) (fun {W} i h st t a hi hU ha => ?_) (fun i h st t hU => .inl ⟨h,hU.2⟩) (fun i h st t hi hU=>⟨by omega,hU.2.mono (by have := (zj8 (i:=i) (by omega)).1; omega) (by omega)⟩)
    (fun {W} tb i st t u hi hD => ?_) (fun {W} tb h st t hF => ?_)
  · refine CSpec.conseq (G:=[]) hm (fun F p hp => ?_) (fun _ _=>Ent.refl)
    exact stars_star.2 (zas (fun q hq=>(stars_star (Hs:=[])).2 hq) hp:stars (Arr b s::star []::O::A1::A2::F) p)
  · refine FOk.imp (FOk.conseq (pre:=[Arr b s,O]) (G:=[]) (hop (W:=W) s vals kk he (by omega) hr) (fun F p hp => ?_) (fun _ _=>Ent.refl)) fun x F g hx2 hp => ?_
    · have h1:stars (Arr b s::star []::O::F) p := (stars_star (Hs:=[Arr b s,star []])).1 hp
      exact zas (fun q hq=>(stars_star (Hs:=[])).1 hq) h1
    · refine ⟨(x.1.val,⟨x.1,x.2,vals,fun a=>[vals a],kk - cO 2,true,false⟩),rfl,⟨by decide,⟨⟨rfl,rfl,hx2.ok,hx2.env,by show budN 0≤kk - cO 2; rw [hc2]; show 208000≤_; omega⟩,Tr.start hil hx⟩⟩,?_⟩
      have h1:stars (Arr b x.2::x.1.H x.2 vals (fun a=>[vals a])::O::F) g := (stars_star (Hs:=[Arr b x.2,x.1.H x.2 vals (fun a=>[vals a]),O])).1 hp
      exact (stars_star (Hs:=[Arr b x.2,x.1.H x.2 vals (fun a=>[vals a])])).2 h1
  · have hb := zj8 (i:=i) (by omega)
    refine IOk.weak (hU.2.wr (v:=v) (by omega) (by omega)) fun x hx=>⟨fun e=>⟨by omega,(hx.1 e).mono (by omega) (Nat.le_refl _)⟩,fun e => .inr (hx.2 e)⟩
  · have hb := zj8 (i:=i) (by omega)
    refine IOk.weak (hU.2.rd (by omega) (by omega)) fun x hx=>⟨fun e=>⟨(hx.1 e).1,by omega,(hx.1 e).2.mono (by omega) (by omega)⟩,fun e => .inr ?_⟩
    have h1 := hx.2 e
    exact ⟨⟨h1.dn,h1.env,by have := h1.bud; omega,h1.cr⟩,h1.tr.mono (by omega)⟩
  · have hb := zj8 (i:=i) (by omega)
    exact IOk.weak (hU.2.fl (by omega)) fun x hx=>⟨by omega,hx.mono (by omega) (by omega)⟩
  · have hb := zj8 (i:=i) (by omega)
    exact CSpec.map id (hU.2.fuse (a:=a) (by omega)) (fun _=>rfl) (fun x hx=>⟨by omega,hx.mono (by omega) (by omega)⟩) (fun _ _=>Ent.refl)
  · have hb := zj8 (i:=i) (by omega)
    refine CSpec.map id (zzn (bud:=budN i - 198) (m:=i + 2) hg hop (by omega) (by omega) ?_) (fun _=>rfl) (fun x hx => ?_) (fun _ _=>Ent.refl)
    · rcases hD with ⟨h,hU⟩ | hD
      · exact .inl ⟨h,hU.mono (by omega) (by omega)⟩
      · exact .inr hD
    · obtain ⟨g1,g2⟩ := hx.tr.all
      have h2 := hx.toUpD
      rw [← hx.cd] at g1
      exact ⟨⟨by omega,h2.le (by omega),g1⟩,i + 1,by omega,h2.le (by omega),hx.safe,g1,g2⟩
  · obtain ⟨i,hi,hF⟩ := hF
    have := z1v hi
    exact op_all (by omega) (by omega) hF
end
end Go.Proofs.Ts
set_option linter.unusedSimpArgs false
set_option maxRecDepth 20000
namespace Go.Proofs
open Go.VG Ts
theorem c_TS1 {W:World} {X:Type} {v:NV} {b p7 p8:Nat} {B N:HP} {R:X→HP} {rv:X→IfH} {pf:X→Prop} (ho:CSpec Tryz.prog W 10 [v.val,ptr b 0,.bool false] [B,N] (fun x:X => .tuple #[(rv x).v,.bool true]) pf (fun x F=>R x::F)) :
    CSpec Tryz.prog W 11 [ptr p7 0,ptr p8 0] [blk p7 30 [.int .i64 (v.kind:Int),.int .i64 (v.disk:Int),.int .i64 (v.start:Int),.int .i64 (v.size:Int),v.parts.v,.int .i64 (v.chunk:Int)],blk p8 33 [ptr b 0],B,N] (fun x:X => .tuple #[(rv x).v,.bool true]) (pf) (fun x F=>R x::blk p7 30 [.int .i64 (v.kind:Int),.int .i64 (v.disk:Int),.int .i64 (v.start:Int),.int .i64 (v.size:Int),v.parts.v,.int .i64 (v.chunk:Int)]::blk p8 33 [ptr b 0]::F) := by
 refine CSpec.of_body Tryz.func11 rfl Tryz.ntmps11 rfl fun F => ?_
 show CJ _ _ _ _ _ _ (_::_::_::_::F)
 refine sR<|oA rfl<|oA rfl<|nT<|sR<|oV (zbq rfl foc0 Tryz.isAgg30 Tryz.sizeOf30 rfl rfl)<|oV (zac rfl foc1 rfl Tryz.isAgg33)<|oO<|zai (ho) rfl Tryz.call10 (Dels.cons del2 (dC_ del2)) rfl fun o9 ho9=>oP (zaj rfl rfl)<|oP (zaj rfl rfl)<|oA rfl<|oA rfl<|nT<|zaf<|zan (res2 Tryz.results11 rfl rfl)<|CSpec.close o9 ?_ ?_ r_
 · rfl
 · exact ho9
theorem c_FewT {W:World} {A:HP} {v:Value} {ls:List StepV} (hA:Reads A tyStep v ls) :
    CSpec Tryz.prog W 4 [v] [A] (fun _:Unit => .bool (decide ((ls.length:Int)≤24))) (fun _=>True) (fun _ F=>A::F) := by
 refine CSpec.of_body Tryz.func4 rfl Tryz.ntmps4 rfl fun F => ?_
 show CJ _ _ _ _ _ _ (_::F)
 refine sR<|oA rfl<|nT<|sR<|oM rfl<|oV (V_len rfl foc0 hA Tryz.runUnderlying23)<|oP (P_leq rfl rfl)<|oA rfl<|nT<|zaf<|zan (res1 Tryz.results4 rfl)<|CSpec.close () ?_ ?_ r_
 · rfl
 · trivial
end Go.Proofs
namespace Go.Proofs.Ts
open Go.VG
section
variable {nx:Nat→Nat}
def dsz (nx:Nat→Nat):List Nat := [max (nx 0) 1,max (nx 1) 1,max (nx 2) 1]
def dszI (nx:Nat→Nat):List Int := [max (nx 0:Int) 1,max (nx 1:Int) 1,max (nx 2:Int) 1]
theorem zs6:newS (dszI nx)=mkS [List.replicate (max (nx 0) 1) 0,List.replicate (max (nx 1) 1) 0,List.replicate (max (nx 2) 1) 0] := by
  have h:∀ k:Nat,mkD (max (k:Int) 1)=⟨List.replicate (max k 1) 0,List.replicate (max k 1) 0,false⟩ := fun k=>by
    have e:(max (k:Int) 1).toNat=max k 1 := by omega
    unfold mkD; rw [e]
  show (⟨[mkD (max (nx 0:Int) 1),mkD (max (nx 1:Int) 1),mkD (max (nx 2:Int) 1)],[],[],0,false,0⟩:ArrS)=_
  rw [h,h,h]; rfl
theorem zs7 (h:∀ d,d < 3→nx d≤1000):NewOk (dszI nx) := zxx (by simp [dszI]) fun z hz=>by
  have h0 := h 0 (by decide)
  have h1 := h 1 (by decide)
  have h2 := h 2 (by decide)
  simp only [dszI,List.mem_cons,List.not_mem_nil,or_false] at hz
  rcases hz with rfl | rfl | rfl <;> omega
theorem zzp (h:∀ d,d < 3→nx d≤1000) (d:Nat):(dsz nx).getD d 0≤100000 := by
  have h0 := h 0 (by decide)
  have h1 := h 1 (by decide)
  have h2 := h 2 (by decide)
  match d with
  | 0=>show max (nx 0) 1≤_; omega
  | 1=>show max (nx 1) 1≤_; omega
  | 2=>show max (nx 2) 1≤_; omega
  | d + 3=>exact Nat.zero_le _
theorem dsz_le (d:Nat) (hd:d < 3):nx d≤(dsz nx).getD d 0 := by
  match d,hd with
  | 0,_=>exact Nat.le_max_left ..
  | 1,_=>exact Nat.le_max_left ..
  | 2,_=>exact Nat.le_max_left ..
theorem zgo {n a:Nat} : (List.replicate n (0:UInt64)).getD a 0=0 := by
  simp only [List.getD,List.getElem?_replicate]; split <;> rfl
theorem zj9:ZZ (newS (dszI nx)) := fun d a=>by
  rw [zs6]
  have hn:Go.Proofs.now (mkS [List.replicate (max (nx 0) 1) 0,List.replicate (max (nx 1) 1) 0,List.replicate (max (nx 2) 1) 0]) d a=0 := by
    unfold Go.Proofs.now nowL
    match d with
    | 0=>exact zgo
    | 1=>exact zgo
    | 2=>exact zgo
    | d + 3=>rfl
  have hd:Go.Proofs.dur (mkS [List.replicate (max (nx 0) 1) 0,List.replicate (max (nx 1) 1) 0,List.replicate (max (nx 2) 1) 0]) d a=0 := by
    unfold Go.Proofs.dur durL
    match d with
    | 0=>exact zgo
    | 1=>exact zgo
    | 2=>exact zgo
    | d + 3=>rfl
  refine ⟨hn,fun c hc => ?_⟩
  have h1:c ∈ [Go.Proofs.dur (mkS [List.replicate (max (nx 0) 1) 0,List.replicate (max (nx 1) 1) 0,List.replicate (max (nx 2) 1) 0]) d a] := hc
  rw [List.mem_singleton.1 h1,hd]
theorem zqh:Env (dsz nx) false true 500000 (newS (dszI nx)) := by
  rw [zs6]
  refine ⟨Nat.le_refl _,⟨⟨rfl,fun d hd => ?_,Nat.zero_le _⟩,Nat.zero_le _,zt1,rfl⟩,rfl,fun _=>rfl,fun e => ?_⟩
  · have:d=0∨d=1∨d=2 := by have:(dsz nx).length=3 := rfl; omega
    rcases this with rfl | rfl | rfl <;> exact List.length_replicate
  · match e with
    | 0=>rfl
    | 1=>rfl
    | 2=>rfl
    | e + 3=>rfl
end
def opO (p7 p8 b:Nat) (v:NV) (n:Nd):HP := star [blk p7 30 [.int .i64 (v.kind:Int),.int .i64 (v.disk:Int),.int .i64 (v.start:Int),.int .i64 (v.size:Int),v.parts.v,.int .i64 (v.chunk:Int)],blk p8 33 [ptr b 0],NH 2 v n]
theorem z1w {b p7 p8:Nat} {ns:List Nat} {v:NV} {n:Nd} (hg:n.Good ns) (hnb:∀ d,ns.getD d 0≤100000):zs5 b ns n (opO p7 p8 b v n) (.func (.func 11) #[] #[ptr p7 0,ptr p8 0]) := by
  intro W s vals kk he hk hr
  refine FOk.mk (first:=[]) (cap:=[ptr p7 0,ptr p8 0]) Tryz.call11 (CSpec.conseq (G:=[]) (c_TS1 (v:=v) (b:=b) (p7:=p7) (p8:=p8) (B:=Arr b s) (N:=NH 2 v n) (zmx hnb v n s vals false kk hg he hk hr (fun z=>by cases z))) (fun F p hp => ?_) (fun x F p hp => ?_))
  · exact (Ent.take del1 (Ent.take del1 (Ent.take del0 (Ent.take del0 Ent.refl)))) p (zas (fun q hq=>(stars_star (Hs:=[_,_,_])).1 hq) hp:stars (Arr b s::blk p7 30 _::blk p8 33 [ptr b 0]::NH 2 v n::F) p)
  · have h1:stars (Arr b x.2::x.1.H x.2 vals (fun a=>[vals a])::NH 2 v n::blk p7 30 [.int .i64 (v.kind:Int),.int .i64 (v.disk:Int),.int .i64 (v.start:Int),.int .i64 (v.size:Int),v.parts.v,.int .i64 (v.chunk:Int)]::blk p8 33 [ptr b 0]::F) p := (stars_star (Hs:=[_,_,_])).1 hp
    refine (stars_star (Hs:=[Arr b x.2,x.1.H x.2 vals (fun a=>[vals a]),opO p7 p8 b v n])).2 ?_
    refine zas (fun q hq=>zas (fun q2 hq2=>(stars_star (Hs:=[_,_,_])).2 ?_) hq) h1
    exact (Ent.take del1 (Ent.take del1 (Ent.take del0 Ent.refl))) q2 hq2
theorem zk1 {b k:Nat} {vals:Nat→UInt64} {G:HP} {x:Kid × ArrS} {R:List HP} : Ent (KPost b vals G x::R) (US.S b ⟨x.1,x.2,vals,fun a=>[vals a],k,true,false⟩::G::R) := fun p hp=>by
  have h1:stars (Arr b x.2::x.1.H x.2 vals (fun a=>[vals a])::G::R) p := (stars_star (Hs:=[_,_,_])).1 hp
  exact (stars_star (Hs:=[Arr b x.2,x.1.H x.2 vals (fun a=>[vals a])])).2 h1
theorem KRes.up {b:Nat} {ns:List Nat} {n:Nd} {s:ArrS} {kk:Nat} {fmt:Bool} {x:Kid × ArrS} {vals:Nat→UInt64} (h:KRes b ns 2 n s kk fmt x):UpD b ns n kk x.1.val ⟨x.1,x.2,vals,fun a=>[vals a],kk,true,false⟩ := ⟨rfl,rfl,h.ok,h.env,Nat.le_refl _⟩
theorem zmf {W:World} {b p7 p8:Nat} {nx:Nat→Nat} {v:NV} {n:Nd} {x:Kid × ArrS} {A1 A2:HP} {iv lv:Value} {ls:List StepV} {s:ArrS} (hI:Reads A1 tyU iv (List.replicate n.sz 0)) (hn:1≤n.sz∧n.sz≤104) (hA:Reads A2 tyStep lv ls) (hls:ls.length≤24)
    (hg:n.Good (dsz nx)) (hnb:∀ d,(dsz nx).getD d 0≤100000) (hx:KRes b (dsz nx) 2 n s (500000 - cO 2) true x) :
    CSpec Tryz.prog W 12 [ptr b 0,.func (.func 11) #[] #[ptr p7 0,ptr p8 0],iv,lv] [US.S b ⟨x.1,x.2,fun _=>0,fun _=>[0],500000 - cO 2,true,false⟩,blk p7 30 [.int .i64 (v.kind:Int),.int .i64 (v.disk:Int),.int .i64 (v.start:Int),.int .i64 (v.size:Int),v.parts.v,.int .i64 (v.chunk:Int)],blk p8 33 [ptr b 0],NH 2 v n,A1,A2]
      (fun _:US × List Sec => .bool true) (fun _=>True) (fun y F=>y.1.S b::opO p7 p8 b v n::A1::A2::F) :=
  CSpec.conseq (G:=[]) (zzo hI List.length_replicate hn (fun _ _=>zgo) hA hls hg (z1w hg hnb) hx.env (by decide) (zc5 (hx.zz rfl) n hg)) (fun F p hp=>by
    have h1:stars (Arr b x.2::x.1.H x.2 (fun _=>0) (fun _=>[0])::blk p7 30 [.int .i64 (v.kind:Int),.int .i64 (v.disk:Int),.int .i64 (v.start:Int),.int .i64 (v.size:Int),v.parts.v,.int .i64 (v.chunk:Int)]::blk p8 33 [ptr b 0]::NH 2 v n::A1::A2::F) p := (stars_star (Hs:=[_,_])).1 hp
    exact zas (fun q hq=>(stars_star (Hs:=[_,_,_])).2 hq) ((Ent.take del0 (Ent.drop Ent.refl)) p h1)) (fun _ _=>Ent.refl)
end Go.Proofs.Ts
set_option linter.unusedSimpArgs false
set_option maxRecDepth 20000
namespace Go.Proofs
open Go.VG Ts
theorem zfh (v0:Int) (v1:Int) (v2:Int):zbg Tryz.prog 22 3 [(0,.int .i64 v0),(1,.int .i64 v1),(2,.int .i64 v2)] 3 [.int .i64 v0,.int .i64 v1,.int .i64 v2] := fun w=>by kernel_rfl
theorem c_Top {W:World} {V A1 A2:HP} {lv:Sl3} {sv:Value} {L:List Int} {ls:List StepV} (hA1:Reads A1 tyI lv.v L) (hL:L.length≤9223372036854775807) (hA2:Reads A2 tyStep sv ls) (haw:∀ {W:World},CSpec Tryz.prog W 5 [] [V] (fun _:Unit => .bool true) (fun _=>True) (fun _ F=>V::F)) :
    CSpec Tryz.prog W 3 [lv.v,sv] [A1,A2,V] (fun _:Unit => .bool true) (fun _=>True) (fun _ F=>A1::A2::V::F) := by
 refine CSpec.of_body Tryz.func3 rfl Tryz.ntmps3 rfl fun F => ?_
 show CJ _ _ _ _ _ _ (_::_::_::F)
 refine sR<|oA rfl<|nT<|zab<|sR<|oM rfl<|oO<|zai ((c_FewT hA2)) rfl Tryz.call4 (dC_ del1) rfl fun _ hc1=>oP (P_not rfl)<|nT ?_
 first | (refine zav rfl (fun hg1 => ?_) (fun hg1 => ?_)) | (refine zaw rfl (fun hg1 => ?_) (fun hg1 => ?_)) | (refine za1 rfl (fun hg1 => ?_) (fun hg1 => ?_))
 ·
  refine sR<|oO<|zai (haw) rfl Tryz.call5 (dC_ del2) rfl fun _ hc2=>oA rfl<|nT<|zaf<|zak<|zan (res1 Tryz.results3 rfl)<|CSpec.close () ?_ ?_ (t2_ (t1_ r_))
  · rfl
  · trivial
 ·
  have hls24:ls.length≤24 := by omega
  refine kT<|sR<|oM rfl<|oO<|zai ((zzg hA1 hL)) rfl Tryz.call6 (dC_ del1) rfl fun x18 h18=>oA rfl<|nT<|zab ?_
  obtain ⟨L2,hL2,hA3⟩ := h18
  refine zag<|oO<|za4 rfl (zfh _ _ _) rfl fun b5=>zcg (Ent.trans r_ (zb5 (t:=tyI) (m:=3) (nxL fun _=>0) rfl rfl rfl (by decide)))<|oA rfl<|nT<|sR<|oM rfl<|oM rfl<|oM rfl<|oO<|zai ((zil hA3 hL2 ⟨by omega,by omega⟩ (lo:=1) (hi:=8) (by omega))) rfl Tryz.call8 (Dels.cons del1 (dC_ del1)) rfl fun x23 h23=>oO<|zai ((z1s hA3 hL2 h23.1 (nv:=⟨some ⟨b5,0,none⟩,3,3⟩) (nx:=fun _=>0) (sz:=(x23.1:Int)) ⟨by omega,by omega⟩ (fun _ _=>Nat.zero_le _))) rfl Tryz.call7 (Dels.cons del0 (Dels.cons del0 (dC_ del0))) rfl fun x24 h24=>oO<|zbi Tryz.zeroValue30 rfl rfl fun b9=>oO<|zbo rfl rfl foc0 Tryz.sizeOf30 rfl rfl rfl<|nT<|zab ?_
  have hnx:∀ d,d < 3→x24.2.2 d≤1000 := fun d hd=>by have := h24.2.bd d hd; have h9:uB 2=234 := rfl; omega
  have hgd:x24.1.2.Good (dsz x24.2.2) := h24.2.good _ rfl (fun d hd=>dsz_le d hd)
  have hnb := zzp hnx
  have hnl := @zqg x24.2.2
  refine za3 274432 kR_ rfl<|aN 0 1 rfl rfl (zae rfl) ?_
  first | (refine zbj 1 3 rfl kR_ rfl kR_ kR_ (zal rfl) r_ (zam rfl rfl rfl (by omega) foc3 (Reads.sl _ _ _) Tryz.runUnderlying22 Tryz.sizeOf3) rfl (fun _ _ _ _ h=>h) ?_) | (refine zbj 1 3 rfl kR_ rfl kR_ kR_ (zal rfl) r_ (zam rfl rfl (Int.toNat_of_nonneg (by omega)).symm (by omega) foc3 (Reads.sl _ _ _) Tryz.runUnderlying22 Tryz.sizeOf3) rfl (fun _ _ _ _ h=>h) ?_)
  refine aW 2 7 rfl rfl r_ (za6 rfl rfl (by omega) foc3 (Reads.sl _ _ _) rfl rfl Tryz.isAgg3)<|aN 3 15 rfl rfl (P_max rfl rfl)<|aN 4 31 rfl rfl (zae rfl) ?_
  first | (refine zbj 5 63 rfl kR_ rfl kR_ kR_ (zal rfl) r_ (zam rfl rfl rfl (by omega) foc3 (Reads.sl _ _ _) Tryz.runUnderlying22 Tryz.sizeOf3) rfl (fun _ _ _ _ h=>h) ?_) | (refine zbj 5 63 rfl kR_ rfl kR_ kR_ (zal rfl) r_ (zam rfl rfl (Int.toNat_of_nonneg (by omega)).symm (by omega) foc3 (Reads.sl _ _ _) Tryz.runUnderlying22 Tryz.sizeOf3) rfl (fun _ _ _ _ h=>h) ?_)
  refine aW 6 127 rfl rfl r_ (za6 rfl rfl (by omega) foc3 (Reads.sl _ _ _) rfl rfl Tryz.isAgg3)<|aN 7 255 rfl rfl (P_max rfl rfl)<|aN 8 511 rfl rfl (zae rfl) ?_
  first | (refine zbj 9 1023 rfl kR_ rfl kR_ kR_ (zal rfl) r_ (zam rfl rfl rfl (by omega) foc3 (Reads.sl _ _ _) Tryz.runUnderlying22 Tryz.sizeOf3) rfl (fun _ _ _ _ h=>h) ?_) | (refine zbj 9 1023 rfl kR_ rfl kR_ kR_ (zal rfl) r_ (zam rfl rfl (Int.toNat_of_nonneg (by omega)).symm (by omega) foc3 (Reads.sl _ _ _) Tryz.runUnderlying22 Tryz.sizeOf3) rfl (fun _ _ _ _ h=>h) ?_)
  refine aW 10 2047 rfl rfl r_ (za6 rfl rfl (by omega) foc3 (Reads.sl _ _ _) rfl rfl Tryz.isAgg3)<|aN 11 4095 rfl rfl (P_max rfl rfl)<|zg4 12 17 8191 135167 rfl rfl kR_ rfl rfl (zal rfl) (zal rfl) (za4 rfl (zfh _ _ _) rfl (fun b10 => ?_)) (zbi Tryz.zeroValue33 rfl rfl (fun b11 => ?_))
  ·
   refine ⟨fun h=>absurd h (by decide),?_⟩
   refine zg4 13 17 16383 139263 rfl rfl kR_ rfl rfl (zal rfl) (zal rfl) (zai ((c_New (zs:=dszI x24.2.2) (Reads.lit (t:=tyI) (ys:=dszI x24.2.2) rfl rfl (Nat.le_refl 3) (by decide) rfl) (zs7 hnx))) rfl Tryz.call9 (dC_ del0) rfl (fun b39 hc13 => ?_)) (zbi Tryz.zeroValue33 rfl rfl (fun b14 => ?_))
   ·
    refine ⟨fun h=>absurd h (by decide),?_⟩
    refine aN 14 32767 rfl rfl (zae rfl)<|aN 15 65535 rfl rfl (zaj rfl rfl)<|aN 16 131071 rfl rfl (zaj rfl rfl)<|AJ_op 17 262143 rfl kR_ rfl (zal rfl)<|zbi Tryz.zeroValue33 rfl rfl fun b15=>⟨fun _=>(t3_ (t3_ (t3_ (t3_ (t3_ (t3_ (t3_ (e_ (e_ (e_ r_)))))))))),?_⟩
    refine AJ_op 18 524287 rfl kR_ rfl (zal rfl)<|za5 rfl rfl foc0 rfl rfl Tryz.sizeOf33<|⟨fun h=>absurd h (by decide),?_⟩
    refine aN 19 1048575 rfl rfl (za9 rfl)<|aD<|zab<|sR<|oM rfl<|oP (P_neq rfl rfl)<|oM rfl<|zbp 44 false rfl dF_ fun hg2B=>v_ rfl rfl rfl hg2B (zac rfl foc0 rfl Tryz.isAgg33)<|p_ rfl rfl rfl hg2B (zhm rfl rfl Tryz.underlying33)<|oP (za2 rfl hg2B rfl)<|nT<|zap rfl rfl<|kT<|sR<|oV (zbq rfl foc3 Tryz.isAgg30 Tryz.sizeOf30 rfl rfl)<|oV (zac rfl foc0 rfl Tryz.isAgg33)<|oO<|zai ((zmx hnb x24.1.1 x24.1.2 (newS (dszI x24.2.2)) (fun _=>0) true 500000 hgd zqh (by decide) (zc5 zj9 _ hgd) (fun _=>⟨zj9,rfl⟩))) rfl Tryz.call10 (Dels.cons del1 (dC_ del6)) rfl fun x51 h51=>oM rfl<|oP (zaj rfl rfl)<|oP (zaj rfl rfl)<|oA rfl<|oA rfl<|nT<|zab<|zab<|zbs (Ent.trans r_ (zk1 (k:=500000 - cO 2))) ?_
    have hup := h51.up (vals:=fun _=>0)
    have hnz := h24.2.szl
    have hnb2 := h24.2.szb
    have hzb:zB2 2=104 := rfl
    refine zag<|oM rfl<|oP (P_not rfl)<|oM rfl<|p_ rfl rfl rfl rfl (zae rfl)<|RJ_gy (zaz rfl rfl rfl rfl)<|zbz rfl (IOk.call (hup.size) (by decide)) rfl (dC_ del0) rfl fun o18 ho19=>p_ rfl rfl rfl rfl (P_gtr rfl rfl)<|oP (za2 rfl rfl rfl)<|nT ?_
    first | (refine zav rfl (fun hg3 => ?_) (fun hg3 => ?_)) | (refine zaw rfl (fun hg3 => ?_) (fun hg3 => ?_)) | (refine za1 rfl (fun hg3 => ?_) (fun hg3 => ?_))
    ·
     refine sR<|oM rfl<|oM rfl<|RJ_gy (zaz rfl rfl rfl rfl)<|zai (haw) rfl Tryz.call5 (dC_ del9) rfl fun _ hc20=>oP (zbe rfl rfl rfl)<|oA rfl<|nT<|zaf<|zak<|zan (res1 Tryz.results3 rfl)<|CSpec.close () ?_ ?_ (t7_ (t8_ (t0_ (e_ (e_ (e_ (e_ (e_ (e_ (e_ r_))))))))))
     · rfl
     · trivial
    ·
     refine kT<|sR<|oP (zbb rfl rfl)<|oA rfl<|nT<|zab<|za3 320 kR_ rfl<|aW 0 1 rfl rfl r_ (zac rfl foc2 rfl Tryz.isAgg33)<|aN 1 3 rfl rfl (zae rfl)<|aN 2 7 rfl rfl (zae rfl)<|aN 5 39 rfl rfl (zae rfl)<|AJ_op 3 47 rfl kR_ rfl (zal rfl)<|zbz rfl (IOk.call (hup.size) (by decide)) rfl (dC_ del0) rfl fun o21 ho22=>⟨fun _=>r_,?_⟩
     refine AJ_op 4 63 rfl kR_ rfl (zal rfl)<|zea (t:=tyU) (m:=x24.1.2.sz) (x0:=(0:UInt64)) (z:=_) (bytes:=_) rfl rfl rfl rfl Tryz.underlying44 ⟨Tryz.t47,by kernel_rfl,rfl,rfl,rfl⟩ rfl (by omega) (by decide) rfl fun b23=>⟨fun _=>(t1_ (t1_ (t1_ (t1_ (t1_ (t1_ (t1_ (t1_ (t1_ (t1_ (e_ r_))))))))))),?_⟩
     refine AJ_op 6 127 rfl kR_ rfl (zal rfl)<|zai ((zmf (v:=x24.1.1) (b:=b39) (Reads.sl _ _ _) (by omega) hA2 hls24 hgd hnb h51)) rfl Tryz.call12 (Dels.cons del1 (Dels.cons del4 (Dels.cons del2 (Dels.cons del1 (Dels.cons del0 (dC_ del4)))))) rfl fun x72 hc26=>⟨fun h=>absurd h (by decide),?_⟩
     refine aN 7 255 rfl rfl (zae rfl)<|AJ_op 8 511 rfl kR_ rfl (zaz rfl rfl rfl rfl)<|zai (haw) rfl Tryz.call5 (dC_ del8) rfl fun _ hc27=>⟨fun h=>absurd h (by decide),?_⟩
     refine aN 9 1023 rfl rfl (zbe rfl rfl rfl)<|aN 10 2047 rfl rfl (za9 rfl)<|aD<|zaf<|zan (res1 Tryz.results3 rfl)<|CSpec.close () ?_ ?_ (t7_ (t4_ (t0_ (e_ (e_ (e_ (e_ (e_ (e_ r_)))))))))
     · rfl
     · trivial
   ·
    refine ⟨fun _=>(t2_ (t2_ (t2_ (t2_ (t2_ (t2_ (t2_ (e_ (e_ r_))))))))),?_⟩
    refine AJ_op 13 147455 rfl kR_ rfl (zal rfl)<|zai ((c_New (zs:=dszI x24.2.2) (Reads.lit (t:=tyI) (ys:=dszI x24.2.2) rfl rfl (Nat.le_refl 3) (by decide) rfl) (zs7 hnx))) rfl Tryz.call9 (dC_ del1) rfl fun b39 hc29=>⟨fun h=>absurd h (by decide),?_⟩
    refine aN 14 163839 rfl rfl (zae rfl)<|aN 15 196607 rfl rfl (zaj rfl rfl)<|aN 16 262143 rfl rfl (zaj rfl rfl)<|AJ_op 18 524287 rfl kR_ rfl (zal rfl)<|za5 rfl rfl foc2 rfl rfl Tryz.sizeOf33<|⟨fun h=>absurd h (by decide),?_⟩
    refine aN 19 1048575 rfl rfl (za9 rfl)<|aD<|zab<|sR<|oM rfl<|oP (P_neq rfl rfl)<|oM rfl<|zbp 44 false rfl dF_ fun hg4B=>v_ rfl rfl rfl hg4B (zac rfl foc2 rfl Tryz.isAgg33)<|p_ rfl rfl rfl hg4B (zhm rfl rfl Tryz.underlying33)<|oP (za2 rfl hg4B rfl)<|nT<|zap rfl rfl<|kT<|sR<|oV (zbq rfl foc3 Tryz.isAgg30 Tryz.sizeOf30 rfl rfl)<|oV (zac rfl foc2 rfl Tryz.isAgg33)<|oO<|zai ((zmx hnb x24.1.1 x24.1.2 (newS (dszI x24.2.2)) (fun _=>0) true 500000 hgd zqh (by decide) (zc5 zj9 _ hgd) (fun _=>⟨zj9,rfl⟩))) rfl Tryz.call10 (Dels.cons del0 (dC_ del6)) rfl fun x51 h51=>oM rfl<|oP (zaj rfl rfl)<|oP (zaj rfl rfl)<|oA rfl<|oA rfl<|nT<|zab<|zab<|zbs (Ent.trans r_ (zk1 (k:=500000 - cO 2))) ?_
    have hup := h51.up (vals:=fun _=>0)
    have hnz := h24.2.szl
    have hnb2 := h24.2.szb
    have hzb:zB2 2=104 := rfl
    refine zag<|oM rfl<|oP (P_not rfl)<|oM rfl<|p_ rfl rfl rfl rfl (zae rfl)<|RJ_gy (zaz rfl rfl rfl rfl)<|zbz rfl (IOk.call (hup.size) (by decide)) rfl (dC_ del0) rfl fun o32 ho33=>p_ rfl rfl rfl rfl (P_gtr rfl rfl)<|oP (za2 rfl rfl rfl)<|nT ?_
    first | (refine zav rfl (fun hg5 => ?_) (fun hg5 => ?_)) | (refine zaw rfl (fun hg5 => ?_) (fun hg5 => ?_)) | (refine za1 rfl (fun hg5 => ?_) (fun hg5 => ?_))
    ·
     refine sR<|oM rfl<|oM rfl<|RJ_gy (zaz rfl rfl rfl rfl)<|zai (haw) rfl Tryz.call5 (dC_ del9) rfl fun _ hc34=>oP (zbe rfl rfl rfl)<|oA rfl<|nT<|zaf<|zak<|zan (res1 Tryz.results3 rfl)<|CSpec.close () ?_ ?_ (t7_ (t8_ (t0_ (e_ (e_ (e_ (e_ (e_ (e_ (e_ r_))))))))))
     · rfl
     · trivial
    ·
     refine kT<|sR<|oP (zbb rfl rfl)<|oA rfl<|nT<|zab<|za3 320 kR_ rfl<|aW 0 1 rfl rfl r_ (zac rfl foc3 rfl Tryz.isAgg33)<|aN 1 3 rfl rfl (zae rfl)<|aN 2 7 rfl rfl (zae rfl)<|aN 5 39 rfl rfl (zae rfl)<|AJ_op 3 47 rfl kR_ rfl (zal rfl)<|zbz rfl (IOk.call (hup.size) (by decide)) rfl (dC_ del0) rfl fun o35 ho36=>⟨fun _=>r_,?_⟩
     refine AJ_op 4 63 rfl kR_ rfl (zal rfl)<|zea (t:=tyU) (m:=x24.1.2.sz) (x0:=(0:UInt64)) (z:=_) (bytes:=_) rfl rfl rfl rfl Tryz.underlying44 ⟨Tryz.t47,by kernel_rfl,rfl,rfl,rfl⟩ rfl (by omega) (by decide) rfl fun b37=>⟨fun _=>(t1_ (t1_ (t1_ (t1_ (t1_ (t1_ (t1_ (t1_ (t1_ (t1_ (e_ r_))))))))))),?_⟩
     refine AJ_op 6 127 rfl kR_ rfl (zal rfl)<|zai ((zmf (v:=x24.1.1) (b:=b39) (Reads.sl _ _ _) (by omega) hA2 hls24 hgd hnb h51)) rfl Tryz.call12 (Dels.cons del1 (Dels.cons del4 (Dels.cons del3 (Dels.cons del1 (Dels.cons del0 (dC_ del4)))))) rfl fun x72 hc40=>⟨fun h=>absurd h (by decide),?_⟩
     refine aN 7 255 rfl rfl (zae rfl)<|AJ_op 8 511 rfl kR_ rfl (zaz rfl rfl rfl rfl)<|zai (haw) rfl Tryz.call5 (dC_ del8) rfl fun _ hc41=>⟨fun h=>absurd h (by decide),?_⟩
     refine aN 9 1023 rfl rfl (zbe rfl rfl rfl)<|aN 10 2047 rfl rfl (za9 rfl)<|aD<|zaf<|zan (res1 Tryz.results3 rfl)<|CSpec.close () ?_ ?_ (t7_ (t4_ (t0_ (e_ (e_ (e_ (e_ (e_ (e_ r_)))))))))
     · rfl
     · trivial
  ·
   refine ⟨fun _=>(t1_ (t1_ (t1_ (t1_ (t1_ (t1_ (t1_ (e_ r_)))))))),?_⟩
   refine AJ_op 12 139263 rfl kR_ rfl (zal rfl)<|za4 rfl (zfh _ _ _) rfl fun b42=>⟨fun h=>absurd h (by decide),?_⟩
   refine AJ_op 13 147455 rfl kR_ rfl (zal rfl)<|zai ((c_New (zs:=dszI x24.2.2) (Reads.lit (t:=tyI) (ys:=dszI x24.2.2) rfl rfl (Nat.le_refl 3) (by decide) rfl) (zs7 hnx))) rfl Tryz.call9 (dC_ del0) rfl fun b39 hc44=>⟨fun h=>absurd h (by decide),?_⟩
   refine aN 14 163839 rfl rfl (zae rfl)<|aN 15 196607 rfl rfl (zaj rfl rfl)<|aN 16 262143 rfl rfl (zaj rfl rfl)<|AJ_op 18 524287 rfl kR_ rfl (zal rfl)<|za5 rfl rfl foc2 rfl rfl Tryz.sizeOf33<|⟨fun h=>absurd h (by decide),?_⟩
   refine aN 19 1048575 rfl rfl (za9 rfl)<|aD<|zab<|sR<|oM rfl<|oP (P_neq rfl rfl)<|oM rfl<|zbp 44 false rfl dF_ fun hg6B=>v_ rfl rfl rfl hg6B (zac rfl foc2 rfl Tryz.isAgg33)<|p_ rfl rfl rfl hg6B (zhm rfl rfl Tryz.underlying33)<|oP (za2 rfl hg6B rfl)<|nT<|zap rfl rfl<|kT<|sR<|oV (zbq rfl foc3 Tryz.isAgg30 Tryz.sizeOf30 rfl rfl)<|oV (zac rfl foc2 rfl Tryz.isAgg33)<|oO<|zai ((zmx hnb x24.1.1 x24.1.2 (newS (dszI x24.2.2)) (fun _=>0) true 500000 hgd zqh (by decide) (zc5 zj9 _ hgd) (fun _=>⟨zj9,rfl⟩))) rfl Tryz.call10 (Dels.cons del0 (dC_ del6)) rfl fun x51 h51=>oM rfl<|oP (zaj rfl rfl)<|oP (zaj rfl rfl)<|oA rfl<|oA rfl<|nT<|zab<|zab<|zbs (Ent.trans r_ (zk1 (k:=500000 - cO 2))) ?_
   have hup := h51.up (vals:=fun _=>0)
   have hnz := h24.2.szl
   have hnb2 := h24.2.szb
   have hzb:zB2 2=104 := rfl
   refine zag<|oM rfl<|oP (P_not rfl)<|oM rfl<|p_ rfl rfl rfl rfl (zae rfl)<|RJ_gy (zaz rfl rfl rfl rfl)<|zbz rfl (IOk.call (hup.size) (by decide)) rfl (dC_ del0) rfl fun o47 ho48=>p_ rfl rfl rfl rfl (P_gtr rfl rfl)<|oP (za2 rfl rfl rfl)<|nT ?_
   first | (refine zav rfl (fun hg7 => ?_) (fun hg7 => ?_)) | (refine zaw rfl (fun hg7 => ?_) (fun hg7 => ?_)) | (refine za1 rfl (fun hg7 => ?_) (fun hg7 => ?_))
   ·
    refine sR<|oM rfl<|oM rfl<|RJ_gy (zaz rfl rfl rfl rfl)<|zai (haw) rfl Tryz.call5 (dC_ del9) rfl fun _ hc49=>oP (zbe rfl rfl rfl)<|oA rfl<|nT<|zaf<|zak<|zan (res1 Tryz.results3 rfl)<|CSpec.close () ?_ ?_ (t7_ (t8_ (t0_ (e_ (e_ (e_ (e_ (e_ (e_ (e_ r_))))))))))
    · rfl
    · trivial
   ·
    refine kT<|sR<|oP (zbb rfl rfl)<|oA rfl<|nT<|zab<|za3 320 kR_ rfl<|aW 0 1 rfl rfl r_ (zac rfl foc3 rfl Tryz.isAgg33)<|aN 1 3 rfl rfl (zae rfl)<|aN 2 7 rfl rfl (zae rfl)<|aN 5 39 rfl rfl (zae rfl)<|AJ_op 3 47 rfl kR_ rfl (zal rfl)<|zbz rfl (IOk.call (hup.size) (by decide)) rfl (dC_ del0) rfl fun o50 ho51=>⟨fun _=>r_,?_⟩
    refine AJ_op 4 63 rfl kR_ rfl (zal rfl)<|zea (t:=tyU) (m:=x24.1.2.sz) (x0:=(0:UInt64)) (z:=_) (bytes:=_) rfl rfl rfl rfl Tryz.underlying44 ⟨Tryz.t47,by kernel_rfl,rfl,rfl,rfl⟩ rfl (by omega) (by decide) rfl fun b52=>⟨fun _=>(t1_ (t1_ (t1_ (t1_ (t1_ (t1_ (t1_ (t1_ (t1_ (t1_ (e_ r_))))))))))),?_⟩
    refine AJ_op 6 127 rfl kR_ rfl (zal rfl)<|zai ((zmf (v:=x24.1.1) (b:=b39) (Reads.sl _ _ _) (by omega) hA2 hls24 hgd hnb h51)) rfl Tryz.call12 (Dels.cons del1 (Dels.cons del4 (Dels.cons del3 (Dels.cons del1 (Dels.cons del0 (dC_ del4)))))) rfl fun x72 hc55=>⟨fun h=>absurd h (by decide),?_⟩
    refine aN 7 255 rfl rfl (zae rfl)<|AJ_op 8 511 rfl kR_ rfl (zaz rfl rfl rfl rfl)<|zai (haw) rfl Tryz.call5 (dC_ del8) rfl fun _ hc56=>⟨fun h=>absurd h (by decide),?_⟩
    refine aN 9 1023 rfl rfl (zbe rfl rfl rfl)<|aN 10 2047 rfl rfl (za9 rfl)<|aD<|zaf<|zan (res1 Tryz.results3 rfl)<|CSpec.close () ?_ ?_ (t7_ (t4_ (t0_ (e_ (e_ (e_ (e_ (e_ (e_ r_)))))))))
    · rfl
    · trivial
end Go.Proofs
namespace Go.VG
theorem zs8 {P:Program} {n:Env} {s:Slots} {dst:Option Nat} {ty:TypeId} {pos:String} {after:Array Edge} {g:Option (Nat × Bool)} {f:FuncId} {xs:List Operand} {ats:Array TypeId} {vs:List Value} {v:Value} (hv:evs s xs=some vs) (hc:∀ w,(callFunc f vs.toArray).run P w = .ok (.value v) w) :
    PJ P n ⟨dst,.call { callee := .value (.func f),args := xs.toArray,argTypes := ats },ty,pos,after,g⟩ s v := fun a w hf=>by
  have h1:(xs.toArray.map a.eval)=vs.toArray := by rw [← hf.evals hv]; simp
  simp only [execOp,resolve,h1]
  simp [Act.eval,Deferred.ofValue,invoke,hc w]
end Go.VG
namespace Go.Proofs
open Go.VG
noncomputable def fn228:Func := (Tryz.prog.funcs[228]?).getD default
theorem z1x (s:ByteArray) (c:UInt8) (w:World):(callFunc 228 #[.string s,.int .u8 (c.toNat:Int)]).run Tryz.prog w = .ok (.value (.int .i64 (Lib.indexByte s.data.toList c))) w := by
  rw [run_callFunc_extern (fn:=fn228) (by kernel_rfl) (by kernel_rfl) (by kernel_rfl) (e:=Extern.BytealgIndexByte.indexByte) (by kernel_rfl) (by kernel_rfl),Lib.run_indexByteString]
  simp [Result.andThen]
end Go.Proofs
