/- TopStacks, part 5 of the proof: CTs5, CTs6, PTs15, CTs7, VgDe, PTs16, CTs8, PTs17, CTs9, CTs10, PTs18, CTs11. -/
import Derived.WalkKit
import Derived.Orders
import Derived.RangeFuncLeaves
import Derived.RangeFuncCalls
import Derived.TacticsIn
import Derived.Handy
import Derived.OrdersHeld
import Derived.OrdersIn
import Derived.Below
import Derived.OpenShut
import Derived.Deep.Slices
import Derived.Scope
import Derived.KernelRfl
import Derived.RangeFuncRecord
import Derived.ChangeKeysEq
import Derived.Laws.BytesArg
import Derived.Lib.Bytealg
import Derived.Lib.AppendStr
import Derived.Lib.Builder
import Derived.Lib.UnsafeStr
import Derived.ProofKit
import Derived.ShutString
import Derived.ChangeOld
import Derived.Stop.Joined
import Derived.LaidLaws
import Derived.LaidHandle
import Derived.MakeChecks
import Derived.SevenTiedAt
import Derived.Test.YthfaiagepigmcaaGreatDoorChecked
import Derived.Test.YthfaiagepigmcaaGreatDoorRows
import Derived.Test.YthfaiagepigmcaaGreatDoorZTopStacks4
set_option linter.unusedSimpArgs false
set_option maxRecDepth 20000
namespace Go.Proofs
open Go.VG Ts
structure MLeg where
  dev:IfH
  st:Int
  cp:Int
abbrev tyMLeg:Ty MLeg := { T := 107,sz := 3,enc := fun x=>[x.dev.v,.int .i64 x.st,.int .i64 x.cp],dflt := ⟨tyDev.dflt,0,0⟩,len := fun _=>rfl,one := fun _=>rfl,pos := by decide }
theorem zwl:ElemOk Tryz.prog tyMLeg 32 := ⟨Tryz.t107,.agg #[.nilIface,.int .i64 0,.int .i64 0],by kernel_rfl,rfl,rfl,rfl,rfl⟩
def mlg (vs:List IfH):List MLeg := vs.map fun d=>⟨d,0,0⟩
theorem zd7 {vs:List IfH} : (mlg vs).length=vs.length := by simp [mlg]
theorem zfw {vs:List IfH} {i:Nat} : (mlg vs).getD i tyMLeg.dflt=⟨vs.getD i tyDev.dflt,0,0⟩ := by
  unfold mlg
  by_cases h:i < vs.length
  · simp [List.getD,h]
  · simp [List.getD,h]
theorem zyp {vs:List IfH} {d:IfH} : mlg vs ++ [⟨d,0,0⟩]=mlg (vs ++ [d]) := by simp [mlg]
theorem zwm {n k:Nat} (h:k < (List.replicate n true).length):(List.replicate n true).getD k tyB.dflt=true := by
  rw [List.length_replicate] at h
  simp [List.getD,List.getElem?_replicate,h]
theorem zyq {W:World} {x:Int} :
    CSpec Tryz.prog W 65 [.slice none 0 0,.int .i64 x] [] (fun _:Unit => .int .i64 (-1)) (fun _=>True) (fun _ F=>F) := by
 refine CSpec.of_body Tryz.func65 rfl Tryz.ntmps65 rfl fun F => ?_
 show CJ _ _ _ _ _ _ (F)
 refine sR<|oA rfl<|nT<|zab<|sR<|oM rfl<|oP (zca rfl Tryz.runUnderlying22)<|oM rfl<|nT<|zao<|za8 (X:=Unit) [4,5,8,9,10,11,12,13,14,15,16,17,18] (fun _=>([(8,.int .i64 0)]:Slots)) (fun _ R=>R) (fun _=>True) (fun _=>0) () ?_ ?_ r_ ?_
 · trivial
 · exact ⟨rfl,True.intro⟩
 ·
  intro _ hpf
  show CJ _ _ _ _ _ (([(8,.int .i64 0)]:Slots) ++ forget _ _) (_)
  refine sR<|oP (P_lss rfl rfl)<|nT<|zab<|zap rfl dF_<|zbc<|zay<|zau<|zat<|zar<|sR<|oA rfl<|nT<|zaf<|zan (res1 Tryz.results65 rfl)<|CSpec.close () ?_ ?_ r_
  · rfl
  · trivial
theorem zmv {W:World} {x:Int} :
    CSpec Tryz.prog W 35 [.slice none 0 0,.int .i64 x] [] (fun _:Unit => .bool false) (fun _=>True) (fun _ F=>F) := by
 refine CSpec.of_body Tryz.func35 rfl Tryz.ntmps35 rfl fun F => ?_
 show CJ _ _ _ _ _ _ (F)
 refine sR<|oA rfl<|nT<|sR<|oM rfl<|oM rfl<|oO<|zai (zyq) rfl Tryz.call65 Dels.nil rfl fun _ hc1=>oP (P_geq rfl rfl)<|oA rfl<|nT<|zaf<|zan (res1 Tryz.results35 rfl)<|CSpec.close () ?_ ?_ r_
 · rfl
 · trivial
theorem zwn {W:World} {x:Value} :
    CSpec Tryz.prog W 64 [.slice none 0 0,x] [] (fun _:Unit => .int .i64 (-1)) (fun _=>True) (fun _ F=>F) := by
 refine CSpec.of_body Tryz.func64 rfl Tryz.ntmps64 rfl fun F => ?_
 show CJ _ _ _ _ _ _ (F)
 refine sR<|oA rfl<|nT<|zab<|sR<|oM rfl<|oP (zca rfl Tryz.runUnderlying22)<|oM rfl<|nT<|zao<|za8 (X:=Unit) [4,5,8,9,10,11,12,13,14,15,16,17,18] (fun _=>([(8,.int .i64 0)]:Slots)) (fun _ R=>R) (fun _=>True) (fun _=>0) () ?_ ?_ r_ ?_
 · trivial
 · exact ⟨rfl,True.intro⟩
 ·
  intro _ hpf
  show CJ _ _ _ _ _ (([(8,.int .i64 0)]:Slots) ++ forget _ _) (_)
  refine sR<|oP (P_lss rfl rfl)<|nT<|zab<|zap rfl dF_<|zbc<|zay<|zau<|zat<|zar<|sR<|oA rfl<|nT<|zaf<|zan (res1 Tryz.results64 rfl)<|CSpec.close () ?_ ?_ r_
  · rfl
  · trivial
theorem zsn {W:World} {x:Value} :
    CSpec Tryz.prog W 34 [.slice none 0 0,x] [] (fun _:Unit => .bool false) (fun _=>True) (fun _ F=>F) := by
 refine CSpec.of_body Tryz.func34 rfl Tryz.ntmps34 rfl fun F => ?_
 show CJ _ _ _ _ _ _ (F)
 refine sR<|oA rfl<|nT<|sR<|oM rfl<|oM rfl<|oO<|zai (zwn) rfl Tryz.call64 Dels.nil rfl fun _ hc1=>oP (P_geq rfl rfl)<|oA rfl<|nT<|zaf<|zan (res1 Tryz.results34 rfl)<|CSpec.close () ?_ ?_ r_
 · rfl
 · trivial
theorem zwo {W:World} {vs:List IfH} {q n rg:Nat} {lv dv:Sl3} (h2:vs.length=2) :
    CSpec Tryz.prog W 70 [ptr q 0] [blk q 105 [lv.v,.pointer none,.bool false,.int .i64 2,.int .i64 (n:Int),.int .i64 (rg:Int),dv.v,.int .i64 0],sl tyMLeg lv.v (mlg vs)] (fun _:Unit => .slice none 0 0) (fun _=>True) (fun _ F=>blk q 105 [lv.v,.pointer none,.bool false,.int .i64 2,.int .i64 (n:Int),.int .i64 (rg:Int),dv.v,.int .i64 0]::sl tyMLeg lv.v (mlg vs)::F) := by
 refine CSpec.of_body Tryz.func70 rfl Tryz.ntmps70 rfl fun F => ?_
 show CJ _ _ _ _ _ _ (_::_::F)
 have hml := @zd7 vs
 refine sR<|oA rfl<|nT<|sR<|oA rfl<|nT<|zab<|sR<|oM rfl<|oP (zad rfl)<|oP (zaa rfl ⟨_,_,_,Tryz.runUnderlying105,rfl,rfl,Tryz.sizeOf100,rfl⟩)<|oV (zac rfl foc0 rfl Tryz.isAgg100)<|oV (V_len rfl foc1 (Reads.sl _ _ _) Tryz.runUnderlying100)<|oM rfl<|nT<|zao<|za8 (X:=Nat) [3,4,5,11,12,13,14,15,16,17,18,19,20,21,22,23] (fun i  => ([(11,.int .i64 (i:Nat)),(3,.slice none 0 0)]:Slots)) (fun i R=>R) (fun i  => i≤vs.length) (fun i  => vs.length - i) (0) ?_ ?_ r_ ?_
 · exact Nat.zero_le _
 · exact ⟨rfl,rfl,True.intro⟩
 ·
  intro i hil
  show CJ _ _ _ _ _ (([(11,.int .i64 (i:Nat)),(3,.slice none 0 0)]:Slots) ++ forget _ _) (_)
  refine sR<|oP (P_lss rfl rfl)<|nT<|zab ?_
  first | (refine zav rfl (fun hg1 => ?_) (fun hg1 => ?_)) | (refine zaw rfl (fun hg1 => ?_) (fun hg1 => ?_)) | (refine za1 rfl (fun hg1 => ?_) (fun hg1 => ?_))
  ·
   refine kT<|zab<|zao<|sR ?_
   have hi:i < vs.length := by omega
   refine oM rfl ?_
   first | (refine RJ_op rfl (OJ_V (zam rfl rfl rfl (by omega) foc1 (Reads.sl _ _ _) Tryz.runUnderlying100 Tryz.sizeOf107) rfl ?_)) | (refine RJ_op rfl (OJ_V (zam rfl rfl (Int.toNat_of_nonneg (by omega)).symm (by omega) foc1 (Reads.sl _ _ _) Tryz.runUnderlying100 Tryz.sizeOf107) rfl ?_))
   refine oV (zdb rfl rfl (by omega) foc1 (Reads.sl _ _ _) rfl rfl Tryz.isAgg107 Tryz.sizeOf107)<|oO<|zbi Tryz.zeroValue107 rfl rfl fun b1=>oA rfl<|oO<|zbo rfl rfl foc0 Tryz.sizeOf107 rfl rfl rfl<|nT<|sR<|oP (zaa rfl ⟨_,_,_,Tryz.runUnderlying107,rfl,rfl,Tryz.sizeOf102,rfl⟩)<|oV (zac rfl foc0 rfl Tryz.isAgg102)<|oP (P_eql rfl rfl)<|nT<|zap rfl (by first | exact decide_eq_false (by show ¬ ((mlg vs).getD i tyMLeg.dflt).st=1; rw [zfw]; simp) | (show ¬ ((mlg vs).getD i tyMLeg.dflt).st=1; rw [zfw]; simp))<|zbh<|zah<|zar<|zag<|oP (P_add rfl rfl (by omega))<|oM rfl<|za0<|zba (i + 1) (by first | omega | (simp only []; omega)) ?_ kP_ ?_ (t1_ (t1_ (e_ r_)))
   · show i + 1≤vs.length; omega
   · exact ⟨rfl,rfl,True.intro⟩
  ·
   refine zbc<|zay<|zau<|zat<|zar<|zab<|sR<|oM rfl<|oP (zad rfl)<|oP (zaa rfl ⟨_,_,_,Tryz.runUnderlying105,rfl,rfl,Tryz.sizeOf4,rfl⟩)<|oV (zac rfl foc0 rfl Tryz.isAgg4)<|oM rfl<|zbp 28 false rfl (by first | exact decide_eq_false (by rfl) | (rfl)) fun hg3B=>g_ rfl rfl rfl hg3B rfl<|g_ rfl rfl rfl hg3B rfl<|g_ rfl rfl rfl hg3B rfl<|g_ rfl rfl rfl hg3B rfl<|g_ rfl rfl rfl hg3B rfl<|oP (za2 rfl hg3B rfl)<|nT<|zap rfl rfl<|kT<|sR<|oM rfl<|oA rfl<|nT<|zaf<|zan (res1 Tryz.results70 rfl)<|CSpec.close () ?_ ?_ r_
   · rfl
   · trivial
theorem zji {W:World} {vs:List IfH} {q n rg:Nat} {lv dv:Sl3} (h2:vs.length=2) :
    CSpec Tryz.prog W 41 [ptr q 0] [blk q 105 [lv.v,.pointer none,.bool false,.int .i64 2,.int .i64 (n:Int),.int .i64 (rg:Int),dv.v,.int .i64 0],sl tyMLeg lv.v (mlg vs)] (fun _:Unit => .int .i64 0) (fun _=>True) (fun _ F=>blk q 105 [lv.v,.pointer none,.bool false,.int .i64 2,.int .i64 (n:Int),.int .i64 (rg:Int),dv.v,.int .i64 0]::sl tyMLeg lv.v (mlg vs)::F) := by
 refine CSpec.of_body Tryz.func41 rfl Tryz.ntmps41 rfl fun F => ?_
 show CJ _ _ _ _ _ _ (_::_::F)
 refine sR<|oA rfl<|nT<|zab<|sR<|oM rfl<|oO<|zai ((zwo h2)) rfl Tryz.call70 (Dels.cons del0 (dC_ del0)) rfl fun _ hc1=>oP (zca rfl Tryz.runUnderlying22)<|oP (P_gtr rfl rfl)<|nT<|zap rfl dF_<|kT<|sR<|oA rfl<|nT<|zaf<|zan (res1 Tryz.results41 rfl)<|CSpec.close () ?_ ?_ r_
 · rfl
 · trivial
theorem zud {W:World} {q:Nat} {i e:Int} (he:e=0∨e=5) :
    CSpec Tryz.prog W 71 [ptr q 0,.int .i64 i,.int .i64 e] [] (fun _:Unit => .int .i64 e) (fun _=>True) (fun _ F=>F) := by
 refine CSpec.of_body Tryz.func71 rfl Tryz.ntmps71 rfl fun F => ?_
 show CJ _ _ _ _ _ _ (F)
 refine sR<|oA rfl<|nT<|zab<|zao<|sR<|oM rfl<|oP (P_eql rfl rfl)<|oM rfl ?_
 first | (refine zbu 17 rfl (fun hg1B hg1 => ?_) (fun hg1B hg1 => ?_)) | (refine zbv 17 rfl (fun hg1B hg1 => ?_) (fun hg1B hg1 => ?_)) | (refine zb3 17 rfl (fun hg1B => ?_) (fun hg1B => ?_))
 ·
  refine g_ rfl rfl rfl hg1B rfl<|g_ rfl rfl rfl hg1B rfl<|oP (zbe rfl hg1B rfl)<|oA rfl<|nT<|za7 rfl rfl<|sR<|oM rfl<|oA rfl<|nT<|zaf<|zax<|zak<|zan (res1 Tryz.results71 rfl)<|CSpec.close () ?_ ?_ r_
  · rfl
  · trivial
 ·
  refine p_ rfl rfl rfl hg1B (zae rfl)<|p_ rfl rfl rfl hg1B (P_eql rfl rfl)<|oP (za2 rfl hg1B rfl)<|oA rfl<|nT<|za7 rfl wT_<|sR<|oM rfl<|oA rfl<|nT<|zaf<|zax<|zak<|zan (res1 Tryz.results71 rfl)<|CSpec.close () ?_ ?_ r_
  · rfl
  · trivial
theorem zq0 {W:World} {vs:List IfH} {q n rg:Nat} {lv dv:Sl3} {a:Int} {v:Int} (h2:vs.length=2) :
    CSpec Tryz.prog W 74 [ptr q 0,.int .i64 a,.int .u64 v] [blk q 105 [lv.v,.pointer none,.bool false,.int .i64 2,.int .i64 (n:Int),.int .i64 (rg:Int),dv.v,.int .i64 0],sl tyMLeg lv.v (mlg vs)] (fun _:Unit => .int .i64 0) (fun _=>True) (fun _ F=>blk q 105 [lv.v,.pointer none,.bool false,.int .i64 2,.int .i64 (n:Int),.int .i64 (rg:Int),dv.v,.int .i64 0]::sl tyMLeg lv.v (mlg vs)::F) := by
 refine CSpec.of_body Tryz.func74 rfl Tryz.ntmps74 rfl fun F => ?_
 show CJ _ _ _ _ _ _ (_::_::F)
 have hml := @zd7 vs
 refine sR<|oA rfl<|nT<|zab<|sR<|oM rfl<|oP (zad rfl)<|oP (zaa rfl ⟨_,_,_,Tryz.runUnderlying105,rfl,rfl,Tryz.sizeOf100,rfl⟩)<|oV (zac rfl foc0 rfl Tryz.isAgg100)<|oV (V_len rfl foc1 (Reads.sl _ _ _) Tryz.runUnderlying100)<|oM rfl<|nT<|zao<|za8 (X:=Nat) [6,7,8,14,15,16,17,18,19,20,21,22,23,24,25,26,27,28,29,30,31,32,33,34,35,36,37,38,39,40,41,42,43,44,45,46,47,48,49,50,51,52,53,54,55] (fun i  => ([(14,.int .i64 (i:Nat))]:Slots)) (fun i R=>R) (fun i  => i≤vs.length) (fun i  => vs.length - i) (0) ?_ ?_ r_ ?_
 · exact Nat.zero_le _
 · exact ⟨rfl,True.intro⟩
 ·
  intro i hil
  show CJ _ _ _ _ _ (([(14,.int .i64 (i:Nat))]:Slots) ++ forget _ _) (_)
  refine sR<|oP (P_lss rfl rfl)<|nT<|zab ?_
  first | (refine zav rfl (fun hg1 => ?_) (fun hg1 => ?_)) | (refine zaw rfl (fun hg1 => ?_) (fun hg1 => ?_)) | (refine za1 rfl (fun hg1 => ?_) (fun hg1 => ?_))
  ·
   refine kT<|zab<|zao<|sR ?_
   have hi:i < vs.length := by omega
   refine oM rfl<|oA rfl<|nT<|sR<|oM rfl<|oP (zad rfl)<|oP (zaa rfl ⟨_,_,_,Tryz.runUnderlying105,rfl,rfl,Tryz.sizeOf100,rfl⟩)<|oV (zac rfl foc0 rfl Tryz.isAgg100)<|oM rfl ?_
   first | (refine RJ_op rfl (OJ_V (zam rfl rfl rfl (by omega) foc1 (Reads.sl _ _ _) Tryz.runUnderlying100 Tryz.sizeOf107) rfl ?_)) | (refine RJ_op rfl (OJ_V (zam rfl rfl (Int.toNat_of_nonneg (by omega)).symm (by omega) foc1 (Reads.sl _ _ _) Tryz.runUnderlying100 Tryz.sizeOf107) rfl ?_))
   refine oP (zbl rfl ⟨_,_,_,Tryz.runUnderlying107,rfl,rfl,Tryz.sizeOf102,rfl⟩)<|oV (VJ_eq (v := .int .i64 0) (za6 rfl rfl (by omega) foc1 (Reads.sl _ _ _) rfl rfl Tryz.isAgg102) (by rw [zfw]))<|oP (P_eql rfl rfl)<|oM rfl<|zbp 26 false rfl dF_ fun hg2B=>g_ rfl rfl rfl hg2B rfl<|g_ rfl rfl rfl hg2B rfl<|g_ rfl rfl rfl hg2B rfl<|g_ rfl rfl rfl hg2B rfl<|g_ rfl rfl rfl hg2B rfl<|g_ rfl rfl rfl hg2B rfl<|g_ rfl rfl rfl hg2B rfl<|g_ rfl rfl rfl hg2B rfl<|g_ rfl rfl rfl hg2B rfl<|g_ rfl rfl rfl hg2B rfl<|oP (za2 rfl hg2B rfl)<|nT<|zap rfl rfl<|zbh<|zah<|zar<|zag<|oP (P_add rfl rfl (by omega))<|oM rfl<|za0<|zba (i + 1) (by first | omega | (simp only []; omega)) ?_ kP_ ?_ r_
   · show i + 1≤vs.length; omega
   · exact ⟨rfl,True.intro⟩
  ·
   refine zbc<|zay<|zau<|zat<|zar<|sR<|oA rfl<|nT<|zaf<|zan (res1 Tryz.results74 rfl)<|CSpec.close () ?_ ?_ r_
   · rfl
   · trivial
theorem zp8 {W:World} {B:TS→HP} {vs:List IfH} {fc fd:Value} {ch:Nat→Bool} {Inv:Nat→TS→Prop} {Dn:TS→Prop} {G:HP} {t:TS} {q n rg:Nat} {lv dv:Sl3}
    (hch:∀ {W:World} (i:Nat),i < vs.length→FOk Tryz.prog W fc [.int .i64 (i:Int)] [G] (fun _:Unit => .bool (ch i)) (fun _=>True) (fun _ F=>G::F))
    (hdo:∀ {W:World} (i:Nat) (t:TS),i < vs.length→ch i=true→Inv i t→FOk Tryz.prog W fd [.int .i64 (i:Int)] [B t,blk q 105 [lv.v,.pointer none,.bool false,.int .i64 2,.int .i64 (n:Int),.int .i64 (rg:Int),dv.v,.int .i64 0],sl tyMLeg lv.v (mlg vs),G] (fun x:Bool × TS => .int .i64 (if x.1 then 0 else 5)) (fun x=>(x.1=true→Inv (i + 1) x.2)∧(x.1=false→Dn x.2)) (fun x F=>B x.2::blk q 105 [lv.v,.pointer none,.bool false,.int .i64 2,.int .i64 (n:Int),.int .i64 (rg:Int),dv.v,.int .i64 0]::sl tyMLeg lv.v (mlg vs)::G::F))
    (hsk:∀ (i:Nat) (t:TS),i < vs.length→ch i=false→Inv i t→Inv (i + 1) t) (h0:Inv 0 t) (h2:vs.length=2) :
    CSpec Tryz.prog W 44 [ptr q 0,fc,fd] [B t,blk q 105 [lv.v,.pointer none,.bool false,.int .i64 2,.int .i64 (n:Int),.int .i64 (rg:Int),dv.v,.int .i64 0],sl tyMLeg lv.v (mlg vs),G] (fun x:Bool × TS => .int .i64 (if x.1 then 0 else 5)) (fun x=>(x.1=true→Inv vs.length x.2)∧(x.1=false→Dn x.2)) (fun x F=>B x.2::blk q 105 [lv.v,.pointer none,.bool false,.int .i64 2,.int .i64 (n:Int),.int .i64 (rg:Int),dv.v,.int .i64 0]::sl tyMLeg lv.v (mlg vs)::G::F) := by
 refine CSpec.of_body Tryz.func44 rfl Tryz.ntmps44 rfl fun F => ?_
 show CJ _ _ _ _ _ _ (_::_::_::_::F)
 have hml := @zd7 vs
 refine sR<|oA rfl<|nT<|sR<|oM rfl<|oP (zbb rfl rfl)<|oA rfl<|nT<|zab<|sR<|oM rfl<|oP (zad rfl)<|oP (zaa rfl ⟨_,_,_,Tryz.runUnderlying105,rfl,rfl,Tryz.sizeOf100,rfl⟩)<|oV (zac rfl foc1 rfl Tryz.isAgg100)<|oV (V_len rfl foc2 (Reads.sl _ _ _) Tryz.runUnderlying100)<|oM rfl<|nT<|zao<|za8 (X:=Nat × TS) [6,8,9,17,18,19,20,21,22,23,24,25,26,27,28,29,30,31,32,33,34,35,36,37,38,39,40,41,42,43] (fun ⟨i,t1⟩  => ([(17,.int .i64 (i:Nat))]:Slots)) (fun ⟨i,t1⟩ R=>B t1::R) (fun ⟨i,t1⟩  => i≤vs.length∧Inv i t1) (fun ⟨i,t1⟩  => vs.length - i) ⟨0,t⟩ ?_ ?_ r_ ?_
 · exact ⟨Nat.zero_le _,h0⟩
 · exact ⟨rfl,True.intro⟩
 ·
  rintro ⟨i,t1⟩ ⟨hil,hI⟩
  show CJ _ _ _ _ _ (([(17,.int .i64 (i:Nat))]:Slots) ++ forget _ _) (B t1::_)
  refine sR<|oP (P_lss rfl rfl)<|nT<|zab ?_
  first | (refine zav rfl (fun hg1 => ?_) (fun hg1 => ?_)) | (refine zaw rfl (fun hg1 => ?_) (fun hg1 => ?_)) | (refine za1 rfl (fun hg1 => ?_) (fun hg1 => ?_))
  ·
   refine kT<|zab<|zao<|sR ?_
   have hi:i < vs.length := by omega
   refine oM rfl<|oA rfl<|nT<|sR<|oM rfl<|oP (zad rfl)<|oP (zaa rfl ⟨_,_,_,Tryz.runUnderlying105,rfl,rfl,Tryz.sizeOf100,rfl⟩)<|oV (zac rfl foc1 rfl Tryz.isAgg100)<|oM rfl ?_
   first | (refine RJ_op rfl (OJ_V (zam rfl rfl rfl (by omega) foc2 (Reads.sl _ _ _) Tryz.runUnderlying100 Tryz.sizeOf107) rfl ?_)) | (refine RJ_op rfl (OJ_V (zam rfl rfl (Int.toNat_of_nonneg (by omega)).symm (by omega) foc2 (Reads.sl _ _ _) Tryz.runUnderlying100 Tryz.sizeOf107) rfl ?_))
   refine oP (zbl rfl ⟨_,_,_,Tryz.runUnderlying107,rfl,rfl,Tryz.sizeOf102,rfl⟩)<|oV (VJ_eq (v := .int .i64 0) (za6 rfl rfl (by omega) foc2 (Reads.sl _ _ _) rfl rfl Tryz.isAgg102) (by rw [zfw]))<|oP (P_eql rfl rfl)<|oM rfl<|zbp 29 true rfl dT_ fun hg2B=>p_ rfl rfl rfl hg2B (zae rfl)<|p_ rfl rfl rfl hg2B (zae rfl)<|RJ_gy (zaz rfl rfl rfl hg2B)<|zgz rfl rfl (hch i hi) (dC_ del3) rfl fun _ _=>oP (zbe rfl hg2B rfl)<|nT ?_
   first | (refine zav rfl (fun hg3 => ?_) (fun hg3 => ?_)) | (refine zaw rfl (fun hg3 => ?_) (fun hg3 => ?_)) | (refine za1 rfl (fun hg3 => ?_) (fun hg3 => ?_))
   ·
    have hcb := hg3
    refine sR<|oM rfl<|oM rfl<|oM rfl<|oM rfl<|oO<|zgz rfl rfl (hdo i t1 hi hcb hI) (Dels.cons del1 (Dels.cons del1 (Dels.cons del1 (dC_ del0)))) rfl fun o9 ho9=>oO<|zdz rfl rfl (zud (show (if o9.1 then (0:Int) else 5)=0∨(if o9.1 then (0:Int) else 5)=5 by cases o9.1 <;> simp)) Tryz.call71 Dels.nil rfl fun _ hc1=>oA rfl<|nT<|sR<|oM rfl<|oP (P_neq rfl rfl)<|nT ?_
    first | (refine zav rfl (fun hg4 => ?_) (fun hg4 => ?_)) | (refine zaw rfl (fun hg4 => ?_) (fun hg4 => ?_)) | (refine za1 rfl (fun hg4 => ?_) (fun hg4 => ?_))
    ·
     have ho:o9.1=false := by cases hq:o9.1 with
       | false=>rfl
       | true=>simp [hq] at hg4
     refine sR<|oM rfl<|oA rfl<|nT<|zaf<|zax<|zak<|zbm<|zax<|zak<|zan (res1 Tryz.results44 rfl)<|CSpec.close o9 ?_ ?_ r_
     · rfl
     · exact ⟨fun h=>(by rw [ho] at h; cases h),ho9.2⟩
    ·
     have ho:o9.1=true := by cases hq:o9.1 with
       | true=>rfl
       | false=>simp [hq] at hg4
     refine zbh<|zah<|zar<|zag<|oP (P_add rfl rfl (by omega))<|oM rfl<|za0<|zba ⟨i + 1,o9.2⟩ (by first | omega | (simp only []; omega)) ?_ kP_ ?_ r_
     · exact ⟨by omega,ho9.1 ho⟩
     · exact ⟨rfl,True.intro⟩
   ·
    have hcb := hg3
    refine zbh<|zah<|zar<|zag<|oP (P_add rfl rfl (by omega))<|oM rfl<|za0<|zba ⟨i + 1,t1⟩ (by first | omega | (simp only []; omega)) ?_ kP_ ?_ (t1_ (t1_ (t1_ r_)))
    · exact ⟨by omega,hsk i t1 hi hcb hI⟩
    · exact ⟨rfl,True.intro⟩
  ·
   refine zbc<|zay<|zau<|zat<|zar<|sR<|oM rfl<|oO<|zai ((zji h2)) rfl Tryz.call41 (Dels.cons del1 (dC_ del1)) rfl fun _ hc2=>oA rfl<|nT<|zaf ?_
   obtain rfl:i=vs.length := by omega
   refine zan (res1 Tryz.results44 rfl)<|CSpec.close (true,t1) ?_ ?_ (t2_ r_)
   · rfl
   · exact ⟨fun _=>hI,fun h=>(by cases h)⟩
theorem c_mWr1 {W:World} {B:TS→HP} {vs:List IfH} {dep rc wc:Nat} {sz:Nat→Nat} (hB:BaseOk Tryz.prog B vs.length dep rc wc sz (fun i=>vs.getD i tyDev.dflt)) {t:TS} {q n rg:Nat} {lv dv:Sl3} {i x y z:Nat} (hd:t.dn=false) (hi:i < vs.length) {a:Nat} {v:UInt64} (ha:a < sz i) (hk:wc≤t.k) :
    CSpec Tryz.prog W 263 [.int .i64 (i:Int),ptr x 0,ptr y 0,ptr z 0] [B t,blk q 105 [lv.v,.pointer none,.bool false,.int .i64 2,.int .i64 (n:Int),.int .i64 (rg:Int),dv.v,.int .i64 0],sl tyMLeg lv.v (mlg vs),blk x 49 [ptr q 0],blk y 3 [.int .i64 (a:Int)],blk z 47 [.int .u64 (v.toNat:Int)]] (fun ok:Bool => .int .i64 (if ok then 0 else 5)) (fun ok=>ok=false→t.safe=false) (fun ok F=>B (t.wrS wc i a v ok)::blk q 105 [lv.v,.pointer none,.bool false,.int .i64 2,.int .i64 (n:Int),.int .i64 (rg:Int),dv.v,.int .i64 0]::sl tyMLeg lv.v (mlg vs)::blk x 49 [ptr q 0]::blk y 3 [.int .i64 (a:Int)]::blk z 47 [.int .u64 (v.toNat:Int)]::F) := by
 refine CSpec.of_body Tryz.func263 rfl Tryz.ntmps263 rfl fun F => ?_
 show CJ _ _ _ _ _ _ (_::_::_::_::_::_::F)
 have hml := @zd7 vs
 refine sR<|oA rfl<|nT<|zab<|za3 1024 kR_ rfl<|aW 0 1 rfl rfl r_ (zac rfl foc3 rfl Tryz.isAgg49)<|aN 1 3 rfl rfl (zad rfl)<|aN 2 7 rfl rfl (zaa rfl ⟨_,_,_,Tryz.runUnderlying105,rfl,rfl,Tryz.sizeOf100,rfl⟩)<|aW 3 15 rfl rfl r_ (zac rfl foc1 rfl Tryz.isAgg100)<|aN 4 31 rfl rfl (zae rfl) ?_
 first | (refine zbj 5 63 rfl kR_ rfl kR_ kR_ (zal rfl) r_ (zam rfl rfl rfl (by omega) foc2 (Reads.sl _ _ _) Tryz.runUnderlying100 Tryz.sizeOf107) rfl (fun _ _ _ _ h=>h) ?_) | (refine zbj 5 63 rfl kR_ rfl kR_ kR_ (zal rfl) r_ (zam rfl rfl (Int.toNat_of_nonneg (by omega)).symm (by omega) foc2 (Reads.sl _ _ _) Tryz.runUnderlying100 Tryz.sizeOf107) rfl (fun _ _ _ _ h=>h) ?_)
 refine aN 6 127 rfl rfl (zbl rfl ⟨_,_,_,Tryz.runUnderlying107,rfl,rfl,Tryz.sizeOf38,rfl⟩)<|aW 7 255 rfl rfl r_ (VJ_eq (v:=(vs.getD i tyDev.dflt).v) (za6 rfl rfl (by omega) foc2 (Reads.sl _ _ _) rfl rfl Tryz.isAgg38) (by rw [zfw]))<|aW 8 511 rfl rfl r_ (zac rfl foc4 rfl Tryz.isAgg3)<|aW 9 1023 rfl rfl r_ (zac rfl foc5 rfl Tryz.isAgg47)<|AJ_op 10 2047 rfl kR_ rfl (zal rfl)<|zbz rfl (IOk.call (hB.wr (i:=i) (a:=a) (v:=v) hi ha hd hk) (Nat.le_trans hB.depb (by decide))) rfl (dC_ del0) rfl fun o1 ho2=>⟨fun h=>absurd h (by decide),?_⟩
 refine aN 11 4095 rfl rfl (za9 rfl)<|aD<|zaf<|zan (res1 Tryz.results263 rfl)<|CSpec.close o1 ?_ ?_ r_
 · rfl
 · exact ho2
theorem c_mFl1 {W:World} {B:TS→HP} {vs:List IfH} {dep rc wc:Nat} {sz:Nat→Nat} (hB:BaseOk Tryz.prog B vs.length dep rc wc sz (fun i=>vs.getD i tyDev.dflt)) {t:TS} {q n rg:Nat} {lv dv:Sl3} {i x:Nat} (hd:t.dn=false) (hi:i < vs.length) :
    CSpec Tryz.prog W 264 [.int .i64 (i:Int),ptr x 0] [B t,blk q 105 [lv.v,.pointer none,.bool false,.int .i64 2,.int .i64 (n:Int),.int .i64 (rg:Int),dv.v,.int .i64 0],sl tyMLeg lv.v (mlg vs),blk x 49 [ptr q 0]] (fun _:Unit => .int .i64 0) (fun _=>True) (fun _ F=>B (t.fls i)::blk q 105 [lv.v,.pointer none,.bool false,.int .i64 2,.int .i64 (n:Int),.int .i64 (rg:Int),dv.v,.int .i64 0]::sl tyMLeg lv.v (mlg vs)::blk x 49 [ptr q 0]::F) := by
 refine CSpec.of_body Tryz.func264 rfl Tryz.ntmps264 rfl fun F => ?_
 show CJ _ _ _ _ _ _ (_::_::_::_::F)
 have hml := @zd7 vs
 refine sR<|oA rfl<|nT<|sR<|oV (zac rfl foc3 rfl Tryz.isAgg49)<|oP (zad rfl)<|oP (zaa rfl ⟨_,_,_,Tryz.runUnderlying105,rfl,rfl,Tryz.sizeOf100,rfl⟩)<|oV (zac rfl foc1 rfl Tryz.isAgg100)<|oM rfl ?_
 first | (refine RJ_op rfl (OJ_V (zam rfl rfl rfl (by omega) foc2 (Reads.sl _ _ _) Tryz.runUnderlying100 Tryz.sizeOf107) rfl ?_)) | (refine RJ_op rfl (OJ_V (zam rfl rfl (Int.toNat_of_nonneg (by omega)).symm (by omega) foc2 (Reads.sl _ _ _) Tryz.runUnderlying100 Tryz.sizeOf107) rfl ?_))
 refine oP (zbl rfl ⟨_,_,_,Tryz.runUnderlying107,rfl,rfl,Tryz.sizeOf38,rfl⟩)<|oV (VJ_eq (v:=(vs.getD i tyDev.dflt).v) (za6 rfl rfl (by omega) foc2 (Reads.sl _ _ _) rfl rfl Tryz.isAgg38) (by rw [zfw]))<|oO<|zbz rfl (IOk.call (hB.fl (i:=i) hi hd) (Nat.le_trans hB.depb (by decide))) rfl (dC_ del0) rfl fun o1 ho2=>oA rfl<|nT<|zaf<|zan (res1 Tryz.results264 rfl)<|CSpec.close () ?_ ?_ r_
 · rfl
 · trivial
theorem zso {W:World} {i:Int} :
    CSpec Tryz.prog W 262 [.int .i64 i] [] (fun _:Unit => .bool true) (fun _=>True) (fun _ F=>F) := by
 refine CSpec.of_body Tryz.func262 rfl Tryz.ntmps262 rfl fun F => ?_
 show CJ _ _ _ _ _ _ (F)
 refine sR<|oA rfl<|nT<|sR<|oA rfl<|nT<|zaf<|zan (res1 Tryz.results262 rfl)<|CSpec.close () ?_ ?_ r_
 · rfl
 · trivial
theorem c_mSp1 {W:World} {i:Nat} {x:Nat} :
    CSpec Tryz.prog W 72 [.int .i64 (i:Int),ptr x 0] [blk x 3 [.int .i64 0]] (fun _:Unit => .bool (decide (¬ (i:Int)=0))) (fun _=>True) (fun _ F=>blk x 3 [.int .i64 0]::F) := by
 refine CSpec.of_body Tryz.func72 rfl Tryz.ntmps72 rfl fun F => ?_
 show CJ _ _ _ _ _ _ (_::F)
 refine sR<|oA rfl<|nT<|sR<|oM rfl<|oV (zac rfl foc0 rfl Tryz.isAgg3)<|oP (P_neq rfl rfl)<|oA rfl<|nT<|zaf<|zan (res1 Tryz.results72 rfl)<|CSpec.close () ?_ ?_ r_
 · rfl
 · trivial
theorem c_mSp2 {W:World} {B:TS→HP} {vs:List IfH} {dep rc wc:Nat} {sz:Nat→Nat} (hB:BaseOk Tryz.prog B vs.length dep rc wc sz (fun i=>vs.getD i tyDev.dflt)) {t:TS} {q n rg:Nat} {lv dv:Sl3} {i x y z:Nat} (hd:t.dn=false) (hi:i < vs.length) {u a:Nat} {v:UInt64} (ha:a < sz i) (hk:rc + wc≤t.k) (hne:i≠0) (hz:t.z=true→v=0) :
    CSpec Tryz.prog W 73 [.int .i64 (i:Int),ptr u 0,ptr x 0,ptr y 0,ptr z 0] [B t,blk q 105 [lv.v,.pointer none,.bool false,.int .i64 2,.int .i64 (n:Int),.int .i64 (rg:Int),dv.v,.int .i64 0],sl tyMLeg lv.v (mlg vs),blk u 22 [.slice none 0 0],blk x 49 [ptr q 0],blk y 3 [.int .i64 (a:Int)],blk z 47 [.int .u64 (v.toNat:Int)]] (fun x:Bool × TS => .int .i64 (if x.1 then 0 else 5)) (fun x=>Oth t x.2 (rc + wc) x.1) (fun r F=>B r.2::blk q 105 [lv.v,.pointer none,.bool false,.int .i64 2,.int .i64 (n:Int),.int .i64 (rg:Int),dv.v,.int .i64 0]::sl tyMLeg lv.v (mlg vs)::blk u 22 [.slice none 0 0]::blk x 49 [ptr q 0]::blk y 3 [.int .i64 (a:Int)]::blk z 47 [.int .u64 (v.toNat:Int)]::F) := by
 refine CSpec.of_body Tryz.func73 rfl Tryz.ntmps73 rfl fun F => ?_
 show CJ _ _ _ _ _ _ (_::_::_::_::_::_::_::F)
 have hml := @zd7 vs
 refine sR<|oA rfl<|nT<|zab<|sR<|oV (zac rfl foc3 rfl Tryz.isAgg22)<|oM rfl<|oO<|zai (zmv) rfl Tryz.call35 Dels.nil rfl fun _ hc1=>oP (P_not rfl)<|nT<|za7 rfl rfl<|zab<|za3 512 kR_ rfl<|aW 0 1 rfl rfl r_ (zac rfl foc4 rfl Tryz.isAgg49)<|aN 1 3 rfl rfl (zad rfl)<|aN 2 7 rfl rfl (zaa rfl ⟨_,_,_,Tryz.runUnderlying105,rfl,rfl,Tryz.sizeOf100,rfl⟩)<|aW 3 15 rfl rfl r_ (zac rfl foc1 rfl Tryz.isAgg100)<|aN 4 31 rfl rfl (zae rfl) ?_
 first | (refine zbj 5 63 rfl kR_ rfl kR_ kR_ (zal rfl) r_ (zam rfl rfl rfl (by omega) foc2 (Reads.sl _ _ _) Tryz.runUnderlying100 Tryz.sizeOf107) rfl (fun _ _ _ _ h=>h) ?_) | (refine zbj 5 63 rfl kR_ rfl kR_ kR_ (zal rfl) r_ (zam rfl rfl (Int.toNat_of_nonneg (by omega)).symm (by omega) foc2 (Reads.sl _ _ _) Tryz.runUnderlying100 Tryz.sizeOf107) rfl (fun _ _ _ _ h=>h) ?_)
 refine aN 6 127 rfl rfl (zbl rfl ⟨_,_,_,Tryz.runUnderlying107,rfl,rfl,Tryz.sizeOf38,rfl⟩)<|aW 7 255 rfl rfl r_ (VJ_eq (v:=(vs.getD i tyDev.dflt).v) (za6 rfl rfl (by omega) foc2 (Reads.sl _ _ _) rfl rfl Tryz.isAgg38) (by rw [zfw]))<|aW 8 511 rfl rfl r_ (zac rfl foc5 rfl Tryz.isAgg3)<|AJ_op 9 1023 rfl kR_ rfl (zal rfl) (zgm rfl (IOk.call (hB.rd (i:=i) (a:=a) hi ha hd (by omega)) (Nat.le_trans hB.depb (by decide))) rfl (dC_ del0) rfl (fun ho3 => ?_) (fun ho3 => ?_))
 ·
  refine ⟨fun h=>absurd h (by decide),?_⟩
  refine aN 10 2047 rfl rfl (zae rfl)<|aN 11 4095 rfl rfl (zaj rfl rfl)<|aN 12 8191 rfl rfl (zaj rfl rfl)<|aN 13 16383 rfl rfl (za9 rfl)<|aN 14 32767 rfl rfl (za9 rfl)<|aD<|sR<|oM rfl<|oP (P_eql rfl rfl)<|oM rfl<|zbp 29 false rfl dF_ fun hg1B=>g_ rfl rfl rfl hg1B rfl<|g_ rfl rfl rfl hg1B rfl<|g_ rfl rfl rfl hg1B rfl<|oP (za2 rfl hg1B rfl)<|oM rfl<|p_ rfl rfl rfl rfl (zae rfl)<|p_ rfl rfl rfl rfl (P_neq rfl rfl)<|p_ rfl rfl rfl rfl (zae rfl)<|zbp 37 true rfl dT_ fun hg2B=>p_ rfl rfl rfl hg2B (zae rfl)<|p_ rfl rfl rfl hg2B (P_neq rfl rfl)<|p_ rfl rfl rfl rfl (zbe rfl hg2B rfl)<|oP (za2 rfl rfl rfl)<|nT<|za7 rfl dT_<|sR<|oM rfl<|oA rfl<|nT<|zaf<|zak<|zan (res1 Tryz.results73 rfl)<|CSpec.close (false,(t.rdS rc false)) ?_ ?_ r_
  · rfl
  ·
   show Oth t (t.rdS rc false) (rc + wc) false
   exact Oth.mono (c:=rc) (Oth.rd hd (fun _=>ho3 rfl)) (Nat.le_add_right _ _)
 ·
  refine ⟨fun h=>absurd h (by decide),?_⟩
  refine aN 10 2047 rfl rfl (zae rfl)<|aN 11 4095 rfl rfl (zaj rfl rfl)<|aN 12 8191 rfl rfl (zaj rfl rfl)<|aN 13 16383 rfl rfl (za9 rfl)<|aN 14 32767 rfl rfl (za9 rfl)<|aD<|sR<|oM rfl<|oP (P_eql rfl rfl)<|oM rfl<|zbp 29 true rfl dT_ fun hg4B=>p_ rfl rfl rfl hg4B (zae rfl)<|v_ rfl rfl rfl hg4B (zac rfl foc6 rfl Tryz.isAgg47)<|p_ rfl rfl rfl hg4B (P_eql rfl rfl)<|oP (zbe rfl hg4B rfl)<|oM rfl ?_
  first | (refine zbu 34 rfl (fun hg5B hg5 => ?_) (fun hg5B hg5 => ?_)) | (refine zbv 34 rfl (fun hg5B hg5 => ?_) (fun hg5B hg5 => ?_)) | (refine zb3 34 rfl (fun hg5B => ?_) (fun hg5B => ?_))
  ·
   refine g_ rfl rfl rfl hg5B rfl<|g_ rfl rfl rfl hg5B rfl<|g_ rfl rfl rfl hg5B rfl<|RJ_gn (zns rfl rfl rfl) rfl rfl<|RJ_gn (zns rfl rfl rfl) rfl rfl<|g_ rfl rfl rfl hg5B rfl<|oP (zbe rfl hg5B rfl)<|nT<|za7 rfl rfl<|sR<|oM rfl<|oA rfl<|nT<|zaf<|zak<|zan (res1 Tryz.results73 rfl)<|CSpec.close (true,(t.rdS rc true)) ?_ ?_ r_
   · rfl
   ·
    show Oth t (t.rdS rc true) (rc + wc) true
    exact Oth.mono (c:=rc) (Oth.rd hd (fun h=>by cases h)) (Nat.le_add_right _ _)
  ·
   refine p_ rfl rfl rfl hg5B (zae rfl)<|p_ rfl rfl rfl hg5B (P_neq rfl rfl)<|p_ rfl rfl rfl hg5B (zae rfl)<|zbp 37 false rfl dF_ fun hg6B=>g_ rfl rfl rfl hg6B rfl<|g_ rfl rfl rfl hg6B rfl<|p_ rfl rfl rfl hg5B (za2 rfl hg6B rfl)<|oP (za2 rfl hg5B rfl)<|nT<|zap rfl rfl<|kT<|zab<|zab<|za3 1024 kR_ rfl<|aW 0 1 rfl rfl r_ (zac rfl foc4 rfl Tryz.isAgg49)<|aN 1 3 rfl rfl (zad rfl)<|aN 2 7 rfl rfl (zaa rfl ⟨_,_,_,Tryz.runUnderlying105,rfl,rfl,Tryz.sizeOf100,rfl⟩)<|aW 3 15 rfl rfl r_ (zac rfl foc1 rfl Tryz.isAgg100)<|aN 4 31 rfl rfl (zae rfl) ?_
   first | (refine zbj 5 63 rfl kR_ rfl kR_ kR_ (zal rfl) r_ (zam rfl rfl rfl (by omega) foc2 (Reads.sl _ _ _) Tryz.runUnderlying100 Tryz.sizeOf107) rfl (fun _ _ _ _ h=>h) ?_) | (refine zbj 5 63 rfl kR_ rfl kR_ kR_ (zal rfl) r_ (zam rfl rfl (Int.toNat_of_nonneg (by omega)).symm (by omega) foc2 (Reads.sl _ _ _) Tryz.runUnderlying100 Tryz.sizeOf107) rfl (fun _ _ _ _ h=>h) ?_)
   refine aN 6 127 rfl rfl (zbl rfl ⟨_,_,_,Tryz.runUnderlying107,rfl,rfl,Tryz.sizeOf38,rfl⟩)<|aW 7 255 rfl rfl r_ (VJ_eq (v:=(vs.getD i tyDev.dflt).v) (za6 rfl rfl (by omega) foc2 (Reads.sl _ _ _) rfl rfl Tryz.isAgg38) (by rw [zfw]))<|aW 8 511 rfl rfl r_ (zac rfl foc5 rfl Tryz.isAgg3)<|aW 9 1023 rfl rfl r_ (zac rfl foc6 rfl Tryz.isAgg47)<|AJ_op 10 2047 rfl kR_ rfl (zal rfl) (zgm rfl (IOk.call (hB.wr (i:=i) (a:=a) (v:=v) hi ha (show (t.rdS rc true).dn=false from hd) (show wc≤t.k - rc by omega)) (Nat.le_trans hB.depb (by decide))) rfl (dC_ del0) rfl (fun ho5 => ?_) (fun ho5 => ?_))
   ·
    refine ⟨fun h=>absurd h (by decide),?_⟩
    refine aN 11 4095 rfl rfl (za9 rfl)<|aD<|sR<|oM rfl<|oP (P_neq rfl rfl)<|nT<|za7 rfl dT_<|sR<|oM rfl<|oA rfl<|nT<|zaf<|zak<|zan (res1 Tryz.results73 rfl)<|CSpec.close (false,((t.rdS rc true).wrS wc i a v false)) ?_ ?_ r_
    · rfl
    ·
     show Oth t ((t.rdS rc true).wrS wc i a v false) (rc + wc) false
     exact Oth.trans (t' := t.rdS rc true) (c:=rc) (c' := wc) (Oth.rd hd (fun h=>by cases h)) (Oth.wr hne hd (fun _=>ho5 rfl) hz)
   ·
    refine ⟨fun h=>absurd h (by decide),?_⟩
    refine aN 11 4095 rfl rfl (za9 rfl)<|aD<|sR<|oM rfl<|oP (P_neq rfl rfl)<|nT<|zap rfl dF_<|kT<|sR<|oV (zac rfl foc4 rfl Tryz.isAgg49)<|oP (zad rfl)<|oP (zaa rfl ⟨_,_,_,Tryz.runUnderlying105,rfl,rfl,Tryz.sizeOf100,rfl⟩)<|oV (zac rfl foc1 rfl Tryz.isAgg100)<|oM rfl ?_
    first | (refine RJ_op rfl (OJ_V (zam rfl rfl rfl (by omega) foc2 (Reads.sl _ _ _) Tryz.runUnderlying100 Tryz.sizeOf107) rfl ?_)) | (refine RJ_op rfl (OJ_V (zam rfl rfl (Int.toNat_of_nonneg (by omega)).symm (by omega) foc2 (Reads.sl _ _ _) Tryz.runUnderlying100 Tryz.sizeOf107) rfl ?_))
    refine oP (zbl rfl ⟨_,_,_,Tryz.runUnderlying107,rfl,rfl,Tryz.sizeOf38,rfl⟩)<|oV (VJ_eq (v:=(vs.getD i tyDev.dflt).v) (za6 rfl rfl (by omega) foc2 (Reads.sl _ _ _) rfl rfl Tryz.isAgg38) (by rw [zfw]))<|oO<|zbz rfl (IOk.call (hB.fl (i:=i) hi (show ((t.rdS rc true).wrS wc i a v true).dn=false from (show (t.rdS rc true).dn=false from hd))) (Nat.le_trans hB.depb (by decide))) rfl (dC_ del0) rfl fun o6 ho7=>oA rfl<|nT<|zaf<|zan (res1 Tryz.results73 rfl)<|CSpec.close (true,(((t.rdS rc true).wrS wc i a v true).fls i)) ?_ ?_ r_
    · rfl
    ·
     show Oth t (((t.rdS rc true).wrS wc i a v true).fls i) (rc + wc) true
     exact Oth.trans (t' := t.rdS rc true) (c:=rc) (c' := wc) (Oth.rd hd (fun h=>by cases h)) (Oth.trans (c:=wc) (c' := 0) (Oth.wr hne hd (fun h=>by cases h) hz) (Oth.fl hne hd))
theorem zyr {W:World} {B:TS→HP} {vs:List IfH} {dep rc wc:Nat} {sz:Nat→Nat} (hB:BaseOk Tryz.prog B vs.length dep rc wc sz (fun i=>vs.getD i tyDev.dflt)) {t:TS} {q n rg:Nat} {lv dv:Sl3} {a:Nat} (hd:t.dn=false) (h2:vs.length=2) (ha:a < sz 0) (hk:rc≤t.k) :
    CSpec Tryz.prog W 42 [ptr q 0,.int .i64 (a:Int)] [B t,blk q 105 [lv.v,.pointer none,.bool false,.int .i64 2,.int .i64 (n:Int),.int .i64 (rg:Int),dv.v,.int .i64 0],sl tyMLeg lv.v (mlg vs)] (fun ok:Bool => .tuple #[.int .u64 ((if ok then Ts.now t 0 a else 0:UInt64).toNat:Int),.int .i64 0,.slice none 0 0,.int .i64 (if ok then 0 else 5)]) (fun ok=>ok=false→t.safe=false) (fun ok F=>B (t.rdS rc ok)::blk q 105 [lv.v,.pointer none,.bool false,.int .i64 2,.int .i64 (n:Int),.int .i64 (rg:Int),dv.v,.int .i64 0]::sl tyMLeg lv.v (mlg vs)::F) := by
 refine CSpec.of_body Tryz.func42 rfl Tryz.ntmps42 rfl fun F => ?_
 show CJ _ _ _ _ _ _ (_::_::_::F)
 have hml := @zd7 vs
 have hi:0 < vs.length := by omega
 refine sR<|oA rfl<|oA rfl<|oA rfl<|oA rfl<|nT<|zab<|sR<|oM rfl<|oP (zad rfl)<|oP (zaa rfl ⟨_,_,_,Tryz.runUnderlying105,rfl,rfl,Tryz.sizeOf100,rfl⟩)<|oV (zac rfl foc1 rfl Tryz.isAgg100)<|oV (V_len rfl foc2 (Reads.sl _ _ _) Tryz.runUnderlying100)<|oM rfl<|nT<|zao<|za8 (X:=Unit) [4,5,6,7,8,9,10,11,19,20,21,22,23,24,25,26,27,28,29,30,31,32,33,34,35,36,37,38,39,40,41,42,43,44,45,46,47,48,49,50,51,52,53,54,55,56,57,58,59,60,61,62,63] (fun _=>([(19,.int .i64 ((0:Nat):Int)),(6,.slice none 0 0)]:Slots)) (fun _ R=>R) (fun _=>True) (fun _=>0) () ?_ ?_ r_ ?_
 · trivial
 · exact ⟨rfl,rfl,True.intro⟩
 ·
  intro _ hpf
  show CJ _ _ _ _ _ (([(19,.int .i64 ((0:Nat):Int)),(6,.slice none 0 0)]:Slots) ++ forget _ _) (_)
  refine sR<|oP (P_lss rfl rfl)<|nT<|zab<|za7 rfl (by first | exact decide_eq_true (by show ((0:Nat):Int) < _; omega) | (show ((0:Nat):Int) < _; omega))<|kT<|zab<|zao<|sR<|oM rfl<|oA rfl<|nT<|zab<|sR<|oM rfl<|oP (zad rfl)<|oP (zaa rfl ⟨_,_,_,Tryz.runUnderlying105,rfl,rfl,Tryz.sizeOf100,rfl⟩)<|oV (zac rfl foc1 rfl Tryz.isAgg100)<|oM rfl ?_
  first | (refine RJ_op rfl (OJ_V (zam rfl rfl rfl (by omega) foc2 (Reads.sl _ _ _) Tryz.runUnderlying100 Tryz.sizeOf107) rfl ?_)) | (refine RJ_op rfl (OJ_V (zam rfl rfl (Int.toNat_of_nonneg (by omega)).symm (by omega) foc2 (Reads.sl _ _ _) Tryz.runUnderlying100 Tryz.sizeOf107) rfl ?_))
  refine oP (zbl rfl ⟨_,_,_,Tryz.runUnderlying107,rfl,rfl,Tryz.sizeOf102,rfl⟩)<|oV (VJ_eq (v := .int .i64 0) (za6 rfl rfl (by omega) foc2 (Reads.sl _ _ _) rfl rfl Tryz.isAgg102) (by rw [zfw]))<|oP (P_neq rfl rfl)<|nT<|zap rfl dF_<|kT<|sR<|oM rfl<|oP (zad rfl)<|oP (zaa rfl ⟨_,_,_,Tryz.runUnderlying105,rfl,rfl,Tryz.sizeOf100,rfl⟩)<|oV (zac rfl foc1 rfl Tryz.isAgg100)<|oM rfl ?_
  first | (refine RJ_op rfl (OJ_V (zam rfl rfl rfl (by omega) foc2 (Reads.sl _ _ _) Tryz.runUnderlying100 Tryz.sizeOf107) rfl ?_)) | (refine RJ_op rfl (OJ_V (zam rfl rfl (Int.toNat_of_nonneg (by omega)).symm (by omega) foc2 (Reads.sl _ _ _) Tryz.runUnderlying100 Tryz.sizeOf107) rfl ?_))
  refine oP (zbl rfl ⟨_,_,_,Tryz.runUnderlying107,rfl,rfl,Tryz.sizeOf38,rfl⟩)<|oV (VJ_eq (v:=(vs.getD 0 tyDev.dflt).v) (za6 rfl rfl (by omega) foc2 (Reads.sl _ _ _) rfl rfl Tryz.isAgg38) (by rw [zfw]))<|oM rfl<|oO (zgm rfl (IOk.call (hB.rd (i:=0) (a:=a) hi ha hd hk) (Nat.le_trans hB.depb (by decide))) rfl (dC_ del0) rfl (fun ho2 => ?_) (fun ho2 => ?_))
  ·
   refine oM rfl<|oP (zaj rfl rfl)<|oP (zaj rfl rfl)<|oA rfl<|oA rfl<|nT<|zab<|sR<|oM rfl<|nT<|zao<|sR<|oP (P_eql rfl rfl)<|oA rfl<|nT<|zap rfl dF_<|sR<|oP (P_eql rfl rfl)<|oA rfl<|nT<|zap rfl dF_<|zbh<|zah<|zar<|zab<|sR<|oM rfl<|oM rfl<|oM rfl<|oO<|zai (zud (.inr rfl)) rfl Tryz.call71 Dels.nil rfl fun _ hc3=>oA rfl<|nT<|sR<|oM rfl<|oP (P_neq rfl rfl)<|nT<|za7 rfl dT_<|sR<|oM rfl<|oA rfl<|oA rfl<|oA rfl<|oA rfl<|nT<|zaf<|zak<|zax<|zak<|zbm<|zax<|zak<|zan (res4 Tryz.results42 rfl rfl rfl rfl)<|CSpec.close false ?_ ?_ r_
   · rfl
   · exact ho2
  ·
   refine oM rfl<|oP (zaj rfl rfl)<|oP (zaj rfl rfl)<|oA rfl<|oA rfl<|nT<|zab<|sR<|oM rfl<|nT<|zao<|sR<|oP (P_eql rfl rfl)<|oA rfl<|nT<|za7 rfl dT_<|sR<|oM rfl<|oM rfl<|oM rfl<|oA rfl<|oA rfl<|oA rfl<|oA rfl<|nT<|zaf<|zax<|zak<|zax<|zak<|zbm<|zax<|zak<|zan (res4 Tryz.results42 rfl rfl rfl rfl)<|CSpec.close true ?_ ?_ r_
   · rfl
   · exact ho2
theorem z07 {W:World} {q n rg:Nat} {lv dv:Sl3} :
    CSpec Tryz.prog W 257 [ptr q 0] [blk q 105 [lv.v,.pointer none,.bool false,.int .i64 2,.int .i64 (n:Int),.int .i64 (rg:Int),dv.v,.int .i64 0]] (fun _:Unit => .int .i64 (n:Int)) (fun _=>True) (fun _ F=>blk q 105 [lv.v,.pointer none,.bool false,.int .i64 2,.int .i64 (n:Int),.int .i64 (rg:Int),dv.v,.int .i64 0]::F) := by
 refine CSpec.of_body Tryz.func257 rfl Tryz.ntmps257 rfl fun F => ?_
 show CJ _ _ _ _ _ _ (_::F)
 refine sR<|oA rfl<|nT<|sR<|oM rfl<|oP (zad rfl)<|oP (zaa rfl ⟨_,_,_,Tryz.runUnderlying105,rfl,rfl,Tryz.sizeOf3,rfl⟩)<|oV (zac rfl foc0 rfl Tryz.isAgg3)<|oA rfl<|nT<|zaf<|zan (res1 Tryz.results257 rfl)<|CSpec.close () ?_ ?_ r_
 · rfl
 · trivial
end Go.Proofs
set_option linter.unusedSimpArgs false
set_option maxRecDepth 20000
namespace Go.Proofs
open Go.VG Ts
section
variable {B:TS→HP} {vs:List IfH} {dep rc wc:Nat} {sz:Nat→Nat} {t:TS} {q n rg:Nat} {lv dv:Sl3}
theorem z08 {W:World} (hB:BaseOk Tryz.prog B vs.length dep rc wc sz (fun i=>vs.getD i tyDev.dflt)) {x y z a:Nat} {v:UInt64} (hd:t.dn=false) (h2:vs.length=2) (ha:∀ i,i < vs.length→a < sz i) (hk:2 * wc≤t.k) :
    CSpec Tryz.prog W 44 [ptr q 0,.func (.func 262) #[] #[],.func (.func 263) #[] #[ptr x 0,ptr y 0,ptr z 0]] [B t,blk q 105 [lv.v,.pointer none,.bool false,.int .i64 2,.int .i64 (n:Int),.int .i64 (rg:Int),dv.v,.int .i64 0],sl tyMLeg lv.v (mlg vs),blk x 49 [ptr q 0],blk y 3 [.int .i64 (a:Int)],blk z 47 [.int .u64 (v.toNat:Int)]] (fun r:Bool × TS => .int .i64 (if r.1 then 0 else 5)) (fun r=>(r.1=true→r.2=mW t wc a v 2)∧(r.1=false→mD t wc a v r.2))
      (fun r F=>B r.2::blk q 105 [lv.v,.pointer none,.bool false,.int .i64 2,.int .i64 (n:Int),.int .i64 (rg:Int),dv.v,.int .i64 0]::sl tyMLeg lv.v (mlg vs)::blk x 49 [ptr q 0]::blk y 3 [.int .i64 (a:Int)]::blk z 47 [.int .u64 (v.toNat:Int)]::F) :=
  CSpec.map id (CSpec.ofStar3 (G:=[blk x 49 [ptr q 0],blk y 3 [.int .i64 (a:Int)],blk z 47 [.int .u64 (v.toNat:Int)]]) (zp8 (ch:=fun _=>true) (Inv:=fun i t' => t' = mW t wc a v i) (Dn:=mD t wc a v)
    (fun i _=>FOk.mk (first:=[]) (cap:=[]) Tryz.call262 (CSpec.conseq (G:=[star _]) zso (fun _=>Ent.refl) (fun _ _=>Ent.refl)))
    (fun i t' hi _ hI=>by
      subst hI
      refine FOk.mk (first:=[]) (cap:=[ptr x 0,ptr y 0,ptr z 0]) Tryz.call263 (CSpec.map (fun ok:Bool=>(ok,(mW t wc a v i).wrS wc i a v ok)) (CSpec.toStar3 (c_mWr1 hB (mW_dn hd i) hi (ha i hi) ?_)) (fun _=>rfl) (fun ok h=>⟨fun e => ?_,fun e=>⟨?_,i,by omega,?_⟩⟩) (fun _ _=>Ent.refl))
      · rw [mW_k]
        have:i * wc≤1 * wc := Nat.mul_le_mul_right _ (by omega)
        omega
      · have e':ok=true := e
        subst e'; rfl
      · rw [← zmu (t:=t) (wc:=wc) (a:=a) (v:=v) i]; exact h e
      · have e':ok=false := e
        subst e'; rfl)
    (fun _ _ _ h=>by cases h) rfl h2)) (fun _=>rfl) (fun r h=>⟨fun e=>by have := h.1 e; rw [h2] at this; exact this,h.2⟩) (fun _ _=>Ent.refl)
theorem z09 {W:World} (hB:BaseOk Tryz.prog B vs.length dep rc wc sz (fun i=>vs.getD i tyDev.dflt)) {x:Nat} (hd:t.dn=false) (h2:vs.length=2) :
    CSpec Tryz.prog W 44 [ptr q 0,.func (.func 262) #[] #[],.func (.func 264) #[] #[ptr x 0]] [B t,blk q 105 [lv.v,.pointer none,.bool false,.int .i64 2,.int .i64 (n:Int),.int .i64 (rg:Int),dv.v,.int .i64 0],sl tyMLeg lv.v (mlg vs),blk x 49 [ptr q 0]] (fun _:Unit => .int .i64 0) (fun _=>True)
      (fun _ F=>B (t.flsN 2)::blk q 105 [lv.v,.pointer none,.bool false,.int .i64 2,.int .i64 (n:Int),.int .i64 (rg:Int),dv.v,.int .i64 0]::sl tyMLeg lv.v (mlg vs)::blk x 49 [ptr q 0]::F) := by
  intro F w hs
  refine (CSpec.ofStar3 (G:=[blk x 49 [ptr q 0]]) (zp8 (ch:=fun _=>true) (Inv:=fun i t' => t' = t.flsN i) (Dn:=fun _=>False)
    (fun i _=>FOk.mk (first:=[]) (cap:=[]) Tryz.call262 (CSpec.conseq (G:=[star _]) zso (fun _=>Ent.refl) (fun _ _=>Ent.refl)))
    (fun i t' hi _ hI=>by
      subst hI
      exact FOk.mk (first:=[]) (cap:=[ptr x 0]) Tryz.call264 (CSpec.map (fun _:Unit=>(true,(t.flsN i).fls i)) (CSpec.toStar3 (c_mFl1 hB (by rw [zgy]; exact hd) hi)) (fun _=>rfl) (fun _ _=>⟨fun _=>rfl,fun e=>by cases e⟩) (fun _ _=>Ent.refl)))
    (fun _ _ _ h=>by cases h) rfl h2) F w hs).mono ?_
  rintro e w' ⟨⟨ok,t9⟩,r1,r2,r3⟩
  cases ok with
  | false=>exact (r2.2 rfl).elim
  | true =>
    have h4:t9=t.flsN vs.length := r2.1 rfl
    rw [h2] at h4
    subst h4
    exact ⟨(),r1,trivial,r3⟩
theorem zys {W:World} (hB:BaseOk Tryz.prog B vs.length dep rc wc sz (fun i=>vs.getD i tyDev.dflt)) {u x y z p a:Nat} {v:UInt64} (hd:t.dn=false) (h2:vs.length=2) (ha:∀ i,i < vs.length→a < sz i) (hk:rc + wc≤t.k) (hz:t.z=true→v=0) :
    CSpec Tryz.prog W 44 [ptr q 0,.func (.func 72) #[] #[ptr p 0],.func (.func 73) #[] #[ptr u 0,ptr x 0,ptr y 0,ptr z 0]] [B t,blk q 105 [lv.v,.pointer none,.bool false,.int .i64 2,.int .i64 (n:Int),.int .i64 (rg:Int),dv.v,.int .i64 0],sl tyMLeg lv.v (mlg vs),blk u 22 [.slice none 0 0],blk x 49 [ptr q 0],blk y 3 [.int .i64 (a:Int)],blk z 47 [.int .u64 (v.toNat:Int)],blk p 3 [.int .i64 0]] (fun r:Bool × TS => .int .i64 (if r.1 then 0 else 5)) (fun r=>Oth t r.2 (rc + wc) r.1)
      (fun r F=>B r.2::blk q 105 [lv.v,.pointer none,.bool false,.int .i64 2,.int .i64 (n:Int),.int .i64 (rg:Int),dv.v,.int .i64 0]::sl tyMLeg lv.v (mlg vs)::blk u 22 [.slice none 0 0]::blk x 49 [ptr q 0]::blk y 3 [.int .i64 (a:Int)]::blk z 47 [.int .u64 (v.toNat:Int)]::blk p 3 [.int .i64 0]::F) :=
  CSpec.map id (CSpec.ofStar3 (G:=[blk u 22 [.slice none 0 0],blk x 49 [ptr q 0],blk y 3 [.int .i64 (a:Int)],blk z 47 [.int .u64 (v.toNat:Int)],blk p 3 [.int .i64 0]]) (zp8 (ch:=fun i=>decide (¬ (i:Int)=0)) (Inv:=fun i t' => (i≤1→t' = t)∧(1 < i→Oth t t' (rc + wc) true)) (Dn:=fun t' => Oth t t' (rc + wc) false)
    (fun i _=>FOk.mk (first:=[]) (cap:=[ptr p 0]) Tryz.call72 (CSpec.conseq (G:=[blk u 22 [.slice none 0 0],blk x 49 [ptr q 0],blk y 3 [.int .i64 (a:Int)],blk z 47 [.int .u64 (v.toNat:Int)]]) c_mSp1
      (fun F h hp=>(Ent.take del4 (Ent.take del0 (Ent.take del0 (Ent.take del0 (Ent.take del0 Ent.refl))))) h (stars_star.1 hp)) (fun _ F h hp=>stars_star.2 ((Ent.take del1 (Ent.take del1 (Ent.take del1 (Ent.take del1 (Ent.take del0 Ent.refl))))) h hp))))
    (fun i t' hi hc hI=>by
      have hne:¬ (i:Int)=0 := of_decide_eq_true hc
      have hi1:i=1 := by omega
      subst hi1
      obtain rfl := hI.1 (Nat.le_refl _)
      exact FOk.mk (first:=[]) (cap:=[ptr u 0,ptr x 0,ptr y 0,ptr z 0]) Tryz.call73 (CSpec.map (fun r:Bool × TS=>r) (CSpec.toStar3 (CSpec.conseq (G:=[blk p 3 [.int .i64 0]]) (c_mSp2 hB hd hi (ha 1 hi) hk (by decide) hz) (fun _=>Ent.refl) (fun _ _=>Ent.refl))) (fun _=>rfl) (fun r h=>⟨fun e=>⟨fun h9=>absurd h9 (by omega),fun _=>by rw [e] at h; exact h⟩,fun e=>by rw [e] at h; exact h⟩) (fun _ _=>Ent.refl)))
    (fun i t' hi hc hI=>by
      have h0:(i:Int)=0 := by simpa using hc
      have hi0:i=0 := by omega
      subst hi0
      exact ⟨fun _=>hI.1 (Nat.zero_le _),fun h9=>absurd h9 (by omega)⟩)
    ⟨fun _=>rfl,fun h9=>absurd h9 (by omega)⟩ h2)) (fun _=>rfl) (fun r h=>by
      cases hr:r.1 with
      | false=>show Oth t r.2 (rc + wc) r.1; rw [hr]; exact h.2 hr
      | true=>show Oth t r.2 (rc + wc) r.1; rw [hr]; exact (h.1 hr).2 (by omega)) (fun _ _=>Ent.refl)
end
theorem zwp {W:World} {B:TS→HP} {vs:List IfH} {dep rc wc:Nat} {sz:Nat→Nat} (hB:BaseOk Tryz.prog B vs.length dep rc wc sz (fun i=>vs.getD i tyDev.dflt)) {t:TS} {q n rg:Nat} {lv dv:Sl3} (hd:t.dn=false) (h2:vs.length=2) {a:Nat} {v:UInt64} (ha:∀ i,i < vs.length→a < sz i) (hk:rc + wc≤t.k) (hz:t.z=true→v=0) :
    CSpec Tryz.prog W 43 [ptr q 0,.int .i64 (a:Int),.int .u64 (v.toNat:Int),.int .i64 0,.slice none 0 0] [B t,blk q 105 [lv.v,.pointer none,.bool false,.int .i64 2,.int .i64 (n:Int),.int .i64 (rg:Int),dv.v,.int .i64 0],sl tyMLeg lv.v (mlg vs)] (fun x:Bool × TS => .int .i64 (if x.1 then 0 else 5)) (fun x=>Oth t x.2 (rc + wc) x.1) (fun x F=>B x.2::blk q 105 [lv.v,.pointer none,.bool false,.int .i64 2,.int .i64 (n:Int),.int .i64 (rg:Int),dv.v,.int .i64 0]::sl tyMLeg lv.v (mlg vs)::F) := by
 refine CSpec.of_body Tryz.func43 rfl Tryz.ntmps43 rfl fun F => ?_
 show CJ _ _ _ _ _ _ (_::_::_::F)
 have hml := @zd7 vs
 refine sR<|oO<|O_box rfl rfl rfl fun b1=>oO<|O_box rfl rfl rfl fun b2=>oO<|O_box rfl rfl rfl fun b3=>oO<|O_box rfl rfl rfl fun b4=>oO<|O_box rfl rfl rfl fun b5=>oA rfl<|nT<|sR<|oV (zac rfl foc4 rfl Tryz.isAgg49)<|oP (zbb rfl rfl)<|oP (zbb rfl rfl)<|oO<|zai ((zys hB hd h2 ha hk hz)) rfl Tryz.call44 (Dels.cons del5 (Dels.cons del5 (Dels.cons del5 (Dels.cons del0 (Dels.cons del3 (Dels.cons del2 (Dels.cons del1 (dC_ del0)))))))) rfl fun o9 ho9=>oA rfl<|nT<|zab<|sR<|oM rfl<|oP (P_neq rfl rfl)<|nT ?_
 first | (refine zav rfl (fun hg1 => ?_) (fun hg1 => ?_)) | (refine zaw rfl (fun hg1 => ?_) (fun hg1 => ?_)) | (refine za1 rfl (fun hg1 => ?_) (fun hg1 => ?_))
 ·
  have ho:o9.1=false := by cases hq:o9.1 with
    | false=>rfl
    | true=>simp [hq] at hg1
  refine sR<|oM rfl<|oA rfl<|nT<|zaf<|zak<|zan (res1 Tryz.results43 rfl)<|CSpec.close o9 ?_ ?_ (t0_ (t0_ (t0_ (e_ (e_ (e_ (e_ (e_ r_))))))))
  · rfl
  · exact ho9
 ·
  have ho:o9.1=true := by cases hq:o9.1 with
    | true=>rfl
    | false=>simp [hq] at hg1
  refine kT<|sR<|oV (zac rfl foc4 rfl Tryz.isAgg49)<|oV (zac rfl foc5 rfl Tryz.isAgg3)<|oV (zac rfl foc6 rfl Tryz.isAgg47)<|oO<|zai ((zq0 h2)) rfl Tryz.call74 (Dels.cons del1 (dC_ del1)) rfl fun _ hc7=>oA rfl<|nT<|zaf<|zan (res1 Tryz.results43 rfl)<|CSpec.close (true,o9.2) ?_ ?_ (t2_ (t0_ (t0_ (e_ (e_ (e_ (e_ (e_ r_))))))))
  · rfl
  · rw [ho] at ho9; exact ho9
theorem zyt {W:World} {B:TS→HP} {vs:List IfH} {dep rc wc:Nat} {sz:Nat→Nat} (hB:BaseOk Tryz.prog B vs.length dep rc wc sz (fun i=>vs.getD i tyDev.dflt)) {t:TS} {q n rg:Nat} {lv dv:Sl3} (hd:t.dn=false) (h2:vs.length=2) :
    CSpec Tryz.prog W 259 [ptr q 0] [B t,blk q 105 [lv.v,.pointer none,.bool false,.int .i64 2,.int .i64 (n:Int),.int .i64 (rg:Int),dv.v,.int .i64 0],sl tyMLeg lv.v (mlg vs)] (fun _:Unit => .int .i64 0) (fun _=>True) (fun _ F=>B (t.flsN 2)::blk q 105 [lv.v,.pointer none,.bool false,.int .i64 2,.int .i64 (n:Int),.int .i64 (rg:Int),dv.v,.int .i64 0]::sl tyMLeg lv.v (mlg vs)::F) := by
 refine CSpec.of_body Tryz.func259 rfl Tryz.ntmps259 rfl fun F => ?_
 show CJ _ _ _ _ _ _ (_::_::_::F)
 have hml := @zd7 vs
 refine sR<|oO<|O_box rfl rfl rfl fun b1=>oA rfl<|nT<|sR<|oV (zac rfl foc0 rfl Tryz.isAgg49)<|oP (zbb rfl rfl)<|oO<|zai ((z09 hB hd h2)) rfl Tryz.call44 (Dels.cons del1 (Dels.cons del1 (Dels.cons del1 (dC_ del0)))) rfl fun _ hc2=>oA rfl<|nT<|zaf<|zan (res1 Tryz.results259 rfl)<|CSpec.close () ?_ ?_ (t0_ (t0_ (t0_ (e_ r_))))
 · rfl
 · trivial
theorem zyu {W:World} {B:TS→HP} {vs:List IfH} {dep rc wc:Nat} {sz:Nat→Nat} (hB:BaseOk Tryz.prog B vs.length dep rc wc sz (fun i=>vs.getD i tyDev.dflt)) {t:TS} {q n rg:Nat} {lv dv:Sl3} (hd:t.dn=false) (h2:vs.length=2) :
    CSpec Tryz.prog W 256 [ptr q 0] [B t,blk q 105 [lv.v,.pointer none,.bool false,.int .i64 2,.int .i64 (n:Int),.int .i64 (rg:Int),dv.v,.int .i64 0],sl tyMLeg lv.v (mlg vs)] (fun _:Unit => .int .i64 0) (fun _=>True) (fun _ F=>B (t.flsN 2)::blk q 105 [lv.v,.pointer none,.bool false,.int .i64 2,.int .i64 (n:Int),.int .i64 (rg:Int),dv.v,.int .i64 0]::sl tyMLeg lv.v (mlg vs)::F) := by
 refine CSpec.of_body Tryz.func256 rfl Tryz.ntmps256 rfl fun F => ?_
 show CJ _ _ _ _ _ _ (_::_::_::F)
 refine sR<|oA rfl<|nT<|zab<|sR<|oM rfl<|oO<|zai ((zji h2)) rfl Tryz.call41 (Dels.cons del1 (dC_ del1)) rfl fun _ hc1=>oA rfl<|nT<|sR<|oM rfl<|oP (P_neq rfl rfl)<|nT<|zap rfl dF_<|kT<|zab<|sR<|oM rfl<|oO<|zai ((zyt hB hd h2)) rfl Tryz.call259 (Dels.cons del2 (Dels.cons del0 (dC_ del0))) rfl fun _ hc2=>oA rfl<|nT<|sR<|oM rfl<|oP (P_neq rfl rfl)<|oM rfl<|zbp 18 false rfl dF_ fun hg2B=>p_ rfl rfl rfl hg2B (zae rfl)<|p_ rfl rfl rfl hg2B (zad rfl)<|p_ rfl rfl rfl hg2B (zaa rfl ⟨_,_,_,Tryz.runUnderlying105,rfl,rfl,Tryz.sizeOf101,rfl⟩)<|v_ rfl rfl rfl hg2B (zac rfl foc1 rfl Tryz.isAgg101)<|p_ rfl rfl rfl hg2B (zpp rfl rfl Tryz.underlying101)<|oP (za2 rfl hg2B rfl)<|nT<|za7 rfl rfl<|sR<|oM rfl<|oA rfl<|nT<|zaf<|zak<|zan (res1 Tryz.results256 rfl)<|CSpec.close () ?_ ?_ r_
 · rfl
 · trivial
theorem zyv {W:World} {B:TS→HP} {vs:List IfH} {dep rc wc:Nat} {sz:Nat→Nat} (hB:BaseOk Tryz.prog B vs.length dep rc wc sz (fun i=>vs.getD i tyDev.dflt)) {t:TS} {q n rg:Nat} {lv dv:Sl3} (hd:t.dn=false) (h2:vs.length=2) {a:Nat} {v:UInt64} (ha:∀ i,i < vs.length→a < sz i) (han:a < n) (_hn:n≤100000) (hk:2 * wc≤t.k) :
    CSpec Tryz.prog W 258 [ptr q 0,.int .i64 (a:Int),.int .u64 (v.toNat:Int)] [B t,blk q 105 [lv.v,.pointer none,.bool false,.int .i64 2,.int .i64 (n:Int),.int .i64 (rg:Int),dv.v,.int .i64 0],sl tyMLeg lv.v (mlg vs)] (fun x:Bool × TS => .int .i64 (if x.1 then 0 else 5)) (fun x=>(x.1=true→x.2=mW t wc a v 2)∧(x.1=false→mD t wc a v x.2)) (fun x F=>B x.2::blk q 105 [lv.v,.pointer none,.bool false,.int .i64 2,.int .i64 (n:Int),.int .i64 (rg:Int),dv.v,.int .i64 0]::sl tyMLeg lv.v (mlg vs)::F) := by
 refine CSpec.of_body Tryz.func258 rfl Tryz.ntmps258 rfl fun F => ?_
 show CJ _ _ _ _ _ _ (_::_::_::F)
 have hml := @zd7 vs
 refine sR<|oO<|O_box rfl rfl rfl fun b1=>oO<|O_box rfl rfl rfl fun b2=>oO<|O_box rfl rfl rfl fun b3=>oA rfl<|nT<|zab<|zab<|za3 0 kR_ rfl<|aW 0 1 rfl rfl r_ (zac rfl foc1 rfl Tryz.isAgg3)<|aN 1 3 rfl rfl (P_lss rfl rfl)<|aN 2 7 rfl rfl (zae rfl)<|zd5 14 false rfl wF_ fun hg1B=>aV 3 15 rfl rfl (zaz rfl rfl rfl hg1B) r_ (zac rfl foc1 rfl Tryz.isAgg3)<|aV 4 31 rfl rfl (zaz rfl rfl rfl hg1B) r_ (zac rfl foc2 rfl Tryz.isAgg49)<|aP 5 63 rfl rfl (zaz rfl rfl rfl hg1B) (zad rfl)<|aP 6 127 rfl rfl (zaz rfl rfl rfl hg1B) (zaa rfl ⟨_,_,_,Tryz.runUnderlying105,rfl,rfl,Tryz.sizeOf3,rfl⟩)<|aV 7 255 rfl rfl (zaz rfl rfl rfl hg1B) r_ (zac rfl foc4 rfl Tryz.isAgg3)<|aP 8 511 rfl rfl (zaz rfl rfl rfl hg1B) (P_geq rfl rfl)<|aN 9 1023 rfl rfl (za2 rfl hg1B rfl)<|aD<|zap rfl wF_<|kT<|zab<|sR<|oV (zac rfl foc2 rfl Tryz.isAgg49)<|oO<|zai ((zji h2)) rfl Tryz.call41 (Dels.cons del4 (dC_ del4)) rfl fun _ hc4=>oA rfl<|nT<|sR ?_
 refine oM rfl<|oP (P_neq rfl rfl)<|nT<|zap rfl dF_<|kT<|zab<|sR<|oV (zac rfl foc4 rfl Tryz.isAgg49)<|oP (zad rfl)<|oP (zaa rfl ⟨_,_,_,Tryz.runUnderlying105,rfl,rfl,Tryz.sizeOf101,rfl⟩)<|oV (zac rfl foc0 rfl Tryz.isAgg101)<|oP (zz6 rfl rfl Tryz.underlying101)<|nT<|zap rfl rfl<|kT<|sR<|oV (zac rfl foc4 rfl Tryz.isAgg49)<|oP (zbb rfl rfl)<|oO<|zai ((z08 hB hd h2 ha hk)) rfl Tryz.call44 (Dels.cons del5 (Dels.cons del0 (Dels.cons del0 (Dels.cons del2 (Dels.cons del1 (dC_ del0)))))) rfl fun o9 ho9=>oA rfl<|nT<|zab<|sR<|oM rfl<|oP (P_eql rfl rfl)<|nT ?_
 first | (refine zav rfl (fun hg4 => ?_) (fun hg4 => ?_)) | (refine zaw rfl (fun hg4 => ?_) (fun hg4 => ?_)) | (refine za1 rfl (fun hg4 => ?_) (fun hg4 => ?_))
 ·
  have ho:o9.1=false := by cases hq:o9.1 with
    | false=>rfl
    | true=>simp [hq] at hg4
  refine sR<|oM rfl<|oA rfl<|nT<|zaf<|zak<|zan (res1 Tryz.results258 rfl)<|CSpec.close o9 ?_ ?_ (t0_ (t0_ (t0_ (e_ (e_ (e_ r_))))))
  · rfl
  · exact ho9
 ·
  have ho:o9.1=true := by cases hq:o9.1 with
    | true=>rfl
    | false=>simp [hq] at hg4
  refine kT<|zab<|sR<|oV (zac rfl foc3 rfl Tryz.isAgg49)<|oV (zac rfl foc4 rfl Tryz.isAgg3)<|oV (zac rfl foc5 rfl Tryz.isAgg47)<|oO<|zai ((zq0 h2)) rfl Tryz.call74 (Dels.cons del1 (dC_ del1)) rfl fun _ hc6=>oA rfl<|nT<|sR<|oM rfl<|oP (P_neq rfl rfl)<|nT<|zap rfl dF_<|kT<|sR<|oM rfl<|oA rfl<|nT<|zaf<|zan (res1 Tryz.results258 rfl)<|CSpec.close o9 ?_ ?_ (t2_ (t0_ (t0_ (e_ (e_ (e_ r_))))))
  · rfl
  · exact ho9
theorem z1a {W:World} {B:TS→HP} {vs:List IfH} {dep rc wc:Nat} {sz:Nat→Nat} (hB:BaseOk Tryz.prog B vs.length dep rc wc sz (fun i=>vs.getD i tyDev.dflt)) {t:TS} {q n rg:Nat} {lv dv:Sl3} (hd:t.dn=false) (h2:vs.length=2) {nr a:Nat} (ha:∀ i,i < vs.length→a < sz i) (han:a < n) (hn:n≤100000) (hrg:1≤rg) (hnr:nr=(n - 1) / rg + 1) (hk:2 * rc + wc≤t.k) :
    CSpec Tryz.prog W 16 [ptr q 0,.int .i64 (a:Int)] [B t,blk q 105 [lv.v,.pointer none,.bool false,.int .i64 2,.int .i64 (n:Int),.int .i64 (rg:Int),dv.v,.int .i64 0],sl tyMLeg lv.v (mlg vs),sl tyB dv.v (List.replicate nr true)] (fun x:Bool × TS => .tuple #[.int .u64 ((if x.1 then Ts.now t 0 a else 0:UInt64).toNat:Int),.int .i64 (if x.1 then 0 else 5)]) (fun x=>Oth t x.2 (2 * rc + wc) x.1) (fun x F=>B x.2::blk q 105 [lv.v,.pointer none,.bool false,.int .i64 2,.int .i64 (n:Int),.int .i64 (rg:Int),dv.v,.int .i64 0]::sl tyMLeg lv.v (mlg vs)::sl tyB dv.v (List.replicate nr true)::F) := by
 refine CSpec.of_body Tryz.func16 rfl Tryz.ntmps16 rfl fun F => ?_
 show CJ _ _ _ _ _ _ (_::_::_::_::F)
 have hml := @zd7 vs
 have hdr:a / rg < (List.replicate nr true).length := by
   rw [List.length_replicate,hnr]
   exact Nat.lt_succ_of_le (Nat.div_le_div_right (by omega))
 refine zdy (hB.zv) fun hzv => ?_
 have hzz:(t.rdS rc true).z=true→Ts.now t 0 a=0 := fun h=>hzv hd h 0 a (by omega) (ha 0 (by omega))
 refine sR<|oO<|O_box rfl rfl rfl fun b1=>oO<|O_box rfl rfl rfl fun b2=>oA rfl<|oA rfl<|nT<|zab<|zab<|za3 0 kR_ rfl<|aW 0 1 rfl rfl r_ (zac rfl foc0 rfl Tryz.isAgg3)<|aN 1 3 rfl rfl (P_lss rfl rfl)<|aN 2 7 rfl rfl (zae rfl)<|zd5 13 false rfl wF_ fun hg1B=>aV 3 15 rfl rfl (zaz rfl rfl rfl hg1B) r_ (zac rfl foc0 rfl Tryz.isAgg3)<|aV 4 31 rfl rfl (zaz rfl rfl rfl hg1B) r_ (zac rfl foc1 rfl Tryz.isAgg49)<|aP 5 63 rfl rfl (zaz rfl rfl rfl hg1B) (zad rfl)<|aP 6 127 rfl rfl (zaz rfl rfl rfl hg1B) (zaa rfl ⟨_,_,_,Tryz.runUnderlying105,rfl,rfl,Tryz.sizeOf3,rfl⟩)<|aV 7 255 rfl rfl (zaz rfl rfl rfl hg1B) r_ (zac rfl foc3 rfl Tryz.isAgg3)<|aP 8 511 rfl rfl (zaz rfl rfl rfl hg1B) (P_geq rfl rfl)<|aN 9 1023 rfl rfl (za2 rfl hg1B rfl)<|aD<|zap rfl wF_<|kT<|zab<|sR<|oV (zac rfl foc1 rfl Tryz.isAgg49)<|oO<|zai ((zji h2)) rfl Tryz.call41 (Dels.cons del3 (dC_ del3)) rfl fun _ hc3=>oA rfl<|nT<|sR<|oM rfl ?_
 refine oP (P_neq rfl rfl)<|nT<|zap rfl dF_<|kT<|sR<|oV (zac rfl foc3 rfl Tryz.isAgg49)<|oV (zac rfl foc2 rfl Tryz.isAgg3)<|oO (zhr ((zyr hB hd h2 (ha 0 (by omega)) (by omega))) rfl Tryz.call42 (Dels.cons del4 (Dels.cons del0 (dC_ del0))) rfl (fun hof => ?_) (fun hof => ?_))
 ·
  refine oM rfl<|oP (zaj rfl rfl)<|oP (zaj rfl rfl)<|oP (zaj rfl rfl)<|oP (zaj rfl rfl)<|oO<|zbi Tryz.zeroValue47 rfl rfl fun b5=>oO<|zbi Tryz.zeroValue22 rfl rfl fun b6=>oO<|za5 rfl rfl foc1 rfl rfl Tryz.sizeOf47<|oA rfl<|oO<|za5 rfl rfl foc0 rfl rfl Tryz.sizeOf22<|oA rfl<|nT<|zab<|sR<|oM rfl<|oP (P_neq rfl rfl)<|nT<|za7 rfl dT_<|sR<|oM rfl<|oA rfl<|oA rfl<|nT<|zaf<|zak<|zan (res2 Tryz.results16 rfl rfl)<|CSpec.close (false,t.rdS rc false) ?_ ?_ (t2_ (t2_ (t2_ (t4_ (e_ (e_ (e_ (e_ r_))))))))
  · rfl
  ·
   show Oth t (t.rdS rc false) (2 * rc + wc) false
   exact Oth.mono (c:=rc) (Oth.rd hd (fun _=>hof rfl)) (by omega)
 ·
  refine oM rfl<|oP (zaj rfl rfl)<|oP (zaj rfl rfl)<|oP (zaj rfl rfl)<|oP (zaj rfl rfl)<|oO<|zbi Tryz.zeroValue47 rfl rfl fun b7=>oO<|zbi Tryz.zeroValue22 rfl rfl fun b8=>oO<|za5 rfl rfl foc1 rfl rfl Tryz.sizeOf47<|oA rfl<|oO<|za5 rfl rfl foc0 rfl rfl Tryz.sizeOf22<|oA rfl<|nT<|zab<|sR<|oM rfl<|oP (P_neq rfl rfl)<|nT<|zap rfl dF_<|kT<|zab<|zab<|za3 0 kR_ rfl<|aW 0 1 rfl rfl r_ (zac rfl foc6 rfl Tryz.isAgg49)<|aN 1 3 rfl rfl (zad rfl)<|aN 2 7 rfl rfl (zaa rfl ⟨_,_,_,Tryz.runUnderlying105,rfl,rfl,Tryz.sizeOf103,rfl⟩)<|aW 3 15 rfl rfl r_ (zac rfl foc3 rfl Tryz.isAgg103)<|aW 4 31 rfl rfl r_ (zac rfl foc5 rfl Tryz.isAgg3)<|aW 5 63 rfl rfl r_ (zac rfl foc6 rfl Tryz.isAgg49)<|aN 6 127 rfl rfl (zad rfl) ?_
  refine aN 7 255 rfl rfl (zaa rfl ⟨_,_,_,Tryz.runUnderlying105,rfl,rfl,Tryz.sizeOf3,rfl⟩)<|aW 8 511 rfl rfl r_ (zac rfl foc3 rfl Tryz.isAgg3)<|aN 9 1023 rfl rfl (P_quo rfl rfl (by omega))<|aW 10 2047 rfl rfl r_ (zam rfl rfl rfl (by exact hdr) foc7 (Reads.sl _ _ _) Tryz.runUnderlying103 Tryz.sizeOf4)<|aW 11 4095 rfl rfl r_ (za6 rfl rfl (by omega) foc7 (Reads.sl _ _ _) rfl rfl Tryz.isAgg4)<|aD<|za7 rfl (by first | exact decide_eq_true (by exact zwm hdr) | (exact zwm hdr))<|zag<|oV (zac rfl foc6 rfl Tryz.isAgg49)<|oV (zac rfl foc5 rfl Tryz.isAgg3)<|oV (zac rfl foc1 rfl Tryz.isAgg47)<|oM rfl<|oV (zac rfl foc0 rfl Tryz.isAgg22)<|oO<|zai ((zwp hB (t:=t.rdS rc true) hd h2 ha (show rc + wc≤t.k - rc by omega) hzz)) rfl Tryz.call43 (Dels.cons del2 (Dels.cons del2 (dC_ del2))) rfl fun o9 ho9=>oA rfl<|nT<|zab<|sR<|oM rfl<|oP (P_neq rfl rfl)<|nT ?_
  first | (refine zav rfl (fun hg7 => ?_) (fun hg7 => ?_)) | (refine zaw rfl (fun hg7 => ?_) (fun hg7 => ?_)) | (refine za1 rfl (fun hg7 => ?_) (fun hg7 => ?_))
  ·
   have ho:o9.1=false := by cases hq:o9.1 with
     | false=>rfl
     | true=>simp [hq] at hg7
   refine sR<|oM rfl<|oA rfl<|oA rfl<|nT<|zaf<|zak<|zan (res2 Tryz.results16 rfl rfl)<|CSpec.close (false,o9.2) ?_ ?_ (t0_ (t0_ (t0_ (t4_ (e_ (e_ (e_ (e_ r_))))))))
   · simp [ho]
   ·
    rw [ho] at ho9
    show Oth t o9.2 (2 * rc + wc) false
    exact Oth.mono (Oth.trans (t' := t.rdS rc true) (c:=rc) (c' := rc + wc) (Oth.rd hd (fun h=>by cases h)) ho9) (by omega)
  ·
   have ho:o9.1=true := by cases hq:o9.1 with
     | true=>rfl
     | false=>simp [hq] at hg7
   refine kT<|sR<|oV (zac rfl foc4 rfl Tryz.isAgg47)<|oA rfl<|oA rfl<|nT<|zaf<|zan (res2 Tryz.results16 rfl rfl)<|CSpec.close (true,o9.2) ?_ ?_ (t0_ (t0_ (t0_ (t4_ (e_ (e_ (e_ (e_ r_))))))))
   · rfl
   ·
    rw [ho] at ho9
    show Oth t o9.2 (2 * rc + wc) true
    exact Oth.mono (Oth.trans (t' := t.rdS rc true) (c:=rc) (c' := rc + wc) (Oth.rd hd (fun h=>by cases h)) ho9) (by omega)
end Go.Proofs
namespace Go.Proofs.Ts
open Go.VG
def mmin (sz:Nat→Nat):Nat→Nat
  | 0=>sz 0
  | i + 1=>min (mmin sz i) (sz i)
theorem mmin_2 {sz:Nat→Nat} : mmin sz 2=min (sz 0) (sz 1) := by
  show min (min (sz 0) (sz 0)) (sz 1)=_
  rw [Nat.min_self]
theorem zp9 {sz:Nat→Nat} {lo hi:Nat} (h:∀ i,i < 2→lo≤sz i∧sz i≤hi):∀ i,i≤2→lo≤mmin sz i∧mmin sz i≤hi
  | 0,_=>h 0 (by decide)
  | i + 1,hi=>by
    have h1 := zp9 h i (by omega)
    have h2 := h i (by omega)
    show lo≤min _ _∧min _ _≤_
    omega
theorem mmin_s {sz:Nat→Nat} {i:Nat} : min ((mmin sz i:Nat):Int) (sz i:Int)=((mmin sz (i + 1):Nat):Int) := by
  show _=((min (mmin sz i) (sz i):Nat):Int)
  omega
theorem z1b {n i:Nat} (h:i < n):(List.replicate i true ++ List.replicate (n - i) false).set i true=List.replicate (i + 1) true ++ List.replicate (n - (i + 1)) false := by
  have e:n - i=(n - (i + 1)) + 1 := by omega
  rw [e,List.replicate_succ,List.set_append_right _ _ (by simp),List.length_replicate,Nat.sub_self,List.set_cons_zero,List.replicate_succ',List.append_assoc]
  rfl
theorem z1c {n:Nat} : List.replicate n true ++ List.replicate (n - n) false=List.replicate n true := by simp
theorem z1d {n i:Nat} (h:i≤n):(List.replicate i true ++ List.replicate (n - i) false).length=n := by simp; omega
end Go.Proofs.Ts
set_option linter.unusedSimpArgs false
set_option maxRecDepth 20000
namespace Go.Proofs
open Go.VG Ts
theorem zmb (v0:Int) (v1:Int) (v2:Bool):∀ w,(Instr.build 105 (#[(4,.int .i64 v0),(5,.int .i64 v1),(2,.bool v2)]:Array (Nat × Value))).run Tryz.prog w = .ok (.agg #[.slice none 0 0,.pointer none,.bool v2,.int .i64 0,.int .i64 v0,.int .i64 v1,.slice none 0 0,.int .i64 0]) w := fun w=>by kernel_rfl
theorem zqa (v0:TypeId) (v1:Value):∀ w,(Instr.build 107 (#[(0,.iface v0 v1)]:Array (Nat × Value))).run Tryz.prog w = .ok (.agg #[.iface v0 v1,.int .i64 0,.int .i64 0]) w := fun w=>by kernel_rfl
theorem zo0 (v0:TypeId) (v1:Value) (v2:Int) (v3:Int):zbg Tryz.prog 100 1 [(0,.agg #[.iface v0 v1,.int .i64 v2,.int .i64 v3])] 107 [.iface v0 v1,.int .i64 v2,.int .i64 v3] := fun w=>by kernel_rfl
theorem zyw {vs:List IfH} {i:Nat} (h:i < vs.length):mlg (vs.take i) ++ [⟨vs.getD i tyDev.dflt,0,0⟩]=mlg (vs.take (i + 1)) := by
  rw [zyp]
  congr 1
  rw [List.take_add_one]
  simp [List.getD,h]
theorem z1e {vs:List IfH} (h:vs.length=2):mlg (vs.take 2)=mlg vs := by rw [List.take_of_length_le (by omega)]
section
variable {B:TS→HP} {vs:List IfH} {dep rc wc:Nat} {sz:Nat→Nat} {q n rg nr:Nat} {lv dv:Sl3}
theorem zyx (hB:BaseOk Tryz.prog B vs.length dep rc wc sz (fun i=>vs.getD i tyDev.dflt)) (h2:vs.length=2) (hdep:dep < 60) (hn:n≤sz 0∧n≤sz 1) (hrg:1≤rg) (hnr:nr=(n - 1) / rg + 1) (zk:Bool) :
    NodeC Tryz.prog B (M:=Unit) (fun _=>star [blk q 105 [lv.v,.pointer none,.bool false,.int .i64 2,.int .i64 (n:Int),.int .i64 (rg:Int),dv.v,.int .i64 0],sl tyMLeg lv.v (mlg vs),sl tyB dv.v (List.replicate nr true)]) ⟨49,ptr q 0⟩ (dep + 1) (2 * rc + wc) (2 * wc) n zk (fun t _ nw cd=>relM (fun _=>0) id n t nw cd) (relMD (fun _=>0) id n) where
  depb := by omega
  szb := by have := hB.szb 0 (by omega); omega
  na := fun n hn w=>by
    obtain ⟨m,rfl⟩:∃ m,n=m + 1 := ⟨n - 1,by omega⟩
    kernel_rfl
  size := IOk.conseq (G:=[]) (IOk.conseq (G:=[sl tyMLeg lv.v (mlg vs),sl tyB dv.v (List.replicate nr true)]) (IOk.of (fun n w=>by kernel_rfl) Tryz.call257 z07) (fun _=>Ent.refl) (fun _ _=>Ent.refl)) (fun F _ hp=>stars_star.1 hp) (fun _ F _ hp=>stars_star.2 hp)
  rd := by
    intro W t m nw cd a hr hd ha hk
    have hal:∀ i,i < vs.length→a < sz i := fun i hi=>by
      have:i=0∨i=1 := by omega
      rcases this with rfl | rfl <;> omega
    have hn1 := hB.szb 0 (by omega)
    refine IOk.map (fun x:Bool × TS=>((x.1,x.2,()):Bool × TS × Unit)) (IOk.conseq (G:=[]) (IOk.of (fun n w=>by kernel_rfl) Tryz.call16 (z1a hB hd h2 hal ha (by omega) hrg hnr hk)) (fun F=>zf4) (fun _ F=>Ent.refl)) (fun x => ?_) (fun x h => ?_) (fun x F => ?_)
    · obtain ⟨ok,t2⟩ := x
      cases ok
      · rfl
      · show _=Value.tuple #[.int .u64 ((nw a).toNat:Int),.int .i64 0]
        rw [(hr a ha).1]; rfl
    · exact ⟨fun _=>h.rel hr,fun e=>⟨(h.rel hr).ud,h.sf e⟩,h.dn,h.par,fun _=>h.z⟩
    · obtain ⟨ok,t2⟩ := x
      cases ok
      · exact zj1 (l:=[blk q 105 [lv.v,.pointer none,.bool false,.int .i64 2,.int .i64 (n:Int),.int .i64 (rg:Int),dv.v,.int .i64 0],sl tyMLeg lv.v (mlg vs),sl tyB dv.v (List.replicate nr true)])
      · exact zfv (l:=[blk q 105 [lv.v,.pointer none,.bool false,.int .i64 2,.int .i64 (n:Int),.int .i64 (rg:Int),dv.v,.int .i64 0],sl tyMLeg lv.v (mlg vs),sl tyB dv.v (List.replicate nr true)])
  wr := by
    intro W t m nw cd a v hr hd ha hk
    have hal:∀ i,i < vs.length→a < sz i := fun i hi=>by
      have:i=0∨i=1 := by omega
      rcases this with rfl | rfl <;> omega
    have hn1 := hB.szb 0 (by omega)
    refine IOk.map (fun x:Bool × TS=>((x.1,x.2,()):Bool × TS × Unit)) (IOk.conseq (G:=[]) (IOk.conseq (G:=[sl tyB dv.v (List.replicate nr true)]) (IOk.of (fun n w=>by kernel_rfl) Tryz.call258 (zyv hB hd h2 hal ha (by omega) hk)) (fun _=>Ent.refl) (fun _ _=>Ent.refl)) (fun F=>zf4) (fun _ F=>Ent.refl)) (fun x=>rfl) (fun x h => ?_) (fun x F => ?_)
    · obtain ⟨ok,t2⟩ := x
      cases ok with
      | false =>
        have h3:mD t wc a v t2 := h.2 rfl
        exact ⟨(fun e=>by cases e),fun _=>⟨mD_rel hr ha h3,h3.1⟩,mD_dn h3,mD_par h3,fun _ hz hv=>mD_z h3 hz hv,(fun e=>by cases e)⟩
      | true =>
        have h3:t2=mW t wc a v 2 := h.1 rfl
        subst h3
        exact ⟨fun _=>mW_rel hr ha,fun e=>(by cases e),mW_dn hd 2,⟨zmu 2,by rw [mW_k]; exact Nat.le_refl _⟩,fun _ hz hv=>mW_z hz hv 2,fun _=>by rw [mW_w]; omega⟩
    · obtain ⟨ok,t2⟩ := x
      cases ok
      · exact zj1 (l:=[blk q 105 [lv.v,.pointer none,.bool false,.int .i64 2,.int .i64 (n:Int),.int .i64 (rg:Int),dv.v,.int .i64 0],sl tyMLeg lv.v (mlg vs),sl tyB dv.v (List.replicate nr true)])
      · exact zfv (l:=[blk q 105 [lv.v,.pointer none,.bool false,.int .i64 2,.int .i64 (n:Int),.int .i64 (rg:Int),dv.v,.int .i64 0],sl tyMLeg lv.v (mlg vs),sl tyB dv.v (List.replicate nr true)])
  fl := by
    intro W t m nw cd hr hd
    refine IOk.map (fun _:Unit=>((t.flsN 2,()):TS × Unit)) (IOk.conseq (G:=[]) (IOk.conseq (G:=[sl tyB dv.v (List.replicate nr true)]) (IOk.of (fun n w=>by kernel_rfl) Tryz.call256 (zyu hB hd h2)) (fun _=>Ent.refl) (fun _ _=>Ent.refl)) (fun F=>zf4) (fun _ F=>Ent.refl)) (fun _=>rfl) (fun _ _ => ?_) (fun _ F=>zfv (l:=[blk q 105 [lv.v,.pointer none,.bool false,.int .i64 2,.int .i64 (n:Int),.int .i64 (rg:Int),dv.v,.int .i64 0],sl tyMLeg lv.v (mlg vs),sl tyB dv.v (List.replicate nr true)]))
    exact ⟨hr.flsN (fun _ _=>by decide),by rw [zgy]; exact hd,Par.flsN,fun _ h=>by rw [zsl]; exact h⟩
  ext h h1 h2 _ := h.ext h1 h2
  ud h := h.ud
  nc h a ha := h.nc ha
end
theorem zwq {W:World} {n rg:Nat} (hn:1≤n∧n≤100000) (hr:1≤rg) :
    CSpec Tryz.prog W 36 [.int .i64 (n:Int),.int .i64 (rg:Int)] [] (fun _:Unit => .int .i64 (((n - 1) / rg + 1:Nat):Int)) (fun _=>True) (fun _ F=>F) := by
 refine CSpec.of_body Tryz.func36 rfl Tryz.ntmps36 rfl fun F => ?_
 show CJ _ _ _ _ _ _ (F)
 have e1:((n:Int) - 1)=((n - 1:Nat):Int) := by omega
 have e2:((n:Int) - 1) / (rg:Int)=(((n - 1) / rg:Nat):Int) := by rw [e1]; rfl
 have e3:(n - 1) / rg≤100000 := Nat.le_trans (Nat.div_le_self _ _) (by omega)
 have e4:(0:Int)≤(((n - 1) / rg:Nat):Int) := Int.natCast_nonneg _
 refine sR<|oA rfl<|nT<|zab<|sR<|oM rfl<|oP (P_lss rfl rfl)<|oM rfl<|zbp 7 false rfl wF_ fun hg1B=>p_ rfl rfl rfl hg1B (zae rfl)<|p_ rfl rfl rfl hg1B (P_lss rfl rfl)<|oP (za2 rfl hg1B rfl)<|nT<|zap rfl wF_<|kT<|sR<|oM rfl<|oP (P_sub rfl rfl (by first | omega | skip))<|oM rfl<|oP (P_quo rfl rfl (by first | omega | skip))<|oP (PJ_eq (v := .int .i64 (((n - 1) / rg + 1:Nat):Int)) (P_add rfl rfl (by rw [e2]; omega)) (congrArg (Value.int .i64) (by rw [e2]; rfl)))<|oA rfl<|nT<|zaf<|zan (res1 Tryz.results36 rfl)<|CSpec.close () ?_ ?_ r_
 · rfl
 · trivial
theorem z1f {W : World} {X : HP} {vs : List IfH} {dep : Nat} {sz : Nat → Nat} (hdp : dep ≤ 60) (hS : ∀ {W : World} (i : Nat), i < vs.length → IOk Tryz.prog W dep (vs.getD i tyDev.dflt) "Size" [] [X] (fun _ : Unit => .int .i64 (sz i : Int)) (fun _ => True) (fun _ F => X :: F)) {lv0 : Sl3} {rg : Nat} (hrg : 1 ≤ rg ∧ rg ≤ 3) (h2 : vs.length = 2) (hz : ∀ i, i < 2 → 1 ≤ sz i ∧ sz i ≤ 100000) :
    CSpec Tryz.prog W 14 [lv0.v,.slice none 0 0,.nilIface,.int .i64 (rg:Int)] [X,sl tyDev lv0.v vs] (fun x:Nat × Sl3 × Sl3 => .tuple #[ptr x.1 0,.int .i64 0]) (fun _=>True) (fun x F=>X::blk x.1 105 [x.2.1.v,.pointer none,.bool false,.int .i64 2,.int .i64 ((mmin sz 2:Nat):Int),.int .i64 (rg:Int),x.2.2.v,.int .i64 0]::sl tyMLeg x.2.1.v (mlg vs)::sl tyB x.2.2.v (List.replicate ((mmin sz 2 - 1) / rg + 1) true)::sl tyDev lv0.v vs::F) := by
 refine CSpec.of_body Tryz.func14 rfl Tryz.ntmps14 rfl fun F => ?_
 show CJ _ _ _ _ _ _ (_::_::F)
 have h00:0 < vs.length := by omega
 refine sR<|oA rfl<|oA rfl<|nT<|sR<|oM rfl<|oV (V_len rfl foc1 (Reads.sl _ _ _) Tryz.runUnderlying52)<|oO<|zbi Tryz.zeroValue3 rfl rfl fun b1=>oO<|za5 rfl rfl foc0 rfl rfl Tryz.sizeOf3<|nT<|sR<|oP (zbb rfl rfl)<|oA rfl<|nT<|zab<|sR<|oV (zac rfl foc0 rfl Tryz.isAgg3)<|oP (P_lss rfl rfl)<|oM rfl<|zbp 27 false rfl wF_ fun hg1B=>v_ rfl rfl rfl hg1B (zac rfl foc0 rfl Tryz.isAgg3)<|p_ rfl rfl rfl hg1B (P_gtr rfl rfl)<|oP (za2 rfl hg1B rfl)<|oM rfl<|zbp 31 false rfl wF_ fun hg2B=>p_ rfl rfl rfl hg2B (zae rfl)<|p_ rfl rfl rfl hg2B (P_lss rfl rfl)<|oP (za2 rfl hg2B rfl)<|oM rfl<|zbp 35 false rfl wF_ fun hg3B=>p_ rfl rfl rfl hg3B (zae rfl)<|p_ rfl rfl rfl hg3B (P_gtr rfl rfl)<|oP (za2 rfl hg3B rfl)<|oM rfl<|zbp 39 false rfl wF_ fun hg4B=>p_ rfl rfl rfl hg4B (zae rfl)<|p_ rfl rfl rfl hg4B (zae rfl)<|RJ_gy (zaz rfl rfl rfl hg4B)<|zai (zsn) rfl Tryz.call34 Dels.nil rfl fun _ hc2=>oP (za2 rfl hg4B rfl)<|nT<|zap rfl rfl<|kT<|zab<|za3 264 kR_ rfl<|aN 0 1 rfl rfl (zae rfl) ?_
 first | (refine zbj 1 3 rfl kR_ rfl kR_ kR_ (zal rfl) r_ (zam rfl rfl rfl (by omega) foc2 (Reads.sl _ _ _) Tryz.runUnderlying52 Tryz.sizeOf38) rfl (fun _ _ _ _ h=>h) ?_) | (refine zbj 1 3 rfl kR_ rfl kR_ kR_ (zal rfl) r_ (zam rfl rfl (Int.toNat_of_nonneg (by omega)).symm (by omega) foc2 (Reads.sl _ _ _) Tryz.runUnderlying52 Tryz.sizeOf38) rfl (fun _ _ _ _ h=>h) ?_)
 refine aW 2 7 rfl rfl r_ (za6 rfl rfl (by omega) foc2 (Reads.sl _ _ _) rfl rfl Tryz.isAgg38)<|aN 4 23 rfl rfl (zae rfl)<|aN 5 55 rfl rfl (zae rfl)<|aN 6 119 rfl rfl (z0a rfl Tryz.underlying38)<|AJ_op 3 127 rfl kR_ rfl (zal rfl)<|zbz rfl (IOk.call (hS 0 h00) (Nat.le_trans hdp (by decide))) rfl (dC_ del1) rfl fun o3 ho4=>⟨fun h=>absurd h (by decide),?_⟩
 refine aN 7 255 rfl rfl (zbk rfl (zmb _ _ _))<|AJ_op 8 511 rfl kR_ rfl (zal rfl)<|O_box rfl rfl rfl fun b5=>⟨fun h=>absurd h (by decide),?_⟩
 refine aN 9 1023 rfl rfl (za9 rfl)<|aD<|sR<|oA rfl<|nT<|zab<|sR<|oM rfl<|oV (V_len rfl foc3 (Reads.sl _ _ _) Tryz.runUnderlying52)<|oM rfl<|nT<|zao<|zbs (fun h hh=>zch (t:=tyMLeg) h hh)<|za8 (X:=Nat × Sl3) [13,14,15,16,55,56,57,58,59,60,61,62,63,64,65,66,67,68,69,70,71,72,73,74,75,76,77,78,79,80,81,82,83,84,85,86,87,88] (fun ⟨i,lv⟩  => ([(55,.int .i64 (i:Nat)),(13,.int .i64 (i:Nat))]:Slots)) (fun ⟨i,lv⟩ R=>blk b5 105 [lv.v,.pointer none,.bool false,.int .i64 0,.int .i64 ((mmin sz i:Nat):Int),.int .i64 (rg:Int),.slice none 0 0,.int .i64 0]::sl tyMLeg lv.v (mlg (vs.take i))::R) (fun ⟨i,lv⟩  => i≤vs.length) (fun ⟨i,lv⟩  => vs.length - i) ⟨0,⟨none,0,0⟩⟩ ?_ ?_ (t1_ r_) ?_
 · exact Nat.zero_le _
 · exact ⟨rfl,rfl,True.intro⟩
 ·
  rintro ⟨i,lv⟩ hil
  show CJ _ _ _ _ _ (([(55,.int .i64 (i:Nat)),(13,.int .i64 (i:Nat))]:Slots) ++ forget _ _) (blk b5 105 [lv.v,.pointer none,.bool false,.int .i64 0,.int .i64 ((mmin sz i:Nat):Int),.int .i64 (rg:Int),.slice none 0 0,.int .i64 0]::sl tyMLeg lv.v (mlg (vs.take i))::_)
  have hml:(mlg (vs.take i)).length=i := by rw [zd7]; simp; omega
  have hmn := zp9 hz i (by omega)
  refine sR<|oP (P_lss rfl rfl)<|nT<|zab ?_
  first | (refine zav rfl (fun hg5 => ?_) (fun hg5 => ?_)) | (refine zaw rfl (fun hg5 => ?_) (fun hg5 => ?_)) | (refine za1 rfl (fun hg5 => ?_) (fun hg5 => ?_))
  ·
   refine kT<|zab<|zao<|sR ?_
   have hi:i < vs.length := by omega
   refine oM rfl ?_
   first | (refine RJ_op rfl (OJ_V (zam rfl rfl rfl (by omega) foc4 (Reads.sl _ _ _) Tryz.runUnderlying52 Tryz.sizeOf38) rfl ?_)) | (refine RJ_op rfl (OJ_V (zam rfl rfl (Int.toNat_of_nonneg (by omega)).symm (by omega) foc4 (Reads.sl _ _ _) Tryz.runUnderlying52 Tryz.sizeOf38) rfl ?_))
   refine oV (za6 rfl rfl (by omega) foc4 (Reads.sl _ _ _) rfl rfl Tryz.isAgg38)<|oA rfl<|oA rfl<|nT<|sR<|oM rfl<|oP (zbk rfl (zqa _ _))<|oO<|zbi Tryz.zeroValue107 rfl rfl fun b6=>oO<|zbo rfl rfl foc0 Tryz.sizeOf107 rfl rfl rfl<|nT<|zab<|sR<|oM rfl<|oM rfl<|oO<|zai (zmv) rfl Tryz.call35 Dels.nil rfl fun _ hc7=>nT<|zap rfl rfl<|zag<|oM rfl<|oP (P_add rfl rfl (by omega))<|oA rfl<|nT<|zab<|za3 1152 kR_ rfl<|aN 0 1 rfl rfl (zae rfl)<|aN 1 3 rfl rfl (zae rfl)<|aN 2 7 rfl rfl (zad rfl)<|aN 3 15 rfl rfl (zaa rfl ⟨_,_,_,Tryz.runUnderlying105,rfl,rfl,Tryz.sizeOf100,rfl⟩)<|aW 4 31 rfl rfl r_ (zac rfl foc1 rfl Tryz.isAgg100)<|aW 5 63 rfl rfl r_ (zbq rfl foc0 Tryz.isAgg107 Tryz.sizeOf107 rfl rfl)<|AJ_op 6 127 rfl kR_ rfl (zal rfl)<|za4 rfl (zo0 _ _ _ _) rfl fun b8=>⟨fun _=>(t1_ (t1_ (t1_ (t1_ (t1_ (t1_ (e_ r_))))))),?_⟩
   refine AJ_op 7 255 rfl kR_ rfl (zal rfl)<|zb1 (t:=tyMLeg) (bytes:=32) rfl rfl del3 foc0 (Reads.lit (t:=tyMLeg) (ys:=[(⟨vs.getD i tyDev.dflt,0,0⟩:MLeg)]) rfl rfl (by decide) (by decide) rfl) Tryz.underlying100 zwl (by show (mlg (vs.take i)).length + 1≤maxLen; rw [hml]; unfold maxLen; omega) (by show ((mlg (vs.take i)).length + 1) * 32≤_; rw [hml]; omega) rfl fun p9 c10=>⟨fun h=>absurd h (by decide),?_⟩
   refine aN 8 511 rfl rfl (zad rfl)<|aN 9 1023 rfl rfl (zaa rfl ⟨_,_,_,Tryz.runUnderlying105,rfl,rfl,Tryz.sizeOf100,rfl⟩)<|AJ_op 10 2047 rfl kR_ rfl (zal rfl)<|za5 rfl rfl foc3 rfl rfl Tryz.sizeOf100<|⟨fun h=>absurd h (by decide),?_⟩
   refine aD<|za3 1024 kR_ rfl<|aN 0 1 rfl rfl (zae rfl)<|aN 1 3 rfl rfl (zae rfl)<|aN 2 7 rfl rfl (zad rfl)<|aN 3 15 rfl rfl (zaa rfl ⟨_,_,_,Tryz.runUnderlying105,rfl,rfl,Tryz.sizeOf3,rfl⟩)<|aW 4 31 rfl rfl r_ (zac rfl foc3 rfl Tryz.isAgg3)<|aN 5 63 rfl rfl (zae rfl)<|AJ_op 6 127 rfl kR_ rfl (zal rfl)<|zbz rfl (IOk.call (hS i hi) (Nat.le_trans hdp (by decide))) rfl (dC_ del4) rfl fun o11 ho12=>⟨fun _=>(t1_ (t1_ (t1_ (t1_ r_)))),?_⟩
   refine aN 7 255 rfl rfl (P_min rfl rfl)<|aN 8 511 rfl rfl (zad rfl)<|aN 9 1023 rfl rfl (zaa rfl ⟨_,_,_,Tryz.runUnderlying105,rfl,rfl,Tryz.sizeOf3,rfl⟩)<|AJ_op 10 2047 rfl kR_ rfl (zal rfl)<|za5 rfl rfl foc4 rfl rfl Tryz.sizeOf3<|⟨fun h=>absurd h (by decide),?_⟩
   refine zcf kR_<|zah<|zar<|zag<|oP (P_add rfl rfl (by omega))<|oM rfl<|za0<|zba ⟨i + 1,⟨p9,(mlg (vs.take i) ++ [(⟨vs.getD i tyDev.dflt,0,0⟩:MLeg)]).length,c10⟩⟩ (by first | omega | (simp only []; omega)) ?_ kP_ ?_ (Ent.takeC del4 (by rw [mmin_s]; rfl) (Ent.takeC del1 (by rw [zyw hi]) (t0_ (t2_ (t2_ (e_ (e_ r_)))))))
   · show i + 1≤vs.length; omega
   · exact ⟨rfl,rfl,True.intro⟩
  ·
   refine zbc<|zay<|zau<|zat<|zar<|zab<|zab ?_
   obtain rfl:i=2 := by omega
   have hmb := zp9 hz 2 (Nat.le_refl _)
   refine zag<|oM rfl<|oP (P_eql rfl rfl)<|nT<|zap rfl wF_<|kT<|zab ?_
   have hnr:(mmin sz 2 - 1) / rg≤100000 := Nat.le_trans (Nat.div_le_self _ _) (by omega)
   refine zag<|oM rfl<|oM rfl<|oP (zad rfl)<|oP (zaa rfl ⟨_,_,_,Tryz.runUnderlying105,rfl,rfl,Tryz.sizeOf3,rfl⟩)<|oV (zac rfl foc0 rfl Tryz.isAgg3)<|oM rfl<|oO<|zai ((zwq hmb hrg.1)) rfl Tryz.call36 Dels.nil rfl fun _ hc13=>oO<|zea (t:=tyB) (m:=((mmin sz 2 - 1) / rg + 1)) (x0:=false) (z:=_) (bytes:=_) rfl rfl rfl rfl Tryz.underlying103 ⟨Tryz.t4,by kernel_rfl,rfl,rfl,rfl⟩ rfl (by omega) (by decide) rfl fun b14=>oP (zad rfl)<|oP (zaa rfl ⟨_,_,_,Tryz.runUnderlying105,rfl,rfl,Tryz.sizeOf103,rfl⟩)<|oO<|za5 rfl rfl foc1 rfl rfl Tryz.sizeOf103<|nT<|zab<|sR<|oM rfl<|oV (zac rfl foc4 rfl Tryz.isAgg3)<|oO<|zai (zmv) rfl Tryz.call35 Dels.nil rfl fun _ hc15=>oM rfl<|p_ rfl rfl rfl rfl (zae rfl)<|p_ rfl rfl rfl rfl (zad rfl)<|p_ rfl rfl rfl rfl (zaa rfl ⟨_,_,_,Tryz.runUnderlying105,rfl,rfl,Tryz.sizeOf4,rfl⟩)<|v_ rfl rfl rfl rfl (zac rfl foc1 rfl Tryz.isAgg4)<|p_ rfl rfl rfl rfl (P_not rfl)<|oP (za2 rfl rfl rfl)<|nT<|za7 rfl (by first | exact decide_eq_true (by rfl) | (rfl))<|sR<|oM rfl<|oP (zad rfl)<|oP (zaa rfl ⟨_,_,_,Tryz.runUnderlying105,rfl,rfl,Tryz.sizeOf102,rfl⟩)<|oO<|za5 rfl rfl foc1 rfl rfl Tryz.sizeOf102<|nT<|zab<|zab ?_
   have hrf:(List.replicate ((mmin sz 2 - 1) / rg + 1) false).length=((mmin sz 2 - 1) / rg + 1) := List.length_replicate
   refine zag<|oM rfl<|oP (zad rfl)<|oP (zaa rfl ⟨_,_,_,Tryz.runUnderlying105,rfl,rfl,Tryz.sizeOf103,rfl⟩)<|oV (zac rfl foc1 rfl Tryz.isAgg103)<|oV (V_len rfl foc0 (Reads.sl _ _ _) Tryz.runUnderlying103)<|oM rfl<|nT<|zao<|za8 (X:=Nat) [17,119,120,121,122,123,124,125,126,127,128] (fun i  => ([(119,.int .i64 (i:Nat))]:Slots)) (fun i R=>sl tyB (Sl3.v ⟨some ⟨b14,0,none⟩,((mmin sz 2 - 1) / rg + 1),((mmin sz 2 - 1) / rg + 1)⟩) (List.replicate i true ++ List.replicate (((mmin sz 2 - 1) / rg + 1) - i) false)::R) (fun i  => i≤((mmin sz 2 - 1) / rg + 1)) (fun i  => ((mmin sz 2 - 1) / rg + 1) - i) (0) ?_ ?_ r_ ?_
   · exact Nat.zero_le _
   · exact ⟨rfl,True.intro⟩
   ·
    intro i hin
    show CJ _ _ _ _ _ (([(119,.int .i64 (i:Nat))]:Slots) ++ forget _ _) (sl tyB (Sl3.v ⟨some ⟨b14,0,none⟩,((mmin sz 2 - 1) / rg + 1),((mmin sz 2 - 1) / rg + 1)⟩) (List.replicate i true ++ List.replicate (((mmin sz 2 - 1) / rg + 1) - i) false)::_)
    have hrl := z1d hin
    refine sR<|oP (P_lss rfl rfl)<|nT<|zab ?_
    first | (refine zav rfl (fun hg8 => ?_) (fun hg8 => ?_)) | (refine zaw rfl (fun hg8 => ?_) (fun hg8 => ?_)) | (refine za1 rfl (fun hg8 => ?_) (fun hg8 => ?_))
    ·
     refine kT<|zab<|zao<|sR<|oM rfl<|oA rfl<|nT<|zag ?_
     have hi2:i < ((mmin sz 2 - 1) / rg + 1) := by omega
     refine oM rfl<|oP (zad rfl)<|oP (zaa rfl ⟨_,_,_,Tryz.runUnderlying105,rfl,rfl,Tryz.sizeOf103,rfl⟩)<|oV (zac rfl foc1 rfl Tryz.isAgg103)<|oM rfl ?_
     first | (refine RJ_op rfl (OJ_V (zam rfl rfl rfl (by omega) foc0 (Reads.sl _ _ _) Tryz.runUnderlying103 Tryz.sizeOf4) rfl ?_)) | (refine RJ_op rfl (OJ_V (zam rfl rfl (Int.toNat_of_nonneg (by omega)).symm (by omega) foc0 (Reads.sl _ _ _) Tryz.runUnderlying103 Tryz.sizeOf4) rfl ?_))
     refine oO<|zcb (x' := true) rfl rfl rfl (by omega) foc0 rfl rfl rfl Tryz.sizeOf4<|za0<|zah<|zar<|zag<|oP (P_add rfl rfl (by omega))<|oM rfl<|za0<|zba (i + 1) (by first | omega | (simp only []; omega)) ?_ kP_ ?_ (Ent.takeC del0 (by rw [z1b hi2]) r_)
     · show i + 1≤_; omega
     · exact ⟨rfl,True.intro⟩
    ·
     refine zbc<|zay<|zau<|zat<|zar<|sR<|oM rfl<|oA rfl<|oA rfl<|nT<|zaf<|zak ?_
     obtain rfl:i=((mmin sz 2 - 1) / rg + 1) := by omega
     refine zan (res2 Tryz.results14 rfl rfl)<|CSpec.close (b5,lv,⟨some ⟨b14,0,none⟩,((mmin sz 2 - 1) / rg + 1),((mmin sz 2 - 1) / rg + 1)⟩) ?_ ?_ (t3_ (t1_ (Ent.takeC del1 (by rw [z1e h2]) (Ent.takeC del0 (by rw [z1c]) (t1_ (e_ r_))))))
     · rfl
     · trivial
end Go.Proofs
namespace Go.VG
def ddef (f:FuncId) (cap:List Value):Deferred := { target := .fn (.func f) cap.toArray,args := #[] }
def DSpec (P:Program) (W:World) (f:FuncId) (cap:List Value) (pre post:List HP):Prop :=
  ∀ F w,St W w (pre ++ F) → ∀ u,CallsDIn (fw none) 0 P f cap.toArray u w fun e u' w' => u' = u∧(∃ v,e = .returned v)∧St W w' (post ++ F)
section
variable {P:Program} {n:Env} {W:World} {s:Slots} {H:List HP} {ops:Array Oper} {Q:Exit→Act→World→Prop} {ty:TypeId} {pos:String} {after:Array Edge}
theorem DSpec.of_body {f:FuncId} {fn:Func} {c:Code} {cap:List Value} {pre post:List HP} {X:Type} {res:X→Value} {pf:X→Prop}
    (hf:P.funcs[f]? = some fn) (hb:fn.body=some c) {m:Nat} (hn:fn.ntmps=m) (hargs:Nat.ble cap.length m=true)
    (h:∀ F,CJ P ⟨m,none,[]⟩ W (bodyPost P fn (CPost W res pf (fun _ F=>post ++ F) F)) c (args0 0 cap) (pre ++ F)):DSpec P W f cap pre post := by
  intro F w hs u
  refine CallsDIn.mono (callsDIn_of_wp (u:=u) hf hb trivial (h F _ w ⟨?_,rfl,?_⟩ hs)) ?_
  · have:cap.length≤m := by simpa using hargs
    simp [hn]; omega
  · intro i v hl
    obtain ⟨_,h2⟩ := zg2 cap 0 i v hl
    have hlt:i < cap.length := by
      rcases Nat.lt_or_ge i cap.length with h' | h'
      · exact h'
      · simp [List.getElem?_eq_none h'] at h2
    simp only [Nat.sub_zero] at h2
    rw [Array.getElem?_append_left (by simpa using hlt)]
    simpa using h2
  · rintro e u' w' ⟨h1,x,h2,_,h3⟩
    exact ⟨h1,⟨_,h2⟩,h3⟩
theorem zyy {fo:Operand} {f:FuncId} {cap:List Value} {rest:List Oper} (hfo:ev s fo=some (.func (.func f) #[] cap.toArray)) (hr:n.r=none)
    (h:RJ P ⟨n.n,none,ddef f cap::n.ds⟩ W ops Q rest s H):RJ P n W ops Q (⟨none,.defer { callee := .value fo,args := #[],argTypes := #[] },ty,pos,after,none⟩::rest) s H := by
  intro a w hf hs
  refine wpListIn_plain rfl fun K hK => ?_
  refine ⟨fun _ _=>trivial,?_⟩
  obtain ⟨nn,r,ds⟩ := n
  simp only at hr
  subst hr
  have he:(execOp a.eval ⟨none,.defer { callee := .value fo,args := #[],argTypes := #[] },ty,pos,after,none⟩).run P w = .ok (.defer (ddef f cap)) w := by
    simp [execOp,resolve,hf.eval hfo,Deferred.ofValue,ddef]
  have h1:Oper.semAt none a.eval ⟨none,.defer { callee := .value fo,args := #[],argTypes := #[] },ty,pos,after,none⟩=execOp a.eval ⟨none,.defer { callee := .value fo,args := #[],argTypes := #[] },ty,pos,after,none⟩ := rfl
  show Oper.uponIn _ _ _ _ _ _ _ ((Oper.semAt none a.eval _).run P w)
  rw [h1,he,Oper.uponIn_defer]
  refine hK _ w (h _ w ⟨hf.size,?_,hf.slot⟩ hs)
  show ddef f cap::a.defers=_
  rw [hf.defers]
theorem zyz {fn:Func} {R:Ending→World→Prop} {v:Value} {m:Nat} {f:FuncId} {cap:List Value} {pre post F:List HP} {e:Exit} (he:e = .ret∨e = .normal) (hen:zgf P f) (hp:Ent H (pre ++ F)) (hd:DSpec P W f cap pre post)
    (hr:∀ a w,Fits ⟨m,none,[ddef f cap]⟩ s a→St W w (post ++ F)→(results fn a.tmps).run P w = .ok v w) (h:∀ w,St W w (post ++ F)→R (.returned v) w) :
    QJ ⟨m,none,[ddef f cap]⟩ W (bodyPostM (fw none) 0 P fn R) e s H := fun a w hf hs=>by
  have h1:LeavesInM (fw none) 0 P fn a.tmps R a.defers .returning w := by
    rw [hf.defers]
    refine ⟨by simp,.inr ⟨(fun h=>by cases h),.func f,cap.toArray,f,cap.toArray,rfl,(by simp only [ddef,invoke,Array.append_empty,Array.empty_append]; exact hen _ _),fun _ _=>trivial,?_⟩⟩
    refine (hd F w (hs.imp hp) .returning).mono ?_
    rintro e u' w' ⟨rfl,⟨x,rfl⟩,h3⟩
    exact ⟨v,hr a w' hf h3,h w' h3⟩
  rcases he with rfl | rfl
  · exact h1
  · exact h1
end
end Go.VG
namespace Go.Proofs.Ts
open Go.VG
theorem hdW_eq:∀ off:Nat,off < 128 → ∀ leg:Nat,leg < 8→(zgv (zdn (off:Int)) 3 ||| zdn (leg:Int))=hdW off leg := by decide +kernel
theorem zqb {t:TS} {a b:Nat} : (t.use a).use b=t.use (a + b) := by
  show ({ t with k := t.k - a - b } : TS) = { t with k := t.k - (a + b) }
  rw [Nat.sub_sub]
def rdL (t:TS) (i at_ n:Nat):List UInt64 := (List.range n).map fun j=>now t i (at_ + j)
theorem zy0 {t:TS} {i at_ n:Nat} : rdL t i at_ n ++ [now t i (at_ + n)]=rdL t i at_ (n + 1) := by simp [rdL,List.range_succ]
theorem zue {t:TS} {i at_ n:Nat} : (rdL t i at_ n).length=n := by simp [rdL]
theorem zo1 {t:TS} {i at_ n j:Nat} (h:j < n):(rdL t i at_ n).getD j 0=now t i (at_ + j) := by
  simp [rdL,List.getD,h]
theorem z1g:∀ a:Nat,a < 200→zfu 1 3 (a:Int)=some (((legF 3 1 a:Nat):Int),((offF 3 1 a:Nat):Int),((parF 3 1 (offF 3 1 a):Nat):Int),0) := by decide +kernel
theorem z1h:∀ a:Nat,a < 200→zfu 2 3 (a:Int)=some (((legF 3 2 a:Nat):Int),((offF 3 2 a:Nat):Int),((parF 3 2 (offF 3 2 a):Nat):Int),0) := by decide +kernel
theorem par_pl {c a:Nat} (hc:1≤c∧c≤2) (ha:a < 200):zfu (c:Int) 3 (a:Int)=some (((legF 3 c a:Nat):Int),((offF 3 c a:Nat):Int),((parF 3 c (offF 3 c a):Nat):Int),0) := by
  have hc2:c=1∨c=2 := by omega
  rcases hc2 with rfl | rfl
  · exact z1g a ha
  · exact z1h a ha
end Go.Proofs.Ts
set_option linter.unusedSimpArgs false
set_option maxRecDepth 20000
namespace Go.Proofs
open Go.VG Ts
theorem zqc (v0:Int):zbg Tryz.prog 44 1 [(0,.int .u64 v0)] 47 [.int .u64 v0] := fun w=>by kernel_rfl
structure PLeg where
  dev:IfH
  st:Bool
  fl:Bool
abbrev tyPLeg:Ty PLeg := { T := 148,sz := 3,enc := fun x=>[x.dev.v,.bool x.st,.bool x.fl],dflt := ⟨tyDev.dflt,false,false⟩,len := fun _=>rfl,one := fun _=>rfl,pos := by decide }
theorem zwr:ElemOk Tryz.prog tyPLeg 24 := ⟨Tryz.t148,.agg #[.nilIface,.bool false,.bool false],by kernel_rfl,rfl,rfl,rfl,rfl⟩
def plg (vs:List IfH):List PLeg := vs.map fun d=>⟨d,false,false⟩
theorem zc8 {vs:List IfH} : (plg vs).length=vs.length := by simp [plg]
theorem zh6 {vs:List IfH} {i:Nat} : (plg vs).getD i tyPLeg.dflt=⟨vs.getD i tyDev.dflt,false,false⟩ := by
  unfold plg
  by_cases h:i < vs.length
  · simp [List.getD,h]
  · simp [List.getD,h]
theorem zy1 {vs:List IfH} {d:IfH} : plg vs ++ [⟨d,false,false⟩]=plg (vs ++ [d]) := by simp [plg]
theorem zws {W:World} {vs:List IfH} {q c R:Nat} {lv:Sl3} {sq:UInt64} {e:PE} {pd:Bool} (h3:vs.length=3) :
    CSpec Tryz.prog W 279 [ptr q 0] [blk q 146 [.int .i64 3,.int .i64 (c:Int),.int .i64 (R:Int),lv.v,.int .u64 (sq.toNat:Int),.int .i64 (e.off:Int),.int .i64 (e.leg:Int),.int .u64 (e.w.toNat:Int),.int .u64 (e.p.toNat:Int),.bool pd,.int .i64 0],sl tyPLeg lv.v (plg vs)] (fun _:Unit => .slice none 0 0) (fun _=>True) (fun _ F=>blk q 146 [.int .i64 3,.int .i64 (c:Int),.int .i64 (R:Int),lv.v,.int .u64 (sq.toNat:Int),.int .i64 (e.off:Int),.int .i64 (e.leg:Int),.int .u64 (e.w.toNat:Int),.int .u64 (e.p.toNat:Int),.bool pd,.int .i64 0]::sl tyPLeg lv.v (plg vs)::F) := by
 refine CSpec.of_body Tryz.func279 rfl Tryz.ntmps279 rfl fun F => ?_
 show CJ _ _ _ _ _ _ (_::_::F)
 have hpl := @zc8 vs
 refine sR<|oA rfl<|nT<|sR<|oA rfl<|nT<|zab<|sR<|oM rfl<|oP (zad rfl)<|oP (zaa rfl ⟨_,_,_,Tryz.runUnderlying146,rfl,rfl,Tryz.sizeOf142,rfl⟩)<|oV (zac rfl foc0 rfl Tryz.isAgg142)<|oV (V_len rfl foc1 (Reads.sl _ _ _) Tryz.runUnderlying142)<|oM rfl<|nT<|zao<|za8 (X:=Nat) [3,4,5,11,12,13,14,15,16,17,18,19,20,21,22] (fun i  => ([(11,.int .i64 (i:Nat)),(3,.slice none 0 0)]:Slots)) (fun i R=>R) (fun i  => i≤vs.length) (fun i  => vs.length - i) (0) ?_ ?_ r_ ?_
 · exact Nat.zero_le _
 · exact ⟨rfl,rfl,True.intro⟩
 ·
  intro i hil
  show CJ _ _ _ _ _ (([(11,.int .i64 (i:Nat)),(3,.slice none 0 0)]:Slots) ++ forget _ _) (_)
  refine sR<|oP (P_lss rfl rfl)<|nT<|zab ?_
  first | (refine zav rfl (fun hg1 => ?_) (fun hg1 => ?_)) | (refine zaw rfl (fun hg1 => ?_) (fun hg1 => ?_)) | (refine za1 rfl (fun hg1 => ?_) (fun hg1 => ?_))
  ·
   refine kT<|zab<|zao<|sR ?_
   have hi:i < vs.length := by omega
   refine oM rfl ?_
   first | (refine RJ_op rfl (OJ_V (zam rfl rfl rfl (by omega) foc1 (Reads.sl _ _ _) Tryz.runUnderlying142 Tryz.sizeOf148) rfl ?_)) | (refine RJ_op rfl (OJ_V (zam rfl rfl (Int.toNat_of_nonneg (by omega)).symm (by omega) foc1 (Reads.sl _ _ _) Tryz.runUnderlying142 Tryz.sizeOf148) rfl ?_))
   refine oV (zdb rfl rfl (by omega) foc1 (Reads.sl _ _ _) rfl rfl Tryz.isAgg148 Tryz.sizeOf148)<|oO<|zbi Tryz.zeroValue148 rfl rfl fun b1=>oA rfl<|oO<|zbo rfl rfl foc0 Tryz.sizeOf148 rfl rfl rfl<|nT<|sR<|oP (zaa rfl ⟨_,_,_,Tryz.runUnderlying148,rfl,rfl,Tryz.sizeOf4,rfl⟩)<|oV (zac rfl foc0 rfl Tryz.isAgg4)<|nT<|zap rfl (by first | exact decide_eq_false (by rw [zh6]) | (rw [zh6]))<|zbh<|zah<|zar<|zag<|oP (P_add rfl rfl (by omega))<|oM rfl<|za0<|zba (i + 1) (by first | omega | (simp only []; omega)) ?_ kP_ ?_ (t1_ (t1_ (e_ r_)))
   · show i + 1≤vs.length; omega
   · exact ⟨rfl,rfl,True.intro⟩
  ·
   refine zbc<|zay<|zau<|zat<|zar<|sR<|oM rfl<|oA rfl<|nT<|zaf<|zan (res1 Tryz.results279 rfl)<|CSpec.close () ?_ ?_ r_
   · rfl
   · trivial
theorem zn8 {W:World} {vs:List IfH} {q c R:Nat} {lv:Sl3} {sq:UInt64} {e:PE} (h3:vs.length=3) :
    CSpec Tryz.prog W 273 [ptr q 0] [blk q 146 [.int .i64 3,.int .i64 (c:Int),.int .i64 (R:Int),lv.v,.int .u64 (sq.toNat:Int),.int .i64 (e.off:Int),.int .i64 (e.leg:Int),.int .u64 (e.w.toNat:Int),.int .u64 (e.p.toNat:Int),.bool false,.int .i64 0],sl tyPLeg lv.v (plg vs)] (fun _:Unit => .int .i64 0) (fun _=>True) (fun _ F=>blk q 146 [.int .i64 3,.int .i64 (c:Int),.int .i64 (R:Int),lv.v,.int .u64 (sq.toNat:Int),.int .i64 (e.off:Int),.int .i64 (e.leg:Int),.int .u64 (e.w.toNat:Int),.int .u64 (e.p.toNat:Int),.bool false,.int .i64 0]::sl tyPLeg lv.v (plg vs)::F) := by
 refine CSpec.of_body Tryz.func273 rfl Tryz.ntmps273 rfl fun F => ?_
 show CJ _ _ _ _ _ _ (_::_::F)
 refine sR<|oA rfl<|nT<|zab<|sR<|oM rfl<|oO<|zai ((zws h3)) rfl Tryz.call279 (Dels.cons del0 (dC_ del0)) rfl fun _ hc1=>oP (zca rfl Tryz.runUnderlying22)<|oP (P_gtr rfl rfl)<|nT<|zap rfl dF_<|kT<|zab<|sR<|oM rfl<|oP (zad rfl)<|oP (zaa rfl ⟨_,_,_,Tryz.runUnderlying146,rfl,rfl,Tryz.sizeOf4,rfl⟩)<|oV (zac rfl foc0 rfl Tryz.isAgg4)<|nT<|zap rfl (by first | exact decide_eq_false (by rfl) | (rfl))<|kT<|sR<|oA rfl<|nT<|zaf<|zan (res1 Tryz.results273 rfl)<|CSpec.close () ?_ ?_ r_
 · rfl
 · trivial
theorem zwt {W:World} {sq:UInt64} :
    CSpec Tryz.prog W 85 [.int .u64 (sq.toNat:Int)] [] (fun _:Unit => .int .i64 ((slq sq:Nat):Int)) (fun _=>True) (fun _ F=>F) := by
 refine CSpec.of_body Tryz.func85 rfl Tryz.ntmps85 rfl fun F => ?_
 show CJ _ _ _ _ _ _ (F)
 refine sR<|oA rfl<|nT<|sR<|oM rfl<|oP (P_rem rfl rfl (by omega))<|oP (zif rfl Tryz.runUnderlying47 Tryz.runUnderlying3 (by first | rfl | exact zcx (by omega) (by omega)))<|oP (P_mul rfl rfl (by omega))<|oP (P_add rfl rfl (by omega))<|oA rfl<|nT<|zaf<|zan (res1 Tryz.results85 rfl)<|CSpec.close () ?_ ?_ r_
 · exact congrArg (Value.int .i64) (by unfold slq; omega)
 · trivial
theorem zy2 {W:World} {c R a:Nat} (hc:1≤c∧c≤2) (ha:a < 200) :
    CSpec Tryz.prog W 275 [.agg #[.int .i64 3,.int .i64 (c:Int),.int .i64 (R:Int)],.int .i64 (a:Int)] [] (fun _:Unit => .tuple #[.int .i64 ((legF 3 c a:Nat):Int),.int .i64 ((offF 3 c a:Nat):Int),.int .i64 ((parF 3 c (offF 3 c a):Nat):Int)]) (fun _=>True) (fun _ F=>F) := by
 refine CSpec.of_body Tryz.func275 rfl Tryz.ntmps275 rfl fun F => ?_
 show CJ _ _ _ _ _ _ (F)
 refine sR<|oO<|O_box rfl rfl rfl fun b1=>oA rfl<|oA rfl<|oA rfl<|nT<|sR<|oP (zaa rfl ⟨_,_,_,Tryz.runUnderlying137,rfl,rfl,Tryz.sizeOf3,rfl⟩)<|oV (zac rfl foc0 rfl Tryz.isAgg3)<|oP (zaa rfl ⟨_,_,_,Tryz.runUnderlying137,rfl,rfl,Tryz.sizeOf3,rfl⟩)<|oV (zac rfl foc0 rfl Tryz.isAgg3)<|oM rfl<|oO<|zai ((zp3 (par_pl hc ha))) rfl Tryz.call280 Dels.nil rfl fun _ hc2=>oM rfl<|oP (zaj rfl rfl)<|oP (zaj rfl rfl)<|oP (zaj rfl rfl)<|oP (zaj rfl rfl)<|oA rfl<|oA rfl<|oA rfl<|nT<|sR<|oM rfl<|oM rfl<|oM rfl<|oA rfl<|oA rfl<|oA rfl<|nT<|zaf<|zan (res3 Tryz.results275 rfl rfl rfl)<|CSpec.close () ?_ ?_ (e_ r_)
 · rfl
 · trivial
theorem zy3 {W:World} {c R o:Nat} (hc:1≤c∧c≤2) (ho:o≤1000) :
    CSpec Tryz.prog W 189 [.agg #[.int .i64 3,.int .i64 (c:Int),.int .i64 (R:Int)],.int .i64 (o:Int)] [] (fun x:Nat => .tuple #[.int .i64 ((parF 3 c o:Nat):Int),.int .i64 (x:Int)]) (fun _=>True) (fun _ F=>F) := by
 refine CSpec.of_body Tryz.func189 rfl Tryz.ntmps189 rfl fun F => ?_
 show CJ _ _ _ _ _ _ (F)
 have e1:(o:Int) / (c:Int)=((o / c:Nat):Int) := rfl
 have e2:(0:Int)≤((o / c:Nat):Int) := Int.natCast_nonneg _
 have e3:o / c≤1000 := Nat.le_trans (Nat.div_le_self _ _) ho
 have e4:((o / c:Nat):Int) % 3=((o / c % 3:Nat):Int) := rfl
 refine sR<|oO<|O_box rfl rfl rfl fun b1=>oA rfl<|oA rfl<|nT<|zab<|za3 0 kR_ rfl<|aN 0 1 rfl rfl (zaa rfl ⟨_,_,_,Tryz.runUnderlying137,rfl,rfl,Tryz.sizeOf3,rfl⟩)<|aW 1 3 rfl rfl r_ (zac rfl foc0 rfl Tryz.isAgg3)<|aN 2 7 rfl rfl (P_sub rfl rfl (by first | omega | (rw [e1]; generalize o / c=z at *; omega)))<|aN 3 15 rfl rfl (zae rfl)<|aN 4 31 rfl rfl (zaa rfl ⟨_,_,_,Tryz.runUnderlying137,rfl,rfl,Tryz.sizeOf3,rfl⟩)<|aW 5 63 rfl rfl r_ (zac rfl foc0 rfl Tryz.isAgg3)<|aN 6 127 rfl rfl (P_quo rfl rfl (by first | omega | (rw [e1]; generalize o / c=z at *; omega)))<|aN 7 255 rfl rfl (zaa rfl ⟨_,_,_,Tryz.runUnderlying137,rfl,rfl,Tryz.sizeOf3,rfl⟩)<|aW 8 511 rfl rfl r_ (zac rfl foc0 rfl Tryz.isAgg3)<|aN 9 1023 rfl rfl (P_rem rfl rfl (by first | omega | (rw [e1]; generalize o / c=z at *; omega)))<|aN 10 2047 rfl rfl (P_sub rfl rfl (by first | omega | (rw [e1]; generalize o / c=z at *; omega)))<|aN 11 4095 rfl rfl (za9 rfl)<|aD<|zab<|za3 0 kR_ rfl<|aN 0 1 rfl rfl (zae rfl)<|aN 1 3 rfl rfl (zae rfl)<|aN 2 7 rfl rfl (P_add rfl rfl (by first | omega | (rw [e1]; generalize o / c=z at *; omega)))<|aN 3 15 rfl rfl (zaa rfl ⟨_,_,_,Tryz.runUnderlying137,rfl,rfl,Tryz.sizeOf3,rfl⟩)<|aW 4 31 rfl rfl r_ (zac rfl foc0 rfl Tryz.isAgg3) ?_
 refine aN 5 63 rfl rfl (P_rem rfl rfl (by first | omega | (rw [e1]; generalize o / c=z at *; omega)))<|aN 6 127 rfl rfl (za9 rfl)<|aN 7 255 rfl rfl (za9 rfl)<|aD<|zaf<|zan (res2 Tryz.results189 rfl rfl) ?_
 rw [e1,e4]
 have e5:(3:Int) - 1 - ((o / c % 3:Nat):Int)=((parF 3 c o:Nat):Int) := by unfold parF; omega
 have e6:((3:Int) - 1 - ((o / c % 3:Nat):Int) + 1) % 3=(((2 - o / c % 3 + 1) % 3:Nat):Int) := by omega
 rw [e6,e5]
 refine CSpec.close ((2 - o / c % 3 + 1) % 3) ?_ ?_ (e_ r_)
 · rfl
 · trivial
theorem zqd {W:World} {q c R:Nat} {lv:Sl3} {sq:UInt64} {e:PE} {pd:Bool} (hc:1≤c∧c≤2) (hR:R≤40) :
    CSpec Tryz.prog W 271 [ptr q 0] [blk q 146 [.int .i64 3,.int .i64 (c:Int),.int .i64 (R:Int),lv.v,.int .u64 (sq.toNat:Int),.int .i64 (e.off:Int),.int .i64 (e.leg:Int),.int .u64 (e.w.toNat:Int),.int .u64 (e.p.toNat:Int),.bool pd,.int .i64 0]] (fun _:Unit => .int .i64 ((2 * R * c:Nat):Int)) (fun _=>True) (fun _ F=>blk q 146 [.int .i64 3,.int .i64 (c:Int),.int .i64 (R:Int),lv.v,.int .u64 (sq.toNat:Int),.int .i64 (e.off:Int),.int .i64 (e.leg:Int),.int .u64 (e.w.toNat:Int),.int .u64 (e.p.toNat:Int),.bool pd,.int .i64 0]::F) := by
 refine CSpec.of_body Tryz.func271 rfl Tryz.ntmps271 rfl fun F => ?_
 show CJ _ _ _ _ _ _ (_::F)
 have hR2:2 * R≤80 := by omega
 have hRc:2 * R * c≤80 * 2 := Nat.mul_le_mul hR2 hc.2
 have e1:((3:Int) - 1) * (R:Int)=((2 * R:Nat):Int) := by omega
 have e2:((2 * R:Nat):Int) * (c:Int)=((2 * R * c:Nat):Int) := (Int.natCast_mul _ _).symm
 refine sR<|oA rfl<|nT<|zab<|za3 0 kR_ rfl<|aN 0 1 rfl rfl (zae rfl)<|aN 1 3 rfl rfl (zad rfl)<|aN 2 7 rfl rfl (zaa rfl ⟨_,_,_,Tryz.runUnderlying146,rfl,rfl,Tryz.sizeOf137,rfl⟩)<|aN 3 15 rfl rfl (zaa rfl ⟨_,_,_,Tryz.runUnderlying137,rfl,rfl,Tryz.sizeOf3,rfl⟩)<|aW 4 31 rfl rfl r_ (zac rfl foc0 rfl Tryz.isAgg3)<|aN 5 63 rfl rfl (P_sub rfl rfl (by first | omega | (rw [e1]; omega) | (rw [e1,e2]; omega)))<|aN 6 127 rfl rfl (zae rfl)<|aN 7 255 rfl rfl (zad rfl)<|aN 8 511 rfl rfl (zaa rfl ⟨_,_,_,Tryz.runUnderlying146,rfl,rfl,Tryz.sizeOf137,rfl⟩)<|aN 9 1023 rfl rfl (zaa rfl ⟨_,_,_,Tryz.runUnderlying137,rfl,rfl,Tryz.sizeOf3,rfl⟩)<|aW 10 2047 rfl rfl r_ (zac rfl foc0 rfl Tryz.isAgg3)<|aN 11 4095 rfl rfl (P_mul rfl rfl (by first | omega | (rw [e1]; omega) | (rw [e1,e2]; omega)))<|aN 12 8191 rfl rfl (zae rfl)<|aN 13 16383 rfl rfl (zad rfl)<|aN 14 32767 rfl rfl (zaa rfl ⟨_,_,_,Tryz.runUnderlying146,rfl,rfl,Tryz.sizeOf137,rfl⟩)<|aN 15 65535 rfl rfl (zaa rfl ⟨_,_,_,Tryz.runUnderlying137,rfl,rfl,Tryz.sizeOf3,rfl⟩)<|aW 16 131071 rfl rfl r_ (zac rfl foc0 rfl Tryz.isAgg3)<|aN 17 262143 rfl rfl (P_mul rfl rfl (by first | omega | (rw [e1]; omega) | (rw [e1,e2]; omega)))<|aN 18 524287 rfl rfl (za9 rfl)<|aD<|zaf ?_
 refine zan (res1 Tryz.results271 rfl)<|CSpec.close () ?_ ?_ r_
 · exact congrArg (Value.int .i64) (by rw [e1,e2])
 · trivial
theorem zo2 {W:World} {B:TS→HP} {vs:List IfH} {dep rc wc:Nat} {sz:Nat→Nat} (hB:BaseOk Tryz.prog B vs.length dep rc wc sz (fun i=>vs.getD i tyDev.dflt)) {t:TS} {i at_:Nat} {A:HP} {v:Value} {l:List UInt64} {I:Nat→TS→Prop} {Dn:TS→Prop} (hA:Reads A tyU v l) (hd:t.dn=false) (hi:i < vs.length) (hb:at_ + l.length≤sz i)
    (hI:∀ j t,j < l.length→I j t→t.dn=false∧wc≤t.k) (hst:∀ j t,j < l.length→I j t→I (j + 1) (t.wrS wc i (at_ + j) (l.getD j 0) true)) (hfl:∀ j t,j < l.length→I j t→t.safe=false→Dn (t.wrS wc i (at_ + j) (l.getD j 0) false)) (h0:I 0 t) :
    CSpec Tryz.prog W 54 [(vs.getD i tyDev.dflt).v,.int .i64 (at_:Int),v] [B t,A] (fun x:Bool × TS => .int .i64 (if x.1 then 0 else 5)) (fun x=>(x.1=true→I l.length x.2)∧(x.1=false→Dn x.2)) (fun x F=>B x.2::A::F) := by
 refine CSpec.of_body Tryz.func54 rfl Tryz.ntmps54 rfl fun F => ?_
 show CJ _ _ _ _ _ _ (_::_::F)
 have hszb := hB.szb i hi
 refine sR<|oA rfl<|nT<|zab<|sR<|oM rfl<|oO<|zbz rfl (IOk.call (hB.size (i:=i) hi hd) (Nat.le_trans hB.depb (by decide))) rfl (dC_ del0) rfl fun o1 ho2=>oM rfl<|oM rfl<|oV (V_len rfl foc1 hA Tryz.runUnderlying44)<|oO<|zai (zct (zn2 (by omega) (by omega))) rfl Tryz.call50 Dels.nil rfl fun _ hc3=>oP (P_not rfl)<|nT<|zap rfl rfl<|kT<|zab<|sR<|oM rfl<|oV (V_len rfl foc1 hA Tryz.runUnderlying44)<|oM rfl<|nT<|zao<|za8 (X:=Nat × TS) [6,7,8,9,19,20,21,22,23,24,25,26,27,28,29,30,31,32,33] (fun ⟨j,t1⟩  => ([(19,.int .i64 (j:Nat))]:Slots)) (fun ⟨j,t1⟩ R=>B t1::R) (fun ⟨j,t1⟩  => j≤l.length∧I j t1) (fun ⟨j,t1⟩  => l.length - j) ⟨0,t⟩ ?_ ?_ r_ ?_
 · exact ⟨Nat.zero_le _,h0⟩
 · exact ⟨rfl,True.intro⟩
 ·
  rintro ⟨j,t1⟩ ⟨hjl,hIj⟩
  show CJ _ _ _ _ _ (([(19,.int .i64 (j:Nat))]:Slots) ++ forget _ _) (B t1::_)
  refine sR<|oP (P_lss rfl rfl)<|nT<|zab ?_
  first | (refine zav rfl (fun hg1 => ?_) (fun hg1 => ?_)) | (refine zaw rfl (fun hg1 => ?_) (fun hg1 => ?_)) | (refine za1 rfl (fun hg1 => ?_) (fun hg1 => ?_))
  ·
   refine kT<|zab<|zao<|sR ?_
   have hj:j < l.length := by omega
   refine oM rfl ?_
   first | (refine RJ_op rfl (OJ_V (zam rfl rfl rfl (by omega) foc1 hA Tryz.runUnderlying44 Tryz.sizeOf47) rfl ?_)) | (refine RJ_op rfl (OJ_V (zam rfl rfl (Int.toNat_of_nonneg (by omega)).symm (by omega) foc1 hA Tryz.runUnderlying44 Tryz.sizeOf47) rfl ?_))
   refine oV (za6 rfl rfl (by omega) foc1 hA rfl rfl Tryz.isAgg47)<|oA rfl<|oA rfl<|nT<|sR<|oM rfl<|oM rfl<|oM rfl<|oP (P_add rfl rfl (by omega))<|oM rfl<|oO (zgm rfl (IOk.call (hB.wr (i:=i) (a:=(at_ + j)) (v:=(l.getD j 0)) hi (by omega) (hI j t1 hj hIj).1 (hI j t1 hj hIj).2) (Nat.le_trans hB.depb (by decide))) rfl (dC_ del0) rfl (fun how => ?_) (fun how => ?_))
   ·
    refine oA rfl<|nT<|sR<|oM rfl<|oP (P_neq rfl rfl)<|nT<|za7 rfl dT_<|sR<|oM rfl<|oA rfl<|nT<|zaf<|zax<|zak<|zbm<|zax<|zak<|zan (res1 Tryz.results54 rfl)<|CSpec.close (false,t1.wrS wc i (at_ + j) (l.getD j 0) false) ?_ ?_ r_
    · rfl
    · exact ⟨fun h=>(by cases h),fun _=>hfl j t1 hj hIj (how rfl)⟩
   ·
    refine oA rfl<|nT<|sR<|oM rfl<|oP (P_neq rfl rfl)<|nT<|zap rfl dF_<|zbh<|zah<|zar<|zag<|oP (P_add rfl rfl (by omega))<|oM rfl<|za0<|zba ⟨j + 1,t1.wrS wc i (at_ + j) (l.getD j 0) true⟩ (by first | omega | (simp only []; omega)) ?_ kP_ ?_ r_
    · exact ⟨by omega,hst j t1 hj hIj⟩
    · exact ⟨rfl,True.intro⟩
  ·
   refine zbc<|zay<|zau<|zat<|zar<|sR<|oA rfl<|nT<|zaf ?_
   obtain rfl:j=l.length := by omega
   refine zan (res1 Tryz.results54 rfl)<|CSpec.close (true,t1) ?_ ?_ r_
   · rfl
   · exact ⟨fun _=>hIj,fun h=>(by cases h)⟩
theorem zwu {W:World} {B:TS→HP} {vs:List IfH} {dep rc wc:Nat} {sz:Nat→Nat} (hB:BaseOk Tryz.prog B vs.length dep rc wc sz (fun i=>vs.getD i tyDev.dflt)) {t:TS} {i at_ n:Nat} (hd:t.dn=false) (hs:t.safe=true) (hi:i < vs.length) (hb:at_ + n≤sz i) (hk:n * rc≤t.k) :
    CSpec Tryz.prog W 67 [(vs.getD i tyDev.dflt).v,.int .i64 (at_:Int),.int .i64 (n:Int)] [B t] (fun x:Sl3 => .tuple #[x.v,.int .i64 0]) (fun _=>True) (fun x F=>B (t.use (n * rc))::sl tyU x.v (rdL t i at_ n)::F) := by
 refine CSpec.of_body Tryz.func67 rfl Tryz.ntmps67 rfl fun F => ?_
 show CJ _ _ _ _ _ _ (_::F)
 have hszb := hB.szb i hi
 refine sR<|oA rfl<|oA rfl<|nT<|zab<|sR<|oM rfl<|oO<|zbz rfl (IOk.call (hB.size (i:=i) hi hd) (Nat.le_trans hB.depb (by decide))) rfl (dC_ del0) rfl fun o1 ho2=>oM rfl<|oM rfl<|oO<|zai (zct (zn2 (by omega) (by omega))) rfl Tryz.call50 Dels.nil rfl fun _ hc3=>oP (P_not rfl)<|nT<|zap rfl rfl<|kT<|sR<|oA rfl<|nT<|zab<|sR<|oM rfl<|oM rfl<|nT<|zao<|zbs (fun h hh=>zch (t:=tyU) h hh)<|za8 (X:=Nat × Sl3) [6,7,8,9,10,11,19,20,21,22,23,24,25,26,27,28,29,30,31,32,33,34,35,36,37] (fun ⟨j,ov⟩  => ([(19,.int .i64 (j:Nat)),(8,ov.v)]:Slots)) (fun ⟨j,ov⟩ R=>B (t.use (j * rc))::sl tyU ov.v (rdL t i at_ j)::R) (fun ⟨j,ov⟩  => j≤n) (fun ⟨j,ov⟩  => n - j) ⟨0,⟨none,0,0⟩⟩ ?_ ?_ (Ent.takeC del1 (by rw [Nat.zero_mul]; rfl) r_) ?_
 · exact Nat.zero_le _
 · exact ⟨rfl,rfl,True.intro⟩
 ·
  rintro ⟨j,ov⟩ hjn
  show CJ _ _ _ _ _ (([(19,.int .i64 (j:Nat)),(8,ov.v)]:Slots) ++ forget _ _) (B (t.use (j * rc))::sl tyU ov.v (rdL t i at_ j)::_)
  have hrl := @zue t i at_ j
  refine sR<|oP (P_lss rfl rfl)<|nT<|zab ?_
  first | (refine zav rfl (fun hg1 => ?_) (fun hg1 => ?_)) | (refine zaw rfl (fun hg1 => ?_) (fun hg1 => ?_)) | (refine za1 rfl (fun hg1 => ?_) (fun hg1 => ?_))
  ·
   refine kT<|zab<|zao<|sR ?_
   have hj:j < n := by omega
   have hjr:(j + 1) * rc≤n * rc := Nat.mul_le_mul_right _ hj
   rw [Nat.add_mul,Nat.one_mul] at hjr
   refine oM rfl<|oA rfl<|nT<|sR<|oM rfl<|oM rfl<|oM rfl<|oP (P_add rfl rfl (by omega))<|oO (zgm rfl (IOk.call (hB.rd (i:=i) (a:=(at_ + j)) hi (by omega) (show (t.use (j * rc)).dn=false from hd) (show rc≤t.k - j * rc by omega)) (Nat.le_trans hB.depb (by decide))) rfl (dC_ del0) rfl (fun hor => ?_) (fun hor => ?_))
   ·
    exact absurd (hor rfl) (by show ¬ t.safe=false; rw [hs]; decide)
   ·
    refine oM rfl<|oP (zaj rfl rfl)<|oP (zaj rfl rfl)<|oA rfl<|oA rfl<|nT<|zab<|sR<|oM rfl<|oP (P_neq rfl rfl)<|nT<|zap rfl dF_<|kT<|zag<|oM rfl<|oM rfl<|oO<|za4 rfl (zqc _) rfl fun b6=>oO<|zb1 (t:=tyU) (bytes:=8) rfl rfl del2 foc0 (Reads.lit (t:=tyU) (ys:=[Ts.now t i (at_ + j)]) rfl rfl (by decide) (by decide) rfl) Tryz.underlying44 zjw (by show (rdL t i at_ j).length + 1≤maxLen; rw [hrl]; unfold maxLen; omega) (by show ((rdL t i at_ j).length + 1) * 8≤_; rw [hrl]; omega) rfl fun p7 c8=>oA rfl<|za0<|zah<|zar<|zag<|oP (P_add rfl rfl (by omega))<|oM rfl<|za0<|zba ⟨j + 1,⟨p7,(rdL t i at_ j ++ [Ts.now t i (at_ + j)]).length,c8⟩⟩ (by first | omega | (simp only []; omega)) ?_ kP_ ?_ (Ent.takeC del2 (by show B ((t.use (j * rc)).use rc)=_; rw [zqb,Nat.add_mul,Nat.one_mul]) (Ent.takeC del0 (by rw [zy0]) (e_ r_)))
    · show j + 1≤n; omega
    · exact ⟨rfl,rfl,True.intro⟩
  ·
   refine zbc<|zay<|zau<|zat<|zar<|sR<|oM rfl<|oA rfl<|oA rfl<|nT<|zaf ?_
   obtain rfl:j=n := by omega
   refine zan (res2 Tryz.results67 rfl rfl)<|CSpec.close ov ?_ ?_ r_
   · rfl
   · trivial
theorem d_on1 {W:World} {x y z:Nat} {er:Int} (he:er=0∨er=5) :
    DSpec Tryz.prog W 118 [ptr x 0,ptr y 0,ptr z 0] [blk x 34 [.int .i64 er]] [blk x 34 [.int .i64 er]] := by
  refine DSpec.of_body Tryz.func118 rfl Tryz.ntmps118 rfl (X:=Unit) (res:=fun _ => .tuple #[]) (pf:=fun _=>True) (fun F => ?_)
  show CJ _ _ _ _ _ _ (_::F)
  refine zao ?_
  refine zab ?_
  refine zag ?_
  refine RJ_op rfl (OJ_V (zac rfl foc0 rfl Tryz.isAgg34) rfl ?_)
  refine RJ_op rfl (OJ_P (P_eql rfl rfl) rfl ?_)
  refine RJ_op rfl (OJ_P (zae rfl) rfl ?_)
  first | (refine zbu 13 rfl (fun hg1B hg1 => ?_) (fun hg1B hg1 => ?_)) | (refine zbv 13 rfl (fun hg1B hg1 => ?_) (fun hg1B hg1 => ?_)) | (refine zb3 13 rfl (fun hg1B => ?_) (fun hg1B => ?_))
  ·
    refine RJ_gn (GY_no rfl rfl rfl hg1B) rfl rfl ?_
    refine RJ_gn (GY_no rfl rfl rfl hg1B) rfl rfl ?_
    refine RJ_op rfl (OJ_P (zbe rfl hg1B rfl) rfl ?_)
    refine RJ_op rfl (OJ_P (za9 rfl) rfl ?_)
    refine za0 ?_
    refine zar ?_
    refine za7 rfl rfl ?_
    refine zbh ?_
    refine zah ?_
    refine zce (res0 Tryz.results118) ?_
    refine CSpec.close () ?_ ?_ (Ent.take del0 Ent.refl)
    · rfl
    · trivial
  ·
    refine RJ_gy (zaz rfl rfl rfl hg1B) (OJ_V (zac rfl foc0 rfl Tryz.isAgg34) rfl ?_)
    refine RJ_gy (zaz rfl rfl rfl hg1B) (OJ_P (P_eql rfl rfl) rfl ?_)
    refine RJ_op rfl (OJ_P (za2 rfl hg1B rfl) rfl ?_)
    refine RJ_op rfl (OJ_P (za9 rfl) rfl ?_)
    refine za0 ?_
    refine zar ?_
    first | (refine za7 rfl (decide_eq_true (by omega)) ?_) | (refine za7 rfl (by omega) ?_)
    refine zbh ?_
    refine zah ?_
    refine zce (res0 Tryz.results118) ?_
    refine CSpec.close () ?_ ?_ (Ent.take del0 Ent.refl)
    · rfl
    · trivial
theorem c_vOn {W:World} {vs:List IfH} {fv:Value} {i:Nat} {X:Type} {er:X→Int} {pf:X→Prop} {G:HP} {Q2 G2:X→HP} {q c R:Nat} {lv:Sl3} {sq:UInt64} {e:PE} {pd:Bool} (hi:i < vs.length)
    (hf:FOk Tryz.prog W fv [(vs.getD i tyDev.dflt).v] [blk q 146 [.int .i64 3,.int .i64 (c:Int),.int .i64 (R:Int),lv.v,.int .u64 (sq.toNat:Int),.int .i64 (e.off:Int),.int .i64 (e.leg:Int),.int .u64 (e.w.toNat:Int),.int .u64 (e.p.toNat:Int),.bool pd,.int .i64 0],sl tyPLeg lv.v (plg vs),G] (fun x:X => .int .i64 (er x)) pf (fun x F=>Q2 x::sl tyPLeg lv.v (plg vs)::G2 x::F)) (he:∀ x,pf x→er x=0∨er x=5) :
    CSpec Tryz.prog W 83 [ptr q 0,.int .i64 (i:Int),fv] [blk q 146 [.int .i64 3,.int .i64 (c:Int),.int .i64 (R:Int),lv.v,.int .u64 (sq.toNat:Int),.int .i64 (e.off:Int),.int .i64 (e.leg:Int),.int .u64 (e.w.toNat:Int),.int .u64 (e.p.toNat:Int),.bool pd,.int .i64 0],sl tyPLeg lv.v (plg vs),G] (fun x:X => .int .i64 (er x)) (pf) (fun x F=>Q2 x::sl tyPLeg lv.v (plg vs)::G2 x::F) := by
  refine CSpec.of_bodyM Tryz.func83 rfl Tryz.ntmps83 rfl (fun F => ?_)
  show CJ _ _ _ _ _ _ (_::_::_::F)
  have hpl := @zc8 vs
  refine zab ?_
  refine zag ?_
  refine RJ_op rfl (O_box rfl rfl rfl (fun b1 => ?_))
  refine RJ_op rfl (O_box rfl rfl rfl (fun b2 => ?_))
  refine RJ_op rfl (zbi Tryz.zeroValue34 rfl rfl (fun b3 => ?_))
  refine za0 ?_
  refine zar ?_
  refine zab ?_
  refine zag ?_
  refine RJ_op rfl (OJ_P (zbb rfl rfl) rfl ?_)
  refine zyy rfl rfl ?_
  refine za0 ?_
  refine zar ?_
  refine zab ?_
  refine za3 1536 (by kernel_rfl) rfl ?_
  refine zhl 0 1 rfl (by kernel_rfl) rfl (zal rfl) (zae rfl) rfl (fun _ _ _ _ h=>h) ?_
  refine zbj 1 3 rfl (by kernel_rfl) rfl (by kernel_rfl) (by kernel_rfl) (zal rfl) (Ent.take del0 (Ent.take del0 (Ent.take del0 (Ent.take del0 (Ent.take del0 (Ent.take del0 Ent.refl)))))) (zac rfl foc2 rfl Tryz.isAgg81) rfl (fun _ _ _ _ h=>h) ?_
  refine zhl 2 7 rfl (by kernel_rfl) rfl (zal rfl) (zad rfl) rfl (fun _ _ _ _ h=>h) ?_
  refine zhl 3 15 rfl (by kernel_rfl) rfl (zal rfl) (zaa rfl ⟨_,_,_,Tryz.runUnderlying146,rfl,rfl,Tryz.sizeOf142,rfl⟩) rfl (fun _ _ _ _ h=>h) ?_
  refine zbj 4 31 rfl (by kernel_rfl) rfl (by kernel_rfl) (by kernel_rfl) (zal rfl) (Ent.take del0 (Ent.take del0 (Ent.take del0 (Ent.take del0 (Ent.take del0 (Ent.take del0 Ent.refl)))))) (zac rfl foc3 rfl Tryz.isAgg142) rfl (fun _ _ _ _ h=>h) ?_
  refine zbj 5 63 rfl (by kernel_rfl) rfl (by kernel_rfl) (by kernel_rfl) (zal rfl) (Ent.take del0 (Ent.take del0 (Ent.take del0 (Ent.take del0 (Ent.take del0 (Ent.take del0 Ent.refl)))))) (zac rfl foc1 rfl Tryz.isAgg3) rfl (fun _ _ _ _ h=>h) ?_
  first | (refine zbj 6 127 rfl (by kernel_rfl) rfl (by kernel_rfl) (by kernel_rfl) (zal rfl) (Ent.take del0 (Ent.take del0 (Ent.take del0 (Ent.take del0 (Ent.take del0 (Ent.take del0 Ent.refl)))))) (zam rfl rfl rfl (by omega) foc4 (Reads.sl _ _ _) Tryz.runUnderlying142 Tryz.sizeOf148) rfl (fun _ _ _ _ h=>h) ?_) | (refine zbj 6 127 rfl (by kernel_rfl) rfl (by kernel_rfl) (by kernel_rfl) (zal rfl) (Ent.take del0 (Ent.take del0 (Ent.take del0 (Ent.take del0 (Ent.take del0 (Ent.take del0 Ent.refl)))))) (zam rfl rfl (Int.toNat_of_nonneg (by omega)).symm (by omega) foc4 (Reads.sl _ _ _) Tryz.runUnderlying142 Tryz.sizeOf148) rfl (fun _ _ _ _ h=>h) ?_)
  refine zhl 7 255 rfl (by kernel_rfl) rfl (zal rfl) (zbl rfl ⟨_,_,_,Tryz.runUnderlying148,rfl,rfl,Tryz.sizeOf38,rfl⟩) rfl (fun _ _ _ _ h=>h) ?_
  refine zbj 8 511 rfl (by kernel_rfl) rfl (by kernel_rfl) (by kernel_rfl) (zal rfl) (Ent.take del0 (Ent.take del0 (Ent.take del0 (Ent.take del0 (Ent.take del0 (Ent.take del0 Ent.refl)))))) (VJ_eq (v:=(vs.getD i tyDev.dflt).v) (za6 rfl rfl (by omega) foc4 (Reads.sl _ _ _) rfl rfl Tryz.isAgg38) (by rw [zh6])) rfl (fun _ _ _ _ h=>h) ?_
  refine AJ_op 9 1023 rfl (by kernel_rfl) rfl (zal rfl) (zgz rfl rfl hf (Dels.cons del3 (Dels.cons del3 (Dels.cons del3 Dels.nil))) rfl (fun x9 hx9 => ?_))
  refine ⟨fun h=>absurd h (by decide),?_⟩
  refine AJ_op 10 2047 rfl (by kernel_rfl) rfl (zal rfl) (za5 rfl rfl foc3 rfl rfl Tryz.sizeOf34 ?_)
  refine ⟨fun h=>absurd h (by decide),?_⟩
  refine zcf (by kernel_rfl) ?_
  refine zar ?_
  refine zaf ?_
  refine zyz (.inl rfl) Tryz.call118 (Ent.take del3 (Ent.take del0 (Ent.take del0 (Ent.take del0 (Ent.take del0 (Ent.take del0 Ent.refl)))))) (d_on1 (he x9 hx9)) (resA1 Tryz.results83 (zjv rfl foc0 rfl Tryz.isAgg34)) ?_
  refine CSpec.close x9 ?_ ?_ (Ent.take del1 (Ent.take del1 (Ent.take del1 (Ent.drop (Ent.drop (Ent.drop Ent.refl))))))
  · rfl
  · exact hx9
end Go.Proofs
namespace Go.VG
theorem FOk.conseq {P:Program} {W:World} {fv:Value} {args:List Value} {pre pre' G:List HP} {X:Type} {res:X→Value} {pf:X→Prop} {post post':X→List HP→List HP} (hm:FOk P W fv args pre res pf post) (h1:∀ F,Ent (pre' ++ F) (pre ++ (G ++ F))) (h2:∀ x F,Ent (post x (G ++ F)) (post' x F)):FOk P W fv args pre' res pf post' := by
  obtain ⟨f,first,cap,rfl,he,hc⟩ := hm
  exact ⟨f,first,cap,rfl,he,CSpec.conseq hc h1 h2⟩
theorem entS {A B C D:HP} {F:List HP} : Ent (A::B::star [C,D]::F) (C::A::B::D::F) := fun _ hp =>
  (Ent.take del2 (Ent.take del0 (Ent.take del0 (Ent.take del0 Ent.refl)))) _ (zas (fun _ h=>zas (fun _ h=>(stars_star (Hs:=[C,D])).1 h) h) hp)
theorem entS' {A B C D:HP} {F:List HP} : Ent (C::A::B::D::F) (A::B::star [C,D]::F) := fun _ hp =>
  zas (fun _ h=>zas (fun _ h=>(stars_star (Hs:=[C,D])).2 h) h) ((Ent.take del1 (Ent.take del1 (Ent.take del0 (Ent.take del0 Ent.refl)))) _ hp)
end Go.VG
namespace Go.Proofs.Ts
open Go.VG
structure Ev (C:PC) (wc:Nat) (t0 t:TS) (n:Nat):Prop where
  dn:t.dn=false
  sf:t.safe=t0.safe
  k:t.k=t0.k - n * wc
  w:t.w=t0.w + n
  nc:NC C t
structure Gn (wc:Nat) (t0 t:TS) (n:Nat):Prop where
  dn:t.dn=true
  sf:t.safe=t0.safe
  k:t0.k - n * wc≤t.k
  w:t0.w≤t.w
  us:t0.safe=false
section
variable {C:PC} {wc n m i a:Nat} {t0 t:TS} {v:UInt64} {ok:Bool}
theorem zew:Upd t (t.wrS wc i a v ok) i a v := by cases ok <;> exact ⟨fun _ _=>rfl,fun _ _=>rfl⟩
theorem zg8:Fls C t (t.fls i) i := ⟨fun _ _=>rfl,fun _ _ _ _=>rfl⟩
theorem Ev.wr (h:Ev C wc t0 t n):Ev C wc t0 (t.wrS wc i a v true) (n + 1) := by
  refine ⟨h.dn,h.sf,?_,?_,fun e b he hb => ?_⟩
  · show t.k - wc=_
    rw [h.k,Nat.add_mul]; omega
  · show t.w + 1=_
    rw [h.w]; omega
  · have hu := @zew wc i a t v true
    rw [hu.now,hu.cand]
    split
    · exact List.mem_append.2 (.inr (List.mem_singleton.2 rfl))
    · exact h.nc e b he hb
theorem Ev.fl (h:Ev C wc t0 t n):Ev C wc t0 (t.fls i) n := by
  refine ⟨h.dn,h.sf,h.k,h.w,fun e b he hb => ?_⟩
  rw [(zg8 (C:=C) (t:=t) (i:=i)).cand e b he hb]
  split
  · exact List.mem_singleton.2 rfl
  · exact h.nc e b he hb
theorem Ev.gn (h:Ev C wc t0 t n) (hs:t.safe=false) (hn:n + 1≤m):Gn wc t0 (t.wrS wc i a v false) m := by
  refine ⟨rfl,h.sf,?_,?_,by rw [← h.sf]; exact hs⟩
  · show _≤t.k - wc
    have := Nat.mul_le_mul_right wc hn
    rw [Nat.add_mul,Nat.one_mul] at this
    rw [h.k]; omega
  · show t0.w≤t.w
    rw [h.w]; omega
theorem Ev.use (h:Ev C wc t0 t n) {k:Nat} (hk:(n + k) * wc≤t0.k) (hk1:0 < k):t.dn=false∧wc≤t.k := by
  refine ⟨h.dn,?_⟩
  rw [h.k,Nat.add_mul] at *
  have:1 * wc≤k * wc := Nat.mul_le_mul_right _ hk1
  omega
end
section
variable {C:PC} {V V':Nat→Nat→UInt64} {qo q:UInt64} {e e':PE} {hp hn:UInt64→Prop} {x:Nat→Nat→Prop} {nwP:Prop} {wc i j:Nat} {t0 t:TS}
def J1 (C:PC) (V:Nat→Nat→UInt64) (qo:UInt64) (e:PE) (q:UInt64) (e':PE) (hp hn:UInt64→Prop) (x:Nat→Nat→Prop) (nwP:Prop) (wc:Nat) (t0:TS) (i j:Nat) (t:TS):Prop :=
  Ev C wc t0 t (3 * i + j) ∧ ∀ d,d < 3→Lg C V qo e q e' hp hn x nwP (if d < i then 3 else if d=i then j else 0) False t d
theorem J1.wr (hsl:qo≠0→slq qo≠slq q) (hj:j < 3) (h:J1 C V qo e q e' hp hn x nwP wc t0 i j t):J1 C V qo e q e' hp hn x nwP wc t0 i (j + 1) (t.wrS wc i (slq q + j) (bodyW e' j) true) := by
  refine ⟨h.1.wr,fun d hd => ?_⟩
  have h1 := h.2 d hd
  by_cases hdi:d=i
  · subst hdi
    rw [if_neg (by omega),if_pos rfl] at h1 ⊢
    exact h1.body hsl hj zew
  · have h2:(if d < i then 3 else if d=i then j + 1 else 0)=(if d < i then 3 else if d=i then j else 0) := by rw [if_neg hdi,if_neg hdi]
    rw [h2]
    exact h1.oth zew (fun z=>hdi z.symm)
def D1 (C:PC) (V:Nat→Nat→UInt64) (qo:UInt64) (e:PE) (q:UInt64) (e':PE) (hp hn:UInt64→Prop) (x:Nat→Nat→Prop) (nwP:Prop) (t:TS):Prop := ∀ d,d < 3→Lg C V qo e q e' hp hn x nwP 0 False t d
def D2 (C:PC) (V:Nat→Nat→UInt64) (qo:UInt64) (e:PE) (q:UInt64) (e':PE) (hp:UInt64→Prop) (x:Nat→Nat→Prop) (nwP:Prop) (t:TS):Prop := ∀ d,d < 3→Lg C V qo e q e' (fun c=>hp c∨c=q) (fun _=>True) (fun d o=>x d o ∧ ¬ nwP) nwP 0 True t d
def D3 (C:PC) (V':Nat→Nat→UInt64) (q:UInt64) (e':PE) (t:TS):Prop := ∀ d,d < 3→Fu C V' q e' t d
theorem J1.fail (hsl:qo≠0→slq qo≠slq q) (hi:i < 3) (hj:j < 3) (h:J1 C V qo e q e' hp hn x nwP wc t0 i j t) (hs:t.safe=false):Gn wc t0 (t.wrS wc i (slq q + j) (bodyW e' j) false) 14∧D1 C V qo e q e' hp hn x nwP (t.wrS wc i (slq q + j) (bodyW e' j) false) := by
  refine ⟨h.1.gn hs (by omega),fun d hd => ?_⟩
  have h1 := h.2 d hd
  by_cases hdi:d=i
  · subst hdi
    rw [if_neg (by omega),if_pos rfl] at h1
    exact (h1.body hsl hj zew).weaken (fun _ z=>z) (fun _ z=>z) (fun _ z=>z) id (Nat.zero_le _) id
  · exact (h1.oth zew (fun z=>hdi z.symm)).weaken (fun _ z=>z) (fun _ z=>z) (fun _ z=>z) id (Nat.zero_le _) id
theorem J1.next (h:J1 C V qo e q e' hp hn x nwP wc t0 i 3 t):J1 C V qo e q e' hp hn x nwP wc t0 (i + 1) 0 t := by
  refine ⟨h.1,fun d hd => ?_⟩
  have h1 := h.2 d hd
  have h2:(if d < i then 3 else if d=i then 3 else 0)=(if d < i + 1 then 3 else if d=i + 1 then 0 else 0) := by
    by_cases a1:d < i
    · rw [if_pos a1,if_pos (by omega)]
    · by_cases a2:d=i
      · rw [if_neg a1,if_pos a2,if_pos (by omega)]
      · rw [if_neg a1,if_neg a2,if_neg (by omega)]; split <;> rfl
  rw [h2] at h1
  exact h1
def J2 (C:PC) (V:Nat→Nat→UInt64) (qo:UInt64) (e:PE) (q:UInt64) (e':PE) (hp hn:UInt64→Prop) (x:Nat→Nat→Prop) (nwP:Prop) (wc:Nat) (t0:TS) (i:Nat) (t:TS):Prop :=
  Ev C wc t0 t 9∧(∀ d,d < i→d < 3→Lg C V qo e q e' hp hn (fun d o=>x d o ∧ ¬ nwP) nwP 3 True t d) ∧ ∀ d,i≤d→d < 3→Lg C V qo e q e' hp hn x nwP 3 False t d
theorem J2.of (h:J1 C V qo e q e' hp hn x nwP wc t0 3 0 t):J2 C V qo e q e' hp hn x nwP wc t0 0 t :=
  ⟨h.1,fun d hd=>absurd hd (by omega),fun d _ hd=>by have h1 := h.2 d hd; rw [if_pos hd] at h1; exact h1⟩
theorem J2.fl (hL:C.L=3) (hi:i < 3) (h:J2 C V qo e q e' hp hn x nwP wc t0 i t):J2 C V qo e q e' hp hn x nwP wc t0 (i + 1) (t.fls i) := by
  refine ⟨h.1.fl,fun d hdi hd => ?_,fun d hdi hd=>(h.2.2 d (by omega) hd).othF (zg8 (C:=C)) (by omega) (by omega)⟩
  by_cases z:d=i
  · subst z
    have h1 := Lg.flush h.1.nc (by omega) (h.2.2 d (Nat.le_refl _) hd) (zg8 (C:=C)) (.inl (Nat.le_refl _))
    exact h1.weaken (fun _ z=>z.2) (fun _ z=>z.1) (fun _ z=>z) id (Nat.le_refl _) id
  · exact (h.2.1 d (by omega) hd).othF (zg8 (C:=C)) (by omega) (fun y=>z y.symm)
def J3 (C:PC) (V:Nat→Nat→UInt64) (qo:UInt64) (e:PE) (q:UInt64) (e':PE) (hp hn:UInt64→Prop) (x:Nat→Nat→Prop) (nwP:Prop) (wc:Nat) (t0:TS) (i:Nat) (t:TS):Prop :=
  Ev C wc t0 t (9 + i)∧(∀ d,d < i→d < 3→Lg C V qo e q e' (fun c=>hp c∨c=q) (· = q) (fun d o=>x d o ∧ ¬ nwP) nwP 3 True t d) ∧ ∀ d,i≤d→d < 3→Lg C V qo e q e' hp hn (fun d o=>x d o ∧ ¬ nwP) nwP 3 True t d
theorem J3.of (h:J2 C V qo e q e' hp hn x nwP wc t0 3 t):J3 C V qo e q e' hp hn x nwP wc t0 0 t := ⟨h.1,fun d hd=>absurd hd (by omega),fun d _ hd=>h.2.1 d hd hd⟩
theorem J3.wr (hi:i < 3) (h:J3 C V qo e q e' hp hn x nwP wc t0 i t):J3 C V qo e q e' hp hn x nwP wc t0 (i + 1) (t.wrS wc i 0 q true) := by
  refine ⟨h.1.wr,fun d hdi hd => ?_,fun d hdi hd=>(h.2.2 d (by omega) hd).oth zew (by omega)⟩
  by_cases z:d=i
  · subst z; exact (h.2.2 d (Nat.le_refl _) hd).head zew
  · exact (h.2.1 d (by omega) hd).oth zew (fun y=>z y.symm)
theorem J3.fail (hi:i < 3) (h:J3 C V qo e q e' hp hn x nwP wc t0 i t) (hs:t.safe=false):Gn wc t0 (t.wrS wc i 0 q false) 14∧D2 C V qo e q e' hp x nwP (t.wrS wc i 0 q false) := by
  refine ⟨h.1.gn hs (by omega),fun d hd => ?_⟩
  by_cases z:d=i
  · subst z
    exact ((h.2.2 d (Nat.le_refl _) hd).head zew).weaken (fun _ z=>z) (fun _ _=>trivial) (fun _ z=>z) id (Nat.zero_le _) id
  · by_cases y:d < i
    · exact ((h.2.1 d y hd).oth zew (fun w=>z w.symm)).weaken (fun _ z=>z) (fun _ _=>trivial) (fun _ z=>z) id (Nat.zero_le _) id
    · exact ((h.2.2 d (by omega) hd).oth zew (fun w=>z w.symm)).weaken (fun _ z => .inl z) (fun _ _=>trivial) (fun _ z=>z) id (Nat.zero_le _) id
def J4 (C:PC) (V:Nat→Nat→UInt64) (qo:UInt64) (e:PE) (q:UInt64) (e':PE) (hp:UInt64→Prop) (x:Nat→Nat→Prop) (nwP:Prop) (wc:Nat) (t0:TS) (i:Nat) (t:TS):Prop :=
  Ev C wc t0 t 12∧(∀ d,d < i→d < 3→Lg C V qo e q e' (· = q) (· = q) (fun d o=>x d o ∧ ¬ nwP) nwP 3 True t d) ∧ ∀ d,i≤d→d < 3→Lg C V qo e q e' (fun c=>hp c∨c=q) (· = q) (fun d o=>x d o ∧ ¬ nwP) nwP 3 True t d
theorem J4.of (h:J3 C V qo e q e' hp hn x nwP wc t0 3 t):J4 C V qo e q e' hp x nwP wc t0 0 t := ⟨h.1,fun d hd=>absurd hd (by omega),fun d _ hd=>h.2.1 d hd hd⟩
theorem J4.fl (hL:C.L=3) (hi:i < 3) (h:J4 C V qo e q e' hp x nwP wc t0 i t):J4 C V qo e q e' hp x nwP wc t0 (i + 1) (t.fls i) := by
  refine ⟨h.1.fl,fun d hdi hd => ?_,fun d hdi hd=>(h.2.2 d (by omega) hd).othF (zg8 (C:=C)) (by omega) (by omega)⟩
  by_cases z:d=i
  · subst z
    have h1 := Lg.flush h.1.nc (by omega) (h.2.2 d (Nat.le_refl _) hd) (zg8 (C:=C)) (.inl (Nat.le_refl _))
    exact h1.weaken (fun _ z=>z.1) (fun _ z=>z.1) (fun _ z=>z.1) id (Nat.le_refl _) id
  · exact (h.2.1 d (by omega) hd).othF (zg8 (C:=C)) (by omega) (fun y=>z y.symm)
def FU (C:PC) (V':Nat→Nat→UInt64) (q:UInt64) (e':PE) (t:TS) (d:Nat):Prop := Lg C V' 0 e' q e' (· = q) (· = q) (exE C e') False 0 True t d
def J5 (C:PC) (V':Nat→Nat→UInt64) (q:UInt64) (e':PE) (wc:Nat) (t0:TS) (i:Nat) (t:TS):Prop :=
  Ev C wc t0 t (12 + i)∧(∀ d,d < 3→FU C V' q e' t d)∧(1≤i→now t e'.leg (16 + e'.off)=e'.w)∧(2≤i→now t (C.par e'.off) (16 + e'.off)=e'.p)
theorem J5.of (hx:∀ d o, ¬ exE C e' d o → ¬ (x d o ∧ ¬ nwP)) (hV:∀ d o, ¬ exE C e' d o→V' d o=V d o) (h:J4 C V qo e q e' hp x nwP wc t0 3 t):J5 C V' q e' wc t0 0 t :=
  ⟨h.1,fun d hd=>((h.2.1 d hd hd).reV (hx d) (hV d)).weaken (fun _ z=>z) (fun _ z=>z) (fun _ z=>z) id (Nat.zero_le _) id,fun z=>absurd z (by omega),fun z=>absurd z (by omega)⟩
theorem FU.wr {v:UInt64} (hi:i=e'.leg∨i=C.par e'.off) {d:Nat} (h:FU C V' q e' t d) {ok:Bool} : FU C V' q e' (t.wrS wc i (16 + e'.off) v ok) d := by
  by_cases z:d=i
  · subst z; exact h.word (by decide) ⟨rfl,hi⟩ zew
  · exact h.oth zew (fun y=>z y.symm)
theorem J5.wr1 (h:J5 C V' q e' wc t0 0 t):J5 C V' q e' wc t0 1 (t.wrS wc e'.leg (16 + e'.off) e'.w true) :=
  ⟨h.1.wr,fun d hd=>(h.2.1 d hd).wr (.inl rfl),fun _=>if_pos ⟨rfl,rfl⟩,fun z=>absurd z (by omega)⟩
theorem J5.wr2 (hne:e'.leg≠C.par e'.off) (h:J5 C V' q e' wc t0 1 t):J5 C V' q e' wc t0 2 (t.wrS wc (C.par e'.off) (16 + e'.off) e'.p true) :=
  ⟨h.1.wr,fun d hd=>(h.2.1 d hd).wr (.inr rfl),fun _=>(if_neg fun z=>hne z.1.symm:_=now t e'.leg (16 + e'.off)).trans (h.2.2.1 (Nat.le_refl _)),fun _=>if_pos ⟨rfl,rfl⟩⟩
theorem J5.fail {v:UInt64} (hi:i=e'.leg∨i=C.par e'.off) (hj:j≤1) (h:J5 C V' q e' wc t0 j t) (hs:t.safe=false):Gn wc t0 (t.wrS wc i (16 + e'.off) v false) 14∧D3 C V' q e' (t.wrS wc i (16 + e'.off) v false) :=
  ⟨h.1.gn hs (by omega),fun d hd=>((h.2.1 d hd).wr hi).weaken (fun _ z=>z) (fun _ _=>trivial) (fun _ z=>z) id (Nat.zero_le _) id⟩
theorem J5.done (hL:C.L=3) (hq:q≠0) (hev:EV C V' e') (h:J5 C V' q e' wc t0 2 t):Ev C wc t0 t 14∧Qs C none V' q e' t := by
  refine ⟨h.1,fun d hd _=>Fu.done h.1.nc hd hq (h.2.1 d (by omega)) fun o ho => ?_⟩
  obtain ⟨rfl,h2⟩ := ho
  rcases h2 with rfl | rfl
  · rw [h.2.2.1 (by decide)]; exact hev.w.symm
  · rw [h.2.2.2 (by decide)]; exact hev.p.symm
end
end Go.Proofs.Ts
set_option linter.unusedSimpArgs false
set_option maxRecDepth 20000
namespace Go.Proofs
open Go.VG Ts
theorem c_onB {W:World} {B:TS→HP} {vs:List IfH} {fv:Value} {i:Nat} {pf:Bool × TS→Prop} {G:HP} {t:TS} {q c R:Nat} {lv:Sl3} {sq:UInt64} {e:PE} {pd:Bool} (hi:i < vs.length)
    (hf:FOk Tryz.prog W fv [(vs.getD i tyDev.dflt).v] [B t,blk q 146 [.int .i64 3,.int .i64 (c:Int),.int .i64 (R:Int),lv.v,.int .u64 (sq.toNat:Int),.int .i64 (e.off:Int),.int .i64 (e.leg:Int),.int .u64 (e.w.toNat:Int),.int .u64 (e.p.toNat:Int),.bool pd,.int .i64 0],sl tyPLeg lv.v (plg vs),G] (fun x:Bool × TS => .int .i64 (if x.1 then 0 else 5)) pf (fun x F=>B x.2::blk q 146 [.int .i64 3,.int .i64 (c:Int),.int .i64 (R:Int),lv.v,.int .u64 (sq.toNat:Int),.int .i64 (e.off:Int),.int .i64 (e.leg:Int),.int .u64 (e.w.toNat:Int),.int .u64 (e.p.toNat:Int),.bool pd,.int .i64 0]::sl tyPLeg lv.v (plg vs)::G::F)) :
    CSpec Tryz.prog W 83 [ptr q 0,.int .i64 (i:Int),fv] [B t,blk q 146 [.int .i64 3,.int .i64 (c:Int),.int .i64 (R:Int),lv.v,.int .u64 (sq.toNat:Int),.int .i64 (e.off:Int),.int .i64 (e.leg:Int),.int .u64 (e.w.toNat:Int),.int .u64 (e.p.toNat:Int),.bool pd,.int .i64 0],sl tyPLeg lv.v (plg vs),G] (fun x:Bool × TS => .int .i64 (if x.1 then 0 else 5)) pf (fun x F=>B x.2::blk q 146 [.int .i64 3,.int .i64 (c:Int),.int .i64 (R:Int),lv.v,.int .u64 (sq.toNat:Int),.int .i64 (e.off:Int),.int .i64 (e.leg:Int),.int .u64 (e.w.toNat:Int),.int .u64 (e.p.toNat:Int),.bool pd,.int .i64 0]::sl tyPLeg lv.v (plg vs)::G::F) :=
  CSpec.conseq (pre:=[blk q 146 [.int .i64 3,.int .i64 (c:Int),.int .i64 (R:Int),lv.v,.int .u64 (sq.toNat:Int),.int .i64 (e.off:Int),.int .i64 (e.leg:Int),.int .u64 (e.w.toNat:Int),.int .u64 (e.p.toNat:Int),.bool pd,.int .i64 0],sl tyPLeg lv.v (plg vs),star [B t,G]]) (G:=[]) (c_vOn (Q2:=fun _:Bool × TS=>blk q 146 [.int .i64 3,.int .i64 (c:Int),.int .i64 (R:Int),lv.v,.int .u64 (sq.toNat:Int),.int .i64 (e.off:Int),.int .i64 (e.leg:Int),.int .u64 (e.w.toNat:Int),.int .u64 (e.p.toNat:Int),.bool pd,.int .i64 0]) (G:=star [B t,G]) (G2:=fun x=>star [B x.2,G]) (er:=fun x=>if x.1 then 0 else 5) hi (FOk.conseq (pre:=[B t,blk q 146 [.int .i64 3,.int .i64 (c:Int),.int .i64 (R:Int),lv.v,.int .u64 (sq.toNat:Int),.int .i64 (e.off:Int),.int .i64 (e.leg:Int),.int .u64 (e.w.toNat:Int),.int .u64 (e.p.toNat:Int),.bool pd,.int .i64 0],sl tyPLeg lv.v (plg vs),G]) (G:=[]) hf (fun _=>entS) (fun _ _=>entS')) (fun x _=>by cases x.1 <;> simp)) (fun _=>entS') (fun _ _=>entS)
theorem zsp {W:World} {B:TS→HP} {vs:List IfH} {fd:Value} {Inv:Nat→TS→Prop} {Dn:TS→Prop} {G:HP} {t:TS} {q c R:Nat} {lv:Sl3} {sq:UInt64} {e:PE} {pd:Bool}
    (hdo:∀ {W:World} (i:Nat) (t:TS),i < vs.length→Inv i t→FOk Tryz.prog W fd [(vs.getD i tyDev.dflt).v] [B t,blk q 146 [.int .i64 3,.int .i64 (c:Int),.int .i64 (R:Int),lv.v,.int .u64 (sq.toNat:Int),.int .i64 (e.off:Int),.int .i64 (e.leg:Int),.int .u64 (e.w.toNat:Int),.int .u64 (e.p.toNat:Int),.bool pd,.int .i64 0],sl tyPLeg lv.v (plg vs),G] (fun x:Bool × TS => .int .i64 (if x.1 then 0 else 5)) (fun x=>(x.1=true→Inv (i + 1) x.2)∧(x.1=false→Dn x.2)) (fun x F=>B x.2::blk q 146 [.int .i64 3,.int .i64 (c:Int),.int .i64 (R:Int),lv.v,.int .u64 (sq.toNat:Int),.int .i64 (e.off:Int),.int .i64 (e.leg:Int),.int .u64 (e.w.toNat:Int),.int .u64 (e.p.toNat:Int),.bool pd,.int .i64 0]::sl tyPLeg lv.v (plg vs)::G::F)) (h0:Inv 0 t) (h3:vs.length=3) :
    CSpec Tryz.prog W 185 [ptr q 0,fd] [B t,blk q 146 [.int .i64 3,.int .i64 (c:Int),.int .i64 (R:Int),lv.v,.int .u64 (sq.toNat:Int),.int .i64 (e.off:Int),.int .i64 (e.leg:Int),.int .u64 (e.w.toNat:Int),.int .u64 (e.p.toNat:Int),.bool pd,.int .i64 0],sl tyPLeg lv.v (plg vs),G] (fun x:Bool × TS => .int .i64 (if x.1 then 0 else 5)) (fun x=>(x.1=true→Inv 3 x.2)∧(x.1=false→Dn x.2)) (fun x F=>B x.2::blk q 146 [.int .i64 3,.int .i64 (c:Int),.int .i64 (R:Int),lv.v,.int .u64 (sq.toNat:Int),.int .i64 (e.off:Int),.int .i64 (e.leg:Int),.int .u64 (e.w.toNat:Int),.int .u64 (e.p.toNat:Int),.bool pd,.int .i64 0]::sl tyPLeg lv.v (plg vs)::G::F) := by
 refine CSpec.of_body Tryz.func185 rfl Tryz.ntmps185 rfl fun F => ?_
 show CJ _ _ _ _ _ _ (_::_::_::_::F)
 have hpl := @zc8 vs
 refine sR<|oA rfl<|nT<|zab<|sR<|oM rfl<|oP (zad rfl)<|oP (zaa rfl ⟨_,_,_,Tryz.runUnderlying146,rfl,rfl,Tryz.sizeOf142,rfl⟩)<|oV (zac rfl foc1 rfl Tryz.isAgg142)<|oV (V_len rfl foc2 (Reads.sl _ _ _) Tryz.runUnderlying142)<|oM rfl<|nT<|zao<|za8 (X:=Nat × TS) [4,5,6,12,13,14,15,16,17,18,19,20,21,22,23,24,25,26,27,28,29,30,31] (fun ⟨i,t1⟩  => ([(12,.int .i64 (i:Nat))]:Slots)) (fun ⟨i,t1⟩ R=>B t1::R) (fun ⟨i,t1⟩  => i≤vs.length∧Inv i t1) (fun ⟨i,t1⟩  => vs.length - i) ⟨0,t⟩ ?_ ?_ r_ ?_
 · exact ⟨Nat.zero_le _,h0⟩
 · exact ⟨rfl,True.intro⟩
 ·
  rintro ⟨i,t1⟩ ⟨hil,hI⟩
  show CJ _ _ _ _ _ (([(12,.int .i64 (i:Nat))]:Slots) ++ forget _ _) (B t1::_)
  refine sR<|oP (P_lss rfl rfl)<|nT<|zab ?_
  first | (refine zav rfl (fun hg1 => ?_) (fun hg1 => ?_)) | (refine zaw rfl (fun hg1 => ?_) (fun hg1 => ?_)) | (refine za1 rfl (fun hg1 => ?_) (fun hg1 => ?_))
  ·
   refine kT<|zab<|zao<|sR ?_
   have hi:i < vs.length := by omega
   refine oM rfl<|oA rfl<|nT<|sR<|oM rfl<|oP (zad rfl)<|oP (zaa rfl ⟨_,_,_,Tryz.runUnderlying146,rfl,rfl,Tryz.sizeOf142,rfl⟩)<|oV (zac rfl foc1 rfl Tryz.isAgg142)<|oM rfl ?_
   first | (refine RJ_op rfl (OJ_V (zam rfl rfl rfl (by omega) foc2 (Reads.sl _ _ _) Tryz.runUnderlying142 Tryz.sizeOf148) rfl ?_)) | (refine RJ_op rfl (OJ_V (zam rfl rfl (Int.toNat_of_nonneg (by omega)).symm (by omega) foc2 (Reads.sl _ _ _) Tryz.runUnderlying142 Tryz.sizeOf148) rfl ?_))
   refine oP (zbl rfl ⟨_,_,_,Tryz.runUnderlying148,rfl,rfl,Tryz.sizeOf4,rfl⟩)<|oV (VJ_eq (v := .bool false) (za6 rfl rfl (by omega) foc2 (Reads.sl _ _ _) rfl rfl Tryz.isAgg4) (by rw [zh6]))<|oP (P_not rfl)<|nT<|za7 rfl rfl<|sR<|oM rfl<|oM rfl<|oM rfl<|oO<|zai ((c_onB hi (hdo i t1 hi hI))) rfl Tryz.call83 (Dels.cons del0 (Dels.cons del0 (Dels.cons del0 (dC_ del0)))) rfl fun o9 ho9=>oA rfl<|nT<|sR<|oM rfl<|oP (P_neq rfl rfl)<|nT ?_
   first | (refine zav rfl (fun hg2 => ?_) (fun hg2 => ?_)) | (refine zaw rfl (fun hg2 => ?_) (fun hg2 => ?_)) | (refine za1 rfl (fun hg2 => ?_) (fun hg2 => ?_))
   ·
    have ho:o9.1=false := by cases hq:o9.1 with
      | false=>rfl
      | true=>simp [hq] at hg2
    refine sR<|oM rfl<|oA rfl<|nT<|zaf<|zax<|zak<|zbm<|zax<|zak<|zan (res1 Tryz.results185 rfl)<|CSpec.close o9 ?_ ?_ r_
    · rfl
    · exact ⟨fun h=>(by rw [ho] at h; cases h),ho9.2⟩
   ·
    have ho:o9.1=true := by cases hq:o9.1 with
      | true=>rfl
      | false=>simp [hq] at hg2
    refine zbh<|zah<|zar<|zag<|oP (P_add rfl rfl (by omega))<|oM rfl<|za0<|zba ⟨i + 1,o9.2⟩ (by first | omega | (simp only []; omega)) ?_ kP_ ?_ r_
    · exact ⟨by omega,ho9.1 ho⟩
    · exact ⟨rfl,True.intro⟩
  ·
   refine zbc<|zay<|zau<|zat<|zar<|sR<|oA rfl<|nT<|zaf ?_
   obtain rfl:i=3 := by omega
   refine zan (res1 Tryz.results185 rfl)<|CSpec.close (true,t1) ?_ ?_ r_
   · rfl
   · exact ⟨fun _=>hI,fun h=>(by cases h)⟩
theorem z1i {W:World} {B:TS→HP} {vs:List IfH} {dep rc wc:Nat} {sz:Nat→Nat} (hB:BaseOk Tryz.prog B vs.length dep rc wc sz (fun i=>vs.getD i tyDev.dflt)) {t:TS} {q c R:Nat} {lv:Sl3} {sq:UInt64} {e:PE} {pd:Bool} {i:Nat} (hd:t.dn=false) (hi:i < vs.length) {x y:Nat} {lw:Sl3} {I:Nat→TS→Prop} {Dn:TS→Prop} (hb:16≤sz i) (hI:∀ j t,j < 3→I j t→t.dn=false∧wc≤t.k) (hst:∀ j t,j < 3→I j t→I (j + 1) (t.wrS wc i (slq sq + j) (bodyW e j) true)) (hfl:∀ j t,j < 3→I j t→t.safe=false→Dn (t.wrS wc i (slq sq + j) (bodyW e j) false)) (h0:I 0 t) :
    CSpec Tryz.prog W 186 [(vs.getD i tyDev.dflt).v,ptr x 0,ptr y 0] [B t,blk q 146 [.int .i64 3,.int .i64 (c:Int),.int .i64 (R:Int),lv.v,.int .u64 (sq.toNat:Int),.int .i64 (e.off:Int),.int .i64 (e.leg:Int),.int .u64 (e.w.toNat:Int),.int .u64 (e.p.toNat:Int),.bool pd,.int .i64 0],sl tyPLeg lv.v (plg vs),blk x 81 [ptr q 0],blk y 44 [lw.v],sl tyU lw.v [hdW e.off e.leg,e.w,e.p]] (fun x:Bool × TS => .int .i64 (if x.1 then 0 else 5)) (fun x=>(x.1=true→I 3 x.2)∧(x.1=false→Dn x.2)) (fun r F=>B r.2::blk q 146 [.int .i64 3,.int .i64 (c:Int),.int .i64 (R:Int),lv.v,.int .u64 (sq.toNat:Int),.int .i64 (e.off:Int),.int .i64 (e.leg:Int),.int .u64 (e.w.toNat:Int),.int .u64 (e.p.toNat:Int),.bool pd,.int .i64 0]::sl tyPLeg lv.v (plg vs)::blk x 81 [ptr q 0]::blk y 44 [lw.v]::sl tyU lw.v [hdW e.off e.leg,e.w,e.p]::F) := by
 refine CSpec.of_body Tryz.func186 rfl Tryz.ntmps186 rfl fun F => ?_
 show CJ _ _ _ _ _ _ (_::_::_::_::_::_::F)
 have hpl := @zc8 vs
 have hbw:∀ j,j < 3→[hdW e.off e.leg,e.w,e.p].getD j 0=bodyW e j := fun j hj=>by
   have h9:j=0∨j=1∨j=2 := by omega
   rcases h9 with rfl | rfl | rfl <;> rfl
 have hsl9 := @sl_le sq
 refine sR<|oA rfl<|nT<|zab<|za3 256 kR_ rfl<|aN 0 1 rfl rfl (zae rfl)<|aW 1 3 rfl rfl r_ (zac rfl foc3 rfl Tryz.isAgg81)<|aN 2 7 rfl rfl (zad rfl)<|aN 3 15 rfl rfl (zaa rfl ⟨_,_,_,Tryz.runUnderlying146,rfl,rfl,Tryz.sizeOf144,rfl⟩)<|aN 4 31 rfl rfl (zaa rfl ⟨_,_,_,Tryz.runUnderlying144,rfl,rfl,Tryz.sizeOf47,rfl⟩)<|aW 5 63 rfl rfl r_ (zac rfl foc1 rfl Tryz.isAgg47)<|aW 7 191 rfl rfl r_ (zac rfl foc4 rfl Tryz.isAgg44)<|AJ_op 6 255 rfl kR_ rfl (zal rfl)<|zai (zwt) rfl Tryz.call85 Dels.nil rfl fun _ hc1=>⟨fun _=>r_,?_⟩
 refine AJ_op 8 511 rfl kR_ rfl (zal rfl)<|zai ((zo2 hB (l:=[hdW e.off e.leg,e.w,e.p]) (I:=I) (Dn:=Dn) (at_:=slq sq) (Reads.sl _ _ _) hd hi (show slq sq + 3≤sz i by omega) hI (fun j t hj h=>by rw [hbw j hj]; exact hst j t hj h) (fun j t hj h hs=>by rw [hbw j hj]; exact hfl j t hj h hs) h0)) rfl Tryz.call54 (Dels.cons del0 (dC_ del4)) rfl fun o9 ho9=>⟨fun h=>absurd h (by decide),?_⟩
 refine aN 9 1023 rfl rfl (za9 rfl)<|aD<|zaf<|zan (res1 Tryz.results186 rfl)<|CSpec.close o9 ?_ ?_ (t0_ (t1_ (t1_ (t1_ (t1_ r_)))))
 · rfl
 · exact ho9
theorem c_vFl1 {W:World} {B:TS→HP} {vs:List IfH} {dep rc wc:Nat} {sz:Nat→Nat} (hB:BaseOk Tryz.prog B vs.length dep rc wc sz (fun i=>vs.getD i tyDev.dflt)) {t:TS} {i:Nat} (hd:t.dn=false) (hi:i < vs.length) :
    CSpec Tryz.prog W 187 [(vs.getD i tyDev.dflt).v] [B t] (fun _:Unit => .int .i64 0) (fun _=>True) (fun _ F=>B (t.fls i)::F) := by
 refine CSpec.of_body Tryz.func187 rfl Tryz.ntmps187 rfl fun F => ?_
 show CJ _ _ _ _ _ _ (_::F)
 refine sR<|oA rfl<|nT<|sR<|oM rfl<|oO<|zbz rfl (IOk.call (hB.fl (i:=i) hi hd) (Nat.le_trans hB.depb (by decide))) rfl (dC_ del0) rfl fun o1 ho2=>oA rfl<|nT<|zaf<|zan (res1 Tryz.results187 rfl)<|CSpec.close () ?_ ?_ r_
 · rfl
 · trivial
theorem c_vFl2 {W:World} {B:TS→HP} {vs:List IfH} {dep rc wc:Nat} {sz:Nat→Nat} (hB:BaseOk Tryz.prog B vs.length dep rc wc sz (fun i=>vs.getD i tyDev.dflt)) {t:TS} {i:Nat} (hd:t.dn=false) (hi:i < vs.length) :
    CSpec Tryz.prog W 274 [(vs.getD i tyDev.dflt).v] [B t] (fun _:Unit => .int .i64 0) (fun _=>True) (fun _ F=>B (t.fls i)::F) := by
 refine CSpec.of_body Tryz.func274 rfl Tryz.ntmps274 rfl fun F => ?_
 show CJ _ _ _ _ _ _ (_::F)
 refine sR<|oA rfl<|nT<|sR<|oM rfl<|oO<|zbz rfl (IOk.call (hB.fl (i:=i) hi hd) (Nat.le_trans hB.depb (by decide))) rfl (dC_ del0) rfl fun o1 ho2=>oA rfl<|nT<|zaf<|zan (res1 Tryz.results274 rfl)<|CSpec.close () ?_ ?_ r_
 · rfl
 · trivial
theorem c_vHd1 {W:World} {B:TS→HP} {vs:List IfH} {dep rc wc:Nat} {sz:Nat→Nat} (hB:BaseOk Tryz.prog B vs.length dep rc wc sz (fun i=>vs.getD i tyDev.dflt)) {t:TS} {q c R:Nat} {lv:Sl3} {sq:UInt64} {e:PE} {pd:Bool} {i:Nat} (hd:t.dn=false) (hi:i < vs.length) {x:Nat} (hb:16≤sz i) (hk:wc≤t.k) :
    CSpec Tryz.prog W 188 [(vs.getD i tyDev.dflt).v,ptr x 0] [B t,blk q 146 [.int .i64 3,.int .i64 (c:Int),.int .i64 (R:Int),lv.v,.int .u64 (sq.toNat:Int),.int .i64 (e.off:Int),.int .i64 (e.leg:Int),.int .u64 (e.w.toNat:Int),.int .u64 (e.p.toNat:Int),.bool pd,.int .i64 0],sl tyPLeg lv.v (plg vs),blk x 81 [ptr q 0]] (fun ok:Bool => .int .i64 (if ok then 0 else 5)) (fun ok=>ok=false→t.safe=false) (fun ok F=>B (t.wrS wc i 0 sq ok)::blk q 146 [.int .i64 3,.int .i64 (c:Int),.int .i64 (R:Int),lv.v,.int .u64 (sq.toNat:Int),.int .i64 (e.off:Int),.int .i64 (e.leg:Int),.int .u64 (e.w.toNat:Int),.int .u64 (e.p.toNat:Int),.bool pd,.int .i64 0]::sl tyPLeg lv.v (plg vs)::blk x 81 [ptr q 0]::F) := by
 refine CSpec.of_body Tryz.func188 rfl Tryz.ntmps188 rfl fun F => ?_
 show CJ _ _ _ _ _ _ (_::_::_::_::F)
 have hpl := @zc8 vs
 refine sR<|oA rfl<|nT<|zab<|za3 512 kR_ rfl<|aN 0 1 rfl rfl (zae rfl)<|aW 1 3 rfl rfl r_ (zac rfl foc3 rfl Tryz.isAgg81)<|aN 2 7 rfl rfl (zad rfl)<|aN 3 15 rfl rfl (zaa rfl ⟨_,_,_,Tryz.runUnderlying146,rfl,rfl,Tryz.sizeOf144,rfl⟩)<|aN 4 31 rfl rfl (zaa rfl ⟨_,_,_,Tryz.runUnderlying144,rfl,rfl,Tryz.sizeOf47,rfl⟩)<|aW 5 63 rfl rfl r_ (zac rfl foc1 rfl Tryz.isAgg47)<|aN 6 127 rfl rfl (zbb rfl rfl)<|aN 7 255 rfl rfl (zjo (hB.na i hi) rfl)<|aN 8 511 rfl rfl (zae rfl)<|AJ_op 9 1023 rfl kR_ rfl (zal rfl)<|zbz rfl (IOk.call (hB.wr (i:=i) (a:=0) (v:=sq) hi (by omega) hd hk) (Nat.le_trans hB.depb (by decide))) rfl (dC_ del0) rfl fun o1 ho2=>⟨fun h=>absurd h (by decide),?_⟩
 refine aN 10 2047 rfl rfl (za9 rfl)<|aD<|zaf<|zan (res1 Tryz.results188 rfl)<|CSpec.close o1 ?_ ?_ r_
 · rfl
 · exact ho2
theorem c_vSt1 {W:World} {B:TS→HP} {vs:List IfH} {dep rc wc:Nat} {sz:Nat→Nat} (hB:BaseOk Tryz.prog B vs.length dep rc wc sz (fun i=>vs.getD i tyDev.dflt)) {t:TS} {q c R:Nat} {lv:Sl3} {sq:UInt64} {e:PE} {pd:Bool} {i:Nat} (hd:t.dn=false) (hi:i < vs.length) {x y:Nat} {v:UInt64} (ho:e.off≤100) (hb:16 + e.off < sz i) (hk:wc≤t.k) :
    CSpec Tryz.prog W 213 [(vs.getD i tyDev.dflt).v,ptr x 0,ptr y 0] [B t,blk q 146 [.int .i64 3,.int .i64 (c:Int),.int .i64 (R:Int),lv.v,.int .u64 (sq.toNat:Int),.int .i64 (e.off:Int),.int .i64 (e.leg:Int),.int .u64 (e.w.toNat:Int),.int .u64 (e.p.toNat:Int),.bool pd,.int .i64 0],sl tyPLeg lv.v (plg vs),blk x 81 [ptr q 0],blk y 47 [.int .u64 (v.toNat:Int)]] (fun ok:Bool => .int .i64 (if ok then 0 else 5)) (fun ok=>ok=false→t.safe=false) (fun ok F=>B (t.wrS wc i (16 + e.off) v ok)::blk q 146 [.int .i64 3,.int .i64 (c:Int),.int .i64 (R:Int),lv.v,.int .u64 (sq.toNat:Int),.int .i64 (e.off:Int),.int .i64 (e.leg:Int),.int .u64 (e.w.toNat:Int),.int .u64 (e.p.toNat:Int),.bool pd,.int .i64 0]::sl tyPLeg lv.v (plg vs)::blk x 81 [ptr q 0]::blk y 47 [.int .u64 (v.toNat:Int)]::F) := by
 refine CSpec.of_body Tryz.func213 rfl Tryz.ntmps213 rfl fun F => ?_
 show CJ _ _ _ _ _ _ (_::_::_::_::_::F)
 have hpl := @zc8 vs
 refine sR<|oA rfl<|nT<|zab<|za3 2048 kR_ rfl<|aN 0 1 rfl rfl (zae rfl)<|aW 1 3 rfl rfl r_ (zac rfl foc3 rfl Tryz.isAgg81)<|aN 2 7 rfl rfl (zad rfl)<|aN 3 15 rfl rfl (zaa rfl ⟨_,_,_,Tryz.runUnderlying146,rfl,rfl,Tryz.sizeOf144,rfl⟩)<|aN 4 31 rfl rfl (zaa rfl ⟨_,_,_,Tryz.runUnderlying144,rfl,rfl,Tryz.sizeOf3,rfl⟩)<|aW 5 63 rfl rfl r_ (zac rfl foc1 rfl Tryz.isAgg3)<|aN 6 127 rfl rfl (P_add rfl rfl (by omega))<|aW 7 255 rfl rfl r_ (zac rfl foc4 rfl Tryz.isAgg47)<|aN 8 511 rfl rfl (zbb rfl rfl)<|aN 9 1023 rfl rfl (zjo (hB.na i hi) rfl)<|aN 10 2047 rfl rfl (zae rfl)<|AJ_op 11 4095 rfl kR_ rfl (zal rfl)<|zbz rfl (IOk.call (hB.wr (i:=i) (a:=(16 + e.off)) (v:=v) hi hb hd hk) (Nat.le_trans hB.depb (by decide))) rfl (dC_ del0) rfl fun o1 ho2=>⟨fun h=>absurd h (by decide),?_⟩
 refine aN 12 8191 rfl rfl (za9 rfl)<|aD<|zaf<|zan (res1 Tryz.results213 rfl)<|CSpec.close o1 ?_ ?_ r_
 · rfl
 · exact ho2
end Go.Proofs
set_option linter.unusedSimpArgs false
set_option maxRecDepth 20000
namespace Go.Proofs
open Go.VG Ts
theorem zhd (v0:Int) (v1:Int) (v2:Int):zbg Tryz.prog 44 3 [(0,.int .u64 v0),(1,.int .u64 v1),(2,.int .u64 v2)] 47 [.int .u64 v0,.int .u64 v1,.int .u64 v2] := fun w=>by kernel_rfl
theorem ziv (v0:Fn) (v1:(Array Value)) (v2:(Array Value)) (v3:Fn) (v4:(Array Value)) (v5:(Array Value)) (v6:Fn) (v7:(Array Value)) (v8:(Array Value)) (v9:Fn) (v10:(Array Value)) (v11:(Array Value)) (v12:Fn) (v13:(Array Value)) (v14:(Array Value)):zbg Tryz.prog 234 5 [(0,.func v0 v1 v2),(1,.func v3 v4 v5),(2,.func v6 v7 v8),(3,.func v9 v10 v11),(4,.func v12 v13 v14)] 93 [.func v0 v1 v2,.func v3 v4 v5,.func v6 v7 v8,.func v9 v10 v11,.func v12 v13 v14] := fun w=>by kernel_rfl
structure FV where
  f:Nat
  q:Nat
abbrev tyFV:Ty FV := { T := 93,sz := 1,enc := fun x=>[.func (.func x.f) #[ptr x.q 0] #[]],dflt := ⟨0,0⟩,len := fun _=>rfl,one := fun _=>rfl,pos := by decide }
section
variable {B:TS→HP} {vs:List IfH} {dep rc wc:Nat} {sz:Nat→Nat} {t:TS} {q c R:Nat} {lv:Sl3} {sq:UInt64} {e:PE} {pd:Bool}
theorem e_bod {W:World} (hB:BaseOk Tryz.prog B vs.length dep rc wc sz (fun i=>vs.getD i tyDev.dflt)) {x y:Nat} {lw:Sl3} {I:Nat→Nat→TS→Prop} {Dn:TS→Prop} (h3:vs.length=3) (hb:∀ i,i < 3→16≤sz i) (hI:∀ i j t,i < 3→j < 3→I i j t→t.dn=false∧wc≤t.k) (hst:∀ i j t,i < 3→j < 3→I i j t→I i (j + 1) (t.wrS wc i (slq sq + j) (bodyW e j) true))
    (hfl:∀ i j t,i < 3→j < 3→I i j t→t.safe=false→Dn (t.wrS wc i (slq sq + j) (bodyW e j) false)) (hnx:∀ i t,i < 3→I i 3 t→I (i + 1) 0 t) (h0:I 0 0 t) :
    CSpec Tryz.prog W 185 [ptr q 0,.func (.func 186) #[] #[ptr x 0,ptr y 0]] [B t,blk q 146 [.int .i64 3,.int .i64 (c:Int),.int .i64 (R:Int),lv.v,.int .u64 (sq.toNat:Int),.int .i64 (e.off:Int),.int .i64 (e.leg:Int),.int .u64 (e.w.toNat:Int),.int .u64 (e.p.toNat:Int),.bool pd,.int .i64 0],sl tyPLeg lv.v (plg vs),blk x 81 [ptr q 0],blk y 44 [lw.v],sl tyU lw.v [hdW e.off e.leg,e.w,e.p]] (fun r:Bool × TS => .int .i64 (if r.1 then 0 else 5)) (fun r=>(r.1=true→I 3 0 r.2)∧(r.1=false→Dn r.2))
      (fun r F=>B r.2::blk q 146 [.int .i64 3,.int .i64 (c:Int),.int .i64 (R:Int),lv.v,.int .u64 (sq.toNat:Int),.int .i64 (e.off:Int),.int .i64 (e.leg:Int),.int .u64 (e.w.toNat:Int),.int .u64 (e.p.toNat:Int),.bool pd,.int .i64 0]::sl tyPLeg lv.v (plg vs)::blk x 81 [ptr q 0]::blk y 44 [lw.v]::sl tyU lw.v [hdW e.off e.leg,e.w,e.p]::F) :=
  CSpec.map id (CSpec.ofStar3 (G:=[blk x 81 [ptr q 0],blk y 44 [lw.v],sl tyU lw.v [hdW e.off e.leg,e.w,e.p]]) (zsp (Inv:=fun i t=>I i 0 t) (Dn:=Dn)
    (fun i t' hi hI' => FOk.mk (first:=[]) (cap:=[ptr x 0,ptr y 0]) Tryz.call186 (CSpec.map (fun r:Bool × TS=>r) (CSpec.toStar3 (z1i hB (hI i 0 t' (by omega) (by decide) hI').1 hi (I:=I i) (Dn:=Dn) (hb i (by omega)) (fun j t hj h=>hI i j t (by omega) hj h) (fun j t hj h=>hst i j t (by omega) hj h) (fun j t hj h hs=>hfl i j t (by omega) hj h hs) hI')) (fun _=>rfl) (fun r h=>⟨fun z=>hnx i r.2 (by omega) (h.1 z),h.2⟩) (fun _ _=>Ent.refl))) h0 h3)) (fun _=>rfl) (fun _ h=>h) (fun _ _=>Ent.refl)
theorem e_fls {W:World} (hB:BaseOk Tryz.prog B vs.length dep rc wc sz (fun i=>vs.getD i tyDev.dflt)) {I:Nat→TS→Prop} (h3:vs.length=3) (hI:∀ i t,i < 3→I i t→t.dn=false∧I (i + 1) (t.fls i)) (h0:I 0 t) :
    CSpec Tryz.prog W 185 [ptr q 0,.func (.func 187) #[] #[]] [B t,blk q 146 [.int .i64 3,.int .i64 (c:Int),.int .i64 (R:Int),lv.v,.int .u64 (sq.toNat:Int),.int .i64 (e.off:Int),.int .i64 (e.leg:Int),.int .u64 (e.w.toNat:Int),.int .u64 (e.p.toNat:Int),.bool pd,.int .i64 0],sl tyPLeg lv.v (plg vs)] (fun _:TS => .int .i64 0) (fun t' => I 3 t') (fun t' F=>B t' :: blk q 146 [.int .i64 3,.int .i64 (c:Int),.int .i64 (R:Int),lv.v,.int .u64 (sq.toNat:Int),.int .i64 (e.off:Int),.int .i64 (e.leg:Int),.int .u64 (e.w.toNat:Int),.int .u64 (e.p.toNat:Int),.bool pd,.int .i64 0]::sl tyPLeg lv.v (plg vs)::F) := by
  intro F w hs
  refine (CSpec.ofStar3 (G:=[]) (zsp (Inv:=I) (Dn:=fun _=>False)
    (fun i t' hi hI' => FOk.mk (first:=[]) (cap:=[]) Tryz.call187 (CSpec.map (fun _:Unit=>(true,t'.fls i)) (CSpec.conseq (G:=[blk q 146 [.int .i64 3,.int .i64 (c:Int),.int .i64 (R:Int),lv.v,.int .u64 (sq.toNat:Int),.int .i64 (e.off:Int),.int .i64 (e.leg:Int),.int .u64 (e.w.toNat:Int),.int .u64 (e.p.toNat:Int),.bool pd,.int .i64 0],sl tyPLeg lv.v (plg vs),star []]) (c_vFl1 hB (hI i t' (by omega) hI').1 hi) (fun _=>Ent.refl) (fun _ _=>Ent.refl)) (fun _=>rfl) (fun _ _=>⟨fun _=>(hI i t' (by omega) hI').2,fun z=>by cases z⟩) (fun _ _=>Ent.refl))) h0 h3) F w hs).mono ?_
  rintro e w' ⟨⟨ok,t9⟩,r1,r2,r3⟩
  cases ok with
  | false=>exact (r2.2 rfl).elim
  | true=>exact ⟨t9,r1,r2.1 rfl,r3⟩
theorem e_hds {W:World} (hB:BaseOk Tryz.prog B vs.length dep rc wc sz (fun i=>vs.getD i tyDev.dflt)) {x:Nat} {I:Nat→TS→Prop} {Dn:TS→Prop} (h3:vs.length=3) (hb:∀ i,i < 3→16≤sz i) (hI:∀ i t,i < 3→I i t→t.dn=false∧wc≤t.k) (hst:∀ i t,i < 3→I i t→I (i + 1) (t.wrS wc i 0 sq true)) (hfl:∀ i t,i < 3→I i t→t.safe=false→Dn (t.wrS wc i 0 sq false)) (h0:I 0 t) :
    CSpec Tryz.prog W 185 [ptr q 0,.func (.func 188) #[] #[ptr x 0]] [B t,blk q 146 [.int .i64 3,.int .i64 (c:Int),.int .i64 (R:Int),lv.v,.int .u64 (sq.toNat:Int),.int .i64 (e.off:Int),.int .i64 (e.leg:Int),.int .u64 (e.w.toNat:Int),.int .u64 (e.p.toNat:Int),.bool pd,.int .i64 0],sl tyPLeg lv.v (plg vs),blk x 81 [ptr q 0]] (fun r:Bool × TS => .int .i64 (if r.1 then 0 else 5)) (fun r=>(r.1=true→I 3 r.2)∧(r.1=false→Dn r.2))
      (fun r F=>B r.2::blk q 146 [.int .i64 3,.int .i64 (c:Int),.int .i64 (R:Int),lv.v,.int .u64 (sq.toNat:Int),.int .i64 (e.off:Int),.int .i64 (e.leg:Int),.int .u64 (e.w.toNat:Int),.int .u64 (e.p.toNat:Int),.bool pd,.int .i64 0]::sl tyPLeg lv.v (plg vs)::blk x 81 [ptr q 0]::F) :=
  CSpec.map id (CSpec.ofStar3 (G:=[blk x 81 [ptr q 0]]) (zsp (Inv:=I) (Dn:=Dn)
    (fun i t' hi hI' => FOk.mk (first:=[]) (cap:=[ptr x 0]) Tryz.call188 (CSpec.map (fun ok:Bool=>(ok,t'.wrS wc i 0 sq ok)) (CSpec.toStar3 (c_vHd1 hB (hI i t' (by omega) hI').1 hi (hb i (by omega)) (hI i t' (by omega) hI').2)) (fun _=>rfl) (fun ok h=>match ok,h with | true,_=>⟨fun _=>hst i t' (by omega) hI',fun z=>by cases z⟩ | false,h=>⟨fun z=>(by cases z),fun _=>hfl i t' (by omega) hI' (h rfl)⟩) (fun _ _=>Ent.refl))) h0 h3)) (fun _=>rfl) (fun _ h=>h) (fun _ _=>Ent.refl)
theorem e_sto {W:World} (hB:BaseOk Tryz.prog B vs.length dep rc wc sz (fun i=>vs.getD i tyDev.dflt)) {x y i:Nat} {v:UInt64} (hd:t.dn=false) (hi:i < vs.length) (ho:e.off≤100) (hb:16 + e.off < sz i) (hk:wc≤t.k) :
    CSpec Tryz.prog W 83 [ptr q 0,.int .i64 (i:Int),.func (.func 213) #[] #[ptr x 0,ptr y 0]] [B t,blk q 146 [.int .i64 3,.int .i64 (c:Int),.int .i64 (R:Int),lv.v,.int .u64 (sq.toNat:Int),.int .i64 (e.off:Int),.int .i64 (e.leg:Int),.int .u64 (e.w.toNat:Int),.int .u64 (e.p.toNat:Int),.bool pd,.int .i64 0],sl tyPLeg lv.v (plg vs),blk x 81 [ptr q 0],blk y 47 [.int .u64 (v.toNat:Int)]] (fun ok:Bool => .int .i64 (if ok then 0 else 5)) (fun ok=>ok=false→t.safe=false)
      (fun ok F=>B (t.wrS wc i (16 + e.off) v ok)::blk q 146 [.int .i64 3,.int .i64 (c:Int),.int .i64 (R:Int),lv.v,.int .u64 (sq.toNat:Int),.int .i64 (e.off:Int),.int .i64 (e.leg:Int),.int .u64 (e.w.toNat:Int),.int .u64 (e.p.toNat:Int),.bool pd,.int .i64 0]::sl tyPLeg lv.v (plg vs)::blk x 81 [ptr q 0]::blk y 47 [.int .u64 (v.toNat:Int)]::F) := by
  intro F w hs
  refine (CSpec.ofStar3 (G:=[blk x 81 [ptr q 0],blk y 47 [.int .u64 (v.toNat:Int)]]) (c_onB (pf:=fun r:Bool × TS=>(r.1=false→t.safe=false)∧r.2=t.wrS wc i (16 + e.off) v r.1) hi
    (FOk.mk (first:=[]) (cap:=[ptr x 0,ptr y 0]) Tryz.call213 (CSpec.map (fun ok:Bool=>(ok,t.wrS wc i (16 + e.off) v ok)) (CSpec.toStar3 (c_vSt1 hB hd hi ho hb hk)) (fun _=>rfl) (fun ok h=>⟨h,rfl⟩) (fun _ _=>Ent.refl)))) F w hs).mono ?_
  rintro e w' ⟨⟨ok,t9⟩,r1,⟨r2,r4⟩,r3⟩
  have r5:t9=t.wrS wc i (16 + _) v ok := r4
  subst r5
  exact ⟨ok,r1,r2,r3⟩
end
theorem zwv {W:World} {B:TS→HP} {vs:List IfH} {dep rc wc:Nat} {sz:Nat→Nat} (hB:BaseOk Tryz.prog B vs.length dep rc wc sz (fun i=>vs.getD i tyDev.dflt)) {t:TS} {q c R:Nat} {lv:Sl3} {sq:UInt64} {e:PE} {pd:Bool} (h3:vs.length=3) {I:Nat→Nat→TS→Prop} {Dn:TS→Prop} (ho:e.off < 128) (hl:e.leg < 8) (hb:∀ i,i < 3→16≤sz i) (hI:∀ i j t,i < 3→j < 3→I i j t→t.dn=false∧wc≤t.k) (hst:∀ i j t,i < 3→j < 3→I i j t→I i (j + 1) (t.wrS wc i (slq sq + j) (bodyW e j) true)) (hfl:∀ i j t,i < 3→j < 3→I i j t→t.safe=false→Dn (t.wrS wc i (slq sq + j) (bodyW e j) false)) (hnx:∀ i t,i < 3→I i 3 t→I (i + 1) 0 t) (h0:I 0 0 t) :
    CSpec Tryz.prog W 156 [ptr q 0] [B t,blk q 146 [.int .i64 3,.int .i64 (c:Int),.int .i64 (R:Int),lv.v,.int .u64 (sq.toNat:Int),.int .i64 (e.off:Int),.int .i64 (e.leg:Int),.int .u64 (e.w.toNat:Int),.int .u64 (e.p.toNat:Int),.bool pd,.int .i64 0],sl tyPLeg lv.v (plg vs)] (fun x:Bool × TS => .int .i64 (if x.1 then 0 else 5)) (fun x=>(x.1=true→I 3 0 x.2)∧(x.1=false→Dn x.2)) (fun x F=>B x.2::blk q 146 [.int .i64 3,.int .i64 (c:Int),.int .i64 (R:Int),lv.v,.int .u64 (sq.toNat:Int),.int .i64 (e.off:Int),.int .i64 (e.leg:Int),.int .u64 (e.w.toNat:Int),.int .u64 (e.p.toNat:Int),.bool pd,.int .i64 0]::sl tyPLeg lv.v (plg vs)::F) := by
 refine CSpec.of_body Tryz.func156 rfl Tryz.ntmps156 rfl fun F => ?_
 show CJ _ _ _ _ _ _ (_::_::_::F)
 have hpl := @zc8 vs
 refine sR<|oO<|O_box rfl rfl rfl fun b1=>oA rfl<|nT<|zab<|za3 83886080 kR_ rfl<|aW 0 1 rfl rfl r_ (zac rfl foc0 rfl Tryz.isAgg81)<|aN 1 3 rfl rfl (zad rfl)<|aN 2 7 rfl rfl (zaa rfl ⟨_,_,_,Tryz.runUnderlying146,rfl,rfl,Tryz.sizeOf144,rfl⟩)<|aN 3 15 rfl rfl (zaa rfl ⟨_,_,_,Tryz.runUnderlying144,rfl,rfl,Tryz.sizeOf3,rfl⟩)<|aW 4 31 rfl rfl r_ (zac rfl foc2 rfl Tryz.isAgg3)<|aN 5 63 rfl rfl (ze5 rfl Tryz.runUnderlying3 Tryz.runUnderlying47)<|aN 6 127 rfl rfl (zqq (a:=zdn (e.off:Int)) (m:=3) rfl rfl rfl)<|aW 7 255 rfl rfl r_ (zac rfl foc0 rfl Tryz.isAgg81)<|aN 8 511 rfl rfl (zad rfl)<|aN 9 1023 rfl rfl (zaa rfl ⟨_,_,_,Tryz.runUnderlying146,rfl,rfl,Tryz.sizeOf144,rfl⟩)<|aN 10 2047 rfl rfl (zaa rfl ⟨_,_,_,Tryz.runUnderlying144,rfl,rfl,Tryz.sizeOf3,rfl⟩)<|aW 11 4095 rfl rfl r_ (zac rfl foc2 rfl Tryz.isAgg3)<|aN 12 8191 rfl rfl (ze5 rfl Tryz.runUnderlying3 Tryz.runUnderlying47) ?_
 refine aN 13 16383 rfl rfl (PJ_eq (v := .int .u64 ((hdW e.off e.leg).toNat:Int)) (zrs (a:=zgv (zdn (e.off:Int)) 3) (b:=zdn (e.leg:Int)) rfl rfl) (by rw [hdW_eq e.off ho e.leg hl]))<|aW 14 32767 rfl rfl r_ (zac rfl foc0 rfl Tryz.isAgg81)<|aN 15 65535 rfl rfl (zad rfl)<|aN 16 131071 rfl rfl (zaa rfl ⟨_,_,_,Tryz.runUnderlying146,rfl,rfl,Tryz.sizeOf144,rfl⟩)<|aN 17 262143 rfl rfl (zaa rfl ⟨_,_,_,Tryz.runUnderlying144,rfl,rfl,Tryz.sizeOf47,rfl⟩)<|aW 18 524287 rfl rfl r_ (zac rfl foc2 rfl Tryz.isAgg47)<|aW 19 1048575 rfl rfl r_ (zac rfl foc0 rfl Tryz.isAgg81)<|aN 20 2097151 rfl rfl (zad rfl)<|aN 21 4194303 rfl rfl (zaa rfl ⟨_,_,_,Tryz.runUnderlying146,rfl,rfl,Tryz.sizeOf144,rfl⟩)<|aN 22 8388607 rfl rfl (zaa rfl ⟨_,_,_,Tryz.runUnderlying144,rfl,rfl,Tryz.sizeOf47,rfl⟩)<|aW 23 16777215 rfl rfl r_ (zac rfl foc2 rfl Tryz.isAgg47)<|zg4 24 25 33554431 50331647 rfl rfl kR_ rfl rfl (zal rfl) (zal rfl) (za4 rfl (zhd _ _ _) rfl (fun b2 => ?_)) (zbi Tryz.zeroValue44 rfl rfl (fun b3 => ?_))
 ·
  refine ⟨fun h=>absurd h (by decide),?_⟩
  refine AJ_op 25 67108863 rfl kR_ rfl (zal rfl)<|zbi Tryz.zeroValue44 rfl rfl fun b4=>⟨fun _=>(t2_ (t2_ (t2_ (t2_ (e_ (e_ r_)))))),?_⟩
  refine AJ_op 26 134217727 rfl kR_ rfl (zal rfl)<|za5 rfl rfl foc0 rfl rfl Tryz.sizeOf44<|⟨fun h=>absurd h (by decide),?_⟩
  refine aD<|zab<|zbs (Ent.trans (t1_ r_) (zb5 (t:=tyU) (m:=3) [hdW e.off e.leg,e.w,e.p] rfl rfl rfl (by decide)))<|zag<|oV (zac rfl foc2 rfl Tryz.isAgg81)<|oP (zbb rfl rfl)<|oO<|zai ((e_bod hB (lw:=⟨some ⟨b2,0,none⟩,3,3⟩) (I:=I) (Dn:=Dn) h3 hb hI hst hfl hnx h0)) rfl Tryz.call185 (Dels.cons del3 (Dels.cons del3 (Dels.cons del3 (Dels.cons del2 (Dels.cons del1 (dC_ del0)))))) rfl fun o9 ho9=>oA rfl<|nT<|zaf<|zan (res1 Tryz.results156 rfl)<|CSpec.close o9 ?_ ?_ (t0_ (t0_ (t0_ (e_ (e_ (e_ r_))))))
  · rfl
  · exact ho9
 ·
  refine ⟨fun _=>(t1_ (t1_ (t1_ (t1_ (e_ r_))))),?_⟩
  refine AJ_op 24 67108863 rfl kR_ rfl (zal rfl)<|za4 rfl (zhd _ _ _) rfl fun b6=>⟨fun h=>absurd h (by decide),?_⟩
  refine AJ_op 26 134217727 rfl kR_ rfl (zal rfl)<|za5 rfl rfl foc1 rfl rfl Tryz.sizeOf44<|⟨fun h=>absurd h (by decide),?_⟩
  refine aD<|zab<|zbs (Ent.trans r_ (zb5 (t:=tyU) (m:=3) [hdW e.off e.leg,e.w,e.p] rfl rfl rfl (by decide)))<|zag<|oV (zac rfl foc2 rfl Tryz.isAgg81)<|oP (zbb rfl rfl)<|oO<|zai ((e_bod hB (lw:=⟨some ⟨b6,0,none⟩,3,3⟩) (I:=I) (Dn:=Dn) h3 hb hI hst hfl hnx h0)) rfl Tryz.call185 (Dels.cons del3 (Dels.cons del3 (Dels.cons del3 (Dels.cons del2 (Dels.cons del1 (dC_ del0)))))) rfl fun o9 ho9=>oA rfl<|nT<|zaf<|zan (res1 Tryz.results156 rfl)<|CSpec.close o9 ?_ ?_ (t0_ (t0_ (t0_ (e_ (e_ (e_ r_))))))
  · rfl
  · exact ho9
theorem zsq {W:World} {B:TS→HP} {vs:List IfH} {dep rc wc:Nat} {sz:Nat→Nat} (hB:BaseOk Tryz.prog B vs.length dep rc wc sz (fun i=>vs.getD i tyDev.dflt)) {t:TS} {q c R:Nat} {lv:Sl3} {sq:UInt64} {e:PE} {pd:Bool} (h3:vs.length=3) {I:Nat→TS→Prop} (hI:∀ i t,i < 3→I i t→t.dn=false∧I (i + 1) (t.fls i)) (h0:I 0 t) :
    CSpec Tryz.prog W 157 [ptr q 0] [B t,blk q 146 [.int .i64 3,.int .i64 (c:Int),.int .i64 (R:Int),lv.v,.int .u64 (sq.toNat:Int),.int .i64 (e.off:Int),.int .i64 (e.leg:Int),.int .u64 (e.w.toNat:Int),.int .u64 (e.p.toNat:Int),.bool pd,.int .i64 0],sl tyPLeg lv.v (plg vs)] (fun _:TS => .int .i64 0) (fun t' => I 3 t') (fun t' F=>B t' :: blk q 146 [.int .i64 3,.int .i64 (c:Int),.int .i64 (R:Int),lv.v,.int .u64 (sq.toNat:Int),.int .i64 (e.off:Int),.int .i64 (e.leg:Int),.int .u64 (e.w.toNat:Int),.int .u64 (e.p.toNat:Int),.bool pd,.int .i64 0]::sl tyPLeg lv.v (plg vs)::F) := by
 refine CSpec.of_body Tryz.func157 rfl Tryz.ntmps157 rfl fun F => ?_
 show CJ _ _ _ _ _ _ (_::_::_::F)
 have hpl := @zc8 vs
 refine sR<|oA rfl<|nT<|sR<|oM rfl<|oO<|zai ((e_fls hB h3 hI h0)) rfl Tryz.call185 (Dels.cons del0 (Dels.cons del0 (dC_ del0))) rfl fun t9 ht9=>oA rfl<|nT<|zaf<|zan (res1 Tryz.results157 rfl)<|CSpec.close t9 ?_ ?_ r_
 · rfl
 · exact ht9
theorem zy4 {W:World} {B:TS→HP} {vs:List IfH} {dep rc wc:Nat} {sz:Nat→Nat} (hB:BaseOk Tryz.prog B vs.length dep rc wc sz (fun i=>vs.getD i tyDev.dflt)) {t:TS} {q c R:Nat} {lv:Sl3} {sq:UInt64} {e:PE} {pd:Bool} (h3:vs.length=3) {I:Nat→TS→Prop} {Dn:TS→Prop} (hb:∀ i,i < 3→16≤sz i) (hI:∀ i t,i < 3→I i t→t.dn=false∧wc≤t.k) (hst:∀ i t,i < 3→I i t→I (i + 1) (t.wrS wc i 0 sq true)) (hfl:∀ i t,i < 3→I i t→t.safe=false→Dn (t.wrS wc i 0 sq false)) (h0:I 0 t) :
    CSpec Tryz.prog W 158 [ptr q 0] [B t,blk q 146 [.int .i64 3,.int .i64 (c:Int),.int .i64 (R:Int),lv.v,.int .u64 (sq.toNat:Int),.int .i64 (e.off:Int),.int .i64 (e.leg:Int),.int .u64 (e.w.toNat:Int),.int .u64 (e.p.toNat:Int),.bool pd,.int .i64 0],sl tyPLeg lv.v (plg vs)] (fun x:Bool × TS => .int .i64 (if x.1 then 0 else 5)) (fun x=>(x.1=true→I 3 x.2)∧(x.1=false→Dn x.2)) (fun x F=>B x.2::blk q 146 [.int .i64 3,.int .i64 (c:Int),.int .i64 (R:Int),lv.v,.int .u64 (sq.toNat:Int),.int .i64 (e.off:Int),.int .i64 (e.leg:Int),.int .u64 (e.w.toNat:Int),.int .u64 (e.p.toNat:Int),.bool true,.int .i64 0]::sl tyPLeg lv.v (plg vs)::F) := by
 refine CSpec.of_body Tryz.func158 rfl Tryz.ntmps158 rfl fun F => ?_
 show CJ _ _ _ _ _ _ (_::_::_::F)
 have hpl := @zc8 vs
 refine sR<|oO<|O_box rfl rfl rfl fun b1=>oA rfl<|nT<|sR<|oV (zac rfl foc0 rfl Tryz.isAgg81)<|oP (zad rfl)<|oP (zaa rfl ⟨_,_,_,Tryz.runUnderlying146,rfl,rfl,Tryz.sizeOf4,rfl⟩)<|oO<|za5 rfl rfl foc2 rfl rfl Tryz.sizeOf4<|nT<|sR<|oV (zac rfl foc0 rfl Tryz.isAgg81)<|oP (zbb rfl rfl)<|oO<|zai ((e_hds hB (pd:=true) h3 hb hI hst hfl h0)) rfl Tryz.call185 (Dels.cons del1 (Dels.cons del1 (Dels.cons del1 (dC_ del0)))) rfl fun o9 ho9=>oA rfl<|nT<|zaf<|zan (res1 Tryz.results158 rfl)<|CSpec.close o9 ?_ ?_ (t0_ (t0_ (t0_ (e_ r_))))
 · rfl
 · exact ho9
theorem zsr {W:World} {B:TS→HP} {vs:List IfH} {dep rc wc:Nat} {sz:Nat→Nat} (hB:BaseOk Tryz.prog B vs.length dep rc wc sz (fun i=>vs.getD i tyDev.dflt)) {t:TS} {q c R:Nat} {lv:Sl3} {sq:UInt64} {e:PE} {pd:Bool} {i:Nat} {v:UInt64} (hd:t.dn=false) (hi:i < vs.length) (ho:e.off≤100) (hb:16 + e.off < sz i) (hk:wc≤t.k) :
    CSpec Tryz.prog W 190 [ptr q 0,.int .i64 (i:Int),.int .u64 (v.toNat:Int)] [B t,blk q 146 [.int .i64 3,.int .i64 (c:Int),.int .i64 (R:Int),lv.v,.int .u64 (sq.toNat:Int),.int .i64 (e.off:Int),.int .i64 (e.leg:Int),.int .u64 (e.w.toNat:Int),.int .u64 (e.p.toNat:Int),.bool pd,.int .i64 0],sl tyPLeg lv.v (plg vs)] (fun ok:Bool => .int .i64 (if ok then 0 else 5)) (fun ok=>ok=false→t.safe=false) (fun ok F=>B (t.wrS wc i (16 + e.off) v ok)::blk q 146 [.int .i64 3,.int .i64 (c:Int),.int .i64 (R:Int),lv.v,.int .u64 (sq.toNat:Int),.int .i64 (e.off:Int),.int .i64 (e.leg:Int),.int .u64 (e.w.toNat:Int),.int .u64 (e.p.toNat:Int),.bool pd,.int .i64 0]::sl tyPLeg lv.v (plg vs)::F) := by
 refine CSpec.of_body Tryz.func190 rfl Tryz.ntmps190 rfl fun F => ?_
 show CJ _ _ _ _ _ _ (_::_::_::F)
 have hpl := @zc8 vs
 refine sR<|oO<|O_box rfl rfl rfl fun b1=>oO<|O_box rfl rfl rfl fun b2=>oA rfl<|nT<|zab<|zab<|za3 0 kR_ rfl<|aW 0 1 rfl rfl r_ (zac rfl foc1 rfl Tryz.isAgg81)<|aN 1 3 rfl rfl (zad rfl)<|aN 2 7 rfl rfl (zaa rfl ⟨_,_,_,Tryz.runUnderlying146,rfl,rfl,Tryz.sizeOf142,rfl⟩)<|aW 3 15 rfl rfl r_ (zac rfl foc3 rfl Tryz.isAgg142)<|aN 4 31 rfl rfl (zae rfl) ?_
 first | (refine zbj 5 63 rfl kR_ rfl kR_ kR_ (zal rfl) r_ (zam rfl rfl rfl (by omega) foc4 (Reads.sl _ _ _) Tryz.runUnderlying142 Tryz.sizeOf148) rfl (fun _ _ _ _ h=>h) ?_) | (refine zbj 5 63 rfl kR_ rfl kR_ kR_ (zal rfl) r_ (zam rfl rfl (Int.toNat_of_nonneg (by omega)).symm (by omega) foc4 (Reads.sl _ _ _) Tryz.runUnderlying142 Tryz.sizeOf148) rfl (fun _ _ _ _ h=>h) ?_)
 refine aN 6 127 rfl rfl (zbl rfl ⟨_,_,_,Tryz.runUnderlying148,rfl,rfl,Tryz.sizeOf4,rfl⟩)<|aW 7 255 rfl rfl r_ (VJ_eq (v := .bool false) (za6 rfl rfl (by omega) foc4 (Reads.sl _ _ _) rfl rfl Tryz.isAgg4) (by rw [zh6]))<|aN 8 511 rfl rfl (zae rfl)<|aS 9 1023 rfl rfl (GY_no rfl rfl rfl rfl)<|aS 10 2047 rfl rfl (GY_no rfl rfl rfl rfl)<|aS 11 4095 rfl rfl (GY_no rfl rfl rfl rfl)<|aS 12 8191 rfl rfl (GY_no rfl rfl rfl rfl)<|aS 13 16383 rfl rfl (GY_no rfl rfl rfl rfl)<|aS 14 32767 rfl rfl (GY_no rfl rfl rfl rfl)<|aS 15 65535 rfl rfl (GY_no rfl rfl rfl rfl)<|aS 16 131071 rfl rfl (GY_no rfl rfl rfl rfl)<|aS 17 262143 rfl rfl (GY_no rfl rfl rfl rfl)<|aS 18 524287 rfl rfl (GY_no rfl rfl rfl rfl)<|aS 19 1048575 rfl rfl (GY_no rfl rfl rfl rfl)<|aS 20 2097151 rfl rfl (GY_no rfl rfl rfl rfl)<|aS 21 4194303 rfl rfl (GY_no rfl rfl rfl rfl)<|aS 22 8388607 rfl rfl (GY_no rfl rfl rfl rfl)<|aS 23 16777215 rfl rfl (GY_no rfl rfl rfl rfl)<|aS 24 33554431 rfl rfl (GY_no rfl rfl rfl rfl)<|aN 25 67108863 rfl rfl (za2 rfl rfl rfl)<|aD<|zap rfl rfl<|kT<|sR<|oV (zac rfl foc1 rfl Tryz.isAgg81)<|oM rfl<|oP (zbb rfl rfl)<|oO<|zai ((e_sto hB (v:=v) hd hi ho hb hk)) rfl Tryz.call83 (Dels.cons del2 (Dels.cons del2 (Dels.cons del2 (Dels.cons del1 (dC_ del0))))) rfl fun ok9 hok9=>oA rfl<|nT<|zaf ?_
 refine zan (res1 Tryz.results190 rfl)<|CSpec.close ok9 ?_ ?_ (t0_ (t0_ (t0_ (e_ (e_ r_)))))
 · rfl
 · exact hok9
theorem zy5 {W:World} {B:TS→HP} {vs:List IfH} {dep rc wc:Nat} {sz:Nat→Nat} (hB:BaseOk Tryz.prog B vs.length dep rc wc sz (fun i=>vs.getD i tyDev.dflt)) {t:TS} {q c R:Nat} {lv:Sl3} {sq:UInt64} {e:PE} (h3:vs.length=3) (hd:t.dn=false) (hc:1≤c∧c≤2) (hl:e.leg < 3) (ho:e.off≤100) (hb:∀ i,i < 3→16 + e.off < sz i) (hk:2 * wc≤t.k) :
    CSpec Tryz.prog W 159 [ptr q 0] [B t,blk q 146 [.int .i64 3,.int .i64 (c:Int),.int .i64 (R:Int),lv.v,.int .u64 (sq.toNat:Int),.int .i64 (e.off:Int),.int .i64 (e.leg:Int),.int .u64 (e.w.toNat:Int),.int .u64 (e.p.toNat:Int),.bool true,.int .i64 0],sl tyPLeg lv.v (plg vs)] (fun x:Bool × TS => .int .i64 (if x.1 then 0 else 5)) (fun x=>(x.1=true→x.2=(t.wrS wc e.leg (16 + e.off) e.w true).wrS wc (parF 3 c e.off) (16 + e.off) e.p true)∧(x.1=false→t.safe=false∧(x.2=t.wrS wc e.leg (16 + e.off) e.w false∨x.2=(t.wrS wc e.leg (16 + e.off) e.w true).wrS wc (parF 3 c e.off) (16 + e.off) e.p false))) (fun x F=>B x.2::blk q 146 [.int .i64 3,.int .i64 (c:Int),.int .i64 (R:Int),lv.v,.int .u64 (sq.toNat:Int),.int .i64 (e.off:Int),.int .i64 (e.leg:Int),.int .u64 (e.w.toNat:Int),.int .u64 (e.p.toNat:Int),.bool (!x.1),.int .i64 0]::sl tyPLeg lv.v (plg vs)::F) := by
 refine CSpec.of_body Tryz.func159 rfl Tryz.ntmps159 rfl fun F => ?_
 show CJ _ _ _ _ _ _ (_::_::_::F)
 have hpl := @zc8 vs
 have hpr:parF 3 c e.off < 3 := by unfold parF; omega
 refine sR<|oA rfl<|nT<|zab<|za3 512 kR_ rfl<|aN 0 1 rfl rfl (zae rfl)<|aN 1 3 rfl rfl (zad rfl)<|aN 2 7 rfl rfl (zaa rfl ⟨_,_,_,Tryz.runUnderlying146,rfl,rfl,Tryz.sizeOf137,rfl⟩)<|aW 3 15 rfl rfl r_ (zbq rfl foc1 Tryz.isAgg137 Tryz.sizeOf137 rfl rfl)<|aN 4 31 rfl rfl (zae rfl)<|aN 5 63 rfl rfl (zad rfl)<|aN 6 127 rfl rfl (zaa rfl ⟨_,_,_,Tryz.runUnderlying146,rfl,rfl,Tryz.sizeOf144,rfl⟩)<|aN 7 255 rfl rfl (zaa rfl ⟨_,_,_,Tryz.runUnderlying144,rfl,rfl,Tryz.sizeOf3,rfl⟩)<|aW 8 511 rfl rfl r_ (zac rfl foc1 rfl Tryz.isAgg3)<|AJ_op 9 1023 rfl kR_ rfl (zal rfl)<|zai ((zy3 hc (by omega))) rfl Tryz.call189 Dels.nil rfl fun _ hc1=>⟨fun h=>absurd h (by decide),?_⟩
 refine aN 10 2047 rfl rfl (zae rfl)<|aN 11 4095 rfl rfl (zaj rfl rfl)<|aN 12 8191 rfl rfl (zaj rfl rfl)<|aN 13 16383 rfl rfl (za9 rfl)<|aN 14 32767 rfl rfl (za9 rfl)<|aD<|zab<|za3 2048 kR_ rfl<|aN 0 1 rfl rfl (zae rfl)<|aN 1 3 rfl rfl (zae rfl)<|aN 2 7 rfl rfl (zad rfl)<|aN 3 15 rfl rfl (zaa rfl ⟨_,_,_,Tryz.runUnderlying146,rfl,rfl,Tryz.sizeOf144,rfl⟩)<|aN 4 31 rfl rfl (zaa rfl ⟨_,_,_,Tryz.runUnderlying144,rfl,rfl,Tryz.sizeOf3,rfl⟩)<|aW 5 63 rfl rfl r_ (zac rfl foc1 rfl Tryz.isAgg3)<|aN 6 127 rfl rfl (zae rfl)<|aN 7 255 rfl rfl (zad rfl)<|aN 8 511 rfl rfl (zaa rfl ⟨_,_,_,Tryz.runUnderlying146,rfl,rfl,Tryz.sizeOf144,rfl⟩)<|aN 9 1023 rfl rfl (zaa rfl ⟨_,_,_,Tryz.runUnderlying144,rfl,rfl,Tryz.sizeOf47,rfl⟩)<|aW 10 2047 rfl rfl r_ (zac rfl foc1 rfl Tryz.isAgg47)<|AJ_op 11 4095 rfl kR_ rfl (zal rfl) (zhr ((zsr hB (pd:=true) (i:=e.leg) (v:=e.w) (t:=t) hd (by omega) ho (hb _ hl) (by omega))) rfl Tryz.call190 (Dels.cons del0 (Dels.cons del0 (dC_ del0))) rfl (fun hof => ?_) (fun hof => ?_))
 ·
  refine ⟨fun h=>absurd h (by decide),?_⟩
  refine aN 12 8191 rfl rfl (za9 rfl)<|aD<|zab<|sR<|oM rfl<|oP (P_eql rfl rfl)<|nT<|zap rfl dF_<|kT<|sR<|oM rfl<|oM rfl<|oP (zad rfl)<|oP (zaa rfl ⟨_,_,_,Tryz.runUnderlying146,rfl,rfl,Tryz.sizeOf4,rfl⟩)<|oV (zac rfl foc1 rfl Tryz.isAgg4)<|oM rfl<|zbp 46 true rfl (by first | exact decide_eq_true (by rfl) | (rfl)) fun hg2B=>p_ rfl rfl rfl hg2B (zae rfl)<|p_ rfl rfl rfl hg2B (P_neq rfl rfl)<|oP (zbe rfl hg2B rfl)<|oP (zad rfl)<|oP (zaa rfl ⟨_,_,_,Tryz.runUnderlying146,rfl,rfl,Tryz.sizeOf4,rfl⟩)<|oO<|za5 rfl rfl foc1 rfl rfl Tryz.sizeOf4<|nT<|sR<|oM rfl<|oA rfl<|nT<|zaf<|zan (res1 Tryz.results159 rfl)<|CSpec.close (false,t.wrS wc e.leg (16 + e.off) e.w false) ?_ ?_ (t0_ (Ent.takeC del0 (by rfl) r_))
  · rfl
  · exact ⟨fun h=>(by cases h),fun _=>⟨hof rfl,.inl rfl⟩⟩
 ·
  refine ⟨fun h=>absurd h (by decide),?_⟩
  refine aN 12 8191 rfl rfl (za9 rfl)<|aD<|zab<|sR<|oM rfl<|oP (P_eql rfl rfl)<|nT<|za7 rfl dT_<|zag<|oM rfl<|oM rfl<|oM rfl<|oP (zad rfl)<|oP (zaa rfl ⟨_,_,_,Tryz.runUnderlying146,rfl,rfl,Tryz.sizeOf144,rfl⟩)<|oP (zaa rfl ⟨_,_,_,Tryz.runUnderlying144,rfl,rfl,Tryz.sizeOf47,rfl⟩)<|oV (zac rfl foc1 rfl Tryz.isAgg47)<|oO (zhr ((zsr hB (pd:=true) (i:=(parF 3 c e.off)) (v:=e.p) (t:=(t.wrS wc e.leg (16 + e.off) e.w true)) hd (by omega) ho (hb _ hpr) (show wc≤t.k - wc by omega))) rfl Tryz.call190 (Dels.cons del0 (Dels.cons del0 (dC_ del0))) rfl (fun hof => ?_) (fun hof => ?_))
  ·
   refine oA rfl<|nT<|sR<|oM rfl<|oM rfl<|oP (zad rfl)<|oP (zaa rfl ⟨_,_,_,Tryz.runUnderlying146,rfl,rfl,Tryz.sizeOf4,rfl⟩)<|oV (zac rfl foc1 rfl Tryz.isAgg4)<|oM rfl<|zbp 46 true rfl (by first | exact decide_eq_true (by rfl) | (rfl)) fun hg4B=>p_ rfl rfl rfl hg4B (zae rfl)<|p_ rfl rfl rfl hg4B (P_neq rfl rfl)<|oP (zbe rfl hg4B rfl)<|oP (zad rfl)<|oP (zaa rfl ⟨_,_,_,Tryz.runUnderlying146,rfl,rfl,Tryz.sizeOf4,rfl⟩)<|oO<|za5 rfl rfl foc1 rfl rfl Tryz.sizeOf4<|nT<|sR<|oM rfl<|oA rfl<|nT<|zaf<|zan (res1 Tryz.results159 rfl)<|CSpec.close (false,(t.wrS wc e.leg (16 + e.off) e.w true).wrS wc (parF 3 c e.off) (16 + e.off) e.p false) ?_ ?_ (t0_ (Ent.takeC del0 (by rfl) r_))
   · rfl
   · exact ⟨fun h=>(by cases h),fun _=>⟨hof rfl,.inr rfl⟩⟩
  ·
   refine oA rfl<|nT<|sR<|oM rfl<|oM rfl<|oP (zad rfl)<|oP (zaa rfl ⟨_,_,_,Tryz.runUnderlying146,rfl,rfl,Tryz.sizeOf4,rfl⟩)<|oV (zac rfl foc1 rfl Tryz.isAgg4)<|oM rfl<|zbp 46 true rfl (by first | exact decide_eq_true (by rfl) | (rfl)) fun hg5B=>p_ rfl rfl rfl hg5B (zae rfl)<|p_ rfl rfl rfl hg5B (P_neq rfl rfl)<|oP (zbe rfl hg5B rfl)<|oP (zad rfl)<|oP (zaa rfl ⟨_,_,_,Tryz.runUnderlying146,rfl,rfl,Tryz.sizeOf4,rfl⟩)<|oO<|za5 rfl rfl foc1 rfl rfl Tryz.sizeOf4<|nT<|sR<|oM rfl<|oA rfl<|nT<|zaf<|zan (res1 Tryz.results159 rfl)<|CSpec.close (true,(t.wrS wc e.leg (16 + e.off) e.w true).wrS wc (parF 3 c e.off) (16 + e.off) e.p true) ?_ ?_ (t0_ (Ent.takeC del0 (by rfl) r_))
   · rfl
   · exact ⟨fun _=>rfl,fun h=>(by cases h)⟩
theorem zy6 {W:World} {q:Nat} :
    CSpec Tryz.prog W 120 [ptr q 0] [] (fun x:Sl3=>x.v) (fun _=>True) (fun x F=>sl tyFV x.v [⟨156,q⟩,⟨157,q⟩,⟨158,q⟩,⟨157,q⟩,⟨159,q⟩]::F) := by
 refine CSpec.of_body Tryz.func120 rfl Tryz.ntmps120 rfl fun F => ?_
 show CJ _ _ _ _ _ _ (F)
 refine sR<|oA rfl<|nT<|sR<|oM rfl<|oP (zbb rfl rfl)<|oM rfl<|oP (zbb rfl rfl)<|oM rfl<|oP (zbb rfl rfl)<|oM rfl<|oP (zbb rfl rfl)<|oM rfl<|oP (zbb rfl rfl)<|oO<|za4 rfl (ziv _ _ _ _ _ _ _ _ _ _ _ _ _ _ _) rfl fun b1=>zcg (Ent.trans r_ (zb5 (t:=tyFV) (m:=5) [⟨156,q⟩,⟨157,q⟩,⟨158,q⟩,⟨157,q⟩,⟨159,q⟩] rfl rfl rfl (by decide)))<|oA rfl<|nT<|zaf<|zan (res1 Tryz.results120 rfl)<|CSpec.close ⟨some ⟨b1,0,none⟩,5,5⟩ ?_ ?_ r_
 · rfl
 · trivial
theorem c_vRun {W:World} {σ:Type} {S:σ→HP} {fs:List FV} {A:HP} {rv:Value} {Inv:Nat→σ→Prop} {Dn:σ→Prop} {s0:σ} (hA:Reads A tyFV rv fs) (hl:fs.length≤10)
    (hf:∀ {W:World} (k:Nat) (s:σ),k < fs.length→Inv k s→FOk Tryz.prog W (.func (.func (fs.getD k tyFV.dflt).f) #[ptr (fs.getD k tyFV.dflt).q 0] #[]) [] [S s] (fun x:Bool × σ => .int .i64 (if x.1 then 0 else 5)) (fun x=>(x.1=true→Inv (k + 1) x.2)∧(x.1=false→Dn x.2)) (fun x F=>S x.2::F)) (h0:Inv 0 s0) :
    CSpec Tryz.prog W 119 [rv] [S s0,A] (fun x:Bool × σ => .int .i64 (if x.1 then 0 else 5)) (fun x=>(x.1=true→Inv fs.length x.2)∧(x.1=false→Dn x.2)) (fun x F=>S x.2::A::F) := by
 refine CSpec.of_body Tryz.func119 rfl Tryz.ntmps119 rfl fun F => ?_
 show CJ _ _ _ _ _ _ (_::_::F)
 refine sR<|oA rfl<|nT<|zab<|sR<|oM rfl<|oV (V_len rfl foc1 hA Tryz.runUnderlying234)<|oM rfl<|nT<|zao<|za8 (X:=Nat × σ) [2,4,5,8,9,10,11,12,13,14,15,16,17] (fun ⟨k,s1⟩  => ([(8,.int .i64 (k:Nat))]:Slots)) (fun ⟨k,s1⟩ R=>S s1::R) (fun ⟨k,s1⟩  => k≤fs.length∧Inv k s1) (fun ⟨k,s1⟩  => fs.length - k) ⟨0,s0⟩ ?_ ?_ r_ ?_
 · exact ⟨Nat.zero_le _,h0⟩
 · exact ⟨rfl,True.intro⟩
 ·
  rintro ⟨k,s1⟩ ⟨hkl,hI⟩
  show CJ _ _ _ _ _ (([(8,.int .i64 (k:Nat))]:Slots) ++ forget _ _) (S s1::_)
  refine sR<|oP (P_lss rfl rfl)<|nT<|zab ?_
  first | (refine zav rfl (fun hg1 => ?_) (fun hg1 => ?_)) | (refine zaw rfl (fun hg1 => ?_) (fun hg1 => ?_)) | (refine za1 rfl (fun hg1 => ?_) (fun hg1 => ?_))
  ·
   refine kT<|zab<|zao<|sR ?_
   have hk:k < fs.length := by omega
   first | (refine RJ_op rfl (OJ_V (zam rfl rfl rfl (by omega) foc1 hA Tryz.runUnderlying234 Tryz.sizeOf93) rfl ?_)) | (refine RJ_op rfl (OJ_V (zam rfl rfl (Int.toNat_of_nonneg (by omega)).symm (by omega) foc1 hA Tryz.runUnderlying234 Tryz.sizeOf93) rfl ?_))
   refine oV (za6 rfl rfl (by omega) foc1 hA rfl rfl Tryz.isAgg93)<|oA rfl<|nT<|sR<|oM rfl<|oO<|zgz rfl rfl (hf k s1 hk hI) (dC_ del0) rfl fun o9 ho9=>oA rfl<|nT<|sR<|oM rfl<|oP (P_neq rfl rfl)<|nT ?_
   first | (refine zav rfl (fun hg2 => ?_) (fun hg2 => ?_)) | (refine zaw rfl (fun hg2 => ?_) (fun hg2 => ?_)) | (refine za1 rfl (fun hg2 => ?_) (fun hg2 => ?_))
   ·
    have ho:o9.1=false := by cases hq:o9.1 with
      | false=>rfl
      | true=>simp [hq] at hg2
    refine sR<|oM rfl<|oA rfl<|nT<|zaf<|zax<|zak<|zbm<|zax<|zak<|zan (res1 Tryz.results119 rfl)<|CSpec.close o9 ?_ ?_ r_
    · rfl
    · exact ⟨fun h=>(by rw [ho] at h; cases h),ho9.2⟩
   ·
    have ho:o9.1=true := by cases hq:o9.1 with
      | true=>rfl
      | false=>simp [hq] at hg2
    refine zbh<|zah<|zar<|zag<|oP (P_add rfl rfl (by omega))<|oM rfl<|za0<|zba ⟨k + 1,o9.2⟩ (by first | omega | (simp only []; omega)) ?_ kP_ ?_ r_
    · exact ⟨by omega,ho9.1 ho⟩
    · exact ⟨rfl,True.intro⟩
  ·
   refine zbc<|zay<|zau<|zat<|zar<|sR<|oA rfl<|nT<|zaf ?_
   obtain rfl:k=fs.length := by omega
   refine zan (res1 Tryz.results119 rfl)<|CSpec.close (true,s1) ?_ ?_ r_
   · rfl
   · exact ⟨fun _=>hI,fun h=>(by cases h)⟩
end Go.Proofs
namespace Go.VG
theorem CSpec.st3 {P:Program} {W:World} {f:FuncId} {args:List Value} {A B C:HP} {X:Type} {res:X→Value} {pf:X→Prop} {A' B':X→HP} (hm:CSpec P W f args [A,B,C] res pf (fun x F=>A' x::B' x::C::F)):CSpec P W f args [star [A,B,C]] res pf (fun x F=>star [A' x,B' x,C]::F) :=
  CSpec.conseq (G:=[]) hm (fun _ _ hp=>stars_star.1 hp) (fun _ _ _ hp=>stars_star.2 hp)
theorem entNo {A X:HP} {H F:List HP} (h:Ent H (A::F)):Ent H (A::(if false then X else star [])::F) := fun p hp=>zas (fun _ hq=>(stars_star (Hs:=[])).2 hq) (h p hp)
theorem z1j {A X Y:HP} {H F:List HP} (h:Ent H (A::X::Y::F)):Ent H (A::star [X,Y]::F) := fun p hp=>zas (fun _ hq=>(stars_star (Hs:=[X,Y])).2 hq) (h p hp)
theorem fold3 {A B C:HP} {R:List HP} : Ent (A::B::C::R) (star [A,B,C]::R) := fun _ hp=>(stars_star (Hs:=[A,B,C])).2 hp
theorem open3 {A B C:HP} {R:List HP} : Ent (star [A,B,C]::R) (A::B::C::R) := fun _ hp=>(stars_star (Hs:=[A,B,C])).1 hp
end Go.VG
namespace Go.Proofs.Ts
open Go.VG
section
variable (C:PC) (V V':Nat→Nat→UInt64) (qo q:UInt64) (e e':PE) (hp hn:UInt64→Prop) (x:Nat→Nat→Prop) (nwP:Prop) (wc:Nat) (t0:TS)
structure CK:Prop where
  q0:q≠0
  ev:EV C V' e'
  sl:qo≠0→slq qo≠slq q
  x:∀ d o, ¬ exE C e' d o → ¬ (x d o ∧ ¬ nwP)
  v:∀ d o, ¬ exE C e' d o→V' d o=V d o
  k:14 * wc≤t0.k
def KI:Nat→TS × Bool→Prop
  | 0,s=>J1 C V qo e q e' hp hn x nwP wc t0 0 0 s.1∧s.2=false
  | 1,s=>J1 C V qo e q e' hp hn x nwP wc t0 3 0 s.1∧s.2=false
  | 2,s=>J2 C V qo e q e' hp hn x nwP wc t0 3 s.1∧s.2=false
  | 3,s=>J3 C V qo e q e' hp hn x nwP wc t0 3 s.1∧s.2=true
  | 4,s=>J4 C V qo e q e' hp x nwP wc t0 3 s.1∧s.2=true
  | _,s=>(Ev C wc t0 s.1 14∧Qs C none V' q e' s.1)∧s.2=false
def KD (s:TS):Prop := Gn wc t0 s 14∧(D1 C V qo e q e' hp hn x nwP s∨(D2 C V qo e q e' hp x nwP s∨D3 C V' q e' s)∧t0.w + 1≤s.w)
end
section
variable {C:PC} {V V':Nat→Nat→UInt64} {qo q:UInt64} {e e':PE} {hp hn:UInt64→Prop} {x:Nat→Nat→Prop} {nwP:Prop} {wc n:Nat} {t0 t:TS}
theorem CK.use (h:CK C V V' qo q e' x nwP wc t0) (g:Ev C wc t0 t n) (hn:n < 14):t.dn=false∧wc≤t.k :=
  g.use (k:=1) (Nat.le_trans (Nat.mul_le_mul_right wc (by omega)) h.k) (by decide)
theorem CK.off (h:CK C V V' qo q e' x nwP wc t0):e'.off < C.O∧e'.off < 80∧e'.leg < 3 := by
  have h1 := h.ev.off
  have h2 := @PC.hO C
  have h3 := h.ev.leg
  have h4 := C.hL
  omega
theorem Ev.gw {i a:Nat} {v:UInt64} (h:Ev C wc t0 t n) (hn:1≤n):t0.w + 1≤(t.wrS wc i a v false).w := by
  show t0.w + 1≤t.w
  rw [h.w]; omega
theorem KD.pe {qn:UInt64} {s:TS} (hL:C.L=3) (h:KD C V V' q qn e e' (· = q) (· = q) (fun d o=>q≠0∧exE C e d o) True wc t0 s):Gn wc t0 s 14∧(Qs C none V q e s∨Pe C none V q e V' qn e' s∧t0.w + 1≤s.w) := by
  refine ⟨h.1,?_⟩
  rcases h.2 with h1 | ⟨h1 | h1,h2⟩
  · exact .inl fun d hd _=>Q0.back (h1 d (by omega))
  · exact .inr ⟨.inl fun d hd _=>(h1 d (by omega)).weaken (fun _ z=>z) (fun _ _=>trivial) (fun _ z=>z.2 trivial) (fun z=>z.elim) (Nat.le_refl _) id,h2⟩
  · exact .inr ⟨.inr fun d hd _=>h1 d (by omega),h2⟩
theorem Q0.flush {d:Nat} (he:NC C t) (hd:d < C.L) (h:Q0 C V q e t d):Q0 C V q e (t.fls d) d := by
  have hO := @PC.hO C
  have hsz:C.sz=16 + C.O := rfl
  have s1 := @sl_le q
  have hu:Fls C t (t.fls d) d := zg8
  have hc1:∀ b,b < C.sz → ∀ c,c ∈ cand (t.fls d) d b→c=now t d b := fun b hb c hc=>by rw [hu.cand d b hd hb,if_pos rfl,List.mem_singleton] at hc; exact hc
  have hnc:∀ b,b < C.sz→now t d b ∈ cand t d b := fun b hb=>he d b hd hb
  exact ⟨fun c hc=>by rw [hc1 0 (by omega) c hc]; exact h.hn,by rw [hu.now]; exact h.hn,fun z j hj c hc=>by rw [hc1 _ (by omega) c hc]; exact h.bd z j hj _ (hnc _ (by omega)),fun o ho hx c hc=>by rw [hc1 _ (by omega) c hc]; exact h.nw trivial o ho,fun _ o ho=>by rw [hu.now]; exact h.nw trivial o ho,fun i hi=>absurd hi (by omega),fun z=>z.elim⟩
theorem Qs.flsN (hL:C.L=3) (he:NC C t) (h:Qs C none V q e t):∀ n,NC C (t.flsN n)∧Qs C none V q e (t.flsN n)
  | 0=>⟨he,h⟩
  | n + 1=>by
    obtain ⟨h1,h2⟩ := Qs.flsN hL he h n
    refine ⟨fun d a hd ha => ?_,fun d hd hs => ?_⟩
    · show now (t.flsN n) d a ∈ (if n=d then [(t.flsN n).nw d a] else (t.flsN n).cd d a)
      split
      · exact List.mem_singleton.2 rfl
      · exact h1 d a hd ha
    · by_cases z:d=n
      · subst z; exact (h2 d hd hs).flush h1 hd
      · exact (h2 d hd hs).othF (zg8 (C:=C)) hd (fun y=>z y.symm)
theorem Qs.ext {t':TS} (h:Qs C none V q e t) (h1:t'.nw=t.nw) (h2:t'.cd=t.cd):Qs C none V q e t' := fun d hd hs=>(h d hd hs).ext h1 h2
theorem Qs.nw (h:Qs C none V q e t) {d o:Nat} (hd:d < C.L) (ho:o < C.O):now t d (16 + o)=V d o := (h d hd (by simp)).nw trivial o ho
theorem Qs.j1 {qn:UInt64} (hL:C.L=3) (hd:t.dn=false) (hn:NC C t) (h:Qs C none V q e t):J1 C V q e qn e' (· = q) (· = q) (fun d o=>q≠0∧exE C e d o) True wc t 0 0 t :=
  ⟨⟨hd,rfl,by omega,by omega,hn⟩,fun d h3=>by
    have h1 := (h d (by omega) (by simp)).start (q' := qn) (e' := e')
    have h2:(if d < 0 then 3 else if d=0 then 0 else 0)=0 := by rw [if_neg (by omega)]; split <;> rfl
    rw [h2]; exact h1⟩
theorem CK.of_nx {qn:UInt64} (hj:JV C V q e) (hx:Nx C V q V' qn e') (hk:14 * wc≤t0.k):CK C V V' q qn e' (fun d o=>q≠0∧exE C e d o) True wc t0 :=
  ⟨hx.ne hj.sm,hx.ev,fun _=>by rw [hx.q]; exact seq_sl hj.sm,fun _ _ _ z=>z.2 trivial,hx.old,hk⟩
end
end Go.Proofs.Ts
set_option linter.unusedSimpArgs false
set_option maxRecDepth 20000
namespace Go.Proofs
open Go.VG Ts
section
variable {B:TS→HP} {vs:List IfH} {dep rc wc:Nat} {sz:Nat→Nat} {t:TS} {q c R:Nat} {lv:Sl3} {sq:UInt64} {e:PE} {C:PC} {V V':Nat→Nat→UInt64} {qo:UInt64} {eo:PE} {hp hn:UInt64→Prop} {xx:Nat→Nat→Prop} {nwP:Prop}
theorem e_run {W:World} (hB:BaseOk Tryz.prog B vs.length dep rc wc sz (fun i=>vs.getD i tyDev.dflt)) {rv:Sl3} (h3:vs.length=3) (hc:C.c=c) (hb:∀ i,i < 3→C.sz≤sz i) (ck:CK C V V' qo sq e xx nwP wc t) (h0:J1 C V qo eo sq e hp hn xx nwP wc t 0 0 t) :
    CSpec Tryz.prog W 119 [rv.v] [star [B t,blk q 146 [.int .i64 3,.int .i64 (c:Int),.int .i64 (R:Int),lv.v,.int .u64 (sq.toNat:Int),.int .i64 (e.off:Int),.int .i64 (e.leg:Int),.int .u64 (e.w.toNat:Int),.int .u64 (e.p.toNat:Int),.bool false,.int .i64 0],sl tyPLeg lv.v (plg vs)],sl tyFV rv.v [⟨156,q⟩,⟨157,q⟩,⟨158,q⟩,⟨157,q⟩,⟨159,q⟩]] (fun r:Bool × (TS × Bool) => .int .i64 (if r.1 then 0 else 5)) (fun r=>(r.1=true→Ev C wc t r.2.1 14∧Qs C none V' sq e r.2.1∧r.2.2=false)∧(r.1=false→KD C V V' qo sq eo e hp hn xx nwP wc t r.2.1))
      (fun r F=>star [B r.2.1,blk q 146 [.int .i64 3,.int .i64 (c:Int),.int .i64 (R:Int),lv.v,.int .u64 (sq.toNat:Int),.int .i64 (e.off:Int),.int .i64 (e.leg:Int),.int .u64 (e.w.toNat:Int),.int .u64 (e.p.toNat:Int),.bool r.2.2,.int .i64 0],sl tyPLeg lv.v (plg vs)]::sl tyFV rv.v [⟨156,q⟩,⟨157,q⟩,⟨158,q⟩,⟨157,q⟩,⟨159,q⟩]::F) := by
  have hO := ck.off
  have hL := C.hL
  have hsz:C.sz=16 + C.O := rfl
  have hOb := @PC.hO C
  have hc12 := C.hc
  have hb16:∀ i,i < 3→16≤sz i := fun i hi=>by have := hb i hi; omega
  refine CSpec.map id (c_vRun (σ:=TS × Bool) (S:=fun s=>star [B s.1,blk q 146 [.int .i64 3,.int .i64 (c:Int),.int .i64 (R:Int),lv.v,.int .u64 (sq.toNat:Int),.int .i64 (e.off:Int),.int .i64 (e.leg:Int),.int .u64 (e.w.toNat:Int),.int .u64 (e.p.toNat:Int),.bool s.2,.int .i64 0],sl tyPLeg lv.v (plg vs)]) (Inv:=KI C V V' qo sq eo e hp hn xx nwP wc t) (Dn:=fun s=>KD C V V' qo sq eo e hp hn xx nwP wc t s.1) (Reads.sl _ _ _) (by simp) (fun {W} k s hk hI => ?_) (s0:=(t,false)) ⟨h0,rfl⟩) (fun _=>rfl) (fun r h=>⟨fun z => ?_,h.2⟩) (fun _ _=>Ent.refl)
  · have hk5:k=0∨k=1∨k=2∨k=3∨k=4 := by simp at hk; omega
    obtain ⟨t1,pd⟩ := s
    rcases hk5 with rfl | rfl | rfl | rfl | rfl
    · obtain ⟨hJ,hpd⟩ := hI
      have hpd:pd=false := hpd
      subst hpd
      have hJ:J1 C V qo eo sq e hp hn xx nwP wc t 0 0 t1 := hJ
      exact FOk.mk (first:=[ptr q 0]) (cap:=[]) Tryz.call156 (CSpec.map (fun r:Bool × TS=>(r.1,(r.2,false))) (CSpec.st3 (zwv hB h3 (I:=J1 C V qo eo sq e hp hn xx nwP wc t) (Dn:=KD C V V' qo sq eo e hp hn xx nwP wc t) (by omega) (by omega) hb16 (fun i j t' hi hj h=>ck.use h.1 (by omega)) (fun i j t' hi hj h=>h.wr ck.sl hj) (fun i j t' hi hj h hs=>⟨(h.fail ck.sl hi hj hs).1,.inl (h.fail ck.sl hi hj hs).2⟩) (fun i t' hi h=>h.next) hJ)) (fun _=>rfl) (fun r h=>⟨fun z=>⟨h.1 z,rfl⟩,h.2⟩) (fun _ _=>Ent.refl))
    · obtain ⟨hJ,hpd⟩ := hI
      have hpd:pd=false := hpd
      subst hpd
      have hJ:J1 C V qo eo sq e hp hn xx nwP wc t 3 0 t1 := hJ
      exact FOk.mk (first:=[ptr q 0]) (cap:=[]) Tryz.call157 (CSpec.map (fun t':TS=>(true,(t',false))) (CSpec.st3 (zsq hB h3 (I:=J2 C V qo eo sq e hp hn xx nwP wc t) (fun i t' hi h=>⟨h.1.dn,h.fl hL hi⟩) (J2.of hJ))) (fun _=>rfl) (fun t' h=>⟨fun _=>⟨h,rfl⟩,fun z=>by cases z⟩) (fun _ _=>Ent.refl))
    · obtain ⟨hJ,hpd⟩ := hI
      have hpd:pd=false := hpd
      subst hpd
      have hJ:J2 C V qo eo sq e hp hn xx nwP wc t 3 t1 := hJ
      exact FOk.mk (first:=[ptr q 0]) (cap:=[]) Tryz.call158 (CSpec.map (fun r:Bool × TS=>(r.1,(r.2,true))) (CSpec.st3 (zy4 hB h3 (I:=J3 C V qo eo sq e hp hn xx nwP wc t) (Dn:=KD C V V' qo sq eo e hp hn xx nwP wc t) hb16 (fun i t' hi h=>ck.use h.1 (by omega)) (fun i t' hi h=>h.wr hi) (fun i t' hi h hs=>⟨(h.fail hi hs).1,.inr ⟨.inl (h.fail hi hs).2,h.1.gw (by omega)⟩⟩) (J3.of hJ))) (fun _=>rfl) (fun r h=>⟨fun z=>⟨h.1 z,rfl⟩,h.2⟩) (fun _ _=>Ent.refl))
    · obtain ⟨hJ,hpd⟩ := hI
      have hpd:pd=true := hpd
      subst hpd
      have hJ:J3 C V qo eo sq e hp hn xx nwP wc t 3 t1 := hJ
      exact FOk.mk (first:=[ptr q 0]) (cap:=[]) Tryz.call157 (CSpec.map (fun t':TS=>(true,(t',true))) (CSpec.st3 (zsq hB h3 (I:=J4 C V qo eo sq e hp xx nwP wc t) (fun i t' hi h=>⟨h.1.dn,h.fl hL hi⟩) (J4.of hJ))) (fun _=>rfl) (fun t' h=>⟨fun _=>⟨h,rfl⟩,fun z=>by cases z⟩) (fun _ _=>Ent.refl))
    · obtain ⟨hJ,hpd⟩ := hI
      have hpd:pd=true := hpd
      subst hpd
      have hJ:J4 C V qo eo sq e hp xx nwP wc t 3 t1 := hJ
      have h5 := J5.of (V' := V') ck.x ck.v hJ
      have hu := ck.use h5.1 (by decide)
      have hk2:2 * wc≤t1.k := by
        have h9:t1.k=t.k - 12 * wc := h5.1.k
        have h10 := ck.k
        omega
      have hpar:parF 3 c e.off=C.par e.off := by unfold PC.par; rw [hL,hc]
      refine FOk.mk (first:=[ptr q 0]) (cap:=[]) Tryz.call159 (CSpec.map (fun r:Bool × TS=>(r.1,(r.2, !r.1))) (CSpec.st3 (zy5 hB h3 hu.1 (hc ▸ hc12) hO.2.2 (by omega) (fun i hi=>by have := hb i hi; omega) hk2)) (fun _=>rfl) (fun r h=>⟨fun z => ?_,fun z => ?_⟩) (fun _ _=>Ent.refl))
      · have h6 := h.1 z
        rw [hpar] at h6
        have z2:r.1=true := z
        refine ⟨?_,by show (!r.1)=false; rw [z2]; rfl⟩
        show Ev C wc t r.2 14∧Qs C none V' sq e r.2
        rw [h6]
        exact (h5.wr1.wr2 ck.ev.ne).done hL ck.q0 ck.ev
      · obtain ⟨h6,h7⟩ := h.2 z
        rw [hpar] at h7
        show KD C V V' qo sq eo e hp hn xx nwP wc t r.2
        rcases h7 with h7 | h7
        · rw [h7]
          have h8 := h5.fail (v:=e.w) (.inl rfl) (by decide) h6
          exact ⟨h8.1,.inr ⟨.inr h8.2,Ev.gw h5.1 (by decide)⟩⟩
        · rw [h7]
          have h8 := h5.wr1.fail (v:=e.p) (.inr rfl) (by decide) h6
          exact ⟨h8.1,.inr ⟨.inr h8.2,Ev.gw h5.wr1.1 (by decide)⟩⟩
  · have h6 := h.1 z
    exact ⟨h6.1.1,h6.1.2,h6.2⟩
end
theorem zq1 {W:World} {B:TS→HP} {vs:List IfH} {dep rc wc:Nat} {sz:Nat→Nat} (hB:BaseOk Tryz.prog B vs.length dep rc wc sz (fun i=>vs.getD i tyDev.dflt)) {t:TS} {q c R:Nat} {lv:Sl3} {sq:UInt64} {e:PE} {C:PC} {V V':Nat→Nat→UInt64} {qo:UInt64} {eo:PE} {hp hn:UInt64→Prop} {xx:Nat→Nat→Prop} {nwP:Prop} (h3:vs.length=3) (hc:C.c=c) (hb:∀ i,i < 3→C.sz≤sz i) (ck:CK C V V' qo sq e xx nwP wc t) (h0:J1 C V qo eo sq e hp hn xx nwP wc t 0 0 t) :
    CSpec Tryz.prog W 86 [ptr q 0] [B t,blk q 146 [.int .i64 3,.int .i64 (c:Int),.int .i64 (R:Int),lv.v,.int .u64 (sq.toNat:Int),.int .i64 (e.off:Int),.int .i64 (e.leg:Int),.int .u64 (e.w.toNat:Int),.int .u64 (e.p.toNat:Int),.bool false,.int .i64 0],sl tyPLeg lv.v (plg vs)] (fun x:Bool × TS × Bool => .int .i64 (if x.1 then 0 else 5)) (fun x=>(x.1=true→Ev C wc t x.2.1 14∧Qs C none V' sq e x.2.1∧x.2.2=false)∧(x.1=false→KD C V V' qo sq eo e hp hn xx nwP wc t x.2.1)) (fun x F=>B x.2.1::blk q 146 [.int .i64 3,.int .i64 (c:Int),.int .i64 (R:Int),lv.v,.int .u64 (sq.toNat:Int),.int .i64 (e.off:Int),.int .i64 (e.leg:Int),.int .u64 (e.w.toNat:Int),.int .u64 (e.p.toNat:Int),.bool x.2.2,.int .i64 0]::sl tyPLeg lv.v (plg vs)::F) := by
 refine CSpec.of_body Tryz.func86 rfl Tryz.ntmps86 rfl fun F => ?_
 show CJ _ _ _ _ _ _ (_::_::_::F)
 refine sR<|oA rfl<|nT<|sR<|oM rfl<|oO<|zai (zy6) rfl Tryz.call120 Dels.nil rfl fun rv hc2=>zcg (Ent.trans (t1_ (t1_ (t1_ r_))) fold3)<|oO<|zai ((e_run hB h3 hc hb ck h0)) rfl Tryz.call119 (Dels.cons del0 (dC_ del0)) rfl fun o9 ho9=>oA rfl<|nT<|zaf<|zan (res1 Tryz.results86 rfl)<|CSpec.close (o9.1,o9.2.1,o9.2.2) ?_ ?_ (Ent.trans (t0_ (e_ r_)) open3)
 · rfl
 · exact ho9
end Go.Proofs
