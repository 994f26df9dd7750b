/- TopStacks, part 6 of the proof: CTs12, CTs13, PTs19, CTs14, PTs20, CTs15, CTs16, PTs21, CTs17, PTs22, PTs23, PTs24, PTs25, PTs26, CTs18, PTs27. -/
import Derived.WalkKit
import Derived.Orders
import Derived.RangeFuncLeaves
import Derived.RangeFuncCalls
import Derived.TacticsIn
import Derived.Handy
import Derived.OrdersHeld
import Derived.OrdersIn
import Derived.Below
import Derived.OpenShut
import Derived.Deep.Slices
import Derived.Scope
import Derived.KernelRfl
import Derived.RangeFuncRecord
import Derived.ChangeKeysEq
import Derived.Laws.BytesArg
import Derived.Lib.Bytealg
import Derived.Lib.AppendStr
import Derived.Lib.Builder
import Derived.Lib.UnsafeStr
import Derived.ProofKit
import Derived.ShutString
import Derived.ChangeOld
import Derived.Stop.Joined
import Derived.LaidLaws
import Derived.LaidHandle
import Derived.MakeChecks
import Derived.SevenTiedAt
import Derived.Test.YthfaiagepigmcaaGreatDoorChecked
import Derived.Test.YthfaiagepigmcaaGreatDoorRows
import Derived.Test.YthfaiagepigmcaaGreatDoorZTopStacks5
set_option linter.unusedSimpArgs false
set_option maxRecDepth 20000
namespace Go.Proofs
open Go.VG Ts
theorem c_vWd1 {W:World} {B:TS→HP} {vs:List IfH} {dep rc wc:Nat} {sz:Nat→Nat} (hB:BaseOk Tryz.prog B vs.length dep rc wc sz (fun i=>vs.getD i tyDev.dflt)) {t:TS} {i o y z x1 x2 x3:Nat} {w0:Int} (hd:t.dn=false) (hi:i < vs.length) (ho:o≤1000) (hb:16 + o < sz i) (hk:rc≤t.k) :
    CSpec Tryz.prog W 282 [(vs.getD i tyDev.dflt).v,ptr y 0,ptr z 0,ptr x1 0,ptr x2 0,ptr x3 0] [B t,blk y 3 [.int .i64 (o:Int)],blk z 47 [.int .u64 w0]] (fun ok:Bool => .int .i64 (if ok then 0 else 5)) (fun ok=>ok=false→t.safe=false) (fun ok F=>B (t.rdS rc ok)::blk y 3 [.int .i64 (o:Int)]::blk z 47 [.int .u64 ((if ok then Ts.now t i (16 + o) else 0:UInt64).toNat:Int)]::F) := by
 refine CSpec.of_body Tryz.func282 rfl Tryz.ntmps282 rfl fun F => ?_
 show CJ _ _ _ _ _ _ (_::_::_::F)
 refine sR<|oA rfl<|nT<|sR<|oM rfl<|oV (zac rfl foc1 rfl Tryz.isAgg3)<|oP (P_add rfl rfl (by omega))<|oO (zgm rfl (IOk.call (hB.rd (i:=i) (a:=(16 + o)) hi hb hd hk) (Nat.le_trans hB.depb (by decide))) rfl (dC_ del0) rfl (fun ho2 => ?_) (fun ho2 => ?_))
 ·
  refine oM rfl<|oP (zaj rfl rfl)<|oP (zaj rfl rfl)<|oO<|za5 rfl rfl foc2 rfl rfl Tryz.sizeOf47<|oA rfl<|nT<|zab<|sR<|oM rfl<|oP (P_eql rfl rfl)<|oM rfl<|zbp 19 false rfl dF_ fun hg1B=>g_ rfl rfl rfl hg1B rfl<|g_ rfl rfl rfl hg1B rfl<|g_ rfl rfl rfl hg1B rfl<|oP (za2 rfl hg1B rfl)<|nT<|zap rfl rfl<|kT<|sR<|oM rfl<|oA rfl<|nT<|zaf<|zan (res1 Tryz.results282 rfl)<|CSpec.close false ?_ ?_ r_
  · rfl
  · exact ho2
 ·
  refine oM rfl<|oP (zaj rfl rfl)<|oP (zaj rfl rfl)<|oO<|za5 rfl rfl foc2 rfl rfl Tryz.sizeOf47<|oA rfl<|nT<|zab<|sR<|oM rfl<|oP (P_eql rfl rfl)<|oM rfl<|zbp 19 false rfl dF_ fun hg2B=>g_ rfl rfl rfl hg2B rfl<|g_ rfl rfl rfl hg2B rfl<|g_ rfl rfl rfl hg2B rfl<|oP (za2 rfl hg2B rfl)<|nT<|zap rfl rfl<|kT<|sR<|oM rfl<|oA rfl<|nT<|zaf<|zan (res1 Tryz.results282 rfl)<|CSpec.close true ?_ ?_ r_
  · rfl
  · exact ho2
section
variable {B:TS→HP} {vs:List IfH} {dep rc wc:Nat} {sz:Nat→Nat} {t:TS} {q c R:Nat} {lv:Sl3} {sq:UInt64} {e:PE}
theorem e_fl2 {W:World} (hB:BaseOk Tryz.prog B vs.length dep rc wc sz (fun i=>vs.getD i tyDev.dflt)) {i:Nat} (hd:t.dn=false) (hi:i < vs.length) :
    CSpec Tryz.prog W 83 [ptr q 0,.int .i64 (i:Int),.func (.func 274) #[] #[]] [B t,blk q 146 [.int .i64 3,.int .i64 (c:Int),.int .i64 (R:Int),lv.v,.int .u64 (sq.toNat:Int),.int .i64 (e.off:Int),.int .i64 (e.leg:Int),.int .u64 (e.w.toNat:Int),.int .u64 (e.p.toNat:Int),.bool false,.int .i64 0],sl tyPLeg lv.v (plg vs)] (fun _:Unit => .int .i64 0) (fun _=>True) (fun _ F=>B (t.fls i)::blk q 146 [.int .i64 3,.int .i64 (c:Int),.int .i64 (R:Int),lv.v,.int .u64 (sq.toNat:Int),.int .i64 (e.off:Int),.int .i64 (e.leg:Int),.int .u64 (e.w.toNat:Int),.int .u64 (e.p.toNat:Int),.bool false,.int .i64 0]::sl tyPLeg lv.v (plg vs)::F) := by
  intro F w hs
  refine (CSpec.ofStar3 (G:=[]) (c_onB (pf:=fun r:Bool × TS=>r=(true,t.fls i)) hi (FOk.mk (first:=[]) (cap:=[]) Tryz.call274 (CSpec.map (fun _:Unit=>(true,t.fls i)) (CSpec.conseq (G:=[blk q 146 [.int .i64 3,.int .i64 (c:Int),.int .i64 (R:Int),lv.v,.int .u64 (sq.toNat:Int),.int .i64 (e.off:Int),.int .i64 (e.leg:Int),.int .u64 (e.w.toNat:Int),.int .u64 (e.p.toNat:Int),.bool false,.int .i64 0],sl tyPLeg lv.v (plg vs),star []]) (c_vFl2 hB hd hi) (fun _=>Ent.refl) (fun _ _=>Ent.refl)) (fun _=>rfl) (fun _ _=>rfl) (fun _ _=>Ent.refl)))) F w hs).mono ?_
  rintro e w' ⟨r,r1,rfl,r3⟩
  exact ⟨(),r1,trivial,r3⟩
theorem e_wd {W:World} (hB:BaseOk Tryz.prog B vs.length dep rc wc sz (fun i=>vs.getD i tyDev.dflt)) {i o y z x1 x2 x3:Nat} {w0:Int} (hd:t.dn=false) (hi:i < vs.length) (ho:o≤1000) (hb:16 + o < sz i) (hk:rc≤t.k) :
    CSpec Tryz.prog W 83 [ptr q 0,.int .i64 (i:Int),.func (.func 282) #[] #[ptr y 0,ptr z 0,ptr x1 0,ptr x2 0,ptr x3 0]] [B t,blk q 146 [.int .i64 3,.int .i64 (c:Int),.int .i64 (R:Int),lv.v,.int .u64 (sq.toNat:Int),.int .i64 (e.off:Int),.int .i64 (e.leg:Int),.int .u64 (e.w.toNat:Int),.int .u64 (e.p.toNat:Int),.bool false,.int .i64 0],sl tyPLeg lv.v (plg vs),blk y 3 [.int .i64 (o:Int)],blk z 47 [.int .u64 w0]] (fun ok:Bool => .int .i64 (if ok then 0 else 5)) (fun ok=>ok=false→t.safe=false)
      (fun ok F=>B (t.rdS rc ok)::blk q 146 [.int .i64 3,.int .i64 (c:Int),.int .i64 (R:Int),lv.v,.int .u64 (sq.toNat:Int),.int .i64 (e.off:Int),.int .i64 (e.leg:Int),.int .u64 (e.w.toNat:Int),.int .u64 (e.p.toNat:Int),.bool false,.int .i64 0]::sl tyPLeg lv.v (plg vs)::blk y 3 [.int .i64 (o:Int)]::blk z 47 [.int .u64 ((if ok then Ts.now t i (16 + o) else 0:UInt64).toNat:Int)]::F) :=
  CSpec.conseq (pre:=[blk q 146 [.int .i64 3,.int .i64 (c:Int),.int .i64 (R:Int),lv.v,.int .u64 (sq.toNat:Int),.int .i64 (e.off:Int),.int .i64 (e.leg:Int),.int .u64 (e.w.toNat:Int),.int .u64 (e.p.toNat:Int),.bool false,.int .i64 0],sl tyPLeg lv.v (plg vs),star [B t,blk y 3 [.int .i64 (o:Int)],blk z 47 [.int .u64 w0]]]) (G:=[])
    (c_vOn (X:=Bool) (er:=fun ok=>if ok then 0 else 5) (Q2:=fun _=>blk q 146 [.int .i64 3,.int .i64 (c:Int),.int .i64 (R:Int),lv.v,.int .u64 (sq.toNat:Int),.int .i64 (e.off:Int),.int .i64 (e.leg:Int),.int .u64 (e.w.toNat:Int),.int .u64 (e.p.toNat:Int),.bool false,.int .i64 0]) (G:=star [B t,blk y 3 [.int .i64 (o:Int)],blk z 47 [.int .u64 w0]]) (G2:=fun ok=>star [B (t.rdS rc ok),blk y 3 [.int .i64 (o:Int)],blk z 47 [.int .u64 ((if ok then Ts.now t i (16 + o) else 0:UInt64).toNat:Int)]]) hi
      (FOk.mk (first:=[]) (cap:=[ptr y 0,ptr z 0,ptr x1 0,ptr x2 0,ptr x3 0]) Tryz.call282 (CSpec.conseq (G:=[blk q 146 [.int .i64 3,.int .i64 (c:Int),.int .i64 (R:Int),lv.v,.int .u64 (sq.toNat:Int),.int .i64 (e.off:Int),.int .i64 (e.leg:Int),.int .u64 (e.w.toNat:Int),.int .u64 (e.p.toNat:Int),.bool false,.int .i64 0],sl tyPLeg lv.v (plg vs)]) (c_vWd1 hB hd hi ho hb hk)
        (fun F p hp=>(Ent.take del2 (Ent.take del2 (Ent.take del2 (Ent.take del0 (Ent.take del0 Ent.refl))))) p (zas (fun _ h=>zas (fun _ h=>(stars_star (Hs:=[_,_,_])).1 h) h) hp))
        (fun ok F p hp=>zas (fun _ h=>zas (fun _ h=>(stars_star (Hs:=[_,_,_])).2 h) h) ((Ent.take del3 (Ent.take del3 (Ent.take del0 (Ent.take del0 (Ent.take del0 Ent.refl))))) p hp))))
      (fun ok _=>by cases ok <;> simp))
    (fun F p hp=>zas (fun _ h=>zas (fun _ h=>(stars_star (Hs:=[_,_,_])).2 h) h) ((Ent.take del1 (Ent.take del1 (Ent.take del0 (Ent.take del0 (Ent.take del0 Ent.refl))))) p hp))
    (fun ok F p hp=>(Ent.take del2 (Ent.take del0 (Ent.take del0 (Ent.take del0 (Ent.take del0 Ent.refl))))) p (zas (fun _ h=>zas (fun _ h=>(stars_star (Hs:=[_,_,_])).1 h) h) hp))
end
end Go.Proofs
set_option linter.unusedSimpArgs false
set_option maxRecDepth 20000
namespace Go.Proofs
open Go.VG Ts
theorem zuf {W:World} {c R a l o p:Nat} (hc:1≤c∧c≤2) (ha:a < 200) (h1:legF 3 c a=l) (h2:offF 3 c a=o) (h3:parF 3 c (offF 3 c a)=p):CSpec Tryz.prog W 275 [.agg #[.int .i64 3,.int .i64 (c:Int),.int .i64 (R:Int)],.int .i64 (a:Int)] [] (fun _:Unit => .tuple #[.int .i64 (l:Int),.int .i64 (o:Int),.int .i64 (p:Int)]) (fun _=>True) (fun _ F=>F) := by
  subst h1 h2 h3
  exact zy2 hc ha
theorem zqe {W:World} {B:TS→HP} {vs:List IfH} {dep rc wc:Nat} {sz:Nat→Nat} (hB:BaseOk Tryz.prog B vs.length dep rc wc sz (fun i=>vs.getD i tyDev.dflt)) {t:TS} {q c R:Nat} {lv:Sl3} {sq:UInt64} {e:PE} {i o:Nat} (hd:t.dn=false) (hi:i < vs.length) (ho:o≤1000) (hb:16 + o < sz i) (hk:rc≤t.k) :
    CSpec Tryz.prog W 276 [ptr q 0,.int .i64 (i:Int),.int .i64 (o:Int)] [B t,blk q 146 [.int .i64 3,.int .i64 (c:Int),.int .i64 (R:Int),lv.v,.int .u64 (sq.toNat:Int),.int .i64 (e.off:Int),.int .i64 (e.leg:Int),.int .u64 (e.w.toNat:Int),.int .u64 (e.p.toNat:Int),.bool false,.int .i64 0],sl tyPLeg lv.v (plg vs)] (fun ok:Bool => .tuple #[.int .u64 ((if ok then Ts.now t i (16 + o) else 0:UInt64).toNat:Int),.bool false,.int .i64 (if ok then 0 else 5)]) (fun ok=>ok=false→t.safe=false) (fun ok F=>B (t.rdS rc ok)::blk q 146 [.int .i64 3,.int .i64 (c:Int),.int .i64 (R:Int),lv.v,.int .u64 (sq.toNat:Int),.int .i64 (e.off:Int),.int .i64 (e.leg:Int),.int .u64 (e.w.toNat:Int),.int .u64 (e.p.toNat:Int),.bool false,.int .i64 0]::sl tyPLeg lv.v (plg vs)::F) := by
 refine CSpec.of_body Tryz.func276 rfl Tryz.ntmps276 rfl fun F => ?_
 show CJ _ _ _ _ _ _ (_::_::_::F)
 have hpl := @zc8 vs
 refine sR<|oO<|O_box rfl rfl rfl fun b1=>oO<|O_box rfl rfl rfl fun b2=>oO<|O_box rfl rfl rfl fun b3=>oO<|zbi Tryz.zeroValue47 rfl rfl fun b4=>oO<|zbi Tryz.zeroValue4 rfl rfl fun b5=>oA rfl<|nT<|zab<|zab<|za3 0 kR_ rfl<|aW 0 1 rfl rfl r_ (zac rfl foc4 rfl Tryz.isAgg81)<|aN 1 3 rfl rfl (zad rfl)<|aN 2 7 rfl rfl (zaa rfl ⟨_,_,_,Tryz.runUnderlying146,rfl,rfl,Tryz.sizeOf142,rfl⟩)<|aW 3 15 rfl rfl r_ (zac rfl foc6 rfl Tryz.isAgg142)<|aW 4 31 rfl rfl r_ (zac rfl foc3 rfl Tryz.isAgg3) ?_
 first | (refine zbj 5 63 rfl kR_ rfl kR_ kR_ (zal rfl) r_ (zam rfl rfl rfl (by omega) foc7 (Reads.sl _ _ _) Tryz.runUnderlying142 Tryz.sizeOf148) rfl (fun _ _ _ _ h=>h) ?_) | (refine zbj 5 63 rfl kR_ rfl kR_ kR_ (zal rfl) r_ (zam rfl rfl (Int.toNat_of_nonneg (by omega)).symm (by omega) foc7 (Reads.sl _ _ _) Tryz.runUnderlying142 Tryz.sizeOf148) rfl (fun _ _ _ _ h=>h) ?_)
 refine aN 6 127 rfl rfl (zbl rfl ⟨_,_,_,Tryz.runUnderlying148,rfl,rfl,Tryz.sizeOf4,rfl⟩)<|aW 7 255 rfl rfl r_ (VJ_eq (v := .bool false) (za6 rfl rfl (by omega) foc7 (Reads.sl _ _ _) rfl rfl Tryz.isAgg4) (by rw [zh6]))<|aD<|zap rfl rfl<|kT<|sR<|oV (zac rfl foc4 rfl Tryz.isAgg81)<|oV (zac rfl foc3 rfl Tryz.isAgg3)<|oP (zbb rfl rfl)<|oO (zhr ((e_wd hB hd hi ho hb hk)) rfl Tryz.call83 (Dels.cons del5 (Dels.cons del5 (Dels.cons del5 (Dels.cons del2 (dC_ del1))))) rfl (fun hof => ?_) (fun hof => ?_))
 ·
  refine oA rfl<|nT<|zab<|za3 16 kR_ rfl<|aW 0 1 rfl rfl r_ (zac rfl foc4 rfl Tryz.isAgg47)<|aW 1 3 rfl rfl r_ (zac rfl foc5 rfl Tryz.isAgg4)<|aN 2 7 rfl rfl (zae rfl)<|AJ_op 3 15 rfl kR_ rfl (zal rfl)<|za5 rfl rfl foc4 rfl rfl Tryz.sizeOf47<|⟨fun _=>r_,?_⟩
  refine AJ_op 4 31 rfl kR_ rfl (zal rfl)<|za5 rfl rfl foc5 rfl rfl Tryz.sizeOf4<|⟨fun h=>absurd h (by decide),?_⟩
  refine aN 5 63 rfl rfl (za9 rfl)<|aD<|zaf<|zan (resA3 Tryz.results276 (zjv rfl foc4 rfl Tryz.isAgg47) (zjv rfl foc5 rfl Tryz.isAgg4) (zju rfl))<|CSpec.close false ?_ ?_ (t0_ (t0_ (t0_ (e_ (e_ (e_ (e_ (e_ r_))))))))
  · rfl
  · exact hof
 ·
  refine oA rfl<|nT<|zab<|za3 16 kR_ rfl<|aW 0 1 rfl rfl r_ (zac rfl foc4 rfl Tryz.isAgg47)<|aW 1 3 rfl rfl r_ (zac rfl foc5 rfl Tryz.isAgg4)<|aN 2 7 rfl rfl (zae rfl)<|AJ_op 3 15 rfl kR_ rfl (zal rfl)<|za5 rfl rfl foc4 rfl rfl Tryz.sizeOf47<|⟨fun _=>r_,?_⟩
  refine AJ_op 4 31 rfl kR_ rfl (zal rfl)<|za5 rfl rfl foc5 rfl rfl Tryz.sizeOf4<|⟨fun h=>absurd h (by decide),?_⟩
  refine aN 5 63 rfl rfl (za9 rfl)<|aD<|zaf<|zan (resA3 Tryz.results276 (zjv rfl foc4 rfl Tryz.isAgg47) (zjv rfl foc5 rfl Tryz.isAgg4) (zju rfl))<|CSpec.close true ?_ ?_ (t0_ (t0_ (t0_ (e_ (e_ (e_ (e_ (e_ r_))))))))
  · rfl
  · exact hof
theorem z1k {W:World} {B:TS→HP} {vs:List IfH} {dep rc wc:Nat} {sz:Nat→Nat} (hB:BaseOk Tryz.prog B vs.length dep rc wc sz (fun i=>vs.getD i tyDev.dflt)) {t:TS} {q:Nat} {lv:Sl3} {sq:UInt64} {e:PE} {C:PC} {a:Nat} (hd:t.dn=false) (h3:vs.length=3) (hb:∀ i,i < 3→C.sz≤sz i) (ha:a < C.D) (hk:rc≤t.k) :
    CSpec Tryz.prog W 270 [ptr q 0,.int .i64 (a:Int)] [B t,blk q 146 [.int .i64 3,.int .i64 (C.c:Int),.int .i64 (C.R:Int),lv.v,.int .u64 (sq.toNat:Int),.int .i64 (e.off:Int),.int .i64 (e.leg:Int),.int .u64 (e.w.toNat:Int),.int .u64 (e.p.toNat:Int),.bool false,.int .i64 0],sl tyPLeg lv.v (plg vs)] (fun ok:Bool => .tuple #[.int .u64 ((if ok then Ts.now t (C.leg a) (16 + C.off a) else 0:UInt64).toNat:Int),.int .i64 (if ok then 0 else 5)]) (fun ok=>ok=false→t.safe=false) (fun ok F=>B (t.rdS rc ok)::blk q 146 [.int .i64 3,.int .i64 (C.c:Int),.int .i64 (C.R:Int),lv.v,.int .u64 (sq.toNat:Int),.int .i64 (e.off:Int),.int .i64 (e.leg:Int),.int .u64 (e.w.toNat:Int),.int .u64 (e.p.toNat:Int),.bool false,.int .i64 0]::sl tyPLeg lv.v (plg vs)::F) := by
 refine CSpec.of_body Tryz.func270 rfl Tryz.ntmps270 rfl fun F => ?_
 show CJ _ _ _ _ _ _ (_::_::_::F)
 have hpl := @zc8 vs
 have hL := C.hL
 have hR := C.hR
 have hc := C.hc
 have hOb := @PC.hO C
 have hsz:C.sz=16 + C.O := rfl
 have hDe := @PC.Deq C
 obtain ⟨p1,p2,p3, -⟩ := PC.plc ha
 have p4 := PC.parL p2
 have e1:legF 3 C.c a=C.leg a := by unfold PC.leg; rw [hL]
 have e2:offF 3 C.c a=C.off a := by unfold PC.off; rw [hL]
 have e3:parF 3 C.c (offF 3 C.c a)=C.par (C.off a) := by rw [e2]; unfold PC.par; rw [hL]
 have eD:2 * C.R * C.c=C.D := by unfold PC.D; rw [hL]
 refine sR<|oA rfl<|oA rfl<|nT<|zab<|sR<|oM rfl<|oP (P_lss rfl rfl)<|oM rfl<|zbp 16 false rfl wF_ fun hg1B=>p_ rfl rfl rfl hg1B (zae rfl)<|p_ rfl rfl rfl hg1B (zae rfl)<|RJ_gy (zaz rfl rfl rfl hg1B)<|zai ((zqd C.hc C.hR.2)) rfl Tryz.call271 (dC_ del1) rfl fun _ hc1=>p_ rfl rfl rfl hg1B (P_geq rfl rfl)<|oP (za2 rfl hg1B rfl)<|nT<|zap rfl (by first | exact decide_eq_false (by rw [eD]; omega) | (rw [eD]; omega))<|kT<|zab<|sR<|oM rfl<|oO<|zai ((zn8 h3)) rfl Tryz.call273 (Dels.cons del0 (dC_ del1)) rfl fun _ hc2=>oA rfl<|nT<|sR<|oM rfl<|oP (P_neq rfl rfl)<|nT<|zap rfl dF_<|kT<|sR<|oM rfl<|oP (zad rfl)<|oP (zaa rfl ⟨_,_,_,Tryz.runUnderlying146,rfl,rfl,Tryz.sizeOf137,rfl⟩)<|oV (zbq rfl foc0 Tryz.isAgg137 Tryz.sizeOf137 rfl rfl)<|oM rfl<|oO<|zai ((zuf hc (by omega) e1 e2 e3)) rfl Tryz.call275 Dels.nil rfl fun _ hc3=>oM rfl<|oP (zaj rfl rfl)<|oP (zaj rfl rfl)<|oP (zaj rfl rfl)<|oA rfl<|oA rfl<|oA rfl<|nT<|sR<|oM rfl<|oM rfl<|oM rfl<|oO (zhr ((zqe hB (t:=t) (i:=(C.leg a)) (o:=(C.off a)) hd (by omega) (by omega) (by have := hb _ (hL ▸ p1); omega) hk)) rfl Tryz.call276 (Dels.cons del2 (Dels.cons del0 (dC_ del0))) rfl (fun hof => ?_) (fun hof => ?_))
 ·
  refine oM rfl<|oP (zaj rfl rfl)<|oP (zaj rfl rfl)<|oP (zaj rfl rfl)<|oA rfl<|oA rfl<|oA rfl<|nT<|zab<|sR<|oM rfl<|oP (P_neq rfl rfl)<|nT<|za7 rfl dT_<|sR<|oM rfl<|oA rfl<|oA rfl<|nT<|zaf<|zak<|zan (res2 Tryz.results270 rfl rfl)<|CSpec.close false ?_ ?_ r_
  · rfl
  · exact hof
 ·
  refine oM rfl<|oP (zaj rfl rfl)<|oP (zaj rfl rfl)<|oP (zaj rfl rfl)<|oA rfl<|oA rfl<|oA rfl<|nT<|zab<|sR<|oM rfl<|oP (P_neq rfl rfl)<|nT<|zap rfl dF_<|kT<|zab<|sR<|oM rfl<|nT<|zap rfl rfl<|kT<|sR<|oM rfl<|oA rfl<|oA rfl<|nT<|zaf<|zan (res2 Tryz.results270 rfl rfl)<|CSpec.close true ?_ ?_ r_
  · rfl
  · exact hof
theorem c_vPut {W:World} {B:TS→HP} {vs:List IfH} {dep rc wc:Nat} {sz:Nat→Nat} (hB:BaseOk Tryz.prog B vs.length dep rc wc sz (fun i=>vs.getD i tyDev.dflt)) {t:TS} {q:Nat} {lv:Sl3} {sq:UInt64} {e en:PE} {C:PC} {V V':Nat→Nat→UInt64} (hd:t.dn=false) (h3:vs.length=3) (hb:∀ i,i < 3→C.sz≤sz i) (hn:NC C t) (hQ:Qs C none V sq e t) (ck:CK C V V' sq (sq + 1) en (fun d o=>sq≠0∧exE C e d o) True wc t) :
    CSpec Tryz.prog W 277 [ptr q 0,.agg #[.int .u64 0,.int .i64 (en.off:Int),.int .i64 (en.leg:Int),.int .u64 (en.w.toNat:Int),.int .u64 (en.p.toNat:Int)]] [B t,blk q 146 [.int .i64 3,.int .i64 (C.c:Int),.int .i64 (C.R:Int),lv.v,.int .u64 (sq.toNat:Int),.int .i64 (e.off:Int),.int .i64 (e.leg:Int),.int .u64 (e.w.toNat:Int),.int .u64 (e.p.toNat:Int),.bool false,.int .i64 0],sl tyPLeg lv.v (plg vs)] (fun x:Bool × TS => .int .i64 (if x.1 then 0 else 5)) (fun x=>(x.1=true→Ev C wc t x.2 14∧Qs C none V' (sq + 1) en x.2)∧(x.1=false→KD C V V' sq (sq + 1) e en (· = sq) (· = sq) (fun d o=>sq≠0∧exE C e d o) True wc t x.2)) (fun x F=>B x.2::(if x.1 then star [blk q 146 [.int .i64 3,.int .i64 (C.c:Int),.int .i64 (C.R:Int),lv.v,.int .u64 ((sq + 1).toNat:Int),.int .i64 (en.off:Int),.int .i64 (en.leg:Int),.int .u64 (en.w.toNat:Int),.int .u64 (en.p.toNat:Int),.bool false,.int .i64 0],sl tyPLeg lv.v (plg vs)] else star [])::F) := by
 refine CSpec.of_body Tryz.func277 rfl Tryz.ntmps277 rfl fun F => ?_
 show CJ _ _ _ _ _ _ (_::_::_::F)
 have hpl := @zc8 vs
 have hL := C.hL
 refine sR<|oO<|O_box rfl rfl rfl fun b1=>oA rfl<|nT<|sR<|oM rfl<|oP (zad rfl)<|oP (zaa rfl ⟨_,_,_,Tryz.runUnderlying146,rfl,rfl,Tryz.sizeOf144,rfl⟩)<|oV (zbq rfl foc2 Tryz.isAgg144 Tryz.sizeOf144 rfl rfl)<|oO<|zbi Tryz.zeroValue144 rfl rfl fun b2=>oO<|zbo rfl rfl foc0 Tryz.sizeOf144 rfl rfl rfl<|nT<|sR<|oP (zaa rfl ⟨_,_,_,Tryz.runUnderlying144,rfl,rfl,Tryz.sizeOf47,rfl⟩)<|oV (zac rfl foc0 rfl Tryz.isAgg47)<|oP (zh2 (a:=sq) (b:=1) rfl rfl)<|oP (zaa rfl ⟨_,_,_,Tryz.runUnderlying144,rfl,rfl,Tryz.sizeOf47,rfl⟩)<|oO<|za5 rfl rfl foc1 rfl rfl Tryz.sizeOf47<|nT<|sR<|oM rfl<|oV (zbq rfl foc1 Tryz.isAgg144 Tryz.sizeOf144 rfl rfl)<|oP (zad rfl)<|oP (zaa rfl ⟨_,_,_,Tryz.runUnderlying146,rfl,rfl,Tryz.sizeOf144,rfl⟩)<|oO<|zbo rfl rfl foc3 Tryz.sizeOf144 rfl rfl rfl<|nT<|sR<|oM rfl<|oO<|zai ((zq1 hB (V:=V) (V' := V') (qo:=sq) (eo:=e) (sq:=sq + 1) (e:=en) h3 rfl hb ck (Qs.j1 hL hd hn hQ))) rfl Tryz.call86 (Dels.cons del2 (Dels.cons del2 (dC_ del2))) rfl fun o9 ho9=>oA rfl<|nT<|zab<|sR<|oM rfl<|oP (P_neq rfl rfl)<|oM rfl ?_
 first | (refine zbu 23 rfl (fun hg1B hg1 => ?_) (fun hg1B hg1 => ?_)) | (refine zbv 23 rfl (fun hg1B hg1 => ?_) (fun hg1B hg1 => ?_)) | (refine zb3 23 rfl (fun hg1B => ?_) (fun hg1B => ?_))
 ·
  have ho:o9.1=false := by cases hq:o9.1 with
    | false=>rfl
    | true=>simp [hq] at hg1
  refine p_ rfl rfl rfl hg1B (zae rfl)<|p_ rfl rfl rfl hg1B (zad rfl)<|p_ rfl rfl rfl hg1B (zaa rfl ⟨_,_,_,Tryz.runUnderlying146,rfl,rfl,Tryz.sizeOf4,rfl⟩)<|v_ rfl rfl rfl hg1B (zac rfl foc1 rfl Tryz.isAgg4)<|p_ rfl rfl rfl hg1B (P_not rfl)<|oP (zbe rfl hg1B rfl)<|nT ?_
  first | (refine zav rfl (fun hg2 => ?_) (fun hg2 => ?_)) | (refine zaw rfl (fun hg2 => ?_) (fun hg2 => ?_)) | (refine za1 rfl (fun hg2 => ?_) (fun hg2 => ?_))
  ·
   refine zag<|oM rfl<|oV (zbq rfl foc3 Tryz.isAgg144 Tryz.sizeOf144 rfl rfl)<|oP (zad rfl)<|oP (zaa rfl ⟨_,_,_,Tryz.runUnderlying146,rfl,rfl,Tryz.sizeOf144,rfl⟩)<|oO<|zbo rfl rfl foc1 Tryz.sizeOf144 rfl rfl rfl<|nT<|sR<|oM rfl<|oA rfl<|nT<|zaf<|zan (res1 Tryz.results277 rfl)<|CSpec.close (false,o9.2.1) ?_ ?_ (entNo (t0_ (e_ (e_ (e_ (e_ r_))))))
   · rw [ho]
   · exact ⟨fun h=>(by cases h),fun _=>ho9.2 ho⟩
  ·
   refine kT<|sR<|oM rfl<|oA rfl<|nT<|zaf<|zan (res1 Tryz.results277 rfl)<|CSpec.close (false,o9.2.1) ?_ ?_ (entNo (t0_ (e_ (e_ (e_ (e_ r_))))))
   · rw [ho]
   · exact ⟨fun h=>(by cases h),fun _=>ho9.2 ho⟩
 ·
  have ho:o9.1=true := by cases hq:o9.1 with
    | true=>rfl
    | false=>simp [hq] at hg1
  refine g_ rfl rfl rfl hg1B rfl<|g_ rfl rfl rfl hg1B rfl<|g_ rfl rfl rfl hg1B rfl<|g_ rfl rfl rfl hg1B rfl<|g_ rfl rfl rfl hg1B rfl<|oP (za2 rfl hg1B rfl)<|nT<|zap rfl rfl<|kT<|sR<|oM rfl<|oA rfl<|nT<|zaf<|zan (res1 Tryz.results277 rfl)<|CSpec.close (true,o9.2.1) ?_ ?_ (z1j (t0_ (Ent.takeC del0 (by rw [(ho9.1 ho).2.2]) (t0_ (e_ (e_ r_))))))
  · rw [ho]
  · exact ⟨fun _=>⟨(ho9.1 ho).1,(ho9.1 ho).2.1⟩,fun h=>(by cases h)⟩
theorem zy7 {W:World} {B:TS→HP} {vs:List IfH} {dep rc wc:Nat} {sz:Nat→Nat} (hB:BaseOk Tryz.prog B vs.length dep rc wc sz (fun i=>vs.getD i tyDev.dflt)) {t:TS} {q c R:Nat} {lv:Sl3} {sq:UInt64} {e:PE} (hd:t.dn=false) (h3:vs.length=3) :
    CSpec Tryz.prog W 269 [ptr q 0] [B t,blk q 146 [.int .i64 3,.int .i64 (c:Int),.int .i64 (R:Int),lv.v,.int .u64 (sq.toNat:Int),.int .i64 (e.off:Int),.int .i64 (e.leg:Int),.int .u64 (e.w.toNat:Int),.int .u64 (e.p.toNat:Int),.bool false,.int .i64 0],sl tyPLeg lv.v (plg vs)] (fun _:Unit => .int .i64 0) (fun _=>True) (fun _ F=>B (t.flsN 3)::blk q 146 [.int .i64 3,.int .i64 (c:Int),.int .i64 (R:Int),lv.v,.int .u64 (sq.toNat:Int),.int .i64 (e.off:Int),.int .i64 (e.leg:Int),.int .u64 (e.w.toNat:Int),.int .u64 (e.p.toNat:Int),.bool false,.int .i64 0]::sl tyPLeg lv.v (plg vs)::F) := by
 refine CSpec.of_body Tryz.func269 rfl Tryz.ntmps269 rfl fun F => ?_
 show CJ _ _ _ _ _ _ (_::_::_::F)
 have hpl := @zc8 vs
 refine sR<|oA rfl<|nT<|zab<|sR<|oM rfl<|oO<|zai ((zn8 h3)) rfl Tryz.call273 (Dels.cons del1 (dC_ del1)) rfl fun _ hc1=>oA rfl<|nT<|sR<|oM rfl<|oP (P_neq rfl rfl)<|nT<|zap rfl dF_<|kT<|sR<|oA rfl<|nT<|zab<|sR<|oM rfl<|oP (zad rfl)<|oP (zaa rfl ⟨_,_,_,Tryz.runUnderlying146,rfl,rfl,Tryz.sizeOf142,rfl⟩)<|oV (zac rfl foc0 rfl Tryz.isAgg142)<|oV (V_len rfl foc1 (Reads.sl _ _ _) Tryz.runUnderlying142)<|oM rfl<|nT<|zao<|za8 (X:=Nat) [2,4,5,6,17,18,19,20,21,22,23,24,25,26,27,28,29,30,31,32,33,34,35,36,37] (fun i  => ([(17,.int .i64 (i:Nat)),(4,.int .i64 0)]:Slots)) (fun i R=>B (t.flsN i)::R) (fun i  => i≤vs.length) (fun i  => vs.length - i) (0) ?_ ?_ (t2_ r_) ?_
 · exact Nat.zero_le _
 · exact ⟨rfl,rfl,True.intro⟩
 ·
  intro i hil
  show CJ _ _ _ _ _ (([(17,.int .i64 (i:Nat)),(4,.int .i64 0)]:Slots) ++ forget _ _) (B (t.flsN i)::_)
  have hdi:(t.flsN i).dn=false := by rw [zgy]; exact hd
  refine sR<|oP (P_lss rfl rfl)<|nT<|zab ?_
  first | (refine zav rfl (fun hg2 => ?_) (fun hg2 => ?_)) | (refine zaw rfl (fun hg2 => ?_) (fun hg2 => ?_)) | (refine za1 rfl (fun hg2 => ?_) (fun hg2 => ?_))
  ·
   refine kT<|zab<|zao<|sR ?_
   have hi:i < vs.length := by omega
   refine oM rfl<|oA rfl<|nT<|zab<|sR<|oM rfl<|oP (zad rfl)<|oP (zaa rfl ⟨_,_,_,Tryz.runUnderlying146,rfl,rfl,Tryz.sizeOf142,rfl⟩)<|oV (zac rfl foc1 rfl Tryz.isAgg142)<|oM rfl ?_
   first | (refine RJ_op rfl (OJ_V (zam rfl rfl rfl (by omega) foc2 (Reads.sl _ _ _) Tryz.runUnderlying142 Tryz.sizeOf148) rfl ?_)) | (refine RJ_op rfl (OJ_V (zam rfl rfl (Int.toNat_of_nonneg (by omega)).symm (by omega) foc2 (Reads.sl _ _ _) Tryz.runUnderlying142 Tryz.sizeOf148) rfl ?_))
   refine oP (zbl rfl ⟨_,_,_,Tryz.runUnderlying148,rfl,rfl,Tryz.sizeOf4,rfl⟩)<|oV (VJ_eq (v := .bool false) (za6 rfl rfl (by omega) foc2 (Reads.sl _ _ _) rfl rfl Tryz.isAgg4) (by rw [zh6]))<|nT<|zap rfl rfl<|kT<|sR<|oM rfl<|oM rfl<|oO<|zai ((e_fl2 hB hdi hi)) rfl Tryz.call83 (Dels.cons del0 (Dels.cons del0 (dC_ del0))) rfl fun _ hc2=>oA rfl<|nT<|zab<|sR<|oM rfl<|oP (P_eql rfl rfl)<|nT<|zap rfl dF_<|kT<|sR<|oM rfl<|oP (P_eql rfl rfl)<|nT<|za7 rfl dT_<|zag<|oM rfl<|oA rfl<|za0<|zah<|zar<|zag<|oP (P_add rfl rfl (by omega))<|oM rfl<|za0<|zba (i + 1) (by first | omega | (simp only []; omega)) ?_ kP_ ?_ r_
   · show i + 1≤vs.length; omega
   · exact ⟨rfl,rfl,True.intro⟩
  ·
   refine zbc<|zay<|zau<|zat<|zar<|sR<|oM rfl<|oA rfl<|nT<|zaf ?_
   obtain rfl:i=3 := by omega
   refine zan (res1 Tryz.results269 rfl)<|CSpec.close () ?_ ?_ r_
   · rfl
   · trivial
end Go.Proofs
namespace Go.Proofs.Ts
open Go.VG
structure WO (C:PC) (V':Nat→Nat→UInt64) (qn:UInt64) (en:PE) (t t':TS) (n:Nat):Prop where
  dn:t'.dn=false
  sf:t'.safe=t.safe
  k:t.k - n≤t'.k
  w:t'.w=t.w + 14
  q:Qs C none V' qn en t'
structure WF (C:PC) (V:Nat→Nat→UInt64) (q:UInt64) (e:PE) (V':Nat→Nat→UInt64) (qn:UInt64) (en:PE) (t t':TS) (n:Nat):Prop where
  dn:t'.dn=true
  us:t.safe=false
  sf:t'.safe=t.safe
  k:t.k - n≤t'.k
  w:t.w≤t'.w
  r:Qs C none V q e t' ∨ Pe C none V q e V' qn en t' ∧ t.w + 1≤t'.w
section
variable {C:PC} {V V':Nat→Nat→UInt64} {q qn:UInt64} {e en:PE} {rc wc a:Nat} {t t':TS} {v:UInt64} {nw:Nat→UInt64} {cd:Nat→List UInt64}
theorem WO.of (h:Ev C wc ((t.rdS rc true).rdS rc true) t' 14) (hq:Qs C none V' qn en t'):WO C V' qn en t t' (2 * rc + 14 * wc) :=
  ⟨h.dn,h.sf,by have h1:t'.k=t.k - rc - rc - 14 * wc := h.k; omega,h.w,hq⟩
theorem WF.rd {ok:Bool} (hs:t.safe=false) (h:Qs C none V q e t):WF C V q e V' qn en t (((if ok then t.rdS rc true else t)).rdS rc false) (2 * rc + 14 * wc) := by
  cases ok
  · exact ⟨rfl,hs,rfl,by show t.k - _≤t.k - rc; omega,Nat.le_refl _,.inl (h.ext rfl rfl)⟩
  · exact ⟨rfl,hs,rfl,by show t.k - _≤t.k - rc - rc; omega,Nat.le_refl _,.inl (h.ext rfl rfl)⟩
theorem WF.of (hL:C.L=3) (h:KD C V V' q qn e en (· = q) (· = q) (fun d o=>q≠0∧exE C e d o) True wc ((t.rdS rc true).rdS rc true) t'):WF C V q e V' qn en t t' (2 * rc + 14 * wc) := by
  obtain ⟨h1,h2⟩ := KD.pe hL h
  exact ⟨h1.dn,h1.us,h1.sf,by have h3:t.k - rc - rc - 14 * wc≤t'.k := h1.k; omega,h1.w,h2⟩
theorem WO.rel (ha:a < C.D) (hw:t.w≤500000) {m:UInt64 × PE} (hj:JV C V m.1 m.2) (hm:m.1.toNat≤t.w) (hv:∀ b,b < C.D→nw b=V (C.leg b) (C.off b)∧nw b ∈ cd b) (h:WO C (wrV C V a v) (m.1 + 1) (wrE C V a v) t t' (2 * rc + 14 * wc)):relP C t' (m.1 + 1,wrE C V a v) (nput nw a v) (cput cd a v) := by
  refine ⟨wrV C V a v,(wr_nx ha hj).jv (by omega),?_,h.q,fun b hb => ?_⟩
  · show (m.1 + 1).toNat≤t'.w
    rw [zgr hj.sm,h.w]; omega
  · rw [zvj ha hb]
    unfold nput cput
    by_cases z:b=a
    · subst z
      rw [if_pos rfl,if_pos rfl,if_pos rfl]
      exact ⟨rfl,List.mem_append.2 (.inr (List.mem_singleton.2 rfl))⟩
    · rw [if_neg z,if_neg (fun y=>z y.symm),if_neg (fun y=>z y.symm)]
      exact hv b hb
theorem WF.rel (ha:a < C.D) (hw:t.w≤500000) {m:UInt64 × PE} (hj:JV C V m.1 m.2) (hm:m.1.toNat≤t.w) (hv:∀ b,b < C.D→nw b=V (C.leg b) (C.off b)∧nw b ∈ cd b) (h:WF C V m.1 m.2 (wrV C V a v) (m.1 + 1) (wrE C V a v) t t' (2 * rc + 14 * wc)):relPD C t' (cput cd a v) := by
  have hin:∀ b,b < C.D→V (C.leg b) (C.off b) ∈ cput cd a v b := fun b hb=>by
    have h1 := (hv b hb).1 ▸ (hv b hb).2
    unfold cput
    split
    · exact List.mem_append.2 (.inl h1)
    · exact h1
  rcases h.r with h1 | ⟨h1,h2⟩
  · exact .inl ⟨V,m.1,m.2,hj,Nat.le_trans hm h.w,h1,hin⟩
  · refine .inr ⟨V,m.1,m.2,wrV C V a v,m.1 + 1,wrE C V a v,hj,wr_nx ha hj,?_,?_,h1,fun b hb=>⟨hin b hb,?_⟩⟩
    · rw [zgr hj.sm]; omega
    · rw [zgr hj.sm]; omega
    · rw [zvj ha hb]
      by_cases z:b=a
      · subst z
        rw [if_pos rfl]
        unfold cput
        rw [if_pos rfl]
        exact List.mem_append.2 (.inr (List.mem_singleton.2 rfl))
      · rw [if_neg z]; exact hin b hb
theorem z1l (ha:a < C.D) (h:Qs C none V q e t):(⟨C.off a,C.leg a,v,now t (C.leg a) (16 + C.off a) ^^^ v ^^^ now t (C.par (C.off a)) (16 + C.off a)⟩:PE)=wrE C V a v := by
  obtain ⟨p1,p2,p3, -⟩ := PC.plc ha
  rw [h.nw p1 p2,h.nw (PC.parL p2) p2]; rfl
end
end Go.Proofs.Ts
set_option linter.unusedSimpArgs false
set_option maxRecDepth 20000
namespace Go.Proofs
open Go.VG Ts
theorem zj2 (v0:Int) (v1:Int) (v2:Int) (v3:Int):∀ w,(Instr.build 144 (#[(1,.int .i64 v0),(2,.int .i64 v1),(3,.int .u64 v2),(4,.int .u64 v3)]:Array (Nat × Value))).run Tryz.prog w = .ok (.agg #[.int .u64 0,.int .i64 v0,.int .i64 v1,.int .u64 v2,.int .u64 v3]) w := fun w=>by kernel_rfl
theorem zy8 {W:World} {B:TS→HP} {vs:List IfH} {dep rc wc:Nat} {sz:Nat→Nat} (hB:BaseOk Tryz.prog B vs.length dep rc wc sz (fun i=>vs.getD i tyDev.dflt)) {t:TS} {q:Nat} {lv:Sl3} {sq:UInt64} {e:PE} {C:PC} {V:Nat→Nat→UInt64} {a:Nat} {w:UInt64} (hd:t.dn=false) (h3:vs.length=3) (hb:∀ i,i < 3→C.sz≤sz i) (ha:a < C.D) (hn:NC C t) (hQ:Qs C none V sq e t) (hJ:JV C V sq e) (hk:2 * rc + 14 * wc≤t.k) :
    CSpec Tryz.prog W 272 [ptr q 0,.int .i64 (a:Int),.int .u64 (w.toNat:Int)] [B t,blk q 146 [.int .i64 3,.int .i64 (C.c:Int),.int .i64 (C.R:Int),lv.v,.int .u64 (sq.toNat:Int),.int .i64 (e.off:Int),.int .i64 (e.leg:Int),.int .u64 (e.w.toNat:Int),.int .u64 (e.p.toNat:Int),.bool false,.int .i64 0],sl tyPLeg lv.v (plg vs)] (fun x:Bool × TS => .int .i64 (if x.1 then 0 else 5)) (fun x=>(x.1=true→WO C (wrV C V a w) (sq + 1) (wrE C V a w) t x.2 (2 * rc + 14 * wc))∧(x.1=false→WF C V sq e (wrV C V a w) (sq + 1) (wrE C V a w) t x.2 (2 * rc + 14 * wc))) (fun x F=>B x.2::(if x.1 then star [blk q 146 [.int .i64 3,.int .i64 (C.c:Int),.int .i64 (C.R:Int),lv.v,.int .u64 ((sq + 1).toNat:Int),.int .i64 ((wrE C V a w).off:Int),.int .i64 ((wrE C V a w).leg:Int),.int .u64 ((wrE C V a w).w.toNat:Int),.int .u64 ((wrE C V a w).p.toNat:Int),.bool false,.int .i64 0],sl tyPLeg lv.v (plg vs)] else star [])::F) := by
 refine CSpec.of_body Tryz.func272 rfl Tryz.ntmps272 rfl fun F => ?_
 show CJ _ _ _ _ _ _ (_::_::_::F)
 have hpl := @zc8 vs
 have hL := C.hL
 have hR := C.hR
 have hc := C.hc
 have hOb := @PC.hO C
 have hsz:C.sz=16 + C.O := rfl
 have hDe := @PC.Deq C
 obtain ⟨p1,p2,p3, -⟩ := PC.plc ha
 have p4 := PC.parL p2
 have e1:legF 3 C.c a=C.leg a := by unfold PC.leg; rw [hL]
 have e2:offF 3 C.c a=C.off a := by unfold PC.off; rw [hL]
 have e3:parF 3 C.c (offF 3 C.c a)=C.par (C.off a) := by rw [e2]; unfold PC.par; rw [hL]
 have eD:2 * C.R * C.c=C.D := by unfold PC.D; rw [hL]
 have hen := z1l (v:=w) ha hQ
 refine sR<|oA rfl<|nT<|zab<|sR<|oM rfl<|oP (P_lss rfl rfl)<|oM rfl<|zbp 18 false rfl wF_ fun hg1B=>p_ rfl rfl rfl hg1B (zae rfl)<|p_ rfl rfl rfl hg1B (zae rfl)<|RJ_gy (zaz rfl rfl rfl hg1B)<|zai ((zqd C.hc C.hR.2)) rfl Tryz.call271 (dC_ del1) rfl fun _ hc1=>p_ rfl rfl rfl hg1B (P_geq rfl rfl)<|oP (za2 rfl hg1B rfl)<|nT<|zap rfl (by first | exact decide_eq_false (by rw [eD]; omega) | (rw [eD]; omega))<|kT<|zab<|sR<|oM rfl<|oO<|zai ((zn8 h3)) rfl Tryz.call273 (Dels.cons del0 (dC_ del1)) rfl fun _ hc2=>oA rfl<|nT<|sR<|oM rfl<|oP (P_neq rfl rfl)<|nT<|zap rfl dF_<|kT<|sR<|oM rfl<|oP (zad rfl)<|oP (zaa rfl ⟨_,_,_,Tryz.runUnderlying146,rfl,rfl,Tryz.sizeOf137,rfl⟩)<|oV (zbq rfl foc0 Tryz.isAgg137 Tryz.sizeOf137 rfl rfl)<|oM rfl<|oO<|zai ((zuf hc (by omega) e1 e2 e3)) rfl Tryz.call275 Dels.nil rfl fun _ hc3=>oM rfl<|oP (zaj rfl rfl)<|oP (zaj rfl rfl)<|oP (zaj rfl rfl)<|oA rfl<|oA rfl<|oA rfl<|nT<|sR<|oM rfl<|oM rfl<|oM rfl<|oO (zhr ((zqe hB (t:=t) (i:=(C.leg a)) (o:=(C.off a)) hd (by omega) (by omega) (by have := hb _ (hL ▸ p1); omega) (by omega))) rfl Tryz.call276 (Dels.cons del2 (Dels.cons del0 (dC_ del0))) rfl (fun hof1 => ?_) (fun hof1 => ?_))
 ·
  refine oM rfl<|oP (zaj rfl rfl)<|oP (zaj rfl rfl)<|oP (zaj rfl rfl)<|oA rfl<|oA rfl<|oA rfl<|nT<|zab<|sR<|oM rfl<|oP (P_neq rfl rfl)<|nT<|za7 rfl dT_<|sR<|oM rfl<|oA rfl<|nT<|zaf<|zak<|zan (res1 Tryz.results272 rfl)<|CSpec.close (false,(t).rdS rc false) ?_ ?_ (entNo (t0_ (e_ (e_ r_))))
  · rfl
  · exact ⟨fun h=>(by cases h),fun _=>WF.rd (ok:=false) (hof1 rfl) hQ⟩
 ·
  refine oM rfl<|oP (zaj rfl rfl)<|oP (zaj rfl rfl)<|oP (zaj rfl rfl)<|oA rfl<|oA rfl<|oA rfl<|nT<|zab<|sR<|oM rfl<|oP (P_neq rfl rfl)<|nT<|zap rfl dF_<|kT<|sR<|oM rfl<|oM rfl<|oM rfl<|oO (zhr ((zqe hB (t:=(t.rdS rc true)) (i:=(C.par (C.off a))) (o:=(C.off a)) hd (by omega) (by omega) (by have := hb _ (hL ▸ p4); omega) (show rc≤t.k - rc by omega))) rfl Tryz.call276 (Dels.cons del0 (Dels.cons del0 (dC_ del0))) rfl (fun hof2 => ?_) (fun hof2 => ?_))
  ·
   refine oM rfl<|oP (zaj rfl rfl)<|oP (zaj rfl rfl)<|oP (zaj rfl rfl)<|oA rfl<|oA rfl<|oA rfl<|nT<|zab<|sR<|oM rfl<|oP (P_neq rfl rfl)<|nT<|za7 rfl dT_<|sR<|oM rfl<|oA rfl<|nT<|zaf<|zak<|zan (res1 Tryz.results272 rfl)<|CSpec.close (false,(t.rdS rc true).rdS rc false) ?_ ?_ (entNo (t0_ (e_ (e_ r_))))
   · rfl
   · exact ⟨fun h=>(by cases h),fun _=>WF.rd (ok:=true) (hof2 rfl) hQ⟩
  ·
   refine oM rfl<|oP (zaj rfl rfl)<|oP (zaj rfl rfl)<|oP (zaj rfl rfl)<|oA rfl<|oA rfl<|oA rfl<|nT<|zab<|sR<|oM rfl<|oP (P_neq rfl rfl)<|nT<|zap rfl dF_<|kT<|sR<|oM rfl<|oM rfl<|oM rfl<|oM rfl<|oM rfl<|oM rfl<|oM rfl<|oO<|zai ((zoy (old:=Ts.now t (C.leg a) (16 + C.off a)) (now:=w) (parity:=Ts.now t (C.par (C.off a)) (16 + C.off a)) rfl)) rfl Tryz.call278 Dels.nil rfl fun _ hc6=>oP (zbk rfl (zj2 _ _ _ _))<|oO<|zai ((c_vPut hB (t:=((t.rdS rc true).rdS rc true)) (en:=(⟨C.off a,C.leg a,w,Ts.now t (C.leg a) (16 + C.off a) ^^^ w ^^^ Ts.now t (C.par (C.off a)) (16 + C.off a)⟩:PE)) (V:=V) (V' := wrV C V a w) hd h3 hb hn (hQ.ext rfl rfl) (by rw [hen]; exact CK.of_nx hJ (wr_nx ha hJ) (show 14 * wc≤t.k - rc - rc by omega)))) rfl Tryz.call277 (Dels.cons del0 (Dels.cons del0 (dC_ del0))) rfl fun o9 ho9=>oA rfl<|nT<|zaf<|zan (res1 Tryz.results272 rfl)<|CSpec.close o9 ?_ ?_ (by rw [hen]; exact r_)
   · rfl
   ·
    rw [hen] at ho9
    exact ⟨fun z=>WO.of (ho9.1 z).1 (ho9.1 z).2,fun z=>WF.of hL (ho9.2 z)⟩
section
variable {B:TS→HP} {vs:List IfH} {dep rc wc:Nat} {sz:Nat→Nat} {q:Nat} {lv:Sl3} {C:PC}
def parM (q:Nat) (lv:Sl3) (C:PC) (vs:List IfH) (m:UInt64 × PE):HP := star [blk q 146 [.int .i64 3,.int .i64 (C.c:Int),.int .i64 (C.R:Int),lv.v,.int .u64 (m.1.toNat:Int),.int .i64 (m.2.off:Int),.int .i64 (m.2.leg:Int),.int .u64 (m.2.w.toNat:Int),.int .u64 (m.2.p.toNat:Int),.bool false,.int .i64 0],sl tyPLeg lv.v (plg vs)]
theorem zy9 (hB:BaseOk Tryz.prog B vs.length dep rc wc sz (fun i=>vs.getD i tyDev.dflt)) (h3:vs.length=3) (hdep:dep < 60) (hb:∀ i,i < 3→C.sz≤sz i) :
    NodeC Tryz.prog B (M:=UInt64 × PE) (parM q lv C vs) ⟨81,ptr q 0⟩ (dep + 1) rc (2 * rc + 14 * wc) C.D false (relP C) (relPD C) where
  depb := by omega
  szb := by have h1 := @PC.Deq C; have h2 := @PC.hO C; omega
  na := fun n hn w=>by
    obtain ⟨m,rfl⟩:∃ m,n=m + 1 := ⟨n - 1,by omega⟩
    kernel_rfl
  size := by
    intro W m
    have eD:2 * C.R * C.c=C.D := by unfold PC.D; rw [C.hL]
    rw [← eD]
    exact IOk.conseq (G:=[]) (IOk.conseq (G:=[sl tyPLeg lv.v (plg vs)]) (IOk.of (fun n w=>by kernel_rfl) Tryz.call271 (zqd (sq:=m.1) (e:=m.2) (pd:=false) C.hc C.hR.2)) (fun _=>Ent.refl) (fun _ _=>Ent.refl)) (fun F _ hp=>stars_star.1 hp) (fun _ F _ hp=>stars_star.2 hp)
  rd := by
    intro W t m nw cd a hr hd ha hk
    refine IOk.map (fun ok:Bool=>((ok,t.rdS rc ok,m):Bool × TS × (UInt64 × PE))) (IOk.conseq (G:=[]) (IOk.of (fun n w=>by kernel_rfl) Tryz.call270 (z1k (sq:=m.1) (e:=m.2) hB hd h3 hb ha hk)) (fun F=>zf4) (fun _ F=>Ent.refl)) (fun ok => ?_) (fun ok h => ?_) (fun ok F => ?_)
    · obtain ⟨V,g1,g2,g3,g4⟩ := hr
      obtain ⟨p1,p2,p3, -⟩ := PC.plc ha
      cases ok
      · rfl
      · show _=Value.tuple #[.int .u64 ((nw a).toNat:Int),.int .i64 0]
        rw [(g4 a ha).1, ← g3.nw p1 p2]; rfl
    · refine ⟨fun h1 => ?_,fun h1=>⟨?_,h h1⟩,zsk hd,Par.rd,fun h1=>(by cases h1)⟩
      · have h2:ok=true := h1
        subst h2; exact hr.ext rfl rfl (Nat.le_refl _)
      · have h2:ok=false := h1
        subst h2; exact (hr.ext (t' := t.rdS rc false) rfl rfl (Nat.le_refl _)).ud
    · cases ok
      · exact zj1 (l:=[blk q 146 [.int .i64 3,.int .i64 (C.c:Int),.int .i64 (C.R:Int),lv.v,.int .u64 (m.1.toNat:Int),.int .i64 (m.2.off:Int),.int .i64 (m.2.leg:Int),.int .u64 (m.2.w.toNat:Int),.int .u64 (m.2.p.toNat:Int),.bool false,.int .i64 0],sl tyPLeg lv.v (plg vs)])
      · exact zfv (l:=[blk q 146 [.int .i64 3,.int .i64 (C.c:Int),.int .i64 (C.R:Int),lv.v,.int .u64 (m.1.toNat:Int),.int .i64 (m.2.off:Int),.int .i64 (m.2.leg:Int),.int .u64 (m.2.w.toNat:Int),.int .u64 (m.2.p.toNat:Int),.bool false,.int .i64 0],sl tyPLeg lv.v (plg vs)])
  wr := by
    intro W t m nw cd a v hr hd ha hk n hn F w hs
    obtain ⟨gg,hgg⟩ := hs.heap
    have hwb := hB.wb _ hgg
    have hnc:NC C t := fun d b hd' hb' => hB.nc _ hgg hd d b (by have := C.hL; omega) (Nat.lt_of_lt_of_le hb' (hb d (by have := C.hL; omega)))
    obtain ⟨V,g1,g2,g3,g4⟩ := hr
    refine IOk.map (fun x:Bool × TS=>((x.1,x.2,if x.1 then (m.1 + 1,wrE C V a v) else m):Bool × TS × (UInt64 × PE))) (IOk.conseq (G:=[]) (IOk.of (fun n w=>by kernel_rfl) Tryz.call272 (zy8 (sq:=m.1) (e:=m.2) hB hd h3 hb ha hnc g3 g1 hk)) (fun F=>zf4) (fun _ F=>Ent.refl)) (fun x=>rfl) (fun x h => ?_) (fun x F => ?_) n hn F w ⟨hs.os,hs.tape,hs.output,gg,hgg⟩
    · obtain ⟨ok,t2⟩ := x
      cases ok with
      | false =>
        have h4 := h.2 rfl
        exact ⟨(fun e=>by cases e),fun _=>⟨h4.rel ha hwb g1 g2 g4,h4.us⟩,h4.dn,⟨h4.sf,h4.k⟩,fun e=>(by cases e),fun e=>(by cases e)⟩
      | true =>
        have h4 := h.1 rfl
        exact ⟨fun _=>h4.rel ha hwb g1 g2 g4,fun e=>(by cases e),h4.dn,⟨h4.sf,h4.k⟩,fun e=>(by cases e),fun _=>by have h9:t2.w=t.w + 14 := h4.w; show t.w + 1≤t2.w; omega⟩
    · obtain ⟨ok,t2⟩ := x
      cases ok
      · exact Ent.refl
      · exact Ent.refl
  fl := by
    intro W t m nw cd hr hd n hn F w hs
    obtain ⟨gg,hgg⟩ := hs.heap
    have hL := C.hL
    have hnc:NC C t := fun d b hd' hb' => hB.nc _ hgg hd d b (by omega) (Nat.lt_of_lt_of_le hb' (hb d (by omega)))
    refine IOk.map (fun _:Unit=>((t.flsN 3,m):TS × (UInt64 × PE))) (IOk.conseq (G:=[]) (IOk.of (fun n w=>by kernel_rfl) Tryz.call269 (zy7 (sq:=m.1) (e:=m.2) hB hd h3)) (fun F=>zf4) (fun _ F=>Ent.refl)) (fun _=>rfl) (fun _ _ => ?_) (fun _ F=>zfv (l:=[blk q 146 [.int .i64 3,.int .i64 (C.c:Int),.int .i64 (C.R:Int),lv.v,.int .u64 (m.1.toNat:Int),.int .i64 (m.2.off:Int),.int .i64 (m.2.leg:Int),.int .u64 (m.2.w.toNat:Int),.int .u64 (m.2.p.toNat:Int),.bool false,.int .i64 0],sl tyPLeg lv.v (plg vs)])) n hn F w ⟨hs.os,hs.tape,hs.output,gg,hgg⟩
    obtain ⟨V,g1,g2,g3,g4⟩ := hr
    exact ⟨⟨V,g1,by rw [zwg]; exact g2,(Qs.flsN hL hnc g3 3).2,fun b hb=>⟨(g4 b hb).1,List.mem_singleton.2 rfl⟩⟩,by rw [zgy]; exact hd,Par.flsN,fun e=>(by cases e)⟩
  ext h h1 h2 h3 := h.ext h1 h2 h3
  ud h := h.ud
  nc h a ha := h.nc ha
end
end Go.Proofs
namespace Go.Proofs.Ts
open Go.VG
theorem zww {sz:Nat→Nat} : mmin sz 3=min (min (sz 0) (sz 1)) (sz 2) := by
  show min (min (min (sz 0) (sz 0)) (sz 1)) (sz 2)=_
  rw [Nat.min_self]
theorem zkz {sz:Nat→Nat} {lo hi:Nat} (h:∀ i,i < 3→lo≤sz i∧sz i≤hi):∀ i,i≤3→lo≤mmin sz i∧mmin sz i≤hi
  | 0,_=>h 0 (by decide)
  | i + 1,hi=>by
    have h1 := zkz h i (by omega)
    have h2 := h i (by omega)
    show lo≤min _ _∧min _ _≤_
    omega
theorem zss {sz:Nat→Nat} : ∀ i,i < 3→mmin sz 3≤sz i := fun i hi=>by
  rw [zww]
  have h:i=0∨i=1∨i=2 := by omega
  rcases h with rfl | rfl | rfl <;> omega
def decE (t:TS) (i:Nat) (q:UInt64):PE := ⟨(zbw (now t i (slq q)) 3).toNat,((now t i (slq q)) &&& (7:UInt64)).toNat,now t i (slq q + 1),now t i (slq q + 2)⟩
def pe0:PE := ⟨0,0,0,0⟩
def fnd (t:TS):Nat→UInt64 × PE
  | 0=>(0,pe0)
  | i + 1=>if (now t i 0).toNat≤(fnd t i).1.toNat then fnd t i else (now t i 0,decE t i (now t i 0))
def rpS (t:TS) (i:Nat) (p:UInt64 × PE):UInt64 × PE := if (now t i 0).toNat≤p.1.toNat then p else (now t i 0,decE t i (now t i 0))
theorem rpS_le {t:TS} {i:Nat} {p:UInt64 × PE} (h:(now t i 0).toNat≤p.1.toNat):rpS t i p=p := if_pos h
theorem rpS_gt {t:TS} {i:Nat} {p:UInt64 × PE} (h:¬ (now t i 0).toNat≤p.1.toNat):rpS t i p=(now t i 0,decE t i (now t i 0)) := if_neg h
theorem zza:∀ off:Nat,off < 128 → ∀ leg:Nat,leg < 8→(zbw (hdW off leg) 3).toNat=off∧((hdW off leg) &&& (7:UInt64)).toNat=leg := by decide +kernel
theorem z1m (w:UInt64):IntKind.i64.wrap ((zbw w 3).toNat:Int)=((zbw w 3).toNat:Int) := by
  have h2:(zbw w 3).toNat≤2305843009213693952 := by
    rw [zlb]
    have h1 := w.toNat_lt
    have:(2:Nat) ^ min 3 64=8 := rfl
    rw [this]; omega
  generalize (zbw w 3).toNat=z at *
  exact zcx (by omega) (by omega)
theorem z1n (w:UInt64):IntKind.i64.wrap ((w &&& (7:UInt64)).toNat:Int)=((w &&& (7:UInt64)).toNat:Int) := by
  have h:(w &&& (7:UInt64)).toNat≤7 := by
    rw [UInt64.toNat_and]
    exact Nat.and_le_right
  exact zcx (by omega) (by omega)
section
variable {C:PC} {V:Nat→Nat→UInt64} {q:UInt64} {e:PE} {t t':TS} {wc:Nat}
theorem Rc.ext (h:Rc C none V q e t) (h1:t'.nw=t.nw) (h2:t'.cd=t.cd):Rc C none V q e t' := by
  have n:∀ d a,now t' d a=now t d a := fun d a=>by unfold now; rw [h1]
  have c:∀ d a,cand t' d a=cand t d a := fun d a=>by unfold cand; rw [h2]
  exact ⟨fun d hd hs=>by show (now t' d 0).toNat≤_; rw [n]; exact h.lo d hd hs,fun d hd hs z z2 i hi=>by rw [n] at z ⊢; exact h.bd d hd hs z z2 i hi,fun d hd hs o ho hx=>by rw [n]; exact h.dt d hd hs o ho hx,(let ⟨d,h3,h4,h5⟩ := h.ex; ⟨d,h3,h4,by rw [n]; exact h5⟩),fun d b=>by rw [c,n]; exact h.sg d b⟩
theorem dec_ok (hev:EV C V e) (h:Rc C none V q e t) (hq:q≠0) {d:Nat} (hd:d < C.L) (hh:now t d 0=q):decE t d q=e := by
  have hb := h.bd d hd (by simp) hh hq
  have h0 := hb 0 (by decide)
  have h1 := hb 1 (by decide)
  have h2 := hb 2 (by decide)
  have ho := hev.off
  have hO := @PC.hO C
  have hl := hev.leg
  have hL := C.hL
  have h3 := zza e.off (by omega) e.leg (by omega)
  have h00:now t d (slq q)=hdW e.off e.leg := h0
  unfold decE
  rw [h00,h3.1,h3.2,h1,h2]; rfl
theorem zwx (h:Rc C none V q e t) (hL:C.L=3):∀ i,i≤3→(fnd t i).1.toNat≤q.toNat
  | 0,_=>Nat.zero_le _
  | i + 1,hi=>by
    show (if (now t i 0).toNat≤(fnd t i).1.toNat then fnd t i else (now t i 0,decE t i (now t i 0))).1.toNat≤q.toNat
    split
    · exact zwx h hL i (by omega)
    · exact h.lo i (by omega) (by simp)
theorem zwy (hev:EV C V e) (h:Rc C none V q e t) (hL:C.L=3) (hq:q≠0):∀ i,i≤3→((∃ d,d < i∧now t d 0=q)→fnd t i=(q,e))∧(fnd t i).1.toNat≤q.toNat
  | 0,_=>⟨fun ⟨d,hd,_⟩=>absurd hd (by omega),Nat.zero_le _⟩
  | i + 1,hi=>by
    refine ⟨fun ⟨d,hd,hh⟩ => ?_,zwx h hL (i + 1) hi⟩
    obtain ⟨h1,h2⟩ := zwy hev h hL hq i (by omega)
    show (if (now t i 0).toNat≤(fnd t i).1.toNat then fnd t i else (now t i 0,decE t i (now t i 0)))=(q,e)
    by_cases hx:∃ d,d < i∧now t d 0=q
    · have h3 := h1 hx
      rw [h3,if_pos (h.lo i (by omega) (by simp))]
    · have hdi:d=i := by
        by_cases z:d < i
        · exact absurd ⟨d,z,hh⟩ hx
        · omega
      subst hdi
      rw [hh]
      have h4:¬ q.toNat≤(fnd t d).1.toNat := by
        intro z
        -- an entry with this number has been found already
        have h5:(fnd t d).1=q := UInt64.toNat_inj.1 (Nat.le_antisymm h2 z)
        have:∀ j,j≤d→(fnd t j).1=q→False := fun j=>by
          induction j with
          | zero=>intro _ h6; exact hq h6.symm
          | succ j ih =>
            intro hj h6
            have h7:(if (now t j 0).toNat≤(fnd t j).1.toNat then fnd t j else (now t j 0,decE t j (now t j 0))).1=q := h6
            split at h7
            · exact ih (by omega) h7
            · exact hx ⟨j,by omega,h7⟩
        exact this d (Nat.le_refl _) h5
      rw [if_neg h4,dec_ok hev h hq (by omega) hh]
theorem fnd_3 (hj:JV C V q e) (h:Rc C none V q e t):(q≠0→fnd t 3=(q,e))∧(q=0→(fnd t 3).1=0∧fnd t 3=(0,pe0)) := by
  have hL := C.hL
  refine ⟨fun hq => ?_,fun hq => ?_⟩
  · obtain ⟨d,hd,_,hh⟩ := h.ex
    exact (zwy (hj.ev hq) h hL hq 3 (Nat.le_refl _)).1 ⟨d,by omega,hh⟩
  · subst hq
    have hz:∀ d,d < 3→now t d 0=0 := fun d hd=>UInt64.toNat_inj.1 (Nat.le_antisymm (h.lo d (by omega) (by simp)) (Nat.zero_le _))
    have hf:∀ i,i≤3→fnd t i=(0,pe0) := fun i=>by
      induction i with
      | zero=>intro _; rfl
      | succ i ih =>
        intro hi
        show (if (now t i 0).toNat≤(fnd t i).1.toNat then fnd t i else (now t i 0,decE t i (now t i 0)))=_
        rw [hz i (by omega),if_pos (show (0:UInt64).toNat≤_ from Nat.zero_le _)]
        exact ih (by omega)
    rw [hf 3 (Nat.le_refl _)]
    exact ⟨rfl,rfl⟩
theorem Rc.nc (h:Rc C none V q e t):NC C t := fun d a _ _=>by rw [h.sg]; exact List.mem_singleton.2 rfl
theorem Rc.qs0 {e':PE} (h:Rc C none V 0 e t):Qs C none V 0 e' t := fun d hd hs=>by
  have hz:now t d 0=0 := UInt64.toNat_inj.1 (Nat.le_antisymm (h.lo d hd hs) (Nat.zero_le _))
  have hd1:∀ o,o < C.O→now t d (16 + o)=V d o := fun o ho=>h.dt d hd hs o ho (fun z=>z.1 rfl)
  refine ⟨fun c hc => ?_,hz,fun z=>absurd rfl z,fun o ho _ c hc => ?_,fun _ o ho=>hd1 o ho,fun i hi=>absurd hi (by omega),fun z=>z.elim⟩
  · rw [h.sg,List.mem_singleton] at hc
    rw [hc]; exact hz
  · rw [h.sg,List.mem_singleton] at hc
    rw [hc]; exact hd1 o ho
theorem Rc.j1 (h:Rc C none V q e t) (hd:t.dn=false):J1 C V 0 e q e (fun _=>True) (fun _=>True) (exE C e) False wc t 0 0 t := by
  have hL := C.hL
  refine ⟨⟨hd,rfl,by omega,by omega,h.nc⟩,fun d h3 => ?_⟩
  have h2:(if d < 0 then 3 else if d=0 then 0 else 0)=0 := by rw [if_neg (by omega)]; split <;> rfl
  rw [h2]
  refine ⟨fun _ _=>trivial,trivial,fun z=>absurd rfl z,fun o ho hx c hc => ?_,fun z=>z.elim,fun i hi=>absurd hi (by omega),fun z=>z.elim⟩
  rw [h.sg,List.mem_singleton] at hc
  rw [hc]
  exact h.dt d (by omega) (by simp) o ho (fun z=>hx z.2)
theorem CK.re (hj:JV C V q e) (hq:q≠0) (hk:14 * wc≤t.k):CK C V V 0 q e (exE C e) False wc t :=
  ⟨hq,hj.ev hq,fun z=>absurd rfl z,fun _ _ hn z=>hn z.1,fun _ _ _=>rfl,hk⟩
end
end Go.Proofs.Ts
set_option linter.unusedSimpArgs false
set_option maxRecDepth 20000
namespace Go.Proofs
open Go.VG Ts
theorem zlf (v0:Int) (v1:Int) (v2:Int):∀ w,(Instr.build 137 (#[(0,.int .i64 v0),(1,.int .i64 v1),(2,.int .i64 v2)]:Array (Nat × Value))).run Tryz.prog w = .ok (.agg #[.int .i64 v0,.int .i64 v1,.int .i64 v2]) w := fun w=>by kernel_rfl
theorem zi1 (v0:Int) (v1:Int) (v2:Int) (v3:Int) (v4:Int):∀ w,(Instr.build 144 (#[(0,.int .u64 v0),(1,.int .i64 v1),(2,.int .i64 v2),(3,.int .u64 v3),(4,.int .u64 v4)]:Array (Nat × Value))).run Tryz.prog w = .ok (.agg #[.int .u64 v0,.int .i64 v1,.int .i64 v2,.int .u64 v3,.int .u64 v4]) w := fun w=>by kernel_rfl
theorem fmt_k {t:TS} {i j m wc:Nat} (hi:i < 3) (hj:j < m) (hk:3 * m * wc≤t.k):wc≤t.k - (i * m + j) * wc := by
  have h1:(i * m + j + 1) * wc≤3 * m * wc := Nat.mul_le_mul_right _ (by
    have h2:i * m≤2 * m := Nat.mul_le_mul_right _ (by omega)
    omega)
  rw [Nat.add_mul,Nat.one_mul] at h1
  omega
theorem rep0 {j m:Nat} (h:j < m):(List.replicate m (0:UInt64)).getD j 0=0 := by simp [List.getD,List.getElem?_replicate,h]
theorem fmt_st {t t2:TS} {i j m wc:Nat} {v:UInt64} (hv:v=0) (h:t2.dn=false∧t2.safe=true∧t2.k=t.k - (i * m + j) * wc∧(t.z=true→t2.z=true)∧t.w≤t2.w):(t2.wrS wc i (0 + j) v true).dn=false∧(t2.wrS wc i (0 + j) v true).safe=true∧(t2.wrS wc i (0 + j) v true).k=t.k - (i * m + (j + 1)) * wc∧(t.z=true→(t2.wrS wc i (0 + j) v true).z=true)∧t.w≤(t2.wrS wc i (0 + j) v true).w := by
  refine ⟨h.1,h.2.1,?_,fun z=>wrS_z (h.2.2.2.1 z) hv,?_⟩
  · show t2.k - wc=_
    rw [h.2.2.1, ← Nat.add_assoc,Nat.add_mul (i * m + j) 1 wc,Nat.one_mul]; omega
  · show t.w≤t2.w + 1
    have := h.2.2.2.2
    omega
theorem znp {W : World} {X : HP} {vs : List IfH} {dep : Nat} {sz : Nat → Nat} (hdp : dep ≤ 60) (hS : ∀ {W : World} (i : Nat), i < vs.length → IOk Tryz.prog W dep (vs.getD i tyDev.dflt) "Size" [] [X] (fun _ : Unit => .int .i64 (sz i : Int)) (fun _ => True) (fun _ F => X :: F)) {lv0 : Sl3} {c : Nat} (hc : 1 ≤ c ∧ c ≤ 2) (h3 : vs.length = 3) (hz : ∀ i, i < 3 → 16 + c ≤ sz i ∧ sz i ≤ 100000) :
    CSpec Tryz.prog W 53 [lv0.v,.int .i64 (c:Int)] [X,sl tyDev lv0.v vs] (fun _:Unit => .tuple #[.agg #[.int .i64 3,.int .i64 (c:Int),.int .i64 ((((mmin sz 3 - 16) / c):Nat):Int)],.int .i64 0]) (fun _=>True) (fun _ F=>X::sl tyDev lv0.v vs::F) := by
 refine CSpec.of_body Tryz.func53 rfl Tryz.ntmps53 rfl fun F => ?_
 show CJ _ _ _ _ _ _ (_::_::F)
 have h00:0 < vs.length := by omega
 refine sR<|oO<|zbi Tryz.zeroValue137 rfl rfl fun b1=>oA rfl<|nT<|zab<|sR<|oM rfl<|oV (V_len rfl foc2 (Reads.sl _ _ _) Tryz.runUnderlying52)<|oP (P_lss rfl rfl)<|oM rfl<|zbp 12 false rfl wF_ fun hg1B=>p_ rfl rfl rfl hg1B (zae rfl)<|v_ rfl rfl rfl hg1B (V_len rfl foc2 (Reads.sl _ _ _) Tryz.runUnderlying52)<|p_ rfl rfl rfl hg1B (P_gtr rfl rfl)<|oP (za2 rfl hg1B rfl)<|oM rfl<|zbp 17 false rfl wF_ fun hg2B=>p_ rfl rfl rfl hg2B (zae rfl)<|p_ rfl rfl rfl hg2B (P_lss rfl rfl)<|oP (za2 rfl hg2B rfl)<|oM rfl<|zbp 21 false rfl wF_ fun hg3B=>p_ rfl rfl rfl hg3B (zae rfl)<|p_ rfl rfl rfl hg3B (P_gtr rfl rfl)<|oP (za2 rfl hg3B rfl)<|nT<|zap rfl wF_<|kT<|sR<|oM rfl ?_
 first | (refine RJ_op rfl (OJ_V (zam rfl rfl rfl (by omega) foc2 (Reads.sl _ _ _) Tryz.runUnderlying52 Tryz.sizeOf38) rfl ?_)) | (refine RJ_op rfl (OJ_V (zam rfl rfl (Int.toNat_of_nonneg (by omega)).symm (by omega) foc2 (Reads.sl _ _ _) Tryz.runUnderlying52 Tryz.sizeOf38) rfl ?_))
 refine oV (za6 rfl rfl (by omega) foc2 (Reads.sl _ _ _) rfl rfl Tryz.isAgg38)<|oO<|zbz rfl (IOk.call (hS 0 h00) (Nat.le_trans hdp (by decide))) rfl (dC_ del1) rfl fun o2 ho3=>oA rfl<|nT<|zab<|sR<|oM rfl<|oV (V_len rfl foc2 (Reads.sl _ _ _) Tryz.runUnderlying52)<|oM rfl<|nT<|zao<|za8 (X:=Nat) [6,8,32,33,34,35,36,37,38,39,40] (fun i  => ([(32,.int .i64 (i:Nat)),(6,.int .i64 ((mmin sz i:Nat):Int))]:Slots)) (fun i R=>R) (fun i  => i≤vs.length) (fun i  => vs.length - i) (0) ?_ ?_ r_ ?_
 · exact Nat.zero_le _
 · exact ⟨rfl,rfl,True.intro⟩
 ·
  intro i hil
  show CJ _ _ _ _ _ (([(32,.int .i64 (i:Nat)),(6,.int .i64 ((mmin sz i:Nat):Int))]:Slots) ++ forget _ _) (_)
  refine sR<|oP (P_lss rfl rfl)<|nT<|zab ?_
  first | (refine zav rfl (fun hg5 => ?_) (fun hg5 => ?_)) | (refine zaw rfl (fun hg5 => ?_) (fun hg5 => ?_)) | (refine za1 rfl (fun hg5 => ?_) (fun hg5 => ?_))
  ·
   refine kT<|zab<|zao<|sR ?_
   have hi:i < vs.length := by omega
   first | (refine RJ_op rfl (OJ_V (zam rfl rfl rfl (by omega) foc2 (Reads.sl _ _ _) Tryz.runUnderlying52 Tryz.sizeOf38) rfl ?_)) | (refine RJ_op rfl (OJ_V (zam rfl rfl (Int.toNat_of_nonneg (by omega)).symm (by omega) foc2 (Reads.sl _ _ _) Tryz.runUnderlying52 Tryz.sizeOf38) rfl ?_))
   refine oV (za6 rfl rfl (by omega) foc2 (Reads.sl _ _ _) rfl rfl Tryz.isAgg38)<|oA rfl<|nT<|zag<|oM rfl<|oM rfl<|oO<|zbz rfl (IOk.call (hS i hi) (Nat.le_trans hdp (by decide))) rfl (dC_ del0) rfl fun o4 ho5=>oP (PJ_eq (v := .int .i64 ((mmin sz (i + 1):Nat):Int)) (P_min rfl rfl) (congrArg (Value.int .i64) mmin_s.symm))<|oA rfl<|za0<|zah<|zar<|zag<|oP (P_add rfl rfl (by omega))<|oM rfl<|za0<|zba (i + 1) (by first | omega | (simp only []; omega)) ?_ kP_ ?_ r_
   · show i + 1≤vs.length; omega
   · exact ⟨rfl,rfl,True.intro⟩
  ·
   refine zbc<|zay<|zau<|zat<|zar<|zab<|zab ?_
   obtain rfl:i=3 := by omega
   have hmb := zkz hz 3 (Nat.le_refl _)
   refine zag<|oM rfl<|oM rfl<|oP (P_add rfl rfl (by omega))<|oP (P_lss rfl rfl)<|nT<|zap rfl wF_<|kT<|sR<|oM rfl<|oV (V_len rfl foc2 (Reads.sl _ _ _) Tryz.runUnderlying52)<|oM rfl<|oM rfl<|oP (P_sub rfl rfl (by omega))<|oM rfl<|oP (PJ_eq (v := .int .i64 ((((mmin sz 3 - 16) / c):Nat):Int)) (P_quo rfl rfl (by omega)) (congrArg (Value.int .i64) (by rw [show ((mmin sz 3:Nat):Int) - 16=((mmin sz 3 - 16:Nat):Int) by omega]; rfl)))<|oP (zbk rfl (zlf _ _ _))<|oO<|zbo rfl rfl foc1 Tryz.sizeOf137 rfl rfl rfl<|oA rfl<|nT<|zaf<|zan (resA2 Tryz.results53 (zdp rfl foc1 Tryz.isAgg137 Tryz.sizeOf137 rfl rfl) (zju rfl))<|CSpec.close () ?_ ?_ (t0_ (t1_ (e_ r_)))
   · rw [h3]; rfl
   · trivial
theorem zwz {W:World} {B:TS→HP} {vs:List IfH} {dep rc wc:Nat} {sz:Nat→Nat} (hB:BaseOk Tryz.prog B vs.length dep rc wc sz (fun i=>vs.getD i tyDev.dflt)) {t:TS} {lv0:Sl3} {c m:Nat} (hd:t.dn=false) (hs:t.safe=true) (hc:1≤c∧c≤2) (h3:vs.length=3) (hz:∀ i,i < 3→16 + c≤sz i∧sz i≤100000) (hm:m=16 + ((mmin sz 3 - 16) / c) * c) (hk:3 * m * wc≤t.k) :
    CSpec Tryz.prog W 22 [lv0.v,.int .i64 (c:Int)] [B t,sl tyDev lv0.v vs] (fun _:TS => .int .i64 0) (fun t1=>(t1.dn=false∧t1.safe=true∧t1.k=t.k - (3 * m) * wc∧(t.z=true→t1.z=true)∧t.w≤t1.w) ∧ ∀ d,d < 3 → ∀ a,t1.cd d a=[t1.nw d a]) (fun t1 F=>B t1::sl tyDev lv0.v vs::F) := by
 refine CSpec.of_body Tryz.func22 rfl Tryz.ntmps22 rfl fun F => ?_
 show CJ _ _ _ _ _ _ (_::_::F)
 have hmb := zkz hz 3 (Nat.le_refl _)
 have hmz:∀ i,i < 3→m≤sz i := fun i hi=>by
   have h1 := zss (sz:=sz) i hi
   have h2 := Nat.div_mul_le_self (mmin sz 3 - 16) c
   omega
 have hmm := hmz 0 (by decide)
 have hz0 := hz 0 (by decide)
 have em:((((mmin sz 3 - 16) / c):Nat):Int) * (c:Int)=((m - 16:Nat):Int) := by
   have h2:m - 16=((mmin sz 3 - 16) / c) * c := by omega
   rw [h2]; exact (Int.natCast_mul _ _).symm
 have em2:(16:Int) + ((((mmin sz 3 - 16) / c):Nat):Int) * (c:Int)=(m:Int) := by rw [em]; omega
 refine sR<|oA rfl<|nT<|sR<|oM rfl<|oM rfl<|oO<|zai ((znp hB.depb (fun i hi=>hB.size hi hd) hc h3 hz)) rfl Tryz.call53 (Dels.cons del0 (dC_ del0)) rfl fun _ hc1=>oM rfl<|oP (zaj rfl rfl)<|oP (zaj rfl rfl)<|oO<|zbi Tryz.zeroValue137 rfl rfl fun b2=>oO<|zbo rfl rfl foc0 Tryz.sizeOf137 rfl rfl rfl<|oA rfl<|nT<|zab<|sR<|oM rfl<|oP (P_neq rfl rfl)<|nT<|zap rfl dF_<|kT<|sR<|oP (zaa rfl ⟨_,_,_,Tryz.runUnderlying137,rfl,rfl,Tryz.sizeOf3,rfl⟩)<|oV (zac rfl foc0 rfl Tryz.isAgg3)<|oM rfl<|oP (P_mul rfl rfl (by first | omega | (rw [em]; omega)))<|oP (P_add rfl rfl (by first | omega | (rw [em]; omega)))<|oO<|zea (t:=tyU) (m:=m) (x0:=(0:UInt64)) (z:=_) (bytes:=_) rfl rfl em2 em2 Tryz.underlying44 ⟨Tryz.t47,by kernel_rfl,rfl,rfl,rfl⟩ rfl (by omega) (by decide) rfl fun b3=>oA rfl<|nT<|zab<|sR<|oM rfl<|oV (V_len rfl foc3 (Reads.sl _ _ _) Tryz.runUnderlying52)<|oM rfl<|nT<|zao<|za8 (X:=Nat × TS) [4,9,10,31,32,33,34,35,36,37,38,39,40,41] (fun ⟨i,t1⟩  => ([(31,.int .i64 (i:Nat))]:Slots)) (fun ⟨i,t1⟩ R=>B t1::R) (fun ⟨i,t1⟩  => i≤vs.length∧(t1.dn=false∧t1.safe=true∧t1.k=t.k - (i * m) * wc∧(t.z=true→t1.z=true)∧t.w≤t1.w)) (fun ⟨i,t1⟩  => vs.length - i) ⟨0,t⟩ ?_ ?_ (t2_ r_) ?_
 · exact ⟨Nat.zero_le _,hd,hs,by omega,id,Nat.le_refl _⟩
 · exact ⟨rfl,True.intro⟩
 ·
  rintro ⟨i,t1⟩ ⟨hil,hI⟩
  show CJ _ _ _ _ _ (([(31,.int .i64 (i:Nat))]:Slots) ++ forget _ _) (B t1::_)
  refine sR<|oP (P_lss rfl rfl)<|nT<|zab ?_
  first | (refine zav rfl (fun hg2 => ?_) (fun hg2 => ?_)) | (refine zaw rfl (fun hg2 => ?_) (fun hg2 => ?_)) | (refine za1 rfl (fun hg2 => ?_) (fun hg2 => ?_))
  ·
   refine kT<|zab<|zao<|sR ?_
   have hi:i < vs.length := by omega
   first | (refine RJ_op rfl (OJ_V (zam rfl rfl rfl (by first | omega | (rw [em]; omega)) foc3 (Reads.sl _ _ _) Tryz.runUnderlying52 Tryz.sizeOf38) rfl ?_)) | (refine RJ_op rfl (OJ_V (zam rfl rfl (Int.toNat_of_nonneg (by first | omega | (rw [em]; omega))).symm (by first | omega | (rw [em]; omega)) foc3 (Reads.sl _ _ _) Tryz.runUnderlying52 Tryz.sizeOf38) rfl ?_))
   refine oV (za6 rfl rfl (by first | omega | (rw [em]; omega)) foc3 (Reads.sl _ _ _) rfl rfl Tryz.isAgg38)<|oA rfl<|nT<|sR<|oM rfl<|oM rfl<|RJ_op rfl (zai ((zo2 hB (t:=t1) (i:=i) (at_:=0) (l:=List.replicate m (0:UInt64)) (I:=(fun j t2=>t2.dn=false∧t2.safe=true∧t2.k=t.k - (i * m + j) * wc∧(t.z=true→t2.z=true)∧t.w≤t2.w)) (Dn:=fun _=>False) (Reads.sl _ _ _) hI.1 hi (by rw [List.length_replicate]; have := hmz i (by omega); omega) (fun j t2 hj h=>⟨h.1,by rw [h.2.2.1]; rw [List.length_replicate] at hj; exact fmt_k (by omega) hj hk⟩)
       (fun j t2 hj h=>fmt_st (by rw [List.length_replicate] at hj; exact rep0 hj) h) (fun j t2 hj h hs2=>by rw [h.2.1] at hs2; cases hs2) ⟨hI.1,hI.2.1,hI.2.2.1,hI.2.2.2.1,hI.2.2.2.2⟩)) rfl Tryz.call54 (Dels.cons del0 (dC_ del0)) rfl (fun o9 ho9 => ?_))
   refine oA rfl<|nT<|sR<|oM rfl<|oP (P_neq rfl rfl)<|nT<|zap rfl (by first | exact decide_eq_false (by (have hq:o9.1=true := (Bool.eq_false_or_eq_true o9.1).resolve_right (fun z=>ho9.2 z)); simp [hq]) | ((have hq:o9.1=true := (Bool.eq_false_or_eq_true o9.1).resolve_right (fun z=>ho9.2 z)); simp [hq]))<|zbh<|zah<|zar<|zag<|oP (P_add rfl rfl (by first | omega | (rw [em]; omega)))<|oM rfl<|za0<|zba ⟨i + 1,o9.2⟩ (by first | omega | (simp only []; omega)) ?_ kP_ ?_ r_
   ·
    have hro:o9.1=true := (Bool.eq_false_or_eq_true o9.1).resolve_right (fun z=>ho9.2 z)
    have h9 := ho9.1 hro
    rw [List.length_replicate] at h9
    exact ⟨by omega,h9.1,h9.2.1,by rw [h9.2.2.1,Nat.add_mul i 1 m,Nat.one_mul],h9.2.2.2⟩
   · exact ⟨rfl,True.intro⟩
  ·
   refine zbc<|zay<|zau<|zat<|zar<|zab<|zab ?_
   obtain rfl:i=3 := by omega
   refine zag<|oM rfl<|oV (V_len rfl foc3 (Reads.sl _ _ _) Tryz.runUnderlying52)<|oM rfl<|nT<|zao<|za8 (X:=Nat × TS) [4,12,13,44,45,46,47,48,49,50,51,52,53] (fun ⟨i,t1⟩  => ([(44,.int .i64 (i:Nat))]:Slots)) (fun ⟨i,t1⟩ R=>B t1::R) (fun ⟨i,t1⟩  => i≤vs.length∧(t1.dn=false∧t1.safe=true∧t1.k=t.k - (3 * m) * wc∧(t.z=true→t1.z=true)∧t.w≤t1.w) ∧ ∀ d,d < i → ∀ a,t1.cd d a=[t1.nw d a]) (fun ⟨i,t1⟩  => vs.length - i) ⟨0,t1⟩ ?_ ?_ r_ ?_
   · exact ⟨Nat.zero_le _,hI,fun d hd=>absurd hd (by omega)⟩
   · exact ⟨rfl,True.intro⟩
   ·
    rintro ⟨i,t1⟩ ⟨hil,hI,hC⟩
    show CJ _ _ _ _ _ (([(44,.int .i64 (i:Nat))]:Slots) ++ forget _ _) (B t1::_)
    refine sR<|oP (P_lss rfl rfl)<|nT<|zab ?_
    first | (refine zav rfl (fun hg4 => ?_) (fun hg4 => ?_)) | (refine zaw rfl (fun hg4 => ?_) (fun hg4 => ?_)) | (refine za1 rfl (fun hg4 => ?_) (fun hg4 => ?_))
    ·
     refine kT<|zab<|zao<|sR ?_
     have hi:i < vs.length := by omega
     first | (refine RJ_op rfl (OJ_V (zam rfl rfl rfl (by first | omega | (rw [em]; omega)) foc3 (Reads.sl _ _ _) Tryz.runUnderlying52 Tryz.sizeOf38) rfl ?_)) | (refine RJ_op rfl (OJ_V (zam rfl rfl (Int.toNat_of_nonneg (by first | omega | (rw [em]; omega))).symm (by first | omega | (rw [em]; omega)) foc3 (Reads.sl _ _ _) Tryz.runUnderlying52 Tryz.sizeOf38) rfl ?_))
     refine oV (za6 rfl rfl (by first | omega | (rw [em]; omega)) foc3 (Reads.sl _ _ _) rfl rfl Tryz.isAgg38)<|oA rfl<|nT<|sR<|oM rfl<|oO<|zbz rfl (IOk.call (hB.fl (i:=i) hi hI.1) (Nat.le_trans hB.depb (by decide))) rfl (dC_ del0) rfl fun o5 ho6=>oA rfl<|nT<|sR<|oM rfl<|oP (P_neq rfl rfl)<|nT<|zap rfl dF_<|zbh<|zah<|zar<|zag<|oP (P_add rfl rfl (by first | omega | (rw [em]; omega)))<|oM rfl<|za0<|zba ⟨i + 1,t1.fls i⟩ (by first | omega | (simp only []; omega)) ?_ kP_ ?_ r_
     ·
      refine ⟨by omega,hI,fun d hd a => ?_⟩
      show (if i=d then [t1.nw d a] else t1.cd d a)=[t1.nw d a]
      split
      · rfl
      · exact hC d (by omega) a
     · exact ⟨rfl,True.intro⟩
    ·
     refine zbc<|zay<|zau<|zat<|zar<|sR<|oA rfl<|nT<|zaf ?_
     obtain rfl:i=3 := by omega
     refine zan (res1 Tryz.results22 rfl)<|CSpec.close t1 ?_ ?_ (t0_ (t2_ (e_ (e_ r_))))
     · rfl
     · exact ⟨hI,hC⟩
theorem c_vRp1 {W:World} {B:TS→HP} {vs:List IfH} {dep rc wc:Nat} {sz:Nat→Nat} (hB:BaseOk Tryz.prog B vs.length dep rc wc sz (fun i=>vs.getD i tyDev.dflt)) {t:TS} {q c R:Nat} {lv:Sl3} {i x:Nat} {p:UInt64 × PE} (hd:t.dn=false) (hs:t.safe=true) (hi:i < vs.length) (hb:16≤sz i) (hk:4 * rc≤t.k) :
    CSpec Tryz.prog W 84 [(vs.getD i tyDev.dflt).v,ptr x 0] [B t,blk q 146 [.int .i64 3,.int .i64 (c:Int),.int .i64 (R:Int),lv.v,.int .u64 (p.1.toNat:Int),.int .i64 (p.2.off:Int),.int .i64 (p.2.leg:Int),.int .u64 (p.2.w.toNat:Int),.int .u64 (p.2.p.toNat:Int),.bool false,.int .i64 0],blk x 81 [ptr q 0]] (fun _:Nat => .int .i64 0) (fun k=>k≤4 * rc) (fun k F=>B (t.use k)::blk q 146 [.int .i64 3,.int .i64 (c:Int),.int .i64 (R:Int),lv.v,.int .u64 ((rpS t i p).1.toNat:Int),.int .i64 ((rpS t i p).2.off:Int),.int .i64 ((rpS t i p).2.leg:Int),.int .u64 ((rpS t i p).2.w.toNat:Int),.int .u64 ((rpS t i p).2.p.toNat:Int),.bool false,.int .i64 0]::blk x 81 [ptr q 0]::F) := by
 refine CSpec.of_body Tryz.func84 rfl Tryz.ntmps84 rfl fun F => ?_
 show CJ _ _ _ _ _ _ (_::_::_::F)
 refine sR<|oA rfl<|nT<|sR<|oM rfl<|oO (zgm rfl (IOk.call (hB.rd (i:=i) (a:=0) hi (by omega) hd (by omega)) (Nat.le_trans hB.depb (by decide))) rfl (dC_ del0) rfl (fun hor => ?_) (fun hor => ?_))
 ·
  exact absurd (hor rfl) (by rw [hs]; decide)
 ·
  refine oM rfl<|oP (zaj rfl rfl)<|oP (zaj rfl rfl)<|oA rfl<|oA rfl<|nT<|zab<|sR<|oM rfl<|oP (P_neq rfl rfl)<|oM rfl<|zbp 14 false rfl dF_ fun hg1B=>p_ rfl rfl rfl hg1B (zae rfl)<|v_ rfl rfl rfl hg1B (zac rfl foc2 rfl Tryz.isAgg81)<|p_ rfl rfl rfl hg1B (zad rfl)<|p_ rfl rfl rfl hg1B (zaa rfl ⟨_,_,_,Tryz.runUnderlying146,rfl,rfl,Tryz.sizeOf144,rfl⟩)<|p_ rfl rfl rfl hg1B (zaa rfl ⟨_,_,_,Tryz.runUnderlying144,rfl,rfl,Tryz.sizeOf47,rfl⟩)<|v_ rfl rfl rfl hg1B (zac rfl foc1 rfl Tryz.isAgg47)<|p_ rfl rfl rfl hg1B (P_leq rfl rfl)<|oP (za2 rfl hg1B rfl)<|nT ?_
  first | (refine zav rfl (fun hg2 => ?_) (fun hg2 => ?_)) | (refine zaw rfl (fun hg2 => ?_) (fun hg2 => ?_)) | (refine za1 rfl (fun hg2 => ?_) (fun hg2 => ?_))
  ·
   have hle:(Ts.now t i 0).toNat≤p.1.toNat := Int.ofNat_le.1 hg2
   refine sR<|oM rfl<|oA rfl<|nT<|zaf<|zak<|zan (res1 Tryz.results84 rfl)<|CSpec.close rc ?_ ?_ (t0_ (Ent.takeC del0 (by rw [rpS_le hle]) r_))
   · rfl
   · omega
  ·
   have hle:¬ (Ts.now t i 0).toNat≤p.1.toNat := fun z=>hg2 (Int.ofNat_le.2 z)
   refine kT<|sR<|oM rfl<|oM rfl<|oO<|zai ((zwt (sq:=(Ts.now t i 0)))) rfl Tryz.call85 Dels.nil rfl fun _ hc3=>oO<|zai ((zwu hB (t:=t.use rc) (i:=i) (at_:=slq (Ts.now t i 0)) (n:=3) hd hs hi (by have := @sl_le (Ts.now t i 0); omega) (show 3 * rc≤t.k - rc by omega))) rfl Tryz.call67 (dC_ del0) rfl fun ov9 hc5=>oM rfl<|oP (zaj rfl rfl)<|oP (zaj rfl rfl)<|oA rfl<|oA rfl<|nT<|zab<|sR<|oM rfl<|oP (P_eql rfl rfl)<|nT<|za7 rfl dT_<|za3 2097152 kR_ rfl ?_
   have hrl := @zue (t.use rc) i (slq (Ts.now t i 0)) 3
   refine aW 0 1 rfl rfl r_ (zac rfl foc3 rfl Tryz.isAgg81)<|aN 1 3 rfl rfl (zae rfl)<|aN 2 7 rfl rfl (zae rfl) ?_
   first | (refine zbj 3 15 rfl kR_ rfl kR_ kR_ (zal rfl) r_ (zam rfl rfl rfl (by omega) foc1 (Reads.sl _ _ _) Tryz.runUnderlying44 Tryz.sizeOf47) rfl (fun _ _ _ _ h=>h) ?_) | (refine zbj 3 15 rfl kR_ rfl kR_ kR_ (zal rfl) r_ (zam rfl rfl (Int.toNat_of_nonneg (by omega)).symm (by omega) foc1 (Reads.sl _ _ _) Tryz.runUnderlying44 Tryz.sizeOf47) rfl (fun _ _ _ _ h=>h) ?_)
   refine aW 4 31 rfl rfl r_ (VJ_eq (v := .int .u64 ((Ts.now t i (slq (Ts.now t i 0) + 0)).toNat:Int)) (za6 rfl rfl (by rw [hrl]; decide) foc1 (Reads.sl _ _ _) rfl rfl Tryz.isAgg47) (congrArg (fun z:UInt64=>Value.int .u64 (z.toNat:Int)) (zo1 (t:=t.use rc) (i:=i) (at_:=slq (Ts.now t i 0)) (n:=3) (j:=0) (by decide)).symm))<|aN 5 63 rfl rfl (zec (a:=(Ts.now t i (slq (Ts.now t i 0) + 0))) (m:=3) rfl rfl rfl)<|aN 6 127 rfl rfl (PJ_eq (v := .int .i64 ((zbw (Ts.now t i (slq (Ts.now t i 0) + 0)) 3).toNat:Int)) (zll rfl Tryz.runUnderlying47 Tryz.runUnderlying3) (congrArg (Value.int .i64) (z1m _).symm))<|aN 7 255 rfl rfl (zae rfl) ?_
   first | (refine zbj 8 511 rfl kR_ rfl kR_ kR_ (zal rfl) r_ (zam rfl rfl rfl (by omega) foc1 (Reads.sl _ _ _) Tryz.runUnderlying44 Tryz.sizeOf47) rfl (fun _ _ _ _ h=>h) ?_) | (refine zbj 8 511 rfl kR_ rfl kR_ kR_ (zal rfl) r_ (zam rfl rfl (Int.toNat_of_nonneg (by omega)).symm (by omega) foc1 (Reads.sl _ _ _) Tryz.runUnderlying44 Tryz.sizeOf47) rfl (fun _ _ _ _ h=>h) ?_)
   refine aW 9 1023 rfl rfl r_ (VJ_eq (v := .int .u64 ((Ts.now t i (slq (Ts.now t i 0) + 0)).toNat:Int)) (za6 rfl rfl (by rw [hrl]; decide) foc1 (Reads.sl _ _ _) rfl rfl Tryz.isAgg47) (congrArg (fun z:UInt64=>Value.int .u64 (z.toNat:Int)) (zo1 (t:=t.use rc) (i:=i) (at_:=slq (Ts.now t i 0)) (n:=3) (j:=0) (by decide)).symm))<|aN 10 2047 rfl rfl (zgu (a:=(Ts.now t i (slq (Ts.now t i 0) + 0))) (b:=7) rfl rfl)<|aN 11 4095 rfl rfl (PJ_eq (v := .int .i64 (((Ts.now t i (slq (Ts.now t i 0) + 0)) &&& (7:UInt64)).toNat:Int)) (zll rfl Tryz.runUnderlying47 Tryz.runUnderlying3) (congrArg (Value.int .i64) (z1n _).symm))<|aN 12 8191 rfl rfl (zae rfl) ?_
   first | (refine zbj 13 16383 rfl kR_ rfl kR_ kR_ (zal rfl) r_ (zam rfl rfl rfl (by omega) foc1 (Reads.sl _ _ _) Tryz.runUnderlying44 Tryz.sizeOf47) rfl (fun _ _ _ _ h=>h) ?_) | (refine zbj 13 16383 rfl kR_ rfl kR_ kR_ (zal rfl) r_ (zam rfl rfl (Int.toNat_of_nonneg (by omega)).symm (by omega) foc1 (Reads.sl _ _ _) Tryz.runUnderlying44 Tryz.sizeOf47) rfl (fun _ _ _ _ h=>h) ?_)
   refine aW 14 32767 rfl rfl r_ (VJ_eq (v := .int .u64 ((Ts.now t i (slq (Ts.now t i 0) + 1)).toNat:Int)) (za6 rfl rfl (by rw [hrl]; decide) foc1 (Reads.sl _ _ _) rfl rfl Tryz.isAgg47) (congrArg (fun z:UInt64=>Value.int .u64 (z.toNat:Int)) (zo1 (t:=t.use rc) (i:=i) (at_:=slq (Ts.now t i 0)) (n:=3) (j:=1) (by decide)).symm))<|aN 15 65535 rfl rfl (zae rfl) ?_
   first | (refine zbj 16 131071 rfl kR_ rfl kR_ kR_ (zal rfl) r_ (zam rfl rfl rfl (by omega) foc1 (Reads.sl _ _ _) Tryz.runUnderlying44 Tryz.sizeOf47) rfl (fun _ _ _ _ h=>h) ?_) | (refine zbj 16 131071 rfl kR_ rfl kR_ kR_ (zal rfl) r_ (zam rfl rfl (Int.toNat_of_nonneg (by omega)).symm (by omega) foc1 (Reads.sl _ _ _) Tryz.runUnderlying44 Tryz.sizeOf47) rfl (fun _ _ _ _ h=>h) ?_)
   refine aW 17 262143 rfl rfl r_ (VJ_eq (v := .int .u64 ((Ts.now t i (slq (Ts.now t i 0) + 2)).toNat:Int)) (za6 rfl rfl (by rw [hrl]; decide) foc1 (Reads.sl _ _ _) rfl rfl Tryz.isAgg47) (congrArg (fun z:UInt64=>Value.int .u64 (z.toNat:Int)) (zo1 (t:=t.use rc) (i:=i) (at_:=slq (Ts.now t i 0)) (n:=3) (j:=2) (by decide)).symm))<|aN 18 524287 rfl rfl (zbk rfl (zi1 _ _ _ _ _))<|aN 19 1048575 rfl rfl (zad rfl)<|aN 20 2097151 rfl rfl (zaa rfl ⟨_,_,_,Tryz.runUnderlying146,rfl,rfl,Tryz.sizeOf144,rfl⟩)<|AJ_op 21 4194303 rfl kR_ rfl (zal rfl)<|zbo rfl rfl foc2 Tryz.sizeOf144 rfl rfl rfl<|⟨fun h=>absurd h (by decide),?_⟩
   refine aD<|sR<|oM rfl<|oA rfl<|nT<|zaf<|zan (res1 Tryz.results84 rfl)<|CSpec.close (rc + 3 * rc) ?_ ?_ (Ent.takeC del0 (by rw [zqb]) (Ent.takeC del1 (by rw [rpS_gt hle]; rfl) (t1_ (e_ r_))))
   · rfl
   · omega
section
variable {B:TS→HP} {vs:List IfH} {dep rc wc:Nat} {sz:Nat→Nat} {t:TS} {q c R:Nat} {lv:Sl3}
theorem e_rp {W:World} (hB:BaseOk Tryz.prog B vs.length dep rc wc sz (fun i=>vs.getD i tyDev.dflt)) {i x:Nat} {p:UInt64 × PE} (hd:t.dn=false) (hs:t.safe=true) (hi:i < vs.length) (hb:16≤sz i) (hk:4 * rc≤t.k) :
    CSpec Tryz.prog W 83 [ptr q 0,.int .i64 (i:Int),.func (.func 84) #[] #[ptr x 0]] [B t,blk q 146 [.int .i64 3,.int .i64 (c:Int),.int .i64 (R:Int),lv.v,.int .u64 (p.1.toNat:Int),.int .i64 (p.2.off:Int),.int .i64 (p.2.leg:Int),.int .u64 (p.2.w.toNat:Int),.int .u64 (p.2.p.toNat:Int),.bool false,.int .i64 0],sl tyPLeg lv.v (plg vs),blk x 81 [ptr q 0]] (fun _:Nat => .int .i64 0) (fun k=>k≤4 * rc)
      (fun k F=>B (t.use k)::blk q 146 [.int .i64 3,.int .i64 (c:Int),.int .i64 (R:Int),lv.v,.int .u64 ((rpS t i p).1.toNat:Int),.int .i64 ((rpS t i p).2.off:Int),.int .i64 ((rpS t i p).2.leg:Int),.int .u64 ((rpS t i p).2.w.toNat:Int),.int .u64 ((rpS t i p).2.p.toNat:Int),.bool false,.int .i64 0]::sl tyPLeg lv.v (plg vs)::blk x 81 [ptr q 0]::F) :=
  CSpec.conseq (pre:=[blk q 146 [.int .i64 3,.int .i64 (c:Int),.int .i64 (R:Int),lv.v,.int .u64 (p.1.toNat:Int),.int .i64 (p.2.off:Int),.int .i64 (p.2.leg:Int),.int .u64 (p.2.w.toNat:Int),.int .u64 (p.2.p.toNat:Int),.bool false,.int .i64 0],sl tyPLeg lv.v (plg vs),star [B t,blk x 81 [ptr q 0]]]) (G:=[])
    (c_vOn (X:=Nat) (er:=fun _=>0) (Q2:=fun _=>blk q 146 [.int .i64 3,.int .i64 (c:Int),.int .i64 (R:Int),lv.v,.int .u64 ((rpS t i p).1.toNat:Int),.int .i64 ((rpS t i p).2.off:Int),.int .i64 ((rpS t i p).2.leg:Int),.int .u64 ((rpS t i p).2.w.toNat:Int),.int .u64 ((rpS t i p).2.p.toNat:Int),.bool false,.int .i64 0]) (G:=star [B t,blk x 81 [ptr q 0]]) (G2:=fun k=>star [B (t.use k),blk x 81 [ptr q 0]]) hi
      (FOk.mk (first:=[]) (cap:=[ptr x 0]) Tryz.call84 (CSpec.conseq (G:=[sl tyPLeg lv.v (plg vs)]) (c_vRp1 hB hd hs hi hb hk)
        (fun _F p hp=>(Ent.take del2 (Ent.take del0 (Ent.take del1 (Ent.take del0 Ent.refl)))) p (zas (fun _ h=>zas (fun _ h=>(stars_star (Hs:=[_,_])).1 h) h) hp))
        (fun _k _F p hp=>zas (fun _ h=>zas (fun _ h=>(stars_star (Hs:=[_,_])).2 h) h) ((Ent.take del1 (Ent.take del2 (Ent.take del0 (Ent.take del0 Ent.refl)))) p hp))))
      (fun _ _ => .inl rfl))
    (fun _=>entS') (fun _ _=>entS)
end
end Go.Proofs
set_option linter.unusedSimpArgs false
set_option maxRecDepth 20000
namespace Go.Proofs
open Go.VG Ts
theorem zo3 (v0:Int) (v1:Int) (v2:Int):∀ w,(Instr.build 146 (#[(0,.agg #[.int .i64 v0,.int .i64 v1,.int .i64 v2])]:Array (Nat × Value))).run Tryz.prog w = .ok (.agg #[.int .i64 v0,.int .i64 v1,.int .i64 v2,.slice none 0 0,.int .u64 0,.int .i64 0,.int .i64 0,.int .u64 0,.int .u64 0,.bool false,.int .i64 0]) w := fun w=>by kernel_rfl
theorem zm5 (v0:TypeId) (v1:Value) (v2:Bool):∀ w,(Instr.build 148 (#[(0,.iface v0 v1),(1,.bool v2)]:Array (Nat × Value))).run Tryz.prog w = .ok (.agg #[.iface v0 v1,.bool v2,.bool false]) w := fun w=>by kernel_rfl
theorem zn9 (v0:TypeId) (v1:Value) (v2:Bool) (v3:Bool):zbg Tryz.prog 142 1 [(0,.agg #[.iface v0 v1,.bool v2,.bool v3])] 148 [.iface v0 v1,.bool v2,.bool v3] := fun w=>by kernel_rfl
theorem zzb {vs:List IfH} {i:Nat} (h:i < vs.length):plg (vs.take i) ++ [⟨vs.getD i tyDev.dflt,false,false⟩]=plg (vs.take (i + 1)) := by
  rw [zy1]
  congr 1
  rw [List.take_add_one]
  simp [List.getD,h]
theorem z1o {vs:List IfH} (h:vs.length=3):plg (vs.take 3)=plg vs := by rw [List.take_of_length_le (by omega)]
theorem JV.re0 {C:PC} {V:Nat→Nat→UInt64} {e e':PE} (h:JV C V 0 e):JV C V 0 e' := ⟨h.even,fun z=>absurd rfl z,h.sm⟩
structure PO (C:PC) (V:Nat→Nat→UInt64) (q:UInt64) (rc wc:Nat) (t t':TS) (e:PE):Prop where
  dn:t'.dn=false
  safe:t'.safe=true
  k:t.k - (12 * rc + 14 * wc)≤t'.k
  w:t.w≤t'.w
  z:q=0→t.z=true→t'.z=true
  jv:JV C V q e
  q:Qs C none V q e t'
theorem zw0 {W:World} {B:TS→HP} {vs:List IfH} {dep rc wc:Nat} {sz:Nat→Nat} (hB:BaseOk Tryz.prog B vs.length dep rc wc sz (fun i=>vs.getD i tyDev.dflt)) {t:TS} {q:Nat} {lv:Sl3} {C:PC} {V:Nat→Nat→UInt64} {sq:UInt64} {e:PE} (hd:t.dn=false) (hs:t.safe=true) (h3:vs.length=3) (hb:∀ i,i < 3→C.sz≤sz i) (hJ:JV C V sq e) (hRc:Rc C none V sq e t) (hk:12 * rc + 14 * wc≤t.k) :
    CSpec Tryz.prog W 58 [ptr q 0] [B t,blk q 146 [.int .i64 3,.int .i64 (C.c:Int),.int .i64 (C.R:Int),lv.v,.int .u64 ((0:UInt64).toNat:Int),.int .i64 (pe0.off:Int),.int .i64 (pe0.leg:Int),.int .u64 (pe0.w.toNat:Int),.int .u64 (pe0.p.toNat:Int),.bool false,.int .i64 0],sl tyPLeg lv.v (plg vs)] (fun _:TS × PE => .int .i64 0) (fun x=>PO C V sq rc wc t x.1 x.2) (fun x F=>B x.1::blk q 146 [.int .i64 3,.int .i64 (C.c:Int),.int .i64 (C.R:Int),lv.v,.int .u64 (sq.toNat:Int),.int .i64 (x.2.off:Int),.int .i64 (x.2.leg:Int),.int .u64 (x.2.w.toNat:Int),.int .u64 (x.2.p.toNat:Int),.bool false,.int .i64 0]::sl tyPLeg lv.v (plg vs)::F) := by
 refine CSpec.of_body Tryz.func58 rfl Tryz.ntmps58 rfl fun F => ?_
 show CJ _ _ _ _ _ _ (_::_::_::F)
 have hpl := @zc8 vs
 have hCL := C.hL
 have hOb := @PC.hO C
 have em:(C.R:Int) * (C.c:Int)=((C.O:Nat):Int) := (Int.natCast_mul _ _).symm
 refine sR<|oO<|O_box rfl rfl rfl fun b1=>oA rfl<|nT<|zab<|sR<|oV (zac rfl foc0 rfl Tryz.isAgg81)<|oP (zad rfl)<|oP (zaa rfl ⟨_,_,_,Tryz.runUnderlying146,rfl,rfl,Tryz.sizeOf142,rfl⟩)<|oV (zac rfl foc2 rfl Tryz.isAgg142)<|oV (V_len rfl foc3 (Reads.sl _ _ _) Tryz.runUnderlying142)<|oM rfl<|nT<|zao<|za8 (X:=Nat × Nat) [2,3,4,10,11,12,13,14,15,16,17,18,19,20,21,22,23,24,25,26,27,28] (fun ⟨i,k⟩  => ([(10,.int .i64 (i:Nat))]:Slots)) (fun ⟨i,k⟩ R=>B (t.use k)::blk q 146 [.int .i64 3,.int .i64 (C.c:Int),.int .i64 (C.R:Int),lv.v,.int .u64 ((fnd t i).1.toNat:Int),.int .i64 ((fnd t i).2.off:Int),.int .i64 ((fnd t i).2.leg:Int),.int .u64 ((fnd t i).2.w.toNat:Int),.int .u64 ((fnd t i).2.p.toNat:Int),.bool false,.int .i64 0]::R) (fun ⟨i,k⟩  => i≤vs.length∧k≤i * (4 * rc)) (fun ⟨i,k⟩  => vs.length - i) ⟨0,0⟩ ?_ ?_ (Ent.takeC del1 (by rfl) (Ent.takeC del1 (by rfl) r_)) ?_
 · exact ⟨Nat.zero_le _,Nat.zero_le _⟩
 · exact ⟨rfl,True.intro⟩
 ·
  rintro ⟨i,k⟩ ⟨hil,hkk⟩
  show CJ _ _ _ _ _ (([(10,.int .i64 (i:Nat))]:Slots) ++ forget _ _) (B (t.use k)::blk q 146 [.int .i64 3,.int .i64 (C.c:Int),.int .i64 (C.R:Int),lv.v,.int .u64 ((fnd t i).1.toNat:Int),.int .i64 ((fnd t i).2.off:Int),.int .i64 ((fnd t i).2.leg:Int),.int .u64 ((fnd t i).2.w.toNat:Int),.int .u64 ((fnd t i).2.p.toNat:Int),.bool false,.int .i64 0]::_)
  refine sR<|oP (P_lss rfl rfl)<|nT<|zab ?_
  first | (refine zav rfl (fun hg1 => ?_) (fun hg1 => ?_)) | (refine zaw rfl (fun hg1 => ?_) (fun hg1 => ?_)) | (refine za1 rfl (fun hg1 => ?_) (fun hg1 => ?_))
  ·
   refine kT<|zab<|zao<|sR ?_
   have hi:i < vs.length := by omega
   have hkb:i * (4 * rc)≤2 * (4 * rc) := Nat.mul_le_mul_right _ (by omega)
   refine oM rfl<|oA rfl<|nT<|zab<|sR<|oV (zac rfl foc2 rfl Tryz.isAgg81)<|oP (zad rfl)<|oP (zaa rfl ⟨_,_,_,Tryz.runUnderlying146,rfl,rfl,Tryz.sizeOf142,rfl⟩)<|oV (zac rfl foc1 rfl Tryz.isAgg142)<|oM rfl ?_
   first | (refine RJ_op rfl (OJ_V (zam rfl rfl rfl (by first | omega | (rw [em]; omega)) foc3 (Reads.sl _ _ _) Tryz.runUnderlying142 Tryz.sizeOf148) rfl ?_)) | (refine RJ_op rfl (OJ_V (zam rfl rfl (Int.toNat_of_nonneg (by first | omega | (rw [em]; omega))).symm (by first | omega | (rw [em]; omega)) foc3 (Reads.sl _ _ _) Tryz.runUnderlying142 Tryz.sizeOf148) rfl ?_))
   refine oP (zbl rfl ⟨_,_,_,Tryz.runUnderlying148,rfl,rfl,Tryz.sizeOf4,rfl⟩)<|oV (VJ_eq (v := .bool false) (za6 rfl rfl (by first | omega | (rw [em]; omega)) foc3 (Reads.sl _ _ _) rfl rfl Tryz.isAgg4) (by rw [zh6]))<|nT<|zap rfl rfl<|kT<|sR<|oV (zac rfl foc2 rfl Tryz.isAgg81)<|oM rfl<|oP (zbb rfl rfl)<|oO<|zai ((e_rp (x:=b1) (p:=fnd t i) (t:=t.use k) hB hd hs hi (by have := hb i (by omega); have h9:C.sz=16 + C.O := rfl; omega) (show 4 * rc≤t.k - k by omega))) rfl Tryz.call83 (Dels.cons del0 (Dels.cons del0 (Dels.cons del1 (dC_ del0)))) rfl fun o9 ho9=>oA rfl<|nT<|sR<|oM rfl<|oP (P_neq rfl rfl)<|nT<|zap rfl dF_<|zbh<|zah<|zar<|zag<|oP (P_add rfl rfl (by first | omega | (rw [em]; omega)))<|oM rfl<|za0<|zba ⟨i + 1,k + o9⟩ (by first | omega | (simp only []; omega)) ?_ kP_ ?_ (Ent.takeC del0 (by rw [zqb]) (Ent.takeC del0 (by rfl) (t1_ r_)))
   · exact ⟨by omega,by rw [Nat.add_mul,Nat.one_mul]; omega⟩
   · exact ⟨rfl,True.intro⟩
  ·
   refine zbc<|zay<|zau<|zat<|zar<|zab<|zab ?_
   obtain rfl:i=3 := by omega
   have hf0 := fnd_3 hJ hRc
   refine zag<|oV (zac rfl foc2 rfl Tryz.isAgg81)<|oP (zad rfl)<|oP (zaa rfl ⟨_,_,_,Tryz.runUnderlying146,rfl,rfl,Tryz.sizeOf144,rfl⟩)<|oP (zaa rfl ⟨_,_,_,Tryz.runUnderlying144,rfl,rfl,Tryz.sizeOf47,rfl⟩)<|oV (zac rfl foc1 rfl Tryz.isAgg47)<|oP (P_eql rfl rfl)<|nT ?_
   first | (refine zav rfl (fun hg3 => ?_) (fun hg3 => ?_)) | (refine zaw rfl (fun hg3 => ?_) (fun hg3 => ?_)) | (refine za1 rfl (fun hg3 => ?_) (fun hg3 => ?_))
   ·
    have hq0:sq=0 := Classical.byContradiction fun z=>by
      have h9 := hf0.1 z
      rw [h9] at hg3
      exact z (UInt64.toNat_inj.1 (Int.ofNat_inj.1 hg3))
    have hf3 := (hf0.2 hq0).2
    refine sR<|oA rfl<|nT<|zaf<|zak<|zan (res1 Tryz.results58 rfl)<|CSpec.close (t.use k,pe0) ?_ ?_ (t0_ (Ent.takeC del0 (by rw [hf3,hq0]) (t1_ (e_ r_))))
    · rfl
    ·
     rw [hq0] at hJ hRc ⊢
     exact ⟨hd,hs,show t.k - (12 * rc + 14 * wc)≤t.k - k by omega,Nat.le_refl _,fun _ z=>z,JV.re0 hJ,(hRc.ext (t' := t.use k) rfl rfl).qs0⟩
   ·
    have hq0:sq≠0 := fun z=>hg3 (by rw [(hf0.2 z).1]; rfl)
    have hf3 := hf0.1 hq0
    have hev := hJ.ev hq0
    have hof := hev.off
    have hlg := hev.leg
    rw [hf3]
    refine kT<|zab<|zab<|za3 0 kR_ rfl<|aW 0 1 rfl rfl r_ (zac rfl foc2 rfl Tryz.isAgg81)<|aN 1 3 rfl rfl (zad rfl)<|aN 2 7 rfl rfl (zaa rfl ⟨_,_,_,Tryz.runUnderlying146,rfl,rfl,Tryz.sizeOf144,rfl⟩)<|aN 3 15 rfl rfl (zaa rfl ⟨_,_,_,Tryz.runUnderlying144,rfl,rfl,Tryz.sizeOf3,rfl⟩)<|aW 4 31 rfl rfl r_ (zac rfl foc1 rfl Tryz.isAgg3)<|aN 5 63 rfl rfl (P_lss rfl rfl)<|aN 6 127 rfl rfl (zae rfl)<|zd5 41 false rfl wF_ fun hg4B=>aV 7 255 rfl rfl (zaz rfl rfl rfl hg4B) r_ (zac rfl foc2 rfl Tryz.isAgg81)<|aP 8 511 rfl rfl (zaz rfl rfl rfl hg4B) (zad rfl)<|aP 9 1023 rfl rfl (zaz rfl rfl rfl hg4B) (zaa rfl ⟨_,_,_,Tryz.runUnderlying146,rfl,rfl,Tryz.sizeOf144,rfl⟩)<|aP 10 2047 rfl rfl (zaz rfl rfl rfl hg4B) (zaa rfl ⟨_,_,_,Tryz.runUnderlying144,rfl,rfl,Tryz.sizeOf3,rfl⟩)<|aV 11 4095 rfl rfl (zaz rfl rfl rfl hg4B) r_ (zac rfl foc1 rfl Tryz.isAgg3)<|aV 12 8191 rfl rfl (zaz rfl rfl rfl hg4B) r_ (zac rfl foc2 rfl Tryz.isAgg81)<|aP 13 16383 rfl rfl (zaz rfl rfl rfl hg4B) (zad rfl) ?_
    refine aP 14 32767 rfl rfl (zaz rfl rfl rfl hg4B) (zaa rfl ⟨_,_,_,Tryz.runUnderlying146,rfl,rfl,Tryz.sizeOf137,rfl⟩)<|aP 15 65535 rfl rfl (zaz rfl rfl rfl hg4B) (zaa rfl ⟨_,_,_,Tryz.runUnderlying137,rfl,rfl,Tryz.sizeOf3,rfl⟩)<|aV 16 131071 rfl rfl (zaz rfl rfl rfl hg4B) r_ (zac rfl foc1 rfl Tryz.isAgg3)<|aV 17 262143 rfl rfl (zaz rfl rfl rfl hg4B) r_ (zac rfl foc2 rfl Tryz.isAgg81)<|aP 18 524287 rfl rfl (zaz rfl rfl rfl hg4B) (zad rfl)<|aP 19 1048575 rfl rfl (zaz rfl rfl rfl hg4B) (zaa rfl ⟨_,_,_,Tryz.runUnderlying146,rfl,rfl,Tryz.sizeOf137,rfl⟩)<|aP 20 2097151 rfl rfl (zaz rfl rfl rfl hg4B) (zaa rfl ⟨_,_,_,Tryz.runUnderlying137,rfl,rfl,Tryz.sizeOf3,rfl⟩)<|aV 21 4194303 rfl rfl (zaz rfl rfl rfl hg4B) r_ (zac rfl foc1 rfl Tryz.isAgg3)<|aP 22 8388607 rfl rfl (zaz rfl rfl rfl hg4B) (P_mul rfl rfl (by first | omega | (rw [em]; omega)))<|aP 23 16777215 rfl rfl (zaz rfl rfl rfl hg4B) (P_geq rfl rfl)<|aN 24 33554431 rfl rfl (za2 rfl hg4B rfl)<|aN 25 67108863 rfl rfl (zae rfl)<|zd5 60 false rfl (by first | exact decide_eq_false (by dsimp only; omega) | (dsimp only; omega)) fun hg5B => ?_
    refine aV 26 134217727 rfl rfl (zaz rfl rfl rfl hg5B) r_ (zac rfl foc2 rfl Tryz.isAgg81)<|aP 27 268435455 rfl rfl (zaz rfl rfl rfl hg5B) (zad rfl)<|aP 28 536870911 rfl rfl (zaz rfl rfl rfl hg5B) (zaa rfl ⟨_,_,_,Tryz.runUnderlying146,rfl,rfl,Tryz.sizeOf144,rfl⟩)<|aP 29 1073741823 rfl rfl (zaz rfl rfl rfl hg5B) (zaa rfl ⟨_,_,_,Tryz.runUnderlying144,rfl,rfl,Tryz.sizeOf3,rfl⟩)<|aV 30 2147483647 rfl rfl (zaz rfl rfl rfl hg5B) r_ (zac rfl foc1 rfl Tryz.isAgg3)<|aV 31 4294967295 rfl rfl (zaz rfl rfl rfl hg5B) r_ (zac rfl foc2 rfl Tryz.isAgg81)<|aP 32 8589934591 rfl rfl (zaz rfl rfl rfl hg5B) (zad rfl)<|aP 33 17179869183 rfl rfl (zaz rfl rfl rfl hg5B) (zaa rfl ⟨_,_,_,Tryz.runUnderlying146,rfl,rfl,Tryz.sizeOf137,rfl⟩)<|aP 34 34359738367 rfl rfl (zaz rfl rfl rfl hg5B) (zaa rfl ⟨_,_,_,Tryz.runUnderlying137,rfl,rfl,Tryz.sizeOf3,rfl⟩)<|aV 35 68719476735 rfl rfl (zaz rfl rfl rfl hg5B) r_ (zac rfl foc1 rfl Tryz.isAgg3)<|aP 36 137438953471 rfl rfl (zaz rfl rfl rfl hg5B) (P_geq rfl rfl)<|aN 37 274877906943 rfl rfl (za2 rfl hg5B rfl)<|aD ?_
    refine zap rfl (by first | exact decide_eq_false (by dsimp only; omega) | (dsimp only; omega))<|kT<|sR<|oV (zac rfl foc2 rfl Tryz.isAgg81)<|oO<|zai ((zq1 (t:=t.use k) (V:=V) (V' := V) (qo:=0) (eo:=e) (hp:=fun _=>True) (hn:=fun _=>True) (xx:=exE C e) (nwP:=False) hB h3 rfl hb (CK.re hJ hq0 (show 14 * wc≤t.k - k by omega)) ((hRc.ext (t' := t.use k) rfl rfl).j1 hd))) rfl Tryz.call86 (Dels.cons del0 (Dels.cons del0 (dC_ del1))) rfl fun o9 ho9=>oA rfl<|nT<|zaf ?_
    have ho1:o9.1=true := (Bool.eq_false_or_eq_true o9.1).resolve_right (fun z=>by have h8 := (ho9.2 z).1.us; have h9:t.safe=false := h8; rw [hs] at h9; cases h9)
    obtain ⟨g1,g2,g3⟩ := ho9.1 ho1
    refine zan (res1 Tryz.results58 rfl)<|CSpec.close (o9.2.1,e) ?_ ?_ (t0_ (Ent.takeC del0 (by rw [g3]) (t0_ (e_ r_))))
    · rw [ho1]; rfl
    · exact ⟨g1.dn,g1.sf.trans hs,by have h9:o9.2.1.k=t.k - k - 14 * wc := g1.k; show t.k - (12 * rc + 14 * wc)≤o9.2.1.k; omega,by have h9:o9.2.1.w=t.w + 14 := g1.w; show t.w≤o9.2.1.w; omega,fun z=>absurd z hq0,hJ,g2⟩
theorem z1p {W:World} {B:TS→HP} {vs:List IfH} {dep rc wc:Nat} {sz:Nat→Nat} (hB:BaseOk Tryz.prog B vs.length dep rc wc sz (fun i=>vs.getD i tyDev.dflt)) {t:TS} {C:PC} {V:Nat→Nat→UInt64} {sq:UInt64} {e:PE} {lv0:Sl3} (hd:t.dn=false) (hs:t.safe=true) (h3:vs.length=3) (hz:∀ i,i < 3→16 + C.c≤sz i∧sz i≤100000) (hR:C.R=(mmin sz 3 - 16) / C.c) (hJ:JV C V sq e) (hRc:Rc C none V sq e t) (hk:12 * rc + 14 * wc≤t.k) :
    CSpec Tryz.prog W 23 [lv0.v,.slice none 0 0,.int .i64 (C.c:Int)] [B t,sl tyDev lv0.v vs] (fun x:Nat × Sl3 × TS × PE => .tuple #[ptr x.1 0,.int .i64 0]) (fun x=>PO C V sq rc wc t x.2.2.1 x.2.2.2) (fun x F=>B x.2.2.1::blk x.1 146 [.int .i64 3,.int .i64 (C.c:Int),.int .i64 (C.R:Int),x.2.1.v,.int .u64 (sq.toNat:Int),.int .i64 (x.2.2.2.off:Int),.int .i64 (x.2.2.2.leg:Int),.int .u64 (x.2.2.2.w.toNat:Int),.int .u64 (x.2.2.2.p.toNat:Int),.bool false,.int .i64 0]::sl tyPLeg x.2.1.v (plg vs)::sl tyDev lv0.v vs::F) := by
 refine CSpec.of_body Tryz.func23 rfl Tryz.ntmps23 rfl fun F => ?_
 show CJ _ _ _ _ _ _ (_::_::F)
 have hc := C.hc
 refine sR<|oO<|O_box rfl rfl rfl fun b1=>oA rfl<|oA rfl<|nT<|sR<|oV (zac rfl foc0 rfl Tryz.isAgg52)<|oM rfl<|oO<|zai ((znp hB.depb (fun i hi=>hB.size hi hd) hc h3 hz)) rfl Tryz.call53 (Dels.cons del1 (dC_ del1)) rfl fun _ hc2=>oM rfl<|oP (zaj rfl rfl)<|oP (zaj rfl rfl)<|oO<|zbi Tryz.zeroValue137 rfl rfl fun b3=>oO<|zbo rfl rfl foc0 Tryz.sizeOf137 rfl rfl rfl<|oA rfl<|nT<|zab<|sR<|oM rfl<|oP (P_neq rfl rfl)<|nT<|zap rfl dF_<|kT<|zab<|sR<|oM rfl<|oP (zbb rfl rfl)<|oO<|zai (zsn) rfl Tryz.call34 Dels.nil rfl fun _ hc4=>nT<|zap rfl rfl<|kT<|zab<|sR<|oM rfl<|oP (zca rfl Tryz.runUnderlying22)<|oP (P_gtr rfl rfl)<|oM rfl<|zbp 29 false rfl dF_ fun hg2B=>g_ rfl rfl rfl hg2B rfl<|g_ rfl rfl rfl hg2B rfl<|g_ rfl rfl rfl hg2B rfl<|g_ rfl rfl rfl hg2B rfl<|g_ rfl rfl rfl hg2B rfl<|oP (za2 rfl hg2B rfl)<|nT<|zap rfl rfl<|kT<|sR<|oV (zbq rfl foc0 Tryz.isAgg137 Tryz.sizeOf137 rfl rfl)<|oP (zbk rfl (zo3 _ _ _))<|oO<|O_box rfl rfl rfl fun b5=>oA rfl<|nT<|zab<|sR<|oV (zac rfl foc4 rfl Tryz.isAgg52)<|oV (V_len rfl foc3 (Reads.sl _ _ _) Tryz.runUnderlying52)<|oM rfl<|nT<|zao<|zbs (fun h hh=>zch (t:=tyPLeg) h hh) ?_
 refine za8 (X:=Nat × Sl3) [11,12,41,42,43,44,45,46,47,48,49,50,51,52,53,54,55,56,57,58,59,60] (fun ⟨i,lv⟩  => ([(41,.int .i64 (i:Nat))]:Slots)) (fun ⟨i,lv⟩ R=>blk b5 146 [.int .i64 3,.int .i64 (C.c:Int),.int .i64 (C.R:Int),lv.v,.int .u64 ((0:UInt64).toNat:Int),.int .i64 (pe0.off:Int),.int .i64 (pe0.leg:Int),.int .u64 (pe0.w.toNat:Int),.int .u64 (pe0.p.toNat:Int),.bool false,.int .i64 0]::sl tyPLeg lv.v (plg (vs.take i))::R) (fun ⟨i,lv⟩  => i≤vs.length) (fun ⟨i,lv⟩  => vs.length - i) ⟨0,⟨none,0,0⟩⟩ ?_ ?_ (Ent.takeC del1 (by rw [hR] <;> rfl) r_) ?_
 · exact Nat.zero_le _
 · exact ⟨rfl,True.intro⟩
 ·
  rintro ⟨i,lv⟩ hil
  show CJ _ _ _ _ _ (([(41,.int .i64 (i:Nat))]:Slots) ++ forget _ _) (blk b5 146 [.int .i64 3,.int .i64 (C.c:Int),.int .i64 (C.R:Int),lv.v,.int .u64 ((0:UInt64).toNat:Int),.int .i64 (pe0.off:Int),.int .i64 (pe0.leg:Int),.int .u64 (pe0.w.toNat:Int),.int .u64 (pe0.p.toNat:Int),.bool false,.int .i64 0]::sl tyPLeg lv.v (plg (vs.take i))::_)
  have hml:(plg (vs.take i)).length=i := by rw [zc8]; simp; omega
  refine sR<|oP (P_lss rfl rfl)<|nT<|zab ?_
  first | (refine zav rfl (fun hg3 => ?_) (fun hg3 => ?_)) | (refine zaw rfl (fun hg3 => ?_) (fun hg3 => ?_)) | (refine za1 rfl (fun hg3 => ?_) (fun hg3 => ?_))
  ·
   refine kT<|zab<|zao<|sR ?_
   have hi:i < vs.length := by omega
   refine oM rfl ?_
   first | (refine RJ_op rfl (OJ_V (zam rfl rfl rfl (by omega) foc4 (Reads.sl _ _ _) Tryz.runUnderlying52 Tryz.sizeOf38) rfl ?_)) | (refine RJ_op rfl (OJ_V (zam rfl rfl (Int.toNat_of_nonneg (by omega)).symm (by omega) foc4 (Reads.sl _ _ _) Tryz.runUnderlying52 Tryz.sizeOf38) rfl ?_))
   refine oV (za6 rfl rfl (by omega) foc4 (Reads.sl _ _ _) rfl rfl Tryz.isAgg38)<|oA rfl<|oA rfl<|nT<|za3 18432 kR_ rfl<|aN 0 1 rfl rfl (zae rfl)<|aN 1 3 rfl rfl (zae rfl)<|aN 2 7 rfl rfl (zad rfl)<|aN 3 15 rfl rfl (zaa rfl ⟨_,_,_,Tryz.runUnderlying146,rfl,rfl,Tryz.sizeOf142,rfl⟩)<|aW 4 31 rfl rfl r_ (zac rfl foc0 rfl Tryz.isAgg142)<|aN 5 63 rfl rfl (zae rfl)<|aN 6 127 rfl rfl (zae rfl)<|aN 7 255 rfl rfl (zae rfl)<|AJ_op 8 511 rfl kR_ rfl (zal rfl)<|zai (zmv) rfl Tryz.call35 Dels.nil rfl fun _ hc6=>⟨fun _=>r_,?_⟩
   refine aN 9 1023 rfl rfl (zbk rfl (zm5 _ _ _))<|AJ_op 10 2047 rfl kR_ rfl (zal rfl)<|za4 rfl (zn9 _ _ _ _) rfl fun b7=>⟨fun _=>(t1_ (t1_ (t1_ (t1_ (t1_ (t1_ (e_ r_))))))),?_⟩
   refine AJ_op 11 4095 rfl kR_ rfl (zal rfl)<|zb1 (t:=tyPLeg) (bytes:=24) rfl rfl del2 foc0 (Reads.lit (t:=tyPLeg) (ys:=[(⟨vs.getD i tyDev.dflt,false,false⟩:PLeg)]) rfl rfl (by decide) (by decide) rfl) Tryz.underlying142 zwr (by show (plg (vs.take i)).length + 1≤maxLen; rw [hml]; unfold maxLen; omega) (by show ((plg (vs.take i)).length + 1) * 24≤_; rw [hml]; omega) rfl fun p8 c9=>⟨fun h=>absurd h (by decide),?_⟩
   refine aN 12 8191 rfl rfl (zad rfl)<|aN 13 16383 rfl rfl (zaa rfl ⟨_,_,_,Tryz.runUnderlying146,rfl,rfl,Tryz.sizeOf142,rfl⟩)<|AJ_op 14 32767 rfl kR_ rfl (zal rfl)<|za5 rfl rfl foc2 rfl rfl Tryz.sizeOf142<|⟨fun h=>absurd h (by decide),?_⟩
   refine zcf kR_<|zah<|zar<|zag<|oP (P_add rfl rfl (by omega))<|oM rfl<|za0<|zba ⟨i + 1,⟨p8,(plg (vs.take i) ++ [(⟨vs.getD i tyDev.dflt,false,false⟩:PLeg)]).length,c9⟩⟩ (by first | omega | (simp only []; omega)) ?_ kP_ ?_ (t2_ (Ent.takeC del0 (by rw [zzb hi]) (t1_ (t1_ (t1_ (t1_ (e_ r_)))))))
   · show i + 1≤vs.length; omega
   · exact ⟨rfl,True.intro⟩
  ·
   refine zbc<|zay<|zau<|zat<|zar<|zab<|zab ?_
   obtain rfl:i=3 := by omega
   have hb:∀ i,i < 3→C.sz≤sz i := fun i hi=>by
     have h1 := zss (sz:=sz) i hi
     have h2 := Nat.div_mul_le_self (mmin sz 3 - 16) C.c
     have h3 := hz i hi
     have h4:C.sz=16 + (mmin sz 3 - 16) / C.c * C.c := by rw [← hR]; rfl
     have h5 := (zkz hz 3 (Nat.le_refl _)).1
     omega
   rw [z1o h3]
   refine zag<|oM rfl<|oO<|zai ((zw0 (lv:=lv) hB hd hs h3 hb hJ hRc hk)) rfl Tryz.call58 (Dels.cons del3 (Dels.cons del0 (dC_ del0))) rfl fun o9 ho9=>oA rfl<|nT<|sR<|oM rfl<|oP (P_neq rfl rfl)<|nT<|zap rfl dF_<|kT<|sR<|oM rfl<|oA rfl<|oA rfl<|nT<|zaf<|zan (res2 Tryz.results23 rfl rfl)<|CSpec.close (b5,lv,o9) ?_ ?_ (t0_ (t0_ (t0_ (t1_ (e_ (e_ r_))))))
   · rfl
   · exact ho9
end Go.Proofs
namespace Go.Proofs.Ts
open Go.VG
def Nd.kids:Nd→List Nd
  | span _ _ _=>[]
  | cat p q=>[p,q]
  | str _ p q=>[p,q]
  | mir p q=>[p,q]
  | par _ p q r=>[p,q,r]
  | win _ _ p=>[p]
def Nd.dflt:Nd := .span 0 0 0
def Nd.np:Nd→Bool
  | span _ _ _=>true
  | cat p q=>p.np && q.np
  | str _ p q=>p.np && q.np
  | mir p q=>p.np && q.np
  | par _ _ _ _=>false
  | win _ _ p=>p.np
def Dj (p q:Nd):Prop := ∀ d a,p.fp d a → ¬ q.fp d a
def Nd.Good (ns:List Nat):Nd→Prop
  | span d st len=>d < ns.length∧1≤len∧st + len≤ns.getD d 0
  | cat p q=>p.Good ns∧q.Good ns∧Dj p q∧1≤p.sz∧1≤q.sz∧p.sz + q.sz≤100000
  | str c p q=>p.Good ns∧q.Good ns∧Dj p q∧(1≤c∧c≤3)∧c≤p.sz∧c≤q.sz∧p.sz + q.sz≤100000
  | mir p q=>p.Good ns∧q.Good ns∧Dj p q∧1≤p.sz∧1≤q.sz
  | par c p q r=>p.Good ns∧q.Good ns∧r.Good ns∧(Dj p q∧Dj p r∧Dj q r)∧(1≤c∧c≤2)∧(16 + c≤p.sz∧16 + c≤q.sz∧16 + c≤r.sz)∧min (min p.sz q.sz) r.sz≤56∧p.np=true∧q.np=true∧r.np=true
  | win st len p=>p.Good ns∧1≤len∧st + len≤p.sz
theorem zj3 {c n:Nat} (hc:1≤c∧c≤2) (h:16 + c≤n) (h2:n≤56):1≤Nd.rows c n∧Nd.rows c n≤40 := by
  unfold Nd.rows
  have h3:c=1∨c=2 := by omega
  rcases h3 with rfl | rfl <;> omega
theorem zqf {C:PC} {e:PE} {t:TS} (hz:∀ d a,d < 3→a < C.sz→t.nw d a=0) (hs:∀ d b,t.cd d b=[t.nw d b]):Rc C none (fun _ _=>0) 0 e t∧JV C (fun _ _=>0) 0 e := by
  have hL := C.hL
  have hsz:C.sz=16 + C.O := rfl
  refine ⟨⟨fun d hd _ => ?_,fun d _ _ _ z=>absurd rfl z,fun d hd _ o ho _=>hz d _ (by omega) (by omega),⟨0,by omega,by simp,hz 0 0 (by omega) (by omega)⟩,hs⟩,⟨fun o _=>by rw [hL]; rfl,fun z=>absurd rfl z,by decide⟩⟩
  show (t.nw d 0).toNat≤_
  rw [hz d 0 (by omega) (by omega)]; exact Nat.le_refl _
theorem zc5 {ns:List Nat} {s:ArrS} (hz:ZZ s):∀ n:Nd,n.Good ns→n.Rec s (fun _=>0)
  | .span d st len,_=>fun a _=>hz d (st + a)
  | .cat p q,h=>⟨_,_,zc5 hz p h.1,zc5 hz q h.2.1,fun a=>by simp⟩
  | .str c p q,h=>⟨_,_,zc5 hz p h.1,zc5 hz q h.2.1,fun a=>by simp⟩
  | .mir p q,h=>⟨_,zc5 hz p h.1,zc5 hz q h.2.1⟩
  | .win st len p,h=>⟨_,zc5 hz p h.1,fun _=>rfl⟩
  | .par c p q r,h=>by
    obtain ⟨h1,h2,h3,h4,h5,h6,h7,_⟩ := h
    refine ⟨_,_,_,zc5 hz p h1,zc5 hz q h2,zc5 hz r h3,⟨3,Nd.rows c (min (min p.sz q.sz) r.sz),c,rfl,zj3 h5 (by omega) h7,h5⟩,fun _ _=>0,0,pe0,rfl,rfl,?_⟩
    obtain ⟨g1,g2⟩ := zqf (C:=⟨3,Nd.rows c (min (min p.sz q.sz) r.sz),c,rfl,zj3 h5 (by omega) h7,h5⟩) (e:=pe0) (t:=mkT (v3 (fun _=>0) (fun _=>0) (fun _=>0))) (fun d a _ _=>by show v3 _ _ _ d a=0; unfold v3; split <;> (try split) <;> rfl) (fun _ _=>rfl)
    exact ⟨g1,g2,Nat.zero_le _,fun _=>rfl⟩
theorem IOk.weak {P:Program} {W:World} {d:Nat} {h:IfH} {m:String} {xs:List Value} {pre:List HP} {X:Type} {res:X→Value} {pf pf':X→Prop} {post:X→List HP→List HP} (hm:IOk P W d h m xs pre res pf post) (hp:∀ x,pf x→pf' x):IOk P W d h m xs pre res pf' post := by
  intro n hn F w hs
  obtain ⟨f,r,a,b,c⟩ := hm n hn F w hs
  refine ⟨f,r,a,b,c.mono ?_⟩
  rintro e w' ⟨x,q1,q2,q3⟩
  exact ⟨x,q1,hp x q2,q3⟩
theorem Op1.mono {ns:List Nat} {c c':Nat} {fp:Nat→Nat→Prop} {s s':ArrS} {k:Nat} {safe ok:Bool} (h:Op1 ns c fp s k safe ok s') (hc:c≤c'):Op1 ns c' fp s k safe ok s' := ⟨h.env.mono (by omega),h.out,h.sf⟩
theorem KidOk.mono {P:Program} {b:Nat} {ns:List Nat} {dep rc wc rc' wc':Nat} {K:Kid} (h:KidOk P b ns dep rc wc K) (h1:rc≤rc') (h2:wc≤wc'):KidOk P b ns dep rc' wc' K where
  depb := h.depb
  szb := h.szb
  na := h.na
  size := h.size
  rd he ha hk := IOk.weak (h.rd he ha (Nat.le_trans h1 hk)) fun _ g=>⟨g.1.mono h1,g.2⟩
  wr he ha hk := IOk.weak (h.wr he ha (Nat.le_trans h2 hk)) fun _ g=>⟨g.1.mono h2,g.2⟩
  fl := h.fl
  fr := h.fr
  frC := h.frC
  cr := h.cr
  nc := h.nc
  zv := h.zv
def cR:Nat→Nat
  | 0=>0
  | k + 1=>2 * cR k + (if k=0 then 1 else 14)
def cW:Nat→Nat
  | 0=>1
  | k + 1=>2 * cR k + 14 * cW k
def cO:Nat→Nat
  | 0=>0
  | k + 1=>3 * cO k + 320 * cW k + 20 * cR k
end Go.Proofs.Ts
set_option linter.unusedSimpArgs false
set_option maxRecDepth 20000
namespace Go.Proofs
open Go.VG Ts
theorem zo4 (v0:TypeId) (v1:Value):zbg Tryz.prog 52 1 [(0,.iface v0 v1)] 38 [.iface v0 v1] := fun w=>by kernel_rfl
structure NV where
  kind:Nat
  disk:Nat
  start:Nat
  size:Nat
  parts:Sl3
  chunk:Nat
def NV.enc (x:NV):List Value := [.int .i64 (x.kind:Int),.int .i64 (x.disk:Int),.int .i64 (x.start:Int),.int .i64 (x.size:Int),x.parts.v,.int .i64 (x.chunk:Int)]
def nv0:NV := ⟨0,0,0,0,⟨none,0,0⟩,0⟩
abbrev NV.val (x:NV):Value := .agg #[.int .i64 (x.kind:Int),.int .i64 (x.disk:Int),.int .i64 (x.start:Int),.int .i64 (x.size:Int),x.parts.v,.int .i64 (x.chunk:Int)]
abbrev zcr:Ty NV := { T := 30,sz := 6,enc := NV.enc,dflt := nv0,len := fun _=>rfl,one := fun _=>rfl,pos := by decide }
theorem zw1:ElemOk Tryz.prog zcr 64 := ⟨Tryz.t30,.agg #[.int .i64 0,.int .i64 0,.int .i64 0,.int .i64 0,.slice none 0 0,.int .i64 0],by kernel_rfl,rfl,rfl,rfl,rfl⟩
theorem zst {W:World} {σ X:Type} {S:σ→HP} {G:HP} {Inv:Nat→σ→Prop} {In4:σ→Prop} {dv:σ→List IfH} {s0:σ} {v:NV} {l:List NV} {b:Nat} {fmt:Bool} {R:X→HP} {rv:X→IfH} {pf:X→Prop} (hrec:∀ (i:Nat) (t:σ),i < l.length→Inv i t → ∀ {W:World},CSpec Tryz.prog W 10 [(l.getD i nv0).val,ptr b 0,.bool fmt] [S t,G] (fun x:IfH × σ => .tuple #[x.1.v,.bool true]) (fun x=>Inv (i + 1) x.2∧dv x.2=dv t ++ [x.1]) (fun x F=>S x.2::G::F)) (h0:Inv 0 s0) (hd0:dv s0=[]) (hdl:∀ i t,Inv i t→(dv t).length=i) (hl3:l.length≤3) (f0:v.kind=0 → ∀ (_lv:Sl3) (t:σ),Inv l.length t → ∀ {W:World},CSpec Tryz.prog W 19 [ptr b 0,.int .i64 (v.disk:Int),.int .i64 (v.start:Int),.int .i64 (v.size:Int)] [S t,G] (fun x:X => .tuple #[(rv x).v,.int .i64 0]) pf (fun x F=>R x::F)) (f1:v.kind=1 → ∀ (lv:Sl3) (t:σ),Inv l.length t → ∀ {W:World},CSpec Tryz.prog W 20 [lv.v] [S t,G,sl tyDev lv.v (dv t)] (fun x:X=>(rv x).v) pf (fun x F=>R x::F)) (f2:v.kind=2 → ∀ (lv:Sl3) (t:σ),Inv l.length t → ∀ {W:World},CSpec Tryz.prog W 21 [lv.v,.int .i64 (v.chunk:Int)] [S t,G,sl tyDev lv.v (dv t)] (fun x:X => .tuple #[(rv x).v,.int .i64 0]) pf (fun x F=>R x::F)) (f3:v.kind=3 → ∀ (lv:Sl3) (t:σ),Inv l.length t → ∀ {W:World},CSpec Tryz.prog W 14 [lv.v,.slice none 0 0,.nilIface,.int .i64 (v.chunk:Int)] [S t,G,sl tyDev lv.v (dv t)] (fun x:X × Nat => .tuple #[ptr x.2 0,.int .i64 0]) (fun x=>pf x.1∧rv x.1=⟨49,ptr x.2 0⟩) (fun x F=>R x.1::F)) (f4:v.kind=4→fmt=true → ∀ (lv:Sl3) (t:σ),Inv l.length t → ∀ {W:World},CSpec Tryz.prog W 22 [lv.v,.int .i64 (v.chunk:Int)] [S t,G,sl tyDev lv.v (dv t)] (fun _:σ => .int .i64 0) (fun x=>In4 x∧dv x=dv t) (fun x F=>S x::G::sl tyDev lv.v (dv x)::F)) (h4:fmt=false → ∀ t,Inv l.length t→In4 t) (f5:v.kind=4 → ∀ (lv:Sl3) (t:σ),In4 t → ∀ {W:World},CSpec Tryz.prog W 23 [lv.v,.slice none 0 0,.int .i64 (v.chunk:Int)] [S t,G,sl tyDev lv.v (dv t)] (fun x:X × Nat => .tuple #[ptr x.2 0,.int .i64 0]) (fun x=>pf x.1∧rv x.1=⟨81,ptr x.2 0⟩) (fun x F=>R x.1::F)) (f6:v.kind=5 → ∀ (lv:Sl3) (t:σ),Inv l.length t → ∀ {W:World},CSpec Tryz.prog W 24 [((dv t).getD 0 tyDev.dflt).v,.int .i64 (v.start:Int),.int .i64 (v.size:Int)] [S t,G,sl tyDev lv.v (dv t)] (fun x:X => .tuple #[(rv x).v,.int .i64 0]) pf (fun x F=>R x::F)) (hk5:v.kind≤5) (h1:v.kind=5→1≤l.length) :
    CSpec Tryz.prog W 10 [v.val,ptr b 0,.bool fmt] [S s0,G,sl zcr v.parts.v l] (fun x:X => .tuple #[(rv x).v,.bool true]) (pf) (fun x F=>R x::sl zcr v.parts.v l::F) := by
 refine CSpec.of_body Tryz.func10 rfl Tryz.ntmps10 rfl fun F => ?_
 show CJ _ _ _ _ _ _ (_::_::_::F)
 refine sR<|oO<|O_box rfl rfl rfl fun b1=>oA rfl<|oA rfl<|nT<|sR<|oA rfl<|nT<|zab<|sR<|oA rfl<|nT<|zao<|zbs (fun h hh=>zch (t:=tyDev) h hh)<|za8 (X:=Nat × σ × Sl3) [6,7,8,9,10,11,23,24,25,26,27,28,29,30,31,32,33,34,35,36,37,38,39,40,41,42,43,44,45,46] (fun ⟨i,t1,pv⟩  => ([(9,.int .i64 (i:Nat)),(8,pv.v)]:Slots)) (fun ⟨i,t1,pv⟩ R=>S t1::sl tyDev pv.v (dv t1)::R) (fun ⟨i,t1,pv⟩  => i≤l.length∧Inv i t1) (fun ⟨i,t1,pv⟩  => l.length - i) ⟨0,s0,⟨none,0,0⟩⟩ ?_ ?_ (t2_ (Ent.takeC del0 (by rw [hd0]) r_)) ?_
 · exact ⟨Nat.zero_le _,h0⟩
 · exact ⟨rfl,rfl,True.intro⟩
 ·
  rintro ⟨i,t1,pv⟩ ⟨hil,hI⟩
  show CJ _ _ _ _ _ (([(9,.int .i64 (i:Nat)),(8,pv.v)]:Slots) ++ forget _ _) (S t1::sl tyDev pv.v (dv t1)::_)
  have hdn := hdl i t1 hI
  refine zab<|sR<|oM rfl<|oP (zaa rfl ⟨_,_,_,Tryz.runUnderlying30,rfl,rfl,Tryz.sizeOf28,rfl⟩)<|oV (zac rfl foc2 rfl Tryz.isAgg28)<|oV (V_len rfl foc4 (Reads.sl _ _ _) Tryz.runUnderlying28)<|oP (P_lss rfl rfl)<|nT ?_
  first | (refine zav rfl (fun hg1 => ?_) (fun hg1 => ?_)) | (refine zaw rfl (fun hg1 => ?_) (fun hg1 => ?_)) | (refine za1 rfl (fun hg1 => ?_) (fun hg1 => ?_))
  ·
   refine kT<|zab<|zao<|sR ?_
   have hi:i < l.length := by omega
   refine oP (zaa rfl ⟨_,_,_,Tryz.runUnderlying30,rfl,rfl,Tryz.sizeOf28,rfl⟩)<|oV (zac rfl foc2 rfl Tryz.isAgg28)<|oM rfl ?_
   first | (refine RJ_op rfl (OJ_V (zam rfl rfl rfl (by omega) foc4 (Reads.sl _ _ _) Tryz.runUnderlying28 Tryz.sizeOf30) rfl ?_)) | (refine RJ_op rfl (OJ_V (zam rfl rfl (Int.toNat_of_nonneg (by omega)).symm (by omega) foc4 (Reads.sl _ _ _) Tryz.runUnderlying28 Tryz.sizeOf30) rfl ?_))
   refine oV (zdb rfl rfl (by omega) foc4 (Reads.sl _ _ _) rfl rfl Tryz.isAgg30 Tryz.sizeOf30)<|oM rfl<|oM rfl<|oO<|zai ((hrec i t1 hi hI)) rfl Tryz.call10 (Dels.cons del0 (dC_ del2)) rfl fun o9 ho9=>oM rfl<|oP (zaj rfl rfl)<|oP (zaj rfl rfl)<|oA rfl<|oA rfl<|nT<|zab<|sR<|oM rfl<|oP (P_not rfl)<|nT<|zap rfl rfl<|kT<|zag<|oM rfl<|oM rfl<|oO<|za4 rfl (zo4 _ _) rfl fun b3=>oO<|zb1 (t:=tyDev) (bytes:=16) rfl rfl del3 foc0 (Reads.lit (t:=tyDev) (ys:=[o9.1]) rfl rfl (by decide) (by decide) rfl) Tryz.underlying52 zny (by show (dv t1).length + 1≤maxLen; rw [hdn]; unfold maxLen; omega) (by show ((dv t1).length + 1) * 16≤_; rw [hdn]; omega) rfl fun p4 c5=>oA rfl<|za0<|zah<|zar<|zag<|oM rfl<|oP (P_add rfl rfl (by omega))<|oA rfl<|za0<|zba ⟨i + 1,o9.2,⟨p4,(dv t1 ++ [o9.1]).length,c5⟩⟩ (by first | omega | (simp only []; omega)) ?_ kP_ ?_ (t2_ (Ent.takeC del0 (by rw [ho9.2]) (t2_ (t1_ (t1_ (e_ r_))))))
   · exact ⟨by omega,ho9.1⟩
   · exact ⟨rfl,rfl,True.intro⟩
  ·
   refine zbc<|zay<|zau<|zat<|zar<|zab<|zab ?_
   obtain rfl:i=l.length := by omega
   refine zag<|oP (zaa rfl ⟨_,_,_,Tryz.runUnderlying30,rfl,rfl,Tryz.sizeOf3,rfl⟩)<|oV (zac rfl foc2 rfl Tryz.isAgg3)<|nT<|zao<|sR<|oP (P_eql rfl rfl)<|oA rfl<|nT ?_
   first | (refine zav rfl (fun hg2 => ?_) (fun hg2 => ?_)) | (refine zaw rfl (fun hg2 => ?_) (fun hg2 => ?_)) | (refine za1 rfl (fun hg2 => ?_) (fun hg2 => ?_))
   ·
    refine sR<|oM rfl<|oP (zaa rfl ⟨_,_,_,Tryz.runUnderlying30,rfl,rfl,Tryz.sizeOf3,rfl⟩)<|oV (zac rfl foc2 rfl Tryz.isAgg3)<|oP (zaa rfl ⟨_,_,_,Tryz.runUnderlying30,rfl,rfl,Tryz.sizeOf3,rfl⟩)<|oV (zac rfl foc2 rfl Tryz.isAgg3)<|oP (zaa rfl ⟨_,_,_,Tryz.runUnderlying30,rfl,rfl,Tryz.sizeOf3,rfl⟩)<|oV (zac rfl foc2 rfl Tryz.isAgg3)<|oO<|zai ((f0 (by omega) pv t1 hI)) rfl Tryz.call19 (Dels.cons del0 (dC_ del2)) rfl fun o9 ho9=>oM rfl<|oP (zaj rfl rfl)<|oP (zaj rfl rfl)<|oA rfl<|oA rfl<|nT<|zab<|za3 0 kR_ rfl<|aN 0 1 rfl rfl (zae rfl)<|aN 1 3 rfl rfl (zae rfl)<|aN 2 7 rfl rfl (P_eql rfl rfl)<|aN 3 15 rfl rfl (zae rfl)<|zd5 65 true rfl dT_ fun hg3B=>aP 4 31 rfl rfl (zaz rfl rfl rfl hg3B) (zae rfl)<|aP 5 63 rfl rfl (zaz rfl rfl rfl hg3B) (zko rfl rfl Tryz.underlying38)<|aN 6 127 rfl rfl (zbe rfl hg3B rfl)<|aN 7 255 rfl rfl (za9 rfl)<|aN 8 511 rfl rfl (za9 rfl)<|aD<|zaf<|zax<|zak<|zan (res2 Tryz.results10 rfl rfl)<|CSpec.close o9 ?_ ?_ (t0_ (t2_ (e_ (e_ r_))))
    · rfl
    · exact ho9
   ·
    refine sR<|oP (P_eql rfl rfl)<|oA rfl<|nT ?_
    first | (refine zav rfl (fun hg4 => ?_) (fun hg4 => ?_)) | (refine zaw rfl (fun hg4 => ?_) (fun hg4 => ?_)) | (refine za1 rfl (fun hg4 => ?_) (fun hg4 => ?_))
    ·
     refine sR<|oM rfl<|oO<|zai ((f1 (by omega) pv t1 hI)) rfl Tryz.call20 (Dels.cons del0 (Dels.cons del2 (dC_ del0))) rfl fun o9 ho9=>oA rfl<|nT<|zab<|za3 0 kR_ rfl<|aN 0 1 rfl rfl (zae rfl)<|aN 1 3 rfl rfl (zae rfl)<|aN 2 7 rfl rfl (zko rfl rfl Tryz.underlying38)<|aN 3 15 rfl rfl (za9 rfl)<|aN 4 31 rfl rfl (za9 rfl)<|aD<|zaf<|zax<|zak<|zan (res2 Tryz.results10 rfl rfl)<|CSpec.close o9 ?_ ?_ (t0_ (t1_ (e_ r_)))
     · rfl
     · exact ho9
    ·
     refine sR<|oP (P_eql rfl rfl)<|oA rfl<|nT ?_
     first | (refine zav rfl (fun hg5 => ?_) (fun hg5 => ?_)) | (refine zaw rfl (fun hg5 => ?_) (fun hg5 => ?_)) | (refine za1 rfl (fun hg5 => ?_) (fun hg5 => ?_))
     ·
      refine sR<|oM rfl<|oP (zaa rfl ⟨_,_,_,Tryz.runUnderlying30,rfl,rfl,Tryz.sizeOf3,rfl⟩)<|oV (zac rfl foc2 rfl Tryz.isAgg3)<|oO<|zai ((f2 (by omega) pv t1 hI)) rfl Tryz.call21 (Dels.cons del0 (Dels.cons del2 (dC_ del0))) rfl fun o9 ho9=>oM rfl<|oP (zaj rfl rfl)<|oP (zaj rfl rfl)<|oA rfl<|oA rfl<|nT<|zab<|za3 0 kR_ rfl<|aN 0 1 rfl rfl (zae rfl)<|aN 1 3 rfl rfl (zae rfl)<|aN 2 7 rfl rfl (P_eql rfl rfl)<|aN 3 15 rfl rfl (zae rfl)<|zd5 88 true rfl dT_ fun hg6B=>aP 4 31 rfl rfl (zaz rfl rfl rfl hg6B) (zae rfl)<|aP 5 63 rfl rfl (zaz rfl rfl rfl hg6B) (zko rfl rfl Tryz.underlying38)<|aN 6 127 rfl rfl (zbe rfl hg6B rfl)<|aN 7 255 rfl rfl (za9 rfl)<|aN 8 511 rfl rfl (za9 rfl)<|aD<|zaf<|zax<|zak<|zan (res2 Tryz.results10 rfl rfl)<|CSpec.close o9 ?_ ?_ (t0_ (t1_ (e_ r_)))
      · rfl
      · exact ho9
     ·
      refine sR<|oP (P_eql rfl rfl)<|oA rfl<|nT ?_
      first | (refine zav rfl (fun hg7 => ?_) (fun hg7 => ?_)) | (refine zaw rfl (fun hg7 => ?_) (fun hg7 => ?_)) | (refine za1 rfl (fun hg7 => ?_) (fun hg7 => ?_))
      ·
       refine sR<|oM rfl<|oP (zaa rfl ⟨_,_,_,Tryz.runUnderlying30,rfl,rfl,Tryz.sizeOf3,rfl⟩)<|oV (zac rfl foc2 rfl Tryz.isAgg3)<|oO<|zai ((f3 (by omega) pv t1 hI)) rfl Tryz.call14 (Dels.cons del0 (Dels.cons del2 (dC_ del0))) rfl fun o9 ho9=>oM rfl<|oP (zaj rfl rfl)<|oP (zaj rfl rfl)<|oA rfl<|oA rfl<|nT<|sR<|oM rfl<|oP (zdu rfl Tryz.runUnderlying49 (by intro ms h; cases h))<|oM rfl<|oP (P_eql rfl rfl)<|oM rfl<|zbp 105 true rfl dT_ fun hg8B=>p_ rfl rfl rfl hg8B (zae rfl)<|p_ rfl rfl rfl hg8B (zpo rfl rfl Tryz.underlying49)<|oP (zbe rfl hg8B rfl)<|oA rfl<|oA rfl<|nT<|zaf<|zax<|zak<|zan (res2 Tryz.results10 rfl rfl)<|CSpec.close o9.1 ?_ ?_ (t0_ (t1_ (e_ r_)))
       · rw [ho9.2]; rfl
       · exact ho9.1
      ·
       refine sR<|oP (P_eql rfl rfl)<|oA rfl<|nT ?_
       first | (refine zav rfl (fun hg9 => ?_) (fun hg9 => ?_)) | (refine zaw rfl (fun hg9 => ?_) (fun hg9 => ?_)) | (refine za1 rfl (fun hg9 => ?_) (fun hg9 => ?_))
       ·
        refine zab<|sR<|oM rfl<|oM rfl ?_
        first | (refine zbu 112 rfl (fun hg10B hg10 => ?_) (fun hg10B hg10 => ?_)) | (refine zbv 112 rfl (fun hg10B hg10 => ?_) (fun hg10B hg10 => ?_)) | (refine zb3 112 rfl (fun hg10B => ?_) (fun hg10B => ?_))
        ·
         have hfm:fmt=true := hg10B
         refine p_ rfl rfl rfl hg10B (zae rfl)<|p_ rfl rfl rfl hg10B (zaa rfl ⟨_,_,_,Tryz.runUnderlying30,rfl,rfl,Tryz.sizeOf3,rfl⟩)<|v_ rfl rfl rfl hg10B (zac rfl foc2 rfl Tryz.isAgg3)<|RJ_gy (zaz rfl rfl rfl hg10B)<|zai ((f4 (by omega) hfm pv t1 hI)) rfl Tryz.call22 (Dels.cons del0 (Dels.cons del2 (dC_ del0))) rfl fun o8 ho8=>p_ rfl rfl rfl hg10B (P_neq rfl rfl)<|oP (zbe rfl hg10B rfl)<|nT<|zap rfl dF_<|kT<|sR<|oM rfl<|oP (zaa rfl ⟨_,_,_,Tryz.runUnderlying30,rfl,rfl,Tryz.sizeOf3,rfl⟩)<|oV (zac rfl foc3 rfl Tryz.isAgg3)<|oO<|zai ((f5 (by omega) pv _ ho8.1)) rfl Tryz.call23 (Dels.cons del0 (Dels.cons del0 (dC_ del0))) rfl fun o9 ho9=>oM rfl<|oP (zaj rfl rfl)<|oP (zaj rfl rfl)<|oA rfl<|oA rfl<|nT<|sR<|oM rfl<|oP (zdu rfl Tryz.runUnderlying81 (by intro ms h; cases h))<|oM rfl<|oP (P_eql rfl rfl)<|oM rfl<|zbp 130 true rfl dT_ fun hg12B=>p_ rfl rfl rfl hg12B (zae rfl)<|p_ rfl rfl rfl hg12B (zpo rfl rfl Tryz.underlying81)<|oP (zbe rfl hg12B rfl)<|oA rfl<|oA rfl<|nT<|zaf<|zax<|zak<|zan (res2 Tryz.results10 rfl rfl)<|CSpec.close o9.1 ?_ ?_ (t0_ (t1_ (e_ r_)))
         · rw [ho9.2]; rfl
         · exact ho9.1
        ·
         have hI4:In4 t1 := h4 hg10B t1 hI
         refine g_ rfl rfl rfl hg10B rfl<|g_ rfl rfl rfl hg10B rfl<|g_ rfl rfl rfl hg10B rfl<|g_ rfl rfl rfl hg10B rfl<|g_ rfl rfl rfl hg10B rfl<|oP (za2 rfl hg10B rfl)<|nT<|zap rfl rfl<|kT<|sR<|oM rfl<|oP (zaa rfl ⟨_,_,_,Tryz.runUnderlying30,rfl,rfl,Tryz.sizeOf3,rfl⟩)<|oV (zac rfl foc2 rfl Tryz.isAgg3)<|oO<|zai ((f5 (by omega) pv _ hI4)) rfl Tryz.call23 (Dels.cons del0 (Dels.cons del2 (dC_ del0))) rfl fun o9 ho9=>oM rfl<|oP (zaj rfl rfl)<|oP (zaj rfl rfl)<|oA rfl<|oA rfl<|nT<|sR<|oM rfl<|oP (zdu rfl Tryz.runUnderlying81 (by intro ms h; cases h))<|oM rfl<|oP (P_eql rfl rfl)<|oM rfl<|zbp 130 true rfl dT_ fun hg13B=>p_ rfl rfl rfl hg13B (zae rfl)<|p_ rfl rfl rfl hg13B (zpo rfl rfl Tryz.underlying81)<|oP (zbe rfl hg13B rfl)<|oA rfl<|oA rfl<|nT<|zaf<|zax<|zak<|zan (res2 Tryz.results10 rfl rfl)<|CSpec.close o9.1 ?_ ?_ (t0_ (t1_ (e_ r_)))
         · rw [ho9.2]; rfl
         · exact ho9.1
       ·
        refine zbh<|zah<|zar<|zab<|za3 128 kR_ rfl<|aN 0 1 rfl rfl (zae rfl) ?_
        first | (refine zbj 1 3 rfl kR_ rfl kR_ kR_ (zal rfl) r_ (zam rfl rfl rfl (by omega) foc1 (Reads.sl _ _ _) Tryz.runUnderlying52 Tryz.sizeOf38) rfl (fun _ _ _ _ h=>h) ?_) | (refine zbj 1 3 rfl kR_ rfl kR_ kR_ (zal rfl) r_ (zam rfl rfl (Int.toNat_of_nonneg (by omega)).symm (by omega) foc1 (Reads.sl _ _ _) Tryz.runUnderlying52 Tryz.sizeOf38) rfl (fun _ _ _ _ h=>h) ?_)
        refine aW 2 7 rfl rfl r_ (za6 rfl rfl (by omega) foc1 (Reads.sl _ _ _) rfl rfl Tryz.isAgg38)<|aN 3 15 rfl rfl (zaa rfl ⟨_,_,_,Tryz.runUnderlying30,rfl,rfl,Tryz.sizeOf3,rfl⟩)<|aW 4 31 rfl rfl r_ (zac rfl foc2 rfl Tryz.isAgg3)<|aN 5 63 rfl rfl (zaa rfl ⟨_,_,_,Tryz.runUnderlying30,rfl,rfl,Tryz.sizeOf3,rfl⟩)<|aW 6 127 rfl rfl r_ (zac rfl foc2 rfl Tryz.isAgg3)<|AJ_op 7 255 rfl kR_ rfl (zal rfl)<|zai ((f6 (by omega) pv t1 hI)) rfl Tryz.call24 (Dels.cons del0 (Dels.cons del2 (dC_ del0))) rfl fun o9 ho9=>⟨fun h=>absurd h (by decide),?_⟩
        refine aN 8 511 rfl rfl (zae rfl)<|aN 9 1023 rfl rfl (zaj rfl rfl)<|aN 10 2047 rfl rfl (zaj rfl rfl)<|aN 11 4095 rfl rfl (za9 rfl)<|aN 12 8191 rfl rfl (za9 rfl)<|aD<|zab<|za3 0 kR_ rfl<|aN 0 1 rfl rfl (zae rfl)<|aN 1 3 rfl rfl (zae rfl)<|aN 2 7 rfl rfl (P_eql rfl rfl)<|aN 3 15 rfl rfl (zae rfl)<|zd5 148 true rfl dT_ fun hg14B=>aP 4 31 rfl rfl (zaz rfl rfl rfl hg14B) (zae rfl)<|aP 5 63 rfl rfl (zaz rfl rfl rfl hg14B) (zko rfl rfl Tryz.underlying38)<|aN 6 127 rfl rfl (zbe rfl hg14B rfl)<|aN 7 255 rfl rfl (za9 rfl)<|aN 8 511 rfl rfl (za9 rfl)<|aD<|zaf<|zan (res2 Tryz.results10 rfl rfl)<|CSpec.close o9 ?_ ?_ (t0_ (t1_ (e_ r_)))
        · rfl
        · exact ho9
end Go.Proofs
namespace Go.VG
section
variable {P:Program} {W:World} {f:FuncId} {args:List Value} {pre pre':List HP} {X Y:Type} {res:X→Value} {pf:X→Prop} {post:X→List HP→List HP} {res':Y→Value} {pf':Y→Prop} {post':Y→List HP→List HP}
theorem CSpec.imp (hm:CSpec P W f args pre res pf post) (h:∀ y F g,pf y→stars (post y F) g → ∃ z,res y=res' z∧pf' z∧stars (post' z F) g):CSpec P W f args pre res' pf' post' := fun F w hs =>
  (hm F w hs).mono fun _ _ ⟨y,q1,q2,q3⟩=>by
    obtain ⟨g,hg⟩ := q3.heap
    obtain ⟨z,a,b,c⟩ := h y F _ q2 hg
    exact ⟨z,by rw [q1,a],b,⟨q3.os,q3.tape,q3.output,g,c⟩⟩
theorem CSpec.preX {β:Type} {φ:β→Prop} {pre2:β→List HP} (h:∀ F g,stars (pre' ++ F) g → ∃ y,φ y∧stars (pre2 y ++ F) g) (hm:∀ y,φ y→CSpec P W f args (pre2 y) res pf post):CSpec P W f args pre' res pf post := fun F w hs=>by
  obtain ⟨g,hg⟩ := hs.heap
  obtain ⟨y,a,b⟩ := h F _ hg
  exact hm y a F w ⟨hs.os,hs.tape,hs.output,g,b⟩
end
end Go.VG
namespace Go.Proofs.Ts
open Go.VG
theorem KidOk.monod {P:Program} {b:Nat} {ns:List Nat} {dep dep' rc wc:Nat} {K:Kid} (h:KidOk P b ns dep rc wc K) (h1:dep≤dep') (h2:dep' ≤ 60):KidOk P b ns dep' rc wc K where
  depb := h2
  szb := h.szb
  na := h.na
  size := fun n hn=>h.size n (Nat.le_trans h1 hn)
  rd he ha hk := fun n hn=>h.rd he ha hk n (Nat.le_trans h1 hn)
  wr he ha hk := fun n hn=>h.wr he ha hk n (Nat.le_trans h1 hn)
  fl he := fun n hn=>h.fl he n (Nat.le_trans h1 hn)
  fr := h.fr
  frC := h.frC
  cr := h.cr
  nc := h.nc
  zv := h.zv
def Shape (v:NV):Nd→Prop
  | .span d st len=>v.kind=0∧v.disk=d∧v.start=st∧v.size=len
  | .cat _ _=>v.kind=1
  | .str c _ _=>v.kind=2∧v.chunk=c
  | .mir _ _=>v.kind=3∧1≤v.chunk∧v.chunk≤3
  | .par c _ _ _=>v.kind=4∧v.chunk=c
  | .win st len _=>v.kind=5∧v.start=st∧v.size=len
def NHs (g:NV→Nd→HP) (l:List NV) (n:Nd):List HP := (List.range l.length).map fun j=>g (l.getD j nv0) (n.kids.getD j Nd.dflt)
def NHg (g:NV→Nd→HP) (v:NV) (n:Nd):HP := ex fun l:List NV=>star [pur (Shape v n∧l.length=n.kids.length),sl zcr v.parts.v l,star (NHs g l n)]
def NH:Nat→NV→Nd→HP
  | 0=>fun v n=>star [pur (n.kids=[]),NHg (fun _ _=>star []) v n]
  | k + 1=>NHg (NH k)
structure KOk (b:Nat) (ns:List Nat) (k:Nat) (K:Kid) (n:Nd):Prop where
  ok:KidOk Tryz.prog b ns (k + 1) (cR k) (cW k) K
  sz:K.sz=n.sz
  cr:K.Cr=n.Cr
  fp:K.fp=n.fp
  zk:n.np=true→K.zk=true
structure KRes (b:Nat) (ns:List Nat) (k:Nat) (n:Nd) (s:ArrS) (kk:Nat) (fmt:Bool) (x:Kid × ArrS):Prop where
  ok:KOk b ns k x.1 n
  env:Env ns false true kk x.2
  out:Out n.fp s x.2
  zz:fmt=true→ZZ x.2
def KPost (b:Nat) (vals:Nat→UInt64) (G:HP) (x:Kid × ArrS):HP := star [Arr b x.2,x.1.H x.2 vals (fun a=>[vals a]),G]
def OpK (b:Nat) (ns:List Nat) (k:Nat) (g:NV→Nd→HP):Prop := ∀ {W:World} (v:NV) (n:Nd) (s:ArrS) (vals:Nat→UInt64) (fmt:Bool) (kk:Nat),n.Good ns→Env ns false true kk s→cO k≤kk→n.Rec s vals→(fmt=true→ZZ s∧vals=fun _=>0) →
  CSpec Tryz.prog W 10 [v.val,ptr b 0,.bool fmt] [Arr b s,g v n] (fun x:Kid × ArrS => .tuple #[x.1.val.v,.bool true]) (KRes b ns k n s (kk - cO k) fmt) (fun x F=>KPost b vals (g v n) x::F)
structure LS where
  Ks:Nat→Kid
  i:Nat
  s:ArrS
  vf:Nat→Nat→UInt64
def LS.S (b:Nat) (t:LS):HP := star (Arr b t.s::Hs t.Ks (List.range t.i) t.s (mkT t.vf))
def LS.dv (t:LS):List IfH := (List.range t.i).map fun j=>(t.Ks j).val
theorem LS.dv_len {t:LS} : t.dv.length=t.i := by simp [LS.dv]
theorem LS.dv_at {t:LS} {i:Nat} (h:i < t.i):t.dv.getD i tyDev.dflt=(t.Ks i).val := by simp [LS.dv,List.getD,h]
def updK (Ks:Nat→Kid) (i:Nat) (K:Kid):Nat→Kid := fun j=>if j=i then K else Ks j
def LS.snoc (t:LS) (K:Kid) (s:ArrS):LS := ⟨updK t.Ks t.i K,t.i + 1,s,t.vf⟩
theorem LS.snoc_dv {t:LS} {K:Kid} {s:ArrS} : (t.snoc K s).dv=t.dv ++ [K.val] := by
  unfold LS.dv LS.snoc
  rw [List.range_succ,List.map_append]
  congr 1
  · apply List.map_congr_left
    intro j hj
    have := List.mem_range.1 hj
    show (updK t.Ks t.i K j).val=_
    unfold updK
    rw [if_neg (by omega)]
  · simp [updK]
structure LI (b:Nat) (ns:List Nat) (k:Nat) (n:Nd) (s0:ArrS) (vf:Nat→Nat→UInt64) (kk:Nat) (fmt:Bool) (i:Nat) (t:LS):Prop where
  ei:t.i=i
  ev:t.vf=vf
  kd:∀ j,j < i→KOk b ns k (t.Ks j) (n.kids.getD j Nd.dflt)
  env:Env ns false true (kk - i * cO k) t.s
  out:Out n.fp s0 t.s
  rc:∀ j,i≤j→j < n.kids.length→(n.kids.getD j Nd.dflt).Rec t.s (vf j)
  zz:fmt=true→ZZ t.s
  fst:i=0→t.s=s0
section
variable {b:Nat} {ns:List Nat} {k:Nat} {n:Nd} {s:ArrS} {vf:Nat→Nat→UInt64} {kk:Nat} {fmt:Bool} {i:Nat} {t:LS}
theorem zsu (h:n.Good ns) {j:Nat} (hj:j < n.kids.length):(n.kids.getD j Nd.dflt).Good ns := by
  cases n with
  | span=>exact absurd hj (by simp [Nd.kids])
  | cat p q =>
    have:j=0∨j=1 := by simp [Nd.kids] at hj; omega
    rcases this with rfl | rfl
    · exact h.1
    · exact h.2.1
  | str c p q =>
    have:j=0∨j=1 := by simp [Nd.kids] at hj; omega
    rcases this with rfl | rfl
    · exact h.1
    · exact h.2.1
  | mir p q =>
    have:j=0∨j=1 := by simp [Nd.kids] at hj; omega
    rcases this with rfl | rfl
    · exact h.1
    · exact h.2.1
  | par c p q r =>
    have:j=0∨j=1∨j=2 := by simp [Nd.kids] at hj; omega
    rcases this with rfl | rfl | rfl
    · exact h.1
    · exact h.2.1
    · exact h.2.2.1
  | win st len p =>
    have:j=0 := by simp [Nd.kids] at hj; omega
    subst this; exact h.1
theorem zsv {j:Nat} (hj:j < n.kids.length) {d a:Nat} (h:(n.kids.getD j Nd.dflt).fp d a):n.fp d a := by
  cases n with
  | span=>exact absurd hj (by simp [Nd.kids])
  | cat p q =>
    have:j=0∨j=1 := by simp [Nd.kids] at hj; omega
    rcases this with rfl | rfl
    · exact .inl h
    · exact .inr h
  | str c p q =>
    have:j=0∨j=1 := by simp [Nd.kids] at hj; omega
    rcases this with rfl | rfl
    · exact .inl h
    · exact .inr h
  | mir p q =>
    have:j=0∨j=1 := by simp [Nd.kids] at hj; omega
    rcases this with rfl | rfl
    · exact .inl h
    · exact .inr h
  | par c p q r =>
    have:j=0∨j=1∨j=2 := by simp [Nd.kids] at hj; omega
    rcases this with rfl | rfl | rfl
    · exact .inl h
    · exact .inr (.inl h)
    · exact .inr (.inr h)
  | win st len p =>
    have:j=0 := by simp [Nd.kids] at hj; omega
    subst this; exact h
theorem Dj.symm {p q:Nd} (h:Dj p q):Dj q p := fun d a x y=>h d a y x
theorem zsw (h:n.Good ns) {i j:Nat} (hi:i < n.kids.length) (hj:j < n.kids.length) (hn:i≠j):Dj (n.kids.getD i Nd.dflt) (n.kids.getD j Nd.dflt) := by
  cases n with
  | span=>exact absurd hj (by simp [Nd.kids])
  | cat p q =>
    have h2:i=0∧j=1∨i=1∧j=0 := by simp [Nd.kids] at hi hj; omega
    rcases h2 with ⟨rfl,rfl⟩ | ⟨rfl,rfl⟩
    · exact h.2.2.1
    · exact h.2.2.1.symm
  | str c p q =>
    have h2:i=0∧j=1∨i=1∧j=0 := by simp [Nd.kids] at hi hj; omega
    rcases h2 with ⟨rfl,rfl⟩ | ⟨rfl,rfl⟩
    · exact h.2.2.1
    · exact h.2.2.1.symm
  | mir p q =>
    have h2:i=0∧j=1∨i=1∧j=0 := by simp [Nd.kids] at hi hj; omega
    rcases h2 with ⟨rfl,rfl⟩ | ⟨rfl,rfl⟩
    · exact h.2.2.1
    · exact h.2.2.1.symm
  | par c p q r =>
    obtain ⟨g1,g2,g3⟩ := h.2.2.2.1
    have h2:i=0∧j=1∨i=1∧j=0∨i=0∧j=2∨i=2∧j=0∨i=1∧j=2∨i=2∧j=1 := by simp [Nd.kids] at hi hj; omega
    rcases h2 with ⟨rfl,rfl⟩ | ⟨rfl,rfl⟩ | ⟨rfl,rfl⟩ | ⟨rfl,rfl⟩ | ⟨rfl,rfl⟩ | ⟨rfl,rfl⟩
    · exact g1
    · exact g1.symm
    · exact g2
    · exact g2.symm
    · exact g3
    · exact g3.symm
  | win st len p=>exact absurd hn (by simp [Nd.kids] at hi hj; omega)
theorem zoa:n.kids.length≤3 := by cases n <;> simp [Nd.kids]
theorem mapAt {g:Nat→HP} {L i:Nat} (hi:i < L) (R:List HP):((List.range L).map g ++ R).Perm (g i::(((List.range L).erase i).map g ++ R)) :=
  ((List.perm_cons_erase (List.mem_range.2 hi)).map g).append_right R
theorem z1q {K:Kid} {s':ArrS} {v:Nat→Nat→UInt64} : Hs (updK t.Ks t.i K) (List.range (t.i + 1)) s' (mkT v)=Hs t.Ks (List.range t.i) s' (mkT v) ++ [K.H s' (v t.i) (fun a=>[v t.i a])] := by
  unfold Hs
  rw [List.range_succ,List.map_append]
  congr 1
  · apply List.map_congr_left
    intro j hj
    have := List.mem_range.1 hj
    unfold updK
    rw [if_neg (by omega)]
  · show [(updK t.Ks t.i K t.i).H _ _ _]=_
    unfold updK
    rw [if_pos rfl]; rfl
theorem zzc {g:NV→Nd→HP} {l:List NV} (IH:OpK b ns k g) (hg:n.Good ns) (hl:l.length=n.kids.length) (hkk:n.kids.length * cO k≤kk) (hz:fmt=true→vf=fun _ _=>0) {W:World} (hi:i < l.length) (hI:LI b ns k n s vf kk fmt i t) :
    CSpec Tryz.prog W 10 [(l.getD i nv0).val,ptr b 0,.bool fmt] [t.S b,star (NHs g l n)] (fun x:IfH × LS => .tuple #[x.1.v,.bool true]) (fun x=>LI b ns k n s vf kk fmt (i + 1) x.2∧x.2.dv=t.dv ++ [x.1]) (fun x F=>x.2.S b::star (NHs g l n)::F) := by
  have hi2:i < n.kids.length := by omega
  have hb:(i + 1) * cO k≤kk := Nat.le_trans (Nat.mul_le_mul_right _ hi2) hkk
  rw [Nat.add_mul,Nat.one_mul] at hb
  have hm := IH (W:=W) (l.getD i nv0) (n.kids.getD i Nd.dflt) t.s (vf i) fmt (kk - i * cO k) (zsu hg hi2) hI.env (by omega) (hI.rc i (Nat.le_refl _) hi2) (fun z=>⟨hI.zz z,by rw [hz z]⟩)
  have h1:CSpec Tryz.prog W 10 [(l.getD i nv0).val,ptr b 0,.bool fmt] [t.S b,star (NHs g l n)] (fun x:Kid × ArrS => .tuple #[x.1.val.v,.bool true]) (KRes b ns k (n.kids.getD i Nd.dflt) t.s (kk - i * cO k - cO k) fmt) (fun x F=>KPost b (vf i) (g (l.getD i nv0) (n.kids.getD i Nd.dflt)) x::(Hs t.Ks (List.range t.i) t.s (mkT t.vf) ++ (((List.range l.length).erase i).map (fun j=>g (l.getD j nv0) (n.kids.getD j Nd.dflt)) ++ F))) :=
    CSpec.conseq (G:=Hs t.Ks (List.range t.i) t.s (mkT t.vf) ++ ((List.range l.length).erase i).map (fun j=>g (l.getD j nv0) (n.kids.getD j Nd.dflt))) hm
      (fun F p hp=>by
        have h2:stars (Arr b t.s::(Hs t.Ks (List.range t.i) t.s (mkT t.vf) ++ (star (NHs g l n)::F))) p := stars_star.1 hp
        have h3 := zbd (swapL (A:=Arr b t.s) (B:=star (NHs g l n)) (l:=Hs t.Ks (List.range t.i) t.s (mkT t.vf)) (F:=F)) _ h2
        have h4:stars (NHs g l n ++ (Hs t.Ks (List.range t.i) t.s (mkT t.vf) ++ (Arr b t.s::F))) p := stars_star.1 h3
        have h5 := zbd (mapAt hi _) _ h4
        refine zbd ?_ _ h5
        classical exact List.perm_iff_count.2 fun a=>by simp only [List.append_assoc,List.count_append,List.count_cons,List.count_nil,List.cons_append,List.nil_append]; omega)
      (fun x F=>by rw [List.append_assoc]; exact Ent.refl)
  refine CSpec.imp h1 fun x F p hx hp=>⟨(x.1.val,t.snoc x.1 x.2),rfl,⟨?_,LS.snoc_dv⟩,?_⟩
  · have hsn:∀ j,j < i→(t.snoc x.1 x.2).Ks j=t.Ks j := fun j hj=>by
      show updK t.Ks t.i x.1 j=_
      unfold updK
      rw [if_neg (by rw [hI.ei]; omega)]
    refine ⟨by show t.i + 1=_; rw [hI.ei],hI.ev,fun j hj => ?_,?_,hI.out.trans (hx.out.mono fun d a h=>zsv hi2 h),fun j hj hjl => ?_,hx.zz,fun z=>absurd z (by omega)⟩
    · by_cases hji:j=i
      · subst hji
        have:(t.snoc x.1 x.2).Ks j=x.1 := by
          show updK t.Ks t.i x.1 j=_
          unfold updK
          rw [if_pos hI.ei.symm]
        rw [this]; exact hx.ok
      · rw [hsn j (by omega)]; exact hI.kd j (by omega)
    · have := hx.env
      rw [Nat.sub_sub] at this
      rw [Nat.add_mul,Nat.one_mul]; exact this
    · exact Nd.Rec.frame (hx.out.inn fun d a x=>zsw hg hjl hi2 (by omega) d a x) (hI.rc j (by omega) hjl)
  · have hI2:∀ j,j ∈ List.range t.i→Inn (t.Ks j).fp t.s x.2 := fun j hj=>by
      have hj2:j < i := by rw [← hI.ei]; exact List.mem_range.1 hj
      rw [(hI.kd j hj2).fp]
      exact hx.out.inn fun d a x=>zsw hg (by omega) hi2 (by omega) d a x
    have h2:stars ([Arr b x.2,x.1.H x.2 (vf i) (fun a=>[vf i a]),g (l.getD i nv0) (n.kids.getD i Nd.dflt)] ++ (Hs t.Ks (List.range t.i) t.s (mkT t.vf) ++ (((List.range l.length).erase i).map (fun j=>g (l.getD j nv0) (n.kids.getD j Nd.dflt)) ++ F))) p := stars_star.1 hp
    have h3:stars (Hs t.Ks (List.range t.i) t.s (mkT t.vf) ++ ([Arr b x.2,x.1.H x.2 (vf i) (fun a=>[vf i a]),g (l.getD i nv0) (n.kids.getD i Nd.dflt)] ++ (((List.range l.length).erase i).map (fun j=>g (l.getD j nv0) (n.kids.getD j Nd.dflt)) ++ F))) p := by
      refine zbd ?_ _ h2
      classical exact List.perm_iff_count.2 fun a=>by simp only [List.append_assoc,List.count_append,List.count_cons,List.count_nil,List.cons_append,List.nil_append]; omega
    have h4 := zov (f:=fun j=>(t.Ks j).H t.s ((mkT t.vf).nw j) ((mkT t.vf).cd j)) (g:=fun j=>(t.Ks j).H x.2 ((mkT t.vf).nw j) ((mkT t.vf).cd j)) (List.range t.i) (fun j hj R=>by
      have hj2:j < i := by rw [← hI.ei]; exact List.mem_range.1 hj
      exact (hI.kd j hj2).ok.fr (hI2 j hj)) _ _ h3
    have e1:Hs (updK t.Ks t.i x.1) (List.range (t.i + 1)) x.2 (mkT t.vf)=Hs t.Ks (List.range t.i) x.2 (mkT t.vf) ++ [x.1.H x.2 (vf i) (fun a=>[vf i a])] := by
      rw [z1q,hI.ev,hI.ei]
    show stars (star (Arr b x.2::Hs (updK t.Ks t.i x.1) (List.range (t.i + 1)) x.2 (mkT t.vf))::star (NHs g l n)::F) p
    rw [e1]
    have h5:stars (NHs g l n ++ (star (Arr b x.2::(Hs t.Ks (List.range t.i) x.2 (mkT t.vf) ++ [x.1.H x.2 (vf i) (fun a=>[vf i a])]))::F)) p := by
      refine zbd (mapAt hi _).symm _ ?_
      have h6:stars (star (Arr b x.2::(Hs t.Ks (List.range t.i) x.2 (mkT t.vf) ++ [x.1.H x.2 (vf i) (fun a=>[vf i a])]))::(g (l.getD i nv0) (n.kids.getD i Nd.dflt)::(((List.range l.length).erase i).map (fun j=>g (l.getD j nv0) (n.kids.getD j Nd.dflt)) ++ F))) p := by
        refine stars_star.2 (zbd ?_ _ h4)
        unfold Hs
        classical exact List.perm_iff_count.2 fun a=>by simp only [List.append_assoc,List.count_append,List.count_cons,List.count_nil,List.cons_append,List.nil_append]; omega
      refine zbd ?_ _ h6
      classical exact List.perm_iff_count.2 fun a=>by simp only [List.append_assoc,List.count_append,List.count_cons,List.count_nil,List.cons_append,List.nil_append]; omega
    exact zbx (stars_star.2 h5:stars (star (NHs g l n)::_::F) p)
end
end Go.Proofs.Ts
namespace Go.Proofs.Ts
open Go.VG
def RelV:Nd→ArrS→(Nat→Nat→UInt64)→(Nat→UInt64)→Prop
  | .span d st len,s,_,v=>(Nd.span d st len).Rec s v
  | .cat p _,_,vf,v => ∀ a,v a=if a < p.sz then vf 0 a else vf 1 (a - p.sz)
  | .str c _ _,_,vf,v => ∀ a,v a=if a / c % 2=0 then vf 0 (a / c / 2 * c + a % c) else vf 1 (a / c / 2 * c + a % c)
  | .mir _ _,_,vf,v=>v=vf 0
  | .par c p q r,s,vf,v => ∃ (C:PC) (V:Nat→Nat→UInt64) (n:UInt64) (e:PE),C.c=c∧C.R=Nd.rows c (min (min p.sz q.sz) r.sz)∧Rc C none V n e (mkT vf)∧JV C V n e∧n.toNat≤s.writes ∧ ∀ a,a < C.D→v a=V (C.leg a) (C.off a)
  | .win st _ _,_,vf,v => ∀ a,v a=vf 0 (st + a)
section
variable {b:Nat} {ns:List Nat} {k:Nat} {n p q r:Nd} {s:ArrS} {vf:Nat→Nat→UInt64} {vals:Nat→UInt64} {kk:Nat} {fmt:Bool} {i L:Nat} {t:LS} {W:World} {G:HP} {lv:Sl3} {c st len:Nat}
theorem zw2 (h:n.Rec s vals):∃ vf:Nat→Nat→UInt64,(∀ j,j < n.kids.length→(n.kids.getD j Nd.dflt).Rec s (vf j))∧RelV n s vf vals := by
  cases n with
  | span=>exact ⟨fun _ _=>0,fun j hj=>absurd hj (by simp [Nd.kids]),h⟩
  | cat p q =>
    obtain ⟨v0,v1,h0,h1,h2⟩ := h
    refine ⟨v3 v0 v1 v1,fun j hj => ?_,h2⟩
    have:j=0∨j=1 := by simp [Nd.kids] at hj; omega
    rcases this with rfl | rfl
    · exact h0
    · exact h1
  | str c p q =>
    obtain ⟨v0,v1,h0,h1,h2⟩ := h
    refine ⟨v3 v0 v1 v1,fun j hj => ?_,h2⟩
    have:j=0∨j=1 := by simp [Nd.kids] at hj; omega
    rcases this with rfl | rfl
    · exact h0
    · exact h1
  | mir p q =>
    obtain ⟨v1,h0,h1⟩ := h
    refine ⟨v3 vals v1 v1,fun j hj => ?_,rfl⟩
    have:j=0∨j=1 := by simp [Nd.kids] at hj; omega
    rcases this with rfl | rfl
    · exact h0
    · exact h1
  | par c p q r =>
    obtain ⟨v0,v1,v2,h0,h1,h2,C,V,m,e,g1,g2,g3,g4,g5,g6⟩ := h
    refine ⟨v3 v0 v1 v2,fun j hj => ?_,C,V,m,e,g1,g2,g3,g4,g5,fun a _=>g6 a⟩
    have:j=0∨j=1∨j=2 := by simp [Nd.kids] at hj; omega
    rcases this with rfl | rfl | rfl
    · exact h0
    · exact h1
    · exact h2
  | win st len p =>
    obtain ⟨v0,h0,h1⟩ := h
    refine ⟨v3 v0 v0 v0,fun j hj => ?_,h1⟩
    have:j=0 := by simp [Nd.kids] at hj; omega
    subst this; exact h0
theorem zu8 (hg:n.Good ns) (hz:ZZ s):(∀ j,j < n.kids.length→(n.kids.getD j Nd.dflt).Rec s (fun _=>0))∧RelV n s (fun _ _=>0) (fun _=>0) := by
  refine ⟨fun j hj=>zc5 hz _ (zsu hg hj),?_⟩
  cases n with
  | span=>exact zc5 hz _ hg
  | cat p q=>exact fun a=>by simp
  | str c p q=>exact fun a=>by simp
  | mir p q=>rfl
  | win st len p=>exact fun _=>rfl
  | par c p q r =>
    obtain ⟨h1,h2,h3,h4,h5,h6,h7,_⟩ := hg
    obtain ⟨g1,g2⟩ := zqf (C:=⟨3,Nd.rows c (min (min p.sz q.sz) r.sz),c,rfl,zj3 h5 (by omega) h7,h5⟩) (e:=pe0) (t:=mkT fun _ _=>0) (fun d a _ _=>rfl) (fun _ _=>rfl)
    exact ⟨⟨3,Nd.rows c (min (min p.sz q.sz) r.sz),c,rfl,zj3 h5 (by omega) h7,h5⟩,fun _ _=>0,0,pe0,rfl,rfl,g1,g2,Nat.zero_le _,fun _ _=>rfl⟩
theorem zmw {lg off:Nat→Nat} {z:Nat} (h:∀ a,a < z→vals a=vf (lg a) (off a)):relM lg off z (mkT vf) vals (fun a=>[vals a]) := fun a ha =>
  ⟨h a ha,List.mem_singleton.2 rfl,fun c hc=>by
    rw [List.mem_singleton.1 hc]
    exact List.mem_singleton.2 (h a ha).symm⟩
theorem zo5 {W : World} (hL : t.i = L) (hk : ∀ j, j < L → KidOk Tryz.prog b ns (k + 1) (cR k) (cW k) (t.Ks j)) {j : Nat} (hj : j < t.dv.length) : IOk Tryz.prog W (k + 1) (t.dv.getD j tyDev.dflt) "Size" [] [t.S b] (fun _ : Unit => .int .i64 ((t.Ks j).sz : Int)) (fun _ => True) (fun _ F => t.S b :: F) := by
  rw [LS.dv_len] at hj
  rw [LS.dv_at hj]
  refine IOk.conseq (G:=Hs t.Ks ((List.range t.i).erase j) t.s (mkT t.vf)) ((hk j (by omega)).size (s:=t.s) (nw:=(mkT t.vf).nw j) (cd:=(mkT t.vf).cd j)) (fun F g hg => ?_) (fun _ F g hg => ?_)
  · exact zas (fun q hq=>zbd (mapAt (g:=fun j=>(t.Ks j).H t.s ((mkT t.vf).nw j) ((mkT t.vf).cd j)) hj F) q hq) (stars_star.1 hg:stars (Arr b t.s::(Hs t.Ks (List.range t.i) t.s (mkT t.vf) ++ F)) g)
  · exact stars_star.2 (zas (fun q hq=>zbd (mapAt (g:=fun j=>(t.Ks j).H t.s ((mkT t.vf).nw j) ((mkT t.vf).cd j)) hj F).symm q hq) hg)
theorem zj4 {M:Type} {HM:M→HP} {val:IfH} {rc' wc':Nat} {zk:Bool} {relU:TS→M→(Nat→UInt64)→(Nat→List UInt64)→Prop} {relD:TS→(Nat→List UInt64)→Prop} (kd:∀ j,j < L→KOk b ns k (t.Ks j) (n.kids.getD j Nd.dflt)) (hlen:n.kids.length=L) (_hk1:k≤1)
    (hN:∀ s0,NodeC Tryz.prog (Bk b ns t.Ks L n.fp s0) HM val (k + 2) rc' wc' n.sz zk relU relD) (hr:rc' ≤ cR (k + 1)) (hw:wc' ≤ cW (k + 1))
    (hcl:∀ {s:ArrS} {t':TS} {cd:Nat→List UInt64},(∀ i,i < L→(t.Ks i).Cr s (t'.cd i))→t'.w≤s.writes→relD t' cd→n.Cr s cd) (hzk:zk=true → ∀ i,i < L→(n.kids.getD i Nd.dflt).np=true) (hnp:n.np=true→zk=true)
    (hzv:∀ {t':TS} {m:M} {nw:Nat→UInt64} {cd:Nat→List UInt64},relU t' m nw cd→zk=true→(∀ i a,i < L→a < (n.kids.getD i Nd.dflt).sz→t'.nw i a=0) → ∀ a,a < n.sz→nw a=0):KOk b ns (k + 1) (nodeK n zk val t.Ks L HM relU) n where
  ok := KidOk.mono (ztp (fun i hi=>(kd i hi).ok) (fun i hi d a h=>by rw [(kd i hi).fp] at h; exact zsv (by omega) h) hN hcl (fun h i hi=>(kd i hi).zk (hzk h i hi)) (fun hu hz h=>hzv hu hz fun i a hi ha=>h i a hi (by rw [(kd i hi).sz]; exact ha))) hr hw
  sz := rfl
  cr := rfl
  fp := rfl
  zk := hnp
theorem zo6 {M:Type} {HM:M→HP} {m:M} {val:IfH} {zk:Bool} {relU:TS→M→(Nat→UInt64)→(Nat→List UInt64)→Prop} (hL:t.i=L) (hr:relU (mkT t.vf) m vals (fun a=>[vals a])) {F:List HP} :
    Ent (t.S b::HM m::G::F) (KPost b vals G (nodeK n zk val t.Ks L HM relU,t.s)::F) := fun p hp=>by
  have h1:stars (Arr b t.s::(Hs t.Ks (List.range L) t.s (mkT t.vf) ++ (HM m::G::F))) p := by subst hL; exact stars_star.1 hp
  refine stars_star.2 (?_:stars (Arr b t.s::(nodeK n zk val t.Ks L HM relU).H t.s vals (fun a=>[vals a])::G::F) p)
  refine zas (fun q hq=>zei (t:=mkT t.vf) rfl hr (Nat.zero_le _) q (zbd ?_ q hq)) h1
  classical exact List.perm_iff_count.2 fun a=>by simp only [List.count_append,List.count_cons]; omega
theorem zj5 (hL:t.i=L) (kd:∀ j,j < L→KOk b ns k (t.Ks j) (n.kids.getD j Nd.dflt)) (hlen:n.kids.length=L) (hg:n.Good ns) (hk1:k≤1) (s0:ArrS):BaseOk Tryz.prog (Bk b ns t.Ks L n.fp s0) t.dv.length (k + 1) (cR k) (cW k) (fun i=>(t.Ks i).sz) (fun i=>t.dv.getD i tyDev.dflt) := by
  have h := zsh (P:=Tryz.prog) (b:=b) (ns:=ns) (Ks:=t.Ks) (L:=L) (fpU:=n.fp) (s0:=s0) (fun i hi=>(kd i hi).ok) (fun i j hi hj hn d a x y=>by
    rw [(kd i hi).fp] at x
    rw [(kd j hj).fp] at y
    exact zsw hg (by omega) (by omega) hn d a x y) (fun i hi d a h=>by rw [(kd i hi).fp] at h; exact zsv (by omega) h) (by omega:k + 1≤60)
  rw [LS.dv_len,hL]
  exact h.vals fun i hi=>LS.dv_at (by omega)
theorem LI.res {K:Kid} {m:Nat} (hI:LI b ns k n s vf kk fmt m t) (hm:m≤3) (hK:KOk b ns (k + 1) K n):KRes b ns (k + 1) n s (kk - cO (k + 1)) fmt (K,t.s) := by
  refine ⟨hK,hI.env.mono ?_,hI.out,hI.zz⟩
  have h1:m * cO k≤3 * cO k := Nat.mul_le_mul_right _ hm
  have h2:3 * cO k≤cO (k + 1) := by show _≤3 * cO k + 320 * cW k + 20 * cR k; omega
  show kk - cO (k + 1)≤kk - m * cO k
  omega
theorem cRW:cR k≤cR (k + 1)∧cW k≤cW (k + 1) := by
  refine ⟨?_,?_⟩
  · show _≤2 * cR k + _
    omega
  · show _≤2 * cR k + 14 * cW k
    omega
theorem st3 {X A B C D:HP} {R:List HP} : Ent (X::A::B::C::D::R) (X::star [A,B,C]::R) := fun p hp =>
  zas (fun _ h=>(stars_star (Hs:=[A,B,C])).2 h) ((Ent.take del0 (Ent.take del0 (Ent.take del0 (Ent.take del0 (Ent.drop Ent.refl))))) p hp)
theorem st2 {X A B D:HP} {R:List HP} : Ent (X::A::B::D::R) (X::star [A,B]::R) := fun p hp =>
  zas (fun _ h=>(stars_star (Hs:=[A,B])).2 h) ((Ent.take del0 (Ent.take del0 (Ent.take del0 (Ent.drop Ent.refl)))) p hp)
abbrev catM (x:Nat × Sl3 × Sl3) (vs:List IfH) (a b:Nat):Unit→HP := fun _=>star [blk x.1 128 [x.2.1.v,x.2.2.v],sl tyDev x.2.1.v vs,sl tyI x.2.2.v [(a:Int),((a + b:Nat):Int)]]
abbrev relU1 (lg off:Nat→Nat) (z:Nat):TS→Unit→(Nat→UInt64)→(Nat→List UInt64)→Prop := fun t _ nw cd=>relM lg off z t nw cd
theorem op_cat (hg:(Nd.cat p q).Good ns) (hk1:k≤1) (hI:LI b ns k (.cat p q) s vf kk fmt 2 t) (hv:RelV (.cat p q) s vf vals) :
    CSpec Tryz.prog W 20 [lv.v] [t.S b,G,sl tyDev lv.v t.dv] (fun x:Kid × ArrS=>x.1.val.v) (KRes b ns (k + 1) (.cat p q) s (kk - cO (k + 1)) fmt) (fun x F=>KPost b vals G x::F) := by
  have h2:t.dv.length=2 := by rw [LS.dv_len]; exact hI.ei
  have e0:(t.Ks 0).sz=p.sz := (hI.kd 0 (by decide)).sz
  have e1:(t.Ks 1).sz=q.sz := (hI.kd 1 (by decide)).sz
  have hB := zj5 (n := .cat p q) (L:=2) hI.ei hI.kd rfl hg hk1
  obtain ⟨g1,g2,g3,g4,g5,g6⟩ := hg
  have hm := zwk (W:=W) (X:=t.S b) (vs:=t.dv) (dep:=k + 1) (sz:=fun j=>(t.Ks j).sz) (lv:=lv) (by omega) (fun i hi=>zo5 hI.ei (fun j hj=>(hI.kd j hj).ok) hi) h2 (fun i hi=>by
    have:i=0∨i=1 := by omega
    rcases this with rfl | rfl
    · show (t.Ks 0).sz≤_; omega
    · show (t.Ks 1).sz≤_; omega)
  have hn := fun (x:Nat × Sl3 × Sl3) (s0:ArrS)=>zyo (hB s0) h2 (by omega) (q:=x.1) (rv:=x.2.1) (ev:=x.2.2) (show (t.Ks 0).sz + (t.Ks 1).sz≤100000 by omega) (p.np && q.np)
  refine CSpec.map (fun x:Nat × Sl3 × Sl3=>(nodeK (.cat p q) (p.np && q.np) ⟨125,ptr x.1 0⟩ t.Ks 2 (catM x t.dv (t.Ks 0).sz (t.Ks 1).sz) (relU1 (catL p.sz) (catO p.sz) (p.sz + q.sz)),t.s))
    (CSpec.conseq (G:=[G]) hm (fun F=>Ent.take del0 (Ent.take del1 Ent.refl)) (fun x F=>Ent.refl)) (fun x=>rfl) (fun x _ => ?_) (fun x F => ?_)
  · refine hI.res (by decide) (zj4 (relD:=relMD (catL p.sz) (catO p.sz) (p.sz + q.sz)) hI.kd rfl hk1 (fun s0=>by have h := hn x s0; simp only [e0,e1] at h ⊢; exact h) cRW.1 cRW.2 (fun hc hw hr=>cr_cat (Ks:=t.Ks) hc (hI.kd 0 (by decide)).cr (hI.kd 1 (by decide)).cr hr) (fun hz i hi => ?_) id (fun hr _ hz=>relM.zv (L:=2) (ks:=fun i=>((Nd.cat p q).kids.getD i Nd.dflt).sz) hr hz fun a ha => ?_))
    · have h5:p.np=true∧q.np=true := by simpa using hz
      have:i=0∨i=1 := by omega
      rcases this with rfl | rfl
      · exact h5.1
      · exact h5.2
    · have ha':a < p.sz + q.sz := ha
      unfold catL catO
      by_cases h:a < p.sz
      · rw [if_pos h,if_pos h]; exact ⟨by decide,h⟩
      · rw [if_neg h,if_neg h]; exact ⟨by decide,by show a - p.sz < q.sz; omega⟩
  · refine Ent.trans st3 (zo6 (HM:=catM x t.dv (t.Ks 0).sz (t.Ks 1).sz) (relU:=relU1 (catL p.sz) (catO p.sz) (p.sz + q.sz)) (m:=()) hI.ei (zmw fun a ha => ?_))
    rw [hI.ev,hv a]
    unfold catL catO
    by_cases h:a < p.sz
    · rw [if_pos h,if_pos h,if_pos h]
    · rw [if_neg h,if_neg h,if_neg h]
abbrev strM (x:Nat × Sl3) (vs:List IfH) (c n:Nat):Unit→HP := fun _=>star [blk x.1 135 [.int .i64 (c:Int),.int .i64 2,x.2.v,.int .i64 (n:Int)],sl tyDev x.2.v vs]
theorem op_str (hg:(Nd.str c p q).Good ns) (hk1:k≤1) (hI:LI b ns k (.str c p q) s vf kk fmt 2 t) (hv:RelV (.str c p q) s vf vals) :
    CSpec Tryz.prog W 21 [lv.v,.int .i64 (c:Int)] [t.S b,G,sl tyDev lv.v t.dv] (fun x:Kid × ArrS => .tuple #[x.1.val.v,.int .i64 0]) (KRes b ns (k + 1) (.str c p q) s (kk - cO (k + 1)) fmt) (fun x F=>KPost b vals G x::F) := by
  have h2:t.dv.length=2 := by rw [LS.dv_len]; exact hI.ei
  have e0:(t.Ks 0).sz=p.sz := (hI.kd 0 (by decide)).sz
  have e1:(t.Ks 1).sz=q.sz := (hI.kd 1 (by decide)).sz
  have hB := zj5 (n := .str c p q) (L:=2) hI.ei hI.kd rfl hg hk1
  obtain ⟨g1,g2,g3,g4,g5,g6,g7⟩ := hg
  have hm := c_sNew (W:=W) (X:=t.S b) (vs:=t.dv) (dep:=k + 1) (sz:=fun j=>(t.Ks j).sz) (lv:=lv) (c:=c) (by omega) (fun i hi=>zo5 hI.ei (fun j hj=>(hI.kd j hj).ok) hi) g4 h2 (fun i hi=>by
    have:i=0∨i=1 := by omega
    rcases this with rfl | rfl
    · show (t.Ks 0).sz≤_; omega
    · show (t.Ks 1).sz≤_; omega)
  have hnb:2 * (min p.sz q.sz / c * c)≤100000 := by
    have := Nat.div_mul_le_self (min p.sz q.sz) c
    omega
  have hn := fun (x:Nat × Sl3) (s0:ArrS)=>zyj (hB s0) h2 (by omega) (c:=c) (q:=x.1) (rv:=x.2) (n:=2 * (min p.sz q.sz / c * c)) g4 (by show _=2 * (min (t.Ks 0).sz (t.Ks 1).sz / c * c); rw [e0,e1]) hnb (p.np && q.np)
  simp only [e0,e1] at hm
  refine CSpec.map (fun x:Nat × Sl3=>(nodeK (.str c p q) (p.np && q.np) ⟨131,ptr x.1 0⟩ t.Ks 2 (strM x t.dv c (2 * (min p.sz q.sz / c * c))) (relU1 (strL c) (strO c) (2 * (min p.sz q.sz / c * c))),t.s))
    (CSpec.conseq (G:=[G]) hm (fun F=>Ent.take del0 (Ent.take del1 Ent.refl)) (fun x F=>Ent.refl)) (fun x=>rfl) (fun x _ => ?_) (fun x F => ?_)
  · refine hI.res (by decide) (zj4 (relD:=relMD (strL c) (strO c) (2 * (min p.sz q.sz / c * c))) hI.kd rfl hk1 (fun s0=>hn x s0) cRW.1 cRW.2 (fun hc hw hr=>cr_str (Ks:=t.Ks) g4.1 hc (hI.kd 0 (by decide)).cr (hI.kd 1 (by decide)).cr hr) (fun hz i hi => ?_) id (fun hr _ hz=>relM.zv (L:=2) (ks:=fun i=>((Nd.str c p q).kids.getD i Nd.dflt).sz) hr hz fun a ha => ?_))
    · have h5:p.np=true∧q.np=true := by simpa using hz
      have:i=0∨i=1 := by omega
      rcases this with rfl | rfl
      · exact h5.1
      · exact h5.2
    · have h6 := zsj g4.1 ha
      have h7:strL c a=0∨strL c a=1 := by unfold strL; omega
      rcases h7 with h7 | h7
      · rw [h7]; exact ⟨by decide,Nat.lt_of_lt_of_le h6 (Nat.min_le_left ..)⟩
      · rw [h7]; exact ⟨by decide,Nat.lt_of_lt_of_le h6 (Nat.min_le_right ..)⟩
  · refine Ent.trans st2 (zo6 (HM:=strM x t.dv c (2 * (min p.sz q.sz / c * c))) (relU:=relU1 (strL c) (strO c) (2 * (min p.sz q.sz / c * c))) (m:=()) hI.ei (zmw fun a ha => ?_))
    rw [hI.ev,hv a]
    unfold strL strO
    have h7:a / c % 2=0∨a / c % 2=1 := by omega
    rcases h7 with h7 | h7
    · rw [h7]; rfl
    · rw [h7]; rfl
abbrev mirM (x:Nat × Sl3 × Sl3) (vs:List IfH) (n rg nr:Nat):Unit→HP := fun _=>star [blk x.1 105 [x.2.1.v,.pointer none,.bool false,.int .i64 2,.int .i64 (n:Int),.int .i64 (rg:Int),x.2.2.v,.int .i64 0],sl tyMLeg x.2.1.v (mlg vs),sl tyB x.2.2.v (List.replicate nr true)]
theorem zw3 {rg:Nat} (hrg:1≤rg∧rg≤3) (hg:(Nd.mir p q).Good ns) (hk1:k≤1) (hI:LI b ns k (.mir p q) s vf kk fmt 2 t) (hv:RelV (.mir p q) s vf vals) :
    CSpec Tryz.prog W 14 [lv.v,.slice none 0 0,.nilIface,.int .i64 (rg:Int)] [t.S b,G,sl tyDev lv.v t.dv] (fun x:(Kid × ArrS) × Nat => .tuple #[ptr x.2 0,.int .i64 0]) (fun x=>KRes b ns (k + 1) (.mir p q) s (kk - cO (k + 1)) fmt x.1∧x.1.1.val=⟨49,ptr x.2 0⟩) (fun x F=>KPost b vals G x.1::F) := by
  have h2:t.dv.length=2 := by rw [LS.dv_len]; exact hI.ei
  have e0:(t.Ks 0).sz=p.sz := (hI.kd 0 (by decide)).sz
  have e1:(t.Ks 1).sz=q.sz := (hI.kd 1 (by decide)).sz
  have b0 := (hI.kd 0 (by decide)).ok.szb
  have b1 := (hI.kd 1 (by decide)).ok.szb
  have hB := zj5 (n := .mir p q) (L:=2) hI.ei hI.kd rfl hg hk1
  obtain ⟨g1,g2,g3,g4,g5⟩ := hg
  have hm := z1f (W:=W) (X:=t.S b) (vs:=t.dv) (dep:=k + 1) (sz:=fun j=>(t.Ks j).sz) (lv0:=lv) (rg:=rg) (by omega) (fun i hi=>zo5 hI.ei (fun j hj=>(hI.kd j hj).ok) hi) hrg h2 (fun i hi=>by
    have:i=0∨i=1 := by omega
    rcases this with rfl | rfl
    · show 1≤(t.Ks 0).sz∧(t.Ks 0).sz≤_; omega
    · show 1≤(t.Ks 1).sz∧(t.Ks 1).sz≤_; omega)
  have hn := fun (x:Nat × Sl3 × Sl3) (s0:ArrS)=>zyx (hB s0) h2 (by omega) (n:=min p.sz q.sz) (q:=x.1) (lv:=x.2.1) (dv:=x.2.2) (rg:=rg) (nr:=(min p.sz q.sz - 1) / rg + 1) (by show _≤(t.Ks 0).sz∧_≤(t.Ks 1).sz; omega) hrg.1 rfl (p.np && q.np)
  simp only [mmin_2,e0,e1] at hm
  refine CSpec.map (fun x:Nat × Sl3 × Sl3=>((nodeK (.mir p q) (p.np && q.np) ⟨49,ptr x.1 0⟩ t.Ks 2 (mirM x t.dv (min p.sz q.sz) rg ((min p.sz q.sz - 1) / rg + 1)) (relU1 (fun _=>0) id (min p.sz q.sz)),t.s),x.1))
    (CSpec.conseq (G:=[G]) hm (fun F=>Ent.take del0 (Ent.take del1 Ent.refl)) (fun x F=>Ent.refl)) (fun x=>rfl) (fun x _=>⟨?_,rfl⟩) (fun x F => ?_)
  · refine hI.res (by decide) (zj4 (relD:=relMD (fun _=>0) id (min p.sz q.sz)) hI.kd rfl hk1 (fun s0=>hn x s0) ?_ ?_ (fun hc hw hr=>cr_mir (Ks:=t.Ks) hc (hI.kd 0 (by decide)).cr (hI.kd 1 (by decide)).cr hr) (fun hz i hi => ?_) id (fun hr _ hz=>relM.zv (L:=2) (ks:=fun i=>((Nd.mir p q).kids.getD i Nd.dflt).sz) hr hz fun a ha => ?_))
    · show 2 * cR k + cW k≤2 * cR k + (if k=0 then 1 else 14)
      have:k=0∨k=1 := by omega
      rcases this with rfl | rfl <;> decide
    · show 2 * cW k≤2 * cR k + 14 * cW k
      omega
    · have h5:p.np=true∧q.np=true := by simpa using hz
      have:i=0∨i=1 := by omega
      rcases this with rfl | rfl
      · exact h5.1
      · exact h5.2
    · exact ⟨by decide,Nat.lt_of_lt_of_le ha (Nat.min_le_left ..)⟩
  · refine Ent.trans st3 (zo6 (HM:=mirM x t.dv (min p.sz q.sz) rg ((min p.sz q.sz - 1) / rg + 1)) (relU:=relU1 (fun _=>0) id (min p.sz q.sz)) (m:=()) hI.ei (zmw fun a ha => ?_))
    rw [hI.ev,hv]; rfl
abbrev winM (x:Nat) (h:IfH) (st len:Nat):Unit→HP := fun _=>blk x 151 [h.v,.int .i64 (st:Int),.int .i64 (len:Int)]
theorem op_win (hg:(Nd.win st len p).Good ns) (hk1:k≤1) (hI:LI b ns k (.win st len p) s vf kk fmt 1 t) (hv:RelV (.win st len p) s vf vals) :
    CSpec Tryz.prog W 24 [(t.dv.getD 0 tyDev.dflt).v,.int .i64 (st:Int),.int .i64 (len:Int)] [t.S b,G,sl tyDev lv.v t.dv] (fun x:Kid × ArrS => .tuple #[x.1.val.v,.int .i64 0]) (KRes b ns (k + 1) (.win st len p) s (kk - cO (k + 1)) fmt) (fun x F=>KPost b vals G x::F) := by
  have h2:t.dv.length=1 := by rw [LS.dv_len]; exact hI.ei
  have e0:(t.Ks 0).sz=p.sz := (hI.kd 0 (by decide)).sz
  have b0 := (hI.kd 0 (by decide)).ok.szb
  have hB := zj5 (n := .win st len p) (L:=1) hI.ei hI.kd rfl hg hk1
  obtain ⟨g1,g2,g3⟩ := hg
  have hm := zya (W:=W) (X:=t.S b) (L:=1) (val:=fun i=>t.dv.getD i tyDev.dflt) (dep:=k + 1) (sz:=fun j=>(t.Ks j).sz) (st:=st) (len:=len) (by omega) (fun i hi=>zo5 hI.ei (fun j hj=>(hI.kd j hj).ok) (by omega)) (by decide) (by show _≤(t.Ks 0).sz; omega) b0
  have hn := fun (x:Nat) (s0:ArrS)=>zyc (q:=x) (st:=st) (len:=len) (hB s0) (by omega) (by omega) (by show _≤(t.Ks 0).sz; omega) p.np
  refine CSpec.map (fun x:Nat=>(nodeK (.win st len p) p.np ⟨149,ptr x 0⟩ t.Ks 1 (winM x (t.dv.getD 0 tyDev.dflt) st len) (relU1 (fun _=>0) (fun a=>st + a) len),t.s))
    (CSpec.conseq (G:=[G]) hm (fun F=>Ent.take del0 (Ent.take del0 (Ent.drop Ent.refl))) (fun x F=>Ent.refl)) (fun x=>rfl) (fun x _ => ?_) (fun x F => ?_)
  · refine hI.res (by decide) (zj4 (relD:=relMD (fun _=>0) (fun a=>st + a) len) hI.kd rfl hk1 (fun s0=>hn x s0) cRW.1 cRW.2 (fun hc hw hr=>cr_win (Ks:=t.Ks) hc (hI.kd 0 (by decide)).cr g3 hr) (fun hz i hi => ?_) id (fun hr _ hz=>relM.zv (L:=1) (ks:=fun i=>((Nd.win st len p).kids.getD i Nd.dflt).sz) hr hz fun a ha => ?_))
    · obtain rfl:i=0 := by omega
      exact hz
    · exact ⟨by decide,by have:a < len := ha; show st + a < p.sz; omega⟩
  · refine zo6 (HM:=winM x (t.dv.getD 0 tyDev.dflt) st len) (relU:=relU1 (fun _=>0) (fun a=>st + a) len) (m:=()) hI.ei (zmw fun a ha => ?_)
    rw [hI.ev,hv a]
theorem zug {d:Nat} (hg:(Nd.span d st len).Good ns) (hnb:ns.getD d 0≤100000) (hk1:k≤2) (hi:t.i=0) (he:Env ns false true kk t.s) (ho:Out (Nd.span d st len).fp s t.s) (hz:fmt=true→ZZ t.s) (hv:(Nd.span d st len).Rec t.s vals) :
    CSpec Tryz.prog W 19 [ptr b 0,.int .i64 (d:Int),.int .i64 (st:Int),.int .i64 (len:Int)] [t.S b,G] (fun x:Kid × ArrS => .tuple #[x.1.val.v,.int .i64 0]) (KRes b ns k (.span d st len) s (kk - cO k) fmt) (fun x F=>KPost b vals G x::F) := by
  obtain ⟨g1,g2,g3⟩ := hg
  have hsz:sizeI t.s (d:Int)=((ns.getD d 0:Nat):Int) := by rw [zhq (he.ok.disk g1),he.ok.sz.size d g1]
  have hm := zl6 (W:=W) (ba:=b) (ztz (s:=t.s) (d:=(d:Int)) (st:=(st:Int)) (n:=(len:Int)) (by omega) (by omega) (by rw [hsz]; omega) (by rw [hsz]; omega))
  refine CSpec.imp (CSpec.conseq (G:=[G]) hm (fun F p hp => ?_) (fun x F=>Ent.refl)) fun x F p _ hp => ?_
  · have h1:stars (Arr b t.s::(Hs t.Ks (List.range t.i) t.s (mkT t.vf) ++ (G::F))) p := stars_star.1 hp
    rw [hi] at h1
    exact h1
  · have h1:stars (DevP b (Dvc.span (d:Int) (st:Int) (len:Int)) x::Arr b t.s::G::F) p := zbx hp
    obtain ⟨R,h2⟩ := stars_ex.1 h1
    obtain ⟨hd,h3⟩ := stars_emp.1 (stars_starX.1 h2)
    refine ⟨(spanK x R d st len,t.s),rfl,⟨⟨((zjq hd g1 g3 hnb).monod (by omega) (by omega)).mono (Nat.zero_le _) ?_,rfl,rfl,rfl,fun _=>rfl⟩,he.mono (Nat.sub_le _ _),ho,hz⟩,?_⟩
    · have:k=0∨k=1∨k=2 := by omega
      rcases this with rfl | rfl | rfl <;> decide
    · refine stars_star.2 (?_:stars (Arr b t.s::(spanK x R d st len).H t.s vals (fun a=>[vals a])::G::F) p)
      refine zbx (zdw (fun a ha=>⟨(hv a ha).1,List.mem_singleton.2 rfl,fun c hc=>List.mem_singleton.2 ((hv a ha).2 c hc)⟩) (?_:stars (R::Arr b t.s::G::F) p))
      exact h3
end
end Go.Proofs.Ts
namespace Go.Proofs.Ts
open Go.VG
structure L4 (b:Nat) (ns:List Nat) (k:Nat) (c:Nat) (p q r:Nd) (s0:ArrS) (vals:Nat→UInt64) (kk:Nat) (fmt:Bool) (t:LS):Prop where
  ei:t.i=3
  kd:∀ j,j < 3→KOk b ns k (t.Ks j) ((Nd.par c p q r).kids.getD j Nd.dflt)
  env:Env ns false true (kk - (3 * cO k + 300 * cW k)) t.s
  out:Out (Nd.par c p q r).fp s0 t.s
  zz:fmt=true→ZZ t.s
  rv:∃ (C:PC) (V:Nat→Nat→UInt64) (n:UInt64) (e:PE),C.c=c∧C.R=Nd.rows c (min (min p.sz q.sz) r.sz)∧Rc C none V n e (mkT t.vf)∧JV C V n e∧n.toNat≤t.s.writes∧(∀ a,a < C.D→vals a=V (C.leg a) (C.off a))∧(fmt=true→n=0)
section
variable {b:Nat} {ns:List Nat} {k:Nat} {p q r:Nd} {s:ArrS} {vf:Nat→Nat→UInt64} {vals:Nat→UInt64} {kk:Nat} {fmt:Bool} {t:LS} {W:World} {G:HP} {lv:Sl3} {c:Nat}
def t0S (t:LS) (k:Nat) (z:Bool):TS := ⟨false,true,z,k,t.s.writes,t.vf,fun d a=>[t.vf d a]⟩
theorem S_Bk {L:Nat} {fp:Nat→Nat→Prop} {z:Bool} (hL:t.i=L) (he:Env ns false true kk t.s) (hz:z=true→(∀ i,i < L→(t.Ks i).zk=true)∧ZZ t.s) {A:HP} {F:List HP} : Ent (t.S b::G::A::F) (Bk b ns t.Ks L fp t.s (t0S t kk z)::A::G::F) := fun p hp=>by
  have h1:stars (Arr b t.s::(Hs t.Ks (List.range L) t.s (t0S t kk z) ++ (G::A::F))) p := by subst hL; exact stars_star.1 hp
  exact zfs (t:=t0S t kk z) rfl he Out.refl ⟨hz,Nat.le_refl _⟩ p (zas (fun q hq=>zbd ((List.Perm.swap ..).append_left _) q hq) h1)
theorem sz3 (hg:(Nd.par c p q r).Good ns) (kd:∀ j,j < 3→KOk b ns k (t.Ks j) ((Nd.par c p q r).kids.getD j Nd.dflt)):(∀ i,i < 3→16 + c≤(t.Ks i).sz∧(t.Ks i).sz≤100000)∧mmin (fun j=>(t.Ks j).sz) 3=min (min p.sz q.sz) r.sz∧(∀ i,i < 3→min (min p.sz q.sz) r.sz≤(t.Ks i).sz) ∧ ∀ i,i < 3→(t.Ks i).zk=true := by
  have e0:(t.Ks 0).sz=p.sz := (kd 0 (by decide)).sz
  have e1:(t.Ks 1).sz=q.sz := (kd 1 (by decide)).sz
  have e2:(t.Ks 2).sz=r.sz := (kd 2 (by decide)).sz
  have b0 := (kd 0 (by decide)).ok.szb
  have b1 := (kd 1 (by decide)).ok.szb
  have b2 := (kd 2 (by decide)).ok.szb
  obtain ⟨h1,h2,h3,h4,h5,h6,h7,n0,n1,n2⟩ := hg
  refine ⟨fun i hi => ?_,?_,fun i hi => ?_,fun i hi => ?_⟩
  · have:i=0∨i=1∨i=2 := by omega
    rcases this with rfl | rfl | rfl <;> omega
  · rw [zww]
    show min (min (t.Ks 0).sz (t.Ks 1).sz) (t.Ks 2).sz=_
    rw [e0,e1,e2]
  · have:i=0∨i=1∨i=2 := by omega
    rcases this with rfl | rfl | rfl <;> omega
  · have:i=0∨i=1∨i=2 := by omega
    rcases this with rfl | rfl | rfl
    · exact (kd 0 (by decide)).zk n0
    · exact (kd 1 (by decide)).zk n1
    · exact (kd 2 (by decide)).zk n2
theorem LI.l4 (hI:LI b ns k (.par c p q r) s vf kk false 3 t) (hv:RelV (.par c p q r) s vf vals):L4 b ns k c p q r s vals kk false t := by
  obtain ⟨C,V,n,e,g1,g2,g3,g4,g5,g6⟩ := hv
  exact ⟨hI.ei,hI.kd,hI.env.mono (by omega),hI.out,hI.zz,C,V,n,e,g1,g2,by rw [hI.ev]; exact g3,g4,Nat.le_trans g5 hI.out.1,g6,fun z=>by cases z⟩
theorem op_fmt (hg:(Nd.par c p q r).Good ns) (hk1:k≤1) (hkk:cO (k + 1)≤kk) (hI:LI b ns k (.par c p q r) s vf kk true 3 t) :
    CSpec Tryz.prog W 22 [lv.v,.int .i64 (c:Int)] [t.S b,G,sl tyDev lv.v t.dv] (fun _:LS => .int .i64 0) (fun x=>L4 b ns k c p q r s (fun _=>0) kk true x∧x.dv=t.dv) (fun x F=>x.S b::G::sl tyDev lv.v x.dv::F) := by
  have h3:t.dv.length=3 := by rw [LS.dv_len]; exact hI.ei
  obtain ⟨z1,z2,z3,z4⟩ := sz3 hg hI.kd
  have hB := zj5 (n := .par c p q r) (L:=3) hI.ei hI.kd rfl hg hk1 t.s
  have hgg := hg
  obtain ⟨g1,g2,g3,g4,g5,g6,g7,_⟩ := hg
  have hO:cO (k + 1)=3 * cO k + 320 * cW k + 20 * cR k := rfl
  have hrw := zj3 g5 (by omega:16 + c≤min (min p.sz q.sz) r.sz) g7
  have hm96:16 + Nd.rows c (min (min p.sz q.sz) r.sz) * c≤96 := by
    have:Nd.rows c (min (min p.sz q.sz) r.sz) * c≤40 * 2 := Nat.mul_le_mul hrw.2 g5.2
    omega
  have hmk:3 * (16 + Nd.rows c (min (min p.sz q.sz) r.sz) * c) * cW k≤300 * cW k := Nat.mul_le_mul_right _ (by omega)
  have hm := zwz (W:=W) (t:=t0S t (kk - 3 * cO k) true) (lv0:=lv) (m:=16 + Nd.rows c (min (min p.sz q.sz) r.sz) * c) hB rfl rfl g5 h3 z1 (by rw [z2]; rfl) (by show _≤kk - 3 * cO k; omega)
  refine CSpec.imp (CSpec.conseq (G:=[G]) hm (fun F=>S_Bk hI.ei hI.env fun _=>⟨z4,hI.zz rfl⟩) (fun t1 F=>Ent.refl)) fun t1 F g ht hp => ?_
  obtain ⟨⟨f1,f2,f3,f4,f5⟩,f6⟩ := ht
  obtain ⟨s1,h1⟩ := zev f1 _ hp
  obtain ⟨⟨he,ho,hz⟩,h2⟩ := stars_pur.1 h1
  have hzs := (hz.1 (f4 rfl)).2
  have ecd:∀ j,j < 3→t1.cd j=fun a=>[t1.nw j a] := fun j hj=>funext fun a=>f6 j hj a
  have eH:Hs t.Ks (List.range 3) s1 t1=Hs t.Ks (List.range 3) s1 (mkT t1.nw) := List.map_congr_left fun j hj=>by rw [ecd j (List.mem_range.1 hj)]; rfl
  have h5:∀ d a,d < 3→a < (t.Ks d).sz→t1.nw d a=0 := fun d a hd ha=>by
    have h6 := zbd (mapAt (g:=fun i=>(t.Ks i).H s1 (t1.nw i) (t1.cd i)) hd _) _ (zby h2)
    exact (hI.kd d hd).ok.zv _ h6 (z4 d hd) hzs a ha
  let C:PC := ⟨3,Nd.rows c (min (min p.sz q.sz) r.sz),c,rfl,hrw,g5⟩
  have hsz:C.sz≤min (min p.sz q.sz) r.sz := C_sz (C:=C) (by omega) rfl rfl
  obtain ⟨r1,r2⟩ := zqf (C:=C) (e:=pe0) (t:=mkT t1.nw) (fun d a hd ha=>h5 d a hd (Nat.lt_of_lt_of_le ha (Nat.le_trans hsz (z3 d hd)))) (fun _ _=>rfl)
  refine ⟨⟨t.Ks,3,s1,t1.nw⟩,rfl,⟨⟨rfl,hI.kd,?_,hI.out.trans ho,fun _=>hzs,C,fun _ _=>0,0,pe0,rfl,rfl,r1,r2,Nat.zero_le _,fun _ _=>rfl,fun _=>rfl⟩,?_⟩,?_⟩
  · rw [f2] at he
    refine he.mono ?_
    have f3':t1.k=kk - 3 * cO k - 3 * (16 + Nd.rows c (min (min p.sz q.sz) r.sz) * c) * cW k := f3
    rw [f3']
    show kk - (3 * cO k + 300 * cW k)≤_
    omega
  · show List.map _ (List.range 3)=List.map _ (List.range t.i)
    rw [hI.ei]
  · rw [eH] at h2
    have e9:(⟨t.Ks,3,s1,t1.nw⟩:LS).dv=t.dv := by
      show List.map _ (List.range 3)=List.map _ (List.range t.i)
      rw [hI.ei]
    rw [e9]
    have h7:stars (Arr b s1::(Hs t.Ks (List.range 3) s1 (mkT t1.nw) ++ (G::sl tyDev lv.v t.dv::F))) g := zas (fun q hq=>zbd ((List.Perm.swap ..).append_left _) q hq) h2
    exact stars_star.2 h7
theorem op_par (hg:(Nd.par c p q r).Good ns) (hk1:k≤1) (hkk:cO (k + 1)≤kk) (hI:L4 b ns k c p q r s vals kk fmt t) :
    CSpec Tryz.prog W 23 [lv.v,.slice none 0 0,.int .i64 (c:Int)] [t.S b,G,sl tyDev lv.v t.dv] (fun x:(Kid × ArrS) × Nat => .tuple #[ptr x.2 0,.int .i64 0]) (fun x=>KRes b ns (k + 1) (.par c p q r) s (kk - cO (k + 1)) fmt x.1∧x.1.1.val=⟨81,ptr x.2 0⟩) (fun x F=>KPost b vals G x.1::F) := by
  have h3:t.dv.length=3 := by rw [LS.dv_len]; exact hI.ei
  obtain ⟨z1,z2,z3,z4⟩ := sz3 hg hI.kd
  have hB := zj5 (n := .par c p q r) (L:=3) hI.ei hI.kd rfl hg hk1
  have hO:cO (k + 1)=3 * cO k + 320 * cW k + 20 * cR k := rfl
  obtain ⟨C,V,m,e,rfl,hR,hRc,hJ,hmw,hvl,hm0⟩ := hI.rv
  obtain ⟨g1,g2,g3,g4,g5,g6,g7,_⟩ := id hg
  have hn16:16≤min (min p.sz q.sz) r.sz := by omega
  have hsz:C.sz≤min (min p.sz q.sz) r.sz := C_sz hn16 rfl hR
  have hm := z1p (W:=W) (t:=t0S t (kk - (3 * cO k + 300 * cW k)) fmt) (C:=C) (V:=V) (sq:=m) (e:=e) (lv0:=lv) (hB t.s) rfl rfl h3 z1 (by rw [z2,hR]; rfl) hJ (hRc.ext rfl rfl) (by show _≤kk - (3 * cO k + 300 * cW k); omega)
  refine CSpec.imp (CSpec.conseq (G:=[G]) hm (fun F=>S_Bk hI.ei hI.env fun z=>⟨z4,hI.zz z⟩) (fun x F=>Ent.refl)) fun x F g ht hp => ?_
  obtain ⟨q',lv',t1,e1⟩ := x
  have ht:PO C V m (cR k) (cW k) (t0S t (kk - (3 * cO k + 300 * cW k)) fmt) t1 e1 := ht
  have f1:t1.dn=false := ht.dn
  obtain ⟨s1,h1⟩ := zev f1 _ hp
  obtain ⟨⟨he,ho,hz⟩,h2⟩ := stars_pur.1 h1
  have hw:t.s.writes≤t1.w := ht.w
  have hrel:relP C t1 (m,e1) vals (fun a=>[vals a]) := ⟨V,ht.jv,Nat.le_trans hmw hw,ht.q,fun a ha=>⟨hvl a ha,List.mem_singleton.2 rfl⟩⟩
  refine ⟨((nodeK (.par C.c p q r) false ⟨81,ptr q' 0⟩ t.Ks 3 (parM q' lv' C t.dv) (relP C),s1),q'),rfl,⟨⟨?_,?_,hI.out.trans ho,fun z=>(hz.1 (ht.z (hm0 z) z)).2⟩,rfl⟩,?_⟩
  · refine zj4 (relD:=relPD C) hI.kd rfl hk1 (fun s0 => ?_) cRW.1 (Nat.le_refl _) (fun hc hw hr=>cr_par hn16 rfl hR hc (hI.kd 0 (by decide)).cr (hI.kd 1 (by decide)).cr (hI.kd 2 (by decide)).cr hw hr) (fun z=>by cases z) (fun z=>by cases z) (fun _ z=>by cases z)
    have hN := zy9 (q:=q') (lv:=lv') (C:=C) (hB s0) h3 (by omega) (fun i hi=>Nat.le_trans hsz (z3 i hi))
    rw [C_D rfl hR] at hN
    exact hN
  · have he2 := he
    rw [ht.safe] at he2
    refine he2.mono ?_
    have hk:kk - (3 * cO k + 300 * cW k) - (12 * cR k + 14 * cW k)≤t1.k := ht.k
    show kk - cO (k + 1)≤t1.k
    omega
  · refine stars_star.2 (?_:stars (Arr b s1::(nodeK (.par C.c p q r) false ⟨81,ptr q' 0⟩ t.Ks 3 (parM q' lv' C t.dv) (relP C)).H s1 vals (fun a=>[vals a])::G::F) g)
    refine zas (fun z hz' => zei (HM:=parM q' lv' C t.dv) (t:=t1) (m:=(m,e1)) f1 hrel hz.2 z ?_) h2
    have h5:∀ {A B D:HP} {l:List HP},stars (l ++ (A::B::D::G::F)) z→stars (star [A,B]::(l ++ (G::F))) z := fun {A B D l} hh=>by
      have h6:stars (A::B::D::(l ++ (G::F))) z := by
        refine zbd ?_ _ hh
        classical exact List.perm_iff_count.2 fun a=>by simp only [List.count_append,List.count_cons]; omega
      exact (stars_star (Hs:=[A,B])).2 ((Ent.take del0 (Ent.take del0 (Ent.drop Ent.refl))) z h6)
    exact h5 hz'
end
end Go.Proofs.Ts
namespace Go.Proofs.Ts
open Go.VG
section
variable {b:Nat} {ns:List Nat} {k:Nat}
theorem LI.mk0 {n:Nd} {s:ArrS} {vf:Nat→Nat→UInt64} {kk:Nat} {fmt:Bool} {Ks:Nat→Kid} (he:Env ns false true kk s) (hr:∀ j,j < n.kids.length→(n.kids.getD j Nd.dflt).Rec s (vf j)) (hz:fmt=true→ZZ s):LI b ns k n s vf kk fmt 0 ⟨Ks,0,s,vf⟩ :=
  ⟨rfl,rfl,fun _j hj=>absurd hj (Nat.not_lt_zero _),he.mono (Nat.sub_le _ _),Out.refl,fun j _ hj=>hr j hj,hz,fun _=>rfl⟩
def Kid0:Kid := ⟨0,false,tyDev.dflt,fun _ _ _=>star [],fun _ _=>True,fun _ _=>False⟩
theorem zo7 {g:NV→Nd→HP} (hk1:k≤1) (IH:OpK b ns k g) (hnb:∀ d,ns.getD d 0≤100000):OpK b ns (k + 1) (NHg g) := by
  intro W v n s vals fmt kk hg he hkk hr hz
  have hO:cO (k + 1)=3 * cO k + 320 * cW k + 20 * cR k := rfl
  have hkl:n.kids.length * cO k≤kk := Nat.le_trans (Nat.mul_le_mul_right _ (zoa (n:=n))) (by omega)
  refine CSpec.preX (β:=List NV) (φ:=fun l=>Shape v n∧l.length=n.kids.length) (pre2:=fun l=>[Arr b s,sl zcr v.parts.v l,star (NHs g l n)]) (fun F p hp => ?_) (fun l hl => ?_)
  · obtain ⟨l,h1⟩ := stars_ex.1 (zbx hp)
    obtain ⟨h2,h3⟩ := stars_pur.1 (stars_star.1 h1)
    exact ⟨l,h2,(Ent.take del2 Ent.refl) p h3⟩
  · obtain ⟨hs,hll⟩ := hl
    obtain ⟨vf,hvr,hrel,hv0⟩:∃ vf:Nat→Nat→UInt64,(∀ j,j < n.kids.length→(n.kids.getD j Nd.dflt).Rec s (vf j))∧RelV n s vf vals∧(fmt=true→vf=fun _ _=>0) := by
      cases hf:fmt with
      | false =>
        obtain ⟨vf,h1,h2⟩ := zw2 hr
        exact ⟨vf,h1,h2,fun z=>by cases z⟩
      | true =>
        obtain ⟨h1,rfl⟩ := hz hf
        obtain ⟨h2,h3⟩ := zu8 hg h1
        exact ⟨_,h2,h3,fun _=>rfl⟩
    have hm := zst (W:=W) (σ:=LS) (X:=Kid × ArrS) (S:=LS.S b) (G:=star (NHs g l n)) (Inv:=LI b ns k n s vf kk fmt) (In4:=fun t => ∀ c p q r,n = .par c p q r→L4 b ns k c p q r s vals kk fmt t) (dv:=LS.dv) (s0:=⟨fun _=>Kid0,0,s,vf⟩) (v:=v) (l:=l) (b:=b) (fmt:=fmt) (R:=KPost b vals (star (NHs g l n))) (rv:=fun x=>x.1.val) (pf:=KRes b ns (k + 1) n s (kk - cO (k + 1)) fmt)
      (fun i t hi hI {W} => zzc IH hg hll hkl hv0 hi hI) (LI.mk0 he hvr fun z=>(hz z).1) rfl (fun i t hI=>by rw [LS.dv_len]; exact hI.ei) (by rw [hll]; exact zoa)
      (fun hk lv t hI {W} => by
        cases n with
        | span d st len =>
          obtain ⟨_,rfl,rfl,rfl⟩ := hs
          have hl0:l.length=0 := hll
          rw [hl0] at hI
          exact zug hg (hnb _) (by omega) hI.ei (hI.env.mono (by omega)) hI.out hI.zz (by rw [hI.fst rfl]; exact hr)
        | cat=>exact absurd (hs.symm.trans hk) (by decide)
        | str=>exact absurd (hs.1.symm.trans hk) (by decide)
        | mir=>exact absurd (hs.1.symm.trans hk) (by decide)
        | par=>exact absurd (hs.1.symm.trans hk) (by decide)
        | win=>exact absurd (hs.1.symm.trans hk) (by decide))
      (fun hk lv t hI {W} => by
        rw [hll] at hI
        cases n with
        | span=>exact absurd (hs.1.symm.trans hk) (by decide)
        | cat=>exact op_cat hg hk1 hI hrel
        | str=>exact absurd (hs.1.symm.trans hk) (by decide)
        | mir=>exact absurd (hs.1.symm.trans hk) (by decide)
        | par=>exact absurd (hs.1.symm.trans hk) (by decide)
        | win=>exact absurd (hs.1.symm.trans hk) (by decide))
      (fun hk lv t hI {W} => by
        rw [hll] at hI
        cases n with
        | span=>exact absurd (hs.1.symm.trans hk) (by decide)
        | cat=>exact absurd (hs.symm.trans hk) (by decide)
        | str=>rw [hs.2]; exact op_str hg hk1 hI hrel
        | mir=>exact absurd (hs.1.symm.trans hk) (by decide)
        | par=>exact absurd (hs.1.symm.trans hk) (by decide)
        | win=>exact absurd (hs.1.symm.trans hk) (by decide))
      (fun hk lv t hI {W} => by
        rw [hll] at hI
        cases n with
        | span=>exact absurd (hs.1.symm.trans hk) (by decide)
        | cat=>exact absurd (hs.symm.trans hk) (by decide)
        | str=>exact absurd (hs.1.symm.trans hk) (by decide)
        | mir=>exact zw3 hs.2 hg hk1 hI hrel
        | par=>exact absurd (hs.1.symm.trans hk) (by decide)
        | win=>exact absurd (hs.1.symm.trans hk) (by decide))
      (fun hk hf lv t hI {W} => by
        rw [hll] at hI
        cases n with
        | span=>exact absurd (hs.1.symm.trans hk) (by decide)
        | cat=>exact absurd (hs.symm.trans hk) (by decide)
        | str=>exact absurd (hs.1.symm.trans hk) (by decide)
        | mir=>exact absurd (hs.1.symm.trans hk) (by decide)
        | par =>
          subst hf
          obtain ⟨_,rfl⟩ := hz rfl
          rw [hs.2]
          exact CSpec.map id (op_fmt hg hk1 hkk hI) (fun _=>rfl) (fun x hx=>⟨fun c p q r e=>by cases e; exact hx.1,hx.2⟩) (fun _ _=>Ent.refl)
        | win=>exact absurd (hs.1.symm.trans hk) (by decide))
      (fun hf t hI c p q r e=>by
        rw [hll] at hI
        subst e; subst hf
        exact LI.l4 hI hrel)
      (fun hk lv t hI {W} => by
        cases n with
        | span=>exact absurd (hs.1.symm.trans hk) (by decide)
        | cat=>exact absurd (hs.symm.trans hk) (by decide)
        | str=>exact absurd (hs.1.symm.trans hk) (by decide)
        | mir=>exact absurd (hs.1.symm.trans hk) (by decide)
        | par=>rw [hs.2]; exact op_par hg hk1 hkk (hI _ _ _ _ rfl)
        | win=>exact absurd (hs.1.symm.trans hk) (by decide))
      (fun hk lv t hI {W} => by
        rw [hll] at hI
        cases n with
        | span=>exact absurd (hs.1.symm.trans hk) (by decide)
        | cat=>exact absurd (hs.symm.trans hk) (by decide)
        | str=>exact absurd (hs.1.symm.trans hk) (by decide)
        | mir=>exact absurd (hs.1.symm.trans hk) (by decide)
        | par=>exact absurd (hs.1.symm.trans hk) (by decide)
        | win=>rw [hs.2.1,hs.2.2]; exact op_win hg hk1 hI hrel)
      (by
        cases n with
        | span=>rw [hs.1]; decide
        | cat=>rw [show v.kind=1 from hs]; decide
        | str=>rw [hs.1]; decide
        | mir=>rw [hs.1]; decide
        | par=>rw [hs.1]; decide
        | win=>rw [hs.1]; decide)
      (fun hk=>by
        cases n with
        | span=>exact absurd (hs.1.symm.trans hk) (by decide)
        | cat=>exact absurd (hs.symm.trans hk) (by decide)
        | str=>exact absurd (hs.1.symm.trans hk) (by decide)
        | mir=>exact absurd (hs.1.symm.trans hk) (by decide)
        | par=>exact absurd (hs.1.symm.trans hk) (by decide)
        | win=>rw [hll]; exact Nat.le_refl 1)
    refine CSpec.conseq (G:=[]) hm (fun F p hp => ?_) (fun x F p hp => ?_)
    · exact zas (fun q hq=>(Ent.take del1 Ent.refl) q hq) ((stars_star (Hs:=[Arr b s])).2 hp)
    · have h1:stars (Arr b x.2::x.1.H x.2 vals (fun a=>[vals a])::star (NHs g l n)::sl zcr v.parts.v l::F) p := stars_star.1 hp
      refine stars_star.2 (?_:stars (Arr b x.2::x.1.H x.2 vals (fun a=>[vals a])::NHg g v n::F) p)
      refine zas (fun q hq=>zas (fun q2 hq2 => ?_) hq) h1
      exact stars_ex.2 ⟨l,stars_star.2 (stars_pur.2 ⟨⟨hs,hll⟩,zbx hq2⟩)⟩
theorem z1r (hnb:∀ d,ns.getD d 0≤100000):OpK b ns 0 (NH 0) := by
  intro W v n s vals fmt kk hg he hkk hr hz
  refine CSpec.preX (β:=List NV) (φ:=fun l=>n.kids=[]∧Shape v n∧l.length=n.kids.length) (pre2:=fun l=>[Arr b s,sl zcr v.parts.v l,star (NHs (fun _ _=>star []) l n)]) (fun F p hp => ?_) (fun l hl => ?_)
  · obtain ⟨h0,h00⟩ := stars_pur.1 (stars_star.1 (zbx hp))
    obtain ⟨l,h1⟩ := stars_ex.1 h00
    obtain ⟨h2,h3⟩ := stars_pur.1 (stars_star.1 h1)
    exact ⟨l,⟨h0,h2⟩,(Ent.take del2 Ent.refl) p h3⟩
  · obtain ⟨hk,hs,hll⟩ := hl
    cases n with
    | cat=>cases hk
    | str=>cases hk
    | mir=>cases hk
    | par=>cases hk
    | win=>cases hk
    | span d st len =>
      have hm := zst (W:=W) (σ:=LS) (X:=Kid × ArrS) (S:=LS.S b) (G:=star (NHs (fun _ _=>star []) l (.span d st len))) (Inv:=fun i t=>i=0∧t=⟨fun _=>Kid0,0,s,fun _ _=>0⟩) (In4:=fun _=>True) (dv:=LS.dv) (s0:=⟨fun _=>Kid0,0,s,fun _ _=>0⟩) (v:=v) (l:=l) (b:=b) (fmt:=fmt) (R:=KPost b vals (star (NHs (fun _ _=>star []) l (.span d st len)))) (rv:=fun x=>x.1.val) (pf:=KRes b ns 0 (.span d st len) s (kk - cO 0) fmt)
        (fun i t hi=>absurd hi (by rw [hll]; exact Nat.not_lt_zero _)) ⟨rfl,rfl⟩ rfl (fun i t hI=>by rw [hI.1,hI.2]; rfl) (by rw [hll]; exact zoa)
        (fun _ lv t hI {W} => by
          obtain ⟨_,rfl,rfl,rfl⟩ := hs
          rw [hI.2]
          exact zug hg (hnb _) (by decide) rfl he Out.refl (fun z=>(hz z).1) hr)
        (fun h=>absurd (hs.1.symm.trans h) (by decide)) (fun h=>absurd (hs.1.symm.trans h) (by decide)) (fun h=>absurd (hs.1.symm.trans h) (by decide)) (fun h=>absurd (hs.1.symm.trans h) (by decide)) (fun _ _ _=>trivial) (fun h=>absurd (hs.1.symm.trans h) (by decide)) (fun h=>absurd (hs.1.symm.trans h) (by decide)) (by rw [hs.1]; decide) (fun h=>absurd (hs.1.symm.trans h) (by decide))
      refine CSpec.conseq (G:=[]) hm (fun F p hp => ?_) (fun x F p hp => ?_)
      · exact zas (fun q hq=>(Ent.take del1 Ent.refl) q hq) ((stars_star (Hs:=[Arr b s])).2 hp)
      · have h1:stars (Arr b x.2::x.1.H x.2 vals (fun a=>[vals a])::star (NHs (fun _ _=>star []) l (.span d st len))::sl zcr v.parts.v l::F) p := stars_star.1 hp
        refine stars_star.2 (?_:stars (Arr b x.2::x.1.H x.2 vals (fun a=>[vals a])::NH 0 v (.span d st len)::F) p)
        refine zas (fun q hq=>zas (fun q2 hq2 => ?_) hq) h1
        exact stars_star.2 (stars_pur.2 ⟨rfl,(stars_ex.2 ⟨l,stars_star.2 (stars_pur.2 ⟨⟨hs,hll⟩,zbx hq2⟩)⟩:stars (NHg (fun _ _=>star []) v (.span d st len)::F) q2)⟩)
theorem zmx (hnb:∀ d,ns.getD d 0≤100000):OpK b ns 2 (NH 2) := zo7 (by decide) (zo7 (by decide) (z1r hnb) hnb) hnb
end
end Go.Proofs.Ts
namespace Go.Proofs.Ts
open Go.VG
def nxL (nx:Nat→Nat):List Int := [(nx 0:Int),(nx 1:Int),(nx 2:Int)]
def lim:Nat→Nat
  | 0=>26
  | 1=>24
  | _=>8
def uB:Nat→Nat
  | 0=>26
  | k + 1=>3 * uB k
def zB2:Nat→Nat
  | 0=>26
  | k + 1=>2 * zB2 k
structure PlanOk (k:Nat) (sz:Int) (nx nx':Nat→Nat) (n:Nd):Prop where
  mono:∀ d,d < 3→nx d≤nx' d
  bd:∀ d,d < 3→nx' d≤nx d + uB k
  fp:∀ d a,n.fp d a→d < 3∧nx d≤a∧a < nx' d
  good:∀ ns:List Nat,ns.length=3→(∀ d,d < 3→nx' d≤ns.getD d 0)→n.Good ns
  szl:sz≤(n.sz:Int)
  szb:n.sz≤zB2 k
  z0:k=0→(n.sz:Int)=sz∧n.np=true
  z1:k=1→6 < sz→(n.sz:Int)≤sz + 6∧n.np=true
section
variable {k:Nat} {sz sa sb sc:Int} {nx n1 n2 n3:Nat→Nat} {p q r:Nd} {c st:Nat}
theorem PlanOk.dj (h:PlanOk k sa nx n1 p) (g:PlanOk k sb n1 n2 q):Dj p q := fun d a x y=>by
  obtain ⟨h1,h2,h3⟩ := h.fp d a x
  obtain ⟨g1,g2,g3⟩ := g.fp d a y
  omega
theorem zob (h:PlanOk k sa nx n1 p) (g:PlanOk k sb n1 n2 q) {d a:Nat} (x:p.fp d a∨q.fp d a):d < 3∧nx d≤a∧a < n2 d := by
  rcases x with x | x
  · obtain ⟨h1,h2,h3⟩ := h.fp d a x
    have := g.mono d h1
    omega
  · obtain ⟨h1,h2,h3⟩ := g.fp d a x
    have := h.mono d h1
    omega
theorem zhs (h:PlanOk k sa nx n1 p) (g:PlanOk k sb n1 n2 q):(∀ d,d < 3→nx d≤n2 d) ∧ ∀ d,d < 3→n2 d≤nx d + uB (k + 1) := ⟨fun d hd=>Nat.le_trans (h.mono d hd) (g.mono d hd),fun d hd=>by
  have h1 := h.bd d hd
  have h2 := g.bd d hd
  show n2 d≤nx d + 3 * uB k
  omega⟩
theorem zf5 (h:PlanOk k sa nx n1 p) (g:PlanOk k sb n1 n2 q) {ns:List Nat} (hl:ns.length=3) (hn:∀ d,d < 3→n2 d≤ns.getD d 0):p.Good ns∧q.Good ns :=
  ⟨h.good ns hl fun d hd=>Nat.le_trans (g.mono d hd) (hn d hd),g.good ns hl hn⟩
theorem zw4 (hk:k≤1):zB2 k≤52 := by
  have:k=0∨k=1 := by omega
  rcases this with rfl | rfl <;> decide
theorem zsx (hk:k≤1) (_hs:1≤sz) (h1:1≤sa∧1≤sb∧sz≤sa + sb∧sa + sb≤sz + 1) (h:PlanOk k sa nx n1 p) (g:PlanOk k sb n1 n2 q):PlanOk (k + 1) sz nx n2 (.cat p q) := by
  have e1 := h.szl
  have e2 := g.szl
  have e3 := h.szb
  have e4 := g.szb
  have e5 := zw4 hk
  refine ⟨(zhs h g).1,(zhs h g).2,fun d a x=>zob h g x,fun ns hl hn=>⟨(zf5 h g hl hn).1,(zf5 h g hl hn).2,h.dj g,by omega,by omega,by omega⟩,?_,?_,fun z=>absurd z (by omega),fun z h6 => ?_⟩
  · show sz≤((p.sz + q.sz:Nat):Int); omega
  · show p.sz + q.sz≤2 * zB2 k; omega
  · obtain ⟨a1,a2⟩ := h.z0 (by omega)
    obtain ⟨b1,b2⟩ := g.z0 (by omega)
    refine ⟨?_,by show (p.np && q.np)=true; rw [a2,b2]; rfl⟩
    show ((p.sz + q.sz:Nat):Int)≤_; omega
theorem zzd (hk:k≤1) (hs:1≤sz) (hc:1≤c∧c≤3) (h1:sa=sz / 2 + c) (h:PlanOk k sa nx n1 p) (g:PlanOk k sa n1 n2 q):PlanOk (k + 1) sz nx n2 (.str c p q) := by
  have e1 := h.szl
  have e2 := g.szl
  have e3 := h.szb
  have e4 := g.szb
  have e5 := zw4 hk
  have hmc := Nat.div_mul_le_self (min p.sz q.sz) c
  have hml := Nat.lt_div_mul_add (a:=min p.sz q.sz) (b:=c) (by omega)
  refine ⟨(zhs h g).1,(zhs h g).2,fun d a x=>zob h g x,fun ns hl hn=>⟨(zf5 h g hl hn).1,(zf5 h g hl hn).2,h.dj g,hc,by omega,by omega,by omega⟩,?_,?_,fun z=>absurd z (by omega),fun z h6 => ?_⟩
  · show sz≤((2 * (min p.sz q.sz / c * c):Nat):Int)
    generalize min p.sz q.sz / c * c=y at *
    omega
  · show 2 * (min p.sz q.sz / c * c)≤2 * zB2 k
    generalize min p.sz q.sz / c * c=y at *
    omega
  · obtain ⟨a1,a2⟩ := h.z0 (by omega)
    obtain ⟨b1,b2⟩ := g.z0 (by omega)
    refine ⟨?_,by show (p.np && q.np)=true; rw [a2,b2]; rfl⟩
    show ((2 * (min p.sz q.sz / c * c):Nat):Int)≤_
    generalize min p.sz q.sz / c * c=y at *
    omega
theorem zze (hk:k≤1) (hs:1≤sz) (h:PlanOk k sz nx n1 p) (g:PlanOk k sz n1 n2 q):PlanOk (k + 1) sz nx n2 (.mir p q) := by
  have e1 := h.szl
  have e2 := g.szl
  have e3 := h.szb
  have e4 := g.szb
  refine ⟨(zhs h g).1,(zhs h g).2,fun d a x=>zob h g x,fun ns hl hn=>⟨(zf5 h g hl hn).1,(zf5 h g hl hn).2,h.dj g,by omega,by omega⟩,?_,?_,fun z=>absurd z (by omega),fun z h6 => ?_⟩
  · show sz≤((min p.sz q.sz:Nat):Int); omega
  · show min p.sz q.sz≤2 * zB2 k; omega
  · obtain ⟨a1,a2⟩ := h.z0 (by omega)
    obtain ⟨b1,b2⟩ := g.z0 (by omega)
    refine ⟨?_,by show (p.np && q.np)=true; rw [a2,b2]; rfl⟩
    show ((min p.sz q.sz:Nat):Int)≤_; omega
theorem zsy (hs:1≤sz∧sz≤24) (h1:sz + st≤sa) (h:PlanOk k sa nx n1 p):PlanOk (k + 1) sz nx n1 (.win st sz.toNat p) := by
  have e1 := h.szl
  have hz:26≤zB2 k := by
    clear e1 h
    induction k with
    | zero=>decide
    | succ k ih=>show 26≤2 * zB2 k; omega
  refine ⟨h.mono,fun d hd=>by have := h.bd d hd; show _≤_ + 3 * uB k; omega,h.fp,fun ns hl hn=>⟨h.good ns hl hn,by omega,by omega⟩,?_,?_,fun z=>absurd z (by omega),fun z h6=>⟨?_,(h.z0 (by omega)).2⟩⟩
  · show sz≤((sz.toNat:Nat):Int); omega
  · show sz.toNat≤2 * zB2 k; omega
  · show ((sz.toNat:Nat):Int)≤_; omega
theorem zq2 {d:Nat} (hd:d < 3) (hs:1≤sz∧sz≤lim k) (h1:∀ e,n1 e=if e=d then nx d + sz.toNat else nx e):PlanOk k sz nx n1 (.span d (nx d) sz.toNat) := by
  have hl:lim k≤26 := by
    unfold lim; split <;> decide
  have hz:26≤zB2 k∧26≤uB k := by
    clear h1 hs hl
    induction k with
    | zero=>decide
    | succ k ih =>
      refine ⟨?_,?_⟩
      · show 26≤2 * zB2 k; omega
      · show 26≤3 * uB k; omega
  refine ⟨fun e he => ?_,fun e he => ?_,fun e a x => ?_,fun ns hl2 hn=>⟨by omega,by omega,?_⟩,?_,?_,fun _=>⟨?_,rfl⟩,fun _ _=>⟨?_,rfl⟩⟩
  · rw [h1]; split
    · rename_i z; subst z; omega
    · exact Nat.le_refl _
  · rw [h1]; split
    · rename_i z; subst z; omega
    · omega
  · obtain ⟨rfl,x2,x3⟩ := x
    rw [h1,if_pos rfl]
    exact ⟨hd,x2,x3⟩
  · have := hn d hd
    rw [h1,if_pos rfl] at this; exact this
  · show sz≤((sz.toNat:Nat):Int); omega
  · show sz.toNat≤zB2 k; omega
  · show ((sz.toNat:Nat):Int)=sz; omega
  · show ((sz.toNat:Nat):Int)≤sz + 6; omega
theorem zzf (hk:k≤1) (hs:1≤sz∧sz≤6) (hc:1≤c∧c≤2) (h1:sa=16 + 2 * c * (sz / 4 + 1)) (h:PlanOk k sa nx n1 p) (g:PlanOk k sa n1 n2 q) (f:PlanOk k sa n2 n3 r):PlanOk (k + 1) sz nx n3 (.par c p q r) := by
  have h2:sz / 4=0∨sz / 4=1 := by omega
  have h3:c=1∨c=2 := by omega
  have h4:sa=18∨sa=20∨sa=24 := by
    rcases h2 with h2 | h2 <;> rcases h3 with rfl | rfl <;> rw [h2] at h1 <;> omega
  have e:∀ {n n':Nat→Nat} {m:Nd},PlanOk k sa n n' m→(sa≤(m.sz:Int))∧(m.sz:Int)≤sa + 6∧m.np=true := fun {n n' m} x=>by
    have:k=0∨k=1 := by omega
    rcases this with h5 | h5
    · obtain ⟨y1,y2⟩ := x.z0 h5
      exact ⟨x.szl,by omega,y2⟩
    · obtain ⟨y1,y2⟩ := x.z1 h5 (by omega)
      exact ⟨x.szl,y1,y2⟩
  obtain ⟨a1,a2,a3⟩ := e h
  obtain ⟨b1,b2,b3⟩ := e g
  obtain ⟨c1,c2,c3⟩ := e f
  have e5 := h.szb
  have hrp:Dj p r := fun d a x y=>by
    obtain ⟨x1,x2,x3⟩ := h.fp d a x
    obtain ⟨y1,y2,y3⟩ := f.fp d a y
    have := g.mono d x1
    omega
  refine ⟨fun d hd=>Nat.le_trans (h.mono d hd) (Nat.le_trans (g.mono d hd) (f.mono d hd)),fun d hd => ?_,fun d a x => ?_,fun ns hl hn=>⟨h.good ns hl fun d hd=>Nat.le_trans (g.mono d hd) (Nat.le_trans (f.mono d hd) (hn d hd)),g.good ns hl fun d hd=>Nat.le_trans (f.mono d hd) (hn d hd),f.good ns hl hn,⟨h.dj g,hrp,g.dj f⟩,hc,⟨?_,?_,?_⟩,by omega,a3,b3,c3⟩,?_,?_,fun z=>absurd z (by omega),fun _ z=>absurd z (by omega)⟩
  · have := h.bd d hd
    have := g.bd d hd
    have := f.bd d hd
    show n3 d≤nx d + 3 * uB k; omega
  · rcases x with x | x | x
    · obtain ⟨y1,y2,y3⟩ := h.fp d a x
      have := g.mono d y1
      have := f.mono d y1
      omega
    · obtain ⟨y1,y2,y3⟩ := g.fp d a x
      have := h.mono d y1
      have := f.mono d y1
      omega
    · obtain ⟨y1,y2,y3⟩ := f.fp d a x
      have := h.mono d y1
      have := g.mono d y1
      omega
  · omega
  · omega
  · omega
  · show sz≤((2 * Nd.rows c (min (min p.sz q.sz) r.sz) * c:Nat):Int)
    unfold Nd.rows
    rcases h3 with rfl | rfl <;> omega
  · show 2 * Nd.rows c (min (min p.sz q.sz) r.sz) * c≤2 * zB2 k
    unfold Nd.rows
    rcases h3 with rfl | rfl <;> omega
theorem nhg1 {g:NV→Nd→HP} {v x:NV} {n:Nd} (hs:Shape v n) (hk:n.kids=[p]) {F:List HP} : Ent (sl zcr v.parts.v [x]::g x p::F) (NHg g v n::F) := fun h hh =>
  stars_ex.2 ⟨[x],stars_star.2 (stars_pur.2 ⟨⟨hs,by rw [hk]; rfl⟩,zas (fun z hz=>stars_star.2 (by unfold NHs; rw [hk]; exact hz)) (hh:stars ([sl zcr v.parts.v [x]] ++ (g x p::F)) h)⟩)⟩
theorem nhg2 {g:NV→Nd→HP} {v x y:NV} {n:Nd} (hs:Shape v n) (hk:n.kids=[p,q]) {F:List HP} : Ent (sl zcr v.parts.v [x,y]::g x p::g y q::F) (NHg g v n::F) := fun h hh =>
  stars_ex.2 ⟨[x,y],stars_star.2 (stars_pur.2 ⟨⟨hs,by rw [hk]; rfl⟩,zas (fun z hz=>stars_star.2 (by unfold NHs; rw [hk]; exact hz)) (hh:stars ([sl zcr v.parts.v [x,y]] ++ (g x p::g y q::F)) h)⟩)⟩
theorem nhg3 {g:NV→Nd→HP} {v x y w:NV} {n:Nd} (hs:Shape v n) (hk:n.kids=[p,q,r]) {F:List HP} : Ent (sl zcr v.parts.v [x,y,w]::g x p::g y q::g w r::F) (NHg g v n::F) := fun h hh =>
  stars_ex.2 ⟨[x,y,w],stars_star.2 (stars_pur.2 ⟨⟨hs,by rw [hk]; rfl⟩,zas (fun z hz=>stars_star.2 (by unfold NHs; rw [hk]; exact hz)) (hh:stars ([sl zcr v.parts.v [x,y,w]] ++ (g x p::g y q::g w r::F)) h)⟩)⟩
theorem nhg0 {g:NV→Nd→HP} {v:NV} {n:Nd} (hs:Shape v n) (hk:n.kids=[]) (hv:v.parts.v = .slice none 0 0) {F:List HP} : Ent F (NHg g v n::F) := fun h hh =>
  stars_ex.2 ⟨[],stars_star.2 (stars_pur.2 ⟨⟨hs,by rw [hk]; rfl⟩,by
    rw [hv]
    exact (zch (t:=zcr) h ((stars_star (Hs:=[])).2 hh:stars (star (NHs g [] n)::F) h))⟩)⟩
end
end Go.Proofs.Ts
set_option linter.unusedSimpArgs false
set_option maxRecDepth 20000
namespace Go.Proofs
open Go.VG Ts
theorem zj6 (v0:(Option Addr)) (v1:Nat) (v2:Nat):∀ w,(Instr.build 67 (#[(0,.slice v0 v1 v2)]:Array (Nat × Value))).run Tryz.prog w = .ok (.agg #[.slice v0 v1 v2,.int .i64 0]) w := fun w=>by kernel_rfl
theorem zuh (v:Int) {n:Int} (hn:1≤n) : -n < v.tmod n∧v.tmod n < n := by
  have h4 := Int.natAbs_tmod v n
  have h5 := Nat.mod_lt v.natAbs (show 0 < n.natAbs by omega)
  omega
theorem zzg {W:World} {v:Sl3} {L:List Int} {A:HP} (hA:Reads A tyI v.v L) (hL:L.length≤9223372036854775807) :
    CSpec Tryz.prog W 6 [v.v] [A] (fun x:Nat × Value=>ptr x.1 0) (fun x => ∃ L2:List Int,L2.length≤1000∧Reads A tyI x.2 L2) (fun x F=>blk x.1 67 [x.2,.int .i64 0]::A::F) := by
 refine CSpec.of_body Tryz.func6 rfl Tryz.ntmps6 rfl fun F => ?_
 show CJ _ _ _ _ _ _ (_::F)
 refine sR<|oA rfl<|nT<|zab<|sR<|oM rfl<|oV (V_len rfl foc0 hA Tryz.runUnderlying22)<|oP (P_gtr rfl rfl)<|nT ?_
 first | (refine zav rfl (fun hg1 => ?_) (fun hg1 => ?_)) | (refine zaw rfl (fun hg1 => ?_) (fun hg1 => ?_)) | (refine za1 rfl (fun hg1 => ?_) (fun hg1 => ?_))
 ·
  refine zag<|oM rfl<|oV (zmm (l:=0) (h:=1000) rfl foc0 hA rfl ⟨_,rfl⟩ (by omega) (by omega) Tryz.underlying22 Tryz.sizeOf3)<|oA rfl<|nT<|zab<|zdy (zv8 (Reads.sliceV (t:=tyI) (l:=0) (h:=1000) hA (by omega) (by omega)) del0) fun hv2 => ?_
  obtain ⟨v2,hv2⟩ := hv2
  rw [hv2]
  refine zag<|oM rfl<|oP (zbk rfl (zj6 _ _ _))<|oO<|O_box rfl rfl rfl fun b1=>oA rfl<|nT<|zaf<|zan (res1 Tryz.results6 rfl)<|CSpec.close ⟨b1,v2.v⟩ ?_ ?_ r_
  · rfl
  · exact ⟨_,by simp; omega,hv2 ▸ (Reads.sliceV (t:=tyI) (l:=0) (h:=1000) hA (by omega) (by omega))⟩
 ·
  refine kT<|sR<|oM rfl<|oP (zbk rfl (zj6 _ _ _))<|oO<|O_box rfl rfl rfl fun b2=>oA rfl<|nT<|zaf<|zan (res1 Tryz.results6 rfl)<|CSpec.close ⟨b2,v.v⟩ ?_ ?_ r_
  · rfl
  · exact ⟨L,by omega,hA⟩
theorem zzh {W:World} {sb:Nat} {a:Int} {v:Value} {L:List Int} {A:HP} (hA:Reads A tyI v L) (hL:L.length≤1000) (ha:0≤a∧a≤1000) :
    CSpec Tryz.prog W 49 [ptr sb 0] [blk sb 67 [v,.int .i64 a],A] (fun x:Int × Int => .int .i64 x.1) (fun x=>0≤x.2∧x.2≤1000) (fun x F=>blk sb 67 [v,.int .i64 x.2]::A::F) := by
 refine CSpec.of_body Tryz.func49 rfl Tryz.ntmps49 rfl fun F => ?_
 show CJ _ _ _ _ _ _ (_::_::F)
 refine sR<|oA rfl<|nT<|zab<|zab<|za3 0 kR_ rfl<|aN 0 1 rfl rfl (zae rfl)<|aN 1 3 rfl rfl (zad rfl)<|aN 2 7 rfl rfl (zaa rfl ⟨_,_,_,Tryz.runUnderlying67,rfl,rfl,Tryz.sizeOf3,rfl⟩)<|aW 3 15 rfl rfl r_ (zac rfl foc0 rfl Tryz.isAgg3)<|aN 4 31 rfl rfl (zae rfl)<|aN 5 63 rfl rfl (zad rfl)<|aN 6 127 rfl rfl (zaa rfl ⟨_,_,_,Tryz.runUnderlying67,rfl,rfl,Tryz.sizeOf22,rfl⟩)<|aW 7 255 rfl rfl r_ (zac rfl foc0 rfl Tryz.isAgg22)<|aW 8 511 rfl rfl r_ (V_len rfl foc1 hA Tryz.runUnderlying22)<|aN 9 1023 rfl rfl (P_geq rfl rfl)<|aD ?_
 first | (refine zav rfl (fun hg1 => ?_) (fun hg1 => ?_)) | (refine zaw rfl (fun hg1 => ?_) (fun hg1 => ?_)) | (refine za1 rfl (fun hg1 => ?_) (fun hg1 => ?_))
 ·
  refine sR<|oA rfl<|nT<|zaf<|zak<|zan (res1 Tryz.results49 rfl)<|CSpec.close ⟨0,a⟩ ?_ ?_ r_
  · rfl
  · exact ha
 ·
  refine kT<|sR<|oM rfl<|oP (zad rfl)<|oP (zaa rfl ⟨_,_,_,Tryz.runUnderlying67,rfl,rfl,Tryz.sizeOf3,rfl⟩)<|oV (zac rfl foc0 rfl Tryz.isAgg3)<|oP (P_add rfl rfl (by omega))<|oP (zad rfl)<|oP (zaa rfl ⟨_,_,_,Tryz.runUnderlying67,rfl,rfl,Tryz.sizeOf3,rfl⟩)<|oO<|za5 rfl rfl foc0 rfl rfl Tryz.sizeOf3<|nT<|zab<|za3 0 kR_ rfl<|aN 0 1 rfl rfl (zae rfl)<|aN 1 3 rfl rfl (zad rfl)<|aN 2 7 rfl rfl (zaa rfl ⟨_,_,_,Tryz.runUnderlying67,rfl,rfl,Tryz.sizeOf22,rfl⟩)<|aW 3 15 rfl rfl r_ (zac rfl foc0 rfl Tryz.isAgg22)<|aN 4 31 rfl rfl (zae rfl)<|aN 5 63 rfl rfl (zad rfl)<|aN 6 127 rfl rfl (zaa rfl ⟨_,_,_,Tryz.runUnderlying67,rfl,rfl,Tryz.sizeOf3,rfl⟩)<|aW 7 255 rfl rfl r_ (zac rfl foc0 rfl Tryz.isAgg3)<|aN 8 511 rfl rfl (P_sub rfl rfl (by omega))<|aW 9 1023 rfl rfl r_ (zam rfl rfl (Int.toNat_of_nonneg (by omega)).symm (by omega) foc1 hA Tryz.runUnderlying22 Tryz.sizeOf3)<|aW 10 2047 rfl rfl r_ (za6 rfl rfl (by omega) foc1 hA rfl rfl Tryz.isAgg3)<|aN 11 4095 rfl rfl (za9 rfl)<|aD<|zaf<|zan (res1 Tryz.results49 rfl)<|CSpec.close ⟨L.getD (a + 1 - 1).toNat tyI.dflt,a + 1⟩ ?_ ?_ r_
  · rfl
  ·
   show 0≤a + 1∧a + 1≤1000
   omega
theorem zfx {W:World} {sb:Nat} {a:Int} {v:Value} {L:List Int} {A:HP} (hA:Reads A tyI v L) (hL:L.length≤1000) (ha:0≤a∧a≤1000) {n:Int} (hn : -1000000000≤n∧n≤1000000000) :
    CSpec Tryz.prog W 18 [ptr sb 0,.int .i64 n] [blk sb 67 [v,.int .i64 a],A] (fun x:Nat × Int => .int .i64 (x.1:Int)) (fun x=>(0≤x.2∧x.2≤1000)∧(1≤n→(x.1:Int) < n)) (fun x F=>blk sb 67 [v,.int .i64 x.2]::A::F) := by
 refine CSpec.of_body Tryz.func18 rfl Tryz.ntmps18 rfl fun F => ?_
 show CJ _ _ _ _ _ _ (_::_::F)
 refine sR<|oA rfl<|nT<|zab<|sR<|oM rfl<|oP (P_lss rfl rfl)<|nT ?_
 first | (refine zav rfl (fun hg1 => ?_) (fun hg1 => ?_)) | (refine zaw rfl (fun hg1 => ?_) (fun hg1 => ?_)) | (refine za1 rfl (fun hg1 => ?_) (fun hg1 => ?_))
 ·
  refine sR<|oA rfl<|nT<|zaf<|zak<|zan (res1 Tryz.results18 rfl)<|CSpec.close ⟨0,a⟩ ?_ ?_ r_
  · rfl
  · exact ⟨ha,fun h=>by show (0:Int) < n; omega⟩
 ·
  refine kT<|sR<|oM rfl<|oO<|zai ((zzh hA hL ha)) rfl Tryz.call49 (Dels.cons del0 (dC_ del0)) rfl fun x9 h9=>oM rfl<|oP (zg3 rfl rfl (by omega))<|oA rfl<|nT<|zab<|zab ?_
  have htm := zuh x9.1 (n:=n) (by omega)
  refine zag<|oM rfl<|oP (P_lss rfl rfl)<|nT ?_
  first | (refine zav rfl (fun hg2 => ?_) (fun hg2 => ?_)) | (refine zaw rfl (fun hg2 => ?_) (fun hg2 => ?_)) | (refine za1 rfl (fun hg2 => ?_) (fun hg2 => ?_))
  ·
   refine zag<|oM rfl<|oM rfl<|oP (P_add rfl rfl (by omega))<|oA rfl<|nT<|sR<|oM rfl<|oA rfl<|nT<|zaf<|zan (res1 Tryz.results18 rfl)<|CSpec.close ⟨(x9.1.tmod n + n).toNat,x9.2⟩ ?_ ?_ r_
   · exact congrArg (Value.int .i64) (Int.toNat_of_nonneg (by omega)).symm
   · exact ⟨h9,fun h=>by show (((x9.1.tmod n + n).toNat:Nat):Int) < n; omega⟩
  ·
   refine kT<|sR<|oM rfl<|oA rfl<|nT<|zaf<|zan (res1 Tryz.results18 rfl)<|CSpec.close ⟨(x9.1.tmod n).toNat,x9.2⟩ ?_ ?_ r_
   · exact congrArg (Value.int .i64) (Int.toNat_of_nonneg (by omega)).symm
   · exact ⟨h9,fun h=>by show (((x9.1.tmod n).toNat:Nat):Int) < n; omega⟩
theorem zil {W:World} {sb:Nat} {a:Int} {v:Value} {L:List Int} {A:HP} (hA:Reads A tyI v L) (hL:L.length≤1000) (ha:0≤a∧a≤1000) {lo hi:Nat} (hr:lo≤hi∧hi≤1000000) :
    CSpec Tryz.prog W 8 [ptr sb 0,.int .i64 (lo:Int),.int .i64 (hi:Int)] [blk sb 67 [v,.int .i64 a],A] (fun x:Nat × Int => .int .i64 (x.1:Int)) (fun x=>(0≤x.2∧x.2≤1000)∧lo≤x.1∧x.1≤hi) (fun x F=>blk sb 67 [v,.int .i64 x.2]::A::F) := by
 refine CSpec.of_body Tryz.func8 rfl Tryz.ntmps8 rfl fun F => ?_
 show CJ _ _ _ _ _ _ (_::_::F)
 refine sR<|oA rfl<|nT<|sR<|oM rfl<|oM rfl<|oM rfl<|oM rfl<|oP (P_sub rfl rfl (by omega))<|oP (P_add rfl rfl (by omega))<|oO<|zai ((zfx hA hL ha (n:=((hi:Int) - (lo:Int) + 1)) (by omega))) rfl Tryz.call18 (Dels.cons del0 (dC_ del0)) rfl fun x9 h9 => ?_
 have h8 := h9.2 (by omega)
 refine oP (P_add rfl rfl (by omega))<|oA rfl<|nT<|zaf<|zan (res1 Tryz.results8 rfl)<|CSpec.close ⟨lo + x9.1,x9.2⟩ ?_ ?_ r_
 · rfl
 · exact ⟨h9.1,by show lo≤lo + x9.1; omega,by show lo + x9.1≤hi; omega⟩
end Go.Proofs
namespace Go.Proofs.Ts
open Go.VG
def Sp (m K:Nat) (nx:Nat→Nat):Prop := ∀ d,d < 3→nx d + m * uB K≤10000
def Chain (K:Nat) (sa:Int) (nx:Nat→Nat):List (NV × Nd)→(Nat→Nat)→Prop
  | [],n' => n' = nx
  | x::xs,n' => ∃ m,Chain K sa nx xs m∧PlanOk K sa m n' x.2
section
variable {m K d:Nat} {sa sz:Int} {nx n1:Nat→Nat} {n:Nd}
theorem Sp.le {m':Nat} (h:Sp m K nx) (hm:m' ≤ m):Sp m' K nx := fun d hd=>Nat.le_trans (Nat.add_le_add_left (Nat.mul_le_mul_right _ hm) _) (h d hd)
theorem Sp.nxt (h:Sp (m + 1) K nx) (hp:PlanOk K sa nx n1 n):Sp m K n1 := fun d hd=>by
  have h1 := h d hd
  have h2 := hp.bd d hd
  rw [Nat.add_mul,Nat.one_mul] at h1
  omega
theorem Chain.sp (h:Sp 3 K nx):∀ {l:List (NV × Nd)} {n':Nat→Nat},l.length≤3→Chain K sa nx l n' → Sp (3 - l.length) K n'
  | [],_,_,hc=>by rw [show _=nx from hc]; exact h
  | x::xs,n',hl,⟨m,h1,h2⟩=>by
    have h3 := Chain.sp h (by simp at hl; omega) h1
    have hl':xs.length + 1≤3 := hl
    have h4:3 - xs.length=(3 - (x::xs).length) + 1 := by show 3 - xs.length=3 - (xs.length + 1) + 1; omega
    rw [h4] at h3
    exact h3.nxt h2
theorem zo8 (hd:d < 3):(nxL nx).getD d 0=(nx d:Int) := by
  have:d=0∨d=1∨d=2 := by omega
  rcases this with rfl | rfl | rfl <;> rfl
theorem zqg:(nxL nx).length=3 := rfl
theorem zui (hd:d < 3) (hs:0≤sz):(nxL nx).set d ((nx d:Int) + sz)=nxL fun e=>if e=d then nx d + sz.toNat else nx e := by
  have h1:(nx d:Int) + sz=((nx d + sz.toNat:Nat):Int) := by omega
  rw [h1]
  have:d=0∨d=1∨d=2 := by omega
  rcases this with rfl | rfl | rfl <;> rfl
theorem three {α:Type} {l:List α} (h:l.length=3):∃ a b c,l=[a,b,c] := by
  match l,h with
  | [a,b,c],_=>exact ⟨a,b,c,rfl⟩
end
theorem foldS {A:HP} {l R:List HP} : Ent (star l::A::R) (star (l ++ [A])::R) := fun h hh=>by
  have h1:stars (l ++ (A::R)) h := stars_star.1 hh
  refine stars_star.2 ?_
  rw [List.append_assoc]
  exact h1
theorem openS3 {A B C X:HP} {R:List HP} : Ent (X::star [A,B,C]::R) (X::A::B::C::R) := fun _ hh=>zas (fun _ hz=>(stars_star (Hs:=[A,B,C])).1 hz) hh
end Go.Proofs.Ts
