/- TopStacks, part 9 of the proof: CTs32, CTs33, PStr, PBld, CTs34, CTs35, PUns, CTs36, LTx2, CTs37, CTs38, CTs39, PTree, PForm, PNode, CTs40, PAw, CTs41, PLawT. -/
import Derived.WalkKit
import Derived.Orders
import Derived.RangeFuncLeaves
import Derived.RangeFuncCalls
import Derived.TacticsIn
import Derived.Handy
import Derived.OrdersHeld
import Derived.OrdersIn
import Derived.Below
import Derived.OpenShut
import Derived.Deep.Slices
import Derived.Scope
import Derived.KernelRfl
import Derived.RangeFuncRecord
import Derived.ChangeKeysEq
import Derived.Laws.BytesArg
import Derived.Lib.Bytealg
import Derived.Lib.AppendStr
import Derived.Lib.Builder
import Derived.Lib.UnsafeStr
import Derived.ProofKit
import Derived.ShutString
import Derived.ChangeOld
import Derived.Stop.Joined
import Derived.LaidLaws
import Derived.LaidHandle
import Derived.MakeChecks
import Derived.SevenTiedAt
import Derived.Test.YthfaiagepigmcaaGreatDoorChecked
import Derived.Test.YthfaiagepigmcaaGreatDoorRows
import Derived.Test.YthfaiagepigmcaaGreatDoorZTopStacks8
set_option linter.unusedSimpArgs false
set_option maxRecDepth 20000
namespace Go.Proofs
open Go.VG Ts
theorem zna (v0:Int) (v1:Int):∀ w,(Instr.build 276 (#[(0,.int .i64 v0),(1,.int .i64 v1)]:Array (Nat × Value))).run Tryz.prog w = .ok (.agg #[.int .i64 v0,.int .i64 v1]) w := fun w=>by kernel_rfl
theorem znb (v0:ByteArray) (v1:Int) (v2:Int):∀ w,(Instr.build 304 (#[(0,.string v0),(2,.agg #[.int .i64 v1,.int .i64 v2])]:Array (Nat × Value))).run Tryz.prog w = .ok (.agg #[.string v0,.int .i64 0,.int .i64 v1,.int .i64 v2,.slice none 0 0]) w := fun w=>by kernel_rfl
theorem zpc (v0:Int):∀ w,(Instr.build 280 (#[(0,.int .i64 v0)]:Array (Nat × Value))).run Tryz.prog w = .ok (.agg #[.int .i64 v0,.string ByteArray.empty,.int .i64 0,.int .i64 0,.int .i64 0]) w := fun w=>by kernel_rfl
theorem zqk:∀ w,(Instr.build 276 (#[]:Array (Nat × Value))).run Tryz.prog w = .ok (.agg #[.int .i64 0,.int .i64 0]) w := fun w=>by kernel_rfl
def atI (s:ByteArray):Nat→Int | 0=>0 | _ + 1=>s.size
def coI (s:ByteArray):Nat→Int | 0=>1 | _ + 1=>1 + (s.size:Int)
def tkI (s:ByteArray):Nat→List TkV | 0=>[] | _ + 1=>[tok1 s]
theorem at_0 {s:ByteArray} {i:Nat} (hi:i≤1) (h:atI s i < (s.size:Int)):i=0 := by
  match i,hi with
  | 0,_=>rfl
  | 1,_=>exact absurd h (Int.lt_irrefl _)
theorem at_1 {s:ByteArray} {i:Nat} (hs:1≤s.size) (hi:i≤1) (h:¬ atI s i < (s.size:Int)):i=1 := by
  match i,hi with
  | 0,_=>exact absurd (show (0:Int) < s.size by omega) h
  | 1,_=>rfl
theorem z2c {P:Program} {w:World} {t:TypeId} {ps rs:Array TypeId} {v:Bool} {f:FuncId} {a b:Array Value} (d:Nat) (hu:P.underlying t=some (.func ps rs v)):(Op.equalIn (d + 1) t (.func (.func f) a b) .nilFunc).run P w = .ok false w := by
  simp [Op.equalIn,run_underlying hu]
theorem z2d {P:Program} {n:Env} {s:Slots} {dst:Option Nat} {ty:TypeId} {pos:String} {after:Array Edge} {gd:Option (Nat × Bool)} {x:Operand} {t t':TypeId} {f:FuncId} {a b:Array Value} {ps rs:Array TypeId} {v:Bool} (hx:ev s x=some (.func (.func f) a b)) (hu:P.underlying t=some (.func ps rs v)):PJ P n ⟨dst,.binOp .neq t x (.const .nilFunc) t',ty,pos,after,gd⟩ s (.bool true) := by
  intro q w hf
  have h := z2c (P:=P) (w:=w) (f:=f) (a:=a) (b:=b) 9999 hu
  simp only [execOp,hf.eval hx,show q.eval (.const .nilFunc) = .nilFunc from rfl,eqGuard,binOp,Op.equal,Op.maxDepth]
  simp [h]
theorem z2e {s:ByteArray} (hN:Nm s) {xs:List (Option Nat)} (hx:Stp 256 xs):xs.getD (strAt s 0).toNat none=some 198 :=
  hx.2 _ (UInt8.toNat_lt _) (by unfold ltr; rw [hN.ltr 0 (by have := hN.sz; omega)]; rfl)
theorem zzv {W:World} {s:ByteArray} (hN:Nm s) :
    CSpec Tryz.prog W 150 [.string s] [] (fun x:Sl3 => .tuple #[x.v,.agg #[.int .i64 0,.int .i64 0],.int .i64 0]) (fun _=>True) (fun x F=>sl tyTk x.v [tok1 s,tok5 (1 + (s.size:Int))]::F) := by
 refine CSpec.of_body Tryz.func150 rfl Tryz.ntmps150 rfl fun F => ?_
 show CJ _ _ _ _ _ _ (F)
 have hsz := hN.sz
 refine sR<|oA rfl<|oO<|zbi Tryz.zeroValue276 rfl rfl fun b1=>oA rfl<|nT<|zxt<|sR<|oM rfl<|oP (zbk rfl (zna _ _))<|oP (zbk rfl (znb _ _ _))<|oO<|O_box rfl rfl rfl fun b2=>oA rfl<|nT<|zab<|sR<|oM rfl<|oP (zcn rfl Tryz.runUnderlying9)<|oP (P_gtr rfl rfl)<|nT<|zap rfl wF_<|kT<|sR<|oO<|zai (z2a) rfl Tryz.call178 Dels.nil rfl fun xs9 hx9=>oO<|zbi Tryz.zeroValue307 rfl rfl fun t4=>zcg (zb5 (t:=tyStp) (m:=256) (List.replicate 256 none) rfl rfl kR_ (by decide))<|oO<|zkq (t:=tyStp) rfl rfl rfl foc0 List.length_replicate hx9.1 Tryz.sizeOf307<|nT<|zab<|zxm<|zar<|zab<|zao<|zbs (fun h hh=>zch (t:=tyTk) h hh)<|za8 (X:=Nat × Sl3) [2,4,7,8,21,22,23,24,25,26,27,28,29,30,31,32,33,34,35,36,37,38,39,40,41,42,43,44,45,46,47] (fun ⟨i,xv⟩  => ([]:Slots)) (fun ⟨i,xv⟩ R=>blk b2 304 [.string s,.int .i64 (atI s i),.int .i64 1,.int .i64 (coI s i),xv.v]::sl tyTk xv.v (tkI s i)::R) (fun ⟨i,xv⟩  => i≤1) (fun ⟨i,xv⟩  => 1 - i) ⟨0,⟨none,0,0⟩⟩ ?_ ?_ (t2_ r_) ?_
 · exact Nat.zero_le _
 · exact True.intro
 ·
  rintro ⟨i,xv⟩ hi1
  show CJ _ _ _ _ _ (([]:Slots) ++ forget _ _) (blk b2 304 [.string s,.int .i64 (atI s i),.int .i64 1,.int .i64 (coI s i),xv.v]::sl tyTk xv.v (tkI s i)::_)
  refine zab<|sR<|oM rfl<|oP (zad rfl)<|oP (zaa rfl ⟨_,_,_,Tryz.runUnderlying304,rfl,rfl,Tryz.sizeOf3,rfl⟩)<|oV (zac rfl foc0 rfl Tryz.isAgg3)<|oM rfl<|oP (zcn rfl Tryz.runUnderlying9)<|oP (P_lss rfl rfl)<|nT ?_
  first | (refine zav rfl (fun hg2 => ?_) (fun hg2 => ?_)) | (refine zaw rfl (fun hg2 => ?_) (fun hg2 => ?_)) | (refine za1 rfl (fun hg2 => ?_) (fun hg2 => ?_))
  ·
   refine kT<|zao<|sR ?_
   obtain rfl:i=0 := at_0 hi1 (by assumption)
   refine oA rfl<|nT<|zab<|sR<|oM rfl<|oM rfl<|oP (zad rfl)<|oP (zaa rfl ⟨_,_,_,Tryz.runUnderlying304,rfl,rfl,Tryz.sizeOf3,rfl⟩)<|oV (zac rfl foc0 rfl Tryz.isAgg3)<|oP (zcz (b:=s) (i:=0) rfl rfl rfl (by omega) Tryz.runUnderlying9)<|oP (zc2 (i:=(strAt s 0).toNat) rfl rfl rfl (Nat.lt_of_lt_of_le (UInt8.toNat_lt _) (by decide)) Tryz.runUnderlying307 Tryz.sizeOf306)<|oV (VJ_eq (v := .func (.func 198) #[] #[]) (za6 rfl rfl (by first | omega | (exact zlu hx9.1 (show (strAt s 0).toNat < 256 from UInt8.toNat_lt _))) foc2 (Reads.sl _ _ _) rfl rfl Tryz.isAgg306) (by rw [show tyStp.dflt=none from rfl,z2e hN hx9]))<|oA rfl<|nT<|sR<|oM rfl<|oP (z2d rfl Tryz.underlying306)<|nT<|za7 rfl rfl<|sR<|oM rfl<|oM rfl<|oO<|zdz rfl rfl ((c_word hN (tv:=xv))) Tryz.call198 (Dels.cons del0 (dC_ del0)) rfl fun q9 hc6=>oA rfl<|nT<|sR<|oM rfl<|oP (P_eql rfl rfl)<|nT<|za7 rfl (by first | exact decide_eq_true (by rfl) | (rfl))<|zbc<|zay<|zat<|zba ⟨1,q9⟩ (by first | omega | (simp only []; omega)) ?_ kP_ ?_ r_
   · exact Nat.le_refl 1
   · exact True.intro
  ·
   refine zbc<|zay<|zau<|zat<|zar<|sR ?_
   obtain rfl:i=1 := at_1 hsz.1 hi1 (by assumption)
   refine oM rfl<|oP (zbk rfl (zpc _))<|oO<|zai ((c_add5 hN (tv:=xv))) rfl Tryz.call179 (Dels.cons del0 (dC_ del0)) rfl fun q8 hc8=>nT<|sR<|oM rfl<|oP (zad rfl)<|oP (zaa rfl ⟨_,_,_,Tryz.runUnderlying304,rfl,rfl,Tryz.sizeOf274,rfl⟩)<|oV (zac rfl foc0 rfl Tryz.isAgg274)<|oP (zbk rfl (zqk))<|oA rfl<|oO<|zbo rfl rfl foc3 Tryz.sizeOf276 rfl rfl rfl<|oA rfl<|nT<|zaf<|zr0<|zan (resA3 Tryz.results150 (zju rfl) (zdp rfl foc3 Tryz.isAgg276 Tryz.sizeOf276 rfl rfl) (zju rfl))<|CSpec.close q8 ?_ ?_ (t1_ (e_ (e_ (e_ r_))))
   · rfl
   · trivial
theorem zvc {W:World} {s:ByteArray} (hN:Nm s) :
    CSpec Tryz.prog W 112 [.string s] [] (fun _:Unit => .bool true) (fun _=>True) (fun _ F=>F) := by
 refine CSpec.of_body Tryz.func112 rfl Tryz.ntmps112 rfl fun F => ?_
 show CJ _ _ _ _ _ _ (F)
 have hsz := hN.sz
 have hne:s≠ByteArray.empty := by intro e; rw [e] at hsz; exact absurd hsz.1 (by decide)
 have hl2:∀ x:Int,([tok1 s,tok5 x]:List TkV).length=2 := fun _=>rfl
 refine sR<|oA rfl<|nT<|zab<|sR<|oM rfl<|oP (zis rfl rfl Tryz.underlying9)<|oM rfl ?_
 first | (refine zbu 8 rfl (fun hg1B hg1 => ?_) (fun hg1B hg1 => ?_)) | (refine zbv 8 rfl (fun hg1B hg1 => ?_) (fun hg1B hg1 => ?_)) | (refine zb3 8 rfl (fun hg1B => ?_) (fun hg1B => ?_))
 ·
  refine g_ rfl rfl rfl hg1B rfl<|g_ rfl rfl rfl hg1B rfl<|g_ rfl rfl rfl hg1B rfl<|oP (zbe rfl hg1B rfl)<|nT<|za7 rfl rfl<|sR<|oA rfl<|nT<|zaf<|zak<|zan (res1 Tryz.results112 rfl)<|CSpec.close () ?_ ?_ r_
  · first | rfl | (exfalso; first | exact hne hg1 | omega | exact hg3 rfl | exact hg4 rfl | exact hg5 rfl) | (simp; done) | (simp; rfl)
  · trivial
 ·
  refine p_ rfl rfl rfl hg1B (zae rfl)<|p_ rfl rfl rfl hg1B (zcn rfl Tryz.runUnderlying9)<|p_ rfl rfl rfl hg1B (P_gtr rfl rfl)<|oP (za2 rfl hg1B rfl)<|nT ?_
  first | (refine zav rfl (fun hg2 => ?_) (fun hg2 => ?_)) | (refine zaw rfl (fun hg2 => ?_) (fun hg2 => ?_)) | (refine za1 rfl (fun hg2 => ?_) (fun hg2 => ?_))
  ·
   refine sR<|oA rfl<|nT<|zaf<|zak<|zan (res1 Tryz.results112 rfl)<|CSpec.close () ?_ ?_ r_
   · first | rfl | (exfalso; first | exact hne hg1 | omega | exact hg3 rfl | exact hg4 rfl | exact hg5 rfl) | (simp; done) | (simp; rfl)
   · trivial
  ·
   refine kT<|sR<|oM rfl<|oO<|zai ((zzv hN)) rfl Tryz.call150 Dels.nil rfl fun q9 hc2=>oM rfl<|oP (zaj rfl rfl)<|oP (zaj rfl rfl)<|oP (zaj rfl rfl)<|oO<|zbi Tryz.zeroValue276 rfl rfl fun b3=>oA rfl<|oO<|zbo rfl rfl foc0 Tryz.sizeOf276 rfl rfl rfl<|oA rfl<|nT<|sR<|oM rfl<|oP (P_eql rfl rfl)<|oM rfl ?_
   first | (refine zbu 21 rfl (fun hg3B hg3 => ?_) (fun hg3B hg3 => ?_)) | (refine zbv 21 rfl (fun hg3B hg3 => ?_) (fun hg3B hg3 => ?_)) | (refine zb3 21 rfl (fun hg3B => ?_) (fun hg3B => ?_))
   ·
    refine p_ rfl rfl rfl hg3B (zae rfl)<|v_ rfl rfl rfl hg3B (V_len rfl foc1 (Reads.sl _ _ _) Tryz.runUnderlying274)<|p_ rfl rfl rfl hg3B (P_eql rfl rfl)<|oP (zbe rfl hg3B rfl)<|oM rfl ?_
    first | (refine zbu 26 rfl (fun hg4B hg4 => ?_) (fun hg4B hg4 => ?_)) | (refine zbv 26 rfl (fun hg4B hg4 => ?_) (fun hg4B hg4 => ?_)) | (refine zb3 26 rfl (fun hg4B => ?_) (fun hg4B => ?_))
    ·
     refine p_ rfl rfl rfl hg4B (zae rfl) ?_
     first | (refine RJ_gy (zaz rfl rfl rfl hg4B) (OJ_V (zam rfl rfl rfl (by first | omega | decide) foc1 (Reads.sl _ _ _) Tryz.runUnderlying274 Tryz.sizeOf280) rfl ?_)) | (refine RJ_gy (zaz rfl rfl rfl hg4B) (OJ_V (zam rfl rfl (Int.toNat_of_nonneg (by first | omega | decide)).symm (by first | omega | decide) foc1 (Reads.sl _ _ _) Tryz.runUnderlying274 Tryz.sizeOf280) rfl ?_))
     refine p_ rfl rfl rfl hg4B (zbl rfl ⟨_,_,_,Tryz.runUnderlying280,rfl,rfl,Tryz.sizeOf3,rfl⟩)<|v_ rfl rfl rfl hg4B (za6 rfl rfl (by first | omega | decide) foc1 (Reads.sl _ _ _) rfl rfl Tryz.isAgg3)<|p_ rfl rfl rfl hg4B (P_eql rfl rfl)<|oP (zbe rfl hg4B rfl)<|oM rfl ?_
     first | (refine zbu 33 rfl (fun hg5B hg5 => ?_) (fun hg5B hg5 => ?_)) | (refine zbv 33 rfl (fun hg5B hg5 => ?_) (fun hg5B hg5 => ?_)) | (refine zb3 33 rfl (fun hg5B => ?_) (fun hg5B => ?_))
     ·
      refine p_ rfl rfl rfl hg5B (zae rfl) ?_
      first | (refine RJ_gy (zaz rfl rfl rfl hg5B) (OJ_V (zam rfl rfl rfl (by first | omega | decide) foc1 (Reads.sl _ _ _) Tryz.runUnderlying274 Tryz.sizeOf280) rfl ?_)) | (refine RJ_gy (zaz rfl rfl rfl hg5B) (OJ_V (zam rfl rfl (Int.toNat_of_nonneg (by first | omega | decide)).symm (by first | omega | decide) foc1 (Reads.sl _ _ _) Tryz.runUnderlying274 Tryz.sizeOf280) rfl ?_))
      refine p_ rfl rfl rfl hg5B (zbl rfl ⟨_,_,_,Tryz.runUnderlying280,rfl,rfl,Tryz.sizeOf9,rfl⟩)<|v_ rfl rfl rfl hg5B (za6 rfl rfl (by first | omega | decide) foc1 (Reads.sl _ _ _) rfl rfl Tryz.isAgg9)<|p_ rfl rfl rfl hg5B (zae rfl)<|p_ rfl rfl rfl hg5B (zis rfl rfl Tryz.underlying9)<|oP (zbe rfl hg5B rfl)<|oA rfl<|nT<|zaf<|zan (res1 Tryz.results112 rfl)<|CSpec.close () ?_ ?_ (e_ (e_ r_))
      · first | rfl | (exfalso; first | exact hne hg1 | omega | exact hg3 rfl | exact hg4 rfl | exact hg5 rfl) | (simp; done) | (simp; rfl)
      · trivial
     ·
      refine g_ rfl rfl rfl hg5B rfl<|g_ rfl rfl rfl hg5B rfl<|g_ rfl rfl rfl hg5B rfl<|g_ rfl rfl rfl hg5B rfl<|g_ rfl rfl rfl hg5B rfl<|g_ rfl rfl rfl hg5B rfl<|oP (za2 rfl hg5B rfl)<|oA rfl<|nT<|zaf<|zan (res1 Tryz.results112 rfl)<|CSpec.close () ?_ ?_ (e_ (e_ r_))
      · first | rfl | (exfalso; first | exact hne hg1 | omega | exact hg3 rfl | exact hg4 rfl | exact hg5 rfl) | (simp; done) | (simp; rfl)
      · trivial
    ·
     refine g_ rfl rfl rfl hg4B rfl<|g_ rfl rfl rfl hg4B rfl<|g_ rfl rfl rfl hg4B rfl<|g_ rfl rfl rfl hg4B rfl<|g_ rfl rfl rfl hg4B rfl<|oP (za2 rfl hg4B rfl)<|oM rfl<|g_ rfl rfl rfl rfl rfl<|g_ rfl rfl rfl rfl rfl<|g_ rfl rfl rfl rfl rfl<|g_ rfl rfl rfl rfl rfl<|g_ rfl rfl rfl rfl rfl<|g_ rfl rfl rfl rfl rfl<|oP (za2 rfl rfl rfl)<|oA rfl<|nT<|zaf<|zan (res1 Tryz.results112 rfl)<|CSpec.close () ?_ ?_ (e_ (e_ r_))
     · first | rfl | (exfalso; first | exact hne hg1 | omega | exact hg3 rfl | exact hg4 rfl | exact hg5 rfl) | (simp; done) | (simp; rfl)
     · trivial
   ·
    refine g_ rfl rfl rfl hg3B rfl<|g_ rfl rfl rfl hg3B rfl<|g_ rfl rfl rfl hg3B rfl<|oP (za2 rfl hg3B rfl)<|oM rfl<|g_ rfl rfl rfl rfl rfl<|g_ rfl rfl rfl rfl rfl<|g_ rfl rfl rfl rfl rfl<|g_ rfl rfl rfl rfl rfl<|g_ rfl rfl rfl rfl rfl<|oP (za2 rfl rfl rfl)<|oM rfl<|g_ rfl rfl rfl rfl rfl<|g_ rfl rfl rfl rfl rfl<|g_ rfl rfl rfl rfl rfl<|g_ rfl rfl rfl rfl rfl<|g_ rfl rfl rfl rfl rfl<|g_ rfl rfl rfl rfl rfl<|oP (za2 rfl rfl rfl)<|oA rfl<|nT<|zaf<|zan (res1 Tryz.results112 rfl)<|CSpec.close () ?_ ?_ (e_ (e_ r_))
    · first | rfl | (exfalso; first | exact hne hg1 | omega | exact hg3 rfl | exact hg4 rfl | exact hg5 rfl) | (simp; done) | (simp; rfl)
    · trivial
end Go.Proofs
set_option linter.unusedSimpArgs false
set_option maxRecDepth 20000
namespace Go.Proofs
open Go.VG Ts
theorem zpd (v0:ByteArray):zbg Tryz.prog 58 1 [(0,.string v0)] 9 [.string v0] := fun w=>by kernel_rfl
abbrev mNm:MTy ByteArray Bool := { KT := 9,VT := 4,ek := fun k => .string k,ev := fun x => .bool x }
theorem zxd:MOk Tryz.prog mNm 222 where
  ty := Tryz.underlying222
  eq := fun a b w=>zw9 Tryz.underlying9 a b w
  chk := fun e a w=>zun Tryz.underlying9 e a w 9999
  same := fun a=>by simp [Instr.sameBits,zmi]
  kd := ⟨_,Tryz.underlying9,.inr fun a b=>by simp only [Instr.sameNow,zmi]⟩
abbrev gN (l:List NdV) (i:Nat):NdV := l.getD i tyNd.dflt
structure FmL (l:List NdV):Prop where
  len:l.length≤6
  nm:∀ i,i < l.length→Nm (gN l i).name
  nd:∀ i j,i < j→j < l.length→(gN l i).name≠(gN l j).name
  k:∀ i,i < l.length→(gN l i).kind=1∨(gN l i).kind=2∨(gN l i).kind=4
  k1:∀ i,i < l.length→(gN l i).kind=1→(-1000≤(gN l i).number∧(gN l i).number≤1000)∧(gN l i).text=ByteArray.empty∧(gN l i).nodes.n=0
  k2:∀ i,i < l.length→(gN l i).kind=2→(gN l i).number=0∧zfj [(gN l i).text]=some true∧(gN l i).nodes.n=0
  k4:∀ i,i < l.length→(gN l i).kind=4→(gN l i).number=0∧(gN l i).text=ByteArray.empty
  ls:∀ i,i < l.length→(gN l i).list.n=0
def Ks (l:List NdV) (i:Nat) (ml:List (ByteArray × Bool)):Prop := ∀ j,i≤j→j < l.length→lookM ml (gN l j).name=none
theorem zxe {ml:List (ByteArray × Bool)} {a b:ByteArray} {v:Bool} (h:lookM ml b=none) (hab:a≠b):lookM (setM ml a v) b=none := by
  rw [zux,if_neg (fun e=>hab e.symm)]; exact h
theorem Ks.next {l:List NdV} {i:Nat} {ml:List (ByteArray × Bool)} (hF:FmL l) (h:Ks l i ml) (_hi:i < l.length):Ks l (i + 1) (setM ml (gN l i).name true) :=
  fun j hj hl=>zxe (h j (by omega) hl) (hF.nd i j (by omega) hl)
theorem zk7 {W:World} {v:Sl3} {l:List NdV} {c:Nat} {d bd n0 nb:Int} {X:HP} (hF:FmL l) (hd:0≤d∧d < 8) (hb:0≤bd∧bd≤30) (hn0:0≤n0∧n0≤nb) (hnb:nb≤1000)
    (hrec:∀ i,i < l.length→(gN l i).kind=4 → ∀ {W:World} (n:Int),0≤n→n≤nb + 200→CSpec Tryz.prog W 77 [(gN l i).nodes.v,.int .i64 (d + 1),ptr c 0] [blk c 3 [.int .i64 n],X] (fun _:Int => .bool true) (fun m=>n≤m∧m≤n + bd) (fun m F=>blk c 3 [.int .i64 m]::X::F)) :
    CSpec Tryz.prog W 77 [v.v,.int .i64 d,ptr c 0] [sl tyNd v.v l,blk c 3 [.int .i64 n0],X] (fun _:Int => .bool true) (fun m=>n0≤m∧m≤n0 + l.length * (1 + bd)) (fun m F=>sl tyNd v.v l::blk c 3 [.int .i64 m]::X::F) := by
 refine CSpec.of_body Tryz.func77 rfl Tryz.ntmps77 rfl fun F => ?_
 show CJ _ _ _ _ _ _ (_::_::_::F)
 have hlen := hF.len
 refine sR<|oA rfl<|nT<|sR<|oO<|ze2 mNm rfl fun b1=>oA rfl<|nT<|zab<|sR<|oM rfl<|oV (V_len rfl foc1 (Reads.sl _ _ _) Tryz.runUnderlying117)<|oM rfl<|nT<|zao<|za8 (X:=Nat × Int × List (ByteArray × Bool)) [6,9,10,14,15,16,17,18,19,20,21,22,23,24,25,26,27,28,29,30,31,32,33,34,35,36,37,38,39,40,41,42,43,44,45,46,47,48,49,50,51,52,53,54,55,56,57,58,59,60,61,62,63,64,65,66,67,68,69,70,71,72,73,74,75,76,77,78,79,80,81,82,83,84,85,86,87,88,89,90,91,92,93,94,95,96,97,98,99] (fun ⟨i,n,ml⟩  => ([(14,.int .i64 (i:Nat))]:Slots)) (fun ⟨i,n,ml⟩ R=>blk c 3 [.int .i64 n]::mpc mNm b1 ml::R) (fun ⟨i,n,ml⟩  => i≤l.length∧(n0≤n∧n≤n0 + i * (1 + bd))∧Ks l i ml) (fun ⟨i,n,ml⟩  => l.length - i) ⟨0,n0,[]⟩ ?_ ?_ (t2_ r_) ?_
 · exact ⟨Nat.zero_le _,⟨by omega,by simp⟩,fun _ _ _=>rfl⟩
 · exact ⟨rfl,True.intro⟩
 ·
  rintro ⟨i,n,ml⟩ ⟨hi,hn,hks⟩
  show CJ _ _ _ _ _ (([(14,.int .i64 (i:Nat))]:Slots) ++ forget _ _) (blk c 3 [.int .i64 n]::mpc mNm b1 ml::_)
  refine sR<|oP (P_lss rfl rfl)<|nT<|zab ?_
  first | (refine zav rfl (fun hg1 => ?_) (fun hg1 => ?_)) | (refine zaw rfl (fun hg1 => ?_) (fun hg1 => ?_)) | (refine za1 rfl (fun hg1 => ?_) (fun hg1 => ?_))
  ·
   refine kT<|zab<|zao<|sR ?_
   have hil:i < l.length := by omega
   have hls := hF.ls i hil
   have hmul:(i:Int) * (1 + bd)≤6 * 31 := Int.mul_le_mul (by omega) (by omega) (by omega) (by omega)
   first | (refine RJ_op rfl (OJ_V (zam rfl rfl rfl (by first | omega | (simp only [Nat.zero_le]; omega)) foc2 (Reads.sl _ _ _) Tryz.runUnderlying117 Tryz.sizeOf224) rfl ?_)) | (refine RJ_op rfl (OJ_V (zam rfl rfl (Int.toNat_of_nonneg (by first | omega | (simp only [Nat.zero_le]; omega))).symm (by first | omega | (simp only [Nat.zero_le]; omega)) foc2 (Reads.sl _ _ _) Tryz.runUnderlying117 Tryz.sizeOf224) rfl ?_))
   refine oV (zdb rfl rfl (by first | omega | (simp only [Nat.zero_le]; omega)) foc2 (Reads.sl _ _ _) rfl rfl Tryz.isAgg224 Tryz.sizeOf224)<|oO<|zbi Tryz.zeroValue224 rfl rfl fun b2=>oO<|zbo rfl rfl foc0 Tryz.sizeOf224 rfl rfl rfl<|nT<|sR<|oM rfl<|oP (zad rfl)<|oV (zac rfl foc1 rfl Tryz.isAgg3)<|oP (P_add rfl rfl (by first | omega | (simp only [Nat.zero_le]; omega)))<|oP (zad rfl)<|oO<|za5 rfl rfl foc1 rfl rfl Tryz.sizeOf3<|nT<|zab<|sR<|oM rfl<|oP (zaa rfl ⟨_,_,_,Tryz.runUnderlying224,rfl,rfl,Tryz.sizeOf9,rfl⟩)<|oV (zac rfl foc0 rfl Tryz.isAgg9)<|oV (VJ_eq (v := .bool false) (zrq (M:=mNm) (k:=(gN l i).name) (out:=fun o => .bool (o.getD false)) rfl rfl foc2 zxd Tryz.zeroValue4 (fun _=>rfl) rfl) (by rw [hks i (Nat.le_refl _) hil]; rfl))<|oM rfl<|p_ rfl rfl rfl rfl (zaa rfl ⟨_,_,_,Tryz.runUnderlying224,rfl,rfl,Tryz.sizeOf9,rfl⟩)<|v_ rfl rfl rfl rfl (zac rfl foc0 rfl Tryz.isAgg9)<|RJ_gy (zaz rfl rfl rfl rfl)<|zai ((zvc (hF.nm i hil))) rfl Tryz.call112 Dels.nil rfl fun _ hc3=>p_ rfl rfl rfl rfl (P_not rfl)<|oP (za2 rfl rfl rfl)<|nT<|zap rfl rfl<|kT<|sR<|oM rfl<|oP (zaa rfl ⟨_,_,_,Tryz.runUnderlying224,rfl,rfl,Tryz.sizeOf9,rfl⟩)<|oV (zac rfl foc0 rfl Tryz.isAgg9)<|oO<|zc1 (M:=mNm) (k:=(gN l i).name) (v:=true) rfl rfl rfl foc2 zxd<|nT<|sR ?_
   refine oV (zbq rfl foc0 Tryz.isAgg224 Tryz.sizeOf224 rfl rfl)<|oO<|zbi Tryz.zeroValue224 rfl rfl fun b4=>oO<|zbo rfl rfl foc0 Tryz.sizeOf224 rfl rfl rfl<|nT<|sR<|oP (zaa rfl ⟨_,_,_,Tryz.runUnderlying224,rfl,rfl,Tryz.sizeOf9,rfl⟩)<|oO<|za5 rfl rfl foc0 rfl rfl Tryz.sizeOf9<|oP (zaa rfl ⟨_,_,_,Tryz.runUnderlying224,rfl,rfl,Tryz.sizeOf3,rfl⟩)<|oO<|za5 rfl rfl foc0 rfl rfl Tryz.sizeOf3<|nT<|zab<|sR<|oP (zaa rfl ⟨_,_,_,Tryz.runUnderlying224,rfl,rfl,Tryz.sizeOf3,rfl⟩)<|oV (zac rfl foc1 rfl Tryz.isAgg3)<|nT<|zao<|sR<|oP (P_eql rfl rfl)<|oA rfl<|nT ?_
   first | (refine zav rfl (fun hg2 => ?_) (fun hg2 => ?_)) | (refine zaw rfl (fun hg2 => ?_) (fun hg2 => ?_)) | (refine za1 rfl (fun hg2 => ?_) (fun hg2 => ?_))
   ·
    refine sR ?_
    obtain ⟨h1a,h1b,hnn⟩ := hF.k1 i hil (by assumption)
    refine oP (zaa rfl ⟨_,_,_,Tryz.runUnderlying224,rfl,rfl,Tryz.sizeOf3,rfl⟩)<|oO<|za5 rfl rfl foc0 rfl rfl Tryz.sizeOf3<|nT<|sR<|oP (zaa rfl ⟨_,_,_,Tryz.runUnderlying224,rfl,rfl,Tryz.sizeOf3,rfl⟩)<|oV (zac rfl foc1 rfl Tryz.isAgg3)<|oP (P_lss rfl rfl)<|oM rfl ?_
    first | (refine zbu 47 rfl (fun hg3B hg3 => ?_) (fun hg3B hg3 => ?_)) | (refine zbv 47 rfl (fun hg3B hg3 => ?_) (fun hg3B hg3 => ?_)) | (refine zb3 47 rfl (fun hg3B => ?_) (fun hg3B => ?_))
    ·
     refine g_ rfl rfl rfl hg3B rfl<|g_ rfl rfl rfl hg3B rfl<|g_ rfl rfl rfl hg3B rfl<|oP (zbe rfl hg3B rfl)<|nT<|za7 rfl rfl<|sR<|oA rfl<|nT<|zaf<|zax<|zak<|zax<|zak<|zbm<|zax<|zak ?_
     exfalso; first | omega | (simp_all; done) | (simp_all; first | omega | exact absurd rfl (by assumption))
    ·
     refine p_ rfl rfl rfl hg3B (zaa rfl ⟨_,_,_,Tryz.runUnderlying224,rfl,rfl,Tryz.sizeOf3,rfl⟩)<|v_ rfl rfl rfl hg3B (zac rfl foc1 rfl Tryz.isAgg3)<|p_ rfl rfl rfl hg3B (P_gtr rfl rfl)<|oP (za2 rfl hg3B rfl)<|nT ?_
     first | (refine zav rfl (fun hg4 => ?_) (fun hg4 => ?_)) | (refine zaw rfl (fun hg4 => ?_) (fun hg4 => ?_)) | (refine za1 rfl (fun hg4 => ?_) (fun hg4 => ?_))
     ·
      refine sR<|oA rfl<|nT<|zaf<|zax<|zak<|zax<|zak<|zbm<|zax<|zak ?_
      exfalso; first | omega | (simp_all; done) | (simp_all; first | omega | exact absurd rfl (by assumption))
     ·
      refine zbh<|zah<|zar<|sR<|oP (zaa rfl ⟨_,_,_,Tryz.runUnderlying224,rfl,rfl,Tryz.sizeOf3,rfl⟩)<|oV (zac rfl foc0 rfl Tryz.isAgg3)<|oP (P_neq rfl rfl)<|oM rfl ?_
      first | (refine zbu 84 rfl (fun hg5B hg5 => ?_) (fun hg5B hg5 => ?_)) | (refine zbv 84 rfl (fun hg5B hg5 => ?_) (fun hg5B hg5 => ?_)) | (refine zb3 84 rfl (fun hg5B => ?_) (fun hg5B => ?_))
      ·
       refine g_ rfl rfl rfl hg5B rfl<|g_ rfl rfl rfl hg5B rfl<|g_ rfl rfl rfl hg5B rfl<|oP (zbe rfl hg5B rfl)<|oM rfl<|g_ rfl rfl rfl rfl rfl<|g_ rfl rfl rfl rfl rfl<|g_ rfl rfl rfl rfl rfl<|g_ rfl rfl rfl rfl rfl<|g_ rfl rfl rfl rfl rfl<|g_ rfl rfl rfl rfl rfl<|g_ rfl rfl rfl rfl rfl<|g_ rfl rfl rfl rfl rfl<|oP (zbe rfl rfl rfl)<|nT<|za7 rfl rfl<|sR<|oA rfl<|nT<|zaf<|zax<|zak<|zbm<|zax<|zak ?_
       exfalso; first | omega | (simp_all; done) | (simp_all; first | omega | exact absurd rfl (by assumption))
      ·
       refine p_ rfl rfl rfl hg5B (zaa rfl ⟨_,_,_,Tryz.runUnderlying224,rfl,rfl,Tryz.sizeOf9,rfl⟩)<|v_ rfl rfl rfl hg5B (zac rfl foc0 rfl Tryz.isAgg9)<|p_ rfl rfl rfl hg5B (zgk rfl rfl Tryz.underlying9)<|oP (za2 rfl hg5B rfl)<|oM rfl ?_
       first | (refine zbu 89 rfl (fun hg6B hg6 => ?_) (fun hg6B hg6 => ?_)) | (refine zbv 89 rfl (fun hg6B hg6 => ?_) (fun hg6B hg6 => ?_)) | (refine zb3 89 rfl (fun hg6B => ?_) (fun hg6B => ?_))
       ·
        refine g_ rfl rfl rfl hg6B rfl<|g_ rfl rfl rfl hg6B rfl<|g_ rfl rfl rfl hg6B rfl<|g_ rfl rfl rfl hg6B rfl<|g_ rfl rfl rfl hg6B rfl<|g_ rfl rfl rfl hg6B rfl<|g_ rfl rfl rfl hg6B rfl<|g_ rfl rfl rfl hg6B rfl<|oP (zbe rfl hg6B rfl)<|nT<|za7 rfl rfl<|sR<|oA rfl<|nT<|zaf<|zax<|zak<|zbm<|zax<|zak ?_
        exfalso; first | omega | (simp_all; done) | (simp_all; first | omega | exact absurd rfl (by assumption))
       ·
        refine p_ rfl rfl rfl hg6B (zaa rfl ⟨_,_,_,Tryz.runUnderlying224,rfl,rfl,Tryz.sizeOf58,rfl⟩)<|v_ rfl rfl rfl hg6B (zac rfl foc0 rfl Tryz.isAgg58)<|p_ rfl rfl rfl hg6B (PJ_eq (v := .int .i64 0) (zca rfl Tryz.runUnderlying58) (by first | rfl | (show Value.int .i64 0=Value.int .i64 ((gN l i).list.n:Int); rw [hls]; rfl)))<|p_ rfl rfl rfl hg6B (zaa rfl ⟨_,_,_,Tryz.runUnderlying224,rfl,rfl,Tryz.sizeOf117,rfl⟩)<|v_ rfl rfl rfl hg6B (zac rfl foc0 rfl Tryz.isAgg117)<|p_ rfl rfl rfl hg6B (PJ_eq (v := .int .i64 0) (zca rfl Tryz.runUnderlying117) (by first | rfl | (show Value.int .i64 0=Value.int .i64 ((gN l i).nodes.n:Int); rw [hnn]; rfl)))<|p_ rfl rfl rfl hg6B (P_add rfl rfl (by first | omega | (simp only [Nat.zero_le]; omega)))<|p_ rfl rfl rfl hg6B (P_gtr rfl rfl)<|oP (za2 rfl hg6B rfl)<|nT ?_
        first | (refine zav rfl (fun hg7 => ?_) (fun hg7 => ?_)) | (refine zaw rfl (fun hg7 => ?_) (fun hg7 => ?_)) | (refine za1 rfl (fun hg7 => ?_) (fun hg7 => ?_))
        ·
         refine sR<|oA rfl<|nT<|zaf<|zax<|zak<|zbm<|zax<|zak ?_
         exfalso; first | omega | (simp_all; done) | (simp_all; first | omega | exact absurd rfl (by assumption))
        ·
         refine zbh<|zah<|zar<|zag<|oP (P_add rfl rfl (by first | omega | (simp only [Nat.zero_le]; omega)))<|oM rfl<|za0<|zba ⟨i + 1,(n + 1),(setM ml (gN l i).name true)⟩ (by first | omega | (simp only []; omega)) ?_ kP_ ?_ (t2_ (t2_ (t2_ (t2_ (e_ (e_ r_))))))
         · exact ⟨by omega,⟨by omega,by rw [Int.natCast_add,Int.add_mul]; omega⟩,hks.next hF hil⟩
         · exact ⟨rfl,True.intro⟩
   ·
    refine sR<|oP (P_eql rfl rfl)<|oA rfl<|nT ?_
    first | (refine zav rfl (fun hg8 => ?_) (fun hg8 => ?_)) | (refine zaw rfl (fun hg8 => ?_) (fun hg8 => ?_)) | (refine za1 rfl (fun hg8 => ?_) (fun hg8 => ?_))
    ·
     refine sR ?_
     obtain ⟨h2a,h2b,hnn⟩ := hF.k2 i hil (by assumption)
     refine oP (zaa rfl ⟨_,_,_,Tryz.runUnderlying224,rfl,rfl,Tryz.sizeOf9,rfl⟩)<|oO<|za5 rfl rfl foc0 rfl rfl Tryz.sizeOf9<|nT<|sR<|oP (zaa rfl ⟨_,_,_,Tryz.runUnderlying224,rfl,rfl,Tryz.sizeOf9,rfl⟩)<|oV (zac rfl foc1 rfl Tryz.isAgg9)<|oO<|za4 rfl (zpd _) rfl fun b5=>oO<|zai ((zm7 (Reads.lit (t:=tyS) (ys:=[(gN l i).text]) rfl rfl (Nat.le_refl 1) (by decide) rfl) h2b)) rfl Tryz.call113 (dC_ del0) rfl fun _ hc6=>oP (P_not rfl)<|nT<|zap rfl rfl<|zbh<|zah<|zar<|sR<|oP (zaa rfl ⟨_,_,_,Tryz.runUnderlying224,rfl,rfl,Tryz.sizeOf3,rfl⟩)<|oV (zac rfl foc1 rfl Tryz.isAgg3)<|oP (P_neq rfl rfl)<|oM rfl ?_
     first | (refine zbu 84 rfl (fun hg9B hg9 => ?_) (fun hg9B hg9 => ?_)) | (refine zbv 84 rfl (fun hg9B hg9 => ?_) (fun hg9B hg9 => ?_)) | (refine zb3 84 rfl (fun hg9B => ?_) (fun hg9B => ?_))
     ·
      refine g_ rfl rfl rfl hg9B rfl<|g_ rfl rfl rfl hg9B rfl<|g_ rfl rfl rfl hg9B rfl<|oP (zbe rfl hg9B rfl)<|oM rfl<|g_ rfl rfl rfl rfl rfl<|g_ rfl rfl rfl rfl rfl<|g_ rfl rfl rfl rfl rfl<|g_ rfl rfl rfl rfl rfl<|g_ rfl rfl rfl rfl rfl<|g_ rfl rfl rfl rfl rfl<|g_ rfl rfl rfl rfl rfl<|g_ rfl rfl rfl rfl rfl<|oP (zbe rfl rfl rfl)<|nT<|za7 rfl rfl<|sR<|oA rfl<|nT<|zaf<|zax<|zak<|zbm<|zax<|zak ?_
      exfalso; first | omega | (simp_all; done) | (simp_all; first | omega | exact absurd rfl (by assumption))
     ·
      refine p_ rfl rfl rfl hg9B (zaa rfl ⟨_,_,_,Tryz.runUnderlying224,rfl,rfl,Tryz.sizeOf9,rfl⟩)<|v_ rfl rfl rfl hg9B (zac rfl foc1 rfl Tryz.isAgg9)<|p_ rfl rfl rfl hg9B (zgk rfl rfl Tryz.underlying9)<|oP (za2 rfl hg9B rfl)<|oM rfl ?_
      first | (refine zbu 89 rfl (fun hg10B hg10 => ?_) (fun hg10B hg10 => ?_)) | (refine zbv 89 rfl (fun hg10B hg10 => ?_) (fun hg10B hg10 => ?_)) | (refine zb3 89 rfl (fun hg10B => ?_) (fun hg10B => ?_))
      ·
       refine g_ rfl rfl rfl hg10B rfl<|g_ rfl rfl rfl hg10B rfl<|g_ rfl rfl rfl hg10B rfl<|g_ rfl rfl rfl hg10B rfl<|g_ rfl rfl rfl hg10B rfl<|g_ rfl rfl rfl hg10B rfl<|g_ rfl rfl rfl hg10B rfl<|g_ rfl rfl rfl hg10B rfl<|oP (zbe rfl hg10B rfl)<|nT<|za7 rfl rfl<|sR<|oA rfl<|nT<|zaf<|zax<|zak<|zbm<|zax<|zak ?_
       exfalso; first | omega | (simp_all; done) | (simp_all; first | omega | exact absurd rfl (by assumption))
      ·
       refine p_ rfl rfl rfl hg10B (zaa rfl ⟨_,_,_,Tryz.runUnderlying224,rfl,rfl,Tryz.sizeOf58,rfl⟩)<|v_ rfl rfl rfl hg10B (zac rfl foc1 rfl Tryz.isAgg58)<|p_ rfl rfl rfl hg10B (PJ_eq (v := .int .i64 0) (zca rfl Tryz.runUnderlying58) (by first | rfl | (show Value.int .i64 0=Value.int .i64 ((gN l i).list.n:Int); rw [hls]; rfl)))<|p_ rfl rfl rfl hg10B (zaa rfl ⟨_,_,_,Tryz.runUnderlying224,rfl,rfl,Tryz.sizeOf117,rfl⟩)<|v_ rfl rfl rfl hg10B (zac rfl foc1 rfl Tryz.isAgg117)<|p_ rfl rfl rfl hg10B (PJ_eq (v := .int .i64 0) (zca rfl Tryz.runUnderlying117) (by first | rfl | (show Value.int .i64 0=Value.int .i64 ((gN l i).nodes.n:Int); rw [hnn]; rfl)))<|p_ rfl rfl rfl hg10B (P_add rfl rfl (by first | omega | (simp only [Nat.zero_le]; omega)))<|p_ rfl rfl rfl hg10B (P_gtr rfl rfl)<|oP (za2 rfl hg10B rfl)<|nT ?_
       first | (refine zav rfl (fun hg11 => ?_) (fun hg11 => ?_)) | (refine zaw rfl (fun hg11 => ?_) (fun hg11 => ?_)) | (refine za1 rfl (fun hg11 => ?_) (fun hg11 => ?_))
       ·
        refine sR<|oA rfl<|nT<|zaf<|zax<|zak<|zbm<|zax<|zak ?_
        exfalso; first | omega | (simp_all; done) | (simp_all; first | omega | exact absurd rfl (by assumption))
       ·
        refine zbh<|zah<|zar<|zag<|oP (P_add rfl rfl (by first | omega | (simp only [Nat.zero_le]; omega)))<|oM rfl<|za0<|zba ⟨i + 1,(n + 1),(setM ml (gN l i).name true)⟩ (by first | omega | (simp only []; omega)) ?_ kP_ ?_ (t3_ (t3_ (t3_ (t3_ (e_ (e_ (e_ r_)))))))
        · exact ⟨by omega,⟨by omega,by rw [Int.natCast_add,Int.add_mul]; omega⟩,hks.next hF hil⟩
        · exact ⟨rfl,True.intro⟩
    ·
     refine sR ?_
     have hkk:(gN l i).kind=4 := by
       rcases hF.k i hil with h | h | h
       · exact absurd h (by assumption)
       · exact absurd h (by assumption)
       · exact h
     refine oP (P_eql rfl rfl)<|oA rfl<|nT<|zap rfl (by first | exact decide_eq_false (by first | exact fun h=>absurd (h.symm.trans hkk) (by decide) | omega) | (first | exact fun h=>absurd (h.symm.trans hkk) (by decide) | omega))<|sR<|oP (P_eql rfl rfl)<|oA rfl<|nT<|za7 rfl (by first | exact decide_eq_true (by exact hkk) | (exact hkk))<|sR ?_
     obtain ⟨h4a,h4b⟩ := hF.k4 i hil hkk
     refine oP (zaa rfl ⟨_,_,_,Tryz.runUnderlying224,rfl,rfl,Tryz.sizeOf117,rfl⟩)<|oO<|za5 rfl rfl foc0 rfl rfl Tryz.sizeOf117<|nT<|sR<|oM rfl<|oP (P_eql rfl rfl)<|oM rfl ?_
     first | (refine zbu 72 rfl (fun hg14B hg14 => ?_) (fun hg14B hg14 => ?_)) | (refine zbv 72 rfl (fun hg14B hg14 => ?_) (fun hg14B hg14 => ?_)) | (refine zb3 72 rfl (fun hg14B => ?_) (fun hg14B => ?_))
     ·
      refine g_ rfl rfl rfl hg14B rfl<|g_ rfl rfl rfl hg14B rfl<|g_ rfl rfl rfl hg14B rfl<|g_ rfl rfl rfl hg14B rfl<|g_ rfl rfl rfl hg14B rfl<|g_ rfl rfl rfl hg14B rfl<|g_ rfl rfl rfl hg14B rfl<|oP (zbe rfl hg14B rfl)<|nT<|za7 rfl rfl<|sR<|oA rfl<|nT<|zaf<|zax<|zak<|zax<|zak<|zbm<|zax<|zak ?_
      exfalso; first | omega | (simp_all; done) | (simp_all; first | omega | exact absurd rfl (by assumption))
     ·
      refine p_ rfl rfl rfl hg14B (zaa rfl ⟨_,_,_,Tryz.runUnderlying224,rfl,rfl,Tryz.sizeOf117,rfl⟩)<|v_ rfl rfl rfl hg14B (zac rfl foc1 rfl Tryz.isAgg117)<|p_ rfl rfl rfl hg14B (zae rfl)<|p_ rfl rfl rfl hg14B (P_add rfl rfl (by first | omega | (simp only [Nat.zero_le]; omega)))<|p_ rfl rfl rfl hg14B (zae rfl)<|RJ_gy (zaz rfl rfl rfl hg14B)<|zai ((hrec i hil hkk (n + 1) (by omega) (by omega))) rfl Tryz.call77 (Dels.cons del2 (dC_ del4)) rfl fun m9 hm9=>p_ rfl rfl rfl hg14B (P_not rfl)<|oP (za2 rfl hg14B rfl)<|nT<|zap rfl rfl<|zbh<|zah<|zar<|sR<|oP (zaa rfl ⟨_,_,_,Tryz.runUnderlying224,rfl,rfl,Tryz.sizeOf3,rfl⟩)<|oV (zac rfl foc2 rfl Tryz.isAgg3)<|oP (P_neq rfl rfl)<|oM rfl ?_
      first | (refine zbu 84 rfl (fun hg15B hg15 => ?_) (fun hg15B hg15 => ?_)) | (refine zbv 84 rfl (fun hg15B hg15 => ?_) (fun hg15B hg15 => ?_)) | (refine zb3 84 rfl (fun hg15B => ?_) (fun hg15B => ?_))
      ·
       refine g_ rfl rfl rfl hg15B rfl<|g_ rfl rfl rfl hg15B rfl<|g_ rfl rfl rfl hg15B rfl<|oP (zbe rfl hg15B rfl)<|oM rfl<|g_ rfl rfl rfl rfl rfl<|g_ rfl rfl rfl rfl rfl<|g_ rfl rfl rfl rfl rfl<|g_ rfl rfl rfl rfl rfl<|g_ rfl rfl rfl rfl rfl<|g_ rfl rfl rfl rfl rfl<|g_ rfl rfl rfl rfl rfl<|g_ rfl rfl rfl rfl rfl<|oP (zbe rfl rfl rfl)<|nT<|za7 rfl rfl<|sR<|oA rfl<|nT<|zaf<|zax<|zak<|zbm<|zax<|zak ?_
       exfalso; first | omega | (simp_all; done) | (simp_all; first | omega | exact absurd rfl (by assumption))
      ·
       refine p_ rfl rfl rfl hg15B (zaa rfl ⟨_,_,_,Tryz.runUnderlying224,rfl,rfl,Tryz.sizeOf9,rfl⟩)<|v_ rfl rfl rfl hg15B (zac rfl foc2 rfl Tryz.isAgg9)<|p_ rfl rfl rfl hg15B (zgk rfl rfl Tryz.underlying9)<|oP (za2 rfl hg15B rfl)<|oM rfl ?_
       first | (refine zbu 89 rfl (fun hg16B hg16 => ?_) (fun hg16B hg16 => ?_)) | (refine zbv 89 rfl (fun hg16B hg16 => ?_) (fun hg16B hg16 => ?_)) | (refine zb3 89 rfl (fun hg16B => ?_) (fun hg16B => ?_))
       ·
        refine g_ rfl rfl rfl hg16B rfl<|g_ rfl rfl rfl hg16B rfl<|g_ rfl rfl rfl hg16B rfl<|g_ rfl rfl rfl hg16B rfl<|g_ rfl rfl rfl hg16B rfl<|g_ rfl rfl rfl hg16B rfl<|g_ rfl rfl rfl hg16B rfl<|g_ rfl rfl rfl hg16B rfl<|oP (zbe rfl hg16B rfl)<|nT<|za7 rfl rfl<|sR<|oA rfl<|nT<|zaf<|zax<|zak<|zbm<|zax<|zak ?_
        exfalso; first | omega | (simp_all; done) | (simp_all; first | omega | exact absurd rfl (by assumption))
       ·
        refine p_ rfl rfl rfl hg16B (zaa rfl ⟨_,_,_,Tryz.runUnderlying224,rfl,rfl,Tryz.sizeOf58,rfl⟩)<|v_ rfl rfl rfl hg16B (zac rfl foc2 rfl Tryz.isAgg58)<|p_ rfl rfl rfl hg16B (PJ_eq (v := .int .i64 0) (zca rfl Tryz.runUnderlying58) (by first | rfl | (show Value.int .i64 0=Value.int .i64 ((gN l i).list.n:Int); rw [hls]; rfl)))<|p_ rfl rfl rfl hg16B (zaa rfl ⟨_,_,_,Tryz.runUnderlying224,rfl,rfl,Tryz.sizeOf117,rfl⟩)<|v_ rfl rfl rfl hg16B (zac rfl foc2 rfl Tryz.isAgg117)<|p_ rfl rfl rfl hg16B (PJ_eq (v := .int .i64 0) (zca rfl Tryz.runUnderlying117) (by first | rfl | (show Value.int .i64 0=Value.int .i64 ((gN l i).nodes.n:Int); rw [hnn]; rfl)))<|p_ rfl rfl rfl hg16B (P_add rfl rfl (by first | omega | (simp only [Nat.zero_le]; omega)))<|p_ rfl rfl rfl hg16B (P_gtr rfl rfl)<|oP (za2 rfl hg16B rfl)<|nT ?_
        first | (refine zav rfl (fun hg17 => ?_) (fun hg17 => ?_)) | (refine zaw rfl (fun hg17 => ?_) (fun hg17 => ?_)) | (refine za1 rfl (fun hg17 => ?_) (fun hg17 => ?_))
        ·
         refine sR<|oA rfl<|nT<|zaf<|zax<|zak<|zbm<|zax<|zak ?_
         exfalso; first | omega | (simp_all; done) | (simp_all; first | omega | exact absurd rfl (by assumption))
        ·
         refine zbh<|zah<|zar<|zag<|oP (P_add rfl rfl (by first | omega | (simp only [Nat.zero_le]; omega)))<|oM rfl<|za0<|zba ⟨i + 1,(m9),(setM ml (gN l i).name true)⟩ (by first | omega | (simp only []; omega)) ?_ kP_ ?_ (t0_ (t3_ (t3_ (t0_ (e_ (e_ r_))))))
         · exact ⟨by omega,⟨by omega,by rw [Int.natCast_add,Int.add_mul]; omega⟩,hks.next hF hil⟩
         · exact ⟨rfl,True.intro⟩
  ·
   refine zbc<|zay<|zau<|zat<|zar<|sR<|oA rfl<|nT<|zaf<|zan (res1 Tryz.results77 rfl)<|CSpec.close n ?_ ?_ (t2_ (t0_ (t1_ (e_ r_))))
   · rfl
   ·
    obtain rfl:i=l.length := by omega
    exact hn
end Go.Proofs
set_option linter.unusedSimpArgs false
set_option linter.unusedVariables false
set_option maxRecDepth 20000
set_option maxHeartbeats 4000000
namespace Go.Proofs
open Go.VG
theorem ztc (l:List UInt8):flat tyU8 l=l.map fun b=>Value.int .u8 b.toNat := by
  induction l with
  | nil=>rfl
  | cons a t ih=>simp only [List.map_cons, ← ih]; rfl
theorem zxf (s:ByteArray):flat tyU8 s.data.toList=Lib.strCells s := ztc _
theorem z2f:∃ i,Tryz.prog.info? 5=some i∧i.zero=some (.int .u8 0)∧i.size=1∧i.bytes=1 := ⟨Tryz.t5,by kernel_rfl,rfl,rfl,rfl⟩
theorem znc {W w:World} {v:Value} {xs:List UInt8} {E:TypeId} {F:List HP} {s:ByteArray} (hs:St W w (sl tyU8 v xs::F)) (h63:xs.length + s.size≤100000) :
    ∃ v' w',(Builtin.append_ #[179,9] E #[v,.string s]).run Tryz.prog w = .ok v' w' ∧ St W w' (sl tyU8 v' (xs ++ s.data.toList)::F) := by
  obtain ⟨i,hi,hz,hsz,hb⟩ := z2f
  have hT := Tryz.underlying179
  have hu := Tryz.underlying9
  have hsl:s.data.toList.length=s.size := by simp
  have hfl := zxf s
  have hcl := Lib.strCells_length s
  have hmax:xs.length + s.size≤maxLen := by unfold maxLen; omega
  have hfx:(flat tyU8 xs).length=xs.length := by rw [zbr]; exact Nat.mul_one _
  have hown := zjm hs
  rcases zeo hs with ⟨rfl,rfl,hF⟩ | ⟨b0,cap0,cur,rfl,hc,hm,hs',ht,h2⟩
  · have hown':w.ownsRow w.heap.size 5 1 (.slice none 0 0) 0 [] := World.ownsRow_nil w _ 5 1
    obtain ⟨v',w',hr,ho,hg,_⟩ := Lib.run_append_own_string (P:=Tryz.prog) w w.heap.size 179 9 E 5 i hT hu hi hz hsz hb (.slice none 0 0) 0 [] hown' s (by simpa using hmax) (by simp at h63; omega) (Nat.le_refl _)
    refine ⟨v',w',hr,zng hs hg (.inl ?_)⟩
    rw [List.nil_append,hfl,hsl]
    simpa using ho
  · by_cases hroom:xs.length + s.size≤cap0
    · have hs1:cur.size=cap0 := by rw [hs']; exact Nat.mul_one _
      have hr := Lib.run_append_room_string (P:=Tryz.prog) w 179 9 E 5 i hT hu hi hsz b0 xs.length cap0 cur h2.blk s hroom (by omega)
      refine ⟨_,_,hr,?_⟩
      have h3 := h2.setRow (c' := (cur.toList.take xs.length ++ Lib.strCells s ++ cur.toList.drop (xs.length + s.size)).toArray)
      have h4 := zep (t:=tyU8) (xs:=xs ++ s.data.toList) (b:=b0) (cap:=cap0) (by simpa [hsl] using hroom) hm (by simp [hs1,hcl]; omega) (by
        have ht':cur.toList.take xs.length=flat tyU8 xs := by rw [← ht]; congr 1; exact (Nat.mul_one _).symm
        simp only [List.length_append,hsl,zdv,hfl, ← ht']
        rw [Nat.mul_one]
        rw [List.take_append_of_le_length (by simp [hcl,hs1]; omega),List.take_of_length_le (by simp [hcl,hs1]; omega)]) h3
      rw [List.length_append,hsl] at h4
      exact h4
    · have holds:∀ j u,(flat tyU8 xs)[j]? = some u→w.cell? ((⟨b0,0,none⟩:Addr).add j)=some u := hown.cells (g:=b0) rfl
      have hgr := growslice_fits (need:=xs.length + s.size) (old:=cap0) (bytes:=1) (by omega) (by omega)
      have hr := Lib.run_append_grow_string (P:=Tryz.prog) w 179 9 E 5 i (.int .u8 0) hT hu hi hz ⟨b0,0,none⟩ xs.length cap0 (flat tyU8 xs) (by rw [hfx,hsz]; omega) holds s (by omega) (by omega) (by rw [hb]; omega)
      refine ⟨_,_,hr,?_⟩
      have hge := grownCap_ge w (xs.length + s.size) cap0 5
      have hcm:grownCap w (xs.length + s.size) cap0 5≤maxLen := grownCap_le_maxLen w (xs.length + s.size) cap0 5 hmax
      have h4 := h2.tail.drew.alloc (.cells ((flat tyU8 xs).toArray ++ (Lib.strCells s).toArray ++ Builtin.zeroCells (Value.int .u8 0).cells (grownCap w (xs.length + s.size) cap0 5 - (xs.length + s.size))) 5)
      have hzl:(Builtin.zeroCells (Value.int .u8 0).cells (grownCap w (xs.length + s.size) cap0 5 - (xs.length + s.size))).size=grownCap w (xs.length + s.size) cap0 5 - (xs.length + s.size) := by
        rw [show (Value.int .u8 0).cells = #[Value.int .u8 0] from rfl,zrb]; simp
      have h5 := zep (t:=tyU8) (xs:=xs ++ s.data.toList) (cap:=grownCap w (xs.length + s.size) cap0 5) (by simpa [hsl] using hge) hcm (by simp only [Array.size_append,List.size_toArray,hfx,hcl,hzl,Nat.mul_one]; omega) (by
        simp only [List.length_append,hsl,Nat.mul_one,zdv,hfl,Array.toList_append]
        rw [List.take_append_of_le_length (by simp [hfx,hcl]),List.take_of_length_le (by simp [hfx,hcl])]) h4
      rw [List.length_append,hsl] at h5
      exact h5
section
variable {n:Env} {W:World} {s:Slots} {H:List HP} {K:Slots→List HP→Prop} {d:Nat} {ty:TypeId} {pos:String} {after:Array Edge} {gd:Option (Nat × Bool)}
theorem zxg {x y:Operand} {E:TypeId} {v:Value} {xs:List UInt8} {b:ByteArray} {F:List HP} (hx:ev s x=some v) (hy:ev s y=some (.string b)) (hdel:Del H (sl tyU8 v xs) F) (h63:xs.length + b.size≤100000) (hd:Nat.blt d n.n=true)
    (hk:∀ p c,K ((d,.slice p (xs ++ b.data.toList).length c)::s) (sl tyU8 (.slice p (xs ++ b.data.toList).length c) (xs ++ b.data.toList)::F)) :
    OJ Tryz.prog n W ⟨some d,.call { callee := .builtin .append,args := #[x,y],argTypes := #[179,9] },E,pos,after,gd⟩ s H K :=
  zge (fun q w hf hs=>by
    have hs1 := hs.perm hdel.out
    obtain ⟨v',w',hr',hs'⟩ := znc (E:=E) hs1 h63
    obtain ⟨p,c,rfl⟩ := zrm hs'
    refine ⟨_,w',_,?_,hs',hk p c⟩
    simp [execOp,resolve,invoke,builtin,hf.eval hx,hf.eval hy,hr']) hd
end
end Go.Proofs
set_option linter.unusedSimpArgs false
set_option linter.unusedVariables false
set_option maxRecDepth 20000
set_option maxHeartbeats 4000000
namespace Go.Proofs
open Go.VG
section
variable {n:Env} {W:World} {s:Slots} {H:List HP} {K:Slots→List HP→Prop} {d:Nat} {dst:Option Nat} {ty:TypeId} {pos:String} {after:Array Edge} {gd:Option (Nat × Bool)} {C:HP→List HP}
theorem zq7 {w:World} {b:Nat} {E:TypeId} {cs:List Value} {F:List HP} (h:St W w (blk b E cs::F)):w.shape? b=some (E,cs.length) := by
  unfold World.shape?
  rw [show w.heap[b]? = _ from h.blk]
  simp
theorem zoe:∃ j,Tryz.prog.info? 181=some j∧j.size=2 := ⟨Tryz.t181,by kernel_rfl,rfl⟩
theorem zzw:liesAt Tryz.prog Tryz.prog.depth 183 (2 / Tryz.prog.cellsOf 183) 0 181 1=true := by kernel_rfl
theorem zvd {x:Operand} {b:Nat} {u v:Value} (hx:ev s x=some (ptr b 0)) (hf':Foc H (blk b 183 [u,v]) C):VJ Tryz.prog n W ⟨dst,.convert 178 327 x,ty,pos,after,gd⟩ s H (ptr b 0) := by
  intro q w hf hs
  obtain ⟨F,hp,_⟩ := hf'.focus
  have hsh := zq7 (hs.perm hp)
  obtain ⟨j,hj,hj2⟩ := zoe
  have h := Lib.run_to_unsafe (P:=Tryz.prog) w ⟨b,0,none⟩ Tryz.underlying178 Tryz.underlying327 hj (by rw [hj2]; decide) hsh (by show 0 < 2; decide)
  simp [execOp,hf.eval hx,h]
theorem ztd {x:Operand} {b:Nat} {u v:Value} (hx:ev s x=some (ptr b 0)) (hf':Foc H (blk b 183 [u,v]) C):VJ Tryz.prog n W ⟨dst,.convert 327 178 x,ty,pos,after,gd⟩ s H (ptr b 0) := by
  intro q w hf hs
  obtain ⟨F,hp,_⟩ := hf'.focus
  have hsh := zq7 (hs.perm hp)
  obtain ⟨j,hj,hj2⟩ := zoe
  have h := Lib.run_from_unsafe (P:=Tryz.prog) w ⟨b,0,none⟩ Tryz.underlying327 Tryz.underlying178 hj hsh zzw
  simp [execOp,hf.eval hx,h]
noncomputable def fn204:Func := (Tryz.prog.funcs[204]?).getD default
theorem z2g (v:Value) (w:World):(callFunc 204 #[v]).run Tryz.prog w = .ok (.value v) w := by
  rw [run_callFunc_extern (fn:=fn204) (by kernel_rfl) (by kernel_rfl) (by kernel_rfl) (e:=Extern.AbiNoEscape.same) (by kernel_rfl) (by kernel_rfl),Lib.run_noEscape]
  simp [Result.andThen]
theorem zxh {x y:Operand} {b:Nat} {t':TypeId} (hx:ev s x=some (ptr b 0)) (hy:ev s y=some (ptr b 0)):PJ Tryz.prog n ⟨dst,.binOp .neq 178 x y t',ty,pos,after,gd⟩ s (.bool false) := by
  intro q w hf
  obtain ⟨j,hj,_⟩ := zoe
  have h := Lib.run_neq_ptr_same (P:=Tryz.prog) w ⟨b,0,none⟩ Tryz.underlying178 hj
  simp [execOp,hf.eval hx,hf.eval hy,eqGuard,h]
end
end Go.Proofs
set_option linter.unusedSimpArgs false
set_option maxRecDepth 20000
namespace Go.Proofs
open Go.VG Ts
def adr (u:Bool) (b:Nat):Value := match u with | false => .pointer none | true=>ptr b 0
theorem c_cc0 {W:World} {b:Nat} {bv:Sl3} :
    CSpec Tryz.prog W 180 [ptr b 0] [blk b 183 [.pointer none,bv.v]] (fun _:Unit => .tuple #[]) (fun _=>True) (fun _ F=>blk b 183 [ptr b 0,bv.v]::F) := by
 refine CSpec.of_body Tryz.func180 rfl Tryz.ntmps180 rfl fun F => ?_
 show CJ _ _ _ _ _ _ (_::F)
 refine sR<|oM rfl<|oP (zad rfl)<|oP (zaa rfl ⟨_,_,_,Tryz.runUnderlying181,rfl,rfl,Tryz.sizeOf178,rfl⟩)<|oV (zac rfl foc0 rfl Tryz.isAgg178)<|oP (zpp rfl rfl Tryz.underlying178)<|nT<|za7 rfl rfl<|zag<|oM rfl<|oM rfl<|oV (zvd rfl foc0)<|oP (zs8 (vs:=[ptr b 0]) rfl (z2g _))<|oV (ztd rfl foc0)<|oP (zad rfl)<|oP (zaa rfl ⟨_,_,_,Tryz.runUnderlying181,rfl,rfl,Tryz.sizeOf178,rfl⟩)<|oO<|za5 rfl rfl foc0 rfl rfl Tryz.sizeOf178<|za0<|zce (res0 Tryz.results180)<|CSpec.close () ?_ ?_ r_
 · rfl
 · trivial
theorem c_cc1 {W:World} {b:Nat} {bv:Sl3} :
    CSpec Tryz.prog W 180 [ptr b 0] [blk b 183 [ptr b 0,bv.v]] (fun _:Unit => .tuple #[]) (fun _=>True) (fun _ F=>blk b 183 [ptr b 0,bv.v]::F) := by
 refine CSpec.of_body Tryz.func180 rfl Tryz.ntmps180 rfl fun F => ?_
 show CJ _ _ _ _ _ _ (_::F)
 refine sR<|oM rfl<|oP (zad rfl)<|oP (zaa rfl ⟨_,_,_,Tryz.runUnderlying181,rfl,rfl,Tryz.sizeOf178,rfl⟩)<|oV (zac rfl foc0 rfl Tryz.isAgg178)<|oP (zhm rfl rfl Tryz.underlying178)<|nT<|zap rfl rfl<|sR<|oM rfl<|oP (zad rfl)<|oP (zaa rfl ⟨_,_,_,Tryz.runUnderlying181,rfl,rfl,Tryz.sizeOf178,rfl⟩)<|oV (zac rfl foc0 rfl Tryz.isAgg178)<|oM rfl<|oP (zxh rfl rfl)<|nT<|zap rfl rfl<|zbh<|zce (res0 Tryz.results180)<|CSpec.close () ?_ ?_ r_
 · rfl
 · trivial
theorem c_cc {W:World} {b:Nat} {u:Bool} {bv:Sl3} : CSpec Tryz.prog W 180 [ptr b 0] [blk b 183 [adr u b,bv.v]] (fun _:Unit => .tuple #[]) (fun _=>True) (fun _ F=>blk b 183 [ptr b 0,bv.v]::F) := by
  cases u
  · exact c_cc0
  · exact c_cc1
end Go.Proofs
set_option linter.unusedSimpArgs false
set_option maxRecDepth 20000
namespace Go.Proofs
open Go.VG Ts
theorem zof (v0:Int):zbg Tryz.prog 179 1 [(0,.int .u8 v0)] 5 [.int .u8 v0] := fun w=>by kernel_rfl
theorem c_WrS {W:World} {b:Nat} {u:Bool} {bv:Sl3} {xs:List UInt8} {s:ByteArray} (h63:xs.length + s.size≤100000) :
    CSpec Tryz.prog W 151 [ptr b 0,.string s] [blk b 183 [adr u b,bv.v],sl tyU8 bv.v xs] (fun _:Sl3 => .tuple #[.int .i64 (s.size:Int),.nilIface]) (fun _=>True) (fun x F=>blk b 183 [ptr b 0,x.v]::sl tyU8 x.v (xs ++ s.data.toList)::F) := by
 refine CSpec.of_body Tryz.func151 rfl Tryz.ntmps151 rfl fun F => ?_
 show CJ _ _ _ _ _ _ (_::_::F)
 refine sR<|oA rfl<|oA rfl<|nT<|sR<|oM rfl<|oO<|zai (c_cc) rfl Tryz.call180 (dC_ del0) rfl fun _ hc1=>nT<|sR<|oM rfl<|oM rfl<|oP (zad rfl)<|oP (zaa rfl ⟨_,_,_,Tryz.runUnderlying181,rfl,rfl,Tryz.sizeOf179,rfl⟩)<|oV (zac rfl foc0 rfl Tryz.isAgg179)<|oM rfl<|oO<|zxg rfl rfl del1 (by omega) rfl fun p2 c3=>oP (zad rfl)<|oP (zaa rfl ⟨_,_,_,Tryz.runUnderlying181,rfl,rfl,Tryz.sizeOf179,rfl⟩)<|oO<|za5 rfl rfl foc1 rfl rfl Tryz.sizeOf179<|nT<|sR<|oM rfl<|oP (zcn rfl Tryz.runUnderlying9)<|oA rfl<|oA rfl<|nT<|zaf<|zan (res2 Tryz.results151 rfl rfl)<|CSpec.close ⟨p2,(xs ++ s.data.toList).length,c3⟩ ?_ ?_ (t1_ r_)
 · rfl
 · trivial
theorem c_WrB {W:World} {b:Nat} {u:Bool} {bv:Sl3} {xs:List UInt8} {y:UInt8} (h63:xs.length + 1≤100000) :
    CSpec Tryz.prog W 153 [ptr b 0,.int .u8 (y.toNat:Int)] [blk b 183 [adr u b,bv.v],sl tyU8 bv.v xs] (fun _:Sl3 => .nilIface) (fun _=>True) (fun x F=>blk b 183 [ptr b 0,x.v]::sl tyU8 x.v (xs ++ [y])::F) := by
 refine CSpec.of_body Tryz.func153 rfl Tryz.ntmps153 rfl fun F => ?_
 show CJ _ _ _ _ _ _ (_::_::F)
 refine sR<|oA rfl<|nT<|sR<|oM rfl<|oO<|zai (c_cc) rfl Tryz.call180 (dC_ del0) rfl fun _ hc1=>nT<|sR<|oM rfl<|oM rfl<|oP (zad rfl)<|oP (zaa rfl ⟨_,_,_,Tryz.runUnderlying181,rfl,rfl,Tryz.sizeOf179,rfl⟩)<|oV (zac rfl foc0 rfl Tryz.isAgg179)<|oM rfl<|oO<|za4 rfl (zof _) rfl fun b2=>oO<|zb1 (t:=tyU8) (bytes:=1) rfl rfl del2 foc0 (Reads.lit (t:=tyU8) (ys:=[y]) rfl rfl (by decide) (by decide) rfl) Tryz.underlying179 zjx (by show xs.length + 1≤maxLen; unfold maxLen; omega) (by show (xs.length + 1) * 1≤_; omega) rfl fun p3 c4=>oP (zad rfl)<|oP (zaa rfl ⟨_,_,_,Tryz.runUnderlying181,rfl,rfl,Tryz.sizeOf179,rfl⟩)<|oO<|za5 rfl rfl foc2 rfl rfl Tryz.sizeOf179<|nT<|sR<|oA rfl<|nT<|zaf<|zan (res1 Tryz.results153 rfl)<|CSpec.close ⟨p3,(xs ++ [y]).length,c4⟩ ?_ ?_ (t2_ (t0_ (e_ r_)))
 · rfl
 · trivial
theorem c_BLen {W:World} {b:Nat} {u:Bool} {bv:Sl3} {xs:List UInt8}  :
    CSpec Tryz.prog W 79 [ptr b 0] [blk b 183 [adr u b,bv.v],sl tyU8 bv.v xs] (fun _:Unit => .int .i64 (xs.length:Int)) (fun _=>True) (fun _ F=>blk b 183 [adr u b,bv.v]::sl tyU8 bv.v xs::F) := by
 refine CSpec.of_body Tryz.func79 rfl Tryz.ntmps79 rfl fun F => ?_
 show CJ _ _ _ _ _ _ (_::_::F)
 refine sR<|oA rfl<|nT<|sR<|oM rfl<|oP (zad rfl)<|oP (zaa rfl ⟨_,_,_,Tryz.runUnderlying181,rfl,rfl,Tryz.sizeOf179,rfl⟩)<|oV (zac rfl foc0 rfl Tryz.isAgg179)<|oV (V_len rfl foc1 (Reads.sl _ _ _) Tryz.runUnderlying179)<|oA rfl<|nT<|zaf<|zan (res1 Tryz.results79 rfl)<|CSpec.close () ?_ ?_ r_
 · rfl
 · trivial
end Go.Proofs
set_option linter.unusedSimpArgs false
set_option linter.unusedVariables false
set_option maxRecDepth 20000
set_option maxHeartbeats 4000000
namespace Go.Proofs
open Go.VG
section
variable {n:Env} {W:World} {s:Slots} {H:List HP} {K:Slots→List HP→Prop} {d:Nat} {dst:Option Nat} {ty:TypeId} {pos:String} {after:Array Edge} {gd:Option (Nat × Bool)} {C:HP→List HP}
theorem row_at {v:Value} {xs:List UInt8} {R:List HP} (hd:Del H (sl tyU8 v xs) R) (hx:xs≠[]):∀ h,stars H h → ∃ g c,v = .slice (some ⟨g,0,none⟩) xs.length c∧xs.length≤c := by
  intro h hh
  obtain ⟨h1,h2,_,_,hA,_⟩ := zbd hd.out h hh
  rcases hA.2 with ⟨_,h4⟩ | ⟨g,cap,cur,h3,h5,_⟩
  · exact absurd (List.eq_nil_of_length_eq_zero (by simpa using h4)) hx
  · exact ⟨g,cap,h3,h5⟩
theorem zts {x:Operand} {g m c:Nat} {t:TypeId} (hx:ev s x=some (.slice (some ⟨g,0,none⟩) m c)) (hc:c≠0):PJ Tryz.prog n ⟨dst,.call { callee := .builtin .unsafeSliceData,args := #[x],argTypes := #[t] },ty,pos,after,gd⟩ s (ptr g 0) := by
  intro q w hf
  have h:∀ ty,(Builtin.unsafeSliceData_ #[t] ty #[.slice (some ⟨g,0,none⟩) m c]).run Tryz.prog w = .ok (ptr g 0) w := fun ty=>by
    show Sem.run Tryz.prog (if c≠0 then _ else _) w=_
    rw [if_pos hc]; rfl
  simp [execOp,resolve,invoke,builtin,hf.eval hx,h]
theorem zxi {w:World} {F:List HP} {b k n:Nat} {c:Array Value} {T:TypeId} {fr:Nat × Nat} (h:St W w (pt b (.cells c T fr)::F)):St W (w.freeze ⟨b,k,none⟩ n) F := by
  have hb := h.blk
  unfold World.freeze
  split
  · exact h.tail
  · have he:({ w with heap := w.heap.modify b fun | .cells c elem (lo,hi) => .cells c elem (if lo == hi then (k,k + n) else (min lo k,max hi (k + n))) | o=>o } : World) = { w with heap := w.heap.setIfInBounds b (.cells c T (if fr.1 == fr.2 then (k,k + n) else (min fr.1 k,max fr.2 (k + n)))) } := by
      congr 1
      apply Array.ext_getElem?
      intro j
      rw [Array.getElem?_modify,Array.getElem?_setIfInBounds]
      by_cases h':b=j
      · subst h'
        obtain ⟨hlt,_⟩ := Array.getElem?_eq_some_iff.1 hb
        rw [if_pos rfl,if_pos rfl,if_pos hlt,hb]; rfl
      · simp [h']
    have h9:St W ({ w with heap := w.heap.setIfInBounds b (.cells c T (if fr.1 == fr.2 then (k,k + n) else (min fr.1 k,max fr.2 (k + n)))) } : World) F := h.setObj.tail
    rw [← he] at h9
    exact h9
theorem zql {x y:Operand} {g m c:Nat} {t' E:TypeId} {xs:List UInt8} {F:List HP} (hx:ev s x=some (ptr g 0)) (hy:ev s y=some (.int .i64 (xs.length:Int))) (h0:xs≠[]) (h63:xs.length≤100000) (hdel:Del H (sl tyU8 (.slice (some ⟨g,0,none⟩) m c) xs) F) (hd:Nat.blt d n.n=true)
    (hk:K ((d,.string ⟨xs.toArray⟩)::s) F):OJ Tryz.prog n W ⟨some d,.call { callee := .builtin .unsafeString,args := #[x,y],argTypes := #[232,t'] },E,pos,after,gd⟩ s H K :=
  zge (fun q w hf hs=>by
    have hs1 := hs.perm hdel.out
    have hown := zjm hs1
    rcases zeo hs1 with ⟨e,_,_⟩ | ⟨b,cap,cur,e,hc,hm,hs',ht,h2⟩
    · cases e
    · injection e with e1 e2 e3
      injection e1 with e1; injection e1 with e1 _ _
      subst e1; subst e3
      have hsz:cur.size=c := by rw [hs']; exact Nat.mul_one _
      have hsh:w.shape? g=some (5,cur.size) := by
        unfold World.shape?
        rw [show w.heap[g]? = _ from h2.blk]
      have hcell:∀ j x,xs[j]? = some x→w.cell? ((⟨g,0,none⟩:Addr).add j)=some (.int .u8 x.toNat) := by
        intro j x hj
        refine hown.cells (g:=g) rfl j _ ?_
        rw [ztc,List.getElem?_map,hj]; rfl
      have hr := Lib.run_unsafeString_row (P:=Tryz.prog) w 232 t' E 5 Tryz.underlying232 (by kernel_rfl) g cur.size hsh xs h0 (by omega) (by omega) hcell
      refine ⟨.string ⟨xs.toArray⟩,w.freeze ⟨g,0,none⟩ xs.length,F,?_,zxi h2,hk⟩
      have hr2:(Builtin.unsafeString_ #[232,t'] E #[ptr g 0,.int .i64 (xs.length:Int)]).run Tryz.prog w = .ok (.string ⟨xs.toArray⟩) (w.freeze ⟨g,0,none⟩ xs.length) := hr
      simp [execOp,resolve,invoke,builtin,hf.eval hx,hf.eval hy,hr2]) hd
end
end Go.Proofs
set_option linter.unusedSimpArgs false
set_option maxRecDepth 20000
namespace Go.Proofs
open Go.VG Ts
theorem c_BStr {W:World} {b:Nat} {u:Bool} {bv:Sl3} {xs:List UInt8} (h0:xs≠[]) (h63:xs.length≤100000) :
    CSpec Tryz.prog W 80 [ptr b 0] [blk b 183 [adr u b,bv.v],sl tyU8 bv.v xs] (fun _:Unit => .string ⟨xs.toArray⟩) (fun _=>True) (fun _ F=>F) := by
 refine CSpec.of_body Tryz.func80 rfl Tryz.ntmps80 rfl fun F => ?_
 show CJ _ _ _ _ _ _ (_::_::F)
 refine zdy (row_at del1 h0) fun hp9 => ?_
 obtain ⟨g9,c9,he9,hc9⟩ := hp9
 have hpos:0 < xs.length := List.length_pos_iff.2 h0
 rw [he9]
 refine sR<|oA rfl<|nT<|zab<|za3 1024 kR_ rfl<|aN 0 1 rfl rfl (zae rfl)<|aN 1 3 rfl rfl (zad rfl)<|aN 2 7 rfl rfl (zaa rfl ⟨_,_,_,Tryz.runUnderlying181,rfl,rfl,Tryz.sizeOf179,rfl⟩)<|aW 3 15 rfl rfl r_ (zac rfl foc0 rfl Tryz.isAgg179)<|aN 5 47 rfl rfl (zae rfl)<|aN 6 111 rfl rfl (zad rfl)<|aN 7 239 rfl rfl (zaa rfl ⟨_,_,_,Tryz.runUnderlying181,rfl,rfl,Tryz.sizeOf179,rfl⟩)<|aW 8 495 rfl rfl r_ (zac rfl foc0 rfl Tryz.isAgg179)<|aW 9 1007 rfl rfl r_ (V_len rfl foc1 (Reads.sl _ _ _) Tryz.runUnderlying179)<|aN 4 1023 rfl rfl (zts rfl (by omega))<|AJ_op 10 2047 rfl kR_ rfl (zal rfl)<|zql rfl rfl h0 h63 del1 rfl<|⟨fun h=>absurd h (by decide),?_⟩
 refine aN 11 4095 rfl rfl (za9 rfl)<|aD<|zaf<|zan (res1 Tryz.results80 rfl)<|CSpec.close () ?_ ?_ (e_ r_)
 · rfl
 · trivial
end Go.Proofs
set_option linter.unusedSimpArgs false
set_option linter.unusedVariables false
set_option maxRecDepth 20000
set_option maxHeartbeats 4000000
namespace Go.Proofs
open Go.VG
def zk8 (x_0:UInt64) (y:UInt64):Option (UInt64 × UInt64) :=
  lt ((((zbw x_0 32) * (y &&& (4294967295:UInt64))) + (zbw (((x_0 &&& (4294967295:UInt64)) * (y &&& (4294967295:UInt64)))) 32))) fun w1 =>
  lt (((w1 &&& (4294967295:UInt64)) + ((x_0 &&& (4294967295:UInt64)) * (zbw y 32)))) fun w2 =>
  some ((((((zbw x_0 32) * (zbw y 32)) + (zbw w1 32)) + (zbw w2 32)),(x_0 * y)))
theorem zte {W:World} {x_0:UInt64} {y:UInt64} {r:UInt64 × UInt64} (h:zk8 x_0 y=some r) :
    CSpec Tryz.prog W 206 [.int .u64 (x_0.toNat:Int),.int .u64 (y.toNat:Int)] [] (fun x:Unit => .tuple #[.int .u64 (r.1.toNat:Int),.int .u64 (r.2.toNat:Int)]) (fun _=>True) (fun x F=>F) := by
 refine CSpec.of_body Tryz.func206 rfl Tryz.ntmps206 rfl fun F => ?_
 show CJ _ _ _ _ _ _ (F)
 unfold zk8 at h
 refine sR<|oA rfl<|oA rfl<|nT<|sR<|oM rfl<|oP (zgu (a:=x_0) (b:=(4294967295:UInt64)) rfl rfl)<|oA rfl<|nT<|sR<|oM rfl<|oP (zec (a:=x_0) (m:=32) rfl rfl rfl)<|oA rfl<|nT<|sR<|oM rfl<|oP (zgu (a:=y) (b:=(4294967295:UInt64)) rfl rfl)<|oA rfl<|nT<|sR<|oM rfl<|oP (zec (a:=y) (m:=32) rfl rfl rfl)<|oA rfl<|nT<|sR<|oM rfl<|oM rfl<|oP (zh3 (a:=(x_0 &&& (4294967295:UInt64))) (b:=(y &&& (4294967295:UInt64))) rfl rfl)<|oA rfl<|nT<|sR<|oM rfl<|oM rfl<|oP (zh3 (a:=(zbw x_0 32)) (b:=(y &&& (4294967295:UInt64))) rfl rfl)<|oM rfl<|oP (zec (a:=((x_0 &&& (4294967295:UInt64)) * (y &&& (4294967295:UInt64)))) (m:=32) rfl rfl rfl)<|oP (zh2 (a:=((zbw x_0 32) * (y &&& (4294967295:UInt64)))) (b:=(zbw (((x_0 &&& (4294967295:UInt64)) * (y &&& (4294967295:UInt64)))) 32)) rfl rfl) ?_
 obtain ⟨w1,hw1,h⟩ := lt_e h
 rw [← hw1]
 refine oA rfl<|nT<|sR<|oM rfl<|oP (zgu (a:=w1) (b:=(4294967295:UInt64)) rfl rfl)<|oA rfl<|nT<|sR<|oM rfl<|oP (zec (a:=w1) (m:=32) rfl rfl rfl)<|oA rfl<|nT<|sR<|oM rfl<|oM rfl<|oM rfl<|oP (zh3 (a:=(x_0 &&& (4294967295:UInt64))) (b:=(zbw y 32)) rfl rfl)<|oP (zh2 (a:=(w1 &&& (4294967295:UInt64))) (b:=((x_0 &&& (4294967295:UInt64)) * (zbw y 32))) rfl rfl) ?_
 obtain ⟨w2,hw2,h⟩ := lt_e h
 rw [← hw2]
 refine oA rfl<|nT<|sR<|oM rfl<|oM rfl<|oP (zh3 (a:=(zbw x_0 32)) (b:=(zbw y 32)) rfl rfl)<|oM rfl<|oP (zh2 (a:=((zbw x_0 32) * (zbw y 32))) (b:=(zbw w1 32)) rfl rfl)<|oM rfl<|oP (zec (a:=w2) (m:=32) rfl rfl rfl)<|oP (zh2 (a:=(((zbw x_0 32) * (zbw y 32)) + (zbw w1 32))) (b:=(zbw w2 32)) rfl rfl)<|oA rfl<|nT<|sR<|oM rfl<|oM rfl<|oP (zh3 (a:=x_0) (b:=y) rfl rfl)<|oA rfl<|nT<|zaf ?_
 cases h
 exact fE (res2 Tryz.results206 rfl rfl) () r_
def ztf (x_0:UInt64) (y:UInt64):Option (UInt64 × UInt64) :=
  Option.bind (zk8 x_0 y) fun r1 =>
  some (r1.1,r1.2)
theorem zpe {W:World} {x_0:UInt64} {y:UInt64} {r:UInt64 × UInt64} (h:ztf x_0 y=some r) :
    CSpec Tryz.prog W 181 [.int .u64 (x_0.toNat:Int),.int .u64 (y.toNat:Int)] [] (fun x:Unit => .tuple #[.int .u64 (r.1.toNat:Int),.int .u64 (r.2.toNat:Int)]) (fun _=>True) (fun x F=>F) := by
 refine CSpec.of_body Tryz.func181 rfl Tryz.ntmps181 rfl fun F => ?_
 show CJ _ _ _ _ _ _ (F)
 unfold ztf at h
 refine sR<|oA rfl<|oA rfl<|nT<|zab<|zap rfl rfl<|kT<|sR<|oM rfl<|oM rfl ?_
 obtain ⟨r1,hr2,h⟩ := zb9 h
 refine oO<|zai (zte hr2) rfl Tryz.call206 Dels.nil rfl fun _ _=>oM rfl<|oP (zaj rfl rfl)<|oP (zaj rfl rfl)<|oA rfl<|oA rfl<|nT<|sR<|oM rfl<|oM rfl<|oA rfl<|oA rfl<|nT<|zaf ?_
 cases h
 exact fE (res2 Tryz.results181 rfl rfl) () r_
def zid (s_0:ByteArray) (prefix_1:ByteArray):Option (Bool) :=
  Option.bind (zdo s_0 prefix_1) fun r1 =>
  some r1
theorem zhg {W:World} {s_0:ByteArray} {prefix_1:ByteArray} {r:Bool} (h:zid s_0 prefix_1=some r) :
    CSpec Tryz.prog W 182 [.string s_0,.string prefix_1] [] (fun x:Unit => .bool r) (fun _=>True) (fun x F=>F) := by
 refine CSpec.of_body Tryz.func182 rfl Tryz.ntmps182 rfl fun F => ?_
 show CJ _ _ _ _ _ _ (F)
 unfold zid at h
 refine sR<|oA rfl<|nT<|sR<|oM rfl<|oM rfl ?_
 obtain ⟨r1,hr2,h⟩ := zb9 h
 refine oO<|zai (zf9 hr2) rfl Tryz.call207 Dels.nil rfl fun _ _=>oA rfl<|nT<|zaf ?_
 cases h
 exact fE (res1 Tryz.results182 rfl) () r_
def zd8 (i:Int):Option (ByteArray) :=
  if (i < (10:Int)) then
    grd (inI64 ((i + (1:Int)))) <|
    grd (decide (0≤i∧0≤(i + (1:Int))∧(i).toNat≤((i + (1:Int))).toNat∧((i + (1:Int))).toNat≤(ByteArray.mk #[48,49,50,51,52,53,54,55,56,57,97,98,99,100,101,102,103,104,105,106,107,108,109,110,111,112,113,114,115,116,117,118,119,120,121,122]).size)) <|
    lt ((zd2 (ByteArray.mk #[48,49,50,51,52,53,54,55,56,57,97,98,99,100,101,102,103,104,105,106,107,108,109,110,111,112,113,114,115,116,117,118,119,120,121,122]) ((i).toNat) (((i + (1:Int))).toNat))) fun w1 =>
    some w1
  else
    grd (inI64 ((i * (2:Int)))) <|
    grd (inI64 ((i * (2:Int)))) <|
    grd (inI64 (((i * (2:Int)) + (2:Int)))) <|
    grd (decide (0≤(i * (2:Int))∧0≤((i * (2:Int)) + (2:Int))∧((i * (2:Int))).toNat≤(((i * (2:Int)) + (2:Int))).toNat∧(((i * (2:Int)) + (2:Int))).toNat≤(ByteArray.mk #[48,48,48,49,48,50,48,51,48,52,48,53,48,54,48,55,48,56,48,57,49,48,49,49,49,50,49,51,49,52,49,53,49,54,49,55,49,56,49,57,50,48,50,49,50,50,50,51,50,52,50,53,50,54,50,55,50,56,50,57,51,48,51,49,51,50,51,51,51,52,51,53,51,54,51,55,51,56,51,57,52,48,52,49,52,50,52,51,52,52,52,53,52,54,52,55,52,56,52,57,53,48,53,49,53,50,53,51,53,52,53,53,53,54,53,55,53,56,53,57,54,48,54,49,54,50,54,51,54,52,54,53,54,54,54,55,54,56,54,57,55,48,55,49,55,50,55,51,55,52,55,53,55,54,55,55,55,56,55,57,56,48,56,49,56,50,56,51,56,52,56,53,56,54,56,55,56,56,56,57,57,48,57,49,57,50,57,51,57,52,57,53,57,54,57,55,57,56,57,57]).size)) <|
    lt ((zd2 (ByteArray.mk #[48,48,48,49,48,50,48,51,48,52,48,53,48,54,48,55,48,56,48,57,49,48,49,49,49,50,49,51,49,52,49,53,49,54,49,55,49,56,49,57,50,48,50,49,50,50,50,51,50,52,50,53,50,54,50,55,50,56,50,57,51,48,51,49,51,50,51,51,51,52,51,53,51,54,51,55,51,56,51,57,52,48,52,49,52,50,52,51,52,52,52,53,52,54,52,55,52,56,52,57,53,48,53,49,53,50,53,51,53,52,53,53,53,54,53,55,53,56,53,57,54,48,54,49,54,50,54,51,54,52,54,53,54,54,54,55,54,56,54,57,55,48,55,49,55,50,55,51,55,52,55,53,55,54,55,55,55,56,55,57,56,48,56,49,56,50,56,51,56,52,56,53,56,54,56,55,56,56,56,57,57,48,57,49,57,50,57,51,57,52,57,53,57,54,57,55,57,56,57,57]) (((i * (2:Int))).toNat) ((((i * (2:Int)) + (2:Int))).toNat))) fun w2 =>
    some w2
theorem zpf {W:World} {i:Int} {r:ByteArray} (h:zd8 i=some r) :
    CSpec Tryz.prog W 208 [.int .i64 i] [] (fun x:Unit => .string r) (fun _=>True) (fun x F=>F) := by
 refine CSpec.of_body Tryz.func208 rfl Tryz.ntmps208 rfl fun F => ?_
 show CJ _ _ _ _ _ _ (F)
 unfold zd8 at h
 refine sR<|oA rfl<|nT<|zab<|sR<|oM rfl<|oP (P_lss (a:=i) (b:=(10:Int)) rfl rfl)<|nT<|zbt rfl zaq (fun hg1 => ?_) (fun hg1 => ?_)
 ·
  replace h := ite_t hg1 h
  refine sR<|oM rfl<|oM rfl ?_
  obtain ⟨hg2,h⟩ := zcm h
  refine oP (P_add (a:=i) (b:=(1:Int)) rfl rfl hg2) ?_
  obtain ⟨hg3,h⟩ := zck h
  refine oP (zeg (b:=(ByteArray.mk #[48,49,50,51,52,53,54,55,56,57,97,98,99,100,101,102,103,104,105,106,107,108,109,110,111,112,113,114,115,116,117,118,119,120,121,122])) (l:=(i).toNat) (h:=((i + (1:Int))).toNat) rfl ⟨_,by rw [Int.toNat_of_nonneg (by omega)]; exact rfl⟩ ⟨_,by rw [Int.toNat_of_nonneg (by omega)]; exact rfl⟩ (by omega) (by omega) Tryz.runUnderlying9) ?_
  obtain ⟨w1,hw1,h⟩ := lt_e h
  rw [← hw1]
  refine oA rfl<|nT<|zaf<|zak ?_
  cases h
  exact fE (res1 Tryz.results208 rfl) () r_
 ·
  replace h := ite_f hg1 h
  refine kT<|sR<|oM rfl ?_
  obtain ⟨hg4,h⟩ := zcm h
  refine oP (P_mul (a:=i) (b:=(2:Int)) rfl rfl hg4)<|oM rfl ?_
  obtain ⟨hg5,h⟩ := zcm h
  refine oP (P_mul (a:=i) (b:=(2:Int)) rfl rfl hg5) ?_
  obtain ⟨hg6,h⟩ := zcm h
  refine oP (P_add (a:=(i * (2:Int))) (b:=(2:Int)) rfl rfl hg6) ?_
  obtain ⟨hg7,h⟩ := zck h
  refine oP (zeg (b:=(ByteArray.mk #[48,48,48,49,48,50,48,51,48,52,48,53,48,54,48,55,48,56,48,57,49,48,49,49,49,50,49,51,49,52,49,53,49,54,49,55,49,56,49,57,50,48,50,49,50,50,50,51,50,52,50,53,50,54,50,55,50,56,50,57,51,48,51,49,51,50,51,51,51,52,51,53,51,54,51,55,51,56,51,57,52,48,52,49,52,50,52,51,52,52,52,53,52,54,52,55,52,56,52,57,53,48,53,49,53,50,53,51,53,52,53,53,53,54,53,55,53,56,53,57,54,48,54,49,54,50,54,51,54,52,54,53,54,54,54,55,54,56,54,57,55,48,55,49,55,50,55,51,55,52,55,53,55,54,55,55,55,56,55,57,56,48,56,49,56,50,56,51,56,52,56,53,56,54,56,55,56,56,56,57,57,48,57,49,57,50,57,51,57,52,57,53,57,54,57,55,57,56,57,57])) (l:=((i * (2:Int))).toNat) (h:=(((i * (2:Int)) + (2:Int))).toNat) rfl ⟨_,by rw [Int.toNat_of_nonneg (by omega)]; exact rfl⟩ ⟨_,by rw [Int.toNat_of_nonneg (by omega)]; exact rfl⟩ (by omega) (by omega) Tryz.runUnderlying9) ?_
  obtain ⟨w2,hw2,h⟩ := lt_e h
  rw [← hw2]
  refine oA rfl<|nT<|zaf ?_
  cases h
  exact fE (res1 Tryz.results208 rfl) () r_
end Go.Proofs
set_option linter.unusedSimpArgs false
set_option maxRecDepth 20000
namespace Go.Proofs
open Go.VG Ts
def repS:Nat→ByteArray | 0=>(ByteArray.mk #[]) | 1=>(ByteArray.mk #[32,32]) | 2=>(ByteArray.mk #[32,32,32,32]) | _=>(ByteArray.mk #[32,32,32,32,32,32])
theorem c_FmtI {W:World} {n:Int} {r:ByteArray} (h0:0≤n∧n < 100) (hr:zd8 n=some r) :
    CSpec Tryz.prog W 183 [.int .i64 n,.int .i64 10] [] (fun _:Unit => .string r) (fun _=>True) (fun _ F=>F) := by
 refine CSpec.of_body Tryz.func183 rfl Tryz.ntmps183 rfl fun F => ?_
 show CJ _ _ _ _ _ _ (F)
 refine sR<|oA rfl<|nT<|zab<|sR<|oM rfl<|oP (P_eql rfl rfl)<|nT<|za7 rfl (by first | exact decide_eq_true (by rfl) | (rfl))<|zab<|sR<|oM rfl<|oP (PJ_eq (v := .bool true) (P_leq rfl rfl) (congrArg Value.bool (decide_eq_true (by omega)).symm))<|oM rfl<|p_ rfl rfl rfl rfl (zae rfl)<|p_ rfl rfl rfl rfl (PJ_eq (v := .bool true) (P_lss rfl rfl) (congrArg Value.bool (decide_eq_true (by omega)).symm))<|oP (zbe rfl rfl rfl)<|nT<|za7 rfl rfl<|sR<|oM rfl<|oO<|zai ((zpf hr)) rfl Tryz.call208 Dels.nil rfl fun _ hc1=>oA rfl<|nT<|zaf<|zak<|zak<|zan (res1 Tryz.results183 rfl)<|CSpec.close () ?_ ?_ r_
 · first | rfl | (exfalso; omega)
 · trivial
theorem c_ItoI {W:World} {n:Int} {r:ByteArray} (h0:0≤n∧n < 100) (hr:zd8 n=some r) :
    CSpec Tryz.prog W 154 [.int .i64 n] [] (fun _:Unit => .string r) (fun _=>True) (fun _ F=>F) := by
 refine CSpec.of_body Tryz.func154 rfl Tryz.ntmps154 rfl fun F => ?_
 show CJ _ _ _ _ _ _ (F)
 refine sR<|oA rfl<|nT<|sR<|oM rfl<|oO<|zai ((c_FmtI h0 hr)) rfl Tryz.call183 Dels.nil rfl fun _ hc1=>oA rfl<|nT<|zaf<|zan (res1 Tryz.results154 rfl)<|CSpec.close () ?_ ?_ r_
 · rfl
 · trivial
theorem c_Itoa {W:World} {n:Int} {r:ByteArray} (h0:0≤n∧n < 100) (hr:zd8 n=some r) :
    CSpec Tryz.prog W 115 [.int .i64 n] [] (fun _:Unit => .string r) (fun _=>True) (fun _ F=>F) := by
 refine CSpec.of_body Tryz.func115 rfl Tryz.ntmps115 rfl fun F => ?_
 show CJ _ _ _ _ _ _ (F)
 refine sR<|oA rfl<|nT<|sR<|oM rfl<|oO<|zai ((c_ItoI h0 hr)) rfl Tryz.call154 Dels.nil rfl fun _ hc1=>oA rfl<|nT<|zaf<|zan (res1 Tryz.results115 rfl)<|CSpec.close () ?_ ?_ r_
 · rfl
 · trivial
theorem c_Rep0 {W:World}  :
    CSpec Tryz.prog W 152 [.string (ByteArray.mk #[32,32]),.int .i64 ((0:Nat):Int)] [] (fun _:Unit => .string (repS 0)) (fun _=>True) (fun _ F=>F) := by
 refine CSpec.of_body Tryz.func152 rfl Tryz.ntmps152 rfl fun F => ?_
 show CJ _ _ _ _ _ _ (F)
 refine sR<|oA rfl<|nT<|zab<|sR<|oM rfl<|nT<|zao<|sR<|oP (P_eql rfl rfl)<|oA rfl<|nT<|za7 rfl dT_<|sR<|oA rfl<|nT<|zaf<|zax<|zak<|zan (res1 Tryz.results152 rfl)<|CSpec.close () ?_ ?_ r_
 · first | rfl | kernel_rfl
 · trivial
theorem c_Rep1 {W:World}  :
    CSpec Tryz.prog W 152 [.string (ByteArray.mk #[32,32]),.int .i64 ((1:Nat):Int)] [] (fun _:Unit => .string (repS 1)) (fun _=>True) (fun _ F=>F) := by
 refine CSpec.of_body Tryz.func152 rfl Tryz.ntmps152 rfl fun F => ?_
 show CJ _ _ _ _ _ _ (F)
 refine sR<|oA rfl<|nT<|zab<|sR<|oM rfl<|nT<|zao<|sR<|oP (P_eql rfl rfl)<|oA rfl<|nT<|zap rfl dF_<|sR<|oP (P_eql rfl rfl)<|oA rfl<|nT<|za7 rfl dT_<|sR<|oM rfl<|oA rfl<|nT<|zaf<|zax<|zak<|zan (res1 Tryz.results152 rfl)<|CSpec.close () ?_ ?_ r_
 · first | rfl | kernel_rfl
 · trivial
theorem c_Rep2 {W:World}  :
    CSpec Tryz.prog W 152 [.string (ByteArray.mk #[32,32]),.int .i64 ((2:Nat):Int)] [] (fun _:Unit => .string (repS 2)) (fun _=>True) (fun _ F=>F) := by
 refine CSpec.of_body Tryz.func152 rfl Tryz.ntmps152 rfl fun F => ?_
 show CJ _ _ _ _ _ _ (F)
 refine sR<|oA rfl<|nT<|zab<|sR<|oM rfl<|nT<|zao<|sR<|oP (P_eql rfl rfl)<|oA rfl<|nT<|zap rfl dF_<|sR<|oP (P_eql rfl rfl)<|oA rfl<|nT<|zap rfl dF_<|zbh<|zah<|zar<|zab<|sR<|oM rfl<|oP (P_lss rfl rfl)<|nT<|zap rfl dF_<|kT<|sR<|oM rfl<|oP (zcn rfl Tryz.runUnderlying9)<|oP (ze5 rfl Tryz.runUnderlying3 Tryz.runUnderlying188)<|oM rfl<|oP (ze5 rfl Tryz.runUnderlying3 Tryz.runUnderlying188)<|oO<|zai ((zpe (x_0:=zdn 2) (y:=zdn 2) (r:=(0,4)) kR_)) rfl Tryz.call181 Dels.nil rfl fun _ hc1=>oM rfl<|oP (zaj rfl rfl)<|oP (zaj rfl rfl)<|oA rfl<|oA rfl<|nT<|zab<|sR<|oM rfl<|oP (PJ_eq (v := .bool false) (P_gtr rfl rfl) (congrArg Value.bool (decide_eq_false (by decide)).symm))<|oM rfl<|p_ rfl rfl rfl rfl (zae rfl)<|p_ rfl rfl rfl rfl (PJ_eq (v := .bool false) (P_gtr rfl rfl) (congrArg Value.bool (decide_eq_false (by decide)).symm))<|oP (za2 rfl rfl rfl)<|nT<|zap rfl rfl<|kT<|sR<|oM rfl<|oP (zif rfl Tryz.runUnderlying188 Tryz.runUnderlying3 (by first | rfl | exact zcx (by omega) (by omega)))<|oA rfl<|nT<|zab<|sR<|oM rfl<|oP (zcn rfl Tryz.runUnderlying9)<|oP (P_eql rfl rfl)<|nT<|zap rfl dF_<|kT<|zab<|sR<|oM rfl<|oP (zcz (b:=(ByteArray.mk #[32,32])) (i:=0) rfl rfl rfl (by decide) Tryz.runUnderlying9)<|nT ?_
 refine zao<|zab<|sR<|oP (P_eql rfl rfl)<|oA rfl<|nT<|za7 rfl dT_<|kT<|za7 rfl dT_<|zao<|sR<|oM rfl<|oP (PJ_eq (v := .bool true) (P_leq rfl rfl) (congrArg Value.bool (decide_eq_true (by decide)).symm))<|oM rfl<|p_ rfl rfl rfl rfl (zae rfl)<|RJ_gy (zaz rfl rfl rfl rfl)<|zai ((zhg (r:=true) kR_)) rfl Tryz.call182 Dels.nil rfl fun _ hc2=>oP (zbe rfl rfl rfl)<|oA rfl<|nT<|za7 rfl rfl<|sR<|oM rfl<|oP (PJ_eq (v := .string (repS 2)) (zeg (l:=0) (h:=4) rfl rfl ⟨_,rfl⟩ (by decide) (Nat.le_of_ble_eq_true kR_) Tryz.runUnderlying9) kR_)<|oA rfl<|nT<|zaf<|zax<|zax<|zak<|zan (res1 Tryz.results152 rfl)<|CSpec.close () ?_ ?_ r_
 · first | rfl | kernel_rfl
 · trivial
theorem c_Rep3 {W:World}  :
    CSpec Tryz.prog W 152 [.string (ByteArray.mk #[32,32]),.int .i64 ((3:Nat):Int)] [] (fun _:Unit => .string (repS 3)) (fun _=>True) (fun _ F=>F) := by
 refine CSpec.of_body Tryz.func152 rfl Tryz.ntmps152 rfl fun F => ?_
 show CJ _ _ _ _ _ _ (F)
 refine sR<|oA rfl<|nT<|zab<|sR<|oM rfl<|nT<|zao<|sR<|oP (P_eql rfl rfl)<|oA rfl<|nT<|zap rfl dF_<|sR<|oP (P_eql rfl rfl)<|oA rfl<|nT<|zap rfl dF_<|zbh<|zah<|zar<|zab<|sR<|oM rfl<|oP (P_lss rfl rfl)<|nT<|zap rfl dF_<|kT<|sR<|oM rfl<|oP (zcn rfl Tryz.runUnderlying9)<|oP (ze5 rfl Tryz.runUnderlying3 Tryz.runUnderlying188)<|oM rfl<|oP (ze5 rfl Tryz.runUnderlying3 Tryz.runUnderlying188)<|oO<|zai ((zpe (x_0:=zdn 2) (y:=zdn 3) (r:=(0,6)) kR_)) rfl Tryz.call181 Dels.nil rfl fun _ hc1=>oM rfl<|oP (zaj rfl rfl)<|oP (zaj rfl rfl)<|oA rfl<|oA rfl<|nT<|zab<|sR<|oM rfl<|oP (PJ_eq (v := .bool false) (P_gtr rfl rfl) (congrArg Value.bool (decide_eq_false (by decide)).symm))<|oM rfl<|p_ rfl rfl rfl rfl (zae rfl)<|p_ rfl rfl rfl rfl (PJ_eq (v := .bool false) (P_gtr rfl rfl) (congrArg Value.bool (decide_eq_false (by decide)).symm))<|oP (za2 rfl rfl rfl)<|nT<|zap rfl rfl<|kT<|sR<|oM rfl<|oP (zif rfl Tryz.runUnderlying188 Tryz.runUnderlying3 (by first | rfl | exact zcx (by omega) (by omega)))<|oA rfl<|nT<|zab<|sR<|oM rfl<|oP (zcn rfl Tryz.runUnderlying9)<|oP (P_eql rfl rfl)<|nT<|zap rfl dF_<|kT<|zab<|sR<|oM rfl<|oP (zcz (b:=(ByteArray.mk #[32,32])) (i:=0) rfl rfl rfl (by decide) Tryz.runUnderlying9)<|nT ?_
 refine zao<|zab<|sR<|oP (P_eql rfl rfl)<|oA rfl<|nT<|za7 rfl dT_<|kT<|za7 rfl dT_<|zao<|sR<|oM rfl<|oP (PJ_eq (v := .bool true) (P_leq rfl rfl) (congrArg Value.bool (decide_eq_true (by decide)).symm))<|oM rfl<|p_ rfl rfl rfl rfl (zae rfl)<|RJ_gy (zaz rfl rfl rfl rfl)<|zai ((zhg (r:=true) kR_)) rfl Tryz.call182 Dels.nil rfl fun _ hc2=>oP (zbe rfl rfl rfl)<|oA rfl<|nT<|za7 rfl rfl<|sR<|oM rfl<|oP (PJ_eq (v := .string (repS 3)) (zeg (l:=0) (h:=6) rfl rfl ⟨_,rfl⟩ (by decide) (Nat.le_of_ble_eq_true kR_) Tryz.runUnderlying9) kR_)<|oA rfl<|nT<|zaf<|zax<|zax<|zak<|zan (res1 Tryz.results152 rfl)<|CSpec.close () ?_ ?_ r_
 · first | rfl | kernel_rfl
 · trivial
theorem c_Rep {W:World} {n:Nat} (hn:n≤3):CSpec Tryz.prog W 152 [.string (ByteArray.mk #[32,32]),.int .i64 (n:Int)] [] (fun _:Unit => .string (repS n)) (fun _=>True) (fun _ F=>F) := by
  match n,hn with
  | 0,_=>exact c_Rep0
  | 1,_=>exact c_Rep1
  | 2,_=>exact c_Rep2
  | 3,_=>exact c_Rep3
end Go.Proofs
set_option linter.unusedSimpArgs false
set_option maxRecDepth 20000
namespace Go.Proofs
open Go.VG Ts
theorem zus:∀ n,n≤3→(repS n).size≤6
  | 0,_=>by decide
  | 1,_=>by decide
  | 2,_=>by decide
  | 3,_=>by decide
theorem zxj (xs:List UInt8) (s:ByteArray):(xs ++ s.data.toList).length=xs.length + s.size := by simp
theorem zpg {W:World} {b n:Nat} {u:Bool} {bv:Sl3} {xs:List UInt8} {X:HP} {wv:Value} {ws:List ByteArray} (hn:n≤3) (hX:Reads X tyS wv ws) (hw:ws.length≤4) (hws:∀ i,i < ws.length→(ws.getD i tyS.dflt).size≤60) (hxs:xs.length≤90000) :
    CSpec Tryz.prog W 114 [ptr b 0,.int .i64 (n:Int),wv] [blk b 183 [adr u b,bv.v],sl tyU8 bv.v xs,X] (fun _:Sl3 × List UInt8 => .tuple #[]) (fun x=>xs.length < x.2.length∧x.2.length≤xs.length + 250) (fun x F=>blk b 183 [adr true b,x.1.v]::sl tyU8 x.1.v x.2::X::F) := by
 refine CSpec.of_body Tryz.func114 rfl Tryz.ntmps114 rfl fun F => ?_
 show CJ _ _ _ _ _ _ (_::_::_::F)
 refine zab<|za3 48 kR_ rfl<|aN 0 1 rfl rfl (zae rfl)<|aN 1 3 rfl rfl (zad rfl)<|aN 2 7 rfl rfl (zaa rfl ⟨_,_,_,Tryz.runUnderlying183,rfl,rfl,Tryz.sizeOf181,rfl⟩)<|aN 3 15 rfl rfl (zae rfl)<|AJ_op 4 31 rfl kR_ rfl (zal rfl)<|zai ((c_Rep hn)) rfl Tryz.call152 Dels.nil rfl fun _ hc1=>⟨fun h=>absurd h (by decide),?_⟩
 refine AJ_op 5 63 rfl kR_ rfl (zal rfl)<|zai ((c_WrS (u:=u) (bv:=bv) (by have := zus n hn; omega))) rfl Tryz.call151 (Dels.cons del0 (dC_ del0)) rfl fun w1 hc3=>⟨fun h=>absurd h (by decide),?_⟩
 refine aD<|zab<|sR<|oM rfl<|oV (V_len rfl foc2 hX Tryz.runUnderlying58)<|oM rfl<|nT<|zao<|za8 (X:=Nat × Sl3 × List UInt8) [7,16,17,18,19,20,21,22,23,24,25] (fun ⟨i,zv,zs⟩  => ([(16,.int .i64 (i:Nat))]:Slots)) (fun ⟨i,zv,zs⟩ R=>blk b 183 [adr true b,zv.v]::sl tyU8 zv.v zs::R) (fun ⟨i,zv,zs⟩  => i≤ws.length∧(xs.length≤zs.length∧zs.length≤xs.length + 6 + 60 * i)) (fun ⟨i,zv,zs⟩  => ws.length - i) ⟨0,w1,(xs ++ (repS n).data.toList)⟩ ?_ ?_ r_ ?_
 · exact ⟨Nat.zero_le _,by rw [zxj]; have := zus n hn; omega⟩
 · exact ⟨rfl,True.intro⟩
 ·
  rintro ⟨i,zv,zs⟩ ⟨hi,hz⟩
  show CJ _ _ _ _ _ (([(16,.int .i64 (i:Nat))]:Slots) ++ forget _ _) (blk b 183 [adr true b,zv.v]::sl tyU8 zv.v zs::_)
  refine sR<|oP (P_lss rfl rfl)<|nT<|zab ?_
  first | (refine zav rfl (fun hg1 => ?_) (fun hg1 => ?_)) | (refine zaw rfl (fun hg1 => ?_) (fun hg1 => ?_)) | (refine za1 rfl (fun hg1 => ?_) (fun hg1 => ?_))
  ·
   refine kT<|zab<|zao<|sR ?_
   have hil:i < ws.length := by omega
   have hwi := hws i hil
   first | (refine RJ_op rfl (OJ_V (zam rfl rfl rfl (by omega) foc2 hX Tryz.runUnderlying58 Tryz.sizeOf9) rfl ?_)) | (refine RJ_op rfl (OJ_V (zam rfl rfl (Int.toNat_of_nonneg (by omega)).symm (by omega) foc2 hX Tryz.runUnderlying58 Tryz.sizeOf9) rfl ?_))
   refine oV (za6 rfl rfl (by omega) foc2 hX rfl rfl Tryz.isAgg9)<|oA rfl<|nT<|zag<|oM rfl<|oP (zad rfl)<|oP (zaa rfl ⟨_,_,_,Tryz.runUnderlying183,rfl,rfl,Tryz.sizeOf181,rfl⟩)<|oM rfl<|oO<|zai ((c_WrS (u:=true) (bv:=zv) (s:=ws.getD i tyS.dflt) (by omega))) rfl Tryz.call151 (Dels.cons del0 (dC_ del0)) rfl fun w2 hc5=>za0<|zah<|zar<|zag<|oP (P_add rfl rfl (by omega))<|oM rfl<|za0<|zba ⟨i + 1,w2,(zs ++ (ws.getD i tyS.dflt).data.toList)⟩ (by first | omega | (simp only []; omega)) ?_ kP_ ?_ r_
   · exact ⟨by omega,by rw [zxj]; omega⟩
   · exact ⟨rfl,True.intro⟩
  ·
   refine zbc<|zay<|zau<|zat<|zar<|zag<|oM rfl<|oP (zad rfl)<|oP (zaa rfl ⟨_,_,_,Tryz.runUnderlying183,rfl,rfl,Tryz.sizeOf181,rfl⟩)<|oO<|zai ((c_WrB (u:=true) (bv:=zv) (y:=10) (by omega))) rfl Tryz.call153 (Dels.cons del0 (dC_ del0)) rfl fun w3 hc7=>za0<|zce (res0 Tryz.results114)<|CSpec.close ⟨w3,zs ++ [10]⟩ ?_ ?_ r_
   · rfl
   · show xs.length < (zs ++ [10]).length∧(zs ++ [10]).length≤xs.length + 250; simp only [List.length_append,List.length_cons,List.length_nil]; omega
end Go.Proofs
set_option linter.unusedSimpArgs false
set_option maxRecDepth 20000
namespace Go.Proofs
open Go.VG Ts
theorem zhh (v0:ByteArray) (v1:ByteArray) (v2:ByteArray):zbg Tryz.prog 58 3 [(0,.string v0),(1,.string v1),(2,.string v2)] 9 [.string v0,.string v1,.string v2] := fun w=>by kernel_rfl
theorem znd (v0:ByteArray) (v1:ByteArray):zbg Tryz.prog 58 2 [(0,.string v0),(1,.string v1)] 9 [.string v0,.string v1] := fun w=>by kernel_rfl
theorem zph (v0:ByteArray):zbg Tryz.prog 58 1 [(0,.string v0)] 9 [.string v0] := fun w=>by kernel_rfl
theorem w3 {a b c:ByteArray} (ha:a.size≤60) (hb:b.size≤60) (hc:c.size≤60):∀ i,i < [a,b,c].length→([a,b,c].getD i tyS.dflt).size≤60 := by
  intro i hi
  match i,hi with
  | 0,_=>exact ha
  | 1,_=>exact hb
  | 2,_=>exact hc
theorem w2 {a b:ByteArray} (ha:a.size≤60) (hb:b.size≤60):∀ i,i < [a,b].length→([a,b].getD i tyS.dflt).size≤60 := by
  intro i hi
  match i,hi with
  | 0,_=>exact ha
  | 1,_=>exact hb
theorem w1 {a:ByteArray} (ha:a.size≤60):∀ i,i < [a].length→([a].getD i tyS.dflt).size≤60 := by
  intro i hi
  match i,hi with
  | 0,_=>exact ha
structure FmP (l:List NdV) (cst:Nat→Nat) (cb:Nat):Prop where
  sz:∀ i,i < l.length→(gN l i).name.size≤60
  k:∀ i,i < l.length→(gN l i).kind=1∨(gN l i).kind=2∨(gN l i).kind=4
  k1:∀ i,i < l.length→(gN l i).kind=1→(0≤(gN l i).number∧(gN l i).number < 100)∧(∃ r,zd8 (gN l i).number=some r∧r.size≤60)∧cst i + 250≤cst (i + 1)
  k2:∀ i,i < l.length→(gN l i).kind=2→(∃ q,zek (gN l i).text=some q∧q.1.size≤60)∧cst i + 250≤cst (i + 1)
  k4:∀ i,i < l.length→(gN l i).kind=4→cst i + 500 + cb≤cst (i + 1)
  le:∀ i,i≤l.length→cst i≤4000
theorem zm1 {W:World} {b d nb:Nat} {u:Bool} {bv v:Sl3} {xs:List UInt8} {X:HP} {l:List NdV} {cst:Nat→Nat} {cb:Nat} (hd:d≤3) (hP:FmP l cst cb) (hxs:xs.length≤nb) (hnb:nb≤50000) (hlen:1≤l.length∧l.length≤6)
    (hrec:∀ i,i < l.length→(gN l i).kind=4 → ∀ {W:World} {u:Bool} {bv:Sl3} {xs:List UInt8},xs.length≤nb + 5000→CSpec Tryz.prog W 78 [ptr b 0,(gN l i).nodes.v,.int .i64 ((d:Int) + 1)] [blk b 183 [adr u b,bv.v],sl tyU8 bv.v xs,X] (fun _:Sl3 × List UInt8 => .tuple #[]) (fun x=>xs.length≤x.2.length∧x.2.length≤xs.length + cb) (fun x F=>blk b 183 [adr true b,x.1.v]::sl tyU8 x.1.v x.2::X::F)) :
    CSpec Tryz.prog W 78 [ptr b 0,v.v,.int .i64 (d:Int)] [blk b 183 [adr u b,bv.v],sl tyU8 bv.v xs,sl tyNd v.v l,X] (fun _:Sl3 × List UInt8 => .tuple #[]) (fun x=>xs.length + l.length≤x.2.length∧x.2.length≤xs.length + cst l.length) (fun x F=>blk b 183 [adr true b,x.1.v]::sl tyU8 x.1.v x.2::sl tyNd v.v l::X::F) := by
 refine CSpec.of_body Tryz.func78 rfl Tryz.ntmps78 rfl fun F => ?_
 show CJ _ _ _ _ _ _ (_::_::_::_::F)
 refine sR<|oM rfl<|oV (V_len rfl foc2 (Reads.sl _ _ _) Tryz.runUnderlying117)<|oM rfl<|nT<|zao<|za8 (X:=Nat × Bool × Sl3 × List UInt8) [7,8,9,10,12,13,14,17,18,19,20,21,22,23,24,25,26,27,28,29,30,31,32,33,34,35,36,37,38,39,40,41,42,43,44,45,46,47,48,49,50,51,52,53,54,55,56,57,58,59,60,61,62,63,64,65,66,67,68,69,70,71,72,73,74,75,76,77,78,79,80,81,82,83,84,85,86,87,88,89,90,91,92,93,94] (fun ⟨i,uu,zv,zs⟩  => ([(17,.int .i64 (i:Nat))]:Slots)) (fun ⟨i,uu,zv,zs⟩ R=>blk b 183 [adr uu b,zv.v]::sl tyU8 zv.v zs::R) (fun ⟨i,uu,zv,zs⟩  => i≤l.length∧(xs.length + i≤zs.length∧zs.length≤xs.length + cst i)∧(i≠0→uu=true)) (fun ⟨i,uu,zv,zs⟩  => l.length - i) ⟨0,u,bv,xs⟩ ?_ ?_ r_ ?_
 · exact ⟨Nat.zero_le _,⟨Nat.le_refl _,Nat.le_add_right _ _⟩,fun h=>absurd rfl h⟩
 · exact ⟨rfl,True.intro⟩
 ·
  rintro ⟨i,uu,zv,zs⟩ ⟨hi,hz,hu⟩
  show CJ _ _ _ _ _ (([(17,.int .i64 (i:Nat))]:Slots) ++ forget _ _) (blk b 183 [adr uu b,zv.v]::sl tyU8 zv.v zs::_)
  refine sR<|oP (P_lss rfl rfl)<|nT<|zab ?_
  first | (refine zav rfl (fun hg1 => ?_) (fun hg1 => ?_)) | (refine zaw rfl (fun hg1 => ?_) (fun hg1 => ?_)) | (refine za1 rfl (fun hg1 => ?_) (fun hg1 => ?_))
  ·
   refine kT<|zab<|zao<|sR ?_
   have hil:i < l.length := by omega
   have hnz := hP.sz i hil
   have hle := hP.le i (by omega)
   have hle1 := hP.le (i + 1) (by omega)
   first | (refine RJ_op rfl (OJ_V (zam rfl rfl rfl (by omega) foc2 (Reads.sl _ _ _) Tryz.runUnderlying117 Tryz.sizeOf224) rfl ?_)) | (refine RJ_op rfl (OJ_V (zam rfl rfl (Int.toNat_of_nonneg (by omega)).symm (by omega) foc2 (Reads.sl _ _ _) Tryz.runUnderlying117 Tryz.sizeOf224) rfl ?_))
   refine oV (zdb rfl rfl (by omega) foc2 (Reads.sl _ _ _) rfl rfl Tryz.isAgg224 Tryz.sizeOf224)<|oO<|zbi Tryz.zeroValue224 rfl rfl fun b1=>oO<|zbo rfl rfl foc0 Tryz.sizeOf224 rfl rfl rfl<|nT<|sR<|oP (zaa rfl ⟨_,_,_,Tryz.runUnderlying224,rfl,rfl,Tryz.sizeOf3,rfl⟩)<|oV (zac rfl foc0 rfl Tryz.isAgg3)<|nT<|zao<|sR<|oP (P_eql rfl rfl)<|oA rfl<|nT ?_
   first | (refine zav rfl (fun hg2 => ?_) (fun hg2 => ?_)) | (refine zaw rfl (fun hg2 => ?_) (fun hg2 => ?_)) | (refine za1 rfl (fun hg2 => ?_) (fun hg2 => ?_))
   ·
    refine za3 384 kR_ rfl ?_
    obtain ⟨h1n,⟨r9,hr9,hr9s⟩,hc9⟩ := hP.k1 i hil (by assumption)
    refine aN 0 1 rfl rfl (zae rfl)<|aN 1 3 rfl rfl (zae rfl)<|aN 2 7 rfl rfl (zaa rfl ⟨_,_,_,Tryz.runUnderlying224,rfl,rfl,Tryz.sizeOf9,rfl⟩)<|aW 3 15 rfl rfl r_ (zac rfl foc0 rfl Tryz.isAgg9)<|aN 4 31 rfl rfl (zaa rfl ⟨_,_,_,Tryz.runUnderlying224,rfl,rfl,Tryz.sizeOf3,rfl⟩)<|aW 5 63 rfl rfl r_ (zac rfl foc0 rfl Tryz.isAgg3)<|AJ_op 6 127 rfl kR_ rfl (zal rfl)<|zai ((c_Itoa h1n hr9)) rfl Tryz.call115 Dels.nil rfl fun _ hc2=>⟨fun _=>r_,?_⟩
    refine AJ_op 7 255 rfl kR_ rfl (zal rfl)<|za4 rfl (zhh _ _ _) rfl fun b3=>⟨fun h=>absurd h (by decide),?_⟩
    refine AJ_op 8 511 rfl kR_ rfl (zal rfl)<|zai ((zpg (n:=d) (u:=uu) (bv:=zv) (xs:=zs) hd (Reads.lit (t:=tyS) (ys:=[(gN l i).name,(ByteArray.mk #[32,61,32]),r9]) rfl rfl (Nat.le_refl 3) (by decide) rfl) (by simp) (w3 hnz (by decide) hr9s) (by omega))) rfl Tryz.call114 (Dels.cons del2 (Dels.cons del2 (dC_ del0))) rfl fun y4 hy4=>⟨fun h=>absurd h (by decide),?_⟩
    refine zcf kR_<|zah<|zah<|zar<|zag<|oP (P_add rfl rfl (by omega))<|oM rfl<|za0<|zba ⟨i + 1,true,y4.1,y4.2⟩ (by first | omega | (simp only []; omega)) ?_ kP_ ?_ (t0_ (t0_ (t2_ (t2_ (e_ (e_ r_))))))
    · exact ⟨by omega,by omega,fun _=>rfl⟩
    · exact ⟨rfl,True.intro⟩
   ·
    refine sR<|oP (P_eql rfl rfl)<|oA rfl<|nT ?_
    first | (refine zav rfl (fun hg3 => ?_) (fun hg3 => ?_)) | (refine zaw rfl (fun hg3 => ?_) (fun hg3 => ?_)) | (refine za1 rfl (fun hg3 => ?_) (fun hg3 => ?_))
    ·
     refine sR ?_
     obtain ⟨⟨q9,hq9,hq9s⟩,hc9⟩ := hP.k2 i hil (by assumption)
     refine oP (zaa rfl ⟨_,_,_,Tryz.runUnderlying224,rfl,rfl,Tryz.sizeOf9,rfl⟩)<|oV (zac rfl foc0 rfl Tryz.isAgg9)<|oO<|zai ((zld hq9)) rfl Tryz.call116 Dels.nil rfl fun _ hc7=>oM rfl<|oP (zaj rfl rfl)<|oP (zaj rfl rfl)<|oA rfl<|oA rfl<|nT<|zag<|oM rfl<|oM rfl<|oP (zaa rfl ⟨_,_,_,Tryz.runUnderlying224,rfl,rfl,Tryz.sizeOf9,rfl⟩)<|oV (zac rfl foc0 rfl Tryz.isAgg9)<|oM rfl<|oO<|za4 rfl (zhh _ _ _) rfl fun b8=>oO<|zai ((zpg (n:=d) (u:=uu) (bv:=zv) (xs:=zs) hd (Reads.lit (t:=tyS) (ys:=[(gN l i).name,(ByteArray.mk #[32,61,32]),q9.1]) rfl rfl (Nat.le_refl 3) (by decide) rfl) (by simp) (w3 hnz (by decide) hq9s) (by omega))) rfl Tryz.call114 (Dels.cons del2 (Dels.cons del2 (dC_ del0))) rfl fun y9 hy9=>za0<|zah<|zah<|zar<|zag<|oP (P_add rfl rfl (by omega))<|oM rfl<|za0<|zba ⟨i + 1,true,y9.1,y9.2⟩ (by first | omega | (simp only []; omega)) ?_ kP_ ?_ (t0_ (t0_ (t2_ (t2_ (e_ (e_ r_))))))
     · exact ⟨by omega,by omega,fun _=>rfl⟩
     · exact ⟨rfl,True.intro⟩
    ·
     refine sR ?_
     have hkk:(gN l i).kind=4 := by
       rcases hP.k i hil with h | h | h
       · exact absurd h (by assumption)
       · exact absurd h (by assumption)
       · exact h
     have hc9 := hP.k4 i hil hkk
     refine oP (P_eql rfl rfl)<|oA rfl<|nT<|zap rfl (by first | exact decide_eq_false (by first | exact fun h=>absurd (h.symm.trans hkk) (by decide) | omega) | (first | exact fun h=>absurd (h.symm.trans hkk) (by decide) | omega))<|sR<|oP (P_eql rfl rfl)<|oA rfl<|nT<|za7 rfl (by first | exact decide_eq_true (by exact hkk) | (exact hkk))<|sR<|oM rfl<|oM rfl<|oP (zaa rfl ⟨_,_,_,Tryz.runUnderlying224,rfl,rfl,Tryz.sizeOf9,rfl⟩)<|oV (zac rfl foc0 rfl Tryz.isAgg9)<|oO<|za4 rfl (znd _ _) rfl fun b12=>oO<|zai ((zpg (n:=d) (u:=uu) (bv:=zv) (xs:=zs) hd (Reads.lit (t:=tyS) (ys:=[(gN l i).name,(ByteArray.mk #[32,123])]) rfl rfl (Nat.le_refl 2) (by decide) rfl) (by simp) (w2 hnz (by decide)) (by omega))) rfl Tryz.call114 (Dels.cons del2 (Dels.cons del2 (dC_ del0))) rfl fun y13 hy13=>nT<|sR<|oM rfl<|oP (zaa rfl ⟨_,_,_,Tryz.runUnderlying224,rfl,rfl,Tryz.sizeOf117,rfl⟩)<|oV (zac rfl foc3 rfl Tryz.isAgg117)<|oM rfl<|oP (P_add rfl rfl (by omega))<|oO<|zai ((hrec i hil hkk (u:=true) (bv:=y13.1) (xs:=y13.2) (by omega))) rfl Tryz.call78 (Dels.cons del0 (Dels.cons del0 (dC_ del3))) rfl fun y16 hy16=>nT<|zag<|oM rfl<|oM rfl<|oO<|za4 rfl (zph _) rfl fun b19 => ?_
     refine oO<|zai ((zpg (n:=d) (u:=true) (bv:=y16.1) (xs:=y16.2) hd (Reads.lit (t:=tyS) (ys:=[(ByteArray.mk #[125])]) rfl rfl (Nat.le_refl 1) (by decide) rfl) (by simp) (w1 (by decide)) (by omega))) rfl Tryz.call114 (Dels.cons del1 (Dels.cons del1 (dC_ del0))) rfl fun y20 hy20=>za0<|zah<|zah<|zar<|zag<|oP (P_add rfl rfl (by omega))<|oM rfl<|za0<|zba ⟨i + 1,true,y20.1,y20.2⟩ (by first | omega | (simp only []; omega)) ?_ kP_ ?_ (t0_ (t0_ (t4_ (t1_ (e_ (e_ (e_ r_)))))))
     · exact ⟨by omega,by omega,fun _=>rfl⟩
     · exact ⟨rfl,True.intro⟩
  ·
   refine zbc<|zay<|zau<|zat<|zce (res0 Tryz.results78) ?_
   obtain rfl:i=l.length := by omega
   obtain rfl:uu=true := hu (by omega)
   refine CSpec.close ⟨zv,zs⟩ ?_ ?_ r_
   · rfl
   · exact hz
end Go.Proofs
set_option linter.unusedSimpArgs false
set_option linter.unusedVariables false
set_option maxRecDepth 20000
set_option maxHeartbeats 4000000
namespace Go.Proofs
open Go.VG Ts
theorem CSpec.hang {P:Program} {W:World} {f:FuncId} {args:List Value} {S B X:HP} {Y:Type} {B':Y→HP} {res:Y→Value} {pf:Y→Prop} (hm:CSpec P W f args [S,B,X] res pf (fun y F=>S::B' y::X::F)):CSpec P W f args [B,star [S,X]] res pf (fun y F=>B' y::star [S,X]::F) :=
  CSpec.conseq (G:=[]) hm (fun F _ hp=>zbd (List.Perm.swap _ _ _) _ (zas (fun _ h=>(stars_star (Hs:=[S,X])).1 h) hp)) (fun y F _ hp=>zas (fun _ h=>(stars_star (Hs:=[S,X])).2 h) (zbd (List.Perm.swap _ _ _) _ hp))
theorem CSpec.hang2 {P:Program} {W:World} {f:FuncId} {args:List Value} {S B C X:HP} {Y:Type} {B' C':Y→HP} {res:Y→Value} {pf:Y→Prop} (hm:CSpec P W f args [B,C,S,X] res pf (fun y F=>B' y::C' y::S::X::F)):CSpec P W f args [B,C,star [S,X]] res pf (fun y F=>B' y::C' y::star [S,X]::F) :=
  CSpec.conseq (G:=[]) hm (fun F _ hp=>zas (fun _ h=>zas (fun _ h=>(stars_star (Hs:=[S,X])).1 h) h) hp) (fun y F _ hp=>zas (fun _ h=>zas (fun _ h=>(stars_star (Hs:=[S,X])).2 h) h) hp)
theorem nm_id:Nm (ByteArray.mk #[105,100]) := ⟨by decide,by decide +kernel,by decide +kernel,⟨((zc3 (ByteArray.mk #[105,100])).getD (0,true)).1,by kernel_rfl⟩⟩
theorem zzx:Nm (ByteArray.mk #[102,105,114,115,116]) := ⟨by decide,by decide +kernel,by decide +kernel,⟨((zc3 (ByteArray.mk #[102,105,114,115,116])).getD (0,true)).1,by kernel_rfl⟩⟩
theorem zve:Nm (ByteArray.mk #[101,120,116,101,110,116,115]) := ⟨by decide,by decide +kernel,by decide +kernel,⟨((zc3 (ByteArray.mk #[101,120,116,101,110,116,115])).getD (0,true)).1,by kernel_rfl⟩⟩
theorem nm_seq:Nm (ByteArray.mk #[115,101,113]) := ⟨by decide,by decide +kernel,by decide +kernel,⟨((zc3 (ByteArray.mk #[115,101,113])).getD (0,true)).1,by kernel_rfl⟩⟩
theorem zxk:Nm (ByteArray.mk #[101,120,116,101,110,116]) := ⟨by decide,by decide +kernel,by decide +kernel,⟨((zc3 (ByteArray.mk #[101,120,116,101,110,116])).getD (0,true)).1,by kernel_rfl⟩⟩
theorem z2h:Nm (ByteArray.mk #[110,101,120,116]) := ⟨by decide,by decide +kernel,by decide +kernel,⟨((zc3 (ByteArray.mk #[110,101,120,116])).getD (0,true)).1,by kernel_rfl⟩⟩
theorem zzy:Nm (ByteArray.mk #[100,105,115,107,115]) := ⟨by decide,by decide +kernel,by decide +kernel,⟨((zc3 (ByteArray.mk #[100,105,115,107,115])).getD (0,true)).1,by kernel_rfl⟩⟩
theorem nm_vg:Nm (ByteArray.mk #[118,103]) := ⟨by decide,by decide +kernel,by decide +kernel,⟨((zc3 (ByteArray.mk #[118,103])).getD (0,true)).1,by kernel_rfl⟩⟩
theorem nm_pv0:Nm (ByteArray.mk #[112,118,48]) := ⟨by decide,by decide +kernel,by decide +kernel,⟨((zc3 (ByteArray.mk #[112,118,48])).getD (0,true)).1,by kernel_rfl⟩⟩
theorem nd_of {l:List NdV} (ns:List ByteArray) (hn:∀ i,i < l.length→(gN l i).name=ns.getD i ByteArray.empty) (h:∀ j,j < l.length → ∀ i,i < j→ns.getD i ByteArray.empty≠ns.getD j ByteArray.empty):∀ i j,i < j→j < l.length→(gN l i).name≠(gN l j).name := fun i j hij hj=>by
  rw [hn i (by omega),hn j hj]; exact h j hj i hij
theorem zut:zek hex0=some ((zek hex0).getD (ByteArray.empty,0)) := by kernel_rfl
theorem zxl:((zek hex0).getD (ByteArray.empty,0)).1.size≤60 := by decide +kernel
theorem zmk:zfj [hex0]=some true := by kernel_rfl
theorem fm_kids:FmL kidsL where
  len := by show 3≤6; decide
  nm := fun i hi=>match i,hi with | 0,_=>nm_id | 1,_=>zzx | 2,_=>zve
  nd := nd_of [(ByteArray.mk #[105,100]),(ByteArray.mk #[102,105,114,115,116]),(ByteArray.mk #[101,120,116,101,110,116,115])] (fun i hi=>match i,hi with | 0,_=>rfl | 1,_=>rfl | 2,_=>rfl) (by show ∀ j,j < 3→_; decide +kernel)
  k := fun i hi=>match i,hi with | 0,_ => .inr (.inl rfl) | 1,_ => .inl rfl | 2,_ => .inl rfl
  k1 := fun i hi h=>match i,hi,h with | 0,_,h=>absurd (show (2:Int)=1 from h) (by decide) | 1,_,h=>⟨show -1000≤(0:Int)∧(0:Int)≤1000 by decide,rfl,rfl⟩ | 2,_,h=>⟨show -1000≤(3:Int)∧(3:Int)≤1000 by decide,rfl,rfl⟩
  k2 := fun i hi h=>match i,hi,h with | 0,_,h=>⟨rfl,zmk,rfl⟩ | 1,_,h=>absurd (show (1:Int)=2 from h) (by decide) | 2,_,h=>absurd (show (1:Int)=2 from h) (by decide)
  k4 := fun i hi h=>match i,hi,h with | 0,_,h=>absurd (show (2:Int)=4 from h) (by decide) | 1,_,h=>absurd (show (1:Int)=4 from h) (by decide) | 2,_,h=>absurd (show (1:Int)=4 from h) (by decide)
  ls := fun i hi=>match i,hi with | 0,_=>rfl | 1,_=>rfl | 2,_=>rfl
theorem z2i:FmP kidsL (fun i=>250 * i) 0 where
  sz := fun i hi=>by have := (fm_kids).nm i hi; exact Nat.le_trans this.sz.2 (by decide)
  k := fm_kids.k
  k1 := fun i hi h=>match i,hi,h with | 0,_,h=>absurd (show (2:Int)=1 from h) (by decide) | 1,_,h=>⟨show 0≤(0:Int)∧(0:Int) < 100 by decide,⟨(ByteArray.mk #[48]),by kernel_rfl,by decide⟩,by decide⟩ | 2,_,h=>⟨show 0≤(3:Int)∧(3:Int) < 100 by decide,⟨(ByteArray.mk #[51]),by kernel_rfl,by decide⟩,by decide⟩
  k2 := fun i hi h=>match i,hi,h with | 0,_,h=>⟨⟨_,zut,zxl⟩,by decide⟩ | 1,_,h=>absurd (show (1:Int)=2 from h) (by decide) | 2,_,h=>absurd (show (1:Int)=2 from h) (by decide)
  k4 := fun i hi h=>match i,hi,h with | 0,_,h=>absurd (show (2:Int)=4 from h) (by decide) | 1,_,h=>absurd (show (1:Int)=4 from h) (by decide) | 2,_,h=>absurd (show (1:Int)=4 from h) (by decide)
  le := fun i hi=>by replace hi:i≤3 := hi; first | (show 250 * i≤4000; omega) | (show 1250 * i≤4000; omega) | (show 3250 * i≤4000; omega)
theorem fm_sv {kv:Sl3} : FmL [ndS dk0.name kv] where
  len := by show 1≤6; decide
  nm := fun i hi=>match i,hi with | 0,_=>nm_pv0
  nd := nd_of [(ByteArray.mk #[112,118,48])] (fun i hi=>match i,hi with | 0,_=>rfl) (by show ∀ j,j < 1→_; decide +kernel)
  k := fun i hi=>match i,hi with | 0,_ => .inr (.inr rfl)
  k1 := fun i hi h=>match i,hi,h with | 0,_,h=>absurd (show (4:Int)=1 from h) (by decide)
  k2 := fun i hi h=>match i,hi,h with | 0,_,h=>absurd (show (4:Int)=2 from h) (by decide)
  k4 := fun i hi h=>match i,hi,h with | 0,_,h=>⟨rfl,rfl⟩
  ls := fun i hi=>match i,hi with | 0,_=>rfl
theorem fp_sv {kv:Sl3} : FmP [ndS dk0.name kv] (fun i=>1250 * i) 750 where
  sz := fun i hi=>by have := (fm_sv).nm i hi; exact Nat.le_trans this.sz.2 (by decide)
  k := fm_sv.k
  k1 := fun i hi h=>match i,hi,h with | 0,_,h=>absurd (show (4:Int)=1 from h) (by decide)
  k2 := fun i hi h=>match i,hi,h with | 0,_,h=>absurd (show (4:Int)=2 from h) (by decide)
  k4 := fun i hi h=>match i,hi,h with | 0,_,h=>by decide
  le := fun i hi=>by replace hi:i≤1 := hi; first | (show 250 * i≤4000; omega) | (show 1250 * i≤4000; omega) | (show 3250 * i≤4000; omega)
theorem fm_main {sv:Sl3} : FmL (mainL sv) where
  len := by show 5≤6; decide
  nm := fun i hi=>match i,hi with | 0,_=>nm_id | 1,_=>nm_seq | 2,_=>zxk | 3,_=>z2h | 4,_=>zzy
  nd := nd_of [(ByteArray.mk #[105,100]),(ByteArray.mk #[115,101,113]),(ByteArray.mk #[101,120,116,101,110,116]),(ByteArray.mk #[110,101,120,116]),(ByteArray.mk #[100,105,115,107,115])] (fun i hi=>match i,hi with | 0,_=>rfl | 1,_=>rfl | 2,_=>rfl | 3,_=>rfl | 4,_=>rfl) (by show ∀ j,j < 5→_; decide +kernel)
  k := fun i hi=>match i,hi with | 0,_ => .inr (.inl rfl) | 1,_ => .inl rfl | 2,_ => .inl rfl | 3,_ => .inl rfl | 4,_ => .inr (.inr rfl)
  k1 := fun i hi h=>match i,hi,h with | 0,_,h=>absurd (show (2:Int)=1 from h) (by decide) | 1,_,h=>⟨show -1000≤(0:Int)∧(0:Int)≤1000 by decide,rfl,rfl⟩ | 2,_,h=>⟨show -1000≤(1:Int)∧(1:Int)≤1000 by decide,rfl,rfl⟩ | 3,_,h=>⟨show -1000≤(0:Int)∧(0:Int)≤1000 by decide,rfl,rfl⟩ | 4,_,h=>absurd (show (4:Int)=1 from h) (by decide)
  k2 := fun i hi h=>match i,hi,h with | 0,_,h=>⟨rfl,zmk,rfl⟩ | 1,_,h=>absurd (show (1:Int)=2 from h) (by decide) | 2,_,h=>absurd (show (1:Int)=2 from h) (by decide) | 3,_,h=>absurd (show (1:Int)=2 from h) (by decide) | 4,_,h=>absurd (show (4:Int)=2 from h) (by decide)
  k4 := fun i hi h=>match i,hi,h with | 0,_,h=>absurd (show (2:Int)=4 from h) (by decide) | 1,_,h=>absurd (show (1:Int)=4 from h) (by decide) | 2,_,h=>absurd (show (1:Int)=4 from h) (by decide) | 3,_,h=>absurd (show (1:Int)=4 from h) (by decide) | 4,_,h=>⟨rfl,rfl⟩
  ls := fun i hi=>match i,hi with | 0,_=>rfl | 1,_=>rfl | 2,_=>rfl | 3,_=>rfl | 4,_=>rfl
theorem z2j {sv:Sl3} : FmP (mainL sv) (fun i=>if i≤4 then 250 * i else 2750) 1250 where
  sz := fun i hi=>by have := (fm_main).nm i hi; exact Nat.le_trans this.sz.2 (by decide)
  k := fm_main.k
  k1 := fun i hi h=>match i,hi,h with | 0,_,h=>absurd (show (2:Int)=1 from h) (by decide) | 1,_,h=>⟨show 0≤(0:Int)∧(0:Int) < 100 by decide,⟨(ByteArray.mk #[48]),by kernel_rfl,by decide⟩,by decide⟩ | 2,_,h=>⟨show 0≤(1:Int)∧(1:Int) < 100 by decide,⟨(ByteArray.mk #[49]),by kernel_rfl,by decide⟩,by decide⟩ | 3,_,h=>⟨show 0≤(0:Int)∧(0:Int) < 100 by decide,⟨(ByteArray.mk #[48]),by kernel_rfl,by decide⟩,by decide⟩ | 4,_,h=>absurd (show (4:Int)=1 from h) (by decide)
  k2 := fun i hi h=>match i,hi,h with | 0,_,h=>⟨⟨_,zut,zxl⟩,by decide⟩ | 1,_,h=>absurd (show (1:Int)=2 from h) (by decide) | 2,_,h=>absurd (show (1:Int)=2 from h) (by decide) | 3,_,h=>absurd (show (1:Int)=2 from h) (by decide) | 4,_,h=>absurd (show (4:Int)=2 from h) (by decide)
  k4 := fun i hi h=>match i,hi,h with | 0,_,h=>absurd (show (2:Int)=4 from h) (by decide) | 1,_,h=>absurd (show (1:Int)=4 from h) (by decide) | 2,_,h=>absurd (show (1:Int)=4 from h) (by decide) | 3,_,h=>absurd (show (1:Int)=4 from h) (by decide) | 4,_,h=>by decide
  le := fun i hi=>by replace hi:i≤5 := hi; show (if i≤4 then 250 * i else 2750)≤4000; split <;> omega
theorem fm_top {mv:Sl3} : FmL [ndS (ByteArray.mk #[118,103]) mv] where
  len := by show 1≤6; decide
  nm := fun i hi=>match i,hi with | 0,_=>nm_vg
  nd := nd_of [(ByteArray.mk #[118,103])] (fun i hi=>match i,hi with | 0,_=>rfl) (by show ∀ j,j < 1→_; decide +kernel)
  k := fun i hi=>match i,hi with | 0,_ => .inr (.inr rfl)
  k1 := fun i hi h=>match i,hi,h with | 0,_,h=>absurd (show (4:Int)=1 from h) (by decide)
  k2 := fun i hi h=>match i,hi,h with | 0,_,h=>absurd (show (4:Int)=2 from h) (by decide)
  k4 := fun i hi h=>match i,hi,h with | 0,_,h=>⟨rfl,rfl⟩
  ls := fun i hi=>match i,hi with | 0,_=>rfl
theorem fp_top {mv:Sl3} : FmP [ndS (ByteArray.mk #[118,103]) mv] (fun i=>3250 * i) 2750 where
  sz := fun i hi=>by have := (fm_top).nm i hi; exact Nat.le_trans this.sz.2 (by decide)
  k := fm_top.k
  k1 := fun i hi h=>match i,hi,h with | 0,_,h=>absurd (show (4:Int)=1 from h) (by decide)
  k2 := fun i hi h=>match i,hi,h with | 0,_,h=>absurd (show (4:Int)=2 from h) (by decide)
  k4 := fun i hi h=>match i,hi,h with | 0,_,h=>by decide
  le := fun i hi=>by replace hi:i≤1 := hi; first | (show 250 * i≤4000; omega) | (show 1250 * i≤4000; omega) | (show 3250 * i≤4000; omega)
end Go.Proofs
set_option linter.unusedSimpArgs false
set_option linter.unusedVariables false
set_option maxRecDepth 20000
set_option maxHeartbeats 4000000
namespace Go.Proofs
open Go.VG Ts
abbrev kidsX (kv:Sl3):HP := star [sl tyNd kv.v kidsL,GV]
abbrev svX (sv kv:Sl3):HP := star [sl tyNd sv.v [ndS dk0.name kv],kidsX kv]
abbrev mainX (mv sv kv:Sl3):HP := star [sl tyNd mv.v (mainL sv),svX sv kv]
theorem z2k {W:World} {kv:Sl3} {c:Nat} (n:Int) (h0:0≤n) (h1:n≤600):CSpec Tryz.prog W 77 [kv.v,.int .i64 (0 + 1 + 1 + 1),ptr c 0] [blk c 3 [.int .i64 n],kidsX kv] (fun _:Int => .bool true) (fun m=>n≤m∧m≤n + 3) (fun m F=>blk c 3 [.int .i64 m]::kidsX kv::F) :=
  CSpec.hang (zk7 (d:=0 + 1 + 1 + 1) (bd:=0) (nb:=600) (X:=GV) fm_kids (by decide) (by decide) ⟨h0,h1⟩ (by decide) (fun i hi hk=>absurd hk (match i,hi with | 0,_=>by show ¬ ((2:Int)=4); decide | 1,_=>by show ¬ ((1:Int)=4); decide | 2,_=>by show ¬ ((1:Int)=4); decide)))
theorem fo_sv {W:World} {sv kv:Sl3} {c:Nat} (n:Int) (h0:0≤n) (h1:n≤400):CSpec Tryz.prog W 77 [sv.v,.int .i64 (0 + 1 + 1),ptr c 0] [blk c 3 [.int .i64 n],svX sv kv] (fun _:Int => .bool true) (fun m=>n≤m∧m≤n + 4) (fun m F=>blk c 3 [.int .i64 m]::svX sv kv::F) :=
  CSpec.hang (zk7 (d:=0 + 1 + 1) (bd:=3) (nb:=400) (X:=kidsX kv) fm_sv (by decide) (by decide) ⟨h0,h1⟩ (by decide) (fun i hi hk=>match i,hi with | 0,_=>fun n h0 h1=>z2k n h0 h1))
theorem z2l {W:World} {mv sv kv:Sl3} {c:Nat} (n:Int) (h0:0≤n) (h1:n≤200):CSpec Tryz.prog W 77 [mv.v,.int .i64 (0 + 1),ptr c 0] [blk c 3 [.int .i64 n],mainX mv sv kv] (fun _:Int => .bool true) (fun m=>n≤m∧m≤n + 25) (fun m F=>blk c 3 [.int .i64 m]::mainX mv sv kv::F) :=
  CSpec.hang (zk7 (d:=0 + 1) (bd:=4) (nb:=200) (X:=svX sv kv) fm_main (by decide) (by decide) ⟨h0,h1⟩ (by decide) (fun i hi hk=>match i,hi,hk with | 0,_,hk=>absurd (show (2:Int)=4 from hk) (by decide) | 1,_,hk=>absurd (show (1:Int)=4 from hk) (by decide) | 2,_,hk=>absurd (show (1:Int)=4 from hk) (by decide) | 3,_,hk=>absurd (show (1:Int)=4 from hk) (by decide) | 4,_,hk=>fun n h0 h1=>fo_sv n h0 h1))
theorem fo_top {W:World} {tv mv sv kv:Sl3} {c:Nat} : CSpec Tryz.prog W 77 [tv.v,.int .i64 0,ptr c 0] [sl tyNd tv.v [ndS (ByteArray.mk #[118,103]) mv],blk c 3 [.int .i64 0],mainX mv sv kv] (fun _:Int => .bool true) (fun m=>0≤m∧m≤0 + (([ndS (ByteArray.mk #[118,103]) mv]:List NdV).length:Int) * (1 + 25)) (fun m F=>sl tyNd tv.v [ndS (ByteArray.mk #[118,103]) mv]::blk c 3 [.int .i64 m]::mainX mv sv kv::F) :=
  zk7 (d:=0) (bd:=25) (nb:=0) (n0:=0) (X:=mainX mv sv kv) fm_top (by decide) (by decide) (by decide) (by decide) (fun i hi hk=>match i,hi with | 0,_=>fun n h0 h1=>z2l n h0 h1)
end Go.Proofs
set_option linter.unusedSimpArgs false
set_option linter.unusedVariables false
set_option maxRecDepth 20000
set_option maxHeartbeats 4000000
namespace Go.Proofs
open Go.VG Ts
def Prt (W:World) (b:Nat) (v:Sl3) (d:Int) (X:HP) (nb cb:Nat):Prop := ∀ {u:Bool} {bv:Sl3} {xs:List UInt8},xs.length≤nb→CSpec Tryz.prog W 78 [ptr b 0,v.v,.int .i64 d] [blk b 183 [adr u b,bv.v],sl tyU8 bv.v xs,X] (fun _:Sl3 × List UInt8 => .tuple #[]) (fun x=>xs.length≤x.2.length∧x.2.length≤xs.length + cb) (fun x F=>blk b 183 [adr true b,x.1.v]::sl tyU8 x.1.v x.2::X::F)
theorem Prt.of {W:World} {b:Nat} {v:Sl3} {d:Nat} {X:HP} {l:List NdV} {nb:Nat} {cst:Nat→Nat} {m:Nat} (hm:∀ {u:Bool} {bv:Sl3} {xs:List UInt8},xs.length≤nb→CSpec Tryz.prog W 78 [ptr b 0,v.v,.int .i64 (d:Int)] [blk b 183 [adr u b,bv.v],sl tyU8 bv.v xs,sl tyNd v.v l,X] (fun _:Sl3 × List UInt8 => .tuple #[]) (fun x=>xs.length + l.length≤x.2.length∧x.2.length≤xs.length + cst l.length) (fun x F=>blk b 183 [adr true b,x.1.v]::sl tyU8 x.1.v x.2::sl tyNd v.v l::X::F)) (hc:cst l.length≤m):Prt W b v d (star [sl tyNd v.v l,X]) nb m := fun {u bv xs} hx =>
  CSpec.map id (CSpec.hang2 (hm hx)) (fun _=>rfl) (fun x hp=>⟨by have := hp.1; show xs.length≤x.2.length; omega,by have := hp.2; show x.2.length≤_; omega⟩) (fun _ _=>Ent.refl)
theorem z2m {W:World} {b:Nat} {kv:Sl3} : Prt W b kv (3:Nat) (kidsX kv) 15000 750 :=
  Prt.of (l:=kidsL) (cst:=fun i=>250 * i) (fun {u bv xs} hx=>zm1 (d:=3) (nb:=15000) (cb:=0) (X:=GV) (by decide) z2i hx (by decide) (by decide) (fun i hi hk=>absurd hk (match i,hi with | 0,_=>by show ¬ ((2:Int)=4); decide | 1,_=>by show ¬ ((1:Int)=4); decide | 2,_=>by show ¬ ((1:Int)=4); decide))) (by decide)
theorem pr_sv {W:World} {b:Nat} {sv kv:Sl3} : Prt W b sv (2:Nat) (svX sv kv) 10000 1250 :=
  Prt.of (l:=[ndS dk0.name kv]) (cst:=fun i=>1250 * i) (fun {u bv xs} hx=>zm1 (d:=2) (nb:=10000) (cb:=750) (X:=kidsX kv) (by decide) fp_sv hx (by decide) (show 1≤1∧1≤6 by decide) (fun i hi hk=>match i,hi with | 0,_=>fun hx=>z2m hx)) (show 1250 * 1≤1250 by decide)
theorem z2n {W:World} {b:Nat} {mv sv kv:Sl3} : Prt W b mv (1:Nat) (mainX mv sv kv) 5000 2750 :=
  Prt.of (l:=mainL sv) (cst:=fun i=>if i≤4 then 250 * i else 2750) (fun {u bv xs} hx=>zm1 (d:=1) (nb:=5000) (cb:=1250) (X:=svX sv kv) (by decide) z2j hx (by decide) (show 1≤5∧5≤6 by decide) (fun i hi hk=>match i,hi,hk with | 0,_,hk=>absurd (show (2:Int)=4 from hk) (by decide) | 1,_,hk=>absurd (show (1:Int)=4 from hk) (by decide) | 2,_,hk=>absurd (show (1:Int)=4 from hk) (by decide) | 3,_,hk=>absurd (show (1:Int)=4 from hk) (by decide) | 4,_,hk=>fun hx=>pr_sv hx)) (show 2750≤2750 by decide)
theorem pr_top {W:World} {b:Nat} {tv mv sv kv:Sl3} : CSpec Tryz.prog W 78 [ptr b 0,tv.v,.int .i64 0] [blk b 183 [.pointer none,.slice none 0 0],sl tyU8 (.slice none 0 0) [],sl tyNd tv.v [ndS (ByteArray.mk #[118,103]) mv],mainX mv sv kv] (fun _:Sl3 × List UInt8 => .tuple #[]) (fun x=>0 + 1≤x.2.length∧x.2.length≤0 + 3250 * 1) (fun x F=>blk b 183 [adr true b,x.1.v]::sl tyU8 x.1.v x.2::sl tyNd tv.v [ndS (ByteArray.mk #[118,103]) mv]::mainX mv sv kv::F) :=
  zm1 (u:=false) (bv:=⟨none,0,0⟩) (xs:=[]) (d:=0) (nb:=0) (cb:=2750) (X:=mainX mv sv kv) (by decide) fp_top (by decide) (by decide) (show 1≤1∧1≤6 by decide) (fun i hi hk=>match i,hi with | 0,_=>fun hx=>z2n hx)
end Go.Proofs
set_option linter.unusedSimpArgs false
set_option maxRecDepth 20000
namespace Go.Proofs
open Go.VG Ts
theorem fold4 {A B C D:HP} {R:List HP} : Ent (A::B::C::D::R) (star [A,star [B,star [C,D]]]::R) := fun _ hp =>
  (stars_star (Hs:=[A,star [B,star [C,D]]])).2 (zas (fun _ h=>(stars_star (Hs:=[B,star [C,D]])).2 (zas (fun _ h=>(stars_star (Hs:=[C,D])).2 h) h)) hp)
theorem zzz {A B C D E:HP} {R F:List HP} (hR:∀ h,stars R h→stars F h):∀ h,stars (star [A,star [B,star [C,D]]]::E::R) h→stars (D::F) h := fun h hh=>by
  have h1 := (stars_star (Hs:=[A,star [B,star [C,D]]])).1 hh
  have h2 := (stars_star (Hs:=[B,star [C,D]])).1 (zby h1)
  have h3 := (stars_star (Hs:=[C,D])).1 (zby h2)
  have h4 := zby h3
  exact zas (fun _ h=>hR _ (zby h)) h4
theorem ns_vg:NoSuf (ByteArray.mk #[118,103]) := ⟨by decide,fun i hi=>⟨(ByteArray.mk #[118,103]),by revert hi; revert i; decide +kernel⟩,⟨_,rfl⟩,by kernel_rfl⟩
theorem ns_pv0:NoSuf dk0.name := ⟨by decide,fun i hi=>⟨dk0.name,by revert hi; revert i; decide +kernel⟩,⟨_,rfl⟩,by kernel_rfl⟩
theorem zz0 {W:World} {tv mv sv kv:Sl3} :
    CSpec Tryz.prog W 48 [tv.v] [sl tyNd tv.v [ndS (ByteArray.mk #[118,103]) mv],mainX mv sv kv] (fun x:ByteArray => .tuple #[.string x,.int .i64 0]) (fun x=>0 < x.size∧x.size≤3250) (fun _ F=>sl tyNd tv.v [ndS (ByteArray.mk #[118,103]) mv]::mainX mv sv kv::F) := by
 refine CSpec.of_body Tryz.func48 rfl Tryz.ntmps48 rfl fun F => ?_
 show CJ _ _ _ _ _ _ (_::_::F)
 refine sR<|oA rfl<|oA rfl<|nT<|sR<|oO<|zbi Tryz.zeroValue3 rfl rfl fun b1=>oO<|za5 rfl rfl foc0 rfl rfl Tryz.sizeOf3<|nT<|zab<|sR<|oM rfl<|oO<|zai (fo_top) rfl Tryz.call77 (Dels.cons del1 (Dels.cons del0 (dC_ del0))) rfl fun m9 hm9=>oP (P_not rfl)<|nT<|zap rfl rfl<|kT<|sR<|oO<|zbi Tryz.zeroValue183 rfl rfl fun b3=>nT<|zab ?_
 have hm8:m9≤26 := by have := hm9.2; simpa using this
 refine zbs (fun h hh=>zch (t:=tyU8) h hh)<|zag<|oM rfl<|oO<|zai (pr_top) rfl Tryz.call78 (Dels.cons del1 (Dels.cons del0 (Dels.cons del0 (dC_ del1)))) rfl fun y9 hy9=>nT<|zab<|sR<|oV (zac rfl foc4 rfl Tryz.isAgg3)<|oP (PJ_eq (v := .bool false) (P_gtr rfl rfl) (congrArg Value.bool (decide_eq_false (by omega)).symm))<|oM rfl<|p_ rfl rfl rfl rfl (zaa rfl ⟨_,_,_,Tryz.runUnderlying183,rfl,rfl,Tryz.sizeOf181,rfl⟩)<|RJ_gy (zaz rfl rfl rfl rfl)<|zai ((c_BLen (u:=true) (bv:=y9.1) (xs:=y9.2))) rfl Tryz.call79 (Dels.cons del0 (dC_ del0)) rfl fun _ hc6=>p_ rfl rfl rfl rfl (PJ_eq (v := .bool false) (P_gtr rfl rfl) (congrArg Value.bool (decide_eq_false (by have := hy9.2; omega)).symm))<|oP (za2 rfl rfl rfl)<|nT<|zap rfl rfl<|kT<|sR<|oP (zaa rfl ⟨_,_,_,Tryz.runUnderlying183,rfl,rfl,Tryz.sizeOf181,rfl⟩)<|oO<|zai ((c_BStr (u:=true) (bv:=y9.1) (xs:=y9.2) (fun e=>by rw [e] at hy9; exact absurd hy9.1 (by decide)) (by omega))) rfl Tryz.call80 (Dels.cons del0 (dC_ del0)) rfl fun _ hc7=>oA rfl<|oA rfl<|nT<|zaf<|zan (res2 Tryz.results48 rfl rfl)<|CSpec.close ⟨y9.2.toArray⟩ ?_ ?_ (t0_ (t0_ (e_ r_)))
 · rfl
 · show 0 < y9.2.toArray.size∧y9.2.toArray.size≤3250; rw [List.size_toArray]; omega
theorem c_Text {W:World} {dv:Sl3} :
    CSpec Tryz.prog W 17 [.agg #[.string (ByteArray.mk #[118,103]),.int .u64 0,.int .i64 0,.int .i64 1,.int .i64 0,.slice none 0 0,dv.v,.slice none 0 0,.slice none 0 0]] [sl zb4 dv.v [dk0],GV] (fun x:ByteArray => .tuple #[.string x,.int .i64 0]) (fun x=>0 < x.size∧x.size≤3250) (fun _ F=>GV::F) := by
 refine CSpec.of_body Tryz.func17 rfl Tryz.ntmps17 rfl fun F => ?_
 show CJ _ _ _ _ _ _ (_::_::F)
 refine sR<|oO<|O_box rfl rfl rfl fun b1=>oA rfl<|oA rfl<|nT<|sR<|oV (zbq rfl foc0 Tryz.isAgg65 Tryz.sizeOf65 rfl rfl)<|oO<|zai ((c_Tree ns_vg ns_pv0)) rfl Tryz.call47 (Dels.cons del1 (dC_ del1)) rfl fun q9 hc6=>oM rfl<|oP (zaj rfl rfl)<|oP (zaj rfl rfl)<|oA rfl<|oA rfl<|nT<|zab<|sR<|oM rfl<|oP (P_neq rfl rfl)<|nT<|zap rfl dF_<|kT<|zab<|zbs (Ent.trans (t2_ (t2_ (t2_ (t2_ r_)))) fold4)<|zag<|oM rfl<|oO<|zai ((zz0 (tv:=q9.1) (mv:=q9.2.1) (sv:=q9.2.2.1) (kv:=q9.2.2.2))) rfl Tryz.call48 (Dels.cons del2 (dC_ del0)) rfl fun s9 hs9=>oP (zaj rfl rfl)<|oP (zaj rfl rfl)<|oA rfl<|oA rfl<|nT<|zaf<|zan (res2 Tryz.results17 rfl rfl)<|CSpec.close s9 ?_ ?_ (fun h hh=>zzz (e_ (e_ r_)) h (t1_ (t1_ r_) h hh))
 · rfl
 · exact hs9
end Go.Proofs
set_option linter.unusedSimpArgs false
set_option linter.unusedVariables false
set_option maxRecDepth 20000
set_option maxHeartbeats 4000000
namespace Go.Proofs
open Go.VG Ts
theorem load21 {W:World} {b1 b2 b3:Nat} : CSpec Tryz.prog W 13 [.slice (some ⟨b3,0,none⟩) 2 2] [blk b3 tyRow.T [.slice (some ⟨b1,0,none⟩) 2 2,.slice (some ⟨b2,0,none⟩) 2 2],blk b1 tyU.T [.int .u64 7,.int .u64 8],blk b2 tyU.T [.int .u64 7,.int .u64 8]] (fun x:Nat=>ptr x 0) (fun _=>True) (fun x F=>Arr x s21::F) :=
  CSpec.conseq (G:=[]) (pre:=[blk b3 tyRow.T [.slice (some ⟨b1,0,none⟩) 2 2,.slice (some ⟨b2,0,none⟩) 2 2],starX [blk b1 tyU.T [.int .u64 7,.int .u64 8],blk b2 tyU.T [.int .u64 7,.int .u64 8]]])
    (zit (Reads.lit (t:=tyRow) (ys:=[⟨some ⟨b1,0,none⟩,2,2⟩,⟨some ⟨b2,0,none⟩,2,2⟩]) rfl rfl (Nat.le_refl 2) (by decide) rfl)
      (RowsR.cons (Reads.lit (t:=tyU) (ys:=[7,8]) rfl rfl (Nat.le_refl 2) (show 2≤maxLen by decide) rfl) (RowsR.cons (Reads.lit (t:=tyU) (ys:=[7,8]) rfl rfl (Nat.le_refl 2) (show 2≤maxLen by decide) rfl) RowsR.nil)) zzr)
    (fun F _ hp=>zas (fun _ h=>(stars_starX (Hs:=[_,_])).2 h) hp) (fun x F _ hp=>(zby (zby hp)))
end Go.Proofs
set_option linter.unusedSimpArgs false
set_option maxRecDepth 20000
namespace Go.Proofs
open Go.VG Ts
theorem zie (v0:Int) (v1:Int):zbg Tryz.prog 44 2 [(0,.int .u64 v0),(1,.int .u64 v1)] 47 [.int .u64 v0,.int .u64 v1] := fun w=>by kernel_rfl
theorem zne (v0:(Option Addr)) (v1:Nat) (v2:Nat) (v3:(Option Addr)) (v4:Nat) (v5:Nat):zbg Tryz.prog 48 2 [(0,.slice v0 v1 v2),(1,.slice v3 v4 v5)] 44 [.slice v0 v1 v2,.slice v3 v4 v5] := fun w=>by kernel_rfl
theorem zog (v0:ByteArray) (v1:Int):∀ w,(Instr.build 60 (#[(0,.string v0),(3,.int .i64 v1)]:Array (Nat × Value))).run Tryz.prog w = .ok (.agg #[.string v0,.int .u64 0,.int .i64 0,.int .i64 v1,.bool false,.bool false,.slice none 0 0]) w := fun w=>by kernel_rfl
theorem zpi (v0:ByteArray) (v1:Int) (v2:Int) (v3:Int) (v4:Bool) (v5:Bool) (v6:(Option Addr)) (v7:Nat) (v8:Nat):zbg Tryz.prog 61 1 [(0,.agg #[.string v0,.int .u64 v1,.int .i64 v2,.int .i64 v3,.bool v4,.bool v5,.slice v6 v7 v8])] 60 [.string v0,.int .u64 v1,.int .i64 v2,.int .i64 v3,.bool v4,.bool v5,.slice v6 v7 v8] := fun w=>by kernel_rfl
theorem zml (v0:ByteArray) (v1:Int) (v2:(Option Addr)) (v3:Nat) (v4:Nat):∀ w,(Instr.build 65 (#[(0,.string v0),(3,.int .i64 v1),(6,.slice v2 v3 v4)]:Array (Nat × Value))).run Tryz.prog w = .ok (.agg #[.string v0,.int .u64 0,.int .i64 0,.int .i64 v1,.int .i64 0,.slice none 0 0,.slice v2 v3 v4,.slice none 0 0,.slice none 0 0]) w := fun w=>by kernel_rfl
theorem z2o {W:World}  :
    CSpec Tryz.prog W 5 [] [GV] (fun _:Unit => .bool true) (fun _=>True) (fun _ F=>GV::F) := by
 refine CSpec.of_body Tryz.func5 rfl Tryz.ntmps5 rfl fun F => ?_
 show CJ _ _ _ _ _ _ (_::F)
 refine sR<|oA rfl<|nT<|sR<|oO<|za4 rfl (zie _ _) rfl fun b1=>oO<|za4 rfl (zie _ _) rfl fun b2=>oO<|za4 rfl (zne _ _ _ _ _ _) rfl fun b3=>oO<|zai (load21) rfl Tryz.call13 (Dels.cons del0 (Dels.cons del1 (dC_ del0))) rfl fun a9 hc5=>oA rfl<|nT<|zab<|sR<|oM rfl<|oP (zhm rfl rfl Tryz.underlying33)<|nT<|zap rfl rfl<|kT<|sR<|oM rfl<|oO<|zai ((zi0 z1y)) rfl Tryz.call15 (dC_ del0) rfl fun q9 hc8=>oO<|zai ((open21 (lv:=q9.1) (hs:=q9.2))) rfl Tryz.call14 (Dels.cons del0 (Dels.cons del0 (dC_ del0))) rfl fun k9 hk9=>oM rfl<|oP (zaj rfl rfl)<|oP (zaj rfl rfl)<|oA rfl<|oA rfl<|nT<|zab<|sR<|oM rfl<|oP (P_neq rfl rfl)<|oM rfl ?_
 first | (refine zbu 22 rfl (fun hg1B hg1 => ?_) (fun hg1B hg1 => ?_)) | (refine zbv 22 rfl (fun hg1B hg1 => ?_) (fun hg1B hg1 => ?_)) | (refine zb3 22 rfl (fun hg1B => ?_) (fun hg1B => ?_))
 ·
  refine g_ rfl rfl rfl hg1B rfl<|g_ rfl rfl rfl hg1B rfl<|oP (zbe rfl hg1B rfl)<|nT<|za7 rfl rfl<|sR<|oA rfl<|nT<|zaf<|zak<|zan (res1 Tryz.results5 rfl)<|CSpec.close () ?_ ?_ (t1_ (e_ r_))
  · first | rfl | (exfalso; omega) | (simp; omega)
  · trivial
 ·
  refine p_ rfl rfl rfl hg1B (zae rfl)<|p_ rfl rfl rfl hg1B (zhm rfl rfl Tryz.underlying49)<|oP (za2 rfl hg1B rfl)<|nT<|zap rfl rfl<|kT<|sR<|oM rfl<|oO<|zai ((read21 hk9.1 hk9.2)) rfl Tryz.call16 (dC_ del0) rfl fun _ hc11=>oM rfl<|oP (zaj rfl rfl)<|oP (zaj rfl rfl)<|oA rfl<|oA rfl<|nT<|sR<|oP (zbk rfl (zog _ _))<|oO<|za4 rfl (zpi _ _ _ _ _ _ _ _ _) rfl fun b12=>zcg (Ent.trans r_ (zb5 (t:=zb4) (m:=1) [dk0] rfl rfl rfl (by decide)))<|oP (zbk rfl (zml _ _ _ _ _))<|oO<|zai ((c_Text (dv:=⟨some ⟨b12,0,none⟩,1,1⟩))) rfl Tryz.call17 (Dels.cons del0 (dC_ del0)) rfl fun s9 hs9=>oM rfl<|oP (zaj rfl rfl)<|oP (zaj rfl rfl)<|oA rfl<|oA rfl<|nT<|sR<|oM rfl<|oP (P_eql rfl rfl)<|oM rfl ?_
  first | (refine zbu 40 rfl (fun hg2B hg2 => ?_) (fun hg2B hg2 => ?_)) | (refine zbv 40 rfl (fun hg2B hg2 => ?_) (fun hg2B hg2 => ?_)) | (refine zb3 40 rfl (fun hg2B => ?_) (fun hg2B => ?_))
  ·
   refine p_ rfl rfl rfl hg2B (zae rfl)<|p_ rfl rfl rfl hg2B (P_eql rfl rfl)<|oP (zbe rfl hg2B rfl)<|oM rfl ?_
   first | (refine zbu 44 rfl (fun hg3B hg3 => ?_) (fun hg3B hg3 => ?_)) | (refine zbv 44 rfl (fun hg3B hg3 => ?_) (fun hg3B hg3 => ?_)) | (refine zb3 44 rfl (fun hg3B => ?_) (fun hg3B => ?_))
   ·
    refine p_ rfl rfl rfl hg3B (zae rfl)<|p_ rfl rfl rfl hg3B (P_eql rfl rfl)<|oP (zbe rfl hg3B rfl)<|oM rfl ?_
    first | (refine zbu 48 rfl (fun hg4B hg4 => ?_) (fun hg4B hg4 => ?_)) | (refine zbv 48 rfl (fun hg4B hg4 => ?_) (fun hg4B hg4 => ?_)) | (refine zb3 48 rfl (fun hg4B => ?_) (fun hg4B => ?_))
    ·
     refine p_ rfl rfl rfl hg4B (zae rfl)<|p_ rfl rfl rfl hg4B (zcn rfl Tryz.runUnderlying9)<|p_ rfl rfl rfl hg4B (P_gtr rfl rfl)<|oP (zbe rfl hg4B rfl)<|oA rfl<|nT<|zaf<|zan (res1 Tryz.results5 rfl)<|CSpec.close () ?_ ?_ r_
     · first | rfl | (exfalso; omega) | (simp; omega)
     · trivial
    ·
     refine g_ rfl rfl rfl hg4B rfl<|g_ rfl rfl rfl hg4B rfl<|g_ rfl rfl rfl hg4B rfl<|oP (za2 rfl hg4B rfl)<|oA rfl<|nT<|zaf<|zan (res1 Tryz.results5 rfl)<|CSpec.close () ?_ ?_ r_
     · first | rfl | (exfalso; omega) | (simp; omega)
     · trivial
   ·
    refine g_ rfl rfl rfl hg3B rfl<|g_ rfl rfl rfl hg3B rfl<|oP (za2 rfl hg3B rfl)<|oM rfl<|g_ rfl rfl rfl rfl rfl<|g_ rfl rfl rfl rfl rfl<|g_ rfl rfl rfl rfl rfl<|oP (za2 rfl rfl rfl)<|oA rfl<|nT<|zaf<|zan (res1 Tryz.results5 rfl)<|CSpec.close () ?_ ?_ r_
    · first | rfl | (exfalso; omega) | (simp; omega)
    · trivial
  ·
   refine g_ rfl rfl rfl hg2B rfl<|g_ rfl rfl rfl hg2B rfl<|oP (za2 rfl hg2B rfl)<|oM rfl<|g_ rfl rfl rfl rfl rfl<|g_ rfl rfl rfl rfl rfl<|oP (za2 rfl rfl rfl)<|oM rfl<|g_ rfl rfl rfl rfl rfl<|g_ rfl rfl rfl rfl rfl<|g_ rfl rfl rfl rfl rfl<|oP (za2 rfl rfl rfl)<|oA rfl<|nT<|zaf<|zan (res1 Tryz.results5 rfl)<|CSpec.close () ?_ ?_ r_
   · first | rfl | (exfalso; omega) | (simp; omega)
   · trivial
end Go.Proofs
set_option linter.unusedVariables false
namespace Go.Proofs
open Go.VG Ts Go.RowKit
theorem GV_of {w:World} (h0:∀ i u,(flat tyS sufL)[i]? = some u→zc9 (hp w) 0 i=some u):∀ h,oldR w h→GV h := by
  rintro h rfl i u hu
  have := h0 i u hu
  simpa only [zkf] using this
theorem awakeR {w W:World} (h0:∀ i u,(flat tyS sufL)[i]? = some u→zc9 (hp w) 0 i=some u):CSpec Tryz.prog W 5 [] [oldR w] (fun _:Unit => .bool true) (fun _=>True) (fun _ F=>oldR w::F) :=
  CSpec.conseq (G:=[oldR w]) z2o (fun F g hg=>by
    obtain ⟨h1,h2,d,e,hA,hr⟩ := zlk zr4 hg
    exact ⟨h1,h2,d,e,GV_of h0 _ hA,hr⟩) (fun _ F g hg=>zby hg)
theorem zz1 {w:World} {lv:Sl3} {sv:Value} {L:List Int} {ls:List StepV} (hA1:Reads (old w) tyI lv.v L) (hL:L.length≤9223372036854775807) (hA2:Reads (old w) tyStep sv ls) (h0:∀ i u,(flat tyS sufL)[i]? = some u→zc9 (hp w) 0 i=some u) :
    Calls Tryz.prog 3 #[lv.v,sv] w fun e w' => e = .returned (.bool true)∧Below w.heap.size w w' :=
  CSpec.lawN (args:=[lv.v,sv]) 3 (c_Top (V:=oldR w) hA1.oldR hL hA2.oldR (fun {W} => awakeR h0))
end Go.Proofs
