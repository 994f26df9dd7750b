/- TopStacks, part 8 of the proof: LTxt, PSpansA, PTs33, CTs24, CTs25, CTs26, CTs27, CTs28, CTs29, CTs30, CTs31. -/
import Derived.WalkKit
import Derived.Orders
import Derived.RangeFuncLeaves
import Derived.RangeFuncCalls
import Derived.TacticsIn
import Derived.Handy
import Derived.OrdersHeld
import Derived.OrdersIn
import Derived.Below
import Derived.OpenShut
import Derived.Deep.Slices
import Derived.Scope
import Derived.KernelRfl
import Derived.RangeFuncRecord
import Derived.ChangeKeysEq
import Derived.Laws.BytesArg
import Derived.Lib.Bytealg
import Derived.Lib.AppendStr
import Derived.Lib.Builder
import Derived.Lib.UnsafeStr
import Derived.ProofKit
import Derived.ShutString
import Derived.ChangeOld
import Derived.Stop.Joined
import Derived.LaidLaws
import Derived.LaidHandle
import Derived.MakeChecks
import Derived.SevenTiedAt
import Derived.Test.YthfaiagepigmcaaGreatDoorChecked
import Derived.Test.YthfaiagepigmcaaGreatDoorRows
import Derived.Test.YthfaiagepigmcaaGreatDoorZTopStacks7
set_option linter.unusedSimpArgs false
set_option linter.unusedVariables false
set_option maxRecDepth 20000
set_option maxHeartbeats 4000000
namespace Go.Proofs
open Go.VG
abbrev zc4:Ty UInt64 := { tyU with T := 320 }
abbrev zka:Ty UInt8 := { tyU8 with T := 268 }
theorem zk2 (v0:Int):zbg Tryz.prog 179 1 [(0,.int .u8 v0)] 5 [.int .u8 v0] := fun w=>by kernel_rfl
theorem zmg (v0:Int) (v1:Int):zbg Tryz.prog 179 2 [(0,.int .u8 v0),(1,.int .u8 v1)] 5 [.int .u8 v0,.int .u8 v1] := fun w=>by kernel_rfl
def zey (s_0:ByteArray) (suffix_1:ByteArray):Option (Bool) :=
  if (((suffix_1.size:Nat):Int)≤((s_0.size:Nat):Int)) then
    grd (inI64 ((((s_0.size:Nat):Int) - ((suffix_1.size:Nat):Int)))) <|
    lt ((zd2 s_0 (((((s_0.size:Nat):Int) - ((suffix_1.size:Nat):Int))).toNat) s_0.size)) fun w1 =>
    some ((decide (w1=suffix_1)))
  else
    some false
theorem zi2 {W:World} {s_0:ByteArray} {suffix_1:ByteArray} {r:Bool} (h:zey s_0 suffix_1=some r) :
    CSpec Tryz.prog W 223 [.string s_0,.string suffix_1] [] (fun x:Unit => .bool r) (fun _=>True) (fun x F=>F) := by
 refine CSpec.of_body Tryz.func223 rfl Tryz.ntmps223 rfl fun F => ?_
 show CJ _ _ _ _ _ _ (F)
 unfold zey at h
 refine sR<|oA rfl<|nT<|sR<|oM rfl<|oP (zcn (b:=s_0) rfl Tryz.runUnderlying9)<|oM rfl<|oP (zcn (b:=suffix_1) rfl Tryz.runUnderlying9)<|oP (P_geq (a:=((s_0.size:Nat):Int)) (b:=((suffix_1.size:Nat):Int)) rfl rfl)<|oM rfl<|zeb 10 rfl zaq (fun hg1B hg1 => ?_) (fun hg1B hg1 => ?_)
 ·
  replace h := ite_t hg1 h
  refine p_ rfl rfl rfl hg1B (zae rfl)<|p_ rfl rfl rfl hg1B (zae rfl)<|p_ rfl rfl rfl hg1B (zcn (b:=s_0) rfl Tryz.runUnderlying9)<|p_ rfl rfl rfl hg1B (zae rfl)<|p_ rfl rfl rfl hg1B (zcn (b:=suffix_1) rfl Tryz.runUnderlying9) ?_
  obtain ⟨hg2,h⟩ := zcm h
  refine p_ rfl rfl rfl hg1B (P_sub (a:=((s_0.size:Nat):Int)) (b:=((suffix_1.size:Nat):Int)) rfl rfl hg2)<|p_ rfl rfl rfl hg1B (zeg (b:=s_0) (l:=((((s_0.size:Nat):Int) - ((suffix_1.size:Nat):Int))).toNat) (h:=s_0.size) rfl ⟨_,by rw [Int.toNat_of_nonneg (by omega)]; exact rfl⟩ rfl (by omega) (by omega) Tryz.runUnderlying9) ?_
  obtain ⟨w1,hw1,h⟩ := lt_e h
  rw [← hw1]
  refine p_ rfl rfl rfl hg1B (zae rfl)<|p_ rfl rfl rfl hg1B (zis (a:=w1) (b:=suffix_1) rfl rfl Tryz.underlying9)<|oP (zbe rfl hg1B rfl)<|oA rfl<|nT<|zaf ?_
  cases h
  exact fE (res1 Tryz.results223 rfl) () r_
 ·
  replace h := ite_f hg1 h
  refine g_ rfl rfl rfl hg1B rfl<|g_ rfl rfl rfl hg1B rfl<|g_ rfl rfl rfl hg1B rfl<|g_ rfl rfl rfl hg1B rfl<|g_ rfl rfl rfl hg1B rfl<|g_ rfl rfl rfl hg1B rfl<|g_ rfl rfl rfl hg1B rfl<|g_ rfl rfl rfl hg1B rfl<|g_ rfl rfl rfl hg1B rfl<|oP (za2 rfl hg1B rfl)<|oA rfl<|nT<|zaf ?_
  cases h
  exact fE (res1 Tryz.results223 rfl) () r_
def zez (s_0:ByteArray) (suffix_1:ByteArray):Option (ByteArray × Bool) :=
  Option.bind (zey s_0 suffix_1) fun r1 =>
  if (¬ r1=true) then
    some (s_0,false)
  else
    grd (inI64 ((((s_0.size:Nat):Int) - ((suffix_1.size:Nat):Int)))) <|
    grd (decide (0≤(((s_0.size:Nat):Int) - ((suffix_1.size:Nat):Int))∧0≤((((s_0.size:Nat):Int) - ((suffix_1.size:Nat):Int))).toNat∧((((s_0.size:Nat):Int) - ((suffix_1.size:Nat):Int))).toNat≤s_0.size)) <|
    lt ((zd2 s_0 0 (((((s_0.size:Nat):Int) - ((suffix_1.size:Nat):Int))).toNat))) fun w3 =>
    some (w3,true)
theorem zi3 {W:World} {s_0:ByteArray} {suffix_1:ByteArray} {r:ByteArray × Bool} (h:zez s_0 suffix_1=some r) :
    CSpec Tryz.prog W 214 [.string s_0,.string suffix_1] [] (fun x:Unit => .tuple #[.string r.1,.bool r.2]) (fun _=>True) (fun x F=>F) := by
 refine CSpec.of_body Tryz.func214 rfl Tryz.ntmps214 rfl fun F => ?_
 show CJ _ _ _ _ _ _ (F)
 unfold zez at h
 refine sR<|oA rfl<|oA rfl<|nT<|zab<|sR<|oM rfl<|oM rfl ?_
 obtain ⟨r1,hr2,h⟩ := zb9 h
 refine oO<|zai (zi2 hr2) rfl Tryz.call223 Dels.nil rfl fun _ _=>oP (P_not rfl)<|nT<|zbt rfl (zh1 Iff.rfl) (fun hg1 => ?_) (fun hg1 => ?_)
 ·
  replace h := ite_t hg1 h
  refine sR<|oM rfl<|oA rfl<|oA rfl<|nT<|zaf<|zak ?_
  cases h
  exact fE (res2 Tryz.results214 rfl rfl) () r_
 ·
  replace h := ite_f hg1 h
  refine kT<|sR<|oM rfl<|oM rfl<|oP (zcn (b:=s_0) rfl Tryz.runUnderlying9)<|oM rfl<|oP (zcn (b:=suffix_1) rfl Tryz.runUnderlying9) ?_
  obtain ⟨hg2,h⟩ := zcm h
  refine oP (P_sub (a:=((s_0.size:Nat):Int)) (b:=((suffix_1.size:Nat):Int)) rfl rfl hg2) ?_
  obtain ⟨hg3,h⟩ := zck h
  refine oP (zeg (b:=s_0) (l:=0) (h:=((((s_0.size:Nat):Int) - ((suffix_1.size:Nat):Int))).toNat) rfl rfl ⟨_,by rw [Int.toNat_of_nonneg (by omega)]; exact rfl⟩ (by omega) (by omega) Tryz.runUnderlying9) ?_
  obtain ⟨w3,hw3,h⟩ := lt_e h
  rw [← hw3]
  refine oA rfl<|oA rfl<|nT<|zaf ?_
  cases h
  exact fE (res2 Tryz.results214 rfl rfl) () r_
def zen (s_0:ByteArray) (suffix_1:ByteArray):Option (ByteArray × Bool) :=
  Option.bind (zez s_0 suffix_1) fun r1 =>
  some (r1.1,r1.2)
theorem zhe {W:World} {s_0:ByteArray} {suffix_1:ByteArray} {r:ByteArray × Bool} (h:zen s_0 suffix_1=some r) :
    CSpec Tryz.prog W 191 [.string s_0,.string suffix_1] [] (fun x:Unit => .tuple #[.string r.1,.bool r.2]) (fun _=>True) (fun x F=>F) := by
 refine CSpec.of_body Tryz.func191 rfl Tryz.ntmps191 rfl fun F => ?_
 show CJ _ _ _ _ _ _ (F)
 unfold zen at h
 refine sR<|oA rfl<|oA rfl<|nT<|sR<|oM rfl<|oM rfl ?_
 obtain ⟨r1,hr2,h⟩ := zb9 h
 refine oO<|zai (zi3 hr2) rfl Tryz.call214 Dels.nil rfl fun _ _=>oP (zaj rfl rfl)<|oP (zaj rfl rfl)<|oA rfl<|oA rfl<|nT<|zaf ?_
 cases h
 exact fE (res2 Tryz.results191 rfl rfl) () r_
def zdo (s_0:ByteArray) (prefix_1:ByteArray):Option (Bool) :=
  if (((prefix_1.size:Nat):Int)≤((s_0.size:Nat):Int)) then
    some ((decide ((zd2 s_0 0 prefix_1.size)=prefix_1)))
  else
    some false
theorem zf9 {W:World} {s_0:ByteArray} {prefix_1:ByteArray} {r:Bool} (h:zdo s_0 prefix_1=some r) :
    CSpec Tryz.prog W 207 [.string s_0,.string prefix_1] [] (fun x:Unit => .bool r) (fun _=>True) (fun x F=>F) := by
 refine CSpec.of_body Tryz.func207 rfl Tryz.ntmps207 rfl fun F => ?_
 show CJ _ _ _ _ _ _ (F)
 unfold zdo at h
 refine sR<|oA rfl<|nT<|sR<|oM rfl<|oP (zcn (b:=s_0) rfl Tryz.runUnderlying9)<|oM rfl<|oP (zcn (b:=prefix_1) rfl Tryz.runUnderlying9)<|oP (P_geq (a:=((s_0.size:Nat):Int)) (b:=((prefix_1.size:Nat):Int)) rfl rfl)<|oM rfl<|zeb 10 rfl zaq (fun hg1B hg1 => ?_) (fun hg1B hg1 => ?_)
 ·
  replace h := ite_t hg1 h
  refine p_ rfl rfl rfl hg1B (zae rfl)<|p_ rfl rfl rfl hg1B (zae rfl)<|p_ rfl rfl rfl hg1B (zcn (b:=prefix_1) rfl Tryz.runUnderlying9)<|p_ rfl rfl rfl hg1B (zeg (b:=s_0) (l:=0) (h:=prefix_1.size) rfl rfl ⟨_,rfl⟩ (by omega) (by omega) Tryz.runUnderlying9)<|p_ rfl rfl rfl hg1B (zae rfl)<|p_ rfl rfl rfl hg1B (zis (a:=(zd2 s_0 0 prefix_1.size)) (b:=prefix_1) rfl rfl Tryz.underlying9)<|oP (zbe rfl hg1B rfl)<|oA rfl<|nT<|zaf ?_
  cases h
  exact fE (res1 Tryz.results207 rfl) () r_
 ·
  replace h := ite_f hg1 h
  refine g_ rfl rfl rfl hg1B rfl<|g_ rfl rfl rfl hg1B rfl<|g_ rfl rfl rfl hg1B rfl<|g_ rfl rfl rfl hg1B rfl<|g_ rfl rfl rfl hg1B rfl<|g_ rfl rfl rfl hg1B rfl<|oP (za2 rfl hg1B rfl)<|oA rfl<|nT<|zaf ?_
  cases h
  exact fE (res1 Tryz.results207 rfl) () r_
def zej (s_0:ByteArray) (prefix_1:ByteArray):Option (ByteArray) :=
  Option.bind (zdo s_0 prefix_1) fun r1 =>
  if r1=true then
    grd (decide (prefix_1.size≤s_0.size∧s_0.size≤s_0.size)) <|
    some (zd2 s_0 prefix_1.size s_0.size)
  else
    some s_0
theorem ziw {W:World} {s_0:ByteArray} {prefix_1:ByteArray} {r:ByteArray} (h:zej s_0 prefix_1=some r) :
    CSpec Tryz.prog W 229 [.string s_0,.string prefix_1] [] (fun x:Unit => .string r) (fun _=>True) (fun x F=>F) := by
 refine CSpec.of_body Tryz.func229 rfl Tryz.ntmps229 rfl fun F => ?_
 show CJ _ _ _ _ _ _ (F)
 unfold zej at h
 refine sR<|oA rfl<|nT<|zab<|sR<|oM rfl<|oM rfl ?_
 obtain ⟨r1,hr2,h⟩ := zb9 h
 refine oO<|zai (zf9 hr2) rfl Tryz.call207 Dels.nil rfl fun _ _=>nT<|zbt rfl Iff.rfl (fun hg1 => ?_) (fun hg1 => ?_)
 ·
  replace h := ite_t hg1 h
  refine sR<|oM rfl<|oM rfl<|oP (zcn (b:=prefix_1) rfl Tryz.runUnderlying9) ?_
  obtain ⟨hg2,h⟩ := zck h
  refine oP (zeg (b:=s_0) (l:=prefix_1.size) (h:=s_0.size) rfl ⟨_,rfl⟩ rfl (by omega) (by omega) Tryz.runUnderlying9)<|oA rfl<|nT<|zaf<|zak ?_
  cases h
  exact fE (res1 Tryz.results229 rfl) () r_
 ·
  replace h := ite_f hg1 h
  refine kT<|sR<|oM rfl<|oA rfl<|nT<|zaf ?_
  cases h
  exact fE (res1 Tryz.results229 rfl) () r_
def zfy (s_0:ByteArray) (prefix_1:ByteArray):Option (ByteArray) :=
  Option.bind (zej s_0 prefix_1) fun r1 =>
  some r1
theorem zk3 {W:World} {s_0:ByteArray} {prefix_1:ByteArray} {r:ByteArray} (h:zfy s_0 prefix_1=some r) :
    CSpec Tryz.prog W 225 [.string s_0,.string prefix_1] [] (fun x:Unit => .string r) (fun _=>True) (fun x F=>F) := by
 refine CSpec.of_body Tryz.func225 rfl Tryz.ntmps225 rfl fun F => ?_
 show CJ _ _ _ _ _ _ (F)
 unfold zfy at h
 refine sR<|oA rfl<|nT<|sR<|oM rfl<|oM rfl ?_
 obtain ⟨r1,hr2,h⟩ := zb9 h
 refine oO<|zai (ziw hr2) rfl Tryz.call229 Dels.nil rfl fun _ _=>oA rfl<|nT<|zaf ?_
 cases h
 exact fE (res1 Tryz.results225 rfl) () r_
def zgp (r1:ByteArray) (rec:Nat→Int→Option ((Int) ⊕ (Int × Bool))) (x24:Nat) (x25:Int):Option ((Int) ⊕ (Int × Bool)) :=
  if (((x24:Nat):Int) < ((r1.size:Nat):Int)) then
    if ((((strAt r1 x24).toNat:Int) < ((48:UInt8).toNat:Int))∨(((57:UInt8).toNat:Int) < ((strAt r1 x24).toNat:Int))) then
      some (.inr (((0:Int),false)))
    else
      grd (inI64 (((10:Int) * x25))) <|
      grd (inI64 ((((10:Int) * x25) + (((((strAt r1 x24) - (48:UInt8))).toNat:Nat):Int)))) <|
      lt ((min ((((10:Int) * x25) + (((((strAt r1 x24) - (48:UInt8))).toNat:Nat):Int))) (9007199254740993:Int))) fun w34 =>
      grd (inN64 (x24 + 1)) <|
      rec (x24 + 1) w34
  else
    some (.inl x25)
def zf7 (r1:ByteArray):Nat→Nat→Int→Option ((Int) ⊕ (Int × Bool))
  | 0,_,_=>none
  | n + 1,x24,x25=>zgp r1 (zf7 r1 n) x24 x25
def zc3 (word:ByteArray):Option (Int × Bool) :=
  Option.bind (zfy word (ByteArray.mk #[45])) fun r1 =>
  grd (decide ((¬ (r1=(ByteArray.mk #[])))→0 < r1.size)) <|
  if ((r1=(ByteArray.mk #[]))∨(((strAt r1 0)=(48:UInt8))∧(word≠(ByteArray.mk #[48])))) then
    some (((0:Int),false))
  else
    seqO (zf7 r1 FUEL 0 (0:Int)) fun a23 =>
    if (r1≠word) then
      grd (inI64 (0 - a23)) <|
      some (((0 - a23),true))
    else
      some (a23,true)
theorem zrf {W:World} {word:ByteArray} {r:Int × Bool} (h:zc3 word=some r) :
    CSpec Tryz.prog W 217 [.string word] [] (fun x:Unit => .tuple #[.int .i64 r.1,.bool r.2]) (fun _=>True) (fun x F=>F) := by
 refine CSpec.of_body Tryz.func217 rfl Tryz.ntmps217 rfl fun F => ?_
 show CJ _ _ _ _ _ _ (F)
 unfold zc3 at h
 refine sR<|oA rfl<|oA rfl<|nT<|sR<|oM rfl ?_
 obtain ⟨r1,hr2,h⟩ := zb9 h
 refine oO<|zai (zk3 hr2) rfl Tryz.call225 Dels.nil rfl fun _ _=>oA rfl<|nT<|zab<|sR<|oM rfl<|oP (zis (a:=r1) (b:=(ByteArray.mk #[])) rfl rfl Tryz.underlying9)<|oM rfl<|zb7 rfl rfl rfl (fun hG3=>have hP4:¬ (r1=(ByteArray.mk #[])) := nP (zaq) hG3; VJ_P (zae rfl)) ?_
 obtain ⟨hg1,h⟩ := zck h
 refine zb7 rfl rfl rfl (fun hG5=>have hP6:¬ (r1=(ByteArray.mk #[])) := nP (zaq) hG5; VJ_P (zcz (b:=r1) (i:=0) (mbx hG5 rfl) rfl rfl (hg1 hP6) Tryz.runUnderlying9))<|zb7 rfl rfl rfl (fun hG7=>have hP8:¬ (r1=(ByteArray.mk #[])) := nP (zaq) hG7; VJ_P (zmo (a:=(strAt r1 0)) (b:=(48:UInt8)) (mbx hG7 rfl) rfl))<|zb7 rfl rfl rfl (fun hG9=>have hP10:¬ (r1=(ByteArray.mk #[])) := nP (zaq) hG9; VJ_P (zae (mbx hG9 rfl)))<|zin rfl rfl rfl (fun hG11=>have hP12:¬ (r1=(ByteArray.mk #[])) := nP (zaq) (and_l hG11); have hP13:((strAt r1 0)=(48:UInt8)) := (zaq).1 (and_r hG11); VJ_P (zae rfl))<|zin rfl rfl rfl (fun hG14=>have hP15:¬ (r1=(ByteArray.mk #[])) := nP (zaq) (and_l hG14); have hP16:((strAt r1 0)=(48:UInt8)) := (zaq).1 (and_r hG14); VJ_P (zgk (a:=word) (b:=(ByteArray.mk #[48])) (mbx hG14 rfl) rfl Tryz.underlying9))<|zb7 rfl rfl rfl (fun hG17=>have hP18:¬ (r1=(ByteArray.mk #[])) := nP (zaq) hG17; VJ_P (zci (mbx hG17 rfl) (fun hh=>mbx (and_i hG17 hh) rfl) rfl))<|oP (zfq rfl rfl (fun hh=>mbx (not_f hh) rfl))<|nT<|zbt rfl (bT_or zaq (zbf zaq zaq)) (fun hg2 => ?_) (fun hg2 => ?_)
 ·
  replace h := ite_t hg2 h
  refine sR<|oA rfl<|oA rfl<|nT<|zaf<|zak ?_
  cases h
  exact fE (res2 Tryz.results217 rfl rfl) () r_
 ·
  replace h := ite_f hg2 h
  refine kT<|sR<|oA rfl<|nT<|zab<|sR<|oM rfl<|oP (zcn (b:=r1) rfl Tryz.runUnderlying9)<|oM rfl<|nT ?_
  obtain ⟨y21,hl19,hK20⟩ := seq_e h
  refine zdg (X:=Int) [2,3,5,6,22,23,24,25,26,27,28,29,30,31,32,33,34,35,36,37,38,39,40,41,42,43,44] (fun a23=>([(5,.int .i64 a23)]:Slots)) (fun a23 R=>R) (fun a23=>y21 = .inl a23) Dels.nil ?_ ?_
  ·
   refine zao<|za8 (X:=Nat × Nat × Int) [2,3,5,6,22,23,24,25,26,27,28,29,30,31,32,33,34,35,36,37,38,39,40,41,42,43,44] (fun ⟨n,x24,x25⟩=>([(5,.int .i64 x25),(22,.int .i64 (((x24:Nat):Int)))]:Slots)) (fun ⟨n,x24,x25⟩ R=>R) (fun ⟨n,x24,x25⟩=>zf7 r1 n x24 x25=some y21) (fun ⟨n,x24,x25⟩=>n) ⟨FUEL,0,(0:Int)⟩ ?_ ?_ r_ ?_
   · exact hl19
   · exact ⟨rfl,rfl,True.intro⟩
   ·
    rintro ⟨n,x24,x25⟩ h
    cases n with
    | zero=>exact zdr h
    | succ n => ?_
    replace h:zgp r1 (zf7 r1 n) x24 x25=some y21 := h
    unfold zgp at h
    show CJ _ _ _ _ _ (([(5,.int .i64 x25),(22,.int .i64 (((x24:Nat):Int)))]:Slots) ++ forget _ _) (_)
    refine sR<|oP (P_lss (a:=((x24:Nat):Int)) (b:=((r1.size:Nat):Int)) rfl rfl)<|nT<|zab<|zbt rfl zaq (fun hg3 => ?_) (fun hg3 => ?_)
    ·
     replace h := ite_t hg3 h
     refine kT<|zab<|zao<|sR<|oM rfl<|oA rfl<|nT<|zab<|sR<|oM rfl<|oM rfl<|oP (zcz (b:=r1) (i:=x24) rfl rfl rfl (by omega) Tryz.runUnderlying9)<|oP (P_lss (a:=((strAt r1 x24).toNat:Int)) (b:=((48:UInt8).toNat:Int)) rfl rfl)<|oM rfl<|zb7 rfl rfl rfl (fun hG26=>have hP27:¬ (((strAt r1 x24).toNat:Int) < ((48:UInt8).toNat:Int)) := nP (zaq) hG26; VJ_P (zae rfl))<|zb7 rfl rfl rfl (fun hG28=>have hP29:¬ (((strAt r1 x24).toNat:Int) < ((48:UInt8).toNat:Int)) := nP (zaq) hG28; VJ_P (zae rfl))<|zb7 rfl rfl rfl (fun hG30=>have hP31:¬ (((strAt r1 x24).toNat:Int) < ((48:UInt8).toNat:Int)) := nP (zaq) hG30; VJ_P (zcz (b:=r1) (i:=x24) (mbx hG30 rfl) (mbx hG30 rfl) rfl (by omega) Tryz.runUnderlying9))<|zb7 rfl rfl rfl (fun hG32=>have hP33:¬ (((strAt r1 x24).toNat:Int) < ((48:UInt8).toNat:Int)) := nP (zaq) hG32; VJ_P (P_gtr (a:=((strAt r1 x24).toNat:Int)) (b:=((57:UInt8).toNat:Int)) (mbx hG32 rfl) rfl))<|oP (zfq rfl rfl (fun hh=>mbx (not_f hh) rfl))<|nT<|zbt rfl (bT_or zaq zaq) (fun hg4 => ?_) (fun hg4 => ?_)
     ·
      replace h := ite_t hg4 h
      refine sR<|oA rfl<|oA rfl<|nT<|zaf<|zak<|zax<|zak<|zbm<|zax<|zak ?_
      have hE := Option.some.inj h
      replace hE := zf2 hK20 hE.symm
      subst hE
      exact fE (res2 Tryz.results217 rfl rfl) () r_
     ·
      replace h := ite_f hg4 h
      refine kT<|zag<|oM rfl ?_
      obtain ⟨hg5,h⟩ := zcm h
      refine oP (P_mul (a:=(10:Int)) (b:=x25) rfl rfl hg5)<|oM rfl<|oM rfl<|oP (zcz (b:=r1) (i:=x24) rfl rfl rfl (by omega) Tryz.runUnderlying9)<|oP (zrv (a:=(strAt r1 x24)) (b:=(48:UInt8)) rfl rfl)<|oP (zif rfl Tryz.runUnderlying5 Tryz.runUnderlying3 (zxs _ (by have h9 := (((strAt r1 x24) - (48:UInt8))).toNat_lt; exact (by omega:(((strAt r1 x24) - (48:UInt8))).toNat < 9223372036854775808)))) ?_
      obtain ⟨hg6,h⟩ := zcm h
      refine oP (P_add (a:=((10:Int) * x25)) (b:=(((((strAt r1 x24) - (48:UInt8))).toNat:Nat):Int)) rfl rfl hg6)<|oP (P_min (a:=(((10:Int) * x25) + (((((strAt r1 x24) - (48:UInt8))).toNat:Nat):Int))) (b:=(9007199254740993:Int)) rfl rfl) ?_
      obtain ⟨w34,hw34,h⟩ := lt_e h
      rw [← hw34]
      refine oA rfl<|za0<|zah<|zar<|zag ?_
      obtain ⟨hg7,h⟩ := zg5 h
      exact oP (PJ_eq (P_add (a:=((x24:Nat):Int)) (b:=(1:Int)) rfl rfl (zg6 hg7)) rfl)<|oM rfl<|za0<|nR ⟨n,(x24 + 1),w34⟩ h ⟨rfl,rfl,True.intro⟩ r_
    ·
     replace h := ite_f hg3 h
     exact zbc<|zay<|zau<|zat<|cR x25 (Option.some.inj h).symm ⟨rfl,True.intro⟩ r_
  ·
   rintro a23 hy35
   replace h := zgs hK20 hy35
   show CJ _ _ _ _ _ (([(5,.int .i64 a23)]:Slots) ++ forget _ _) (_)
   refine zab<|sR<|oM rfl<|oM rfl<|oP (zgk (a:=r1) (b:=word) rfl rfl Tryz.underlying9)<|nT<|zbt rfl zaq (fun hg8 => ?_) (fun hg8 => ?_)
   ·
    replace h := ite_t hg8 h
    refine zag<|oM rfl ?_
    obtain ⟨hg9,h⟩ := zcm h
    refine oP (P_neg rfl hg9)<|oA rfl<|nT<|sR<|oM rfl<|oA rfl<|oA rfl<|nT<|zaf ?_
    cases h
    exact fE (res2 Tryz.results217 rfl rfl) () r_
   ·
    replace h := ite_f hg8 h
    refine kT<|sR<|oM rfl<|oA rfl<|oA rfl<|nT<|zaf ?_
    cases h
    exact fE (res2 Tryz.results217 rfl rfl) () r_
def zgq (s_0:ByteArray) (rec:Nat→(List UInt8)→Option (((List UInt8)) ⊕ (ByteArray × Int))) (x8:Nat) (x9:List UInt8):Option (((List UInt8)) ⊕ (ByteArray × Int)) :=
  if (((x8:Nat):Int) < ((s_0.size:Nat):Int)) then
    if ((strAt s_0 x8)=(10:UInt8)) then
      grd (inLen (x9.length + 2)) <|
      grd (inN64 (x8 + 1)) <|
      rec (x8 + 1) ((x9 ++ [(92:UInt8),(110:UInt8)]))
    else
      if ((((strAt s_0 x8).toNat:Int) < ((32:UInt8).toNat:Int))∨(((126:UInt8).toNat:Int) < ((strAt s_0 x8).toNat:Int))) then
        some (.inr (((ByteArray.mk #[]),(2:Int))))
      else
        if (((strAt s_0 x8)=(34:UInt8))∨((strAt s_0 x8)=(92:UInt8))) then
          grd (inLen (x9.length + 2)) <|
          grd (inN64 (x8 + 1)) <|
          rec (x8 + 1) ((x9 ++ [(92:UInt8),(strAt s_0 x8)]))
        else
          grd (inLen (x9.length + 1)) <|
          grd (inN64 (x8 + 1)) <|
          rec (x8 + 1) ((x9 ++ [(strAt s_0 x8)]))
  else
    some (.inl x9)
def zf8 (s_0:ByteArray):Nat→Nat→(List UInt8)→Option (((List UInt8)) ⊕ (ByteArray × Int))
  | 0,_,_=>none
  | n + 1,x8,x9=>zgq s_0 (zf8 s_0 n) x8 x9
def zek (s_0:ByteArray):Option (ByteArray × Int) :=
  seqO (zf8 s_0 FUEL 0 ([(34:UInt8)])) fun a7 =>
  grd (inLen (a7.length + 1)) <|
  some (((strOf ((a7 ++ [(34:UInt8)]))),(0:Int)))
theorem zld {W:World} {s_0:ByteArray} {r:ByteArray × Int} (h:zek s_0=some r) :
    CSpec Tryz.prog W 116 [.string s_0] [] (fun x:Unit => .tuple #[.string r.1,.int .i64 r.2]) (fun _=>True) (fun x F=>F) := by
 refine CSpec.of_body Tryz.func116 rfl Tryz.ntmps116 rfl fun F => ?_
 show CJ _ _ _ _ _ _ (F)
 unfold zek at h
 refine sR<|oA rfl<|oA rfl<|nT<|sR<|oO<|za4 rfl (zk2 _) rfl fun b1=>zcg (Ent.trans r_ (zb5 (t:=tyU8) (m:=1) [(34:UInt8)] rfl rfl rfl (by decide)))<|oA rfl<|nT<|zab<|sR<|oM rfl<|oP (zcn (b:=s_0) rfl Tryz.runUnderlying9)<|oM rfl<|nT ?_
 obtain ⟨y4,hl2,hK3⟩ := seq_e h
 refine zdg (X:=(List UInt8) × Sl3) [2,3,4,5,6,10,11,12,13,14,15,16,17,18,19,20,21,22,23,24,25,26,27,28,29,30,31,32,33,34,35,36,37,38,39,40,41,42,43,44] (fun ⟨a7,hd6⟩=>([(4,hd6.v)]:Slots)) (fun ⟨a7,hd6⟩ R=>sl tyU8 hd6.v a7::R) (fun ⟨a7,hd6⟩=>y4 = .inl a7) (dC_ del0) ?_ ?_
 ·
  refine zao<|za8 (X:=Nat × Nat × (List UInt8) × Sl3) [2,3,4,5,6,10,11,12,13,14,15,16,17,18,19,20,21,22,23,24,25,26,27,28,29,30,31,32,33,34,35,36,37,38,39,40,41,42,43,44] (fun ⟨n,x8,x9,hd10⟩=>([(4,hd10.v),(10,.int .i64 (((x8:Nat):Int)))]:Slots)) (fun ⟨n,x8,x9,hd10⟩ R=>sl tyU8 hd10.v x9::R) (fun ⟨n,x8,x9,hd10⟩=>zf8 s_0 n x8 x9=some y4) (fun ⟨n,x8,x9,hd10⟩=>n) ⟨FUEL,0,[(34:UInt8)],⟨some ⟨b1,0,none⟩,1,1⟩⟩ ?_ ?_ r_ ?_
  · exact hl2
  · exact ⟨rfl,rfl,True.intro⟩
  ·
   rintro ⟨n,x8,x9,hd10⟩ h
   cases n with
   | zero=>exact zdr h
   | succ n => ?_
   replace h:zgq s_0 (zf8 s_0 n) x8 x9=some y4 := h
   unfold zgq at h
   show CJ _ _ _ _ _ (([(4,hd10.v),(10,.int .i64 (((x8:Nat):Int)))]:Slots) ++ forget _ _) (sl tyU8 hd10.v x9::_)
   refine lC del0 fun hlen11=>sR<|oP (P_lss (a:=((x8:Nat):Int)) (b:=((s_0.size:Nat):Int)) rfl rfl)<|nT<|zab<|zbt rfl zaq (fun hg1 => ?_) (fun hg1 => ?_)
   ·
    replace h := ite_t hg1 h
    refine kT<|zab<|zao<|sR<|oM rfl<|oA rfl<|nT<|sR<|oM rfl<|oM rfl<|oP (zcz (b:=s_0) (i:=x8) rfl rfl rfl (by omega) Tryz.runUnderlying9)<|oA rfl<|nT<|zao<|sR<|oM rfl<|oP (zmo (a:=(strAt s_0 x8)) (b:=(10:UInt8)) rfl rfl)<|oA rfl<|nT<|zbt rfl zaq (fun hg2 => ?_) (fun hg2 => ?_)
    ·
     replace h := ite_t hg2 h
     refine zag<|oM rfl<|oO<|za4 rfl (zmg _ _) rfl fun b12 => ?_
     obtain ⟨hg3,h⟩ := zgg h
     refine oO<|zb1 (t:=tyU8) (bytes:=1) rfl rfl del1 foc0 (Reads.lit (t:=tyU8) (ys:=[(92:UInt8),(110:UInt8)]) rfl rfl (by decide) (by decide) rfl) Tryz.underlying179 zjx (apl (m:=2) (b:=1) hg3 (by decide)).1 (apl (m:=2) (b:=1) hg3 (by decide)).2 rfl fun p14 c15=>oA rfl<|za0<|zah<|zah<|zar<|zag ?_
     obtain ⟨hg4,h⟩ := zg5 h
     exact oP (PJ_eq (P_add (a:=((x8:Nat):Int)) (b:=(1:Int)) rfl rfl (zg6 hg4)) rfl)<|oM rfl<|za0<|nR ⟨n,(x8 + 1),(x9 ++ [(92:UInt8),(110:UInt8)]),⟨p14,(x9 ++ [(92:UInt8),(110:UInt8)]).length,c15⟩⟩ h ⟨rfl,rfl,True.intro⟩ (t0_ (e_ r_))
    ·
     replace h := ite_f hg2 h
     refine sR<|oM rfl<|oP (P_lss (a:=((strAt s_0 x8).toNat:Int)) (b:=((32:UInt8).toNat:Int)) rfl rfl)<|oM rfl<|zb7 rfl rfl rfl (fun hG16=>have hP17:¬ (((strAt s_0 x8).toNat:Int) < ((32:UInt8).toNat:Int)) := nP (zaq) hG16; VJ_P (zae rfl))<|zb7 rfl rfl rfl (fun hG18=>have hP19:¬ (((strAt s_0 x8).toNat:Int) < ((32:UInt8).toNat:Int)) := nP (zaq) hG18; VJ_P (P_gtr (a:=((strAt s_0 x8).toNat:Int)) (b:=((126:UInt8).toNat:Int)) (mbx hG18 rfl) rfl))<|oP (zfq rfl rfl (fun hh=>mbx (not_f hh) rfl))<|oA rfl<|nT<|zbt rfl (bT_or zaq zaq) (fun hg5 => ?_) (fun hg5 => ?_)
     ·
      replace h := ite_t hg5 h
      refine sR<|oA rfl<|oA rfl<|nT<|zaf<|zax<|zax<|zak<|zbm<|zax<|zak ?_
      have hE := Option.some.inj h
      replace hE := zf2 hK3 hE.symm
      subst hE
      exact fE (res2 Tryz.results116 rfl rfl) () (e_ r_)
     ·
      replace h := ite_f hg5 h
      refine sR<|oM rfl<|oP (zmo (a:=(strAt s_0 x8)) (b:=(34:UInt8)) rfl rfl)<|oM rfl<|zb7 rfl rfl rfl (fun hG20=>have hP21:¬ ((strAt s_0 x8)=(34:UInt8)) := nP (zaq) hG20; VJ_P (zae rfl))<|zb7 rfl rfl rfl (fun hG22=>have hP23:¬ ((strAt s_0 x8)=(34:UInt8)) := nP (zaq) hG22; VJ_P (zmo (a:=(strAt s_0 x8)) (b:=(92:UInt8)) (mbx hG22 rfl) rfl))<|oP (zfq rfl rfl (fun hh=>mbx (not_f hh) rfl))<|oA rfl<|nT<|zbt rfl (bT_or zaq zaq) (fun hg6 => ?_) (fun hg6 => ?_)
      ·
       replace h := ite_t hg6 h
       refine zag<|oM rfl<|oM rfl<|oO<|za4 rfl (zmg _ _) rfl fun b24 => ?_
       obtain ⟨hg7,h⟩ := zgg h
       refine oO<|zb1 (t:=tyU8) (bytes:=1) rfl rfl del1 foc0 (Reads.lit (t:=tyU8) (ys:=[(92:UInt8),(strAt s_0 x8)]) rfl rfl (by decide) (by decide) rfl) Tryz.underlying179 zjx (apl (m:=2) (b:=1) hg7 (by decide)).1 (apl (m:=2) (b:=1) hg7 (by decide)).2 rfl fun p26 c27=>oA rfl<|za0<|zah<|zah<|zar<|zag ?_
       obtain ⟨hg8,h⟩ := zg5 h
       exact oP (PJ_eq (P_add (a:=((x8:Nat):Int)) (b:=(1:Int)) rfl rfl (zg6 hg8)) rfl)<|oM rfl<|za0<|nR ⟨n,(x8 + 1),(x9 ++ [(92:UInt8),(strAt s_0 x8)]),⟨p26,(x9 ++ [(92:UInt8),(strAt s_0 x8)]).length,c27⟩⟩ h ⟨rfl,rfl,True.intro⟩ (t0_ (e_ r_))
      ·
       replace h := ite_f hg6 h
       refine zag<|oM rfl<|oM rfl<|oO<|za4 rfl (zk2 _) rfl fun b28 => ?_
       obtain ⟨hg9,h⟩ := zgg h
       refine oO<|zb1 (t:=tyU8) (bytes:=1) rfl rfl del1 foc0 (Reads.lit (t:=tyU8) (ys:=[(strAt s_0 x8)]) rfl rfl (by decide) (by decide) rfl) Tryz.underlying179 zjx (apl (m:=1) (b:=1) hg9 (by decide)).1 (apl (m:=1) (b:=1) hg9 (by decide)).2 rfl fun p30 c31=>oA rfl<|za0<|zah<|zah<|zar<|zag ?_
       obtain ⟨hg10,h⟩ := zg5 h
       exact oP (PJ_eq (P_add (a:=((x8:Nat):Int)) (b:=(1:Int)) rfl rfl (zg6 hg10)) rfl)<|oM rfl<|za0<|nR ⟨n,(x8 + 1),(x9 ++ [(strAt s_0 x8)]),⟨p30,(x9 ++ [(strAt s_0 x8)]).length,c31⟩⟩ h ⟨rfl,rfl,True.intro⟩ (t0_ (e_ r_))
   ·
    replace h := ite_f hg1 h
    exact zbc<|zay<|zau<|zat<|cR ⟨x9,hd10⟩ (Option.some.inj h).symm ⟨rfl,True.intro⟩ r_
 ·
  rintro ⟨a7,hd6⟩ hy32
  replace h := zgs hK3 hy32
  show CJ _ _ _ _ _ (([(4,hd6.v)]:Slots) ++ forget _ _) (sl tyU8 hd6.v a7::_)
  refine lC del0 fun hlen33=>sR<|oM rfl<|oO<|za4 rfl (zk2 _) rfl fun b34 => ?_
  obtain ⟨hg11,h⟩ := zgg h
  refine oO<|zb1 (t:=tyU8) (bytes:=1) rfl rfl del1 foc0 (Reads.lit (t:=tyU8) (ys:=[(34:UInt8)]) rfl rfl (by decide) (by decide) rfl) Tryz.underlying179 zjx (apl (m:=1) (b:=1) hg11 (by decide)).1 (apl (m:=1) (b:=1) hg11 (by decide)).2 rfl fun p36 c37=>oV (zr3 (t:=tyU8) rfl rfl (fun _=>rfl) foc0 (Reads.sl _ _ _) Tryz.underlying179 Tryz.underlying5 Tryz.underlying9)<|oA rfl<|oA rfl<|nT<|zaf ?_
  cases h
  exact fE (res2 Tryz.results116 rfl rfl) () (e_ (e_ r_))
def ze8 (l:List ByteArray) (rec:Nat→Option ((Unit) ⊕ Bool)) (x6:Nat):Option ((Unit) ⊕ Bool) :=
  if (((x6:Nat):Int) < ((l.length:Nat):Int)) then
    Option.bind (zek (l.getD x6 ByteArray.empty)) fun r7 =>
    if (r7.2≠(0:Int)) then
      some (.inr false)
    else
      rec (x6 + 1)
  else
    some (.inl ())
def zef (l:List ByteArray):Nat→Nat→Option ((Unit) ⊕ Bool)
  | 0,_=>none
  | n + 1,x6=>ze8 l (zef l n) x6
def zfj (l:List ByteArray):Option (Bool) :=
  seqO (zef l FUEL 0) fun a5 =>
  some true
theorem zm7 {W:World} {Al:HP} {vl:Value} {l:List ByteArray} {r:Bool} (rl:Reads Al tyS vl l) (h:zfj l=some r) :
    CSpec Tryz.prog W 113 [vl] [Al] (fun x:Unit => .bool r) (fun _=>True) (fun x F=>Al::F) := by
 refine CSpec.of_body Tryz.func113 rfl Tryz.ntmps113 rfl fun F => ?_
 show CJ _ _ _ _ _ _ (_::F)
 unfold zfj at h
 refine zdy (zh4 rl del0) fun hlen1=>sR<|oA rfl<|nT<|zab<|sR<|oM rfl<|oV (V_len rfl foc0 rl Tryz.runUnderlying58)<|oM rfl<|nT ?_
 obtain ⟨y4,hl2,hK3⟩ := seq_e h
 refine zdg (X:=Unit) [2,4,5,6,9,10,11,12,13,14,15,16,17,18,19,20] (fun _=>([]:Slots)) (fun _ R=>R) (fun _=>y4 = .inl ()) Dels.nil ?_ ?_
 ·
  refine zao<|za8 (X:=Nat × Nat) [2,4,5,6,9,10,11,12,13,14,15,16,17,18,19,20] (fun ⟨n,x6⟩=>([(9,.int .i64 (((x6:Nat):Int)))]:Slots)) (fun ⟨n,x6⟩ R=>R) (fun ⟨n,x6⟩=>zef l n x6=some y4) (fun ⟨n,x6⟩=>n) ⟨FUEL,0⟩ ?_ ?_ r_ ?_
  · exact hl2
  · exact ⟨rfl,True.intro⟩
  ·
   rintro ⟨n,x6⟩ h
   cases n with
   | zero=>exact zdr h
   | succ n => ?_
   replace h:ze8 l (zef l n) x6=some y4 := h
   unfold ze8 at h
   show CJ _ _ _ _ _ (([(9,.int .i64 (((x6:Nat):Int)))]:Slots) ++ forget _ _) (_)
   refine sR<|oP (P_lss (a:=((x6:Nat):Int)) (b:=((l.length:Nat):Int)) rfl rfl)<|nT<|zab<|zbt rfl zaq (fun hg1 => ?_) (fun hg1 => ?_)
   ·
    replace h := ite_t hg1 h
    refine kT<|zab<|zao<|sR<|oV (zam (i:=x6) rfl rfl rfl (by omega) foc0 rl Tryz.runUnderlying58 Tryz.sizeOf9)<|oV (za6 rfl rfl (by omega) foc0 rl rfl rfl Tryz.isAgg9)<|oA rfl<|nT<|sR<|oM rfl ?_
    obtain ⟨r7,hr8,h⟩ := zb9 h
    refine oO<|zai (zld hr8) rfl Tryz.call116 Dels.nil rfl fun _ _=>oM rfl<|oP (zaj rfl rfl)<|oP (zaj rfl rfl)<|oA rfl<|oA rfl<|nT<|sR<|oM rfl<|oP (P_neq (a:=r7.2) (b:=(0:Int)) rfl rfl)<|nT<|zbt rfl zaq (fun hg2 => ?_) (fun hg2 => ?_)
    ·
     replace h := ite_t hg2 h
     refine sR<|oA rfl<|nT<|zaf<|zax<|zak<|zbm<|zax<|zak ?_
     have hE := Option.some.inj h
     replace hE := zf2 hK3 hE.symm
     subst hE
     exact fE (res1 Tryz.results113 rfl) () r_
    ·
     replace h := ite_f hg2 h
     exact zbh<|zah<|zar<|zag<|oP (PJ_eq (P_add (a:=((x6:Nat):Int)) (b:=(1:Int)) rfl rfl (by omega)) rfl)<|oM rfl<|za0<|nR ⟨n,(x6 + 1)⟩ h ⟨rfl,True.intro⟩ r_
   ·
    replace h := ite_f hg1 h
    exact zbc<|zay<|zau<|zat<|cR () (Option.some.inj h).symm True.intro r_
 ·
  rintro _ hy9
  replace h := zgs hK3 hy9
  show CJ _ _ _ _ _ (([]:Slots) ++ forget _ _) (_)
  refine sR<|oA rfl<|nT<|zaf ?_
  cases h
  exact fE (res1 Tryz.results113 rfl) () r_
def zd0 (c:UInt8) (p1:List UInt64):Option ((List UInt64)) :=
  grd (decide (((c / (64:UInt8))).toNat < 2)) <|
  lt (((p1.getD (((c / (64:UInt8))).toNat) 0) ||| (zgv (1:UInt64) (((c % (64:UInt8))).toNat)))) fun w3 =>
  grd (decide (((c / (64:UInt8))).toNat < 2)) <|
  some ((p1.set (((c / (64:UInt8))).toNat) w3))
theorem ze9 {W:World} {bp1:Nat} {c:UInt8} {p1:List UInt64} {r:(List UInt64)} (h:zd0 c p1=some r) :
    CSpec Tryz.prog W 215 [.int .u8 (c.toNat:Int),ptr bp1 0] [sl zc4 (.slice (some ⟨bp1,0,none⟩) 2 2) p1] (fun x:Unit => .tuple #[]) (fun _=>True) (fun x F=>sl zc4 (.slice (some ⟨bp1,0,none⟩) 2 2) r::F) := by
 refine CSpec.of_body Tryz.func215 rfl Tryz.ntmps215 rfl fun F => ?_
 show CJ _ _ _ _ _ _ (_::F)
 unfold zd0 at h
 refine lC del0 fun hlen1=>zag<|oM rfl<|oP (zrx (a:=c) (b:=(64:UInt8)) rfl rfl (by decide))<|zhj (slLen del0) fun hal2 => ?_
 obtain ⟨hg1,h⟩ := zck h
 refine oP (zc2 (i:=((c / (64:UInt8))).toNat) rfl rfl rfl hg1 Tryz.runUnderlying320 Tryz.sizeOf47)<|oV (za6 rfl rfl (zlu hal2 (show ((c / (64:UInt8))).toNat < 2 from hg1)) foc0 (Reads.sl _ _ _) rfl rfl Tryz.isAgg47)<|oM rfl<|oP (zrw (a:=c) (b:=(64:UInt8)) rfl rfl (by decide))<|oP (zqq (a:=(1:UInt64)) (m:=((c % (64:UInt8))).toNat) rfl rfl rfl)<|oP (zrs (a:=(p1.getD (((c / (64:UInt8))).toNat) 0)) (b:=(zgv (1:UInt64) (((c % (64:UInt8))).toNat))) rfl rfl) ?_
 obtain ⟨w3,hw3,h⟩ := lt_e h
 rw [← hw3]
 refine zhj (slLen del0) fun hal4 => ?_
 obtain ⟨hg2,h⟩ := zck h
 refine oP (zc2 (i:=((c / (64:UInt8))).toNat) rfl rfl rfl hg2 Tryz.runUnderlying320 Tryz.sizeOf47)<|oO<|zcb (x' := w3) rfl rfl rfl (zlu hal4 (show ((c / (64:UInt8))).toNat < 2 from hg2)) foc0 rfl rfl rfl Tryz.sizeOf47<|za0 ?_
 cases h
 exact fN (res0 Tryz.results215) () r_
def zga (rec:(List UInt64)→UInt8→Option ((List UInt64))) (x8:List UInt64) (x9:UInt8):Option ((List UInt64)) :=
  if ((x9.toNat:Int)≤((122:UInt8).toNat:Int)) then
    Option.bind (zd0 x9 x8) fun r11 =>
    Option.bind (zd0 (((x9 - (97:UInt8)) + (65:UInt8))) r11) fun r13 =>
    rec r13 ((x9 + (1:UInt8)))
  else
    some x8
def zfk:Nat→(List UInt64)→UInt8→Option ((List UInt64))
  | 0,_,_=>none
  | n + 1,x8,x9=>zga (zfk n) x8 x9
def zgb (rec:(List UInt64)→UInt8→Option ((List UInt64))) (x22:List UInt64) (x23:UInt8):Option ((List UInt64)) :=
  if ((x23.toNat:Int)≤((57:UInt8).toNat:Int)) then
    Option.bind (zd0 x23 x22) fun r25 =>
    rec r25 ((x23 + (1:UInt8)))
  else
    some x22
def zfl:Nat→(List UInt64)→UInt8→Option ((List UInt64))
  | 0,_,_=>none
  | n + 1,x22,x23=>zgb (zfl n) x22 x23
def zgc (more:ByteArray) (rec:(List UInt64)→Nat→Option ((List UInt64))) (x34:List UInt64) (x35:Nat):Option ((List UInt64)) :=
  if (((x35:Nat):Int) < ((more.size:Nat):Int)) then
    Option.bind (zd0 (strAt more x35) x34) fun r37 =>
    grd (inN64 (x35 + 1)) <|
    rec r37 (x35 + 1)
  else
    some x34
def zfm (more:ByteArray):Nat→(List UInt64)→Nat→Option ((List UInt64))
  | 0,_,_=>none
  | n + 1,x34,x35=>zgc more (zfm more n) x34 x35
def zix (more:ByteArray):Option ((List UInt64)) :=
  Option.bind (zfk FUEL (List.replicate 2 0) (97:UInt8)) fun a7 =>
  Option.bind (zfl FUEL a7 (48:UInt8)) fun a21 =>
  Option.bind (zfm more FUEL a21 0) fun a33 =>
  some a33
theorem zqi {W:World} {more:ByteArray} {r:(List UInt64)} (h:zix more=some r) :
    CSpec Tryz.prog W 192 [.string more] [] (fun x:Unit => .agg (flat zc4 r).toArray) (fun _=>True) (fun x F=>F) := by
 refine CSpec.of_body Tryz.func192 rfl Tryz.ntmps192 rfl fun F => ?_
 show CJ _ _ _ _ _ _ (F)
 unfold zix at h
 refine sR<|oO<|zbi Tryz.zeroValue320 rfl rfl fun b1=>zcg (zb5 (t:=zc4) (m:=2) (List.replicate 2 0) rfl rfl kR_ (by decide))<|nT<|sR<|oO<|zbi Tryz.zeroValue320 rfl rfl fun b2=>zcg (zb5 (t:=zc4) (m:=2) (List.replicate 2 0) rfl rfl kR_ (by decide))<|nT<|sR<|oP (zbb rfl rfl)<|oA rfl<|nT<|zab<|sR<|oA rfl<|nT ?_
 obtain ⟨y5,hl3,hK4⟩ := zh5 h
 refine zdg (X:=(List UInt64)) [5,9,10,11,12,13,14,15,16,17,18,19,20] (fun a7=>([]:Slots)) (fun a7 R=>sl zc4 (.slice (some ⟨b2,0,none⟩) 2 2) a7::R) (fun a7=>y5=a7) (dC_ del0) ?_ ?_
 ·
  refine zao<|za8 (X:=Nat × (List UInt64) × UInt8) [5,9,10,11,12,13,14,15,16,17,18,19,20] (fun ⟨n,x8,x9⟩=>([(5,.int .u8 (x9.toNat:Int))]:Slots)) (fun ⟨n,x8,x9⟩ R=>sl zc4 (.slice (some ⟨b2,0,none⟩) 2 2) x8::R) (fun ⟨n,x8,x9⟩=>zfk n x8 x9=some y5) (fun ⟨n,x8,x9⟩=>n) ⟨FUEL,(List.replicate 2 0),(97:UInt8)⟩ ?_ ?_ r_ ?_
  · exact hl3
  · exact ⟨rfl,True.intro⟩
  ·
   rintro ⟨n,x8,x9⟩ h
   cases n with
   | zero=>exact zdr h
   | succ n => ?_
   replace h:zga (zfk n) x8 x9=some y5 := h
   unfold zga at h
   show CJ _ _ _ _ _ (([(5,.int .u8 (x9.toNat:Int))]:Slots) ++ forget _ _) (sl zc4 (.slice (some ⟨b2,0,none⟩) 2 2) x8::_)
   refine lC del0 fun hlen10=>zab<|sR<|oM rfl<|oP (P_leq (a:=(x9.toNat:Int)) (b:=((122:UInt8).toNat:Int)) rfl rfl)<|nT<|zbt rfl zaq (fun hg1 => ?_) (fun hg1 => ?_)
   ·
    replace h := ite_t hg1 h
    refine kT<|zab<|zao<|sR<|oM rfl<|oM rfl ?_
    obtain ⟨r11,hr12,h⟩ := zb9 h
    refine oO<|zdz rfl rfl (ze9 hr12) Tryz.call215 (dC_ del0) rfl fun _ _=>nT<|zag<|oM rfl<|oM rfl<|oP (zrv (a:=x9) (b:=(97:UInt8)) rfl rfl)<|oP (znu (a:=(x9 - (97:UInt8))) (b:=(65:UInt8)) rfl rfl) ?_
    obtain ⟨r13,hr14,h⟩ := zb9 h
    exact oO<|zdz rfl rfl (ze9 hr14) Tryz.call215 (dC_ del0) rfl fun _ _=>za0<|zah<|zar<|zag<|oM rfl<|oP (znu (a:=x9) (b:=(1:UInt8)) rfl rfl)<|oA rfl<|za0<|nR ⟨n,r13,(x9 + (1:UInt8))⟩ h ⟨rfl,True.intro⟩ r_
   ·
    replace h := ite_f hg1 h
    exact zbc<|zay<|zau<|zat<|cR x8 (Option.some.inj h).symm True.intro r_
 ·
  rintro a7 hy15
  replace h := zgj hK4 hy15
  show CJ _ _ _ _ _ (([]:Slots) ++ forget _ _) (sl zc4 (.slice (some ⟨b2,0,none⟩) 2 2) a7::_)
  refine lC del0 fun hlen16=>zab<|sR<|oA rfl<|nT ?_
  obtain ⟨y19,hl17,hK18⟩ := zh5 h
  refine zdg (X:=(List UInt64)) [6,21,22,23,24,25,26,27] (fun a21=>([]:Slots)) (fun a21 R=>sl zc4 (.slice (some ⟨b2,0,none⟩) 2 2) a21::R) (fun a21=>y19=a21) (dC_ del0) ?_ ?_
  ·
   refine zao<|za8 (X:=Nat × (List UInt64) × UInt8) [6,21,22,23,24,25,26,27] (fun ⟨n,x22,x23⟩=>([(6,.int .u8 (x23.toNat:Int))]:Slots)) (fun ⟨n,x22,x23⟩ R=>sl zc4 (.slice (some ⟨b2,0,none⟩) 2 2) x22::R) (fun ⟨n,x22,x23⟩=>zfl n x22 x23=some y19) (fun ⟨n,x22,x23⟩=>n) ⟨FUEL,a7,(48:UInt8)⟩ ?_ ?_ r_ ?_
   · exact hl17
   · exact ⟨rfl,True.intro⟩
   ·
    rintro ⟨n,x22,x23⟩ h
    cases n with
    | zero=>exact zdr h
    | succ n => ?_
    replace h:zgb (zfl n) x22 x23=some y19 := h
    unfold zgb at h
    show CJ _ _ _ _ _ (([(6,.int .u8 (x23.toNat:Int))]:Slots) ++ forget _ _) (sl zc4 (.slice (some ⟨b2,0,none⟩) 2 2) x22::_)
    refine lC del0 fun hlen24=>zab<|sR<|oM rfl<|oP (P_leq (a:=(x23.toNat:Int)) (b:=((57:UInt8).toNat:Int)) rfl rfl)<|nT<|zbt rfl zaq (fun hg2 => ?_) (fun hg2 => ?_)
    ·
     replace h := ite_t hg2 h
     refine kT<|zab<|zao<|zag<|oM rfl<|oM rfl ?_
     obtain ⟨r25,hr26,h⟩ := zb9 h
     exact oO<|zdz rfl rfl (ze9 hr26) Tryz.call215 (dC_ del0) rfl fun _ _=>za0<|zah<|zar<|zag<|oM rfl<|oP (znu (a:=x23) (b:=(1:UInt8)) rfl rfl)<|oA rfl<|za0<|nR ⟨n,r25,(x23 + (1:UInt8))⟩ h ⟨rfl,True.intro⟩ r_
    ·
     replace h := ite_f hg2 h
     exact zbc<|zay<|zau<|zat<|cR x22 (Option.some.inj h).symm True.intro r_
  ·
   rintro a21 hy27
   replace h := zgj hK18 hy27
   show CJ _ _ _ _ _ (([]:Slots) ++ forget _ _) (sl zc4 (.slice (some ⟨b2,0,none⟩) 2 2) a21::_)
   refine lC del0 fun hlen28=>zab<|sR<|oM rfl<|oP (zcn (b:=more) rfl Tryz.runUnderlying9)<|oM rfl<|nT ?_
   obtain ⟨y31,hl29,hK30⟩ := zh5 h
   refine zdg (X:=(List UInt64)) [7,30,31,32,33,34,35,36,37,38] (fun a33=>([]:Slots)) (fun a33 R=>sl zc4 (.slice (some ⟨b2,0,none⟩) 2 2) a33::R) (fun a33=>y31=a33) (dC_ del0) ?_ ?_
   ·
    refine zao<|za8 (X:=Nat × (List UInt64) × Nat) [7,30,31,32,33,34,35,36,37,38] (fun ⟨n,x34,x35⟩=>([(30,.int .i64 (((x35:Nat):Int)))]:Slots)) (fun ⟨n,x34,x35⟩ R=>sl zc4 (.slice (some ⟨b2,0,none⟩) 2 2) x34::R) (fun ⟨n,x34,x35⟩=>zfm more n x34 x35=some y31) (fun ⟨n,x34,x35⟩=>n) ⟨FUEL,a21,0⟩ ?_ ?_ r_ ?_
    · exact hl29
    · exact ⟨rfl,True.intro⟩
    ·
     rintro ⟨n,x34,x35⟩ h
     cases n with
     | zero=>exact zdr h
     | succ n => ?_
     replace h:zgc more (zfm more n) x34 x35=some y31 := h
     unfold zgc at h
     show CJ _ _ _ _ _ (([(30,.int .i64 (((x35:Nat):Int)))]:Slots) ++ forget _ _) (sl zc4 (.slice (some ⟨b2,0,none⟩) 2 2) x34::_)
     refine lC del0 fun hlen36=>sR<|oP (P_lss (a:=((x35:Nat):Int)) (b:=((more.size:Nat):Int)) rfl rfl)<|nT<|zab<|zbt rfl zaq (fun hg3 => ?_) (fun hg3 => ?_)
     ·
      replace h := ite_t hg3 h
      refine kT<|zab<|zao<|sR<|oM rfl<|oA rfl<|nT<|zag<|oM rfl<|oM rfl<|oM rfl<|oP (zcz (b:=more) (i:=x35) rfl rfl rfl (by omega) Tryz.runUnderlying9) ?_
      obtain ⟨r37,hr38,h⟩ := zb9 h
      refine oO<|zdz rfl rfl (ze9 hr38) Tryz.call215 (dC_ del0) rfl fun _ _=>za0<|zah<|zar<|zag ?_
      obtain ⟨hg4,h⟩ := zg5 h
      exact oP (PJ_eq (P_add (a:=((x35:Nat):Int)) (b:=(1:Int)) rfl rfl (zg6 hg4)) rfl)<|oM rfl<|za0<|nR ⟨n,r37,(x35 + 1)⟩ h ⟨rfl,True.intro⟩ r_
     ·
      replace h := ite_f hg3 h
      exact zbc<|zay<|zau<|zat<|cR x34 (Option.some.inj h).symm True.intro r_
   ·
    rintro a33 hy39
    replace h := zgj hK30 hy39
    show CJ _ _ _ _ _ (([]:Slots) ++ forget _ _) (sl zc4 (.slice (some ⟨b2,0,none⟩) 2 2) a33::_)
    refine lC del0 fun hlen40=>sR<|zhj (slLen del0) fun hal41=>oV (zlt (t:=zc4) rfl rfl foc0 hal41 Tryz.isAgg320 Tryz.sizeOf320)<|zhj (slLen del1) fun hal42=>oO<|zkq (t:=zc4) rfl rfl rfl foc1 hal42 hal41 Tryz.sizeOf320<|nT<|zaf ?_
    have hE := Option.some.inj h
    subst hE
    refine z0c (slLen del1) fun hal43=>zan (resA1 Tryz.results192 (zvw (t:=zc4) rfl rfl foc1 hal43 Tryz.isAgg320 Tryz.sizeOf320))<|CSpec.close () ?_ ?_ (e_ (e_ r_))
    · rfl
    · trivial
def ze0 (s_0:ByteArray) (c:UInt8):Option (Int) :=
  some (Lib.indexByte s_0.data.toList c)
theorem zi4 {W:World} {s_0:ByteArray} {c:UInt8} {r:Int} (h:ze0 s_0 c=some r) :
    CSpec Tryz.prog W 224 [.string s_0,.int .u8 (c.toNat:Int)] [] (fun x:Unit => .int .i64 r) (fun _=>True) (fun x F=>F) := by
 refine CSpec.of_body Tryz.func224 rfl Tryz.ntmps224 rfl fun F => ?_
 show CJ _ _ _ _ _ _ (F)
 unfold ze0 at h
 refine sR<|oA rfl<|nT<|sR<|oM rfl<|oM rfl<|oP (zs8 (vs:=[.string s_0,.int .u8 (c.toNat:Int)]) rfl (z1x s_0 c))<|oA rfl<|nT<|zaf ?_
 cases h
 exact fE (res1 Tryz.results224 rfl) () r_
def zgd (s_0:ByteArray) (c:UInt8):Option (Int) :=
  Option.bind (ze0 s_0 c) fun r1 =>
  some r1
theorem zlg {W:World} {s_0:ByteArray} {c:UInt8} {r:Int} (h:zgd s_0 c=some r) :
    CSpec Tryz.prog W 216 [.string s_0,.int .u8 (c.toNat:Int)] [] (fun x:Unit => .int .i64 r) (fun _=>True) (fun x F=>F) := by
 refine CSpec.of_body Tryz.func216 rfl Tryz.ntmps216 rfl fun F => ?_
 show CJ _ _ _ _ _ _ (F)
 unfold zgd at h
 refine sR<|oA rfl<|nT<|sR<|oM rfl<|oM rfl ?_
 obtain ⟨r1,hr2,h⟩ := zb9 h
 refine oO<|zai (zi4 hr2) rfl Tryz.call224 Dels.nil rfl fun _ _=>oA rfl<|nT<|zaf ?_
 cases h
 exact fE (res1 Tryz.results216 rfl) () r_
def zfz (s_0:List UInt64) (text:ByteArray) (rec:Nat→Option ((Unit) ⊕ Bool)) (x6:Nat):Option ((Unit) ⊕ Bool) :=
  if (((x6:Nat):Int) < ((text.size:Nat):Int)) then
    grd (decide ((¬ (((128:UInt8).toNat:Int)≤((strAt text x6).toNat:Int)))→(((strAt text x6) / (64:UInt8))).toNat < 2)) <|
    if ((((128:UInt8).toNat:Int)≤((strAt text x6).toNat:Int))∨(((zbw ((s_0.getD ((((strAt text x6) / (64:UInt8))).toNat) 0)) ((((strAt text x6) % (64:UInt8))).toNat)) &&& (1:UInt64))=(0:UInt64))) then
      some (.inr false)
    else
      grd (inN64 (x6 + 1)) <|
      rec (x6 + 1)
  else
    some (.inl ())
def zfa (s_0:List UInt64) (text:ByteArray):Nat→Nat→Option ((Unit) ⊕ Bool)
  | 0,_=>none
  | n + 1,x6=>zfz s_0 text (zfa s_0 text n) x6
def zia (s_0:List UInt64) (text:ByteArray):Option (Bool) :=
  grd (decide (s_0.length=2)) <|
  seqO (zfa s_0 text FUEL 0) fun a5 =>
  some true
theorem zpa {W:World} {s_0:List UInt64} {text:ByteArray} {r:Bool} (h:zia s_0 text=some r) :
    CSpec Tryz.prog W 193 [.agg (flat zc4 s_0).toArray,.string text] [] (fun x:Unit => .bool r) (fun _=>True) (fun x F=>F) := by
 refine CSpec.of_body Tryz.func193 rfl Tryz.ntmps193 rfl fun F => ?_
 show CJ _ _ _ _ _ _ (F)
 unfold zia at h
 refine sR ?_
 obtain ⟨hg1,h⟩ := zck h
 refine oO<|O_box rfl rfl rfl fun b1=>zcg (zb5 (t:=zc4) (m:=2) s_0 rfl (hg1).symm rfl (by decide))<|oA rfl<|nT<|zab<|sR<|oM rfl<|oP (zcn (b:=text) rfl Tryz.runUnderlying9)<|oM rfl<|nT ?_
 obtain ⟨y4,hl2,hK3⟩ := seq_e h
 refine zdg (X:=Unit) [4,5,6,9,10,11,12,13,14,15,16,17,18,19,20,21,22,23,24,25,26,27,28] (fun _=>([]:Slots)) (fun _ R=>R) (fun _=>y4 = .inl ()) Dels.nil ?_ ?_
 ·
  refine zao<|za8 (X:=Nat × Nat) [4,5,6,9,10,11,12,13,14,15,16,17,18,19,20,21,22,23,24,25,26,27,28] (fun ⟨n,x6⟩=>([(9,.int .i64 (((x6:Nat):Int)))]:Slots)) (fun ⟨n,x6⟩ R=>R) (fun ⟨n,x6⟩=>zfa s_0 text n x6=some y4) (fun ⟨n,x6⟩=>n) ⟨FUEL,0⟩ ?_ ?_ r_ ?_
  · exact hl2
  · exact ⟨rfl,True.intro⟩
  ·
   rintro ⟨n,x6⟩ h
   cases n with
   | zero=>exact zdr h
   | succ n => ?_
   replace h:zfz s_0 text (zfa s_0 text n) x6=some y4 := h
   unfold zfz at h
   show CJ _ _ _ _ _ (([(9,.int .i64 (((x6:Nat):Int)))]:Slots) ++ forget _ _) (_)
   refine sR<|oP (P_lss (a:=((x6:Nat):Int)) (b:=((text.size:Nat):Int)) rfl rfl)<|nT<|zab<|zbt rfl zaq (fun hg2 => ?_) (fun hg2 => ?_)
   ·
    replace h := ite_t hg2 h
    refine kT<|zab<|zao<|sR<|oM rfl<|oA rfl<|nT<|sR<|oM rfl<|oM rfl<|oP (zcz (b:=text) (i:=x6) rfl rfl rfl (by omega) Tryz.runUnderlying9)<|oA rfl<|nT<|sR<|oM rfl<|oP (P_geq (a:=((strAt text x6).toNat:Int)) (b:=((128:UInt8).toNat:Int)) rfl rfl)<|oM rfl<|zb7 rfl rfl rfl (fun hG7=>have hP8:¬ (((128:UInt8).toNat:Int)≤((strAt text x6).toNat:Int)) := nP (zaq) hG7; VJ_P (zae rfl))<|zb7 rfl rfl rfl (fun hG9=>have hP10:¬ (((128:UInt8).toNat:Int)≤((strAt text x6).toNat:Int)) := nP (zaq) hG9; VJ_P (zrx (a:=(strAt text x6)) (b:=(64:UInt8)) (mbx hG9 rfl) rfl (by decide)))<|zhj (slLen del0) fun hal13 => ?_
    obtain ⟨hg3,h⟩ := zck h
    refine zb7 rfl rfl rfl (fun hG11=>have hP12:¬ (((128:UInt8).toNat:Int)≤((strAt text x6).toNat:Int)) := nP (zaq) hG11; VJ_P (zc2 (i:=(((strAt text x6) / (64:UInt8))).toNat) rfl (mbx hG11 rfl) rfl (hg3 hP12) Tryz.runUnderlying320 Tryz.sizeOf47))<|zb7 rfl rfl rfl (fun hG14=>have hP15:¬ (((128:UInt8).toNat:Int)≤((strAt text x6).toNat:Int)) := nP (zaq) hG14; za6 (mbx hG14 rfl) rfl (zlu hal13 (show (((strAt text x6) / (64:UInt8))).toNat < 2 from (hg3 hP15))) foc0 (Reads.sl _ _ _) rfl rfl Tryz.isAgg47)<|zb7 rfl rfl rfl (fun hG16=>have hP17:¬ (((128:UInt8).toNat:Int)≤((strAt text x6).toNat:Int)) := nP (zaq) hG16; VJ_P (zae rfl))<|zb7 rfl rfl rfl (fun hG18=>have hP19:¬ (((128:UInt8).toNat:Int)≤((strAt text x6).toNat:Int)) := nP (zaq) hG18; VJ_P (zrw (a:=(strAt text x6)) (b:=(64:UInt8)) (mbx hG18 rfl) rfl (by decide)))<|zb7 rfl rfl rfl (fun hG20=>have hP21:¬ (((128:UInt8).toNat:Int)≤((strAt text x6).toNat:Int)) := nP (zaq) hG20; VJ_P (zec (a:=(s_0.getD ((((strAt text x6) / (64:UInt8))).toNat) 0)) (m:=(((strAt text x6) % (64:UInt8))).toNat) (mbx hG20 rfl) (mbx hG20 rfl) rfl)) ?_
    refine zb7 rfl rfl rfl (fun hG22=>have hP23:¬ (((128:UInt8).toNat:Int)≤((strAt text x6).toNat:Int)) := nP (zaq) hG22; VJ_P (zgu (a:=(zbw ((s_0.getD ((((strAt text x6) / (64:UInt8))).toNat) 0)) ((((strAt text x6) % (64:UInt8))).toNat))) (b:=(1:UInt64)) (mbx hG22 rfl) rfl))<|zb7 rfl rfl rfl (fun hG24=>have hP25:¬ (((128:UInt8).toNat:Int)≤((strAt text x6).toNat:Int)) := nP (zaq) hG24; VJ_P (zxr (a:=((zbw ((s_0.getD ((((strAt text x6) / (64:UInt8))).toNat) 0)) ((((strAt text x6) % (64:UInt8))).toNat)) &&& (1:UInt64))) (b:=(0:UInt64)) (mbx hG24 rfl) rfl))<|oP (zfq rfl rfl (fun hh=>mbx (not_f hh) rfl))<|nT<|zbt rfl (bT_or zaq zaq) (fun hg4 => ?_) (fun hg4 => ?_)
    ·
     replace h := ite_t hg4 h
     refine sR<|oA rfl<|nT<|zaf<|zax<|zak<|zbm<|zax<|zak ?_
     have hE := Option.some.inj h
     replace hE := zf2 hK3 hE.symm
     subst hE
     exact fE (res1 Tryz.results193 rfl) () (e_ r_)
    ·
     replace h := ite_f hg4 h
     refine zbh<|zah<|zar<|zag ?_
     obtain ⟨hg5,h⟩ := zg5 h
     exact oP (PJ_eq (P_add (a:=((x6:Nat):Int)) (b:=(1:Int)) rfl rfl (zg6 hg5)) rfl)<|oM rfl<|za0<|nR ⟨n,(x6 + 1)⟩ h ⟨rfl,True.intro⟩ r_
   ·
    replace h := ite_f hg2 h
    exact zbc<|zay<|zau<|zat<|cR () (Option.some.inj h).symm True.intro r_
 ·
  rintro _ hy26
  replace h := zgs hK3 hy26
  show CJ _ _ _ _ _ (([]:Slots) ++ forget _ _) (_)
  refine sR<|oA rfl<|nT<|zaf ?_
  cases h
  exact fE (res1 Tryz.results193 rfl) () (e_ r_)
def zk4 (s_0:ByteArray):Option (Bool) :=
  grd (decide (((s_0≠(ByteArray.mk #[]))∧(((s_0.size:Nat):Int)≤(40:Int)))→0 < s_0.size)) <|
  grd (decide ((((s_0≠(ByteArray.mk #[]))∧(((s_0.size:Nat):Int)≤(40:Int)))∧((strAt s_0 0)≠(45:UInt8)))→0 < s_0.size)) <|
  if ((((s_0≠(ByteArray.mk #[]))∧(((s_0.size:Nat):Int)≤(40:Int)))∧((strAt s_0 0)≠(45:UInt8)))∧((strAt s_0 0)≠(46:UInt8))) then
    Option.bind (zix (ByteArray.mk #[95,46,43,45])) fun r19 =>
    Option.bind (zia r19 s_0) fun r21 =>
    some r21
  else
    some false
theorem zs9 {W:World} {s_0:ByteArray} {r:Bool} (h:zk4 s_0=some r) :
    CSpec Tryz.prog W 161 [.string s_0] [] (fun x:Unit => .bool r) (fun _=>True) (fun x F=>F) := by
 refine CSpec.of_body Tryz.func161 rfl Tryz.ntmps161 rfl fun F => ?_
 show CJ _ _ _ _ _ _ (F)
 unfold zk4 at h
 refine sR<|oA rfl<|nT<|sR<|oM rfl<|oP (zgk (a:=s_0) (b:=(ByteArray.mk #[])) rfl rfl Tryz.underlying9)<|oM rfl<|zb2 rfl rfl rfl (fun hG1=>have hP2:(s_0≠(ByteArray.mk #[])) := (zaq).1 hG1; VJ_P (zae rfl))<|zb2 rfl rfl rfl (fun hG3=>have hP4:(s_0≠(ByteArray.mk #[])) := (zaq).1 hG3; VJ_P (zcn (b:=s_0) (mbx hG3 rfl) Tryz.runUnderlying9))<|zb2 rfl rfl rfl (fun hG5=>have hP6:(s_0≠(ByteArray.mk #[])) := (zaq).1 hG5; VJ_P (P_leq (a:=((s_0.size:Nat):Int)) (b:=(40:Int)) (mbx hG5 rfl) rfl))<|oP (zci rfl (fun hh=>mbx hh rfl) rfl)<|oM rfl<|zb2 rfl rfl rfl (fun hG7=>have hP8:((s_0≠(ByteArray.mk #[]))∧(((s_0.size:Nat):Int)≤(40:Int))) := ((zbf zaq zaq)).1 hG7; VJ_P (zae rfl)) ?_
 obtain ⟨hg1,h⟩ := zck h
 refine zb2 rfl rfl rfl (fun hG9=>have hP10:((s_0≠(ByteArray.mk #[]))∧(((s_0.size:Nat):Int)≤(40:Int))) := ((zbf zaq zaq)).1 hG9; VJ_P (zcz (b:=s_0) (i:=0) (mbx hG9 rfl) rfl rfl (hg1 hP10) Tryz.runUnderlying9))<|zb2 rfl rfl rfl (fun hG11=>have hP12:((s_0≠(ByteArray.mk #[]))∧(((s_0.size:Nat):Int)≤(40:Int))) := ((zbf zaq zaq)).1 hG11; VJ_P (ztx (a:=(strAt s_0 0)) (b:=(45:UInt8)) (mbx hG11 rfl) rfl))<|oP (zci rfl (fun hh=>mbx hh rfl) rfl)<|oM rfl<|zb2 rfl rfl rfl (fun hG13=>have hP14:(((s_0≠(ByteArray.mk #[]))∧(((s_0.size:Nat):Int)≤(40:Int)))∧((strAt s_0 0)≠(45:UInt8))) := ((zbf (zbf zaq zaq) zaq)).1 hG13; VJ_P (zae rfl)) ?_
 obtain ⟨hg2,h⟩ := zck h
 refine zb2 rfl rfl rfl (fun hG15=>have hP16:(((s_0≠(ByteArray.mk #[]))∧(((s_0.size:Nat):Int)≤(40:Int)))∧((strAt s_0 0)≠(45:UInt8))) := ((zbf (zbf zaq zaq) zaq)).1 hG15; VJ_P (zcz (b:=s_0) (i:=0) (mbx hG15 rfl) rfl rfl (hg2 hP16) Tryz.runUnderlying9))<|zb2 rfl rfl rfl (fun hG17=>have hP18:(((s_0≠(ByteArray.mk #[]))∧(((s_0.size:Nat):Int)≤(40:Int)))∧((strAt s_0 0)≠(45:UInt8))) := ((zbf (zbf zaq zaq) zaq)).1 hG17; VJ_P (ztx (a:=(strAt s_0 0)) (b:=(46:UInt8)) (mbx hG17 rfl) rfl))<|oP (zci rfl (fun hh=>mbx hh rfl) rfl)<|oM rfl<|zeb 20 rfl (zbf (zbf (zbf zaq zaq) zaq) zaq) (fun hg3B hg3 => ?_) (fun hg3B hg3 => ?_)
 ·
  replace h := ite_t hg3 h
  obtain ⟨r19,hr20,h⟩ := zb9 h
  refine RJ_gy (zaz rfl rfl rfl hg3B)<|zai (zqi hr20) rfl Tryz.call192 Dels.nil rfl fun _ _=>p_ rfl rfl rfl hg3B (zae rfl) ?_
  obtain ⟨r21,hr22,h⟩ := zb9 h
  refine RJ_gy (zaz rfl rfl rfl hg3B)<|zai (zpa hr22) rfl Tryz.call193 Dels.nil rfl fun _ _=>oP (zbe rfl hg3B rfl)<|oA rfl<|nT<|zaf ?_
  cases h
  exact fE (res1 Tryz.results161 rfl) () r_
 ·
  replace h := ite_f hg3 h
  refine g_ rfl rfl rfl hg3B rfl<|g_ rfl rfl rfl hg3B rfl<|g_ rfl rfl rfl hg3B rfl<|oP (za2 rfl hg3B rfl)<|oA rfl<|nT<|zaf ?_
  cases h
  exact fE (res1 Tryz.results161 rfl) () r_
def zhv (id:UInt64) (rec:(List UInt8)→Nat→Option ((List UInt8))) (x7:List UInt8) (x8:Nat):Option ((List UInt8)) :=
  if (((x8:Nat):Int) < (16:Int)) then
    lt (((zbw id ((((60:Int) - ((4:Int) * ((x8:Nat):Int)))).toNat)) &&& (15:UInt64))) fun w10 =>
    grd (decide (w10.toNat < (ByteArray.mk #[48,49,50,51,52,53,54,55,56,57,97,98,99,100,101,102]).size)) <|
    lt ((strAt (ByteArray.mk #[48,49,50,51,52,53,54,55,56,57,97,98,99,100,101,102]) w10.toNat)) fun w11 =>
    rec (x7.set x8 w11) (x8 + 1)
  else
    some x7
def zha (id:UInt64):Nat→(List UInt8)→Nat→Option ((List UInt8))
  | 0,_,_=>none
  | n + 1,x7,x8=>zhv id (zha id n) x7 x8
def zmh (id:UInt64):Option (ByteArray) :=
  Option.bind (zha id FUEL (List.replicate 16 0) 0) fun a6 =>
  some (strOf a6)
theorem znq {W:World} {id:UInt64} {r:ByteArray} (h:zmh id=some r) :
    CSpec Tryz.prog W 99 [.int .u64 (id.toNat:Int)] [] (fun x:Unit => .string r) (fun _=>True) (fun x F=>F) := by
 refine CSpec.of_body Tryz.func99 rfl Tryz.ntmps99 rfl fun F => ?_
 show CJ _ _ _ _ _ _ (F)
 unfold zmh at h
 refine sR<|oA rfl<|nT<|sR<|oO<|zbi Tryz.zeroValue268 rfl rfl fun b1=>zcg (zb5 (t:=zka) (m:=16) (List.replicate 16 0) rfl rfl kR_ (by decide))<|nT<|zab<|sR<|oM rfl<|nT ?_
 obtain ⟨y4,hl2,hK3⟩ := zh5 h
 refine zdg (X:=(List UInt8)) [4,5,6,7,8,9,10,11,12,13,14,15,16,17] (fun a6=>([]:Slots)) (fun a6 R=>sl zka (.slice (some ⟨b1,0,none⟩) 16 16) a6::R) (fun a6=>y4=a6) (dC_ del0) ?_ ?_
 ·
  refine zao<|za8 (X:=Nat × (List UInt8) × Nat) [4,5,6,7,8,9,10,11,12,13,14,15,16,17] (fun ⟨n,x7,x8⟩=>([(5,.int .i64 (((x8:Nat):Int)))]:Slots)) (fun ⟨n,x7,x8⟩ R=>sl zka (.slice (some ⟨b1,0,none⟩) 16 16) x7::R) (fun ⟨n,x7,x8⟩=>zha id n x7 x8=some y4) (fun ⟨n,x7,x8⟩=>n) ⟨FUEL,(List.replicate 16 0),0⟩ ?_ ?_ r_ ?_
  · exact hl2
  · exact ⟨rfl,True.intro⟩
  ·
   rintro ⟨n,x7,x8⟩ h
   cases n with
   | zero=>exact zdr h
   | succ n => ?_
   replace h:zhv id (zha id n) x7 x8=some y4 := h
   unfold zhv at h
   show CJ _ _ _ _ _ (([(5,.int .i64 (((x8:Nat):Int)))]:Slots) ++ forget _ _) (sl zka (.slice (some ⟨b1,0,none⟩) 16 16) x7::_)
   refine lC del0 fun hlen9=>sR<|oP (P_lss (a:=((x8:Nat):Int)) (b:=(16:Int)) rfl rfl)<|nT<|zab<|zbt rfl zaq (fun hg1 => ?_) (fun hg1 => ?_)
   ·
    replace h := ite_t hg1 h
    refine kT<|zab<|zao<|sR<|oM rfl<|oA rfl<|nT<|zag<|oM rfl<|oM rfl<|oM rfl<|oP (P_mul (a:=(4:Int)) (b:=((x8:Nat):Int)) rfl rfl (by omega))<|oP (P_sub (a:=(60:Int)) (b:=((4:Int) * ((x8:Nat):Int))) rfl rfl (by omega))<|oP (zec (a:=id) (m:=(((60:Int) - ((4:Int) * ((x8:Nat):Int)))).toNat) rfl rfl (Int.toNat_of_nonneg (by omega)).symm)<|oP (zgu (a:=(zbw id ((((60:Int) - ((4:Int) * ((x8:Nat):Int)))).toNat))) (b:=(15:UInt64)) rfl rfl) ?_
    obtain ⟨w10,hw10,h⟩ := lt_e h
    rw [← hw10]
    obtain ⟨hg2,h⟩ := zck h
    refine oP (zcz (b:=(ByteArray.mk #[48,49,50,51,52,53,54,55,56,57,97,98,99,100,101,102])) (i:=w10.toNat) rfl rfl rfl hg2 Tryz.runUnderlying9) ?_
    obtain ⟨w11,hw11,h⟩ := lt_e h
    rw [← hw11]
    exact zhj (slLen del0) fun hal12=>oP (zc2 (i:=x8) rfl rfl rfl (by omega) Tryz.runUnderlying268 Tryz.sizeOf5)<|oO<|zcb (x' := w11) rfl rfl rfl (zlu hal12 (show x8 < 16 from (by omega))) foc0 rfl rfl rfl Tryz.sizeOf5<|za0<|zah<|zar<|zag<|oP (PJ_eq (P_add (a:=((x8:Nat):Int)) (b:=(1:Int)) rfl rfl (by omega)) rfl)<|oM rfl<|za0<|nR ⟨n,(x7.set x8 w11),(x8 + 1)⟩ h ⟨rfl,True.intro⟩ r_
   ·
    replace h := ite_f hg1 h
    exact zbc<|zay<|zau<|zat<|cR x7 (Option.some.inj h).symm True.intro r_
 ·
  rintro a6 hy13
  replace h := zgj hK3 hy13
  show CJ _ _ _ _ _ (([]:Slots) ++ forget _ _) (sl zka (.slice (some ⟨b1,0,none⟩) 16 16) a6::_)
  refine lC del0 fun hlen14=>sR<|oP (PJ_eq (zon (l:=0) rfl rfl rfl Tryz.runUnderlying268 Tryz.sizeOf5) rfl)<|oV (zr3 (t:=tyU8) rfl rfl (fun _=>rfl) foc0 (Reads.recast (t:=zka) (t' := tyU8) (Reads.sl _ _ _) rfl rfl rfl) Tryz.underlying179 Tryz.underlying5 Tryz.underlying9)<|oA rfl<|nT<|zaf ?_
  cases h
  exact fE (res1 Tryz.results99 rfl) () (e_ r_)
def ze1 (c:UInt8):Option (Bool) :=
  if ((((((97:UInt8).toNat:Int)≤(c.toNat:Int))∧((c.toNat:Int)≤((122:UInt8).toNat:Int)))∨((((65:UInt8).toNat:Int)≤(c.toNat:Int))∧((c.toNat:Int)≤((90:UInt8).toNat:Int))))∨((((48:UInt8).toNat:Int)≤(c.toNat:Int))∧((c.toNat:Int)≤((57:UInt8).toNat:Int)))) then
    some true
  else
    Option.bind (zgd (ByteArray.mk #[95,46,43,45]) c) fun r33 =>
    some ((decide ((0:Int)≤r33)))
theorem zkb {W:World} {c:UInt8} {r:Bool} (h:ze1 c=some r) :
    CSpec Tryz.prog W 197 [.int .u8 (c.toNat:Int)] [] (fun x:Unit => .bool r) (fun _=>True) (fun x F=>F) := by
 refine CSpec.of_body Tryz.func197 rfl Tryz.ntmps197 rfl fun F => ?_
 show CJ _ _ _ _ _ _ (F)
 unfold ze1 at h
 refine sR<|oA rfl<|nT<|sR<|oM rfl<|oP (P_geq (a:=(c.toNat:Int)) (b:=((97:UInt8).toNat:Int)) rfl rfl)<|oM rfl<|zb2 rfl rfl rfl (fun hG1=>have hP2:(((97:UInt8).toNat:Int)≤(c.toNat:Int)) := (zaq).1 hG1; VJ_P (zae rfl))<|zb2 rfl rfl rfl (fun hG3=>have hP4:(((97:UInt8).toNat:Int)≤(c.toNat:Int)) := (zaq).1 hG3; VJ_P (P_leq (a:=(c.toNat:Int)) (b:=((122:UInt8).toNat:Int)) (mbx hG3 rfl) rfl))<|oP (zci rfl (fun hh=>mbx hh rfl) rfl)<|oM rfl<|zb7 rfl rfl rfl (fun hG5=>have hP6:¬ ((((97:UInt8).toNat:Int)≤(c.toNat:Int))∧((c.toNat:Int)≤((122:UInt8).toNat:Int))) := nP ((zbf zaq zaq)) hG5; VJ_P (zae rfl))<|zb7 rfl rfl rfl (fun hG7=>have hP8:¬ ((((97:UInt8).toNat:Int)≤(c.toNat:Int))∧((c.toNat:Int)≤((122:UInt8).toNat:Int))) := nP ((zbf zaq zaq)) hG7; VJ_P (P_geq (a:=(c.toNat:Int)) (b:=((65:UInt8).toNat:Int)) (mbx hG7 rfl) rfl))<|zb7 rfl rfl rfl (fun hG9=>have hP10:¬ ((((97:UInt8).toNat:Int)≤(c.toNat:Int))∧((c.toNat:Int)≤((122:UInt8).toNat:Int))) := nP ((zbf zaq zaq)) hG9; VJ_P (zae (mbx hG9 rfl)))<|zin rfl rfl rfl (fun hG11=>have hP12:¬ ((((97:UInt8).toNat:Int)≤(c.toNat:Int))∧((c.toNat:Int)≤((122:UInt8).toNat:Int))) := nP ((zbf zaq zaq)) (and_l hG11); have hP13:(((65:UInt8).toNat:Int)≤(c.toNat:Int)) := (zaq).1 (and_r hG11); VJ_P (zae rfl)) ?_
 refine zin rfl rfl rfl (fun hG14=>have hP15:¬ ((((97:UInt8).toNat:Int)≤(c.toNat:Int))∧((c.toNat:Int)≤((122:UInt8).toNat:Int))) := nP ((zbf zaq zaq)) (and_l hG14); have hP16:(((65:UInt8).toNat:Int)≤(c.toNat:Int)) := (zaq).1 (and_r hG14); VJ_P (P_leq (a:=(c.toNat:Int)) (b:=((90:UInt8).toNat:Int)) (mbx hG14 rfl) rfl))<|zb7 rfl rfl rfl (fun hG17=>have hP18:¬ ((((97:UInt8).toNat:Int)≤(c.toNat:Int))∧((c.toNat:Int)≤((122:UInt8).toNat:Int))) := nP ((zbf zaq zaq)) hG17; VJ_P (zci (mbx hG17 rfl) (fun hh=>mbx (and_i hG17 hh) rfl) rfl))<|oP (zfq rfl rfl (fun hh=>mbx (not_f hh) rfl))<|oM rfl<|zb7 rfl rfl rfl (fun hG19=>have hP20:¬ (((((97:UInt8).toNat:Int)≤(c.toNat:Int))∧((c.toNat:Int)≤((122:UInt8).toNat:Int)))∨((((65:UInt8).toNat:Int)≤(c.toNat:Int))∧((c.toNat:Int)≤((90:UInt8).toNat:Int)))) := nP ((bT_or (zbf zaq zaq) (zbf zaq zaq))) hG19; VJ_P (zae rfl))<|zb7 rfl rfl rfl (fun hG21=>have hP22:¬ (((((97:UInt8).toNat:Int)≤(c.toNat:Int))∧((c.toNat:Int)≤((122:UInt8).toNat:Int)))∨((((65:UInt8).toNat:Int)≤(c.toNat:Int))∧((c.toNat:Int)≤((90:UInt8).toNat:Int)))) := nP ((bT_or (zbf zaq zaq) (zbf zaq zaq))) hG21; VJ_P (P_geq (a:=(c.toNat:Int)) (b:=((48:UInt8).toNat:Int)) (mbx hG21 rfl) rfl)) ?_
 refine zb7 rfl rfl rfl (fun hG23=>have hP24:¬ (((((97:UInt8).toNat:Int)≤(c.toNat:Int))∧((c.toNat:Int)≤((122:UInt8).toNat:Int)))∨((((65:UInt8).toNat:Int)≤(c.toNat:Int))∧((c.toNat:Int)≤((90:UInt8).toNat:Int)))) := nP ((bT_or (zbf zaq zaq) (zbf zaq zaq))) hG23; VJ_P (zae (mbx hG23 rfl)))<|zin rfl rfl rfl (fun hG25=>have hP26:¬ (((((97:UInt8).toNat:Int)≤(c.toNat:Int))∧((c.toNat:Int)≤((122:UInt8).toNat:Int)))∨((((65:UInt8).toNat:Int)≤(c.toNat:Int))∧((c.toNat:Int)≤((90:UInt8).toNat:Int)))) := nP ((bT_or (zbf zaq zaq) (zbf zaq zaq))) (and_l hG25); have hP27:(((48:UInt8).toNat:Int)≤(c.toNat:Int)) := (zaq).1 (and_r hG25); VJ_P (zae rfl))<|zin rfl rfl rfl (fun hG28=>have hP29:¬ (((((97:UInt8).toNat:Int)≤(c.toNat:Int))∧((c.toNat:Int)≤((122:UInt8).toNat:Int)))∨((((65:UInt8).toNat:Int)≤(c.toNat:Int))∧((c.toNat:Int)≤((90:UInt8).toNat:Int)))) := nP ((bT_or (zbf zaq zaq) (zbf zaq zaq))) (and_l hG28); have hP30:(((48:UInt8).toNat:Int)≤(c.toNat:Int)) := (zaq).1 (and_r hG28); VJ_P (P_leq (a:=(c.toNat:Int)) (b:=((57:UInt8).toNat:Int)) (mbx hG28 rfl) rfl)) ?_
 refine zb7 rfl rfl rfl (fun hG31=>have hP32:¬ (((((97:UInt8).toNat:Int)≤(c.toNat:Int))∧((c.toNat:Int)≤((122:UInt8).toNat:Int)))∨((((65:UInt8).toNat:Int)≤(c.toNat:Int))∧((c.toNat:Int)≤((90:UInt8).toNat:Int)))) := nP ((bT_or (zbf zaq zaq) (zbf zaq zaq))) hG31; VJ_P (zci (mbx hG31 rfl) (fun hh=>mbx (and_i hG31 hh) rfl) rfl))<|oP (zfq rfl rfl (fun hh=>mbx (not_f hh) rfl))<|oM rfl<|zeb 25 rfl (bT_or (bT_or (zbf zaq zaq) (zbf zaq zaq)) (zbf zaq zaq)) (fun hg1B hg1 => ?_) (fun hg1B hg1 => ?_)
 ·
  replace h := ite_t hg1 h
  refine g_ rfl rfl rfl hg1B rfl<|g_ rfl rfl rfl hg1B rfl<|g_ rfl rfl rfl hg1B rfl<|oP (zbe rfl hg1B rfl)<|oA rfl<|nT<|zaf ?_
  cases h
  exact fE (res1 Tryz.results197 rfl) () r_
 ·
  replace h := ite_f hg1 h
  refine p_ rfl rfl rfl hg1B (zae rfl) ?_
  obtain ⟨r33,hr34,h⟩ := zb9 h
  refine RJ_gy (zaz rfl rfl rfl hg1B)<|zai (zlg hr34) rfl Tryz.call216 Dels.nil rfl fun _ _=>p_ rfl rfl rfl hg1B (P_geq (a:=r33) (b:=(0:Int)) rfl rfl)<|oP (za2 rfl hg1B rfl)<|oA rfl<|nT<|zaf ?_
  cases h
  exact fE (res1 Tryz.results197 rfl) () r_
end Go.Proofs
namespace Go.Proofs
open Go.VG
theorem zta {s:ArrS} (h8:s.drv.length≤1000) (hz:∀ i,i < s.drv.length→1≤s.size i∧s.size i≤65536):∀ (N i:Nat) (acc:List Dvc),s.drv.length - i < N→i≤s.drv.length →
    acc=(List.range i).map (fun i=>Dvc.span ((i:Nat):Int) 0 ((s.size i:Nat):Int))→zc0 s N acc i=some (.inl (zjz s))
  | 0,_,_,h,_,_=>absurd h (by omega)
  | N + 1,i,acc,h,hi,ha=>by
    show zcs _ _ _ _=_
    unfold zcs
    subst ha
    by_cases hlt:i < s.drv.length
    · have h1 := hz i hlt
      rw [if_pos (by omega),zhq hlt,ztz (by omega) (by omega) (by rw [zhq hlt]; omega) (by rw [zhq hlt]; omega)]
      simp only [Option.bind_some,Option.elim]
      rw [if_neg (by simp),grd_t (zhp (by simp; omega)),grd_t (zn1 (by omega))]
      refine zta h8 hz N (i + 1) _ (by omega) (by omega) ?_
      simp [List.range_succ]
    · rw [if_neg (by omega)]
      have:i=s.drv.length := by omega
      rw [this]; rfl
theorem zzq {s:ArrS} (h8:s.drv.length≤1000) (hz:∀ i,i < s.drv.length→1≤s.size i∧s.size i≤65536):zde s=some (zjz s) := by
  unfold zde
  have hF := zkn
  generalize FUEL=N at hF ⊢
  rw [zta h8 hz N 0 _ (by omega) (by omega) (by simp)]; rfl
end Go.Proofs
namespace Go.VG
theorem IOk.fn {P:Program} {W:World} {d:Nat} {h:IfH} {nm:String} {xs:List Value} {pre:List HP} {X:Type} {res:X→Value} {pf:X→Prop} {post:X→List HP→List HP} {f:FuncId} {r:Value} (hm:IOk P W d h nm xs pre res pf post) (hf:∀ n w,(method (n + 1) h.t h.u nm).run P w = .ok (f,r) w):CSpec P W f (r::xs) pre res pf post := fun F w hs=>by
  obtain ⟨f',r',h1,h2,h3⟩ := hm (d + 1) (Nat.le_succ _) F w hs
  rw [hf d w] at h1
  injection h1 with h4 h5
  injection h4 with h6 h7
  subst h6; subst h7
  exact h3
end Go.VG
namespace Go.Proofs.Ts
open Go.VG
def s21:ArrS := mkS [[7,8],[7,8]]
def ns21:List Nat := [2,2]
def v21:Nat→UInt64 := fun a=>[7,8].getD a 0
def n21:Nd := .mir (.span 0 0 2) (.span 1 0 2)
theorem env21:Env ns21 false true 500000 s21 := by
  refine ⟨Nat.le_refl _,⟨⟨rfl,fun d hd => ?_,Nat.zero_le _⟩,Nat.zero_le _,zt1,rfl⟩,rfl,fun _=>rfl,fun e => ?_⟩
  · have:d=0∨d=1 := by have:ns21.length=2 := rfl; omega
    rcases this with rfl | rfl <;> rfl
  · match e with
    | 0=>rfl
    | 1=>rfl
    | e + 2=>rfl
theorem good21:n21.Good ns21 := ⟨⟨by decide,by decide,by decide⟩,⟨by decide,by decide,by decide⟩,fun d a x y=>absurd (x.1.symm.trans y.1) (by decide),by decide,by decide⟩
theorem zw8 (d:Nat) (hd:d < 2) {a:Nat} (_:a < 2):Go.Proofs.now s21 d (0 + a)=v21 a∧v21 a ∈ [v21 a] ∧ ∀ c,c ∈ Go.Proofs.cand s21 d (0 + a)→c ∈ [v21 a] := by
  have h2:d=0∨d=1 := by omega
  have h3:Go.Proofs.now s21 d (0 + a)=v21 a∧Go.Proofs.cand s21 d (0 + a)=[v21 a] := by
    rw [Nat.zero_add]
    rcases h2 with rfl | rfl <;> exact ⟨rfl,rfl⟩
  refine ⟨h3.1,List.mem_singleton.2 rfl,fun c hc=>by rw [h3.2] at hc; exact hc⟩
theorem zzr:zda [[7,8],[7,8]]=some (some s21) := zwb (by decide) (fun im h=>by simp at h; subst h; decide)
theorem z1y:zde s21=some (zjz s21) := zzq (by decide) (fun i hi=>by
  have hi':i < 2 := hi
  have:i=0∨i=1 := by omega
  rcases this with rfl | rfl <;> decide)
def K21 (h:Nat→IfH) (R:Nat→HP):Nat→Kid := fun i=>spanK (h i) (R i) i 0 2
theorem open21 {W:World} {b:Nat} {lv:Sl3} {hs:List IfH} : CSpec Tryz.prog W 14 [lv.v,.slice none 0 0,.nilIface,.int .i64 1] [Arr b s21,sl tyDev lv.v hs,Rs (DevP b) (zjz s21) hs] (fun x:(Kid × ArrS) × Nat => .tuple #[ptr x.2 0,.int .i64 0])
    (fun x=>KRes b ns21 1 n21 s21 (500000 - cO 1) false x.1∧x.1.1.val=⟨49,ptr x.2 0⟩) (fun x F=>KPost b v21 (star []) x.1::F) := by
  refine CSpec.preX (β:=(Nat→IfH) × (Nat→HP)) (φ:=fun y=>hs=[y.1 0,y.1 1] ∧ ∀ i:Nat,i < 2→DevOk b (Dvc.span (i:Int) ((0:Nat):Int) ((2:Nat):Int)) (y.1 i) (y.2 i)) (pre2:=fun y=>[(⟨K21 y.1 y.2,2,s21,fun _=>v21⟩:LS).S b,star [],sl tyDev lv.v [y.1 0,y.1 1]]) (fun F p hp => ?_) (fun y hy => ?_)
  · have h0:stars (Rs (DevP b) [Dvc.span ((0:Nat):Int) ((0:Nat):Int) ((2:Nat):Int),Dvc.span ((1:Nat):Int) ((0:Nat):Int) ((2:Nat):Int)] hs::Arr b s21::sl tyDev lv.v hs::F) p := (Ent.take del2 Ent.refl) p hp
    match hs with
    | []=>exact absurd ((stars_emp (p:=False)).1 h0).1 id
    | [a] =>
      have h1 := (stars_starX (Hs:=[_,_])).1 h0
      exact absurd ((stars_emp (p:=False)).1 (zby h1)).1 id
    | a::c::e::l =>
      have h1 := (stars_starX (Hs:=[_,_])).1 h0
      have h2 := (stars_starX (Hs:=[_,_])).1 (zby h1)
      exact absurd ((stars_emp (p:=False)).1 (zby h2)).1 id
    | [a,c] =>
      have h1:stars (DevP b (Dvc.span ((0:Nat):Int) ((0:Nat):Int) ((2:Nat):Int)) a::starX [DevP b (Dvc.span ((1:Nat):Int) ((0:Nat):Int) ((2:Nat):Int)) c,emp True]::Arr b s21::sl tyDev lv.v [a,c]::F) p := (stars_starX (Hs:=[_,_])).1 h0
      obtain ⟨R0,h2⟩ := stars_ex.1 h1
      obtain ⟨hd0,h3⟩ := stars_emp.1 (stars_starX.1 h2)
      have h4:stars (starX [DevP b (Dvc.span ((1:Nat):Int) ((0:Nat):Int) ((2:Nat):Int)) c,emp True]::R0::Arr b s21::sl tyDev lv.v [a,c]::F) p := zbx h3
      have h5:stars (DevP b (Dvc.span ((1:Nat):Int) ((0:Nat):Int) ((2:Nat):Int)) c::emp True::R0::Arr b s21::sl tyDev lv.v [a,c]::F) p := (stars_starX (Hs:=[_,_])).1 h4
      obtain ⟨R1,h6⟩ := stars_ex.1 h5
      obtain ⟨hd1,h7⟩ := stars_emp.1 (stars_starX.1 h6)
      have h8:stars (R1::R0::Arr b s21::sl tyDev lv.v [a,c]::F) p := (Ent.take del0 (Ent.drop Ent.refl)) p h7
      refine ⟨(fun i=>if i=0 then a else c,fun i=>if i=0 then R0 else R1),⟨rfl,fun i hi => ?_⟩,?_⟩
      · have h9:i=0∨i=1 := by omega
        rcases h9 with rfl | rfl
        · exact hd0
        · exact hd1
      · refine (stars_star (Hs:=[Arr b s21,(spanK a R0 0 0 2).H s21 v21 (fun x=>[v21 x]),(spanK c R1 1 0 2).H s21 v21 (fun x=>[v21 x])])).2 ?_
        have g1:stars (Arr b s21::R0::R1::sl tyDev lv.v [a,c]::F) p := (Ent.take del2 (Ent.take del1 (Ent.take del0 Ent.refl))) p h8
        refine zas (fun _ k1=>zdw (fun x hx=>zw8 0 (by decide) hx) (zas (fun _ k2=>zdw (fun x hx=>zw8 1 (by decide) hx) (zas (fun _ k3=>(stars_star (Hs:=[])).2 k3) k2)) k1)) g1
  · obtain ⟨rfl,hd⟩ := hy
    obtain ⟨h,R⟩ := y
    have hI:LI b ns21 0 n21 s21 (fun _=>v21) 500000 false 2 ⟨K21 h R,2,s21,fun _=>v21⟩ := by
      refine ⟨rfl,rfl,fun j hj => ?_,env21.mono (Nat.sub_le _ _),Out.refl,fun j h1 h2=>absurd h2 (by show ¬ j < 2; omega),fun z=>(by cases z),fun z=>by cases z⟩
      have h2:j=0∨j=1 := by omega
      rcases h2 with rfl | rfl
      · exact ⟨zjq (hd 0 (by decide)) (by decide) (by decide) (by decide),rfl,rfl,rfl,fun _=>rfl⟩
      · exact ⟨zjq (hd 1 (by decide)) (by decide) (by decide) (by decide),rfl,rfl,rfl,fun _=>rfl⟩
    exact zw3 (rg:=1) (by decide) good21 (by decide) hI rfl
theorem read21 {W:World} {b q:Nat} {x:Kid × ArrS} (hx:KRes b ns21 1 n21 s21 (500000 - cO 1) false x) (hv:x.1.val=⟨49,ptr q 0⟩):CSpec Tryz.prog W 16 [ptr q 0,.int .i64 1] [KPost b v21 (star []) x] (fun _:Unit => .tuple #[.int .u64 8,.int .i64 0]) (fun _=>True) (fun _ F=>F) := by
  have hm := hx.ok.ok.rd (W:=W) (s:=x.2) (nw:=v21) (cd:=fun a=>[v21 a]) (k:=500000 - cO 1) (a:=1) (safe:=true) hx.env (by rw [hx.ok.sz]; decide) (by decide)
  rw [hv] at hm
  have hc := IOk.fn (f:=16) (r:=ptr q 0) hm (fun n w=>by kernel_rfl)
  refine CSpec.imp (CSpec.conseq (G:=[]) hc (fun F p hp => ?_) (fun _ _=>Ent.refl)) fun y F p hy hp=>⟨(),?_,trivial,?_⟩
  · have h1:stars (Arr b x.2::x.1.H x.2 v21 (fun a=>[v21 a])::star []::F) p := (stars_star (Hs:=[_,_,_])).1 hp
    exact zas (fun _ h2=>zas (fun _ h3=>(stars_star (Hs:=[])).1 h3) h2) h1
  · have hok:y.1=true := (Bool.eq_false_or_eq_true y.1).resolve_right fun z=>by have := hy.1.sf z; cases this
    rw [hok]; rfl
  · exact zby (zby hp)
end Go.Proofs.Ts
set_option linter.unusedSimpArgs false
set_option maxRecDepth 20000
namespace Go.Proofs
open Go.VG Ts
def sufL:List ByteArray := [ByteArray.empty,(ByteArray.mk #[95,108,111,103]),(ByteArray.mk #[95,100,97,116,97]),(ByteArray.mk #[95,109,101,116,97]),(ByteArray.mk #[95,115,112,97,114,101])]
def GV:HP := fun h => ∀ i u,(flat tyS sufL)[i]? = some u→zc9 h 0 i=some u
abbrev ziy:Ty ByteArray := { tyS with T := 317 }
theorem zk5:Reads GV ziy (.slice (some ⟨0,0,none⟩) 5 5) sufL := by
  intro h hh
  refine .inr ⟨⟨0,0,none⟩,5,rfl,Nat.le_refl _,by decide,fun _=>rfl,fun i k u hi hk hu => ?_⟩
  have := zd1 ziy sufL i k hi hk
  rw [Nat.zero_add]
  exact hh _ _ (by rw [show flat tyS sufL=flat ziy sufL from rfl,this,hu])
structure NoSuf (s:ByteArray):Prop where
  sz:1≤s.size∧s.size≤24
  no:∀ i,i < 4 → ∃ r,zen s (sufL.getD (i + 1) ByteArray.empty)=some (r,false)
  leg:∃ r,zen (zd2 s 0 ((s.size:Int) - 1).toNat) (ByteArray.mk #[95,108,101,103])=some (r,false)
  nm:zk4 s=some true
theorem c_cut {W:World} {s:ByteArray} (hs:NoSuf s) :
    CSpec Tryz.prog W 160 [.string s] [GV] (fun x:ByteArray => .tuple #[.string x,.bool false]) (fun _=>True) (fun _ F=>GV::F) := by
 refine CSpec.of_body Tryz.func160 rfl Tryz.ntmps160 rfl fun F => ?_
 show CJ _ _ _ _ _ _ (_::F)
 have hsz := hs.sz
 have hsl:(List.drop 1 (List.take 5 sufL)).length=4 := rfl
 obtain ⟨r2,hr2⟩ := hs.leg
 refine sR<|oA rfl<|oA rfl<|nT<|zab<|sR<|oP (zon (l:=1) rfl ⟨_,rfl⟩ rfl Tryz.runUnderlying317 Tryz.sizeOf9)<|oV (V_len rfl foc0 (Reads.sliceV (t:=tyS) (l:=1) (h:=5) (Reads.recast (t:=ziy) (t' := tyS) zk5 rfl rfl rfl) (by decide) (by decide)) Tryz.runUnderlying58)<|oM rfl<|nT<|zao<|za8 (X:=Nat) [2,3,5,6,7,11,12,13,14,15,16,17,18,19,20,21,22,23] (fun i  => ([(11,.int .i64 (i:Nat))]:Slots)) (fun i R=>R) (fun i  => i≤4) (fun i  => 4 - i) (0) ?_ ?_ r_ ?_
 · exact Nat.zero_le _
 · exact ⟨rfl,True.intro⟩
 ·
  intro i hi4
  show CJ _ _ _ _ _ (([(11,.int .i64 (i:Nat))]:Slots) ++ forget _ _) (_)
  refine sR<|oP (P_lss rfl rfl)<|nT<|zab ?_
  first | (refine zav rfl (fun hg1 => ?_) (fun hg1 => ?_)) | (refine zaw rfl (fun hg1 => ?_) (fun hg1 => ?_)) | (refine za1 rfl (fun hg1 => ?_) (fun hg1 => ?_))
  ·
   refine kT<|zab<|zao<|sR ?_
   first | (refine RJ_op rfl (OJ_V (zam rfl rfl rfl (by omega) foc0 (Reads.sliceV (t:=tyS) (l:=1) (h:=5) (Reads.recast (t:=ziy) (t' := tyS) zk5 rfl rfl rfl) (by decide) (by decide)) Tryz.runUnderlying58 Tryz.sizeOf9) rfl ?_)) | (refine RJ_op rfl (OJ_V (zam rfl rfl (Int.toNat_of_nonneg (by omega)).symm (by omega) foc0 (Reads.sliceV (t:=tyS) (l:=1) (h:=5) (Reads.recast (t:=ziy) (t' := tyS) zk5 rfl rfl rfl) (by decide) (by decide)) Tryz.runUnderlying58 Tryz.sizeOf9) rfl ?_))
   refine oV (za6 rfl rfl (by omega) foc0 (Reads.sliceV (t:=tyS) (l:=1) (h:=5) (Reads.recast (t:=ziy) (t' := tyS) zk5 rfl rfl rfl) (by decide) (by decide)) rfl rfl Tryz.isAgg9)<|oA rfl<|nT<|sR ?_
   have hi:i < 4 := by omega
   obtain ⟨r,hr⟩ := hs.no i hi
   refine oM rfl<|oM rfl<|oO<|zai ((zhe hr)) rfl Tryz.call191 Dels.nil rfl fun _ hc1=>oM rfl<|oP (zaj rfl rfl)<|oP (zaj rfl rfl)<|oA rfl<|oA rfl<|nT<|sR<|oM rfl<|nT<|zap rfl rfl<|zbh<|zah<|zar<|zag<|oP (P_add rfl rfl (by omega))<|oM rfl<|za0<|zba (i + 1) (by first | omega | (simp only []; omega)) ?_ kP_ ?_ r_
   · show i + 1≤4; omega
   · exact ⟨rfl,True.intro⟩
  ·
   refine zbc<|zay<|zau<|zat<|zar<|sR<|oM rfl<|oP (zcn rfl Tryz.runUnderlying9)<|oP (P_sub rfl rfl (by omega))<|oA rfl<|nT<|zab<|sR<|oM rfl<|oP (P_lss rfl rfl)<|oM rfl<|zbp 29 false rfl wF_ fun hg2B=>p_ rfl rfl rfl hg2B (zae rfl)<|p_ rfl rfl rfl hg2B (zae rfl)<|p_ rfl rfl rfl hg2B (zcz (b:=s) (i:=((s.size:Int) - 1).toNat) rfl rfl (Int.toNat_of_nonneg (by omega)).symm (by omega) Tryz.runUnderlying9)<|p_ rfl rfl rfl hg2B (P_lss rfl rfl)<|oP (za2 rfl hg2B rfl)<|oM rfl ?_
   first | (refine zbu 35 rfl (fun hg3B hg3 => ?_) (fun hg3B hg3 => ?_)) | (refine zbv 35 rfl (fun hg3B hg3 => ?_) (fun hg3B hg3 => ?_)) | (refine zb3 35 rfl (fun hg3B => ?_) (fun hg3B => ?_))
   ·
    refine g_ rfl rfl rfl hg3B rfl<|g_ rfl rfl rfl hg3B rfl<|g_ rfl rfl rfl hg3B rfl<|g_ rfl rfl rfl hg3B rfl<|oP (zbe rfl hg3B rfl)<|nT<|za7 rfl rfl<|sR<|oM rfl<|oA rfl<|oA rfl<|nT<|zaf<|zak<|zan (res2 Tryz.results160 rfl rfl)<|CSpec.close s ?_ ?_ r_
    · rfl
    · trivial
   ·
    refine p_ rfl rfl rfl hg3B (zae rfl)<|p_ rfl rfl rfl hg3B (zae rfl)<|p_ rfl rfl rfl hg3B (zcz (b:=s) (i:=((s.size:Int) - 1).toNat) rfl rfl (Int.toNat_of_nonneg (by omega)).symm (by omega) Tryz.runUnderlying9)<|p_ rfl rfl rfl hg3B (P_gtr rfl rfl)<|oP (za2 rfl hg3B rfl)<|nT ?_
    first | (refine zav rfl (fun hg4 => ?_) (fun hg4 => ?_)) | (refine zaw rfl (fun hg4 => ?_) (fun hg4 => ?_)) | (refine za1 rfl (fun hg4 => ?_) (fun hg4 => ?_))
    ·
     refine sR<|oM rfl<|oA rfl<|oA rfl<|nT<|zaf<|zak<|zan (res2 Tryz.results160 rfl rfl)<|CSpec.close s ?_ ?_ r_
     · rfl
     · trivial
    ·
     refine kT<|sR<|oM rfl<|oM rfl<|oP (zeg (b:=s) (l:=0) (h:=((s.size:Int) - 1).toNat) rfl rfl ⟨_,by rw [Int.toNat_of_nonneg (by omega)]; rfl⟩ (by omega) (by omega) Tryz.runUnderlying9)<|oO<|zai ((zhe hr2)) rfl Tryz.call191 Dels.nil rfl fun _ hc2=>oP (zaj rfl rfl)<|oP (zaj rfl rfl)<|oA rfl<|oA rfl<|nT<|zaf<|zan (res2 Tryz.results160 rfl rfl)<|CSpec.close r2 ?_ ?_ r_
     · rfl
     · trivial
theorem zq5 {W:World} {s:ByteArray} (hs:NoSuf s) :
    CSpec Tryz.prog W 121 [.string s] [GV] (fun _:Unit => .bool true) (fun _=>True) (fun _ F=>GV::F) := by
 refine CSpec.of_body Tryz.func121 rfl Tryz.ntmps121 rfl fun F => ?_
 show CJ _ _ _ _ _ _ (_::F)
 have hsz := hs.sz
 refine sR<|oA rfl<|nT<|sR<|oM rfl<|oO<|zai ((c_cut hs)) rfl Tryz.call160 (dC_ del0) rfl fun _ hc1=>oM rfl<|oP (zaj rfl rfl)<|oP (zaj rfl rfl)<|oA rfl<|oA rfl<|nT<|sR<|oM rfl<|oO<|zai ((zs9 hs.nm)) rfl Tryz.call161 Dels.nil rfl fun _ hc2=>oM rfl<|p_ rfl rfl rfl rfl (zae rfl)<|p_ rfl rfl rfl rfl (zcn rfl Tryz.runUnderlying9)<|p_ rfl rfl rfl rfl (P_leq rfl rfl)<|oP (zbe rfl rfl rfl)<|oM rfl<|zbp 17 true rfl wT_ fun hg1B=>p_ rfl rfl rfl hg1B (zae rfl)<|p_ rfl rfl rfl hg1B (P_not rfl)<|oP (zbe rfl hg1B rfl)<|oA rfl<|nT<|zaf<|zan (res1 Tryz.results121 rfl)<|CSpec.close () ?_ ?_ r_
 · rfl
 · trivial
end Go.Proofs
set_option linter.unusedSimpArgs false
set_option maxRecDepth 20000
namespace Go.Proofs
open Go.VG Ts
theorem zlh (v0:Int) (v1:Int) (v2:Bool):∀ w,(Instr.build 237 (#[(0,.int .i64 v0),(1,.int .i64 v1),(3,.bool v2)]:Array (Nat × Value))).run Tryz.prog w = .ok (.agg #[.int .i64 v0,.int .i64 v1,.bool false,.bool v2,.int .i64 0,.bool false,.bool false,.bool false,.bool false,.bool false]) w := fun w=>by kernel_rfl
theorem zkc (v0:Int) (v1:Int) (v2:Bool) (v3:Int):∀ w,(Instr.build 237 (#[(0,.int .i64 v0),(1,.int .i64 v1),(3,.bool v2),(4,.int .i64 v3)]:Array (Nat × Value))).run Tryz.prog w = .ok (.agg #[.int .i64 v0,.int .i64 v1,.bool false,.bool v2,.int .i64 v3,.bool false,.bool false,.bool false,.bool false,.bool false]) w := fun w=>by kernel_rfl
theorem zim (v0:Int) (v1:Int) (v2:Bool) (v3:Int) (v4:Bool) (v5:Bool):∀ w,(Instr.build 237 (#[(0,.int .i64 v0),(1,.int .i64 v1),(2,.bool v2),(4,.int .i64 v3),(5,.bool v4),(7,.bool v5)]:Array (Nat × Value))).run Tryz.prog w = .ok (.agg #[.int .i64 v0,.int .i64 v1,.bool v2,.bool false,.int .i64 v3,.bool v4,.bool false,.bool v5,.bool false,.bool false]) w := fun w=>by kernel_rfl
theorem zi5 (v0:Int) (v1:Int) (v2:Bool) (v3:Int) (v4:Bool):∀ w,(Instr.build 237 (#[(0,.int .i64 v0),(1,.int .i64 v1),(2,.bool v2),(4,.int .i64 v3),(5,.bool v4)]:Array (Nat × Value))).run Tryz.prog w = .ok (.agg #[.int .i64 v0,.int .i64 v1,.bool v2,.bool false,.int .i64 v3,.bool v4,.bool false,.bool false,.bool false,.bool false]) w := fun w=>by kernel_rfl
theorem zkd (v0:Int) (v1:Int) (v2:Bool) (v3:Int):∀ w,(Instr.build 237 (#[(0,.int .i64 v0),(1,.int .i64 v1),(2,.bool v2),(4,.int .i64 v3)]:Array (Nat × Value))).run Tryz.prog w = .ok (.agg #[.int .i64 v0,.int .i64 v1,.bool v2,.bool false,.int .i64 v3,.bool false,.bool false,.bool false,.bool false,.bool false]) w := fun w=>by kernel_rfl
theorem zpb (v0:Bool):∀ w,(Instr.build 237 (#[(6,.bool v0)]:Array (Nat × Value))).run Tryz.prog w = .ok (.agg #[.int .i64 0,.int .i64 0,.bool false,.bool false,.int .i64 0,.bool false,.bool v0,.bool false,.bool false,.bool false]) w := fun w=>by kernel_rfl
theorem zi6 (v0:Int) (v1:Int) (v2:Bool) (v3:Int) (v4:Bool):∀ w,(Instr.build 237 (#[(0,.int .i64 v0),(1,.int .i64 v1),(2,.bool v2),(4,.int .i64 v3),(8,.bool v4)]:Array (Nat × Value))).run Tryz.prog w = .ok (.agg #[.int .i64 v0,.int .i64 v1,.bool v2,.bool false,.int .i64 v3,.bool false,.bool false,.bool false,.bool v4,.bool false]) w := fun w=>by kernel_rfl
theorem zke (v0:Int) (v1:Int) (v2:Bool) (v3:Bool):∀ w,(Instr.build 237 (#[(0,.int .i64 v0),(1,.int .i64 v1),(3,.bool v2),(9,.bool v3)]:Array (Nat × Value))).run Tryz.prog w = .ok (.agg #[.int .i64 v0,.int .i64 v1,.bool false,.bool v2,.int .i64 0,.bool false,.bool false,.bool false,.bool false,.bool v3]) w := fun w=>by kernel_rfl
theorem zjk (v0:Bool):∀ w,(Instr.build 237 (#[(3,.bool v0)]:Array (Nat × Value))).run Tryz.prog w = .ok (.agg #[.int .i64 0,.int .i64 0,.bool false,.bool v0,.int .i64 0,.bool false,.bool false,.bool false,.bool false,.bool false]) w := fun w=>by kernel_rfl
theorem zdx {P:Program} {n:Env} {W:World} {s:Slots} {H:List HP} {K:Slots→List HP→Prop} {T:TypeId} {x y u:Operand} {ty:TypeId} {pos:String} {after:Array Edge} {g:Option (Nat × Bool)} (h:OJ P n W ⟨none,.mapUpdate T x y u,ty,pos,after,g⟩ s H K):OJ P n W ⟨none,.insert T x y u,ty,pos,after,g⟩ s H K := by
  intro a w hf hs next Q hn
  obtain ⟨h1,_⟩ := h a w hf hs next Q hn
  refine ⟨?_,fun c e=>by cases e⟩
  unfold Oper.wp at h1 ⊢
  exact h1
structure DkV where
  name:ByteArray
  id:UInt64
  first:Int
  exts:Int
  closed:Bool
  missing:Bool
  tags:Sl3
abbrev zb4:Ty DkV := { T := 60,sz := 7,enc := fun x=>[.string x.name,.int .u64 (x.id.toNat:Int),.int .i64 x.first,.int .i64 x.exts,.bool x.closed,.bool x.missing,x.tags.v],dflt := ⟨ByteArray.empty,0,0,0,false,false,⟨none,0,0⟩⟩,len := fun _=>rfl,one := fun _=>rfl,pos := by decide }
def dk0:DkV := ⟨(ByteArray.mk #[112,118,48]),0,0,3,false,false,⟨none,0,0⟩⟩
structure ShV where
  least:Int
  greatest:Int
  vols:Bool
  sev:Bool
  chunk:Int
  stale:Bool
  pool:Bool
  log:Bool
  mode:Bool
  done:Bool
abbrev mShp:MTy Int ShV := { KT := 3,VT := 237,ek := fun k => .int .i64 k,ev := fun x => .agg #[.int .i64 x.least,.int .i64 x.greatest,.bool x.vols,.bool x.sev,.int .i64 x.chunk,.bool x.stale,.bool x.pool,.bool x.log,.bool x.mode,.bool x.done] }
theorem zfg:MOk Tryz.prog mShp 194 where
  ty := Tryz.underlying194
  eq := fun a b w=>by
    have e:Op.equal mShp.KT (mShp.ek a) (mShp.ek b)=Op.equalIn (9999 + 1) 3 (.int .i64 a) (.int .i64 b) := rfl
    rw [e,run_equalIn_int (P:=Tryz.prog) w 9999 3 .i64 .i64 a b Tryz.underlying3]
    congr 1
  chk := fun e a w=>by
    exact zpm Tryz.underlying3 e a w 9999
  same := fun a=>by simp [Instr.sameBits]
  kd := ⟨_,Tryz.underlying3,.inr fun a b=>by simp [Instr.sameNow]; rfl⟩
theorem zq6 {W:World}  :
    CSpec Tryz.prog W 122 [.slice none 0 0] [] (fun _:Unit => .int .i64 0) (fun _=>True) (fun _ F=>F) := by
 refine CSpec.of_body Tryz.func122 rfl Tryz.ntmps122 rfl fun F => ?_
 show CJ _ _ _ _ _ _ (F)
 refine sR<|oA rfl<|nT<|zab<|sR<|oM rfl<|oP (zca rfl Tryz.runUnderlying58)<|oP (P_gtr rfl rfl)<|nT<|zap rfl dF_<|kT<|zab<|sR<|oM rfl<|oP (zca rfl Tryz.runUnderlying58)<|oM rfl<|nT<|zao<|za8 (X:=Unit) [2,3,4,10,11,12,13,14,15,16,17,18,19,20,21,22,23,24,25,26,27,28,29,30,31] (fun _=>([(10,.int .i64 0)]:Slots)) (fun _ R=>R) (fun _=>True) (fun _=>0) () ?_ ?_ r_ ?_
 · trivial
 · exact ⟨rfl,True.intro⟩
 ·
  intro _ hpf
  show CJ _ _ _ _ _ (([(10,.int .i64 0)]:Slots) ++ forget _ _) (_)
  refine sR<|oP (P_lss rfl rfl)<|nT<|zab<|zap rfl dF_<|zbc<|zay<|zau<|zat<|zar<|sR<|oA rfl<|nT<|zaf<|zan (res1 Tryz.results122 rfl)<|CSpec.close () ?_ ?_ r_
  · rfl
  · trivial
theorem zzs {W:World}  :
    CSpec Tryz.prog W 89 [] [] (fun x:Nat × List (Int × ShV) => .map (some x.1)) (fun _=>True) (fun x F=>mpc mShp x.1 x.2::F) := by
 refine CSpec.of_body Tryz.func89 rfl Tryz.ntmps89 rfl fun F => ?_
 show CJ _ _ _ _ _ _ (F)
 refine sR<|oA rfl<|nT<|sR<|oO<|ze2 mShp rfl fun b1=>oP (zbk rfl (zlh _ _ _))<|oO<|zdx<|zc1 (M:=mShp) (k:=(1:Int)) (v:=(⟨1,1,false,true,0,false,false,false,false,false⟩:ShV)) rfl rfl rfl foc0 zfg<|oP (zbk rfl (zkc _ _ _ _))<|oO<|zdx<|zc1 (M:=mShp) (k:=(2:Int)) (v:=(⟨2,6,false,true,1,false,false,false,false,false⟩:ShV)) rfl rfl rfl foc0 zfg<|oP (zbk rfl (zim _ _ _ _ _ _))<|oO<|zdx<|zc1 (M:=mShp) (k:=(3:Int)) (v:=(⟨2,6,true,false,1024,true,false,true,false,false⟩:ShV)) rfl rfl rfl foc0 zfg<|oP (zbk rfl (zi5 _ _ _ _ _))<|oO<|zdx<|zc1 (M:=mShp) (k:=(4:Int)) (v:=(⟨3,6,true,false,1,true,false,false,false,false⟩:ShV)) rfl rfl rfl foc0 zfg<|oP (zbk rfl (zkd _ _ _ _))<|oO<|zdx<|zc1 (M:=mShp) (k:=(5:Int)) (v:=(⟨2,2,true,false,64,false,false,false,false,false⟩:ShV)) rfl rfl rfl foc0 zfg<|oP (zbk rfl (zpb _))<|oO<|zdx<|zc1 (M:=mShp) (k:=(6:Int)) (v:=(⟨0,0,false,false,0,false,true,false,false,false⟩:ShV)) rfl rfl rfl foc0 zfg<|oP (zbk rfl (zi6 _ _ _ _ _)) ?_
 refine oO<|zdx<|zc1 (M:=mShp) (k:=(7:Int)) (v:=(⟨3,3,true,false,64,false,false,false,true,false⟩:ShV)) rfl rfl rfl foc0 zfg<|oP (zbk rfl (zke _ _ _ _))<|oO<|zdx<|zc1 (M:=mShp) (k:=(8:Int)) (v:=(⟨2,2,false,true,0,false,false,false,false,true⟩:ShV)) rfl rfl rfl foc0 zfg<|oP (zbk rfl (zjk _))<|oO<|zdx<|zc1 (M:=mShp) (k:=(9:Int)) (v:=(⟨0,0,false,true,0,false,false,false,false,false⟩:ShV)) rfl rfl rfl foc0 zfg<|oP (zbk rfl (zjk _))<|oO<|zdx<|zc1 (M:=mShp) (k:=(10:Int)) (v:=(⟨0,0,false,true,0,false,false,false,false,false⟩:ShV)) rfl rfl rfl foc0 zfg<|oM rfl<|oA rfl<|nT<|zaf<|zan (res1 Tryz.results89 rfl)<|CSpec.close (b1,_) ?_ ?_ r_
 · rfl
 · trivial
end Go.Proofs
set_option linter.unusedSimpArgs false
set_option maxRecDepth 20000
namespace Go.Proofs
open Go.VG Ts
theorem zmi (a b:ByteArray):(a == b)=decide (a=b) := by
  cases a; cases b
  rename_i x y
  show (x == y)=_
  rw [Bool.eq_iff_iff]; simp
abbrev mTak:MTy ByteArray Sl3 := { KT := 9,VT := 103,ek := fun k => .string k,ev := fun x=>x.v }
theorem zun {P:Program} {t:TypeId} (hu:P.underlying t=some .string) (e:Bool) (x:ByteArray) (w:World) (n:Nat):(Instr.checkKey e (n + 1) t (.string x)).run P w = .ok () w := by
  simp [Instr.checkKey,run_underlying hu]
theorem zw9 {P:Program} {t:TypeId} (hu:P.underlying t=some .string) (a b:ByteArray) (w:World):(Op.equal t (.string a) (.string b)).run P w = .ok (decide (a=b)) w := by
  have e:Op.equal t (.string a) (.string b)=Op.equalIn (9999 + 1) t (.string a) (.string b) := rfl
  rw [e,Op.equalIn, ← zmi]
  simp only [Sem.run_bind,run_underlying hu,Result.andThen_ok]
  simp
theorem z1z:MOk Tryz.prog mTak 261 where
  ty := Tryz.underlying261
  eq := fun a b w=>zw9 Tryz.underlying9 a b w
  chk := fun e a w=>zun Tryz.underlying9 e a w 9999
  same := fun a=>by simp [Instr.sameBits,zmi]
  kd := ⟨_,Tryz.underlying9,.inr fun a b=>by simp only [Instr.sameNow,zmi]⟩
theorem z10 {W:World} {c mr:Nat} {gn:ByteArray} {dv:Sl3} (hg:NoSuf gn) :
    CSpec Tryz.prog W 90 [ptr c 0] [blk c 197 [.string gn,.int .u64 0,.int .i64 0,.int .i64 1,.int .i64 0,.slice none 0 0,dv.v,.slice none 0 0,.slice none 0 0,.map (some mr)],sl zb4 dv.v [dk0],GV] (fun _:Unit => .tuple #[.string ByteArray.empty,.int .i64 0]) (fun _=>True) (fun _ F=>blk c 197 [.string gn,.int .u64 0,.int .i64 0,.int .i64 1,.int .i64 0,.slice none 0 0,dv.v,.slice none 0 0,.slice none 0 0,.map (some mr)]::sl zb4 dv.v [dk0]::GV::F) := by
 refine CSpec.of_body Tryz.func90 rfl Tryz.ntmps90 rfl fun F => ?_
 show CJ _ _ _ _ _ _ (_::_::_::F)
 refine sR<|oA rfl<|oA rfl<|nT<|sR<|oM rfl<|oP (zad rfl)<|oP (zaa rfl ⟨_,_,_,Tryz.runUnderlying197,rfl,rfl,Tryz.sizeOf65,rfl⟩)<|oV (zbq rfl foc0 Tryz.isAgg65 Tryz.sizeOf65 rfl rfl)<|oO<|zbi Tryz.zeroValue65 rfl rfl fun b1=>oO<|zbo rfl rfl foc0 Tryz.sizeOf65 rfl rfl rfl<|nT<|zab<|zao<|sR<|oP (zaa rfl ⟨_,_,_,Tryz.runUnderlying65,rfl,rfl,Tryz.sizeOf9,rfl⟩)<|oV (zac rfl foc0 rfl Tryz.isAgg9)<|oO<|zai ((zq5 hg)) rfl Tryz.call121 (dC_ del3) rfl fun _ hc2=>oP (P_not rfl)<|oA rfl<|nT<|zap rfl rfl<|sR<|oP (zaa rfl ⟨_,_,_,Tryz.runUnderlying65,rfl,rfl,Tryz.sizeOf3,rfl⟩)<|oV (zac rfl foc1 rfl Tryz.isAgg3)<|oP (P_lss rfl rfl)<|oM rfl<|zbp 21 false rfl (by first | exact decide_eq_false (by first | decide | rfl | omega) | (first | decide | rfl | omega)) fun hg1B=>p_ rfl rfl rfl hg1B (zaa rfl ⟨_,_,_,Tryz.runUnderlying65,rfl,rfl,Tryz.sizeOf3,rfl⟩)<|v_ rfl rfl rfl hg1B (zac rfl foc1 rfl Tryz.isAgg3)<|p_ rfl rfl rfl hg1B (P_gtr rfl rfl)<|oP (za2 rfl hg1B rfl)<|oM rfl<|zbp 26 false rfl (by first | exact decide_eq_false (by first | decide | rfl | omega) | (first | decide | rfl | omega)) fun hg2B=>p_ rfl rfl rfl hg2B (zaa rfl ⟨_,_,_,Tryz.runUnderlying65,rfl,rfl,Tryz.sizeOf3,rfl⟩)<|v_ rfl rfl rfl hg2B (zac rfl foc1 rfl Tryz.isAgg3)<|p_ rfl rfl rfl hg2B (P_lss rfl rfl) ?_
 refine oP (za2 rfl hg2B rfl)<|oM rfl<|zbp 31 false rfl (by first | exact decide_eq_false (by first | decide | rfl | omega) | (first | decide | rfl | omega)) fun hg3B=>p_ rfl rfl rfl hg3B (zaa rfl ⟨_,_,_,Tryz.runUnderlying65,rfl,rfl,Tryz.sizeOf3,rfl⟩)<|v_ rfl rfl rfl hg3B (zac rfl foc1 rfl Tryz.isAgg3)<|p_ rfl rfl rfl hg3B (P_gtr rfl rfl)<|oP (za2 rfl hg3B rfl)<|oM rfl<|zbp 36 false rfl (by first | exact decide_eq_false (by first | decide | rfl | omega) | (first | decide | rfl | omega)) fun hg4B=>p_ rfl rfl rfl hg4B (zaa rfl ⟨_,_,_,Tryz.runUnderlying65,rfl,rfl,Tryz.sizeOf3,rfl⟩)<|v_ rfl rfl rfl hg4B (zac rfl foc1 rfl Tryz.isAgg3)<|p_ rfl rfl rfl hg4B (P_lss rfl rfl)<|oP (za2 rfl hg4B rfl)<|oM rfl<|zbp 41 false rfl (by first | exact decide_eq_false (by first | decide | rfl | omega) | (first | decide | rfl | omega)) fun hg5B=>p_ rfl rfl rfl hg5B (zaa rfl ⟨_,_,_,Tryz.runUnderlying65,rfl,rfl,Tryz.sizeOf3,rfl⟩)<|v_ rfl rfl rfl hg5B (zac rfl foc1 rfl Tryz.isAgg3)<|p_ rfl rfl rfl hg5B (P_gtr rfl rfl)<|oP (za2 rfl hg5B rfl)<|oA rfl<|nT<|zap rfl (by first | exact decide_eq_false (by first | decide | rfl | omega) | (first | decide | rfl | omega))<|sR<|oP (zaa rfl ⟨_,_,_,Tryz.runUnderlying65,rfl,rfl,Tryz.sizeOf61,rfl⟩)<|oV (zac rfl foc1 rfl Tryz.isAgg61)<|oV (V_len rfl foc3 (Reads.sl _ _ _) Tryz.runUnderlying61)<|oP (P_gtr rfl rfl)<|oM rfl ?_
 refine zbp 51 false rfl (by first | exact decide_eq_false (by first | decide | rfl | omega) | (first | decide | rfl | omega)) fun hg7B=>p_ rfl rfl rfl hg7B (zaa rfl ⟨_,_,_,Tryz.runUnderlying65,rfl,rfl,Tryz.sizeOf62,rfl⟩)<|v_ rfl rfl rfl hg7B (zac rfl foc1 rfl Tryz.isAgg62)<|p_ rfl rfl rfl hg7B (zca rfl Tryz.runUnderlying62)<|p_ rfl rfl rfl hg7B (P_gtr rfl rfl)<|oP (za2 rfl hg7B rfl)<|oM rfl<|zbp 57 false rfl (by first | exact decide_eq_false (by first | decide | rfl | omega) | (first | decide | rfl | omega)) fun hg8B=>p_ rfl rfl rfl hg8B (zaa rfl ⟨_,_,_,Tryz.runUnderlying65,rfl,rfl,Tryz.sizeOf63,rfl⟩)<|v_ rfl rfl rfl hg8B (zac rfl foc1 rfl Tryz.isAgg63)<|p_ rfl rfl rfl hg8B (zca rfl Tryz.runUnderlying63)<|p_ rfl rfl rfl hg8B (P_gtr rfl rfl)<|oP (za2 rfl hg8B rfl)<|oA rfl<|nT<|zap rfl (by first | exact decide_eq_false (by first | decide | rfl | omega) | (first | decide | rfl | omega))<|zbh<|zah<|zar<|zab<|sR<|oP (zaa rfl ⟨_,_,_,Tryz.runUnderlying65,rfl,rfl,Tryz.sizeOf58,rfl⟩)<|oV (zac rfl foc1 rfl Tryz.isAgg58)<|oO<|zai (zq6) rfl Tryz.call122 Dels.nil rfl fun _ hc3=>oA rfl<|nT<|sR<|oM rfl<|oP (P_neq rfl rfl)<|nT<|zap rfl (by first | exact decide_eq_false (by first | decide | rfl | omega) | (first | decide | rfl | omega))<|kT<|zab<|sR ?_
 refine oP (zaa rfl ⟨_,_,_,Tryz.runUnderlying65,rfl,rfl,Tryz.sizeOf63,rfl⟩)<|oV (zac rfl foc1 rfl Tryz.isAgg63)<|oP (zca rfl Tryz.runUnderlying63)<|oM rfl<|nT<|zao<|za8 (X:=Unit) [2,3,7,72,73,74,75,76,77,78,79,80,81,82,83,84,85,86,87,88,89,90] (fun _=>([(72,.int .i64 0)]:Slots)) (fun _ R=>R) (fun _=>True) (fun _=>0) () ?_ ?_ r_ ?_
 · trivial
 · exact ⟨rfl,True.intro⟩
 ·
  intro _ hpf
  show CJ _ _ _ _ _ (([(72,.int .i64 0)]:Slots) ++ forget _ _) (_)
  refine sR<|oP (P_lss rfl rfl)<|nT<|zab<|zap rfl (by first | exact decide_eq_false (by first | decide | rfl | omega) | (first | decide | rfl | omega))<|zbc<|zay<|zau<|zat<|zar<|sR<|oA rfl<|oA rfl<|nT<|zaf<|zan (res2 Tryz.results90 rfl rfl)<|CSpec.close () ?_ ?_ (t2_ (t2_ (t0_ (e_ r_))))
  · rfl
  · trivial
theorem z11 {W:World} {A:HP} {v x:Value} (hA:Reads A zb4 v []) :
    CSpec Tryz.prog W 163 [v,x] [A] (fun _:Unit => .int .i64 (-1)) (fun _=>True) (fun _ F=>A::F) := by
 refine CSpec.of_body Tryz.func163 rfl Tryz.ntmps163 rfl fun F => ?_
 show CJ _ _ _ _ _ _ (_::F)
 refine sR<|oA rfl<|nT<|zab<|sR<|oM rfl<|oV (V_len rfl foc0 hA Tryz.runUnderlying61)<|oM rfl<|nT<|zao<|za8 (X:=Unit) [4,5,8,9,10,11,12,13,14,15,16,17,18] (fun _=>([(8,.int .i64 0)]:Slots)) (fun _ R=>R) (fun _=>True) (fun _=>0) () ?_ ?_ r_ ?_
 · trivial
 · exact ⟨rfl,True.intro⟩
 ·
  intro _ hpf
  show CJ _ _ _ _ _ (([(8,.int .i64 0)]:Slots) ++ forget _ _) (_)
  refine sR<|oP (P_lss rfl rfl)<|nT<|zab<|zap rfl dF_<|zbc<|zay<|zau<|zat<|zar<|sR<|oA rfl<|nT<|zaf<|zan (res1 Tryz.results163 rfl)<|CSpec.close () ?_ ?_ r_
  · rfl
  · trivial
theorem c_CtDk {W:World} {A:HP} {v x:Value} (hA:Reads A zb4 v []) :
    CSpec Tryz.prog W 123 [v,x] [A] (fun _:Unit => .bool false) (fun _=>True) (fun _ F=>A::F) := by
 refine CSpec.of_body Tryz.func123 rfl Tryz.ntmps123 rfl fun F => ?_
 show CJ _ _ _ _ _ _ (_::F)
 refine sR<|oA rfl<|nT<|sR<|oM rfl<|oM rfl<|oO<|zai ((z11 hA)) rfl Tryz.call163 (dC_ del0) rfl fun _ hc1=>oP (P_geq rfl rfl)<|oA rfl<|nT<|zaf<|zan (res1 Tryz.results123 rfl)<|CSpec.close () ?_ ?_ r_
 · rfl
 · trivial
theorem zzt {W:World} {c mr:Nat} {gn:ByteArray} {dv:Sl3} (hd:NoSuf dk0.name) :
    CSpec Tryz.prog W 91 [ptr c 0] [blk c 197 [.string gn,.int .u64 0,.int .i64 0,.int .i64 1,.int .i64 0,.slice none 0 0,dv.v,.slice none 0 0,.slice none 0 0,.map (some mr)],sl zb4 dv.v [dk0],GV] (fun _:Unit => .tuple #[.string ByteArray.empty,.int .i64 0]) (fun _=>True) (fun _ F=>blk c 197 [.string gn,.int .u64 0,.int .i64 0,.int .i64 1,.int .i64 0,.slice none 0 0,dv.v,.slice none 0 0,.slice none 0 0,.map (some mr)]::sl zb4 dv.v [dk0]::GV::F) := by
 refine CSpec.of_body Tryz.func91 rfl Tryz.ntmps91 rfl fun F => ?_
 show CJ _ _ _ _ _ _ (_::_::_::F)
 have hl1:([dk0]:List DkV).length=1 := rfl
 refine sR<|oA rfl<|oA rfl<|nT<|zab<|sR<|oM rfl<|oP (zad rfl)<|oP (zaa rfl ⟨_,_,_,Tryz.runUnderlying197,rfl,rfl,Tryz.sizeOf65,rfl⟩)<|oP (zaa rfl ⟨_,_,_,Tryz.runUnderlying65,rfl,rfl,Tryz.sizeOf61,rfl⟩)<|oV (zac rfl foc0 rfl Tryz.isAgg61)<|oV (V_len rfl foc1 (Reads.sl _ _ _) Tryz.runUnderlying61)<|oM rfl<|nT<|zao<|za8 (X:=Nat) [2,3,4,5,6,7,14,15,16,17,18,19,20,21,22,23,24,25,26,27,28,29,30,31,32,33,34,35,36,37,38,39,40,41,42,43,44,45,46,47,48,49,50,51,52,53,54,55,56,57,58,59,60,61,62,63,64,65,66,67,68,69,70,71,72,73,74,75,76,77,78,79,80,81,82] (fun i  => ([(14,.int .i64 (i:Nat))]:Slots)) (fun i R=>R) (fun i  => i≤1) (fun i  => 1 - i) (0) ?_ ?_ r_ ?_
 · exact Nat.zero_le _
 · exact ⟨rfl,True.intro⟩
 ·
  intro i hi1
  show CJ _ _ _ _ _ (([(14,.int .i64 (i:Nat))]:Slots) ++ forget _ _) (_)
  refine sR<|oP (P_lss rfl rfl)<|nT<|zab ?_
  first | (refine zav rfl (fun hg1 => ?_) (fun hg1 => ?_)) | (refine zaw rfl (fun hg1 => ?_) (fun hg1 => ?_)) | (refine za1 rfl (fun hg1 => ?_) (fun hg1 => ?_))
  ·
   refine kT<|zab<|zao<|sR ?_
   obtain rfl:i=0 := by omega
   refine oM rfl ?_
   first | (refine RJ_op rfl (OJ_V (zam rfl rfl rfl (by first | omega | decide) foc1 (Reads.sl _ _ _) Tryz.runUnderlying61 Tryz.sizeOf60) rfl ?_)) | (refine RJ_op rfl (OJ_V (zam rfl rfl (Int.toNat_of_nonneg (by first | omega | decide)).symm (by first | omega | decide) foc1 (Reads.sl _ _ _) Tryz.runUnderlying61 Tryz.sizeOf60) rfl ?_))
   refine oV (zdb rfl rfl (by first | omega | decide) foc1 (Reads.sl _ _ _) rfl rfl Tryz.isAgg60 Tryz.sizeOf60)<|oO<|zbi Tryz.zeroValue60 rfl rfl fun b1=>oA rfl<|oO<|zbo rfl rfl foc0 Tryz.sizeOf60 rfl rfl rfl<|nT<|sR<|oM rfl<|oP (zad rfl)<|oP (zaa rfl ⟨_,_,_,Tryz.runUnderlying197,rfl,rfl,Tryz.sizeOf65,rfl⟩)<|oP (zaa rfl ⟨_,_,_,Tryz.runUnderlying65,rfl,rfl,Tryz.sizeOf61,rfl⟩)<|oV (zac rfl foc1 rfl Tryz.isAgg61)<|oM rfl<|oV (zmm (l:=0) (h:=0) rfl foc2 (Reads.sl _ _ _) rfl ⟨_,rfl⟩ (by decide) (by decide) Tryz.underlying61 Tryz.sizeOf60)<|oP (zbb rfl rfl)<|oO<|zai ((c_CtDk (Reads.sliceV (t:=zb4) (l:=0) (h:=0) (Reads.sl _ _ _) (Nat.le_refl 0) (Nat.zero_le _)))) rfl Tryz.call123 (dC_ del2) rfl fun _ hc2=>oA rfl<|nT<|zab<|zao<|sR<|oP (zaa rfl ⟨_,_,_,Tryz.runUnderlying60,rfl,rfl,Tryz.sizeOf9,rfl⟩)<|oV (zac rfl foc1 rfl Tryz.isAgg9)<|oO<|zai ((zq5 hd)) rfl Tryz.call121 (dC_ del3) rfl fun _ hc3=>oP (P_not rfl)<|oA rfl<|nT<|zap rfl rfl<|sR<|oM rfl<|oA rfl<|nT<|zap rfl rfl<|zab<|za3 0 kR_ rfl<|aN 0 1 rfl rfl (zaa rfl ⟨_,_,_,Tryz.runUnderlying60,rfl,rfl,Tryz.sizeOf3,rfl⟩)<|aW 1 3 rfl rfl r_ (zac rfl foc2 rfl Tryz.isAgg3)<|aN 2 7 rfl rfl (P_lss rfl rfl) ?_
   refine aN 3 15 rfl rfl (zae rfl)<|zd5 43 false rfl (by first | exact decide_eq_false (by first | decide | rfl | omega) | (first | decide | rfl | omega)) fun hg2B=>aP 4 31 rfl rfl (zaz rfl rfl rfl hg2B) (zaa rfl ⟨_,_,_,Tryz.runUnderlying60,rfl,rfl,Tryz.sizeOf3,rfl⟩)<|aV 5 63 rfl rfl (zaz rfl rfl rfl hg2B) r_ (zac rfl foc2 rfl Tryz.isAgg3)<|aP 6 127 rfl rfl (zaz rfl rfl rfl hg2B) (P_gtr rfl rfl)<|aN 7 255 rfl rfl (za2 rfl hg2B rfl)<|aN 8 511 rfl rfl (zae rfl)<|zd5 48 false rfl (by first | exact decide_eq_false (by first | decide | rfl | omega) | (first | decide | rfl | omega)) fun hg3B=>aP 9 1023 rfl rfl (zaz rfl rfl rfl hg3B) (zaa rfl ⟨_,_,_,Tryz.runUnderlying60,rfl,rfl,Tryz.sizeOf3,rfl⟩)<|aV 10 2047 rfl rfl (zaz rfl rfl rfl hg3B) r_ (zac rfl foc2 rfl Tryz.isAgg3)<|aP 11 4095 rfl rfl (zaz rfl rfl rfl hg3B) (P_lss rfl rfl)<|aN 12 8191 rfl rfl (za2 rfl hg3B rfl)<|aN 13 16383 rfl rfl (zae rfl)<|zd5 53 false rfl (by first | exact decide_eq_false (by first | decide | rfl | omega) | (first | decide | rfl | omega)) fun hg4B=>aP 14 32767 rfl rfl (zaz rfl rfl rfl hg4B) (zaa rfl ⟨_,_,_,Tryz.runUnderlying60,rfl,rfl,Tryz.sizeOf3,rfl⟩) ?_
   refine aV 15 65535 rfl rfl (zaz rfl rfl rfl hg4B) r_ (zac rfl foc2 rfl Tryz.isAgg3)<|aP 16 131071 rfl rfl (zaz rfl rfl rfl hg4B) (P_gtr rfl rfl)<|aN 17 262143 rfl rfl (za2 rfl hg4B rfl)<|aN 18 524287 rfl rfl (zae rfl)<|zd5 58 false rfl (by first | exact decide_eq_false (by first | decide | rfl | omega) | (first | decide | rfl | omega)) fun hg5B=>aP 19 1048575 rfl rfl (zaz rfl rfl rfl hg5B) (zaa rfl ⟨_,_,_,Tryz.runUnderlying60,rfl,rfl,Tryz.sizeOf3,rfl⟩)<|aV 20 2097151 rfl rfl (zaz rfl rfl rfl hg5B) r_ (zac rfl foc2 rfl Tryz.isAgg3)<|aP 21 4194303 rfl rfl (zaz rfl rfl rfl hg5B) (zaa rfl ⟨_,_,_,Tryz.runUnderlying60,rfl,rfl,Tryz.sizeOf3,rfl⟩)<|aV 22 8388607 rfl rfl (zaz rfl rfl rfl hg5B) r_ (zac rfl foc2 rfl Tryz.isAgg3)<|aP 23 16777215 rfl rfl (zaz rfl rfl rfl hg5B) (zae rfl)<|aP 24 33554431 rfl rfl (zaz rfl rfl rfl hg5B) (zad rfl)<|aP 25 67108863 rfl rfl (zaz rfl rfl rfl hg5B) (zaa rfl ⟨_,_,_,Tryz.runUnderlying197,rfl,rfl,Tryz.sizeOf65,rfl⟩)<|aP 26 134217727 rfl rfl (zaz rfl rfl rfl hg5B) (zaa rfl ⟨_,_,_,Tryz.runUnderlying65,rfl,rfl,Tryz.sizeOf3,rfl⟩) ?_
   refine aV 27 268435455 rfl rfl (zaz rfl rfl rfl hg5B) r_ (zac rfl foc3 rfl Tryz.isAgg3)<|aP 28 536870911 rfl rfl (zaz rfl rfl rfl hg5B) (P_mul rfl rfl (by first | omega | decide))<|aP 29 1073741823 rfl rfl (zaz rfl rfl rfl hg5B) (P_add rfl rfl (by first | omega | decide))<|aP 30 2147483647 rfl rfl (zaz rfl rfl rfl hg5B) (P_gtr rfl rfl)<|aN 31 4294967295 rfl rfl (za2 rfl hg5B rfl)<|aN 32 8589934591 rfl rfl (za9 rfl)<|aD<|zap rfl (by first | exact decide_eq_false (by first | decide | rfl | omega) | (first | decide | rfl | omega))<|zbh<|zah<|zar<|sR<|oP (zaa rfl ⟨_,_,_,Tryz.runUnderlying60,rfl,rfl,Tryz.sizeOf58,rfl⟩)<|oV (zac rfl foc2 rfl Tryz.isAgg58)<|oO<|zai (zq6) rfl Tryz.call122 Dels.nil rfl fun _ hc4=>oA rfl<|nT<|sR<|oM rfl<|oP (P_neq rfl rfl)<|nT<|zap rfl (by first | exact decide_eq_false (by first | decide | rfl | omega) | (first | decide | rfl | omega))<|zbh<|zah<|zar<|zag<|oP (P_add rfl rfl (by first | omega | decide))<|oM rfl<|za0<|zba (1) (by first | omega | (simp only []; omega)) ?_ kP_ ?_ (t3_ (t1_ (t0_ (e_ r_))))
   · exact Nat.le_refl 1
   · exact ⟨rfl,True.intro⟩
  ·
   refine zbc<|zay<|zau<|zat<|zar<|sR<|oA rfl<|oA rfl<|nT<|zaf<|zan (res2 Tryz.results91 rfl rfl)<|CSpec.close () ?_ ?_ r_
   · rfl
   · trivial
theorem z12 {W:World} {c mr:Nat} {gn:ByteArray} {dv:Sl3} :
    CSpec Tryz.prog W 92 [ptr c 0] [blk c 197 [.string gn,.int .u64 0,.int .i64 0,.int .i64 1,.int .i64 0,.slice none 0 0,dv.v,.slice none 0 0,.slice none 0 0,.map (some mr)],sl zb4 dv.v [dk0],GV] (fun _:Unit => .tuple #[.string ByteArray.empty,.int .i64 0]) (fun _=>True) (fun _ F=>blk c 197 [.string gn,.int .u64 0,.int .i64 0,.int .i64 1,.int .i64 0,.slice none 0 0,dv.v,.slice none 0 0,.slice none 0 0,.map (some mr)]::sl zb4 dv.v [dk0]::GV::F) := by
 refine CSpec.of_body Tryz.func92 rfl Tryz.ntmps92 rfl fun F => ?_
 show CJ _ _ _ _ _ _ (_::_::_::F)
 refine sR<|oA rfl<|oA rfl<|nT<|zab<|sR<|oM rfl<|oP (zad rfl)<|oP (zaa rfl ⟨_,_,_,Tryz.runUnderlying197,rfl,rfl,Tryz.sizeOf65,rfl⟩)<|oP (zaa rfl ⟨_,_,_,Tryz.runUnderlying65,rfl,rfl,Tryz.sizeOf62,rfl⟩)<|oV (zac rfl foc0 rfl Tryz.isAgg62)<|oP (zca rfl Tryz.runUnderlying62)<|oM rfl<|nT<|zao<|za8 (X:=Unit) [2,3,4,5,6,7,14,15,16,17,18,19,20,21,22,23,24,25,26,27,28,29,30,31,32,33,34,35,36,37,38,39,40,41,42,43,44,45,46,47,48,49,50,51,52,53,54,55,56,57,58,59,60,61,62,63,64,65,66,67,68,69,70,71,72,73,74,75] (fun _=>([(14,.int .i64 0)]:Slots)) (fun _ R=>R) (fun _=>True) (fun _=>0) () ?_ ?_ r_ ?_
 · trivial
 · exact ⟨rfl,True.intro⟩
 ·
  intro _ hpf
  show CJ _ _ _ _ _ (([(14,.int .i64 0)]:Slots) ++ forget _ _) (_)
  refine sR<|oP (P_lss rfl rfl)<|nT<|zab<|zap rfl (by first | exact decide_eq_false (by first | decide | rfl | omega) | (first | decide | rfl | omega))<|zbc<|zay<|zau<|zat<|zar<|sR<|oA rfl<|oA rfl<|nT<|zaf<|zan (res2 Tryz.results92 rfl rfl)<|CSpec.close () ?_ ?_ r_
  · rfl
  · trivial
theorem z13 {W:World} {c mr:Nat} {gn:ByteArray} {dv:Sl3} :
    CSpec Tryz.prog W 93 [ptr c 0] [blk c 197 [.string gn,.int .u64 0,.int .i64 0,.int .i64 1,.int .i64 0,.slice none 0 0,dv.v,.slice none 0 0,.slice none 0 0,.map (some mr)],sl zb4 dv.v [dk0],GV] (fun _:Unit => .tuple #[.string ByteArray.empty,.int .i64 0]) (fun _=>True) (fun _ F=>blk c 197 [.string gn,.int .u64 0,.int .i64 0,.int .i64 1,.int .i64 0,.slice none 0 0,dv.v,.slice none 0 0,.slice none 0 0,.map (some mr)]::sl zb4 dv.v [dk0]::GV::F) := by
 refine CSpec.of_body Tryz.func93 rfl Tryz.ntmps93 rfl fun F => ?_
 show CJ _ _ _ _ _ _ (_::_::_::F)
 refine sR<|oA rfl<|oA rfl<|nT<|zab<|sR<|oM rfl<|oP (zad rfl)<|oP (zaa rfl ⟨_,_,_,Tryz.runUnderlying197,rfl,rfl,Tryz.sizeOf65,rfl⟩)<|oP (zaa rfl ⟨_,_,_,Tryz.runUnderlying65,rfl,rfl,Tryz.sizeOf62,rfl⟩)<|oV (zac rfl foc0 rfl Tryz.isAgg62)<|oP (zca rfl Tryz.runUnderlying62)<|oM rfl<|nT<|zao<|za8 (X:=Unit) [2,3,5,6,8,15,16,17,18,19,20,21,22,23,24,25,26,27,28,29,30,31,32,33,34,35,36,37,38,39,40,41,42,43,44,45,46,47,48,49,50,51,52,53,54,55] (fun _=>([(15,.int .i64 0)]:Slots)) (fun _ R=>R) (fun _=>True) (fun _=>0) () ?_ ?_ r_ ?_
 · trivial
 · exact ⟨rfl,True.intro⟩
 ·
  intro _ hpf
  show CJ _ _ _ _ _ (([(15,.int .i64 0)]:Slots) ++ forget _ _) (_)
  refine sR<|oP (P_lss rfl rfl)<|nT<|zab<|zap rfl (by first | exact decide_eq_false (by first | decide | rfl | omega) | (first | decide | rfl | omega))<|zbc<|zay<|zau<|zat<|zar<|sR<|oA rfl<|oA rfl<|nT<|zaf<|zan (res2 Tryz.results93 rfl rfl)<|CSpec.close () ?_ ?_ r_
  · rfl
  · trivial
theorem z14 {W:World} {c mr:Nat} {gn:ByteArray} {dv:Sl3} :
    CSpec Tryz.prog W 97 [ptr c 0] [blk c 197 [.string gn,.int .u64 0,.int .i64 0,.int .i64 1,.int .i64 0,.slice none 0 0,dv.v,.slice none 0 0,.slice none 0 0,.map (some mr)],sl zb4 dv.v [dk0],GV] (fun _:Unit => .tuple #[.string ByteArray.empty,.int .i64 0]) (fun _=>True) (fun _ F=>blk c 197 [.string gn,.int .u64 0,.int .i64 0,.int .i64 1,.int .i64 0,.slice none 0 0,dv.v,.slice none 0 0,.slice none 0 0,.map (some mr)]::sl zb4 dv.v [dk0]::GV::F) := by
 refine CSpec.of_body Tryz.func97 rfl Tryz.ntmps97 rfl fun F => ?_
 show CJ _ _ _ _ _ _ (_::_::_::F)
 refine sR<|oA rfl<|oA rfl<|nT<|sR<|oO<|ze2 mTak rfl fun b1=>oO<|ze2 mTak rfl fun b2=>oA rfl<|oA rfl<|nT<|zab<|sR<|oM rfl<|oP (zad rfl)<|oP (zaa rfl ⟨_,_,_,Tryz.runUnderlying197,rfl,rfl,Tryz.sizeOf65,rfl⟩)<|oP (zaa rfl ⟨_,_,_,Tryz.runUnderlying65,rfl,rfl,Tryz.sizeOf62,rfl⟩)<|oV (zac rfl foc2 rfl Tryz.isAgg62)<|oP (zca rfl Tryz.runUnderlying62)<|oM rfl<|nT<|zao<|za8 (X:=Unit) [7,9,11,13,24,25,26,27,28,29,30,31,32,33,34,35,36,37,38,39,40,41,42,43,44,45,46,47,48,49,50,51,52,53,54,55,56,57,58,59,60] (fun _=>([(24,.int .i64 0)]:Slots)) (fun _ R=>R) (fun _=>True) (fun _=>0) () ?_ ?_ r_ ?_
 · trivial
 · exact ⟨rfl,True.intro⟩
 ·
  intro _ hpf
  show CJ _ _ _ _ _ (([(24,.int .i64 0)]:Slots) ++ forget _ _) (_)
  refine sR<|oP (P_lss rfl rfl)<|nT<|zab<|zap rfl (by first | exact decide_eq_false (by first | decide | rfl | omega) | (first | decide | rfl | omega))<|zbc<|zay<|zau<|zat<|zar<|zab<|sR<|oM rfl<|oP (zad rfl)<|oP (zaa rfl ⟨_,_,_,Tryz.runUnderlying197,rfl,rfl,Tryz.sizeOf65,rfl⟩)<|oP (zaa rfl ⟨_,_,_,Tryz.runUnderlying65,rfl,rfl,Tryz.sizeOf62,rfl⟩)<|oV (zac rfl foc2 rfl Tryz.isAgg62)<|oP (zca rfl Tryz.runUnderlying62)<|oM rfl<|nT<|zao<|za8 (X:=Unit) [2,3,15,67,68,69,70,71,72,73,74,75,76,77,78,79,80,81,82,83,84,85,86,87,88,89,90,91,92,93,94] (fun _=>([(67,.int .i64 0)]:Slots)) (fun _ R=>R) (fun _=>True) (fun _=>0) () ?_ ?_ r_ ?_
  · trivial
  · exact ⟨rfl,True.intro⟩
  ·
   intro _ hpf
   show CJ _ _ _ _ _ (([(67,.int .i64 0)]:Slots) ++ forget _ _) (_)
   refine sR<|oP (P_lss rfl rfl)<|nT<|zab<|zap rfl (by first | exact decide_eq_false (by first | decide | rfl | omega) | (first | decide | rfl | omega))<|zbc<|zay<|zau<|zat<|zar<|sR<|oA rfl<|oA rfl<|nT<|zaf<|zan (res2 Tryz.results97 rfl rfl)<|CSpec.close () ?_ ?_ (t2_ (t2_ (t2_ (e_ (e_ r_)))))
   · rfl
   · trivial
theorem zmz {W:World} {c mr:Nat} {gn:ByteArray} {dv:Sl3} {x:Value} :
    CSpec Tryz.prog W 129 [ptr c 0,x] [blk c 197 [.string gn,.int .u64 0,.int .i64 0,.int .i64 1,.int .i64 0,.slice none 0 0,dv.v,.slice none 0 0,.slice none 0 0,.map (some mr)],sl zb4 dv.v [dk0],GV] (fun _:Unit => .tuple #[.string ByteArray.empty,.int .i64 0]) (fun _=>True) (fun _ F=>blk c 197 [.string gn,.int .u64 0,.int .i64 0,.int .i64 1,.int .i64 0,.slice none 0 0,dv.v,.slice none 0 0,.slice none 0 0,.map (some mr)]::sl zb4 dv.v [dk0]::GV::F) := by
 refine CSpec.of_body Tryz.func129 rfl Tryz.ntmps129 rfl fun F => ?_
 show CJ _ _ _ _ _ _ (_::_::_::F)
 refine sR<|oA rfl<|oA rfl<|nT<|zab<|sR<|oM rfl<|oP (zad rfl)<|oP (zaa rfl ⟨_,_,_,Tryz.runUnderlying197,rfl,rfl,Tryz.sizeOf65,rfl⟩)<|oP (zaa rfl ⟨_,_,_,Tryz.runUnderlying65,rfl,rfl,Tryz.sizeOf62,rfl⟩)<|oV (zac rfl foc0 rfl Tryz.isAgg62)<|oP (zca rfl Tryz.runUnderlying62)<|oM rfl<|nT<|zao<|za8 (X:=Unit) [4,5,7,9,10,17,18,19,20,21,22,23,24,25,26,27,28,29,30,31,32,33,34,35,36,37,38] (fun _=>([(17,.int .i64 0)]:Slots)) (fun _ R=>R) (fun _=>True) (fun _=>0) () ?_ ?_ r_ ?_
 · trivial
 · exact ⟨rfl,True.intro⟩
 ·
  intro _ hpf
  show CJ _ _ _ _ _ (([(17,.int .i64 0)]:Slots) ++ forget _ _) (_)
  refine sR<|oP (P_lss rfl rfl)<|nT<|zab<|zap rfl (by first | exact decide_eq_false (by first | decide | rfl | omega) | (first | decide | rfl | omega))<|zbc<|zay<|zau<|zat<|zar<|sR<|oA rfl<|oA rfl<|nT<|zaf<|zan (res2 Tryz.results129 rfl rfl)<|CSpec.close () ?_ ?_ r_
  · rfl
  · trivial
theorem z15 {W:World} {c mr:Nat} {gn:ByteArray} {dv:Sl3} :
    CSpec Tryz.prog W 94 [ptr c 0] [blk c 197 [.string gn,.int .u64 0,.int .i64 0,.int .i64 1,.int .i64 0,.slice none 0 0,dv.v,.slice none 0 0,.slice none 0 0,.map (some mr)],sl zb4 dv.v [dk0],GV] (fun _:Unit => .tuple #[.string ByteArray.empty,.int .i64 0]) (fun _=>True) (fun _ F=>blk c 197 [.string gn,.int .u64 0,.int .i64 0,.int .i64 1,.int .i64 0,.slice none 0 0,dv.v,.slice none 0 0,.slice none 0 0,.map (some mr)]::sl zb4 dv.v [dk0]::GV::F) := by
 refine CSpec.of_body Tryz.func94 rfl Tryz.ntmps94 rfl fun F => ?_
 show CJ _ _ _ _ _ _ (_::_::_::F)
 refine sR<|oO<|O_box rfl rfl rfl fun b1=>oA rfl<|oA rfl<|nT<|sR<|oV (zac rfl foc0 rfl Tryz.isAgg193)<|oP (zbb rfl rfl)<|oO<|zai (zmz) rfl Tryz.call129 (Dels.cons del1 (Dels.cons del1 (dC_ del1))) rfl fun _ hc2=>oP (zaj rfl rfl)<|oP (zaj rfl rfl)<|oA rfl<|oA rfl<|nT<|zaf<|zan (res2 Tryz.results94 rfl rfl)<|CSpec.close () ?_ ?_ (t0_ (t0_ (t0_ (e_ r_))))
 · rfl
 · trivial
theorem zzu {W:World} {c mr:Nat} {gn:ByteArray} {dv:Sl3} :
    CSpec Tryz.prog W 95 [ptr c 0] [blk c 197 [.string gn,.int .u64 0,.int .i64 0,.int .i64 1,.int .i64 0,.slice none 0 0,dv.v,.slice none 0 0,.slice none 0 0,.map (some mr)],sl zb4 dv.v [dk0],GV] (fun _:Unit => .tuple #[.string ByteArray.empty,.int .i64 0]) (fun _=>True) (fun _ F=>blk c 197 [.string gn,.int .u64 0,.int .i64 0,.int .i64 1,.int .i64 0,.slice none 0 0,dv.v,.slice none 0 0,.slice none 0 0,.map (some mr)]::sl zb4 dv.v [dk0]::GV::F) := by
 refine CSpec.of_body Tryz.func95 rfl Tryz.ntmps95 rfl fun F => ?_
 show CJ _ _ _ _ _ _ (_::_::_::F)
 refine sR<|oO<|O_box rfl rfl rfl fun b1=>oA rfl<|oA rfl<|nT<|sR<|oP (zbb rfl rfl)<|oO<|zbi Tryz.zeroValue260 rfl rfl fun b2=>oO<|za5 rfl rfl foc0 rfl rfl Tryz.sizeOf260<|nT<|sR<|oV (zac rfl foc1 rfl Tryz.isAgg193)<|oP (zbb rfl rfl)<|oO<|zai (zmz) rfl Tryz.call129 (Dels.cons del2 (Dels.cons del2 (dC_ del2))) rfl fun _ hc3=>oP (zaj rfl rfl)<|oP (zaj rfl rfl)<|oA rfl<|oA rfl<|nT<|zaf<|zan (res2 Tryz.results95 rfl rfl)<|CSpec.close () ?_ ?_ (t0_ (t0_ (t0_ (e_ (e_ r_)))))
 · rfl
 · trivial
theorem z16 {W:World} {c mr:Nat} {gn:ByteArray} {dv:Sl3} :
    CSpec Tryz.prog W 96 [ptr c 0] [blk c 197 [.string gn,.int .u64 0,.int .i64 0,.int .i64 1,.int .i64 0,.slice none 0 0,dv.v,.slice none 0 0,.slice none 0 0,.map (some mr)],sl zb4 dv.v [dk0],GV] (fun _:Unit => .tuple #[.string ByteArray.empty,.int .i64 0]) (fun _=>True) (fun _ F=>blk c 197 [.string gn,.int .u64 0,.int .i64 0,.int .i64 1,.int .i64 0,.slice none 0 0,dv.v,.slice none 0 0,.slice none 0 0,.map (some mr)]::sl zb4 dv.v [dk0]::GV::F) := by
 refine CSpec.of_body Tryz.func96 rfl Tryz.ntmps96 rfl fun F => ?_
 show CJ _ _ _ _ _ _ (_::_::_::F)
 have hl1:([dk0]:List DkV).length=1 := rfl
 refine sR<|oA rfl<|oA rfl<|nT<|sR<|oO<|ze2 mTak rfl fun b1=>oO<|zbi Tryz.zeroValue261 rfl rfl fun b2=>oO<|za5 rfl rfl foc0 rfl rfl Tryz.sizeOf261<|nT<|zab<|sR<|oM rfl<|oP (zad rfl)<|oP (zaa rfl ⟨_,_,_,Tryz.runUnderlying197,rfl,rfl,Tryz.sizeOf65,rfl⟩)<|oP (zaa rfl ⟨_,_,_,Tryz.runUnderlying65,rfl,rfl,Tryz.sizeOf61,rfl⟩)<|oV (zac rfl foc2 rfl Tryz.isAgg61)<|oV (V_len rfl foc3 (Reads.sl _ _ _) Tryz.runUnderlying61)<|oM rfl<|nT<|zao<|za8 (X:=Nat × List (ByteArray × Sl3)) [6,17,18,19,20,21,22,23,24,25,26,27] (fun ⟨i,ml⟩  => ([(17,.int .i64 (i:Nat))]:Slots)) (fun ⟨i,ml⟩ R=>mpc mTak b1 ml::R) (fun ⟨i,ml⟩  => i≤1) (fun ⟨i,ml⟩  => 1 - i) ⟨0,[]⟩ ?_ ?_ (t1_ r_) ?_
 · exact Nat.zero_le _
 · exact ⟨rfl,True.intro⟩
 ·
  rintro ⟨i,ml⟩ hi1
  show CJ _ _ _ _ _ (([(17,.int .i64 (i:Nat))]:Slots) ++ forget _ _) (mpc mTak b1 ml::_)
  refine sR<|oP (P_lss rfl rfl)<|nT<|zab ?_
  first | (refine zav rfl (fun hg1 => ?_) (fun hg1 => ?_)) | (refine zaw rfl (fun hg1 => ?_) (fun hg1 => ?_)) | (refine za1 rfl (fun hg1 => ?_) (fun hg1 => ?_))
  ·
   refine kT<|zab<|zao<|sR ?_
   obtain rfl:i=0 := by omega
   first | (refine RJ_op rfl (OJ_V (zam rfl rfl rfl (by omega) foc3 (Reads.sl _ _ _) Tryz.runUnderlying61 Tryz.sizeOf60) rfl ?_)) | (refine RJ_op rfl (OJ_V (zam rfl rfl (Int.toNat_of_nonneg (by omega)).symm (by omega) foc3 (Reads.sl _ _ _) Tryz.runUnderlying61 Tryz.sizeOf60) rfl ?_))
   refine oV (zdb rfl rfl (by omega) foc3 (Reads.sl _ _ _) rfl rfl Tryz.isAgg60 Tryz.sizeOf60)<|oO<|zbi Tryz.zeroValue60 rfl rfl fun b3=>oO<|zbo rfl rfl foc0 Tryz.sizeOf60 rfl rfl rfl<|nT<|za3 64 kR_ rfl<|aW 0 1 rfl rfl r_ (zac rfl foc2 rfl Tryz.isAgg261)<|aN 1 3 rfl rfl (zaa rfl ⟨_,_,_,Tryz.runUnderlying60,rfl,rfl,Tryz.sizeOf9,rfl⟩)<|aW 2 7 rfl rfl r_ (zac rfl foc0 rfl Tryz.isAgg9)<|aN 3 15 rfl rfl (zaa rfl ⟨_,_,_,Tryz.runUnderlying60,rfl,rfl,Tryz.sizeOf3,rfl⟩)<|aW 4 31 rfl rfl r_ (zac rfl foc0 rfl Tryz.isAgg3)<|AJ_op 5 63 rfl kR_ rfl (zal rfl)<|zea (t:=tyB) (m:=3) (x0:=false) (z:=_) (bytes:=_) rfl rfl rfl rfl Tryz.underlying103 ⟨Tryz.t4,by kernel_rfl,rfl,rfl,rfl⟩ rfl (by decide) (by decide) rfl fun b4=>⟨fun _=>(t1_ (t1_ (t1_ (t1_ (t1_ (t1_ (e_ r_))))))),?_⟩
   refine AJ_op 6 127 rfl kR_ rfl (zal rfl)<|zc1 (M:=mTak) (k:=dk0.name) (v:=(⟨some ⟨b4,0,none⟩,3,3⟩:Sl3)) rfl rfl rfl foc2 z1z<|⟨fun h=>absurd h (by decide),?_⟩
   refine zcf kR_<|zah<|zar<|zag<|oP (P_add rfl rfl (by omega))<|oM rfl<|za0<|zba ⟨1,_⟩ (by first | omega | (simp only []; omega)) ?_ kP_ ?_ (t2_ (t2_ (t2_ (t2_ (t2_ (e_ (e_ r_)))))))
   · exact Nat.le_refl 1
   · exact ⟨rfl,True.intro⟩
  ·
   refine zbc<|zay<|zau<|zat<|zar<|sR<|oM rfl<|oP (zbb rfl rfl)<|oO<|zai (zmz) rfl Tryz.call129 (Dels.cons del2 (Dels.cons del2 (dC_ del2))) rfl fun _ hc5=>oM rfl<|oP (zaj rfl rfl)<|oP (zaj rfl rfl)<|oA rfl<|oA rfl<|nT<|zab<|sR<|oM rfl<|oP (P_neq rfl rfl)<|nT<|zap rfl (by first | exact decide_eq_false (by first | decide | rfl | omega) | (first | decide | rfl | omega))<|kT<|sR<|oO<|ze2 mTak rfl fun b6=>oO<|zbi Tryz.zeroValue263 rfl rfl fun b7=>oO<|za5 rfl rfl foc0 rfl rfl Tryz.sizeOf263<|nT<|sR<|oM rfl<|oP (zbb rfl rfl)<|oO<|zai (zmz) rfl Tryz.call129 (Dels.cons del2 (Dels.cons del2 (dC_ del2))) rfl fun _ hc8=>oP (zaj rfl rfl)<|oP (zaj rfl rfl)<|oA rfl<|oA rfl<|nT<|zaf<|zan (res2 Tryz.results96 rfl rfl)<|CSpec.close () ?_ ?_ (t0_ (t0_ (t0_ (e_ (e_ (e_ (e_ r_)))))))
   · rfl
   · trivial
end Go.Proofs
set_option linter.unusedSimpArgs false
set_option maxRecDepth 20000
namespace Go.Proofs
open Go.VG Ts
theorem zm8 (v0:ByteArray) (v1:Int) (v2:Int) (v3:Int) (v4:Int) (v5:(Option Addr)) (v6:Nat) (v7:Nat) (v8:(Option Addr)) (v9:Nat) (v10:Nat) (v11:(Option Addr)) (v12:Nat) (v13:Nat) (v14:(Option Addr)) (v15:Nat) (v16:Nat) (v17:(Option Nat)):∀ w,(Instr.build 197 (#[(0,.agg #[.string v0,.int .u64 v1,.int .i64 v2,.int .i64 v3,.int .i64 v4,.slice v5 v6 v7,.slice v8 v9 v10,.slice v11 v12 v13,.slice v14 v15 v16]),(1,.map v17)]:Array (Nat × Value))).run Tryz.prog w = .ok (.agg #[.string v0,.int .u64 v1,.int .i64 v2,.int .i64 v3,.int .i64 v4,.slice v5 v6 v7,.slice v8 v9 v10,.slice v11 v12 v13,.slice v14 v15 v16,.map v17]) w := fun w=>by kernel_rfl
theorem zhb (v0:Fn) (v1:(Array Value)) (v2:(Array Value)) (v3:Fn) (v4:(Array Value)) (v5:(Array Value)) (v6:Fn) (v7:(Array Value)) (v8:(Array Value)) (v9:Fn) (v10:(Array Value)) (v11:(Array Value)) (v12:Fn) (v13:(Array Value)) (v14:(Array Value)) (v15:Fn) (v16:(Array Value)) (v17:(Array Value)) (v18:Fn) (v19:(Array Value)) (v20:(Array Value)) (v21:Fn) (v22:(Array Value)) (v23:(Array Value)):zbg Tryz.prog 199 8 [(0,.func v0 v1 v2),(1,.func v3 v4 v5),(2,.func v6 v7 v8),(3,.func v9 v10 v11),(4,.func v12 v13 v14),(5,.func v15 v16 v17),(6,.func v18 v19 v20),(7,.func v21 v22 v23)] 198 [.func v0 v1 v2,.func v3 v4 v5,.func v6 v7 v8,.func v9 v10 v11,.func v12 v13 v14,.func v15 v16 v17,.func v18 v19 v20,.func v21 v22 v23] := fun w=>by kernel_rfl
abbrev tyFV8:Ty FV := { tyFV with T := 198 }
def rulL (c:Nat):List FV := [⟨90,c⟩,⟨91,c⟩,⟨92,c⟩,⟨93,c⟩,⟨94,c⟩,⟨95,c⟩,⟨96,c⟩,⟨97,c⟩]
def ckZ (c mr:Nat) (gn:ByteArray) (dv:Sl3):HP := star [blk c 197 [.string gn,.int .u64 0,.int .i64 0,.int .i64 1,.int .i64 0,.slice none 0 0,dv.v,.slice none 0 0,.slice none 0 0,.map (some mr)],sl zb4 dv.v [dk0],GV]
theorem c_rule {W:World} {c mr:Nat} {gn:ByteArray} {dv:Sl3} (hg:NoSuf gn) (hd:NoSuf dk0.name) (i:Nat) (hi:i < 8) :
    FOk Tryz.prog W (.func (.func ((rulL c).getD i tyFV8.dflt).f) #[ptr ((rulL c).getD i tyFV8.dflt).q 0] #[]) [] [ckZ c mr gn dv] (fun _:Unit => .tuple #[.string ByteArray.empty,.int .i64 0]) (fun _=>True) (fun _ F=>ckZ c mr gn dv::F) := by
  match i,hi with
  | 0,_=>exact FOk.mk (first:=[ptr c 0]) (cap:=[]) Tryz.call90 (CSpec.toStar (G:=[blk c 197 [.string gn,.int .u64 0,.int .i64 0,.int .i64 1,.int .i64 0,.slice none 0 0,dv.v,.slice none 0 0,.slice none 0 0,.map (some mr)],sl zb4 dv.v [dk0],GV]) (z10 hg))
  | 1,_=>exact FOk.mk (first:=[ptr c 0]) (cap:=[]) Tryz.call91 (CSpec.toStar (G:=[blk c 197 [.string gn,.int .u64 0,.int .i64 0,.int .i64 1,.int .i64 0,.slice none 0 0,dv.v,.slice none 0 0,.slice none 0 0,.map (some mr)],sl zb4 dv.v [dk0],GV]) (zzt hd))
  | 2,_=>exact FOk.mk (first:=[ptr c 0]) (cap:=[]) Tryz.call92 (CSpec.toStar (G:=[blk c 197 [.string gn,.int .u64 0,.int .i64 0,.int .i64 1,.int .i64 0,.slice none 0 0,dv.v,.slice none 0 0,.slice none 0 0,.map (some mr)],sl zb4 dv.v [dk0],GV]) z12)
  | 3,_=>exact FOk.mk (first:=[ptr c 0]) (cap:=[]) Tryz.call93 (CSpec.toStar (G:=[blk c 197 [.string gn,.int .u64 0,.int .i64 0,.int .i64 1,.int .i64 0,.slice none 0 0,dv.v,.slice none 0 0,.slice none 0 0,.map (some mr)],sl zb4 dv.v [dk0],GV]) z13)
  | 4,_=>exact FOk.mk (first:=[ptr c 0]) (cap:=[]) Tryz.call94 (CSpec.toStar (G:=[blk c 197 [.string gn,.int .u64 0,.int .i64 0,.int .i64 1,.int .i64 0,.slice none 0 0,dv.v,.slice none 0 0,.slice none 0 0,.map (some mr)],sl zb4 dv.v [dk0],GV]) z15)
  | 5,_=>exact FOk.mk (first:=[ptr c 0]) (cap:=[]) Tryz.call95 (CSpec.toStar (G:=[blk c 197 [.string gn,.int .u64 0,.int .i64 0,.int .i64 1,.int .i64 0,.slice none 0 0,dv.v,.slice none 0 0,.slice none 0 0,.map (some mr)],sl zb4 dv.v [dk0],GV]) zzu)
  | 6,_=>exact FOk.mk (first:=[ptr c 0]) (cap:=[]) Tryz.call96 (CSpec.toStar (G:=[blk c 197 [.string gn,.int .u64 0,.int .i64 0,.int .i64 1,.int .i64 0,.slice none 0 0,dv.v,.slice none 0 0,.slice none 0 0,.map (some mr)],sl zb4 dv.v [dk0],GV]) z16)
  | 7,_=>exact FOk.mk (first:=[ptr c 0]) (cap:=[]) Tryz.call97 (CSpec.toStar (G:=[blk c 197 [.string gn,.int .u64 0,.int .i64 0,.int .i64 1,.int .i64 0,.slice none 0 0,dv.v,.slice none 0 0,.slice none 0 0,.map (some mr)],sl zb4 dv.v [dk0],GV]) z14)
theorem z17 {W:World} {gn:ByteArray} {dv:Sl3} (hg:NoSuf gn) (hd:NoSuf dk0.name) :
    CSpec Tryz.prog W 75 [.agg #[.string gn,.int .u64 0,.int .i64 0,.int .i64 1,.int .i64 0,.slice none 0 0,dv.v,.slice none 0 0,.slice none 0 0]] [sl zb4 dv.v [dk0],GV] (fun _:Unit => .tuple #[.string ByteArray.empty,.int .i64 0]) (fun _=>True) (fun _ F=>sl zb4 dv.v [dk0]::GV::F) := by
 refine CSpec.of_body Tryz.func75 rfl Tryz.ntmps75 rfl fun F => ?_
 show CJ _ _ _ _ _ _ (_::_::F)
 have hrl:∀ c,(rulL c).length=8 := fun _=>rfl
 refine sR<|oO<|O_box rfl rfl rfl fun b1=>oA rfl<|oA rfl<|nT<|zab<|za3 8 kR_ rfl<|aW 0 1 rfl rfl r_ (zbq rfl foc0 Tryz.isAgg65 Tryz.sizeOf65 rfl rfl)<|AJ_op 1 3 rfl kR_ rfl (zal rfl)<|zai (zzs) rfl Tryz.call89 Dels.nil rfl fun m9 hc3=>⟨fun _=>(t1_ (t1_ (t1_ (e_ r_)))),?_⟩
 refine aN 2 7 rfl rfl (zbk rfl (zm8 _ _ _ _ _ _ _ _ _ _ _ _ _ _ _ _ _ _))<|AJ_op 3 15 rfl kR_ rfl (zal rfl)<|O_box rfl rfl rfl fun b4=>⟨fun h=>absurd h (by decide),?_⟩
 refine aN 4 31 rfl rfl (za9 rfl)<|aD<|sR<|oM rfl<|oP (zbb rfl rfl)<|oM rfl<|oP (zbb rfl rfl)<|oM rfl<|oP (zbb rfl rfl)<|oM rfl<|oP (zbb rfl rfl)<|oM rfl<|oP (zbb rfl rfl)<|oM rfl<|oP (zbb rfl rfl)<|oM rfl<|oP (zbb rfl rfl)<|oM rfl<|oP (zbb rfl rfl)<|oO<|za4 rfl (zhb _ _ _ _ _ _ _ _ _ _ _ _ _ _ _ _ _ _ _ _ _ _ _ _) rfl fun b5=>zcg (Ent.trans r_ (zb5 (t:=tyFV8) (m:=8) (rulL b4) rfl rfl rfl (by decide)))<|oA rfl<|nT<|zab<|zab<|zbs (Ent.trans (t1_ (t3_ (t3_ r_))) (fold3:Ent _ (ckZ _ _ _ _::_)))<|zag<|oM rfl<|oV (V_len rfl foc1 (Reads.sl _ _ _) Tryz.runUnderlying199)<|oM rfl<|nT<|zao<|za8 (X:=Nat) [2,3,7,8,9,33,34,35,36,37,38,39,40,41,42,43,44,45,46] (fun i  => ([(33,.int .i64 (i:Nat))]:Slots)) (fun i R=>R) (fun i  => i≤8) (fun i  => 8 - i) (0) ?_ ?_ r_ ?_
 · exact Nat.zero_le _
 · exact ⟨rfl,True.intro⟩
 ·
  intro i hi8
  show CJ _ _ _ _ _ (([(33,.int .i64 (i:Nat))]:Slots) ++ forget _ _) (_)
  refine sR<|oP (P_lss rfl rfl)<|nT<|zab ?_
  first | (refine zav rfl (fun hg1 => ?_) (fun hg1 => ?_)) | (refine zaw rfl (fun hg1 => ?_) (fun hg1 => ?_)) | (refine za1 rfl (fun hg1 => ?_) (fun hg1 => ?_))
  ·
   refine kT<|zab<|zao<|sR ?_
   have hrl2 := hrl b4
   have hi:i < 8 := by omega
   first | (refine RJ_op rfl (OJ_V (zam rfl rfl rfl (by omega) foc1 (Reads.sl _ _ _) Tryz.runUnderlying199 Tryz.sizeOf198) rfl ?_)) | (refine RJ_op rfl (OJ_V (zam rfl rfl (Int.toNat_of_nonneg (by omega)).symm (by omega) foc1 (Reads.sl _ _ _) Tryz.runUnderlying199 Tryz.sizeOf198) rfl ?_))
   refine oV (za6 rfl rfl (by omega) foc1 (Reads.sl _ _ _) rfl rfl Tryz.isAgg198)<|oA rfl<|nT<|sR<|oM rfl<|oO<|zgz rfl rfl (c_rule hg hd i hi) (dC_ del0) rfl fun _ _=>oM rfl<|oP (zaj rfl rfl)<|oP (zaj rfl rfl)<|oA rfl<|oA rfl<|nT<|sR<|oM rfl<|oP (P_neq rfl rfl)<|nT<|zap rfl dF_<|zbh<|zah<|zar<|zag<|oP (P_add rfl rfl (by omega))<|oM rfl<|za0<|zba (i + 1) (by first | omega | (simp only []; omega)) ?_ kP_ ?_ r_
   · show i + 1≤8; omega
   · exact ⟨rfl,True.intro⟩
  ·
   refine zbc<|zay<|zau<|zat<|zar<|sR<|oA rfl<|oA rfl<|nT<|zaf<|zan (res2 Tryz.results75 rfl rfl)<|CSpec.close () ?_ ?_ (Ent.trans (Ent.trans r_ open3) (e_ (t0_ (t0_ (e_ (e_ (e_ r_)))))))
   · rfl
   · trivial
end Go.Proofs
set_option linter.unusedSimpArgs false
set_option maxRecDepth 20000
namespace Go.Proofs
open Go.VG Ts
theorem zli (v0:ByteArray) (v1:Int) (v2:ByteArray):∀ w,(Instr.build 224 (#[(0,.string v0),(1,.int .i64 v1),(3,.string v2)]:Array (Nat × Value))).run Tryz.prog w = .ok (.agg #[.string v0,.int .i64 v1,.int .i64 0,.string v2,.slice none 0 0,.slice none 0 0]) w := fun w=>by kernel_rfl
theorem zfb (v0:ByteArray) (v1:Int) (v2:Int) (v3:ByteArray) (v4:(Option Addr)) (v5:Nat) (v6:Nat) (v7:(Option Addr)) (v8:Nat) (v9:Nat):zbg Tryz.prog 117 1 [(0,.agg #[.string v0,.int .i64 v1,.int .i64 v2,.string v3,.slice v4 v5 v6,.slice v7 v8 v9])] 224 [.string v0,.int .i64 v1,.int .i64 v2,.string v3,.slice v4 v5 v6,.slice v7 v8 v9] := fun w=>by kernel_rfl
theorem zhf (v0:ByteArray) (v1:Int) (v2:Int):∀ w,(Instr.build 224 (#[(0,.string v0),(1,.int .i64 v1),(2,.int .i64 v2)]:Array (Nat × Value))).run Tryz.prog w = .ok (.agg #[.string v0,.int .i64 v1,.int .i64 v2,.string ByteArray.empty,.slice none 0 0,.slice none 0 0]) w := fun w=>by kernel_rfl
theorem zlj (v0:ByteArray) (v1:Int) (v2:(Option Addr)) (v3:Nat) (v4:Nat):∀ w,(Instr.build 224 (#[(0,.string v0),(1,.int .i64 v1),(5,.slice v2 v3 v4)]:Array (Nat × Value))).run Tryz.prog w = .ok (.agg #[.string v0,.int .i64 v1,.int .i64 0,.string ByteArray.empty,.slice none 0 0,.slice v2 v3 v4]) w := fun w=>by kernel_rfl
structure NdV where
  name:ByteArray
  kind:Int
  number:Int
  text:ByteArray
  list:Sl3
  nodes:Sl3
abbrev tyNd:Ty NdV := { T := 224,sz := 6,enc := fun x=>[.string x.name,.int .i64 x.kind,.int .i64 x.number,.string x.text,x.list.v,x.nodes.v],dflt := ⟨ByteArray.empty,0,0,ByteArray.empty,⟨none,0,0⟩,⟨none,0,0⟩⟩,len := fun _=>rfl,one := fun _=>rfl,pos := by decide }
theorem zm0:ElemOk Tryz.prog tyNd 96 := ⟨Tryz.t224,.agg #[.string ByteArray.empty,.int .i64 0,.int .i64 0,.string ByteArray.empty,.slice none 0 0,.slice none 0 0],by kernel_rfl,rfl,rfl,rfl,rfl⟩
def ndT (nm tx:ByteArray):NdV := ⟨nm,2,0,tx,⟨none,0,0⟩,⟨none,0,0⟩⟩
def ndN (nm:ByteArray) (n:Int):NdV := ⟨nm,1,n,ByteArray.empty,⟨none,0,0⟩,⟨none,0,0⟩⟩
def ndS (nm:ByteArray) (v:Sl3):NdV := ⟨nm,4,0,ByteArray.empty,⟨none,0,0⟩,v⟩
theorem slPtr {α:Type} {t:Ty α} {p:Option Addr} {m c:Nat} {xs:List α} {H R:List HP} (hd:Del H (sl t (.slice p m c) xs) R) (hx:xs.length≠0):∀ h,stars H h → ∃ g,p=some ⟨g,0,none⟩ := by
  intro h hh
  obtain ⟨h1,h2,_,_,hA,_⟩ := zbd hd.out h hh
  rcases hA.2 with ⟨h3,h4⟩ | ⟨_,_,_,h3,_⟩
  · exact absurd h4 hx
  · injection h3 with h5 _ _; exact ⟨_,h5⟩
theorem zk6 {P:Program} {n:Env} {s:Slots} {dst:Option Nat} {ty:TypeId} {pos:String} {after:Array Edge} {gd:Option (Nat × Bool)} {x ix:Operand} {T E:TypeId} {k:IntKind} {i m c sz:Nat} {p:Option Addr} (hp:∃ g,p=some ⟨g,0,none⟩) (hx:ev s x=some (.slice p m c)) (hi:ev s ix=some (.int k (i:Int))) (hlt:i < m)
    (hT:∀ w,(underlying T).run P w = .ok (.slice E) w) (hE:∀ w,(sizeOf E).run P w = .ok sz w):PJ P n ⟨dst,.indexAddr T x ix,ty,pos,after,gd⟩ s (eptr (.slice p m c) i sz 0) := by
  obtain ⟨b,rfl⟩ := hp
  intro q w hf
  simp [execOp,hf.eval hx,hf.eval hi,Instr.indexAt,asIntOf,hT,hE,hlt,zcy,eptr,blkOf,offOf]
theorem zel {α:Type} {l:List α} {x y:α} : (l ++ [x]).set l.length y=l ++ [y] := by
  rw [List.set_append_right _ _ (Nat.le_refl _),Nat.sub_self]; rfl
theorem zuo {W:World} {w:Nat} {wv:Sl3} {l:List NdV} (hl:l.length≤100) {nm tx:ByteArray} (htx:tx≠ByteArray.empty) :
    CSpec Tryz.prog W 98 [ptr w 0,.string nm,.string tx,.bool false] [blk w 201 [wv.v],sl tyNd wv.v l] (fun _:Sl3 => .tuple #[]) (fun _=>True) (fun x F=>blk w 201 [x.v]::sl tyNd x.v (l ++ [(ndT nm tx)])::F) := by
 refine CSpec.of_body Tryz.func98 rfl Tryz.ntmps98 rfl fun F => ?_
 show CJ _ _ _ _ _ _ (_::_::F)
 refine sR<|oM rfl<|oP (zgk rfl rfl Tryz.underlying9)<|oM rfl<|zbp 10 true rfl (by first | exact decide_eq_true (by exact htx) | (exact htx)) fun hg1B=>g_ rfl rfl rfl hg1B rfl<|g_ rfl rfl rfl hg1B rfl<|oP (zbe rfl hg1B rfl)<|nT<|za7 rfl rfl<|za3 19968 kR_ rfl<|aN 0 1 rfl rfl (zae rfl)<|aN 1 3 rfl rfl (zad rfl)<|aN 2 7 rfl rfl (zaa rfl ⟨_,_,_,Tryz.runUnderlying201,rfl,rfl,Tryz.sizeOf117,rfl⟩)<|aW 3 15 rfl rfl r_ (zac rfl foc0 rfl Tryz.isAgg117)<|aN 4 31 rfl rfl (zae rfl)<|aN 5 63 rfl rfl (zae rfl)<|aN 6 127 rfl rfl (zbk rfl (zli _ _ _))<|aW 7 255 rfl rfl r_ (V_len rfl foc1 (Reads.sl _ _ _) Tryz.runUnderlying117)<|AJ_op 8 511 rfl kR_ rfl (zal rfl)<|za4 rfl (zfb _ _ _ _ _ _ _ _ _ _) rfl fun b1=>⟨fun _=>(t1_ (t1_ (e_ r_))),?_⟩
 refine AJ_op 9 1023 rfl kR_ rfl (zal rfl)<|zb1 (t:=tyNd) (bytes:=96) rfl rfl del2 foc0 (Reads.lit (t:=tyNd) (ys:=[tyNd.dflt]) rfl rfl (by decide) (by decide) rfl) Tryz.underlying117 zm0 (by show l.length + 1≤maxLen; unfold maxLen; omega) (by show (l.length + 1) * 96≤_; omega) rfl fun p2 c3=>⟨fun h=>absurd h (by decide),?_⟩
 refine aN 12 5119 rfl rfl (zad rfl)<|aN 13 13311 rfl rfl (zaa rfl ⟨_,_,_,Tryz.runUnderlying201,rfl,rfl,Tryz.sizeOf117,rfl⟩)<|zmp (slPtr del0 (by simp)) fun hp9=>aN 10 14335 rfl rfl (zk6 (i:=l.length) hp9 rfl rfl (by simp only [List.length_append,List.length_cons,List.length_nil]; omega) Tryz.runUnderlying117 Tryz.sizeOf224)<|zg4 11 14 16383 30719 rfl rfl kR_ rfl rfl (zal rfl) (zal rfl) (zd9 (x' := (ndT nm tx)) rfl rfl rfl (by first | omega | (simp only [List.length_append,List.length_cons,List.length_nil,List.length_set]; omega)) foc0 rfl Tryz.sizeOf224 ?_) (za5 rfl rfl foc2 rfl rfl Tryz.sizeOf117 ?_)
 ·
  refine ⟨fun h=>absurd h (by decide),?_⟩
  refine AJ_op 14 32767 rfl kR_ rfl (zal rfl)<|za5 rfl rfl foc2 rfl rfl Tryz.sizeOf117<|⟨fun h=>absurd h (by decide),?_⟩
  refine zcf kR_<|zce (res0 Tryz.results98)<|CSpec.close ⟨p2,(l ++ [tyNd.dflt]).length,c3⟩ ?_ ?_ (t2_ (Ent.takeC del0 (by rw [zel] <;> rfl) (e_ r_)))
  · rfl
  · trivial
 ·
  refine ⟨fun h=>absurd h (by decide),?_⟩
  refine AJ_op 11 32767 rfl kR_ rfl (zal rfl)<|zd9 (x' := (ndT nm tx)) rfl rfl rfl (by first | omega | (simp only [List.length_append,List.length_cons,List.length_nil,List.length_set]; omega)) foc0 rfl Tryz.sizeOf224<|⟨fun h=>absurd h (by decide),?_⟩
  refine zcf kR_<|zce (res0 Tryz.results98)<|CSpec.close ⟨p2,(l ++ [tyNd.dflt]).length,c3⟩ ?_ ?_ (t2_ (Ent.takeC del0 (by rw [zel] <;> rfl) (e_ r_)))
  · rfl
  · trivial
theorem zmj {W:World} {w:Nat} {wv:Sl3} {l:List NdV} (hl:l.length≤100) {nm:ByteArray} {n:Int} :
    CSpec Tryz.prog W 100 [ptr w 0,.string nm,.int .i64 n,.bool false] [blk w 201 [wv.v],sl tyNd wv.v l] (fun _:Sl3 => .tuple #[]) (fun _=>True) (fun x F=>blk w 201 [x.v]::sl tyNd x.v (l ++ [(ndN nm n)])::F) := by
 refine CSpec.of_body Tryz.func100 rfl Tryz.ntmps100 rfl fun F => ?_
 show CJ _ _ _ _ _ _ (_::_::F)
 refine sR<|oM rfl<|oP (P_neq rfl rfl)<|oM rfl ?_
 first | (refine zbu 10 rfl (fun hg1B hg1 => ?_) (fun hg1B hg1 => ?_)) | (refine zbv 10 rfl (fun hg1B hg1 => ?_) (fun hg1B hg1 => ?_)) | (refine zb3 10 rfl (fun hg1B => ?_) (fun hg1B => ?_))
 ·
  refine g_ rfl rfl rfl hg1B rfl<|g_ rfl rfl rfl hg1B rfl<|oP (zbe rfl hg1B rfl)<|nT<|za7 rfl rfl<|za3 19968 kR_ rfl<|aN 0 1 rfl rfl (zae rfl)<|aN 1 3 rfl rfl (zad rfl)<|aN 2 7 rfl rfl (zaa rfl ⟨_,_,_,Tryz.runUnderlying201,rfl,rfl,Tryz.sizeOf117,rfl⟩)<|aW 3 15 rfl rfl r_ (zac rfl foc0 rfl Tryz.isAgg117)<|aN 4 31 rfl rfl (zae rfl)<|aN 5 63 rfl rfl (zae rfl)<|aN 6 127 rfl rfl (zbk rfl (zhf _ _ _))<|aW 7 255 rfl rfl r_ (V_len rfl foc1 (Reads.sl _ _ _) Tryz.runUnderlying117)<|AJ_op 8 511 rfl kR_ rfl (zal rfl)<|za4 rfl (zfb _ _ _ _ _ _ _ _ _ _) rfl fun b1=>⟨fun _=>(t1_ (t1_ (e_ r_))),?_⟩
  refine AJ_op 9 1023 rfl kR_ rfl (zal rfl)<|zb1 (t:=tyNd) (bytes:=96) rfl rfl del2 foc0 (Reads.lit (t:=tyNd) (ys:=[tyNd.dflt]) rfl rfl (by decide) (by decide) rfl) Tryz.underlying117 zm0 (by show l.length + 1≤maxLen; unfold maxLen; omega) (by show (l.length + 1) * 96≤_; omega) rfl fun p2 c3=>⟨fun h=>absurd h (by decide),?_⟩
  refine aN 12 5119 rfl rfl (zad rfl)<|aN 13 13311 rfl rfl (zaa rfl ⟨_,_,_,Tryz.runUnderlying201,rfl,rfl,Tryz.sizeOf117,rfl⟩)<|zmp (slPtr del0 (by simp)) fun hp9=>aN 10 14335 rfl rfl (zk6 (i:=l.length) hp9 rfl rfl (by simp only [List.length_append,List.length_cons,List.length_nil]; omega) Tryz.runUnderlying117 Tryz.sizeOf224)<|zg4 11 14 16383 30719 rfl rfl kR_ rfl rfl (zal rfl) (zal rfl) (zd9 (x' := (ndN nm n)) rfl rfl rfl (by first | omega | (simp only [List.length_append,List.length_cons,List.length_nil,List.length_set]; omega)) foc0 rfl Tryz.sizeOf224 ?_) (za5 rfl rfl foc2 rfl rfl Tryz.sizeOf117 ?_)
  ·
   refine ⟨fun h=>absurd h (by decide),?_⟩
   refine AJ_op 14 32767 rfl kR_ rfl (zal rfl)<|za5 rfl rfl foc2 rfl rfl Tryz.sizeOf117<|⟨fun h=>absurd h (by decide),?_⟩
   refine zcf kR_<|zce (res0 Tryz.results100)<|CSpec.close ⟨p2,(l ++ [tyNd.dflt]).length,c3⟩ ?_ ?_ (t2_ (Ent.takeC del0 (by rw [zel] <;> rfl) (e_ r_)))
   · rfl
   · trivial
  ·
   refine ⟨fun h=>absurd h (by decide),?_⟩
   refine AJ_op 11 32767 rfl kR_ rfl (zal rfl)<|zd9 (x' := (ndN nm n)) rfl rfl rfl (by first | omega | (simp only [List.length_append,List.length_cons,List.length_nil,List.length_set]; omega)) foc0 rfl Tryz.sizeOf224<|⟨fun h=>absurd h (by decide),?_⟩
   refine zcf kR_<|zce (res0 Tryz.results100)<|CSpec.close ⟨p2,(l ++ [tyNd.dflt]).length,c3⟩ ?_ ?_ (t2_ (Ent.takeC del0 (by rw [zel] <;> rfl) (e_ r_)))
   · rfl
   · trivial
 ·
  refine p_ rfl rfl rfl hg1B (zae rfl)<|p_ rfl rfl rfl hg1B (P_not rfl)<|oP (za2 rfl hg1B rfl)<|nT<|za7 rfl (by first | exact decide_eq_true (by rfl) | (rfl))<|za3 19968 kR_ rfl<|aN 0 1 rfl rfl (zae rfl)<|aN 1 3 rfl rfl (zad rfl)<|aN 2 7 rfl rfl (zaa rfl ⟨_,_,_,Tryz.runUnderlying201,rfl,rfl,Tryz.sizeOf117,rfl⟩)<|aW 3 15 rfl rfl r_ (zac rfl foc0 rfl Tryz.isAgg117)<|aN 4 31 rfl rfl (zae rfl)<|aN 5 63 rfl rfl (zae rfl)<|aN 6 127 rfl rfl (zbk rfl (zhf _ _ _))<|aW 7 255 rfl rfl r_ (V_len rfl foc1 (Reads.sl _ _ _) Tryz.runUnderlying117)<|AJ_op 8 511 rfl kR_ rfl (zal rfl)<|za4 rfl (zfb _ _ _ _ _ _ _ _ _ _) rfl fun b4=>⟨fun _=>(t1_ (t1_ (e_ r_))),?_⟩
  refine AJ_op 9 1023 rfl kR_ rfl (zal rfl)<|zb1 (t:=tyNd) (bytes:=96) rfl rfl del2 foc0 (Reads.lit (t:=tyNd) (ys:=[tyNd.dflt]) rfl rfl (by decide) (by decide) rfl) Tryz.underlying117 zm0 (by show l.length + 1≤maxLen; unfold maxLen; omega) (by show (l.length + 1) * 96≤_; omega) rfl fun p5 c6=>⟨fun h=>absurd h (by decide),?_⟩
  refine aN 12 5119 rfl rfl (zad rfl)<|aN 13 13311 rfl rfl (zaa rfl ⟨_,_,_,Tryz.runUnderlying201,rfl,rfl,Tryz.sizeOf117,rfl⟩)<|zmp (slPtr del0 (by simp)) fun hp9=>aN 10 14335 rfl rfl (zk6 (i:=l.length) hp9 rfl rfl (by simp only [List.length_append,List.length_cons,List.length_nil]; omega) Tryz.runUnderlying117 Tryz.sizeOf224)<|zg4 11 14 16383 30719 rfl rfl kR_ rfl rfl (zal rfl) (zal rfl) (zd9 (x' := (ndN nm n)) rfl rfl rfl (by first | omega | (simp only [List.length_append,List.length_cons,List.length_nil,List.length_set]; omega)) foc0 rfl Tryz.sizeOf224 ?_) (za5 rfl rfl foc2 rfl rfl Tryz.sizeOf117 ?_)
  ·
   refine ⟨fun h=>absurd h (by decide),?_⟩
   refine AJ_op 14 32767 rfl kR_ rfl (zal rfl)<|za5 rfl rfl foc2 rfl rfl Tryz.sizeOf117<|⟨fun h=>absurd h (by decide),?_⟩
   refine zcf kR_<|zce (res0 Tryz.results100)<|CSpec.close ⟨p5,(l ++ [tyNd.dflt]).length,c6⟩ ?_ ?_ (t2_ (Ent.takeC del0 (by rw [zel] <;> rfl) (e_ r_)))
   · rfl
   · trivial
  ·
   refine ⟨fun h=>absurd h (by decide),?_⟩
   refine AJ_op 11 32767 rfl kR_ rfl (zal rfl)<|zd9 (x' := (ndN nm n)) rfl rfl rfl (by first | omega | (simp only [List.length_append,List.length_cons,List.length_nil,List.length_set]; omega)) foc0 rfl Tryz.sizeOf224<|⟨fun h=>absurd h (by decide),?_⟩
   refine zcf kR_<|zce (res0 Tryz.results100)<|CSpec.close ⟨p5,(l ++ [tyNd.dflt]).length,c6⟩ ?_ ?_ (t2_ (Ent.takeC del0 (by rw [zel] <;> rfl) (e_ r_)))
   · rfl
   · trivial
theorem zqj {W:World} {w:Nat} {wv:Sl3} {l:List NdV} (hl:l.length≤100) {nm:ByteArray} {nv:Sl3} :
    CSpec Tryz.prog W 102 [ptr w 0,.string nm,nv.v] [blk w 201 [wv.v],sl tyNd wv.v l] (fun _:Sl3 => .tuple #[]) (fun _=>True) (fun x F=>blk w 201 [x.v]::sl tyNd x.v (l ++ [(ndS nm nv)])::F) := by
 refine CSpec.of_body Tryz.func102 rfl Tryz.ntmps102 rfl fun F => ?_
 show CJ _ _ _ _ _ _ (_::_::F)
 refine za3 19968 kR_ rfl<|aN 0 1 rfl rfl (zae rfl)<|aN 1 3 rfl rfl (zad rfl)<|aN 2 7 rfl rfl (zaa rfl ⟨_,_,_,Tryz.runUnderlying201,rfl,rfl,Tryz.sizeOf117,rfl⟩)<|aW 3 15 rfl rfl r_ (zac rfl foc0 rfl Tryz.isAgg117)<|aN 4 31 rfl rfl (zae rfl)<|aN 5 63 rfl rfl (zae rfl)<|aN 6 127 rfl rfl (zbk rfl (zlj _ _ _ _ _))<|aW 7 255 rfl rfl r_ (V_len rfl foc1 (Reads.sl _ _ _) Tryz.runUnderlying117)<|AJ_op 8 511 rfl kR_ rfl (zal rfl)<|za4 rfl (zfb _ _ _ _ _ _ _ _ _ _) rfl fun b1=>⟨fun _=>(t1_ (t1_ (e_ r_))),?_⟩
 refine AJ_op 9 1023 rfl kR_ rfl (zal rfl)<|zb1 (t:=tyNd) (bytes:=96) rfl rfl del2 foc0 (Reads.lit (t:=tyNd) (ys:=[tyNd.dflt]) rfl rfl (by decide) (by decide) rfl) Tryz.underlying117 zm0 (by show l.length + 1≤maxLen; unfold maxLen; omega) (by show (l.length + 1) * 96≤_; omega) rfl fun p2 c3=>⟨fun h=>absurd h (by decide),?_⟩
 refine aN 12 5119 rfl rfl (zad rfl)<|aN 13 13311 rfl rfl (zaa rfl ⟨_,_,_,Tryz.runUnderlying201,rfl,rfl,Tryz.sizeOf117,rfl⟩)<|zmp (slPtr del0 (by simp)) fun hp9=>aN 10 14335 rfl rfl (zk6 (i:=l.length) hp9 rfl rfl (by simp only [List.length_append,List.length_cons,List.length_nil]; omega) Tryz.runUnderlying117 Tryz.sizeOf224)<|zg4 11 14 16383 30719 rfl rfl kR_ rfl rfl (zal rfl) (zal rfl) (zd9 (x' := (ndS nm nv)) rfl rfl rfl (by first | omega | (simp only [List.length_append,List.length_cons,List.length_nil,List.length_set]; omega)) foc0 rfl Tryz.sizeOf224 ?_) (za5 rfl rfl foc2 rfl rfl Tryz.sizeOf117 ?_)
 ·
  refine ⟨fun h=>absurd h (by decide),?_⟩
  refine AJ_op 14 32767 rfl kR_ rfl (zal rfl)<|za5 rfl rfl foc2 rfl rfl Tryz.sizeOf117<|⟨fun h=>absurd h (by decide),?_⟩
  refine zcf kR_<|zce (res0 Tryz.results102)<|CSpec.close ⟨p2,(l ++ [tyNd.dflt]).length,c3⟩ ?_ ?_ (t2_ (Ent.takeC del0 (by rw [zel] <;> rfl) (e_ r_)))
  · rfl
  · trivial
 ·
  refine ⟨fun h=>absurd h (by decide),?_⟩
  refine AJ_op 11 32767 rfl kR_ rfl (zal rfl)<|zd9 (x' := (ndS nm nv)) rfl rfl rfl (by first | omega | (simp only [List.length_append,List.length_cons,List.length_nil,List.length_set]; omega)) foc0 rfl Tryz.sizeOf224<|⟨fun h=>absurd h (by decide),?_⟩
  refine zcf kR_<|zce (res0 Tryz.results102)<|CSpec.close ⟨p2,(l ++ [tyNd.dflt]).length,c3⟩ ?_ ?_ (t2_ (Ent.takeC del0 (by rw [zel] <;> rfl) (e_ r_)))
  · rfl
  · trivial
end Go.Proofs
set_option linter.unusedSimpArgs false
set_option maxRecDepth 20000
namespace Go.Proofs
open Go.VG Ts
def hex0:ByteArray := ByteArray.mk #[48,48,48,48,48,48,48,48,48,48,48,48,48,48,48,48]
theorem hex_0:zmh 0=some hex0 := by kernel_rfl
theorem zxa:hex0≠ByteArray.empty := by decide
def kidsL:List NdV := [ndT (ByteArray.mk #[105,100]) hex0,ndN (ByteArray.mk #[102,105,114,115,116]) 0,ndN (ByteArray.mk #[101,120,116,101,110,116,115]) 3]
def mainL (sv:Sl3):List NdV := [ndT (ByteArray.mk #[105,100]) hex0,ndN (ByteArray.mk #[115,101,113]) 0,ndN (ByteArray.mk #[101,120,116,101,110,116]) 1,ndN (ByteArray.mk #[110,101,120,116]) 0,ndS (ByteArray.mk #[100,105,115,107,115]) sv]
def kidsI:Nat→List NdV | 0=>[] | _ + 1=>kidsL
def secI (kv:Sl3):Nat→List NdV | 0=>[] | _ + 1=>[ndS dk0.name kv]
theorem zup {W:World} {w:Nat} {wv:Sl3} {l:List NdV} {nm:ByteArray} :
    CSpec Tryz.prog W 100 [ptr w 0,.string nm,.int .i64 0,.bool true] [blk w 201 [wv.v],sl tyNd wv.v l] (fun _:Unit => .tuple #[]) (fun _=>True) (fun _ F=>blk w 201 [wv.v]::sl tyNd wv.v l::F) := by
 refine CSpec.of_body Tryz.func100 rfl Tryz.ntmps100 rfl fun F => ?_
 show CJ _ _ _ _ _ _ (_::_::F)
 refine sR<|oM rfl<|oP (P_neq rfl rfl)<|oM rfl<|zbp 10 false rfl dF_ fun hg1B=>p_ rfl rfl rfl hg1B (zae rfl)<|p_ rfl rfl rfl hg1B (P_not rfl)<|oP (za2 rfl hg1B rfl)<|nT<|zap rfl (by first | exact decide_eq_false (by rfl) | (rfl))<|zbh<|zce (res0 Tryz.results100)<|CSpec.close () ?_ ?_ r_
 · rfl
 · trivial
theorem ztb {W:World} {w:Nat} {wv:Sl3} {l:List NdV} {nm:ByteArray} :
    CSpec Tryz.prog W 101 [ptr w 0,.string nm,.slice none 0 0] [blk w 201 [wv.v],sl tyNd wv.v l] (fun _:Unit => .tuple #[]) (fun _=>True) (fun _ F=>blk w 201 [wv.v]::sl tyNd wv.v l::F) := by
 refine CSpec.of_body Tryz.func101 rfl Tryz.ntmps101 rfl fun F => ?_
 show CJ _ _ _ _ _ _ (_::_::F)
 refine sR<|oM rfl<|oP (zca rfl Tryz.runUnderlying58)<|oP (P_gtr rfl rfl)<|nT<|zap rfl dF_<|zbh<|zce (res0 Tryz.results101)<|CSpec.close () ?_ ?_ r_
 · rfl
 · trivial
theorem zuq {W:World}  :
    CSpec Tryz.prog W 145 [.bool false] [] (fun _:Unit => .int .i64 0) (fun _=>True) (fun _ F=>F) := by
 refine CSpec.of_body Tryz.func145 rfl Tryz.ntmps145 rfl fun F => ?_
 show CJ _ _ _ _ _ _ (F)
 refine sR<|oA rfl<|nT<|zab<|sR<|oM rfl<|nT<|zap rfl (by first | exact decide_eq_false (by rfl) | (rfl))<|kT<|sR<|oA rfl<|nT<|zaf<|zan (res1 Tryz.results145 rfl)<|CSpec.close () ?_ ?_ r_
 · rfl
 · trivial
theorem z18 {W:World}  :
    CSpec Tryz.prog W 104 [.int .i64 0,.agg #[.string dk0.name,.int .u64 0,.int .i64 0,.int .i64 3,.bool false,.bool false,.slice none 0 0]] [] (fun _:Unit => .string dk0.name) (fun _=>True) (fun _ F=>F) := by
 refine CSpec.of_body Tryz.func104 rfl Tryz.ntmps104 rfl fun F => ?_
 show CJ _ _ _ _ _ _ (F)
 refine sR<|oO<|O_box rfl rfl rfl fun b1=>oA rfl<|nT<|sR<|oP (zaa rfl ⟨_,_,_,Tryz.runUnderlying60,rfl,rfl,Tryz.sizeOf9,rfl⟩)<|oV (zac rfl foc0 rfl Tryz.isAgg9)<|oA rfl<|nT<|zaf<|zan (res1 Tryz.results104 rfl)<|CSpec.close () ?_ ?_ (e_ r_)
 · rfl
 · trivial
theorem zxb {W:World}  :
    CSpec Tryz.prog W 105 [.agg #[.string dk0.name,.int .u64 0,.int .i64 0,.int .i64 3,.bool false,.bool false,.slice none 0 0]] [] (fun x:Sl3=>x.v) (fun _=>True) (fun x F=>sl tyNd x.v kidsL::F) := by
 refine CSpec.of_body Tryz.func105 rfl Tryz.ntmps105 rfl fun F => ?_
 show CJ _ _ _ _ _ _ (F)
 refine sR<|oO<|O_box rfl rfl rfl fun b1=>oA rfl<|nT<|sR<|oO<|zbi Tryz.zeroValue201 rfl rfl fun b2=>nT<|zab<|zbs (fun h hh=>zch (t:=tyNd) h hh)<|zag<|oP (zaa rfl ⟨_,_,_,Tryz.runUnderlying60,rfl,rfl,Tryz.sizeOf47,rfl⟩)<|oV (zac rfl foc2 rfl Tryz.isAgg47)<|oO<|zai ((znq hex_0)) rfl Tryz.call99 Dels.nil rfl fun _ hc4=>oO<|zai ((zuo (wv:=⟨none,0,0⟩) (by simp) zxa)) rfl Tryz.call98 (Dels.cons del1 (dC_ del0)) rfl fun v1 hc6=>nT<|sR<|oP (zaa rfl ⟨_,_,_,Tryz.runUnderlying60,rfl,rfl,Tryz.sizeOf3,rfl⟩)<|oV (zac rfl foc2 rfl Tryz.isAgg3)<|oO<|zai ((zmj (wv:=v1) (by simp))) rfl Tryz.call100 (Dels.cons del0 (dC_ del0)) rfl fun v2 hc8=>nT<|sR<|oP (zaa rfl ⟨_,_,_,Tryz.runUnderlying60,rfl,rfl,Tryz.sizeOf3,rfl⟩)<|oV (zac rfl foc2 rfl Tryz.isAgg3)<|oO<|zai ((zmj (wv:=v2) (by simp))) rfl Tryz.call100 (Dels.cons del0 (dC_ del0)) rfl fun v3 hc10=>nT<|sR<|oP (zaa rfl ⟨_,_,_,Tryz.runUnderlying60,rfl,rfl,Tryz.sizeOf4,rfl⟩)<|oV (zac rfl foc2 rfl Tryz.isAgg4)<|oO<|zai (zuq) rfl Tryz.call145 Dels.nil rfl fun _ hc11=>oO<|zai ((zup (wv:=v3))) rfl Tryz.call100 (Dels.cons del0 (dC_ del0)) rfl fun _ hc12=>nT<|sR<|oP (zaa rfl ⟨_,_,_,Tryz.runUnderlying60,rfl,rfl,Tryz.sizeOf4,rfl⟩) ?_
 refine oV (zac rfl foc2 rfl Tryz.isAgg4)<|oO<|zai (zuq) rfl Tryz.call145 Dels.nil rfl fun _ hc13=>oO<|zai ((zup (wv:=v3))) rfl Tryz.call100 (Dels.cons del0 (dC_ del0)) rfl fun _ hc14=>nT<|sR<|oP (zaa rfl ⟨_,_,_,Tryz.runUnderlying60,rfl,rfl,Tryz.sizeOf58,rfl⟩)<|oV (zac rfl foc2 rfl Tryz.isAgg58)<|oO<|zai ((ztb (wv:=v3))) rfl Tryz.call101 (Dels.cons del0 (dC_ del0)) rfl fun _ hc15=>nT<|sR<|oP (zaa rfl ⟨_,_,_,Tryz.runUnderlying201,rfl,rfl,Tryz.sizeOf117,rfl⟩)<|oV (zac rfl foc0 rfl Tryz.isAgg117)<|oA rfl<|nT<|zaf<|zan (res1 Tryz.results105 rfl)<|CSpec.close v3 ?_ ?_ (t1_ (e_ (e_ r_)))
 · rfl
 · trivial
theorem c_secs {W:World} {dv:Sl3} :
    CSpec Tryz.prog W 103 [dv.v,.func (.func 104) #[] #[],.func (.func 105) #[] #[]] [sl zb4 dv.v [dk0]] (fun x:Sl3 × Sl3=>x.1.v) (fun _=>True) (fun x F=>sl zb4 dv.v [dk0]::sl tyNd x.1.v [ndS dk0.name x.2]::sl tyNd x.2.v kidsL::F) := by
 refine CSpec.of_body Tryz.func103 rfl Tryz.ntmps103 rfl fun F => ?_
 show CJ _ _ _ _ _ _ (_::F)
 have hl1:([dk0]:List DkV).length=1 := rfl
 refine sR<|oA rfl<|nT<|sR<|oO<|zbi Tryz.zeroValue201 rfl rfl fun b1=>nT<|zab<|zab<|zbs (fun h hh=>zch (t:=tyNd) h hh)<|zag<|oM rfl<|oV (V_len rfl foc2 (Reads.sl _ _ _) Tryz.runUnderlying61)<|oM rfl<|nT<|zao<|zbs (fun h hh=>zch (t:=tyNd) h hh)<|za8 (X:=Nat × Sl3 × Sl3) [8,9,12,13,14,15,16,17,18,19,20,21,22,23,24,25] (fun ⟨i,xv,kv⟩  => ([(12,.int .i64 (i:Nat))]:Slots)) (fun ⟨i,xv,kv⟩ R=>blk b1 201 [xv.v]::sl tyNd xv.v (secI kv i)::sl tyNd kv.v (kidsI i)::R) (fun ⟨i,xv,kv⟩  => i≤1) (fun ⟨i,xv,kv⟩  => 1 - i) ⟨0,⟨none,0,0⟩,⟨none,0,0⟩⟩ ?_ ?_ (t2_ (t1_ r_)) ?_
 · exact Nat.zero_le _
 · exact ⟨rfl,True.intro⟩
 ·
  rintro ⟨i,xv,kv⟩ hi1
  show CJ _ _ _ _ _ (([(12,.int .i64 (i:Nat))]:Slots) ++ forget _ _) (blk b1 201 [xv.v]::sl tyNd xv.v (secI kv i)::sl tyNd kv.v (kidsI i)::_)
  refine sR<|oP (P_lss rfl rfl)<|nT<|zab ?_
  first | (refine zav rfl (fun hg1 => ?_) (fun hg1 => ?_)) | (refine zaw rfl (fun hg1 => ?_) (fun hg1 => ?_)) | (refine za1 rfl (fun hg1 => ?_) (fun hg1 => ?_))
  ·
   refine kT<|zab<|zao<|sR ?_
   obtain rfl:i=0 := by omega
   refine oM rfl ?_
   first | (refine RJ_op rfl (OJ_V (zam rfl rfl rfl (by first | omega | decide) foc3 (Reads.sl _ _ _) Tryz.runUnderlying61 Tryz.sizeOf60) rfl ?_)) | (refine RJ_op rfl (OJ_V (zam rfl rfl (Int.toNat_of_nonneg (by first | omega | decide)).symm (by first | omega | decide) foc3 (Reads.sl _ _ _) Tryz.runUnderlying61 Tryz.sizeOf60) rfl ?_))
   refine oV (zdb rfl rfl (by first | omega | decide) foc3 (Reads.sl _ _ _) rfl rfl Tryz.isAgg60 Tryz.sizeOf60)<|oO<|zbi Tryz.zeroValue60 rfl rfl fun b3=>oA rfl<|oO<|zbo rfl rfl foc0 Tryz.sizeOf60 rfl rfl rfl<|nT<|za3 192 kR_ rfl<|aN 0 1 rfl rfl (zae rfl)<|aN 1 3 rfl rfl (zae rfl)<|aW 2 7 rfl rfl r_ (zbq rfl foc0 Tryz.isAgg60 Tryz.sizeOf60 rfl rfl)<|aN 4 23 rfl rfl (zae rfl)<|aW 5 55 rfl rfl r_ (zbq rfl foc0 Tryz.isAgg60 Tryz.sizeOf60 rfl rfl)<|AJ_op 3 63 rfl kR_ rfl (zal rfl)<|zdz rfl rfl (z18) Tryz.call104 Dels.nil rfl fun _ hc4=>⟨fun _=>r_,?_⟩
   refine AJ_op 6 127 rfl kR_ rfl (zal rfl)<|zdz rfl rfl (zxb) Tryz.call105 Dels.nil rfl fun kv2 hc6=>⟨fun h=>absurd h (by decide),?_⟩
   refine AJ_op 7 255 rfl kR_ rfl (zal rfl)<|zai ((zqj (wv:=xv) (l:=secI kv 0) (nv:=kv2) (Nat.zero_le 100))) rfl Tryz.call102 (Dels.cons del2 (dC_ del2)) rfl fun v1 hc8=>⟨fun h=>absurd h (by decide),?_⟩
   refine zcf kR_<|zah<|zar<|zag<|oP (P_add rfl rfl (by first | omega | decide))<|oM rfl<|za0<|zba ⟨1,v1,kv2⟩ (by first | omega | (simp only []; omega)) ?_ kP_ ?_ (t0_ (t0_ (t0_ (t2_ (e_ (e_ r_))))))
   · exact Nat.le_refl 1
   · exact ⟨rfl,True.intro⟩
  ·
   refine zbc<|zay<|zau<|zat<|zar<|sR ?_
   obtain rfl:i=1 := by omega
   refine oP (zaa rfl ⟨_,_,_,Tryz.runUnderlying201,rfl,rfl,Tryz.sizeOf117,rfl⟩)<|oV (zac rfl foc0 rfl Tryz.isAgg117)<|oA rfl<|nT<|zaf<|zan (res1 Tryz.results103 rfl)<|CSpec.close ⟨xv,kv⟩ ?_ ?_ (t3_ (t1_ (t1_ (e_ r_))))
   · rfl
   · trivial
theorem c_tree {W:World} {gn:ByteArray} {dv:Sl3} :
    CSpec Tryz.prog W 76 [.agg #[.string gn,.int .u64 0,.int .i64 0,.int .i64 1,.int .i64 0,.slice none 0 0,dv.v,.slice none 0 0,.slice none 0 0]] [sl zb4 dv.v [dk0]] (fun x:Sl3 × Sl3 × Sl3 × Sl3=>x.1.v) (fun _=>True) (fun x F=>sl zb4 dv.v [dk0]::sl tyNd x.1.v [ndS gn x.2.1]::sl tyNd x.2.1.v (mainL x.2.2.1)::sl tyNd x.2.2.1.v [ndS dk0.name x.2.2.2]::sl tyNd x.2.2.2.v kidsL::F) := by
 refine CSpec.of_body Tryz.func76 rfl Tryz.ntmps76 rfl fun F => ?_
 show CJ _ _ _ _ _ _ (_::F)
 refine sR<|oO<|O_box rfl rfl rfl fun b1=>oA rfl<|nT<|sR<|oO<|zbi Tryz.zeroValue201 rfl rfl fun b2=>nT<|zab<|zbs (fun h hh=>zch (t:=tyNd) h hh)<|zag<|oP (zaa rfl ⟨_,_,_,Tryz.runUnderlying65,rfl,rfl,Tryz.sizeOf47,rfl⟩)<|oV (zac rfl foc2 rfl Tryz.isAgg47)<|oO<|zai ((znq hex_0)) rfl Tryz.call99 Dels.nil rfl fun _ hc4=>oO<|zai ((zuo (wv:=⟨none,0,0⟩) (by simp) zxa)) rfl Tryz.call98 (Dels.cons del1 (dC_ del0)) rfl fun v1 hc6=>nT<|sR<|oP (zaa rfl ⟨_,_,_,Tryz.runUnderlying65,rfl,rfl,Tryz.sizeOf3,rfl⟩)<|oV (zac rfl foc2 rfl Tryz.isAgg3)<|oO<|zai ((zmj (wv:=v1) (by simp))) rfl Tryz.call100 (Dels.cons del0 (dC_ del0)) rfl fun v2 hc8=>nT<|sR<|oP (zaa rfl ⟨_,_,_,Tryz.runUnderlying65,rfl,rfl,Tryz.sizeOf3,rfl⟩)<|oV (zac rfl foc2 rfl Tryz.isAgg3)<|oO<|zai ((zmj (wv:=v2) (by simp))) rfl Tryz.call100 (Dels.cons del0 (dC_ del0)) rfl fun v3 hc10=>nT<|sR<|oP (zaa rfl ⟨_,_,_,Tryz.runUnderlying65,rfl,rfl,Tryz.sizeOf3,rfl⟩)<|oV (zac rfl foc2 rfl Tryz.isAgg3)<|oO<|zai ((zmj (wv:=v3) (by simp))) rfl Tryz.call100 (Dels.cons del0 (dC_ del0)) rfl fun v4 hc12=>nT<|sR<|oP (zaa rfl ⟨_,_,_,Tryz.runUnderlying65,rfl,rfl,Tryz.sizeOf58,rfl⟩)<|oV (zac rfl foc2 rfl Tryz.isAgg58) ?_
 refine oO<|zai ((ztb (wv:=v4))) rfl Tryz.call101 (Dels.cons del0 (dC_ del0)) rfl fun _ hc13=>nT<|zab<|sR<|oP (zaa rfl ⟨_,_,_,Tryz.runUnderlying65,rfl,rfl,Tryz.sizeOf61,rfl⟩)<|oV (zac rfl foc2 rfl Tryz.isAgg61)<|oV (V_len rfl foc3 (Reads.sl _ _ _) Tryz.runUnderlying61)<|oP (P_gtr rfl rfl)<|nT<|za7 rfl dT_<|zag<|oP (zaa rfl ⟨_,_,_,Tryz.runUnderlying65,rfl,rfl,Tryz.sizeOf61,rfl⟩)<|oV (zac rfl foc2 rfl Tryz.isAgg61)<|oO<|zai (c_secs) rfl Tryz.call103 (dC_ del3) rfl fun q9 hc16=>oO<|zai ((zqj (wv:=v4) (nv:=q9.1) (by simp))) rfl Tryz.call102 (Dels.cons del3 (dC_ del3)) rfl fun v5 hc18=>nT<|zab<|sR<|oP (zaa rfl ⟨_,_,_,Tryz.runUnderlying65,rfl,rfl,Tryz.sizeOf62,rfl⟩)<|oV (zac rfl foc5 rfl Tryz.isAgg62)<|oP (zca rfl Tryz.runUnderlying62)<|oP (P_gtr rfl rfl)<|nT<|zap rfl dF_<|kT<|zab<|sR<|oP (zaa rfl ⟨_,_,_,Tryz.runUnderlying65,rfl,rfl,Tryz.sizeOf63,rfl⟩)<|oV (zac rfl foc5 rfl Tryz.isAgg63)<|oP (zca rfl Tryz.runUnderlying63)<|oP (P_gtr rfl rfl)<|nT<|zap rfl dF_<|kT<|sR<|oO<|zbi Tryz.zeroValue201 rfl rfl fun b19=>nT<|zab<|zbs (fun h hh=>zch (t:=tyNd) h hh)<|zag<|oP (zaa rfl ⟨_,_,_,Tryz.runUnderlying65,rfl,rfl,Tryz.sizeOf9,rfl⟩)<|oV (zac rfl foc7 rfl Tryz.isAgg9) ?_
 refine oP (zaa rfl ⟨_,_,_,Tryz.runUnderlying201,rfl,rfl,Tryz.sizeOf117,rfl⟩)<|oV (zac rfl foc2 rfl Tryz.isAgg117)<|oO<|zai ((zqj (wv:=⟨none,0,0⟩) (nv:=v5) (by simp))) rfl Tryz.call102 (Dels.cons del1 (dC_ del0)) rfl fun v6 hc22=>nT<|sR<|oP (zaa rfl ⟨_,_,_,Tryz.runUnderlying201,rfl,rfl,Tryz.sizeOf117,rfl⟩)<|oV (zac rfl foc0 rfl Tryz.isAgg117)<|oA rfl<|nT<|zaf<|zan (res1 Tryz.results76 rfl)<|CSpec.close ⟨v6,v5,q9.1,q9.2⟩ ?_ ?_ (t4_ (t1_ (t2_ (t2_ (t2_ (e_ (e_ (e_ r_))))))))
 · rfl
 · trivial
theorem c_Tree {W:World} {gn:ByteArray} {dv:Sl3} (hg:NoSuf gn) (hd:NoSuf dk0.name) :
    CSpec Tryz.prog W 47 [.agg #[.string gn,.int .u64 0,.int .i64 0,.int .i64 1,.int .i64 0,.slice none 0 0,dv.v,.slice none 0 0,.slice none 0 0]] [sl zb4 dv.v [dk0],GV] (fun x:Sl3 × Sl3 × Sl3 × Sl3 => .tuple #[x.1.v,.int .i64 0]) (fun _=>True) (fun x F=>sl zb4 dv.v [dk0]::sl tyNd x.1.v [ndS gn x.2.1]::sl tyNd x.2.1.v (mainL x.2.2.1)::sl tyNd x.2.2.1.v [ndS dk0.name x.2.2.2]::sl tyNd x.2.2.2.v kidsL::GV::F) := by
 refine CSpec.of_body Tryz.func47 rfl Tryz.ntmps47 rfl fun F => ?_
 show CJ _ _ _ _ _ _ (_::_::F)
 refine sR<|oO<|O_box rfl rfl rfl fun b1=>oA rfl<|oA rfl<|nT<|zab<|sR<|oV (zbq rfl foc0 Tryz.isAgg65 Tryz.sizeOf65 rfl rfl)<|oO<|zai ((z17 hg hd)) rfl Tryz.call75 (Dels.cons del1 (dC_ del1)) rfl fun _ hc2=>oM rfl<|oP (zaj rfl rfl)<|oP (zaj rfl rfl)<|oA rfl<|oA rfl<|nT<|sR<|oM rfl<|oP (P_neq rfl rfl)<|nT<|zap rfl dF_<|kT<|sR<|oV (zbq rfl foc2 Tryz.isAgg65 Tryz.sizeOf65 rfl rfl)<|oO<|zai (c_tree) rfl Tryz.call76 (dC_ del0) rfl fun q9 hc7=>oA rfl<|oA rfl<|nT<|zaf<|zan (res2 Tryz.results47 rfl rfl)<|CSpec.close q9 ?_ ?_ (t0_ (t0_ (t0_ (t0_ (t0_ (t0_ (e_ r_)))))))
 · rfl
 · trivial
end Go.Proofs
set_option linter.unusedSimpArgs false
set_option maxRecDepth 20000
namespace Go.Proofs
open Go.VG Ts
theorem zib (v0:Int) (v1:Int) (v2:Int) (v3:Int) (v4:Int) (v5:Int):zbg Tryz.prog 179 6 [(0,.int .u8 v0),(1,.int .u8 v1),(2,.int .u8 v2),(3,.int .u8 v3),(4,.int .u8 v4),(5,.int .u8 v5)] 5 [.int .u8 v0,.int .u8 v1,.int .u8 v2,.int .u8 v3,.int .u8 v4,.int .u8 v5] := fun w=>by kernel_rfl
abbrev tyStp:Ty (Option Nat) := { T := 307,sz := 1,enc := fun x=>[match x with | none => .nilFunc | some f => .func (.func f) #[] #[]],dflt := none,len := fun _=>rfl,one := fun x=>by cases x <;> rfl,pos := by decide }
def ltr (c:UInt8):Bool := (ze1 c).getD false
theorem z19:(List.range 256).all (fun i=>ze1 (UInt8.ofNat i) == some (ltr (UInt8.ofNat i)))=true := by kernel_rfl
theorem ltr_eq (c:UInt8):ze1 c=some (ltr c) := by
  have h := List.all_eq_true.1 z19 c.toNat (List.mem_range.2 c.toNat_lt)
  rw [UInt8.ofNat_toNat] at h
  exact eq_of_beq h
def Stp (n:Nat) (xs:List (Option Nat)):Prop := xs.length=256 ∧ ∀ c:UInt8,c.toNat < n→ltr c=true→xs.getD c.toNat none=some 198
theorem Stp.start:Stp 0 (List.replicate 256 none) := ⟨List.length_replicate,fun c h=>absurd h (Nat.not_lt_zero _)⟩
def mkd (b:Nat) (T:TypeId) (cs:List Value):HP := pt b (.cells cs.toArray T (cs.length,cs.length + 1))
theorem Reads.mkd {α:Type} {t:Ty α} {b m:Nat} {E:TypeId} {cs:List Value} {ys:List α} (hE:E=t.T) (hm:ys.length=m) (hcm:m≤maxLen) (he:flat t ys=cs):Reads (mkd b E cs) t (.slice (some ⟨b,0,none⟩) m m) ys := by
  intro h hh
  subst hE hm he
  refine .inr ⟨⟨b,0,none⟩,ys.length,rfl,Nat.le_refl _,hcm,fun _=>rfl,fun i k u hi hk hu => ?_⟩
  rw [show h=PH.one b _ from hh]
  have := zd1 t ys i k hi hk
  simp only [zc9,PH.one,if_true,Nat.zero_add,List.getElem?_toArray]
  rw [this,hu]
theorem zxc {w:World} {b n:Nat} {c:Array Value} {T:TypeId} (hb:w.heap[b]? = some (.cells c T (0,0))) :
    w.freeze ⟨b,n,none⟩ 1 = { w with heap := w.heap.setIfInBounds b (.cells c T (n,n + 1)) } := by
  unfold World.freeze
  rw [if_neg (by decide)]
  congr 1
  apply Array.ext_getElem?
  intro k
  rw [Array.getElem?_modify,Array.getElem?_setIfInBounds]
  by_cases h:b=k
  · subst h
    obtain ⟨hlt,_⟩ := Array.getElem?_eq_some_iff.1 hb
    rw [if_pos rfl,if_pos rfl,if_pos hlt,hb]; rfl
  · simp [h]
theorem zva {P:Program} {n:Env} {W:World} {s:Slots} {H:List HP} {K:Slots→List HP→Prop} {d:Nat} {ty:TypeId} {pos:String} {after:Array Edge} {gd:Option (Nat × Bool)} {x:Operand} {T E E':TypeId} {b m:Nat} {cs:List Value} {C:HP→List HP} (hx:ev s x=some (.slice (some ⟨b,0,none⟩) m m)) (hT:∀ w,(underlying T).run P w = .ok (.slice E) w) (hE:∀ w,(underlying E).run P w = .ok (.int .u8) w) (hf':Foc H (blk b E' cs) C) (hd:Nat.blt d n.n=true)
    (hk:K ((d,.slice (some ⟨b,0,none⟩) m m)::s) (C (mkd b E' cs))):OJ P n W ⟨some d,.convert T T x,ty,pos,after,gd⟩ s H K :=
  zge (fun q w hf hs=>by
    obtain ⟨F,hp,hC⟩ := hf'.focus
    have hs1 := hs.perm hp
    have hb := hs1.blk
    refine ⟨.slice (some ⟨b,0,none⟩) m m,w.freeze ⟨b,cs.length,none⟩ 1,C (mkd b E' cs),?_,?_,hk⟩
    · have hsh:w.shape? b=some (E',cs.length) := by
        unfold World.shape?
        rw [hb]; simp
      simp [execOp,hf.eval hx,convert,hT,hE,markStringish,hsh]
    · rw [zxc hb]
      exact hs1.setObj.perm (hC _).symm) hd
theorem u8_nat (n:Nat):to_u8 (n:Int)=UInt8.ofNat n := by
  have h:((n:Int) % 256).toNat=n % 256 := by omega
  unfold to_u8; rw [h]; apply UInt8.toNat_inj.1; simp
theorem Stp.no {n:Nat} {xs:List (Option Nat)} (h:Stp n xs) (hn:n < 256) (hl:ltr (to_u8 (n:Int))=false):Stp (n + 1) xs := ⟨h.1,fun c hc hc' => by
  by_cases e:c.toNat=n
  · subst e; rw [u8_nat,UInt8.ofNat_toNat] at hl; rw [hl] at hc'; cases hc'
  · exact h.2 c (by omega) hc'⟩
theorem Stp.yes {n:Nat} {xs:List (Option Nat)} (h:Stp n xs) (hn:n < 256):Stp (n + 1) (xs.set n (some 198)) := ⟨by rw [List.length_set]; exact h.1,fun c hc hc' => by
  have hl := h.1
  by_cases e:c.toNat=n
  · subst e; rw [List.getD_eq_getElem?_getD,List.getElem?_set_self (by omega)]; rfl
  · rw [List.getD_eq_getElem?_getD,List.getElem?_set_ne (fun e2=>e e2.symm), ← List.getD_eq_getElem?_getD]; exact h.2 c (by omega) hc'⟩
theorem Stp.oth {xs:List (Option Nat)} (h:Stp 256 xs) (d:UInt8) (v:Option Nat) (hd:ltr d=false):Stp 256 (xs.set d.toNat v) := ⟨by rw [List.length_set]; exact h.1,fun c hc hc' => by
  by_cases e:c.toNat=d.toNat
  · rw [UInt8.toNat_inj.1 e,hd] at hc'; cases hc'
  · rw [List.getD_eq_getElem?_getD,List.getElem?_set_ne (fun e2=>e e2.symm), ← List.getD_eq_getElem?_getD]; exact h.2 c hc hc'⟩
def sgnL:List UInt8 := [123,125,91,93,44,61]
theorem sgn_no:∀ i,i < 6→ltr (sgnL.getD i 0)=false := by decide +kernel
theorem z2a {W:World}  :
    CSpec Tryz.prog W 178 [] [] (fun xs:List (Option Nat) => .agg (flat tyStp xs).toArray) (fun xs=>Stp 256 xs) (fun _ F=>F) := by
 refine CSpec.of_body Tryz.func178 rfl Tryz.ntmps178 rfl fun F => ?_
 show CJ _ _ _ _ _ _ (F)
 have hsg:sgnL.length=6 := rfl
 refine sR<|oO<|zbi Tryz.zeroValue307 rfl rfl fun t1=>zcg (zb5 (t:=tyStp) (m:=256) (List.replicate 256 none) rfl rfl kR_ (by decide))<|nT<|zab<|sR<|oM rfl<|nT<|zao<|za8 (X:=Nat × List (Option Nat)) [1,4,5,6,7,8,9,10,11,12] (fun ⟨i,xs⟩  => ([(4,.int .i64 (i:Nat))]:Slots)) (fun ⟨i,xs⟩ R=>sl tyStp (.slice (some ⟨t1,0,none⟩) 256 256) xs::R) (fun ⟨i,xs⟩  => i≤256∧Stp i xs) (fun ⟨i,xs⟩  => 256 - i) ⟨0,(List.replicate 256 none)⟩ ?_ ?_ r_ ?_
 · exact ⟨Nat.zero_le _,Stp.start⟩
 · exact ⟨rfl,True.intro⟩
 ·
  rintro ⟨i,xs⟩ ⟨hi,hx⟩
  show CJ _ _ _ _ _ (([(4,.int .i64 (i:Nat))]:Slots) ++ forget _ _) (sl tyStp (.slice (some ⟨t1,0,none⟩) 256 256) xs::_)
  have hlx := hx.1
  refine sR<|oP (P_lss rfl rfl)<|nT<|zab ?_
  first | (refine zav rfl (fun hg1 => ?_) (fun hg1 => ?_)) | (refine zaw rfl (fun hg1 => ?_) (fun hg1 => ?_)) | (refine za1 rfl (fun hg1 => ?_) (fun hg1 => ?_))
  ·
   refine kT<|zab<|zao<|sR<|oM rfl<|oA rfl<|nT<|sR<|oM rfl<|oP (zvp rfl Tryz.runUnderlying3 Tryz.runUnderlying5)<|oO<|zai ((zkb (ltr_eq (to_u8 ((i:Nat):Int))))) rfl Tryz.call197 Dels.nil rfl fun _ hc2=>nT ?_
   first | (refine zav rfl (fun hg2 => ?_) (fun hg2 => ?_)) | (refine zaw rfl (fun hg2 => ?_) (fun hg2 => ?_)) | (refine za1 rfl (fun hg2 => ?_) (fun hg2 => ?_))
   ·
    refine zag<|oM rfl<|oP (zc2 (i:=i) rfl rfl rfl (by omega) Tryz.runUnderlying307 Tryz.sizeOf306)<|oO<|zcb (x' := (some 198)) rfl rfl rfl (by first | omega | (simp only [List.length_set]; omega)) foc0 rfl rfl rfl Tryz.sizeOf306<|za0<|zah<|zar<|zag<|oP (P_add rfl rfl (by first | omega | (simp only [List.length_set]; omega)))<|oM rfl<|za0<|zba ⟨i + 1,_⟩ (by first | omega | (simp only []; omega)) ?_ kP_ ?_ r_
    · first | exact ⟨by omega,hx.yes (by omega)⟩ | exact ⟨by omega,hx.no (by omega) (by assumption)⟩
    · exact ⟨rfl,True.intro⟩
   ·
    refine zbh<|zah<|zar<|zag<|oP (P_add rfl rfl (by first | omega | (simp only [List.length_set]; omega)))<|oM rfl<|za0<|zba ⟨i + 1,_⟩ (by first | omega | (simp only []; omega)) ?_ kP_ ?_ r_
    · first | exact ⟨by omega,hx.yes (by omega)⟩ | exact ⟨by omega,hx.no (by omega) (by assumption)⟩
    · exact ⟨rfl,True.intro⟩
  ·
   refine zbc<|zay<|zau<|zat<|zar<|zab<|sR<|oO<|za4 rfl (zib _ _ _ _ _ _) rfl fun b3=>oO<|zva rfl Tryz.runUnderlying179 Tryz.runUnderlying5 foc0 rfl<|oV (V_len rfl foc0 (Reads.mkd (t:=tyU8) (ys:=sgnL) rfl rfl (by decide) rfl) Tryz.runUnderlying179)<|oM rfl<|nT<|zao<|za8 (X:=Nat × List (Option Nat)) [3,16,17,18,19,20,21,22] (fun ⟨j,xs⟩  => ([(16,.int .i64 (j:Nat))]:Slots)) (fun ⟨j,xs⟩ R=>sl tyStp (.slice (some ⟨t1,0,none⟩) 256 256) xs::R) (fun ⟨j,xs⟩  => j≤6∧Stp 256 xs) (fun ⟨j,xs⟩  => 6 - j) ⟨0,xs⟩ ?_ ?_ (t1_ r_) ?_
   · exact ⟨Nat.zero_le _,(show i=256 by omega) ▸ hx⟩
   · exact ⟨rfl,True.intro⟩
   ·
    rintro ⟨j,xs⟩ ⟨hj,hx⟩
    show CJ _ _ _ _ _ (([(16,.int .i64 (j:Nat))]:Slots) ++ forget _ _) (sl tyStp (.slice (some ⟨t1,0,none⟩) 256 256) xs::_)
    have hlx := hx.1
    refine sR<|oP (P_lss rfl rfl)<|nT<|zab ?_
    first | (refine zav rfl (fun hg3 => ?_) (fun hg3 => ?_)) | (refine zaw rfl (fun hg3 => ?_) (fun hg3 => ?_)) | (refine za1 rfl (fun hg3 => ?_) (fun hg3 => ?_))
    ·
     refine kT<|zab<|zao<|sR ?_
     first | (refine RJ_op rfl (OJ_V (zam rfl rfl rfl (by first | omega | (simp only [List.length_set]; omega)) foc1 (Reads.mkd (t:=tyU8) (ys:=sgnL) rfl rfl (by decide) rfl) Tryz.runUnderlying179 Tryz.sizeOf5) rfl ?_)) | (refine RJ_op rfl (OJ_V (zam rfl rfl (Int.toNat_of_nonneg (by first | omega | (simp only [List.length_set]; omega))).symm (by first | omega | (simp only [List.length_set]; omega)) foc1 (Reads.mkd (t:=tyU8) (ys:=sgnL) rfl rfl (by decide) rfl) Tryz.runUnderlying179 Tryz.sizeOf5) rfl ?_))
     refine oV (za6 rfl rfl (by first | omega | (simp only [List.length_set]; omega)) foc1 (Reads.mkd (t:=tyU8) (ys:=sgnL) rfl rfl (by decide) rfl) rfl rfl Tryz.isAgg5)<|oA rfl<|nT<|zag ?_
     have hlt9 := UInt8.toNat_lt (sgnL.getD j 0)
     refine oM rfl<|oP (zc2 (i:=(sgnL.getD j 0).toNat) rfl rfl rfl (by exact Nat.lt_of_lt_of_le (UInt8.toNat_lt _) (by decide)) Tryz.runUnderlying307 Tryz.sizeOf306)<|oO<|zcb (x' := (some 199)) rfl rfl rfl (by first | omega | (simp only [List.length_set]; omega)) foc0 rfl rfl rfl Tryz.sizeOf306<|za0<|zah<|zar<|zag<|oP (P_add rfl rfl (by first | omega | (simp only [List.length_set]; omega)))<|oM rfl<|za0<|zba ⟨j + 1,_⟩ (by first | omega | (simp only []; omega)) ?_ kP_ ?_ r_
     · exact ⟨by omega,hx.oth _ _ (sgn_no j (by omega))⟩
     · exact ⟨rfl,True.intro⟩
    ·
     refine zbc<|zay<|zau<|zat<|zar<|sR<|oP (zc2 (i:=32) rfl rfl rfl (by decide) Tryz.runUnderlying307 Tryz.sizeOf306)<|oO<|zcb (x' := (some 200)) rfl rfl rfl (by first | omega | (simp only [List.length_set]; omega)) foc0 rfl rfl rfl Tryz.sizeOf306<|oP (zc2 (i:=9) rfl rfl rfl (by decide) Tryz.runUnderlying307 Tryz.sizeOf306)<|oO<|zcb (x' := (some 200)) rfl rfl rfl (by first | omega | (simp only [List.length_set]; omega)) foc0 rfl rfl rfl Tryz.sizeOf306<|oP (zc2 (i:=10) rfl rfl rfl (by decide) Tryz.runUnderlying307 Tryz.sizeOf306)<|oO<|zcb (x' := (some 200)) rfl rfl rfl (by first | omega | (simp only [List.length_set]; omega)) foc0 rfl rfl rfl Tryz.sizeOf306<|nT<|sR<|oP (zc2 (i:=35) rfl rfl rfl (by decide) Tryz.runUnderlying307 Tryz.sizeOf306)<|oO<|zcb (x' := (some 201)) rfl rfl rfl (by first | omega | (simp only [List.length_set]; omega)) foc0 rfl rfl rfl Tryz.sizeOf306<|oP (zc2 (i:=34) rfl rfl rfl (by decide) Tryz.runUnderlying307 Tryz.sizeOf306)<|oO<|zcb (x' := (some 202)) rfl rfl rfl (by first | omega | (simp only [List.length_set]; omega)) foc0 rfl rfl rfl Tryz.sizeOf306<|nT<|sR ?_
     have hs9:Stp 256 (((((xs.set 32 (some 200)).set 9 (some 200)).set 10 (some 200)).set 35 (some 201)).set 34 (some 202)) := ((((hx.oth 32 (some 200) (by decide +kernel)).oth 9 (some 200) (by decide +kernel)).oth 10 (some 200) (by decide +kernel)).oth 35 (some 201) (by decide +kernel)).oth 34 (some 202) (by decide +kernel)
     refine oV (zlt (t:=tyStp) rfl rfl foc0 hs9.1 Tryz.isAgg307 Tryz.sizeOf307)<|oO<|zkq (t:=tyStp) rfl rfl rfl foc0 hs9.1 hs9.1 Tryz.sizeOf307<|nT<|zaf<|zan (resA1 Tryz.results178 (zvw (t:=tyStp) rfl rfl foc0 (hs9.1) Tryz.isAgg307 Tryz.sizeOf307))<|CSpec.close (((((xs.set 32 (some 200)).set 9 (some 200)).set 10 (some 200)).set 35 (some 201)).set 34 (some 202)) ?_ ?_ (e_ (e_ r_))
     · rfl
     · exact hs9
end Go.Proofs
set_option linter.unusedSimpArgs false
set_option maxRecDepth 20000
namespace Go.Proofs
open Go.VG Ts
theorem ziz (v0:Int) (v1:ByteArray) (v2:Int) (v3:Int) (v4:Int):zbg Tryz.prog 274 1 [(0,.agg #[.int .i64 v0,.string v1,.int .i64 v2,.int .i64 v3,.int .i64 v4])] 280 [.int .i64 v0,.string v1,.int .i64 v2,.int .i64 v3,.int .i64 v4] := fun w=>by kernel_rfl
theorem zm9 (v0:Int) (v1:ByteArray):∀ w,(Instr.build 280 (#[(0,.int .i64 v0),(1,.string v1)]:Array (Nat × Value))).run Tryz.prog w = .ok (.agg #[.int .i64 v0,.string v1,.int .i64 0,.int .i64 0,.int .i64 0]) w := fun w=>by kernel_rfl
structure Nm (s:ByteArray):Prop where
  sz:1≤s.size∧s.size≤40
  ltr:∀ i,i < s.size→ze1 (strAt s i)=some true
  lf:∀ i,i < s.size→(strAt s i).toNat≠10
  val:∃ r,zc3 s=some (r,false)
structure TkV where
  kind:Int
  text:ByteArray
  number:Int
  line:Int
  col:Int
abbrev tyTk:Ty TkV := { T := 280,sz := 5,enc := fun x=>[.int .i64 x.kind,.string x.text,.int .i64 x.number,.int .i64 x.line,.int .i64 x.col],dflt := ⟨0,ByteArray.empty,0,0,0⟩,len := fun _=>rfl,one := fun _=>rfl,pos := by decide }
theorem zur:ElemOk Tryz.prog tyTk 48 := ⟨Tryz.t280,.agg #[.int .i64 0,.string ByteArray.empty,.int .i64 0,.int .i64 0,.int .i64 0],by kernel_rfl,rfl,rfl,rfl,rfl⟩
theorem zvb (s:ByteArray):zd2 s 0 s.size=s := by
  unfold zd2; simp
def tok1 (s:ByteArray):TkV := ⟨1,s,0,1,1⟩
def tok5 (n:Int):TkV := ⟨5,ByteArray.empty,0,1,n⟩
theorem c_move {W:World} {c:Nat} {s:ByteArray} (hN:Nm s) {tv:Sl3} {n:Nat} (hn:n≤s.size) :
    CSpec Tryz.prog W 203 [ptr c 0,.int .i64 (n:Int)] [blk c 304 [.string s,.int .i64 0,.int .i64 1,.int .i64 1,tv.v]] (fun _:Unit => .tuple #[]) (fun _=>True) (fun _ F=>blk c 304 [.string s,.int .i64 (n:Int),.int .i64 1,.int .i64 (1 + (n:Int)),tv.v]::F) := by
 refine CSpec.of_body Tryz.func203 rfl Tryz.ntmps203 rfl fun F => ?_
 show CJ _ _ _ _ _ _ (_::F)
 have hsz := hN.sz
 refine sR<|oM rfl<|oM rfl<|nT<|zao<|za8 (X:=Nat) [5,6,7,8,9,10,11,12,13,14,15,16,17,18,19,20,21,22,23,24,25,26,27,28,29,30,31,32,33,34,35,36,37,38,39,40,41,42,43,44,45,46] (fun i  => ([(5,.int .i64 (i:Nat))]:Slots)) (fun i R=>blk c 304 [.string s,.int .i64 (i:Nat),.int .i64 1,.int .i64 (1 + (i:Nat)),tv.v]::R) (fun i  => i≤n) (fun i  => n - i) (0) ?_ ?_ r_ ?_
 · exact Nat.zero_le _
 · exact ⟨rfl,True.intro⟩
 ·
  intro i hi
  show CJ _ _ _ _ _ (([(5,.int .i64 (i:Nat))]:Slots) ++ forget _ _) (blk c 304 [.string s,.int .i64 (i:Nat),.int .i64 1,.int .i64 (1 + (i:Nat)),tv.v]::_)
  refine sR<|oP (P_lss rfl rfl)<|nT<|zab ?_
  first | (refine zav rfl (fun hg1 => ?_) (fun hg1 => ?_)) | (refine zaw rfl (fun hg1 => ?_) (fun hg1 => ?_)) | (refine za1 rfl (fun hg1 => ?_) (fun hg1 => ?_))
  ·
   refine kT<|zab<|zao<|sR<|oM rfl<|oP (zad rfl)<|oP (zaa rfl ⟨_,_,_,Tryz.runUnderlying304,rfl,rfl,Tryz.sizeOf276,rfl⟩)<|oP (zaa rfl ⟨_,_,_,Tryz.runUnderlying276,rfl,rfl,Tryz.sizeOf3,rfl⟩)<|oV (zac rfl foc0 rfl Tryz.isAgg3)<|oP (P_add rfl rfl (by omega))<|oP (zad rfl)<|oP (zaa rfl ⟨_,_,_,Tryz.runUnderlying304,rfl,rfl,Tryz.sizeOf276,rfl⟩)<|oP (zaa rfl ⟨_,_,_,Tryz.runUnderlying276,rfl,rfl,Tryz.sizeOf3,rfl⟩)<|oO<|za5 rfl rfl foc0 rfl rfl Tryz.sizeOf3<|nT<|zab<|zab<|za3 0 kR_ rfl ?_
   have hlf := hN.lf i (by omega)
   refine aN 0 1 rfl rfl (zae rfl)<|aN 1 3 rfl rfl (zad rfl)<|aN 2 7 rfl rfl (zaa rfl ⟨_,_,_,Tryz.runUnderlying304,rfl,rfl,Tryz.sizeOf9,rfl⟩)<|aW 3 15 rfl rfl r_ (zac rfl foc0 rfl Tryz.isAgg9)<|aN 4 31 rfl rfl (zae rfl)<|aN 5 63 rfl rfl (zad rfl)<|aN 6 127 rfl rfl (zaa rfl ⟨_,_,_,Tryz.runUnderlying304,rfl,rfl,Tryz.sizeOf3,rfl⟩)<|aW 7 255 rfl rfl r_ (zac rfl foc0 rfl Tryz.isAgg3)<|aN 8 511 rfl rfl (zcz (b:=s) (i:=i) rfl rfl (by omega) (by omega) Tryz.runUnderlying9)<|aN 9 1023 rfl rfl (P_eql rfl rfl)<|aD<|zap rfl wF_<|kT<|zag<|oM rfl<|oP (zad rfl)<|oP (zaa rfl ⟨_,_,_,Tryz.runUnderlying304,rfl,rfl,Tryz.sizeOf3,rfl⟩)<|oV (zac rfl foc0 rfl Tryz.isAgg3)<|oP (P_add rfl rfl (by omega))<|oP (zad rfl)<|oP (zaa rfl ⟨_,_,_,Tryz.runUnderlying304,rfl,rfl,Tryz.sizeOf3,rfl⟩)<|oO<|za5 rfl rfl foc0 rfl rfl Tryz.sizeOf3<|za0<|zah<|zar<|zag<|oP (P_add rfl rfl (by omega))<|oM rfl<|za0<|zba (i + 1) (by first | omega | (simp only []; omega)) ?_ kP_ ?_ (Ent.takeC del0 (by rw [show ((i + 1:Nat):Int)=(i:Int) + 1 by omega,show (1:Int) + ((i:Int) + 1)=1 + (i:Int) + 1 by omega] <;> rfl) r_)
   · show i + 1≤n; omega
   · exact ⟨rfl,True.intro⟩
  ·
   refine zbc<|zay<|zau<|zat<|zce (res0 Tryz.results203) ?_
   obtain rfl:i=n := by omega
   refine CSpec.close () ?_ ?_ r_
   · rfl
   · trivial
theorem c_add1 {W:World} {c:Nat} {s:ByteArray} (hN:Nm s) {tv:Sl3} :
    CSpec Tryz.prog W 179 [ptr c 0,.agg #[.int .i64 1,.string s,.int .i64 0,.int .i64 0,.int .i64 0],.int .i64 (s.size:Int)] [blk c 304 [.string s,.int .i64 0,.int .i64 1,.int .i64 1,tv.v],sl tyTk tv.v ([]:List TkV)] (fun _:Sl3 => .tuple #[]) (fun _=>True) (fun x F=>blk c 304 [.string s,.int .i64 (s.size:Int),.int .i64 1,.int .i64 (1 + (s.size:Int)),x.v]::sl tyTk x.v [tok1 s]::F) := by
 refine CSpec.of_body Tryz.func179 rfl Tryz.ntmps179 rfl fun F => ?_
 show CJ _ _ _ _ _ _ (_::_::F)
 have hsz := hN.sz
 refine sR<|oO<|O_box rfl rfl rfl fun b1=>nT<|sR<|oM rfl<|oP (zad rfl)<|oP (zaa rfl ⟨_,_,_,Tryz.runUnderlying304,rfl,rfl,Tryz.sizeOf276,rfl⟩)<|oV (zbq rfl foc1 Tryz.isAgg276 Tryz.sizeOf276 rfl rfl)<|oP (zaa rfl ⟨_,_,_,Tryz.runUnderlying280,rfl,rfl,Tryz.sizeOf276,rfl⟩)<|oO<|zbo rfl rfl foc0 Tryz.sizeOf276 rfl rfl rfl<|nT<|zab<|za3 1152 kR_ rfl<|aN 0 1 rfl rfl (zae rfl)<|aN 1 3 rfl rfl (zae rfl)<|aN 2 7 rfl rfl (zad rfl)<|aN 3 15 rfl rfl (zaa rfl ⟨_,_,_,Tryz.runUnderlying304,rfl,rfl,Tryz.sizeOf274,rfl⟩)<|aW 4 31 rfl rfl r_ (zac rfl foc1 rfl Tryz.isAgg274)<|aW 5 63 rfl rfl r_ (zbq rfl foc0 Tryz.isAgg280 Tryz.sizeOf280 rfl rfl)<|AJ_op 6 127 rfl kR_ rfl (zal rfl)<|za4 rfl (ziz _ _ _ _ _) rfl fun b2=>⟨fun _=>(t1_ (t1_ (t1_ (e_ r_)))),?_⟩
 refine AJ_op 7 255 rfl kR_ rfl (zal rfl)<|zb1 (t:=tyTk) (bytes:=48) rfl rfl del3 foc0 (Reads.lit (t:=tyTk) (ys:=[tok1 s]) rfl rfl (by decide) (by decide) rfl) Tryz.underlying274 zur (by show (([]:List TkV):List TkV).length + 1≤maxLen; unfold maxLen; first | decide | (simp only [List.length_cons,List.length_nil]; omega)) (by show ((([]:List TkV):List TkV).length + 1) * 48≤_; first | decide | (simp only [List.length_cons,List.length_nil]; omega)) rfl fun p3 c4=>⟨fun h=>absurd h (by decide),?_⟩
 refine aN 8 511 rfl rfl (zad rfl)<|aN 9 1023 rfl rfl (zaa rfl ⟨_,_,_,Tryz.runUnderlying304,rfl,rfl,Tryz.sizeOf274,rfl⟩)<|AJ_op 10 2047 rfl kR_ rfl (zal rfl)<|za5 rfl rfl foc3 rfl rfl Tryz.sizeOf274<|⟨fun h=>absurd h (by decide),?_⟩
 refine aD<|zag<|oM rfl<|oM rfl<|oO<|zai ((c_move (tv:=⟨p3,(([]:List TkV) ++ [tyTk.dflt]).length,c4⟩) hN (Nat.le_refl _))) rfl Tryz.call203 (dC_ del3) rfl fun _ hc5=>za0<|zce (res0 Tryz.results179)<|CSpec.close ⟨p3,(([]:List TkV) ++ [tyTk.dflt]).length,c4⟩ ?_ ?_ (t0_ (Ent.takeC del0 (by first | rfl | (rw [zel] <;> rfl)) (e_ (e_ r_))))
 · rfl
 · trivial
theorem z2b {W:World} {v:Value} :
    CSpec Tryz.prog W 203 [v,.int .i64 0] [] (fun _:Unit => .tuple #[]) (fun _=>True) (fun _ F=>F) := by
 refine CSpec.of_body Tryz.func203 rfl Tryz.ntmps203 rfl fun F => ?_
 show CJ _ _ _ _ _ _ (F)
 refine sR<|oM rfl<|oM rfl<|nT<|zao<|za8 (X:=Unit) [5,6,7,8,9,10,11,12,13,14,15,16,17,18,19,20,21,22,23,24,25,26,27,28,29,30,31,32,33,34,35,36,37,38,39,40,41,42,43,44,45,46] (fun _=>([(5,.int .i64 0)]:Slots)) (fun _ R=>R) (fun _=>True) (fun _=>0) () ?_ ?_ r_ ?_
 · trivial
 · exact ⟨rfl,True.intro⟩
 ·
  intro _ hpf
  show CJ _ _ _ _ _ (([(5,.int .i64 0)]:Slots) ++ forget _ _) (_)
  refine sR<|oP (P_lss rfl rfl)<|nT<|zab<|zap rfl dF_<|zbc<|zay<|zau<|zat<|zce (res0 Tryz.results203)<|CSpec.close () ?_ ?_ r_
  · rfl
  · trivial
theorem c_add5 {W:World} {c:Nat} {s:ByteArray} (hN:Nm s) {tv:Sl3} :
    CSpec Tryz.prog W 179 [ptr c 0,.agg #[.int .i64 5,.string ByteArray.empty,.int .i64 0,.int .i64 0,.int .i64 0],.int .i64 0] [blk c 304 [.string s,.int .i64 (s.size:Int),.int .i64 1,.int .i64 (1 + (s.size:Int)),tv.v],sl tyTk tv.v ([tok1 s]:List TkV)] (fun _:Sl3 => .tuple #[]) (fun _=>True) (fun x F=>blk c 304 [.string s,.int .i64 (s.size:Int),.int .i64 1,.int .i64 (1 + (s.size:Int)),x.v]::sl tyTk x.v [tok1 s,tok5 (1 + (s.size:Int))]::F) := by
 refine CSpec.of_body Tryz.func179 rfl Tryz.ntmps179 rfl fun F => ?_
 show CJ _ _ _ _ _ _ (_::_::F)
 have hsz := hN.sz
 refine sR<|oO<|O_box rfl rfl rfl fun b1=>nT<|sR<|oM rfl<|oP (zad rfl)<|oP (zaa rfl ⟨_,_,_,Tryz.runUnderlying304,rfl,rfl,Tryz.sizeOf276,rfl⟩)<|oV (zbq rfl foc1 Tryz.isAgg276 Tryz.sizeOf276 rfl rfl)<|oP (zaa rfl ⟨_,_,_,Tryz.runUnderlying280,rfl,rfl,Tryz.sizeOf276,rfl⟩)<|oO<|zbo rfl rfl foc0 Tryz.sizeOf276 rfl rfl rfl<|nT<|zab<|za3 1152 kR_ rfl<|aN 0 1 rfl rfl (zae rfl)<|aN 1 3 rfl rfl (zae rfl)<|aN 2 7 rfl rfl (zad rfl)<|aN 3 15 rfl rfl (zaa rfl ⟨_,_,_,Tryz.runUnderlying304,rfl,rfl,Tryz.sizeOf274,rfl⟩)<|aW 4 31 rfl rfl r_ (zac rfl foc1 rfl Tryz.isAgg274)<|aW 5 63 rfl rfl r_ (zbq rfl foc0 Tryz.isAgg280 Tryz.sizeOf280 rfl rfl)<|AJ_op 6 127 rfl kR_ rfl (zal rfl)<|za4 rfl (ziz _ _ _ _ _) rfl fun b2=>⟨fun _=>(t1_ (t1_ (t1_ (e_ r_)))),?_⟩
 refine AJ_op 7 255 rfl kR_ rfl (zal rfl)<|zb1 (t:=tyTk) (bytes:=48) rfl rfl del3 foc0 (Reads.lit (t:=tyTk) (ys:=[tok5 (1 + (s.size:Int))]) rfl rfl (by decide) (by decide) rfl) Tryz.underlying274 zur (by show (([tok1 s]:List TkV):List TkV).length + 1≤maxLen; unfold maxLen; first | decide | (simp only [List.length_cons,List.length_nil]; omega)) (by show ((([tok1 s]:List TkV):List TkV).length + 1) * 48≤_; first | decide | (simp only [List.length_cons,List.length_nil]; omega)) rfl fun p3 c4=>⟨fun h=>absurd h (by decide),?_⟩
 refine aN 8 511 rfl rfl (zad rfl)<|aN 9 1023 rfl rfl (zaa rfl ⟨_,_,_,Tryz.runUnderlying304,rfl,rfl,Tryz.sizeOf274,rfl⟩)<|AJ_op 10 2047 rfl kR_ rfl (zal rfl)<|za5 rfl rfl foc3 rfl rfl Tryz.sizeOf274<|⟨fun h=>absurd h (by decide),?_⟩
 refine aD<|zag<|oM rfl<|oM rfl<|oO<|zai (z2b) rfl Tryz.call203 Dels.nil rfl fun _ hc5=>za0<|zce (res0 Tryz.results179)<|CSpec.close ⟨p3,(([tok1 s]:List TkV) ++ [tyTk.dflt]).length,c4⟩ ?_ ?_ (t3_ (Ent.takeC del0 (by first | rfl | (rw [zel] <;> rfl)) (e_ (e_ r_))))
 · rfl
 · trivial
theorem c_word {W:World} {c:Nat} {s:ByteArray} (hN:Nm s) {tv:Sl3} :
    CSpec Tryz.prog W 198 [ptr c 0] [blk c 304 [.string s,.int .i64 0,.int .i64 1,.int .i64 1,tv.v],sl tyTk tv.v []] (fun _:Sl3 => .int .i64 0) (fun _=>True) (fun x F=>blk c 304 [.string s,.int .i64 (s.size:Int),.int .i64 1,.int .i64 (1 + (s.size:Int)),x.v]::sl tyTk x.v [tok1 s]::F) := by
 refine CSpec.of_body Tryz.func198 rfl Tryz.ntmps198 rfl fun F => ?_
 show CJ _ _ _ _ _ _ (_::_::F)
 have hsz := hN.sz
 obtain ⟨rv,hrv⟩ := hN.val
 refine sR<|oA rfl<|nT<|sR<|oA rfl<|nT<|zab<|zao<|za8 (X:=Nat) [3,7,8,9,10,11,12,13,14,15,16,17,18,19,20,21,22,23,24,25,26,27,28,29,30,31,32,33,34] (fun i  => ([(3,.int .i64 (i:Nat))]:Slots)) (fun i R=>R) (fun i  => i≤s.size) (fun i  => s.size - i) (0) ?_ ?_ r_ ?_
 · exact Nat.zero_le _
 · exact ⟨rfl,True.intro⟩
 ·
  intro i hi
  show CJ _ _ _ _ _ (([(3,.int .i64 (i:Nat))]:Slots) ++ forget _ _) (_)
  refine zab<|zab<|za3 16777216 kR_ rfl<|aN 0 1 rfl rfl (zae rfl)<|aN 1 3 rfl rfl (zad rfl)<|aN 2 7 rfl rfl (zaa rfl ⟨_,_,_,Tryz.runUnderlying304,rfl,rfl,Tryz.sizeOf3,rfl⟩)<|aW 3 15 rfl rfl r_ (zac rfl foc0 rfl Tryz.isAgg3)<|aN 4 31 rfl rfl (zae rfl)<|aN 5 63 rfl rfl (P_add rfl rfl (by first | omega | (simp only [Int.zero_add]; omega)))<|aN 6 127 rfl rfl (zae rfl)<|aN 7 255 rfl rfl (zad rfl)<|aN 8 511 rfl rfl (zaa rfl ⟨_,_,_,Tryz.runUnderlying304,rfl,rfl,Tryz.sizeOf9,rfl⟩)<|aW 9 1023 rfl rfl r_ (zac rfl foc0 rfl Tryz.isAgg9)<|aN 10 2047 rfl rfl (zcn rfl Tryz.runUnderlying9)<|aN 11 4095 rfl rfl (P_lss rfl rfl)<|aN 12 8191 rfl rfl (zae rfl) ?_
  first | (refine zi9 19 rfl (fun hg1B hg1 => ?_) (fun hg1B hg1 => ?_)) | (refine zja 19 rfl (fun hg1B hg1 => ?_) (fun hg1B hg1 => ?_)) | (refine zkj 19 rfl (fun hg1B => ?_) (fun hg1B => ?_))
  ·
   refine aP 13 16383 rfl rfl (zaz rfl rfl rfl hg1B) (zae rfl)<|aP 14 32767 rfl rfl (zaz rfl rfl rfl hg1B) (zad rfl)<|aP 15 65535 rfl rfl (zaz rfl rfl rfl hg1B) (zaa rfl ⟨_,_,_,Tryz.runUnderlying304,rfl,rfl,Tryz.sizeOf9,rfl⟩)<|aV 16 131071 rfl rfl (zaz rfl rfl rfl hg1B) r_ (zac rfl foc0 rfl Tryz.isAgg9)<|aP 17 262143 rfl rfl (zaz rfl rfl rfl hg1B) (zae rfl)<|aP 18 524287 rfl rfl (zaz rfl rfl rfl hg1B) (zad rfl)<|aP 19 1048575 rfl rfl (zaz rfl rfl rfl hg1B) (zaa rfl ⟨_,_,_,Tryz.runUnderlying304,rfl,rfl,Tryz.sizeOf3,rfl⟩)<|aV 20 2097151 rfl rfl (zaz rfl rfl rfl hg1B) r_ (zac rfl foc0 rfl Tryz.isAgg3)<|aP 21 4194303 rfl rfl (zaz rfl rfl rfl hg1B) (zae rfl)<|aP 22 8388607 rfl rfl (zaz rfl rfl rfl hg1B) (P_add rfl rfl (by first | omega | (simp only [Int.zero_add]; omega)))<|aP 23 16777215 rfl rfl (zaz rfl rfl rfl hg1B) (zcz (b:=s) (i:=i) rfl rfl (by omega) (by omega) Tryz.runUnderlying9)<|AJ_op 24 33554431 rfl kR_ rfl (zaz rfl rfl rfl hg1B)<|zai ((zkb (hN.ltr i (by omega)))) rfl Tryz.call197 Dels.nil rfl fun _ hc1=>⟨fun h=>absurd h (by decide),?_⟩
   refine aN 25 67108863 rfl rfl (zbe rfl hg1B rfl)<|aD<|za7 rfl rfl<|kT<|zao<|zag<|oM rfl<|oP (P_add rfl rfl (by first | omega | (simp only [Int.zero_add]; omega)))<|oA rfl<|za0<|zah<|zba (i + 1) (by first | omega | (simp only []; omega)) ?_ kP_ ?_ r_
   · show i + 1≤s.size; omega
   · exact ⟨rfl,True.intro⟩
  ·
   refine aS 13 16383 rfl rfl (GY_no rfl rfl rfl hg1B)<|aS 14 32767 rfl rfl (GY_no rfl rfl rfl hg1B)<|aS 15 65535 rfl rfl (GY_no rfl rfl rfl hg1B)<|aS 16 131071 rfl rfl (GY_no rfl rfl rfl hg1B)<|aS 17 262143 rfl rfl (GY_no rfl rfl rfl hg1B)<|aS 18 524287 rfl rfl (GY_no rfl rfl rfl hg1B)<|aS 19 1048575 rfl rfl (GY_no rfl rfl rfl hg1B)<|aS 20 2097151 rfl rfl (GY_no rfl rfl rfl hg1B)<|aS 21 4194303 rfl rfl (GY_no rfl rfl rfl hg1B)<|aS 22 8388607 rfl rfl (GY_no rfl rfl rfl hg1B)<|aS 23 16777215 rfl rfl (GY_no rfl rfl rfl hg1B)<|aS 24 33554431 rfl rfl (GY_no rfl rfl rfl hg1B)<|aN 25 67108863 rfl rfl (za2 rfl hg1B rfl)<|aD<|zap rfl rfl<|zbc<|zay<|zau<|zat<|zar<|zab<|za3 0 kR_ rfl ?_
   obtain rfl:i=s.size := by omega
   refine aN 0 1 rfl rfl (zae rfl)<|aN 1 3 rfl rfl (zad rfl)<|aN 2 7 rfl rfl (zaa rfl ⟨_,_,_,Tryz.runUnderlying304,rfl,rfl,Tryz.sizeOf9,rfl⟩)<|aW 3 15 rfl rfl r_ (zac rfl foc0 rfl Tryz.isAgg9)<|aN 4 31 rfl rfl (zae rfl)<|aN 5 63 rfl rfl (zad rfl)<|aN 6 127 rfl rfl (zaa rfl ⟨_,_,_,Tryz.runUnderlying304,rfl,rfl,Tryz.sizeOf3,rfl⟩)<|aW 7 255 rfl rfl r_ (zac rfl foc0 rfl Tryz.isAgg3)<|aN 8 511 rfl rfl (zae rfl)<|aN 9 1023 rfl rfl (zad rfl)<|aN 10 2047 rfl rfl (zaa rfl ⟨_,_,_,Tryz.runUnderlying304,rfl,rfl,Tryz.sizeOf3,rfl⟩)<|aW 11 4095 rfl rfl r_ (zac rfl foc0 rfl Tryz.isAgg3)<|aN 12 8191 rfl rfl (zae rfl)<|aN 13 16383 rfl rfl (P_add rfl rfl (by first | omega | (simp only [Int.zero_add]; omega)))<|aN 14 32767 rfl rfl (PJ_eq (zeg (b:=s) (l:=0) (h:=s.size) rfl ⟨_,rfl⟩ ⟨_,by show some (Value.int .i64 (0 + (s.size:Int)))=_; rw [Int.zero_add]⟩ (Nat.zero_le _) (Nat.le_refl _) Tryz.runUnderlying9) (congrArg Value.string (zvb s).symm))<|aN 15 65535 rfl rfl (za9 rfl)<|aD<|sR<|oM rfl<|oO<|zai ((zrf hrv)) rfl Tryz.call217 Dels.nil rfl fun _ hc2=>oM rfl<|oP (zaj rfl rfl)<|oP (zaj rfl rfl)<|oA rfl<|oA rfl<|nT<|zab<|zao<|sR<|oM rfl<|oP (P_not rfl)<|oA rfl<|nT<|za7 rfl rfl ?_
   refine zag<|oM rfl<|oM rfl<|oP (zbk rfl (zm9 _ _))<|oM rfl<|oO<|zai ((c_add1 hN)) rfl Tryz.call179 (Dels.cons del0 (dC_ del0)) rfl fun q9 hc4=>za0<|zah<|zar<|sR<|oA rfl<|nT<|zaf<|zan (res1 Tryz.results198 rfl)<|CSpec.close q9 ?_ ?_ r_
   · rfl
   · trivial
end Go.Proofs
