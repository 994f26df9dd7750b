/- MapperCalls, part 3 of the proof: LTab, LRef22, LMapT, PMapS, PMapT, PMapT2, PMapT3, PMapW, VgRm, LSpan, LMake, PMake, PSpans, PGood, PGood2, PArr. -/
import Derived.WalkKit
import Derived.Orders
import Derived.RangeFuncLeaves
import Derived.RangeFuncCalls
import Derived.TacticsIn
import Derived.Handy
import Derived.OrdersHeld
import Derived.OrdersIn
import Derived.Below
import Derived.OpenShut
import Derived.Deep.Slices
import Derived.Scope
import Derived.RangeFuncRecord
import Derived.ChangeKeysEq
import Derived.Laws.BytesArg
import Derived.KernelRfl
import Derived.Maps.RangeRun
import Derived.LaidEql
import Derived.ProofKit
import Derived.ShutString
import Derived.ChangeOld
import Derived.Test.YtbmipeiphoghcaaGreatChecked
import Derived.Test.YtbmipeiphoghcaaGreatRows
import Derived.Test.YtbmipeiphoghcaaGreatZMapperCalls2
set_option linter.unusedSimpArgs false
set_option linter.unusedVariables false
set_option maxRecDepth 20000
set_option maxHeartbeats 4000000
namespace Go.Proofs
open Go.VG
@[ext] structure api_Target where
  Start:Int
  Length:Int
  On:ByteArray
  Offset:Int
  Fail:Bool
  deriving DecidableEq
abbrev tyapi_Target:Ty api_Target := { T := 37,sz := 5,enc := fun x=>[.int .i64 x.Start,.int .i64 x.Length,.string x.On,.int .i64 x.Offset,.bool x.Fail],dflt := ⟨0,0,ByteArray.empty,0,false⟩,len := fun _=>rfl,one := fun _=>rfl,pos := by decide }
theorem zcf:ElemOk Tryz.prog tyapi_Target 48 := ⟨Tryz.t37,.agg #[.int .i64 0,.int .i64 0,.string ByteArray.empty,.int .i64 0,.bool false],by kernel_rfl,rfl,rfl,rfl,rfl⟩
theorem zpd (v0:ByteArray):zbt Tryz.prog 59 1 [(0,.string v0)] 9 [.string v0] := fun w=>by kernel_rfl
def zff (l:List api_Target) (rec:Nat→Int→Option ((Unit) ⊕ Int)) (x6:Nat) (x7:Int):Option ((Unit) ⊕ Int) :=
  if (((x6:Nat):Int) < ((l.length:Nat):Int)) then
    if (((l.getD x6 (⟨0,0,ByteArray.empty,0,false⟩:api_Target))).Start≠x7) then
      some (.inr (2:Int))
    else
      if ((((l.getD x6 (⟨0,0,ByteArray.empty,0,false⟩:api_Target))).Length < (1:Int))∨((16777216:Int) < ((l.getD x6 (⟨0,0,ByteArray.empty,0,false⟩:api_Target))).Length)) then
        some (.inr (1:Int))
      else
        if ((((l.getD x6 (⟨0,0,ByteArray.empty,0,false⟩:api_Target))).Fail=true∧(((l.getD x6 (⟨0,0,ByteArray.empty,0,false⟩:api_Target))).On≠(ByteArray.mk #[])))∨((((l.getD x6 (⟨0,0,ByteArray.empty,0,false⟩:api_Target))).On=(ByteArray.mk #[]))∧(((l.getD x6 (⟨0,0,ByteArray.empty,0,false⟩:api_Target))).Offset≠(0:Int)))) then
          some (.inr (2:Int))
        else
          if ((((l.getD x6 (⟨0,0,ByteArray.empty,0,false⟩:api_Target))).Offset < (0:Int))∨(((16777216:Int) - ((l.getD x6 (⟨0,0,ByteArray.empty,0,false⟩:api_Target))).Length) < ((l.getD x6 (⟨0,0,ByteArray.empty,0,false⟩:api_Target))).Offset)) then
            some (.inr (1:Int))
          else
            grd (inI64 ((x7 + ((l.getD x6 (⟨0,0,ByteArray.empty,0,false⟩:api_Target))).Length))) <|
            rec (x6 + 1) ((x7 + ((l.getD x6 (⟨0,0,ByteArray.empty,0,false⟩:api_Target))).Length))
  else
    some (.inl ())
def zep (l:List api_Target):Nat→Nat→Int→Option ((Unit) ⊕ Int)
  | 0,_,_=>none
  | n + 1,x6,x7=>zff l (zep l n) x6 x7
def zfm (l:List api_Target):Option (Int) :=
  if ((64:Int) < ((l.length:Nat):Int)) then
    some (4:Int)
  else
    seqO (zep l FUEL 0 (0:Int)) fun a5 =>
    some (0:Int)
theorem zhx {W:World} {Al:HP} {vl:Value} {l:List api_Target} {r:Int} (rl:Reads Al tyapi_Target vl l) (h:zfm l=some r) :
    CSpec Tryz.prog W 68 [vl] [Al] (fun x:Unit => .int .i64 r) (fun _=>True) (fun x F=>Al::F) := by
 refine CSpec.of_body Tryz.func68 rfl Tryz.ntmps68 rfl fun F => ?_
 show CJ _ _ _ _ _ _ (_::F)
 unfold zfm at h
 refine zba (zc4 rl del0) fun hlen1=>sR <| oA rfl rfl <| nT <| zad <| sR <| oM rfl rfl <| oV (V_len rfl foc0 rl Tryz.runUnderlying30) rfl <| oP (P_gtr (a:=((l.length:Nat):Int)) (b:=(64:Int)) rfl rfl) rfl <| nT <| zbs rfl zax (fun hg1 => ?_) (fun hg1 => ?_)
 ·
  replace h := ite_t hg1 h
  refine sR <| oA rfl rfl <| nT <| zaj <| zae ?_
  cases h
  exact fE (res1 Tryz.results68 rfl) () eR
 ·
  replace h := ite_f hg1 h
  refine kT <| sR <| oA rfl rfl <| nT <| zad <| sR <| oM rfl rfl <| oV (V_len rfl foc0 rl Tryz.runUnderlying30) rfl <| oM rfl rfl <| nT ?_
  obtain ⟨y4,hl2,hK3⟩ := seq_e h
  refine zdt (X:=Unit) [2,3,5,11,12,13,14,15,16,17,18,19,20,21,22,23,24,25,26,27,28,29,30,31,32,33,34,35,36,37,38,39,40,41,42,43,44,45,46,47,48,49,50,51,52,53,54,55,56,57,58,59,60,61,62,63] (fun _=>([]:Slots)) (fun _ R=>R) (fun _=>y4 = .inl ()) Dels.nil ?_ ?_
  ·
   refine zas <| zbe (X:=Nat × Nat × Int) [2,3,5,11,12,13,14,15,16,17,18,19,20,21,22,23,24,25,26,27,28,29,30,31,32,33,34,35,36,37,38,39,40,41,42,43,44,45,46,47,48,49,50,51,52,53,54,55,56,57,58,59,60,61,62,63] (fun ⟨n,x6,x7⟩=>([(3,.int .i64 x7),(11,.int .i64 (((x6:Nat):Int)))]:Slots)) (fun ⟨n,x6,x7⟩ R=>R) (fun ⟨n,x6,x7⟩=>zep l n x6 x7=some y4) (fun ⟨n,x6,x7⟩=>n) ⟨FUEL,0,(0:Int)⟩ ?_ ?_ eR ?_
   · exact hl2
   · exact ⟨rfl,rfl,True.intro⟩
   ·
    rintro ⟨n,x6,x7⟩ h
    cases n with
    | zero=>exact zef h
    | succ n => ?_
    replace h:zff l (zep l n) x6 x7=some y4 := h
    unfold zff at h
    show CJ _ _ _ _ _ (([(3,.int .i64 x7),(11,.int .i64 (((x6:Nat):Int)))]:Slots) ++ forget _ _) (_)
    refine sR <| oP (P_lss (a:=((x6:Nat):Int)) (b:=((l.length:Nat):Int)) rfl rfl) rfl <| nT <| zad <| zbs rfl zax (fun hg2 => ?_) (fun hg2 => ?_)
    ·
     replace h := ite_t hg2 h
     refine kT <| zad <| zas <| sR <| oV (zal (i:=x6) rfl rfl rfl (by omega) foc0 rl Tryz.runUnderlying30 Tryz.sizeOf37) rfl <| oV (zb7 rfl rfl (by omega) foc0 rl rfl rfl Tryz.isAgg37 Tryz.sizeOf37) rfl <| oO <| zb1 Tryz.zeroValue37 rfl rfl fun b8=>oO <| zbj rfl rfl foc0 Tryz.sizeOf37 rfl rfl rfl <| nT <| zad <| zas <| sR <| oP (zaa rfl ⟨_,_,_,Tryz.runUnderlying37,rfl,rfl,Tryz.sizeOf3,rfl⟩) rfl <| oV (zag rfl foc0 rfl Tryz.isAgg3) rfl <| oM rfl rfl <| oP (P_neq (a:=((l.getD x6 (⟨0,0,ByteArray.empty,0,false⟩:api_Target))).Start) (b:=x7) rfl rfl) rfl <| oA rfl rfl <| nT <| zbs rfl zax (fun hg3 => ?_) (fun hg3 => ?_)
     ·
      replace h := ite_t hg3 h
      refine sR <| oA rfl rfl <| nT <| zaj <| zam <| zae <| zam <| zae <| zbb <| zam <| zae ?_
      have hE := Option.some.inj h
      replace hE := zd4 hK3 hE.symm
      subst hE
      exact fE (res1 Tryz.results68 rfl) () (t1_ (eD eR))
     ·
      replace h := ite_f hg3 h
      refine sR <| oP (zaa rfl ⟨_,_,_,Tryz.runUnderlying37,rfl,rfl,Tryz.sizeOf3,rfl⟩) rfl <| oV (zag rfl foc0 rfl Tryz.isAgg3) rfl <| oP (P_lss (a:=((l.getD x6 (⟨0,0,ByteArray.empty,0,false⟩:api_Target))).Length) (b:=(1:Int)) rfl rfl) rfl <| oM rfl rfl <| zb6 rfl rfl rfl (fun hG9=>have hP10:¬ (((l.getD x6 (⟨0,0,ByteArray.empty,0,false⟩:api_Target))).Length < (1:Int)) := nP (zax) hG9; VJ_P (zaa rfl ⟨_,_,_,Tryz.runUnderlying37,rfl,rfl,Tryz.sizeOf3,rfl⟩)) <| zb6 rfl rfl rfl (fun hG11=>have hP12:¬ (((l.getD x6 (⟨0,0,ByteArray.empty,0,false⟩:api_Target))).Length < (1:Int)) := nP (zax) hG11; zag (mbx hG11 rfl) foc0 rfl Tryz.isAgg3) <| zb6 rfl rfl rfl (fun hG13=>have hP14:¬ (((l.getD x6 (⟨0,0,ByteArray.empty,0,false⟩:api_Target))).Length < (1:Int)) := nP (zax) hG13; VJ_P (P_gtr (a:=((l.getD x6 (⟨0,0,ByteArray.empty,0,false⟩:api_Target))).Length) (b:=(16777216:Int)) (mbx hG13 rfl) rfl)) <| oP (ze1 rfl rfl (fun hh=>mbx (not_f hh) rfl)) rfl <| oA rfl rfl <| nT <| zbs rfl (bT_or zax zax) (fun hg4 => ?_) (fun hg4 => ?_)
      ·
       replace h := ite_t hg4 h
       refine sR <| oA rfl rfl <| nT <| zaj <| zam <| zae <| zam <| zae <| zbb <| zam <| zae ?_
       have hE := Option.some.inj h
       replace hE := zd4 hK3 hE.symm
       subst hE
       exact fE (res1 Tryz.results68 rfl) () (t1_ (eD eR))
      ·
       replace h := ite_f hg4 h
       refine sR <| oP (zaa rfl ⟨_,_,_,Tryz.runUnderlying37,rfl,rfl,Tryz.sizeOf4,rfl⟩) rfl <| oV (zag rfl foc0 rfl Tryz.isAgg4) rfl <| oM rfl rfl <| zc3 rfl rfl rfl (fun hG15=>have hP16:((l.getD x6 (⟨0,0,ByteArray.empty,0,false⟩:api_Target))).Fail=true := (Iff.rfl).1 hG15; VJ_P (zaa rfl ⟨_,_,_,Tryz.runUnderlying37,rfl,rfl,Tryz.sizeOf9,rfl⟩)) <| zc3 rfl rfl rfl (fun hG17=>have hP18:((l.getD x6 (⟨0,0,ByteArray.empty,0,false⟩:api_Target))).Fail=true := (Iff.rfl).1 hG17; zag (mbx hG17 rfl) foc0 rfl Tryz.isAgg9) <| zc3 rfl rfl rfl (fun hG19=>have hP20:((l.getD x6 (⟨0,0,ByteArray.empty,0,false⟩:api_Target))).Fail=true := (Iff.rfl).1 hG19; VJ_P (zdo (a:=((l.getD x6 (⟨0,0,ByteArray.empty,0,false⟩:api_Target))).On) (b:=(ByteArray.mk #[])) (mbx hG19 rfl) rfl Tryz.underlying9)) <| oP (zek rfl (fun hh=>mbx hh rfl) rfl) rfl <| oM rfl rfl <| zb6 rfl rfl rfl (fun hG21=>have hP22:¬ (((l.getD x6 (⟨0,0,ByteArray.empty,0,false⟩:api_Target))).Fail=true∧(((l.getD x6 (⟨0,0,ByteArray.empty,0,false⟩:api_Target))).On≠(ByteArray.mk #[]))) := nP ((zca Iff.rfl zax)) hG21; VJ_P (zaa rfl ⟨_,_,_,Tryz.runUnderlying37,rfl,rfl,Tryz.sizeOf9,rfl⟩)) ?_
       refine zb6 rfl rfl rfl (fun hG23=>have hP24:¬ (((l.getD x6 (⟨0,0,ByteArray.empty,0,false⟩:api_Target))).Fail=true∧(((l.getD x6 (⟨0,0,ByteArray.empty,0,false⟩:api_Target))).On≠(ByteArray.mk #[]))) := nP ((zca Iff.rfl zax)) hG23; zag (mbx hG23 rfl) foc0 rfl Tryz.isAgg9) <| zb6 rfl rfl rfl (fun hG25=>have hP26:¬ (((l.getD x6 (⟨0,0,ByteArray.empty,0,false⟩:api_Target))).Fail=true∧(((l.getD x6 (⟨0,0,ByteArray.empty,0,false⟩:api_Target))).On≠(ByteArray.mk #[]))) := nP ((zca Iff.rfl zax)) hG25; VJ_P (zcj (a:=((l.getD x6 (⟨0,0,ByteArray.empty,0,false⟩:api_Target))).On) (b:=(ByteArray.mk #[])) (mbx hG25 rfl) rfl Tryz.underlying9)) <| zb6 rfl rfl rfl (fun hG27=>have hP28:¬ (((l.getD x6 (⟨0,0,ByteArray.empty,0,false⟩:api_Target))).Fail=true∧(((l.getD x6 (⟨0,0,ByteArray.empty,0,false⟩:api_Target))).On≠(ByteArray.mk #[]))) := nP ((zca Iff.rfl zax)) hG27; VJ_P (zah (mbx hG27 rfl))) <| zij rfl rfl rfl (fun hG29=>have hP30:¬ (((l.getD x6 (⟨0,0,ByteArray.empty,0,false⟩:api_Target))).Fail=true∧(((l.getD x6 (⟨0,0,ByteArray.empty,0,false⟩:api_Target))).On≠(ByteArray.mk #[]))) := nP ((zca Iff.rfl zax)) (and_l hG29); have hP31:(((l.getD x6 (⟨0,0,ByteArray.empty,0,false⟩:api_Target))).On=(ByteArray.mk #[])) := (zax).1 (and_r hG29); VJ_P (zaa rfl ⟨_,_,_,Tryz.runUnderlying37,rfl,rfl,Tryz.sizeOf3,rfl⟩)) ?_
       refine zij rfl rfl rfl (fun hG32=>have hP33:¬ (((l.getD x6 (⟨0,0,ByteArray.empty,0,false⟩:api_Target))).Fail=true∧(((l.getD x6 (⟨0,0,ByteArray.empty,0,false⟩:api_Target))).On≠(ByteArray.mk #[]))) := nP ((zca Iff.rfl zax)) (and_l hG32); have hP34:(((l.getD x6 (⟨0,0,ByteArray.empty,0,false⟩:api_Target))).On=(ByteArray.mk #[])) := (zax).1 (and_r hG32); zag (mbx hG32 rfl) foc0 rfl Tryz.isAgg3) <| zij rfl rfl rfl (fun hG35=>have hP36:¬ (((l.getD x6 (⟨0,0,ByteArray.empty,0,false⟩:api_Target))).Fail=true∧(((l.getD x6 (⟨0,0,ByteArray.empty,0,false⟩:api_Target))).On≠(ByteArray.mk #[]))) := nP ((zca Iff.rfl zax)) (and_l hG35); have hP37:(((l.getD x6 (⟨0,0,ByteArray.empty,0,false⟩:api_Target))).On=(ByteArray.mk #[])) := (zax).1 (and_r hG35); VJ_P (P_neq (a:=((l.getD x6 (⟨0,0,ByteArray.empty,0,false⟩:api_Target))).Offset) (b:=(0:Int)) (mbx hG35 rfl) rfl)) <| zb6 rfl rfl rfl (fun hG38=>have hP39:¬ (((l.getD x6 (⟨0,0,ByteArray.empty,0,false⟩:api_Target))).Fail=true∧(((l.getD x6 (⟨0,0,ByteArray.empty,0,false⟩:api_Target))).On≠(ByteArray.mk #[]))) := nP ((zca Iff.rfl zax)) hG38; VJ_P (zek (mbx hG38 rfl) (fun hh=>mbx (and_i hG38 hh) rfl) rfl)) <| oP (ze1 rfl rfl (fun hh=>mbx (not_f hh) rfl)) rfl <| oA rfl rfl <| nT <| zbs rfl (bT_or (zca Iff.rfl zax) (zca zax zax)) (fun hg5 => ?_) (fun hg5 => ?_)
       ·
        replace h := ite_t hg5 h
        refine sR <| oA rfl rfl <| nT <| zaj <| zam <| zae <| zam <| zae <| zbb <| zam <| zae ?_
        have hE := Option.some.inj h
        replace hE := zd4 hK3 hE.symm
        subst hE
        exact fE (res1 Tryz.results68 rfl) () (t1_ (eD eR))
       ·
        replace h := ite_f hg5 h
        refine sR <| oP (zaa rfl ⟨_,_,_,Tryz.runUnderlying37,rfl,rfl,Tryz.sizeOf3,rfl⟩) rfl <| oV (zag rfl foc0 rfl Tryz.isAgg3) rfl <| oP (P_lss (a:=((l.getD x6 (⟨0,0,ByteArray.empty,0,false⟩:api_Target))).Offset) (b:=(0:Int)) rfl rfl) rfl <| oM rfl rfl <| zb6 rfl rfl rfl (fun hG40=>have hP41:¬ (((l.getD x6 (⟨0,0,ByteArray.empty,0,false⟩:api_Target))).Offset < (0:Int)) := nP (zax) hG40; VJ_P (zaa rfl ⟨_,_,_,Tryz.runUnderlying37,rfl,rfl,Tryz.sizeOf3,rfl⟩)) <| zb6 rfl rfl rfl (fun hG42=>have hP43:¬ (((l.getD x6 (⟨0,0,ByteArray.empty,0,false⟩:api_Target))).Offset < (0:Int)) := nP (zax) hG42; zag (mbx hG42 rfl) foc0 rfl Tryz.isAgg3) <| zb6 rfl rfl rfl (fun hG44=>have hP45:¬ (((l.getD x6 (⟨0,0,ByteArray.empty,0,false⟩:api_Target))).Offset < (0:Int)) := nP (zax) hG44; VJ_P (zaa rfl ⟨_,_,_,Tryz.runUnderlying37,rfl,rfl,Tryz.sizeOf3,rfl⟩)) <| zb6 rfl rfl rfl (fun hG46=>have hP47:¬ (((l.getD x6 (⟨0,0,ByteArray.empty,0,false⟩:api_Target))).Offset < (0:Int)) := nP (zax) hG46; zag (mbx hG46 rfl) foc0 rfl Tryz.isAgg3) <| zb6 rfl rfl rfl (fun hG48=>have hP49:¬ (((l.getD x6 (⟨0,0,ByteArray.empty,0,false⟩:api_Target))).Offset < (0:Int)) := nP (zax) hG48; VJ_P (P_sub (a:=(16777216:Int)) (b:=((l.getD x6 (⟨0,0,ByteArray.empty,0,false⟩:api_Target))).Length) rfl (mbx hG48 rfl) (by omega))) ?_
        refine zb6 rfl rfl rfl (fun hG50=>have hP51:¬ (((l.getD x6 (⟨0,0,ByteArray.empty,0,false⟩:api_Target))).Offset < (0:Int)) := nP (zax) hG50; VJ_P (P_gtr (a:=((l.getD x6 (⟨0,0,ByteArray.empty,0,false⟩:api_Target))).Offset) (b:=((16777216:Int) - ((l.getD x6 (⟨0,0,ByteArray.empty,0,false⟩:api_Target))).Length)) (mbx hG50 rfl) (mbx hG50 rfl))) <| oP (ze1 rfl rfl (fun hh=>mbx (not_f hh) rfl)) rfl <| oA rfl rfl <| nT <| zbs rfl (bT_or zax zax) (fun hg6 => ?_) (fun hg6 => ?_)
        ·
         replace h := ite_t hg6 h
         refine sR <| oA rfl rfl <| nT <| zaj <| zam <| zae <| zam <| zae <| zbb <| zam <| zae ?_
         have hE := Option.some.inj h
         replace hE := zd4 hK3 hE.symm
         subst hE
         exact fE (res1 Tryz.results68 rfl) () (t1_ (eD eR))
        ·
         replace h := ite_f hg6 h
         refine za8 <| zak <| zat <| zai <| oM rfl rfl <| oP (zaa rfl ⟨_,_,_,Tryz.runUnderlying37,rfl,rfl,Tryz.sizeOf3,rfl⟩) rfl <| oV (zag rfl foc0 rfl Tryz.isAgg3) rfl ?_
         obtain ⟨hg7,h⟩ := zee h
         exact oP (P_add (a:=x7) (b:=((l.getD x6 (⟨0,0,ByteArray.empty,0,false⟩:api_Target))).Length) rfl rfl hg7) rfl <| oA rfl rfl <| za0 <| zak <| zat <| zai <| oP (PJ_eq (P_add (a:=((x6:Nat):Int)) (b:=(1:Int)) rfl rfl (by omega)) rfl) rfl <| oM rfl rfl <| za0 <| nR ⟨n,(x6 + 1),(x7 + ((l.getD x6 (⟨0,0,ByteArray.empty,0,false⟩:api_Target))).Length)⟩ h ⟨rfl,rfl,True.intro⟩ (t1_ (eD eR))
    ·
     replace h := ite_f hg2 h
     exact zbg <| zaw <| zav <| zau <| cR () (Option.some.inj h).symm True.intro eR
  ·
   rintro _ hy52
   replace h := zgl hK3 hy52
   show CJ _ _ _ _ _ (([]:Slots) ++ forget _ _) (_)
   refine sR <| oA rfl rfl <| nT <| zaj ?_
   cases h
   exact fE (res1 Tryz.results68 rfl) () eR
def zdp (p0:List ByteArray) (p1:ByteArray) (rec:Nat→Option ((Unit) ⊕ Int)) (x6:Nat):Option ((Unit) ⊕ Int) :=
  if (((x6:Nat):Int) < ((p0.length:Nat):Int)) then
    if (p1=(p0.getD x6 ByteArray.empty)) then
      some (.inr (((x6:Nat):Int)))
    else
      rec (x6 + 1)
  else
    some (.inl ())
def zcv (p0:List ByteArray) (p1:ByteArray):Nat→Nat→Option ((Unit) ⊕ Int)
  | 0,_=>none
  | n + 1,x6=>zdp p0 p1 (zcv p0 p1 n) x6
def zdx (p0:List ByteArray) (p1:ByteArray):Option (Int) :=
  seqO (zcv p0 p1 FUEL 0) fun a5 =>
  some (-1:Int)
theorem zgo {W:World} {Ap0:HP} {vp0:Value} {p0:List ByteArray} {p1:ByteArray} {r:Int} (rp0:Reads Ap0 tyS vp0 p0) (h:zdx p0 p1=some r) :
    CSpec Tryz.prog W 64 [vp0,.string p1] [Ap0] (fun x:Unit => .int .i64 r) (fun _=>True) (fun x F=>Ap0::F) := by
 refine CSpec.of_body Tryz.func64 rfl Tryz.ntmps64 rfl fun F => ?_
 show CJ _ _ _ _ _ _ (_::F)
 unfold zdx at h
 refine zba (zc4 rp0 del0) fun hlen1=>sR <| oA rfl rfl <| nT <| zad <| sR <| oM rfl rfl <| oV (V_len rfl foc0 rp0 Tryz.runUnderlying59) rfl <| oM rfl rfl <| nT ?_
 obtain ⟨y4,hl2,hK3⟩ := seq_e h
 refine zdt (X:=Unit) [4,5,8,9,10,11,12,13,14,15,16,17,18] (fun _=>([]:Slots)) (fun _ R=>R) (fun _=>y4 = .inl ()) Dels.nil ?_ ?_
 ·
  refine zas <| zbe (X:=Nat × Nat) [4,5,8,9,10,11,12,13,14,15,16,17,18] (fun ⟨n,x6⟩=>([(8,.int .i64 (((x6:Nat):Int)))]:Slots)) (fun ⟨n,x6⟩ R=>R) (fun ⟨n,x6⟩=>zcv p0 p1 n x6=some y4) (fun ⟨n,x6⟩=>n) ⟨FUEL,0⟩ ?_ ?_ eR ?_
  · exact hl2
  · exact ⟨rfl,True.intro⟩
  ·
   rintro ⟨n,x6⟩ h
   cases n with
   | zero=>exact zef h
   | succ n => ?_
   replace h:zdp p0 p1 (zcv p0 p1 n) x6=some y4 := h
   unfold zdp at h
   show CJ _ _ _ _ _ (([(8,.int .i64 (((x6:Nat):Int)))]:Slots) ++ forget _ _) (_)
   refine sR <| oP (P_lss (a:=((x6:Nat):Int)) (b:=((p0.length:Nat):Int)) rfl rfl) rfl <| nT <| zad <| zbs rfl zax (fun hg1 => ?_) (fun hg1 => ?_)
   ·
    replace h := ite_t hg1 h
    refine kT <| zad <| zas <| sR <| oM rfl rfl <| oA rfl rfl <| nT <| sR <| oM rfl rfl <| oM rfl rfl <| oM rfl rfl <| oV (zal (i:=x6) rfl rfl rfl (by omega) foc0 rp0 Tryz.runUnderlying59 Tryz.sizeOf9) rfl <| oV (zaz rfl rfl (by omega) foc0 rp0 rfl rfl Tryz.isAgg9) rfl <| oP (zcj (a:=p1) (b:=(p0.getD x6 ByteArray.empty)) rfl rfl Tryz.underlying9) rfl <| nT <| zbs rfl zax (fun hg2 => ?_) (fun hg2 => ?_)
    ·
     replace h := ite_t hg2 h
     refine sR <| oM rfl rfl <| oA rfl rfl <| nT <| zaj <| zam <| zae <| zbb <| zam <| zae ?_
     have hE := Option.some.inj h
     replace hE := zd4 hK3 hE.symm
     subst hE
     exact fE (res1 Tryz.results64 rfl) () eR
    ·
     replace h := ite_f hg2 h
     exact za8 <| zak <| zat <| zai <| oP (PJ_eq (P_add (a:=((x6:Nat):Int)) (b:=(1:Int)) rfl rfl (by omega)) rfl) rfl <| oM rfl rfl <| za0 <| nR ⟨n,(x6 + 1)⟩ h ⟨rfl,True.intro⟩ eR
   ·
    replace h := ite_f hg1 h
    exact zbg <| zaw <| zav <| zau <| cR () (Option.some.inj h).symm True.intro eR
 ·
  rintro _ hy7
  replace h := zgl hK3 hy7
  show CJ _ _ _ _ _ (([]:Slots) ++ forget _ _) (_)
  refine sR <| oA rfl rfl <| nT <| zaj ?_
  cases h
  exact fE (res1 Tryz.results64 rfl) () eR
def zda (p0:List ByteArray) (p1:ByteArray):Option (Bool) :=
  Option.bind (zdx p0 p1) fun r2 =>
  some ((decide ((0:Int)≤r2)))
theorem zcb {W:World} {Ap0:HP} {vp0:Value} {p0:List ByteArray} {p1:ByteArray} {r:Bool} (rp0:Reads Ap0 tyS vp0 p0) (h:zda p0 p1=some r) :
    CSpec Tryz.prog W 56 [vp0,.string p1] [Ap0] (fun x:Unit => .bool r) (fun _=>True) (fun x F=>Ap0::F) := by
 refine CSpec.of_body Tryz.func56 rfl Tryz.ntmps56 rfl fun F => ?_
 show CJ _ _ _ _ _ _ (_::F)
 unfold zda at h
 refine zba (zc4 rp0 del0) fun hlen1=>sR <| oA rfl rfl <| nT <| sR <| oM rfl rfl <| oM rfl rfl ?_
 obtain ⟨r2,hr3,h⟩ := zdw h
 refine oO <| zaq (zgo rp0 hr3) rfl Tryz.call64 (Dels.cons del0 Dels.nil) rfl fun _ _=>oP (P_geq (a:=r2) (b:=(0:Int)) rfl rfl) rfl <| oA rfl rfl <| nT <| zaj ?_
 cases h
 exact fE (res1 Tryz.results56 rfl) () eR
def zfo (l:List api_Target) (rec:(List ByteArray)→Nat→Option ((List ByteArray))) (x9:List ByteArray) (x11:Nat):Option ((List ByteArray)) :=
  if (((x11:Nat):Int) < ((l.length:Nat):Int)) then
    if (((l.getD x11 (⟨0,0,ByteArray.empty,0,false⟩:api_Target))).On≠(ByteArray.mk #[])) then
      Option.bind (zda x9 (((l.getD x11 (⟨0,0,ByteArray.empty,0,false⟩:api_Target))).On)) fun r14 =>
      if (¬ r14=true) then
        grd (inLen (x9.length + 1)) <|
        rec ((x9 ++ [((l.getD x11 (⟨0,0,ByteArray.empty,0,false⟩:api_Target))).On])) (x11 + 1)
      else
        rec x9 (x11 + 1)
    else
      rec x9 (x11 + 1)
  else
    some x9
def zev (l:List api_Target):Nat→(List ByteArray)→Nat→Option ((List ByteArray))
  | 0,_,_=>none
  | n + 1,x9,x11=>zfo l (zev l n) x9 x11
def zic (l:List api_Target):Option ((List ByteArray)) :=
  Option.bind (zev l FUEL ([]) 0) fun a8 =>
  some a8
theorem zfu {W:World} {Al:HP} {vl:Value} {l:List api_Target} {r:(List ByteArray)} (rl:Reads Al tyapi_Target vl l) (h:zic l=some r) :
    CSpec Tryz.prog W 69 [vl] [Al] (fun x:Sl3=>x.v) (fun _=>True) (fun x F=>Al::sl tyS x.v r::F) := by
 refine CSpec.of_body Tryz.func69 rfl Tryz.ntmps69 rfl fun F => ?_
 show CJ _ _ _ _ _ _ (_::F)
 unfold zic at h
 refine zba (zc4 rl del0) fun hlen1=>sR <| oA rfl rfl <| nT <| sR <| oA rfl rfl <| nT <| zad <| sR <| oM rfl rfl <| oV (V_len rfl foc0 rl Tryz.runUnderlying30) rfl <| oM rfl rfl <| nT <| zbd (fun h hh=>zb2 (t:=tyS) h hh) ?_
 obtain ⟨y5,hl3,hK4⟩ := zho h
 refine zdt (X:=(List ByteArray) × Sl3) [3,5,8,9,10,11,12,13,14,15,16,17,18,19,20,21,22,23,24,25,26,27] (fun ⟨a8,hd7⟩=>([(3,hd7.v)]:Slots)) (fun ⟨a8,hd7⟩ R=>sl tyS hd7.v a8::R) (fun ⟨a8,hd7⟩=>y5=a8) (Dels.cons del0 Dels.nil) ?_ ?_
 ·
  refine zas <| zbe (X:=Nat × (List ByteArray) × Nat × Sl3) [3,5,8,9,10,11,12,13,14,15,16,17,18,19,20,21,22,23,24,25,26,27] (fun ⟨n,x9,x11,hd10⟩=>([(3,hd10.v),(8,.int .i64 (((x11:Nat):Int)))]:Slots)) (fun ⟨n,x9,x11,hd10⟩ R=>sl tyS hd10.v x9::R) (fun ⟨n,x9,x11,hd10⟩=>zev l n x9 x11=some y5) (fun ⟨n,x9,x11,hd10⟩=>n) ⟨FUEL,[],0,⟨none,0,0⟩⟩ ?_ ?_ eR ?_
  · exact hl3
  · exact ⟨rfl,rfl,True.intro⟩
  ·
   rintro ⟨n,x9,x11,hd10⟩ h
   cases n with
   | zero=>exact zef h
   | succ n => ?_
   replace h:zfo l (zev l n) x9 x11=some y5 := h
   unfold zfo at h
   show CJ _ _ _ _ _ (([(3,hd10.v),(8,.int .i64 (((x11:Nat):Int)))]:Slots) ++ forget _ _) (sl tyS hd10.v x9::_)
   refine lC del0 fun hlen12=>sR <| oP (P_lss (a:=((x11:Nat):Int)) (b:=((l.length:Nat):Int)) rfl rfl) rfl <| nT <| zad <| zbs rfl zax (fun hg1 => ?_) (fun hg1 => ?_)
   ·
    replace h := ite_t hg1 h
    refine kT <| zad <| zas <| sR <| oV (zal (i:=x11) rfl rfl rfl (by omega) foc1 rl Tryz.runUnderlying30 Tryz.sizeOf37) rfl <| oV (zb7 rfl rfl (by omega) foc1 rl rfl rfl Tryz.isAgg37 Tryz.sizeOf37) rfl <| oO <| zb1 Tryz.zeroValue37 rfl rfl fun b13=>oO <| zbj rfl rfl foc0 Tryz.sizeOf37 rfl rfl rfl <| nT <| sR <| oP (zaa rfl ⟨_,_,_,Tryz.runUnderlying37,rfl,rfl,Tryz.sizeOf9,rfl⟩) rfl <| oV (zag rfl foc0 rfl Tryz.isAgg9) rfl <| oP (zdo (a:=((l.getD x11 (⟨0,0,ByteArray.empty,0,false⟩:api_Target))).On) (b:=(ByteArray.mk #[])) rfl rfl Tryz.underlying9) rfl <| oM rfl rfl <| zel 15 rfl zax (fun hg2B hg2 => ?_) (fun hg2B hg2 => ?_)
    ·
     replace h := ite_t hg2 h
     refine gP (zab rfl rfl rfl hg2B) (zah rfl) rfl <| gP (zab rfl rfl rfl hg2B) (zaa rfl ⟨_,_,_,Tryz.runUnderlying37,rfl,rfl,Tryz.sizeOf9,rfl⟩) rfl <| gV (zab rfl rfl rfl hg2B) (zag rfl foc0 rfl Tryz.isAgg9) rfl ?_
     obtain ⟨r14,hr15,h⟩ := zdw h
     refine RJ_gy (zab rfl rfl rfl hg2B) <| zaq (zcb (Reads.sl _ _ _) hr15) rfl Tryz.call56 (Dels.cons del1 Dels.nil) rfl fun _ _=>gP (zab rfl rfl rfl hg2B) (P_not rfl) rfl <| oP (za2 rfl hg2B rfl) rfl <| nT <| zbs rfl (zji Iff.rfl) (fun hg3 => ?_) (fun hg3 => ?_)
     ·
      replace h := ite_t hg3 h
      refine zai <| oM rfl rfl <| oP (zaa rfl ⟨_,_,_,Tryz.runUnderlying37,rfl,rfl,Tryz.sizeOf9,rfl⟩) rfl <| oV (zag rfl foc1 rfl Tryz.isAgg9) rfl <| oO <| za7 rfl (zpd _) rfl fun b16 => ?_
      obtain ⟨hg4,h⟩ := zhn h
      exact oO <| zbv (t:=tyS) (bytes:=16) rfl rfl del1 foc0 (Reads.lit (t:=tyS) (ys:=[((l.getD x11 (⟨0,0,ByteArray.empty,0,false⟩:api_Target))).On]) rfl rfl (by decide) (by decide) rfl) Tryz.underlying59 zjj (apl (m:=1) (b:=16) hg4 (by decide)).1 (apl (m:=1) (b:=16) hg4 (by decide)).2 rfl fun p18 c19=>oA rfl rfl <| za0 <| zak <| zat <| zai <| oP (PJ_eq (P_add (a:=((x11:Nat):Int)) (b:=(1:Int)) rfl rfl (by omega)) rfl) rfl <| oM rfl rfl <| za0 <| nR ⟨n,(x9 ++ [((l.getD x11 (⟨0,0,ByteArray.empty,0,false⟩:api_Target))).On]),(x11 + 1),⟨p18,(x9 ++ [((l.getD x11 (⟨0,0,ByteArray.empty,0,false⟩:api_Target))).On]).length,c19⟩⟩ h ⟨rfl,rfl,True.intro⟩ (t0_ (t2_ (eD (eD eR))))
     ·
      replace h := ite_f hg3 h
      exact za8 <| zak <| zat <| zai <| oP (PJ_eq (P_add (a:=((x11:Nat):Int)) (b:=(1:Int)) rfl rfl (by omega)) rfl) rfl <| oM rfl rfl <| za0 <| nR ⟨n,x9,(x11 + 1),hd10⟩ h ⟨rfl,rfl,True.intro⟩ (t0_ (t1_ (eD eR)))
    ·
     replace h := ite_f hg2 h
     exact RJ_gn (GY_no rfl rfl rfl hg2B) rfl rfl <| RJ_gn (GY_no rfl rfl rfl hg2B) rfl rfl <| RJ_gn (GY_no rfl rfl rfl hg2B) rfl rfl <| RJ_gn (GY_no rfl rfl rfl hg2B) rfl rfl <| RJ_gn (GY_no rfl rfl rfl hg2B) rfl rfl <| oP (za5 rfl hg2B rfl) rfl <| nT <| zbf rfl rfl <| za8 <| zak <| zat <| zai <| oP (PJ_eq (P_add (a:=((x11:Nat):Int)) (b:=(1:Int)) rfl rfl (by omega)) rfl) rfl <| oM rfl rfl <| za0 <| nR ⟨n,x9,(x11 + 1),hd10⟩ h ⟨rfl,rfl,True.intro⟩ (t1_ (t1_ (eD eR)))
   ·
    replace h := ite_f hg1 h
    exact zbg <| zaw <| zav <| zau <| cR ⟨x9,hd10⟩ (Option.some.inj h).symm ⟨rfl,True.intro⟩ eR
 ·
  rintro ⟨a8,hd7⟩ hy20
  replace h := zft hK4 hy20
  show CJ _ _ _ _ _ (([(3,hd7.v)]:Slots) ++ forget _ _) (sl tyS hd7.v a8::_)
  refine lC del0 fun hlen21=>sR <| oM rfl rfl <| oA rfl rfl <| nT <| zaj ?_
  cases h
  exact fE (res1 Tryz.results69 rfl) hd7 (t1_ eR)
def zf3 (l:List api_Target):Option (Int) :=
  if (((l.length:Nat):Int)=(0:Int)) then
    some (0:Int)
  else
    lt ((l.getD (((((l.length:Nat):Int) - (1:Int))).toNat) (⟨0,0,ByteArray.empty,0,false⟩:api_Target))) fun w2 =>
    grd (inI64 (w2.Start + w2.Length)) <|
    some (w2.Start + w2.Length)
theorem zk4 {W:World} {Al:HP} {vl:Value} {l:List api_Target} {r:Int} (rl:Reads Al tyapi_Target vl l) (h:zf3 l=some r) :
    CSpec Tryz.prog W 103 [vl] [Al] (fun x:Unit => .int .i64 r) (fun _=>True) (fun x F=>Al::F) := by
 refine CSpec.of_body Tryz.func103 rfl Tryz.ntmps103 rfl fun F => ?_
 show CJ _ _ _ _ _ _ (_::F)
 unfold zf3 at h
 refine zba (zc4 rl del0) fun hlen1=>sR <| oA rfl rfl <| nT <| zad <| sR <| oM rfl rfl <| oV (V_len rfl foc0 rl Tryz.runUnderlying30) rfl <| oP (P_eql (a:=((l.length:Nat):Int)) (b:=(0:Int)) rfl rfl) rfl <| nT <| zbs rfl zax (fun hg1 => ?_) (fun hg1 => ?_)
 ·
  replace h := ite_t hg1 h
  refine sR <| oA rfl rfl <| nT <| zaj <| zae ?_
  cases h
  exact fE (res1 Tryz.results103 rfl) () eR
 ·
  replace h := ite_f hg1 h
  refine kT <| sR <| oM rfl rfl <| oM rfl rfl <| oV (V_len rfl foc0 rl Tryz.runUnderlying30) rfl <| oP (P_sub (a:=((l.length:Nat):Int)) (b:=(1:Int)) rfl rfl (by omega)) rfl <| oV (zal (i:=((((l.length:Nat):Int) - (1:Int))).toNat) rfl rfl (Int.toNat_of_nonneg (by omega)).symm (by omega) foc0 rl Tryz.runUnderlying30 Tryz.sizeOf37) rfl <| oV (zb7 rfl rfl (by omega) foc0 rl rfl rfl Tryz.isAgg37 Tryz.sizeOf37) rfl ?_
  obtain ⟨w2,hw2,h⟩ := lt_e h
  rw [← hw2]
  refine oO <| zb1 Tryz.zeroValue37 rfl rfl fun b3=>oO <| zbj rfl rfl foc0 Tryz.sizeOf37 rfl rfl rfl <| nT <| sR <| oP (zaa rfl ⟨_,_,_,Tryz.runUnderlying37,rfl,rfl,Tryz.sizeOf3,rfl⟩) rfl <| oV (zag rfl foc0 rfl Tryz.isAgg3) rfl <| oP (zaa rfl ⟨_,_,_,Tryz.runUnderlying37,rfl,rfl,Tryz.sizeOf3,rfl⟩) rfl <| oV (zag rfl foc0 rfl Tryz.isAgg3) rfl ?_
  obtain ⟨hg2,h⟩ := zee h
  refine oP (P_add (a:=w2.Start) (b:=w2.Length) rfl rfl hg2) rfl <| oA rfl rfl <| nT <| zaj ?_
  cases h
  exact fE (res1 Tryz.results103 rfl) () (t1_ (eD eR))
def zid (l:List api_Target):Option (Int) :=
  Option.bind (zfm l) fun r2 =>
  if (r2≠(0:Int)) then
    some (0:Int)
  else
    Option.bind (zf3 l) fun r4 =>
    some r4
theorem ziq {W:World} {Al:HP} {vl:Value} {l:List api_Target} {r:Int} (rl:Reads Al tyapi_Target vl l) (h:zid l=some r) :
    CSpec Tryz.prog W 81 [vl] [Al] (fun x:Unit => .int .i64 r) (fun _=>True) (fun x F=>Al::F) := by
 refine CSpec.of_body Tryz.func81 rfl Tryz.ntmps81 rfl fun F => ?_
 show CJ _ _ _ _ _ _ (_::F)
 unfold zid at h
 refine zba (zc4 rl del0) fun hlen1=>sR <| oA rfl rfl <| nT <| zad <| sR <| oM rfl rfl ?_
 obtain ⟨r2,hr3,h⟩ := zdw h
 refine oO <| zaq (zhx rl hr3) rfl Tryz.call68 (Dels.cons del0 Dels.nil) rfl fun _ _=>oP (P_neq (a:=r2) (b:=(0:Int)) rfl rfl) rfl <| nT <| zbs rfl zax (fun hg1 => ?_) (fun hg1 => ?_)
 ·
  replace h := ite_t hg1 h
  refine sR <| oA rfl rfl <| nT <| zaj <| zae ?_
  cases h
  exact fE (res1 Tryz.results81 rfl) () eR
 ·
  replace h := ite_f hg1 h
  refine kT <| sR <| oM rfl rfl ?_
  obtain ⟨r4,hr5,h⟩ := zdw h
  refine oO <| zaq (zk4 rl hr5) rfl Tryz.call103 (Dels.cons del0 Dels.nil) rfl fun _ _=>oA rfl rfl <| nT <| zaj ?_
  cases h
  exact fE (res1 Tryz.results81 rfl) () eR
def zfv (k:Int) (p1:List api_Target) (p2:Int):Option (Bool) :=
  grd (decide (0≤k∧k < (p1.length:Int))) <|
  grd (decide (0≤k∧k < (p1.length:Int))) <|
  grd (inI64 ((((p1.getD ((k).toNat) (⟨0,0,ByteArray.empty,0,false⟩:api_Target))).Start + ((p1.getD ((k).toNat) (⟨0,0,ByteArray.empty,0,false⟩:api_Target))).Length))) <|
  lt ((((p1.getD ((k).toNat) (⟨0,0,ByteArray.empty,0,false⟩:api_Target))).Start + ((p1.getD ((k).toNat) (⟨0,0,ByteArray.empty,0,false⟩:api_Target))).Length)) fun w2 =>
  some ((decide (p2 < w2)))
theorem zor {W:World} {bp1:Nat} {Ap1:HP} {vp1:Value} {bp2:Nat} {k:Int} {p1:List api_Target} {p2:Int} {r:Bool} (rp1:Reads Ap1 tyapi_Target vp1 p1) (h:zfv k p1 p2=some r) :
    CSpec Tryz.prog W 114 [.int .i64 k,ptr bp1 0,ptr bp2 0] [blk bp1 30 [vp1],Ap1,blk bp2 3 [.int .i64 p2]] (fun x:Unit => .bool r) (fun _=>True) (fun x F=>blk bp1 30 [vp1]::Ap1::blk bp2 3 [.int .i64 p2]::F) := by
 refine CSpec.of_body Tryz.func114 rfl Tryz.ntmps114 rfl fun F => ?_
 show CJ _ _ _ _ _ _ (_::_::_::F)
 unfold zfv at h
 refine zba (zc4 rp1 del1) fun hlen1=>sR <| oA rfl rfl <| nT <| zad <| za4 0 (by kernel_rfl) rfl <| aV 0 1 rfl rfl (zac rfl) eR (zag rfl foc0 rfl Tryz.isAgg30) rfl <| aN 1 3 rfl rfl (zah rfl) rfl ?_
 obtain ⟨hg1,h⟩ := zd0 h
 refine aV 2 7 rfl rfl (zac rfl) eR (zal (i:=(k).toNat) rfl rfl (Int.toNat_of_nonneg (hg1.1)).symm (by omega) foc1 rp1 Tryz.runUnderlying30 Tryz.sizeOf37) rfl <| aN 3 15 rfl rfl (zay rfl ⟨_,_,_,Tryz.runUnderlying37,rfl,rfl,Tryz.sizeOf3,rfl⟩) rfl <| aV 4 31 rfl rfl (zac rfl) eR (zaz rfl rfl (by omega) foc1 rp1 rfl rfl Tryz.isAgg3) rfl <| aV 5 63 rfl rfl (zac rfl) eR (zag rfl foc0 rfl Tryz.isAgg30) rfl <| aN 6 127 rfl rfl (zah rfl) rfl ?_
 obtain ⟨hg2,h⟩ := zd0 h
 refine aV 7 255 rfl rfl (zac rfl) eR (zal (i:=(k).toNat) rfl rfl (Int.toNat_of_nonneg (hg2.1)).symm (by omega) foc1 rp1 Tryz.runUnderlying30 Tryz.sizeOf37) rfl <| aN 8 511 rfl rfl (zay rfl ⟨_,_,_,Tryz.runUnderlying37,rfl,rfl,Tryz.sizeOf3,rfl⟩) rfl <| aV 9 1023 rfl rfl (zac rfl) eR (zaz rfl rfl (by omega) foc1 rp1 rfl rfl Tryz.isAgg3) rfl ?_
 obtain ⟨hg3,h⟩ := zee h
 refine aN 10 2047 rfl rfl (P_add (a:=((p1.getD ((k).toNat) (⟨0,0,ByteArray.empty,0,false⟩:api_Target))).Start) (b:=((p1.getD ((k).toNat) (⟨0,0,ByteArray.empty,0,false⟩:api_Target))).Length) rfl rfl hg3) rfl ?_
 obtain ⟨w2,hw2,h⟩ := lt_e h
 rw [← hw2]
 refine aV 11 4095 rfl rfl (zac rfl) eR (zag rfl foc2 rfl Tryz.isAgg3) rfl <| aN 12 8191 rfl rfl (P_gtr (a:=w2) (b:=p2) rfl rfl) rfl <| aN 13 16383 rfl rfl (zbc rfl) rfl <| aD <| zaj ?_
 cases h
 exact fE (res1 Tryz.results114 rfl) () eR
def zcz (f_c0:List api_Target) (f_c1:Int) (rec:Int→Int→Option (Int)) (x7:Int) (x8:Int):Option (Int) :=
  if (x7 < x8) then
    grd (inI64 (x7 + x8)) <|
    Option.bind (zfv ((IntKind.i64.wrap (((zeu ((zeg (x7 + x8))) 1)).toNat:Int))) f_c0 f_c1) fun r9 =>
    if (¬ r9=true) then
      grd (inI64 (((IntKind.i64.wrap (((zeu ((zeg (x7 + x8))) 1)).toNat:Int)) + (1:Int)))) <|
      lt (((IntKind.i64.wrap (((zeu ((zeg (x7 + x8))) 1)).toNat:Int)) + (1:Int))) fun w11 =>
      rec w11 x8
    else
      rec x7 ((IntKind.i64.wrap (((zeu ((zeg (x7 + x8))) 1)).toNat:Int)))
  else
    some x7
def zce (f_c0:List api_Target) (f_c1:Int):Nat→Int→Int→Option (Int)
  | 0,_,_=>none
  | n + 1,x7,x8=>zcz f_c0 f_c1 (zce f_c0 f_c1 n) x7 x8
def zdk (n_0:Int) (f_c0:List api_Target) (f_c1:Int):Option (Int) :=
  Option.bind (zce f_c0 f_c1 FUEL (0:Int) n_0) fun a6 =>
  some a6
theorem zhp {W:World} {bf_c0:Nat} {Af_c0:HP} {vf_c0:Value} {bf_c1:Nat} {n_0:Int} {f_c0:List api_Target} {f_c1:Int} {r:Int} (rf_c0:Reads Af_c0 tyapi_Target vf_c0 f_c0) (h:zdk n_0 f_c0 f_c1=some r) :
    CSpec Tryz.prog W 113 [.int .i64 n_0,.func (.func 114) #[] #[ptr bf_c0 0,ptr bf_c1 0]] [blk bf_c0 30 [vf_c0],Af_c0,blk bf_c1 3 [.int .i64 f_c1]] (fun x:Unit => .int .i64 r) (fun _=>True) (fun x F=>blk bf_c0 30 [vf_c0]::Af_c0::blk bf_c1 3 [.int .i64 f_c1]::F) := by
 refine CSpec.of_body Tryz.func113 rfl Tryz.ntmps113 rfl fun F => ?_
 show CJ _ _ _ _ _ _ (_::_::_::F)
 unfold zdk at h
 refine zba (zc4 rf_c0 del1) fun hlen1=>sR <| oA rfl rfl <| nT <| sR <| oM rfl rfl <| oA rfl rfl <| oA rfl rfl <| nT <| zad ?_
 obtain ⟨y4,hl2,hK3⟩ := zho h
 refine zdt (X:=Int) [5,6,7,9,10,11,12,13,14,15,16,17,18,19,20,21,22,23,24] (fun a6=>([(5,.int .i64 a6)]:Slots)) (fun a6 R=>R) (fun a6=>y4=a6) Dels.nil ?_ ?_
 ·
  refine zas <| zbe (X:=Nat × Int × Int) [5,6,7,9,10,11,12,13,14,15,16,17,18,19,20,21,22,23,24] (fun ⟨n,x7,x8⟩=>([(5,.int .i64 x7),(6,.int .i64 x8)]:Slots)) (fun ⟨n,x7,x8⟩ R=>R) (fun ⟨n,x7,x8⟩=>zce f_c0 f_c1 n x7 x8=some y4) (fun ⟨n,x7,x8⟩=>n) ⟨FUEL,(0:Int),n_0⟩ ?_ ?_ eR ?_
  · exact hl2
  · exact ⟨rfl,rfl,True.intro⟩
  ·
   rintro ⟨n,x7,x8⟩ h
   cases n with
   | zero=>exact zef h
   | succ n => ?_
   replace h:zcz f_c0 f_c1 (zce f_c0 f_c1 n) x7 x8=some y4 := h
   unfold zcz at h
   show CJ _ _ _ _ _ (([(5,.int .i64 x7),(6,.int .i64 x8)]:Slots) ++ forget _ _) (_)
   refine zad <| sR <| oM rfl rfl <| oM rfl rfl <| oP (P_lss (a:=x7) (b:=x8) rfl rfl) rfl <| nT <| zbs rfl zax (fun hg1 => ?_) (fun hg1 => ?_)
   ·
    replace h := ite_t hg1 h
    refine kT <| zas <| sR <| oM rfl rfl <| oM rfl rfl ?_
    obtain ⟨hg2,h⟩ := zee h
    refine oP (P_add (a:=x7) (b:=x8) rfl rfl hg2) rfl <| oP (zte (a:=(x7 + x8)) rfl Tryz.runUnderlying3 Tryz.runUnderlying178) rfl <| oP (zue (a:=(zeg (x7 + x8))) (m:=1) rfl rfl rfl) rfl <| oP (zp8 rfl Tryz.runUnderlying178 Tryz.runUnderlying3) rfl <| oA rfl rfl <| nT <| sR <| oM rfl rfl <| oM rfl rfl ?_
    obtain ⟨r9,hr10,h⟩ := zdw h
    refine oO <| zdh rfl rfl (zor rf_c0 hr10) Tryz.call114 (Dels.cons del0 (Dels.cons del0 (Dels.cons del0 Dels.nil))) rfl fun _ _=>oP (P_not rfl) rfl <| nT <| zbs rfl (zji Iff.rfl) (fun hg3 => ?_) (fun hg3 => ?_)
    ·
     replace h := ite_t hg3 h
     refine zai <| oM rfl rfl ?_
     obtain ⟨hg4,h⟩ := zee h
     refine oP (P_add (a:=(IntKind.i64.wrap (((zeu ((zeg (x7 + x8))) 1)).toNat:Int))) (b:=(1:Int)) rfl rfl hg4) rfl ?_
     obtain ⟨w11,hw11,h⟩ := lt_e h
     rw [← hw11]
     exact oA rfl rfl <| za0 <| zak <| nR ⟨n,w11,x8⟩ h ⟨rfl,rfl,True.intro⟩ eR
    ·
     replace h := ite_f hg3 h
     exact zai <| oM rfl rfl <| oA rfl rfl <| za0 <| zak <| nR ⟨n,x7,(IntKind.i64.wrap (((zeu ((zeg (x7 + x8))) 1)).toNat:Int))⟩ h ⟨rfl,rfl,True.intro⟩ eR
   ·
    replace h := ite_f hg1 h
    exact zbg <| zaw <| zav <| zau <| cR x7 (Option.some.inj h).symm ⟨rfl,True.intro⟩ eR
 ·
  rintro a6 hy12
  replace h := zft hK3 hy12
  show CJ _ _ _ _ _ (([(5,.int .i64 a6)]:Slots) ++ forget _ _) (_)
  refine sR <| oM rfl rfl <| oA rfl rfl <| nT <| zaj ?_
  cases h
  exact fE (res1 Tryz.results113 rfl) () eR
def zie (l:List api_Target) (at_1:Int):Option (Int × Int) :=
  Option.bind (zdk (((l.length:Nat):Int)) l at_1) fun r6 =>
  grd (decide (0≤r6∧r6 < (l.length:Int))) <|
  grd (inI64 ((at_1 - ((l.getD ((r6).toNat) (⟨0,0,ByteArray.empty,0,false⟩:api_Target))).Start))) <|
  lt ((at_1 - ((l.getD ((r6).toNat) (⟨0,0,ByteArray.empty,0,false⟩:api_Target))).Start)) fun w8 =>
  some (r6,w8)
theorem zqj {W:World} {Al:HP} {vl:Value} {l:List api_Target} {at_1:Int} {r:Int × Int} (rl:Reads Al tyapi_Target vl l) (h:zie l at_1=some r) :
    CSpec Tryz.prog W 111 [vl,.int .i64 at_1] [Al] (fun x:Unit => .tuple #[.int .i64 r.1,.int .i64 r.2]) (fun _=>True) (fun x F=>Al::F) := by
 refine CSpec.of_body Tryz.func111 rfl Tryz.ntmps111 rfl fun F => ?_
 show CJ _ _ _ _ _ _ (_::F)
 unfold zie at h
 refine zba (zc4 rl del0) fun hlen1=>sR <| zr7 (zpc rl del0) fun hsv3 => ?_
 obtain ⟨sv2,hsv3⟩ := hsv3
 subst hsv3
 refine oO <| O_box rfl rfl rfl fun b4=>oO <| O_box rfl rfl rfl fun b5=>oA rfl rfl <| oA rfl rfl <| nT <| sR <| oV (zag rfl foc1 rfl Tryz.isAgg30) rfl <| oV (V_len rfl foc2 rl Tryz.runUnderlying30) rfl <| oP (zb0 rfl rfl) rfl ?_
 obtain ⟨r6,hr7,h⟩ := zdw h
 refine oO <| zaq (zhp rl hr7) rfl Tryz.call113 (Dels.cons del1 (Dels.cons del1 (Dels.cons del0 Dels.nil))) rfl fun _ _=>oA rfl rfl <| nT <| zad <| za4 0 (by kernel_rfl) rfl <| aN 0 1 rfl rfl (zah rfl) rfl <| aV 1 3 rfl rfl (zac rfl) eR (zag rfl foc2 rfl Tryz.isAgg3) rfl <| aV 2 7 rfl rfl (zac rfl) eR (zag rfl foc0 rfl Tryz.isAgg30) rfl <| aN 3 15 rfl rfl (zah rfl) rfl ?_
 obtain ⟨hg1,h⟩ := zd0 h
 refine aV 4 31 rfl rfl (zac rfl) eR (zal (i:=(r6).toNat) rfl rfl (Int.toNat_of_nonneg (hg1.1)).symm (by omega) foc1 rl Tryz.runUnderlying30 Tryz.sizeOf37) rfl <| aN 5 63 rfl rfl (zay rfl ⟨_,_,_,Tryz.runUnderlying37,rfl,rfl,Tryz.sizeOf3,rfl⟩) rfl <| aV 6 127 rfl rfl (zac rfl) eR (zaz rfl rfl (by omega) foc1 rl rfl rfl Tryz.isAgg3) rfl ?_
 obtain ⟨hg2,h⟩ := zee h
 refine aN 7 255 rfl rfl (P_sub (a:=at_1) (b:=((l.getD ((r6).toNat) (⟨0,0,ByteArray.empty,0,false⟩:api_Target))).Start) rfl rfl hg2) rfl ?_
 obtain ⟨w8,hw8,h⟩ := lt_e h
 rw [← hw8]
 refine aN 8 511 rfl rfl (zbc rfl) rfl <| aN 9 1023 rfl rfl (zbc rfl) rfl <| aD <| zaj ?_
 cases h
 exact fE (res2 Tryz.results111 rfl rfl) () (t1_ (eD (eD eR)))
def zif (l:List api_Target) (at_1:Int):Option (Int × Int × Bool) :=
  Option.bind (zfm l) fun r2 =>
  if ((r2≠(0:Int))∨(at_1 < (0:Int))) then
    some (((0:Int),(0:Int),false))
  else
    Option.bind (zf3 l) fun r8 =>
    if (r8≤at_1) then
      some (((0:Int),(0:Int),false))
    else
      Option.bind (zie l at_1) fun r10 =>
      some (r10.1,r10.2,true)
theorem zk5 {W:World} {Al:HP} {vl:Value} {l:List api_Target} {at_1:Int} {r:Int × Int × Bool} (rl:Reads Al tyapi_Target vl l) (h:zif l at_1=some r) :
    CSpec Tryz.prog W 101 [vl,.int .i64 at_1] [Al] (fun x:Unit => .tuple #[.int .i64 r.1,.int .i64 r.2.1,.bool r.2.2]) (fun _=>True) (fun x F=>Al::F) := by
 refine CSpec.of_body Tryz.func101 rfl Tryz.ntmps101 rfl fun F => ?_
 show CJ _ _ _ _ _ _ (_::F)
 unfold zif at h
 refine zba (zc4 rl del0) fun hlen1=>sR <| oA rfl rfl <| oA rfl rfl <| oA rfl rfl <| nT <| zad <| sR <| oM rfl rfl ?_
 obtain ⟨r2,hr3,h⟩ := zdw h
 refine oO <| zaq (zhx rl hr3) rfl Tryz.call68 (Dels.cons del0 Dels.nil) rfl fun _ _=>oP (P_neq (a:=r2) (b:=(0:Int)) rfl rfl) rfl <| oM rfl rfl <| zb6 rfl rfl rfl (fun hG4=>have hP5:¬ (r2≠(0:Int)) := nP (zax) hG4; VJ_P (zah rfl)) <| zb6 rfl rfl rfl (fun hG6=>have hP7:¬ (r2≠(0:Int)) := nP (zax) hG6; VJ_P (P_lss (a:=at_1) (b:=(0:Int)) (mbx hG6 rfl) rfl)) <| oP (ze1 rfl rfl (fun hh=>mbx (not_f hh) rfl)) rfl <| oM rfl rfl <| zel 14 rfl (bT_or zax zax) (fun hg1B hg1 => ?_) (fun hg1B hg1 => ?_)
 ·
  replace h := ite_t hg1 h
  refine RJ_gn (GY_no rfl rfl rfl hg1B) rfl rfl <| RJ_gn (GY_no rfl rfl rfl hg1B) rfl rfl <| RJ_gn (GY_no rfl rfl rfl hg1B) rfl rfl <| RJ_gn (GY_no rfl rfl rfl hg1B) rfl rfl <| oP (za2 rfl hg1B rfl) rfl <| nT <| zbk rfl rfl <| sR <| oA rfl rfl <| oA rfl rfl <| oA rfl rfl <| nT <| zaj <| zae ?_
  cases h
  exact fE (res3 Tryz.results101 rfl rfl rfl) () eR
 ·
  replace h := ite_f hg1 h
  refine gP (zab rfl rfl rfl hg1B) (zah rfl) rfl <| gP (zab rfl rfl rfl hg1B) (zah rfl) rfl ?_
  obtain ⟨r8,hr9,h⟩ := zdw h
  refine RJ_gy (zab rfl rfl rfl hg1B) <| zaq (zk4 rl hr9) rfl Tryz.call103 (Dels.cons del0 Dels.nil) rfl fun _ _=>gP (zab rfl rfl rfl hg1B) (P_geq (a:=at_1) (b:=r8) rfl rfl) rfl <| oP (za5 rfl hg1B rfl) rfl <| nT <| zbs rfl zax (fun hg2 => ?_) (fun hg2 => ?_)
  ·
   replace h := ite_t hg2 h
   refine sR <| oA rfl rfl <| oA rfl rfl <| oA rfl rfl <| nT <| zaj <| zae ?_
   cases h
   exact fE (res3 Tryz.results101 rfl rfl rfl) () eR
  ·
   replace h := ite_f hg2 h
   refine kT <| sR <| oM rfl rfl <| oM rfl rfl ?_
   obtain ⟨r10,hr11,h⟩ := zdw h
   refine oO <| zaq (zqj rl hr11) rfl Tryz.call111 (Dels.cons del0 Dels.nil) rfl fun _ _=>oM rfl rfl <| oP (za1 rfl rfl) rfl <| oP (za1 rfl rfl) rfl <| oA rfl rfl <| oA rfl rfl <| nT <| sR <| oM rfl rfl <| oM rfl rfl <| oA rfl rfl <| oA rfl rfl <| oA rfl rfl <| nT <| zaj ?_
   cases h
   exact fE (res3 Tryz.results101 rfl rfl rfl) () eR
end Go.Proofs
set_option linter.unusedSimpArgs false
set_option linter.unusedVariables false
set_option maxRecDepth 20000
set_option maxHeartbeats 4000000
namespace Go.Proofs
open Go.VG
theorem eqs_37:EqsAt Tryz.prog 37 (fun x => .agg ((tyapi_Target).enc x).toArray) := znm (enc:=(tyapi_Target).enc) (by kernel_rfl) (by kernel_rfl) (fun x y=>[(x.Start == y.Start),(x.Length == y.Length),(x.On.toList == y.On.toList),(x.Offset == y.Offset),(x.Fail == y.Fail)]) (fun x y=>⟨by decide,⟨.int .i64 x.Start,.int .i64 y.Start,fun _=>by kernel_rfl,fun _=>by kernel_rfl,fun w=>run_equalIn_int w 9998 3 _ _ _ _ Tryz.underlying3⟩,⟨by decide,⟨.int .i64 x.Length,.int .i64 y.Length,fun _=>by kernel_rfl,fun _=>by kernel_rfl,fun w=>run_equalIn_int w 9998 3 _ _ _ _ Tryz.underlying3⟩,⟨by decide,⟨.string x.On,.string y.On,fun _=>by kernel_rfl,fun _=>by kernel_rfl,fun w=>run_equalIn_string w 9998 9 _ _ Tryz.underlying9⟩,⟨by decide,⟨.int .i64 x.Offset,.int .i64 y.Offset,fun _=>by kernel_rfl,fun _=>by kernel_rfl,fun w=>run_equalIn_int w 9998 3 _ _ _ _ Tryz.underlying3⟩,⟨by decide,⟨.bool x.Fail,.bool y.Fail,fun _=>by kernel_rfl,fun _=>by kernel_rfl,fun w=>run_equalIn_bool' w 9998 4 _ _ Tryz.underlying4⟩,trivial⟩⟩⟩⟩⟩) (fun x y=>by
  rw [Bool.eq_iff_iff]
  simp only [zqf,List.all_cons,List.all_nil,id,Bool.and_true,Bool.and_eq_true,decide_eq_true_eq,beq_iff_eq,api_Target.ext_iff])
def zc8 (l:List api_Target) (rec:Int→Nat→Option ((Unit) ⊕ Int)) (x6:Int) (x7:Nat):Option ((Unit) ⊕ Int) :=
  if (((x7:Nat):Int) < ((l.length:Nat):Int)) then
    if (((l.getD x7 (⟨0,0,ByteArray.empty,0,false⟩:api_Target))).Start≠x6) then
      some (.inr (2:Int))
    else
      if ((((l.getD x7 (⟨0,0,ByteArray.empty,0,false⟩:api_Target))).Length < (1:Int))∨((16777216:Int) < ((l.getD x7 (⟨0,0,ByteArray.empty,0,false⟩:api_Target))).Length)) then
        some (.inr (1:Int))
      else
        if ((((l.getD x7 (⟨0,0,ByteArray.empty,0,false⟩:api_Target))).Fail=true∧(((l.getD x7 (⟨0,0,ByteArray.empty,0,false⟩:api_Target))).On≠(ByteArray.mk #[])))∨((((l.getD x7 (⟨0,0,ByteArray.empty,0,false⟩:api_Target))).On=(ByteArray.mk #[]))∧(((l.getD x7 (⟨0,0,ByteArray.empty,0,false⟩:api_Target))).Offset≠(0:Int)))) then
          some (.inr (2:Int))
        else
          if ((((l.getD x7 (⟨0,0,ByteArray.empty,0,false⟩:api_Target))).Offset < (0:Int))∨(((16777216:Int) - ((l.getD x7 (⟨0,0,ByteArray.empty,0,false⟩:api_Target))).Length) < ((l.getD x7 (⟨0,0,ByteArray.empty,0,false⟩:api_Target))).Offset)) then
            some (.inr (1:Int))
          else
            grd (inI64 ((x6 + ((l.getD x7 (⟨0,0,ByteArray.empty,0,false⟩:api_Target))).Length))) <|
            rec ((x6 + ((l.getD x7 (⟨0,0,ByteArray.empty,0,false⟩:api_Target))).Length)) (x7 + 1)
  else
    some (.inl ())
def zck (l:List api_Target):Nat→Int→Nat→Option ((Unit) ⊕ Int)
  | 0,_,_=>none
  | n + 1,x6,x7=>zc8 l (zck l n) x6 x7
def zcw (l:List api_Target):Option (Int) :=
  if ((64:Int) < ((l.length:Nat):Int)) then
    some (4:Int)
  else
    seqO (zck l FUEL (0:Int) 0) fun a5 =>
    some (0:Int)
theorem zes {W:World} {Al:HP} {vl:Value} {l:List api_Target} {r:Int} (rl:Reads Al tyapi_Target vl l) (h:zcw l=some r) :
    CSpec Tryz.prog W 75 [vl] [Al] (fun x:Unit => .int .i64 r) (fun _=>True) (fun x F=>Al::F) := by
 refine CSpec.of_body Tryz.func75 rfl Tryz.ntmps75 rfl fun F => ?_
 show CJ _ _ _ _ _ _ (_::F)
 unfold zcw at h
 refine zba (zc4 rl del0) fun hlen1=>sR <| oA rfl rfl <| nT <| zad <| sR <| oM rfl rfl <| oV (V_len rfl foc0 rl Tryz.runUnderlying30) rfl <| oP (P_gtr (a:=((l.length:Nat):Int)) (b:=(64:Int)) rfl rfl) rfl <| nT <| zbs rfl zax (fun hg1 => ?_) (fun hg1 => ?_)
 ·
  replace h := ite_t hg1 h
  refine sR <| oA rfl rfl <| nT <| zaj <| zae ?_
  cases h
  exact fE (res1 Tryz.results75 rfl) () eR
 ·
  replace h := ite_f hg1 h
  refine kT <| sR <| oA rfl rfl <| nT <| zad <| sR <| oA rfl rfl <| nT ?_
  obtain ⟨y4,hl2,hK3⟩ := seq_e h
  refine zdt (X:=Unit) [2,3,4,5,9,10,11,12,13,14,15,16,17,18,19,20,21,22,23,24,25,26,27,28,29,30,31,32,33,34,35,36,37,38,39,40,41,42,43,44,45,46,47,48,49,50,51,52,53,54,55,56,57,58,59,60,61,62,63,64,65,66] (fun _=>([]:Slots)) (fun _ R=>R) (fun _=>y4 = .inl ()) Dels.nil ?_ ?_
  ·
   refine zas <| zbe (X:=Nat × Int × Nat) [2,3,4,5,9,10,11,12,13,14,15,16,17,18,19,20,21,22,23,24,25,26,27,28,29,30,31,32,33,34,35,36,37,38,39,40,41,42,43,44,45,46,47,48,49,50,51,52,53,54,55,56,57,58,59,60,61,62,63,64,65,66] (fun ⟨n,x6,x7⟩=>([(3,.int .i64 x6),(4,.int .i64 (((x7:Nat):Int)))]:Slots)) (fun ⟨n,x6,x7⟩ R=>R) (fun ⟨n,x6,x7⟩=>zck l n x6 x7=some y4) (fun ⟨n,x6,x7⟩=>n) ⟨FUEL,(0:Int),0⟩ ?_ ?_ eR ?_
   · exact hl2
   · exact ⟨rfl,rfl,True.intro⟩
   ·
    rintro ⟨n,x6,x7⟩ h
    cases n with
    | zero=>exact zef h
    | succ n => ?_
    replace h:zc8 l (zck l n) x6 x7=some y4 := h
    unfold zc8 at h
    show CJ _ _ _ _ _ (([(3,.int .i64 x6),(4,.int .i64 (((x7:Nat):Int)))]:Slots) ++ forget _ _) (_)
    refine zad <| sR <| oM rfl rfl <| oM rfl rfl <| oV (V_len rfl foc0 rl Tryz.runUnderlying30) rfl <| oP (P_lss (a:=((x7:Nat):Int)) (b:=((l.length:Nat):Int)) rfl rfl) rfl <| nT <| zbs rfl zax (fun hg2 => ?_) (fun hg2 => ?_)
    ·
     replace h := ite_t hg2 h
     refine kT <| zad <| zas <| sR <| oM rfl rfl <| oM rfl rfl <| oV (zal (i:=x7) rfl rfl rfl (by omega) foc0 rl Tryz.runUnderlying30 Tryz.sizeOf37) rfl <| oV (zb7 rfl rfl (by omega) foc0 rl rfl rfl Tryz.isAgg37 Tryz.sizeOf37) rfl <| oO <| zb1 Tryz.zeroValue37 rfl rfl fun b8=>oO <| zbj rfl rfl foc0 Tryz.sizeOf37 rfl rfl rfl <| nT <| zad <| zas <| sR <| oP (zaa rfl ⟨_,_,_,Tryz.runUnderlying37,rfl,rfl,Tryz.sizeOf3,rfl⟩) rfl <| oV (zag rfl foc0 rfl Tryz.isAgg3) rfl <| oM rfl rfl <| oP (P_neq (a:=((l.getD x7 (⟨0,0,ByteArray.empty,0,false⟩:api_Target))).Start) (b:=x6) rfl rfl) rfl <| oA rfl rfl <| nT <| zbs rfl zax (fun hg3 => ?_) (fun hg3 => ?_)
     ·
      replace h := ite_t hg3 h
      refine sR <| oA rfl rfl <| nT <| zaj <| zam <| zae <| zam <| zae <| zbb <| zam <| zae ?_
      have hE := Option.some.inj h
      replace hE := zd4 hK3 hE.symm
      subst hE
      exact fE (res1 Tryz.results75 rfl) () (t1_ (eD eR))
     ·
      replace h := ite_f hg3 h
      refine sR <| oP (zaa rfl ⟨_,_,_,Tryz.runUnderlying37,rfl,rfl,Tryz.sizeOf3,rfl⟩) rfl <| oV (zag rfl foc0 rfl Tryz.isAgg3) rfl <| oP (P_lss (a:=((l.getD x7 (⟨0,0,ByteArray.empty,0,false⟩:api_Target))).Length) (b:=(1:Int)) rfl rfl) rfl <| oM rfl rfl <| zb6 rfl rfl rfl (fun hG9=>have hP10:¬ (((l.getD x7 (⟨0,0,ByteArray.empty,0,false⟩:api_Target))).Length < (1:Int)) := nP (zax) hG9; VJ_P (zaa rfl ⟨_,_,_,Tryz.runUnderlying37,rfl,rfl,Tryz.sizeOf3,rfl⟩)) <| zb6 rfl rfl rfl (fun hG11=>have hP12:¬ (((l.getD x7 (⟨0,0,ByteArray.empty,0,false⟩:api_Target))).Length < (1:Int)) := nP (zax) hG11; zag (mbx hG11 rfl) foc0 rfl Tryz.isAgg3) <| zb6 rfl rfl rfl (fun hG13=>have hP14:¬ (((l.getD x7 (⟨0,0,ByteArray.empty,0,false⟩:api_Target))).Length < (1:Int)) := nP (zax) hG13; VJ_P (P_gtr (a:=((l.getD x7 (⟨0,0,ByteArray.empty,0,false⟩:api_Target))).Length) (b:=(16777216:Int)) (mbx hG13 rfl) rfl)) <| oP (ze1 rfl rfl (fun hh=>mbx (not_f hh) rfl)) rfl <| oA rfl rfl <| nT <| zbs rfl (bT_or zax zax) (fun hg4 => ?_) (fun hg4 => ?_)
      ·
       replace h := ite_t hg4 h
       refine sR <| oA rfl rfl <| nT <| zaj <| zam <| zae <| zam <| zae <| zbb <| zam <| zae ?_
       have hE := Option.some.inj h
       replace hE := zd4 hK3 hE.symm
       subst hE
       exact fE (res1 Tryz.results75 rfl) () (t1_ (eD eR))
      ·
       replace h := ite_f hg4 h
       refine sR <| oP (zaa rfl ⟨_,_,_,Tryz.runUnderlying37,rfl,rfl,Tryz.sizeOf4,rfl⟩) rfl <| oV (zag rfl foc0 rfl Tryz.isAgg4) rfl <| oM rfl rfl <| zc3 rfl rfl rfl (fun hG15=>have hP16:((l.getD x7 (⟨0,0,ByteArray.empty,0,false⟩:api_Target))).Fail=true := (Iff.rfl).1 hG15; VJ_P (zaa rfl ⟨_,_,_,Tryz.runUnderlying37,rfl,rfl,Tryz.sizeOf9,rfl⟩)) <| zc3 rfl rfl rfl (fun hG17=>have hP18:((l.getD x7 (⟨0,0,ByteArray.empty,0,false⟩:api_Target))).Fail=true := (Iff.rfl).1 hG17; zag (mbx hG17 rfl) foc0 rfl Tryz.isAgg9) <| zc3 rfl rfl rfl (fun hG19=>have hP20:((l.getD x7 (⟨0,0,ByteArray.empty,0,false⟩:api_Target))).Fail=true := (Iff.rfl).1 hG19; VJ_P (zdo (a:=((l.getD x7 (⟨0,0,ByteArray.empty,0,false⟩:api_Target))).On) (b:=(ByteArray.mk #[])) (mbx hG19 rfl) rfl Tryz.underlying9)) <| oP (zek rfl (fun hh=>mbx hh rfl) rfl) rfl <| oM rfl rfl <| zb6 rfl rfl rfl (fun hG21=>have hP22:¬ (((l.getD x7 (⟨0,0,ByteArray.empty,0,false⟩:api_Target))).Fail=true∧(((l.getD x7 (⟨0,0,ByteArray.empty,0,false⟩:api_Target))).On≠(ByteArray.mk #[]))) := nP ((zca Iff.rfl zax)) hG21; VJ_P (zaa rfl ⟨_,_,_,Tryz.runUnderlying37,rfl,rfl,Tryz.sizeOf9,rfl⟩)) ?_
       refine zb6 rfl rfl rfl (fun hG23=>have hP24:¬ (((l.getD x7 (⟨0,0,ByteArray.empty,0,false⟩:api_Target))).Fail=true∧(((l.getD x7 (⟨0,0,ByteArray.empty,0,false⟩:api_Target))).On≠(ByteArray.mk #[]))) := nP ((zca Iff.rfl zax)) hG23; zag (mbx hG23 rfl) foc0 rfl Tryz.isAgg9) <| zb6 rfl rfl rfl (fun hG25=>have hP26:¬ (((l.getD x7 (⟨0,0,ByteArray.empty,0,false⟩:api_Target))).Fail=true∧(((l.getD x7 (⟨0,0,ByteArray.empty,0,false⟩:api_Target))).On≠(ByteArray.mk #[]))) := nP ((zca Iff.rfl zax)) hG25; VJ_P (zcj (a:=((l.getD x7 (⟨0,0,ByteArray.empty,0,false⟩:api_Target))).On) (b:=(ByteArray.mk #[])) (mbx hG25 rfl) rfl Tryz.underlying9)) <| zb6 rfl rfl rfl (fun hG27=>have hP28:¬ (((l.getD x7 (⟨0,0,ByteArray.empty,0,false⟩:api_Target))).Fail=true∧(((l.getD x7 (⟨0,0,ByteArray.empty,0,false⟩:api_Target))).On≠(ByteArray.mk #[]))) := nP ((zca Iff.rfl zax)) hG27; VJ_P (zah (mbx hG27 rfl))) <| zij rfl rfl rfl (fun hG29=>have hP30:¬ (((l.getD x7 (⟨0,0,ByteArray.empty,0,false⟩:api_Target))).Fail=true∧(((l.getD x7 (⟨0,0,ByteArray.empty,0,false⟩:api_Target))).On≠(ByteArray.mk #[]))) := nP ((zca Iff.rfl zax)) (and_l hG29); have hP31:(((l.getD x7 (⟨0,0,ByteArray.empty,0,false⟩:api_Target))).On=(ByteArray.mk #[])) := (zax).1 (and_r hG29); VJ_P (zaa rfl ⟨_,_,_,Tryz.runUnderlying37,rfl,rfl,Tryz.sizeOf3,rfl⟩)) ?_
       refine zij rfl rfl rfl (fun hG32=>have hP33:¬ (((l.getD x7 (⟨0,0,ByteArray.empty,0,false⟩:api_Target))).Fail=true∧(((l.getD x7 (⟨0,0,ByteArray.empty,0,false⟩:api_Target))).On≠(ByteArray.mk #[]))) := nP ((zca Iff.rfl zax)) (and_l hG32); have hP34:(((l.getD x7 (⟨0,0,ByteArray.empty,0,false⟩:api_Target))).On=(ByteArray.mk #[])) := (zax).1 (and_r hG32); zag (mbx hG32 rfl) foc0 rfl Tryz.isAgg3) <| zij rfl rfl rfl (fun hG35=>have hP36:¬ (((l.getD x7 (⟨0,0,ByteArray.empty,0,false⟩:api_Target))).Fail=true∧(((l.getD x7 (⟨0,0,ByteArray.empty,0,false⟩:api_Target))).On≠(ByteArray.mk #[]))) := nP ((zca Iff.rfl zax)) (and_l hG35); have hP37:(((l.getD x7 (⟨0,0,ByteArray.empty,0,false⟩:api_Target))).On=(ByteArray.mk #[])) := (zax).1 (and_r hG35); VJ_P (P_neq (a:=((l.getD x7 (⟨0,0,ByteArray.empty,0,false⟩:api_Target))).Offset) (b:=(0:Int)) (mbx hG35 rfl) rfl)) <| zb6 rfl rfl rfl (fun hG38=>have hP39:¬ (((l.getD x7 (⟨0,0,ByteArray.empty,0,false⟩:api_Target))).Fail=true∧(((l.getD x7 (⟨0,0,ByteArray.empty,0,false⟩:api_Target))).On≠(ByteArray.mk #[]))) := nP ((zca Iff.rfl zax)) hG38; VJ_P (zek (mbx hG38 rfl) (fun hh=>mbx (and_i hG38 hh) rfl) rfl)) <| oP (ze1 rfl rfl (fun hh=>mbx (not_f hh) rfl)) rfl <| oA rfl rfl <| nT <| zbs rfl (bT_or (zca Iff.rfl zax) (zca zax zax)) (fun hg5 => ?_) (fun hg5 => ?_)
       ·
        replace h := ite_t hg5 h
        refine sR <| oA rfl rfl <| nT <| zaj <| zam <| zae <| zam <| zae <| zbb <| zam <| zae ?_
        have hE := Option.some.inj h
        replace hE := zd4 hK3 hE.symm
        subst hE
        exact fE (res1 Tryz.results75 rfl) () (t1_ (eD eR))
       ·
        replace h := ite_f hg5 h
        refine sR <| oP (zaa rfl ⟨_,_,_,Tryz.runUnderlying37,rfl,rfl,Tryz.sizeOf3,rfl⟩) rfl <| oV (zag rfl foc0 rfl Tryz.isAgg3) rfl <| oP (P_lss (a:=((l.getD x7 (⟨0,0,ByteArray.empty,0,false⟩:api_Target))).Offset) (b:=(0:Int)) rfl rfl) rfl <| oM rfl rfl <| zb6 rfl rfl rfl (fun hG40=>have hP41:¬ (((l.getD x7 (⟨0,0,ByteArray.empty,0,false⟩:api_Target))).Offset < (0:Int)) := nP (zax) hG40; VJ_P (zaa rfl ⟨_,_,_,Tryz.runUnderlying37,rfl,rfl,Tryz.sizeOf3,rfl⟩)) <| zb6 rfl rfl rfl (fun hG42=>have hP43:¬ (((l.getD x7 (⟨0,0,ByteArray.empty,0,false⟩:api_Target))).Offset < (0:Int)) := nP (zax) hG42; zag (mbx hG42 rfl) foc0 rfl Tryz.isAgg3) <| zb6 rfl rfl rfl (fun hG44=>have hP45:¬ (((l.getD x7 (⟨0,0,ByteArray.empty,0,false⟩:api_Target))).Offset < (0:Int)) := nP (zax) hG44; VJ_P (zaa rfl ⟨_,_,_,Tryz.runUnderlying37,rfl,rfl,Tryz.sizeOf3,rfl⟩)) <| zb6 rfl rfl rfl (fun hG46=>have hP47:¬ (((l.getD x7 (⟨0,0,ByteArray.empty,0,false⟩:api_Target))).Offset < (0:Int)) := nP (zax) hG46; zag (mbx hG46 rfl) foc0 rfl Tryz.isAgg3) <| zb6 rfl rfl rfl (fun hG48=>have hP49:¬ (((l.getD x7 (⟨0,0,ByteArray.empty,0,false⟩:api_Target))).Offset < (0:Int)) := nP (zax) hG48; VJ_P (P_sub (a:=(16777216:Int)) (b:=((l.getD x7 (⟨0,0,ByteArray.empty,0,false⟩:api_Target))).Length) rfl (mbx hG48 rfl) (by omega))) ?_
        refine zb6 rfl rfl rfl (fun hG50=>have hP51:¬ (((l.getD x7 (⟨0,0,ByteArray.empty,0,false⟩:api_Target))).Offset < (0:Int)) := nP (zax) hG50; VJ_P (P_gtr (a:=((l.getD x7 (⟨0,0,ByteArray.empty,0,false⟩:api_Target))).Offset) (b:=((16777216:Int) - ((l.getD x7 (⟨0,0,ByteArray.empty,0,false⟩:api_Target))).Length)) (mbx hG50 rfl) (mbx hG50 rfl))) <| oP (ze1 rfl rfl (fun hh=>mbx (not_f hh) rfl)) rfl <| oA rfl rfl <| nT <| zbs rfl (bT_or zax zax) (fun hg6 => ?_) (fun hg6 => ?_)
        ·
         replace h := ite_t hg6 h
         refine sR <| oA rfl rfl <| nT <| zaj <| zam <| zae <| zam <| zae <| zbb <| zam <| zae ?_
         have hE := Option.some.inj h
         replace hE := zd4 hK3 hE.symm
         subst hE
         exact fE (res1 Tryz.results75 rfl) () (t1_ (eD eR))
        ·
         replace h := ite_f hg6 h
         refine za8 <| zak <| zat <| zai <| oM rfl rfl <| oP (zaa rfl ⟨_,_,_,Tryz.runUnderlying37,rfl,rfl,Tryz.sizeOf3,rfl⟩) rfl <| oV (zag rfl foc0 rfl Tryz.isAgg3) rfl ?_
         obtain ⟨hg7,h⟩ := zee h
         exact oP (P_add (a:=x6) (b:=((l.getD x7 (⟨0,0,ByteArray.empty,0,false⟩:api_Target))).Length) rfl rfl hg7) rfl <| oA rfl rfl <| za0 <| zak <| zat <| zai <| oM rfl rfl <| oP (PJ_eq (P_add (a:=((x7:Nat):Int)) (b:=(1:Int)) rfl rfl (by omega)) rfl) rfl <| oA rfl rfl <| za0 <| nR ⟨n,(x6 + ((l.getD x7 (⟨0,0,ByteArray.empty,0,false⟩:api_Target))).Length),(x7 + 1)⟩ h ⟨rfl,rfl,True.intro⟩ (t1_ (eD eR))
    ·
     replace h := ite_f hg2 h
     exact zbg <| zaw <| zav <| zau <| cR () (Option.some.inj h).symm True.intro eR
  ·
   rintro _ hy52
   replace h := zgl hK3 hy52
   show CJ _ _ _ _ _ (([]:Slots) ++ forget _ _) (_)
   refine sR <| oA rfl rfl <| nT <| zaj ?_
   cases h
   exact fE (res1 Tryz.results75 rfl) () eR
def zdb (l:List api_Target) (rec:Int→Nat→Option (Int)) (x9:Int) (x10:Nat):Option (Int) :=
  if (((x10:Nat):Int) < ((l.length:Nat):Int)) then
    grd (inI64 ((x9 + ((l.getD x10 (⟨0,0,ByteArray.empty,0,false⟩:api_Target))).Length))) <|
    rec ((x9 + ((l.getD x10 (⟨0,0,ByteArray.empty,0,false⟩:api_Target))).Length)) (x10 + 1)
  else
    some x9
def zcm (l:List api_Target):Nat→Int→Nat→Option (Int)
  | 0,_,_=>none
  | n + 1,x9,x10=>zdb l (zcm l n) x9 x10
def zd5 (l:List api_Target):Option (Int) :=
  Option.bind (zcw l) fun r2 =>
  if (r2≠(0:Int)) then
    some (0:Int)
  else
    Option.bind (zcm l FUEL (0:Int) 0) fun a8 =>
    some a8
theorem zf4 {W:World} {Al:HP} {vl:Value} {l:List api_Target} {r:Int} (rl:Reads Al tyapi_Target vl l) (h:zd5 l=some r) :
    CSpec Tryz.prog W 84 [vl] [Al] (fun x:Unit => .int .i64 r) (fun _=>True) (fun x F=>Al::F) := by
 refine CSpec.of_body Tryz.func84 rfl Tryz.ntmps84 rfl fun F => ?_
 show CJ _ _ _ _ _ _ (_::F)
 unfold zd5 at h
 refine zba (zc4 rl del0) fun hlen1=>sR <| oA rfl rfl <| nT <| zad <| sR <| oM rfl rfl ?_
 obtain ⟨r2,hr3,h⟩ := zdw h
 refine oO <| zaq (zes rl hr3) rfl Tryz.call75 (Dels.cons del0 Dels.nil) rfl fun _ _=>oP (P_neq (a:=r2) (b:=(0:Int)) rfl rfl) rfl <| nT <| zbs rfl zax (fun hg1 => ?_) (fun hg1 => ?_)
 ·
  replace h := ite_t hg1 h
  refine sR <| oA rfl rfl <| nT <| zaj <| zae ?_
  cases h
  exact fE (res1 Tryz.results84 rfl) () eR
 ·
  replace h := ite_f hg1 h
  refine kT <| sR <| oA rfl rfl <| nT <| zad <| sR <| oA rfl rfl <| nT ?_
  obtain ⟨y6,hl4,hK5⟩ := zho h
  refine zdt (X:=Int) [3,4,8,9,10,11,12,13,14,15,16,17,18,19,20] (fun a8=>([(3,.int .i64 a8)]:Slots)) (fun a8 R=>R) (fun a8=>y6=a8) Dels.nil ?_ ?_
  ·
   refine zas <| zbe (X:=Nat × Int × Nat) [3,4,8,9,10,11,12,13,14,15,16,17,18,19,20] (fun ⟨n,x9,x10⟩=>([(3,.int .i64 x9),(4,.int .i64 (((x10:Nat):Int)))]:Slots)) (fun ⟨n,x9,x10⟩ R=>R) (fun ⟨n,x9,x10⟩=>zcm l n x9 x10=some y6) (fun ⟨n,x9,x10⟩=>n) ⟨FUEL,(0:Int),0⟩ ?_ ?_ eR ?_
   · exact hl4
   · exact ⟨rfl,rfl,True.intro⟩
   ·
    rintro ⟨n,x9,x10⟩ h
    cases n with
    | zero=>exact zef h
    | succ n => ?_
    replace h:zdb l (zcm l n) x9 x10=some y6 := h
    unfold zdb at h
    show CJ _ _ _ _ _ (([(3,.int .i64 x9),(4,.int .i64 (((x10:Nat):Int)))]:Slots) ++ forget _ _) (_)
    refine zad <| sR <| oM rfl rfl <| oM rfl rfl <| oV (V_len rfl foc0 rl Tryz.runUnderlying30) rfl <| oP (P_lss (a:=((x10:Nat):Int)) (b:=((l.length:Nat):Int)) rfl rfl) rfl <| nT <| zbs rfl zax (fun hg2 => ?_) (fun hg2 => ?_)
    ·
     replace h := ite_t hg2 h
     refine kT <| zad <| zas <| zai <| oM rfl rfl <| oM rfl rfl <| oM rfl rfl <| oV (zal (i:=x10) rfl rfl rfl (by omega) foc0 rl Tryz.runUnderlying30 Tryz.sizeOf37) rfl <| oP (zay rfl ⟨_,_,_,Tryz.runUnderlying37,rfl,rfl,Tryz.sizeOf3,rfl⟩) rfl <| oV (zaz rfl rfl (by omega) foc0 rl rfl rfl Tryz.isAgg3) rfl ?_
     obtain ⟨hg3,h⟩ := zee h
     exact oP (P_add (a:=x9) (b:=((l.getD x10 (⟨0,0,ByteArray.empty,0,false⟩:api_Target))).Length) rfl rfl hg3) rfl <| oA rfl rfl <| za0 <| zak <| zat <| zai <| oM rfl rfl <| oP (PJ_eq (P_add (a:=((x10:Nat):Int)) (b:=(1:Int)) rfl rfl (by omega)) rfl) rfl <| oA rfl rfl <| za0 <| nR ⟨n,(x9 + ((l.getD x10 (⟨0,0,ByteArray.empty,0,false⟩:api_Target))).Length),(x10 + 1)⟩ h ⟨rfl,rfl,True.intro⟩ eR
    ·
     replace h := ite_f hg2 h
     exact zbg <| zaw <| zav <| zau <| cR x9 (Option.some.inj h).symm ⟨rfl,True.intro⟩ eR
  ·
   rintro a8 hy11
   replace h := zft hK5 hy11
   show CJ _ _ _ _ _ (([(3,.int .i64 a8)]:Slots) ++ forget _ _) (_)
   refine sR <| oM rfl rfl <| oA rfl rfl <| nT <| zaj ?_
   cases h
   exact fE (res1 Tryz.results84 rfl) () eR
def zdc (l:List api_Target) (x9:List ByteArray) (x11:Nat) (rec:Bool→Nat→Option (Bool)) (x18:Bool) (x19:Nat):Option (Bool) :=
  if (((x19:Nat):Int) < ((x9.length:Nat):Int)) then
    if x18=true then
      rec true (x19 + 1)
    else
      rec ((decide ((x9.getD x19 ByteArray.empty)=((l.getD x11 (⟨0,0,ByteArray.empty,0,false⟩:api_Target))).On))) (x19 + 1)
  else
    some x18
def zcn (l:List api_Target) (x9:List ByteArray) (x11:Nat):Nat→Bool→Nat→Option (Bool)
  | 0,_,_=>none
  | n + 1,x18,x19=>zdc l x9 x11 (zcn l x9 x11 n) x18 x19
def zdd (l:List api_Target) (rec:(List ByteArray)→Nat→Option ((List ByteArray))) (x9:List ByteArray) (x11:Nat):Option ((List ByteArray)) :=
  if (((x11:Nat):Int) < ((l.length:Nat):Int)) then
    Option.bind (zcn l x9 x11 FUEL ((decide (((l.getD x11 (⟨0,0,ByteArray.empty,0,false⟩:api_Target))).On=(ByteArray.mk #[])))) 0) fun a17 =>
    if (¬ a17=true) then
      grd (inLen (x9.length + 1)) <|
      rec ((x9 ++ [((l.getD x11 (⟨0,0,ByteArray.empty,0,false⟩:api_Target))).On])) (x11 + 1)
    else
      rec x9 (x11 + 1)
  else
    some x9
def zco (l:List api_Target):Nat→(List ByteArray)→Nat→Option ((List ByteArray))
  | 0,_,_=>none
  | n + 1,x9,x11=>zdd l (zco l n) x9 x11
def zd6 (l:List api_Target):Option ((List ByteArray)) :=
  Option.bind (zco l FUEL ([]) 0) fun a8 =>
  some a8
theorem ziz {W:World} {Al:HP} {vl:Value} {l:List api_Target} {r:(List ByteArray)} (rl:Reads Al tyapi_Target vl l) (h:zd6 l=some r) :
    CSpec Tryz.prog W 86 [vl] [Al] (fun x:Sl3=>x.v) (fun _=>True) (fun x F=>Al::sl tyS x.v r::F) := by
 refine CSpec.of_body Tryz.func86 rfl Tryz.ntmps86 rfl fun F => ?_
 show CJ _ _ _ _ _ _ (_::F)
 unfold zd6 at h
 refine zba (zc4 rl del0) fun hlen1=>sR <| oA rfl rfl <| nT <| sR <| oA rfl rfl <| nT <| zad <| sR <| oA rfl rfl <| nT <| zbd (fun h hh=>zb2 (t:=tyS) h hh) ?_
 obtain ⟨y5,hl3,hK4⟩ := zho h
 refine zdt (X:=(List ByteArray) × Sl3) [3,4,5,6,7,8,9,10,11,12,13,14,15,16,17,18,19,20,21,22,23,24,25,26,27,28,29,30,31,32,33,34,35,36,37,38,39,40,41,42,43,44,45,46,47] (fun ⟨a8,hd7⟩=>([(3,hd7.v)]:Slots)) (fun ⟨a8,hd7⟩ R=>sl tyS hd7.v a8::R) (fun ⟨a8,hd7⟩=>y5=a8) (Dels.cons del0 Dels.nil) ?_ ?_
 ·
  refine zas <| zbe (X:=Nat × (List ByteArray) × Nat × Sl3) [3,4,5,6,7,8,9,10,11,12,13,14,15,16,17,18,19,20,21,22,23,24,25,26,27,28,29,30,31,32,33,34,35,36,37,38,39,40,41,42,43,44,45,46,47] (fun ⟨n,x9,x11,hd10⟩=>([(3,hd10.v),(4,.int .i64 (((x11:Nat):Int)))]:Slots)) (fun ⟨n,x9,x11,hd10⟩ R=>sl tyS hd10.v x9::R) (fun ⟨n,x9,x11,hd10⟩=>zco l n x9 x11=some y5) (fun ⟨n,x9,x11,hd10⟩=>n) ⟨FUEL,[],0,⟨none,0,0⟩⟩ ?_ ?_ eR ?_
  · exact hl3
  · exact ⟨rfl,rfl,True.intro⟩
  ·
   rintro ⟨n,x9,x11,hd10⟩ h
   cases n with
   | zero=>exact zef h
   | succ n => ?_
   replace h:zdd l (zco l n) x9 x11=some y5 := h
   unfold zdd at h
   show CJ _ _ _ _ _ (([(3,hd10.v),(4,.int .i64 (((x11:Nat):Int)))]:Slots) ++ forget _ _) (sl tyS hd10.v x9::_)
   refine lC del0 fun hlen12=>zad <| sR <| oM rfl rfl <| oM rfl rfl <| oV (V_len rfl foc1 rl Tryz.runUnderlying30) rfl <| oP (P_lss (a:=((x11:Nat):Int)) (b:=((l.length:Nat):Int)) rfl rfl) rfl <| nT <| zbs rfl zax (fun hg1 => ?_) (fun hg1 => ?_)
   ·
    replace h := ite_t hg1 h
    refine kT <| zad <| zas <| sR <| oM rfl rfl <| oM rfl rfl <| oV (zal (i:=x11) rfl rfl rfl (by omega) foc1 rl Tryz.runUnderlying30 Tryz.sizeOf37) rfl <| oP (zay rfl ⟨_,_,_,Tryz.runUnderlying37,rfl,rfl,Tryz.sizeOf9,rfl⟩) rfl <| oV (zaz rfl rfl (by omega) foc1 rl rfl rfl Tryz.isAgg9) rfl <| oP (zcj (a:=((l.getD x11 (⟨0,0,ByteArray.empty,0,false⟩:api_Target))).On) (b:=(ByteArray.mk #[])) rfl rfl Tryz.underlying9) rfl <| oA rfl rfl <| nT <| zad <| sR <| oA rfl rfl <| nT ?_
    obtain ⟨y15,hl13,hK14⟩ := zho h
    refine zdt (X:=Bool) [5,6,19,20,21,22,23,24,25,26,27,28,29,30,31,32,33,34,35,36,37] (fun a17=>([(5,.bool a17)]:Slots)) (fun a17 R=>R) (fun a17=>y15=a17) Dels.nil ?_ ?_
    ·
     refine zas <| zbe (X:=Nat × Bool × Nat) [5,6,19,20,21,22,23,24,25,26,27,28,29,30,31,32,33,34,35,36,37] (fun ⟨n,x18,x19⟩=>([(5,.bool x18),(6,.int .i64 (((x19:Nat):Int)))]:Slots)) (fun ⟨n,x18,x19⟩ R=>R) (fun ⟨n,x18,x19⟩=>zcn l x9 x11 n x18 x19=some y15) (fun ⟨n,x18,x19⟩=>n) ⟨FUEL,(decide (((l.getD x11 (⟨0,0,ByteArray.empty,0,false⟩:api_Target))).On=(ByteArray.mk #[]))),0⟩ ?_ ?_ eR ?_
     · exact hl13
     · exact ⟨rfl,rfl,True.intro⟩
     ·
      rintro ⟨n,x18,x19⟩ h
      cases n with
      | zero=>exact zef h
      | succ n => ?_
      replace h:zdc l x9 x11 (zcn l x9 x11 n) x18 x19=some y15 := h
      unfold zdc at h
      show CJ _ _ _ _ _ (([(5,.bool x18),(6,.int .i64 (((x19:Nat):Int)))]:Slots) ++ forget _ _) (_)
      refine zad <| sR <| oM rfl rfl <| oM rfl rfl <| oV (V_len rfl foc0 (Reads.sl _ _ _) Tryz.runUnderlying59) rfl <| oP (P_lss (a:=((x19:Nat):Int)) (b:=((x9.length:Nat):Int)) rfl rfl) rfl <| nT <| zbs rfl zax (fun hg2 => ?_) (fun hg2 => ?_)
      ·
       replace h := ite_t hg2 h
       refine kT <| zad <| zas <| za4 0 (by kernel_rfl) rfl <| aN 0 1 rfl rfl (zah rfl) rfl <| aN 1 3 rfl rfl (zah rfl) rfl <| zud 26 rfl Iff.rfl (fun hg3B hg3 => ?_) (fun hg3B hg3 => ?_)
       ·
        replace h := ite_t hg3 h
        exact aS 2 7 rfl rfl (GY_no rfl rfl rfl hg3B) rfl <| aS 3 15 rfl rfl (GY_no rfl rfl rfl hg3B) rfl <| aS 4 31 rfl rfl (GY_no rfl rfl rfl hg3B) rfl <| aS 5 63 rfl rfl (GY_no rfl rfl rfl hg3B) rfl <| aS 6 127 rfl rfl (GY_no rfl rfl rfl hg3B) rfl <| aS 7 255 rfl rfl (GY_no rfl rfl rfl hg3B) rfl <| aS 8 511 rfl rfl (GY_no rfl rfl rfl hg3B) rfl <| aS 9 1023 rfl rfl (GY_no rfl rfl rfl hg3B) rfl <| aS 10 2047 rfl rfl (GY_no rfl rfl rfl hg3B) rfl <| aS 11 4095 rfl rfl (GY_no rfl rfl rfl hg3B) rfl <| aN 12 8191 rfl rfl (za2 rfl hg3B rfl) rfl <| aN 13 16383 rfl rfl (zbc rfl) rfl <| zds (by kernel_rfl) <| zak <| zat <| zai <| oM rfl rfl <| oP (PJ_eq (P_add (a:=((x19:Nat):Int)) (b:=(1:Int)) rfl rfl (by omega)) rfl) rfl <| oA rfl rfl <| za0 <| nR ⟨n,true,(x19 + 1)⟩ h ⟨rfl,rfl,True.intro⟩ eR
       ·
        replace h := ite_f hg3 h
        refine aP 2 7 rfl rfl (zab rfl rfl rfl hg3B) (zah rfl) rfl <| aP 3 15 rfl rfl (zab rfl rfl rfl hg3B) (zah rfl) rfl <| aV 4 31 rfl rfl (zab rfl rfl rfl hg3B) eR (zal (i:=x19) rfl rfl rfl (by omega) foc0 (Reads.sl _ _ _) Tryz.runUnderlying59 Tryz.sizeOf9) rfl <| aV 5 63 rfl rfl (zab rfl rfl rfl hg3B) eR (zaz rfl rfl (by omega) foc0 (Reads.sl _ _ _) rfl rfl Tryz.isAgg9) rfl <| aP 6 127 rfl rfl (zab rfl rfl rfl hg3B) (zah rfl) rfl <| aP 7 255 rfl rfl (zab rfl rfl rfl hg3B) (zah rfl) rfl <| aV 8 511 rfl rfl (zab rfl rfl rfl hg3B) eR (zal (i:=x11) rfl rfl rfl (by omega) foc1 rl Tryz.runUnderlying30 Tryz.sizeOf37) rfl <| aP 9 1023 rfl rfl (zab rfl rfl rfl hg3B) (zay rfl ⟨_,_,_,Tryz.runUnderlying37,rfl,rfl,Tryz.sizeOf9,rfl⟩) rfl <| aV 10 2047 rfl rfl (zab rfl rfl rfl hg3B) eR (zaz rfl rfl (by omega) foc1 rl rfl rfl Tryz.isAgg9) rfl <| aP 11 4095 rfl rfl (zab rfl rfl rfl hg3B) (zcj (a:=(x9.getD x19 ByteArray.empty)) (b:=((l.getD x11 (⟨0,0,ByteArray.empty,0,false⟩:api_Target))).On) rfl rfl Tryz.underlying9) rfl <| aN 12 8191 rfl rfl (za5 rfl hg3B rfl) rfl <| aN 13 16383 rfl rfl (zbc rfl) rfl <| zds (by kernel_rfl) <| zak <| zat <| zai <| oM rfl rfl <| oP (PJ_eq (P_add (a:=((x19:Nat):Int)) (b:=(1:Int)) rfl rfl (by omega)) rfl) rfl <| oA rfl rfl <| za0 ?_
        exact nR ⟨n,(decide ((x9.getD x19 ByteArray.empty)=((l.getD x11 (⟨0,0,ByteArray.empty,0,false⟩:api_Target))).On)),(x19 + 1)⟩ h ⟨rfl,rfl,True.intro⟩ eR
      ·
       replace h := ite_f hg2 h
       exact zbg <| zaw <| zav <| zau <| cR x18 (Option.some.inj h).symm ⟨rfl,True.intro⟩ eR
    ·
     rintro a17 hy20
     replace h := zft hK14 hy20
     show CJ _ _ _ _ _ (([(5,.bool a17)]:Slots) ++ forget _ _) (_)
     refine sR <| oM rfl rfl <| oP (P_not rfl) rfl <| nT <| zbs rfl (zji Iff.rfl) (fun hg4 => ?_) (fun hg4 => ?_)
     ·
      replace h := ite_t hg4 h
      refine zai <| oM rfl rfl <| oM rfl rfl <| oM rfl rfl <| oV (zal (i:=x11) rfl rfl rfl (by omega) foc1 rl Tryz.runUnderlying30 Tryz.sizeOf37) rfl <| oP (zay rfl ⟨_,_,_,Tryz.runUnderlying37,rfl,rfl,Tryz.sizeOf9,rfl⟩) rfl <| oV (zaz rfl rfl (by omega) foc1 rl rfl rfl Tryz.isAgg9) rfl <| oO <| za7 rfl (zpd _) rfl fun b21 => ?_
      obtain ⟨hg5,h⟩ := zhn h
      exact oO <| zbv (t:=tyS) (bytes:=16) rfl rfl del1 foc0 (Reads.lit (t:=tyS) (ys:=[((l.getD x11 (⟨0,0,ByteArray.empty,0,false⟩:api_Target))).On]) rfl rfl (by decide) (by decide) rfl) Tryz.underlying59 zjj (apl (m:=1) (b:=16) hg5 (by decide)).1 (apl (m:=1) (b:=16) hg5 (by decide)).2 rfl fun p23 c24=>oA rfl rfl <| za0 <| zak <| zat <| zai <| oM rfl rfl <| oP (PJ_eq (P_add (a:=((x11:Nat):Int)) (b:=(1:Int)) rfl rfl (by omega)) rfl) rfl <| oA rfl rfl <| za0 <| nR ⟨n,(x9 ++ [((l.getD x11 (⟨0,0,ByteArray.empty,0,false⟩:api_Target))).On]),(x11 + 1),⟨p23,(x9 ++ [((l.getD x11 (⟨0,0,ByteArray.empty,0,false⟩:api_Target))).On]).length,c24⟩⟩ h ⟨rfl,rfl,True.intro⟩ (t0_ (t1_ (eD eR)))
     ·
      replace h := ite_f hg4 h
      exact za8 <| zak <| zat <| zai <| oM rfl rfl <| oP (PJ_eq (P_add (a:=((x11:Nat):Int)) (b:=(1:Int)) rfl rfl (by omega)) rfl) rfl <| oA rfl rfl <| za0 <| nR ⟨n,x9,(x11 + 1),hd10⟩ h ⟨rfl,rfl,True.intro⟩ eR
   ·
    replace h := ite_f hg1 h
    exact zbg <| zaw <| zav <| zau <| cR ⟨x9,hd10⟩ (Option.some.inj h).symm ⟨rfl,True.intro⟩ eR
 ·
  rintro ⟨a8,hd7⟩ hy25
  replace h := zft hK4 hy25
  show CJ _ _ _ _ _ (([(3,hd7.v)]:Slots) ++ forget _ _) (sl tyS hd7.v a8::_)
  refine lC del0 fun hlen26=>sR <| oM rfl rfl <| oA rfl rfl <| nT <| zaj ?_
  cases h
  exact fE (res1 Tryz.results86 rfl) hd7 (t1_ eR)
def zde (l:List api_Target) (at_1:Int) (rec:Nat→Option ((Unit) ⊕ (Int × Int × Bool))) (x12:Nat):Option ((Unit) ⊕ (Int × Int × Bool)) :=
  if (((x12:Nat):Int) < ((l.length:Nat):Int)) then
    grd (inI64 ((((l.getD x12 (⟨0,0,ByteArray.empty,0,false⟩:api_Target))).Start + ((l.getD x12 (⟨0,0,ByteArray.empty,0,false⟩:api_Target))).Length))) <|
    lt ((((l.getD x12 (⟨0,0,ByteArray.empty,0,false⟩:api_Target))).Start + ((l.getD x12 (⟨0,0,ByteArray.empty,0,false⟩:api_Target))).Length)) fun w13 =>
    if (at_1 < w13) then
      grd (inI64 ((at_1 - ((l.getD x12 (⟨0,0,ByteArray.empty,0,false⟩:api_Target))).Start))) <|
      some (.inr ((((x12:Nat):Int),(at_1 - ((l.getD x12 (⟨0,0,ByteArray.empty,0,false⟩:api_Target))).Start),true)))
    else
      rec (x12 + 1)
  else
    some (.inl ())
def zcp (l:List api_Target) (at_1:Int):Nat→Nat→Option ((Unit) ⊕ (Int × Int × Bool))
  | 0,_=>none
  | n + 1,x12=>zde l at_1 (zcp l at_1 n) x12
def zd7 (l:List api_Target) (at_1:Int):Option (Int × Int × Bool) :=
  Option.bind (zcw l) fun r2 =>
  if ((r2≠(0:Int))∨(at_1 < (0:Int))) then
    some (((0:Int),(0:Int),false))
  else
    seqO (zcp l at_1 FUEL 0) fun a11 =>
    some (((0:Int),(0:Int),false))
theorem zf5 {W:World} {Al:HP} {vl:Value} {l:List api_Target} {at_1:Int} {r:Int × Int × Bool} (rl:Reads Al tyapi_Target vl l) (h:zd7 l at_1=some r) :
    CSpec Tryz.prog W 87 [vl,.int .i64 at_1] [Al] (fun x:Unit => .tuple #[.int .i64 r.1,.int .i64 r.2.1,.bool r.2.2]) (fun _=>True) (fun x F=>Al::F) := by
 refine CSpec.of_body Tryz.func87 rfl Tryz.ntmps87 rfl fun F => ?_
 show CJ _ _ _ _ _ _ (_::F)
 unfold zd7 at h
 refine zba (zc4 rl del0) fun hlen1=>sR <| oA rfl rfl <| oA rfl rfl <| oA rfl rfl <| nT <| zad <| sR <| oM rfl rfl ?_
 obtain ⟨r2,hr3,h⟩ := zdw h
 refine oO <| zaq (zes rl hr3) rfl Tryz.call75 (Dels.cons del0 Dels.nil) rfl fun _ _=>oP (P_neq (a:=r2) (b:=(0:Int)) rfl rfl) rfl <| oM rfl rfl <| zb6 rfl rfl rfl (fun hG4=>have hP5:¬ (r2≠(0:Int)) := nP (zax) hG4; VJ_P (zah rfl)) <| zb6 rfl rfl rfl (fun hG6=>have hP7:¬ (r2≠(0:Int)) := nP (zax) hG6; VJ_P (P_lss (a:=at_1) (b:=(0:Int)) (mbx hG6 rfl) rfl)) <| oP (ze1 rfl rfl (fun hh=>mbx (not_f hh) rfl)) rfl <| nT <| zbs rfl (bT_or zax zax) (fun hg1 => ?_) (fun hg1 => ?_)
 ·
  replace h := ite_t hg1 h
  refine sR <| oA rfl rfl <| oA rfl rfl <| oA rfl rfl <| nT <| zaj <| zae ?_
  cases h
  exact fE (res3 Tryz.results87 rfl rfl rfl) () eR
 ·
  replace h := ite_f hg1 h
  refine kT <| zad <| sR <| oA rfl rfl <| nT ?_
  obtain ⟨y10,hl8,hK9⟩ := seq_e h
  refine zdt (X:=Unit) [4,5,6,7,15,16,17,18,19,20,21,22,23,24,25,26,27,28,29,30,31,32,33,34,35,36,37,38,39,40,41] (fun _=>([]:Slots)) (fun _ R=>R) (fun _=>y10 = .inl ()) Dels.nil ?_ ?_
  ·
   refine zas <| zbe (X:=Nat × Nat) [4,5,6,7,15,16,17,18,19,20,21,22,23,24,25,26,27,28,29,30,31,32,33,34,35,36,37,38,39,40,41] (fun ⟨n,x12⟩=>([(7,.int .i64 (((x12:Nat):Int)))]:Slots)) (fun ⟨n,x12⟩ R=>R) (fun ⟨n,x12⟩=>zcp l at_1 n x12=some y10) (fun ⟨n,x12⟩=>n) ⟨FUEL,0⟩ ?_ ?_ eR ?_
   · exact hl8
   · exact ⟨rfl,True.intro⟩
   ·
    rintro ⟨n,x12⟩ h
    cases n with
    | zero=>exact zef h
    | succ n => ?_
    replace h:zde l at_1 (zcp l at_1 n) x12=some y10 := h
    unfold zde at h
    show CJ _ _ _ _ _ (([(7,.int .i64 (((x12:Nat):Int)))]:Slots) ++ forget _ _) (_)
    refine zad <| sR <| oM rfl rfl <| oM rfl rfl <| oV (V_len rfl foc0 rl Tryz.runUnderlying30) rfl <| oP (P_lss (a:=((x12:Nat):Int)) (b:=((l.length:Nat):Int)) rfl rfl) rfl <| nT <| zbs rfl zax (fun hg2 => ?_) (fun hg2 => ?_)
    ·
     replace h := ite_t hg2 h
     refine kT <| zad <| zas <| zad <| za4 0 (by kernel_rfl) rfl <| aN 0 1 rfl rfl (zah rfl) rfl <| aN 1 3 rfl rfl (zah rfl) rfl <| aN 2 7 rfl rfl (zah rfl) rfl <| aV 3 15 rfl rfl (zac rfl) eR (zal (i:=x12) rfl rfl rfl (by omega) foc0 rl Tryz.runUnderlying30 Tryz.sizeOf37) rfl <| aN 4 31 rfl rfl (zay rfl ⟨_,_,_,Tryz.runUnderlying37,rfl,rfl,Tryz.sizeOf3,rfl⟩) rfl <| aV 5 63 rfl rfl (zac rfl) eR (zaz rfl rfl (by omega) foc0 rl rfl rfl Tryz.isAgg3) rfl <| aN 6 127 rfl rfl (zah rfl) rfl <| aN 7 255 rfl rfl (zah rfl) rfl <| aV 8 511 rfl rfl (zac rfl) eR (zal (i:=x12) rfl rfl rfl (by omega) foc0 rl Tryz.runUnderlying30 Tryz.sizeOf37) rfl <| aN 9 1023 rfl rfl (zay rfl ⟨_,_,_,Tryz.runUnderlying37,rfl,rfl,Tryz.sizeOf3,rfl⟩) rfl <| aV 10 2047 rfl rfl (zac rfl) eR (zaz rfl rfl (by omega) foc0 rl rfl rfl Tryz.isAgg3) rfl ?_
     obtain ⟨hg3,h⟩ := zee h
     refine aN 11 4095 rfl rfl (P_add (a:=((l.getD x12 (⟨0,0,ByteArray.empty,0,false⟩:api_Target))).Start) (b:=((l.getD x12 (⟨0,0,ByteArray.empty,0,false⟩:api_Target))).Length) rfl rfl hg3) rfl ?_
     obtain ⟨w13,hw13,h⟩ := lt_e h
     rw [← hw13]
     refine aN 12 8191 rfl rfl (P_lss (a:=at_1) (b:=w13) rfl rfl) rfl <| aD <| zbs rfl zax (fun hg4 => ?_) (fun hg4 => ?_)
     ·
      replace h := ite_t hg4 h
      refine zad <| za4 0 (by kernel_rfl) rfl <| aN 0 1 rfl rfl (zah rfl) rfl <| aN 1 3 rfl rfl (zah rfl) rfl <| aN 2 7 rfl rfl (zah rfl) rfl <| aN 3 15 rfl rfl (zah rfl) rfl <| aV 4 31 rfl rfl (zac rfl) eR (zal (i:=x12) rfl rfl rfl (by omega) foc0 rl Tryz.runUnderlying30 Tryz.sizeOf37) rfl <| aN 5 63 rfl rfl (zay rfl ⟨_,_,_,Tryz.runUnderlying37,rfl,rfl,Tryz.sizeOf3,rfl⟩) rfl <| aV 6 127 rfl rfl (zac rfl) eR (zaz rfl rfl (by omega) foc0 rl rfl rfl Tryz.isAgg3) rfl ?_
      obtain ⟨hg5,h⟩ := zee h
      refine aN 7 255 rfl rfl (P_sub (a:=at_1) (b:=((l.getD x12 (⟨0,0,ByteArray.empty,0,false⟩:api_Target))).Start) rfl rfl hg5) rfl <| aN 8 511 rfl rfl (zbc rfl) rfl <| aN 9 1023 rfl rfl (zbc rfl) rfl <| aN 10 2047 rfl rfl (zbc rfl) rfl <| aD <| zaj <| zam <| zae <| zbb <| zam <| zae ?_
      have hE := Option.some.inj h
      replace hE := zd4 hK9 hE.symm
      subst hE
      exact fE (res3 Tryz.results87 rfl rfl rfl) () eR
     ·
      replace h := ite_f hg4 h
      exact za8 <| zak <| zat <| zai <| oM rfl rfl <| oP (PJ_eq (P_add (a:=((x12:Nat):Int)) (b:=(1:Int)) rfl rfl (by omega)) rfl) rfl <| oA rfl rfl <| za0 <| nR ⟨n,(x12 + 1)⟩ h ⟨rfl,True.intro⟩ eR
    ·
     replace h := ite_f hg2 h
     exact zbg <| zaw <| zav <| zau <| cR () (Option.some.inj h).symm True.intro eR
  ·
   rintro _ hy14
   replace h := zgl hK9 hy14
   show CJ _ _ _ _ _ (([]:Slots) ++ forget _ _) (_)
   refine sR <| oA rfl rfl <| oA rfl rfl <| oA rfl rfl <| nT <| zaj ?_
   cases h
   exact fE (res3 Tryz.results87 rfl rfl rfl) () eR
def zdf (a:List api_Target) (b:List api_Target) (rec:Nat→Option ((Unit) ⊕ Bool)) (x7:Nat):Option ((Unit) ⊕ Bool) :=
  if (((x7:Nat):Int) < ((a.length:Nat):Int)) then
    if ((a.getD x7 (⟨0,0,ByteArray.empty,0,false⟩:api_Target))≠(b.getD x7 (⟨0,0,ByteArray.empty,0,false⟩:api_Target))) then
      some (.inr false)
    else
      rec (x7 + 1)
  else
    some (.inl ())
def zcq (a:List api_Target) (b:List api_Target):Nat→Nat→Option ((Unit) ⊕ Bool)
  | 0,_=>none
  | n + 1,x7=>zdf a b (zcq a b n) x7
def zd8 (a:List api_Target) (b:List api_Target):Option (Bool) :=
  if (((a.length:Nat):Int)≠((b.length:Nat):Int)) then
    some false
  else
    seqO (zcq a b FUEL 0) fun a6 =>
    some true
theorem zf6 {W:World} {Aa:HP} {va:Value} {Ab:HP} {vb:Value} {a:List api_Target} {b:List api_Target} {r:Bool} (ra:Reads Aa tyapi_Target va a) (rb:Reads Ab tyapi_Target vb b) (h:zd8 a b=some r) :
    CSpec Tryz.prog W 46 [va,vb] [Aa,Ab] (fun x:Unit => .bool r) (fun _=>True) (fun x F=>Aa::Ab::F) := by
 refine CSpec.of_body Tryz.func46 rfl Tryz.ntmps46 rfl fun F => ?_
 show CJ _ _ _ _ _ _ (_::_::F)
 unfold zd8 at h
 refine zba (zc4 ra del0) fun hlen1=>zba (zc4 rb del1) fun hlen2=>sR <| oA rfl rfl <| nT <| zad <| sR <| oM rfl rfl <| oV (V_len rfl foc0 ra Tryz.runUnderlying30) rfl <| oM rfl rfl <| oV (V_len rfl foc1 rb Tryz.runUnderlying30) rfl <| oP (P_neq (a:=((a.length:Nat):Int)) (b:=((b.length:Nat):Int)) rfl rfl) rfl <| nT <| zbs rfl zax (fun hg1 => ?_) (fun hg1 => ?_)
 ·
  replace h := ite_t hg1 h
  refine sR <| oA rfl rfl <| nT <| zaj <| zae ?_
  cases h
  exact fE (res1 Tryz.results46 rfl) () eR
 ·
  replace h := ite_f hg1 h
  refine kT <| zad <| sR <| oA rfl rfl <| nT ?_
  obtain ⟨y5,hl3,hK4⟩ := seq_e h
  refine zdt (X:=Unit) [4,5,11,12,13,14,15,16,17,18,19,20,21,22,23,24,25] (fun _=>([]:Slots)) (fun _ R=>R) (fun _=>y5 = .inl ()) Dels.nil ?_ ?_
  ·
   refine zas <| zbe (X:=Nat × Nat) [4,5,11,12,13,14,15,16,17,18,19,20,21,22,23,24,25] (fun ⟨n,x7⟩=>([(5,.int .i64 (((x7:Nat):Int)))]:Slots)) (fun ⟨n,x7⟩ R=>R) (fun ⟨n,x7⟩=>zcq a b n x7=some y5) (fun ⟨n,x7⟩=>n) ⟨FUEL,0⟩ ?_ ?_ eR ?_
   · exact hl3
   · exact ⟨rfl,True.intro⟩
   ·
    rintro ⟨n,x7⟩ h
    cases n with
    | zero=>exact zef h
    | succ n => ?_
    replace h:zdf a b (zcq a b n) x7=some y5 := h
    unfold zdf at h
    show CJ _ _ _ _ _ (([(5,.int .i64 (((x7:Nat):Int)))]:Slots) ++ forget _ _) (_)
    refine zad <| sR <| oM rfl rfl <| oM rfl rfl <| oV (V_len rfl foc0 ra Tryz.runUnderlying30) rfl <| oP (P_lss (a:=((x7:Nat):Int)) (b:=((a.length:Nat):Int)) rfl rfl) rfl <| nT <| zbs rfl zax (fun hg2 => ?_) (fun hg2 => ?_)
    ·
     replace h := ite_t hg2 h
     refine kT <| zad <| zas <| zad <| za4 0 (by kernel_rfl) rfl <| aN 0 1 rfl rfl (zah rfl) rfl <| aN 1 3 rfl rfl (zah rfl) rfl <| aV 2 7 rfl rfl (zac rfl) eR (zal (i:=x7) rfl rfl rfl (by omega) foc0 ra Tryz.runUnderlying30 Tryz.sizeOf37) rfl <| aV 3 15 rfl rfl (zac rfl) eR (zb7 rfl rfl (by omega) foc0 ra rfl rfl Tryz.isAgg37 Tryz.sizeOf37) rfl <| aN 4 31 rfl rfl (zah rfl) rfl <| aN 5 63 rfl rfl (zah rfl) rfl <| aV 6 127 rfl rfl (zac rfl) eR (zal (i:=x7) rfl rfl rfl (by omega) foc1 rb Tryz.runUnderlying30 Tryz.sizeOf37) rfl <| aV 7 255 rfl rfl (zac rfl) eR (zb7 rfl rfl (by omega) foc1 rb rfl rfl Tryz.isAgg37 Tryz.sizeOf37) rfl <| aN 8 511 rfl rfl (zuk (enc:=(tyapi_Target).enc) ((a.getD x7 (⟨0,0,ByteArray.empty,0,false⟩:api_Target))) ((b.getD x7 (⟨0,0,ByteArray.empty,0,false⟩:api_Target))) rfl rfl eqs_37 (by kernel_rfl)) rfl <| aD <| zbs rfl zax (fun hg3 => ?_) (fun hg3 => ?_)
     ·
      replace h := ite_t hg3 h
      refine sR <| oA rfl rfl <| nT <| zaj <| zam <| zae <| zbb <| zam <| zae ?_
      have hE := Option.some.inj h
      replace hE := zd4 hK4 hE.symm
      subst hE
      exact fE (res1 Tryz.results46 rfl) () eR
     ·
      replace h := ite_f hg3 h
      exact za8 <| zak <| zat <| zai <| oM rfl rfl <| oP (PJ_eq (P_add (a:=((x7:Nat):Int)) (b:=(1:Int)) rfl rfl (by omega)) rfl) rfl <| oA rfl rfl <| za0 <| nR ⟨n,(x7 + 1)⟩ h ⟨rfl,True.intro⟩ eR
    ·
     replace h := ite_f hg2 h
     exact zbg <| zaw <| zav <| zau <| cR () (Option.some.inj h).symm True.intro eR
  ·
   rintro _ hy8
   replace h := zgl hK4 hy8
   show CJ _ _ _ _ _ (([]:Slots) ++ forget _ _) (_)
   refine sR <| oA rfl rfl <| nT <| zaj ?_
   cases h
   exact fE (res1 Tryz.results46 rfl) () eR
def zdg (l:List api_Target) (name:ByteArray) (rec:Nat→Option ((Unit) ⊕ Bool)) (x6:Nat):Option ((Unit) ⊕ Bool) :=
  if (((x6:Nat):Int) < ((l.length:Nat):Int)) then
    if ((((l.getD x6 (⟨0,0,ByteArray.empty,0,false⟩:api_Target))).On=name)∧(name≠(ByteArray.mk #[]))) then
      some (.inr true)
    else
      rec (x6 + 1)
  else
    some (.inl ())
def zcr (l:List api_Target) (name:ByteArray):Nat→Nat→Option ((Unit) ⊕ Bool)
  | 0,_=>none
  | n + 1,x6=>zdg l name (zcr l name n) x6
def zd9 (l:List api_Target) (name:ByteArray):Option (Bool) :=
  seqO (zcr l name FUEL 0) fun a5 =>
  some false
theorem zdv {W:World} {Al:HP} {vl:Value} {l:List api_Target} {name:ByteArray} {r:Bool} (rl:Reads Al tyapi_Target vl l) (h:zd9 l name=some r) :
    CSpec Tryz.prog W 61 [vl,.string name] [Al] (fun x:Unit => .bool r) (fun _=>True) (fun x F=>Al::F) := by
 refine CSpec.of_body Tryz.func61 rfl Tryz.ntmps61 rfl fun F => ?_
 show CJ _ _ _ _ _ _ (_::F)
 unfold zd9 at h
 refine zba (zc4 rl del0) fun hlen1=>sR <| oA rfl rfl <| nT <| zad <| sR <| oA rfl rfl <| nT ?_
 obtain ⟨y4,hl2,hK3⟩ := seq_e h
 refine zdt (X:=Unit) [4,5,6,7,8,9,10,11,12,13,14,15,16,17,18,19,20,21,22] (fun _=>([]:Slots)) (fun _ R=>R) (fun _=>y4 = .inl ()) Dels.nil ?_ ?_
 ·
  refine zas <| zbe (X:=Nat × Nat) [4,5,6,7,8,9,10,11,12,13,14,15,16,17,18,19,20,21,22] (fun ⟨n,x6⟩=>([(5,.int .i64 (((x6:Nat):Int)))]:Slots)) (fun ⟨n,x6⟩ R=>R) (fun ⟨n,x6⟩=>zcr l name n x6=some y4) (fun ⟨n,x6⟩=>n) ⟨FUEL,0⟩ ?_ ?_ eR ?_
  · exact hl2
  · exact ⟨rfl,True.intro⟩
  ·
   rintro ⟨n,x6⟩ h
   cases n with
   | zero=>exact zef h
   | succ n => ?_
   replace h:zdg l name (zcr l name n) x6=some y4 := h
   unfold zdg at h
   show CJ _ _ _ _ _ (([(5,.int .i64 (((x6:Nat):Int)))]:Slots) ++ forget _ _) (_)
   refine zad <| sR <| oM rfl rfl <| oM rfl rfl <| oV (V_len rfl foc0 rl Tryz.runUnderlying30) rfl <| oP (P_lss (a:=((x6:Nat):Int)) (b:=((l.length:Nat):Int)) rfl rfl) rfl <| nT <| zbs rfl zax (fun hg1 => ?_) (fun hg1 => ?_)
   ·
    replace h := ite_t hg1 h
    refine kT <| zad <| zas <| sR <| oM rfl rfl <| oM rfl rfl <| oV (zal (i:=x6) rfl rfl rfl (by omega) foc0 rl Tryz.runUnderlying30 Tryz.sizeOf37) rfl <| oP (zay rfl ⟨_,_,_,Tryz.runUnderlying37,rfl,rfl,Tryz.sizeOf9,rfl⟩) rfl <| oV (zaz rfl rfl (by omega) foc0 rl rfl rfl Tryz.isAgg9) rfl <| oM rfl rfl <| oP (zcj (a:=((l.getD x6 (⟨0,0,ByteArray.empty,0,false⟩:api_Target))).On) (b:=name) rfl rfl Tryz.underlying9) rfl <| oM rfl rfl <| zc3 rfl rfl rfl (fun hG7=>have hP8:(((l.getD x6 (⟨0,0,ByteArray.empty,0,false⟩:api_Target))).On=name) := (zax).1 hG7; VJ_P (zah rfl)) <| zc3 rfl rfl rfl (fun hG9=>have hP10:(((l.getD x6 (⟨0,0,ByteArray.empty,0,false⟩:api_Target))).On=name) := (zax).1 hG9; VJ_P (zdo (a:=name) (b:=(ByteArray.mk #[])) (mbx hG9 rfl) rfl Tryz.underlying9)) <| oP (zek rfl (fun hh=>mbx hh rfl) rfl) rfl <| nT <| zbs rfl (zca zax zax) (fun hg2 => ?_) (fun hg2 => ?_)
    ·
     replace h := ite_t hg2 h
     refine sR <| oA rfl rfl <| nT <| zaj <| zam <| zae <| zbb <| zam <| zae ?_
     have hE := Option.some.inj h
     replace hE := zd4 hK3 hE.symm
     subst hE
     exact fE (res1 Tryz.results61 rfl) () eR
    ·
     replace h := ite_f hg2 h
     exact za8 <| zak <| zat <| zai <| oM rfl rfl <| oP (PJ_eq (P_add (a:=((x6:Nat):Int)) (b:=(1:Int)) rfl rfl (by omega)) rfl) rfl <| oA rfl rfl <| za0 <| nR ⟨n,(x6 + 1)⟩ h ⟨rfl,True.intro⟩ eR
   ·
    replace h := ite_f hg1 h
    exact zbg <| zaw <| zav <| zau <| cR () (Option.some.inj h).symm True.intro eR
 ·
  rintro _ hy11
  replace h := zgl hK3 hy11
  show CJ _ _ _ _ _ (([]:Slots) ++ forget _ _) (_)
  refine sR <| oA rfl rfl <| nT <| zaj ?_
  cases h
  exact fE (res1 Tryz.results61 rfl) () eR
def zc2 (from_1:ByteArray) (to:ByteArray) (rec:(List api_Target)→Nat→Option ((List api_Target))) (x11:List api_Target) (x12:Nat):Option ((List api_Target)) :=
  if (((x12:Nat):Int) < ((x11.length:Nat):Int)) then
    if (((x11.getD x12 (⟨0,0,ByteArray.empty,0,false⟩:api_Target))).On=from_1) then
      rec ((x11.set x12 ({ x11.getD x12 (⟨0,0,ByteArray.empty,0,false⟩:api_Target) with On := to }))) (x12 + 1)
    else
      rec x11 (x12 + 1)
  else
    some x11
def zch (from_1:ByteArray) (to:ByteArray):Nat→(List api_Target)→Nat→Option ((List api_Target))
  | 0,_,_=>none
  | n + 1,x11,x12=>zc2 from_1 to (zch from_1 to n) x11 x12
def zdq (l:List api_Target) (from_1:ByteArray) (to:ByteArray):Option ((List api_Target)) :=
  grd (inLen (0 + l.length)) <|
  Option.bind (zch from_1 to FUEL ([] ++ l) 0) fun a10 =>
  some a10
theorem zfi {W:World} {Al:HP} {vl:Value} {l:List api_Target} {from_1:ByteArray} {to:ByteArray} {r:(List api_Target)} (rl:Reads Al tyapi_Target vl l) (h:zdq l from_1 to=some r) :
    CSpec Tryz.prog W 67 [vl,.string from_1,.string to] [Al] (fun x:Sl3=>x.v) (fun _=>True) (fun x F=>Al::sl tyapi_Target x.v r::F) := by
 refine CSpec.of_body Tryz.func67 rfl Tryz.ntmps67 rfl fun F => ?_
 show CJ _ _ _ _ _ _ (_::F)
 unfold zdq at h
 refine zba (zc4 rl del0) fun hlen1=>sR <| oA rfl rfl <| nT <| sR <| oM rfl rfl ?_
 obtain ⟨hg1,h⟩ := zhn h
 refine zcl (fun h hh=>zb2 (t:=tyapi_Target) h hh) <| oO <| zbv (t:=tyapi_Target) (bytes:=48) rfl rfl del0 foc0 rl Tryz.underlying30 zcf (apl (m:=l.length) (b:=48) hg1 (by decide)).1 (apl (m:=l.length) (b:=48) hg1 (by decide)).2 rfl fun p4 c5=>oA rfl rfl <| nT <| zad <| sR <| oA rfl rfl <| nT ?_
 obtain ⟨y8,hl6,hK7⟩ := zho h
 refine zdt (X:=(List api_Target)) [8,11,12,13,14,15,16,17,18,19,20,21,22,23,24,25,26,27,28] (fun a10=>([]:Slots)) (fun a10 R=>sl tyapi_Target (.slice p4 ([] ++ l).length c5) a10::R) (fun a10=>y8=a10) (Dels.cons del0 Dels.nil) ?_ ?_
 ·
  refine zas <| zbe (X:=Nat × (List api_Target) × Nat) [8,11,12,13,14,15,16,17,18,19,20,21,22,23,24,25,26,27,28] (fun ⟨n,x11,x12⟩=>([(8,.int .i64 (((x12:Nat):Int)))]:Slots)) (fun ⟨n,x11,x12⟩ R=>sl tyapi_Target (.slice p4 ([] ++ l).length c5) x11::R) (fun ⟨n,x11,x12⟩=>zch from_1 to n x11 x12=some y8) (fun ⟨n,x11,x12⟩=>n) ⟨FUEL,([] ++ l),0⟩ ?_ ?_ eR ?_
  · exact hl6
  · exact ⟨rfl,True.intro⟩
  ·
   rintro ⟨n,x11,x12⟩ h
   cases n with
   | zero=>exact zef h
   | succ n => ?_
   replace h:zc2 from_1 to (zch from_1 to n) x11 x12=some y8 := h
   unfold zc2 at h
   show CJ _ _ _ _ _ (([(8,.int .i64 (((x12:Nat):Int)))]:Slots) ++ forget _ _) (sl tyapi_Target (.slice p4 ([] ++ l).length c5) x11::_)
   refine lC del0 fun hlen13=>zad <| sR <| oM rfl rfl <| oM rfl rfl <| oV (V_len rfl foc0 (Reads.sl _ _ _) Tryz.runUnderlying30) rfl <| oP (P_lss (a:=((x12:Nat):Int)) (b:=((x11.length:Nat):Int)) rfl rfl) rfl <| nT <| zbs rfl zax (fun hg2 => ?_) (fun hg2 => ?_)
   ·
    replace h := ite_t hg2 h
    refine kT <| zad <| zas <| sR <| oM rfl rfl <| oM rfl rfl <| oV (zal (i:=x12) rfl rfl rfl (by omega) foc0 (Reads.sl _ _ _) Tryz.runUnderlying30 Tryz.sizeOf37) rfl <| oP (zay rfl ⟨_,_,_,Tryz.runUnderlying37,rfl,rfl,Tryz.sizeOf9,rfl⟩) rfl <| oV (zaz rfl rfl (by omega) foc0 (Reads.sl _ _ _) rfl rfl Tryz.isAgg9) rfl <| oM rfl rfl <| oP (zcj (a:=((x11.getD x12 (⟨0,0,ByteArray.empty,0,false⟩:api_Target))).On) (b:=from_1) rfl rfl Tryz.underlying9) rfl <| nT <| zbs rfl zax (fun hg3 => ?_) (fun hg3 => ?_)
    ·
     replace h := ite_t hg3 h
     exact zai <| oM rfl rfl <| oM rfl rfl <| oM rfl rfl <| oV (zal (i:=x12) rfl rfl rfl (by omega) foc0 (Reads.sl _ _ _) Tryz.runUnderlying30 Tryz.sizeOf37) rfl <| oP (zay rfl ⟨_,_,_,Tryz.runUnderlying37,rfl,rfl,Tryz.sizeOf9,rfl⟩) rfl <| oO <| zb3 (x' := { x11.getD x12 (⟨0,0,ByteArray.empty,0,false⟩:api_Target) with On := to }) rfl rfl rfl (by omega) foc0 rfl rfl rfl Tryz.sizeOf9 <| za0 <| zak <| zat <| zai <| oM rfl rfl <| oP (PJ_eq (P_add (a:=((x12:Nat):Int)) (b:=(1:Int)) rfl rfl (by omega)) rfl) rfl <| oA rfl rfl <| za0 <| nR ⟨n,(x11.set x12 ({ x11.getD x12 (⟨0,0,ByteArray.empty,0,false⟩:api_Target) with On := to })),(x12 + 1)⟩ h ⟨rfl,True.intro⟩ eR
    ·
     replace h := ite_f hg3 h
     exact za8 <| zak <| zat <| zai <| oM rfl rfl <| oP (PJ_eq (P_add (a:=((x12:Nat):Int)) (b:=(1:Int)) rfl rfl (by omega)) rfl) rfl <| oA rfl rfl <| za0 <| nR ⟨n,x11,(x12 + 1)⟩ h ⟨rfl,True.intro⟩ eR
   ·
    replace h := ite_f hg2 h
    exact zbg <| zaw <| zav <| zau <| cR x11 (Option.some.inj h).symm True.intro eR
 ·
  rintro a10 hy14
  replace h := zft hK7 hy14
  show CJ _ _ _ _ _ (([]:Slots) ++ forget _ _) (sl tyapi_Target (.slice p4 ([] ++ l).length c5) a10::_)
  refine lC del0 fun hlen15=>sR <| oM rfl rfl <| oA rfl rfl <| nT <| zaj ?_
  cases h
  exact fE (res1 Tryz.results67 rfl) ⟨p4,([] ++ l).length,c5⟩ (t1_ eR)
end Go.Proofs
set_option linter.unusedSimpArgs false
set_option linter.unusedVariables false
set_option maxRecDepth 20000
set_option maxHeartbeats 4000000
namespace Go.Proofs
open Go.VG
@[ext] structure api_Task where
  Kind:Int
  At:Int
  Value:UInt64
  deriving DecidableEq
@[ext] structure api_Answer where
  Done:Bool
  Ticket:Int
  Value:UInt64
  Error:Int
  deriving DecidableEq
abbrev tyapi_Answer:Ty api_Answer := { T := 51,sz := 4,enc := fun x=>[.bool x.Done,.int .i64 x.Ticket,.int .u64 (x.Value.toNat:Int),.int .i64 x.Error],dflt := ⟨false,0,0,0⟩,len := fun _=>rfl,one := fun _=>rfl,pos := by decide }
theorem zea:ElemOk Tryz.prog tyapi_Answer 32 := ⟨Tryz.t51,.agg #[.bool false,.int .i64 0,.int .u64 0,.int .i64 0],by kernel_rfl,rfl,rfl,rfl,rfl⟩
end Go.Proofs
namespace Go.Proofs
structure Wt where
  tk:Nat
  gv:Nat
  t:api_Task
deriving DecidableEq
structure Dv where
  gone:Bool
  isB:Bool
  name:ByteArray
  base:List UInt64
  live:List api_Target
  new:List api_Target
  hl:Bool
  hn:Bool
  susp:Bool
  wait:List Wt
abbrev noN:ByteArray := ByteArray.mk #[]
abbrev tgt0:api_Target := ⟨0,0,ByteArray.empty,0,false⟩
abbrev tsk0:api_Task := ⟨0,0,0⟩
def Wt.z:Wt := ⟨0,0,tsk0⟩
abbrev ans0:api_Answer := ⟨false,0,0,0⟩
def Dv.z:Dv := ⟨false,false,ByteArray.empty,[],[],[],false,false,false,[]⟩
structure Md where
  dv:List Dv
  tks:Nat
  told:List api_Answer
  cl:Nat
  wr:Nat
def Md.at (m:Md) (k:Nat):Dv := m.dv.getD k Dv.z
def Md.set (m:Md) (k:Nat) (d:Dv):Md := { m with dv := m.dv.set k d }
def chkGo:List api_Target→Int→Int
  | [],_=>0
  | t::l,s =>
    if t.Start≠s then 2
    else if t.Length < 1∨16777216 < t.Length then 1
    else if (t.Fail=true∧t.On≠noN)∨(t.On=noN∧t.Offset≠0) then 2
    else if t.Offset < 0∨16777216 - t.Length < t.Offset then 1
    else chkGo l (s + t.Length)
def chk (l:List api_Target):Int := if 64 < l.length then 4 else chkGo l 0
def tsum:List api_Target→Int
  | []=>0
  | t::l=>t.Length + tsum l
def tsize (l:List api_Target):Int := if chk l=0 then tsum l else 0
def zfw:List api_Target→Nat→Int→Option (Nat × Int)
  | [],_,_=>none
  | t::l,i,a=>if a < t.Start + t.Length then some (i,a - t.Start) else zfw l (i + 1) a
def tfind (l:List api_Target) (a:Int):Option (Nat × Int) := if chk l≠0∨a < 0 then none else zfw l 0 a
def memS (p:List ByteArray) (n:ByteArray):Bool := p.any fun x=>decide (x=n)
def zey:List api_Target→List ByteArray→List ByteArray
  | [],o=>o
  | t::l,o=>zey l (if t.On=noN∨memS o t.On=true then o else o ++ [t.On])
def tuses (l:List api_Target):List ByteArray := zey l []
def nam (l:List api_Target) (n:ByteArray):Bool := l.any fun t=>decide (t.On=n∧n≠noN)
namespace Md
def isN (d:Dv) (n:ByteArray):Bool := !d.gone && decide (d.name=n)
def find (m:Md) (n:ByteArray):Option Nat := m.dv.findIdx? fun d=>isN d n
def dev (m:Md) (n:ByteArray):Option Nat := (m.find n).bind fun k=>if (m.at k).isB then none else some k
def names (m:Md):List ByteArray := (m.dv.filter fun d => !d.gone).map (·.name)
def freshE (m:Md) (n:ByteArray):Int := if n.size < 1∨40 < n.size then 10 else if (m.find n).isSome then 9 else 0
def addE (m:Md) (n:ByteArray):Int := if m.freshE n≠0 then m.freshE n else if 256≤m.names.length then 4 else 0
def addS (m:Md) (d:Dv):Md := if m.addE d.name=0 then { m with dv := m.dv ++ [d] } else m
def crE (m:Md) (n:ByteArray):Int := m.addE n
def crS (m:Md) (n:ByteArray):Md := m.addS { Dv.z with name := n }
def baS (m:Md) (n:ByteArray) (size:Nat):Md := m.addS { Dv.z with name := n,isB := true,base := List.replicate size 0 }
def usesD (d:Dv) (n:ByteArray):Bool := !d.gone && (nam d.live n || nam d.new n)
def users (m:Md) (n:ByteArray):Nat := m.dv.countP fun d=>usesD d n
def busy (m:Md) (k:Nat):Bool := decide ((m.at k).wait≠[]) || m.dv.any fun d=>d.wait.any fun w=>decide (w.gv=k)
def rmE (m:Md) (n:ByteArray):Int := match m.find n with
  | none=>12
  | some k=>if 0 < m.users n then 16 else if m.busy k then 20 else 0
def rmS (m:Md) (n:ByteArray):Md := match m.find n with
  | none=>m
  | some k=>if m.rmE n=0 then m.set k { m.at k with gone := true } else m
def ren (l:List api_Target) (a b:ByteArray):List api_Target := l.map fun t=>if t.On=a then { t with On := b } else t
def rnE (m:Md) (n to:ByteArray):Int := match m.dev n with
  | none=>12
  | some _=>m.freshE to
def rnS (m:Md) (n to:ByteArray):Md := match m.dev n with
  | none=>m
  | some k=>if m.freshE to=0 then { m with dv := (m.dv.set k { m.at k with name := to }).map fun d => { d with live := ren d.live n to,new := ren d.new n to } } else m
def size (m:Md) (k:Nat):Int := if (m.at k).isB then ((m.at k).base.length:Int) else tsize (m.at k).live
def sizeN (m:Md) (n:ByteArray):Int := match m.find n with
  | none=>0
  | some k=>m.size k
def fits (m:Md) (l:List api_Target):Bool := l.all fun t=>decide (t.On=noN∨t.Offset + t.Length≤m.sizeN t.On)
def reach (m:Md) (k:Nat):Nat→ByteArray→Bool
  | 0,_=>false
  | f + 1,n=>match m.find n with
    | none=>false
    | some i=>decide (i=k) || ((m.at i).live ++ (m.at i).new).any fun t=>decide (t.On≠noN) && reach m k f t.On
def ldE (m:Md) (n:ByteArray) (l:List api_Target):Int := match m.dev n with
  | none=>12
  | some k =>
    if chk l≠0 then chk l
    else if l.any (fun t=>decide (t.On≠noN) && (m.find t.On).isNone) then 12
    else if l.any (fun t=>decide (t.On≠noN) && m.reach k (m.dv.length + 1) t.On) then 21
    else if m.fits l then 0 else 1
def ldS (m:Md) (n:ByteArray) (l:List api_Target):Md := match m.dev n with
  | none=>m
  | some k=>if m.ldE n l=0 then m.set k { m.at k with new := l,hn := true } else m
def ulE (m:Md) (n:ByteArray):Int := match m.dev n with
  | none=>12
  | some k=>if (m.at k).hn then 0 else 20
def ulS (m:Md) (n:ByteArray):Md := match m.dev n with
  | none=>m
  | some k=>if (m.at k).hn then m.set k { m.at k with new := [],hn := false } else m
def way (m:Md):Nat→Nat→api_Task→Option Nat
  | 0,_,_=>none
  | f + 1,k,t =>
    if (m.at k).isB then none
    else if (m.at k).susp then some k
    else if t.Kind=3 then (tuses (m.at k).live).findSome? fun n=>(m.find n).bind fun j=>way m f j t
    else match tfind (m.at k).live t.At with
      | none=>none
      | some (i,o) =>
        let x := (m.at k).live.getD i tgt0
        if x.On=noN then none else (m.find x.On).bind fun j=>way m f j { t with At := x.Offset + o }
def wayk (m:Md) (k:Nat) (t:api_Task):Option Nat := m.way (m.dv.length + 1) k t
def carry (m:Md):Nat→Nat→api_Task→(UInt64 × Int) × Md
  | 0,_,_=>((0,0),m)
  | f + 1,k,t =>
    if t.Kind=3 then ((0,0),m)
    else if t.At < 0∨m.size k≤t.At then ((0,1),m)
    else if (m.at k).isB then
      if t.Kind=2 then ((0,0), { m.set k { m.at k with base := (m.at k).base.set t.At.toNat t.Value } with wr := m.wr + 1 }) else (((m.at k).base.getD t.At.toNat 0,0),m)
    else match tfind (m.at k).live t.At with
      | none=>((0,1),m)
      | some (i,o) =>
        let x := (m.at k).live.getD i tgt0
        if x.Fail then ((0,7),m)
        else if x.On=noN then ((0,if t.Kind=2 then 22 else 0),m)
        else match m.find x.On with
          | none=>((0,1),m)
          | some j=>carry m f j { t with At := x.Offset + o }
def carryk (m:Md) (k:Nat) (t:api_Task):(UInt64 × Int) × Md := m.carry (m.dv.length + 1) k t
def addW (m:Md) (k:Nat) (w:Wt):Md := m.set k { m.at k with wait := (m.at k).wait ++ [w] }
def doE (m:Md) (n:ByteArray) (t:api_Task):Int := match m.find n with
  | none=>12
  | some k=>if t.Kind < 1∨3 < t.Kind then 17 else if (m.at k).isB=false∧(m.at k).hl=false∧(m.at k).susp=false then 20 else 0
def doA (m:Md) (n:ByteArray) (t:api_Task):api_Answer := if m.doE n t≠0 then ans0 else match m.find n with
  | none=>ans0
  | some k=>match m.wayk k t with
    | some _=>⟨false,((m.tks + 1:Nat):Int),0,0⟩
    | none=>⟨true,0,(m.carryk k t).1.1,(m.carryk k t).1.2⟩
def doS (m:Md) (n:ByteArray) (t:api_Task):Md := if m.doE n t≠0 then m else match m.find n with
  | none=>m
  | some k=>match m.wayk k t with
    | some w => { m with tks := m.tks + 1 }.addW w ⟨m.tks + 1,k,t⟩
    | none=>(m.carryk k t).2
def suE (m:Md) (n:ByteArray):Int := match m.dev n with
  | none=>12
  | some k=>if (m.at k).susp=true∨(m.wayk k ⟨3,0,0⟩).isSome then 20 else 0
def suS (m:Md) (n:ByteArray):Md := match m.dev n with
  | none=>m
  | some k=>if m.suE n=0 then m.set k { m.at k with susp := true } else m
def needs (m:Md) (k:Nat) (z:Int):Bool := m.dv.all fun d=>d.gone || (d.live ++ d.new).all fun t=>decide (t.On≠(m.at k).name∨t.Offset + t.Length≤z)
def rsE (m:Md) (n:ByteArray):Int := match m.dev n with
  | none=>12
  | some k =>
    let d := m.at k
    if d.susp=false∨(d.hl=false∧d.hn=false) then 20
    else if d.hn=true∧(m.needs k (tsize d.new)=false∨m.fits d.new=false) then 1
    else 0
def rsT (m:Md) (x:Wt):Md := match m.wayk x.gv x.t with
  | some w=>m.addW w x
  | none => { (m.carryk x.gv x.t).2 with told := (m.carryk x.gv x.t).2.told ++ [⟨true,(x.tk:Int),(m.carryk x.gv x.t).1.1,(m.carryk x.gv x.t).1.2⟩] }
def rsX (d:Dv):Dv := if d.hn then { d with live := d.new,hl := true,new := [],hn := false } else d
def rsS (m:Md) (n:ByteArray):Md := match m.dev n with
  | none=>m
  | some k=>if m.rsE n=0 then (m.at k).wait.foldl rsT (m.set k { rsX (m.at k) with susp := false,wait := [] }) else m
def anS (m:Md):Md := { m with told := [] }
end Md
end Go.Proofs
namespace Go.Proofs
open Go.VG
theorem dropD {α:Type} {l:List α} {i:Nat} (d:α) (h:i < l.length):l.drop i=l.getD i d::l.drop (i + 1) := by
  rw [List.drop_eq_getElem_cons h]; simp [List.getD,h]
theorem in64 {x:Int} (h : -9223372036854775808≤x∧x≤9223372036854775807):inI64 x=true := inI64_iff.2 h
theorem zir {n:Nat} (h:n≤1000000000):inLen n=true := by unfold inLen; exact Nat.ble_eq_true_of_le h
def errS (e:Int):Unit ⊕ Int := if e=0 then .inl () else .inr e
section
variable {l:List api_Target}
theorem zwz:∀ (N x:Nat) (s:Int),l.length - x < N→x≤l.length→l.length≤64→0≤s→s≤(x:Int) * 16777216 →
    zep l N x s=some (errS (chkGo (l.drop x) s)) := by
  intro N
  induction N with
  | zero=>intro x s h; omega
  | succ N ih =>
    intro x s h1 h2 h3 h4 h5
    simp only [zep,zff]
    by_cases hx:x < l.length
    · rw [if_pos (by omega),dropD tgt0 hx]
      simp only [chkGo]
      generalize l.getD x tgt0=t
      by_cases c1:t.Start≠s
      · rw [if_pos c1,if_pos c1]; rfl
      · rw [if_neg c1,if_neg c1]
        by_cases c2:t.Length < 1∨16777216 < t.Length
        · rw [if_pos c2,if_pos c2]; rfl
        · rw [if_neg c2,if_neg c2]
          by_cases c3:(t.Fail=true∧t.On≠noN)∨t.On=noN∧t.Offset≠0
          · rw [if_pos c3]
            rw [if_pos c3]; rfl
          · rw [if_neg c3]
            rw [if_neg c3]
            by_cases c4:t.Offset < 0∨16777216 - t.Length < t.Offset
            · rw [if_pos c4,if_pos c4]; rfl
            · rw [if_neg c4,if_neg c4]
              have hb:x * 16777216≤64 * 16777216 := Nat.mul_le_mul_right _ (by omega)
              rw [in64 (by omega)]
              exact ih (x + 1) _ (by omega) hx h3 (by omega) (by omega)
    · rw [if_neg (by omega),List.drop_eq_nil_of_le (by omega)]; rfl
theorem zmx:zfm l=some (chk l) := by
  unfold zfm chk
  by_cases h:64 < l.length
  · rw [if_pos (by omega),if_pos h]
  · rw [if_neg (by omega),if_neg h]
    have hF := zdn
    generalize FUEL=N at hF ⊢
    rw [zwz N 0 0 (by omega) (by omega) (by omega) (by omega) (by omega),List.drop_zero]
    unfold errS
    by_cases c:chkGo l 0=0
    · rw [if_pos c,c]; rfl
    · rw [if_neg c]; rfl
theorem zw0 {p:List ByteArray} {n:ByteArray} : ∀ (N x:Nat),p.length - x < N→x≤p.length →
    zcv p n N x=some (match (p.drop x).findIdx? (fun y=>decide (y=n)) with | some j => .inr ((x + j:Nat):Int) | none => .inl ()) := by
  intro N
  induction N with
  | zero=>intro x h; omega
  | succ N ih =>
    intro x h1 h2
    simp only [zcv,zdp]
    by_cases hx:x < p.length
    · rw [if_pos (by omega),dropD ByteArray.empty hx,List.findIdx?_cons]
      by_cases c:n=p.getD x ByteArray.empty
      · rw [if_pos c,if_pos (by simp [c])]; rfl
      · rw [if_neg c,if_neg (by simp; exact fun h=>c h.symm),ih (x + 1) (by omega) hx]
        cases (p.drop (x + 1)).findIdx? (fun y=>decide (y=n)) with
        | none=>rfl
        | some j=>simp; omega
    · rw [if_neg (by omega),List.drop_eq_nil_of_le (by omega)]; rfl
def idxS (p:List ByteArray) (n:ByteArray):Int := match p.findIdx? (fun y=>decide (y=n)) with | some j=>(j:Int) | none => -1
theorem zqk {p:List ByteArray} {n:ByteArray} (h:p.length≤1000000000):zdx p n=some (idxS p n) := by
  unfold zdx idxS
  have hF := zdn
  generalize FUEL=N at hF ⊢
  rw [zw0 N 0 (by omega) (by omega),List.drop_zero]
  cases p.findIdx? (fun y=>decide (y=n)) with
  | none=>rfl
  | some j=>simp [seqO]
theorem mem_memS {p:List ByteArray} {n:ByteArray} : memS p n=true↔n ∈ p := by unfold memS; simp
theorem idxS_mem {p:List ByteArray} {n:ByteArray} : 0≤idxS p n↔n ∈ p := by
  unfold idxS
  cases h:p.findIdx? (fun y=>decide (y=n)) with
  | none =>
    rw [List.findIdx?_eq_none_iff] at h
    constructor
    · intro h2; simp at h2
    · intro h2; have := h n h2; simp at this
  | some j =>
    obtain ⟨hj,h2,_⟩ := List.findIdx?_eq_some_iff_getElem.1 h
    have h3:p[j]=n := by simpa using h2
    exact ⟨fun _=>h3 ▸ List.getElem_mem hj,fun _=>by simp⟩
theorem zem {p:List ByteArray} {n:ByteArray} (h:p.length≤1000000000):zda p n=some (memS p n) := by
  unfold zda
  rw [zqk h,Option.bind_some]
  refine congrArg some ?_
  rw [Bool.eq_iff_iff,decide_eq_true_iff,mem_memS]; exact idxS_mem
theorem zns:∀ (l:List api_Target) (o:List ByteArray),(zey l o).length≤o.length + l.length
  | [],o=>Nat.le_refl _
  | t::l,o=>by
    have := zns l (if t.On=noN∨memS o t.On=true then o else o ++ [t.On])
    have h2:(if t.On=noN∨memS o t.On=true then o else o ++ [t.On]).length≤o.length + 1 := by split <;> simp
    simp only [zey,List.length_cons]; omega
theorem zyj:∀ (N x:Nat) (o:List ByteArray),l.length - x < N→x≤l.length→o.length≤x→l.length≤1000000 →
    zev l N o x=some (zey (l.drop x) o) := by
  intro N
  induction N with
  | zero=>intro x o h; omega
  | succ N ih =>
    intro x o h1 h2 h3 h4
    simp only [zev,zfo]
    by_cases hx:x < l.length
    · rw [if_pos (by omega),dropD tgt0 hx]
      simp only [zey]
      generalize l.getD x tgt0=t
      by_cases c1:t.On≠noN
      · refine (if_pos c1).trans ?_
        rw [zem (by omega),Option.bind_some]
        by_cases c2:memS o t.On=true
        · rw [if_neg (by simp [c2]),ih (x + 1) o (by omega) hx (by omega) h4,if_pos (.inr c2)]
        · rw [if_pos (by simp [c2]),zir (by omega)]
          refine (ih (x + 1) _ (by omega) hx (by simp; omega) h4).trans ?_
          rw [if_neg (fun h=>h.elim c1 c2)]
      · have c1':t.On=noN := Classical.not_not.1 c1
        refine (if_neg c1).trans ?_
        rw [ih (x + 1) o (by omega) hx (by omega) h4,if_pos (.inl c1')]
    · rw [if_neg (by omega),List.drop_eq_nil_of_le (by omega)]; rfl
theorem zjk (h:l.length≤1000000):zic l=some (tuses l) := by
  unfold zic tuses
  have hF := zdn
  generalize FUEL=N at hF ⊢
  rw [zyj N 0 [] (by omega) (by omega) (by simp) h,List.drop_zero]; rfl
end
end Go.Proofs
namespace Go.Proofs
open Go.VG
section
variable {l:List api_Target}
theorem ztg {t:api_Target} {s:Int} (h:chkGo (t::l) s=0):t.Start=s∧1≤t.Length∧t.Length≤16777216∧0≤t.Offset∧t.Offset≤16777216 - t.Length∧chkGo l (s + t.Length)=0 := by
  simp only [chkGo] at h
  split at h
  · cases h
  · rename_i c1
    split at h
    · cases h
    · rename_i c2
      split at h
      · cases h
      · split at h
        · cases h
        · rename_i c4
          exact ⟨Classical.not_not.1 c1,by omega,by omega,by omega,by omega,h⟩
theorem zgx:∀ (l:List api_Target) (s:Int),chkGo l s=0 → ∀ i,i < l.length→(l.getD i tgt0).Start=s + tsum (l.take i)∧1≤(l.getD i tgt0).Length∧(l.getD i tgt0).Length≤16777216∧0≤(l.getD i tgt0).Offset∧(l.getD i tgt0).Offset≤16777216 - (l.getD i tgt0).Length
  | [],_,_,i,hi=>by simp at hi
  | t::l,s,h,i,hi=>by
    obtain ⟨h1,h2,h3,h4,h5,h6⟩ := ztg h
    cases i with
    | zero=>exact ⟨by simp [tsum,h1],h2,h3,h4,h5⟩
    | succ i =>
      obtain ⟨g1,g2⟩ := zgx l _ h6 i (by simpa using hi)
      simp only [List.getD_cons_succ,List.take_succ_cons,tsum]
      exact ⟨by omega,g2⟩
theorem zhq:∀ (a:List api_Target) (t:api_Target),tsum (a ++ [t])=tsum a + t.Length
  | [],t=>by simp [tsum]
  | x::a,t=>by simp only [List.cons_append,tsum,zhq a t]; omega
theorem takeD {α:Type} {l:List α} {i:Nat} (d:α) (h:i < l.length):l.take (i + 1)=l.take i ++ [l.getD i d] := by
  rw [List.take_add_one,List.getElem?_eq_getElem h]; simp [List.getD,h]
theorem zfx (h:chkGo l 0=0):∀ i,i≤l.length→0≤tsum (l.take i)∧tsum (l.take i)≤(i:Int) * 16777216
  | 0,_=>by simp [tsum]
  | i + 1,hi=>by
    obtain ⟨g1,g2⟩ := zfx h i (by omega)
    have := zgx l 0 h i (by omega)
    rw [takeD tgt0 (by omega),zhq]; omega
theorem zk6 (h:chkGo l 0=0) {i:Nat} : ∀ j,i≤j→j≤l.length→tsum (l.take i) + ((j:Int) - (i:Int))≤tsum (l.take j)
  | 0,hi,_=>by obtain rfl:i=0 := by omega
               simp
  | j + 1,hi,hj=>by
    rcases Nat.lt_or_ge i (j + 1) with h1 | h1
    · have g := zk6 h (i:=i) j (by omega) (by omega)
      have := zgx l 0 h j (by omega)
      rw [takeD tgt0 (show j < l.length by omega),zhq]; omega
    · obtain rfl:i=j + 1 := by omega
      omega
def tend (l:List api_Target) (i:Nat):Int := tsum (l.take (i + 1))
theorem zjl (h:chkGo l 0=0) {i:Nat} (hi:i < l.length):(l.getD i tgt0).Start + (l.getD i tgt0).Length=tend l i := by
  unfold tend
  rw [takeD tgt0 hi,zhq]; have := zgx l 0 h i hi; omega
theorem zse (h:chkGo l 0=0) {i j:Nat} (hij:i < j) (hj:j < l.length):tend l i < tend l j := by
  have := zk6 h (i:=i + 1) (j + 1) (by omega) (by omega)
  unfold tend; omega
theorem zbx (h:chk l=0):l.length≤64∧chkGo l 0=0 := by
  unfold chk at h
  split at h
  · cases h
  · exact ⟨by omega,h⟩
theorem zlz (h:chk l=0):0≤tsum l∧tsum l≤1073741824 := by
  obtain ⟨h1,h2⟩ := zbx h
  have := zfx h2 l.length (Nat.le_refl _)
  rw [List.take_length] at this; omega
theorem zsf (h:chk l=0):zf3 l=some (tsum l) := by
  obtain ⟨h1,h2⟩ := zbx h
  unfold zf3
  cases l with
  | nil=>rfl
  | cons t r =>
    rw [if_neg (by simp; omega)]
    have e:((((t::r).length:Nat):Int) - 1).toNat=r.length := by simp
    simp only [lt,e]
    have h3 := zjl (l:=t::r) h2 (i:=r.length) (by simp)
    have h4 := zlz h
    have h5:tend (t::r) r.length=tsum (t::r) := by unfold tend; rw [List.take_of_length_le (by simp)]
    rw [h5] at h3
    rw [h3,in64 (by omega)]; rfl
theorem zos:zid l=some (tsize l) := by
  unfold zid tsize
  rw [zmx,Option.bind_some]
  by_cases h:chk l=0
  · rw [if_neg (by simpa using h),zsf h,if_pos h]; rfl
  · rw [if_pos h,if_neg h]
theorem half' {a:Nat} (h:a≤1000000000):IntKind.i64.wrap ((zeu (zeg (a:Int)) 1).toNat:Int)=((a / 2:Nat):Int) := by
  have h1 := zku (a:Int)
  have h2:(zeg (a:Int)).toNat=a := by omega
  have e:(zeu (zeg (a:Int)) 1).toNat=a / 2 := by rw [zki,h2]; rfl
  rw [e,zgf (by omega) (by omega)]
theorem zuz (h:chkGo l 0=0) (hl:l.length≤64) {a:Int} : ∀ (N i j:Nat),j - i < N→i≤j→j≤l.length→(∀ q,q < i→tend l q≤a)→(∀ q,j≤q→q < l.length→a < tend l q) →
    ∃ r:Nat,zce l a N (i:Int) (j:Int)=some (r:Int)∧r≤l.length∧(∀ q,q < r→tend l q≤a)∧(∀ q,r≤q→q < l.length→a < tend l q) := by
  intro N
  induction N with
  | zero=>intro i j h1; omega
  | succ N ih =>
    intro i j h1 h2 h3 h4 h5
    simp only [zce,zcz]
    by_cases hij:i < j
    · rw [if_pos (by omega),in64 (by omega)]
      have e:((i:Int) + (j:Int))=((i + j:Nat):Int) := by omega
      simp only [grd,e,half' (show i + j≤1000000000 by omega),cond_true]
      have hm:(i + j) / 2 < l.length := by omega
      have e2:zfv (((i + j) / 2:Nat):Int) l a=some (decide (a < tend l ((i + j) / 2))) := by
        unfold zfv
        have g := zjl h hm
        have g2 := zfx h ((i + j) / 2 + 1) (by omega)
        unfold tend at g
        simp only [grd,Int.toNat_natCast,lt]
        rw [show (decide (0≤(((i + j) / 2:Nat):Int)∧(((i + j) / 2:Nat):Int) < (l.length:Int)))=true by simp; omega]
        simp only [cond_true]
        show (bif inI64 ((l.getD ((i + j) / 2) tgt0).Start + (l.getD ((i + j) / 2) tgt0).Length) then some (decide (a < (l.getD ((i + j) / 2) tgt0).Start + (l.getD ((i + j) / 2) tgt0).Length)) else none)=some (decide (a < tsum (l.take ((i + j) / 2 + 1))))
        generalize (l.getD ((i + j) / 2) tgt0).Start + (l.getD ((i + j) / 2) tgt0).Length=z at g ⊢
        subst g
        rw [in64 (by omega)]
        rfl
      rw [e2,Option.bind_some]
      by_cases c:a < tend l ((i + j) / 2)
      · rw [if_neg (by simpa using c)]
        refine ih i ((i + j) / 2) (by omega) (by omega) (by omega) h4 fun q g1 g2 => ?_
        rcases Nat.lt_or_ge ((i + j) / 2) q with g | g
        · have := zse h g g2; omega
        · obtain rfl:q=(i + j) / 2 := by omega
          exact c
      · rw [if_pos (by simpa using c),in64 (by omega)]
        have e3:((((i + j) / 2:Nat):Int) + 1)=(((i + j) / 2 + 1:Nat):Int) := by omega
        simp only [cond_true,lt,e3]
        refine ih ((i + j) / 2 + 1) j (by omega) (by omega) h3 (fun q g1 => ?_) h5
        rcases Nat.lt_or_ge q ((i + j) / 2) with g | g
        · have := zse h g hm; omega
        · obtain rfl:q=(i + j) / 2 := by omega
          omega
    · rw [if_neg (by omega)]
      obtain rfl:i=j := by omega
      exact ⟨i,rfl,h3,h4,h5⟩
theorem zpe (h:chkGo l 0=0) {a:Int} {r:Nat} (hr:r < l.length) (h1:∀ q,q < r→tend l q≤a) (h2:a < tend l r):∀ (m i:Nat),i + m=r→zfw (l.drop i) i a=some (r,a - (l.getD r tgt0).Start)
  | 0,i,e=>by
    obtain rfl:i=r := by omega
    have := zjl h hr
    rw [dropD tgt0 hr]; simp only [zfw]
    rw [if_pos (by omega)]
  | m + 1,i,e=>by
    have hi:i < l.length := by omega
    have := zjl h hi
    have := h1 i (by omega)
    rw [dropD tgt0 hi]; simp only [zfw]
    rw [if_neg (by omega)]
    exact zpe h hr h1 h2 m (i + 1) (by omega)
theorem zmo (h:chkGo l 0=0) {a:Int} (h1:∀ q,q < l.length→tend l q≤a):∀ (m i:Nat),i + m=l.length→zfw (l.drop i) i a=none
  | 0,i,e=>by rw [List.drop_eq_nil_of_le (by omega)]; rfl
  | m + 1,i,e=>by
    have hi:i < l.length := by omega
    have := zjl h hi
    have := h1 i (by omega)
    rw [dropD tgt0 hi]; simp only [zfw]
    rw [if_neg (by omega)]
    exact zmo h h1 m (i + 1) (by omega)
def ze8 (o:Option (Nat × Int)):Int × Int × Bool := match o with | some (i,a)=>((i:Int),a,true) | none=>(0,0,false)
theorem zig (h:chk l=0) {a:Int} (ha:0≤a):(tsum l≤a∧tfind l a=none) ∨ ∃ r,r < l.length∧(∀ q,q < r→tend l q≤a)∧a < tend l r∧a < tsum l∧tfind l a=some (r,a - (l.getD r tgt0).Start) := by
  obtain ⟨h1,h2⟩ := zbx h
  have e:tfind l a=zfw l 0 a := by unfold tfind; rw [if_neg (by simp [h]; exact ha)]
  rcases (show a < tsum l∨tsum l≤a by omega) with g | g
  · -- the first one
    have:∃ r,r < l.length∧(∀ q,q < r→tend l q≤a)∧a < tend l r := by
      have key:∀ n,n≤l.length→(∀ q,q < n→tend l q≤a) ∨ ∃ r,r < l.length∧(∀ q,q < r→tend l q≤a)∧a < tend l r := by
        intro n
        induction n with
        | zero=>intro _; exact .inl fun q hq=>by omega
        | succ n ih =>
          intro hn
          rcases ih (by omega) with g1 | g1
          · by_cases c:a < tend l n
            · exact .inr ⟨n,hn,g1,c⟩
            · refine .inl fun q hq => ?_
              rcases Nat.lt_or_ge q n with g2 | g2
              · exact g1 q g2
              · obtain rfl:q=n := by omega
                omega
          · exact .inr g1
      rcases key l.length (Nat.le_refl _) with g1 | g1
      · exfalso
        cases hl:l.length with
        | zero=>rw [List.eq_nil_of_length_eq_zero hl] at g; simp [tsum] at g; omega
        | succ n =>
          have := g1 n (by omega)
          unfold tend at this
          rw [List.take_of_length_le (by omega)] at this; omega
      · exact g1
    obtain ⟨r,g1,g2,g3⟩ := this
    exact .inr ⟨r,g1,g2,g3,g,by rw [e]; exact zpe h2 g1 g2 g3 r 0 (by omega)⟩
  · refine .inl ⟨g,?_⟩
    rw [e]
    refine zmo h2 (fun q hq => ?_) l.length 0 (by omega)
    have := zk6 h2 (i:=q + 1) l.length (by omega) (Nat.le_refl _)
    rw [List.take_length] at this; unfold tend; omega
theorem zsg {a:Int} : zif l a=some (ze8 (tfind l a)) := by
  unfold zif
  rw [zmx,Option.bind_some]
  by_cases h:chk l≠0∨a < 0
  · rw [if_pos h]; unfold tfind; rw [if_pos h]; rfl
  · rw [if_neg h]
    have h0:chk l=0 := Classical.not_not.1 fun y=>h (.inl y)
    have ha:0≤a := by omega
    have hb := zlz h0
    obtain ⟨h1,h2⟩ := zbx h0
    rw [zsf h0,Option.bind_some]
    rcases zig h0 ha with ⟨g1,g2⟩ | ⟨r,g1,g2,g3,g4,g5⟩
    · rw [if_pos g1,g2]; rfl
    · rw [if_neg (by omega),g5]
      unfold zie zdk
      have hF := zdn
      generalize FUEL=N at hF ⊢
      obtain ⟨r',q1,q2,q3,q4⟩ := zuz h2 h1 (a:=a) N 0 l.length (by omega) (by omega) (Nat.le_refl _) (fun q hq=>by omega) (fun q h3 h4=>by omega)
      have e0:((0:Nat):Int)=0 := rfl
      rw [e0] at q1
      have er:r' = r := by
        rcases Nat.lt_trichotomy r' r with g | g | g
        · have := g2 r' g; have := q4 r' (Nat.le_refl _) (by omega); omega
        · exact g
        · have := q3 r g; omega
      subst er
      rw [q1]
      simp only [Option.bind_some,grd,Int.toNat_natCast,lt]
      have hs := zgx l 0 h2 r' g1
      have hs2 := zfx h2 r' (by omega)
      rw [show decide (0≤(r':Int)∧(r':Int) < (l.length:Int))=true by simp; omega]
      have hg:inI64 (a - (l.getD r' tgt0).Start)=true := in64 (by omega)
      exact (congrArg (fun b=>Option.bind (bif b then some ((r':Int),a - (l.getD r' tgt0).Start) else none) fun r10=>some (r10.1,r10.2,true)) hg).trans rfl
end
end Go.Proofs
namespace Go.Proofs
open Go.VG
section
variable {l:List api_Target}
theorem zu0:∀ (N x:Nat) (s:Int),l.length - x < N→x≤l.length→l.length≤64→0≤s→s≤(x:Int) * 16777216 →
    zck l N s x=some (errS (chkGo (l.drop x) s)) := by
  intro N
  induction N with
  | zero=>intro x s h; omega
  | succ N ih =>
    intro x s h1 h2 h3 h4 h5
    simp only [zck,zc8]
    by_cases hx:x < l.length
    · rw [if_pos (by omega),dropD tgt0 hx]
      simp only [chkGo]
      generalize l.getD x tgt0=t
      by_cases c1:t.Start≠s
      · rw [if_pos c1,if_pos c1]; rfl
      · rw [if_neg c1,if_neg c1]
        by_cases c2:t.Length < 1∨16777216 < t.Length
        · rw [if_pos c2,if_pos c2]; rfl
        · rw [if_neg c2,if_neg c2]
          by_cases c3:(t.Fail=true∧t.On≠noN)∨t.On=noN∧t.Offset≠0
          · rw [if_pos c3]
            rw [if_pos c3]; rfl
          · rw [if_neg c3]
            rw [if_neg c3]
            by_cases c4:t.Offset < 0∨16777216 - t.Length < t.Offset
            · rw [if_pos c4,if_pos c4]; rfl
            · rw [if_neg c4,if_neg c4]
              have hb:x * 16777216≤64 * 16777216 := Nat.mul_le_mul_right _ (by omega)
              rw [in64 (by omega)]
              exact ih (x + 1) _ (by omega) hx h3 (by omega) (by omega)
    · rw [if_neg (by omega),List.drop_eq_nil_of_le (by omega)]; rfl
theorem zk7:zcw l=some (chk l) := by
  unfold zcw chk
  by_cases h:64 < l.length
  · rw [if_pos (by omega),if_pos h]
  · rw [if_neg (by omega),if_neg h]
    have hF := zdn
    generalize FUEL=N at hF ⊢
    rw [zu0 N 0 0 (by omega) (by omega) (by omega) (by omega) (by omega),List.drop_zero]
    unfold errS
    by_cases c:chkGo l 0=0
    · rw [if_pos c,c]; rfl
    · rw [if_neg c]; rfl
theorem zw1 (h:chkGo l 0=0) (hl:l.length≤64):∀ (N x:Nat),l.length - x < N→x≤l.length→zcm l N (tsum (l.take x)) x=some (tsum l) := by
  intro N
  induction N with
  | zero=>intro x h; omega
  | succ N ih =>
    intro x h1 h2
    simp only [zcm,zdb]
    by_cases hx:x < l.length
    · rw [if_pos (by omega)]
      have g := ih (x + 1) (by omega) hx
      have hb := zfx h (x + 1) hx
      rw [takeD tgt0 hx,zhq] at g hb
      have e1:inI64 (tsum (l.take x) + (l.getD x tgt0).Length)=true := in64 (by omega)
      show grd (inI64 (tsum (l.take x) + (l.getD x tgt0).Length)) _=_
      rw [e1]
      exact g
    · rw [if_neg (by omega),List.take_of_length_le (by omega)]
theorem zql:zd5 l=some (tsize l) := by
  unfold zd5 tsize
  rw [zk7,Option.bind_some]
  by_cases h:chk l=0
  · obtain ⟨h1,h2⟩ := zbx h
    rw [if_neg (by simpa using h),if_pos h]
    have hF := zdn
    generalize FUEL=N at hF ⊢
    have g := zw1 h2 h1 N 0 (by omega) (by omega)
    rw [List.take_zero] at g
    rw [show (0:Int)=tsum [] from rfl,g]; rfl
  · rw [if_pos h,if_neg h]
theorem zw2 {o:List ByteArray} {x:Nat} : ∀ (N k:Nat) (b:Bool),o.length - k < N→k≤o.length→zcn l o x N b k=some (b || memS (o.drop k) (l.getD x tgt0).On) := by
  intro N
  induction N with
  | zero=>intro k b h; omega
  | succ N ih =>
    intro k b h1 h2
    simp only [zcn,zdc]
    by_cases hk:k < o.length
    · rw [if_pos (by omega),dropD ByteArray.empty hk]
      cases b
      · rw [if_neg (by simp),ih (k + 1) _ (by omega) hk]
        simp [memS]
      · rw [if_pos rfl,ih (k + 1) _ (by omega) hk]; simp
    · rw [if_neg (by omega),List.drop_eq_nil_of_le (by omega)]; simp [memS]
theorem zw3:∀ (N x:Nat) (o:List ByteArray),l.length - x < N→x≤l.length→o.length≤x→l.length≤1000000 →
    zco l N o x=some (zey (l.drop x) o) := by
  intro N
  induction N with
  | zero=>intro x o h; omega
  | succ N ih =>
    intro x o h1 h2 h3 h4
    simp only [zco,zdd]
    by_cases hx:x < l.length
    · have hF := zdn
      rw [if_pos (by omega),zw2 FUEL 0 _ (by omega) (by omega),List.drop_zero,dropD tgt0 hx,Option.bind_some]
      simp only [zey]
      generalize l.getD x tgt0=t
      by_cases c:t.On=noN∨memS o t.On=true
      · rw [if_pos c,if_neg (by rw [Bool.or_eq_true,decide_eq_true_iff]; exact fun y=>y c),ih (x + 1) o (by omega) hx (by omega) h4]
      · rw [if_neg c,if_pos (by rw [Bool.or_eq_true,decide_eq_true_iff]; exact c),zir (by omega)]
        exact ih (x + 1) _ (by omega) hx (by simp; omega) h4
    · rw [if_neg (by omega),List.drop_eq_nil_of_le (by omega)]; rfl
theorem zw4 (h:l.length≤1000000):zd6 l=some (tuses l) := by
  unfold zd6 tuses
  have hF := zdn
  generalize FUEL=N at hF ⊢
  rw [zw3 N 0 [] (by omega) (by omega) (by simp) h,List.drop_zero]; rfl
theorem zw5 {a b:List api_Target} (hl:a.length=b.length):∀ (N x:Nat),a.length - x < N→x≤a.length→a.drop x=b.drop x→zcq a b N x=some (.inl ()) := by
  intro N
  induction N with
  | zero=>intro x h; omega
  | succ N ih =>
    intro x h1 h2 h3
    simp only [zcq,zdf]
    by_cases hx:x < a.length
    · rw [dropD tgt0 hx,dropD tgt0 (show x < b.length by omega)] at h3
      have h4 := List.cons.inj h3
      rw [if_pos (by omega)]
      refine (if_neg (fun h=>h h4.1)).trans ?_
      exact ih (x + 1) (by omega) hx h4.2
    · rw [if_neg (by omega)]
theorem zqm {a:List api_Target} (ha:a.length≤1000000):zd8 a a=some true := by
  unfold zd8
  have hF := zdn
  generalize FUEL=N at hF ⊢
  rw [if_neg (by simp),zw5 rfl N 0 (by omega) (by omega) rfl]; rfl
theorem zyk {n:ByteArray} : ∀ (N x:Nat),l.length - x < N→x≤l.length→zcr l n N x=some (if nam (l.drop x) n then .inr true else .inl ()) := by
  intro N
  induction N with
  | zero=>intro x h; omega
  | succ N ih =>
    intro x h1 h2
    simp only [zcr,zdg]
    by_cases hx:x < l.length
    · rw [if_pos (by omega),dropD tgt0 hx]
      have g := ih (x + 1) (by omega) hx
      unfold nam at g ⊢
      rw [List.any_cons]
      by_cases c:(l.getD x tgt0).On=n∧n≠noN
      · refine (if_pos c).trans ?_
        rw [if_pos (by rw [Bool.or_eq_true,decide_eq_true_iff]; exact .inl c)]
      · refine (if_neg c).trans ?_
        rw [g,decide_eq_false c,Bool.false_or]
    · rw [if_neg (by omega),List.drop_eq_nil_of_le (by omega)]; rfl
theorem zl0 {n:ByteArray} (h:l.length≤1000000):zd9 l n=some (nam l n) := by
  unfold zd9
  have hF := zdn
  generalize FUEL=N at hF ⊢
  rw [zyk N 0 (by omega) (by omega),List.drop_zero]
  cases nam l n <;> rfl
theorem zyl {a b:ByteArray} : ∀ (N x:Nat) (y:List api_Target),y.length - x < N→x≤y.length→zch a b N y x=some (y.take x ++ Md.ren (y.drop x) a b) := by
  intro N
  induction N with
  | zero=>intro x y h; omega
  | succ N ih =>
    intro x y h1 h2
    simp only [zch,zc2]
    by_cases hx:x < y.length
    · rw [if_pos (by omega)]
      by_cases c:(y.getD x tgt0).On=a
      · refine (if_pos c).trans ?_
        have h3 := ih (x + 1) (y.set x { y.getD x tgt0 with On := b }) (by simp; omega) (by rw [List.length_set]; exact hx)
        refine h3.trans ?_
        have e1:(y.set x { y.getD x tgt0 with On := b }).take (x + 1)=y.take x ++ [{ y.getD x tgt0 with On := b }] := by
          rw [takeD tgt0 (by simpa using hx),List.take_set_of_le (by omega)]; simp [List.getD,hx]
        have e2:(y.set x { y.getD x tgt0 with On := b }).drop (x + 1)=y.drop (x + 1) := by simp [List.drop_set]
        rw [e1,e2,dropD tgt0 hx]
        simp only [Md.ren,List.map_cons,List.append_assoc,List.singleton_append]
        rw [if_pos c]
      · refine (if_neg c).trans ?_
        rw [ih (x + 1) y (by omega) hx,takeD tgt0 hx,dropD tgt0 hx]
        simp only [Md.ren,List.map_cons,List.append_assoc,List.singleton_append]
        rw [if_neg c]
    · rw [if_neg (by omega),List.drop_eq_nil_of_le (by omega),List.take_of_length_le (by omega)]; simp [Md.ren]
theorem zsh {a b:ByteArray} (h:l.length≤1000000):zdq l a b=some (Md.ren l a b) := by
  unfold zdq
  have hF := zdn
  generalize FUEL=N at hF ⊢
  rw [zir (by omega),List.nil_append,zyl N 0 l (by omega) (by omega),List.drop_zero]; simp [grd]
end
end Go.Proofs
namespace Go.Proofs
namespace Md
def tbl (d:Dv):List api_Target := d.live ++ d.new
end Md
def inT (t:api_Task):Prop := -9223372036854775808≤t.At∧t.At≤9223372036854775807
structure MdOk (m:Md):Prop where
  uniq:∀ i j,i < m.dv.length→j < m.dv.length→(m.at i).gone=false→(m.at j).gone=false→(m.at i).name=(m.at j).name→i=j
  nm:∀ i,i < m.dv.length→(m.at i).gone=false→(m.at i).name≠noN
  chk:∀ i,chk (m.at i).live=0∧chk (m.at i).new=0
  nam:∀ i,i < m.dv.length→(m.at i).gone=false → ∀ t ∈ Md.tbl (m.at i),t.On≠noN→(m.find t.On).isSome
  acy:∃ rk:Nat→Nat, ∀ i,i < m.dv.length→(m.at i).gone=false → ∀ t ∈ Md.tbl (m.at i), ∀ j,m.find t.On=some j→rk j < rk i
  bas:∀ i,(m.at i).isB=true→(m.at i).live=[]∧(m.at i).new=[]∧(m.at i).wait=[]∧(m.at i).hl=false∧(m.at i).hn=false∧(m.at i).susp=false∧(m.at i).base.length≤65536
  hl:∀ i,(m.at i).hl=false→(m.at i).live=[]
  hn:∀ i,(m.at i).hn=false→(m.at i).new=[]
  org:∀ i,i < m.dv.length → ∀ w ∈ (m.at i).wait,(m.at i).gone=false∧w.gv < m.dv.length∧(m.at w.gv).gone=false∧(m.at w.gv).isB=false∧1≤w.t.Kind∧w.t.Kind≤3∧inT w.t
structure MdBig (m:Md):Prop where
  len:m.dv.length≤10000
  wl:∀ i,(m.at i).wait.length≤100000
  tks:m.tks≤100000
  told:m.told.length≤100000000
  wr:m.wr≤100000000
def Md.wsum (m:Md):Nat := (m.dv.map fun d=>d.wait.length).sum
theorem zmp:∀ (l:List Dv) (i:Nat),(l.getD i Dv.z).wait.length≤(l.map fun d=>d.wait.length).sum
  | [],i=>by simp [Dv.z]
  | d::l,0=>by simp
  | d::l,i + 1=>by have := zmp l i; simp only [List.getD_cons_succ,List.map_cons,List.sum_cons]; omega
theorem zis:∀ (l:List Dv) (k:Nat) (d':Dv),k < l.length→((l.set k d').map fun d=>d.wait.length).sum + (l.getD k Dv.z).wait.length=(l.map fun d=>d.wait.length).sum + d'.wait.length
  | [],_,_,h=>by cases h
  | d::l,0,d',_=>by simp; omega
  | d::l,k + 1,d',h=>by
    have := zis l k d' (by simpa using h)
    simp only [List.set_cons_succ,List.getD_cons_succ,List.map_cons,List.sum_cons]; omega
theorem Md.wait_le (m:Md) (i:Nat):(m.at i).wait.length≤m.wsum := zmp m.dv i
structure MdBd (m:Md):Prop where
  wl:m.wsum≤m.tks
  tks:m.tks≤m.cl
  told:m.told.length≤4000 * m.cl
  wr:m.wr≤4000 * m.cl
  len:m.dv.length≤m.cl + 2
  cl:m.cl≤4000
theorem MdBd.big {m:Md} (h:MdBd m):MdBig m := by
  have h1 := h.tks; have h2 := h.told; have h3 := h.wr; have h4 := h.len; have h5 := h.cl
  exact ⟨by omega,fun i=>by have := h.wl; have := m.wait_le i; omega,by omega,by omega,by omega⟩
end Go.Proofs
namespace Go.VG
set_option linter.unusedSectionVars false
section
variable {κ ν:Type} [DecidableEq κ]
theorem Ents.get {M:MTy κ ν} : ∀ {es:List MapEntry} {l:List (κ × ν)} {i:Nat} {e:MapEntry},Ents M es l→es[i]? = some e → ∃ p,l[i]? = some p∧e.key=M.ek p.1∧e.val=M.ev p.2
  | [],_,_,_,_,h=>by simp at h
  | _::_,[],_,_,h,_=>h.elim
  | a::es,p::l,0,e,h,he=>by
    simp at he; subst he
    exact ⟨p,rfl,h.1,h.2.1⟩
  | a::es,p::l,i + 1,e,h,he=>by
    obtain ⟨q,h1,h2⟩ := Ents.get h.2.2 (show es[i]? = some e by simpa using he)
    exact ⟨q,by simpa using h1,h2⟩
def mpi (M:MTy κ ν) (bm r:Nat) (l:List (κ × ν)) (is:List Nat):HP := ex fun c:Array MapEntry × Nat × Nat × Array Nat =>
  star [pur (Ents M c.1.toList l∧(l.map (·.1)).Nodup∧(c.1.toList.map (·.born)).Nodup∧(∀ e ∈ c.1.toList,e.born < c.2.2.1)∧c.2.2.1≤c.2.1∧c.2.2.2.toList.map some=is.map (fun i=>(c.1.toList[i]?).map (·.born))∧is.Nodup ∧ ∀ i ∈ is,i < l.length),
    pt bm (.map c.1 c.2.1),pt r (.mapIter (some bm) c.2.2.1 c.2.2.2 c.2.1)]
end
section
variable {P:Program} {n:Env} {W:World} {s:Slots} {H:List HP} {K:Slots→List HP→Prop} {d:Nat} {dst:Option Tmp} {ty:TypeId} {pos:String} {after:Array Edge} {g:Option (Nat × Bool)}
variable {κ ν:Type} [DecidableEq κ] {M:MTy κ ν} {T:TypeId} {bm r:Nat} {l:List (κ × ν)} {is:List Nat} {C:HP→List HP} {R:List HP}
theorem zqn {w:World} {F:List HP} (h:St W w (mpi M bm r l is::F)):∃ (es:Array MapEntry) (clock since:Nat) (seen:Array Nat),St W w (pt bm (.map es clock)::pt r (.mapIter (some bm) since seen clock)::F) ∧
    Ents M es.toList l∧(l.map (·.1)).Nodup∧(es.toList.map (·.born)).Nodup∧(∀ e ∈ es.toList,e.born < since)∧since≤clock∧seen.toList.map some=is.map (fun i=>(es.toList[i]?).map (·.born))∧is.Nodup ∧ ∀ i ∈ is,i < l.length := by
  obtain ⟨c,h1⟩ := St.ex_iff.1 h
  obtain ⟨h2,h3⟩ := St.pur_iff.1 (St.star_iff.1 h1)
  exact ⟨c.1,c.2.1,c.2.2.1,c.2.2.2,h3,h2⟩
theorem zpf {w:World} {F:List HP} {es:Array MapEntry} {clock since:Nat} {seen:Array Nat} (h:St W w (pt bm (.map es clock)::pt r (.mapIter (some bm) since seen clock)::F))
    (h2:Ents M es.toList l∧(l.map (·.1)).Nodup∧(es.toList.map (·.born)).Nodup∧(∀ e ∈ es.toList,e.born < since)∧since≤clock∧seen.toList.map some=is.map (fun i=>(es.toList[i]?).map (·.born))∧is.Nodup ∧ ∀ i ∈ is,i < l.length):St W w (mpi M bm r l is::F) :=
  St.ex_iff.2 ⟨(es,clock,since,seen),St.star_iff.2 (St.pur_iff.2 ⟨h2,h⟩)⟩
theorem zqo {x:Operand} (hx:ev s x=some (.map (some bm))) (hf':Foc H (mpc M bm l) C) (hok:MOk P M T) (hd:Nat.blt d n.n=true) (hk:∀ r,K ((d,ptr r 0)::s) (C (mpi M bm r l []))) :
    OJ P n W ⟨some d,.range T x,ty,pos,after,g⟩ s H K :=
  zgv (fun q w hf hs=>by
    obtain ⟨F,hp,hC⟩ := hf'.focus
    obtain ⟨es,clock,hs',he,hnd,hbn,hlt⟩ := zjg (hs.perm hp)
    have hrun := run_range_map (P:=P) w T M.KT M.VT bm es clock hok.ty hs'.blk
    refine ⟨ptr w.heap.size 0,w.alloc (.mapIter (some bm) clock #[] clock),C (mpi M bm w.heap.size l []),?_,?_,hk w.heap.size⟩
    · simp only [execOp,hf.eval hx,Sem.run_bind,hrun,Result.andThen_ok,Sem.run_pure]
    · exact (zpf ((hs'.alloc (.mapIter (some bm) clock #[] clock)).perm (List.Perm.swap _ _ _)) ⟨he,hnd,hbn,hlt,Nat.le_refl _,rfl,List.nodup_nil,fun i hi=>by cases hi⟩).perm (hC _).symm) hd
theorem zsi {x:Operand} (hx:ev s x=some (ptr r 0)) (hf':Foc H (mpi M bm r l is) C) (hd:Nat.blt d n.n=true)
    (h0:(∀ i,i < l.length→i ∈ is)→K ((d,.tuple #[.bool false])::s) (C (mpi M bm r l is)))
    (h1:∀ i p,l[i]? = some p→i ∉ is→K ((d,.tuple #[.bool true,M.ek p.1,M.ev p.2])::s) (C (mpi M bm r l (is ++ [i])))) :
    OJ P n W ⟨some d,.next x false,ty,pos,after,g⟩ s H K :=
  zgv (fun q w hf hs=>by
    obtain ⟨F,hp,hC⟩ := hf'.focus
    obtain ⟨es,clock,since,seen,hs',he,hnd,hbn,hlt,hsc,hseen,hisn,hisl⟩ := zqn (hs.perm hp)
    have hb := hs'.blk
    have hsw := hs'.perm (List.Perm.swap _ _ _)
    have hr := hsw.blk
    have hlen := he.length
    -- which births have been met
    have hmem:∀ i e,es.toList[i]? = some e→(e.born ∈ seen.toList↔i ∈ is) := fun i e hi=>by
      have e1:some e.born ∈ seen.toList.map some↔e.born ∈ seen.toList := by simp
      rw [← e1,hseen,List.mem_map]
      constructor
      · rintro ⟨j,hj,hje⟩
        obtain ⟨e',h2,h3⟩ := Option.map_eq_some_iff.1 hje
        have hjl:j < es.toList.length := by rw [hlen]; exact hisl j hj
        have hil:i < es.toList.length := (List.getElem?_eq_some_iff.1 hi).1
        have:i=j := by
          refine (List.getElem_inj (h₀:=by simpa using hil) (h₁:=by simpa using hjl) hbn).1 ?_
          have g1 := (List.getElem?_eq_some_iff.1 hi).2
          have g2 := (List.getElem?_eq_some_iff.1 h2).2
          simp only [List.getElem_map]
          rw [g1,g2,h3]
        rw [this]; exact hj
      · intro hj
        exact ⟨i,hj,by rw [hi]; rfl⟩
    rcases run_next_at (P:=P) w ty r bm since clock seen es clock hr hb hlt hsc with ⟨hz,hrun⟩ | ⟨e,hel,w1,hw1,hrun⟩
    · refine ⟨.tuple #[.bool false],w,C (mpi M bm r l is),?_,hs.perm (hp.trans (hC _).symm),h0 (fun i hi=>by
          have hi':i < es.toList.length := by rw [hlen]; exact hi
          obtain ⟨e,hge⟩:∃ e,es.toList[i]? = some e := ⟨_,List.getElem?_eq_getElem hi'⟩
          refine (hmem i e hge).1 ?_
          have h5:e ∈ es.toList := List.mem_of_getElem? hge
          have hnl:e ∉ (leftOf es seen).toList := fun h=>by
            rw [Array.eq_empty_of_size_eq_zero hz] at h; cases h
          refine Classical.byContradiction fun h6=>hnl ?_
          unfold leftOf
          rw [Array.toList_filter,List.mem_filter]
          refine ⟨h5,?_⟩
          simp only [Array.mem_toList_iff] at h6
          simp [h6])⟩
      simp only [execOp,hf.eval hx,Sem.run_bind,hrun,Result.andThen_ok,Sem.run_pure]
    · obtain ⟨hes,hns⟩ := mem_left hel
      obtain ⟨i,hi,hie⟩ := List.getElem_of_mem hes
      have hge:es.toList[i]? = some e := by rw [List.getElem?_eq_getElem hi,hie]
      obtain ⟨p,p1,p2,p3⟩ := he.get hge
      have hni:i ∉ is := fun h=>by
        have := (hmem i e hge).2 h
        simp only [Array.mem_toList_iff] at this
        have h7:seen.contains e.born=true := by simpa using this
        rw [h7] at hns; cases hns
      have hsw1:St W w1 (pt r (.mapIter (some bm) since seen clock)::pt bm (.map es clock)::F) := by
        rcases hw1 with rfl | rfl
        · exact hsw
        · exact hsw.drew
      refine ⟨.tuple #[.bool true,M.ek p.1,M.ev p.2],Go.ChangeMaps.setBlock w1 r (.mapIter (some bm) since (seen.push e.born) clock),C (mpi M bm r l (is ++ [i])),?_,?_,h1 i p p1 hni⟩
      · simp only [execOp,hf.eval hx,Sem.run_bind,hrun,Result.andThen_ok,Sem.run_pure]
        rw [p2,p3]
      · refine (zpf (seen:=seen.push e.born) (hsw1.setObj.perm (List.Perm.swap _ _ _)) ⟨he,hnd,hbn,hlt,hsc,?_,?_,?_⟩).perm (hC _).symm
        · rw [Array.toList_push,List.map_append,List.map_append,hseen,List.map_cons,List.map_nil,List.map_cons,List.map_nil,hge]; rfl
        · rw [List.nodup_append]
          refine ⟨hisn,by simp,fun a ha b hb' hab => ?_⟩
          simp at hb'; subst hb'; subst hab; exact hni ha
        · intro j hj
          rcases List.mem_append.1 hj with hj | hj
          · exact hisl j hj
          · simp at hj; subst hj; rw [← hlen]; exact hi) hd
theorem zqp {x:Operand} {i:Nat} {p:κ × ν} (hx:ev s x=some (ptr r 0)) (hf':Foc H (mpi M bm r l (is ++ [i])) C) (hp1:l[i]? = some p):VJ P n W ⟨dst,.entry x,ty,pos,after,g⟩ s H (.tuple #[M.ek p.1,M.ev p.2]) :=
  (fun q w hf hs=>by
    obtain ⟨F,hp,_⟩ := hf'.focus
    obtain ⟨es,clock,since,seen,hs',he,hnd,hbn,hlt,hsc,hseen,hisn,hisl⟩ := zqn (hs.perm hp)
    have hlen := he.length
    have hil:i < es.toList.length := by rw [hlen]; exact (List.getElem?_eq_some_iff.1 hp1).1
    have hge:es.toList[i]? = some es.toList[i] := List.getElem?_eq_getElem hil
    obtain ⟨p',q1,q2,q3⟩ := he.get hge
    rw [hp1] at q1
    cases q1
    have hs2:∃ xs:List Nat,seen=xs.toArray.push es.toList[i].born := by
      rw [List.map_append,List.map_cons,List.map_nil,hge] at hseen
      refine ⟨seen.toList.dropLast,?_⟩
      have h3:seen.toList≠[] := fun h=>by rw [h] at hseen; simp at hseen
      have h4 := List.dropLast_concat_getLast h3
      have h5:seen.toList.getLast h3=es.toList[i].born := by
        have h6:(seen.toList.map some).getLast (by simpa using h3)=some es.toList[i].born := by
          simp only [hseen]; simp
        rw [List.getLast_map] at h6
        exact Option.some.inj h6
      apply Array.toList_inj.1
      rw [Array.toList_push, ← h5]
      simpa using h4.symm
    obtain ⟨xs,rfl⟩ := hs2
    have hrun := run_entry_at (P:=P) w r bm since xs.toArray es clock es.toList[i] (hs'.perm (List.Perm.swap _ _ _)).blk hs'.blk (List.getElem_mem hil) hbn
    simp only [execOp,hf.eval hx,Sem.run_bind,hrun,Result.andThen_ok,Sem.run_pure]
    rw [q2,q3])
theorem zit:Ent (mpi M bm r l is::R) (mpc M bm l::R) := fun h hh=>by
  obtain ⟨c,h1⟩ := stars_ex.1 hh
  obtain ⟨h2,h3⟩ := stars_pur.1 (stars_star.1 h1)
  have h4:stars (pt bm (.map c.1 c.2.1)::R) h := zex (zbn (List.Perm.swap _ _ _) _ h3)
  obtain ⟨g1,g2,dj,e,ha,hb⟩ := h4
  exact ⟨g1,g2,dj,e,⟨c.1,c.2.1,ha,h2.1,h2.2.1,h2.2.2.1,fun x hx=>Nat.lt_of_lt_of_le (h2.2.2.2.1 x hx) h2.2.2.2.2.1⟩,hb⟩
end
end Go.VG
set_option linter.unusedSimpArgs false
set_option linter.unusedVariables false
set_option maxRecDepth 20000
set_option maxHeartbeats 4000000
namespace Go.Proofs
open Go.VG
def zhy (x_0_a:ArrS) (x_0_d:Int) (x_0_start:Int) (x_0_length:Int):Option (Int) :=
  some x_0_length
theorem znt {W:World} {bx_0:Nat} {bx_0_a:Nat} {x_0_a:ArrS} {x_0_d:Int} {x_0_start:Int} {x_0_length:Int} {r:Int} (h:zhy x_0_a x_0_d x_0_start x_0_length=some r) :
    CSpec Tryz.prog W 148 [ptr bx_0 0] [blkR bx_0 161 [ptr bx_0_a 0,.int .i64 x_0_d,.int .i64 x_0_start,.int .i64 x_0_length],Arr bx_0_a x_0_a] (fun x:Unit => .int .i64 r) (fun _=>True) (fun x F=>blkR bx_0 161 [ptr bx_0_a 0,.int .i64 x_0_d,.int .i64 x_0_start,.int .i64 x_0_length]::Arr bx_0_a x_0_a::F) := by
 refine CSpec.of_body Tryz.func148 rfl Tryz.ntmps148 rfl fun F => ?_
 show CJ _ _ _ _ _ _ (_::_::F)
 unfold zhy at h
 refine sR <| oA rfl rfl <| nT <| sR <| oM rfl rfl <| oP (zaf rfl) rfl <| oP (zaa rfl ⟨_,_,_,Tryz.runUnderlying161,rfl,rfl,Tryz.sizeOf3,rfl⟩) rfl <| oV (ze7 rfl foc0 rfl Tryz.isAgg3) rfl <| oA rfl rfl <| nT <| zaj ?_
 cases h
 exact fE (res1 Tryz.results148 rfl) () eR
def zdr (size:Int) (at_1:Int) (n_2:Int):Option (Bool) :=
  some (((((decide ((0:Int)≤at_1)) && (decide (at_1≤size))) && (decide ((0:Int)≤n_2))) && (decide (n_2≤(IntKind.i64.wrap (size - at_1))))))
theorem zhe {W:World} {size:Int} {at_1:Int} {n_2:Int} {r:Bool} (h:zdr size at_1 n_2=some r) :
    CSpec Tryz.prog W 92 [.int .i64 size,.int .i64 at_1,.int .i64 n_2] [] (fun x:Unit => .bool r) (fun _=>True) (fun x F=>F) := by
 refine CSpec.of_body Tryz.func92 rfl Tryz.ntmps92 rfl fun F => ?_
 show CJ _ _ _ _ _ _ (F)
 unfold zdr at h
 refine sR <| oA rfl rfl <| nT <| sR <| oM rfl rfl <| oP (P_geq (a:=at_1) (b:=(0:Int)) rfl rfl) rfl <| oM rfl rfl <| zc3 rfl rfl rfl (fun hG1=>have hP2:((0:Int)≤at_1) := (zax).1 hG1; VJ_P (zah rfl)) <| zc3 rfl rfl rfl (fun hG3=>have hP4:((0:Int)≤at_1) := (zax).1 hG3; VJ_P (zah rfl)) <| zc3 rfl rfl rfl (fun hG5=>have hP6:((0:Int)≤at_1) := (zax).1 hG5; VJ_P (P_leq (a:=at_1) (b:=size) (mbx hG5 rfl) (mbx hG5 rfl))) <| oP (zek rfl (fun hh=>mbx hh rfl) rfl) rfl <| oM rfl rfl <| zc3 rfl rfl rfl (fun hG7=>have hP8:(((0:Int)≤at_1)∧(at_1≤size)) := ((zca zax zax)).1 hG7; VJ_P (zah rfl)) <| zc3 rfl rfl rfl (fun hG9=>have hP10:(((0:Int)≤at_1)∧(at_1≤size)) := ((zca zax zax)).1 hG9; VJ_P (P_geq (a:=n_2) (b:=(0:Int)) (mbx hG9 rfl) rfl)) <| oP (zek rfl (fun hh=>mbx hh rfl) rfl) rfl <| oM rfl rfl <| zc3 rfl rfl rfl (fun hG11=>have hP12:((((0:Int)≤at_1)∧(at_1≤size))∧((0:Int)≤n_2)) := ((zca (zca zax zax) zax)).1 hG11; VJ_P (zah rfl)) <| zc3 rfl rfl rfl (fun hG13=>have hP14:((((0:Int)≤at_1)∧(at_1≤size))∧((0:Int)≤n_2)) := ((zca (zca zax zax) zax)).1 hG13; VJ_P (zah rfl)) <| zc3 rfl rfl rfl (fun hG15=>have hP16:((((0:Int)≤at_1)∧(at_1≤size))∧((0:Int)≤n_2)) := ((zca (zca zax zax) zax)).1 hG15; VJ_P (zah rfl)) ?_
 refine zc3 rfl rfl rfl (fun hG17=>have hP18:((((0:Int)≤at_1)∧(at_1≤size))∧((0:Int)≤n_2)) := ((zca (zca zax zax) zax)).1 hG17; VJ_P (P_subW (a:=size) (b:=at_1) (mbx hG17 rfl) (mbx hG17 rfl))) <| zc3 rfl rfl rfl (fun hG19=>have hP20:((((0:Int)≤at_1)∧(at_1≤size))∧((0:Int)≤n_2)) := ((zca (zca zax zax) zax)).1 hG19; VJ_P (P_leq (a:=n_2) (b:=(IntKind.i64.wrap (size - at_1))) (mbx hG19 rfl) (mbx hG19 rfl))) <| oP (zek rfl (fun hh=>mbx hh rfl) rfl) rfl <| oA rfl rfl <| nT <| zaj ?_
 cases h
 exact fE (res1 Tryz.results92 rfl) () eR
def zfj (x_0_a:ArrS) (x_0_d:Int) (x_0_start:Int) (x_0_length:Int) (at_1:Int):Option (UInt64 × Int) :=
  Option.bind (zdr x_0_length at_1 (1:Int)) fun r1 =>
  if (¬ r1=true) then
    some (((0:UInt64),(1:Int)))
  else
    grd (inI64 (x_0_start + at_1)) <|
    some (((rdV x_0_a x_0_d (x_0_start + at_1)),(rdC x_0_a x_0_d (x_0_start + at_1))))
theorem znu {W:World} {bx_0:Nat} {bx_0_a:Nat} {x_0_a:ArrS} {x_0_d:Int} {x_0_start:Int} {x_0_length:Int} {at_1:Int} {r:UInt64 × Int} (h:zfj x_0_a x_0_d x_0_start x_0_length at_1=some r) :
    CSpec Tryz.prog W 147 [ptr bx_0 0,.int .i64 at_1] [blkR bx_0 161 [ptr bx_0_a 0,.int .i64 x_0_d,.int .i64 x_0_start,.int .i64 x_0_length],Arr bx_0_a x_0_a] (fun x:Unit => .tuple #[.int .u64 (r.1.toNat:Int),.int .i64 r.2]) (fun _=>True) (fun x F=>blkR bx_0 161 [ptr bx_0_a 0,.int .i64 x_0_d,.int .i64 x_0_start,.int .i64 x_0_length]::Arr bx_0_a x_0_a::F) := by
 refine CSpec.of_body Tryz.func147 rfl Tryz.ntmps147 rfl fun F => ?_
 show CJ _ _ _ _ _ _ (_::_::F)
 unfold zfj at h
 refine sR <| oA rfl rfl <| oA rfl rfl <| nT <| zad <| sR <| oM rfl rfl <| oP (zaf rfl) rfl <| oP (zaa rfl ⟨_,_,_,Tryz.runUnderlying161,rfl,rfl,Tryz.sizeOf3,rfl⟩) rfl <| oV (ze7 rfl foc0 rfl Tryz.isAgg3) rfl <| oM rfl rfl ?_
 obtain ⟨r1,hr2,h⟩ := zdw h
 refine oO <| zaq (zhe hr2) rfl Tryz.call92 Dels.nil rfl fun _ _=>oP (P_not rfl) rfl <| nT <| zbs rfl (zji Iff.rfl) (fun hg1 => ?_) (fun hg1 => ?_)
 ·
  replace h := ite_t hg1 h
  refine sR <| oA rfl rfl <| oA rfl rfl <| nT <| zaj <| zae ?_
  cases h
  exact fE (res2 Tryz.results147 rfl rfl) () eR
 ·
  replace h := ite_f hg1 h
  refine kT <| zad <| za4 16384 (by kernel_rfl) rfl <| aN 0 1 rfl rfl (zah rfl) rfl <| aN 1 3 rfl rfl (zaf rfl) rfl <| aN 2 7 rfl rfl (zaa rfl ⟨_,_,_,Tryz.runUnderlying161,rfl,rfl,Tryz.sizeOf65,rfl⟩) rfl <| aV 3 15 rfl rfl (zac rfl) eR (ze7 rfl foc0 rfl Tryz.isAgg65) rfl <| aN 4 31 rfl rfl (zah rfl) rfl <| aN 5 63 rfl rfl (zaf rfl) rfl <| aN 6 127 rfl rfl (zaa rfl ⟨_,_,_,Tryz.runUnderlying161,rfl,rfl,Tryz.sizeOf3,rfl⟩) rfl <| aV 7 255 rfl rfl (zac rfl) eR (ze7 rfl foc0 rfl Tryz.isAgg3) rfl <| aN 8 511 rfl rfl (zah rfl) rfl <| aN 9 1023 rfl rfl (zaf rfl) rfl <| aN 10 2047 rfl rfl (zaa rfl ⟨_,_,_,Tryz.runUnderlying161,rfl,rfl,Tryz.sizeOf3,rfl⟩) rfl <| aV 11 4095 rfl rfl (zac rfl) eR (ze7 rfl foc0 rfl Tryz.isAgg3) rfl <| aN 12 8191 rfl rfl (zah rfl) rfl ?_
  obtain ⟨hg2,h⟩ := zee h
  refine aN 13 16383 rfl rfl (P_add (a:=x_0_start) (b:=at_1) rfl rfl hg2) rfl <| AJ_op 14 32767 rfl (by kernel_rfl) rfl (zac rfl) <| zaq (c_Read) rfl Tryz.call132 (Dels.cons del1 Dels.nil) rfl fun _ _=>⟨fun h=>absurd h (by decide),?_⟩
  refine aN 15 65535 rfl rfl (za1 rfl rfl) rfl <| aN 16 131071 rfl rfl (za1 rfl rfl) rfl <| aN 17 262143 rfl rfl (zbc rfl) rfl <| aN 18 524287 rfl rfl (zbc rfl) rfl <| aD <| zaj ?_
  cases h
  exact fE (res2 Tryz.results147 rfl rfl) () (t1_ eR)
def ze9 (x_0_a:ArrS) (x_0_d:Int) (x_0_start:Int) (x_0_length:Int) (at_1:Int) (v:UInt64):Option (Int × ArrS) :=
  Option.bind (zdr x_0_length at_1 (1:Int)) fun r1 =>
  if (¬ r1=true) then
    some (((1:Int),x_0_a))
  else
    grd (inI64 (x_0_start + at_1)) <|
    grd (inLen x_0_a.writes) <|
    some (((wrR x_0_a x_0_d (x_0_start + at_1)),(wrS x_0_a x_0_d (x_0_start + at_1) v)))
theorem zmy {W:World} {bx_0:Nat} {bx_0_a:Nat} {x_0_a:ArrS} {x_0_d:Int} {x_0_start:Int} {x_0_length:Int} {at_1:Int} {v:UInt64} {r:Int × ArrS} (h:ze9 x_0_a x_0_d x_0_start x_0_length at_1 v=some r) :
    CSpec Tryz.prog W 149 [ptr bx_0 0,.int .i64 at_1,.int .u64 (v.toNat:Int)] [blkR bx_0 161 [ptr bx_0_a 0,.int .i64 x_0_d,.int .i64 x_0_start,.int .i64 x_0_length],Arr bx_0_a x_0_a] (fun x:Unit => .int .i64 r.1) (fun _=>True) (fun x F=>blkR bx_0 161 [ptr bx_0_a 0,.int .i64 x_0_d,.int .i64 x_0_start,.int .i64 x_0_length]::Arr bx_0_a r.2::F) := by
 refine CSpec.of_body Tryz.func149 rfl Tryz.ntmps149 rfl fun F => ?_
 show CJ _ _ _ _ _ _ (_::_::F)
 unfold ze9 at h
 refine sR <| oA rfl rfl <| nT <| zad <| sR <| oM rfl rfl <| oP (zaf rfl) rfl <| oP (zaa rfl ⟨_,_,_,Tryz.runUnderlying161,rfl,rfl,Tryz.sizeOf3,rfl⟩) rfl <| oV (ze7 rfl foc0 rfl Tryz.isAgg3) rfl <| oM rfl rfl ?_
 obtain ⟨r1,hr2,h⟩ := zdw h
 refine oO <| zaq (zhe hr2) rfl Tryz.call92 Dels.nil rfl fun _ _=>oP (P_not rfl) rfl <| nT <| zbs rfl (zji Iff.rfl) (fun hg1 => ?_) (fun hg1 => ?_)
 ·
  replace h := ite_t hg1 h
  refine sR <| oA rfl rfl <| nT <| zaj <| zae ?_
  cases h
  exact fE (res1 Tryz.results149 rfl) () eR
 ·
  replace h := ite_f hg1 h
  refine kT <| zad <| za4 32768 (by kernel_rfl) rfl <| aN 0 1 rfl rfl (zah rfl) rfl <| aN 1 3 rfl rfl (zaf rfl) rfl <| aN 2 7 rfl rfl (zaa rfl ⟨_,_,_,Tryz.runUnderlying161,rfl,rfl,Tryz.sizeOf65,rfl⟩) rfl <| aV 3 15 rfl rfl (zac rfl) eR (ze7 rfl foc0 rfl Tryz.isAgg65) rfl <| aN 4 31 rfl rfl (zah rfl) rfl <| aN 5 63 rfl rfl (zaf rfl) rfl <| aN 6 127 rfl rfl (zaa rfl ⟨_,_,_,Tryz.runUnderlying161,rfl,rfl,Tryz.sizeOf3,rfl⟩) rfl <| aV 7 255 rfl rfl (zac rfl) eR (ze7 rfl foc0 rfl Tryz.isAgg3) rfl <| aN 8 511 rfl rfl (zah rfl) rfl <| aN 9 1023 rfl rfl (zaf rfl) rfl <| aN 10 2047 rfl rfl (zaa rfl ⟨_,_,_,Tryz.runUnderlying161,rfl,rfl,Tryz.sizeOf3,rfl⟩) rfl <| aV 11 4095 rfl rfl (zac rfl) eR (ze7 rfl foc0 rfl Tryz.isAgg3) rfl <| aN 12 8191 rfl rfl (zah rfl) rfl ?_
  obtain ⟨hg2,h⟩ := zee h
  refine aN 13 16383 rfl rfl (P_add (a:=x_0_start) (b:=at_1) rfl rfl hg2) rfl <| aN 14 32767 rfl rfl (zah rfl) rfl ?_
  obtain ⟨hg3,h⟩ := zhn h
  refine AJ_op 15 65535 rfl (by kernel_rfl) rfl (zac rfl) <| zaq (zyg hg3 (v:=v)) rfl Tryz.call133 (Dels.cons del1 Dels.nil) rfl fun _ _=>⟨fun h=>absurd h (by decide),?_⟩
  refine aN 16 131071 rfl rfl (zbc rfl) rfl <| aD <| zaj ?_
  cases h
  exact fE (res1 Tryz.results149 rfl) () (t1_ eR)
def zfa (x_0_a:ArrS) (x_0_d:Int) (x_0_start:Int) (x_0_length:Int):Option (Int × ArrS) :=
  grd (inLen x_0_a.writes) <|
  some (((flC x_0_a x_0_d),(flS x_0_a x_0_d)))
theorem zmz {W:World} {bx_0:Nat} {bx_0_a:Nat} {x_0_a:ArrS} {x_0_d:Int} {x_0_start:Int} {x_0_length:Int} {r:Int × ArrS} (h:zfa x_0_a x_0_d x_0_start x_0_length=some r) :
    CSpec Tryz.prog W 146 [ptr bx_0 0] [blkR bx_0 161 [ptr bx_0_a 0,.int .i64 x_0_d,.int .i64 x_0_start,.int .i64 x_0_length],Arr bx_0_a x_0_a] (fun x:Unit => .int .i64 r.1) (fun _=>True) (fun x F=>blkR bx_0 161 [ptr bx_0_a 0,.int .i64 x_0_d,.int .i64 x_0_start,.int .i64 x_0_length]::Arr bx_0_a r.2::F) := by
 refine CSpec.of_body Tryz.func146 rfl Tryz.ntmps146 rfl fun F => ?_
 show CJ _ _ _ _ _ _ (_::_::F)
 unfold zfa at h
 refine sR <| oA rfl rfl <| nT <| zad <| za4 256 (by kernel_rfl) rfl <| aN 0 1 rfl rfl (zah rfl) rfl <| aN 1 3 rfl rfl (zaf rfl) rfl <| aN 2 7 rfl rfl (zaa rfl ⟨_,_,_,Tryz.runUnderlying161,rfl,rfl,Tryz.sizeOf65,rfl⟩) rfl <| aV 3 15 rfl rfl (zac rfl) eR (ze7 rfl foc0 rfl Tryz.isAgg65) rfl <| aN 4 31 rfl rfl (zah rfl) rfl <| aN 5 63 rfl rfl (zaf rfl) rfl <| aN 6 127 rfl rfl (zaa rfl ⟨_,_,_,Tryz.runUnderlying161,rfl,rfl,Tryz.sizeOf3,rfl⟩) rfl <| aV 7 255 rfl rfl (zac rfl) eR (ze7 rfl foc0 rfl Tryz.isAgg3) rfl ?_
 obtain ⟨hg1,h⟩ := zhn h
 refine AJ_op 8 511 rfl (by kernel_rfl) rfl (zac rfl) <| zaq (zwx hg1) rfl Tryz.call131 (Dels.cons del1 Dels.nil) rfl fun _ _=>⟨fun h=>absurd h (by decide),?_⟩
 refine aN 9 1023 rfl rfl (zbc rfl) rfl <| aD <| zaj ?_
 cases h
 exact fE (res1 Tryz.results146 rfl) () (t1_ eR)
def Dvc.span (x_d:Int) (x_start:Int) (x_length:Int):Dvc := { dep := 1,size := fun s=>zhy s x_d x_start x_length,rd := fun s k=>zfj s x_d x_start x_length k,wr := fun s k v=>ze9 s x_d x_start x_length k v,fl := fun s=>zfa s x_d x_start x_length }
end Go.Proofs
set_option linter.unusedSimpArgs false
set_option linter.unusedVariables false
set_option maxRecDepth 20000
set_option maxHeartbeats 4000000
namespace Go.Proofs
open Go.VG
theorem zu1 (v0:Int):zbt Tryz.prog 22 1 [(0,.int .i64 v0)] 3 [.int .i64 v0] := fun w=>by kernel_rfl
def zcs (l:List (List UInt64)) (rec:(List Int)→Nat→Option ((List Int))) (x9:List Int) (x11:Nat):Option ((List Int)) :=
  if (((x11:Nat):Int) < ((l.length:Nat):Int)) then
    grd (inLen (x9.length + 1)) <|
    grd (inN64 (x11 + 1)) <|
    rec ((x9 ++ [(((l.getD x11 []).length:Nat):Int)])) (x11 + 1)
  else
    some x9
def zc0 (l:List (List UInt64)):Nat→(List Int)→Nat→Option ((List Int))
  | 0,_,_=>none
  | n + 1,x9,x11=>zcs l (zc0 l n) x9 x11
def zct (l:List (List UInt64)) (rec:ArrS→Nat→Option ((ArrS) ⊕ (Option ArrS))) (x32:ArrS) (x33:Nat):Option ((ArrS) ⊕ (Option ArrS)) :=
  if (((x33:Nat):Int) < ((l.length:Nat):Int)) then
    grd (inLen x32.writes) <|
    if ((ldC x32 (((x33:Nat):Int)) (l.getD x33 []))≠(0:Int)) then
      some (.inr none)
    else
      grd (inN64 (x33 + 1)) <|
      rec ((ldS x32 (((x33:Nat):Int)) (l.getD x33 []))) (x33 + 1)
  else
    some (.inl x32)
def zc1 (l:List (List UInt64)):Nat→ArrS→Nat→Option ((ArrS) ⊕ (Option ArrS))
  | 0,_,_=>none
  | n + 1,x32,x33=>zct l (zc1 l n) x32 x33
def zdz (l:List (List UInt64)):Option ((Option ArrS)) :=
  Option.bind (zc0 l FUEL ([]) 0) fun a8 =>
  grd (inLen a8.length) <|
  if ((newC a8)≠(0:Int)) then
    some none
  else
    Option.elim (newO a8) (
      some none) fun o26 =>
    seqO (zc1 l FUEL o26 0) fun a31 =>
    some (some a31)
theorem ziu {W:World} {Al:HP} {vl:Value} {hsl:List Sl3} {Bl:HP} {l:List (List UInt64)} {r:(Option ArrS)} (rl:Reads Al tyRow vl hsl) (ql:RowsR Bl l hsl) (h:zdz l=some r) :
    CSpec Tryz.prog W 17 [vl] [Al,Bl] (fun x:Nat=>oval r x) (fun _=>True) (fun x F=>Al::Bl::optP (Arr x) r::F) := by
 refine CSpec.of_body Tryz.func17 rfl Tryz.ntmps17 rfl fun F => ?_
 show CJ _ _ _ _ _ _ (_::_::F)
 unfold zdz at h
 refine zba (zc4 rl del0) fun hlen1=>sR <| oA rfl rfl <| nT <| sR <| oA rfl rfl <| nT <| zad <| sR <| oA rfl rfl <| nT <| zbd (fun h hh=>zb2 (t:=tyI) h hh) ?_
 obtain ⟨y5,hl3,hK4⟩ := zho h
 refine zdt (X:=(List Int) × Sl3) [3,4,8,9,10,11,12,13,14,15,16,17,18,19,20,21] (fun ⟨a8,hd7⟩=>([(3,hd7.v)]:Slots)) (fun ⟨a8,hd7⟩ R=>sl tyI hd7.v a8::R) (fun ⟨a8,hd7⟩=>y5=a8) (Dels.cons del0 Dels.nil) ?_ ?_
 ·
  refine zas <| zbe (X:=Nat × (List Int) × Nat × Sl3) [3,4,8,9,10,11,12,13,14,15,16,17,18,19,20,21] (fun ⟨n,x9,x11,hd10⟩=>([(3,hd10.v),(4,.int .i64 (((x11:Nat):Int)))]:Slots)) (fun ⟨n,x9,x11,hd10⟩ R=>sl tyI hd10.v x9::R) (fun ⟨n,x9,x11,hd10⟩=>zc0 l n x9 x11=some y5) (fun ⟨n,x9,x11,hd10⟩=>n) ⟨FUEL,[],0,⟨none,0,0⟩⟩ ?_ ?_ eR ?_
  · exact hl3
  · exact ⟨rfl,rfl,True.intro⟩
  ·
   rintro ⟨n,x9,x11,hd10⟩ h
   cases n with
   | zero=>exact zef h
   | succ n => ?_
   replace h:zcs l (zc0 l n) x9 x11=some y5 := h
   unfold zcs at h
   show CJ _ _ _ _ _ (([(3,hd10.v),(4,.int .i64 (((x11:Nat):Int)))]:Slots) ++ forget _ _) (sl tyI hd10.v x9::_)
   refine lC del0 fun hlen12=>zad <| sR <| oM rfl rfl <| oM rfl rfl <| oV (VJ_eq (V_len rfl foc1 rl Tryz.runUnderlying68) (congrArg (fun z:Nat=>Value.int .i64 (z:Int)) (ql.1).symm)) rfl <| oP (P_lss (a:=((x11:Nat):Int)) (b:=((l.length:Nat):Int)) rfl rfl) rfl <| nT <| zbs rfl zax (fun hg1 => ?_) (fun hg1 => ?_)
   ·
    replace h := ite_t hg1 h
    refine kT <| zad <| zas <| zai <| oM rfl rfl <| oM rfl rfl <| oM rfl rfl <| oV (zal (i:=x11) rfl rfl rfl (by have hz:x11 < l.length := (by omega); have hy := ql.1; omega) foc1 rl Tryz.runUnderlying68 Tryz.sizeOf67) rfl <| oV (zaz rfl rfl (by have hz:x11 < l.length := (by omega); have hy := ql.1; omega) foc1 rl rfl rfl Tryz.isAgg67) rfl <| oV (V_len rfl foc2 (ql.2 _ (by omega)) Tryz.runUnderlying67) rfl <| oO <| za7 rfl (zu1 _) rfl fun b13 => ?_
    obtain ⟨hg2,h⟩ := zhn h
    refine oO <| zbv (t:=tyI) (bytes:=8) rfl rfl del1 foc0 (Reads.lit (t:=tyI) (ys:=[(((l.getD x11 []).length:Nat):Int)]) rfl rfl (by decide) (by decide) rfl) Tryz.underlying22 ok_tyI (apl (m:=1) (b:=8) hg2 (by decide)).1 (apl (m:=1) (b:=8) hg2 (by decide)).2 rfl fun p15 c16=>oA rfl rfl <| za0 <| zak <| zat <| zai <| oM rfl rfl ?_
    obtain ⟨hg3,h⟩ := zuc h
    exact oP (PJ_eq (P_add (a:=((x11:Nat):Int)) (b:=(1:Int)) rfl rfl (zuf hg3)) rfl) rfl <| oA rfl rfl <| za0 <| nR ⟨n,(x9 ++ [(((l.getD x11 []).length:Nat):Int)]),(x11 + 1),⟨p15,(x9 ++ [(((l.getD x11 []).length:Nat):Int)]).length,c16⟩⟩ h ⟨rfl,rfl,True.intro⟩ (t0_ (t1_ (t1_ (eD eR))))
   ·
    replace h := ite_f hg1 h
    exact zbg <| zaw <| zav <| zau <| cR ⟨x9,hd10⟩ (Option.some.inj h).symm ⟨rfl,True.intro⟩ eR
 ·
  rintro ⟨a8,hd7⟩ hy17
  replace h := zft hK4 hy17
  show CJ _ _ _ _ _ (([(3,hd7.v)]:Slots) ++ forget _ _) (sl tyI hd7.v a8::_)
  refine lC del0 fun hlen18=>sR <| oM rfl rfl ?_
  obtain ⟨hg4,h⟩ := zhn h
  refine oO <| zaq (c_NewO (Reads.sl _ _ _) hg4) rfl Tryz.call49 (Dels.cons del0 Dels.nil) rfl fun X19 _=>oM rfl rfl <| oP (za1 rfl rfl) rfl <| oP (za1 rfl rfl) rfl <| oA rfl rfl <| oA rfl rfl <| nT <| zad <| sR <| oM rfl rfl <| oP (P_neq (a:=(newC a8)) (b:=(0:Int)) rfl rfl) rfl <| oM rfl rfl <| zb6 rfl rfl rfl (fun hG21=>have hP22:¬ ((newC a8)≠(0:Int)) := nP (zax) hG21; VJ_P (zah rfl)) <| zel 29 rfl zax (fun hg5B hg5 => ?_) (fun hg5B hg5 => ?_)
  ·
   replace h := ite_t hg5 h
   refine RJ_gn (GY_no rfl rfl rfl hg5B) rfl rfl <| oP (za2 rfl hg5B rfl) rfl <| nT <| zbk rfl rfl <| sR <| oA rfl rfl <| nT <| zaj <| zae ?_
   cases h
   exact fE (res1 Tryz.results17 rfl) 0 (t2_ (t2_ (Ent.trans (fun h hh=>zi3 h hh) <| t0_ (eD (eD eR)))))
  ·
   replace h := ite_f hg5 h
   rcases opt_e h with ⟨ht25,h⟩ | ⟨o26,ht25,h⟩
   ·
    rw [ht25]
    refine zcl (t1_ (t1_ (t1_ (eD eR)))) <| gP (zab rfl rfl rfl hg5B) (zgk (mbx (not_f hg5B) rfl) rfl Tryz.underlying65) rfl <| oP (za5 rfl hg5B rfl) rfl <| nT <| zbk rfl rfl <| sR <| oA rfl rfl <| nT <| zaj <| zae ?_
    cases h
    exact fE (res1 Tryz.results17 rfl) 0 (t1_ (t1_ (Ent.trans (fun h hh=>zi3 h hh) <| t0_ (eD eR))))
   ·
    rw [ht25]
    refine zcl (Ent.takeC (A' := Arr X19 o26) del0 rfl eR) <| gP (zab rfl rfl rfl hg5B) (zd3 (mbx (not_f hg5B) rfl) rfl Tryz.underlying65) rfl <| oP (za5 rfl hg5B rfl) rfl <| nT <| zbf rfl rfl <| kT <| zad <| sR <| oA rfl rfl <| nT ?_
    obtain ⟨y29,hl27,hK28⟩ := seq_e h
    refine zdt (X:=ArrS) [2,7,33,34,35,36,37,38,39,40,41,42,43,44,45,46] (fun a31=>([]:Slots)) (fun a31 R=>Arr X19 a31::R) (fun a31=>y29 = .inl a31) (Dels.cons del0 Dels.nil) ?_ ?_
    ·
     refine zas <| zbe (X:=Nat × ArrS × Nat) [2,7,33,34,35,36,37,38,39,40,41,42,43,44,45,46] (fun ⟨n,x32,x33⟩=>([(7,.int .i64 (((x33:Nat):Int)))]:Slots)) (fun ⟨n,x32,x33⟩ R=>Arr X19 x32::R) (fun ⟨n,x32,x33⟩=>zc1 l n x32 x33=some y29) (fun ⟨n,x32,x33⟩=>n) ⟨FUEL,o26,0⟩ ?_ ?_ eR ?_
     · exact hl27
     · exact ⟨rfl,True.intro⟩
     ·
      rintro ⟨n,x32,x33⟩ h
      cases n with
      | zero=>exact zef h
      | succ n => ?_
      replace h:zct l (zc1 l n) x32 x33=some y29 := h
      unfold zct at h
      show CJ _ _ _ _ _ (([(7,.int .i64 (((x33:Nat):Int)))]:Slots) ++ forget _ _) (Arr X19 x32::_)
      refine zad <| sR <| oM rfl rfl <| oM rfl rfl <| oV (VJ_eq (V_len rfl foc2 rl Tryz.runUnderlying68) (congrArg (fun z:Nat=>Value.int .i64 (z:Int)) (ql.1).symm)) rfl <| oP (P_lss (a:=((x33:Nat):Int)) (b:=((l.length:Nat):Int)) rfl rfl) rfl <| nT <| zbs rfl zax (fun hg6 => ?_) (fun hg6 => ?_)
      ·
       replace h := ite_t hg6 h
       refine kT <| zad <| zas <| sR <| oM rfl rfl <| oM rfl rfl <| oM rfl rfl <| oM rfl rfl <| oV (zal (i:=x33) rfl rfl rfl (by have hz:x33 < l.length := (by omega); have hy := ql.1; omega) foc2 rl Tryz.runUnderlying68 Tryz.sizeOf67) rfl <| oV (zaz rfl rfl (by have hz:x33 < l.length := (by omega); have hy := ql.1; omega) foc2 rl rfl rfl Tryz.isAgg67) rfl ?_
       obtain ⟨hg7,h⟩ := zhn h
       refine oO <| zaq (zyi (ql.2 _ (by omega)) hg7) rfl Tryz.call50 (Dels.cons del0 (Dels.cons del2 Dels.nil)) rfl fun _ _=>oP (P_neq (a:=(ldC x32 (((x33:Nat):Int)) (l.getD x33 []))) (b:=(0:Int)) rfl rfl) rfl <| nT <| zbs rfl zax (fun hg8 => ?_) (fun hg8 => ?_)
       ·
        replace h := ite_t hg8 h
        refine sR <| oA rfl rfl <| nT <| zaj <| zam <| zae <| zbb <| zam <| zae ?_
        have hE := Option.some.inj h
        replace hE := zd4 hK28 hE.symm
        subst hE
        exact fE (res1 Tryz.results17 rfl) 0 (t3_ (t1_ (Ent.trans (fun h hh=>zi3 h hh) <| t0_ (eD (eD eR)))))
       ·
        replace h := ite_f hg8 h
        refine za8 <| zak <| zat <| zai <| oM rfl rfl ?_
        obtain ⟨hg9,h⟩ := zuc h
        exact oP (PJ_eq (P_add (a:=((x33:Nat):Int)) (b:=(1:Int)) rfl rfl (zuf hg9)) rfl) rfl <| oA rfl rfl <| za0 <| nR ⟨n,(ldS x32 (((x33:Nat):Int)) (l.getD x33 [])),(x33 + 1)⟩ h ⟨rfl,True.intro⟩ (t0_ (t1_ (t1_ eR)))
      ·
       replace h := ite_f hg6 h
       exact zbg <| zaw <| zav <| zau <| cR x32 (Option.some.inj h).symm True.intro eR
    ·
     rintro a31 hy34
     replace h := zgl hK28 hy34
     show CJ _ _ _ _ _ (([]:Slots) ++ forget _ _) (Arr X19 a31::_)
     refine sR <| oM rfl rfl <| oA rfl rfl <| nT <| zaj ?_
     cases h
     exact fE (res1 Tryz.results17 rfl) X19 (t2_ (t2_ (t0_ (eD eR))))
end Go.Proofs
namespace Go.Proofs
open Go.VG
def mkS (ims:List (List UInt64)):ArrS := ⟨ims.map (fun im=>⟨im,im,false⟩),[],[],0,false,0⟩
theorem zm0 {n:Nat} (h:n≤1000000000):inLen n=true := inLen_iff.2 h
theorem zqq {n:Nat} (h:n≤9000000000000000000):inN64 n=true := inN64_iff.2 (by omega)
theorem grd_t {α:Type} {b:Bool} {o:Option α} (h:b=true):grd b o=o := by rw [h]; rfl
def lensI (l:List (List UInt64)):List Int := l.map fun im=>(im.length:Int)
theorem zjm {α:Type} {l:List α} {i:Nat} {d:α} (h:i < l.length):l.take (i + 1)=l.take i ++ [l.getD i d] := by
  rw [List.take_succ_eq_append_getElem h]; simp [List.getD,h]
theorem zpg {l:List (List UInt64)} (h8:l.length≤1000):∀ (N i:Nat) (acc:List Int),l.length - i < N→i≤l.length→acc=lensI (l.take i) →
    zc0 l N acc i=some (lensI l)
  | 0,_,_,h,_,_=>absurd h (by omega)
  | N + 1,i,acc,h,hi,ha=>by
    show zcs _ _ _ _=_
    unfold zcs
    subst ha
    by_cases hlt:i < l.length
    · rw [if_pos (by omega),grd_t (zm0 (by simp [lensI]; omega)),grd_t (zqq (by omega))]
      refine zpg h8 N (i + 1) _ (by omega) (by omega) ?_
      rw [zjm (d:=[]) hlt]; simp [lensI]
    · rw [if_neg (by omega)]
      have:i=l.length := by omega
      rw [this,List.take_length]
def ldDrv (l:List (List UInt64)) (i:Nat):List Drive := (l.take i).map (fun im=>⟨im,im,false⟩) ++ (lensI (l.drop i)).map mkD
theorem zph {l:List (List UInt64)} (h8:l.length≤8) (hz:∀ im ∈ l,1≤im.length∧im.length≤65536):∀ (N i:Nat) (x:ArrS),l.length - i < N→i≤l.length→x=⟨ldDrv l i,[],[],0,false,0⟩ →
    zc1 l N x i=some (.inl (mkS l))
  | 0,_,_,h,_,_=>absurd h (by omega)
  | N + 1,i,x,h,hi,hx=>by
    show zct _ _ _ _=_
    unfold zct
    subst hx
    by_cases hlt:i < l.length
    · have hlen:(ldDrv l i).length=l.length := by simp [ldDrv,lensI]; omega
      have hin:inR ⟨ldDrv l i,[],[],0,false,0⟩ (i:Int) := by unfold inR; simp only [hlen]; omega
      have hg:(ldDrv l i).getD i d0=mkD ((l.getD i []).length:Int) := by
        unfold ldDrv
        have e1:((l.take i).map (fun im=>(⟨im,im,false⟩:Drive))).length=i := by simp; omega
        simp only [List.getD]
        rw [List.getElem?_append_right (by omega),e1,Nat.sub_self,List.drop_eq_getElem_cons hlt]; simp [lensI,hlt]
      have hc:ldC ⟨ldDrv l i,[],[],0,false,0⟩ (i:Int) (l.getD i [])=0 := by
        unfold ldC; rw [if_pos hin]; simp only [Int.toNat_natCast,hg]
        rw [if_pos (by simp [mkD])]
      rw [if_pos (by omega),grd_t (zm0 (by simp)),if_neg (by rw [hc]; simp),grd_t (zqq (by omega))]
      refine zph h8 hz N (i + 1) _ (by omega) (by omega) ?_
      have hC:ldS ⟨ldDrv l i,[],[],0,false,0⟩ (i:Int) (l.getD i [])=⟨ldDrv l (i + 1),[],[],0,false,0⟩ := by
        unfold ldS; rw [if_pos hc]
        have hd:∀ n,zgn [] (i:Int) n=[] := fun n=>by
          induction n with
          | zero=>rfl
          | succ n ih=>rw [← zk3,ih]; rfl
        simp only [Int.toNat_natCast,hg,hd,List.filter_nil]
        congr 1
        unfold ldDrv
        rw [zjm (d:=[]) hlt,List.drop_eq_getElem_cons hlt]
        have e1:((l.take i).map (fun im=>(⟨im,im,false⟩:Drive))).length=i := by simp; omega
        rw [List.set_append_right _ _ (by omega),e1,Nat.sub_self]
        simp only [lensI,List.map_cons,List.set_cons_zero,List.map_append,List.map_nil,List.append_assoc,List.cons_append,List.nil_append]
        rfl
      exact hC
    · rw [if_neg (by omega)]
      have:i=l.length := by omega
      rw [this]; simp [ldDrv,mkS,lensI]
theorem zu2 {l:List (List UInt64)} (h8:l.length≤8) (hz:∀ im ∈ l,1≤im.length∧im.length≤65536):zdz l=some (some (mkS l)) := by
  unfold zdz
  have hF := zdn
  generalize FUEL=N at hF ⊢
  rw [zpg (by omega) N 0 [] (by omega) (by omega) (by simp [lensI])]
  have hN:newB (lensI l)=true := by
    unfold newB
    rw [Bool.and_eq_true,Nat.ble_eq,List.all_eq_true]
    refine ⟨by simpa [lensI] using h8,fun z hz' => ?_⟩
    obtain ⟨im,him,rfl⟩ := List.mem_map.1 hz'
    have := hz im him
    simp; omega
  simp only [Option.bind_some]
  rw [grd_t (zm0 (by simp [lensI]; omega))]
  have hnc:newC (lensI l)=0 := by unfold newC; rw [if_pos hN]
  have hno:newO (lensI l)=some (newS (lensI l)) := by unfold newO; rw [if_pos hN]
  rw [if_neg (by rw [hnc]; simp),hno]
  simp only [Option.elim]
  rw [zph h8 hz N 0 _ (by omega) (by omega) (by simp [newS,ldDrv])]
  rfl
end Go.Proofs
namespace Go.Proofs
open Go.VG
theorem zym {n k m:Int} (hn:0≤n∧n≤4611686018427387904):zdr n k m=some (decide (0≤k∧k≤n∧0≤m∧m≤n - k)) := by
  unfold zdr
  refine congrArg some ?_
  rw [Bool.eq_iff_iff]
  by_cases h:0≤k∧k≤n
  · rw [zgf (by omega) (by omega)]; simp; omega
  · simp; omega
def zu3 (s:ArrS):List Dvc := (List.range s.drv.length).map fun i=>Dvc.span ((i:Nat):Int) 0 ((s.size i:Nat):Int)
@[simp] theorem zzt {s:ArrS} : (zu3 s).length=s.drv.length := by simp [zu3]
theorem zw6 {s:ArrS} {i:Nat} (h:i < s.drv.length):sizeI s (i:Int)=((s.size i:Nat):Int) := by
  rw [sizeI,if_pos (show inR s (i:Int) from ⟨by omega,by omega⟩)]; simp
theorem zw7 {n k m:Int} (hn:n≤1000000000) (h:0≤k∧0≤m∧k + m≤n):zdr n k m=some true := by
  rw [zym (by omega)]; exact congrArg some (decide_eq_true (by omega))
end Go.Proofs
namespace Go.Proofs
open Go.VG
def nowL (s:ArrS) (d:Nat):List UInt64 := (s.drv.getD d d0).now
theorem zgp {s:ArrS} {d:Nat} : s.size d=(nowL s d).length := rfl
structure Good (s:ArrS):Prop where
  down:s.down=false
  fuse:s.fuse=0
  bad:s.bad=[]
  miss:∀ d,(s.drv.getD d d0).miss=false
theorem zqr {ims:List (List UInt64)} : Good (mkS ims) where
  down := rfl
  fuse := rfl
  bad := rfl
  miss d := by
    simp only [mkS,List.getD,List.getElem?_map]
    cases ims[d]? <;> rfl
theorem zj3 {ims:List (List UInt64)} {d:Nat} : nowL (mkS ims) d=ims.getD d [] := by
  simp only [nowL,mkS,List.getD,List.getElem?_map]
  cases ims[d]? <;> rfl
@[simp] theorem drv_mkS {ims:List (List UInt64)} : (mkS ims).drv.length=ims.length := by simp [mkS]
theorem Good.chk {s:ArrS} (hg:Good s) {d a:Nat} (hd:d < s.drv.length) (ha:a < s.size d):cPow s=0∧cLoc s d=0∧cPla s d a=0∧cPre s d=0∧cWho s d a=0 := by
  refine ⟨by simp [cPow,hg.down],?_,?_,by simp only [cPre,missI,Int.toNat_natCast,hg.miss d]; rfl,by simp [cWho,isBad,hg.bad,lookM]⟩
  · rw [cLoc,if_pos (show inR s (d:Int) from ⟨by omega,by omega⟩)]
  · rw [cPla,zw6 hd,if_pos (by omega)]
theorem Good.rdC {s:ArrS} (hg:Good s) {d a:Nat} (hd:d < s.drv.length) (ha:a < s.size d):rdC s d a=0 := by
  obtain ⟨h1,h2,h3,h4,h5⟩ := hg.chk hd ha
  simp [Go.Proofs.rdC,fz,h1,h2,h3,h4,h5]
theorem Good.rdV {s:ArrS} (hg:Good s) {d a:Nat} (hd:d < s.drv.length) (ha:a < s.size d):rdV s d a=(nowL s d).getD a 0 := by
  rw [Go.Proofs.rdV,if_pos (hg.rdC hd ha)]; rfl
def wr1 (s:ArrS) (d a:Nat) (v:UInt64):ArrS := { s with drv := zd1 s d a v,log := s.log ++ [⟨d,a,v⟩],writes := s.writes + 1 }
theorem Good.wr {s:ArrS} (hg:Good s) {d a:Nat} {v:UInt64} (hd:d < s.drv.length) (ha:a < s.size d):wrR s d a=0∧wrS s d a v=wr1 s d a v := by
  obtain ⟨h1,h2,h3,h4,h5⟩ := hg.chk hd ha
  have hc:wrC s d a=0 := by simp [wrC,fz,h1,h2,h3,h4]
  refine ⟨by rw [wrR,if_neg (by simp [hc]),if_neg (by rw [hg.fuse]; decide)],?_⟩
  rw [wrS,if_neg (by simp [hc]),if_neg (by rw [hg.fuse]; decide)]
  have hdel:delM ([]:List ((Int × Int) × Unit)) ((d:Int),(a:Int))=[] := rfl
  simp only [wr1,Int.toNat_natCast,hg.bad,hg.fuse,hdel]
theorem zj4 {s:ArrS} {d a e:Nat} {v:UInt64} (hd:d < s.drv.length):nowL (wr1 s d a v) e=if e=d then (nowL s d).set a v else nowL s e := by
  unfold nowL wr1 zd1
  simp only [List.getD,List.getElem?_set]
  by_cases h:d=e
  · subst h; simp [hd]
  · rw [if_neg h,if_neg (fun x=>h x.symm)]
@[simp] theorem zot {s:ArrS} {d a:Nat} {v:UInt64} : (wr1 s d a v).drv.length=s.drv.length := by simp [wr1,zd1]
@[simp] theorem znv {s:ArrS} {d a:Nat} {v:UInt64} : (wr1 s d a v).writes=s.writes + 1 := rfl
theorem zqs {s:ArrS} {d a e:Nat} {v:UInt64} (hd:d < s.drv.length):(wr1 s d a v).size e=s.size e := by
  rw [zgp,zgp,zj4 hd]; split
  · rename_i h; rw [List.length_set,h]
  · rfl
theorem Good.wr1 {s:ArrS} (hg:Good s) {d a:Nat} {v:UInt64} : Good (wr1 s d a v) where
  down := hg.down
  fuse := hg.fuse
  bad := hg.bad
  miss e := by
    have h0 := hg.miss e
    simp only [Go.Proofs.wr1,zd1,List.getD,List.getElem?_set] at h0 ⊢
    by_cases h:d=e
    · subst h
      by_cases hl:d < s.drv.length
      · have h1 := hg.miss d
        simp [hl,List.getD] at h1 ⊢
        exact h1
      · simp [hl]
    · rw [if_neg h]; exact h0
end Go.Proofs
namespace Go.Proofs
open Go.VG
def wrN (s:ArrS) (d a:Nat) (f:Nat→UInt64):Nat→ArrS
  | 0=>s
  | n + 1=>wr1 (wrN s d a f n) d (a + n) (f n)
theorem Good.wrN {s:ArrS} (hg:Good s) {d a:Nat} {f:Nat→UInt64} : ∀ n,Good (wrN s d a f n)
  | 0=>hg
  | n + 1=>(Good.wrN hg n).wr1
@[simp] theorem zyn {s:ArrS} {d a:Nat} {f:Nat→UInt64} : ∀ {n},(wrN s d a f n).drv.length=s.drv.length
  | 0=>rfl
  | n + 1=>by rw [wrN,zot,zyn]
@[simp] theorem zth {s:ArrS} {d a:Nat} {f:Nat→UInt64} : ∀ {n},(wrN s d a f n).writes=s.writes + n
  | 0=>rfl
  | n + 1=>by rw [wrN,znv,zth]; omega
theorem getD_set_ne {l:List UInt64} {i j:Nat} {v:UInt64} (h:i≠j):(l.set i v).getD j 0=l.getD j 0 := by
  simp [List.getD,List.getElem?_set,h]
theorem zmq {l:List UInt64} {i:Nat} {v:UInt64} (h:i < l.length):(l.set i v).getD i 0=v := by
  simp [List.getD,List.getElem?_set,h]
end Go.Proofs
namespace Go.Proofs
open Go.VG
def durL (s:ArrS) (d:Nat):List UInt64 := (s.drv.getD d d0).dur
def pendR (log:List Rec) (d a:Nat):List UInt64 := (log.filter fun r=>decide (r.d=d∧r.a=a)).map Rec.v
abbrev pend (s:ArrS) (d a:Nat):List UInt64 := pendR s.log d a
def now (s:ArrS) (d a:Nat):UInt64 := (nowL s d).getD a 0
def dur (s:ArrS) (d a:Nat):UInt64 := (durL s d).getD a 0
theorem zu4 {d a:Nat} : pendR [] d a=[] := rfl
theorem zk8 {l l':List Rec} {d a:Nat} : pendR (l ++ l') d a=pendR l d a ++ pendR l' d a := by simp [pendR]
theorem zpi {r:Rec} {d a:Nat} : pendR [r] d a=if r.d=d∧r.a=a then [r.v] else [] := by
  by_cases h:r.d=d∧r.a=a
  · simp [pendR,h]
  · simp [pendR,h]
theorem zti {r:Rec} {l:List Rec} {d a:Nat} : pendR (r::l) d a=if r.d=d∧r.a=a then r.v::pendR l d a else pendR l d a := by
  rw [show r::l=[r] ++ l from rfl,zk8,zpi]; split <;> rfl
theorem zqt {l:List Rec} {d e a:Nat} : pendR (zeh e l) d a=if d=e then [] else pendR l d a := by
  unfold pendR zeh
  rw [List.filter_filter]
  by_cases h:d=e
  · subst h
    rw [if_pos rfl,List.filter_eq_nil_iff.2]; · rfl
    intro r _ hr; simp at hr; exact hr.2 hr.1.1
  · rw [if_neg h]
    congr 1; apply List.filter_congr; intro r _
    by_cases h2:r.d=d∧r.a=a
    · simp [h2,h]
    · simp [h2]
def lastD:UInt64→List UInt64→UInt64
  | d,[]=>d
  | _,x::l=>lastD x l
theorem znw {v:UInt64} : ∀ {l:List UInt64} {d:UInt64},lastD d (l ++ [v])=v
  | [],_=>rfl
  | x::l,_=>znw (l:=l) (d:=x)
structure Coh (s:ArrS):Prop where
  len:∀ d,(durL s d).length=(nowL s d).length
  last:∀ d a,a < s.size d→lastD (dur s d a) (pend s d a)=now s d a
  log:∀ r ∈ s.log,r.d < s.drv.length∧r.a < s.size r.d
theorem zw8 {l:List UInt64} {i j:Nat} {v:UInt64} (h:i < l.length):(l.set i v).getD j 0=if j=i then v else l.getD j 0 := by
  by_cases e:j=i
  · subst e; rw [if_pos rfl,zmq h]
  · rw [if_neg e,getD_set_ne (fun x=>e x.symm)]
theorem zjn {l:List Drive} {i j:Nat} {x:Drive} (h:i < l.length):(l.set i x).getD j d0=if j=i then x else l.getD j d0 := by
  simp only [List.getD,List.getElem?_set]
  by_cases e:i=j
  · subst e; simp [h]
  · rw [if_neg e,if_neg (fun x=>e x.symm)]
section
variable {s:ArrS} {d a:Nat} {v:UInt64}
theorem zqu {e:Nat} (hd:d < s.drv.length):durL (wr1 s d a v) e=durL s e := by
  unfold durL wr1 zd1
  rw [zjn hd]; split
  · rename_i h; subst h; rfl
  · rfl
theorem zw9 {e b:Nat} : pend (wr1 s d a v) e b=if d=e∧a=b then pend s e b ++ [v] else pend s e b := by
  show pendR (s.log ++ [⟨d,a,v⟩]) e b=_
  rw [zk8,zpi]; split <;> simp_all
theorem zyo {e b:Nat} (hd:d < s.drv.length) (ha:a < s.size d):now (wr1 s d a v) e b=if d=e∧a=b then v else now s e b := by
  unfold now
  rw [zj4 hd]
  by_cases h:e=d
  · subst h; rw [if_pos rfl,zw8 (show a < (nowL s e).length from ha)]
    by_cases h2:b=a
    · subst h2; simp
    · rw [if_neg h2,if_neg (fun x=>h2 x.2.symm)]
  · rw [if_neg h,if_neg (fun x=>h x.1.symm)]
theorem zyp {e b:Nat} (hd:d < s.drv.length):dur (wr1 s d a v) e b=dur s e b := by unfold dur; rw [zqu hd]
theorem Coh.wr1 (hc:Coh s) (hd:d < s.drv.length) (ha:a < s.size d):Coh (wr1 s d a v) where
  len e := by rw [zqu hd,zj4 hd]; split
              · rename_i h; subst h; rw [List.length_set]; exact hc.len _
              · exact hc.len e
  last e b hb := by
    rw [zqs hd] at hb
    have h1 := hc.last e b hb
    rw [zyp hd,zw9,zyo hd ha]
    by_cases h:d=e∧a=b
    · rw [if_pos h,if_pos h,znw]
    · rw [if_neg h,if_neg h]; exact h1
  log r hr := by
    rw [zot,zqs hd]
    rcases List.mem_append.1 (show r ∈ s.log ++ [⟨d,a,v⟩] from hr) with h | h
    · exact hc.log r h
    · rw [List.mem_singleton.1 h]; exact ⟨hd,ha⟩
end
def fl1 (s:ArrS) (d:Nat):ArrS := { s with drv := s.drv.set d { s.drv.getD d d0 with dur := flDur (s.drv.getD d d0).now d s.log (s.drv.getD d d0).dur },log := zeh d s.log }
theorem zqv {nw:List UInt64} {i a:Nat} : ∀ {log:List Rec} {du:List UInt64},a < du.length→(flDur nw i log du).getD a 0=if pendR log i a=[] then du.getD a 0 else nw.getD a 0
  | [],du,_=>by rw [zu4,if_pos rfl]; rfl
  | r::log,du,h=>by
    show (flDur nw i log (if r.d=i then du.set r.a (nw.getD r.a 0) else du)).getD a 0=_
    rw [zqv (by split <;> simpa using h),zti]
    by_cases hr:r.d=i
    · rw [if_pos hr]
      by_cases ha:r.a=a
      · rw [show (if r.d=i∧r.a=a then r.v::pendR log i a else pendR log i a)=r.v::pendR log i a from if_pos ⟨hr,ha⟩,if_neg (show ¬ r.v::pendR log i a=[] by simp)]
        subst ha
        split
        · rw [zmq h]
        · rfl
      · rw [show (if r.d=i∧r.a=a then r.v::pendR log i a else pendR log i a)=pendR log i a from if_neg (fun x=>ha x.2),getD_set_ne ha]
    · rw [if_neg hr,show (if r.d=i∧r.a=a then r.v::pendR log i a else pendR log i a)=pendR log i a from if_neg (fun x=>hr x.1)]
section
variable {s:ArrS} {d:Nat}
@[simp] theorem zyq:(fl1 s d).drv.length=s.drv.length := by simp [fl1]
theorem zj5 {e:Nat} (hd:d < s.drv.length):nowL (fl1 s d) e=nowL s e := by
  unfold nowL fl1
  rw [zjn hd]; split
  · rename_i h; subst h; rfl
  · rfl
theorem zqw {e:Nat} (hd:d < s.drv.length):(fl1 s d).size e=s.size e := by rw [zgp,zgp,zj5 hd]
theorem zxa {e b:Nat} : pend (fl1 s d) e b=if e=d then [] else pend s e b := zqt
theorem zyr {e b:Nat} (hc:Coh s) (hd:d < s.drv.length) (hb:b < s.size e):dur (fl1 s d) e b=if e=d then now s e b else dur s e b := by
  unfold dur durL fl1
  rw [zjn hd]
  by_cases h:e=d
  · subst h
    rw [if_pos rfl,if_pos rfl]
    have hl := hc.last e b hb
    rw [zqv (by have := hc.len e; unfold durL at this; rw [this]; exact hb)]
    by_cases hp:pendR s.log e b=[]
    · rw [if_pos hp]
      have:pend s e b=[] := hp
      rw [this] at hl
      exact hl
    · rw [if_neg hp]; rfl
  · rw [if_neg h,if_neg h]
theorem zys {e b:Nat} (hd:d < s.drv.length):now (fl1 s d) e b=now s e b := by unfold now; rw [zj5 hd]
theorem Coh.fl1 (hc:Coh s) (hd:d < s.drv.length):Coh (fl1 s d) where
  len e := by
    rw [zj5 hd]
    unfold durL Go.Proofs.fl1
    rw [zjn hd]; split
    · rename_i h; subst h; rw [zi5]; exact hc.len _
    · exact hc.len e
  last e b hb := by
    rw [zqw hd] at hb
    have h1 := hc.last e b hb
    rw [zyr hc hd hb,zxa,zys hd]
    by_cases h:e=d
    · rw [if_pos h,if_pos h]; rfl
    · rw [if_neg h,if_neg h]; exact h1
  log r hr := by
    rw [zyq,zqw hd]
    exact hc.log r (List.mem_filter.1 (show r ∈ zeh d s.log from hr)).1
theorem zxb {e:Nat} (hd:d < s.drv.length):((fl1 s d).drv.getD e d0).miss=(s.drv.getD e d0).miss := by
  unfold fl1
  rw [zjn hd]; split
  · rename_i h; subst h; rfl
  · rfl
theorem Good.fl1 (hg:Good s) (hd:d < s.drv.length):Good (fl1 s d) where
  down := hg.down
  fuse := hg.fuse
  bad := hg.bad
  miss e := by rw [zxb hd]; exact hg.miss e
theorem flC_of (hdn:s.down=false) (hd:d < s.drv.length):flC s d=if (s.drv.getD d d0).miss then 6 else 0 := by
  have h1:cPow s=0 := by simp [cPow,hdn]
  have h2:cLoc s d=0 := by rw [cLoc,if_pos (show inR s (d:Int) from ⟨by omega,by omega⟩)]
  simp only [flC,fz,h1,h2,cPre,missI,Int.toNat_natCast]
  by_cases hm:(s.drv.getD d d0).miss=true
  · simp [hm]
  · simp [hm]
theorem flS_of (h:flC s d=0):flS s d=fl1 s d := zuw h
end
section
variable {s:ArrS} {ks:List Bool}
@[simp] theorem drv_rs:(rsS s ks).drv.length=s.drv.length := by simp [rsS,(zpb ks s.log 0 s.drv 0).1]
theorem zsj {d:Nat} : nowL (rsS s ks) d=durL (rsS s ks) d := by unfold nowL durL; rw [rs_at]; rfl
theorem now_rs {d a:Nat} : now (rsS s ks) d a=dur (rsS s ks) d a := by unfold now dur; rw [zsj]
theorem Coh.rs (hc:Coh s):Coh (rsS s ks) where
  len d := by rw [zsj]
  last d a _ := by show dur (rsS s ks) d a=_; rw [now_rs]
  log r h := by cases h
end
end Go.Proofs
