/- MapperRaw, part 9 of the proof: LAw23, PAwake23, CLaw5, PShown. -/
import Derived.WalkKit
import Derived.Orders
import Derived.RangeFuncLeaves
import Derived.RangeFuncCalls
import Derived.TacticsIn
import Derived.Handy
import Derived.OrdersHeld
import Derived.OrdersIn
import Derived.Below
import Derived.OpenShut
import Derived.Deep.Slices
import Derived.Scope
import Derived.RangeFuncRecord
import Derived.ChangeKeysEq
import Derived.Laws.BytesArg
import Derived.KernelRfl
import Derived.Maps.RangeRun
import Derived.LaidEql
import Derived.ProofKit
import Derived.ShutString
import Derived.ChangeOld
import Derived.Test.YtbmipeiphoghcaaGreatChecked
import Derived.Test.YtbmipeiphoghcaaGreatRows
import Derived.Test.YtbmipeiphoghcaaGreatZMapperRaw8
set_option linter.unusedSimpArgs false
set_option linter.unusedVariables false
set_option maxRecDepth 20000
set_option maxHeartbeats 4000000
namespace Go.Proofs
open Go.VG
theorem zth (v0:Int) (v1:ByteArray):∀ w,(Instr.build 37 (#[(1,.int .i64 v0),(2,.string v1)]:Array (Nat × Value))).run Tryz.prog w = .ok (.agg #[.int .i64 (0:Int),.int .i64 v0,.string v1,.int .i64 (0:Int),.bool false]) w := fun w=>by kernel_rfl
theorem zph (v0:Int) (v1:Int) (v2:ByteArray) (v3:Int) (v4:Bool):zbx Tryz.prog 30 1 [(0,.agg #[.int .i64 v0,.int .i64 v1,.string v2,.int .i64 v3,.bool v4])] 37 [.int .i64 v0,.int .i64 v1,.string v2,.int .i64 v3,.bool v4] := fun w=>by kernel_rfl
theorem zq5 (v0:Int) (v1:Int) (v2:Int):∀ w,(Instr.build 33 (#[(0,.int .i64 v0),(1,.int .i64 v1),(2,.int .u64 v2)]:Array (Nat × Value))).run Tryz.prog w = .ok (.agg #[.int .i64 v0,.int .i64 v1,.int .u64 v2]) w := fun w=>by kernel_rfl
theorem zq6 (v0:Int) (v1:ByteArray) (v2:Int):∀ w,(Instr.build 37 (#[(1,.int .i64 v0),(2,.string v1),(3,.int .i64 v2)]:Array (Nat × Value))).run Tryz.prog w = .ok (.agg #[.int .i64 (0:Int),.int .i64 v0,.string v1,.int .i64 v2,.bool false]) w := fun w=>by kernel_rfl
theorem zti (v0:Int) (v1:Int):∀ w,(Instr.build 33 (#[(0,.int .i64 v0),(1,.int .i64 v1)]:Array (Nat × Value))).run Tryz.prog w = .ok (.agg #[.int .i64 v0,.int .i64 v1,.int .u64 0]) w := fun w=>by kernel_rfl
def ze3:Option (Bool) :=
  grd (decide (Mb2.cl < 4000)) <|
  if ((Md.crE Mb2 (ByteArray.mk #[120]))≠(0:Int)) then
    some false
  else
    grd (decide (((Md.tick (Md.crS Mb2 (ByteArray.mk #[120])))).cl < 4000∧([(⟨(0:Int),(4:Int),(ByteArray.mk #[100,105,115,107,48]),(0:Int),false⟩:api_Target)]).length≤100000000)) <|
    lt ((Md.ldE ((Md.tick (Md.crS Mb2 (ByteArray.mk #[120])))) (ByteArray.mk #[120]) ([(⟨(0:Int),(4:Int),(ByteArray.mk #[100,105,115,107,48]),(0:Int),false⟩:api_Target)]))) fun w5 =>
    if (w5≠(0:Int)) then
      some false
    else
      grd (decide (((Md.tick (Md.ldS ((Md.tick (Md.crS Mb2 (ByteArray.mk #[120])))) (ByteArray.mk #[120]) ([(⟨(0:Int),(4:Int),(ByteArray.mk #[100,105,115,107,48]),(0:Int),false⟩:api_Target)])))).cl < 4000)) <|
      lt ((Md.suE ((Md.tick (Md.ldS ((Md.tick (Md.crS Mb2 (ByteArray.mk #[120])))) (ByteArray.mk #[120]) ([(⟨(0:Int),(4:Int),(ByteArray.mk #[100,105,115,107,48]),(0:Int),false⟩:api_Target)])))) (ByteArray.mk #[120]))) fun w6 =>
      if (w6≠(0:Int)) then
        some false
      else
        grd (decide (((Md.tick (Md.suS ((Md.tick (Md.ldS ((Md.tick (Md.crS Mb2 (ByteArray.mk #[120])))) (ByteArray.mk #[120]) ([(⟨(0:Int),(4:Int),(ByteArray.mk #[100,105,115,107,48]),(0:Int),false⟩:api_Target)])))) (ByteArray.mk #[120])))).cl < 4000)) <|
        lt ((Md.rsE ((Md.tick (Md.suS ((Md.tick (Md.ldS ((Md.tick (Md.crS Mb2 (ByteArray.mk #[120])))) (ByteArray.mk #[120]) ([(⟨(0:Int),(4:Int),(ByteArray.mk #[100,105,115,107,48]),(0:Int),false⟩:api_Target)])))) (ByteArray.mk #[120])))) (ByteArray.mk #[120]))) fun w7 =>
        if (w7≠(0:Int)) then
          some false
        else
          grd (decide (((Md.tick (Md.rsS ((Md.tick (Md.suS ((Md.tick (Md.ldS ((Md.tick (Md.crS Mb2 (ByteArray.mk #[120])))) (ByteArray.mk #[120]) ([(⟨(0:Int),(4:Int),(ByteArray.mk #[100,105,115,107,48]),(0:Int),false⟩:api_Target)])))) (ByteArray.mk #[120])))) (ByteArray.mk #[120])))).cl < 4000)) <|
          lt ((Md.suE ((Md.tick (Md.rsS ((Md.tick (Md.suS ((Md.tick (Md.ldS ((Md.tick (Md.crS Mb2 (ByteArray.mk #[120])))) (ByteArray.mk #[120]) ([(⟨(0:Int),(4:Int),(ByteArray.mk #[100,105,115,107,48]),(0:Int),false⟩:api_Target)])))) (ByteArray.mk #[120])))) (ByteArray.mk #[120])))) (ByteArray.mk #[120]))) fun w8 =>
          if (w8≠(0:Int)) then
            some false
          else
            grd (decide (((Md.tick (Md.suS ((Md.tick (Md.rsS ((Md.tick (Md.suS ((Md.tick (Md.ldS ((Md.tick (Md.crS Mb2 (ByteArray.mk #[120])))) (ByteArray.mk #[120]) ([(⟨(0:Int),(4:Int),(ByteArray.mk #[100,105,115,107,48]),(0:Int),false⟩:api_Target)])))) (ByteArray.mk #[120])))) (ByteArray.mk #[120])))) (ByteArray.mk #[120])))).cl < 4000∧inT ((⟨(2:Int),(1:Int),(9:UInt64)⟩:api_Task)))) <|
            lt ((Md.doA ((Md.tick (Md.suS ((Md.tick (Md.rsS ((Md.tick (Md.suS ((Md.tick (Md.ldS ((Md.tick (Md.crS Mb2 (ByteArray.mk #[120])))) (ByteArray.mk #[120]) ([(⟨(0:Int),(4:Int),(ByteArray.mk #[100,105,115,107,48]),(0:Int),false⟩:api_Target)])))) (ByteArray.mk #[120])))) (ByteArray.mk #[120])))) (ByteArray.mk #[120])))) (ByteArray.mk #[120]) ((⟨(2:Int),(1:Int),(9:UInt64)⟩:api_Task)))) fun w9 =>
            lt ((Md.doE ((Md.tick (Md.suS ((Md.tick (Md.rsS ((Md.tick (Md.suS ((Md.tick (Md.ldS ((Md.tick (Md.crS Mb2 (ByteArray.mk #[120])))) (ByteArray.mk #[120]) ([(⟨(0:Int),(4:Int),(ByteArray.mk #[100,105,115,107,48]),(0:Int),false⟩:api_Target)])))) (ByteArray.mk #[120])))) (ByteArray.mk #[120])))) (ByteArray.mk #[120])))) (ByteArray.mk #[120]) ((⟨(2:Int),(1:Int),(9:UInt64)⟩:api_Task)))) fun w10 =>
            if (((w10≠(0:Int))∨w9.Done=true)∨(w9.Ticket≠(1:Int))) then
              some false
            else
              grd (decide (((Md.tick (Md.doS ((Md.tick (Md.suS ((Md.tick (Md.rsS ((Md.tick (Md.suS ((Md.tick (Md.ldS ((Md.tick (Md.crS Mb2 (ByteArray.mk #[120])))) (ByteArray.mk #[120]) ([(⟨(0:Int),(4:Int),(ByteArray.mk #[100,105,115,107,48]),(0:Int),false⟩:api_Target)])))) (ByteArray.mk #[120])))) (ByteArray.mk #[120])))) (ByteArray.mk #[120])))) (ByteArray.mk #[120]) ((⟨(2:Int),(1:Int),(9:UInt64)⟩:api_Task))))).cl < 4000∧([(⟨(0:Int),(4:Int),(ByteArray.mk #[100,105,115,107,49]),(2:Int),false⟩:api_Target)]).length≤100000000)) <|
              lt ((Md.ldE ((Md.tick (Md.doS ((Md.tick (Md.suS ((Md.tick (Md.rsS ((Md.tick (Md.suS ((Md.tick (Md.ldS ((Md.tick (Md.crS Mb2 (ByteArray.mk #[120])))) (ByteArray.mk #[120]) ([(⟨(0:Int),(4:Int),(ByteArray.mk #[100,105,115,107,48]),(0:Int),false⟩:api_Target)])))) (ByteArray.mk #[120])))) (ByteArray.mk #[120])))) (ByteArray.mk #[120])))) (ByteArray.mk #[120]) ((⟨(2:Int),(1:Int),(9:UInt64)⟩:api_Task))))) (ByteArray.mk #[120]) ([(⟨(0:Int),(4:Int),(ByteArray.mk #[100,105,115,107,49]),(2:Int),false⟩:api_Target)]))) fun w23 =>
              if (w23≠(0:Int)) then
                some false
              else
                grd (decide (((Md.tick (Md.ldS ((Md.tick (Md.doS ((Md.tick (Md.suS ((Md.tick (Md.rsS ((Md.tick (Md.suS ((Md.tick (Md.ldS ((Md.tick (Md.crS Mb2 (ByteArray.mk #[120])))) (ByteArray.mk #[120]) ([(⟨(0:Int),(4:Int),(ByteArray.mk #[100,105,115,107,48]),(0:Int),false⟩:api_Target)])))) (ByteArray.mk #[120])))) (ByteArray.mk #[120])))) (ByteArray.mk #[120])))) (ByteArray.mk #[120]) ((⟨(2:Int),(1:Int),(9:UInt64)⟩:api_Task))))) (ByteArray.mk #[120]) ([(⟨(0:Int),(4:Int),(ByteArray.mk #[100,105,115,107,49]),(2:Int),false⟩:api_Target)])))).cl < 4000)) <|
                lt ((Md.rsE ((Md.tick (Md.ldS ((Md.tick (Md.doS ((Md.tick (Md.suS ((Md.tick (Md.rsS ((Md.tick (Md.suS ((Md.tick (Md.ldS ((Md.tick (Md.crS Mb2 (ByteArray.mk #[120])))) (ByteArray.mk #[120]) ([(⟨(0:Int),(4:Int),(ByteArray.mk #[100,105,115,107,48]),(0:Int),false⟩:api_Target)])))) (ByteArray.mk #[120])))) (ByteArray.mk #[120])))) (ByteArray.mk #[120])))) (ByteArray.mk #[120]) ((⟨(2:Int),(1:Int),(9:UInt64)⟩:api_Task))))) (ByteArray.mk #[120]) ([(⟨(0:Int),(4:Int),(ByteArray.mk #[100,105,115,107,49]),(2:Int),false⟩:api_Target)])))) (ByteArray.mk #[120]))) fun w24 =>
                if (w24≠(0:Int)) then
                  some false
                else
                  grd (decide (((Md.tick (Md.rsS ((Md.tick (Md.ldS ((Md.tick (Md.doS ((Md.tick (Md.suS ((Md.tick (Md.rsS ((Md.tick (Md.suS ((Md.tick (Md.ldS ((Md.tick (Md.crS Mb2 (ByteArray.mk #[120])))) (ByteArray.mk #[120]) ([(⟨(0:Int),(4:Int),(ByteArray.mk #[100,105,115,107,48]),(0:Int),false⟩:api_Target)])))) (ByteArray.mk #[120])))) (ByteArray.mk #[120])))) (ByteArray.mk #[120])))) (ByteArray.mk #[120]) ((⟨(2:Int),(1:Int),(9:UInt64)⟩:api_Task))))) (ByteArray.mk #[120]) ([(⟨(0:Int),(4:Int),(ByteArray.mk #[100,105,115,107,49]),(2:Int),false⟩:api_Target)])))) (ByteArray.mk #[120])))).cl < 4000)) <|
                  lt (((Md.told ((Md.tick (Md.rsS ((Md.tick (Md.ldS ((Md.tick (Md.doS ((Md.tick (Md.suS ((Md.tick (Md.rsS ((Md.tick (Md.suS ((Md.tick (Md.ldS ((Md.tick (Md.crS Mb2 (ByteArray.mk #[120])))) (ByteArray.mk #[120]) ([(⟨(0:Int),(4:Int),(ByteArray.mk #[100,105,115,107,48]),(0:Int),false⟩:api_Target)])))) (ByteArray.mk #[120])))) (ByteArray.mk #[120])))) (ByteArray.mk #[120])))) (ByteArray.mk #[120]) ((⟨(2:Int),(1:Int),(9:UInt64)⟩:api_Task))))) (ByteArray.mk #[120]) ([(⟨(0:Int),(4:Int),(ByteArray.mk #[100,105,115,107,49]),(2:Int),false⟩:api_Target)])))) (ByteArray.mk #[120])))))).length) fun w28 =>
                  if (((w28:Nat):Int)≠(1:Int)) then
                    some false
                  else
                    grd (decide (((Md.tick (Md.anS ((Md.tick (Md.rsS ((Md.tick (Md.ldS ((Md.tick (Md.doS ((Md.tick (Md.suS ((Md.tick (Md.rsS ((Md.tick (Md.suS ((Md.tick (Md.ldS ((Md.tick (Md.crS Mb2 (ByteArray.mk #[120])))) (ByteArray.mk #[120]) ([(⟨(0:Int),(4:Int),(ByteArray.mk #[100,105,115,107,48]),(0:Int),false⟩:api_Target)])))) (ByteArray.mk #[120])))) (ByteArray.mk #[120])))) (ByteArray.mk #[120])))) (ByteArray.mk #[120]) ((⟨(2:Int),(1:Int),(9:UInt64)⟩:api_Task))))) (ByteArray.mk #[120]) ([(⟨(0:Int),(4:Int),(ByteArray.mk #[100,105,115,107,49]),(2:Int),false⟩:api_Target)])))) (ByteArray.mk #[120]))))))).cl < 4000∧inT ((⟨(1:Int),(3:Int),(0:UInt64)⟩:api_Task)))) <|
                    lt ((Md.doA ((Md.tick (Md.anS ((Md.tick (Md.rsS ((Md.tick (Md.ldS ((Md.tick (Md.doS ((Md.tick (Md.suS ((Md.tick (Md.rsS ((Md.tick (Md.suS ((Md.tick (Md.ldS ((Md.tick (Md.crS Mb2 (ByteArray.mk #[120])))) (ByteArray.mk #[120]) ([(⟨(0:Int),(4:Int),(ByteArray.mk #[100,105,115,107,48]),(0:Int),false⟩:api_Target)])))) (ByteArray.mk #[120])))) (ByteArray.mk #[120])))) (ByteArray.mk #[120])))) (ByteArray.mk #[120]) ((⟨(2:Int),(1:Int),(9:UInt64)⟩:api_Task))))) (ByteArray.mk #[120]) ([(⟨(0:Int),(4:Int),(ByteArray.mk #[100,105,115,107,49]),(2:Int),false⟩:api_Target)])))) (ByteArray.mk #[120]))))))) (ByteArray.mk #[100,105,115,107,49]) ((⟨(1:Int),(3:Int),(0:UInt64)⟩:api_Task)))) fun w29 =>
                    lt ((Md.doE ((Md.tick (Md.anS ((Md.tick (Md.rsS ((Md.tick (Md.ldS ((Md.tick (Md.doS ((Md.tick (Md.suS ((Md.tick (Md.rsS ((Md.tick (Md.suS ((Md.tick (Md.ldS ((Md.tick (Md.crS Mb2 (ByteArray.mk #[120])))) (ByteArray.mk #[120]) ([(⟨(0:Int),(4:Int),(ByteArray.mk #[100,105,115,107,48]),(0:Int),false⟩:api_Target)])))) (ByteArray.mk #[120])))) (ByteArray.mk #[120])))) (ByteArray.mk #[120])))) (ByteArray.mk #[120]) ((⟨(2:Int),(1:Int),(9:UInt64)⟩:api_Task))))) (ByteArray.mk #[120]) ([(⟨(0:Int),(4:Int),(ByteArray.mk #[100,105,115,107,49]),(2:Int),false⟩:api_Target)])))) (ByteArray.mk #[120]))))))) (ByteArray.mk #[100,105,115,107,49]) ((⟨(1:Int),(3:Int),(0:UInt64)⟩:api_Task)))) fun w30 =>
                    some ((((decide (w30=(0:Int))) && w29.Done) && (decide (w29.Value=(9:UInt64)))))
theorem zdq {W:World} {r:Bool} (h:ze3=some r) :
    CSpec Tryz.prog W 14 [] [] (fun x:Unit => .bool r) (fun _=>True) (fun x F=>F) := by
 refine CSpec.of_body Tryz.func14 rfl Tryz.ntmps14 rfl fun F => ?_
 show CJ _ _ _ _ _ _ (F)
 unfold ze3 at h
 refine sR <| oA rfl rfl <| nT <| sR <| oO <| zaq (zsn) rfl Tryz.call7 Dels.nil rfl fun X1 _=>oM rfl rfl <| oP (za0 rfl rfl) rfl <| oP (za0 rfl rfl) rfl <| oA rfl rfl <| oA rfl rfl <| nT <| zad <| sR <| oM rfl rfl <| oP (zd3 rfl rfl Tryz.underlying25) rfl <| oM rfl rfl <| gP (zac rfl rfl rfl rfl) (zag rfl) rfl ?_
 obtain ⟨hg1,h⟩ := zd0 h
 refine RJ_gy (zac rfl rfl rfl rfl) <| zaq (zo9 hg1) rfl Tryz.call22 (Dels.cons del0 Dels.nil) rfl fun _ _=>gP (zac rfl rfl rfl rfl) (P_neq (a:=(Md.crE Mb2 (ByteArray.mk #[120]))) (b:=(0:Int)) rfl rfl) rfl <| oP (za5 rfl rfl rfl) rfl <| oM rfl rfl <| zel 17 rfl zax (fun hg2B hg2 => ?_) (fun hg2B hg2 => ?_)
 ·
  replace h := ite_t hg2 h
  refine RJ_gn (GY_no rfl rfl rfl hg2B) rfl rfl <| RJ_gn (GY_no rfl rfl rfl hg2B) rfl rfl <| RJ_gn (GY_no rfl rfl rfl hg2B) rfl rfl <| RJ_gn (GY_no rfl rfl rfl hg2B) rfl rfl <| RJ_gn (GY_no rfl rfl rfl hg2B) rfl rfl <| oP (za2 rfl hg2B rfl) rfl <| oM rfl rfl <| RJ_gn (GY_no rfl rfl rfl rfl) rfl rfl <| RJ_gn (GY_no rfl rfl rfl rfl) rfl rfl <| RJ_gn (GY_no rfl rfl rfl rfl) rfl rfl <| oP (za2 rfl rfl rfl) rfl <| oM rfl rfl <| RJ_gn (GY_no rfl rfl rfl rfl) rfl rfl <| RJ_gn (GY_no rfl rfl rfl rfl) rfl rfl <| RJ_gn (GY_no rfl rfl rfl rfl) rfl rfl <| oP (za2 rfl rfl rfl) rfl <| oM rfl rfl <| RJ_gn (GY_no rfl rfl rfl rfl) rfl rfl <| RJ_gn (GY_no rfl rfl rfl rfl) rfl rfl <| RJ_gn (GY_no rfl rfl rfl rfl) rfl rfl <| oP (za2 rfl rfl rfl) rfl <| nT <| zbg rfl rfl <| sR <| oA rfl rfl <| nT <| zai <| zae ?_
  cases h
  exact fE (res1 Tryz.results14 rfl) () (eD (eD eR))
 ·
  replace h := ite_f hg2 h
  refine gP (zac rfl rfl rfl hg2B) (zag rfl) rfl <| gP (zac rfl rfl rfl hg2B) (zbq rfl (zth _ _)) rfl <| RJ_gy (zac rfl rfl rfl hg2B) <| zbe rfl (zph _ _ _ _ _) rfl fun b4=>zdc (Ent.trans (t0_ eR) (zde (t:=tyapi_Target) (m:=1) [(⟨(0:Int),(4:Int),(ByteArray.mk #[100,105,115,107,48]),(0:Int),false⟩:api_Target)] rfl rfl rfl (by decide))) ?_
  obtain ⟨hg3,h⟩ := zd0 h
  refine RJ_gy (zac rfl rfl rfl hg2B) <| zaq (zsq (Reads.sl _ _ _) hg3 (v:=⟨_,_,_⟩)) rfl Tryz.call28 (Dels.cons del1 (Dels.cons del0 Dels.nil)) rfl fun _ _ => ?_
  obtain ⟨w5,hw5,h⟩ := lt_e h
  rw [← hw5]
  refine gP (zac rfl rfl rfl hg2B) (P_neq (a:=w5) (b:=(0:Int)) rfl rfl) rfl <| oP (za5 rfl hg2B rfl) rfl <| oM rfl rfl <| zel 24 rfl zax (fun hg4B hg4 => ?_) (fun hg4B hg4 => ?_)
  ·
   replace h := ite_t hg4 h
   refine RJ_gn (GY_no rfl rfl rfl hg4B) rfl rfl <| RJ_gn (GY_no rfl rfl rfl hg4B) rfl rfl <| RJ_gn (GY_no rfl rfl rfl hg4B) rfl rfl <| oP (za2 rfl hg4B rfl) rfl <| oM rfl rfl <| RJ_gn (GY_no rfl rfl rfl rfl) rfl rfl <| RJ_gn (GY_no rfl rfl rfl rfl) rfl rfl <| RJ_gn (GY_no rfl rfl rfl rfl) rfl rfl <| oP (za2 rfl rfl rfl) rfl <| oM rfl rfl <| RJ_gn (GY_no rfl rfl rfl rfl) rfl rfl <| RJ_gn (GY_no rfl rfl rfl rfl) rfl rfl <| RJ_gn (GY_no rfl rfl rfl rfl) rfl rfl <| oP (za2 rfl rfl rfl) rfl <| nT <| zbg rfl rfl <| sR <| oA rfl rfl <| nT <| zai <| zae ?_
   cases h
   exact fE (res1 Tryz.results14 rfl) () (eD (eD (eD eR)))
  ·
   replace h := ite_f hg4 h
   refine gP (zac rfl rfl rfl hg4B) (zag rfl) rfl ?_
   obtain ⟨hg5,h⟩ := zd0 h
   refine RJ_gy (zac rfl rfl rfl hg4B) <| zaq (zj4 hg5) rfl Tryz.call32 (Dels.cons del0 Dels.nil) rfl fun _ _ => ?_
   obtain ⟨w6,hw6,h⟩ := lt_e h
   rw [← hw6]
   refine gP (zac rfl rfl rfl hg4B) (P_neq (a:=w6) (b:=(0:Int)) rfl rfl) rfl <| oP (za5 rfl hg4B rfl) rfl <| oM rfl rfl <| zel 29 rfl zax (fun hg6B hg6 => ?_) (fun hg6B hg6 => ?_)
   ·
    replace h := ite_t hg6 h
    refine RJ_gn (GY_no rfl rfl rfl hg6B) rfl rfl <| RJ_gn (GY_no rfl rfl rfl hg6B) rfl rfl <| RJ_gn (GY_no rfl rfl rfl hg6B) rfl rfl <| oP (za2 rfl hg6B rfl) rfl <| oM rfl rfl <| RJ_gn (GY_no rfl rfl rfl rfl) rfl rfl <| RJ_gn (GY_no rfl rfl rfl rfl) rfl rfl <| RJ_gn (GY_no rfl rfl rfl rfl) rfl rfl <| oP (za2 rfl rfl rfl) rfl <| nT <| zbg rfl rfl <| sR <| oA rfl rfl <| nT <| zai <| zae ?_
    cases h
    exact fE (res1 Tryz.results14 rfl) () (eD (eD (eD eR)))
   ·
    replace h := ite_f hg6 h
    refine gP (zac rfl rfl rfl hg6B) (zag rfl) rfl ?_
    obtain ⟨hg7,h⟩ := zd0 h
    refine RJ_gy (zac rfl rfl rfl hg6B) <| zaq (zlc hg7) rfl Tryz.call34 (Dels.cons del0 Dels.nil) rfl fun _ _ => ?_
    obtain ⟨w7,hw7,h⟩ := lt_e h
    rw [← hw7]
    refine gP (zac rfl rfl rfl hg6B) (P_neq (a:=w7) (b:=(0:Int)) rfl rfl) rfl <| oP (za5 rfl hg6B rfl) rfl <| oM rfl rfl <| zel 34 rfl zax (fun hg8B hg8 => ?_) (fun hg8B hg8 => ?_)
    ·
     replace h := ite_t hg8 h
     refine RJ_gn (GY_no rfl rfl rfl hg8B) rfl rfl <| RJ_gn (GY_no rfl rfl rfl hg8B) rfl rfl <| RJ_gn (GY_no rfl rfl rfl hg8B) rfl rfl <| oP (za2 rfl hg8B rfl) rfl <| nT <| zbg rfl rfl <| sR <| oA rfl rfl <| nT <| zai <| zae ?_
     cases h
     exact fE (res1 Tryz.results14 rfl) () (eD (eD (eD eR)))
    ·
     replace h := ite_f hg8 h
     refine gP (zac rfl rfl rfl hg8B) (zag rfl) rfl ?_
     obtain ⟨hg9,h⟩ := zd0 h
     refine RJ_gy (zac rfl rfl rfl hg8B) <| zaq (zj4 hg9) rfl Tryz.call32 (Dels.cons del0 Dels.nil) rfl fun _ _ => ?_
     obtain ⟨w8,hw8,h⟩ := lt_e h
     rw [← hw8]
     refine gP (zac rfl rfl rfl hg8B) (P_neq (a:=w8) (b:=(0:Int)) rfl rfl) rfl <| oP (za5 rfl hg8B rfl) rfl <| nT <| zbs rfl zax (fun hg10 => ?_) (fun hg10 => ?_)
     ·
      replace h := ite_t hg10 h
      refine sR <| oA rfl rfl <| nT <| zai <| zae ?_
      cases h
      exact fE (res1 Tryz.results14 rfl) () (eD (eD (eD eR)))
     ·
      replace h := ite_f hg10 h
      refine kT <| sR <| oM rfl rfl <| oP (zbq rfl (zq5 _ _ _)) rfl ?_
      obtain ⟨hg11,h⟩ := zd0 h
      refine oO <| zaq (c_DoG hg11) rfl Tryz.call37 (Dels.cons del0 Dels.nil) rfl fun _ _=>oM rfl rfl <| oP (za0 rfl rfl) rfl ?_
      obtain ⟨w9,hw9,h⟩ := lt_e h
      rw [← hw9]
      refine oP (za0 rfl rfl) rfl ?_
      obtain ⟨w10,hw10,h⟩ := lt_e h
      rw [← hw10]
      refine oO <| zb2 Tryz.zeroValue51 rfl rfl fun b11=>oO <| zbl rfl rfl foc0 Tryz.sizeOf51 rfl rfl rfl <| oA rfl rfl <| nT <| zad <| sR <| oM rfl rfl <| oP (P_neq (a:=w10) (b:=(0:Int)) rfl rfl) rfl <| oM rfl rfl <| zb7 rfl rfl rfl (fun hG12=>have hP13:¬ (w10≠(0:Int)) := nP (zax) hG12; VJ_P (zaa rfl ⟨_,_,_,Tryz.runUnderlying51,rfl,rfl,Tryz.sizeOf4,rfl⟩)) <| zb7 rfl rfl rfl (fun hG14=>have hP15:¬ (w10≠(0:Int)) := nP (zax) hG14; zah (mbx hG14 rfl) foc0 rfl Tryz.isAgg4) <| oP (ze0 rfl rfl (fun hh=>mbx (not_f hh) rfl)) rfl <| oM rfl rfl <| zb7 rfl rfl rfl (fun hG16=>have hP17:¬ ((w10≠(0:Int))∨w9.Done=true) := nP ((bT_or zax Iff.rfl)) hG16; VJ_P (zaa rfl ⟨_,_,_,Tryz.runUnderlying51,rfl,rfl,Tryz.sizeOf3,rfl⟩)) <| zb7 rfl rfl rfl (fun hG18=>have hP19:¬ ((w10≠(0:Int))∨w9.Done=true) := nP ((bT_or zax Iff.rfl)) hG18; zah (mbx hG18 rfl) foc0 rfl Tryz.isAgg3) <| zb7 rfl rfl rfl (fun hG20=>have hP21:¬ ((w10≠(0:Int))∨w9.Done=true) := nP ((bT_or zax Iff.rfl)) hG20; VJ_P (P_neq (a:=w9.Ticket) (b:=(1:Int)) (mbx hG20 rfl) rfl)) <| oP (ze0 rfl rfl (fun hh=>mbx (not_f hh) rfl)) rfl <| oM rfl rfl <| zel 56 rfl (bT_or (bT_or zax Iff.rfl) zax) (fun hg12B hg12 => ?_) (fun hg12B hg12 => ?_)
      ·
       replace h := ite_t hg12 h
       refine RJ_gn (GY_no rfl rfl rfl hg12B) rfl rfl <| RJ_gn (GY_no rfl rfl rfl hg12B) rfl rfl <| RJ_gn (GY_no rfl rfl rfl hg12B) rfl rfl <| RJ_gn (GY_no rfl rfl rfl hg12B) rfl rfl <| RJ_gn (GY_no rfl rfl rfl hg12B) rfl rfl <| oP (za2 rfl hg12B rfl) rfl <| oM rfl rfl <| RJ_gn (GY_no rfl rfl rfl rfl) rfl rfl <| RJ_gn (GY_no rfl rfl rfl rfl) rfl rfl <| RJ_gn (GY_no rfl rfl rfl rfl) rfl rfl <| oP (za2 rfl rfl rfl) rfl <| oM rfl rfl <| RJ_gn (GY_no rfl rfl rfl rfl) rfl rfl <| RJ_gn (GY_no rfl rfl rfl rfl) rfl rfl <| RJ_gn (GY_no rfl rfl rfl rfl) rfl rfl <| RJ_gn (GY_no rfl rfl rfl rfl) rfl rfl <| oP (za2 rfl rfl rfl) rfl <| nT <| zbg rfl rfl <| sR <| oA rfl rfl <| nT <| zai <| zae ?_
       cases h
       exact fE (res1 Tryz.results14 rfl) () (eD (eD (eD (eD eR))))
      ·
       replace h := ite_f hg12 h
       refine gP (zac rfl rfl rfl hg12B) (zag rfl) rfl <| gP (zac rfl rfl rfl hg12B) (zbq rfl (zq6 _ _ _)) rfl <| RJ_gy (zac rfl rfl rfl hg12B) <| zbe rfl (zph _ _ _ _ _) rfl fun b22=>zdc (Ent.trans (t0_ eR) (zde (t:=tyapi_Target) (m:=1) [(⟨(0:Int),(4:Int),(ByteArray.mk #[100,105,115,107,49]),(2:Int),false⟩:api_Target)] rfl rfl rfl (by decide))) ?_
       obtain ⟨hg13,h⟩ := zd0 h
       refine RJ_gy (zac rfl rfl rfl hg12B) <| zaq (zsq (Reads.sl _ _ _) hg13 (v:=⟨_,_,_⟩)) rfl Tryz.call28 (Dels.cons del2 (Dels.cons del0 Dels.nil)) rfl fun _ _ => ?_
       obtain ⟨w23,hw23,h⟩ := lt_e h
       rw [← hw23]
       refine gP (zac rfl rfl rfl hg12B) (P_neq (a:=w23) (b:=(0:Int)) rfl rfl) rfl <| oP (za5 rfl hg12B rfl) rfl <| oM rfl rfl <| zel 63 rfl zax (fun hg14B hg14 => ?_) (fun hg14B hg14 => ?_)
       ·
        replace h := ite_t hg14 h
        refine RJ_gn (GY_no rfl rfl rfl hg14B) rfl rfl <| RJ_gn (GY_no rfl rfl rfl hg14B) rfl rfl <| RJ_gn (GY_no rfl rfl rfl hg14B) rfl rfl <| oP (za2 rfl hg14B rfl) rfl <| oM rfl rfl <| RJ_gn (GY_no rfl rfl rfl rfl) rfl rfl <| RJ_gn (GY_no rfl rfl rfl rfl) rfl rfl <| RJ_gn (GY_no rfl rfl rfl rfl) rfl rfl <| RJ_gn (GY_no rfl rfl rfl rfl) rfl rfl <| oP (za2 rfl rfl rfl) rfl <| nT <| zbg rfl rfl <| sR <| oA rfl rfl <| nT <| zai <| zae ?_
        cases h
        exact fE (res1 Tryz.results14 rfl) () (eD (eD (eD (eD (eD eR)))))
       ·
        replace h := ite_f hg14 h
        refine gP (zac rfl rfl rfl hg14B) (zag rfl) rfl ?_
        obtain ⟨hg15,h⟩ := zd0 h
        refine RJ_gy (zac rfl rfl rfl hg14B) <| zaq (zlc hg15) rfl Tryz.call34 (Dels.cons del0 Dels.nil) rfl fun _ _ => ?_
        obtain ⟨w24,hw24,h⟩ := lt_e h
        rw [← hw24]
        refine gP (zac rfl rfl rfl hg14B) (P_neq (a:=w24) (b:=(0:Int)) rfl rfl) rfl <| oP (za5 rfl hg14B rfl) rfl <| oM rfl rfl <| zel 68 rfl zax (fun hg16B hg16 => ?_) (fun hg16B hg16 => ?_)
        ·
         replace h := ite_t hg16 h
         refine RJ_gn (GY_no rfl rfl rfl hg16B) rfl rfl <| RJ_gn (GY_no rfl rfl rfl hg16B) rfl rfl <| RJ_gn (GY_no rfl rfl rfl hg16B) rfl rfl <| RJ_gn (GY_no rfl rfl rfl hg16B) rfl rfl <| oP (za2 rfl hg16B rfl) rfl <| nT <| zbg rfl rfl <| sR <| oA rfl rfl <| nT <| zai <| zae ?_
         cases h
         exact fE (res1 Tryz.results14 rfl) () (eD (eD (eD (eD (eD eR)))))
        ·
         replace h := ite_f hg16 h
         refine gP (zac rfl rfl rfl hg16B) (zag rfl) rfl ?_
         obtain ⟨hg17,h⟩ := zd0 h
         refine RJ_gy (zac rfl rfl rfl hg16B) <| zaq (znv hg17) rfl Tryz.call13 (Dels.cons del0 Dels.nil) rfl fun X25 _=>zrp (zc1 (Reads.sl _ _ _) del0) fun hlen27=>gV (zac rfl rfl rfl hg16B) (V_len rfl foc0 (Reads.sl _ _ _) Tryz.runUnderlying54) rfl ?_
         obtain ⟨w28,hw28,h⟩ := lt_e h
         rw [← hw28]
         refine gP (zac rfl rfl rfl hg16B) (P_neq (a:=((w28:Nat):Int)) (b:=(1:Int)) rfl rfl) rfl <| oP (za5 rfl hg16B rfl) rfl <| nT <| zbs rfl zax (fun hg18 => ?_) (fun hg18 => ?_)
         ·
          replace h := ite_t hg18 h
          refine sR <| oA rfl rfl <| nT <| zai <| zae ?_
          cases h
          exact fE (res1 Tryz.results14 rfl) () (eD (eD (eD (eD (eD (eD eR))))))
         ·
          replace h := ite_f hg18 h
          refine kT <| sR <| oM rfl rfl <| oP (zbq rfl (zti _ _)) rfl ?_
          obtain ⟨hg19,h⟩ := zd0 h
          refine oO <| zaq (c_DoG hg19) rfl Tryz.call37 (Dels.cons del1 Dels.nil) rfl fun _ _=>oM rfl rfl <| oP (za0 rfl rfl) rfl ?_
          obtain ⟨w29,hw29,h⟩ := lt_e h
          rw [← hw29]
          refine oP (za0 rfl rfl) rfl ?_
          obtain ⟨w30,hw30,h⟩ := lt_e h
          rw [← hw30]
          refine oO <| zb2 Tryz.zeroValue51 rfl rfl fun b31=>oO <| zbl rfl rfl foc0 Tryz.sizeOf51 rfl rfl rfl <| oA rfl rfl <| za4 <| QJ_ent (t0_ (eD (eD (eD (eD (eD (eD eR))))))) <| zat <| sR <| oM rfl rfl <| oP (P_eql (a:=w30) (b:=(0:Int)) rfl rfl) rfl <| oM rfl rfl <| zc0 rfl rfl rfl (fun hG32=>have hP33:(w30=(0:Int)) := (zax).1 hG32; VJ_P (zaa rfl ⟨_,_,_,Tryz.runUnderlying51,rfl,rfl,Tryz.sizeOf4,rfl⟩)) <| zc0 rfl rfl rfl (fun hG34=>have hP35:(w30=(0:Int)) := (zax).1 hG34; zah (mbx hG34 rfl) foc0 rfl Tryz.isAgg4) <| oP (zek rfl (fun hh=>mbx hh rfl) rfl) rfl <| oM rfl rfl <| zc0 rfl rfl rfl (fun hG36=>have hP37:((w30=(0:Int))∧w29.Done=true) := ((zb9 zax Iff.rfl)).1 hG36; VJ_P (zaa rfl ⟨_,_,_,Tryz.runUnderlying51,rfl,rfl,Tryz.sizeOf31,rfl⟩)) <| zc0 rfl rfl rfl (fun hG38=>have hP39:((w30=(0:Int))∧w29.Done=true) := ((zb9 zax Iff.rfl)).1 hG38; zah (mbx hG38 rfl) foc0 rfl Tryz.isAgg31) <| zc0 rfl rfl rfl (fun hG40=>have hP41:((w30=(0:Int))∧w29.Done=true) := ((zb9 zax Iff.rfl)).1 hG40; VJ_P (zv6 (a:=w29.Value) (b:=(9:UInt64)) (mbx hG40 rfl) rfl)) <| oP (zek rfl (fun hh=>mbx hh rfl) rfl) rfl <| oA rfl rfl <| nT <| zai ?_
          cases h
          exact fE (res1 Tryz.results14 rfl) () (eD eR)
end Go.Proofs
namespace Go.Proofs
open Go.VG
theorem zic:ze3=some true := by kernel_rfl
end Go.Proofs
set_option linter.unusedSimpArgs false
set_option maxRecDepth 20000
namespace Go.Proofs
open Go.VG
theorem znz (v0:ByteArray):zbx Tryz.prog 59 1 [(0,.string v0)] 9 [.string v0] := fun w=>by kernel_rfl
abbrev tyCall:Ty CallS := { T := 35,sz := 7,enc := callC,dflt := ⟨0,ByteArray.empty,ByteArray.empty,s3z,⟨0,0,0⟩⟩,len := fun _=>rfl,one := fun _=>rfl,pos := by decide }
theorem zrn {W:World} {A:HP} {v:Value} {xs:List CallS} {tb:Nat→List api_Target} (hA:Reads A tyCall v xs) (hT:∀ i < xs.length,Reads A tyapi_Target (xs.getD i tyCall.dflt).tb.v (tb i)) (hJ:∀ i < xs.length,inT (xs.getD i tyCall.dflt).t) :
    CSpec Tryz.prog W 4 [v] [A] (fun _:Unit => .bool true) (fun _=>True) (fun _ F=>A::F) := by
 refine CSpec.of_body Tryz.func4 rfl Tryz.ntmps4 rfl fun F => ?_
 show CJ _ _ _ _ _ _ (_::F)
 refine sR <| oA rfl rfl <| nT <| zad <| sR <| oM rfl rfl <| oV (V_len rfl foc0 hA Tryz.runUnderlying58) rfl <| oP (P_gtr rfl rfl) rfl <| nT ?_
 first | (refine zao rfl (fun hg1 => ?_) (fun hg1 => ?_)) | (refine zap rfl (fun hg1 => ?_) (fun hg1 => ?_)) | (refine zar rfl (fun hg1 => ?_) (fun hg1 => ?_))
 ·
  refine sR <| oO <| zaq ((zdq zic)) rfl Tryz.call14 Dels.nil rfl fun _ hc1=>oA rfl rfl <| nT <| zai <| zae <| zan (res1 Tryz.results4 rfl) <| CSpec.close () ?_ ?_ (t0_ eR)
  · rfl
  · trivial
 ·
  refine kT <| sR <| oO <| zaq (zsn) rfl Tryz.call7 Dels.nil rfl fun bg hc4=>oM rfl rfl <| oP (za0 rfl rfl) rfl <| oP (za0 rfl rfl) rfl <| oA rfl rfl <| oA rfl rfl <| nT <| zad <| sR <| oM rfl rfl <| oP (zd3 rfl rfl Tryz.underlying25) rfl <| nT <| zbh rfl rfl <| kT <| sR <| oA rfl rfl <| nT <| zad <| sR <| oA rfl rfl <| nT <| zas <| zbc (fun h hh=>zb1 (t:=tyS) h hh) <| zbd (X:=Nat × Sl3 × List ByteArray × Md) [2,5,6,17,18,19,20,21,22,23,24,25,26,27,28,29,30,31,32,33,34,35,36,37,38,39,40,41,42,43,44,45,46,47,48,49,50,51,52,53,54,55,56,57,58,59,60,61,62,63,64,65,66,67,68,69] (fun ⟨i,rv,ns,m1⟩  => ([(6,.int .i64 (i:Nat)),(5,rv.v)]:Slots)) (fun ⟨i,rv,ns,m1⟩ R=>sl tyS rv.v ns::MapP bg.1 m1::RefP bg.2 m1::R) (fun ⟨i,rv,ns,m1⟩  => i≤xs.length∧ns.length=i∧m1.cl=25 * i) (fun ⟨i,rv,ns,m1⟩  => xs.length - i) ⟨0,s3z,[],Mb2⟩ ?_ ?_ (t0_ (t0_ (t0_ (t0_ eR)))) ?_
  · exact ⟨Nat.zero_le _,rfl,rfl⟩
  · exact ⟨rfl,rfl,True.intro⟩
  ·
   rintro ⟨i,rv,ns,m1⟩ ⟨hi,hns,hm1⟩
   show CJ _ _ _ _ _ (([(6,.int .i64 (i:Nat)),(5,rv.v)]:Slots) ++ forget _ _) (sl tyS rv.v ns::MapP bg.1 m1::RefP bg.2 m1::_)
   refine zad <| sR <| oM rfl rfl <| oM rfl rfl <| oV (V_len rfl foc3 hA Tryz.runUnderlying58) rfl <| oP (P_lss rfl rfl) rfl <| nT ?_
   first | (refine zao rfl (fun hg2 => ?_) (fun hg2 => ?_)) | (refine zap rfl (fun hg2 => ?_) (fun hg2 => ?_)) | (refine zar rfl (fun hg2 => ?_) (fun hg2 => ?_))
   ·
    refine kT <| zad <| zas <| zad <| zad <| za3 0 (by kernel_rfl) rfl <| aN 0 1 rfl rfl (zag rfl) rfl <| aN 1 3 rfl rfl (zag rfl) rfl ?_
    first | (refine za7 2 7 rfl (by kernel_rfl) rfl (by kernel_rfl) (by kernel_rfl) (zab rfl) (t0_ (t0_ (t0_ (t0_ eR)))) (zak rfl rfl rfl (by omega) foc3 hA Tryz.runUnderlying58 Tryz.sizeOf35) rfl (fun _ _ _ _ h=>h) ?_) | (refine za7 2 7 rfl (by kernel_rfl) rfl (by kernel_rfl) (by kernel_rfl) (zab rfl) (t0_ (t0_ (t0_ (t0_ eR)))) (zak rfl rfl (Int.toNat_of_nonneg (by omega)).symm (by omega) foc3 hA Tryz.runUnderlying58 Tryz.sizeOf35) rfl (fun _ _ _ _ h=>h) ?_)
    refine aN 3 15 rfl rfl (zav rfl ⟨_,_,_,Tryz.runUnderlying35,rfl,rfl,Tryz.sizeOf9,rfl⟩) rfl <| aV 4 31 rfl rfl (zab rfl) (t0_ (t0_ (t0_ (t0_ eR)))) (zaz rfl rfl (by omega) foc3 hA rfl rfl Tryz.isAgg9) rfl <| aN 5 63 rfl rfl (zjc rfl Tryz.runUnderlying9) rfl <| aN 6 127 rfl rfl (zag rfl) rfl <| aN 7 255 rfl rfl (zag rfl) rfl ?_
    first | (refine za7 8 511 rfl (by kernel_rfl) rfl (by kernel_rfl) (by kernel_rfl) (zab rfl) (t0_ (t0_ (t0_ (t0_ eR)))) (zak rfl rfl rfl (by omega) foc3 hA Tryz.runUnderlying58 Tryz.sizeOf35) rfl (fun _ _ _ _ h=>h) ?_) | (refine za7 8 511 rfl (by kernel_rfl) rfl (by kernel_rfl) (by kernel_rfl) (zab rfl) (t0_ (t0_ (t0_ (t0_ eR)))) (zak rfl rfl (Int.toNat_of_nonneg (by omega)).symm (by omega) foc3 hA Tryz.runUnderlying58 Tryz.sizeOf35) rfl (fun _ _ _ _ h=>h) ?_)
    refine aN 9 1023 rfl rfl (zav rfl ⟨_,_,_,Tryz.runUnderlying35,rfl,rfl,Tryz.sizeOf9,rfl⟩) rfl <| aV 10 2047 rfl rfl (zab rfl) (t0_ (t0_ (t0_ (t0_ eR)))) (zaz rfl rfl (by omega) foc3 hA rfl rfl Tryz.isAgg9) rfl <| aN 11 4095 rfl rfl (zjc rfl Tryz.runUnderlying9) rfl <| aN 12 8191 rfl rfl (P_addW rfl rfl) rfl <| aN 13 16383 rfl rfl (P_gtr rfl rfl) rfl <| aN 14 32767 rfl rfl (zag rfl) rfl ?_
    first | (refine zdf 37 rfl (fun hg3B hg3 => ?_) (fun hg3B hg3 => ?_)) | (refine zdg 37 rfl (fun hg3B hg3 => ?_) (fun hg3B hg3 => ?_)) | (refine zdy 37 rfl (fun hg3B => ?_) (fun hg3B => ?_))
    ·
     refine aS 15 65535 rfl rfl (GY_no rfl rfl rfl hg3B) rfl <| aS 16 131071 rfl rfl (GY_no rfl rfl rfl hg3B) rfl <| aS 17 262143 rfl rfl (GY_no rfl rfl rfl hg3B) rfl <| aS 18 524287 rfl rfl (GY_no rfl rfl rfl hg3B) rfl <| aS 19 1048575 rfl rfl (GY_no rfl rfl rfl hg3B) rfl <| aS 20 2097151 rfl rfl (GY_no rfl rfl rfl hg3B) rfl <| aS 21 4194303 rfl rfl (GY_no rfl rfl rfl hg3B) rfl <| aN 22 8388607 rfl rfl (za2 rfl hg3B rfl) rfl <| aD <| zbg rfl rfl <| sR <| oO <| zaq ((zdq zic)) rfl Tryz.call14 Dels.nil rfl fun _ hc5=>oA rfl rfl <| nT <| zai <| zae <| zal <| zae <| za8 <| zal <| zae <| zan (res1 Tryz.results4 rfl) <| CSpec.close () ?_ ?_ (t3_ (eD (eD (eD eR))))
     · rfl
     · trivial
    ·
     refine aP 15 65535 rfl rfl (zac rfl rfl rfl hg3B) (zag rfl) rfl <| aP 16 131071 rfl rfl (zac rfl rfl rfl hg3B) (zag rfl) rfl ?_
     first | (refine za7 17 262143 rfl (by kernel_rfl) rfl (by kernel_rfl) (by kernel_rfl) (zac rfl rfl rfl hg3B) (t0_ (t0_ (t0_ (t0_ eR)))) (zak rfl rfl rfl (by omega) foc3 hA Tryz.runUnderlying58 Tryz.sizeOf35) rfl (fun _ _ _ _ h=>h) ?_) | (refine za7 17 262143 rfl (by kernel_rfl) rfl (by kernel_rfl) (by kernel_rfl) (zac rfl rfl rfl hg3B) (t0_ (t0_ (t0_ (t0_ eR)))) (zak rfl rfl (Int.toNat_of_nonneg (by omega)).symm (by omega) foc3 hA Tryz.runUnderlying58 Tryz.sizeOf35) rfl (fun _ _ _ _ h=>h) ?_)
     refine aP 18 524287 rfl rfl (zac rfl rfl rfl hg3B) (zav rfl ⟨_,_,_,Tryz.runUnderlying35,rfl,rfl,Tryz.sizeOf30,rfl⟩) rfl <| aV 19 1048575 rfl rfl (zac rfl rfl rfl hg3B) (t0_ (t0_ (t0_ (t0_ eR)))) (zaz rfl rfl (by omega) foc3 hA rfl rfl Tryz.isAgg30) rfl <| aV 20 2097151 rfl rfl (zac rfl rfl rfl hg3B) (t0_ (t0_ (t0_ (t0_ eR)))) (V_len rfl foc3 (hT i (by omega)) Tryz.runUnderlying30) rfl <| aP 21 4194303 rfl rfl (zac rfl rfl rfl hg3B) (P_gtr rfl rfl) rfl <| aN 22 8388607 rfl rfl (za5 rfl hg3B rfl) rfl <| aD ?_
     first | (refine zao rfl (fun hg4 => ?_) (fun hg4 => ?_)) | (refine zap rfl (fun hg4 => ?_) (fun hg4 => ?_)) | (refine zar rfl (fun hg4 => ?_) (fun hg4 => ?_))
     ·
      refine sR <| oO <| zaq ((zdq zic)) rfl Tryz.call14 Dels.nil rfl fun _ hc6=>oA rfl rfl <| nT <| zai <| zae <| zal <| zae <| za8 <| zal <| zae <| zan (res1 Tryz.results4 rfl) <| CSpec.close () ?_ ?_ (t3_ (eD (eD (eD eR))))
      · rfl
      · trivial
     ·
      refine kT <| sR <| oM rfl rfl <| oM rfl rfl <| oM rfl rfl ?_
      first | (refine RJ_op rfl (OJ_V (zak rfl rfl rfl (by omega) foc3 hA Tryz.runUnderlying58 Tryz.sizeOf35) rfl ?_)) | (refine RJ_op rfl (OJ_V (zak rfl rfl (Int.toNat_of_nonneg (by omega)).symm (by omega) foc3 hA Tryz.runUnderlying58 Tryz.sizeOf35) rfl ?_))
      refine oP (zav rfl ⟨_,_,_,Tryz.runUnderlying35,rfl,rfl,Tryz.sizeOf9,rfl⟩) rfl <| oV (zaz rfl rfl (by omega) foc3 hA rfl rfl Tryz.isAgg9) rfl <| oO <| zbe rfl (znz _) rfl fun b7=>oO <| zbu (t:=tyS) (bytes:=16) rfl rfl del1 foc0 (Reads.lit (t:=tyS) (ys:=[(xs.getD i tyCall.dflt).nm]) rfl rfl (by decide) (by decide) rfl) Tryz.underlying59 zik (by simp only [List.length_append,List.length_cons,List.length_nil,maxLen] at *; omega) (by simp only [List.length_append,List.length_cons,List.length_nil,maxLen] at *; omega) rfl fun p8 c9=>oA rfl rfl <| nT <| sR <| oM rfl rfl <| oM rfl rfl <| oM rfl rfl <| oM rfl rfl ?_
      first | (refine RJ_op rfl (OJ_V (zak rfl rfl rfl (by omega) foc4 hA Tryz.runUnderlying58 Tryz.sizeOf35) rfl ?_)) | (refine RJ_op rfl (OJ_V (zak rfl rfl (Int.toNat_of_nonneg (by omega)).symm (by omega) foc4 hA Tryz.runUnderlying58 Tryz.sizeOf35) rfl ?_))
      refine oV (zb5 rfl rfl (by omega) foc4 hA rfl rfl Tryz.isAgg35 Tryz.sizeOf35) rfl <| oO <| zaq ((zvz (hT i (by omega)) (by omega) (by omega) (hJ i (by omega)))) rfl Tryz.call8 (Dels.cons del4 (Dels.cons del2 (Dels.cons del2 Dels.nil))) rfl fun m8 h8=>oP (P_not rfl) rfl <| oM rfl rfl <| gP (zac rfl rfl rfl rfl) (zag rfl) rfl <| gP (zac rfl rfl rfl rfl) (zag rfl) rfl <| gP (zac rfl rfl rfl rfl) (zag rfl) rfl <| RJ_gy (zac rfl rfl rfl rfl) <| zaq ((c_same (Reads.sl _ _ _) (by simp only [List.length_append,List.length_cons,List.length_nil]; omega) (by omega))) rfl Tryz.call15 (Dels.cons del3 (Dels.cons del1 (Dels.cons del1 Dels.nil))) rfl fun m9 h9=>gP (zac rfl rfl rfl rfl) (P_not rfl) rfl <| oP (za5 rfl rfl rfl) rfl <| nT <| zbh rfl rfl <| zba <| zam <| zat <| zaj <| oM rfl rfl <| oP (P_add rfl rfl (by omega)) rfl <| oA rfl rfl <| za4 <| za6 ⟨i + 1,⟨p8,(ns ++ [(xs.getD i tyCall.dflt).nm]).length,c9⟩,(ns ++ [(xs.getD i tyCall.dflt).nm]),m9⟩ (by first | omega | (simp only []; omega)) ?_ (by repeat (first | exact Kp.base | exact Kp.self | refine Kp.cons rfl ?_ | refine Kp.forget rfl ?_)) ?_ (t0_ (t0_ (t0_ (t0_ (eD eR)))))
      · refine ⟨by omega,by simp; omega,by omega⟩
      · exact ⟨rfl,rfl,True.intro⟩
   ·
    refine zbj <| zay <| zaw <| zau <| zat <| sR <| oO <| zaq ((zdq zic)) rfl Tryz.call14 Dels.nil rfl fun _ hc12=>oA rfl rfl <| nT <| zai <| zan (res1 Tryz.results4 rfl) <| CSpec.close () ?_ ?_ (t3_ (eD (eD (eD eR))))
    · rfl
    · trivial
end Go.Proofs
namespace Go.VG
open Go.Deep Go.ChangeShapes Go.WideShapes
def zv0 {α:Type} (P:Program) (E:TypeId) (t:Ty α) (Q:World→α→Prop):Prop := ∀ (H:Type) (enc:TypeId × Value→H) (w:World) (spare:Nat→Bool) (held:Bool) (n:Nat) (cs:List Value) (x:DataW H × List MemPlace),
  DataW.trod enc P w 0 spare held n E cs=some x → ∃ y:α,cs=t.enc y∧Q w y
theorem zv1 {α:Type} {t:Ty α} {Q:World→α→Prop} {P:Program} {H:Type} {enc:TypeId × Value→H} {w:World} {spare:Nat→Bool} {held:Bool} {T E:TypeId} {fuel:Nat} {p:Option Addr} {len cap:Nat} {x:DataW H × List MemPlace}
    (hT:P.underlying T=some (.slice E)) (hC:P.cellsOf E=t.sz) (hs:zv0 P E t Q) (h:DataW.trod enc P w 0 spare held fuel T [.slice p len cap]=some x) :
    ∃ xs:List α,xs.length=len∧len≤maxLen∧Reads (old w) t (.slice p len cap) xs ∧ ∀ i,i < xs.length→Q w (xs.getD i t.dflt) := by
  rcases open_slice hT h with ⟨h0,_⟩ | ⟨a,l,c,m,n,D,Pl,hcs,hb,hl,hm,hmm,hx,hi⟩
  · simp only [List.cons.injEq,Value.slice.injEq,and_true] at h0
    obtain ⟨rfl,rfl,rfl⟩ := h0
    exact ⟨[],rfl,Nat.zero_le _,Reads.old (.inl ⟨rfl,rfl,rfl,rfl⟩),fun i h=>absurd h (Nat.not_lt_zero _)⟩
  · simp only [List.cons.injEq,Value.slice.injEq,and_true] at hcs
    obtain ⟨rfl,rfl,rfl⟩ := hcs
    have hlm:len≤m := by rw [hmm]; split <;> omega
    have key:∀ i,i < len → ∃ y:α,(∀ k u,k < t.sz→(t.enc y)[k]? = some u→w.cell? (a.add (i * t.sz + k))=some u)∧Q w y := by
      intro i hi'
      obtain ⟨cs',hc,ht'⟩ := hi i (by omega)
      obtain ⟨y,rfl,hq⟩ := hs _ _ _ _ _ _ _ _ ht'
      rw [hC] at hc
      obtain ⟨_,_,hat⟩ := World.cells?_some hc
      refine ⟨y,fun k u hk hu => ?_,hq⟩
      rw [← Go.Deep.add_add,hat k hk]; exact hu
    let f:Nat→α := fun i=>if h:i < len then Classical.choose (key i h) else t.dflt
    have e:∀ i (h:i < len),((List.range len).map f).getD i t.dflt=Classical.choose (key i h) := by
      intro i hil
      simp [List.getD,hil,f]
    refine ⟨(List.range len).map f,by simp,by omega,Reads.old (.inr ⟨a,rfl,by simp,hl,hm,fun i k u hi' hk hu => ?_⟩),fun i hi' => ?_⟩
    · have hil:i < len := by simpa using hi'
      rw [e i hil] at hu
      exact (Classical.choose_spec (key i hil)).1 k u hk hu
    · have hil:i < len := by simpa using hi'
      rw [e i hil]
      exact (Classical.choose_spec (key i hil)).2
end Go.VG
