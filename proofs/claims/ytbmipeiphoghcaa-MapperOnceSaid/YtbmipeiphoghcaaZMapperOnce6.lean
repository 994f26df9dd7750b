/- MapperOnce, part 6 of the proof: LAw23, PAwake23, PMapF, LMapperOnce, PSrcM, PSrcR, PMapperOnce. -/
import Derived.WalkKit
import Derived.Orders
import Derived.RangeFuncLeaves
import Derived.RangeFuncCalls
import Derived.TacticsIn
import Derived.Handy
import Derived.OrdersHeld
import Derived.OrdersIn
import Derived.Below
import Derived.OpenShut
import Derived.Deep.Slices
import Derived.Scope
import Derived.RangeFuncRecord
import Derived.ChangeKeysEq
import Derived.Laws.BytesArg
import Derived.KernelRfl
import Derived.Maps.RangeRun
import Derived.LaidEql
import Derived.ProofKit
import Derived.ShutString
import Derived.ChangeOld
import Derived.Test.YtbmipeiphoghcaaChecked
import Derived.Test.YtbmipeiphoghcaaRows
import Derived.Test.YtbmipeiphoghcaaZMapperOnce5
set_option linter.unusedSimpArgs false
set_option linter.unusedVariables false
set_option maxRecDepth 20000
set_option maxHeartbeats 4000000
namespace Go.Proofs
open Go.VG
theorem bld_33_1_2 (v0 : Int) (v1 : ByteArray) : ∀ w, (Instr.build 33 (#[(1, .int .i64 v0), (2, .string v1)] : Array (Nat × Value))).run Try.prog w = .ok (.agg #[.int .i64 (0 : Int), .int .i64 v0, .string v1, .int .i64 (0 : Int), .bool false]) w := fun w => by kernel_rfl
theorem bs_34_1_0 (v0 : Int) (v1 : Int) (v2 : ByteArray) (v3 : Int) (v4 : Bool) : BuildsSlice Try.prog 34 1 [(0, .agg #[.int .i64 v0, .int .i64 v1, .string v2, .int .i64 v3, .bool v4])] 33 [.int .i64 v0, .int .i64 v1, .string v2, .int .i64 v3, .bool v4] := fun w => by kernel_rfl
theorem bld_44_0_1_2 (v0 : Int) (v1 : Int) (v2 : Int) : ∀ w, (Instr.build 44 (#[(0, .int .i64 v0), (1, .int .i64 v1), (2, .int .u64 v2)] : Array (Nat × Value))).run Try.prog w = .ok (.agg #[.int .i64 v0, .int .i64 v1, .int .u64 v2]) w := fun w => by kernel_rfl
theorem bld_33_1_2_3 (v0 : Int) (v1 : ByteArray) (v2 : Int) : ∀ w, (Instr.build 33 (#[(1, .int .i64 v0), (2, .string v1), (3, .int .i64 v2)] : Array (Nat × Value))).run Try.prog w = .ok (.agg #[.int .i64 (0 : Int), .int .i64 v0, .string v1, .int .i64 v2, .bool false]) w := fun w => by kernel_rfl
theorem bld_44_0_1 (v0 : Int) (v1 : Int) : ∀ w, (Instr.build 44 (#[(0, .int .i64 v0), (1, .int .i64 v1)] : Array (Nat × Value))).run Try.prog w = .ok (.agg #[.int .i64 v0, .int .i64 v1, .int .u64 0]) w := fun w => by kernel_rfl
def volumegrouplaw23_awake : Option (Bool) :=
  grd (decide (Mb2.cl < 4000)) <|
  if ((Md.crE Mb2 (ByteArray.mk #[120])) ≠ (0 : Int)) then
    some false
  else
    grd (decide (((Md.tick (Md.crS Mb2 (ByteArray.mk #[120])))).cl < 4000 ∧ ([(⟨(0 : Int), (4 : Int), (ByteArray.mk #[100, 105, 115, 107, 48]), (0 : Int), false⟩ : api_Target)]).length ≤ 100000000)) <|
    lt ((Md.ldE ((Md.tick (Md.crS Mb2 (ByteArray.mk #[120])))) (ByteArray.mk #[120]) ([(⟨(0 : Int), (4 : Int), (ByteArray.mk #[100, 105, 115, 107, 48]), (0 : Int), false⟩ : api_Target)]))) fun w5 =>
    if (w5 ≠ (0 : Int)) then
      some false
    else
      grd (decide (((Md.tick (Md.ldS ((Md.tick (Md.crS Mb2 (ByteArray.mk #[120])))) (ByteArray.mk #[120]) ([(⟨(0 : Int), (4 : Int), (ByteArray.mk #[100, 105, 115, 107, 48]), (0 : Int), false⟩ : api_Target)])))).cl < 4000)) <|
      lt ((Md.suE ((Md.tick (Md.ldS ((Md.tick (Md.crS Mb2 (ByteArray.mk #[120])))) (ByteArray.mk #[120]) ([(⟨(0 : Int), (4 : Int), (ByteArray.mk #[100, 105, 115, 107, 48]), (0 : Int), false⟩ : api_Target)])))) (ByteArray.mk #[120]))) fun w6 =>
      if (w6 ≠ (0 : Int)) then
        some false
      else
        grd (decide (((Md.tick (Md.suS ((Md.tick (Md.ldS ((Md.tick (Md.crS Mb2 (ByteArray.mk #[120])))) (ByteArray.mk #[120]) ([(⟨(0 : Int), (4 : Int), (ByteArray.mk #[100, 105, 115, 107, 48]), (0 : Int), false⟩ : api_Target)])))) (ByteArray.mk #[120])))).cl < 4000)) <|
        lt ((Md.rsE ((Md.tick (Md.suS ((Md.tick (Md.ldS ((Md.tick (Md.crS Mb2 (ByteArray.mk #[120])))) (ByteArray.mk #[120]) ([(⟨(0 : Int), (4 : Int), (ByteArray.mk #[100, 105, 115, 107, 48]), (0 : Int), false⟩ : api_Target)])))) (ByteArray.mk #[120])))) (ByteArray.mk #[120]))) fun w7 =>
        if (w7 ≠ (0 : Int)) then
          some false
        else
          grd (decide (((Md.tick (Md.rsS ((Md.tick (Md.suS ((Md.tick (Md.ldS ((Md.tick (Md.crS Mb2 (ByteArray.mk #[120])))) (ByteArray.mk #[120]) ([(⟨(0 : Int), (4 : Int), (ByteArray.mk #[100, 105, 115, 107, 48]), (0 : Int), false⟩ : api_Target)])))) (ByteArray.mk #[120])))) (ByteArray.mk #[120])))).cl < 4000)) <|
          lt ((Md.suE ((Md.tick (Md.rsS ((Md.tick (Md.suS ((Md.tick (Md.ldS ((Md.tick (Md.crS Mb2 (ByteArray.mk #[120])))) (ByteArray.mk #[120]) ([(⟨(0 : Int), (4 : Int), (ByteArray.mk #[100, 105, 115, 107, 48]), (0 : Int), false⟩ : api_Target)])))) (ByteArray.mk #[120])))) (ByteArray.mk #[120])))) (ByteArray.mk #[120]))) fun w8 =>
          if (w8 ≠ (0 : Int)) then
            some false
          else
            grd (decide (((Md.tick (Md.suS ((Md.tick (Md.rsS ((Md.tick (Md.suS ((Md.tick (Md.ldS ((Md.tick (Md.crS Mb2 (ByteArray.mk #[120])))) (ByteArray.mk #[120]) ([(⟨(0 : Int), (4 : Int), (ByteArray.mk #[100, 105, 115, 107, 48]), (0 : Int), false⟩ : api_Target)])))) (ByteArray.mk #[120])))) (ByteArray.mk #[120])))) (ByteArray.mk #[120])))).cl < 4000 ∧ inT ((⟨(2 : Int), (1 : Int), (9 : UInt64)⟩ : api_Task)))) <|
            lt ((Md.doA ((Md.tick (Md.suS ((Md.tick (Md.rsS ((Md.tick (Md.suS ((Md.tick (Md.ldS ((Md.tick (Md.crS Mb2 (ByteArray.mk #[120])))) (ByteArray.mk #[120]) ([(⟨(0 : Int), (4 : Int), (ByteArray.mk #[100, 105, 115, 107, 48]), (0 : Int), false⟩ : api_Target)])))) (ByteArray.mk #[120])))) (ByteArray.mk #[120])))) (ByteArray.mk #[120])))) (ByteArray.mk #[120]) ((⟨(2 : Int), (1 : Int), (9 : UInt64)⟩ : api_Task)))) fun w9 =>
            lt ((Md.doE ((Md.tick (Md.suS ((Md.tick (Md.rsS ((Md.tick (Md.suS ((Md.tick (Md.ldS ((Md.tick (Md.crS Mb2 (ByteArray.mk #[120])))) (ByteArray.mk #[120]) ([(⟨(0 : Int), (4 : Int), (ByteArray.mk #[100, 105, 115, 107, 48]), (0 : Int), false⟩ : api_Target)])))) (ByteArray.mk #[120])))) (ByteArray.mk #[120])))) (ByteArray.mk #[120])))) (ByteArray.mk #[120]) ((⟨(2 : Int), (1 : Int), (9 : UInt64)⟩ : api_Task)))) fun w10 =>
            if (((w10 ≠ (0 : Int)) ∨ w9.Done = true) ∨ (w9.Ticket ≠ (1 : Int))) then
              some false
            else
              grd (decide (((Md.tick (Md.doS ((Md.tick (Md.suS ((Md.tick (Md.rsS ((Md.tick (Md.suS ((Md.tick (Md.ldS ((Md.tick (Md.crS Mb2 (ByteArray.mk #[120])))) (ByteArray.mk #[120]) ([(⟨(0 : Int), (4 : Int), (ByteArray.mk #[100, 105, 115, 107, 48]), (0 : Int), false⟩ : api_Target)])))) (ByteArray.mk #[120])))) (ByteArray.mk #[120])))) (ByteArray.mk #[120])))) (ByteArray.mk #[120]) ((⟨(2 : Int), (1 : Int), (9 : UInt64)⟩ : api_Task))))).cl < 4000 ∧ ([(⟨(0 : Int), (4 : Int), (ByteArray.mk #[100, 105, 115, 107, 49]), (2 : Int), false⟩ : api_Target)]).length ≤ 100000000)) <|
              lt ((Md.ldE ((Md.tick (Md.doS ((Md.tick (Md.suS ((Md.tick (Md.rsS ((Md.tick (Md.suS ((Md.tick (Md.ldS ((Md.tick (Md.crS Mb2 (ByteArray.mk #[120])))) (ByteArray.mk #[120]) ([(⟨(0 : Int), (4 : Int), (ByteArray.mk #[100, 105, 115, 107, 48]), (0 : Int), false⟩ : api_Target)])))) (ByteArray.mk #[120])))) (ByteArray.mk #[120])))) (ByteArray.mk #[120])))) (ByteArray.mk #[120]) ((⟨(2 : Int), (1 : Int), (9 : UInt64)⟩ : api_Task))))) (ByteArray.mk #[120]) ([(⟨(0 : Int), (4 : Int), (ByteArray.mk #[100, 105, 115, 107, 49]), (2 : Int), false⟩ : api_Target)]))) fun w23 =>
              if (w23 ≠ (0 : Int)) then
                some false
              else
                grd (decide (((Md.tick (Md.ldS ((Md.tick (Md.doS ((Md.tick (Md.suS ((Md.tick (Md.rsS ((Md.tick (Md.suS ((Md.tick (Md.ldS ((Md.tick (Md.crS Mb2 (ByteArray.mk #[120])))) (ByteArray.mk #[120]) ([(⟨(0 : Int), (4 : Int), (ByteArray.mk #[100, 105, 115, 107, 48]), (0 : Int), false⟩ : api_Target)])))) (ByteArray.mk #[120])))) (ByteArray.mk #[120])))) (ByteArray.mk #[120])))) (ByteArray.mk #[120]) ((⟨(2 : Int), (1 : Int), (9 : UInt64)⟩ : api_Task))))) (ByteArray.mk #[120]) ([(⟨(0 : Int), (4 : Int), (ByteArray.mk #[100, 105, 115, 107, 49]), (2 : Int), false⟩ : api_Target)])))).cl < 4000)) <|
                lt ((Md.rsE ((Md.tick (Md.ldS ((Md.tick (Md.doS ((Md.tick (Md.suS ((Md.tick (Md.rsS ((Md.tick (Md.suS ((Md.tick (Md.ldS ((Md.tick (Md.crS Mb2 (ByteArray.mk #[120])))) (ByteArray.mk #[120]) ([(⟨(0 : Int), (4 : Int), (ByteArray.mk #[100, 105, 115, 107, 48]), (0 : Int), false⟩ : api_Target)])))) (ByteArray.mk #[120])))) (ByteArray.mk #[120])))) (ByteArray.mk #[120])))) (ByteArray.mk #[120]) ((⟨(2 : Int), (1 : Int), (9 : UInt64)⟩ : api_Task))))) (ByteArray.mk #[120]) ([(⟨(0 : Int), (4 : Int), (ByteArray.mk #[100, 105, 115, 107, 49]), (2 : Int), false⟩ : api_Target)])))) (ByteArray.mk #[120]))) fun w24 =>
                if (w24 ≠ (0 : Int)) then
                  some false
                else
                  grd (decide (((Md.tick (Md.rsS ((Md.tick (Md.ldS ((Md.tick (Md.doS ((Md.tick (Md.suS ((Md.tick (Md.rsS ((Md.tick (Md.suS ((Md.tick (Md.ldS ((Md.tick (Md.crS Mb2 (ByteArray.mk #[120])))) (ByteArray.mk #[120]) ([(⟨(0 : Int), (4 : Int), (ByteArray.mk #[100, 105, 115, 107, 48]), (0 : Int), false⟩ : api_Target)])))) (ByteArray.mk #[120])))) (ByteArray.mk #[120])))) (ByteArray.mk #[120])))) (ByteArray.mk #[120]) ((⟨(2 : Int), (1 : Int), (9 : UInt64)⟩ : api_Task))))) (ByteArray.mk #[120]) ([(⟨(0 : Int), (4 : Int), (ByteArray.mk #[100, 105, 115, 107, 49]), (2 : Int), false⟩ : api_Target)])))) (ByteArray.mk #[120])))).cl < 4000)) <|
                  lt (((Md.told ((Md.tick (Md.rsS ((Md.tick (Md.ldS ((Md.tick (Md.doS ((Md.tick (Md.suS ((Md.tick (Md.rsS ((Md.tick (Md.suS ((Md.tick (Md.ldS ((Md.tick (Md.crS Mb2 (ByteArray.mk #[120])))) (ByteArray.mk #[120]) ([(⟨(0 : Int), (4 : Int), (ByteArray.mk #[100, 105, 115, 107, 48]), (0 : Int), false⟩ : api_Target)])))) (ByteArray.mk #[120])))) (ByteArray.mk #[120])))) (ByteArray.mk #[120])))) (ByteArray.mk #[120]) ((⟨(2 : Int), (1 : Int), (9 : UInt64)⟩ : api_Task))))) (ByteArray.mk #[120]) ([(⟨(0 : Int), (4 : Int), (ByteArray.mk #[100, 105, 115, 107, 49]), (2 : Int), false⟩ : api_Target)])))) (ByteArray.mk #[120])))))).length) fun w28 =>
                  if (((w28 : Nat) : Int) ≠ (1 : Int)) then
                    some false
                  else
                    grd (decide (((Md.tick (Md.anS ((Md.tick (Md.rsS ((Md.tick (Md.ldS ((Md.tick (Md.doS ((Md.tick (Md.suS ((Md.tick (Md.rsS ((Md.tick (Md.suS ((Md.tick (Md.ldS ((Md.tick (Md.crS Mb2 (ByteArray.mk #[120])))) (ByteArray.mk #[120]) ([(⟨(0 : Int), (4 : Int), (ByteArray.mk #[100, 105, 115, 107, 48]), (0 : Int), false⟩ : api_Target)])))) (ByteArray.mk #[120])))) (ByteArray.mk #[120])))) (ByteArray.mk #[120])))) (ByteArray.mk #[120]) ((⟨(2 : Int), (1 : Int), (9 : UInt64)⟩ : api_Task))))) (ByteArray.mk #[120]) ([(⟨(0 : Int), (4 : Int), (ByteArray.mk #[100, 105, 115, 107, 49]), (2 : Int), false⟩ : api_Target)])))) (ByteArray.mk #[120]))))))).cl < 4000 ∧ inT ((⟨(1 : Int), (3 : Int), (0 : UInt64)⟩ : api_Task)))) <|
                    lt ((Md.doA ((Md.tick (Md.anS ((Md.tick (Md.rsS ((Md.tick (Md.ldS ((Md.tick (Md.doS ((Md.tick (Md.suS ((Md.tick (Md.rsS ((Md.tick (Md.suS ((Md.tick (Md.ldS ((Md.tick (Md.crS Mb2 (ByteArray.mk #[120])))) (ByteArray.mk #[120]) ([(⟨(0 : Int), (4 : Int), (ByteArray.mk #[100, 105, 115, 107, 48]), (0 : Int), false⟩ : api_Target)])))) (ByteArray.mk #[120])))) (ByteArray.mk #[120])))) (ByteArray.mk #[120])))) (ByteArray.mk #[120]) ((⟨(2 : Int), (1 : Int), (9 : UInt64)⟩ : api_Task))))) (ByteArray.mk #[120]) ([(⟨(0 : Int), (4 : Int), (ByteArray.mk #[100, 105, 115, 107, 49]), (2 : Int), false⟩ : api_Target)])))) (ByteArray.mk #[120]))))))) (ByteArray.mk #[100, 105, 115, 107, 49]) ((⟨(1 : Int), (3 : Int), (0 : UInt64)⟩ : api_Task)))) fun w29 =>
                    lt ((Md.doE ((Md.tick (Md.anS ((Md.tick (Md.rsS ((Md.tick (Md.ldS ((Md.tick (Md.doS ((Md.tick (Md.suS ((Md.tick (Md.rsS ((Md.tick (Md.suS ((Md.tick (Md.ldS ((Md.tick (Md.crS Mb2 (ByteArray.mk #[120])))) (ByteArray.mk #[120]) ([(⟨(0 : Int), (4 : Int), (ByteArray.mk #[100, 105, 115, 107, 48]), (0 : Int), false⟩ : api_Target)])))) (ByteArray.mk #[120])))) (ByteArray.mk #[120])))) (ByteArray.mk #[120])))) (ByteArray.mk #[120]) ((⟨(2 : Int), (1 : Int), (9 : UInt64)⟩ : api_Task))))) (ByteArray.mk #[120]) ([(⟨(0 : Int), (4 : Int), (ByteArray.mk #[100, 105, 115, 107, 49]), (2 : Int), false⟩ : api_Target)])))) (ByteArray.mk #[120]))))))) (ByteArray.mk #[100, 105, 115, 107, 49]) ((⟨(1 : Int), (3 : Int), (0 : UInt64)⟩ : api_Task)))) fun w30 =>
                    some ((((decide (w30 = (0 : Int))) && w29.Done) && (decide (w29.Value = (9 : UInt64)))))
theorem L_volumegrouplaw23_awake {W : World} {r : Bool} (h : volumegrouplaw23_awake = some r) :
    CSpec Try.prog W 16 [] [] (fun x : Unit => .bool r) (fun _ => True) (fun x F => F) := by
 refine CSpec.of_body Try.func16 rfl Try.ntmps16 rfl fun F => ?_
 show CJ _ _ _ _ _ _ (F)
 unfold volumegrouplaw23_awake at h
 refine sR <| oA rfl rfl <| nT <| sR <| oO <| O_call (c_begun) rfl Try.call7 Dels.nil rfl fun X1 _ => oM rfl rfl <| oP (P_extract rfl rfl) rfl <| oP (P_extract rfl rfl) rfl <| oA rfl rfl <| oA rfl rfl <| nT <| CJ_seq <| sR <| oM rfl rfl <| oP (P_eqlPN rfl rfl Try.underlying25) rfl <| oM rfl rfl <| gP (GY_yes rfl rfl rfl rfl) (P_move rfl) rfl ?_
 obtain ⟨hg1, h⟩ := grd_de h
 refine RJ_gy (GY_yes rfl rfl rfl rfl) <| O_call (c_CreateP hg1) rfl Try.call8 (Dels.cons del0 Dels.nil) rfl fun _ _ => gP (GY_yes rfl rfl rfl rfl) (P_neq (a := (Md.crE Mb2 (ByteArray.mk #[120]))) (b := (0 : Int)) rfl rfl) rfl <| oP (P_pickF rfl rfl rfl) rfl <| oM rfl rfl <| RJ_splitP 17 rfl bT_dec (fun hg2B hg2 => ?_) (fun hg2B hg2 => ?_)
 ·
  replace h := ite_t hg2 h
  refine RJ_gn (GY_no rfl rfl rfl hg2B) rfl rfl <| RJ_gn (GY_no rfl rfl rfl hg2B) rfl rfl <| RJ_gn (GY_no rfl rfl rfl hg2B) rfl rfl <| RJ_gn (GY_no rfl rfl rfl hg2B) rfl rfl <| RJ_gn (GY_no rfl rfl rfl hg2B) rfl rfl <| oP (P_pickT rfl hg2B rfl) rfl <| oM rfl rfl <| RJ_gn (GY_no rfl rfl rfl rfl) rfl rfl <| RJ_gn (GY_no rfl rfl rfl rfl) rfl rfl <| RJ_gn (GY_no rfl rfl rfl rfl) rfl rfl <| oP (P_pickT rfl rfl rfl) rfl <| oM rfl rfl <| RJ_gn (GY_no rfl rfl rfl rfl) rfl rfl <| RJ_gn (GY_no rfl rfl rfl rfl) rfl rfl <| RJ_gn (GY_no rfl rfl rfl rfl) rfl rfl <| oP (P_pickT rfl rfl rfl) rfl <| oM rfl rfl <| RJ_gn (GY_no rfl rfl rfl rfl) rfl rfl <| RJ_gn (GY_no rfl rfl rfl rfl) rfl rfl <| RJ_gn (GY_no rfl rfl rfl rfl) rfl rfl <| oP (P_pickT rfl rfl rfl) rfl <| nT <| CJ_condT rfl rfl <| sR <| oA rfl rfl <| nT <| CJ_ret <| QJ_then_ret ?_
  cases h
  exact fE (res1 Try.results16 rfl) () (eD (eD eR))
 ·
  replace h := ite_f hg2 h
  refine gP (GY_yes rfl rfl rfl hg2B) (P_move rfl) rfl <| gP (GY_yes rfl rfl rfl hg2B) (P_build rfl (bld_33_1_2 _ _)) rfl <| RJ_gy (GY_yes rfl rfl rfl hg2B) <| O_buildSlice rfl (bs_34_1_0 _ _ _ _ _) rfl fun b4 => RJ_ent (Ent.trans (t0_ eR) (sl_of_lit (t := tyapi_Target) (m := 1) [(⟨(0 : Int), (4 : Int), (ByteArray.mk #[100, 105, 115, 107, 48]), (0 : Int), false⟩ : api_Target)] rfl rfl rfl (by decide))) ?_
  obtain ⟨hg3, h⟩ := grd_de h
  refine RJ_gy (GY_yes rfl rfl rfl hg2B) <| O_call (c_LoadG (Reads.sl _ _ _) hg3 (v := ⟨_, _, _⟩)) rfl Try.call9 (Dels.cons del1 (Dels.cons del0 Dels.nil)) rfl fun _ _ => ?_
  obtain ⟨w5, hw5, h⟩ := lt_e h
  rw [← hw5]
  refine gP (GY_yes rfl rfl rfl hg2B) (P_neq (a := w5) (b := (0 : Int)) rfl rfl) rfl <| oP (P_pickF rfl hg2B rfl) rfl <| oM rfl rfl <| RJ_splitP 24 rfl bT_dec (fun hg4B hg4 => ?_) (fun hg4B hg4 => ?_)
  ·
   replace h := ite_t hg4 h
   refine RJ_gn (GY_no rfl rfl rfl hg4B) rfl rfl <| RJ_gn (GY_no rfl rfl rfl hg4B) rfl rfl <| RJ_gn (GY_no rfl rfl rfl hg4B) rfl rfl <| oP (P_pickT rfl hg4B rfl) rfl <| oM rfl rfl <| RJ_gn (GY_no rfl rfl rfl rfl) rfl rfl <| RJ_gn (GY_no rfl rfl rfl rfl) rfl rfl <| RJ_gn (GY_no rfl rfl rfl rfl) rfl rfl <| oP (P_pickT rfl rfl rfl) rfl <| oM rfl rfl <| RJ_gn (GY_no rfl rfl rfl rfl) rfl rfl <| RJ_gn (GY_no rfl rfl rfl rfl) rfl rfl <| RJ_gn (GY_no rfl rfl rfl rfl) rfl rfl <| oP (P_pickT rfl rfl rfl) rfl <| nT <| CJ_condT rfl rfl <| sR <| oA rfl rfl <| nT <| CJ_ret <| QJ_then_ret ?_
   cases h
   exact fE (res1 Try.results16 rfl) () (eD (eD (eD eR)))
  ·
   replace h := ite_f hg4 h
   refine gP (GY_yes rfl rfl rfl hg4B) (P_move rfl) rfl ?_
   obtain ⟨hg5, h⟩ := grd_de h
   refine RJ_gy (GY_yes rfl rfl rfl hg4B) <| O_call (c_SuspendP hg5) rfl Try.call10 (Dels.cons del0 Dels.nil) rfl fun _ _ => ?_
   obtain ⟨w6, hw6, h⟩ := lt_e h
   rw [← hw6]
   refine gP (GY_yes rfl rfl rfl hg4B) (P_neq (a := w6) (b := (0 : Int)) rfl rfl) rfl <| oP (P_pickF rfl hg4B rfl) rfl <| oM rfl rfl <| RJ_splitP 29 rfl bT_dec (fun hg6B hg6 => ?_) (fun hg6B hg6 => ?_)
   ·
    replace h := ite_t hg6 h
    refine RJ_gn (GY_no rfl rfl rfl hg6B) rfl rfl <| RJ_gn (GY_no rfl rfl rfl hg6B) rfl rfl <| RJ_gn (GY_no rfl rfl rfl hg6B) rfl rfl <| oP (P_pickT rfl hg6B rfl) rfl <| oM rfl rfl <| RJ_gn (GY_no rfl rfl rfl rfl) rfl rfl <| RJ_gn (GY_no rfl rfl rfl rfl) rfl rfl <| RJ_gn (GY_no rfl rfl rfl rfl) rfl rfl <| oP (P_pickT rfl rfl rfl) rfl <| nT <| CJ_condT rfl rfl <| sR <| oA rfl rfl <| nT <| CJ_ret <| QJ_then_ret ?_
    cases h
    exact fE (res1 Try.results16 rfl) () (eD (eD (eD eR)))
   ·
    replace h := ite_f hg6 h
    refine gP (GY_yes rfl rfl rfl hg6B) (P_move rfl) rfl ?_
    obtain ⟨hg7, h⟩ := grd_de h
    refine RJ_gy (GY_yes rfl rfl rfl hg6B) <| O_call (c_ResumeP hg7) rfl Try.call11 (Dels.cons del0 Dels.nil) rfl fun _ _ => ?_
    obtain ⟨w7, hw7, h⟩ := lt_e h
    rw [← hw7]
    refine gP (GY_yes rfl rfl rfl hg6B) (P_neq (a := w7) (b := (0 : Int)) rfl rfl) rfl <| oP (P_pickF rfl hg6B rfl) rfl <| oM rfl rfl <| RJ_splitP 34 rfl bT_dec (fun hg8B hg8 => ?_) (fun hg8B hg8 => ?_)
    ·
     replace h := ite_t hg8 h
     refine RJ_gn (GY_no rfl rfl rfl hg8B) rfl rfl <| RJ_gn (GY_no rfl rfl rfl hg8B) rfl rfl <| RJ_gn (GY_no rfl rfl rfl hg8B) rfl rfl <| oP (P_pickT rfl hg8B rfl) rfl <| nT <| CJ_condT rfl rfl <| sR <| oA rfl rfl <| nT <| CJ_ret <| QJ_then_ret ?_
     cases h
     exact fE (res1 Try.results16 rfl) () (eD (eD (eD eR)))
    ·
     replace h := ite_f hg8 h
     refine gP (GY_yes rfl rfl rfl hg8B) (P_move rfl) rfl ?_
     obtain ⟨hg9, h⟩ := grd_de h
     refine RJ_gy (GY_yes rfl rfl rfl hg8B) <| O_call (c_SuspendP hg9) rfl Try.call10 (Dels.cons del0 Dels.nil) rfl fun _ _ => ?_
     obtain ⟨w8, hw8, h⟩ := lt_e h
     rw [← hw8]
     refine gP (GY_yes rfl rfl rfl hg8B) (P_neq (a := w8) (b := (0 : Int)) rfl rfl) rfl <| oP (P_pickF rfl hg8B rfl) rfl <| nT <| CJ_condP rfl bT_dec (fun hg10 => ?_) (fun hg10 => ?_)
     ·
      replace h := ite_t hg10 h
      refine sR <| oA rfl rfl <| nT <| CJ_ret <| QJ_then_ret ?_
      cases h
      exact fE (res1 Try.results16 rfl) () (eD (eD (eD eR)))
     ·
      replace h := ite_f hg10 h
      refine kT <| sR <| oM rfl rfl <| oP (P_build rfl (bld_44_0_1_2 _ _ _)) rfl ?_
      obtain ⟨hg11, h⟩ := grd_de h
      refine oO <| O_call (c_DoG hg11) rfl Try.call14 (Dels.cons del0 Dels.nil) rfl fun _ _ => oM rfl rfl <| oP (P_extract rfl rfl) rfl ?_
      obtain ⟨w9, hw9, h⟩ := lt_e h
      rw [← hw9]
      refine oP (P_extract rfl rfl) rfl ?_
      obtain ⟨w10, hw10, h⟩ := lt_e h
      rw [← hw10]
      refine oO <| O_alloc Try.zeroValue40 rfl rfl fun b11 => oO <| O_storeN rfl rfl foc0 Try.sizeOf40 rfl rfl rfl <| oA rfl rfl <| nT <| CJ_seq <| sR <| oM rfl rfl <| oP (P_neq (a := w10) (b := (0 : Int)) rfl rfl) rfl <| oM rfl rfl <| RJ_mbF rfl rfl rfl (fun hG12 => have hP13 : ¬ (w10 ≠ (0 : Int)) := nP (bT_dec) hG12; VJ_P (P_fieldAddr rfl ⟨_, _, _, Try.runUnderlying40, rfl, rfl, Try.sizeOf4, rfl⟩)) <| RJ_mbF rfl rfl rfl (fun hG14 => have hP15 : ¬ (w10 ≠ (0 : Int)) := nP (bT_dec) hG14; V_load (mbx hG14 rfl) foc0 rfl Try.isAgg4) <| oP (P_pickOr rfl rfl (fun hh => mbx (not_f hh) rfl)) rfl <| oM rfl rfl <| RJ_mbF rfl rfl rfl (fun hG16 => have hP17 : ¬ ((w10 ≠ (0 : Int)) ∨ w9.Done = true) := nP ((bT_or bT_dec Iff.rfl)) hG16; VJ_P (P_fieldAddr rfl ⟨_, _, _, Try.runUnderlying40, rfl, rfl, Try.sizeOf3, rfl⟩)) <| RJ_mbF rfl rfl rfl (fun hG18 => have hP19 : ¬ ((w10 ≠ (0 : Int)) ∨ w9.Done = true) := nP ((bT_or bT_dec Iff.rfl)) hG18; V_load (mbx hG18 rfl) foc0 rfl Try.isAgg3) <| RJ_mbF rfl rfl rfl (fun hG20 => have hP21 : ¬ ((w10 ≠ (0 : Int)) ∨ w9.Done = true) := nP ((bT_or bT_dec Iff.rfl)) hG20; VJ_P (P_neq (a := w9.Ticket) (b := (1 : Int)) (mbx hG20 rfl) rfl)) <| oP (P_pickOr rfl rfl (fun hh => mbx (not_f hh) rfl)) rfl <| oM rfl rfl <| RJ_splitP 56 rfl (bT_or (bT_or bT_dec Iff.rfl) bT_dec) (fun hg12B hg12 => ?_) (fun hg12B hg12 => ?_)
      ·
       replace h := ite_t hg12 h
       refine RJ_gn (GY_no rfl rfl rfl hg12B) rfl rfl <| RJ_gn (GY_no rfl rfl rfl hg12B) rfl rfl <| RJ_gn (GY_no rfl rfl rfl hg12B) rfl rfl <| RJ_gn (GY_no rfl rfl rfl hg12B) rfl rfl <| RJ_gn (GY_no rfl rfl rfl hg12B) rfl rfl <| oP (P_pickT rfl hg12B rfl) rfl <| oM rfl rfl <| RJ_gn (GY_no rfl rfl rfl rfl) rfl rfl <| RJ_gn (GY_no rfl rfl rfl rfl) rfl rfl <| RJ_gn (GY_no rfl rfl rfl rfl) rfl rfl <| oP (P_pickT rfl rfl rfl) rfl <| oM rfl rfl <| RJ_gn (GY_no rfl rfl rfl rfl) rfl rfl <| RJ_gn (GY_no rfl rfl rfl rfl) rfl rfl <| RJ_gn (GY_no rfl rfl rfl rfl) rfl rfl <| RJ_gn (GY_no rfl rfl rfl rfl) rfl rfl <| oP (P_pickT rfl rfl rfl) rfl <| nT <| CJ_condT rfl rfl <| sR <| oA rfl rfl <| nT <| CJ_ret <| QJ_then_ret ?_
       cases h
       exact fE (res1 Try.results16 rfl) () (eD (eD (eD (eD eR))))
      ·
       replace h := ite_f hg12 h
       refine gP (GY_yes rfl rfl rfl hg12B) (P_move rfl) rfl <| gP (GY_yes rfl rfl rfl hg12B) (P_build rfl (bld_33_1_2_3 _ _ _)) rfl <| RJ_gy (GY_yes rfl rfl rfl hg12B) <| O_buildSlice rfl (bs_34_1_0 _ _ _ _ _) rfl fun b22 => RJ_ent (Ent.trans (t0_ eR) (sl_of_lit (t := tyapi_Target) (m := 1) [(⟨(0 : Int), (4 : Int), (ByteArray.mk #[100, 105, 115, 107, 49]), (2 : Int), false⟩ : api_Target)] rfl rfl rfl (by decide))) ?_
       obtain ⟨hg13, h⟩ := grd_de h
       refine RJ_gy (GY_yes rfl rfl rfl hg12B) <| O_call (c_LoadG (Reads.sl _ _ _) hg13 (v := ⟨_, _, _⟩)) rfl Try.call9 (Dels.cons del2 (Dels.cons del0 Dels.nil)) rfl fun _ _ => ?_
       obtain ⟨w23, hw23, h⟩ := lt_e h
       rw [← hw23]
       refine gP (GY_yes rfl rfl rfl hg12B) (P_neq (a := w23) (b := (0 : Int)) rfl rfl) rfl <| oP (P_pickF rfl hg12B rfl) rfl <| oM rfl rfl <| RJ_splitP 63 rfl bT_dec (fun hg14B hg14 => ?_) (fun hg14B hg14 => ?_)
       ·
        replace h := ite_t hg14 h
        refine RJ_gn (GY_no rfl rfl rfl hg14B) rfl rfl <| RJ_gn (GY_no rfl rfl rfl hg14B) rfl rfl <| RJ_gn (GY_no rfl rfl rfl hg14B) rfl rfl <| oP (P_pickT rfl hg14B rfl) rfl <| oM rfl rfl <| RJ_gn (GY_no rfl rfl rfl rfl) rfl rfl <| RJ_gn (GY_no rfl rfl rfl rfl) rfl rfl <| RJ_gn (GY_no rfl rfl rfl rfl) rfl rfl <| RJ_gn (GY_no rfl rfl rfl rfl) rfl rfl <| oP (P_pickT rfl rfl rfl) rfl <| nT <| CJ_condT rfl rfl <| sR <| oA rfl rfl <| nT <| CJ_ret <| QJ_then_ret ?_
        cases h
        exact fE (res1 Try.results16 rfl) () (eD (eD (eD (eD (eD eR)))))
       ·
        replace h := ite_f hg14 h
        refine gP (GY_yes rfl rfl rfl hg14B) (P_move rfl) rfl ?_
        obtain ⟨hg15, h⟩ := grd_de h
        refine RJ_gy (GY_yes rfl rfl rfl hg14B) <| O_call (c_ResumeP hg15) rfl Try.call11 (Dels.cons del0 Dels.nil) rfl fun _ _ => ?_
        obtain ⟨w24, hw24, h⟩ := lt_e h
        rw [← hw24]
        refine gP (GY_yes rfl rfl rfl hg14B) (P_neq (a := w24) (b := (0 : Int)) rfl rfl) rfl <| oP (P_pickF rfl hg14B rfl) rfl <| oM rfl rfl <| RJ_splitP 68 rfl bT_dec (fun hg16B hg16 => ?_) (fun hg16B hg16 => ?_)
        ·
         replace h := ite_t hg16 h
         refine RJ_gn (GY_no rfl rfl rfl hg16B) rfl rfl <| RJ_gn (GY_no rfl rfl rfl hg16B) rfl rfl <| RJ_gn (GY_no rfl rfl rfl hg16B) rfl rfl <| RJ_gn (GY_no rfl rfl rfl hg16B) rfl rfl <| oP (P_pickT rfl hg16B rfl) rfl <| nT <| CJ_condT rfl rfl <| sR <| oA rfl rfl <| nT <| CJ_ret <| QJ_then_ret ?_
         cases h
         exact fE (res1 Try.results16 rfl) () (eD (eD (eD (eD (eD eR)))))
        ·
         replace h := ite_f hg16 h
         refine gP (GY_yes rfl rfl rfl hg16B) (P_move rfl) rfl ?_
         obtain ⟨hg17, h⟩ := grd_de h
         refine RJ_gy (GY_yes rfl rfl rfl hg16B) <| O_call (c_AnswersP hg17) rfl Try.call15 (Dels.cons del0 Dels.nil) rfl fun X25 _ => RJ_pure (len_of (Reads.sl _ _ _) del0) fun hlen27 => gV (GY_yes rfl rfl rfl hg16B) (V_len rfl foc0 (Reads.sl _ _ _) Try.runUnderlying46) rfl ?_
         obtain ⟨w28, hw28, h⟩ := lt_e h
         rw [← hw28]
         refine gP (GY_yes rfl rfl rfl hg16B) (P_neq (a := ((w28 : Nat) : Int)) (b := (1 : Int)) rfl rfl) rfl <| oP (P_pickF rfl hg16B rfl) rfl <| nT <| CJ_condP rfl bT_dec (fun hg18 => ?_) (fun hg18 => ?_)
         ·
          replace h := ite_t hg18 h
          refine sR <| oA rfl rfl <| nT <| CJ_ret <| QJ_then_ret ?_
          cases h
          exact fE (res1 Try.results16 rfl) () (eD (eD (eD (eD (eD (eD eR))))))
         ·
          replace h := ite_f hg18 h
          refine kT <| sR <| oM rfl rfl <| oP (P_build rfl (bld_44_0_1 _ _)) rfl ?_
          obtain ⟨hg19, h⟩ := grd_de h
          refine oO <| O_call (c_DoG hg19) rfl Try.call14 (Dels.cons del1 Dels.nil) rfl fun _ _ => oM rfl rfl <| oP (P_extract rfl rfl) rfl ?_
          obtain ⟨w29, hw29, h⟩ := lt_e h
          rw [← hw29]
          refine oP (P_extract rfl rfl) rfl ?_
          obtain ⟨w30, hw30, h⟩ := lt_e h
          rw [← hw30]
          refine oO <| O_alloc Try.zeroValue40 rfl rfl fun b31 => oO <| O_storeN rfl rfl foc0 Try.sizeOf40 rfl rfl rfl <| oA rfl rfl <| RJ_nil <| QJ_ent (t0_ (eD (eD (eD (eD (eD (eD eR))))))) <| QJ_then <| sR <| oM rfl rfl <| oP (P_eql (a := w30) (b := (0 : Int)) rfl rfl) rfl <| oM rfl rfl <| RJ_mbT rfl rfl rfl (fun hG32 => have hP33 : (w30 = (0 : Int)) := (bT_dec).1 hG32; VJ_P (P_fieldAddr rfl ⟨_, _, _, Try.runUnderlying40, rfl, rfl, Try.sizeOf4, rfl⟩)) <| RJ_mbT rfl rfl rfl (fun hG34 => have hP35 : (w30 = (0 : Int)) := (bT_dec).1 hG34; V_load (mbx hG34 rfl) foc0 rfl Try.isAgg4) <| oP (P_pickAnd rfl (fun hh => mbx hh rfl) rfl) rfl <| oM rfl rfl <| RJ_mbT rfl rfl rfl (fun hG36 => have hP37 : ((w30 = (0 : Int)) ∧ w29.Done = true) := ((bT_and bT_dec Iff.rfl)).1 hG36; VJ_P (P_fieldAddr rfl ⟨_, _, _, Try.runUnderlying40, rfl, rfl, Try.sizeOf35, rfl⟩)) <| RJ_mbT rfl rfl rfl (fun hG38 => have hP39 : ((w30 = (0 : Int)) ∧ w29.Done = true) := ((bT_and bT_dec Iff.rfl)).1 hG38; V_load (mbx hG38 rfl) foc0 rfl Try.isAgg35) <| RJ_mbT rfl rfl rfl (fun hG40 => have hP41 : ((w30 = (0 : Int)) ∧ w29.Done = true) := ((bT_and bT_dec Iff.rfl)).1 hG40; VJ_P (P_eq_u64 (a := w29.Value) (b := (9 : UInt64)) (mbx hG40 rfl) rfl)) <| oP (P_pickAnd rfl (fun hh => mbx hh rfl) rfl) rfl <| oA rfl rfl <| nT <| CJ_ret ?_
          cases h
          exact fE (res1 Try.results16 rfl) () (eD eR)
end Go.Proofs
namespace Go.Proofs
open Go.VG
theorem awake23_eq : volumegrouplaw23_awake = some true := by kernel_rfl
end Go.Proofs
namespace Go.Proofs
open Go.VG
abbrev nLow : ByteArray := ByteArray.mk #[108, 111, 119]
abbrev nHigh : ByteArray := ByteArray.mk #[104, 105, 103, 104]
def Fm (b0 b1 : List UInt64) (sl sh : Bool) (wl wh : List Wt) (tks : Nat) (told : List api_Answer) (cl wr : Nat) : Md :=
  ⟨[⟨false, true, nd0, b0, [], [], false, false, false, []⟩, ⟨false, true, nd1, b1, [], [], false, false, false, []⟩,
    ⟨false, false, nLow, [], [⟨0, 6, nd0, 2, false⟩], [], true, false, sl, wl⟩, ⟨false, false, nHigh, [], [⟨0, 3, nLow, 3, false⟩, ⟨3, 3, nd1, 0, false⟩], [], true, false, sh, wh⟩], tks, told, cl, wr⟩
abbrev Tw := Nat × Nat × UInt64
def wtw (p : Tw) : Wt := ⟨p.1, 3, ⟨2, (p.2.1 : Int), p.2.2⟩⟩
def answ (p : Tw) : api_Answer := ⟨true, (p.1 : Int), 0, 0⟩
def lowp (p : Tw) : Bool := decide (p.2.1 < 3)
def sB0 (b : List UInt64) (p : Tw) : List UInt64 := if p.2.1 < 3 then b.set (5 + p.2.1) p.2.2 else b
def sB1 (b : List UInt64) (p : Tw) : List UInt64 := if p.2.1 < 3 then b else b.set (p.2.1 - 3) p.2.2
section
variable {b0 b1 : List UInt64} {wl wh : List Wt} {tks cl wr : Nat} {told : List api_Answer} {v : UInt64} {k a : Nat}
theorem cases6 (h : a < 6) : a = 0 ∨ a = 1 ∨ a = 2 ∨ a = 3 ∨ a = 4 ∨ a = 5 := by omega
theorem fm_wait : (Fm b0 b1 true true wl wh tks told cl wr).doE nHigh ⟨2, (a : Int), v⟩ = 0 ∧ (Fm b0 b1 true true wl wh tks told cl wr).doA nHigh ⟨2, (a : Int), v⟩ = ⟨false, ((tks + 1 : Nat) : Int), 0, 0⟩ ∧
    (Fm b0 b1 true true wl wh tks told cl wr).doS nHigh ⟨2, (a : Int), v⟩ = Fm b0 b1 true true wl (wh ++ [wtw (tks + 1, a, v)]) (tks + 1) told cl wr := by
  refine ⟨?_, ?_, ?_⟩
  · kernel_rfl
  · kernel_rfl
  · kernel_rfl
theorem fm_stepA (ha : a < 6) (hb : b1.length = 8) : (Fm b0 b1 true false wl wh tks told cl wr).rsT (wtw (k, a, v)) = if a < 3 then Fm b0 b1 true false (wl ++ [wtw (k, a, v)]) wh tks told cl wr else Fm b0 (b1.set (a - 3) v) true false wl wh tks (told ++ [answ (k, a, v)]) cl (wr + 1) := by
  match b1, hb with
  | [c0, c1, c2, c3, c4, c5, c6, c7], _ =>
    rcases cases6 ha with rfl | rfl | rfl | rfl | rfl | rfl
    · show _ = _; kernel_rfl
    · show _ = _; kernel_rfl
    · show _ = _; kernel_rfl
    · show _ = _; kernel_rfl
    · show _ = _; kernel_rfl
    · show _ = _; kernel_rfl
theorem fm_stepB (ha : a < 6) (h0 : b0.length = 12) (hb : b1.length = 8) : (Fm b0 b1 false false wl wh tks told cl wr).rsT (wtw (k, a, v)) = Fm (sB0 b0 (k, a, v)) (sB1 b1 (k, a, v)) false false wl wh tks (told ++ [answ (k, a, v)]) cl (wr + 1) := by
  match b0, h0, b1, hb with
  | [d0, d1, d2, d3, d4, d5, d6, d7, d8, d9, d10, d11], _, [c0, c1, c2, c3, c4, c5, c6, c7], _ =>
    rcases cases6 ha with rfl | rfl | rfl | rfl | rfl | rfl
    · show _ = _; kernel_rfl
    · show _ = _; kernel_rfl
    · show _ = _; kernel_rfl
    · show _ = _; kernel_rfl
    · show _ = _; kernel_rfl
    · show _ = _; kernel_rfl
theorem fm_read (ha : a < 6) (h0 : b0.length = 12) (hb : b1.length = 8) : (Fm b0 b1 false false wl wh tks told cl wr).doE nHigh ⟨1, (a : Int), 0⟩ = 0 ∧ (Fm b0 b1 false false wl wh tks told cl wr).doA nHigh ⟨1, (a : Int), 0⟩ = ⟨true, 0, if a < 3 then b0.getD (5 + a) 0 else b1.getD (a - 3) 0, 0⟩ ∧
    (Fm b0 b1 false false wl wh tks told cl wr).doS nHigh ⟨1, (a : Int), 0⟩ = Fm b0 b1 false false wl wh tks told cl wr := by
  match b0, h0, b1, hb with
  | [d0, d1, d2, d3, d4, d5, d6, d7, d8, d9, d10, d11], _, [c0, c1, c2, c3, c4, c5, c6, c7], _ =>
    rcases cases6 ha with rfl | rfl | rfl | rfl | rfl | rfl
    · exact ⟨by show _ = _; kernel_rfl, by show _ = _; kernel_rfl, by show _ = _; kernel_rfl⟩
    · exact ⟨by show _ = _; kernel_rfl, by show _ = _; kernel_rfl, by show _ = _; kernel_rfl⟩
    · exact ⟨by show _ = _; kernel_rfl, by show _ = _; kernel_rfl, by show _ = _; kernel_rfl⟩
    · exact ⟨by show _ = _; kernel_rfl, by show _ = _; kernel_rfl, by show _ = _; kernel_rfl⟩
    · exact ⟨by show _ = _; kernel_rfl, by show _ = _; kernel_rfl, by show _ = _; kernel_rfl⟩
    · exact ⟨by show _ = _; kernel_rfl, by show _ = _; kernel_rfl, by show _ = _; kernel_rfl⟩
theorem sB0_len {p : Tw} : (sB0 b0 p).length = b0.length := by unfold sB0; split <;> simp
theorem sB1_len {p : Tw} : (sB1 b1 p).length = b1.length := by unfold sB1; split <;> simp
theorem fB0_len : ∀ (ts : List Tw) (b : List UInt64), (ts.foldl sB0 b).length = b.length
  | [], _ => rfl
  | p :: ts, b => by rw [List.foldl_cons, fB0_len ts, sB0_len]
theorem fB1_len : ∀ (ts : List Tw) (b : List UInt64), (ts.foldl sB1 b).length = b.length
  | [], _ => rfl
  | p :: ts, b => by rw [List.foldl_cons, fB1_len ts, sB1_len]
theorem fm_foldA : ∀ (ts : List Tw) (b1 : List UInt64) (wl : List Wt) (told : List api_Answer) (wr : Nat), (∀ p ∈ ts, p.2.1 < 6) → b1.length = 8 →
    ∃ wr', (ts.map wtw).foldl Md.rsT (Fm b0 b1 true false wl wh tks told cl wr) = Fm b0 (ts.foldl sB1 b1) true false (wl ++ (ts.filter lowp).map wtw) wh tks (told ++ (ts.filter fun p => !lowp p).map answ) cl wr'
  | [], b1, wl, told, wr, _, _ => ⟨wr, by simp⟩
  | (k, a, v) :: ts, b1, wl, told, wr, h, hb => by
    have h1 := h (k, a, v) List.mem_cons_self
    have h2 := fun p hp => h p (List.mem_cons_of_mem _ hp)
    rw [List.map_cons, List.foldl_cons, fm_stepA h1 hb]
    by_cases e : a < 3
    · rw [if_pos e]
      obtain ⟨wr', g⟩ := fm_foldA ts b1 (wl ++ [wtw (k, a, v)]) told wr h2 hb
      refine ⟨wr', ?_⟩
      rw [g, List.foldl_cons, show sB1 b1 (k, a, v) = b1 from if_pos e, List.filter_cons_of_pos (show lowp (k, a, v) = true from decide_eq_true e), List.filter_cons_of_neg (by simp [lowp, e]), List.map_cons, List.append_assoc]; rfl
    · rw [if_neg e]
      obtain ⟨wr', g⟩ := fm_foldA ts (b1.set (a - 3) v) wl (told ++ [answ (k, a, v)]) (wr + 1) h2 (by simpa using hb)
      refine ⟨wr', ?_⟩
      rw [g, List.foldl_cons, show sB1 b1 (k, a, v) = b1.set (a - 3) v from if_neg e, List.filter_cons_of_neg (by simp [lowp, e]), List.filter_cons_of_pos (by simp [lowp, e]), List.map_cons, List.append_assoc]; rfl
theorem fm_foldB : ∀ (ts : List Tw) (b0 b1 : List UInt64) (told : List api_Answer) (wr : Nat), (∀ p ∈ ts, p.2.1 < 6) → b0.length = 12 → b1.length = 8 →
    ∃ wr', (ts.map wtw).foldl Md.rsT (Fm b0 b1 false false wl wh tks told cl wr) = Fm (ts.foldl sB0 b0) (ts.foldl sB1 b1) false false wl wh tks (told ++ ts.map answ) cl wr'
  | [], b0, b1, told, wr, _, _, _ => ⟨wr, by simp⟩
  | (k, a, v) :: ts, b0, b1, told, wr, h, h0, hb => by
    have h1 := h (k, a, v) List.mem_cons_self
    have h2 := fun p hp => h p (List.mem_cons_of_mem _ hp)
    rw [List.map_cons, List.foldl_cons, fm_stepB h1 h0 hb]
    obtain ⟨wr', g⟩ := fm_foldB ts (sB0 b0 (k, a, v)) (sB1 b1 (k, a, v)) (told ++ [answ (k, a, v)]) (wr + 1) h2 (by rw [sB0_len, h0]) (by rw [sB1_len, hb])
    refine ⟨wr', ?_⟩
    rw [g, List.foldl_cons, List.foldl_cons, List.map_cons, List.append_assoc]; rfl
def W6 (ts : List Tw) : List UInt64 := ts.foldl (fun s p => s.set p.2.1 p.2.2) (List.replicate 6 0)
theorem W6_at : ∀ (ts : List Tw) (s b0 b1 : List UInt64), (∀ p ∈ ts, p.2.1 < 6) → s.length = 6 → b0.length = 12 → b1.length = 8 → (∀ a, a < 6 → s.getD a 0 = if a < 3 then b0.getD (5 + a) 0 else b1.getD (a - 3) 0) →
    ∀ a, a < 6 → (ts.foldl (fun s p => s.set p.2.1 p.2.2) s).getD a 0 = if a < 3 then (ts.foldl sB0 b0).getD (5 + a) 0 else (ts.foldl sB1 b1).getD (a - 3) 0
  | [], s, b0, b1, _, _, _, _, h, a, ha => h a ha
  | (k, q, v) :: ts, s, b0, b1, hp, hs, h0, h1, h, a, ha => by
    have hq := hp (k, q, v) List.mem_cons_self
    simp only [List.foldl_cons]
    refine W6_at ts (s.set q v) (sB0 b0 (k, q, v)) (sB1 b1 (k, q, v)) (fun p hp' => hp p (List.mem_cons_of_mem _ hp')) (by simpa using hs) (by rw [sB0_len, h0]) (by rw [sB1_len, h1]) (fun x hx => ?_) a ha
    have hg : ∀ {l : List UInt64} {i j : Nat}, i < l.length → (l.set i v).getD j 0 = if j = i then v else l.getD j 0 := fun {l i j} hi => by
      by_cases e : j = i
      · subst e; rw [if_pos rfl]; simp [List.getD, hi]
      · rw [if_neg e]; simp [List.getD, List.getElem?_set, Ne.symm e]
    have hq' : q < 6 := hq
    rw [hg (by omega), h x hx]
    simp only [sB0, sB1]
    by_cases e1 : q < 3
    · rw [if_pos e1, if_pos e1]
      by_cases e2 : x < 3
      · rw [if_pos e2, if_pos e2, hg (by omega)]
        by_cases e3 : x = q
        · rw [if_pos e3, if_pos (by rw [e3])]
        · rw [if_neg e3, if_neg (by omega)]
      · rw [if_neg e2, if_neg e2, if_neg (by omega)]
    · rw [if_neg e1, if_neg e1]
      by_cases e2 : x < 3
      · rw [if_pos e2, if_pos e2, if_neg (by omega)]
      · rw [if_neg e2, if_neg e2, hg (by omega)]
        by_cases e3 : x = q
        · rw [if_pos e3, if_pos (by rw [e3])]
        · rw [if_neg e3, if_neg (by omega)]
end
end Go.Proofs
set_option linter.unusedSimpArgs false
set_option linter.unusedVariables false
set_option maxRecDepth 20000
set_option maxHeartbeats 4000000
namespace Go.Proofs
open Go.VG
abbrev tyA36 : Ty UInt64 := { tyU with T := 36 }
theorem bld_58_0 (v0 : (Option Addr)) (v1 : Nat) (v2 : Nat) : ∀ w, (Instr.build 58 (#[(0, .slice v0 v1 v2)] : Array (Nat × Value))).run Try.prog w = .ok (.agg #[.slice v0 v1 v2, .int .i64 (0 : Int)]) w := fun w => by kernel_rfl
theorem bld_33_0_1_2 (v0 : Int) (v1 : Int) (v2 : ByteArray) : ∀ w, (Instr.build 33 (#[(0, .int .i64 v0), (1, .int .i64 v1), (2, .string v2)] : Array (Nat × Value))).run Try.prog w = .ok (.agg #[.int .i64 v0, .int .i64 v1, .string v2, .int .i64 (0 : Int), .bool false]) w := fun w => by kernel_rfl
theorem bs_34_2_0_1 (v0 : Int) (v1 : Int) (v2 : ByteArray) (v3 : Int) (v4 : Bool) (v5 : Int) (v6 : Int) (v7 : ByteArray) (v8 : Int) (v9 : Bool) : BuildsSlice Try.prog 34 2 [(0, .agg #[.int .i64 v0, .int .i64 v1, .string v2, .int .i64 v3, .bool v4]), (1, .agg #[.int .i64 v5, .int .i64 v6, .string v7, .int .i64 v8, .bool v9])] 33 [.int .i64 v0, .int .i64 v1, .string v2, .int .i64 v3, .bool v4, .int .i64 v5, .int .i64 v6, .string v7, .int .i64 v8, .bool v9] := fun w => by kernel_rfl
theorem bs_45_2_0_1 (v0 : ByteArray) (v1 : ByteArray) : BuildsSlice Try.prog 45 2 [(0, .string v0), (1, .string v1)] 9 [.string v0, .string v1] := fun w => by kernel_rfl
def volumegroupmake_New (l : List Int) : Option ((List Int) × Nat) :=
  if ((1000 : Int) < ((l.length : Nat) : Int)) then
    some ((((l.take 1000).drop 0), 0))
  else
    some (l, 0)
theorem L_volumegroupmake_New {W : World} {Al : HP} {vl : Value} {l : List Int} {r : (List Int) × Nat} (rl : Reads Al tyI vl l) (h : volumegroupmake_New l = some r) :
    CSpec Try.prog W 6 [vl] [Al] (fun x : Nat × Value => ptr x.1 0) (fun _ => True) (fun x F => Al :: blk x.1 58 [x.2, .int .i64 (((r.2 : Nat) : Int))] :: pur (Reads Al tyI x.2 r.1) :: F) := by
 refine CSpec.of_body Try.func6 rfl Try.ntmps6 rfl fun F => ?_
 show CJ _ _ _ _ _ _ (_ :: F)
 unfold volumegroupmake_New at h
 refine CJ_pure (len_of rl del0) fun hlen1 => sR <| oA rfl rfl <| nT <| CJ_seq <| sR <| oM rfl rfl <| oV (V_len rfl foc0 rl Try.runUnderlying22) rfl <| oP (P_gtr (a := ((l.length : Nat) : Int)) (b := (1000 : Int)) rfl rfl) rfl <| nT <| CJ_condP rfl bT_dec (fun hg1 => ?_) (fun hg1 => ?_)
 ·
  replace h := ite_t hg1 h
  refine CJ_region <| oM rfl rfl <| oV (V_slice (l := 0) (h := 1000) rfl foc0 rl rfl ⟨_, rfl⟩ (by omega) (by omega) Try.underlying22 Try.sizeOf3) rfl <| oA rfl rfl <| nT <| sR <| oM rfl rfl <| RJ_pure (reads_sl3 rl del0) fun hsv3 => ?_
  obtain ⟨sv2, hsv3⟩ := hsv3
  subst hsv3
  refine oP (P_build rfl (bld_58_0 _ _ _)) rfl <| oO <| O_box rfl rfl rfl fun b4 => oA rfl rfl <| nT <| CJ_ret ?_
  cases h
  exact fE (res1 Try.results6 rfl) ⟨b4, sliceV tyI.sz (Sl3.v sv2) 0 1000⟩ (t1_ (t0_ (Ent.trans (fun h hh => stars_pur.2 ⟨(Reads.sliceV (l := 0) (h := 1000) rl (by omega) (by omega)), hh⟩) <| t0_ eR)))
 ·
  replace h := ite_f hg1 h
  refine kT <| sR <| oM rfl rfl <| RJ_pure (reads_sl3 rl del0) fun hsv6 => ?_
  obtain ⟨sv5, hsv6⟩ := hsv6
  subst hsv6
  refine oP (P_build rfl (bld_58_0 _ _ _)) rfl <| oO <| O_box rfl rfl rfl fun b7 => oA rfl rfl <| nT <| CJ_ret ?_
  cases h
  exact fE (res1 Try.results6 rfl) ⟨b7, (Sl3.v sv5)⟩ (t1_ (t0_ (Ent.trans (fun h hh => stars_pur.2 ⟨rl, hh⟩) <| t0_ eR)))
def volumegroupmake_Src_Raw (s_0_L : List Int) (s_0_At : Int) : Option (Int × Int) :=
  if (((s_0_L.length : Nat) : Int) ≤ s_0_At) then
    some (((0 : Int), s_0_At))
  else
    grd (inI64 ((s_0_At + (1 : Int)))) <|
    grd (inI64 (((s_0_At + (1 : Int)) - (1 : Int)))) <|
    grd (decide (0 ≤ ((s_0_At + (1 : Int)) - (1 : Int)) ∧ ((s_0_At + (1 : Int)) - (1 : Int)) < (s_0_L.length : Int))) <|
    some (((s_0_L.getD ((((s_0_At + (1 : Int)) - (1 : Int))).toNat) 0), (s_0_At + (1 : Int))))
theorem L_volumegroupmake_Src_Raw {W : World} {bs_0 : Nat} {As_0_L : HP} {vs_0_L : Value} {s_0_L : List Int} {s_0_At : Int} {r : Int × Int} (rs_0_L : Reads As_0_L tyI vs_0_L s_0_L) (h : volumegroupmake_Src_Raw s_0_L s_0_At = some r) :
    CSpec Try.prog W 39 [ptr bs_0 0] [blk bs_0 58 [vs_0_L, .int .i64 s_0_At], As_0_L] (fun x : Unit => .int .i64 r.1) (fun _ => True) (fun x F => blk bs_0 58 [vs_0_L, .int .i64 r.2] :: As_0_L :: F) := by
 refine CSpec.of_body Try.func39 rfl Try.ntmps39 rfl fun F => ?_
 show CJ _ _ _ _ _ _ (_ :: _ :: F)
 unfold volumegroupmake_Src_Raw at h
 refine CJ_pure (len_of rs_0_L del1) fun hlen1 => sR <| oA rfl rfl <| nT <| CJ_seq <| CJ_seq <| AJ_startH 0 (by kernel_rfl) rfl <| aN 0 1 rfl rfl (P_move rfl) rfl <| aN 1 3 rfl rfl (P_nilCheck rfl) rfl <| aN 2 7 rfl rfl (P_fieldAddr rfl ⟨_, _, _, Try.runUnderlying58, rfl, rfl, Try.sizeOf3, rfl⟩) rfl <| aV 3 15 rfl rfl (GY_none rfl) eR (V_load rfl foc0 rfl Try.isAgg3) rfl <| aN 4 31 rfl rfl (P_move rfl) rfl <| aN 5 63 rfl rfl (P_nilCheck rfl) rfl <| aN 6 127 rfl rfl (P_fieldAddr rfl ⟨_, _, _, Try.runUnderlying58, rfl, rfl, Try.sizeOf22, rfl⟩) rfl <| aV 7 255 rfl rfl (GY_none rfl) eR (V_load rfl foc0 rfl Try.isAgg22) rfl <| aV 8 511 rfl rfl (GY_none rfl) eR (V_len rfl foc1 rs_0_L Try.runUnderlying22) rfl <| aN 9 1023 rfl rfl (P_geq (a := s_0_At) (b := ((s_0_L.length : Nat) : Int)) rfl rfl) rfl <| aD <| CJ_condP rfl bT_dec (fun hg1 => ?_) (fun hg1 => ?_)
 ·
  replace h := ite_t hg1 h
  refine sR <| oA rfl rfl <| nT <| CJ_ret <| QJ_then_ret ?_
  cases h
  exact fE (res1 Try.results39 rfl) () eR
 ·
  replace h := ite_f hg1 h
  refine kT <| sR <| oM rfl rfl <| oP (P_nilCheck rfl) rfl <| oP (P_fieldAddr rfl ⟨_, _, _, Try.runUnderlying58, rfl, rfl, Try.sizeOf3, rfl⟩) rfl <| oV (V_load rfl foc0 rfl Try.isAgg3) rfl ?_
  obtain ⟨hg2, h⟩ := grd_Ie h
  refine oP (P_add (a := s_0_At) (b := (1 : Int)) rfl rfl hg2) rfl <| oP (P_nilCheck rfl) rfl <| oP (P_fieldAddr rfl ⟨_, _, _, Try.runUnderlying58, rfl, rfl, Try.sizeOf3, rfl⟩) rfl <| oO <| O_store rfl rfl foc0 rfl rfl Try.sizeOf3 <| nT <| CJ_seq <| AJ_startH 0 (by kernel_rfl) rfl <| aN 0 1 rfl rfl (P_move rfl) rfl <| aN 1 3 rfl rfl (P_nilCheck rfl) rfl <| aN 2 7 rfl rfl (P_fieldAddr rfl ⟨_, _, _, Try.runUnderlying58, rfl, rfl, Try.sizeOf22, rfl⟩) rfl <| aV 3 15 rfl rfl (GY_none rfl) eR (V_load rfl foc0 rfl Try.isAgg22) rfl <| aN 4 31 rfl rfl (P_move rfl) rfl <| aN 5 63 rfl rfl (P_nilCheck rfl) rfl <| aN 6 127 rfl rfl (P_fieldAddr rfl ⟨_, _, _, Try.runUnderlying58, rfl, rfl, Try.sizeOf3, rfl⟩) rfl <| aV 7 255 rfl rfl (GY_none rfl) eR (V_load rfl foc0 rfl Try.isAgg3) rfl ?_
  obtain ⟨hg3, h⟩ := grd_Ie h
  refine aN 8 511 rfl rfl (P_sub (a := (s_0_At + (1 : Int))) (b := (1 : Int)) rfl rfl hg3) rfl ?_
  obtain ⟨hg4, h⟩ := grd_de h
  refine aV 9 1023 rfl rfl (GY_none rfl) eR (V_index (i := (((s_0_At + (1 : Int)) - (1 : Int))).toNat) rfl rfl (Int.toNat_of_nonneg (hg4.1)).symm (by omega) foc1 rs_0_L Try.runUnderlying22 Try.sizeOf3) rfl <| aV 10 2047 rfl rfl (GY_none rfl) eR (V_loadE rfl rfl (by omega) foc1 rs_0_L rfl rfl Try.isAgg3) rfl <| aN 11 4095 rfl rfl (P_assign rfl) rfl <| aD <| CJ_ret ?_
  cases h
  exact fE (res1 Try.results39 rfl) () eR
def volumegroupmake_Src_N (s_0_L : List Int) (s_0_At : Int) (n_1 : Int) : Option (Int × Int) :=
  if (n_1 < (1 : Int)) then
    some (((0 : Int), s_0_At))
  else
    Option.bind (volumegroupmake_Src_Raw s_0_L s_0_At) fun r2 =>
    if ((r2.1.tmod n_1) < (0 : Int)) then
      grd (inI64 (((r2.1.tmod n_1) + n_1))) <|
      some ((((r2.1.tmod n_1) + n_1), r2.2))
    else
      some (((r2.1.tmod n_1), r2.2))
theorem L_volumegroupmake_Src_N {W : World} {bs_0 : Nat} {As_0_L : HP} {vs_0_L : Value} {s_0_L : List Int} {s_0_At : Int} {n_1 : Int} {r : Int × Int} (rs_0_L : Reads As_0_L tyI vs_0_L s_0_L) (h : volumegroupmake_Src_N s_0_L s_0_At n_1 = some r) :
    CSpec Try.prog W 12 [ptr bs_0 0, .int .i64 n_1] [blk bs_0 58 [vs_0_L, .int .i64 s_0_At], As_0_L] (fun x : Unit => .int .i64 r.1) (fun _ => True) (fun x F => blk bs_0 58 [vs_0_L, .int .i64 r.2] :: As_0_L :: F) := by
 refine CSpec.of_body Try.func12 rfl Try.ntmps12 rfl fun F => ?_
 show CJ _ _ _ _ _ _ (_ :: _ :: F)
 unfold volumegroupmake_Src_N at h
 refine CJ_pure (len_of rs_0_L del1) fun hlen1 => sR <| oA rfl rfl <| nT <| CJ_seq <| sR <| oM rfl rfl <| oP (P_lss (a := n_1) (b := (1 : Int)) rfl rfl) rfl <| nT <| CJ_condP rfl bT_dec (fun hg1 => ?_) (fun hg1 => ?_)
 ·
  replace h := ite_t hg1 h
  refine sR <| oA rfl rfl <| nT <| CJ_ret <| QJ_then_ret ?_
  cases h
  exact fE (res1 Try.results12 rfl) () eR
 ·
  replace h := ite_f hg1 h
  refine kT <| sR <| oM rfl rfl ?_
  obtain ⟨r2, hr3, h⟩ := bind_e h
  refine oO <| O_call (L_volumegroupmake_Src_Raw rs_0_L hr3) rfl Try.call39 (Dels.cons del0 (Dels.cons del0 Dels.nil)) rfl fun _ _ => oM rfl rfl <| oP (P_remT (a := r2.1) (b := n_1) rfl rfl (by omega)) rfl <| oA rfl rfl <| nT <| CJ_seq <| sR <| oM rfl rfl <| oP (P_lss (a := (r2.1.tmod n_1)) (b := (0 : Int)) rfl rfl) rfl <| nT <| CJ_condP rfl bT_dec (fun hg2 => ?_) (fun hg2 => ?_)
  ·
   replace h := ite_t hg2 h
   refine CJ_region <| oM rfl rfl <| oM rfl rfl ?_
   obtain ⟨hg3, h⟩ := grd_Ie h
   refine oP (P_add (a := (r2.1.tmod n_1)) (b := n_1) rfl rfl hg3) rfl <| oA rfl rfl <| nT <| sR <| oM rfl rfl <| oA rfl rfl <| nT <| CJ_ret ?_
   cases h
   exact fE (res1 Try.results12 rfl) () eR
  ·
   replace h := ite_f hg2 h
   refine kT <| sR <| oM rfl rfl <| oA rfl rfl <| nT <| CJ_ret ?_
   cases h
   exact fE (res1 Try.results12 rfl) () eR
def volumegroupmake_Src_Range (s_0_L : List Int) (s_0_At : Int) (low : Int) (high : Int) : Option (Int × Int) :=
  grd (inI64 (high - low)) <|
  grd (inI64 (((high - low) + (1 : Int)))) <|
  Option.bind (volumegroupmake_Src_N s_0_L s_0_At (((high - low) + (1 : Int)))) fun r2 =>
  grd (inI64 (low + r2.1)) <|
  some (((low + r2.1), r2.2))
theorem L_volumegroupmake_Src_Range {W : World} {bs_0 : Nat} {As_0_L : HP} {vs_0_L : Value} {s_0_L : List Int} {s_0_At : Int} {low : Int} {high : Int} {r : Int × Int} (rs_0_L : Reads As_0_L tyI vs_0_L s_0_L) (h : volumegroupmake_Src_Range s_0_L s_0_At low high = some r) :
    CSpec Try.prog W 13 [ptr bs_0 0, .int .i64 low, .int .i64 high] [blk bs_0 58 [vs_0_L, .int .i64 s_0_At], As_0_L] (fun x : Unit => .int .i64 r.1) (fun _ => True) (fun x F => blk bs_0 58 [vs_0_L, .int .i64 r.2] :: As_0_L :: F) := by
 refine CSpec.of_body Try.func13 rfl Try.ntmps13 rfl fun F => ?_
 show CJ _ _ _ _ _ _ (_ :: _ :: F)
 unfold volumegroupmake_Src_Range at h
 refine CJ_pure (len_of rs_0_L del1) fun hlen1 => sR <| oA rfl rfl <| nT <| sR <| oM rfl rfl <| oM rfl rfl <| oM rfl rfl <| oM rfl rfl ?_
 obtain ⟨hg1, h⟩ := grd_Ie h
 refine oP (P_sub (a := high) (b := low) rfl rfl hg1) rfl ?_
 obtain ⟨hg2, h⟩ := grd_Ie h
 refine oP (P_add (a := (high - low)) (b := (1 : Int)) rfl rfl hg2) rfl ?_
 obtain ⟨r2, hr3, h⟩ := bind_e h
 refine oO <| O_call (L_volumegroupmake_Src_N rs_0_L hr3) rfl Try.call12 (Dels.cons del0 (Dels.cons del0 Dels.nil)) rfl fun _ _ => ?_
 obtain ⟨hg3, h⟩ := grd_Ie h
 refine oP (P_add (a := low) (b := r2.1) rfl rfl hg3) rfl <| oA rfl rfl <| nT <| CJ_ret ?_
 cases h
 exact fE (res1 Try.results13 rfl) () eR
def volumegrouplaw23_MapperOnce_l1_b (r2 : (List Int) × Nat) (rec : Int → Md → (List UInt64) → Int → Nat → Option ((Nat × Int × (List UInt64) × Md) ⊕ Bool)) (x32 : Int) (x33 : Md) (x34 : List UInt64) (x35 : Int) (x36 : Nat) : Option ((Nat × Int × (List UInt64) × Md) ⊕ Bool) :=
  if ((0 : Int) < x35) then
    Option.bind (volumegroupmake_Src_N r2.1 x32 (6 : Int)) fun r38 =>
    Option.bind (volumegroupmake_Src_Range r2.1 r38.2 (1 : Int) (1000 : Int)) fun r40 =>
    grd (decide (x33.cl < 4000 ∧ inT ((⟨(2 : Int), r38.1, (to_u64 r40.1)⟩ : api_Task)))) <|
    lt ((Md.doA x33 (ByteArray.mk #[104, 105, 103, 104]) ((⟨(2 : Int), r38.1, (to_u64 r40.1)⟩ : api_Task)))) fun w42 =>
    lt ((Md.doE x33 (ByteArray.mk #[104, 105, 103, 104]) ((⟨(2 : Int), r38.1, (to_u64 r40.1)⟩ : api_Task)))) fun w43 =>
    grd (inN64 (x36 + 1)) <|
    if (((w43 ≠ (0 : Int)) ∨ w42.Done = true) ∨ (w42.Ticket ≠ (((x36 + 1) : Nat) : Int))) then
      some (.inr false)
    else
      grd (decide (0 ≤ r38.1 ∧ r38.1 < (6 : Int))) <|
      grd (inI64 ((x35 - (1 : Int)))) <|
      rec r40.2 ((Md.tick (Md.doS x33 (ByteArray.mk #[104, 105, 103, 104]) ((⟨(2 : Int), r38.1, (to_u64 r40.1)⟩ : api_Task))))) ((x34.set ((r38.1).toNat) (to_u64 r40.1))) ((x35 - (1 : Int))) (x36 + 1)
  else
    some (.inl (x36, x32, x34, x33))
def volumegrouplaw23_MapperOnce_l1 (r2 : (List Int) × Nat) : Nat → Int → Md → (List UInt64) → Int → Nat → Option ((Nat × Int × (List UInt64) × Md) ⊕ Bool)
  | 0, _, _, _, _, _ => none
  | n + 1, x32, x33, x34, x35, x36 => volumegrouplaw23_MapperOnce_l1_b r2 (volumegrouplaw23_MapperOnce_l1 r2 n) x32 x33 x34 x35 x36
def volumegrouplaw23_MapperOnce_l4_b (a31 : Nat × Int × (List UInt64) × Md) (a66 : (List ByteArray)) (x76 : Md) (x78 : Nat) (rec : (List Int) → Nat → Option (((List Int)) ⊕ (((List Int) × Md) ⊕ Bool))) (x88 : List Int) (x89 : Nat) : Option (((List Int)) ⊕ (((List Int) × Md) ⊕ Bool)) :=
  lt (((Md.told ((Md.tick (Md.rsS x76 (a66.getD x78 ByteArray.empty)))))).length) fun w91 =>
  if (((x89 : Nat) : Int) < ((w91 : Nat) : Int)) then
    lt (((((Md.told ((Md.tick (Md.rsS x76 (a66.getD x78 ByteArray.empty)))))).getD x89 (⟨false, 0, 0, 0⟩ : api_Answer))).Ticket) fun w92 =>
    if ((((w92 < (1 : Int)) ∨ (((a31.1 : Nat) : Int) < ((((Md.told ((Md.tick (Md.rsS x76 (a66.getD x78 ByteArray.empty)))))).getD x89 (⟨false, 0, 0, 0⟩ : api_Answer))).Ticket)) ∨ (¬ ((((Md.told ((Md.tick (Md.rsS x76 (a66.getD x78 ByteArray.empty)))))).getD x89 (⟨false, 0, 0, 0⟩ : api_Answer))).Done = true)) ∨ (((((Md.told ((Md.tick (Md.rsS x76 (a66.getD x78 ByteArray.empty)))))).getD x89 (⟨false, 0, 0, 0⟩ : api_Answer))).Error ≠ (0 : Int))) then
      some (.inr (.inr false))
    else
      lt (((((Md.told ((Md.tick (Md.rsS x76 (a66.getD x78 ByteArray.empty)))))).getD x89 (⟨false, 0, 0, 0⟩ : api_Answer))).Ticket) fun w131 =>
      grd (decide (0 ≤ w131 ∧ w131 < (x88.length : Int))) <|
      grd (inI64 (((x88.getD ((w131).toNat) 0) + (1 : Int)))) <|
      grd (decide (0 ≤ w131 ∧ w131 < (x88.length : Int))) <|
      rec ((x88.set ((w131).toNat) (((x88.getD ((w131).toNat) 0) + (1 : Int))))) (x89 + 1)
  else
    some (.inl x88)
def volumegrouplaw23_MapperOnce_l4 (a31 : Nat × Int × (List UInt64) × Md) (a66 : (List ByteArray)) (x76 : Md) (x78 : Nat) : Nat → (List Int) → Nat → Option (((List Int)) ⊕ (((List Int) × Md) ⊕ Bool))
  | 0, _, _ => none
  | n + 1, x88, x89 => volumegrouplaw23_MapperOnce_l4_b a31 a66 x76 x78 (volumegrouplaw23_MapperOnce_l4 a31 a66 x76 x78 n) x88 x89
def volumegrouplaw23_MapperOnce_l3_b (a31 : Nat × Int × (List UInt64) × Md) (a66 : (List ByteArray)) (rec : Md → (List Int) → Nat → Option (((List Int) × Md) ⊕ Bool)) (x76 : Md) (x77 : List Int) (x78 : Nat) : Option (((List Int) × Md) ⊕ Bool) :=
  if (((x78 : Nat) : Int) < (2 : Int)) then
    grd (decide (x78 < a66.length)) <|
    grd (decide (x76.cl < 4000)) <|
    if ((Md.rsE x76 (a66.getD x78 ByteArray.empty)) ≠ (0 : Int)) then
      some (.inr false)
    else
      grd (decide (((Md.tick (Md.rsS x76 (a66.getD x78 ByteArray.empty)))).cl < 4000)) <|
      seqO (volumegrouplaw23_MapperOnce_l4 a31 a66 x76 x78 FUEL x77 0) fun a87 =>
      rec ((Md.tick (Md.anS ((Md.tick (Md.rsS x76 (a66.getD x78 ByteArray.empty))))))) a87 (x78 + 1)
  else
    some (.inl (x77, x76))
def volumegrouplaw23_MapperOnce_l3 (a31 : Nat × Int × (List UInt64) × Md) (a66 : (List ByteArray)) : Nat → Md → (List Int) → Nat → Option (((List Int) × Md) ⊕ Bool)
  | 0, _, _, _ => none
  | n + 1, x76, x77, x78 => volumegrouplaw23_MapperOnce_l3_b a31 a66 (volumegrouplaw23_MapperOnce_l3 a31 a66 n) x76 x77 x78
def volumegrouplaw23_MapperOnce_l5_b (a31 : Nat × Int × (List UInt64) × Md) (a75 : (List Int) × Md) (rec : Nat → Option ((Unit) ⊕ Bool)) (x139 : Nat) : Option ((Unit) ⊕ Bool) :=
  if (((x139 : Nat) : Int) ≤ ((a31.1 : Nat) : Int)) then
    grd (decide (x139 < a75.1.length)) <|
    if ((a75.1.getD x139 0) ≠ (1 : Int)) then
      some (.inr false)
    else
      grd (inN64 (x139 + 1)) <|
      rec (x139 + 1)
  else
    some (.inl ())
def volumegrouplaw23_MapperOnce_l5 (a31 : Nat × Int × (List UInt64) × Md) (a75 : (List Int) × Md) : Nat → Nat → Option ((Unit) ⊕ Bool)
  | 0, _ => none
  | n + 1, x139 => volumegrouplaw23_MapperOnce_l5_b a31 a75 (volumegrouplaw23_MapperOnce_l5 a31 a75 n) x139
def volumegrouplaw23_MapperOnce_l6_b (a31 : Nat × Int × (List UInt64) × Md) (rec : Md → Nat → Option ((Md) ⊕ Bool)) (x146 : Md) (x147 : Nat) : Option ((Md) ⊕ Bool) :=
  if (((x147 : Nat) : Int) < (6 : Int)) then
    grd (decide (x146.cl < 4000 ∧ inT ((⟨(1 : Int), ((x147 : Nat) : Int), (0 : UInt64)⟩ : api_Task)))) <|
    lt ((Md.doA x146 (ByteArray.mk #[104, 105, 103, 104]) ((⟨(1 : Int), ((x147 : Nat) : Int), (0 : UInt64)⟩ : api_Task)))) fun w148 =>
    lt ((Md.doE x146 (ByteArray.mk #[104, 105, 103, 104]) ((⟨(1 : Int), ((x147 : Nat) : Int), (0 : UInt64)⟩ : api_Task)))) fun w149 =>
    if (w149 ≠ (0 : Int)) then
      some (.inr false)
    else
      if (¬ w148.Done = true) then
        some (.inr false)
      else
        if (w148.Error ≠ (0 : Int)) then
          some (.inr false)
        else
          if (w148.Value ≠ (a31.2.2.1.getD x147 0)) then
            some (.inr false)
          else
            rec ((Md.tick (Md.doS x146 (ByteArray.mk #[104, 105, 103, 104]) ((⟨(1 : Int), ((x147 : Nat) : Int), (0 : UInt64)⟩ : api_Task))))) (x147 + 1)
  else
    some (.inl x146)
def volumegrouplaw23_MapperOnce_l6 (a31 : Nat × Int × (List UInt64) × Md) : Nat → Md → Nat → Option ((Md) ⊕ Bool)
  | 0, _, _ => none
  | n + 1, x146, x147 => volumegrouplaw23_MapperOnce_l6_b a31 (volumegrouplaw23_MapperOnce_l6 a31 n) x146 x147
def volumegrouplaw23_MapperOnce (l : List Int) (second : Bool) : Option (Bool) :=
  Option.bind (volumegroupmake_New l) fun r2 =>
  grd (decide (Mb2.cl < 4000)) <|
  if ((Md.crE Mb2 (ByteArray.mk #[108, 111, 119])) ≠ (0 : Int)) then
    some false
  else
    grd (decide (((Md.tick (Md.crS Mb2 (ByteArray.mk #[108, 111, 119])))).cl < 4000)) <|
    lt ((Md.crE ((Md.tick (Md.crS Mb2 (ByteArray.mk #[108, 111, 119])))) (ByteArray.mk #[104, 105, 103, 104]))) fun w10 =>
    if (w10 ≠ (0 : Int)) then
      some false
    else
      grd (decide (((Md.tick (Md.crS ((Md.tick (Md.crS Mb2 (ByteArray.mk #[108, 111, 119])))) (ByteArray.mk #[104, 105, 103, 104])))).cl < 4000 ∧ ([(⟨(0 : Int), (6 : Int), (ByteArray.mk #[100, 105, 115, 107, 48]), (2 : Int), false⟩ : api_Target)]).length ≤ 100000000)) <|
      lt ((Md.ldE ((Md.tick (Md.crS ((Md.tick (Md.crS Mb2 (ByteArray.mk #[108, 111, 119])))) (ByteArray.mk #[104, 105, 103, 104])))) (ByteArray.mk #[108, 111, 119]) ([(⟨(0 : Int), (6 : Int), (ByteArray.mk #[100, 105, 115, 107, 48]), (2 : Int), false⟩ : api_Target)]))) fun w12 =>
      if (w12 ≠ (0 : Int)) then
        some false
      else
        grd (decide (((Md.tick (Md.ldS ((Md.tick (Md.crS ((Md.tick (Md.crS Mb2 (ByteArray.mk #[108, 111, 119])))) (ByteArray.mk #[104, 105, 103, 104])))) (ByteArray.mk #[108, 111, 119]) ([(⟨(0 : Int), (6 : Int), (ByteArray.mk #[100, 105, 115, 107, 48]), (2 : Int), false⟩ : api_Target)])))).cl < 4000)) <|
        lt ((Md.suE ((Md.tick (Md.ldS ((Md.tick (Md.crS ((Md.tick (Md.crS Mb2 (ByteArray.mk #[108, 111, 119])))) (ByteArray.mk #[104, 105, 103, 104])))) (ByteArray.mk #[108, 111, 119]) ([(⟨(0 : Int), (6 : Int), (ByteArray.mk #[100, 105, 115, 107, 48]), (2 : Int), false⟩ : api_Target)])))) (ByteArray.mk #[108, 111, 119]))) fun w13 =>
        if (w13 ≠ (0 : Int)) then
          some false
        else
          grd (decide (((Md.tick (Md.suS ((Md.tick (Md.ldS ((Md.tick (Md.crS ((Md.tick (Md.crS Mb2 (ByteArray.mk #[108, 111, 119])))) (ByteArray.mk #[104, 105, 103, 104])))) (ByteArray.mk #[108, 111, 119]) ([(⟨(0 : Int), (6 : Int), (ByteArray.mk #[100, 105, 115, 107, 48]), (2 : Int), false⟩ : api_Target)])))) (ByteArray.mk #[108, 111, 119])))).cl < 4000)) <|
          lt ((Md.rsE ((Md.tick (Md.suS ((Md.tick (Md.ldS ((Md.tick (Md.crS ((Md.tick (Md.crS Mb2 (ByteArray.mk #[108, 111, 119])))) (ByteArray.mk #[104, 105, 103, 104])))) (ByteArray.mk #[108, 111, 119]) ([(⟨(0 : Int), (6 : Int), (ByteArray.mk #[100, 105, 115, 107, 48]), (2 : Int), false⟩ : api_Target)])))) (ByteArray.mk #[108, 111, 119])))) (ByteArray.mk #[108, 111, 119]))) fun w14 =>
          if (w14 ≠ (0 : Int)) then
            some false
          else
            grd (decide (((Md.tick (Md.rsS ((Md.tick (Md.suS ((Md.tick (Md.ldS ((Md.tick (Md.crS ((Md.tick (Md.crS Mb2 (ByteArray.mk #[108, 111, 119])))) (ByteArray.mk #[104, 105, 103, 104])))) (ByteArray.mk #[108, 111, 119]) ([(⟨(0 : Int), (6 : Int), (ByteArray.mk #[100, 105, 115, 107, 48]), (2 : Int), false⟩ : api_Target)])))) (ByteArray.mk #[108, 111, 119])))) (ByteArray.mk #[108, 111, 119])))).cl < 4000 ∧ ([(⟨(0 : Int), (3 : Int), (ByteArray.mk #[108, 111, 119]), (3 : Int), false⟩ : api_Target), (⟨(3 : Int), (3 : Int), (ByteArray.mk #[100, 105, 115, 107, 49]), (0 : Int), false⟩ : api_Target)]).length ≤ 100000000)) <|
            lt ((Md.ldE ((Md.tick (Md.rsS ((Md.tick (Md.suS ((Md.tick (Md.ldS ((Md.tick (Md.crS ((Md.tick (Md.crS Mb2 (ByteArray.mk #[108, 111, 119])))) (ByteArray.mk #[104, 105, 103, 104])))) (ByteArray.mk #[108, 111, 119]) ([(⟨(0 : Int), (6 : Int), (ByteArray.mk #[100, 105, 115, 107, 48]), (2 : Int), false⟩ : api_Target)])))) (ByteArray.mk #[108, 111, 119])))) (ByteArray.mk #[108, 111, 119])))) (ByteArray.mk #[104, 105, 103, 104]) ([(⟨(0 : Int), (3 : Int), (ByteArray.mk #[108, 111, 119]), (3 : Int), false⟩ : api_Target), (⟨(3 : Int), (3 : Int), (ByteArray.mk #[100, 105, 115, 107, 49]), (0 : Int), false⟩ : api_Target)]))) fun w16 =>
            if (w16 ≠ (0 : Int)) then
              some false
            else
              grd (decide (((Md.tick (Md.ldS ((Md.tick (Md.rsS ((Md.tick (Md.suS ((Md.tick (Md.ldS ((Md.tick (Md.crS ((Md.tick (Md.crS Mb2 (ByteArray.mk #[108, 111, 119])))) (ByteArray.mk #[104, 105, 103, 104])))) (ByteArray.mk #[108, 111, 119]) ([(⟨(0 : Int), (6 : Int), (ByteArray.mk #[100, 105, 115, 107, 48]), (2 : Int), false⟩ : api_Target)])))) (ByteArray.mk #[108, 111, 119])))) (ByteArray.mk #[108, 111, 119])))) (ByteArray.mk #[104, 105, 103, 104]) ([(⟨(0 : Int), (3 : Int), (ByteArray.mk #[108, 111, 119]), (3 : Int), false⟩ : api_Target), (⟨(3 : Int), (3 : Int), (ByteArray.mk #[100, 105, 115, 107, 49]), (0 : Int), false⟩ : api_Target)])))).cl < 4000)) <|
              lt ((Md.suE ((Md.tick (Md.ldS ((Md.tick (Md.rsS ((Md.tick (Md.suS ((Md.tick (Md.ldS ((Md.tick (Md.crS ((Md.tick (Md.crS Mb2 (ByteArray.mk #[108, 111, 119])))) (ByteArray.mk #[104, 105, 103, 104])))) (ByteArray.mk #[108, 111, 119]) ([(⟨(0 : Int), (6 : Int), (ByteArray.mk #[100, 105, 115, 107, 48]), (2 : Int), false⟩ : api_Target)])))) (ByteArray.mk #[108, 111, 119])))) (ByteArray.mk #[108, 111, 119])))) (ByteArray.mk #[104, 105, 103, 104]) ([(⟨(0 : Int), (3 : Int), (ByteArray.mk #[108, 111, 119]), (3 : Int), false⟩ : api_Target), (⟨(3 : Int), (3 : Int), (ByteArray.mk #[100, 105, 115, 107, 49]), (0 : Int), false⟩ : api_Target)])))) (ByteArray.mk #[104, 105, 103, 104]))) fun w17 =>
              if (w17 ≠ (0 : Int)) then
                some false
              else
                grd (decide (((Md.tick (Md.suS ((Md.tick (Md.ldS ((Md.tick (Md.rsS ((Md.tick (Md.suS ((Md.tick (Md.ldS ((Md.tick (Md.crS ((Md.tick (Md.crS Mb2 (ByteArray.mk #[108, 111, 119])))) (ByteArray.mk #[104, 105, 103, 104])))) (ByteArray.mk #[108, 111, 119]) ([(⟨(0 : Int), (6 : Int), (ByteArray.mk #[100, 105, 115, 107, 48]), (2 : Int), false⟩ : api_Target)])))) (ByteArray.mk #[108, 111, 119])))) (ByteArray.mk #[108, 111, 119])))) (ByteArray.mk #[104, 105, 103, 104]) ([(⟨(0 : Int), (3 : Int), (ByteArray.mk #[108, 111, 119]), (3 : Int), false⟩ : api_Target), (⟨(3 : Int), (3 : Int), (ByteArray.mk #[100, 105, 115, 107, 49]), (0 : Int), false⟩ : api_Target)])))) (ByteArray.mk #[104, 105, 103, 104])))).cl < 4000)) <|
                lt ((Md.rsE ((Md.tick (Md.suS ((Md.tick (Md.ldS ((Md.tick (Md.rsS ((Md.tick (Md.suS ((Md.tick (Md.ldS ((Md.tick (Md.crS ((Md.tick (Md.crS Mb2 (ByteArray.mk #[108, 111, 119])))) (ByteArray.mk #[104, 105, 103, 104])))) (ByteArray.mk #[108, 111, 119]) ([(⟨(0 : Int), (6 : Int), (ByteArray.mk #[100, 105, 115, 107, 48]), (2 : Int), false⟩ : api_Target)])))) (ByteArray.mk #[108, 111, 119])))) (ByteArray.mk #[108, 111, 119])))) (ByteArray.mk #[104, 105, 103, 104]) ([(⟨(0 : Int), (3 : Int), (ByteArray.mk #[108, 111, 119]), (3 : Int), false⟩ : api_Target), (⟨(3 : Int), (3 : Int), (ByteArray.mk #[100, 105, 115, 107, 49]), (0 : Int), false⟩ : api_Target)])))) (ByteArray.mk #[104, 105, 103, 104])))) (ByteArray.mk #[104, 105, 103, 104]))) fun w18 =>
                if (w18 ≠ (0 : Int)) then
                  some false
                else
                  grd (decide (((Md.tick (Md.rsS ((Md.tick (Md.suS ((Md.tick (Md.ldS ((Md.tick (Md.rsS ((Md.tick (Md.suS ((Md.tick (Md.ldS ((Md.tick (Md.crS ((Md.tick (Md.crS Mb2 (ByteArray.mk #[108, 111, 119])))) (ByteArray.mk #[104, 105, 103, 104])))) (ByteArray.mk #[108, 111, 119]) ([(⟨(0 : Int), (6 : Int), (ByteArray.mk #[100, 105, 115, 107, 48]), (2 : Int), false⟩ : api_Target)])))) (ByteArray.mk #[108, 111, 119])))) (ByteArray.mk #[108, 111, 119])))) (ByteArray.mk #[104, 105, 103, 104]) ([(⟨(0 : Int), (3 : Int), (ByteArray.mk #[108, 111, 119]), (3 : Int), false⟩ : api_Target), (⟨(3 : Int), (3 : Int), (ByteArray.mk #[100, 105, 115, 107, 49]), (0 : Int), false⟩ : api_Target)])))) (ByteArray.mk #[104, 105, 103, 104])))) (ByteArray.mk #[104, 105, 103, 104])))).cl < 4000)) <|
                  lt ((Md.suE ((Md.tick (Md.rsS ((Md.tick (Md.suS ((Md.tick (Md.ldS ((Md.tick (Md.rsS ((Md.tick (Md.suS ((Md.tick (Md.ldS ((Md.tick (Md.crS ((Md.tick (Md.crS Mb2 (ByteArray.mk #[108, 111, 119])))) (ByteArray.mk #[104, 105, 103, 104])))) (ByteArray.mk #[108, 111, 119]) ([(⟨(0 : Int), (6 : Int), (ByteArray.mk #[100, 105, 115, 107, 48]), (2 : Int), false⟩ : api_Target)])))) (ByteArray.mk #[108, 111, 119])))) (ByteArray.mk #[108, 111, 119])))) (ByteArray.mk #[104, 105, 103, 104]) ([(⟨(0 : Int), (3 : Int), (ByteArray.mk #[108, 111, 119]), (3 : Int), false⟩ : api_Target), (⟨(3 : Int), (3 : Int), (ByteArray.mk #[100, 105, 115, 107, 49]), (0 : Int), false⟩ : api_Target)])))) (ByteArray.mk #[104, 105, 103, 104])))) (ByteArray.mk #[104, 105, 103, 104])))) (ByteArray.mk #[104, 105, 103, 104]))) fun w19 =>
                  if (w19 ≠ (0 : Int)) then
                    some false
                  else
                    grd (decide (((Md.tick (Md.suS ((Md.tick (Md.rsS ((Md.tick (Md.suS ((Md.tick (Md.ldS ((Md.tick (Md.rsS ((Md.tick (Md.suS ((Md.tick (Md.ldS ((Md.tick (Md.crS ((Md.tick (Md.crS Mb2 (ByteArray.mk #[108, 111, 119])))) (ByteArray.mk #[104, 105, 103, 104])))) (ByteArray.mk #[108, 111, 119]) ([(⟨(0 : Int), (6 : Int), (ByteArray.mk #[100, 105, 115, 107, 48]), (2 : Int), false⟩ : api_Target)])))) (ByteArray.mk #[108, 111, 119])))) (ByteArray.mk #[108, 111, 119])))) (ByteArray.mk #[104, 105, 103, 104]) ([(⟨(0 : Int), (3 : Int), (ByteArray.mk #[108, 111, 119]), (3 : Int), false⟩ : api_Target), (⟨(3 : Int), (3 : Int), (ByteArray.mk #[100, 105, 115, 107, 49]), (0 : Int), false⟩ : api_Target)])))) (ByteArray.mk #[104, 105, 103, 104])))) (ByteArray.mk #[104, 105, 103, 104])))) (ByteArray.mk #[104, 105, 103, 104])))).cl < 4000)) <|
                    lt ((Md.suE ((Md.tick (Md.suS ((Md.tick (Md.rsS ((Md.tick (Md.suS ((Md.tick (Md.ldS ((Md.tick (Md.rsS ((Md.tick (Md.suS ((Md.tick (Md.ldS ((Md.tick (Md.crS ((Md.tick (Md.crS Mb2 (ByteArray.mk #[108, 111, 119])))) (ByteArray.mk #[104, 105, 103, 104])))) (ByteArray.mk #[108, 111, 119]) ([(⟨(0 : Int), (6 : Int), (ByteArray.mk #[100, 105, 115, 107, 48]), (2 : Int), false⟩ : api_Target)])))) (ByteArray.mk #[108, 111, 119])))) (ByteArray.mk #[108, 111, 119])))) (ByteArray.mk #[104, 105, 103, 104]) ([(⟨(0 : Int), (3 : Int), (ByteArray.mk #[108, 111, 119]), (3 : Int), false⟩ : api_Target), (⟨(3 : Int), (3 : Int), (ByteArray.mk #[100, 105, 115, 107, 49]), (0 : Int), false⟩ : api_Target)])))) (ByteArray.mk #[104, 105, 103, 104])))) (ByteArray.mk #[104, 105, 103, 104])))) (ByteArray.mk #[104, 105, 103, 104])))) (ByteArray.mk #[108, 111, 119]))) fun w20 =>
                    if (w20 ≠ (0 : Int)) then
                      some false
                    else
                      Option.bind (volumegroupmake_Src_N r2.1 (((r2.2 : Nat) : Int)) (20 : Int)) fun r22 =>
                      seqO (volumegrouplaw23_MapperOnce_l1 r2 FUEL r22.2 ((Md.tick (Md.suS ((Md.tick (Md.suS ((Md.tick (Md.rsS ((Md.tick (Md.suS ((Md.tick (Md.ldS ((Md.tick (Md.rsS ((Md.tick (Md.suS ((Md.tick (Md.ldS ((Md.tick (Md.crS ((Md.tick (Md.crS Mb2 (ByteArray.mk #[108, 111, 119])))) (ByteArray.mk #[104, 105, 103, 104])))) (ByteArray.mk #[108, 111, 119]) ([(⟨(0 : Int), (6 : Int), (ByteArray.mk #[100, 105, 115, 107, 48]), (2 : Int), false⟩ : api_Target)])))) (ByteArray.mk #[108, 111, 119])))) (ByteArray.mk #[108, 111, 119])))) (ByteArray.mk #[104, 105, 103, 104]) ([(⟨(0 : Int), (3 : Int), (ByteArray.mk #[108, 111, 119]), (3 : Int), false⟩ : api_Target), (⟨(3 : Int), (3 : Int), (ByteArray.mk #[100, 105, 115, 107, 49]), (0 : Int), false⟩ : api_Target)])))) (ByteArray.mk #[104, 105, 103, 104])))) (ByteArray.mk #[104, 105, 103, 104])))) (ByteArray.mk #[104, 105, 103, 104])))) (ByteArray.mk #[108, 111, 119])))) (List.replicate 6 0) r22.1 0) fun a31 =>
                      Option.bind ((
                        if second = true then
                          some ([(ByteArray.mk #[108, 111, 119]), (ByteArray.mk #[104, 105, 103, 104])])
                        else
                          some ([(ByteArray.mk #[104, 105, 103, 104]), (ByteArray.mk #[108, 111, 119])]) : Option ((List ByteArray)))) fun a66 =>
                      grd (inN64 (a31.1 + 1)) <|
                      grd (inLen (a31.1 + 1)) <|
                      seqO (volumegrouplaw23_MapperOnce_l3 a31 a66 FUEL a31.2.2.2 ((List.replicate (a31.1 + 1) (0 : Int))) 0) fun a75 =>
                      seqO (volumegrouplaw23_MapperOnce_l5 a31 a75 FUEL 1) fun a138 =>
                      seqO (volumegrouplaw23_MapperOnce_l6 a31 FUEL a75.2 0) fun a145 =>
                      grd (decide (a145.cl < 4000)) <|
                      if ((((Md.told a145).length : Nat) : Int) = (0 : Int)) then
                        Option.bind (volumegrouplaw23_awake) fun r156 =>
                        some r156
                      else
                        some false
theorem L_volumegrouplaw23_MapperOnce {W : World} {Al : HP} {vl : Value} {l : List Int} {second : Bool} {r : Bool} (rl : Reads Al tyI vl l) (h : volumegrouplaw23_MapperOnce l second = some r) :
    CSpec Try.prog W 3 [vl, .bool second] [Al] (fun x : Unit => .bool r) (fun _ => True) (fun x F => Al :: F) := by
 refine CSpec.of_body Try.func3 rfl Try.ntmps3 rfl fun F => ?_
 show CJ _ _ _ _ _ _ (_ :: F)
 unfold volumegrouplaw23_MapperOnce at h
 refine CJ_pure (len_of rl del0) fun hlen1 => sR <| oA rfl rfl <| nT <| sR <| oM rfl rfl ?_
 obtain ⟨r2, hr3, h⟩ := bind_e h
 refine oO <| O_call (L_volumegroupmake_New rl hr3) rfl Try.call6 (Dels.cons del0 Dels.nil) rfl fun X4 _ => RJ_ent (t2_ eR) <| RJ_pur fun hpur_q6 => oA rfl rfl <| nT <| sR <| oO <| O_call (c_begun) rfl Try.call7 Dels.nil rfl fun X7 _ => oM rfl rfl <| oP (P_extract rfl rfl) rfl <| oP (P_extract rfl rfl) rfl <| oA rfl rfl <| oA rfl rfl <| nT <| CJ_seq <| sR <| oM rfl rfl <| oP (P_eqlPN rfl rfl Try.underlying25) rfl <| oM rfl rfl <| gP (GY_yes rfl rfl rfl rfl) (P_move rfl) rfl ?_
 obtain ⟨hg1, h⟩ := grd_de h
 refine RJ_gy (GY_yes rfl rfl rfl rfl) <| O_call (c_CreateP hg1) rfl Try.call8 (Dels.cons del0 Dels.nil) rfl fun _ _ => gP (GY_yes rfl rfl rfl rfl) (P_neq (a := (Md.crE Mb2 (ByteArray.mk #[108, 111, 119]))) (b := (0 : Int)) rfl rfl) rfl <| oP (P_pickF rfl rfl rfl) rfl <| oM rfl rfl <| RJ_splitP 37 rfl bT_dec (fun hg2B hg2 => ?_) (fun hg2B hg2 => ?_)
 ·
  replace h := ite_t hg2 h
  refine RJ_gn (GY_no rfl rfl rfl hg2B) rfl rfl <| RJ_gn (GY_no rfl rfl rfl hg2B) rfl rfl <| RJ_gn (GY_no rfl rfl rfl hg2B) rfl rfl <| oP (P_pickT rfl hg2B rfl) rfl <| oM rfl rfl <| RJ_gn (GY_no rfl rfl rfl rfl) rfl rfl <| RJ_gn (GY_no rfl rfl rfl rfl) rfl rfl <| RJ_gn (GY_no rfl rfl rfl rfl) rfl rfl <| RJ_gn (GY_no rfl rfl rfl rfl) rfl rfl <| RJ_gn (GY_no rfl rfl rfl rfl) rfl rfl <| oP (P_pickT rfl rfl rfl) rfl <| oM rfl rfl <| RJ_gn (GY_no rfl rfl rfl rfl) rfl rfl <| RJ_gn (GY_no rfl rfl rfl rfl) rfl rfl <| RJ_gn (GY_no rfl rfl rfl rfl) rfl rfl <| oP (P_pickT rfl rfl rfl) rfl <| oM rfl rfl <| RJ_gn (GY_no rfl rfl rfl rfl) rfl rfl <| RJ_gn (GY_no rfl rfl rfl rfl) rfl rfl <| RJ_gn (GY_no rfl rfl rfl rfl) rfl rfl <| oP (P_pickT rfl rfl rfl) rfl <| oM rfl rfl <| RJ_gn (GY_no rfl rfl rfl rfl) rfl rfl <| RJ_gn (GY_no rfl rfl rfl rfl) rfl rfl <| RJ_gn (GY_no rfl rfl rfl rfl) rfl rfl <| RJ_gn (GY_no rfl rfl rfl rfl) rfl rfl <| RJ_gn (GY_no rfl rfl rfl rfl) rfl rfl <| RJ_gn (GY_no rfl rfl rfl rfl) rfl rfl <| oP (P_pickT rfl rfl rfl) rfl <| oM rfl rfl <| RJ_gn (GY_no rfl rfl rfl rfl) rfl rfl <| RJ_gn (GY_no rfl rfl rfl rfl) rfl rfl <| RJ_gn (GY_no rfl rfl rfl rfl) rfl rfl <| oP (P_pickT rfl rfl rfl) rfl <| oM rfl rfl <| RJ_gn (GY_no rfl rfl rfl rfl) rfl rfl <| RJ_gn (GY_no rfl rfl rfl rfl) rfl rfl <| RJ_gn (GY_no rfl rfl rfl rfl) rfl rfl <| oP (P_pickT rfl rfl rfl) rfl <| nT <| CJ_condT rfl rfl <| sR <| oA rfl rfl <| nT <| CJ_ret <| QJ_then_ret ?_
  cases h
  exact fE (res1 Try.results3 rfl) () (t2_ (eD (eD (eD eR))))
 ·
  replace h := ite_f hg2 h
  refine gP (GY_yes rfl rfl rfl hg2B) (P_move rfl) rfl ?_
  obtain ⟨hg3, h⟩ := grd_de h
  refine RJ_gy (GY_yes rfl rfl rfl hg2B) <| O_call (c_CreateP hg3) rfl Try.call8 (Dels.cons del0 Dels.nil) rfl fun _ _ => ?_
  obtain ⟨w10, hw10, h⟩ := lt_e h
  rw [← hw10]
  refine gP (GY_yes rfl rfl rfl hg2B) (P_neq (a := w10) (b := (0 : Int)) rfl rfl) rfl <| oP (P_pickF rfl hg2B rfl) rfl <| oM rfl rfl <| RJ_splitP 42 rfl bT_dec (fun hg4B hg4 => ?_) (fun hg4B hg4 => ?_)
  ·
   replace h := ite_t hg4 h
   refine RJ_gn (GY_no rfl rfl rfl hg4B) rfl rfl <| RJ_gn (GY_no rfl rfl rfl hg4B) rfl rfl <| RJ_gn (GY_no rfl rfl rfl hg4B) rfl rfl <| RJ_gn (GY_no rfl rfl rfl hg4B) rfl rfl <| RJ_gn (GY_no rfl rfl rfl hg4B) rfl rfl <| oP (P_pickT rfl hg4B rfl) rfl <| oM rfl rfl <| RJ_gn (GY_no rfl rfl rfl rfl) rfl rfl <| RJ_gn (GY_no rfl rfl rfl rfl) rfl rfl <| RJ_gn (GY_no rfl rfl rfl rfl) rfl rfl <| oP (P_pickT rfl rfl rfl) rfl <| oM rfl rfl <| RJ_gn (GY_no rfl rfl rfl rfl) rfl rfl <| RJ_gn (GY_no rfl rfl rfl rfl) rfl rfl <| RJ_gn (GY_no rfl rfl rfl rfl) rfl rfl <| oP (P_pickT rfl rfl rfl) rfl <| oM rfl rfl <| RJ_gn (GY_no rfl rfl rfl rfl) rfl rfl <| RJ_gn (GY_no rfl rfl rfl rfl) rfl rfl <| RJ_gn (GY_no rfl rfl rfl rfl) rfl rfl <| RJ_gn (GY_no rfl rfl rfl rfl) rfl rfl <| RJ_gn (GY_no rfl rfl rfl rfl) rfl rfl <| RJ_gn (GY_no rfl rfl rfl rfl) rfl rfl <| oP (P_pickT rfl rfl rfl) rfl <| oM rfl rfl <| RJ_gn (GY_no rfl rfl rfl rfl) rfl rfl <| RJ_gn (GY_no rfl rfl rfl rfl) rfl rfl <| RJ_gn (GY_no rfl rfl rfl rfl) rfl rfl <| oP (P_pickT rfl rfl rfl) rfl <| oM rfl rfl <| RJ_gn (GY_no rfl rfl rfl rfl) rfl rfl <| RJ_gn (GY_no rfl rfl rfl rfl) rfl rfl <| RJ_gn (GY_no rfl rfl rfl rfl) rfl rfl <| oP (P_pickT rfl rfl rfl) rfl <| nT <| CJ_condT rfl rfl <| sR <| oA rfl rfl <| nT <| CJ_ret <| QJ_then_ret ?_
   cases h
   exact fE (res1 Try.results3 rfl) () (t2_ (eD (eD (eD eR))))
  ·
   replace h := ite_f hg4 h
   refine gP (GY_yes rfl rfl rfl hg4B) (P_move rfl) rfl <| gP (GY_yes rfl rfl rfl hg4B) (P_build rfl (bld_33_1_2_3 _ _ _)) rfl <| RJ_gy (GY_yes rfl rfl rfl hg4B) <| O_buildSlice rfl (bs_34_1_0 _ _ _ _ _) rfl fun b11 => RJ_ent (Ent.trans (t0_ eR) (sl_of_lit (t := tyapi_Target) (m := 1) [(⟨(0 : Int), (6 : Int), (ByteArray.mk #[100, 105, 115, 107, 48]), (2 : Int), false⟩ : api_Target)] rfl rfl rfl (by decide))) ?_
   obtain ⟨hg5, h⟩ := grd_de h
   refine RJ_gy (GY_yes rfl rfl rfl hg4B) <| O_call (c_LoadG (Reads.sl _ _ _) hg5 (v := ⟨_, _, _⟩)) rfl Try.call9 (Dels.cons del1 (Dels.cons del0 Dels.nil)) rfl fun _ _ => ?_
   obtain ⟨w12, hw12, h⟩ := lt_e h
   rw [← hw12]
   refine gP (GY_yes rfl rfl rfl hg4B) (P_neq (a := w12) (b := (0 : Int)) rfl rfl) rfl <| oP (P_pickF rfl hg4B rfl) rfl <| oM rfl rfl <| RJ_splitP 49 rfl bT_dec (fun hg6B hg6 => ?_) (fun hg6B hg6 => ?_)
   ·
    replace h := ite_t hg6 h
    refine RJ_gn (GY_no rfl rfl rfl hg6B) rfl rfl <| RJ_gn (GY_no rfl rfl rfl hg6B) rfl rfl <| RJ_gn (GY_no rfl rfl rfl hg6B) rfl rfl <| oP (P_pickT rfl hg6B rfl) rfl <| oM rfl rfl <| RJ_gn (GY_no rfl rfl rfl rfl) rfl rfl <| RJ_gn (GY_no rfl rfl rfl rfl) rfl rfl <| RJ_gn (GY_no rfl rfl rfl rfl) rfl rfl <| oP (P_pickT rfl rfl rfl) rfl <| oM rfl rfl <| RJ_gn (GY_no rfl rfl rfl rfl) rfl rfl <| RJ_gn (GY_no rfl rfl rfl rfl) rfl rfl <| RJ_gn (GY_no rfl rfl rfl rfl) rfl rfl <| RJ_gn (GY_no rfl rfl rfl rfl) rfl rfl <| RJ_gn (GY_no rfl rfl rfl rfl) rfl rfl <| RJ_gn (GY_no rfl rfl rfl rfl) rfl rfl <| oP (P_pickT rfl rfl rfl) rfl <| oM rfl rfl <| RJ_gn (GY_no rfl rfl rfl rfl) rfl rfl <| RJ_gn (GY_no rfl rfl rfl rfl) rfl rfl <| RJ_gn (GY_no rfl rfl rfl rfl) rfl rfl <| oP (P_pickT rfl rfl rfl) rfl <| oM rfl rfl <| RJ_gn (GY_no rfl rfl rfl rfl) rfl rfl <| RJ_gn (GY_no rfl rfl rfl rfl) rfl rfl <| RJ_gn (GY_no rfl rfl rfl rfl) rfl rfl <| oP (P_pickT rfl rfl rfl) rfl <| nT <| CJ_condT rfl rfl <| sR <| oA rfl rfl <| nT <| CJ_ret <| QJ_then_ret ?_
    cases h
    exact fE (res1 Try.results3 rfl) () (t3_ (eD (eD (eD (eD eR)))))
   ·
    replace h := ite_f hg6 h
    refine gP (GY_yes rfl rfl rfl hg6B) (P_move rfl) rfl ?_
    obtain ⟨hg7, h⟩ := grd_de h
    refine RJ_gy (GY_yes rfl rfl rfl hg6B) <| O_call (c_SuspendP hg7) rfl Try.call10 (Dels.cons del0 Dels.nil) rfl fun _ _ => ?_
    obtain ⟨w13, hw13, h⟩ := lt_e h
    rw [← hw13]
    refine gP (GY_yes rfl rfl rfl hg6B) (P_neq (a := w13) (b := (0 : Int)) rfl rfl) rfl <| oP (P_pickF rfl hg6B rfl) rfl <| oM rfl rfl <| RJ_splitP 54 rfl bT_dec (fun hg8B hg8 => ?_) (fun hg8B hg8 => ?_)
    ·
     replace h := ite_t hg8 h
     refine RJ_gn (GY_no rfl rfl rfl hg8B) rfl rfl <| RJ_gn (GY_no rfl rfl rfl hg8B) rfl rfl <| RJ_gn (GY_no rfl rfl rfl hg8B) rfl rfl <| oP (P_pickT rfl hg8B rfl) rfl <| oM rfl rfl <| RJ_gn (GY_no rfl rfl rfl rfl) rfl rfl <| RJ_gn (GY_no rfl rfl rfl rfl) rfl rfl <| RJ_gn (GY_no rfl rfl rfl rfl) rfl rfl <| RJ_gn (GY_no rfl rfl rfl rfl) rfl rfl <| RJ_gn (GY_no rfl rfl rfl rfl) rfl rfl <| RJ_gn (GY_no rfl rfl rfl rfl) rfl rfl <| oP (P_pickT rfl rfl rfl) rfl <| oM rfl rfl <| RJ_gn (GY_no rfl rfl rfl rfl) rfl rfl <| RJ_gn (GY_no rfl rfl rfl rfl) rfl rfl <| RJ_gn (GY_no rfl rfl rfl rfl) rfl rfl <| oP (P_pickT rfl rfl rfl) rfl <| oM rfl rfl <| RJ_gn (GY_no rfl rfl rfl rfl) rfl rfl <| RJ_gn (GY_no rfl rfl rfl rfl) rfl rfl <| RJ_gn (GY_no rfl rfl rfl rfl) rfl rfl <| oP (P_pickT rfl rfl rfl) rfl <| nT <| CJ_condT rfl rfl <| sR <| oA rfl rfl <| nT <| CJ_ret <| QJ_then_ret ?_
     cases h
     exact fE (res1 Try.results3 rfl) () (t3_ (eD (eD (eD (eD eR)))))
    ·
     replace h := ite_f hg8 h
     refine gP (GY_yes rfl rfl rfl hg8B) (P_move rfl) rfl ?_
     obtain ⟨hg9, h⟩ := grd_de h
     refine RJ_gy (GY_yes rfl rfl rfl hg8B) <| O_call (c_ResumeP hg9) rfl Try.call11 (Dels.cons del0 Dels.nil) rfl fun _ _ => ?_
     obtain ⟨w14, hw14, h⟩ := lt_e h
     rw [← hw14]
     refine gP (GY_yes rfl rfl rfl hg8B) (P_neq (a := w14) (b := (0 : Int)) rfl rfl) rfl <| oP (P_pickF rfl hg8B rfl) rfl <| oM rfl rfl <| RJ_splitP 59 rfl bT_dec (fun hg10B hg10 => ?_) (fun hg10B hg10 => ?_)
     ·
      replace h := ite_t hg10 h
      refine RJ_gn (GY_no rfl rfl rfl hg10B) rfl rfl <| RJ_gn (GY_no rfl rfl rfl hg10B) rfl rfl <| RJ_gn (GY_no rfl rfl rfl hg10B) rfl rfl <| RJ_gn (GY_no rfl rfl rfl hg10B) rfl rfl <| RJ_gn (GY_no rfl rfl rfl hg10B) rfl rfl <| RJ_gn (GY_no rfl rfl rfl hg10B) rfl rfl <| oP (P_pickT rfl hg10B rfl) rfl <| oM rfl rfl <| RJ_gn (GY_no rfl rfl rfl rfl) rfl rfl <| RJ_gn (GY_no rfl rfl rfl rfl) rfl rfl <| RJ_gn (GY_no rfl rfl rfl rfl) rfl rfl <| oP (P_pickT rfl rfl rfl) rfl <| oM rfl rfl <| RJ_gn (GY_no rfl rfl rfl rfl) rfl rfl <| RJ_gn (GY_no rfl rfl rfl rfl) rfl rfl <| RJ_gn (GY_no rfl rfl rfl rfl) rfl rfl <| oP (P_pickT rfl rfl rfl) rfl <| nT <| CJ_condT rfl rfl <| sR <| oA rfl rfl <| nT <| CJ_ret <| QJ_then_ret ?_
      cases h
      exact fE (res1 Try.results3 rfl) () (t3_ (eD (eD (eD (eD eR)))))
     ·
      replace h := ite_f hg10 h
      refine gP (GY_yes rfl rfl rfl hg10B) (P_move rfl) rfl <| gP (GY_yes rfl rfl rfl hg10B) (P_build rfl (bld_33_1_2_3 _ _ _)) rfl <| gP (GY_yes rfl rfl rfl hg10B) (P_build rfl (bld_33_0_1_2 _ _ _)) rfl <| RJ_gy (GY_yes rfl rfl rfl hg10B) <| O_buildSlice rfl (bs_34_2_0_1 _ _ _ _ _ _ _ _ _ _) rfl fun b15 => RJ_ent (Ent.trans (t0_ eR) (sl_of_lit (t := tyapi_Target) (m := 2) [(⟨(0 : Int), (3 : Int), (ByteArray.mk #[108, 111, 119]), (3 : Int), false⟩ : api_Target), (⟨(3 : Int), (3 : Int), (ByteArray.mk #[100, 105, 115, 107, 49]), (0 : Int), false⟩ : api_Target)] rfl rfl rfl (by decide))) ?_
      obtain ⟨hg11, h⟩ := grd_de h
      refine RJ_gy (GY_yes rfl rfl rfl hg10B) <| O_call (c_LoadG (Reads.sl _ _ _) hg11 (v := ⟨_, _, _⟩)) rfl Try.call9 (Dels.cons del1 (Dels.cons del0 Dels.nil)) rfl fun _ _ => ?_
      obtain ⟨w16, hw16, h⟩ := lt_e h
      rw [← hw16]
      refine gP (GY_yes rfl rfl rfl hg10B) (P_neq (a := w16) (b := (0 : Int)) rfl rfl) rfl <| oP (P_pickF rfl hg10B rfl) rfl <| oM rfl rfl <| RJ_splitP 67 rfl bT_dec (fun hg12B hg12 => ?_) (fun hg12B hg12 => ?_)
      ·
       replace h := ite_t hg12 h
       refine RJ_gn (GY_no rfl rfl rfl hg12B) rfl rfl <| RJ_gn (GY_no rfl rfl rfl hg12B) rfl rfl <| RJ_gn (GY_no rfl rfl rfl hg12B) rfl rfl <| oP (P_pickT rfl hg12B rfl) rfl <| oM rfl rfl <| RJ_gn (GY_no rfl rfl rfl rfl) rfl rfl <| RJ_gn (GY_no rfl rfl rfl rfl) rfl rfl <| RJ_gn (GY_no rfl rfl rfl rfl) rfl rfl <| oP (P_pickT rfl rfl rfl) rfl <| nT <| CJ_condT rfl rfl <| sR <| oA rfl rfl <| nT <| CJ_ret <| QJ_then_ret ?_
       cases h
       exact fE (res1 Try.results3 rfl) () (t4_ (eD (eD (eD (eD (eD eR))))))
      ·
       replace h := ite_f hg12 h
       refine gP (GY_yes rfl rfl rfl hg12B) (P_move rfl) rfl ?_
       obtain ⟨hg13, h⟩ := grd_de h
       refine RJ_gy (GY_yes rfl rfl rfl hg12B) <| O_call (c_SuspendP hg13) rfl Try.call10 (Dels.cons del0 Dels.nil) rfl fun _ _ => ?_
       obtain ⟨w17, hw17, h⟩ := lt_e h
       rw [← hw17]
       refine gP (GY_yes rfl rfl rfl hg12B) (P_neq (a := w17) (b := (0 : Int)) rfl rfl) rfl <| oP (P_pickF rfl hg12B rfl) rfl <| oM rfl rfl <| RJ_splitP 72 rfl bT_dec (fun hg14B hg14 => ?_) (fun hg14B hg14 => ?_)
       ·
        replace h := ite_t hg14 h
        refine RJ_gn (GY_no rfl rfl rfl hg14B) rfl rfl <| RJ_gn (GY_no rfl rfl rfl hg14B) rfl rfl <| RJ_gn (GY_no rfl rfl rfl hg14B) rfl rfl <| oP (P_pickT rfl hg14B rfl) rfl <| nT <| CJ_condT rfl rfl <| sR <| oA rfl rfl <| nT <| CJ_ret <| QJ_then_ret ?_
        cases h
        exact fE (res1 Try.results3 rfl) () (t4_ (eD (eD (eD (eD (eD eR))))))
       ·
        replace h := ite_f hg14 h
        refine gP (GY_yes rfl rfl rfl hg14B) (P_move rfl) rfl ?_
        obtain ⟨hg15, h⟩ := grd_de h
        refine RJ_gy (GY_yes rfl rfl rfl hg14B) <| O_call (c_ResumeP hg15) rfl Try.call11 (Dels.cons del0 Dels.nil) rfl fun _ _ => ?_
        obtain ⟨w18, hw18, h⟩ := lt_e h
        rw [← hw18]
        refine gP (GY_yes rfl rfl rfl hg14B) (P_neq (a := w18) (b := (0 : Int)) rfl rfl) rfl <| oP (P_pickF rfl hg14B rfl) rfl <| nT <| CJ_condP rfl bT_dec (fun hg16 => ?_) (fun hg16 => ?_)
        ·
         replace h := ite_t hg16 h
         refine sR <| oA rfl rfl <| nT <| CJ_ret <| QJ_then_ret ?_
         cases h
         exact fE (res1 Try.results3 rfl) () (t4_ (eD (eD (eD (eD (eD eR))))))
        ·
         replace h := ite_f hg16 h
         refine kT <| CJ_seq <| sR <| oM rfl rfl ?_
         obtain ⟨hg17, h⟩ := grd_de h
         refine oO <| O_call (c_SuspendP hg17) rfl Try.call10 (Dels.cons del0 Dels.nil) rfl fun _ _ => ?_
         obtain ⟨w19, hw19, h⟩ := lt_e h
         rw [← hw19]
         refine oP (P_neq (a := w19) (b := (0 : Int)) rfl rfl) rfl <| oM rfl rfl <| RJ_splitP 80 rfl bT_dec (fun hg18B hg18 => ?_) (fun hg18B hg18 => ?_)
         ·
          replace h := ite_t hg18 h
          refine RJ_gn (GY_no rfl rfl rfl hg18B) rfl rfl <| RJ_gn (GY_no rfl rfl rfl hg18B) rfl rfl <| RJ_gn (GY_no rfl rfl rfl hg18B) rfl rfl <| oP (P_pickT rfl hg18B rfl) rfl <| nT <| CJ_condT rfl rfl <| sR <| oA rfl rfl <| nT <| CJ_ret <| QJ_then_ret ?_
          cases h
          exact fE (res1 Try.results3 rfl) () (t4_ (eD (eD (eD (eD (eD eR))))))
         ·
          replace h := ite_f hg18 h
          refine gP (GY_yes rfl rfl rfl hg18B) (P_move rfl) rfl ?_
          obtain ⟨hg19, h⟩ := grd_de h
          refine RJ_gy (GY_yes rfl rfl rfl hg18B) <| O_call (c_SuspendP hg19) rfl Try.call10 (Dels.cons del0 Dels.nil) rfl fun _ _ => ?_
          obtain ⟨w20, hw20, h⟩ := lt_e h
          rw [← hw20]
          refine gP (GY_yes rfl rfl rfl hg18B) (P_neq (a := w20) (b := (0 : Int)) rfl rfl) rfl <| oP (P_pickF rfl hg18B rfl) rfl <| nT <| CJ_condP rfl bT_dec (fun hg20 => ?_) (fun hg20 => ?_)
          ·
           replace h := ite_t hg20 h
           refine sR <| oA rfl rfl <| nT <| CJ_ret <| QJ_then_ret ?_
           cases h
           exact fE (res1 Try.results3 rfl) () (t4_ (eD (eD (eD (eD (eD eR))))))
          ·
           replace h := ite_f hg20 h
           refine kT <| sR <| oO <| O_alloc Try.zeroValue36 rfl rfl fun b21 => RJ_ent (sl_of_lit (t := tyA36) (m := 6) (List.replicate 6 0) rfl rfl (by kernel_rfl) (by decide)) <| RJ_nil <| QJ_ent (t0_ (t0_ (t3_ (t3_ (eD (eD (eD eR))))))) <| QJ_then <| sR <| oA rfl rfl <| nT <| CJ_seq <| sR <| oM rfl rfl ?_
           obtain ⟨r22, hr23, h⟩ := bind_e h
           refine oO <| O_call (L_volumegroupmake_Src_N hpur_q6 hr23) rfl Try.call12 (Dels.cons del3 (Dels.cons del2 Dels.nil)) rfl fun _ _ => oA rfl rfl <| nT ?_
           obtain ⟨y26, hl24, hK25⟩ := seq_e h
           refine CJ_cutT (X := Nat × Int × (List UInt64) × Md) [4, 9, 10, 11, 12, 13, 14, 87, 88, 89, 90, 91, 92, 93, 94, 95, 96, 97, 98, 99, 100, 101, 102, 103, 104, 105, 106, 107, 108, 109, 110, 111, 112, 113, 114, 115, 116, 117, 118, 119, 120] (fun a31 => ([(9, .int .i64 (((a31.1 : Nat) : Int)))] : Slots)) (fun a31 R => blk X4.1 58 [X4.2, .int .i64 a31.2.1] :: sl tyA36 (.slice (some ⟨b21, 0, none⟩) 6 6) a31.2.2.1 :: MapP X7.1 a31.2.2.2 :: R) (fun a31 => y26 = .inl a31) (Dels.cons del0 (Dels.cons del1 (Dels.cons del1 Dels.nil))) ?_ ?_
           ·
            refine CJ_block ?_
            refine CJ_loopR (X := Nat × Int × Md × (List UInt64) × Int × Nat) [4, 9, 10, 11, 12, 13, 14, 87, 88, 89, 90, 91, 92, 93, 94, 95, 96, 97, 98, 99, 100, 101, 102, 103, 104, 105, 106, 107, 108, 109, 110, 111, 112, 113, 114, 115, 116, 117, 118, 119, 120] (fun ⟨n, x32, x33, x34, x35, x36⟩ => ([(9, .int .i64 (((x36 : Nat) : Int))), (10, .int .i64 x35)] : Slots)) (fun ⟨n, x32, x33, x34, x35, x36⟩ R => blk X4.1 58 [X4.2, .int .i64 x32] :: MapP X7.1 x33 :: sl tyA36 (.slice (some ⟨b21, 0, none⟩) 6 6) x34 :: R) (fun ⟨n, x32, x33, x34, x35, x36⟩ => volumegrouplaw23_MapperOnce_l1 r2 n x32 x33 x34 x35 x36 = some y26) (fun ⟨n, x32, x33, x34, x35, x36⟩ => n) ⟨FUEL, r22.2, (Md.tick (Md.suS ((Md.tick (Md.suS ((Md.tick (Md.rsS ((Md.tick (Md.suS ((Md.tick (Md.ldS ((Md.tick (Md.rsS ((Md.tick (Md.suS ((Md.tick (Md.ldS ((Md.tick (Md.crS ((Md.tick (Md.crS Mb2 (ByteArray.mk #[108, 111, 119])))) (ByteArray.mk #[104, 105, 103, 104])))) (ByteArray.mk #[108, 111, 119]) ([(⟨(0 : Int), (6 : Int), (ByteArray.mk #[100, 105, 115, 107, 48]), (2 : Int), false⟩ : api_Target)])))) (ByteArray.mk #[108, 111, 119])))) (ByteArray.mk #[108, 111, 119])))) (ByteArray.mk #[104, 105, 103, 104]) ([(⟨(0 : Int), (3 : Int), (ByteArray.mk #[108, 111, 119]), (3 : Int), false⟩ : api_Target), (⟨(3 : Int), (3 : Int), (ByteArray.mk #[100, 105, 115, 107, 49]), (0 : Int), false⟩ : api_Target)])))) (ByteArray.mk #[104, 105, 103, 104])))) (ByteArray.mk #[104, 105, 103, 104])))) (ByteArray.mk #[104, 105, 103, 104])))) (ByteArray.mk #[108, 111, 119]))), (List.replicate 6 0), r22.1, 0⟩ ?_ ?_ (t0_ (t2_ (t1_ eR))) ?_
            · exact hl24
            · exact ⟨rfl, rfl, True.intro⟩
            ·
             rintro ⟨n, x32, x33, x34, x35, x36⟩ h
             cases n with
             | zero => exact none_e h
             | succ n => ?_
             replace h : volumegrouplaw23_MapperOnce_l1_b r2 (volumegrouplaw23_MapperOnce_l1 r2 n) x32 x33 x34 x35 x36 = some y26 := h
             unfold volumegrouplaw23_MapperOnce_l1_b at h
             show CJ _ _ _ _ _ (([(9, .int .i64 (((x36 : Nat) : Int))), (10, .int .i64 x35)] : Slots) ++ forget _ _) (blk X4.1 58 [X4.2, .int .i64 x32] :: MapP X7.1 x33 :: sl tyA36 (.slice (some ⟨b21, 0, none⟩) 6 6) x34 :: _)
             refine lC del2 fun hlen37 => CJ_seq <| sR <| oM rfl rfl <| oP (P_gtr (a := x35) (b := (0 : Int)) rfl rfl) rfl <| nT <| CJ_condP rfl bT_dec (fun hg21 => ?_) (fun hg21 => ?_)
             ·
              replace h := ite_t hg21 h
              refine kT <| CJ_seq <| CJ_block <| sR <| oM rfl rfl ?_
              obtain ⟨r38, hr39, h⟩ := bind_e h
              refine oO <| O_call (L_volumegroupmake_Src_N hpur_q6 hr39) rfl Try.call12 (Dels.cons del0 (Dels.cons del2 Dels.nil)) rfl fun _ _ => oM rfl rfl ?_
              obtain ⟨r40, hr41, h⟩ := bind_e h
              refine oO <| O_call (L_volumegroupmake_Src_Range hpur_q6 hr41) rfl Try.call13 (Dels.cons del0 (Dels.cons del0 Dels.nil)) rfl fun _ _ => oP (P_conv_u64 (a := r40.1) rfl Try.runUnderlying3 Try.runUnderlying35) rfl <| oA rfl rfl <| oA rfl rfl <| nT <| sR <| oM rfl rfl <| oM rfl rfl <| oM rfl rfl <| oP (P_build rfl (bld_44_0_1_2 _ _ _)) rfl ?_
              obtain ⟨hg22, h⟩ := grd_de h
              refine oO <| O_call (c_DoG hg22) rfl Try.call14 (Dels.cons del2 Dels.nil) rfl fun _ _ => oM rfl rfl <| oP (P_extract rfl rfl) rfl ?_
              obtain ⟨w42, hw42, h⟩ := lt_e h
              rw [← hw42]
              refine oP (P_extract rfl rfl) rfl ?_
              obtain ⟨w43, hw43, h⟩ := lt_e h
              rw [← hw43]
              refine oO <| O_alloc Try.zeroValue40 rfl rfl fun b44 => oO <| O_storeN rfl rfl foc0 Try.sizeOf40 rfl rfl rfl <| oA rfl rfl <| nT <| sR <| oM rfl rfl ?_
              obtain ⟨hg23, h⟩ := grd_Ne h
              refine oP (PJ_eq (P_add (a := ((x36 : Nat) : Int)) (b := (1 : Int)) rfl rfl (nat_in hg23)) rfl) rfl <| oA rfl rfl <| nT <| CJ_seq <| sR <| oM rfl rfl <| oP (P_neq (a := w43) (b := (0 : Int)) rfl rfl) rfl <| oM rfl rfl <| RJ_mbF rfl rfl rfl (fun hG45 => have hP46 : ¬ (w43 ≠ (0 : Int)) := nP (bT_dec) hG45; VJ_P (P_fieldAddr rfl ⟨_, _, _, Try.runUnderlying40, rfl, rfl, Try.sizeOf4, rfl⟩)) <| RJ_mbF rfl rfl rfl (fun hG47 => have hP48 : ¬ (w43 ≠ (0 : Int)) := nP (bT_dec) hG47; V_load (mbx hG47 rfl) foc0 rfl Try.isAgg4) <| oP (P_pickOr rfl rfl (fun hh => mbx (not_f hh) rfl)) rfl <| oM rfl rfl <| RJ_mbF rfl rfl rfl (fun hG49 => have hP50 : ¬ ((w43 ≠ (0 : Int)) ∨ w42.Done = true) := nP ((bT_or bT_dec Iff.rfl)) hG49; VJ_P (P_fieldAddr rfl ⟨_, _, _, Try.runUnderlying40, rfl, rfl, Try.sizeOf3, rfl⟩)) <| RJ_mbF rfl rfl rfl (fun hG51 => have hP52 : ¬ ((w43 ≠ (0 : Int)) ∨ w42.Done = true) := nP ((bT_or bT_dec Iff.rfl)) hG51; V_load (mbx hG51 rfl) foc0 rfl Try.isAgg3) <| RJ_mbF rfl rfl rfl (fun hG53 => have hP54 : ¬ ((w43 ≠ (0 : Int)) ∨ w42.Done = true) := nP ((bT_or bT_dec Iff.rfl)) hG53; VJ_P (P_move rfl)) <| RJ_mbF rfl rfl rfl (fun hG55 => have hP56 : ¬ ((w43 ≠ (0 : Int)) ∨ w42.Done = true) := nP ((bT_or bT_dec Iff.rfl)) hG55; VJ_P (P_neq (a := w42.Ticket) (b := (((x36 + 1) : Nat) : Int)) (mbx hG55 rfl) (mbx hG55 rfl))) <| oP (P_pickOr rfl rfl (fun hh => mbx (not_f hh) rfl)) rfl <| nT <| CJ_condP rfl (bT_or (bT_or bT_dec Iff.rfl) bT_dec) (fun hg24 => ?_) (fun hg24 => ?_)
              ·
               replace h := ite_t hg24 h
               refine sR <| oA rfl rfl <| nT <| CJ_ret <| QJ_then_ret <| QJ_block_ret <| QJ_then_ret <| QJ_round_ret <| QJ_block_ret <| QJ_then_ret ?_
               have hE := Option.some.inj h
               replace hE := seq_inr hK25 hE.symm
               subst hE
               exact fE (res1 Try.results3 rfl) () (t3_ (eD (eD (eD (eD eR)))))
              ·
               replace h := ite_f hg24 h
               refine kT <| CJ_region <| oM rfl rfl <| oM rfl rfl <| RJ_pure (slLen del4) fun hal57 => ?_
               obtain ⟨hg25, h⟩ := grd_de h
               refine oP (P_indexArrD (i := (r38.1).toNat) rfl rfl (Int.toNat_of_nonneg (hg25.1)).symm (by omega) Try.runUnderlying36 Try.sizeOf35) rfl <| oO <| O_storeE (x' := (to_u64 r40.1)) rfl rfl rfl (lt_len hal57 (show (r38.1).toNat < 6 from (by omega))) foc4 rfl rfl rfl Try.sizeOf35 <| RJ_nil <| QJ_block_normal <| QJ_then <| CJ_region <| oM rfl rfl ?_
               obtain ⟨hg26, h⟩ := grd_Ie h
               exact oP (P_sub (a := x35) (b := (1 : Int)) rfl rfl hg26) rfl <| oA rfl rfl <| RJ_nil <| nR ⟨n, r40.2, (Md.tick (Md.doS x33 (ByteArray.mk #[104, 105, 103, 104]) ((⟨(2 : Int), r38.1, (to_u64 r40.1)⟩ : api_Task)))), (x34.set ((r38.1).toNat) (to_u64 r40.1)), (x35 - (1 : Int)), (x36 + 1)⟩ h ⟨rfl, rfl, True.intro⟩ (t2_ (t1_ (t2_ (t1_ (eD eR)))))
             ·
              replace h := ite_f hg21 h
              exact CJ_exit <| QJ_then_exit <| QJ_round_exit <| QJ_block_here <| cR (x36, x32, x34, x33) (Option.some.inj h).symm ⟨rfl, True.intro⟩ (t0_ (t1_ eR))
           ·
            rintro a31 hy58
            replace h := seq_inl hK25 hy58
            show CJ _ _ _ _ _ (([(9, .int .i64 (((a31.1 : Nat) : Int)))] : Slots) ++ forget _ _) (blk X4.1 58 [X4.2, .int .i64 a31.2.1] :: sl tyA36 (.slice (some ⟨b21, 0, none⟩) 6 6) a31.2.2.1 :: MapP X7.1 a31.2.2.2 :: _)
            refine lC del1 fun hlen59 => sR <| oO <| O_buildSlice rfl (bs_45_2_0_1 _ _) rfl fun b60 => RJ_ent (Ent.trans (t0_ eR) (sl_of_lit (t := tyS) (m := 2) [(ByteArray.mk #[104, 105, 103, 104]), (ByteArray.mk #[108, 111, 119])] rfl rfl rfl (by decide))) <| oA rfl rfl <| nT <| CJ_seq <| sR <| oM rfl rfl <| nT ?_
            obtain ⟨y63, hl61, hK62⟩ := bind_c h
            refine CJ_cutT (X := (List ByteArray) × Sl3) [15, 123] (fun ⟨a66, hd65⟩ => ([(15, hd65.v)] : Slots)) (fun ⟨a66, hd65⟩ R => sl tyS hd65.v a66 :: R) (fun ⟨a66, hd65⟩ => y63 = a66) (Dels.cons del0 Dels.nil) ?_ ?_
            ·
             have h := hl61
             refine CJ_condP rfl Iff.rfl (fun hg27 => ?_) (fun hg27 => ?_)
             ·
              replace h := ite_t hg27 h
              exact CJ_region <| oO <| O_buildSlice rfl (bs_45_2_0_1 _ _) rfl fun b67 => RJ_ent (Ent.trans (t0_ eR) (sl_of_lit (t := tyS) (m := 2) [(ByteArray.mk #[108, 111, 119]), (ByteArray.mk #[104, 105, 103, 104])] rfl rfl rfl (by decide))) <| oA rfl rfl <| RJ_nil <| cR ⟨[(ByteArray.mk #[108, 111, 119]), (ByteArray.mk #[104, 105, 103, 104])], ⟨some ⟨b67, 0, none⟩, 2, 2⟩⟩ (Option.some.inj h).symm ⟨rfl, True.intro⟩ (t0_ (t1_ (t1_ (t1_ (t1_ (eD eR))))))
             ·
              replace h := ite_f hg27 h
              exact CJ_skip <| cR ⟨[(ByteArray.mk #[104, 105, 103, 104]), (ByteArray.mk #[108, 111, 119])], ⟨some ⟨b60, 0, none⟩, 2, 2⟩⟩ (Option.some.inj h).symm ⟨rfl, True.intro⟩ eR
            ·
             rintro ⟨a66, hd65⟩ hy68
             replace h := bindK_at hK62 hy68
             show CJ _ _ _ _ _ (([(15, hd65.v)] : Slots) ++ forget _ _) (sl tyS hd65.v a66 :: _)
             refine sR <| oM rfl rfl ?_
             obtain ⟨hg28, h⟩ := grd_Ne h
             refine oP (PJ_eq (P_add (a := ((a31.1 : Nat) : Int)) (b := (1 : Int)) rfl rfl (nat_in hg28)) rfl) rfl ?_
             obtain ⟨hg29, h⟩ := grd_Le h
             refine oO <| O_make (t := tyI) (m := (a31.1 + 1)) (x0 := 0) (z := _) (bytes := _) rfl rfl rfl rfl Try.underlying22 ⟨Try.t3, by kernel_rfl, rfl, rfl, rfl⟩ rfl hg29 (by decide) rfl fun b69 => oA rfl rfl <| nT <| CJ_seq <| sR <| oA rfl rfl <| nT ?_
             obtain ⟨y72, hl70, hK71⟩ := seq_e h
             refine CJ_cutT (X := (List Int) × Md) [4, 17, 18, 19, 127, 128, 129, 130, 131, 132, 133, 134, 135, 136, 137, 138, 139, 140, 141, 142, 143, 144, 145, 146, 147, 148, 149, 150, 151, 152, 153, 154, 155, 156, 157, 158, 159, 160, 161, 162, 163, 164, 165, 166, 167, 168, 169, 170, 171, 172, 173, 174, 175, 176, 177, 178, 179, 180, 181, 182, 183, 184, 185, 186] (fun a75 => ([] : Slots)) (fun a75 R => sl tyI (.slice (some ⟨b69, 0, none⟩) (a31.1 + 1) (a31.1 + 1)) a75.1 :: MapP X7.1 a75.2 :: R) (fun a75 => y72 = .inl a75) (Dels.cons del0 (Dels.cons del3 (Dels.cons del1 Dels.nil))) ?_ ?_
             ·
              refine CJ_block <| CJ_loopR (X := Nat × Md × (List Int) × Nat) [4, 17, 18, 19, 127, 128, 129, 130, 131, 132, 133, 134, 135, 136, 137, 138, 139, 140, 141, 142, 143, 144, 145, 146, 147, 148, 149, 150, 151, 152, 153, 154, 155, 156, 157, 158, 159, 160, 161, 162, 163, 164, 165, 166, 167, 168, 169, 170, 171, 172, 173, 174, 175, 176, 177, 178, 179, 180, 181, 182, 183, 184, 185, 186] (fun ⟨n, x76, x77, x78⟩ => ([(17, .int .i64 (((x78 : Nat) : Int)))] : Slots)) (fun ⟨n, x76, x77, x78⟩ R => MapP X7.1 x76 :: sl tyI (.slice (some ⟨b69, 0, none⟩) (a31.1 + 1) (a31.1 + 1)) x77 :: R) (fun ⟨n, x76, x77, x78⟩ => volumegrouplaw23_MapperOnce_l3 a31 a66 n x76 x77 x78 = some y72) (fun ⟨n, x76, x77, x78⟩ => n) ⟨FUEL, a31.2.2.2, (List.replicate (a31.1 + 1) (0 : Int)), 0⟩ ?_ ?_ (t4_ (t0_ (t0_ (t1_ (t1_ (eD eR)))))) ?_
              · exact hl70
              · exact ⟨rfl, True.intro⟩
              ·
               rintro ⟨n, x76, x77, x78⟩ h
               cases n with
               | zero => exact none_e h
               | succ n => ?_
               replace h : volumegrouplaw23_MapperOnce_l3_b a31 a66 (volumegrouplaw23_MapperOnce_l3 a31 a66 n) x76 x77 x78 = some y72 := h
               unfold volumegrouplaw23_MapperOnce_l3_b at h
               show CJ _ _ _ _ _ (([(17, .int .i64 (((x78 : Nat) : Int)))] : Slots) ++ forget _ _) (MapP X7.1 x76 :: sl tyI (.slice (some ⟨b69, 0, none⟩) (a31.1 + 1) (a31.1 + 1)) x77 :: _)
               refine lC del1 fun hlen79 => CJ_seq <| sR <| oM rfl rfl <| oP (P_lss (a := ((x78 : Nat) : Int)) (b := (2 : Int)) rfl rfl) rfl <| nT <| CJ_condP rfl bT_dec (fun hg30 => ?_) (fun hg30 => ?_)
               ·
                replace h := ite_t hg30 h
                refine kT <| CJ_seq <| CJ_block <| CJ_seq <| sR <| oM rfl rfl <| oM rfl rfl <| oM rfl rfl ?_
                obtain ⟨hg31, h⟩ := grd_de h
                refine oV (V_index (i := x78) rfl rfl rfl hg31 foc2 (Reads.sl _ _ _) Try.runUnderlying45 Try.sizeOf9) rfl <| oV (V_loadE rfl rfl hg31 foc2 (Reads.sl _ _ _) rfl rfl Try.isAgg9) rfl ?_
                obtain ⟨hg32, h⟩ := grd_de h
                refine oO <| O_call (c_ResumeP hg32) rfl Try.call11 (Dels.cons del0 Dels.nil) rfl fun _ _ => oP (P_neq (a := (Md.rsE x76 (a66.getD x78 ByteArray.empty))) (b := (0 : Int)) rfl rfl) rfl <| nT <| CJ_condP rfl bT_dec (fun hg33 => ?_) (fun hg33 => ?_)
                ·
                 replace h := ite_t hg33 h
                 refine sR <| oA rfl rfl <| nT <| CJ_ret <| QJ_then_ret <| QJ_block_ret <| QJ_then_ret <| QJ_round_ret <| QJ_block_ret <| QJ_then_ret ?_
                 have hE := Option.some.inj h
                 replace hE := seq_inr hK71 hE.symm
                 subst hE
                 exact fE (res1 Try.results3 rfl) () (t4_ (eD (eD (eD (eD eR)))))
                ·
                 replace h := ite_f hg33 h
                 refine kT <| sR <| oM rfl rfl ?_
                 obtain ⟨hg34, h⟩ := grd_de h
                 refine oO <| O_call (c_AnswersP hg34) rfl Try.call15 (Dels.cons del0 Dels.nil) rfl fun X80 _ => RJ_pure (len_of (Reads.sl _ _ _) del0) fun hlen82 => oA rfl rfl <| nT <| sR <| oA rfl rfl <| nT ?_
                 obtain ⟨y85, hl83, hK84⟩ := seq_e h
                 refine CJ_cutQ (X := (List Int)) [4, 19, 140, 141, 142, 143, 144, 145, 146, 147, 148, 149, 150, 151, 152, 153, 154, 155, 156, 157, 158, 159, 160, 161, 162, 163, 164, 165, 166, 167, 168, 169, 170, 171, 172, 173, 174, 175, 176, 177, 178, 179, 180, 181, 182, 183, 184, 185, 186] (fun a87 => ([] : Slots)) (fun a87 R => sl tyI (.slice (some ⟨b69, 0, none⟩) (a31.1 + 1) (a31.1 + 1)) a87 :: R) (fun a87 => y85 = .inl a87) (Dels.cons del2 Dels.nil) ?_ ?_
                 ·
                  refine CJ_block <| CJ_loopR (X := Nat × (List Int) × Nat) [4, 19, 140, 141, 142, 143, 144, 145, 146, 147, 148, 149, 150, 151, 152, 153, 154, 155, 156, 157, 158, 159, 160, 161, 162, 163, 164, 165, 166, 167, 168, 169, 170, 171, 172, 173, 174, 175, 176, 177, 178, 179, 180, 181, 182, 183, 184, 185, 186] (fun ⟨n, x88, x89⟩ => ([(19, .int .i64 (((x89 : Nat) : Int)))] : Slots)) (fun ⟨n, x88, x89⟩ R => sl tyI (.slice (some ⟨b69, 0, none⟩) (a31.1 + 1) (a31.1 + 1)) x88 :: R) (fun ⟨n, x88, x89⟩ => volumegrouplaw23_MapperOnce_l4 a31 a66 x76 x78 n x88 x89 = some y85) (fun ⟨n, x88, x89⟩ => n) ⟨FUEL, x77, 0⟩ ?_ ?_ (t2_ eR) ?_
                  · exact hl83
                  · exact ⟨rfl, True.intro⟩
                  ·
                   rintro ⟨n, x88, x89⟩ h
                   cases n with
                   | zero => exact none_e h
                   | succ n => ?_
                   replace h : volumegrouplaw23_MapperOnce_l4_b a31 a66 x76 x78 (volumegrouplaw23_MapperOnce_l4 a31 a66 x76 x78 n) x88 x89 = some y85 := h
                   unfold volumegrouplaw23_MapperOnce_l4_b at h
                   show CJ _ _ _ _ _ (([(19, .int .i64 (((x89 : Nat) : Int)))] : Slots) ++ forget _ _) (sl tyI (.slice (some ⟨b69, 0, none⟩) (a31.1 + 1) (a31.1 + 1)) x88 :: _)
                   refine lC del0 fun hlen90 => CJ_seq <| sR <| oM rfl rfl <| oM rfl rfl <| oV (V_len rfl foc1 (Reads.sl _ _ _) Try.runUnderlying46) rfl ?_
                   obtain ⟨w91, hw91, h⟩ := lt_e h
                   rw [← hw91]
                   refine oP (P_lss (a := ((x89 : Nat) : Int)) (b := ((w91 : Nat) : Int)) rfl rfl) rfl <| nT <| CJ_condP rfl bT_dec (fun hg35 => ?_) (fun hg35 => ?_)
                   ·
                    replace h := ite_t hg35 h
                    refine kT <| CJ_seq <| CJ_block <| CJ_seq <| sR <| oM rfl rfl <| oM rfl rfl <| oV (V_index (i := x89) rfl rfl rfl (by omega) foc1 (Reads.sl _ _ _) Try.runUnderlying46 Try.sizeOf40) rfl <| oP (P_fieldE rfl ⟨_, _, _, Try.runUnderlying40, rfl, rfl, Try.sizeOf3, rfl⟩) rfl <| oV (V_loadE rfl rfl (by omega) foc1 (Reads.sl _ _ _) rfl rfl Try.isAgg3) rfl ?_
                    obtain ⟨w92, hw92, h⟩ := lt_e h
                    rw [← hw92]
                    refine oP (P_lss (a := w92) (b := (1 : Int)) rfl rfl) rfl <| oM rfl rfl <| RJ_mbF rfl rfl rfl (fun hG93 => have hP94 : ¬ (w92 < (1 : Int)) := nP (bT_dec) hG93; VJ_P (P_move rfl)) <| RJ_mbF rfl rfl rfl (fun hG95 => have hP96 : ¬ (w92 < (1 : Int)) := nP (bT_dec) hG95; VJ_P (P_move rfl)) <| RJ_mbF rfl rfl rfl (fun hG97 => have hP98 : ¬ (w92 < (1 : Int)) := nP (bT_dec) hG97; V_index (i := x89) (mbx hG97 rfl) (mbx hG97 rfl) rfl (by omega) foc1 (Reads.sl _ _ _) Try.runUnderlying46 Try.sizeOf40) <| RJ_mbF rfl rfl rfl (fun hG99 => have hP100 : ¬ (w92 < (1 : Int)) := nP (bT_dec) hG99; VJ_P (P_fieldE (mbx hG99 rfl) ⟨_, _, _, Try.runUnderlying40, rfl, rfl, Try.sizeOf3, rfl⟩)) <| RJ_mbF rfl rfl rfl (fun hG101 => have hP102 : ¬ (w92 < (1 : Int)) := nP (bT_dec) hG101; V_loadE (mbx hG101 rfl) rfl (by omega) foc1 (Reads.sl _ _ _) rfl rfl Try.isAgg3) <| RJ_mbF rfl rfl rfl (fun hG103 => have hP104 : ¬ (w92 < (1 : Int)) := nP (bT_dec) hG103; VJ_P (P_move rfl)) <| RJ_mbF rfl rfl rfl (fun hG105 => have hP106 : ¬ (w92 < (1 : Int)) := nP (bT_dec) hG105; VJ_P (P_gtr (a := ((((Md.told ((Md.tick (Md.rsS x76 (a66.getD x78 ByteArray.empty)))))).getD x89 (⟨false, 0, 0, 0⟩ : api_Answer))).Ticket) (b := ((a31.1 : Nat) : Int)) (mbx hG105 rfl) (mbx hG105 rfl))) <| oP (P_pickOr rfl rfl (fun hh => mbx (not_f hh) rfl)) rfl <| oM rfl rfl ?_
                    refine RJ_mbF rfl rfl rfl (fun hG107 => have hP108 : ¬ ((w92 < (1 : Int)) ∨ (((a31.1 : Nat) : Int) < ((((Md.told ((Md.tick (Md.rsS x76 (a66.getD x78 ByteArray.empty)))))).getD x89 (⟨false, 0, 0, 0⟩ : api_Answer))).Ticket)) := nP ((bT_or bT_dec bT_dec)) hG107; VJ_P (P_move rfl)) <| RJ_mbF rfl rfl rfl (fun hG109 => have hP110 : ¬ ((w92 < (1 : Int)) ∨ (((a31.1 : Nat) : Int) < ((((Md.told ((Md.tick (Md.rsS x76 (a66.getD x78 ByteArray.empty)))))).getD x89 (⟨false, 0, 0, 0⟩ : api_Answer))).Ticket)) := nP ((bT_or bT_dec bT_dec)) hG109; VJ_P (P_move rfl)) <| RJ_mbF rfl rfl rfl (fun hG111 => have hP112 : ¬ ((w92 < (1 : Int)) ∨ (((a31.1 : Nat) : Int) < ((((Md.told ((Md.tick (Md.rsS x76 (a66.getD x78 ByteArray.empty)))))).getD x89 (⟨false, 0, 0, 0⟩ : api_Answer))).Ticket)) := nP ((bT_or bT_dec bT_dec)) hG111; V_index (i := x89) (mbx hG111 rfl) (mbx hG111 rfl) rfl (by omega) foc1 (Reads.sl _ _ _) Try.runUnderlying46 Try.sizeOf40) <| RJ_mbF rfl rfl rfl (fun hG113 => have hP114 : ¬ ((w92 < (1 : Int)) ∨ (((a31.1 : Nat) : Int) < ((((Md.told ((Md.tick (Md.rsS x76 (a66.getD x78 ByteArray.empty)))))).getD x89 (⟨false, 0, 0, 0⟩ : api_Answer))).Ticket)) := nP ((bT_or bT_dec bT_dec)) hG113; VJ_P (P_fieldE (mbx hG113 rfl) ⟨_, _, _, Try.runUnderlying40, rfl, rfl, Try.sizeOf4, rfl⟩)) ?_
                    refine RJ_mbF rfl rfl rfl (fun hG115 => have hP116 : ¬ ((w92 < (1 : Int)) ∨ (((a31.1 : Nat) : Int) < ((((Md.told ((Md.tick (Md.rsS x76 (a66.getD x78 ByteArray.empty)))))).getD x89 (⟨false, 0, 0, 0⟩ : api_Answer))).Ticket)) := nP ((bT_or bT_dec bT_dec)) hG115; V_loadE (mbx hG115 rfl) rfl (by omega) foc1 (Reads.sl _ _ _) rfl rfl Try.isAgg4) <| RJ_mbF rfl rfl rfl (fun hG117 => have hP118 : ¬ ((w92 < (1 : Int)) ∨ (((a31.1 : Nat) : Int) < ((((Md.told ((Md.tick (Md.rsS x76 (a66.getD x78 ByteArray.empty)))))).getD x89 (⟨false, 0, 0, 0⟩ : api_Answer))).Ticket)) := nP ((bT_or bT_dec bT_dec)) hG117; VJ_P (P_not (mbx hG117 rfl))) <| oP (P_pickOr rfl rfl (fun hh => mbx (not_f hh) rfl)) rfl <| oM rfl rfl <| RJ_mbF rfl rfl rfl (fun hG119 => have hP120 : ¬ (((w92 < (1 : Int)) ∨ (((a31.1 : Nat) : Int) < ((((Md.told ((Md.tick (Md.rsS x76 (a66.getD x78 ByteArray.empty)))))).getD x89 (⟨false, 0, 0, 0⟩ : api_Answer))).Ticket)) ∨ (¬ ((((Md.told ((Md.tick (Md.rsS x76 (a66.getD x78 ByteArray.empty)))))).getD x89 (⟨false, 0, 0, 0⟩ : api_Answer))).Done = true)) := nP ((bT_or (bT_or bT_dec bT_dec) (bT_not Iff.rfl))) hG119; VJ_P (P_move rfl)) ?_
                    refine RJ_mbF rfl rfl rfl (fun hG121 => have hP122 : ¬ (((w92 < (1 : Int)) ∨ (((a31.1 : Nat) : Int) < ((((Md.told ((Md.tick (Md.rsS x76 (a66.getD x78 ByteArray.empty)))))).getD x89 (⟨false, 0, 0, 0⟩ : api_Answer))).Ticket)) ∨ (¬ ((((Md.told ((Md.tick (Md.rsS x76 (a66.getD x78 ByteArray.empty)))))).getD x89 (⟨false, 0, 0, 0⟩ : api_Answer))).Done = true)) := nP ((bT_or (bT_or bT_dec bT_dec) (bT_not Iff.rfl))) hG121; VJ_P (P_move rfl)) <| RJ_mbF rfl rfl rfl (fun hG123 => have hP124 : ¬ (((w92 < (1 : Int)) ∨ (((a31.1 : Nat) : Int) < ((((Md.told ((Md.tick (Md.rsS x76 (a66.getD x78 ByteArray.empty)))))).getD x89 (⟨false, 0, 0, 0⟩ : api_Answer))).Ticket)) ∨ (¬ ((((Md.told ((Md.tick (Md.rsS x76 (a66.getD x78 ByteArray.empty)))))).getD x89 (⟨false, 0, 0, 0⟩ : api_Answer))).Done = true)) := nP ((bT_or (bT_or bT_dec bT_dec) (bT_not Iff.rfl))) hG123; V_index (i := x89) (mbx hG123 rfl) (mbx hG123 rfl) rfl (by omega) foc1 (Reads.sl _ _ _) Try.runUnderlying46 Try.sizeOf40) <| RJ_mbF rfl rfl rfl (fun hG125 => have hP126 : ¬ (((w92 < (1 : Int)) ∨ (((a31.1 : Nat) : Int) < ((((Md.told ((Md.tick (Md.rsS x76 (a66.getD x78 ByteArray.empty)))))).getD x89 (⟨false, 0, 0, 0⟩ : api_Answer))).Ticket)) ∨ (¬ ((((Md.told ((Md.tick (Md.rsS x76 (a66.getD x78 ByteArray.empty)))))).getD x89 (⟨false, 0, 0, 0⟩ : api_Answer))).Done = true)) := nP ((bT_or (bT_or bT_dec bT_dec) (bT_not Iff.rfl))) hG125; VJ_P (P_fieldE (mbx hG125 rfl) ⟨_, _, _, Try.runUnderlying40, rfl, rfl, Try.sizeOf29, rfl⟩)) ?_
                    refine RJ_mbF rfl rfl rfl (fun hG127 => have hP128 : ¬ (((w92 < (1 : Int)) ∨ (((a31.1 : Nat) : Int) < ((((Md.told ((Md.tick (Md.rsS x76 (a66.getD x78 ByteArray.empty)))))).getD x89 (⟨false, 0, 0, 0⟩ : api_Answer))).Ticket)) ∨ (¬ ((((Md.told ((Md.tick (Md.rsS x76 (a66.getD x78 ByteArray.empty)))))).getD x89 (⟨false, 0, 0, 0⟩ : api_Answer))).Done = true)) := nP ((bT_or (bT_or bT_dec bT_dec) (bT_not Iff.rfl))) hG127; V_loadE (mbx hG127 rfl) rfl (by omega) foc1 (Reads.sl _ _ _) rfl rfl Try.isAgg29) <| RJ_mbF rfl rfl rfl (fun hG129 => have hP130 : ¬ (((w92 < (1 : Int)) ∨ (((a31.1 : Nat) : Int) < ((((Md.told ((Md.tick (Md.rsS x76 (a66.getD x78 ByteArray.empty)))))).getD x89 (⟨false, 0, 0, 0⟩ : api_Answer))).Ticket)) ∨ (¬ ((((Md.told ((Md.tick (Md.rsS x76 (a66.getD x78 ByteArray.empty)))))).getD x89 (⟨false, 0, 0, 0⟩ : api_Answer))).Done = true)) := nP ((bT_or (bT_or bT_dec bT_dec) (bT_not Iff.rfl))) hG129; VJ_P (P_neq (a := ((((Md.told ((Md.tick (Md.rsS x76 (a66.getD x78 ByteArray.empty)))))).getD x89 (⟨false, 0, 0, 0⟩ : api_Answer))).Error) (b := (0 : Int)) (mbx hG129 rfl) rfl)) <| oP (P_pickOr rfl rfl (fun hh => mbx (not_f hh) rfl)) rfl <| nT <| CJ_condP rfl (bT_or (bT_or (bT_or bT_dec bT_dec) (bT_not Iff.rfl)) bT_dec) (fun hg36 => ?_) (fun hg36 => ?_)
                    ·
                     replace h := ite_t hg36 h
                     refine sR <| oA rfl rfl <| nT <| CJ_ret <| QJ_then_ret <| QJ_block_ret <| QJ_then_ret <| QJ_round_ret <| QJ_block_ret <| QJ_then_ret <| QJ_block_ret <| QJ_then_ret <| QJ_round_ret <| QJ_block_ret <| QJ_then_ret ?_
                     have hE := Option.some.inj h
                     replace hE := seq_inr hK84 hE.symm
                     replace hE := seq_inr hK71 hE.symm
                     subst hE
                     exact fE (res1 Try.results3 rfl) () (t5_ (eD (eD (eD (eD (eD eR))))))
                    ·
                     replace h := ite_f hg36 h
                     refine kT <| CJ_region <| oM rfl rfl <| oM rfl rfl <| oM rfl rfl <| oV (V_index (i := x89) rfl rfl rfl (by omega) foc1 (Reads.sl _ _ _) Try.runUnderlying46 Try.sizeOf40) rfl <| oP (P_fieldE rfl ⟨_, _, _, Try.runUnderlying40, rfl, rfl, Try.sizeOf3, rfl⟩) rfl <| oV (V_loadE rfl rfl (by omega) foc1 (Reads.sl _ _ _) rfl rfl Try.isAgg3) rfl ?_
                     obtain ⟨w131, hw131, h⟩ := lt_e h
                     rw [← hw131]
                     obtain ⟨hg37, h⟩ := grd_de h
                     refine oV (V_index (i := (w131).toNat) rfl rfl (Int.toNat_of_nonneg (hg37.1)).symm (by omega) foc0 (Reads.sl _ _ _) Try.runUnderlying22 Try.sizeOf3) rfl <| oV (V_loadE rfl rfl (by omega) foc0 (Reads.sl _ _ _) rfl rfl Try.isAgg3) rfl ?_
                     obtain ⟨hg38, h⟩ := grd_Ie h
                     refine oP (P_add (a := (x88.getD ((w131).toNat) 0)) (b := (1 : Int)) rfl rfl hg38) rfl ?_
                     obtain ⟨hg39, h⟩ := grd_de h
                     exact oV (V_index (i := (w131).toNat) rfl rfl (Int.toNat_of_nonneg (hg39.1)).symm (by omega) foc0 (Reads.sl _ _ _) Try.runUnderlying22 Try.sizeOf3) rfl <| oO <| O_storeE (x' := ((x88.getD ((w131).toNat) 0) + (1 : Int))) rfl rfl rfl (by omega) foc0 rfl rfl rfl Try.sizeOf3 <| RJ_nil <| QJ_block_normal <| QJ_then <| CJ_region <| oM rfl rfl <| oP (PJ_eq (P_add (a := ((x89 : Nat) : Int)) (b := (1 : Int)) rfl rfl (by omega)) rfl) rfl <| oA rfl rfl <| RJ_nil <| nR ⟨n, (x88.set ((w131).toNat) (((x88.getD ((w131).toNat) 0) + (1 : Int)))), (x89 + 1)⟩ h ⟨rfl, True.intro⟩ eR
                   ·
                    replace h := ite_f hg35 h
                    exact CJ_exit <| QJ_then_exit <| QJ_round_exit <| QJ_block_here <| cR x88 (Option.some.inj h).symm True.intro eR
                 ·
                  rintro a87 hy132
                  replace h := seq_inl hK84 hy132
                  show QJ _ _ _ _ (([] : Slots) ++ forget _ _) (sl tyI (.slice (some ⟨b69, 0, none⟩) (a31.1 + 1) (a31.1 + 1)) a87 :: _)
                  exact QJ_block_normal <| QJ_then <| CJ_region <| oM rfl rfl <| oP (PJ_eq (P_add (a := ((x78 : Nat) : Int)) (b := (1 : Int)) rfl rfl (by omega)) rfl) rfl <| oA rfl rfl <| RJ_nil <| nR ⟨n, (Md.tick (Md.anS ((Md.tick (Md.rsS x76 (a66.getD x78 ByteArray.empty)))))), a87, (x78 + 1)⟩ h ⟨rfl, True.intro⟩ (t2_ (t0_ (t1_ (t1_ (t1_ (eD eR))))))
               ·
                replace h := ite_f hg30 h
                exact CJ_exit <| QJ_then_exit <| QJ_round_exit <| QJ_block_here <| cR (x77, x76) (Option.some.inj h).symm True.intro (t1_ eR)
             ·
              rintro a75 hy133
              replace h := seq_inl hK71 hy133
              show CJ _ _ _ _ _ (([] : Slots) ++ forget _ _) (sl tyI (.slice (some ⟨b69, 0, none⟩) (a31.1 + 1) (a31.1 + 1)) a75.1 :: MapP X7.1 a75.2 :: _)
              refine lC del0 fun hlen134 => CJ_seq <| sR <| oA rfl rfl <| nT ?_
              obtain ⟨y137, hl135, hK136⟩ := seq_e h
              refine CJ_cutT (X := Unit) [4, 20, 187, 188, 189, 190, 191, 192, 193, 194, 195, 196] (fun _ => ([] : Slots)) (fun _ R => R) (fun _ => y137 = .inl ()) Dels.nil ?_ ?_
              ·
               refine CJ_block <| CJ_loopR (X := Nat × Nat) [4, 20, 187, 188, 189, 190, 191, 192, 193, 194, 195, 196] (fun ⟨n, x139⟩ => ([(20, .int .i64 (((x139 : Nat) : Int)))] : Slots)) (fun ⟨n, x139⟩ R => R) (fun ⟨n, x139⟩ => volumegrouplaw23_MapperOnce_l5 a31 a75 n x139 = some y137) (fun ⟨n, x139⟩ => n) ⟨FUEL, 1⟩ ?_ ?_ eR ?_
               · exact hl135
               · exact ⟨rfl, True.intro⟩
               ·
                rintro ⟨n, x139⟩ h
                cases n with
                | zero => exact none_e h
                | succ n => ?_
                replace h : volumegrouplaw23_MapperOnce_l5_b a31 a75 (volumegrouplaw23_MapperOnce_l5 a31 a75 n) x139 = some y137 := h
                unfold volumegrouplaw23_MapperOnce_l5_b at h
                show CJ _ _ _ _ _ (([(20, .int .i64 (((x139 : Nat) : Int)))] : Slots) ++ forget _ _) (_)
                refine CJ_seq <| sR <| oM rfl rfl <| oM rfl rfl <| oP (P_leq (a := ((x139 : Nat) : Int)) (b := ((a31.1 : Nat) : Int)) rfl rfl) rfl <| nT <| CJ_condP rfl bT_dec (fun hg40 => ?_) (fun hg40 => ?_)
                ·
                 replace h := ite_t hg40 h
                 refine kT <| CJ_seq <| CJ_block <| sR <| oM rfl rfl <| oM rfl rfl ?_
                 obtain ⟨hg41, h⟩ := grd_de h
                 refine oV (V_index (i := x139) rfl rfl rfl hg41 foc0 (Reads.sl _ _ _) Try.runUnderlying22 Try.sizeOf3) rfl <| oV (V_loadE rfl rfl hg41 foc0 (Reads.sl _ _ _) rfl rfl Try.isAgg3) rfl <| oP (P_neq (a := (a75.1.getD x139 0)) (b := (1 : Int)) rfl rfl) rfl <| nT <| CJ_condP rfl bT_dec (fun hg42 => ?_) (fun hg42 => ?_)
                 ·
                  replace h := ite_t hg42 h
                  refine sR <| oA rfl rfl <| nT <| CJ_ret <| QJ_block_ret <| QJ_then_ret <| QJ_round_ret <| QJ_block_ret <| QJ_then_ret ?_
                  have hE := Option.some.inj h
                  replace hE := seq_inr hK136 hE.symm
                  subst hE
                  exact fE (res1 Try.results3 rfl) () (t4_ (eD (eD (eD (eD eR)))))
                 ·
                  replace h := ite_f hg42 h
                  refine CJ_skip <| QJ_block_normal <| QJ_then <| CJ_region <| oM rfl rfl ?_
                  obtain ⟨hg43, h⟩ := grd_Ne h
                  exact oP (PJ_eq (P_add (a := ((x139 : Nat) : Int)) (b := (1 : Int)) rfl rfl (nat_in hg43)) rfl) rfl <| oA rfl rfl <| RJ_nil <| nR ⟨n, (x139 + 1)⟩ h ⟨rfl, True.intro⟩ eR
                ·
                 replace h := ite_f hg40 h
                 exact CJ_exit <| QJ_then_exit <| QJ_round_exit <| QJ_block_here <| cR () (Option.some.inj h).symm True.intro eR
              ·
               rintro _ hy140
               replace h := seq_inl hK136 hy140
               show CJ _ _ _ _ _ (([] : Slots) ++ forget _ _) (_)
               refine CJ_seq <| sR <| oA rfl rfl <| nT ?_
               obtain ⟨y143, hl141, hK142⟩ := seq_e h
               refine CJ_cutT (X := Md) [4, 21, 22, 23, 197, 198, 199, 200, 201, 202, 203, 204, 205, 206, 207, 208, 209, 210, 211, 212, 213, 214, 215, 216, 217, 218, 219, 220, 221, 222, 223, 224, 225, 226, 227] (fun a145 => ([] : Slots)) (fun a145 R => MapP X7.1 a145 :: R) (fun a145 => y143 = .inl a145) (Dels.cons del1 Dels.nil) ?_ ?_
               ·
                refine CJ_block <| CJ_loopR (X := Nat × Md × Nat) [4, 21, 22, 23, 197, 198, 199, 200, 201, 202, 203, 204, 205, 206, 207, 208, 209, 210, 211, 212, 213, 214, 215, 216, 217, 218, 219, 220, 221, 222, 223, 224, 225, 226, 227] (fun ⟨n, x146, x147⟩ => ([(21, .int .i64 (((x147 : Nat) : Int)))] : Slots)) (fun ⟨n, x146, x147⟩ R => MapP X7.1 x146 :: R) (fun ⟨n, x146, x147⟩ => volumegrouplaw23_MapperOnce_l6 a31 n x146 x147 = some y143) (fun ⟨n, x146, x147⟩ => n) ⟨FUEL, a75.2, 0⟩ ?_ ?_ (t1_ eR) ?_
                · exact hl141
                · exact ⟨rfl, True.intro⟩
                ·
                 rintro ⟨n, x146, x147⟩ h
                 cases n with
                 | zero => exact none_e h
                 | succ n => ?_
                 replace h : volumegrouplaw23_MapperOnce_l6_b a31 (volumegrouplaw23_MapperOnce_l6 a31 n) x146 x147 = some y143 := h
                 unfold volumegrouplaw23_MapperOnce_l6_b at h
                 show CJ _ _ _ _ _ (([(21, .int .i64 (((x147 : Nat) : Int)))] : Slots) ++ forget _ _) (MapP X7.1 x146 :: _)
                 refine CJ_seq <| sR <| oM rfl rfl <| oP (P_lss (a := ((x147 : Nat) : Int)) (b := (6 : Int)) rfl rfl) rfl <| nT <| CJ_condP rfl bT_dec (fun hg44 => ?_) (fun hg44 => ?_)
                 ·
                  replace h := ite_t hg44 h
                  refine kT <| CJ_seq <| CJ_block <| sR <| oM rfl rfl <| oM rfl rfl <| oP (P_build rfl (bld_44_0_1 _ _)) rfl ?_
                  obtain ⟨hg45, h⟩ := grd_de h
                  refine oO <| O_call (c_DoG hg45) rfl Try.call14 (Dels.cons del0 Dels.nil) rfl fun _ _ => oM rfl rfl <| oP (P_extract rfl rfl) rfl ?_
                  obtain ⟨w148, hw148, h⟩ := lt_e h
                  rw [← hw148]
                  refine oP (P_extract rfl rfl) rfl ?_
                  obtain ⟨w149, hw149, h⟩ := lt_e h
                  rw [← hw149]
                  refine oO <| O_alloc Try.zeroValue40 rfl rfl fun b150 => oO <| O_storeN rfl rfl foc0 Try.sizeOf40 rfl rfl rfl <| oA rfl rfl <| nT <| CJ_seq <| AJ_startH 0 (by kernel_rfl) rfl <| aN 0 1 rfl rfl (P_move rfl) rfl <| aN 1 3 rfl rfl (P_neq (a := w149) (b := (0 : Int)) rfl rfl) rfl <| aN 2 7 rfl rfl (P_move rfl) rfl <| AJ_splitP 210 rfl bT_dec (fun hg46B hg46 => ?_) (fun hg46B hg46 => ?_)
                  ·
                   replace h := ite_t hg46 h
                   refine aS 3 15 rfl rfl (GY_no rfl rfl rfl hg46B) rfl <| aS 4 31 rfl rfl (GY_no rfl rfl rfl hg46B) rfl <| aS 5 63 rfl rfl (GY_no rfl rfl rfl hg46B) rfl <| aN 6 127 rfl rfl (P_pickT rfl hg46B rfl) rfl <| aN 7 255 rfl rfl (P_move rfl) rfl <| aS 8 511 rfl rfl (GY_no rfl rfl rfl rfl) rfl <| aS 9 1023 rfl rfl (GY_no rfl rfl rfl rfl) rfl <| aS 10 2047 rfl rfl (GY_no rfl rfl rfl rfl) rfl <| aN 11 4095 rfl rfl (P_pickT rfl rfl rfl) rfl <| aN 12 8191 rfl rfl (P_move rfl) rfl <| aS 13 16383 rfl rfl (GY_no rfl rfl rfl rfl) rfl <| aS 14 32767 rfl rfl (GY_no rfl rfl rfl rfl) rfl <| aS 15 65535 rfl rfl (GY_no rfl rfl rfl rfl) rfl <| aS 16 131071 rfl rfl (GY_no rfl rfl rfl rfl) rfl <| aS 17 262143 rfl rfl (GY_no rfl rfl rfl rfl) rfl <| aS 18 524287 rfl rfl (GY_no rfl rfl rfl rfl) rfl <| aN 19 1048575 rfl rfl (P_pickT rfl rfl rfl) rfl <| aD <| CJ_condT rfl rfl <| sR <| oA rfl rfl <| nT <| CJ_ret <| QJ_block_ret <| QJ_then_ret <| QJ_round_ret <| QJ_block_ret <| QJ_then_ret ?_
                   have hE := Option.some.inj h
                   replace hE := seq_inr hK142 hE.symm
                   subst hE
                   exact fE (res1 Try.results3 rfl) () (t5_ (eD (eD (eD (eD (eD eR))))))
                  ·
                   replace h := ite_f hg46 h
                   refine aP 3 15 rfl rfl (GY_yes rfl rfl rfl hg46B) (P_fieldAddr rfl ⟨_, _, _, Try.runUnderlying40, rfl, rfl, Try.sizeOf4, rfl⟩) rfl <| aV 4 31 rfl rfl (GY_yes rfl rfl rfl hg46B) eR (V_load rfl foc0 rfl Try.isAgg4) rfl <| aP 5 63 rfl rfl (GY_yes rfl rfl rfl hg46B) (P_not rfl) rfl <| aN 6 127 rfl rfl (P_pickF rfl hg46B rfl) rfl <| aN 7 255 rfl rfl (P_move rfl) rfl <| AJ_splitP 215 rfl (bT_not Iff.rfl) (fun hg47B hg47 => ?_) (fun hg47B hg47 => ?_)
                   ·
                    replace h := ite_t hg47 h
                    refine aS 8 511 rfl rfl (GY_no rfl rfl rfl hg47B) rfl <| aS 9 1023 rfl rfl (GY_no rfl rfl rfl hg47B) rfl <| aS 10 2047 rfl rfl (GY_no rfl rfl rfl hg47B) rfl <| aN 11 4095 rfl rfl (P_pickT rfl hg47B rfl) rfl <| aN 12 8191 rfl rfl (P_move rfl) rfl <| aS 13 16383 rfl rfl (GY_no rfl rfl rfl rfl) rfl <| aS 14 32767 rfl rfl (GY_no rfl rfl rfl rfl) rfl <| aS 15 65535 rfl rfl (GY_no rfl rfl rfl rfl) rfl <| aS 16 131071 rfl rfl (GY_no rfl rfl rfl rfl) rfl <| aS 17 262143 rfl rfl (GY_no rfl rfl rfl rfl) rfl <| aS 18 524287 rfl rfl (GY_no rfl rfl rfl rfl) rfl <| aN 19 1048575 rfl rfl (P_pickT rfl rfl rfl) rfl <| aD <| CJ_condT rfl rfl <| sR <| oA rfl rfl <| nT <| CJ_ret <| QJ_block_ret <| QJ_then_ret <| QJ_round_ret <| QJ_block_ret <| QJ_then_ret ?_
                    have hE := Option.some.inj h
                    replace hE := seq_inr hK142 hE.symm
                    subst hE
                    exact fE (res1 Try.results3 rfl) () (t5_ (eD (eD (eD (eD (eD eR))))))
                   ·
                    replace h := ite_f hg47 h
                    refine aP 8 511 rfl rfl (GY_yes rfl rfl rfl hg47B) (P_fieldAddr rfl ⟨_, _, _, Try.runUnderlying40, rfl, rfl, Try.sizeOf29, rfl⟩) rfl <| aV 9 1023 rfl rfl (GY_yes rfl rfl rfl hg47B) eR (V_load rfl foc0 rfl Try.isAgg29) rfl <| aP 10 2047 rfl rfl (GY_yes rfl rfl rfl hg47B) (P_neq (a := w148.Error) (b := (0 : Int)) rfl rfl) rfl <| aN 11 4095 rfl rfl (P_pickF rfl hg47B rfl) rfl <| aN 12 8191 rfl rfl (P_move rfl) rfl <| AJ_splitP 220 rfl bT_dec (fun hg48B hg48 => ?_) (fun hg48B hg48 => ?_)
                    ·
                     replace h := ite_t hg48 h
                     refine aS 13 16383 rfl rfl (GY_no rfl rfl rfl hg48B) rfl <| aS 14 32767 rfl rfl (GY_no rfl rfl rfl hg48B) rfl <| aS 15 65535 rfl rfl (GY_no rfl rfl rfl hg48B) rfl <| aS 16 131071 rfl rfl (GY_no rfl rfl rfl hg48B) rfl <| aS 17 262143 rfl rfl (GY_no rfl rfl rfl hg48B) rfl <| aS 18 524287 rfl rfl (GY_no rfl rfl rfl hg48B) rfl <| aN 19 1048575 rfl rfl (P_pickT rfl hg48B rfl) rfl <| aD <| CJ_condT rfl rfl <| sR <| oA rfl rfl <| nT <| CJ_ret <| QJ_block_ret <| QJ_then_ret <| QJ_round_ret <| QJ_block_ret <| QJ_then_ret ?_
                     have hE := Option.some.inj h
                     replace hE := seq_inr hK142 hE.symm
                     subst hE
                     exact fE (res1 Try.results3 rfl) () (t5_ (eD (eD (eD (eD (eD eR))))))
                    ·
                     replace h := ite_f hg48 h
                     refine aP 13 16383 rfl rfl (GY_yes rfl rfl rfl hg48B) (P_fieldAddr rfl ⟨_, _, _, Try.runUnderlying40, rfl, rfl, Try.sizeOf35, rfl⟩) rfl <| aV 14 32767 rfl rfl (GY_yes rfl rfl rfl hg48B) eR (V_load rfl foc0 rfl Try.isAgg35) rfl <| aP 15 65535 rfl rfl (GY_yes rfl rfl rfl hg48B) (P_move rfl) rfl <| AJ_pure (slLen del4) fun hal151 => aP 16 131071 rfl rfl (GY_yes rfl rfl rfl hg48B) (P_indexArrD (i := x147) rfl rfl rfl (by omega) Try.runUnderlying36 Try.sizeOf35) rfl <| aV 17 262143 rfl rfl (GY_yes rfl rfl rfl hg48B) eR (V_loadE rfl rfl (lt_len hal151 (show x147 < 6 from (by omega))) foc4 (Reads.sl _ _ _) rfl rfl Try.isAgg35) rfl <| aP 18 524287 rfl rfl (GY_yes rfl rfl rfl hg48B) (P_ne_u64 (a := w148.Value) (b := (a31.2.2.1.getD x147 0)) rfl rfl) rfl <| aN 19 1048575 rfl rfl (P_pickF rfl hg48B rfl) rfl <| aD <| CJ_condP rfl bT_dec (fun hg49 => ?_) (fun hg49 => ?_)
                     ·
                      replace h := ite_t hg49 h
                      refine sR <| oA rfl rfl <| nT <| CJ_ret <| QJ_block_ret <| QJ_then_ret <| QJ_round_ret <| QJ_block_ret <| QJ_then_ret ?_
                      have hE := Option.some.inj h
                      replace hE := seq_inr hK142 hE.symm
                      subst hE
                      exact fE (res1 Try.results3 rfl) () (t5_ (eD (eD (eD (eD (eD eR))))))
                     ·
                      replace h := ite_f hg49 h
                      exact CJ_skip <| QJ_block_normal <| QJ_then <| CJ_region <| oM rfl rfl <| oP (PJ_eq (P_add (a := ((x147 : Nat) : Int)) (b := (1 : Int)) rfl rfl (by omega)) rfl) rfl <| oA rfl rfl <| RJ_nil <| nR ⟨n, (Md.tick (Md.doS x146 (ByteArray.mk #[104, 105, 103, 104]) ((⟨(1 : Int), ((x147 : Nat) : Int), (0 : UInt64)⟩ : api_Task)))), (x147 + 1)⟩ h ⟨rfl, True.intro⟩ (t1_ (t1_ (t1_ (t1_ (t1_ (eD eR))))))
                 ·
                  replace h := ite_f hg44 h
                  exact CJ_exit <| QJ_then_exit <| QJ_round_exit <| QJ_block_here <| cR x146 (Option.some.inj h).symm True.intro eR
               ·
                rintro a145 hy152
                replace h := seq_inl hK142 hy152
                show CJ _ _ _ _ _ (([] : Slots) ++ forget _ _) (MapP X7.1 a145 :: _)
                refine sR <| oM rfl rfl ?_
                obtain ⟨hg50, h⟩ := grd_de h
                refine oO <| O_call (c_AnswersP hg50) rfl Try.call15 (Dels.cons del0 Dels.nil) rfl fun X153 _ => RJ_pure (len_of (Reads.sl _ _ _) del0) fun hlen155 => oV (V_len rfl foc0 (Reads.sl _ _ _) Try.runUnderlying46) rfl <| oP (P_eql (a := (((Md.told a145).length : Nat) : Int)) (b := (0 : Int)) rfl rfl) rfl <| oM rfl rfl <| RJ_splitP 232 rfl bT_dec (fun hg51B hg51 => ?_) (fun hg51B hg51 => ?_)
                ·
                 replace h := ite_t hg51 h
                 obtain ⟨r156, hr157, h⟩ := bind_e h
                 refine RJ_gy (GY_yes rfl rfl rfl hg51B) <| O_call (L_volumegrouplaw23_awake hr157) rfl Try.call16 Dels.nil rfl fun _ _ => oP (P_pickT rfl hg51B rfl) rfl <| oA rfl rfl <| nT <| CJ_ret ?_
                 cases h
                 exact fE (res1 Try.results3 rfl) () (t5_ (eD (eD (eD (eD (eD eR))))))
                ·
                 replace h := ite_f hg51 h
                 refine RJ_gn (GY_no rfl rfl rfl hg51B) rfl rfl <| oP (P_pickF rfl hg51B rfl) rfl <| oA rfl rfl <| nT <| CJ_ret ?_
                 cases h
                 exact fE (res1 Try.results3 rfl) () (t5_ (eD (eD (eD (eD (eD eR))))))
end Go.Proofs
namespace Go.Proofs
open Go.VG
theorem seqL {α ρ : Type} {a : α} {k : α → Option ρ} : seqO (some (.inl a)) k = k a := rfl
theorem i64of {x : Int} (h : -9223372036854775808 ≤ x ∧ x ≤ 9223372036854775807) : inI64 x = true := inI64_iff.2 h
theorem new_ok (l : List Int) : ∃ L, volumegroupmake_New l = some (L, 0) ∧ L.length ≤ 1000 := by
  unfold volumegroupmake_New
  by_cases h : (1000 : Int) < ((l.length : Nat) : Int)
  · rw [if_pos h]; exact ⟨_, rfl, by simp; omega⟩
  · rw [if_neg h]; exact ⟨_, rfl, by omega⟩
theorem raw_ok {L : List Int} {a : Int} (hL : L.length ≤ 1000) (h : 0 ≤ a ∧ a ≤ 1000) : ∃ v b, volumegroupmake_Src_Raw L a = some (v, b) ∧ 0 ≤ b ∧ b ≤ 1000 := by
  unfold volumegroupmake_Src_Raw
  by_cases h1 : ((L.length : Nat) : Int) ≤ a
  · rw [if_pos h1]; exact ⟨_, _, rfl, h.1, h.2⟩
  · rw [if_neg h1, grd_t (i64of (by omega)), grd_t (i64of (by omega)), grd_t (decide_eq_true (by omega))]
    exact ⟨_, _, rfl, by omega, by omega⟩
theorem srcN_ok {L : List Int} {a n : Int} (hL : L.length ≤ 1000) (h : 0 ≤ a ∧ a ≤ 1000) (hn : n ≤ 1000000000) : ∃ v b, volumegroupmake_Src_N L a n = some (v, b) ∧ (0 ≤ b ∧ b ≤ 1000) ∧ 0 ≤ v ∧ (1 ≤ n → v < n) ∧ (n < 1 → v = 0) := by
  unfold volumegroupmake_Src_N
  by_cases h1 : n < 1
  · rw [if_pos h1]; exact ⟨_, _, rfl, h, Int.le_refl _, fun x => by omega, fun _ => rfl⟩
  · rw [if_neg h1]
    obtain ⟨v, b, h2, h3⟩ := raw_ok hL h
    rw [h2]; simp only [Option.bind_some]
    have h4 := Int.natAbs_tmod v n
    have h5 := Nat.mod_lt v.natAbs (show 0 < n.natAbs by omega)
    by_cases h6 : v.tmod n < 0
    · rw [if_pos h6, grd_t (i64of (by omega))]
      exact ⟨_, _, rfl, h3, by omega, fun _ => by omega, fun x => by omega⟩
    · rw [if_neg h6]
      exact ⟨_, _, rfl, h3, by omega, fun _ => by omega, fun x => by omega⟩
end Go.Proofs
namespace Go.Proofs
open Go.VG
theorem srcRange_ok {L : List Int} {a lo hi : Int} (hL : L.length ≤ 1000) (h : 0 ≤ a ∧ a ≤ 1000) (h1 : -1000000 ≤ lo ∧ lo ≤ hi ∧ hi ≤ 1000000) : ∃ v b, volumegroupmake_Src_Range L a lo hi = some (v, b) ∧ (0 ≤ b ∧ b ≤ 1000) ∧ lo ≤ v ∧ v ≤ hi := by
  unfold volumegroupmake_Src_Range
  obtain ⟨v, b, h2, h3, h4, h5, -⟩ := srcN_ok (n := hi - lo + 1) hL h (by omega)
  have := h5 (by omega)
  rw [grd_t (i64of (by omega)), grd_t (i64of (by omega)), h2]; simp only [Option.bind_some]
  rw [grd_t (i64of (by omega))]
  exact ⟨_, _, rfl, h3, by omega, by omega⟩
end Go.Proofs
namespace Go.Proofs
open Go.VG
abbrev FmO (wl wh : List Wt) (tks : Nat) (told : List api_Answer) (cl wr : Nat) (sl sh : Bool) : Md := Fm (List.replicate 12 0) (List.replicate 8 0) sl sh wl wh tks told cl wr
def tkw : Nat → List (Nat × UInt64) → List Tw
  | _, [] => []
  | i, p :: l => (i, p.1, p.2) :: tkw (i + 1) l
theorem tkw_app : ∀ (l : List (Nat × UInt64)) (i : Nat) (p : Nat × UInt64), tkw i (l ++ [p]) = tkw i l ++ [(i + l.length, p.1, p.2)]
  | [], i, p => by simp [tkw]
  | q :: l, i, p => by simp [tkw, tkw_app l (i + 1) p]; omega
theorem tkw_fst : ∀ (l : List (Nat × UInt64)) (i : Nat), (tkw i l).map (·.1) = List.range' i l.length
  | [], _ => rfl
  | q :: l, i => by simp [tkw, tkw_fst l (i + 1), List.range'_succ]
theorem tkw_pl {l : List (Nat × UInt64)} (h : ∀ p ∈ l, p.1 < 6) : ∀ i, ∀ p ∈ tkw i l, p.2.1 < 6 := by
  induction l with
  | nil => intro i p hp; cases hp
  | cons q l ih =>
    intro i p hp
    rcases List.mem_cons.1 hp with rfl | hp
    · exact h q List.mem_cons_self
    · exact ih (fun p hp => h p (List.mem_cons_of_mem _ hp)) (i + 1) p hp
theorem tkw_len (l : List (Nat × UInt64)) (i : Nat) : (tkw i l).length = l.length := by have := congrArg List.length (tkw_fst l i); simpa using this
theorem once_l1 {L : List Int} {r2 : List Int × Nat} (h2 : r2.1 = L) (hL : L.length ≤ 1000) : ∀ (N : Nat) (x : Int) (k : Nat) (ps : List (Nat × UInt64)) (cl : Nat), k < N → 0 ≤ x ∧ x ≤ 1000 → (∀ p ∈ ps, p.1 < 6) → cl + k < 4000 → ps.length + k ≤ 1000 →
    ∃ (ps' : List (Nat × UInt64)) (x' : Int), (∀ p ∈ ps', p.1 < 6) ∧ ps'.length = ps.length + k ∧ volumegrouplaw23_MapperOnce_l1 r2 N x (FmO [] ((tkw 1 ps).map wtw) ps.length [] cl 0 true true) (W6 (tkw 1 ps)) (k : Int) ps.length =
      some (.inl (ps'.length, x', W6 (tkw 1 ps'), FmO [] ((tkw 1 ps').map wtw) ps'.length [] (cl + k) 0 true true)) := by
  intro N
  induction N with
  | zero => intro x k ps cl h; omega
  | succ N ih =>
    intro x k ps cl hk hx hp hc hlen
    unfold volumegrouplaw23_MapperOnce_l1 volumegrouplaw23_MapperOnce_l1_b
    cases k with
    | zero => rw [if_neg (by omega)]; exact ⟨ps, x, hp, rfl, rfl⟩
    | succ k =>
      rw [if_pos (by omega), h2]
      obtain ⟨a, y, e1, hy, ha, ha2, -⟩ := srcN_ok (n := 6) hL hx (by omega)
      have ha3 := ha2 (by omega)
      rw [e1]; simp only [Option.bind_some]
      obtain ⟨v, z, e2, hz, hv1, hv2⟩ := srcRange_ok (lo := 1) (hi := 1000) hL hy (by omega)
      rw [e2]; simp only [Option.bind_some]
      obtain ⟨a, rfl⟩ := Int.eq_ofNat_of_zero_le ha
      have hin : inT ⟨2, (a : Int), to_u64 v⟩ := ⟨by show -9223372036854775808 ≤ (a : Int); omega, by show (a : Int) ≤ 9223372036854775807; omega⟩
      have hcl : (FmO [] ((tkw 1 ps).map wtw) ps.length [] cl 0 true true).cl < 4000 := by show cl < 4000; omega
      rw [grd_t (decide_eq_true ⟨hcl, hin⟩)]
      obtain ⟨q1, q2, q3⟩ := fm_wait (b0 := List.replicate 12 0) (b1 := List.replicate 8 0) (wl := []) (wh := (tkw 1 ps).map wtw) (tks := ps.length) (cl := cl) (wr := 0) (told := []) (v := to_u64 v) (a := a)
      simp only [lt]
      rw [q1, q2, q3, grd_t (inN64_of (by omega)), if_neg (by simp), grd_t (decide_eq_true (by omega)), grd_t (i64of (by omega))]
      have e3 : (tkw 1 ps).map wtw ++ [wtw (ps.length + 1, a, to_u64 v)] = (tkw 1 (ps ++ [(a, to_u64 v)])).map wtw := by rw [tkw_app, List.map_append, Nat.add_comm 1]; rfl
      have e4 : (W6 (tkw 1 ps)).set ((a : Int)).toNat (to_u64 v) = W6 (tkw 1 (ps ++ [(a, to_u64 v)])) := by rw [tkw_app]; unfold W6; rw [List.foldl_append]; rfl
      have e5 : Md.tick (Fm (List.replicate 12 0) (List.replicate 8 0) true true [] ((tkw 1 ps).map wtw ++ [wtw (ps.length + 1, a, to_u64 v)]) (ps.length + 1) [] cl 0) = FmO [] ((tkw 1 (ps ++ [(a, to_u64 v)])).map wtw) (ps ++ [(a, to_u64 v)]).length [] (cl + 1) 0 true true := by rw [e3]; simp only [List.length_append]; rfl
      rw [e4, e5]
      obtain ⟨ps', x', g1, g2, g3⟩ := ih z k (ps ++ [(a, to_u64 v)]) (cl + 1) (by omega) hz (fun p hp' => by
        rcases List.mem_append.1 hp' with h | h
        · exact hp p h
        · rw [List.mem_singleton] at h; subst h; show a < 6; omega) (by omega) (by simp; omega)
      refine ⟨ps', x', g1, by rw [g2]; simp; omega, ?_⟩
      rw [show ((k + 1 : Nat) : Int) - 1 = (k : Int) by omega, show ps.length + 1 = (ps ++ [(a, to_u64 v)]).length by simp, g3, show cl + 1 + k = cl + (k + 1) by omega]
def seenF (s : List Int) (ks : List Nat) : List Int := ks.foldl (fun s k => s.set k (s.getD k 0 + 1)) s
theorem seenF_len (ks : List Nat) : ∀ s, (seenF s ks).length = s.length := by
  induction ks with
  | nil => intro s; rfl
  | cons k ks ih => intro s; show (seenF (s.set k _) ks).length = _; rw [ih]; simp
theorem seenF_at (ks : List Nat) : ∀ s j, (∀ k ∈ ks, k < s.length) → (seenF s ks).getD j 0 = s.getD j 0 + (ks.count j : Nat) := by
  induction ks with
  | nil => intro s j _; simp [seenF]
  | cons k ks ih =>
    intro s j h
    show (seenF (s.set k (s.getD k 0 + 1)) ks).getD j 0 = _
    rw [ih _ _ (fun x hx => by simpa using h x (List.mem_cons_of_mem _ hx))]
    have hk := h k List.mem_cons_self
    by_cases e : j = k
    · subst e
      rw [List.count_cons_self]
      have : (s.set j (s.getD j 0 + 1)).getD j 0 = s.getD j 0 + 1 := by simp [List.getD, hk]
      rw [this]; omega
    · rw [List.count_cons_of_ne (Ne.symm e)]
      have : (s.set k (s.getD k 0 + 1)).getD j 0 = s.getD j 0 := by simp [List.getD, List.getElem?_set, Ne.symm e]
      rw [this]
theorem once_l4 {a31 : Nat × Int × List UInt64 × Md} {a66 : List ByteArray} {x76 : Md} {x78 : Nat} {ts : List Tw} (ht : Md.told (Md.tick (Md.rsS x76 (a66.getD x78 ByteArray.empty))) = ts.map answ) (hn : ∀ p ∈ ts, 1 ≤ p.1 ∧ p.1 ≤ a31.1) (ha : a31.1 ≤ 1000) :
    ∀ (N i : Nat) (s : List Int), ts.length - i < N → i ≤ ts.length → s.length = a31.1 + 1 → (∀ j, 0 ≤ s.getD j 0 ∧ s.getD j 0 ≤ 2000 + i) → ts.length ≤ 2000 → volumegrouplaw23_MapperOnce_l4 a31 a66 x76 x78 N s i = some (.inl (seenF s ((ts.drop i).map (·.1)))) := by
  intro N
  induction N with
  | zero => intro i s h; omega
  | succ N ih =>
    intro i s hN hi hs hb hl
    unfold volumegrouplaw23_MapperOnce_l4 volumegrouplaw23_MapperOnce_l4_b
    simp only [lt]
    rw [ht, List.length_map]
    by_cases h : i < ts.length
    · rw [if_pos (by omega)]
      have e : (ts.map answ).getD i ⟨false, 0, 0, 0⟩ = answ (ts.getD i (0, 0, 0)) := by simp [List.getD, h]
      have hp : ts.getD i (0, 0, 0) ∈ ts := by simp [List.getD, h]
      obtain ⟨h1, h2⟩ := hn _ hp
      rw [e]
      have hd : ts.drop i = ts.getD i (0, 0, 0) :: ts.drop (i + 1) := dropD _ h
      generalize ts.getD i (0, 0, 0) = p at h1 h2 hd
      have e2 : (answ p).Ticket = (p.1 : Int) := rfl
      have e3 : (answ p).Done = true := rfl
      have e4 : (answ p).Error = 0 := rfl
      rw [e2, e3, e4, if_neg (by simp; omega), grd_t (decide_eq_true (by omega))]
      have hbp := hb p.1
      simp only [Int.toNat_natCast]
      rw [grd_t (i64of (by omega)), grd_t (decide_eq_true (by omega)), ih (i + 1) _ (by omega) (by omega) (by simpa using hs) (fun j => ?_) hl, hd]
      · rfl
      · have hbj := hb j
        by_cases e5 : j = p.1
        · subst e5
          have : (s.set p.1 (s.getD p.1 0 + 1)).getD p.1 0 = s.getD p.1 0 + 1 := by simp [List.getD, show p.1 < s.length by omega]
          rw [this]; omega
        · have : (s.set p.1 (s.getD p.1 0 + 1)).getD j 0 = s.getD j 0 := by simp [List.getD, List.getElem?_set, Ne.symm e5]
          rw [this]; omega
    · rw [if_neg (by omega), List.drop_of_length_le (by omega)]; rfl
theorem once_l5 {a31 : Nat × Int × List UInt64 × Md} {a75 : List Int × Md} (hl : a75.1.length = a31.1 + 1) (ha : a31.1 ≤ 1000) (h : ∀ j, 1 ≤ j → j ≤ a31.1 → a75.1.getD j 0 = 1) : ∀ (N i : Nat), a31.1 + 1 - i < N → i ≤ a31.1 + 1 → 1 ≤ i → volumegrouplaw23_MapperOnce_l5 a31 a75 N i = some (.inl ()) := by
  intro N
  induction N with
  | zero => intro i h; omega
  | succ N ih =>
    intro i hN hi h1
    unfold volumegrouplaw23_MapperOnce_l5 volumegrouplaw23_MapperOnce_l5_b
    by_cases hc : i ≤ a31.1
    · rw [if_pos (by omega), grd_t (decide_eq_true (by omega)), if_neg (by rw [h i h1 hc]; simp), grd_t (inN64_of (by omega)), ih (i + 1) (by omega) (by omega) (by omega)]
    · rw [if_neg (by omega)]
theorem once_l6 {a31 : Nat × Int × List UInt64 × Md} {b0 b1 : List UInt64} {tks wr : Nat} {told : List api_Answer} (h0 : b0.length = 12) (h1 : b1.length = 8) (hw : ∀ a, a < 6 → a31.2.2.1.getD a 0 = if a < 3 then b0.getD (5 + a) 0 else b1.getD (a - 3) 0) :
    ∀ (N i cl : Nat), 6 - i < N → i ≤ 6 → cl + 6 < 4000 + i → volumegrouplaw23_MapperOnce_l6 a31 N (Fm b0 b1 false false [] [] tks told cl wr) i = some (.inl (Fm b0 b1 false false [] [] tks told (cl + (6 - i)) wr)) := by
  intro N
  induction N with
  | zero => intro i cl h; omega
  | succ N ih =>
    intro i cl hN hi hc
    unfold volumegrouplaw23_MapperOnce_l6 volumegrouplaw23_MapperOnce_l6_b
    by_cases h : i < 6
    · obtain ⟨q1, q2, q3⟩ := fm_read (b0 := b0) (b1 := b1) (wl := []) (wh := []) (tks := tks) (cl := cl) (wr := wr) (told := told) h h0 h1
      have hin : inT ⟨1, (i : Int), 0⟩ := ⟨by show -9223372036854775808 ≤ (i : Int); omega, by show (i : Int) ≤ 9223372036854775807; omega⟩
      have hcl : (Fm b0 b1 false false [] [] tks told cl wr).cl < 4000 := by show cl < 4000; omega
      rw [if_pos (by omega), grd_t (decide_eq_true ⟨hcl, hin⟩)]
      simp only [lt]
      rw [q1, q2, q3, if_neg (by simp), if_neg (by simp), if_neg (by simp), if_neg (by rw [hw i h]; simp)]
      have e : Md.tick (Fm b0 b1 false false [] [] tks told cl wr) = Fm b0 b1 false false [] [] tks told (cl + 1) wr := rfl
      rw [e, ih (i + 1) (cl + 1) (by omega) (by omega) (by omega), show cl + 1 + (6 - (i + 1)) = cl + (6 - i) by omega]
    · rw [if_neg (by omega), show cl + (6 - i) = cl by omega]
theorem count_range'' (j : Nat) : ∀ (n s : Nat), (List.range' s n).count j = if s ≤ j ∧ j < s + n then 1 else 0
  | 0, s => by rw [if_neg (by omega)]; rfl
  | n + 1, s => by
    rw [List.range'_succ, List.count_cons, count_range'' j n (s + 1), show (if (s == j) = true then 1 else 0) = if s = j then 1 else 0 by simp]
    repeat' split
    all_goals omega
theorem count_range' {j n : Nat} (h1 : 1 ≤ j) (h2 : j ≤ n) : (List.range' 1 n).count j = 1 := by rw [count_range'', if_pos (by omega)]
theorem filter_sB0 : ∀ (ts : List Tw) (b : List UInt64), (ts.filter lowp).foldl sB0 b = ts.foldl sB0 b
  | [], _ => rfl
  | p :: ts, b => by
    by_cases e : p.2.1 < 3
    · rw [List.filter_cons_of_pos (by simp [lowp, e]), List.foldl_cons, List.foldl_cons, filter_sB0 ts]
    · rw [List.filter_cons_of_neg (by simp [lowp, e]), List.foldl_cons, filter_sB0 ts, show sB0 b p = b from if_neg e]
theorem filter_sB1 : ∀ (ts : List Tw) (b : List UInt64), (ts.filter lowp).foldl sB1 b = b
  | [], _ => rfl
  | p :: ts, b => by
    by_cases e : p.2.1 < 3
    · rw [List.filter_cons_of_pos (by simp [lowp, e]), List.foldl_cons, show sB1 b p = b from if_pos e, filter_sB1 ts]
    · rw [List.filter_cons_of_neg (by simp [lowp, e]), filter_sB1 ts]
theorem count_parts (ts : List Tw) (q : Tw → Bool) (j : Nat) : ((ts.filter fun p => !q p).map (·.1)).count j + ((ts.filter q).map (·.1)).count j = (ts.map (·.1)).count j := by
  induction ts with
  | nil => rfl
  | cons p ts ih =>
    cases h : q p with
    | true => rw [List.filter_cons_of_neg (by simp [h]), List.filter_cons_of_pos h, List.map_cons, List.map_cons, List.count_cons, List.count_cons]; omega
    | false => rw [List.filter_cons_of_pos (by simp [h]), List.filter_cons_of_neg (by simp [h]), List.map_cons, List.map_cons, List.count_cons, List.count_cons]; omega
section
variable {b0 b1 : List UInt64} {wl wh : List Wt} {tks cl wr : Nat} {told : List api_Answer}
theorem fm_rsH {sl : Bool} : (Fm b0 b1 sl true wl wh tks told cl wr).rsE nHigh = 0 ∧ (Fm b0 b1 sl true wl wh tks told cl wr).rsS nHigh = wh.foldl Md.rsT (Fm b0 b1 sl false wl [] tks told cl wr) := by
  cases sl
  · exact ⟨by kernel_rfl, by kernel_rfl⟩
  · exact ⟨by kernel_rfl, by kernel_rfl⟩
theorem fm_rsL {sh : Bool} : (Fm b0 b1 true sh wl wh tks told cl wr).rsE nLow = 0 ∧ (Fm b0 b1 true sh wl wh tks told cl wr).rsS nLow = wl.foldl Md.rsT (Fm b0 b1 false sh [] wh tks told cl wr) := by
  cases sh
  · exact ⟨by kernel_rfl, by kernel_rfl⟩
  · exact ⟨by kernel_rfl, by kernel_rfl⟩
end
theorem once_l3 {a31 : Nat × Int × List UInt64 × Md} {second : Bool} {ts : List Tw} {cl : Nat} (ha : a31.1 = ts.length) (hl : ts.length ≤ 1000) (hn : ∀ p ∈ ts, 1 ≤ p.1 ∧ p.1 ≤ ts.length) (hp : ∀ p ∈ ts, p.2.1 < 6) (hc : ts.map (·.1) = List.range' 1 ts.length) (hcl : cl < 3900) {N : Nat} (hN : 10 < N) (hF : 900000000000 < FUEL) :
    ∃ (s : List Int) (wr : Nat), s.length = a31.1 + 1 ∧ (∀ j, 1 ≤ j → j ≤ a31.1 → s.getD j 0 = 1) ∧
      volumegrouplaw23_MapperOnce_l3 a31 (if second = true then [nLow, nHigh] else [nHigh, nLow]) N (FmO [] (ts.map wtw) ts.length [] cl 0 true true) (List.replicate (a31.1 + 1) 0) 0 =
        some (.inl (s, Fm (ts.foldl sB0 (List.replicate 12 0)) (ts.foldl sB1 (List.replicate 8 0)) false false [] [] ts.length [] (cl + 4) wr)) := by
  obtain ⟨N, rfl⟩ : ∃ n, N = n + 3 := ⟨N - 3, by omega⟩
  have hrep : ∀ j, (List.replicate (a31.1 + 1) (0 : Int)).getD j 0 = 0 := fun j => by simp [List.getD, List.getElem?_replicate]; split <;> rfl
  have hr0 : ∀ j, 0 ≤ (List.replicate (a31.1 + 1) (0 : Int)).getD j 0 ∧ (List.replicate (a31.1 + 1) (0 : Int)).getD j 0 ≤ 2000 + ((0 : Nat) : Int) := fun j => by rw [hrep]; omega
  have hcnt : ∀ j, 1 ≤ j → j ≤ ts.length → (ts.map (·.1)).count j = 1 := fun j h1 h2 => by rw [hc]; exact count_range' h1 h2
  cases second with
  | true =>
    rw [if_pos rfl]
    -- low first: nothing waits there; then high
    obtain ⟨p1, p2⟩ := fm_rsL (b0 := List.replicate 12 0) (b1 := List.replicate 8 0) (sh := true) (wl := []) (wh := ts.map wtw) (tks := ts.length) (cl := cl) (wr := 0) (told := [])
    rw [List.foldl_nil] at p2
    unfold volumegrouplaw23_MapperOnce_l3 volumegrouplaw23_MapperOnce_l3_b
    have g0 : ([nLow, nHigh] : List ByteArray).getD 0 ByteArray.empty = nLow := rfl
    have g1 : ([nLow, nHigh] : List ByteArray).getD 1 ByteArray.empty = nHigh := rfl
    have c0 : (FmO [] (ts.map wtw) ts.length [] cl 0 true true).cl < 4000 := by show cl < 4000; omega
    rw [if_pos (by decide), grd_t (by decide), grd_t (decide_eq_true c0), g0, p1, if_neg (by simp)]
    have t0 : Md.told (Md.tick (Md.rsS (FmO [] (ts.map wtw) ts.length [] cl 0 true true) (([nLow, nHigh] : List ByteArray).getD 0 ByteArray.empty))) = ([] : List Tw).map answ := by rw [g0, p2]; rfl
    rw [once_l4 t0 (by simp) (by omega) FUEL 0 _ (by simp; omega) (by simp) (by simp) hr0 (by simp), p2]
    have c1 : (Md.tick (Fm (List.replicate 12 0) (List.replicate 8 0) false true [] (ts.map wtw) ts.length [] cl 0)).cl < 4000 := by show cl + 1 < 4000; omega
    rw [grd_t (decide_eq_true c1)]
    simp only [seqL]
    have e1 : Md.tick (Md.anS (Md.tick (Fm (List.replicate 12 0) (List.replicate 8 0) false true [] (ts.map wtw) ts.length [] cl 0))) = Fm (List.replicate 12 0) (List.replicate 8 0) false true [] (ts.map wtw) ts.length [] (cl + 2) 0 := rfl
    rw [e1]
    have e2 : seenF (List.replicate (a31.1 + 1) (0 : Int)) ((([] : List Tw).drop 0).map (·.1)) = List.replicate (a31.1 + 1) 0 := rfl
    rw [e2]
    obtain ⟨p3, p4⟩ := fm_rsH (b0 := List.replicate 12 0) (b1 := List.replicate 8 0) (sl := false) (wl := []) (wh := ts.map wtw) (tks := ts.length) (cl := cl + 2) (wr := 0) (told := [])
    obtain ⟨wr, p5⟩ := fm_foldB (wl := []) (wh := []) (tks := ts.length) (cl := cl + 2) ts (List.replicate 12 0) (List.replicate 8 0) [] 0 hp (by simp) (by simp)
    rw [p5, List.nil_append] at p4
    unfold volumegrouplaw23_MapperOnce_l3 volumegrouplaw23_MapperOnce_l3_b
    have c2 : (Fm (List.replicate 12 0) (List.replicate 8 0) false true [] (ts.map wtw) ts.length [] (cl + 2) 0).cl < 4000 := by show cl + 2 < 4000; omega
    rw [if_pos (by decide), grd_t (by decide), grd_t (decide_eq_true c2), show (0 + 1) = 1 from rfl, g1, p3, if_neg (by simp)]
    have t1 : Md.told (Md.tick (Md.rsS (Fm (List.replicate 12 0) (List.replicate 8 0) false true [] (ts.map wtw) ts.length [] (cl + 2) 0) (([nLow, nHigh] : List ByteArray).getD 1 ByteArray.empty))) = ts.map answ := by rw [g1, p4]; rfl
    rw [once_l4 t1 (by rw [ha]; exact hn) (by omega) FUEL 0 _ (by omega) (by omega) (by simp) hr0 (by omega), p4]
    have c3 : (Md.tick (Fm (ts.foldl sB0 (List.replicate 12 0)) (ts.foldl sB1 (List.replicate 8 0)) false false [] [] ts.length (ts.map answ) (cl + 2) wr)).cl < 4000 := by show cl + 3 < 4000; omega
    rw [grd_t (decide_eq_true c3)]
    simp only [seqL]
    unfold volumegrouplaw23_MapperOnce_l3 volumegrouplaw23_MapperOnce_l3_b
    rw [if_neg (by decide), List.drop_zero]
    refine ⟨_, wr, seenF_len _ _ |>.trans (by simp), fun j h1 h2 => ?_, rfl⟩
    rw [seenF_at _ _ _ (fun k hk => by
      obtain ⟨p, h3, rfl⟩ := List.mem_map.1 hk
      have := hn p h3
      simp; omega), hrep, hcnt j h1 (by omega)]; rfl
  | false =>
    rw [if_neg (by decide)]
    obtain ⟨p1, p2⟩ := fm_rsH (b0 := List.replicate 12 0) (b1 := List.replicate 8 0) (sl := true) (wl := []) (wh := ts.map wtw) (tks := ts.length) (cl := cl) (wr := 0) (told := [])
    obtain ⟨wr0, p2'⟩ := fm_foldA (b0 := List.replicate 12 0) (wh := []) (tks := ts.length) (cl := cl) ts (List.replicate 8 0) [] [] 0 hp (by simp)
    rw [p2', List.nil_append, List.nil_append] at p2
    unfold volumegrouplaw23_MapperOnce_l3 volumegrouplaw23_MapperOnce_l3_b
    have g0 : ([nHigh, nLow] : List ByteArray).getD 0 ByteArray.empty = nHigh := rfl
    have g1 : ([nHigh, nLow] : List ByteArray).getD 1 ByteArray.empty = nLow := rfl
    have c0 : (FmO [] (ts.map wtw) ts.length [] cl 0 true true).cl < 4000 := by show cl < 4000; omega
    rw [if_pos (by decide), grd_t (by decide), grd_t (decide_eq_true c0), g0, p1, if_neg (by simp)]
    have t0 : Md.told (Md.tick (Md.rsS (FmO [] (ts.map wtw) ts.length [] cl 0 true true) (([nHigh, nLow] : List ByteArray).getD 0 ByteArray.empty))) = (ts.filter fun p => !lowp p).map answ := by rw [g0, p2]; rfl
    have hfl := List.length_filter_le (fun p => !lowp p) ts
    have hfl2 := List.length_filter_le lowp ts
    rw [once_l4 t0 (by rw [ha]; exact fun p hp' => hn p (List.mem_filter.1 hp').1) (by omega) FUEL 0 _ (by omega) (by omega) (by simp) hr0 (by omega), p2]
    have c1 : (Md.tick (Fm (List.replicate 12 0) (ts.foldl sB1 (List.replicate 8 0)) true false ((ts.filter lowp).map wtw) [] ts.length ((ts.filter fun p => !lowp p).map answ) cl wr0)).cl < 4000 := by show cl + 1 < 4000; omega
    rw [grd_t (decide_eq_true c1)]
    simp only [seqL]
    have e1 : Md.tick (Md.anS (Md.tick (Fm (List.replicate 12 0) (ts.foldl sB1 (List.replicate 8 0)) true false ((ts.filter lowp).map wtw) [] ts.length ((ts.filter fun p => !lowp p).map answ) cl wr0))) = Fm (List.replicate 12 0) (ts.foldl sB1 (List.replicate 8 0)) true false ((ts.filter lowp).map wtw) [] ts.length [] (cl + 2) wr0 := rfl
    rw [e1, List.drop_zero]
    obtain ⟨p3, p4⟩ := fm_rsL (b0 := List.replicate 12 0) (b1 := ts.foldl sB1 (List.replicate 8 0)) (sh := false) (wl := (ts.filter lowp).map wtw) (wh := []) (tks := ts.length) (cl := cl + 2) (wr := wr0) (told := [])
    obtain ⟨wr, p5⟩ := fm_foldB (wl := []) (wh := []) (tks := ts.length) (cl := cl + 2) (ts.filter lowp) (List.replicate 12 0) (ts.foldl sB1 (List.replicate 8 0)) [] wr0 (fun p h => hp p (List.mem_filter.1 h).1) (by simp) (by rw [fB1_len]; simp)
    rw [p5, List.nil_append, filter_sB0, filter_sB1] at p4
    unfold volumegrouplaw23_MapperOnce_l3 volumegrouplaw23_MapperOnce_l3_b
    have c2 : (Fm (List.replicate 12 0) (ts.foldl sB1 (List.replicate 8 0)) true false ((ts.filter lowp).map wtw) [] ts.length [] (cl + 2) wr0).cl < 4000 := by show cl + 2 < 4000; omega
    rw [if_pos (by decide), grd_t (by decide), grd_t (decide_eq_true c2), show (0 + 1) = 1 from rfl, g1, p3, if_neg (by simp)]
    have t1 : Md.told (Md.tick (Md.rsS (Fm (List.replicate 12 0) (ts.foldl sB1 (List.replicate 8 0)) true false ((ts.filter lowp).map wtw) [] ts.length [] (cl + 2) wr0) (([nHigh, nLow] : List ByteArray).getD 1 ByteArray.empty))) = (ts.filter lowp).map answ := by rw [g1, p4]; rfl
    have hk1 : ∀ k ∈ (ts.filter fun p => !lowp p).map (·.1), k < (List.replicate (a31.1 + 1) (0 : Int)).length := fun k hk => by
      obtain ⟨p, h3, rfl⟩ := List.mem_map.1 hk
      have := hn p (List.mem_filter.1 h3).1
      simp; omega
    have hs1 : ∀ j, 0 ≤ (seenF (List.replicate (a31.1 + 1) (0 : Int)) ((ts.filter fun p => !lowp p).map (·.1))).getD j 0 ∧ (seenF (List.replicate (a31.1 + 1) (0 : Int)) ((ts.filter fun p => !lowp p).map (·.1))).getD j 0 ≤ 2000 + ((0 : Nat) : Int) := fun j => by
      rw [seenF_at _ _ _ hk1, hrep]
      have := List.count_le_length (a := j) (l := (ts.filter fun p => !lowp p).map (·.1))
      simp only [List.length_map] at this
      omega
    rw [once_l4 t1 (by rw [ha]; exact fun p hp' => hn p (List.mem_filter.1 hp').1) (by omega) FUEL 0 _ (by omega) (by omega) (by rw [seenF_len]; simp) hs1 (by omega), p4]
    have c3 : (Md.tick (Fm (ts.foldl sB0 (List.replicate 12 0)) (ts.foldl sB1 (List.replicate 8 0)) false false [] [] ts.length ((ts.filter lowp).map answ) (cl + 2) wr)).cl < 4000 := by show cl + 3 < 4000; omega
    rw [grd_t (decide_eq_true c3)]
    simp only [seqL]
    unfold volumegrouplaw23_MapperOnce_l3 volumegrouplaw23_MapperOnce_l3_b
    rw [if_neg (by decide), List.drop_zero]
    refine ⟨_, wr, (seenF_len _ _).trans ((seenF_len _ _).trans (by simp)), fun j h1 h2 => ?_, rfl⟩
    rw [seenF_at _ _ _ (fun k hk => by
      rw [seenF_len]
      obtain ⟨p, h3, rfl⟩ := List.mem_map.1 hk
      have := hn p (List.mem_filter.1 h3).1
      simp; omega), seenF_at _ _ _ hk1, hrep]
    have h3 := count_parts ts lowp j
    rw [hcnt j h1 (by omega)] at h3
    omega
theorem rep0 (n a : Nat) : (List.replicate n (0 : UInt64)).getD a 0 = 0 := by simp only [List.getD, List.getElem?_replicate]; split <;> rfl
-- the way to the loop
def O1 : Md := Md.tick (Md.crS Mb2 nLow)
def O2 : Md := Md.tick (Md.crS O1 nHigh)
def O3 : Md := Md.tick (Md.ldS O2 nLow [⟨0, 6, nd0, 2, false⟩])
def O4 : Md := Md.tick (Md.suS O3 nLow)
def O5 : Md := Md.tick (Md.rsS O4 nLow)
def O6 : Md := Md.tick (Md.ldS O5 nHigh [⟨0, 3, nLow, 3, false⟩, ⟨3, 3, nd1, 0, false⟩])
def O7 : Md := Md.tick (Md.suS O6 nHigh)
def O8 : Md := Md.tick (Md.rsS O7 nHigh)
def O9 : Md := Md.tick (Md.suS O8 nHigh)
theorem s1 : Md.tick (Md.crS Mb2 nLow) = O1 := rfl
theorem s2 : Md.tick (Md.crS O1 nHigh) = O2 := rfl
theorem s3 : Md.tick (Md.ldS O2 nLow [⟨0, 6, nd0, 2, false⟩]) = O3 := rfl
theorem s4 : Md.tick (Md.suS O3 nLow) = O4 := rfl
theorem s5 : Md.tick (Md.rsS O4 nLow) = O5 := rfl
theorem s6 : Md.tick (Md.ldS O5 nHigh [⟨0, 3, nLow, 3, false⟩, ⟨3, 3, nd1, 0, false⟩]) = O6 := rfl
theorem s7 : Md.tick (Md.suS O6 nHigh) = O7 := rfl
theorem s8 : Md.tick (Md.rsS O7 nHigh) = O8 := rfl
theorem s9 : Md.tick (Md.suS O8 nHigh) = O9 := rfl
theorem s10 : Md.tick (Md.suS O9 nLow) = FmO [] [] 0 [] 10 0 true true := by kernel_rfl
theorem f1 : Md.crE Mb2 nLow = 0 := by kernel_rfl
theorem f2 : Md.crE O1 nHigh = 0 := by kernel_rfl
theorem f3 : Md.ldE O2 nLow [⟨0, 6, nd0, 2, false⟩] = 0 := by kernel_rfl
theorem f4 : Md.suE O3 nLow = 0 := by kernel_rfl
theorem f5 : Md.rsE O4 nLow = 0 := by kernel_rfl
theorem f6 : Md.ldE O5 nHigh [⟨0, 3, nLow, 3, false⟩, ⟨3, 3, nd1, 0, false⟩] = 0 := by kernel_rfl
theorem f7 : Md.suE O6 nHigh = 0 := by kernel_rfl
theorem f8 : Md.rsE O7 nHigh = 0 := by kernel_rfl
theorem f9 : Md.suE O8 nHigh = 0 := by kernel_rfl
theorem f10 : Md.suE O9 nLow = 0 := by kernel_rfl
theorem g0 : Mb2.cl < 4000 := by decide +kernel
theorem g1 : O1.cl < 4000 := by decide +kernel
theorem g2 : O2.cl < 4000 := by decide +kernel
theorem g3 : O3.cl < 4000 := by decide +kernel
theorem g4 : O4.cl < 4000 := by decide +kernel
theorem g5 : O5.cl < 4000 := by decide +kernel
theorem g6 : O6.cl < 4000 := by decide +kernel
theorem g7 : O7.cl < 4000 := by decide +kernel
theorem g8 : O8.cl < 4000 := by decide +kernel
theorem g9 : O9.cl < 4000 := by decide +kernel
theorem mapperOnce (l : List Int) (second : Bool) : volumegrouplaw23_MapperOnce l second = some true := by
  obtain ⟨L, e1, hL⟩ := new_ok l
  unfold volumegrouplaw23_MapperOnce
  rw [e1]; simp only [Option.bind_some, lt]
  rw [grd_t (decide_eq_true g0), f1, if_neg (by decide), s1, grd_t (decide_eq_true g1), f2, if_neg (by decide), s2, grd_t (decide_eq_true ⟨g2, by decide⟩), f3, if_neg (by decide), s3, grd_t (decide_eq_true g3), f4, if_neg (by decide), s4, grd_t (decide_eq_true g4), f5, if_neg (by decide), s5]
  rw [grd_t (decide_eq_true ⟨g5, by decide⟩), f6, if_neg (by decide), s6, grd_t (decide_eq_true g6), f7, if_neg (by decide), s7, grd_t (decide_eq_true g7), f8, if_neg (by decide), s8, grd_t (decide_eq_true g8), f9, if_neg (by decide), s9, grd_t (decide_eq_true g9), f10, if_neg (by decide), s10]
  obtain ⟨n, x, e2, hx, hn1, hn2, -⟩ := srcN_ok (a := ((0 : Nat) : Int)) (n := 20) hL (by omega) (by omega)
  have hn3 := hn2 (by omega)
  rw [e2]; simp only [Option.bind_some]
  obtain ⟨k, rfl⟩ := Int.eq_ofNat_of_zero_le hn1
  have hF := fuel_big
  obtain ⟨ps, x', hp, hlen, e3⟩ := once_l1 (r2 := (L, 0)) rfl hL FUEL x k [] 10 (by omega) hx (fun p h => by cases h) (by omega) (by simp; omega)
  have e4 : W6 (tkw 1 []) = List.replicate 6 0 := rfl
  rw [e4] at e3
  have hk : ps.length = k := by simpa using hlen
  rw [show FmO [] ((tkw 1 ([] : List (Nat × UInt64))).map wtw) ([] : List (Nat × UInt64)).length [] 10 0 true true = FmO [] [] 0 [] 10 0 true true from rfl, show ([] : List (Nat × UInt64)).length = 0 from rfl] at e3
  rw [e3]; simp only [seqL]
  have hts := tkw_len ps 1
  have hf := tkw_fst ps 1
  have hpl := tkw_pl hp 1
  have hin : ∀ p ∈ tkw 1 ps, 1 ≤ p.1 ∧ p.1 ≤ (tkw 1 ps).length := fun p h => by
    have : p.1 ∈ (tkw 1 ps).map (·.1) := List.mem_map.2 ⟨p, h, rfl⟩
    rw [hf, List.mem_range'_1] at this
    omega
  obtain ⟨s, wr, h1, h2, h3⟩ := once_l3 (a31 := (ps.length, x', W6 (tkw 1 ps), FmO [] ((tkw 1 ps).map wtw) ps.length [] (10 + k) 0 true true)) (second := second) (ts := tkw 1 ps) (cl := 10 + k) (by rw [hts]) (by omega) hin hpl (by rw [hf, hts]) (by omega) (N := FUEL) (by omega) hF
  have hb : (if second = true then some [nLow, nHigh] else some [nHigh, nLow] : Option (List ByteArray)) = some (if second = true then [nLow, nHigh] else [nHigh, nLow]) := by split <;> rfl
  rw [hb]; simp only [Option.bind_some]
  rw [grd_t (inN64_of (by omega)), grd_t (inLen_of (by omega))]
  rw [hts] at h3
  rw [h3]; simp only [seqL]
  rw [once_l5 (a75 := (s, _)) h1 (by simp only; omega) h2 FUEL 1 (by simp only; omega) (by simp only; omega) (by omega)]; simp only [seqL]
  rw [once_l6 (by rw [fB0_len]; simp) (by rw [fB1_len]; simp) (fun a ha => by
    exact W6_at (tkw 1 ps) (List.replicate 6 0) (List.replicate 12 0) (List.replicate 8 0) hpl (by simp) (by simp) (by simp) (fun a ha => by
      rw [rep0]
      split
      · exact (rep0 _ _).symm
      · exact (rep0 _ _).symm) a ha) FUEL 0 (10 + k + 4) (by omega) (by omega) (by omega)]; simp only [seqL]
  rw [grd_t (decide_eq_true (by show 10 + k + 4 + 6 < 4000; omega)), if_pos (by rfl), awake23_eq]; rfl
end Go.Proofs
