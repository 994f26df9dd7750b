/- MapperCycles, part 3 of the proof: LTab, LRef22, LMapT, PMapS, PMapT, PMapT2, PMapT3, PMapW, VgRm, LSpan, LMake, PMake, PSpans, PGood, PGood2, PArr, CMap0, CMap1, PMapQ, CMap2. -/
import Derived.WalkKit
import Derived.Orders
import Derived.RangeFuncLeaves
import Derived.RangeFuncCalls
import Derived.TacticsIn
import Derived.Handy
import Derived.OrdersHeld
import Derived.OrdersIn
import Derived.Below
import Derived.OpenShut
import Derived.Deep.Slices
import Derived.Scope
import Derived.RangeFuncRecord
import Derived.ChangeKeysEq
import Derived.Laws.BytesArg
import Derived.KernelRfl
import Derived.Maps.RangeRun
import Derived.LaidEql
import Derived.ProofKit
import Derived.ShutString
import Derived.ChangeOld
import Derived.Test.YtbmipeiphoghcaaChecked
import Derived.Test.YtbmipeiphoghcaaRows
import Derived.Test.YtbmipeiphoghcaaZMapperCycles2
set_option linter.unusedSimpArgs false
set_option linter.unusedVariables false
set_option maxRecDepth 20000
set_option maxHeartbeats 4000000
namespace Go.Proofs
open Go.VG
@[ext] structure api_Target where
  Start : Int
  Length : Int
  On : ByteArray
  Offset : Int
  Fail : Bool
  deriving DecidableEq
abbrev tyapi_Target : Ty api_Target := { T := 33, sz := 5, enc := fun x => [.int .i64 x.Start, .int .i64 x.Length, .string x.On, .int .i64 x.Offset, .bool x.Fail], dflt := ⟨0, 0, ByteArray.empty, 0, false⟩, len := fun _ => rfl, one := fun _ => rfl, pos := by decide }
theorem ok_tyapi_Target : ElemOk Try.prog tyapi_Target 48 := ⟨Try.t33, .agg #[.int .i64 0, .int .i64 0, .string ByteArray.empty, .int .i64 0, .bool false], by kernel_rfl, rfl, rfl, rfl, rfl⟩
theorem bs_45_1_0 (v0 : ByteArray) : BuildsSlice Try.prog 45 1 [(0, .string v0)] 9 [.string v0] := fun w => by kernel_rfl
def table_Check_l1_b (l : List api_Target) (rec : Nat → Int → Option ((Unit) ⊕ Int)) (x6 : Nat) (x7 : Int) : Option ((Unit) ⊕ Int) :=
  if (((x6 : Nat) : Int) < ((l.length : Nat) : Int)) then
    if (((l.getD x6 (⟨0, 0, ByteArray.empty, 0, false⟩ : api_Target))).Start ≠ x7) then
      some (.inr (2 : Int))
    else
      if ((((l.getD x6 (⟨0, 0, ByteArray.empty, 0, false⟩ : api_Target))).Length < (1 : Int)) ∨ ((16777216 : Int) < ((l.getD x6 (⟨0, 0, ByteArray.empty, 0, false⟩ : api_Target))).Length)) then
        some (.inr (1 : Int))
      else
        if ((((l.getD x6 (⟨0, 0, ByteArray.empty, 0, false⟩ : api_Target))).Fail = true ∧ (((l.getD x6 (⟨0, 0, ByteArray.empty, 0, false⟩ : api_Target))).On ≠ (ByteArray.mk #[]))) ∨ ((((l.getD x6 (⟨0, 0, ByteArray.empty, 0, false⟩ : api_Target))).On = (ByteArray.mk #[])) ∧ (((l.getD x6 (⟨0, 0, ByteArray.empty, 0, false⟩ : api_Target))).Offset ≠ (0 : Int)))) then
          some (.inr (2 : Int))
        else
          if ((((l.getD x6 (⟨0, 0, ByteArray.empty, 0, false⟩ : api_Target))).Offset < (0 : Int)) ∨ (((16777216 : Int) - ((l.getD x6 (⟨0, 0, ByteArray.empty, 0, false⟩ : api_Target))).Length) < ((l.getD x6 (⟨0, 0, ByteArray.empty, 0, false⟩ : api_Target))).Offset)) then
            some (.inr (1 : Int))
          else
            grd (inI64 ((x7 + ((l.getD x6 (⟨0, 0, ByteArray.empty, 0, false⟩ : api_Target))).Length))) <|
            rec (x6 + 1) ((x7 + ((l.getD x6 (⟨0, 0, ByteArray.empty, 0, false⟩ : api_Target))).Length))
  else
    some (.inl ())
def table_Check_l1 (l : List api_Target) : Nat → Nat → Int → Option ((Unit) ⊕ Int)
  | 0, _, _ => none
  | n + 1, x6, x7 => table_Check_l1_b l (table_Check_l1 l n) x6 x7
def table_Check (l : List api_Target) : Option (Int) :=
  if ((64 : Int) < ((l.length : Nat) : Int)) then
    some (4 : Int)
  else
    seqO (table_Check_l1 l FUEL 0 (0 : Int)) fun a5 =>
    some (0 : Int)
theorem L_table_Check {W : World} {Al : HP} {vl : Value} {l : List api_Target} {r : Int} (rl : Reads Al tyapi_Target vl l) (h : table_Check l = some r) :
    CSpec Try.prog W 26 [vl] [Al] (fun x : Unit => .int .i64 r) (fun _ => True) (fun x F => Al :: F) := by
 refine CSpec.of_body Try.func26 rfl Try.ntmps26 rfl fun F => ?_
 show CJ _ _ _ _ _ _ (_ :: F)
 unfold table_Check at h
 refine CJ_pure (len_of rl del0) fun hlen1 => sR <| oA rfl rfl <| nT <| CJ_seq <| sR <| oM rfl rfl <| oV (V_len rfl foc0 rl Try.runUnderlying34) rfl <| oP (P_gtr (a := ((l.length : Nat) : Int)) (b := (64 : Int)) rfl rfl) rfl <| nT <| CJ_condP rfl bT_dec (fun hg1 => ?_) (fun hg1 => ?_)
 ·
  replace h := ite_t hg1 h
  refine sR <| oA rfl rfl <| nT <| CJ_ret <| QJ_then_ret ?_
  cases h
  exact fE (res1 Try.results26 rfl) () eR
 ·
  replace h := ite_f hg1 h
  refine kT <| sR <| oA rfl rfl <| nT <| CJ_seq <| sR <| oM rfl rfl <| oV (V_len rfl foc0 rl Try.runUnderlying34) rfl <| oM rfl rfl <| nT ?_
  obtain ⟨y4, hl2, hK3⟩ := seq_e h
  refine CJ_cutT (X := Unit) [2, 3, 5, 11, 12, 13, 14, 15, 16, 17, 18, 19, 20, 21, 22, 23, 24, 25, 26, 27, 28, 29, 30, 31, 32, 33, 34, 35, 36, 37, 38, 39, 40, 41, 42, 43, 44, 45, 46, 47, 48, 49, 50, 51, 52, 53, 54, 55, 56, 57, 58, 59, 60, 61, 62, 63] (fun _ => ([] : Slots)) (fun _ R => R) (fun _ => y4 = .inl ()) Dels.nil ?_ ?_
  ·
   refine CJ_block <| CJ_loopR (X := Nat × Nat × Int) [2, 3, 5, 11, 12, 13, 14, 15, 16, 17, 18, 19, 20, 21, 22, 23, 24, 25, 26, 27, 28, 29, 30, 31, 32, 33, 34, 35, 36, 37, 38, 39, 40, 41, 42, 43, 44, 45, 46, 47, 48, 49, 50, 51, 52, 53, 54, 55, 56, 57, 58, 59, 60, 61, 62, 63] (fun ⟨n, x6, x7⟩ => ([(3, .int .i64 x7), (11, .int .i64 (((x6 : Nat) : Int)))] : Slots)) (fun ⟨n, x6, x7⟩ R => R) (fun ⟨n, x6, x7⟩ => table_Check_l1 l n x6 x7 = some y4) (fun ⟨n, x6, x7⟩ => n) ⟨FUEL, 0, (0 : Int)⟩ ?_ ?_ eR ?_
   · exact hl2
   · exact ⟨rfl, rfl, True.intro⟩
   ·
    rintro ⟨n, x6, x7⟩ h
    cases n with
    | zero => exact none_e h
    | succ n => ?_
    replace h : table_Check_l1_b l (table_Check_l1 l n) x6 x7 = some y4 := h
    unfold table_Check_l1_b at h
    show CJ _ _ _ _ _ (([(3, .int .i64 x7), (11, .int .i64 (((x6 : Nat) : Int)))] : Slots) ++ forget _ _) (_)
    refine sR <| oP (P_lss (a := ((x6 : Nat) : Int)) (b := ((l.length : Nat) : Int)) rfl rfl) rfl <| nT <| CJ_seq <| CJ_condP rfl bT_dec (fun hg2 => ?_) (fun hg2 => ?_)
    ·
     replace h := ite_t hg2 h
     refine kT <| CJ_seq <| CJ_block <| sR <| oV (V_index (i := x6) rfl rfl rfl (by omega) foc0 rl Try.runUnderlying34 Try.sizeOf33) rfl <| oV (V_loadEN rfl rfl (by omega) foc0 rl rfl rfl Try.isAgg33 Try.sizeOf33) rfl <| oO <| O_alloc Try.zeroValue33 rfl rfl fun b8 => oO <| O_storeN rfl rfl foc0 Try.sizeOf33 rfl rfl rfl <| nT <| CJ_seq <| CJ_block <| sR <| oP (P_fieldAddr rfl ⟨_, _, _, Try.runUnderlying33, rfl, rfl, Try.sizeOf3, rfl⟩) rfl <| oV (V_load rfl foc0 rfl Try.isAgg3) rfl <| oM rfl rfl <| oP (P_neq (a := ((l.getD x6 (⟨0, 0, ByteArray.empty, 0, false⟩ : api_Target))).Start) (b := x7) rfl rfl) rfl <| oA rfl rfl <| nT <| CJ_condP rfl bT_dec (fun hg3 => ?_) (fun hg3 => ?_)
     ·
      replace h := ite_t hg3 h
      refine sR <| oA rfl rfl <| nT <| CJ_ret <| QJ_block_ret <| QJ_then_ret <| QJ_block_ret <| QJ_then_ret <| QJ_round_ret <| QJ_block_ret <| QJ_then_ret ?_
      have hE := Option.some.inj h
      replace hE := seq_inr hK3 hE.symm
      subst hE
      exact fE (res1 Try.results26 rfl) () (t1_ (eD eR))
     ·
      replace h := ite_f hg3 h
      refine sR <| oP (P_fieldAddr rfl ⟨_, _, _, Try.runUnderlying33, rfl, rfl, Try.sizeOf3, rfl⟩) rfl <| oV (V_load rfl foc0 rfl Try.isAgg3) rfl <| oP (P_lss (a := ((l.getD x6 (⟨0, 0, ByteArray.empty, 0, false⟩ : api_Target))).Length) (b := (1 : Int)) rfl rfl) rfl <| oM rfl rfl <| RJ_mbF rfl rfl rfl (fun hG9 => have hP10 : ¬ (((l.getD x6 (⟨0, 0, ByteArray.empty, 0, false⟩ : api_Target))).Length < (1 : Int)) := nP (bT_dec) hG9; VJ_P (P_fieldAddr rfl ⟨_, _, _, Try.runUnderlying33, rfl, rfl, Try.sizeOf3, rfl⟩)) <| RJ_mbF rfl rfl rfl (fun hG11 => have hP12 : ¬ (((l.getD x6 (⟨0, 0, ByteArray.empty, 0, false⟩ : api_Target))).Length < (1 : Int)) := nP (bT_dec) hG11; V_load (mbx hG11 rfl) foc0 rfl Try.isAgg3) <| RJ_mbF rfl rfl rfl (fun hG13 => have hP14 : ¬ (((l.getD x6 (⟨0, 0, ByteArray.empty, 0, false⟩ : api_Target))).Length < (1 : Int)) := nP (bT_dec) hG13; VJ_P (P_gtr (a := ((l.getD x6 (⟨0, 0, ByteArray.empty, 0, false⟩ : api_Target))).Length) (b := (16777216 : Int)) (mbx hG13 rfl) rfl)) <| oP (P_pickOr rfl rfl (fun hh => mbx (not_f hh) rfl)) rfl <| oA rfl rfl <| nT <| CJ_condP rfl (bT_or bT_dec bT_dec) (fun hg4 => ?_) (fun hg4 => ?_)
      ·
       replace h := ite_t hg4 h
       refine sR <| oA rfl rfl <| nT <| CJ_ret <| QJ_block_ret <| QJ_then_ret <| QJ_block_ret <| QJ_then_ret <| QJ_round_ret <| QJ_block_ret <| QJ_then_ret ?_
       have hE := Option.some.inj h
       replace hE := seq_inr hK3 hE.symm
       subst hE
       exact fE (res1 Try.results26 rfl) () (t1_ (eD eR))
      ·
       replace h := ite_f hg4 h
       refine sR <| oP (P_fieldAddr rfl ⟨_, _, _, Try.runUnderlying33, rfl, rfl, Try.sizeOf4, rfl⟩) rfl <| oV (V_load rfl foc0 rfl Try.isAgg4) rfl <| oM rfl rfl <| RJ_mbT rfl rfl rfl (fun hG15 => have hP16 : ((l.getD x6 (⟨0, 0, ByteArray.empty, 0, false⟩ : api_Target))).Fail = true := (Iff.rfl).1 hG15; VJ_P (P_fieldAddr rfl ⟨_, _, _, Try.runUnderlying33, rfl, rfl, Try.sizeOf9, rfl⟩)) <| RJ_mbT rfl rfl rfl (fun hG17 => have hP18 : ((l.getD x6 (⟨0, 0, ByteArray.empty, 0, false⟩ : api_Target))).Fail = true := (Iff.rfl).1 hG17; V_load (mbx hG17 rfl) foc0 rfl Try.isAgg9) <| RJ_mbT rfl rfl rfl (fun hG19 => have hP20 : ((l.getD x6 (⟨0, 0, ByteArray.empty, 0, false⟩ : api_Target))).Fail = true := (Iff.rfl).1 hG19; VJ_P (P_neqStr (a := ((l.getD x6 (⟨0, 0, ByteArray.empty, 0, false⟩ : api_Target))).On) (b := (ByteArray.mk #[])) (mbx hG19 rfl) rfl Try.underlying9)) <| oP (P_pickAnd rfl (fun hh => mbx hh rfl) rfl) rfl <| oM rfl rfl <| RJ_mbF rfl rfl rfl (fun hG21 => have hP22 : ¬ (((l.getD x6 (⟨0, 0, ByteArray.empty, 0, false⟩ : api_Target))).Fail = true ∧ (((l.getD x6 (⟨0, 0, ByteArray.empty, 0, false⟩ : api_Target))).On ≠ (ByteArray.mk #[]))) := nP ((bT_and Iff.rfl bT_dec)) hG21; VJ_P (P_fieldAddr rfl ⟨_, _, _, Try.runUnderlying33, rfl, rfl, Try.sizeOf9, rfl⟩)) ?_
       refine RJ_mbF rfl rfl rfl (fun hG23 => have hP24 : ¬ (((l.getD x6 (⟨0, 0, ByteArray.empty, 0, false⟩ : api_Target))).Fail = true ∧ (((l.getD x6 (⟨0, 0, ByteArray.empty, 0, false⟩ : api_Target))).On ≠ (ByteArray.mk #[]))) := nP ((bT_and Iff.rfl bT_dec)) hG23; V_load (mbx hG23 rfl) foc0 rfl Try.isAgg9) <| RJ_mbF rfl rfl rfl (fun hG25 => have hP26 : ¬ (((l.getD x6 (⟨0, 0, ByteArray.empty, 0, false⟩ : api_Target))).Fail = true ∧ (((l.getD x6 (⟨0, 0, ByteArray.empty, 0, false⟩ : api_Target))).On ≠ (ByteArray.mk #[]))) := nP ((bT_and Iff.rfl bT_dec)) hG25; VJ_P (P_eqlStr (a := ((l.getD x6 (⟨0, 0, ByteArray.empty, 0, false⟩ : api_Target))).On) (b := (ByteArray.mk #[])) (mbx hG25 rfl) rfl Try.underlying9)) <| RJ_mbF rfl rfl rfl (fun hG27 => have hP28 : ¬ (((l.getD x6 (⟨0, 0, ByteArray.empty, 0, false⟩ : api_Target))).Fail = true ∧ (((l.getD x6 (⟨0, 0, ByteArray.empty, 0, false⟩ : api_Target))).On ≠ (ByteArray.mk #[]))) := nP ((bT_and Iff.rfl bT_dec)) hG27; VJ_P (P_move (mbx hG27 rfl))) <| RJ_mbGT rfl rfl rfl (fun hG29 => have hP30 : ¬ (((l.getD x6 (⟨0, 0, ByteArray.empty, 0, false⟩ : api_Target))).Fail = true ∧ (((l.getD x6 (⟨0, 0, ByteArray.empty, 0, false⟩ : api_Target))).On ≠ (ByteArray.mk #[]))) := nP ((bT_and Iff.rfl bT_dec)) (and_l hG29); have hP31 : (((l.getD x6 (⟨0, 0, ByteArray.empty, 0, false⟩ : api_Target))).On = (ByteArray.mk #[])) := (bT_dec).1 (and_r hG29); VJ_P (P_fieldAddr rfl ⟨_, _, _, Try.runUnderlying33, rfl, rfl, Try.sizeOf3, rfl⟩)) ?_
       refine RJ_mbGT rfl rfl rfl (fun hG32 => have hP33 : ¬ (((l.getD x6 (⟨0, 0, ByteArray.empty, 0, false⟩ : api_Target))).Fail = true ∧ (((l.getD x6 (⟨0, 0, ByteArray.empty, 0, false⟩ : api_Target))).On ≠ (ByteArray.mk #[]))) := nP ((bT_and Iff.rfl bT_dec)) (and_l hG32); have hP34 : (((l.getD x6 (⟨0, 0, ByteArray.empty, 0, false⟩ : api_Target))).On = (ByteArray.mk #[])) := (bT_dec).1 (and_r hG32); V_load (mbx hG32 rfl) foc0 rfl Try.isAgg3) <| RJ_mbGT rfl rfl rfl (fun hG35 => have hP36 : ¬ (((l.getD x6 (⟨0, 0, ByteArray.empty, 0, false⟩ : api_Target))).Fail = true ∧ (((l.getD x6 (⟨0, 0, ByteArray.empty, 0, false⟩ : api_Target))).On ≠ (ByteArray.mk #[]))) := nP ((bT_and Iff.rfl bT_dec)) (and_l hG35); have hP37 : (((l.getD x6 (⟨0, 0, ByteArray.empty, 0, false⟩ : api_Target))).On = (ByteArray.mk #[])) := (bT_dec).1 (and_r hG35); VJ_P (P_neq (a := ((l.getD x6 (⟨0, 0, ByteArray.empty, 0, false⟩ : api_Target))).Offset) (b := (0 : Int)) (mbx hG35 rfl) rfl)) <| RJ_mbF rfl rfl rfl (fun hG38 => have hP39 : ¬ (((l.getD x6 (⟨0, 0, ByteArray.empty, 0, false⟩ : api_Target))).Fail = true ∧ (((l.getD x6 (⟨0, 0, ByteArray.empty, 0, false⟩ : api_Target))).On ≠ (ByteArray.mk #[]))) := nP ((bT_and Iff.rfl bT_dec)) hG38; VJ_P (P_pickAnd (mbx hG38 rfl) (fun hh => mbx (and_i hG38 hh) rfl) rfl)) <| oP (P_pickOr rfl rfl (fun hh => mbx (not_f hh) rfl)) rfl <| oA rfl rfl <| nT <| CJ_condP rfl (bT_or (bT_and Iff.rfl bT_dec) (bT_and bT_dec bT_dec)) (fun hg5 => ?_) (fun hg5 => ?_)
       ·
        replace h := ite_t hg5 h
        refine sR <| oA rfl rfl <| nT <| CJ_ret <| QJ_block_ret <| QJ_then_ret <| QJ_block_ret <| QJ_then_ret <| QJ_round_ret <| QJ_block_ret <| QJ_then_ret ?_
        have hE := Option.some.inj h
        replace hE := seq_inr hK3 hE.symm
        subst hE
        exact fE (res1 Try.results26 rfl) () (t1_ (eD eR))
       ·
        replace h := ite_f hg5 h
        refine sR <| oP (P_fieldAddr rfl ⟨_, _, _, Try.runUnderlying33, rfl, rfl, Try.sizeOf3, rfl⟩) rfl <| oV (V_load rfl foc0 rfl Try.isAgg3) rfl <| oP (P_lss (a := ((l.getD x6 (⟨0, 0, ByteArray.empty, 0, false⟩ : api_Target))).Offset) (b := (0 : Int)) rfl rfl) rfl <| oM rfl rfl <| RJ_mbF rfl rfl rfl (fun hG40 => have hP41 : ¬ (((l.getD x6 (⟨0, 0, ByteArray.empty, 0, false⟩ : api_Target))).Offset < (0 : Int)) := nP (bT_dec) hG40; VJ_P (P_fieldAddr rfl ⟨_, _, _, Try.runUnderlying33, rfl, rfl, Try.sizeOf3, rfl⟩)) <| RJ_mbF rfl rfl rfl (fun hG42 => have hP43 : ¬ (((l.getD x6 (⟨0, 0, ByteArray.empty, 0, false⟩ : api_Target))).Offset < (0 : Int)) := nP (bT_dec) hG42; V_load (mbx hG42 rfl) foc0 rfl Try.isAgg3) <| RJ_mbF rfl rfl rfl (fun hG44 => have hP45 : ¬ (((l.getD x6 (⟨0, 0, ByteArray.empty, 0, false⟩ : api_Target))).Offset < (0 : Int)) := nP (bT_dec) hG44; VJ_P (P_fieldAddr rfl ⟨_, _, _, Try.runUnderlying33, rfl, rfl, Try.sizeOf3, rfl⟩)) <| RJ_mbF rfl rfl rfl (fun hG46 => have hP47 : ¬ (((l.getD x6 (⟨0, 0, ByteArray.empty, 0, false⟩ : api_Target))).Offset < (0 : Int)) := nP (bT_dec) hG46; V_load (mbx hG46 rfl) foc0 rfl Try.isAgg3) <| RJ_mbF rfl rfl rfl (fun hG48 => have hP49 : ¬ (((l.getD x6 (⟨0, 0, ByteArray.empty, 0, false⟩ : api_Target))).Offset < (0 : Int)) := nP (bT_dec) hG48; VJ_P (P_sub (a := (16777216 : Int)) (b := ((l.getD x6 (⟨0, 0, ByteArray.empty, 0, false⟩ : api_Target))).Length) rfl (mbx hG48 rfl) (by omega))) ?_
        refine RJ_mbF rfl rfl rfl (fun hG50 => have hP51 : ¬ (((l.getD x6 (⟨0, 0, ByteArray.empty, 0, false⟩ : api_Target))).Offset < (0 : Int)) := nP (bT_dec) hG50; VJ_P (P_gtr (a := ((l.getD x6 (⟨0, 0, ByteArray.empty, 0, false⟩ : api_Target))).Offset) (b := ((16777216 : Int) - ((l.getD x6 (⟨0, 0, ByteArray.empty, 0, false⟩ : api_Target))).Length)) (mbx hG50 rfl) (mbx hG50 rfl))) <| oP (P_pickOr rfl rfl (fun hh => mbx (not_f hh) rfl)) rfl <| oA rfl rfl <| nT <| CJ_condP rfl (bT_or bT_dec bT_dec) (fun hg6 => ?_) (fun hg6 => ?_)
        ·
         replace h := ite_t hg6 h
         refine sR <| oA rfl rfl <| nT <| CJ_ret <| QJ_block_ret <| QJ_then_ret <| QJ_block_ret <| QJ_then_ret <| QJ_round_ret <| QJ_block_ret <| QJ_then_ret ?_
         have hE := Option.some.inj h
         replace hE := seq_inr hK3 hE.symm
         subst hE
         exact fE (res1 Try.results26 rfl) () (t1_ (eD eR))
        ·
         replace h := ite_f hg6 h
         refine CJ_skip <| QJ_block_normal <| QJ_then <| CJ_region <| oM rfl rfl <| oP (P_fieldAddr rfl ⟨_, _, _, Try.runUnderlying33, rfl, rfl, Try.sizeOf3, rfl⟩) rfl <| oV (V_load rfl foc0 rfl Try.isAgg3) rfl ?_
         obtain ⟨hg7, h⟩ := grd_Ie h
         exact oP (P_add (a := x7) (b := ((l.getD x6 (⟨0, 0, ByteArray.empty, 0, false⟩ : api_Target))).Length) rfl rfl hg7) rfl <| oA rfl rfl <| RJ_nil <| QJ_block_normal <| QJ_then <| CJ_region <| oP (PJ_eq (P_add (a := ((x6 : Nat) : Int)) (b := (1 : Int)) rfl rfl (by omega)) rfl) rfl <| oM rfl rfl <| RJ_nil <| nR ⟨n, (x6 + 1), (x7 + ((l.getD x6 (⟨0, 0, ByteArray.empty, 0, false⟩ : api_Target))).Length)⟩ h ⟨rfl, rfl, True.intro⟩ (t1_ (eD eR))
    ·
     replace h := ite_f hg2 h
     exact CJ_exit <| QJ_then_exit <| QJ_round_exit <| QJ_block_here <| cR () (Option.some.inj h).symm True.intro eR
  ·
   rintro _ hy52
   replace h := seq_inl hK3 hy52
   show CJ _ _ _ _ _ (([] : Slots) ++ forget _ _) (_)
   refine sR <| oA rfl rfl <| nT <| CJ_ret ?_
   cases h
   exact fE (res1 Try.results26 rfl) () eR
def slices_Index_string_l1_b (p0 : List ByteArray) (p1 : ByteArray) (rec : Nat → Option ((Unit) ⊕ Int)) (x6 : Nat) : Option ((Unit) ⊕ Int) :=
  if (((x6 : Nat) : Int) < ((p0.length : Nat) : Int)) then
    if (p1 = (p0.getD x6 ByteArray.empty)) then
      some (.inr (((x6 : Nat) : Int)))
    else
      rec (x6 + 1)
  else
    some (.inl ())
def slices_Index_string_l1 (p0 : List ByteArray) (p1 : ByteArray) : Nat → Nat → Option ((Unit) ⊕ Int)
  | 0, _ => none
  | n + 1, x6 => slices_Index_string_l1_b p0 p1 (slices_Index_string_l1 p0 p1 n) x6
def slices_Index_string (p0 : List ByteArray) (p1 : ByteArray) : Option (Int) :=
  seqO (slices_Index_string_l1 p0 p1 FUEL 0) fun a5 =>
  some (-1 : Int)
theorem L_slices_Index_string {W : World} {Ap0 : HP} {vp0 : Value} {p0 : List ByteArray} {p1 : ByteArray} {r : Int} (rp0 : Reads Ap0 tyS vp0 p0) (h : slices_Index_string p0 p1 = some r) :
    CSpec Try.prog W 43 [vp0, .string p1] [Ap0] (fun x : Unit => .int .i64 r) (fun _ => True) (fun x F => Ap0 :: F) := by
 refine CSpec.of_body Try.func43 rfl Try.ntmps43 rfl fun F => ?_
 show CJ _ _ _ _ _ _ (_ :: F)
 unfold slices_Index_string at h
 refine CJ_pure (len_of rp0 del0) fun hlen1 => sR <| oA rfl rfl <| nT <| CJ_seq <| sR <| oM rfl rfl <| oV (V_len rfl foc0 rp0 Try.runUnderlying45) rfl <| oM rfl rfl <| nT ?_
 obtain ⟨y4, hl2, hK3⟩ := seq_e h
 refine CJ_cutT (X := Unit) [4, 5, 8, 9, 10, 11, 12, 13, 14, 15, 16, 17, 18] (fun _ => ([] : Slots)) (fun _ R => R) (fun _ => y4 = .inl ()) Dels.nil ?_ ?_
 ·
  refine CJ_block <| CJ_loopR (X := Nat × Nat) [4, 5, 8, 9, 10, 11, 12, 13, 14, 15, 16, 17, 18] (fun ⟨n, x6⟩ => ([(8, .int .i64 (((x6 : Nat) : Int)))] : Slots)) (fun ⟨n, x6⟩ R => R) (fun ⟨n, x6⟩ => slices_Index_string_l1 p0 p1 n x6 = some y4) (fun ⟨n, x6⟩ => n) ⟨FUEL, 0⟩ ?_ ?_ eR ?_
  · exact hl2
  · exact ⟨rfl, True.intro⟩
  ·
   rintro ⟨n, x6⟩ h
   cases n with
   | zero => exact none_e h
   | succ n => ?_
   replace h : slices_Index_string_l1_b p0 p1 (slices_Index_string_l1 p0 p1 n) x6 = some y4 := h
   unfold slices_Index_string_l1_b at h
   show CJ _ _ _ _ _ (([(8, .int .i64 (((x6 : Nat) : Int)))] : Slots) ++ forget _ _) (_)
   refine sR <| oP (P_lss (a := ((x6 : Nat) : Int)) (b := ((p0.length : Nat) : Int)) rfl rfl) rfl <| nT <| CJ_seq <| CJ_condP rfl bT_dec (fun hg1 => ?_) (fun hg1 => ?_)
   ·
    replace h := ite_t hg1 h
    refine kT <| CJ_seq <| CJ_block <| sR <| oM rfl rfl <| oA rfl rfl <| nT <| sR <| oM rfl rfl <| oM rfl rfl <| oM rfl rfl <| oV (V_index (i := x6) rfl rfl rfl (by omega) foc0 rp0 Try.runUnderlying45 Try.sizeOf9) rfl <| oV (V_loadE rfl rfl (by omega) foc0 rp0 rfl rfl Try.isAgg9) rfl <| oP (P_eqlStr (a := p1) (b := (p0.getD x6 ByteArray.empty)) rfl rfl Try.underlying9) rfl <| nT <| CJ_condP rfl bT_dec (fun hg2 => ?_) (fun hg2 => ?_)
    ·
     replace h := ite_t hg2 h
     refine sR <| oM rfl rfl <| oA rfl rfl <| nT <| CJ_ret <| QJ_block_ret <| QJ_then_ret <| QJ_round_ret <| QJ_block_ret <| QJ_then_ret ?_
     have hE := Option.some.inj h
     replace hE := seq_inr hK3 hE.symm
     subst hE
     exact fE (res1 Try.results43 rfl) () eR
    ·
     replace h := ite_f hg2 h
     exact CJ_skip <| QJ_block_normal <| QJ_then <| CJ_region <| oP (PJ_eq (P_add (a := ((x6 : Nat) : Int)) (b := (1 : Int)) rfl rfl (by omega)) rfl) rfl <| oM rfl rfl <| RJ_nil <| nR ⟨n, (x6 + 1)⟩ h ⟨rfl, True.intro⟩ eR
   ·
    replace h := ite_f hg1 h
    exact CJ_exit <| QJ_then_exit <| QJ_round_exit <| QJ_block_here <| cR () (Option.some.inj h).symm True.intro eR
 ·
  rintro _ hy7
  replace h := seq_inl hK3 hy7
  show CJ _ _ _ _ _ (([] : Slots) ++ forget _ _) (_)
  refine sR <| oA rfl rfl <| nT <| CJ_ret ?_
  cases h
  exact fE (res1 Try.results43 rfl) () eR
def slices_Contains_string (p0 : List ByteArray) (p1 : ByteArray) : Option (Bool) :=
  Option.bind (slices_Index_string p0 p1) fun r2 =>
  some ((decide ((0 : Int) ≤ r2)))
theorem L_slices_Contains_string {W : World} {Ap0 : HP} {vp0 : Value} {p0 : List ByteArray} {p1 : ByteArray} {r : Bool} (rp0 : Reads Ap0 tyS vp0 p0) (h : slices_Contains_string p0 p1 = some r) :
    CSpec Try.prog W 30 [vp0, .string p1] [Ap0] (fun x : Unit => .bool r) (fun _ => True) (fun x F => Ap0 :: F) := by
 refine CSpec.of_body Try.func30 rfl Try.ntmps30 rfl fun F => ?_
 show CJ _ _ _ _ _ _ (_ :: F)
 unfold slices_Contains_string at h
 refine CJ_pure (len_of rp0 del0) fun hlen1 => sR <| oA rfl rfl <| nT <| sR <| oM rfl rfl <| oM rfl rfl ?_
 obtain ⟨r2, hr3, h⟩ := bind_e h
 refine oO <| O_call (L_slices_Index_string rp0 hr3) rfl Try.call43 (Dels.cons del0 Dels.nil) rfl fun _ _ => oP (P_geq (a := r2) (b := (0 : Int)) rfl rfl) rfl <| oA rfl rfl <| nT <| CJ_ret ?_
 cases h
 exact fE (res1 Try.results30 rfl) () eR
def table_Uses_l1_b (l : List api_Target) (rec : (List ByteArray) → Nat → Option ((List ByteArray))) (x9 : List ByteArray) (x11 : Nat) : Option ((List ByteArray)) :=
  if (((x11 : Nat) : Int) < ((l.length : Nat) : Int)) then
    if (((l.getD x11 (⟨0, 0, ByteArray.empty, 0, false⟩ : api_Target))).On ≠ (ByteArray.mk #[])) then
      Option.bind (slices_Contains_string x9 (((l.getD x11 (⟨0, 0, ByteArray.empty, 0, false⟩ : api_Target))).On)) fun r14 =>
      if (¬ r14 = true) then
        grd (inLen (x9.length + 1)) <|
        rec ((x9 ++ [((l.getD x11 (⟨0, 0, ByteArray.empty, 0, false⟩ : api_Target))).On])) (x11 + 1)
      else
        rec x9 (x11 + 1)
    else
      rec x9 (x11 + 1)
  else
    some x9
def table_Uses_l1 (l : List api_Target) : Nat → (List ByteArray) → Nat → Option ((List ByteArray))
  | 0, _, _ => none
  | n + 1, x9, x11 => table_Uses_l1_b l (table_Uses_l1 l n) x9 x11
def table_Uses (l : List api_Target) : Option ((List ByteArray)) :=
  Option.bind (table_Uses_l1 l FUEL ([]) 0) fun a8 =>
  some a8
theorem L_table_Uses {W : World} {Al : HP} {vl : Value} {l : List api_Target} {r : (List ByteArray)} (rl : Reads Al tyapi_Target vl l) (h : table_Uses l = some r) :
    CSpec Try.prog W 27 [vl] [Al] (fun x : Sl3 => x.v) (fun _ => True) (fun x F => Al :: sl tyS x.v r :: F) := by
 refine CSpec.of_body Try.func27 rfl Try.ntmps27 rfl fun F => ?_
 show CJ _ _ _ _ _ _ (_ :: F)
 unfold table_Uses at h
 refine CJ_pure (len_of rl del0) fun hlen1 => sR <| oA rfl rfl <| nT <| sR <| oA rfl rfl <| nT <| CJ_seq <| sR <| oM rfl rfl <| oV (V_len rfl foc0 rl Try.runUnderlying34) rfl <| oM rfl rfl <| nT <| CJ_ent (fun h hh => sl_nil (t := tyS) h hh) ?_
 obtain ⟨y5, hl3, hK4⟩ := bind_c h
 refine CJ_cutT (X := (List ByteArray) × Sl3) [3, 5, 8, 9, 10, 11, 12, 13, 14, 15, 16, 17, 18, 19, 20, 21, 22, 23, 24, 25, 26, 27] (fun ⟨a8, hd7⟩ => ([(3, hd7.v)] : Slots)) (fun ⟨a8, hd7⟩ R => sl tyS hd7.v a8 :: R) (fun ⟨a8, hd7⟩ => y5 = a8) (Dels.cons del0 Dels.nil) ?_ ?_
 ·
  refine CJ_block <| CJ_loopR (X := Nat × (List ByteArray) × Nat × Sl3) [3, 5, 8, 9, 10, 11, 12, 13, 14, 15, 16, 17, 18, 19, 20, 21, 22, 23, 24, 25, 26, 27] (fun ⟨n, x9, x11, hd10⟩ => ([(3, hd10.v), (8, .int .i64 (((x11 : Nat) : Int)))] : Slots)) (fun ⟨n, x9, x11, hd10⟩ R => sl tyS hd10.v x9 :: R) (fun ⟨n, x9, x11, hd10⟩ => table_Uses_l1 l n x9 x11 = some y5) (fun ⟨n, x9, x11, hd10⟩ => n) ⟨FUEL, [], 0, ⟨none, 0, 0⟩⟩ ?_ ?_ eR ?_
  · exact hl3
  · exact ⟨rfl, rfl, True.intro⟩
  ·
   rintro ⟨n, x9, x11, hd10⟩ h
   cases n with
   | zero => exact none_e h
   | succ n => ?_
   replace h : table_Uses_l1_b l (table_Uses_l1 l n) x9 x11 = some y5 := h
   unfold table_Uses_l1_b at h
   show CJ _ _ _ _ _ (([(3, hd10.v), (8, .int .i64 (((x11 : Nat) : Int)))] : Slots) ++ forget _ _) (sl tyS hd10.v x9 :: _)
   refine lC del0 fun hlen12 => sR <| oP (P_lss (a := ((x11 : Nat) : Int)) (b := ((l.length : Nat) : Int)) rfl rfl) rfl <| nT <| CJ_seq <| CJ_condP rfl bT_dec (fun hg1 => ?_) (fun hg1 => ?_)
   ·
    replace h := ite_t hg1 h
    refine kT <| CJ_seq <| CJ_block <| sR <| oV (V_index (i := x11) rfl rfl rfl (by omega) foc1 rl Try.runUnderlying34 Try.sizeOf33) rfl <| oV (V_loadEN rfl rfl (by omega) foc1 rl rfl rfl Try.isAgg33 Try.sizeOf33) rfl <| oO <| O_alloc Try.zeroValue33 rfl rfl fun b13 => oO <| O_storeN rfl rfl foc0 Try.sizeOf33 rfl rfl rfl <| nT <| sR <| oP (P_fieldAddr rfl ⟨_, _, _, Try.runUnderlying33, rfl, rfl, Try.sizeOf9, rfl⟩) rfl <| oV (V_load rfl foc0 rfl Try.isAgg9) rfl <| oP (P_neqStr (a := ((l.getD x11 (⟨0, 0, ByteArray.empty, 0, false⟩ : api_Target))).On) (b := (ByteArray.mk #[])) rfl rfl Try.underlying9) rfl <| oM rfl rfl <| RJ_splitP 15 rfl bT_dec (fun hg2B hg2 => ?_) (fun hg2B hg2 => ?_)
    ·
     replace h := ite_t hg2 h
     refine gP (GY_yes rfl rfl rfl hg2B) (P_move rfl) rfl <| gP (GY_yes rfl rfl rfl hg2B) (P_fieldAddr rfl ⟨_, _, _, Try.runUnderlying33, rfl, rfl, Try.sizeOf9, rfl⟩) rfl <| gV (GY_yes rfl rfl rfl hg2B) (V_load rfl foc0 rfl Try.isAgg9) rfl ?_
     obtain ⟨r14, hr15, h⟩ := bind_e h
     refine RJ_gy (GY_yes rfl rfl rfl hg2B) <| O_call (L_slices_Contains_string (Reads.sl _ _ _) hr15) rfl Try.call30 (Dels.cons del1 Dels.nil) rfl fun _ _ => gP (GY_yes rfl rfl rfl hg2B) (P_not rfl) rfl <| oP (P_pickT rfl hg2B rfl) rfl <| nT <| CJ_condP rfl (bT_not Iff.rfl) (fun hg3 => ?_) (fun hg3 => ?_)
     ·
      replace h := ite_t hg3 h
      refine CJ_region <| oM rfl rfl <| oP (P_fieldAddr rfl ⟨_, _, _, Try.runUnderlying33, rfl, rfl, Try.sizeOf9, rfl⟩) rfl <| oV (V_load rfl foc1 rfl Try.isAgg9) rfl <| oO <| O_buildSlice rfl (bs_45_1_0 _) rfl fun b16 => ?_
      obtain ⟨hg4, h⟩ := grd_Le h
      exact oO <| O_append (t := tyS) (bytes := 16) rfl rfl del1 foc0 (Reads.lit (t := tyS) (ys := [((l.getD x11 (⟨0, 0, ByteArray.empty, 0, false⟩ : api_Target))).On]) rfl rfl (by decide) (by decide) rfl) Try.underlying45 ok_tyS (apl (m := 1) (b := 16) hg4 (by decide)).1 (apl (m := 1) (b := 16) hg4 (by decide)).2 rfl fun p18 c19 => oA rfl rfl <| RJ_nil <| QJ_block_normal <| QJ_then <| CJ_region <| oP (PJ_eq (P_add (a := ((x11 : Nat) : Int)) (b := (1 : Int)) rfl rfl (by omega)) rfl) rfl <| oM rfl rfl <| RJ_nil <| nR ⟨n, (x9 ++ [((l.getD x11 (⟨0, 0, ByteArray.empty, 0, false⟩ : api_Target))).On]), (x11 + 1), ⟨p18, (x9 ++ [((l.getD x11 (⟨0, 0, ByteArray.empty, 0, false⟩ : api_Target))).On]).length, c19⟩⟩ h ⟨rfl, rfl, True.intro⟩ (t0_ (t2_ (eD (eD eR))))
     ·
      replace h := ite_f hg3 h
      exact CJ_skip <| QJ_block_normal <| QJ_then <| CJ_region <| oP (PJ_eq (P_add (a := ((x11 : Nat) : Int)) (b := (1 : Int)) rfl rfl (by omega)) rfl) rfl <| oM rfl rfl <| RJ_nil <| nR ⟨n, x9, (x11 + 1), hd10⟩ h ⟨rfl, rfl, True.intro⟩ (t0_ (t1_ (eD eR)))
    ·
     replace h := ite_f hg2 h
     exact RJ_gn (GY_no rfl rfl rfl hg2B) rfl rfl <| RJ_gn (GY_no rfl rfl rfl hg2B) rfl rfl <| RJ_gn (GY_no rfl rfl rfl hg2B) rfl rfl <| RJ_gn (GY_no rfl rfl rfl hg2B) rfl rfl <| RJ_gn (GY_no rfl rfl rfl hg2B) rfl rfl <| oP (P_pickF rfl hg2B rfl) rfl <| nT <| CJ_condF rfl rfl <| CJ_skip <| QJ_block_normal <| QJ_then <| CJ_region <| oP (PJ_eq (P_add (a := ((x11 : Nat) : Int)) (b := (1 : Int)) rfl rfl (by omega)) rfl) rfl <| oM rfl rfl <| RJ_nil <| nR ⟨n, x9, (x11 + 1), hd10⟩ h ⟨rfl, rfl, True.intro⟩ (t1_ (t1_ (eD eR)))
   ·
    replace h := ite_f hg1 h
    exact CJ_exit <| QJ_then_exit <| QJ_round_exit <| QJ_block_here <| cR ⟨x9, hd10⟩ (Option.some.inj h).symm ⟨rfl, True.intro⟩ eR
 ·
  rintro ⟨a8, hd7⟩ hy20
  replace h := bindK_at hK4 hy20
  show CJ _ _ _ _ _ (([(3, hd7.v)] : Slots) ++ forget _ _) (sl tyS hd7.v a8 :: _)
  refine lC del0 fun hlen21 => sR <| oM rfl rfl <| oA rfl rfl <| nT <| CJ_ret ?_
  cases h
  exact fE (res1 Try.results27 rfl) hd7 (t1_ eR)
def table_size (l : List api_Target) : Option (Int) :=
  if (((l.length : Nat) : Int) = (0 : Int)) then
    some (0 : Int)
  else
    lt ((l.getD (((((l.length : Nat) : Int) - (1 : Int))).toNat) (⟨0, 0, ByteArray.empty, 0, false⟩ : api_Target))) fun w2 =>
    grd (inI64 (w2.Start + w2.Length)) <|
    some (w2.Start + w2.Length)
theorem L_table_size {W : World} {Al : HP} {vl : Value} {l : List api_Target} {r : Int} (rl : Reads Al tyapi_Target vl l) (h : table_size l = some r) :
    CSpec Try.prog W 62 [vl] [Al] (fun x : Unit => .int .i64 r) (fun _ => True) (fun x F => Al :: F) := by
 refine CSpec.of_body Try.func62 rfl Try.ntmps62 rfl fun F => ?_
 show CJ _ _ _ _ _ _ (_ :: F)
 unfold table_size at h
 refine CJ_pure (len_of rl del0) fun hlen1 => sR <| oA rfl rfl <| nT <| CJ_seq <| sR <| oM rfl rfl <| oV (V_len rfl foc0 rl Try.runUnderlying34) rfl <| oP (P_eql (a := ((l.length : Nat) : Int)) (b := (0 : Int)) rfl rfl) rfl <| nT <| CJ_condP rfl bT_dec (fun hg1 => ?_) (fun hg1 => ?_)
 ·
  replace h := ite_t hg1 h
  refine sR <| oA rfl rfl <| nT <| CJ_ret <| QJ_then_ret ?_
  cases h
  exact fE (res1 Try.results62 rfl) () eR
 ·
  replace h := ite_f hg1 h
  refine kT <| sR <| oM rfl rfl <| oM rfl rfl <| oV (V_len rfl foc0 rl Try.runUnderlying34) rfl <| oP (P_sub (a := ((l.length : Nat) : Int)) (b := (1 : Int)) rfl rfl (by omega)) rfl <| oV (V_index (i := ((((l.length : Nat) : Int) - (1 : Int))).toNat) rfl rfl (Int.toNat_of_nonneg (by omega)).symm (by omega) foc0 rl Try.runUnderlying34 Try.sizeOf33) rfl <| oV (V_loadEN rfl rfl (by omega) foc0 rl rfl rfl Try.isAgg33 Try.sizeOf33) rfl ?_
  obtain ⟨w2, hw2, h⟩ := lt_e h
  rw [← hw2]
  refine oO <| O_alloc Try.zeroValue33 rfl rfl fun b3 => oO <| O_storeN rfl rfl foc0 Try.sizeOf33 rfl rfl rfl <| nT <| sR <| oP (P_fieldAddr rfl ⟨_, _, _, Try.runUnderlying33, rfl, rfl, Try.sizeOf3, rfl⟩) rfl <| oV (V_load rfl foc0 rfl Try.isAgg3) rfl <| oP (P_fieldAddr rfl ⟨_, _, _, Try.runUnderlying33, rfl, rfl, Try.sizeOf3, rfl⟩) rfl <| oV (V_load rfl foc0 rfl Try.isAgg3) rfl ?_
  obtain ⟨hg2, h⟩ := grd_Ie h
  refine oP (P_add (a := w2.Start) (b := w2.Length) rfl rfl hg2) rfl <| oA rfl rfl <| nT <| CJ_ret ?_
  cases h
  exact fE (res1 Try.results62 rfl) () (t1_ (eD eR))
def table_Size (l : List api_Target) : Option (Int) :=
  Option.bind (table_Check l) fun r2 =>
  if (r2 ≠ (0 : Int)) then
    some (0 : Int)
  else
    Option.bind (table_size l) fun r4 =>
    some r4
theorem L_table_Size {W : World} {Al : HP} {vl : Value} {l : List api_Target} {r : Int} (rl : Reads Al tyapi_Target vl l) (h : table_Size l = some r) :
    CSpec Try.prog W 37 [vl] [Al] (fun x : Unit => .int .i64 r) (fun _ => True) (fun x F => Al :: F) := by
 refine CSpec.of_body Try.func37 rfl Try.ntmps37 rfl fun F => ?_
 show CJ _ _ _ _ _ _ (_ :: F)
 unfold table_Size at h
 refine CJ_pure (len_of rl del0) fun hlen1 => sR <| oA rfl rfl <| nT <| CJ_seq <| sR <| oM rfl rfl ?_
 obtain ⟨r2, hr3, h⟩ := bind_e h
 refine oO <| O_call (L_table_Check rl hr3) rfl Try.call26 (Dels.cons del0 Dels.nil) rfl fun _ _ => oP (P_neq (a := r2) (b := (0 : Int)) rfl rfl) rfl <| nT <| CJ_condP rfl bT_dec (fun hg1 => ?_) (fun hg1 => ?_)
 ·
  replace h := ite_t hg1 h
  refine sR <| oA rfl rfl <| nT <| CJ_ret <| QJ_then_ret ?_
  cases h
  exact fE (res1 Try.results37 rfl) () eR
 ·
  replace h := ite_f hg1 h
  refine kT <| sR <| oM rfl rfl ?_
  obtain ⟨r4, hr5, h⟩ := bind_e h
  refine oO <| O_call (L_table_size rl hr5) rfl Try.call62 (Dels.cons del0 Dels.nil) rfl fun _ _ => oA rfl rfl <| nT <| CJ_ret ?_
  cases h
  exact fE (res1 Try.results37 rfl) () eR
def table_find_1 (k : Int) (p1 : List api_Target) (p2 : Int) : Option (Bool) :=
  grd (decide (0 ≤ k ∧ k < (p1.length : Int))) <|
  grd (decide (0 ≤ k ∧ k < (p1.length : Int))) <|
  grd (inI64 ((((p1.getD ((k).toNat) (⟨0, 0, ByteArray.empty, 0, false⟩ : api_Target))).Start + ((p1.getD ((k).toNat) (⟨0, 0, ByteArray.empty, 0, false⟩ : api_Target))).Length))) <|
  lt ((((p1.getD ((k).toNat) (⟨0, 0, ByteArray.empty, 0, false⟩ : api_Target))).Start + ((p1.getD ((k).toNat) (⟨0, 0, ByteArray.empty, 0, false⟩ : api_Target))).Length)) fun w2 =>
  some ((decide (p2 < w2)))
theorem L_table_find_1 {W : World} {bp1 : Nat} {Ap1 : HP} {vp1 : Value} {bp2 : Nat} {k : Int} {p1 : List api_Target} {p2 : Int} {r : Bool} (rp1 : Reads Ap1 tyapi_Target vp1 p1) (h : table_find_1 k p1 p2 = some r) :
    CSpec Try.prog W 81 [.int .i64 k, ptr bp1 0, ptr bp2 0] [blk bp1 34 [vp1], Ap1, blk bp2 3 [.int .i64 p2]] (fun x : Unit => .bool r) (fun _ => True) (fun x F => blk bp1 34 [vp1] :: Ap1 :: blk bp2 3 [.int .i64 p2] :: F) := by
 refine CSpec.of_body Try.func81 rfl Try.ntmps81 rfl fun F => ?_
 show CJ _ _ _ _ _ _ (_ :: _ :: _ :: F)
 unfold table_find_1 at h
 refine CJ_pure (len_of rp1 del1) fun hlen1 => sR <| oA rfl rfl <| nT <| CJ_seq <| AJ_startH 0 (by kernel_rfl) rfl <| aV 0 1 rfl rfl (GY_none rfl) eR (V_load rfl foc0 rfl Try.isAgg34) rfl <| aN 1 3 rfl rfl (P_move rfl) rfl ?_
 obtain ⟨hg1, h⟩ := grd_de h
 refine aV 2 7 rfl rfl (GY_none rfl) eR (V_index (i := (k).toNat) rfl rfl (Int.toNat_of_nonneg (hg1.1)).symm (by omega) foc1 rp1 Try.runUnderlying34 Try.sizeOf33) rfl <| aN 3 15 rfl rfl (P_fieldE rfl ⟨_, _, _, Try.runUnderlying33, rfl, rfl, Try.sizeOf3, rfl⟩) rfl <| aV 4 31 rfl rfl (GY_none rfl) eR (V_loadE rfl rfl (by omega) foc1 rp1 rfl rfl Try.isAgg3) rfl <| aV 5 63 rfl rfl (GY_none rfl) eR (V_load rfl foc0 rfl Try.isAgg34) rfl <| aN 6 127 rfl rfl (P_move rfl) rfl ?_
 obtain ⟨hg2, h⟩ := grd_de h
 refine aV 7 255 rfl rfl (GY_none rfl) eR (V_index (i := (k).toNat) rfl rfl (Int.toNat_of_nonneg (hg2.1)).symm (by omega) foc1 rp1 Try.runUnderlying34 Try.sizeOf33) rfl <| aN 8 511 rfl rfl (P_fieldE rfl ⟨_, _, _, Try.runUnderlying33, rfl, rfl, Try.sizeOf3, rfl⟩) rfl <| aV 9 1023 rfl rfl (GY_none rfl) eR (V_loadE rfl rfl (by omega) foc1 rp1 rfl rfl Try.isAgg3) rfl ?_
 obtain ⟨hg3, h⟩ := grd_Ie h
 refine aN 10 2047 rfl rfl (P_add (a := ((p1.getD ((k).toNat) (⟨0, 0, ByteArray.empty, 0, false⟩ : api_Target))).Start) (b := ((p1.getD ((k).toNat) (⟨0, 0, ByteArray.empty, 0, false⟩ : api_Target))).Length) rfl rfl hg3) rfl ?_
 obtain ⟨w2, hw2, h⟩ := lt_e h
 rw [← hw2]
 refine aV 11 4095 rfl rfl (GY_none rfl) eR (V_load rfl foc2 rfl Try.isAgg3) rfl <| aN 12 8191 rfl rfl (P_gtr (a := w2) (b := p2) rfl rfl) rfl <| aN 13 16383 rfl rfl (P_assign rfl) rfl <| aD <| CJ_ret ?_
 cases h
 exact fE (res1 Try.results81 rfl) () eR
def sort_Search__table_find_1_l1_b (f_c0 : List api_Target) (f_c1 : Int) (rec : Int → Int → Option (Int)) (x7 : Int) (x8 : Int) : Option (Int) :=
  if (x7 < x8) then
    grd (inI64 (x7 + x8)) <|
    Option.bind (table_find_1 ((IntKind.i64.wrap (((shr_u64 ((to_u64 (x7 + x8))) 1)).toNat : Int))) f_c0 f_c1) fun r9 =>
    if (¬ r9 = true) then
      grd (inI64 (((IntKind.i64.wrap (((shr_u64 ((to_u64 (x7 + x8))) 1)).toNat : Int)) + (1 : Int)))) <|
      lt (((IntKind.i64.wrap (((shr_u64 ((to_u64 (x7 + x8))) 1)).toNat : Int)) + (1 : Int))) fun w11 =>
      rec w11 x8
    else
      rec x7 ((IntKind.i64.wrap (((shr_u64 ((to_u64 (x7 + x8))) 1)).toNat : Int)))
  else
    some x7
def sort_Search__table_find_1_l1 (f_c0 : List api_Target) (f_c1 : Int) : Nat → Int → Int → Option (Int)
  | 0, _, _ => none
  | n + 1, x7, x8 => sort_Search__table_find_1_l1_b f_c0 f_c1 (sort_Search__table_find_1_l1 f_c0 f_c1 n) x7 x8
def sort_Search__table_find_1 (n_0 : Int) (f_c0 : List api_Target) (f_c1 : Int) : Option (Int) :=
  Option.bind (sort_Search__table_find_1_l1 f_c0 f_c1 FUEL (0 : Int) n_0) fun a6 =>
  some a6
theorem L_sort_Search__table_find_1 {W : World} {bf_c0 : Nat} {Af_c0 : HP} {vf_c0 : Value} {bf_c1 : Nat} {n_0 : Int} {f_c0 : List api_Target} {f_c1 : Int} {r : Int} (rf_c0 : Reads Af_c0 tyapi_Target vf_c0 f_c0) (h : sort_Search__table_find_1 n_0 f_c0 f_c1 = some r) :
    CSpec Try.prog W 80 [.int .i64 n_0, .func (.func 81) #[] #[ptr bf_c0 0, ptr bf_c1 0]] [blk bf_c0 34 [vf_c0], Af_c0, blk bf_c1 3 [.int .i64 f_c1]] (fun x : Unit => .int .i64 r) (fun _ => True) (fun x F => blk bf_c0 34 [vf_c0] :: Af_c0 :: blk bf_c1 3 [.int .i64 f_c1] :: F) := by
 refine CSpec.of_body Try.func80 rfl Try.ntmps80 rfl fun F => ?_
 show CJ _ _ _ _ _ _ (_ :: _ :: _ :: F)
 unfold sort_Search__table_find_1 at h
 refine CJ_pure (len_of rf_c0 del1) fun hlen1 => sR <| oA rfl rfl <| nT <| sR <| oM rfl rfl <| oA rfl rfl <| oA rfl rfl <| nT <| CJ_seq ?_
 obtain ⟨y4, hl2, hK3⟩ := bind_c h
 refine CJ_cutT (X := Int) [5, 6, 7, 9, 10, 11, 12, 13, 14, 15, 16, 17, 18, 19, 20, 21, 22, 23, 24] (fun a6 => ([(5, .int .i64 a6)] : Slots)) (fun a6 R => R) (fun a6 => y4 = a6) Dels.nil ?_ ?_
 ·
  refine CJ_block <| CJ_loopR (X := Nat × Int × Int) [5, 6, 7, 9, 10, 11, 12, 13, 14, 15, 16, 17, 18, 19, 20, 21, 22, 23, 24] (fun ⟨n, x7, x8⟩ => ([(5, .int .i64 x7), (6, .int .i64 x8)] : Slots)) (fun ⟨n, x7, x8⟩ R => R) (fun ⟨n, x7, x8⟩ => sort_Search__table_find_1_l1 f_c0 f_c1 n x7 x8 = some y4) (fun ⟨n, x7, x8⟩ => n) ⟨FUEL, (0 : Int), n_0⟩ ?_ ?_ eR ?_
  · exact hl2
  · exact ⟨rfl, rfl, True.intro⟩
  ·
   rintro ⟨n, x7, x8⟩ h
   cases n with
   | zero => exact none_e h
   | succ n => ?_
   replace h : sort_Search__table_find_1_l1_b f_c0 f_c1 (sort_Search__table_find_1_l1 f_c0 f_c1 n) x7 x8 = some y4 := h
   unfold sort_Search__table_find_1_l1_b at h
   show CJ _ _ _ _ _ (([(5, .int .i64 x7), (6, .int .i64 x8)] : Slots) ++ forget _ _) (_)
   refine CJ_seq <| sR <| oM rfl rfl <| oM rfl rfl <| oP (P_lss (a := x7) (b := x8) rfl rfl) rfl <| nT <| CJ_condP rfl bT_dec (fun hg1 => ?_) (fun hg1 => ?_)
   ·
    replace h := ite_t hg1 h
    refine kT <| CJ_block <| sR <| oM rfl rfl <| oM rfl rfl ?_
    obtain ⟨hg2, h⟩ := grd_Ie h
    refine oP (P_add (a := x7) (b := x8) rfl rfl hg2) rfl <| oP (P_conv_u64 (a := (x7 + x8)) rfl Try.runUnderlying3 Try.runUnderlying158) rfl <| oP (P_shr_u64 (a := (to_u64 (x7 + x8))) (m := 1) rfl rfl rfl) rfl <| oP (P_conv rfl Try.runUnderlying158 Try.runUnderlying3) rfl <| oA rfl rfl <| nT <| sR <| oM rfl rfl <| oM rfl rfl ?_
    obtain ⟨r9, hr10, h⟩ := bind_e h
    refine oO <| O_callV rfl rfl (L_table_find_1 rf_c0 hr10) Try.call81 (Dels.cons del0 (Dels.cons del0 (Dels.cons del0 Dels.nil))) rfl fun _ _ => oP (P_not rfl) rfl <| nT <| CJ_condP rfl (bT_not Iff.rfl) (fun hg3 => ?_) (fun hg3 => ?_)
    ·
     replace h := ite_t hg3 h
     refine CJ_region <| oM rfl rfl ?_
     obtain ⟨hg4, h⟩ := grd_Ie h
     refine oP (P_add (a := (IntKind.i64.wrap (((shr_u64 ((to_u64 (x7 + x8))) 1)).toNat : Int))) (b := (1 : Int)) rfl rfl hg4) rfl ?_
     obtain ⟨w11, hw11, h⟩ := lt_e h
     rw [← hw11]
     exact oA rfl rfl <| RJ_nil <| QJ_block_normal <| nR ⟨n, w11, x8⟩ h ⟨rfl, rfl, True.intro⟩ eR
    ·
     replace h := ite_f hg3 h
     exact CJ_region <| oM rfl rfl <| oA rfl rfl <| RJ_nil <| QJ_block_normal <| nR ⟨n, x7, (IntKind.i64.wrap (((shr_u64 ((to_u64 (x7 + x8))) 1)).toNat : Int))⟩ h ⟨rfl, rfl, True.intro⟩ eR
   ·
    replace h := ite_f hg1 h
    exact CJ_exit <| QJ_then_exit <| QJ_round_exit <| QJ_block_here <| cR x7 (Option.some.inj h).symm ⟨rfl, True.intro⟩ eR
 ·
  rintro a6 hy12
  replace h := bindK_at hK3 hy12
  show CJ _ _ _ _ _ (([(5, .int .i64 a6)] : Slots) ++ forget _ _) (_)
  refine sR <| oM rfl rfl <| oA rfl rfl <| nT <| CJ_ret ?_
  cases h
  exact fE (res1 Try.results80 rfl) () eR
def table_find (l : List api_Target) (at_1 : Int) : Option (Int × Int) :=
  Option.bind (sort_Search__table_find_1 (((l.length : Nat) : Int)) l at_1) fun r6 =>
  grd (decide (0 ≤ r6 ∧ r6 < (l.length : Int))) <|
  grd (inI64 ((at_1 - ((l.getD ((r6).toNat) (⟨0, 0, ByteArray.empty, 0, false⟩ : api_Target))).Start))) <|
  lt ((at_1 - ((l.getD ((r6).toNat) (⟨0, 0, ByteArray.empty, 0, false⟩ : api_Target))).Start)) fun w8 =>
  some (r6, w8)
theorem L_table_find {W : World} {Al : HP} {vl : Value} {l : List api_Target} {at_1 : Int} {r : Int × Int} (rl : Reads Al tyapi_Target vl l) (h : table_find l at_1 = some r) :
    CSpec Try.prog W 74 [vl, .int .i64 at_1] [Al] (fun x : Unit => .tuple #[.int .i64 r.1, .int .i64 r.2]) (fun _ => True) (fun x F => Al :: F) := by
 refine CSpec.of_body Try.func74 rfl Try.ntmps74 rfl fun F => ?_
 show CJ _ _ _ _ _ _ (_ :: F)
 unfold table_find at h
 refine CJ_pure (len_of rl del0) fun hlen1 => sR <| RJ_pure (reads_sl3 rl del0) fun hsv3 => ?_
 obtain ⟨sv2, hsv3⟩ := hsv3
 subst hsv3
 refine oO <| O_box rfl rfl rfl fun b4 => oO <| O_box rfl rfl rfl fun b5 => oA rfl rfl <| oA rfl rfl <| nT <| sR <| oV (V_load rfl foc1 rfl Try.isAgg34) rfl <| oV (V_len rfl foc2 rl Try.runUnderlying34) rfl <| oP (P_makeFunc rfl rfl) rfl ?_
 obtain ⟨r6, hr7, h⟩ := bind_e h
 refine oO <| O_call (L_sort_Search__table_find_1 rl hr7) rfl Try.call80 (Dels.cons del1 (Dels.cons del1 (Dels.cons del0 Dels.nil))) rfl fun _ _ => oA rfl rfl <| nT <| CJ_seq <| AJ_startH 0 (by kernel_rfl) rfl <| aN 0 1 rfl rfl (P_move rfl) rfl <| aV 1 3 rfl rfl (GY_none rfl) eR (V_load rfl foc2 rfl Try.isAgg3) rfl <| aV 2 7 rfl rfl (GY_none rfl) eR (V_load rfl foc0 rfl Try.isAgg34) rfl <| aN 3 15 rfl rfl (P_move rfl) rfl ?_
 obtain ⟨hg1, h⟩ := grd_de h
 refine aV 4 31 rfl rfl (GY_none rfl) eR (V_index (i := (r6).toNat) rfl rfl (Int.toNat_of_nonneg (hg1.1)).symm (by omega) foc1 rl Try.runUnderlying34 Try.sizeOf33) rfl <| aN 5 63 rfl rfl (P_fieldE rfl ⟨_, _, _, Try.runUnderlying33, rfl, rfl, Try.sizeOf3, rfl⟩) rfl <| aV 6 127 rfl rfl (GY_none rfl) eR (V_loadE rfl rfl (by omega) foc1 rl rfl rfl Try.isAgg3) rfl ?_
 obtain ⟨hg2, h⟩ := grd_Ie h
 refine aN 7 255 rfl rfl (P_sub (a := at_1) (b := ((l.getD ((r6).toNat) (⟨0, 0, ByteArray.empty, 0, false⟩ : api_Target))).Start) rfl rfl hg2) rfl ?_
 obtain ⟨w8, hw8, h⟩ := lt_e h
 rw [← hw8]
 refine aN 8 511 rfl rfl (P_assign rfl) rfl <| aN 9 1023 rfl rfl (P_assign rfl) rfl <| aD <| CJ_ret ?_
 cases h
 exact fE (res2 Try.results74 rfl rfl) () (t1_ (eD (eD eR)))
def table_Find (l : List api_Target) (at_1 : Int) : Option (Int × Int × Bool) :=
  Option.bind (table_Check l) fun r2 =>
  if ((r2 ≠ (0 : Int)) ∨ (at_1 < (0 : Int))) then
    some (((0 : Int), (0 : Int), false))
  else
    Option.bind (table_size l) fun r8 =>
    if (r8 ≤ at_1) then
      some (((0 : Int), (0 : Int), false))
    else
      Option.bind (table_find l at_1) fun r10 =>
      some (r10.1, r10.2, true)
theorem L_table_Find {W : World} {Al : HP} {vl : Value} {l : List api_Target} {at_1 : Int} {r : Int × Int × Bool} (rl : Reads Al tyapi_Target vl l) (h : table_Find l at_1 = some r) :
    CSpec Try.prog W 60 [vl, .int .i64 at_1] [Al] (fun x : Unit => .tuple #[.int .i64 r.1, .int .i64 r.2.1, .bool r.2.2]) (fun _ => True) (fun x F => Al :: F) := by
 refine CSpec.of_body Try.func60 rfl Try.ntmps60 rfl fun F => ?_
 show CJ _ _ _ _ _ _ (_ :: F)
 unfold table_Find at h
 refine CJ_pure (len_of rl del0) fun hlen1 => sR <| oA rfl rfl <| oA rfl rfl <| oA rfl rfl <| nT <| CJ_seq <| sR <| oM rfl rfl ?_
 obtain ⟨r2, hr3, h⟩ := bind_e h
 refine oO <| O_call (L_table_Check rl hr3) rfl Try.call26 (Dels.cons del0 Dels.nil) rfl fun _ _ => oP (P_neq (a := r2) (b := (0 : Int)) rfl rfl) rfl <| oM rfl rfl <| RJ_mbF rfl rfl rfl (fun hG4 => have hP5 : ¬ (r2 ≠ (0 : Int)) := nP (bT_dec) hG4; VJ_P (P_move rfl)) <| RJ_mbF rfl rfl rfl (fun hG6 => have hP7 : ¬ (r2 ≠ (0 : Int)) := nP (bT_dec) hG6; VJ_P (P_lss (a := at_1) (b := (0 : Int)) (mbx hG6 rfl) rfl)) <| oP (P_pickOr rfl rfl (fun hh => mbx (not_f hh) rfl)) rfl <| oM rfl rfl <| RJ_splitP 14 rfl (bT_or bT_dec bT_dec) (fun hg1B hg1 => ?_) (fun hg1B hg1 => ?_)
 ·
  replace h := ite_t hg1 h
  refine RJ_gn (GY_no rfl rfl rfl hg1B) rfl rfl <| RJ_gn (GY_no rfl rfl rfl hg1B) rfl rfl <| RJ_gn (GY_no rfl rfl rfl hg1B) rfl rfl <| RJ_gn (GY_no rfl rfl rfl hg1B) rfl rfl <| oP (P_pickT rfl hg1B rfl) rfl <| nT <| CJ_condT rfl rfl <| sR <| oA rfl rfl <| oA rfl rfl <| oA rfl rfl <| nT <| CJ_ret <| QJ_then_ret ?_
  cases h
  exact fE (res3 Try.results60 rfl rfl rfl) () eR
 ·
  replace h := ite_f hg1 h
  refine gP (GY_yes rfl rfl rfl hg1B) (P_move rfl) rfl <| gP (GY_yes rfl rfl rfl hg1B) (P_move rfl) rfl ?_
  obtain ⟨r8, hr9, h⟩ := bind_e h
  refine RJ_gy (GY_yes rfl rfl rfl hg1B) <| O_call (L_table_size rl hr9) rfl Try.call62 (Dels.cons del0 Dels.nil) rfl fun _ _ => gP (GY_yes rfl rfl rfl hg1B) (P_geq (a := at_1) (b := r8) rfl rfl) rfl <| oP (P_pickF rfl hg1B rfl) rfl <| nT <| CJ_condP rfl bT_dec (fun hg2 => ?_) (fun hg2 => ?_)
  ·
   replace h := ite_t hg2 h
   refine sR <| oA rfl rfl <| oA rfl rfl <| oA rfl rfl <| nT <| CJ_ret <| QJ_then_ret ?_
   cases h
   exact fE (res3 Try.results60 rfl rfl rfl) () eR
  ·
   replace h := ite_f hg2 h
   refine kT <| sR <| oM rfl rfl <| oM rfl rfl ?_
   obtain ⟨r10, hr11, h⟩ := bind_e h
   refine oO <| O_call (L_table_find rl hr11) rfl Try.call74 (Dels.cons del0 Dels.nil) rfl fun _ _ => oM rfl rfl <| oP (P_extract rfl rfl) rfl <| oP (P_extract rfl rfl) rfl <| oA rfl rfl <| oA rfl rfl <| nT <| sR <| oM rfl rfl <| oM rfl rfl <| oA rfl rfl <| oA rfl rfl <| oA rfl rfl <| nT <| CJ_ret ?_
   cases h
   exact fE (res3 Try.results60 rfl rfl rfl) () eR
end Go.Proofs
set_option linter.unusedSimpArgs false
set_option linter.unusedVariables false
set_option maxRecDepth 20000
set_option maxHeartbeats 4000000
namespace Go.Proofs
open Go.VG
end Go.Proofs
set_option linter.unusedSimpArgs false
set_option linter.unusedVariables false
set_option maxRecDepth 20000
set_option maxHeartbeats 4000000
namespace Go.Proofs
open Go.VG
@[ext] structure api_Task where
  Kind : Int
  At : Int
  Value : UInt64
  deriving DecidableEq
@[ext] structure api_Answer where
  Done : Bool
  Ticket : Int
  Value : UInt64
  Error : Int
  deriving DecidableEq
abbrev tyapi_Answer : Ty api_Answer := { T := 40, sz := 4, enc := fun x => [.bool x.Done, .int .i64 x.Ticket, .int .u64 (x.Value.toNat : Int), .int .i64 x.Error], dflt := ⟨false, 0, 0, 0⟩, len := fun _ => rfl, one := fun _ => rfl, pos := by decide }
theorem ok_tyapi_Answer : ElemOk Try.prog tyapi_Answer 32 := ⟨Try.t40, .agg #[.bool false, .int .i64 0, .int .u64 0, .int .i64 0], by kernel_rfl, rfl, rfl, rfl, rfl⟩
end Go.Proofs
namespace Go.Proofs
structure Wt where
  tk : Nat
  gv : Nat
  t : api_Task
deriving DecidableEq
structure Dv where
  gone : Bool
  isB : Bool
  name : ByteArray
  base : List UInt64
  live : List api_Target
  new : List api_Target
  hl : Bool
  hn : Bool
  susp : Bool
  wait : List Wt
abbrev noN : ByteArray := ByteArray.mk #[]
abbrev tgt0 : api_Target := ⟨0, 0, ByteArray.empty, 0, false⟩
abbrev tsk0 : api_Task := ⟨0, 0, 0⟩
def Wt.z : Wt := ⟨0, 0, tsk0⟩
abbrev ans0 : api_Answer := ⟨false, 0, 0, 0⟩
def Dv.z : Dv := ⟨false, false, ByteArray.empty, [], [], [], false, false, false, []⟩
structure Md where
  dv : List Dv
  tks : Nat
  told : List api_Answer
  cl : Nat
  wr : Nat
def Md.at (m : Md) (k : Nat) : Dv := m.dv.getD k Dv.z
def Md.set (m : Md) (k : Nat) (d : Dv) : Md := { m with dv := m.dv.set k d }
def chkGo : List api_Target → Int → Int
  | [], _ => 0
  | t :: l, s =>
    if t.Start ≠ s then 2
    else if t.Length < 1 ∨ 16777216 < t.Length then 1
    else if (t.Fail = true ∧ t.On ≠ noN) ∨ (t.On = noN ∧ t.Offset ≠ 0) then 2
    else if t.Offset < 0 ∨ 16777216 - t.Length < t.Offset then 1
    else chkGo l (s + t.Length)
def chk (l : List api_Target) : Int := if 64 < l.length then 4 else chkGo l 0
def tsum : List api_Target → Int
  | [] => 0
  | t :: l => t.Length + tsum l
def tsize (l : List api_Target) : Int := if chk l = 0 then tsum l else 0
def findGo : List api_Target → Nat → Int → Option (Nat × Int)
  | [], _, _ => none
  | t :: l, i, a => if a < t.Start + t.Length then some (i, a - t.Start) else findGo l (i + 1) a
def tfind (l : List api_Target) (a : Int) : Option (Nat × Int) := if chk l ≠ 0 ∨ a < 0 then none else findGo l 0 a
def memS (p : List ByteArray) (n : ByteArray) : Bool := p.any fun x => decide (x = n)
def usesGo : List api_Target → List ByteArray → List ByteArray
  | [], o => o
  | t :: l, o => usesGo l (if t.On = noN ∨ memS o t.On = true then o else o ++ [t.On])
def tuses (l : List api_Target) : List ByteArray := usesGo l []
def nam (l : List api_Target) (n : ByteArray) : Bool := l.any fun t => decide (t.On = n ∧ n ≠ noN)
namespace Md
def isN (d : Dv) (n : ByteArray) : Bool := !d.gone && decide (d.name = n)
def find (m : Md) (n : ByteArray) : Option Nat := m.dv.findIdx? fun d => isN d n
def dev (m : Md) (n : ByteArray) : Option Nat := (m.find n).bind fun k => if (m.at k).isB then none else some k
def names (m : Md) : List ByteArray := (m.dv.filter fun d => !d.gone).map (·.name)
def freshE (m : Md) (n : ByteArray) : Int := if n.size < 1 ∨ 40 < n.size then 10 else if (m.find n).isSome then 9 else 0
def addE (m : Md) (n : ByteArray) : Int := if m.freshE n ≠ 0 then m.freshE n else if 256 ≤ m.names.length then 4 else 0
def addS (m : Md) (d : Dv) : Md := if m.addE d.name = 0 then { m with dv := m.dv ++ [d] } else m
def crE (m : Md) (n : ByteArray) : Int := m.addE n
def crS (m : Md) (n : ByteArray) : Md := m.addS { Dv.z with name := n }
def baS (m : Md) (n : ByteArray) (size : Nat) : Md := m.addS { Dv.z with name := n, isB := true, base := List.replicate size 0 }
def usesD (d : Dv) (n : ByteArray) : Bool := !d.gone && (nam d.live n || nam d.new n)
def users (m : Md) (n : ByteArray) : Nat := m.dv.countP fun d => usesD d n
def busy (m : Md) (k : Nat) : Bool := decide ((m.at k).wait ≠ []) || m.dv.any fun d => d.wait.any fun w => decide (w.gv = k)
def rmE (m : Md) (n : ByteArray) : Int := match m.find n with
  | none => 12
  | some k => if 0 < m.users n then 16 else if m.busy k then 20 else 0
def rmS (m : Md) (n : ByteArray) : Md := match m.find n with
  | none => m
  | some k => if m.rmE n = 0 then m.set k { m.at k with gone := true } else m
def size (m : Md) (k : Nat) : Int := if (m.at k).isB then ((m.at k).base.length : Int) else tsize (m.at k).live
def sizeN (m : Md) (n : ByteArray) : Int := match m.find n with
  | none => 0
  | some k => m.size k
def fits (m : Md) (l : List api_Target) : Bool := l.all fun t => decide (t.On = noN ∨ t.Offset + t.Length ≤ m.sizeN t.On)
def reach (m : Md) (k : Nat) : Nat → ByteArray → Bool
  | 0, _ => false
  | f + 1, n => match m.find n with
    | none => false
    | some i => decide (i = k) || ((m.at i).live ++ (m.at i).new).any fun t => decide (t.On ≠ noN) && reach m k f t.On
def ldE (m : Md) (n : ByteArray) (l : List api_Target) : Int := match m.dev n with
  | none => 12
  | some k =>
    if chk l ≠ 0 then chk l
    else if l.any (fun t => decide (t.On ≠ noN) && (m.find t.On).isNone) then 12
    else if l.any (fun t => decide (t.On ≠ noN) && m.reach k (m.dv.length + 1) t.On) then 21
    else if m.fits l then 0 else 1
def ldS (m : Md) (n : ByteArray) (l : List api_Target) : Md := match m.dev n with
  | none => m
  | some k => if m.ldE n l = 0 then m.set k { m.at k with new := l, hn := true } else m
def way (m : Md) : Nat → Nat → api_Task → Option Nat
  | 0, _, _ => none
  | f + 1, k, t =>
    if (m.at k).isB then none
    else if (m.at k).susp then some k
    else if t.Kind = 3 then (tuses (m.at k).live).findSome? fun n => (m.find n).bind fun j => way m f j t
    else match tfind (m.at k).live t.At with
      | none => none
      | some (i, o) =>
        let x := (m.at k).live.getD i tgt0
        if x.On = noN then none else (m.find x.On).bind fun j => way m f j { t with At := x.Offset + o }
def wayk (m : Md) (k : Nat) (t : api_Task) : Option Nat := m.way (m.dv.length + 1) k t
def carry (m : Md) : Nat → Nat → api_Task → (UInt64 × Int) × Md
  | 0, _, _ => ((0, 0), m)
  | f + 1, k, t =>
    if t.Kind = 3 then ((0, 0), m)
    else if t.At < 0 ∨ m.size k ≤ t.At then ((0, 1), m)
    else if (m.at k).isB then
      if t.Kind = 2 then ((0, 0), { m.set k { m.at k with base := (m.at k).base.set t.At.toNat t.Value } with wr := m.wr + 1 }) else (((m.at k).base.getD t.At.toNat 0, 0), m)
    else match tfind (m.at k).live t.At with
      | none => ((0, 1), m)
      | some (i, o) =>
        let x := (m.at k).live.getD i tgt0
        if x.Fail then ((0, 7), m)
        else if x.On = noN then ((0, if t.Kind = 2 then 22 else 0), m)
        else match m.find x.On with
          | none => ((0, 1), m)
          | some j => carry m f j { t with At := x.Offset + o }
def carryk (m : Md) (k : Nat) (t : api_Task) : (UInt64 × Int) × Md := m.carry (m.dv.length + 1) k t
def addW (m : Md) (k : Nat) (w : Wt) : Md := m.set k { m.at k with wait := (m.at k).wait ++ [w] }
def doE (m : Md) (n : ByteArray) (t : api_Task) : Int := match m.find n with
  | none => 12
  | some k => if t.Kind < 1 ∨ 3 < t.Kind then 17 else if (m.at k).isB = false ∧ (m.at k).hl = false ∧ (m.at k).susp = false then 20 else 0
def doA (m : Md) (n : ByteArray) (t : api_Task) : api_Answer := if m.doE n t ≠ 0 then ans0 else match m.find n with
  | none => ans0
  | some k => match m.wayk k t with
    | some _ => ⟨false, ((m.tks + 1 : Nat) : Int), 0, 0⟩
    | none => ⟨true, 0, (m.carryk k t).1.1, (m.carryk k t).1.2⟩
def doS (m : Md) (n : ByteArray) (t : api_Task) : Md := if m.doE n t ≠ 0 then m else match m.find n with
  | none => m
  | some k => match m.wayk k t with
    | some w => { m with tks := m.tks + 1 }.addW w ⟨m.tks + 1, k, t⟩
    | none => (m.carryk k t).2
def suE (m : Md) (n : ByteArray) : Int := match m.dev n with
  | none => 12
  | some k => if (m.at k).susp = true ∨ (m.wayk k ⟨3, 0, 0⟩).isSome then 20 else 0
def suS (m : Md) (n : ByteArray) : Md := match m.dev n with
  | none => m
  | some k => if m.suE n = 0 then m.set k { m.at k with susp := true } else m
def needs (m : Md) (k : Nat) (z : Int) : Bool := m.dv.all fun d => d.gone || (d.live ++ d.new).all fun t => decide (t.On ≠ (m.at k).name ∨ t.Offset + t.Length ≤ z)
def rsE (m : Md) (n : ByteArray) : Int := match m.dev n with
  | none => 12
  | some k =>
    let d := m.at k
    if d.susp = false ∨ (d.hl = false ∧ d.hn = false) then 20
    else if d.hn = true ∧ (m.needs k (tsize d.new) = false ∨ m.fits d.new = false) then 1
    else 0
def rsT (m : Md) (x : Wt) : Md := match m.wayk x.gv x.t with
  | some w => m.addW w x
  | none => { (m.carryk x.gv x.t).2 with told := (m.carryk x.gv x.t).2.told ++ [⟨true, (x.tk : Int), (m.carryk x.gv x.t).1.1, (m.carryk x.gv x.t).1.2⟩] }
def rsX (d : Dv) : Dv := if d.hn then { d with live := d.new, hl := true, new := [], hn := false } else d
def rsS (m : Md) (n : ByteArray) : Md := match m.dev n with
  | none => m
  | some k => if m.rsE n = 0 then (m.at k).wait.foldl rsT (m.set k { rsX (m.at k) with susp := false, wait := [] }) else m
def anS (m : Md) : Md := { m with told := [] }
end Md
end Go.Proofs
namespace Go.Proofs
open Go.VG
theorem dropD {α : Type} {l : List α} {i : Nat} (d : α) (h : i < l.length) : l.drop i = l.getD i d :: l.drop (i + 1) := by
  rw [List.drop_eq_getElem_cons h]; simp [List.getD, h]
theorem in64 {x : Int} (h : -9223372036854775808 ≤ x ∧ x ≤ 9223372036854775807) : inI64 x = true := inI64_iff.2 h
theorem inLen_le {n : Nat} (h : n ≤ 1000000000) : inLen n = true := by unfold inLen; exact Nat.ble_eq_true_of_le h
def errS (e : Int) : Unit ⊕ Int := if e = 0 then .inl () else .inr e
section
variable {l : List api_Target}
theorem check_l1 : ∀ (N x : Nat) (s : Int), l.length - x < N → x ≤ l.length → l.length ≤ 64 → 0 ≤ s → s ≤ (x : Int) * 16777216 →
    table_Check_l1 l N x s = some (errS (chkGo (l.drop x) s)) := by
  intro N
  induction N with
  | zero => intro x s h; omega
  | succ N ih =>
    intro x s h1 h2 h3 h4 h5
    simp only [table_Check_l1, table_Check_l1_b]
    by_cases hx : x < l.length
    · rw [if_pos (by omega), dropD tgt0 hx]
      simp only [chkGo]
      generalize l.getD x tgt0 = t
      by_cases c1 : t.Start ≠ s
      · rw [if_pos c1, if_pos c1]; rfl
      · rw [if_neg c1, if_neg c1]
        by_cases c2 : t.Length < 1 ∨ 16777216 < t.Length
        · rw [if_pos c2, if_pos c2]; rfl
        · rw [if_neg c2, if_neg c2]
          by_cases c3 : (t.Fail = true ∧ t.On ≠ noN) ∨ t.On = noN ∧ t.Offset ≠ 0
          · rw [if_pos c3]
            rw [if_pos c3]; rfl
          · rw [if_neg c3]
            rw [if_neg c3]
            by_cases c4 : t.Offset < 0 ∨ 16777216 - t.Length < t.Offset
            · rw [if_pos c4, if_pos c4]; rfl
            · rw [if_neg c4, if_neg c4]
              have hb : x * 16777216 ≤ 64 * 16777216 := Nat.mul_le_mul_right _ (by omega)
              rw [in64 (by omega)]
              exact ih (x + 1) _ (by omega) hx h3 (by omega) (by omega)
    · rw [if_neg (by omega), List.drop_eq_nil_of_le (by omega)]; rfl
theorem check_eq : table_Check l = some (chk l) := by
  unfold table_Check chk
  by_cases h : 64 < l.length
  · rw [if_pos (by omega), if_pos h]
  · rw [if_neg (by omega), if_neg h]
    have hF := fuel_big
    generalize FUEL = N at hF ⊢
    rw [check_l1 N 0 0 (by omega) (by omega) (by omega) (by omega) (by omega), List.drop_zero]
    unfold errS
    by_cases c : chkGo l 0 = 0
    · rw [if_pos c, c]; rfl
    · rw [if_neg c]; rfl
theorem index_l1 {p : List ByteArray} {n : ByteArray} : ∀ (N x : Nat), p.length - x < N → x ≤ p.length →
    slices_Index_string_l1 p n N x = some (match (p.drop x).findIdx? (fun y => decide (y = n)) with | some j => .inr ((x + j : Nat) : Int) | none => .inl ()) := by
  intro N
  induction N with
  | zero => intro x h; omega
  | succ N ih =>
    intro x h1 h2
    simp only [slices_Index_string_l1, slices_Index_string_l1_b]
    by_cases hx : x < p.length
    · rw [if_pos (by omega), dropD ByteArray.empty hx, List.findIdx?_cons]
      by_cases c : n = p.getD x ByteArray.empty
      · rw [if_pos c, if_pos (by simp [c])]; rfl
      · rw [if_neg c, if_neg (by simp; exact fun h => c h.symm), ih (x + 1) (by omega) hx]
        cases (p.drop (x + 1)).findIdx? (fun y => decide (y = n)) with
        | none => rfl
        | some j => simp; omega
    · rw [if_neg (by omega), List.drop_eq_nil_of_le (by omega)]; rfl
def idxS (p : List ByteArray) (n : ByteArray) : Int := match p.findIdx? (fun y => decide (y = n)) with | some j => (j : Int) | none => -1
theorem index_eq {p : List ByteArray} {n : ByteArray} (h : p.length ≤ 1000000000) : slices_Index_string p n = some (idxS p n) := by
  unfold slices_Index_string idxS
  have hF := fuel_big
  generalize FUEL = N at hF ⊢
  rw [index_l1 N 0 (by omega) (by omega), List.drop_zero]
  cases p.findIdx? (fun y => decide (y = n)) with
  | none => rfl
  | some j => simp [seqO]
theorem mem_memS {p : List ByteArray} {n : ByteArray} : memS p n = true ↔ n ∈ p := by unfold memS; simp
theorem idxS_mem {p : List ByteArray} {n : ByteArray} : 0 ≤ idxS p n ↔ n ∈ p := by
  unfold idxS
  cases h : p.findIdx? (fun y => decide (y = n)) with
  | none =>
    rw [List.findIdx?_eq_none_iff] at h
    constructor
    · intro h2; simp at h2
    · intro h2; have := h n h2; simp at this
  | some j =>
    obtain ⟨hj, h2, _⟩ := List.findIdx?_eq_some_iff_getElem.1 h
    have h3 : p[j] = n := by simpa using h2
    exact ⟨fun _ => h3 ▸ List.getElem_mem hj, fun _ => by simp⟩
theorem contains_eq {p : List ByteArray} {n : ByteArray} (h : p.length ≤ 1000000000) : slices_Contains_string p n = some (memS p n) := by
  unfold slices_Contains_string
  rw [index_eq h, Option.bind_some]
  refine congrArg some ?_
  rw [Bool.eq_iff_iff, decide_eq_true_iff, mem_memS]; exact idxS_mem
theorem usesGo_len : ∀ (l : List api_Target) (o : List ByteArray), (usesGo l o).length ≤ o.length + l.length
  | [], o => Nat.le_refl _
  | t :: l, o => by
    have := usesGo_len l (if t.On = noN ∨ memS o t.On = true then o else o ++ [t.On])
    have h2 : (if t.On = noN ∨ memS o t.On = true then o else o ++ [t.On]).length ≤ o.length + 1 := by split <;> simp
    simp only [usesGo, List.length_cons]; omega
theorem uses_l1 : ∀ (N x : Nat) (o : List ByteArray), l.length - x < N → x ≤ l.length → o.length ≤ x → l.length ≤ 1000000 →
    table_Uses_l1 l N o x = some (usesGo (l.drop x) o) := by
  intro N
  induction N with
  | zero => intro x o h; omega
  | succ N ih =>
    intro x o h1 h2 h3 h4
    simp only [table_Uses_l1, table_Uses_l1_b]
    by_cases hx : x < l.length
    · rw [if_pos (by omega), dropD tgt0 hx]
      simp only [usesGo]
      generalize l.getD x tgt0 = t
      by_cases c1 : t.On ≠ noN
      · refine (if_pos c1).trans ?_
        rw [contains_eq (by omega), Option.bind_some]
        by_cases c2 : memS o t.On = true
        · rw [if_neg (by simp [c2]), ih (x + 1) o (by omega) hx (by omega) h4, if_pos (.inr c2)]
        · rw [if_pos (by simp [c2]), inLen_le (by omega)]
          refine (ih (x + 1) _ (by omega) hx (by simp; omega) h4).trans ?_
          rw [if_neg (fun h => h.elim c1 c2)]
      · have c1' : t.On = noN := Classical.not_not.1 c1
        refine (if_neg c1).trans ?_
        rw [ih (x + 1) o (by omega) hx (by omega) h4, if_pos (.inl c1')]
    · rw [if_neg (by omega), List.drop_eq_nil_of_le (by omega)]; rfl
theorem uses_eq (h : l.length ≤ 1000000) : table_Uses l = some (tuses l) := by
  unfold table_Uses tuses
  have hF := fuel_big
  generalize FUEL = N at hF ⊢
  rw [uses_l1 N 0 [] (by omega) (by omega) (by simp) h, List.drop_zero]; rfl
end
end Go.Proofs
namespace Go.Proofs
open Go.VG
section
variable {l : List api_Target}
theorem chkGo_cons {t : api_Target} {s : Int} (h : chkGo (t :: l) s = 0) : t.Start = s ∧ 1 ≤ t.Length ∧ t.Length ≤ 16777216 ∧ 0 ≤ t.Offset ∧ t.Offset ≤ 16777216 - t.Length ∧ chkGo l (s + t.Length) = 0 := by
  simp only [chkGo] at h
  split at h
  · cases h
  · rename_i c1
    split at h
    · cases h
    · rename_i c2
      split at h
      · cases h
      · split at h
        · cases h
        · rename_i c4
          exact ⟨Classical.not_not.1 c1, by omega, by omega, by omega, by omega, h⟩
theorem chk_at : ∀ (l : List api_Target) (s : Int), chkGo l s = 0 → ∀ i, i < l.length → (l.getD i tgt0).Start = s + tsum (l.take i) ∧ 1 ≤ (l.getD i tgt0).Length ∧ (l.getD i tgt0).Length ≤ 16777216 ∧ 0 ≤ (l.getD i tgt0).Offset ∧ (l.getD i tgt0).Offset ≤ 16777216 - (l.getD i tgt0).Length
  | [], _, _, i, hi => by simp at hi
  | t :: l, s, h, i, hi => by
    obtain ⟨h1, h2, h3, h4, h5, h6⟩ := chkGo_cons h
    cases i with
    | zero => exact ⟨by simp [tsum, h1], h2, h3, h4, h5⟩
    | succ i =>
      obtain ⟨g1, g2⟩ := chk_at l _ h6 i (by simpa using hi)
      simp only [List.getD_cons_succ, List.take_succ_cons, tsum]
      exact ⟨by omega, g2⟩
theorem tsum_snoc : ∀ (a : List api_Target) (t : api_Target), tsum (a ++ [t]) = tsum a + t.Length
  | [], t => by simp [tsum]
  | x :: a, t => by simp only [List.cons_append, tsum, tsum_snoc a t]; omega
theorem takeD {α : Type} {l : List α} {i : Nat} (d : α) (h : i < l.length) : l.take (i + 1) = l.take i ++ [l.getD i d] := by
  rw [List.take_add_one, List.getElem?_eq_getElem h]; simp [List.getD, h]
theorem tsum_take (h : chkGo l 0 = 0) : ∀ i, i ≤ l.length → 0 ≤ tsum (l.take i) ∧ tsum (l.take i) ≤ (i : Int) * 16777216
  | 0, _ => by simp [tsum]
  | i + 1, hi => by
    obtain ⟨g1, g2⟩ := tsum_take h i (by omega)
    have := chk_at l 0 h i (by omega)
    rw [takeD tgt0 (by omega), tsum_snoc]; omega
theorem tsum_mono (h : chkGo l 0 = 0) {i : Nat} : ∀ j, i ≤ j → j ≤ l.length → tsum (l.take i) + ((j : Int) - (i : Int)) ≤ tsum (l.take j)
  | 0, hi, _ => by obtain rfl : i = 0 := by omega
                   simp
  | j + 1, hi, hj => by
    rcases Nat.lt_or_ge i (j + 1) with h1 | h1
    · have g := tsum_mono h (i := i) j (by omega) (by omega)
      have := chk_at l 0 h j (by omega)
      rw [takeD tgt0 (show j < l.length by omega), tsum_snoc]; omega
    · obtain rfl : i = j + 1 := by omega
      omega
def tend (l : List api_Target) (i : Nat) : Int := tsum (l.take (i + 1))
theorem tend_eq (h : chkGo l 0 = 0) {i : Nat} (hi : i < l.length) : (l.getD i tgt0).Start + (l.getD i tgt0).Length = tend l i := by
  unfold tend
  rw [takeD tgt0 hi, tsum_snoc]; have := chk_at l 0 h i hi; omega
theorem tend_lt (h : chkGo l 0 = 0) {i j : Nat} (hij : i < j) (hj : j < l.length) : tend l i < tend l j := by
  have := tsum_mono h (i := i + 1) (j + 1) (by omega) (by omega)
  unfold tend; omega
theorem chk_len (h : chk l = 0) : l.length ≤ 64 ∧ chkGo l 0 = 0 := by
  unfold chk at h
  split at h
  · cases h
  · exact ⟨by omega, h⟩
theorem tsum_bd (h : chk l = 0) : 0 ≤ tsum l ∧ tsum l ≤ 1073741824 := by
  obtain ⟨h1, h2⟩ := chk_len h
  have := tsum_take h2 l.length (Nat.le_refl _)
  rw [List.take_length] at this; omega
theorem size_in (h : chk l = 0) : table_size l = some (tsum l) := by
  obtain ⟨h1, h2⟩ := chk_len h
  unfold table_size
  cases l with
  | nil => rfl
  | cons t r =>
    rw [if_neg (by simp; omega)]
    have e : ((((t :: r).length : Nat) : Int) - 1).toNat = r.length := by simp
    simp only [lt, e]
    have h3 := tend_eq (l := t :: r) h2 (i := r.length) (by simp)
    have h4 := tsum_bd h
    have h5 : tend (t :: r) r.length = tsum (t :: r) := by unfold tend; rw [List.take_of_length_le (by simp)]
    rw [h5] at h3
    rw [h3, in64 (by omega)]; rfl
theorem size_eq : table_Size l = some (tsize l) := by
  unfold table_Size tsize
  rw [check_eq, Option.bind_some]
  by_cases h : chk l = 0
  · rw [if_neg (by simpa using h), size_in h, if_pos h]; rfl
  · rw [if_pos h, if_neg h]
theorem half' {a : Nat} (h : a ≤ 1000000000) : IntKind.i64.wrap ((shr_u64 (to_u64 (a : Int)) 1).toNat : Int) = ((a / 2 : Nat) : Int) := by
  have h1 := to_u64_toNat (a : Int)
  have h2 : (to_u64 (a : Int)).toNat = a := by omega
  have e : (shr_u64 (to_u64 (a : Int)) 1).toNat = a / 2 := by rw [shr_u64_toNat, h2]; rfl
  rw [e, wrap64_in (by omega) (by omega)]
theorem search_l1 (h : chkGo l 0 = 0) (hl : l.length ≤ 64) {a : Int} : ∀ (N i j : Nat), j - i < N → i ≤ j → j ≤ l.length → (∀ q, q < i → tend l q ≤ a) → (∀ q, j ≤ q → q < l.length → a < tend l q) →
    ∃ r : Nat, sort_Search__table_find_1_l1 l a N (i : Int) (j : Int) = some (r : Int) ∧ r ≤ l.length ∧ (∀ q, q < r → tend l q ≤ a) ∧ (∀ q, r ≤ q → q < l.length → a < tend l q) := by
  intro N
  induction N with
  | zero => intro i j h1; omega
  | succ N ih =>
    intro i j h1 h2 h3 h4 h5
    simp only [sort_Search__table_find_1_l1, sort_Search__table_find_1_l1_b]
    by_cases hij : i < j
    · rw [if_pos (by omega), in64 (by omega)]
      have e : ((i : Int) + (j : Int)) = ((i + j : Nat) : Int) := by omega
      simp only [grd, e, half' (show i + j ≤ 1000000000 by omega), cond_true]
      have hm : (i + j) / 2 < l.length := by omega
      have e2 : table_find_1 (((i + j) / 2 : Nat) : Int) l a = some (decide (a < tend l ((i + j) / 2))) := by
        unfold table_find_1
        have g := tend_eq h hm
        have g2 := tsum_take h ((i + j) / 2 + 1) (by omega)
        unfold tend at g
        simp only [grd, Int.toNat_natCast, lt]
        rw [show (decide (0 ≤ (((i + j) / 2 : Nat) : Int) ∧ (((i + j) / 2 : Nat) : Int) < (l.length : Int))) = true by simp; omega]
        simp only [cond_true]
        show (bif inI64 ((l.getD ((i + j) / 2) tgt0).Start + (l.getD ((i + j) / 2) tgt0).Length) then some (decide (a < (l.getD ((i + j) / 2) tgt0).Start + (l.getD ((i + j) / 2) tgt0).Length)) else none) = some (decide (a < tsum (l.take ((i + j) / 2 + 1))))
        generalize (l.getD ((i + j) / 2) tgt0).Start + (l.getD ((i + j) / 2) tgt0).Length = z at g ⊢
        subst g
        rw [in64 (by omega)]
        rfl
      rw [e2, Option.bind_some]
      by_cases c : a < tend l ((i + j) / 2)
      · rw [if_neg (by simpa using c)]
        refine ih i ((i + j) / 2) (by omega) (by omega) (by omega) h4 fun q g1 g2 => ?_
        rcases Nat.lt_or_ge ((i + j) / 2) q with g | g
        · have := tend_lt h g g2; omega
        · obtain rfl : q = (i + j) / 2 := by omega
          exact c
      · rw [if_pos (by simpa using c), in64 (by omega)]
        have e3 : ((((i + j) / 2 : Nat) : Int) + 1) = (((i + j) / 2 + 1 : Nat) : Int) := by omega
        simp only [cond_true, lt, e3]
        refine ih ((i + j) / 2 + 1) j (by omega) (by omega) h3 (fun q g1 => ?_) h5
        rcases Nat.lt_or_ge q ((i + j) / 2) with g | g
        · have := tend_lt h g hm; omega
        · obtain rfl : q = (i + j) / 2 := by omega
          omega
    · rw [if_neg (by omega)]
      obtain rfl : i = j := by omega
      exact ⟨i, rfl, h3, h4, h5⟩
theorem findGo_eq (h : chkGo l 0 = 0) {a : Int} {r : Nat} (hr : r < l.length) (h1 : ∀ q, q < r → tend l q ≤ a) (h2 : a < tend l r) : ∀ (m i : Nat), i + m = r → findGo (l.drop i) i a = some (r, a - (l.getD r tgt0).Start)
  | 0, i, e => by
    obtain rfl : i = r := by omega
    have := tend_eq h hr
    rw [dropD tgt0 hr]; simp only [findGo]
    rw [if_pos (by omega)]
  | m + 1, i, e => by
    have hi : i < l.length := by omega
    have := tend_eq h hi
    have := h1 i (by omega)
    rw [dropD tgt0 hi]; simp only [findGo]
    rw [if_neg (by omega)]
    exact findGo_eq h hr h1 h2 m (i + 1) (by omega)
theorem findGo_none (h : chkGo l 0 = 0) {a : Int} (h1 : ∀ q, q < l.length → tend l q ≤ a) : ∀ (m i : Nat), i + m = l.length → findGo (l.drop i) i a = none
  | 0, i, e => by rw [List.drop_eq_nil_of_le (by omega)]; rfl
  | m + 1, i, e => by
    have hi : i < l.length := by omega
    have := tend_eq h hi
    have := h1 i (by omega)
    rw [dropD tgt0 hi]; simp only [findGo]
    rw [if_neg (by omega)]
    exact findGo_none h h1 m (i + 1) (by omega)
def tfindR (o : Option (Nat × Int)) : Int × Int × Bool := match o with | some (i, a) => ((i : Int), a, true) | none => (0, 0, false)
theorem tfind_spec (h : chk l = 0) {a : Int} (ha : 0 ≤ a) : (tsum l ≤ a ∧ tfind l a = none) ∨ ∃ r, r < l.length ∧ (∀ q, q < r → tend l q ≤ a) ∧ a < tend l r ∧ a < tsum l ∧ tfind l a = some (r, a - (l.getD r tgt0).Start) := by
  obtain ⟨h1, h2⟩ := chk_len h
  have e : tfind l a = findGo l 0 a := by unfold tfind; rw [if_neg (by simp [h]; exact ha)]
  rcases (show a < tsum l ∨ tsum l ≤ a by omega) with g | g
  · -- the first one
    have : ∃ r, r < l.length ∧ (∀ q, q < r → tend l q ≤ a) ∧ a < tend l r := by
      have key : ∀ n, n ≤ l.length → (∀ q, q < n → tend l q ≤ a) ∨ ∃ r, r < l.length ∧ (∀ q, q < r → tend l q ≤ a) ∧ a < tend l r := by
        intro n
        induction n with
        | zero => intro _; exact .inl fun q hq => by omega
        | succ n ih =>
          intro hn
          rcases ih (by omega) with g1 | g1
          · by_cases c : a < tend l n
            · exact .inr ⟨n, hn, g1, c⟩
            · refine .inl fun q hq => ?_
              rcases Nat.lt_or_ge q n with g2 | g2
              · exact g1 q g2
              · obtain rfl : q = n := by omega
                omega
          · exact .inr g1
      rcases key l.length (Nat.le_refl _) with g1 | g1
      · exfalso
        cases hl : l.length with
        | zero => rw [List.eq_nil_of_length_eq_zero hl] at g; simp [tsum] at g; omega
        | succ n =>
          have := g1 n (by omega)
          unfold tend at this
          rw [List.take_of_length_le (by omega)] at this; omega
      · exact g1
    obtain ⟨r, g1, g2, g3⟩ := this
    exact .inr ⟨r, g1, g2, g3, g, by rw [e]; exact findGo_eq h2 g1 g2 g3 r 0 (by omega)⟩
  · refine .inl ⟨g, ?_⟩
    rw [e]
    refine findGo_none h2 (fun q hq => ?_) l.length 0 (by omega)
    have := tsum_mono h2 (i := q + 1) l.length (by omega) (Nat.le_refl _)
    rw [List.take_length] at this; unfold tend; omega
theorem find_eq {a : Int} : table_Find l a = some (tfindR (tfind l a)) := by
  unfold table_Find
  rw [check_eq, Option.bind_some]
  by_cases h : chk l ≠ 0 ∨ a < 0
  · rw [if_pos h]; unfold tfind; rw [if_pos h]; rfl
  · rw [if_neg h]
    have h0 : chk l = 0 := Classical.not_not.1 fun y => h (.inl y)
    have ha : 0 ≤ a := by omega
    have hb := tsum_bd h0
    obtain ⟨h1, h2⟩ := chk_len h0
    rw [size_in h0, Option.bind_some]
    rcases tfind_spec h0 ha with ⟨g1, g2⟩ | ⟨r, g1, g2, g3, g4, g5⟩
    · rw [if_pos g1, g2]; rfl
    · rw [if_neg (by omega), g5]
      unfold table_find sort_Search__table_find_1
      have hF := fuel_big
      generalize FUEL = N at hF ⊢
      obtain ⟨r', q1, q2, q3, q4⟩ := search_l1 h2 h1 (a := a) N 0 l.length (by omega) (by omega) (Nat.le_refl _) (fun q hq => by omega) (fun q h3 h4 => by omega)
      have e0 : ((0 : Nat) : Int) = 0 := rfl
      rw [e0] at q1
      have er : r' = r := by
        rcases Nat.lt_trichotomy r' r with g | g | g
        · have := g2 r' g; have := q4 r' (Nat.le_refl _) (by omega); omega
        · exact g
        · have := q3 r g; omega
      subst er
      rw [q1]
      simp only [Option.bind_some, grd, Int.toNat_natCast, lt]
      have hs := chk_at l 0 h2 r' g1
      have hs2 := tsum_take h2 r' (by omega)
      rw [show decide (0 ≤ (r' : Int) ∧ (r' : Int) < (l.length : Int)) = true by simp; omega]
      have hg : inI64 (a - (l.getD r' tgt0).Start) = true := in64 (by omega)
      exact (congrArg (fun b => Option.bind (bif b then some ((r' : Int), a - (l.getD r' tgt0).Start) else none) fun r10 => some (r10.1, r10.2, true)) hg).trans rfl
end
end Go.Proofs

namespace Go.Proofs
namespace Md
def tbl (d : Dv) : List api_Target := d.live ++ d.new
end Md
def inT (t : api_Task) : Prop := -9223372036854775808 ≤ t.At ∧ t.At ≤ 9223372036854775807
structure MdOk (m : Md) : Prop where
  uniq : ∀ i j, i < m.dv.length → j < m.dv.length → (m.at i).gone = false → (m.at j).gone = false → (m.at i).name = (m.at j).name → i = j
  nm : ∀ i, i < m.dv.length → (m.at i).gone = false → (m.at i).name ≠ noN
  chk : ∀ i, chk (m.at i).live = 0 ∧ chk (m.at i).new = 0
  nam : ∀ i, i < m.dv.length → (m.at i).gone = false → ∀ t ∈ Md.tbl (m.at i), t.On ≠ noN → (m.find t.On).isSome
  acy : ∃ rk : Nat → Nat, ∀ i, i < m.dv.length → (m.at i).gone = false → ∀ t ∈ Md.tbl (m.at i), ∀ j, m.find t.On = some j → rk j < rk i
  bas : ∀ i, (m.at i).isB = true → (m.at i).live = [] ∧ (m.at i).new = [] ∧ (m.at i).wait = [] ∧ (m.at i).hl = false ∧ (m.at i).hn = false ∧ (m.at i).susp = false ∧ (m.at i).base.length ≤ 65536
  hl : ∀ i, (m.at i).hl = false → (m.at i).live = []
  hn : ∀ i, (m.at i).hn = false → (m.at i).new = []
  org : ∀ i, i < m.dv.length → ∀ w ∈ (m.at i).wait, (m.at i).gone = false ∧ w.gv < m.dv.length ∧ (m.at w.gv).gone = false ∧ (m.at w.gv).isB = false ∧ 1 ≤ w.t.Kind ∧ w.t.Kind ≤ 3 ∧ inT w.t
structure MdBig (m : Md) : Prop where
  len : m.dv.length ≤ 10000
  wl : ∀ i, (m.at i).wait.length ≤ 100000
  tks : m.tks ≤ 100000
  told : m.told.length ≤ 100000000
  wr : m.wr ≤ 100000000
def Md.wsum (m : Md) : Nat := (m.dv.map fun d => d.wait.length).sum
theorem wait_le_sum : ∀ (l : List Dv) (i : Nat), (l.getD i Dv.z).wait.length ≤ (l.map fun d => d.wait.length).sum
  | [], i => by simp [Dv.z]
  | d :: l, 0 => by simp
  | d :: l, i + 1 => by have := wait_le_sum l i; simp only [List.getD_cons_succ, List.map_cons, List.sum_cons]; omega
theorem wsum_set : ∀ (l : List Dv) (k : Nat) (d' : Dv), k < l.length → ((l.set k d').map fun d => d.wait.length).sum + (l.getD k Dv.z).wait.length = (l.map fun d => d.wait.length).sum + d'.wait.length
  | [], _, _, h => by cases h
  | d :: l, 0, d', _ => by simp; omega
  | d :: l, k + 1, d', h => by
    have := wsum_set l k d' (by simpa using h)
    simp only [List.set_cons_succ, List.getD_cons_succ, List.map_cons, List.sum_cons]; omega
theorem Md.wait_le (m : Md) (i : Nat) : (m.at i).wait.length ≤ m.wsum := wait_le_sum m.dv i
structure MdBd (m : Md) : Prop where
  wl : m.wsum ≤ m.tks
  tks : m.tks ≤ m.cl
  told : m.told.length ≤ 4000 * m.cl
  wr : m.wr ≤ 4000 * m.cl
  len : m.dv.length ≤ m.cl + 2
  cl : m.cl ≤ 4000
theorem MdBd.big {m : Md} (h : MdBd m) : MdBig m := by
  have h1 := h.tks; have h2 := h.told; have h3 := h.wr; have h4 := h.len; have h5 := h.cl
  exact ⟨by omega, fun i => by have := h.wl; have := m.wait_le i; omega, by omega, by omega, by omega⟩
end Go.Proofs
namespace Go.VG
set_option linter.unusedSectionVars false
section
variable {κ ν : Type} [DecidableEq κ]
theorem Ents.get {M : MTy κ ν} : ∀ {es : List MapEntry} {l : List (κ × ν)} {i : Nat} {e : MapEntry}, Ents M es l → es[i]? = some e → ∃ p, l[i]? = some p ∧ e.key = M.ek p.1 ∧ e.val = M.ev p.2
  | [], _, _, _, _, h => by simp at h
  | _ :: _, [], _, _, h, _ => h.elim
  | a :: es, p :: l, 0, e, h, he => by
    simp at he; subst he
    exact ⟨p, rfl, h.1, h.2.1⟩
  | a :: es, p :: l, i + 1, e, h, he => by
    obtain ⟨q, h1, h2⟩ := Ents.get h.2.2 (show es[i]? = some e by simpa using he)
    exact ⟨q, by simpa using h1, h2⟩
def mpi (M : MTy κ ν) (bm r : Nat) (l : List (κ × ν)) (is : List Nat) : HP := ex fun c : Array MapEntry × Nat × Nat × Array Nat =>
  star [pur (Ents M c.1.toList l ∧ (l.map (·.1)).Nodup ∧ (c.1.toList.map (·.born)).Nodup ∧ (∀ e ∈ c.1.toList, e.born < c.2.2.1) ∧ c.2.2.1 ≤ c.2.1 ∧ c.2.2.2.toList.map some = is.map (fun i => (c.1.toList[i]?).map (·.born)) ∧ is.Nodup ∧ ∀ i ∈ is, i < l.length),
    pt bm (.map c.1 c.2.1), pt r (.mapIter (some bm) c.2.2.1 c.2.2.2 c.2.1)]
end
section
variable {P : Program} {n : Env} {W : World} {s : Slots} {H : List HP} {K : Slots → List HP → Prop} {d : Nat} {dst : Option Tmp} {ty : TypeId} {pos : String} {after : Array Edge} {g : Option (Nat × Bool)}
variable {κ ν : Type} [DecidableEq κ] {M : MTy κ ν} {T : TypeId} {bm r : Nat} {l : List (κ × ν)} {is : List Nat} {C : HP → List HP} {R : List HP}
theorem mpi_open {w : World} {F : List HP} (h : St W w (mpi M bm r l is :: F)) : ∃ (es : Array MapEntry) (clock since : Nat) (seen : Array Nat), St W w (pt bm (.map es clock) :: pt r (.mapIter (some bm) since seen clock) :: F) ∧
    Ents M es.toList l ∧ (l.map (·.1)).Nodup ∧ (es.toList.map (·.born)).Nodup ∧ (∀ e ∈ es.toList, e.born < since) ∧ since ≤ clock ∧ seen.toList.map some = is.map (fun i => (es.toList[i]?).map (·.born)) ∧ is.Nodup ∧ ∀ i ∈ is, i < l.length := by
  obtain ⟨c, h1⟩ := St.ex_iff.1 h
  obtain ⟨h2, h3⟩ := St.pur_iff.1 (St.star_iff.1 h1)
  exact ⟨c.1, c.2.1, c.2.2.1, c.2.2.2, h3, h2⟩
theorem mpi_close {w : World} {F : List HP} {es : Array MapEntry} {clock since : Nat} {seen : Array Nat} (h : St W w (pt bm (.map es clock) :: pt r (.mapIter (some bm) since seen clock) :: F))
    (h2 : Ents M es.toList l ∧ (l.map (·.1)).Nodup ∧ (es.toList.map (·.born)).Nodup ∧ (∀ e ∈ es.toList, e.born < since) ∧ since ≤ clock ∧ seen.toList.map some = is.map (fun i => (es.toList[i]?).map (·.born)) ∧ is.Nodup ∧ ∀ i ∈ is, i < l.length) : St W w (mpi M bm r l is :: F) :=
  St.ex_iff.2 ⟨(es, clock, since, seen), St.star_iff.2 (St.pur_iff.2 ⟨h2, h⟩)⟩
theorem O_rangeM {x : Operand} (hx : ev s x = some (.map (some bm))) (hf' : Foc H (mpc M bm l) C) (hok : MOk P M T) (hd : Nat.blt d n.n = true) (hk : ∀ r, K ((d, ptr r 0) :: s) (C (mpi M bm r l []))) :
    OJ P n W ⟨some d, .range T x, ty, pos, after, g⟩ s H K :=
  OJ_eff (fun q w hf hs => by
    obtain ⟨F, hp, hC⟩ := hf'.focus
    obtain ⟨es, clock, hs', he, hnd, hbn, hlt⟩ := mpc_blk (hs.perm hp)
    have hrun := run_range_map (P := P) w T M.KT M.VT bm es clock hok.ty hs'.blk
    refine ⟨ptr w.heap.size 0, w.alloc (.mapIter (some bm) clock #[] clock), C (mpi M bm w.heap.size l []), ?_, ?_, hk w.heap.size⟩
    · simp only [execOp, hf.eval hx, Sem.run_bind, hrun, Result.andThen_ok, Sem.run_pure]
    · exact (mpi_close ((hs'.alloc (.mapIter (some bm) clock #[] clock)).perm (List.Perm.swap _ _ _)) ⟨he, hnd, hbn, hlt, Nat.le_refl _, rfl, List.nodup_nil, fun i hi => by cases hi⟩).perm (hC _).symm) hd
theorem O_nextM {x : Operand} (hx : ev s x = some (ptr r 0)) (hf' : Foc H (mpi M bm r l is) C) (hd : Nat.blt d n.n = true)
    (h0 : (∀ i, i < l.length → i ∈ is) → K ((d, .tuple #[.bool false]) :: s) (C (mpi M bm r l is)))
    (h1 : ∀ i p, l[i]? = some p → i ∉ is → K ((d, .tuple #[.bool true, M.ek p.1, M.ev p.2]) :: s) (C (mpi M bm r l (is ++ [i])))) :
    OJ P n W ⟨some d, .next x false, ty, pos, after, g⟩ s H K :=
  OJ_eff (fun q w hf hs => by
    obtain ⟨F, hp, hC⟩ := hf'.focus
    obtain ⟨es, clock, since, seen, hs', he, hnd, hbn, hlt, hsc, hseen, hisn, hisl⟩ := mpi_open (hs.perm hp)
    have hb := hs'.blk
    have hsw := hs'.perm (List.Perm.swap _ _ _)
    have hr := hsw.blk
    have hlen := he.length
    -- which births have been met
    have hmem : ∀ i e, es.toList[i]? = some e → (e.born ∈ seen.toList ↔ i ∈ is) := fun i e hi => by
      have e1 : some e.born ∈ seen.toList.map some ↔ e.born ∈ seen.toList := by simp
      rw [← e1, hseen, List.mem_map]
      constructor
      · rintro ⟨j, hj, hje⟩
        obtain ⟨e', h2, h3⟩ := Option.map_eq_some_iff.1 hje
        have hjl : j < es.toList.length := by rw [hlen]; exact hisl j hj
        have hil : i < es.toList.length := (List.getElem?_eq_some_iff.1 hi).1
        have : i = j := by
          refine (List.getElem_inj (h₀ := by simpa using hil) (h₁ := by simpa using hjl) hbn).1 ?_
          have g1 := (List.getElem?_eq_some_iff.1 hi).2
          have g2 := (List.getElem?_eq_some_iff.1 h2).2
          simp only [List.getElem_map]
          rw [g1, g2, h3]
        rw [this]; exact hj
      · intro hj
        exact ⟨i, hj, by rw [hi]; rfl⟩
    rcases run_next_at (P := P) w ty r bm since clock seen es clock hr hb hlt hsc with ⟨hz, hrun⟩ | ⟨e, hel, w1, hw1, hrun⟩
    · refine ⟨.tuple #[.bool false], w, C (mpi M bm r l is), ?_, hs.perm (hp.trans (hC _).symm), h0 (fun i hi => by
          have hi' : i < es.toList.length := by rw [hlen]; exact hi
          obtain ⟨e, hge⟩ : ∃ e, es.toList[i]? = some e := ⟨_, List.getElem?_eq_getElem hi'⟩
          refine (hmem i e hge).1 ?_
          have h5 : e ∈ es.toList := List.mem_of_getElem? hge
          have hnl : e ∉ (leftOf es seen).toList := fun h => by
            rw [Array.eq_empty_of_size_eq_zero hz] at h; cases h
          refine Classical.byContradiction fun h6 => hnl ?_
          unfold leftOf
          rw [Array.toList_filter, List.mem_filter]
          refine ⟨h5, ?_⟩
          simp only [Array.mem_toList_iff] at h6
          simp [h6])⟩
      simp only [execOp, hf.eval hx, Sem.run_bind, hrun, Result.andThen_ok, Sem.run_pure]
    · obtain ⟨hes, hns⟩ := mem_left hel
      obtain ⟨i, hi, hie⟩ := List.getElem_of_mem hes
      have hge : es.toList[i]? = some e := by rw [List.getElem?_eq_getElem hi, hie]
      obtain ⟨p, p1, p2, p3⟩ := he.get hge
      have hni : i ∉ is := fun h => by
        have := (hmem i e hge).2 h
        simp only [Array.mem_toList_iff] at this
        have h7 : seen.contains e.born = true := by simpa using this
        rw [h7] at hns; cases hns
      have hsw1 : St W w1 (pt r (.mapIter (some bm) since seen clock) :: pt bm (.map es clock) :: F) := by
        rcases hw1 with rfl | rfl
        · exact hsw
        · exact hsw.drew
      refine ⟨.tuple #[.bool true, M.ek p.1, M.ev p.2], Go.ChangeMaps.setBlock w1 r (.mapIter (some bm) since (seen.push e.born) clock), C (mpi M bm r l (is ++ [i])), ?_, ?_, h1 i p p1 hni⟩
      · simp only [execOp, hf.eval hx, Sem.run_bind, hrun, Result.andThen_ok, Sem.run_pure]
        rw [p2, p3]
      · refine (mpi_close (seen := seen.push e.born) (hsw1.setObj.perm (List.Perm.swap _ _ _)) ⟨he, hnd, hbn, hlt, hsc, ?_, ?_, ?_⟩).perm (hC _).symm
        · rw [Array.toList_push, List.map_append, List.map_append, hseen, List.map_cons, List.map_nil, List.map_cons, List.map_nil, hge]; rfl
        · rw [List.nodup_append]
          refine ⟨hisn, by simp, fun a ha b hb' hab => ?_⟩
          simp at hb'; subst hb'; subst hab; exact hni ha
        · intro j hj
          rcases List.mem_append.1 hj with hj | hj
          · exact hisl j hj
          · simp at hj; subst hj; rw [← hlen]; exact hi) hd
theorem V_entryM {x : Operand} {i : Nat} {p : κ × ν} (hx : ev s x = some (ptr r 0)) (hf' : Foc H (mpi M bm r l (is ++ [i])) C) (hp1 : l[i]? = some p) : VJ P n W ⟨dst, .entry x, ty, pos, after, g⟩ s H (.tuple #[M.ek p.1, M.ev p.2]) :=
  (fun q w hf hs => by
    obtain ⟨F, hp, _⟩ := hf'.focus
    obtain ⟨es, clock, since, seen, hs', he, hnd, hbn, hlt, hsc, hseen, hisn, hisl⟩ := mpi_open (hs.perm hp)
    have hlen := he.length
    have hil : i < es.toList.length := by rw [hlen]; exact (List.getElem?_eq_some_iff.1 hp1).1
    have hge : es.toList[i]? = some es.toList[i] := List.getElem?_eq_getElem hil
    obtain ⟨p', q1, q2, q3⟩ := he.get hge
    rw [hp1] at q1
    cases q1
    have hs2 : ∃ xs : List Nat, seen = xs.toArray.push es.toList[i].born := by
      rw [List.map_append, List.map_cons, List.map_nil, hge] at hseen
      refine ⟨seen.toList.dropLast, ?_⟩
      have h3 : seen.toList ≠ [] := fun h => by rw [h] at hseen; simp at hseen
      have h4 := List.dropLast_concat_getLast h3
      have h5 : seen.toList.getLast h3 = es.toList[i].born := by
        have h6 : (seen.toList.map some).getLast (by simpa using h3) = some es.toList[i].born := by
          simp only [hseen]; simp
        rw [List.getLast_map] at h6
        exact Option.some.inj h6
      apply Array.toList_inj.1
      rw [Array.toList_push, ← h5]
      simpa using h4.symm
    obtain ⟨xs, rfl⟩ := hs2
    have hrun := run_entry_at (P := P) w r bm since xs.toArray es clock es.toList[i] (hs'.perm (List.Perm.swap _ _ _)).blk hs'.blk (List.getElem_mem hil) hbn
    simp only [execOp, hf.eval hx, Sem.run_bind, hrun, Result.andThen_ok, Sem.run_pure]
    rw [q2, q3])
theorem mpi_done : Ent (mpi M bm r l is :: R) (mpc M bm l :: R) := fun h hh => by
  obtain ⟨c, h1⟩ := stars_ex.1 hh
  obtain ⟨h2, h3⟩ := stars_pur.1 (stars_star.1 h1)
  have h4 : stars (pt bm (.map c.1 c.2.1) :: R) h := stars_tail (stars_perm (List.Perm.swap _ _ _) _ h3)
  obtain ⟨g1, g2, dj, e, ha, hb⟩ := h4
  exact ⟨g1, g2, dj, e, ⟨c.1, c.2.1, ha, h2.1, h2.2.1, h2.2.2.1, fun x hx => Nat.lt_of_lt_of_le (h2.2.2.2.1 x hx) h2.2.2.2.2.1⟩, hb⟩
end
end Go.VG
set_option linter.unusedSimpArgs false
set_option linter.unusedVariables false
set_option maxRecDepth 20000
set_option maxHeartbeats 4000000
namespace Go.Proofs
open Go.VG
def dvc_span_Size (x_0_a : ArrS) (x_0_d : Int) (x_0_start : Int) (x_0_length : Int) : Option (Int) :=
  some x_0_length
theorem L_dvc_span_Size {W : World} {bx_0 : Nat} {bx_0_a : Nat} {x_0_a : ArrS} {x_0_d : Int} {x_0_start : Int} {x_0_length : Int} {r : Int} (h : dvc_span_Size x_0_a x_0_d x_0_start x_0_length = some r) :
    CSpec Try.prog W 112 [ptr bx_0 0] [blkR bx_0 143 [ptr bx_0_a 0, .int .i64 x_0_d, .int .i64 x_0_start, .int .i64 x_0_length], Arr bx_0_a x_0_a] (fun x : Unit => .int .i64 r) (fun _ => True) (fun x F => blkR bx_0 143 [ptr bx_0_a 0, .int .i64 x_0_d, .int .i64 x_0_start, .int .i64 x_0_length] :: Arr bx_0_a x_0_a :: F) := by
 refine CSpec.of_body Try.func112 rfl Try.ntmps112 rfl fun F => ?_
 show CJ _ _ _ _ _ _ (_ :: _ :: F)
 unfold dvc_span_Size at h
 refine sR <| oA rfl rfl <| nT <| sR <| oM rfl rfl <| oP (P_nilCheck rfl) rfl <| oP (P_fieldAddr rfl ⟨_, _, _, Try.runUnderlying143, rfl, rfl, Try.sizeOf3, rfl⟩) rfl <| oV (V_loadR rfl foc0 rfl Try.isAgg3) rfl <| oA rfl rfl <| nT <| CJ_ret ?_
 cases h
 exact fE (res1 Try.results112 rfl) () eR
def block_inside (size : Int) (at_1 : Int) (n_2 : Int) : Option (Bool) :=
  some (((((decide ((0 : Int) ≤ at_1)) && (decide (at_1 ≤ size))) && (decide ((0 : Int) ≤ n_2))) && (decide (n_2 ≤ (IntKind.i64.wrap (size - at_1))))))
theorem L_block_inside {W : World} {size : Int} {at_1 : Int} {n_2 : Int} {r : Bool} (h : block_inside size at_1 n_2 = some r) :
    CSpec Try.prog W 70 [.int .i64 size, .int .i64 at_1, .int .i64 n_2] [] (fun x : Unit => .bool r) (fun _ => True) (fun x F => F) := by
 refine CSpec.of_body Try.func70 rfl Try.ntmps70 rfl fun F => ?_
 show CJ _ _ _ _ _ _ (F)
 unfold block_inside at h
 refine sR <| oA rfl rfl <| nT <| sR <| oM rfl rfl <| oP (P_geq (a := at_1) (b := (0 : Int)) rfl rfl) rfl <| oM rfl rfl <| RJ_mbT rfl rfl rfl (fun hG1 => have hP2 : ((0 : Int) ≤ at_1) := (bT_dec).1 hG1; VJ_P (P_move rfl)) <| RJ_mbT rfl rfl rfl (fun hG3 => have hP4 : ((0 : Int) ≤ at_1) := (bT_dec).1 hG3; VJ_P (P_move rfl)) <| RJ_mbT rfl rfl rfl (fun hG5 => have hP6 : ((0 : Int) ≤ at_1) := (bT_dec).1 hG5; VJ_P (P_leq (a := at_1) (b := size) (mbx hG5 rfl) (mbx hG5 rfl))) <| oP (P_pickAnd rfl (fun hh => mbx hh rfl) rfl) rfl <| oM rfl rfl <| RJ_mbT rfl rfl rfl (fun hG7 => have hP8 : (((0 : Int) ≤ at_1) ∧ (at_1 ≤ size)) := ((bT_and bT_dec bT_dec)).1 hG7; VJ_P (P_move rfl)) <| RJ_mbT rfl rfl rfl (fun hG9 => have hP10 : (((0 : Int) ≤ at_1) ∧ (at_1 ≤ size)) := ((bT_and bT_dec bT_dec)).1 hG9; VJ_P (P_geq (a := n_2) (b := (0 : Int)) (mbx hG9 rfl) rfl)) <| oP (P_pickAnd rfl (fun hh => mbx hh rfl) rfl) rfl <| oM rfl rfl <| RJ_mbT rfl rfl rfl (fun hG11 => have hP12 : ((((0 : Int) ≤ at_1) ∧ (at_1 ≤ size)) ∧ ((0 : Int) ≤ n_2)) := ((bT_and (bT_and bT_dec bT_dec) bT_dec)).1 hG11; VJ_P (P_move rfl)) <| RJ_mbT rfl rfl rfl (fun hG13 => have hP14 : ((((0 : Int) ≤ at_1) ∧ (at_1 ≤ size)) ∧ ((0 : Int) ≤ n_2)) := ((bT_and (bT_and bT_dec bT_dec) bT_dec)).1 hG13; VJ_P (P_move rfl)) <| RJ_mbT rfl rfl rfl (fun hG15 => have hP16 : ((((0 : Int) ≤ at_1) ∧ (at_1 ≤ size)) ∧ ((0 : Int) ≤ n_2)) := ((bT_and (bT_and bT_dec bT_dec) bT_dec)).1 hG15; VJ_P (P_move rfl)) ?_
 refine RJ_mbT rfl rfl rfl (fun hG17 => have hP18 : ((((0 : Int) ≤ at_1) ∧ (at_1 ≤ size)) ∧ ((0 : Int) ≤ n_2)) := ((bT_and (bT_and bT_dec bT_dec) bT_dec)).1 hG17; VJ_P (P_subW (a := size) (b := at_1) (mbx hG17 rfl) (mbx hG17 rfl))) <| RJ_mbT rfl rfl rfl (fun hG19 => have hP20 : ((((0 : Int) ≤ at_1) ∧ (at_1 ≤ size)) ∧ ((0 : Int) ≤ n_2)) := ((bT_and (bT_and bT_dec bT_dec) bT_dec)).1 hG19; VJ_P (P_leq (a := n_2) (b := (IntKind.i64.wrap (size - at_1))) (mbx hG19 rfl) (mbx hG19 rfl))) <| oP (P_pickAnd rfl (fun hh => mbx hh rfl) rfl) rfl <| oA rfl rfl <| nT <| CJ_ret ?_
 cases h
 exact fE (res1 Try.results70 rfl) () eR
def dvc_span_Read (x_0_a : ArrS) (x_0_d : Int) (x_0_start : Int) (x_0_length : Int) (at_1 : Int) : Option (UInt64 × Int) :=
  Option.bind (block_inside x_0_length at_1 (1 : Int)) fun r1 =>
  if (¬ r1 = true) then
    some (((0 : UInt64), (1 : Int)))
  else
    grd (inI64 (x_0_start + at_1)) <|
    some (((rdV x_0_a x_0_d (x_0_start + at_1)), (rdC x_0_a x_0_d (x_0_start + at_1))))
theorem L_dvc_span_Read {W : World} {bx_0 : Nat} {bx_0_a : Nat} {x_0_a : ArrS} {x_0_d : Int} {x_0_start : Int} {x_0_length : Int} {at_1 : Int} {r : UInt64 × Int} (h : dvc_span_Read x_0_a x_0_d x_0_start x_0_length at_1 = some r) :
    CSpec Try.prog W 111 [ptr bx_0 0, .int .i64 at_1] [blkR bx_0 143 [ptr bx_0_a 0, .int .i64 x_0_d, .int .i64 x_0_start, .int .i64 x_0_length], Arr bx_0_a x_0_a] (fun x : Unit => .tuple #[.int .u64 (r.1.toNat : Int), .int .i64 r.2]) (fun _ => True) (fun x F => blkR bx_0 143 [ptr bx_0_a 0, .int .i64 x_0_d, .int .i64 x_0_start, .int .i64 x_0_length] :: Arr bx_0_a x_0_a :: F) := by
 refine CSpec.of_body Try.func111 rfl Try.ntmps111 rfl fun F => ?_
 show CJ _ _ _ _ _ _ (_ :: _ :: F)
 unfold dvc_span_Read at h
 refine sR <| oA rfl rfl <| oA rfl rfl <| nT <| CJ_seq <| sR <| oM rfl rfl <| oP (P_nilCheck rfl) rfl <| oP (P_fieldAddr rfl ⟨_, _, _, Try.runUnderlying143, rfl, rfl, Try.sizeOf3, rfl⟩) rfl <| oV (V_loadR rfl foc0 rfl Try.isAgg3) rfl <| oM rfl rfl ?_
 obtain ⟨r1, hr2, h⟩ := bind_e h
 refine oO <| O_call (L_block_inside hr2) rfl Try.call70 Dels.nil rfl fun _ _ => oP (P_not rfl) rfl <| nT <| CJ_condP rfl (bT_not Iff.rfl) (fun hg1 => ?_) (fun hg1 => ?_)
 ·
  replace h := ite_t hg1 h
  refine sR <| oA rfl rfl <| oA rfl rfl <| nT <| CJ_ret <| QJ_then_ret ?_
  cases h
  exact fE (res2 Try.results111 rfl rfl) () eR
 ·
  replace h := ite_f hg1 h
  refine kT <| CJ_seq <| AJ_startH 16384 (by kernel_rfl) rfl <| aN 0 1 rfl rfl (P_move rfl) rfl <| aN 1 3 rfl rfl (P_nilCheck rfl) rfl <| aN 2 7 rfl rfl (P_fieldAddr rfl ⟨_, _, _, Try.runUnderlying143, rfl, rfl, Try.sizeOf59, rfl⟩) rfl <| aV 3 15 rfl rfl (GY_none rfl) eR (V_loadR rfl foc0 rfl Try.isAgg59) rfl <| aN 4 31 rfl rfl (P_move rfl) rfl <| aN 5 63 rfl rfl (P_nilCheck rfl) rfl <| aN 6 127 rfl rfl (P_fieldAddr rfl ⟨_, _, _, Try.runUnderlying143, rfl, rfl, Try.sizeOf3, rfl⟩) rfl <| aV 7 255 rfl rfl (GY_none rfl) eR (V_loadR rfl foc0 rfl Try.isAgg3) rfl <| aN 8 511 rfl rfl (P_move rfl) rfl <| aN 9 1023 rfl rfl (P_nilCheck rfl) rfl <| aN 10 2047 rfl rfl (P_fieldAddr rfl ⟨_, _, _, Try.runUnderlying143, rfl, rfl, Try.sizeOf3, rfl⟩) rfl <| aV 11 4095 rfl rfl (GY_none rfl) eR (V_loadR rfl foc0 rfl Try.isAgg3) rfl <| aN 12 8191 rfl rfl (P_move rfl) rfl ?_
  obtain ⟨hg2, h⟩ := grd_Ie h
  refine aN 13 16383 rfl rfl (P_add (a := x_0_start) (b := at_1) rfl rfl hg2) rfl <| AJ_op 14 32767 rfl (by kernel_rfl) rfl (GY_none rfl) <| O_call (c_Read) rfl Try.call101 (Dels.cons del1 Dels.nil) rfl fun _ _ => ⟨fun h => absurd h (by decide), ?_⟩
  refine aN 15 65535 rfl rfl (P_extract rfl rfl) rfl <| aN 16 131071 rfl rfl (P_extract rfl rfl) rfl <| aN 17 262143 rfl rfl (P_assign rfl) rfl <| aN 18 524287 rfl rfl (P_assign rfl) rfl <| aD <| CJ_ret ?_
  cases h
  exact fE (res2 Try.results111 rfl rfl) () (t1_ eR)
def dvc_span_Write (x_0_a : ArrS) (x_0_d : Int) (x_0_start : Int) (x_0_length : Int) (at_1 : Int) (v : UInt64) : Option (Int × ArrS) :=
  Option.bind (block_inside x_0_length at_1 (1 : Int)) fun r1 =>
  if (¬ r1 = true) then
    some (((1 : Int), x_0_a))
  else
    grd (inI64 (x_0_start + at_1)) <|
    grd (inLen x_0_a.writes) <|
    some (((wrR x_0_a x_0_d (x_0_start + at_1)), (wrS x_0_a x_0_d (x_0_start + at_1) v)))
theorem L_dvc_span_Write {W : World} {bx_0 : Nat} {bx_0_a : Nat} {x_0_a : ArrS} {x_0_d : Int} {x_0_start : Int} {x_0_length : Int} {at_1 : Int} {v : UInt64} {r : Int × ArrS} (h : dvc_span_Write x_0_a x_0_d x_0_start x_0_length at_1 v = some r) :
    CSpec Try.prog W 113 [ptr bx_0 0, .int .i64 at_1, .int .u64 (v.toNat : Int)] [blkR bx_0 143 [ptr bx_0_a 0, .int .i64 x_0_d, .int .i64 x_0_start, .int .i64 x_0_length], Arr bx_0_a x_0_a] (fun x : Unit => .int .i64 r.1) (fun _ => True) (fun x F => blkR bx_0 143 [ptr bx_0_a 0, .int .i64 x_0_d, .int .i64 x_0_start, .int .i64 x_0_length] :: Arr bx_0_a r.2 :: F) := by
 refine CSpec.of_body Try.func113 rfl Try.ntmps113 rfl fun F => ?_
 show CJ _ _ _ _ _ _ (_ :: _ :: F)
 unfold dvc_span_Write at h
 refine sR <| oA rfl rfl <| nT <| CJ_seq <| sR <| oM rfl rfl <| oP (P_nilCheck rfl) rfl <| oP (P_fieldAddr rfl ⟨_, _, _, Try.runUnderlying143, rfl, rfl, Try.sizeOf3, rfl⟩) rfl <| oV (V_loadR rfl foc0 rfl Try.isAgg3) rfl <| oM rfl rfl ?_
 obtain ⟨r1, hr2, h⟩ := bind_e h
 refine oO <| O_call (L_block_inside hr2) rfl Try.call70 Dels.nil rfl fun _ _ => oP (P_not rfl) rfl <| nT <| CJ_condP rfl (bT_not Iff.rfl) (fun hg1 => ?_) (fun hg1 => ?_)
 ·
  replace h := ite_t hg1 h
  refine sR <| oA rfl rfl <| nT <| CJ_ret <| QJ_then_ret ?_
  cases h
  exact fE (res1 Try.results113 rfl) () eR
 ·
  replace h := ite_f hg1 h
  refine kT <| CJ_seq <| AJ_startH 32768 (by kernel_rfl) rfl <| aN 0 1 rfl rfl (P_move rfl) rfl <| aN 1 3 rfl rfl (P_nilCheck rfl) rfl <| aN 2 7 rfl rfl (P_fieldAddr rfl ⟨_, _, _, Try.runUnderlying143, rfl, rfl, Try.sizeOf59, rfl⟩) rfl <| aV 3 15 rfl rfl (GY_none rfl) eR (V_loadR rfl foc0 rfl Try.isAgg59) rfl <| aN 4 31 rfl rfl (P_move rfl) rfl <| aN 5 63 rfl rfl (P_nilCheck rfl) rfl <| aN 6 127 rfl rfl (P_fieldAddr rfl ⟨_, _, _, Try.runUnderlying143, rfl, rfl, Try.sizeOf3, rfl⟩) rfl <| aV 7 255 rfl rfl (GY_none rfl) eR (V_loadR rfl foc0 rfl Try.isAgg3) rfl <| aN 8 511 rfl rfl (P_move rfl) rfl <| aN 9 1023 rfl rfl (P_nilCheck rfl) rfl <| aN 10 2047 rfl rfl (P_fieldAddr rfl ⟨_, _, _, Try.runUnderlying143, rfl, rfl, Try.sizeOf3, rfl⟩) rfl <| aV 11 4095 rfl rfl (GY_none rfl) eR (V_loadR rfl foc0 rfl Try.isAgg3) rfl <| aN 12 8191 rfl rfl (P_move rfl) rfl ?_
  obtain ⟨hg2, h⟩ := grd_Ie h
  refine aN 13 16383 rfl rfl (P_add (a := x_0_start) (b := at_1) rfl rfl hg2) rfl <| aN 14 32767 rfl rfl (P_move rfl) rfl ?_
  obtain ⟨hg3, h⟩ := grd_Le h
  refine AJ_op 15 65535 rfl (by kernel_rfl) rfl (GY_none rfl) <| O_call (c_Write hg3 (v := v)) rfl Try.call102 (Dels.cons del1 Dels.nil) rfl fun _ _ => ⟨fun h => absurd h (by decide), ?_⟩
  refine aN 16 131071 rfl rfl (P_assign rfl) rfl <| aD <| CJ_ret ?_
  cases h
  exact fE (res1 Try.results113 rfl) () (t1_ eR)
def dvc_span_Flush (x_0_a : ArrS) (x_0_d : Int) (x_0_start : Int) (x_0_length : Int) : Option (Int × ArrS) :=
  grd (inLen x_0_a.writes) <|
  some (((flC x_0_a x_0_d), (flS x_0_a x_0_d)))
theorem L_dvc_span_Flush {W : World} {bx_0 : Nat} {bx_0_a : Nat} {x_0_a : ArrS} {x_0_d : Int} {x_0_start : Int} {x_0_length : Int} {r : Int × ArrS} (h : dvc_span_Flush x_0_a x_0_d x_0_start x_0_length = some r) :
    CSpec Try.prog W 110 [ptr bx_0 0] [blkR bx_0 143 [ptr bx_0_a 0, .int .i64 x_0_d, .int .i64 x_0_start, .int .i64 x_0_length], Arr bx_0_a x_0_a] (fun x : Unit => .int .i64 r.1) (fun _ => True) (fun x F => blkR bx_0 143 [ptr bx_0_a 0, .int .i64 x_0_d, .int .i64 x_0_start, .int .i64 x_0_length] :: Arr bx_0_a r.2 :: F) := by
 refine CSpec.of_body Try.func110 rfl Try.ntmps110 rfl fun F => ?_
 show CJ _ _ _ _ _ _ (_ :: _ :: F)
 unfold dvc_span_Flush at h
 refine sR <| oA rfl rfl <| nT <| CJ_seq <| AJ_startH 256 (by kernel_rfl) rfl <| aN 0 1 rfl rfl (P_move rfl) rfl <| aN 1 3 rfl rfl (P_nilCheck rfl) rfl <| aN 2 7 rfl rfl (P_fieldAddr rfl ⟨_, _, _, Try.runUnderlying143, rfl, rfl, Try.sizeOf59, rfl⟩) rfl <| aV 3 15 rfl rfl (GY_none rfl) eR (V_loadR rfl foc0 rfl Try.isAgg59) rfl <| aN 4 31 rfl rfl (P_move rfl) rfl <| aN 5 63 rfl rfl (P_nilCheck rfl) rfl <| aN 6 127 rfl rfl (P_fieldAddr rfl ⟨_, _, _, Try.runUnderlying143, rfl, rfl, Try.sizeOf3, rfl⟩) rfl <| aV 7 255 rfl rfl (GY_none rfl) eR (V_loadR rfl foc0 rfl Try.isAgg3) rfl ?_
 obtain ⟨hg1, h⟩ := grd_Le h
 refine AJ_op 8 511 rfl (by kernel_rfl) rfl (GY_none rfl) <| O_call (c_FlushD hg1) rfl Try.call100 (Dels.cons del1 Dels.nil) rfl fun _ _ => ⟨fun h => absurd h (by decide), ?_⟩
 refine aN 9 1023 rfl rfl (P_assign rfl) rfl <| aD <| CJ_ret ?_
 cases h
 exact fE (res1 Try.results110 rfl) () (t1_ eR)
def Dvc.span (x_d : Int) (x_start : Int) (x_length : Int) : Dvc := { dep := 1, size := fun s => dvc_span_Size s x_d x_start x_length, rd := fun s k => dvc_span_Read s x_d x_start x_length k, wr := fun s k v => dvc_span_Write s x_d x_start x_length k v, fl := fun s => dvc_span_Flush s x_d x_start x_length }
end Go.Proofs
set_option linter.unusedSimpArgs false
set_option linter.unusedVariables false
set_option maxRecDepth 20000
set_option maxHeartbeats 4000000
namespace Go.Proofs
open Go.VG
theorem bs_22_1_0 (v0 : Int) : BuildsSlice Try.prog 22 1 [(0, .int .i64 v0)] 3 [.int .i64 v0] := fun w => by kernel_rfl
def volumegroupmake_Loaded_l1_b (l : List (List UInt64)) (rec : (List Int) → Nat → Option ((List Int))) (x9 : List Int) (x11 : Nat) : Option ((List Int)) :=
  if (((x11 : Nat) : Int) < ((l.length : Nat) : Int)) then
    grd (inLen (x9.length + 1)) <|
    grd (inN64 (x11 + 1)) <|
    rec ((x9 ++ [(((l.getD x11 []).length : Nat) : Int)])) (x11 + 1)
  else
    some x9
def volumegroupmake_Loaded_l1 (l : List (List UInt64)) : Nat → (List Int) → Nat → Option ((List Int))
  | 0, _, _ => none
  | n + 1, x9, x11 => volumegroupmake_Loaded_l1_b l (volumegroupmake_Loaded_l1 l n) x9 x11
def volumegroupmake_Loaded_l2_b (l : List (List UInt64)) (rec : ArrS → Nat → Option ((ArrS) ⊕ (Option ArrS))) (x32 : ArrS) (x33 : Nat) : Option ((ArrS) ⊕ (Option ArrS)) :=
  if (((x33 : Nat) : Int) < ((l.length : Nat) : Int)) then
    grd (inLen x32.writes) <|
    if ((ldC x32 (((x33 : Nat) : Int)) (l.getD x33 [])) ≠ (0 : Int)) then
      some (.inr none)
    else
      grd (inN64 (x33 + 1)) <|
      rec ((ldS x32 (((x33 : Nat) : Int)) (l.getD x33 []))) (x33 + 1)
  else
    some (.inl x32)
def volumegroupmake_Loaded_l2 (l : List (List UInt64)) : Nat → ArrS → Nat → Option ((ArrS) ⊕ (Option ArrS))
  | 0, _, _ => none
  | n + 1, x32, x33 => volumegroupmake_Loaded_l2_b l (volumegroupmake_Loaded_l2 l n) x32 x33
def volumegroupmake_Loaded (l : List (List UInt64)) : Option ((Option ArrS)) :=
  Option.bind (volumegroupmake_Loaded_l1 l FUEL ([]) 0) fun a8 =>
  grd (inLen a8.length) <|
  if ((newC a8) ≠ (0 : Int)) then
    some none
  else
    Option.elim (newO a8) (
      some none) fun o26 =>
    seqO (volumegroupmake_Loaded_l2 l FUEL o26 0) fun a31 =>
    some (some a31)
theorem L_volumegroupmake_Loaded {W : World} {Al : HP} {vl : Value} {hsl : List Sl3} {Bl : HP} {l : List (List UInt64)} {r : (Option ArrS)} (rl : Reads Al tyRow vl hsl) (ql : RowsR Bl l hsl) (h : volumegroupmake_Loaded l = some r) :
    CSpec Try.prog W 20 [vl] [Al, Bl] (fun x : Nat => oval r x) (fun _ => True) (fun x F => Al :: Bl :: optP (Arr x) r :: F) := by
 refine CSpec.of_body Try.func20 rfl Try.ntmps20 rfl fun F => ?_
 show CJ _ _ _ _ _ _ (_ :: _ :: F)
 unfold volumegroupmake_Loaded at h
 refine CJ_pure (len_of rl del0) fun hlen1 => sR <| oA rfl rfl <| nT <| sR <| oA rfl rfl <| nT <| CJ_seq <| sR <| oA rfl rfl <| nT <| CJ_ent (fun h hh => sl_nil (t := tyI) h hh) ?_
 obtain ⟨y5, hl3, hK4⟩ := bind_c h
 refine CJ_cutT (X := (List Int) × Sl3) [3, 4, 8, 9, 10, 11, 12, 13, 14, 15, 16, 17, 18, 19, 20, 21] (fun ⟨a8, hd7⟩ => ([(3, hd7.v)] : Slots)) (fun ⟨a8, hd7⟩ R => sl tyI hd7.v a8 :: R) (fun ⟨a8, hd7⟩ => y5 = a8) (Dels.cons del0 Dels.nil) ?_ ?_
 ·
  refine CJ_block <| CJ_loopR (X := Nat × (List Int) × Nat × Sl3) [3, 4, 8, 9, 10, 11, 12, 13, 14, 15, 16, 17, 18, 19, 20, 21] (fun ⟨n, x9, x11, hd10⟩ => ([(3, hd10.v), (4, .int .i64 (((x11 : Nat) : Int)))] : Slots)) (fun ⟨n, x9, x11, hd10⟩ R => sl tyI hd10.v x9 :: R) (fun ⟨n, x9, x11, hd10⟩ => volumegroupmake_Loaded_l1 l n x9 x11 = some y5) (fun ⟨n, x9, x11, hd10⟩ => n) ⟨FUEL, [], 0, ⟨none, 0, 0⟩⟩ ?_ ?_ eR ?_
  · exact hl3
  · exact ⟨rfl, rfl, True.intro⟩
  ·
   rintro ⟨n, x9, x11, hd10⟩ h
   cases n with
   | zero => exact none_e h
   | succ n => ?_
   replace h : volumegroupmake_Loaded_l1_b l (volumegroupmake_Loaded_l1 l n) x9 x11 = some y5 := h
   unfold volumegroupmake_Loaded_l1_b at h
   show CJ _ _ _ _ _ (([(3, hd10.v), (4, .int .i64 (((x11 : Nat) : Int)))] : Slots) ++ forget _ _) (sl tyI hd10.v x9 :: _)
   refine lC del0 fun hlen12 => CJ_seq <| sR <| oM rfl rfl <| oM rfl rfl <| oV (VJ_eq (V_len rfl foc1 rl Try.runUnderlying61) (congrArg (fun z : Nat => Value.int .i64 (z : Int)) (ql.1).symm)) rfl <| oP (P_lss (a := ((x11 : Nat) : Int)) (b := ((l.length : Nat) : Int)) rfl rfl) rfl <| nT <| CJ_condP rfl bT_dec (fun hg1 => ?_) (fun hg1 => ?_)
   ·
    replace h := ite_t hg1 h
    refine kT <| CJ_seq <| CJ_block <| CJ_region <| oM rfl rfl <| oM rfl rfl <| oM rfl rfl <| oV (V_index (i := x11) rfl rfl rfl (by have hz : x11 < l.length := (by omega); have hy := ql.1; omega) foc1 rl Try.runUnderlying61 Try.sizeOf50) rfl <| oV (V_loadE rfl rfl (by have hz : x11 < l.length := (by omega); have hy := ql.1; omega) foc1 rl rfl rfl Try.isAgg50) rfl <| oV (V_len rfl foc2 (ql.2 _ (by omega)) Try.runUnderlying50) rfl <| oO <| O_buildSlice rfl (bs_22_1_0 _) rfl fun b13 => ?_
    obtain ⟨hg2, h⟩ := grd_Le h
    refine oO <| O_append (t := tyI) (bytes := 8) rfl rfl del1 foc0 (Reads.lit (t := tyI) (ys := [(((l.getD x11 []).length : Nat) : Int)]) rfl rfl (by decide) (by decide) rfl) Try.underlying22 ok_tyI (apl (m := 1) (b := 8) hg2 (by decide)).1 (apl (m := 1) (b := 8) hg2 (by decide)).2 rfl fun p15 c16 => oA rfl rfl <| RJ_nil <| QJ_block_normal <| QJ_then <| CJ_region <| oM rfl rfl ?_
    obtain ⟨hg3, h⟩ := grd_Ne h
    exact oP (PJ_eq (P_add (a := ((x11 : Nat) : Int)) (b := (1 : Int)) rfl rfl (nat_in hg3)) rfl) rfl <| oA rfl rfl <| RJ_nil <| nR ⟨n, (x9 ++ [(((l.getD x11 []).length : Nat) : Int)]), (x11 + 1), ⟨p15, (x9 ++ [(((l.getD x11 []).length : Nat) : Int)]).length, c16⟩⟩ h ⟨rfl, rfl, True.intro⟩ (t0_ (t1_ (t1_ (eD eR))))
   ·
    replace h := ite_f hg1 h
    exact CJ_exit <| QJ_then_exit <| QJ_round_exit <| QJ_block_here <| cR ⟨x9, hd10⟩ (Option.some.inj h).symm ⟨rfl, True.intro⟩ eR
 ·
  rintro ⟨a8, hd7⟩ hy17
  replace h := bindK_at hK4 hy17
  show CJ _ _ _ _ _ (([(3, hd7.v)] : Slots) ++ forget _ _) (sl tyI hd7.v a8 :: _)
  refine lC del0 fun hlen18 => sR <| oM rfl rfl ?_
  obtain ⟨hg4, h⟩ := grd_Le h
  refine oO <| O_call (c_NewO (Reads.sl _ _ _) hg4) rfl Try.call48 (Dels.cons del0 Dels.nil) rfl fun X19 _ => oM rfl rfl <| oP (P_extract rfl rfl) rfl <| oP (P_extract rfl rfl) rfl <| oA rfl rfl <| oA rfl rfl <| nT <| CJ_seq <| sR <| oM rfl rfl <| oP (P_neq (a := (newC a8)) (b := (0 : Int)) rfl rfl) rfl <| oM rfl rfl <| RJ_mbF rfl rfl rfl (fun hG21 => have hP22 : ¬ ((newC a8) ≠ (0 : Int)) := nP (bT_dec) hG21; VJ_P (P_move rfl)) <| RJ_splitP 29 rfl bT_dec (fun hg5B hg5 => ?_) (fun hg5B hg5 => ?_)
  ·
   replace h := ite_t hg5 h
   refine RJ_gn (GY_no rfl rfl rfl hg5B) rfl rfl <| oP (P_pickT rfl hg5B rfl) rfl <| nT <| CJ_condT rfl rfl <| sR <| oA rfl rfl <| nT <| CJ_ret <| QJ_then_ret ?_
   cases h
   exact fE (res1 Try.results20 rfl) 0 (t2_ (t2_ (Ent.trans (fun h hh => optP_none h hh) <| t0_ (eD (eD eR)))))
  ·
   replace h := ite_f hg5 h
   rcases opt_e h with ⟨ht25, h⟩ | ⟨o26, ht25, h⟩
   ·
    rw [ht25]
    refine RJ_ent (t1_ (t1_ (t1_ (eD eR)))) <| gP (GY_yes rfl rfl rfl hg5B) (P_eqlNN (mbx (not_f hg5B) rfl) rfl Try.underlying59) rfl <| oP (P_pickF rfl hg5B rfl) rfl <| nT <| CJ_condT rfl rfl <| sR <| oA rfl rfl <| nT <| CJ_ret <| QJ_then_ret ?_
    cases h
    exact fE (res1 Try.results20 rfl) 0 (t1_ (t1_ (Ent.trans (fun h hh => optP_none h hh) <| t0_ (eD eR))))
   ·
    rw [ht25]
    refine RJ_ent (Ent.takeC (A' := Arr X19 o26) del0 rfl eR) <| gP (GY_yes rfl rfl rfl hg5B) (P_eqlPN (mbx (not_f hg5B) rfl) rfl Try.underlying59) rfl <| oP (P_pickF rfl hg5B rfl) rfl <| nT <| CJ_condF rfl rfl <| kT <| CJ_seq <| sR <| oA rfl rfl <| nT ?_
    obtain ⟨y29, hl27, hK28⟩ := seq_e h
    refine CJ_cutT (X := ArrS) [2, 7, 33, 34, 35, 36, 37, 38, 39, 40, 41, 42, 43, 44, 45, 46] (fun a31 => ([] : Slots)) (fun a31 R => Arr X19 a31 :: R) (fun a31 => y29 = .inl a31) (Dels.cons del0 Dels.nil) ?_ ?_
    ·
     refine CJ_block <| CJ_loopR (X := Nat × ArrS × Nat) [2, 7, 33, 34, 35, 36, 37, 38, 39, 40, 41, 42, 43, 44, 45, 46] (fun ⟨n, x32, x33⟩ => ([(7, .int .i64 (((x33 : Nat) : Int)))] : Slots)) (fun ⟨n, x32, x33⟩ R => Arr X19 x32 :: R) (fun ⟨n, x32, x33⟩ => volumegroupmake_Loaded_l2 l n x32 x33 = some y29) (fun ⟨n, x32, x33⟩ => n) ⟨FUEL, o26, 0⟩ ?_ ?_ eR ?_
     · exact hl27
     · exact ⟨rfl, True.intro⟩
     ·
      rintro ⟨n, x32, x33⟩ h
      cases n with
      | zero => exact none_e h
      | succ n => ?_
      replace h : volumegroupmake_Loaded_l2_b l (volumegroupmake_Loaded_l2 l n) x32 x33 = some y29 := h
      unfold volumegroupmake_Loaded_l2_b at h
      show CJ _ _ _ _ _ (([(7, .int .i64 (((x33 : Nat) : Int)))] : Slots) ++ forget _ _) (Arr X19 x32 :: _)
      refine CJ_seq <| sR <| oM rfl rfl <| oM rfl rfl <| oV (VJ_eq (V_len rfl foc2 rl Try.runUnderlying61) (congrArg (fun z : Nat => Value.int .i64 (z : Int)) (ql.1).symm)) rfl <| oP (P_lss (a := ((x33 : Nat) : Int)) (b := ((l.length : Nat) : Int)) rfl rfl) rfl <| nT <| CJ_condP rfl bT_dec (fun hg6 => ?_) (fun hg6 => ?_)
      ·
       replace h := ite_t hg6 h
       refine kT <| CJ_seq <| CJ_block <| sR <| oM rfl rfl <| oM rfl rfl <| oM rfl rfl <| oM rfl rfl <| oV (V_index (i := x33) rfl rfl rfl (by have hz : x33 < l.length := (by omega); have hy := ql.1; omega) foc2 rl Try.runUnderlying61 Try.sizeOf50) rfl <| oV (V_loadE rfl rfl (by have hz : x33 < l.length := (by omega); have hy := ql.1; omega) foc2 rl rfl rfl Try.isAgg50) rfl ?_
       obtain ⟨hg7, h⟩ := grd_Le h
       refine oO <| O_call (c_LoadD (ql.2 _ (by omega)) hg7) rfl Try.call49 (Dels.cons del0 (Dels.cons del2 Dels.nil)) rfl fun _ _ => oP (P_neq (a := (ldC x32 (((x33 : Nat) : Int)) (l.getD x33 []))) (b := (0 : Int)) rfl rfl) rfl <| nT <| CJ_condP rfl bT_dec (fun hg8 => ?_) (fun hg8 => ?_)
       ·
        replace h := ite_t hg8 h
        refine sR <| oA rfl rfl <| nT <| CJ_ret <| QJ_block_ret <| QJ_then_ret <| QJ_round_ret <| QJ_block_ret <| QJ_then_ret ?_
        have hE := Option.some.inj h
        replace hE := seq_inr hK28 hE.symm
        subst hE
        exact fE (res1 Try.results20 rfl) 0 (t3_ (t1_ (Ent.trans (fun h hh => optP_none h hh) <| t0_ (eD (eD eR)))))
       ·
        replace h := ite_f hg8 h
        refine CJ_skip <| QJ_block_normal <| QJ_then <| CJ_region <| oM rfl rfl ?_
        obtain ⟨hg9, h⟩ := grd_Ne h
        exact oP (PJ_eq (P_add (a := ((x33 : Nat) : Int)) (b := (1 : Int)) rfl rfl (nat_in hg9)) rfl) rfl <| oA rfl rfl <| RJ_nil <| nR ⟨n, (ldS x32 (((x33 : Nat) : Int)) (l.getD x33 [])), (x33 + 1)⟩ h ⟨rfl, True.intro⟩ (t0_ (t1_ (t1_ eR)))
      ·
       replace h := ite_f hg6 h
       exact CJ_exit <| QJ_then_exit <| QJ_round_exit <| QJ_block_here <| cR x32 (Option.some.inj h).symm True.intro eR
    ·
     rintro a31 hy34
     replace h := seq_inl hK28 hy34
     show CJ _ _ _ _ _ (([] : Slots) ++ forget _ _) (Arr X19 a31 :: _)
     refine sR <| oM rfl rfl <| oA rfl rfl <| nT <| CJ_ret ?_
     cases h
     exact fE (res1 Try.results20 rfl) X19 (t2_ (t2_ (t0_ (eD eR))))
end Go.Proofs
namespace Go.Proofs
open Go.VG
def mkS (ims : List (List UInt64)) : ArrS := ⟨ims.map (fun im => ⟨im, im, false⟩), [], [], 0, false, 0⟩
theorem inLen_of {n : Nat} (h : n ≤ 1000000000) : inLen n = true := inLen_iff.2 h
theorem inN64_of {n : Nat} (h : n ≤ 9000000000000000000) : inN64 n = true := inN64_iff.2 (by omega)
theorem grd_t {α : Type} {b : Bool} {o : Option α} (h : b = true) : grd b o = o := by rw [h]; rfl
def lensI (l : List (List UInt64)) : List Int := l.map fun im => (im.length : Int)
theorem getD_take_snoc {α : Type} {l : List α} {i : Nat} {d : α} (h : i < l.length) : l.take (i + 1) = l.take i ++ [l.getD i d] := by
  rw [List.take_succ_eq_append_getElem h]; simp [List.getD, h]
theorem loaded_l1 {l : List (List UInt64)} (h8 : l.length ≤ 1000) : ∀ (N i : Nat) (acc : List Int), l.length - i < N → i ≤ l.length → acc = lensI (l.take i) →
    volumegroupmake_Loaded_l1 l N acc i = some (lensI l)
  | 0, _, _, h, _, _ => absurd h (by omega)
  | N + 1, i, acc, h, hi, ha => by
    show volumegroupmake_Loaded_l1_b _ _ _ _ = _
    unfold volumegroupmake_Loaded_l1_b
    subst ha
    by_cases hlt : i < l.length
    · rw [if_pos (by omega), grd_t (inLen_of (by simp [lensI]; omega)), grd_t (inN64_of (by omega))]
      refine loaded_l1 h8 N (i + 1) _ (by omega) (by omega) ?_
      rw [getD_take_snoc (d := []) hlt]; simp [lensI]
    · rw [if_neg (by omega)]
      have : i = l.length := by omega
      rw [this, List.take_length]
def ldDrv (l : List (List UInt64)) (i : Nat) : List Drive := (l.take i).map (fun im => ⟨im, im, false⟩) ++ (lensI (l.drop i)).map mkD
theorem loaded_l2 {l : List (List UInt64)} (h8 : l.length ≤ 8) (hz : ∀ im ∈ l, 1 ≤ im.length ∧ im.length ≤ 65536) : ∀ (N i : Nat) (x : ArrS), l.length - i < N → i ≤ l.length → x = ⟨ldDrv l i, [], [], 0, false, 0⟩ →
    volumegroupmake_Loaded_l2 l N x i = some (.inl (mkS l))
  | 0, _, _, h, _, _ => absurd h (by omega)
  | N + 1, i, x, h, hi, hx => by
    show volumegroupmake_Loaded_l2_b _ _ _ _ = _
    unfold volumegroupmake_Loaded_l2_b
    subst hx
    by_cases hlt : i < l.length
    · have hlen : (ldDrv l i).length = l.length := by simp [ldDrv, lensI]; omega
      have hin : inR ⟨ldDrv l i, [], [], 0, false, 0⟩ (i : Int) := by unfold inR; simp only [hlen]; omega
      have hg : (ldDrv l i).getD i d0 = mkD ((l.getD i []).length : Int) := by
        unfold ldDrv
        have e1 : ((l.take i).map (fun im => (⟨im, im, false⟩ : Drive))).length = i := by simp; omega
        simp only [List.getD]
        rw [List.getElem?_append_right (by omega), e1, Nat.sub_self, List.drop_eq_getElem_cons hlt]; simp [lensI, hlt]
      have hc : ldC ⟨ldDrv l i, [], [], 0, false, 0⟩ (i : Int) (l.getD i []) = 0 := by
        unfold ldC; rw [if_pos hin]; simp only [Int.toNat_natCast, hg]
        rw [if_pos (by simp [mkD])]
      rw [if_pos (by omega), grd_t (inLen_of (by simp)), if_neg (by rw [hc]; simp), grd_t (inN64_of (by omega))]
      refine loaded_l2 h8 hz N (i + 1) _ (by omega) (by omega) ?_
      have hC : ldS ⟨ldDrv l i, [], [], 0, false, 0⟩ (i : Int) (l.getD i []) = ⟨ldDrv l (i + 1), [], [], 0, false, 0⟩ := by
        unfold ldS; rw [if_pos hc]
        have hd : ∀ n, delUpTo [] (i : Int) n = [] := fun n => by
          induction n with
          | zero => rfl
          | succ n ih => rw [← delUpTo_step, ih]; rfl
        simp only [Int.toNat_natCast, hg, hd, List.filter_nil]
        congr 1
        unfold ldDrv
        rw [getD_take_snoc (d := []) hlt, List.drop_eq_getElem_cons hlt]
        have e1 : ((l.take i).map (fun im => (⟨im, im, false⟩ : Drive))).length = i := by simp; omega
        rw [List.set_append_right _ _ (by omega), e1, Nat.sub_self]
        simp only [lensI, List.map_cons, List.set_cons_zero, List.map_append, List.map_nil, List.append_assoc, List.cons_append, List.nil_append]
        rfl
      exact hC
    · rw [if_neg (by omega)]
      have : i = l.length := by omega
      rw [this]; simp [ldDrv, mkS, lensI]
theorem loaded_eq {l : List (List UInt64)} (h8 : l.length ≤ 8) (hz : ∀ im ∈ l, 1 ≤ im.length ∧ im.length ≤ 65536) : volumegroupmake_Loaded l = some (some (mkS l)) := by
  unfold volumegroupmake_Loaded
  have hF := fuel_big
  generalize FUEL = N at hF ⊢
  rw [loaded_l1 (by omega) N 0 [] (by omega) (by omega) (by simp [lensI])]
  have hN : newB (lensI l) = true := by
    unfold newB
    rw [Bool.and_eq_true, Nat.ble_eq, List.all_eq_true]
    refine ⟨by simpa [lensI] using h8, fun z hz' => ?_⟩
    obtain ⟨im, him, rfl⟩ := List.mem_map.1 hz'
    have := hz im him
    simp; omega
  simp only [Option.bind_some]
  rw [grd_t (inLen_of (by simp [lensI]; omega))]
  have hnc : newC (lensI l) = 0 := by unfold newC; rw [if_pos hN]
  have hno : newO (lensI l) = some (newS (lensI l)) := by unfold newO; rw [if_pos hN]
  rw [if_neg (by rw [hnc]; simp), hno]
  simp only [Option.elim]
  rw [loaded_l2 h8 hz N 0 _ (by omega) (by omega) (by simp [newS, ldDrv])]
  rfl
end Go.Proofs
namespace Go.Proofs
open Go.VG
theorem insideB {n k m : Int} (hn : 0 ≤ n ∧ n ≤ 4611686018427387904) : block_inside n k m = some (decide (0 ≤ k ∧ k ≤ n ∧ 0 ≤ m ∧ m ≤ n - k)) := by
  unfold block_inside
  refine congrArg some ?_
  rw [Bool.eq_iff_iff]
  by_cases h : 0 ≤ k ∧ k ≤ n
  · rw [wrap64_in (by omega) (by omega)]; simp; omega
  · simp; omega
def spansA (s : ArrS) : List Dvc := (List.range s.drv.length).map fun i => Dvc.span ((i : Nat) : Int) 0 ((s.size i : Nat) : Int)
@[simp] theorem spansA_length {s : ArrS} : (spansA s).length = s.drv.length := by simp [spansA]
theorem sizeI_of {s : ArrS} {i : Nat} (h : i < s.drv.length) : sizeI s (i : Int) = ((s.size i : Nat) : Int) := by
  rw [sizeI, if_pos (show inR s (i : Int) from ⟨by omega, by omega⟩)]; simp
theorem inside_t {n k m : Int} (hn : n ≤ 1000000000) (h : 0 ≤ k ∧ 0 ≤ m ∧ k + m ≤ n) : block_inside n k m = some true := by
  rw [insideB (by omega)]; exact congrArg some (decide_eq_true (by omega))
end Go.Proofs
namespace Go.Proofs
open Go.VG
def nowL (s : ArrS) (d : Nat) : List UInt64 := (s.drv.getD d d0).now
theorem size_nowL {s : ArrS} {d : Nat} : s.size d = (nowL s d).length := rfl
structure Good (s : ArrS) : Prop where
  down : s.down = false
  fuse : s.fuse = 0
  bad : s.bad = []
  miss : ∀ d, (s.drv.getD d d0).miss = false
theorem good_mkS {ims : List (List UInt64)} : Good (mkS ims) where
  down := rfl
  fuse := rfl
  bad := rfl
  miss d := by
    simp only [mkS, List.getD, List.getElem?_map]
    cases ims[d]? <;> rfl
theorem nowL_mkS {ims : List (List UInt64)} {d : Nat} : nowL (mkS ims) d = ims.getD d [] := by
  simp only [nowL, mkS, List.getD, List.getElem?_map]
  cases ims[d]? <;> rfl
@[simp] theorem drv_mkS {ims : List (List UInt64)} : (mkS ims).drv.length = ims.length := by simp [mkS]
theorem Good.chk {s : ArrS} (hg : Good s) {d a : Nat} (hd : d < s.drv.length) (ha : a < s.size d) : cPow s = 0 ∧ cLoc s d = 0 ∧ cPla s d a = 0 ∧ cPre s d = 0 ∧ cWho s d a = 0 := by
  refine ⟨by simp [cPow, hg.down], ?_, ?_, by simp only [cPre, missI, Int.toNat_natCast, hg.miss d]; rfl, by simp [cWho, isBad, hg.bad, lookM]⟩
  · rw [cLoc, if_pos (show inR s (d : Int) from ⟨by omega, by omega⟩)]
  · rw [cPla, sizeI_of hd, if_pos (by omega)]
theorem Good.rdC {s : ArrS} (hg : Good s) {d a : Nat} (hd : d < s.drv.length) (ha : a < s.size d) : rdC s d a = 0 := by
  obtain ⟨h1, h2, h3, h4, h5⟩ := hg.chk hd ha
  simp [Go.Proofs.rdC, fz, h1, h2, h3, h4, h5]
theorem Good.rdV {s : ArrS} (hg : Good s) {d a : Nat} (hd : d < s.drv.length) (ha : a < s.size d) : rdV s d a = (nowL s d).getD a 0 := by
  rw [Go.Proofs.rdV, if_pos (hg.rdC hd ha)]; rfl
def wr1 (s : ArrS) (d a : Nat) (v : UInt64) : ArrS := { s with drv := setNow s d a v, log := s.log ++ [⟨d, a, v⟩], writes := s.writes + 1 }
theorem Good.wr {s : ArrS} (hg : Good s) {d a : Nat} {v : UInt64} (hd : d < s.drv.length) (ha : a < s.size d) : wrR s d a = 0 ∧ wrS s d a v = wr1 s d a v := by
  obtain ⟨h1, h2, h3, h4, h5⟩ := hg.chk hd ha
  have hc : wrC s d a = 0 := by simp [wrC, fz, h1, h2, h3, h4]
  refine ⟨by rw [wrR, if_neg (by simp [hc]), if_neg (by rw [hg.fuse]; decide)], ?_⟩
  rw [wrS, if_neg (by simp [hc]), if_neg (by rw [hg.fuse]; decide)]
  have hdel : delM ([] : List ((Int × Int) × Unit)) ((d : Int), (a : Int)) = [] := rfl
  simp only [wr1, Int.toNat_natCast, hg.bad, hg.fuse, hdel]
theorem nowL_wr1 {s : ArrS} {d a e : Nat} {v : UInt64} (hd : d < s.drv.length) : nowL (wr1 s d a v) e = if e = d then (nowL s d).set a v else nowL s e := by
  unfold nowL wr1 setNow
  simp only [List.getD, List.getElem?_set]
  by_cases h : d = e
  · subst h; simp [hd]
  · rw [if_neg h, if_neg (fun x => h x.symm)]
@[simp] theorem drv_wr1 {s : ArrS} {d a : Nat} {v : UInt64} : (wr1 s d a v).drv.length = s.drv.length := by simp [wr1, setNow]
@[simp] theorem writes_wr1 {s : ArrS} {d a : Nat} {v : UInt64} : (wr1 s d a v).writes = s.writes + 1 := rfl
theorem size_wr1 {s : ArrS} {d a e : Nat} {v : UInt64} (hd : d < s.drv.length) : (wr1 s d a v).size e = s.size e := by
  rw [size_nowL, size_nowL, nowL_wr1 hd]; split
  · rename_i h; rw [List.length_set, h]
  · rfl
theorem Good.wr1 {s : ArrS} (hg : Good s) {d a : Nat} {v : UInt64} : Good (wr1 s d a v) where
  down := hg.down
  fuse := hg.fuse
  bad := hg.bad
  miss e := by
    have h0 := hg.miss e
    simp only [Go.Proofs.wr1, setNow, List.getD, List.getElem?_set] at h0 ⊢
    by_cases h : d = e
    · subst h
      by_cases hl : d < s.drv.length
      · have h1 := hg.miss d
        simp [hl, List.getD] at h1 ⊢
        exact h1
      · simp [hl]
    · rw [if_neg h]; exact h0
end Go.Proofs
namespace Go.Proofs
open Go.VG
def wrN (s : ArrS) (d a : Nat) (f : Nat → UInt64) : Nat → ArrS
  | 0 => s
  | n + 1 => wr1 (wrN s d a f n) d (a + n) (f n)
theorem Good.wrN {s : ArrS} (hg : Good s) {d a : Nat} {f : Nat → UInt64} : ∀ n, Good (wrN s d a f n)
  | 0 => hg
  | n + 1 => (Good.wrN hg n).wr1
@[simp] theorem drv_wrN {s : ArrS} {d a : Nat} {f : Nat → UInt64} : ∀ {n}, (wrN s d a f n).drv.length = s.drv.length
  | 0 => rfl
  | n + 1 => by rw [wrN, drv_wr1, drv_wrN]
@[simp] theorem writes_wrN {s : ArrS} {d a : Nat} {f : Nat → UInt64} : ∀ {n}, (wrN s d a f n).writes = s.writes + n
  | 0 => rfl
  | n + 1 => by rw [wrN, writes_wr1, writes_wrN]; omega
theorem getD_set_ne {l : List UInt64} {i j : Nat} {v : UInt64} (h : i ≠ j) : (l.set i v).getD j 0 = l.getD j 0 := by
  simp [List.getD, List.getElem?_set, h]
theorem getD_set_eq {l : List UInt64} {i : Nat} {v : UInt64} (h : i < l.length) : (l.set i v).getD i 0 = v := by
  simp [List.getD, List.getElem?_set, h]
end Go.Proofs
namespace Go.Proofs
open Go.VG
def durL (s : ArrS) (d : Nat) : List UInt64 := (s.drv.getD d d0).dur
def pendR (log : List Rec) (d a : Nat) : List UInt64 := (log.filter fun r => decide (r.d = d ∧ r.a = a)).map Rec.v
abbrev pend (s : ArrS) (d a : Nat) : List UInt64 := pendR s.log d a
def now (s : ArrS) (d a : Nat) : UInt64 := (nowL s d).getD a 0
def dur (s : ArrS) (d a : Nat) : UInt64 := (durL s d).getD a 0
theorem pendR_nil {d a : Nat} : pendR [] d a = [] := rfl
theorem pendR_append {l l' : List Rec} {d a : Nat} : pendR (l ++ l') d a = pendR l d a ++ pendR l' d a := by simp [pendR]
theorem pendR_one {r : Rec} {d a : Nat} : pendR [r] d a = if r.d = d ∧ r.a = a then [r.v] else [] := by
  by_cases h : r.d = d ∧ r.a = a
  · simp [pendR, h]
  · simp [pendR, h]
theorem pendR_cons {r : Rec} {l : List Rec} {d a : Nat} : pendR (r :: l) d a = if r.d = d ∧ r.a = a then r.v :: pendR l d a else pendR l d a := by
  rw [show r :: l = [r] ++ l from rfl, pendR_append, pendR_one]; split <;> rfl
theorem pendR_others {l : List Rec} {d e a : Nat} : pendR (others e l) d a = if d = e then [] else pendR l d a := by
  unfold pendR others
  rw [List.filter_filter]
  by_cases h : d = e
  · subst h
    rw [if_pos rfl, List.filter_eq_nil_iff.2]; · rfl
    intro r _ hr; simp at hr; exact hr.2 hr.1.1
  · rw [if_neg h]
    congr 1; apply List.filter_congr; intro r _
    by_cases h2 : r.d = d ∧ r.a = a
    · simp [h2, h]
    · simp [h2]
def lastD : UInt64 → List UInt64 → UInt64
  | d, [] => d
  | _, x :: l => lastD x l
theorem lastD_snoc {v : UInt64} : ∀ {l : List UInt64} {d : UInt64}, lastD d (l ++ [v]) = v
  | [], _ => rfl
  | x :: l, _ => lastD_snoc (l := l) (d := x)
structure Coh (s : ArrS) : Prop where
  len : ∀ d, (durL s d).length = (nowL s d).length
  last : ∀ d a, a < s.size d → lastD (dur s d a) (pend s d a) = now s d a
  log : ∀ r ∈ s.log, r.d < s.drv.length ∧ r.a < s.size r.d
theorem getD_set {l : List UInt64} {i j : Nat} {v : UInt64} (h : i < l.length) : (l.set i v).getD j 0 = if j = i then v else l.getD j 0 := by
  by_cases e : j = i
  · subst e; rw [if_pos rfl, getD_set_eq h]
  · rw [if_neg e, getD_set_ne (fun x => e x.symm)]
theorem drv_set {l : List Drive} {i j : Nat} {x : Drive} (h : i < l.length) : (l.set i x).getD j d0 = if j = i then x else l.getD j d0 := by
  simp only [List.getD, List.getElem?_set]
  by_cases e : i = j
  · subst e; simp [h]
  · rw [if_neg e, if_neg (fun x => e x.symm)]
section
variable {s : ArrS} {d a : Nat} {v : UInt64}
theorem durL_wr1 {e : Nat} (hd : d < s.drv.length) : durL (wr1 s d a v) e = durL s e := by
  unfold durL wr1 setNow
  rw [drv_set hd]; split
  · rename_i h; subst h; rfl
  · rfl
theorem pend_wr1 {e b : Nat} : pend (wr1 s d a v) e b = if d = e ∧ a = b then pend s e b ++ [v] else pend s e b := by
  show pendR (s.log ++ [⟨d, a, v⟩]) e b = _
  rw [pendR_append, pendR_one]; split <;> simp_all
theorem now_wr1 {e b : Nat} (hd : d < s.drv.length) (ha : a < s.size d) : now (wr1 s d a v) e b = if d = e ∧ a = b then v else now s e b := by
  unfold now
  rw [nowL_wr1 hd]
  by_cases h : e = d
  · subst h; rw [if_pos rfl, getD_set (show a < (nowL s e).length from ha)]
    by_cases h2 : b = a
    · subst h2; simp
    · rw [if_neg h2, if_neg (fun x => h2 x.2.symm)]
  · rw [if_neg h, if_neg (fun x => h x.1.symm)]
theorem dur_wr1 {e b : Nat} (hd : d < s.drv.length) : dur (wr1 s d a v) e b = dur s e b := by unfold dur; rw [durL_wr1 hd]
theorem Coh.wr1 (hc : Coh s) (hd : d < s.drv.length) (ha : a < s.size d) : Coh (wr1 s d a v) where
  len e := by rw [durL_wr1 hd, nowL_wr1 hd]; split
              · rename_i h; subst h; rw [List.length_set]; exact hc.len _
              · exact hc.len e
  last e b hb := by
    rw [size_wr1 hd] at hb
    have h1 := hc.last e b hb
    rw [dur_wr1 hd, pend_wr1, now_wr1 hd ha]
    by_cases h : d = e ∧ a = b
    · rw [if_pos h, if_pos h, lastD_snoc]
    · rw [if_neg h, if_neg h]; exact h1
  log r hr := by
    rw [drv_wr1, size_wr1 hd]
    rcases List.mem_append.1 (show r ∈ s.log ++ [⟨d, a, v⟩] from hr) with h | h
    · exact hc.log r h
    · rw [List.mem_singleton.1 h]; exact ⟨hd, ha⟩
end
def fl1 (s : ArrS) (d : Nat) : ArrS := { s with drv := s.drv.set d { s.drv.getD d d0 with dur := flDur (s.drv.getD d d0).now d s.log (s.drv.getD d d0).dur }, log := others d s.log }
theorem flDur_at {nw : List UInt64} {i a : Nat} : ∀ {log : List Rec} {du : List UInt64}, a < du.length → (flDur nw i log du).getD a 0 = if pendR log i a = [] then du.getD a 0 else nw.getD a 0
  | [], du, _ => by rw [pendR_nil, if_pos rfl]; rfl
  | r :: log, du, h => by
    show (flDur nw i log (if r.d = i then du.set r.a (nw.getD r.a 0) else du)).getD a 0 = _
    rw [flDur_at (by split <;> simpa using h), pendR_cons]
    by_cases hr : r.d = i
    · rw [if_pos hr]
      by_cases ha : r.a = a
      · rw [show (if r.d = i ∧ r.a = a then r.v :: pendR log i a else pendR log i a) = r.v :: pendR log i a from if_pos ⟨hr, ha⟩, if_neg (show ¬ r.v :: pendR log i a = [] by simp)]
        subst ha
        split
        · rw [getD_set_eq h]
        · rfl
      · rw [show (if r.d = i ∧ r.a = a then r.v :: pendR log i a else pendR log i a) = pendR log i a from if_neg (fun x => ha x.2), getD_set_ne ha]
    · rw [if_neg hr, show (if r.d = i ∧ r.a = a then r.v :: pendR log i a else pendR log i a) = pendR log i a from if_neg (fun x => hr x.1)]
section
variable {s : ArrS} {d : Nat}
@[simp] theorem drv_fl1 : (fl1 s d).drv.length = s.drv.length := by simp [fl1]
theorem nowL_fl1 {e : Nat} (hd : d < s.drv.length) : nowL (fl1 s d) e = nowL s e := by
  unfold nowL fl1
  rw [drv_set hd]; split
  · rename_i h; subst h; rfl
  · rfl
theorem size_fl1 {e : Nat} (hd : d < s.drv.length) : (fl1 s d).size e = s.size e := by rw [size_nowL, size_nowL, nowL_fl1 hd]
theorem pend_fl1 {e b : Nat} : pend (fl1 s d) e b = if e = d then [] else pend s e b := pendR_others
theorem dur_fl1 {e b : Nat} (hc : Coh s) (hd : d < s.drv.length) (hb : b < s.size e) : dur (fl1 s d) e b = if e = d then now s e b else dur s e b := by
  unfold dur durL fl1
  rw [drv_set hd]
  by_cases h : e = d
  · subst h
    rw [if_pos rfl, if_pos rfl]
    have hl := hc.last e b hb
    rw [flDur_at (by have := hc.len e; unfold durL at this; rw [this]; exact hb)]
    by_cases hp : pendR s.log e b = []
    · rw [if_pos hp]
      have : pend s e b = [] := hp
      rw [this] at hl
      exact hl
    · rw [if_neg hp]; rfl
  · rw [if_neg h, if_neg h]
theorem now_fl1 {e b : Nat} (hd : d < s.drv.length) : now (fl1 s d) e b = now s e b := by unfold now; rw [nowL_fl1 hd]
theorem Coh.fl1 (hc : Coh s) (hd : d < s.drv.length) : Coh (fl1 s d) where
  len e := by
    rw [nowL_fl1 hd]
    unfold durL Go.Proofs.fl1
    rw [drv_set hd]; split
    · rename_i h; subst h; rw [flDur_len]; exact hc.len _
    · exact hc.len e
  last e b hb := by
    rw [size_fl1 hd] at hb
    have h1 := hc.last e b hb
    rw [dur_fl1 hc hd hb, pend_fl1, now_fl1 hd]
    by_cases h : e = d
    · rw [if_pos h, if_pos h]; rfl
    · rw [if_neg h, if_neg h]; exact h1
  log r hr := by
    rw [drv_fl1, size_fl1 hd]
    exact hc.log r (List.mem_filter.1 (show r ∈ others d s.log from hr)).1
theorem miss_fl1 {e : Nat} (hd : d < s.drv.length) : ((fl1 s d).drv.getD e d0).miss = (s.drv.getD e d0).miss := by
  unfold fl1
  rw [drv_set hd]; split
  · rename_i h; subst h; rfl
  · rfl
theorem Good.fl1 (hg : Good s) (hd : d < s.drv.length) : Good (fl1 s d) where
  down := hg.down
  fuse := hg.fuse
  bad := hg.bad
  miss e := by rw [miss_fl1 hd]; exact hg.miss e
theorem flC_of (hdn : s.down = false) (hd : d < s.drv.length) : flC s d = if (s.drv.getD d d0).miss then 6 else 0 := by
  have h1 : cPow s = 0 := by simp [cPow, hdn]
  have h2 : cLoc s d = 0 := by rw [cLoc, if_pos (show inR s (d : Int) from ⟨by omega, by omega⟩)]
  simp only [flC, fz, h1, h2, cPre, missI, Int.toNat_natCast]
  by_cases hm : (s.drv.getD d d0).miss = true
  · simp [hm]
  · simp [hm]
theorem flS_of (h : flC s d = 0) : flS s d = fl1 s d := flS_ok h
end
section
variable {s : ArrS} {ks : List Bool}
@[simp] theorem drv_rs : (rsS s ks).drv.length = s.drv.length := by simp [rsS, (rsGo_keep ks s.log 0 s.drv 0).1]
theorem nowL_rs {d : Nat} : nowL (rsS s ks) d = durL (rsS s ks) d := by unfold nowL durL; rw [rs_at]; rfl
theorem now_rs {d a : Nat} : now (rsS s ks) d a = dur (rsS s ks) d a := by unfold now dur; rw [nowL_rs]
theorem Coh.rs (hc : Coh s) : Coh (rsS s ks) where
  len d := by rw [nowL_rs]
  last d a _ := by show dur (rsS s ks) d a = _; rw [now_rs]
  log r h := by cases h
end
end Go.Proofs
set_option linter.unusedSimpArgs false
set_option maxRecDepth 20000
namespace Go.Proofs
open Go.VG
theorem ba_beq (a b : ByteArray) : (a == b) = decide (a = b) := by
  cases a; cases b
  rename_i x y
  show (x == y) = _
  rw [Bool.eq_iff_iff]; simp
theorem chk_str {P : Program} {t : TypeId} (hu : P.underlying t = some .string) (e : Bool) (x : ByteArray) (w : World) (n : Nat) : (Instr.checkKey e (n + 1) t (.string x)).run P w = .ok () w := by
  simp [Instr.checkKey, run_underlying hu]
theorem eq_str {P : Program} {t : TypeId} (hu : P.underlying t = some .string) (a b : ByteArray) (w : World) : (Op.equal t (.string a) (.string b)).run P w = .ok (decide (a = b)) w := by
  have e : Op.equal t (.string a) (.string b) = Op.equalIn (9999 + 1) t (.string a) (.string b) := rfl
  rw [e, Op.equalIn, ← ba_beq]
  simp only [Sem.run_bind, run_underlying hu, Result.andThen_ok]
  simp
abbrev mDev : MTy ByteArray Nat := { KT := 9, VT := 72, ek := fun k => .string k, ev := fun b => ptr b 0 }
theorem ok_mDev : MOk Try.prog mDev 77 where
  ty := Try.underlying77
  eq := fun a b w => eq_str Try.underlying9 a b w
  chk := fun e a w => chk_str Try.underlying9 e a w 9999
  same := fun a => by simp [Instr.sameBits, ba_beq]
  kd := ⟨_, Try.underlying9, .inr fun a b => by simp only [Instr.sameNow, ba_beq]⟩
abbrev mBas : MTy ByteArray Nat := { KT := 9, VT := 70, ek := fun k => .string k, ev := fun b => .iface 141 (ptr b 0) }
theorem ok_mBas : MOk Try.prog mBas 76 where
  ty := Try.underlying76
  eq := fun a b w => eq_str Try.underlying9 a b w
  chk := fun e a w => chk_str Try.underlying9 e a w 9999
  same := fun a => by simp [Instr.sameBits, ba_beq]
  kd := ⟨_, Try.underlying9, .inr fun a b => by simp only [Instr.sameNow, ba_beq]⟩
abbrev mMet : MTy ByteArray Bool := { KT := 9, VT := 4, ek := fun k => .string k, ev := fun b => .bool b }
theorem ok_mMet : MOk Try.prog mMet 117 where
  ty := Try.underlying117
  eq := fun a b w => eq_str Try.underlying9 a b w
  chk := fun e a w => chk_str Try.underlying9 e a w 9999
  same := fun a => by simp [Instr.sameBits, ba_beq]
  kd := ⟨_, Try.underlying9, .inr fun a b => by simp only [Instr.sameNow, ba_beq]⟩
abbrev s3z : Sl3 := ⟨none, 0, 0⟩
abbrev tyPD : Ty Nat := { T := 72, sz := 1, enc := fun b => [ptr b 0], dflt := 0, len := fun _ => rfl, one := fun _ => rfl, pos := by decide }
theorem ok_tyPD : ElemOk Try.prog tyPD 8 := ⟨Try.t72, .pointer none, by kernel_rfl, rfl, rfl, rfl, rfl⟩
abbrev tyTs : Ty Sl3 := { T := 34, sz := 1, enc := fun x => [x.v], dflt := s3z, len := fun _ => rfl, one := fun _ => rfl, pos := by decide }
structure WtC where
  tk : Int
  p : Nat
  t : api_Task
abbrev tyErr : Ty WtC := { T := 94, sz := 5, enc := fun x => [.int .i64 x.tk, ptr x.p 0, .int .i64 x.t.Kind, .int .i64 x.t.At, .int .u64 (x.t.Value.toNat : Int)], dflt := ⟨0, 0, tsk0⟩, len := fun _ => rfl, one := fun _ => rfl, pos := by decide }
theorem ok_tyErr : ElemOk Try.prog tyErr 40 := ⟨Try.t94, .agg #[.int .i64 0, .pointer none, .int .i64 0, .int .i64 0, .int .u64 0], by kernel_rfl, rfl, rfl, rfl, rfl⟩
namespace Md
def isD (m : Md) (k : Nat) : Prop := k < m.dv.length ∧ (m.at k).gone = false ∧ (m.at k).isB = false
def isBs (m : Md) (k : Nat) : Prop := k < m.dv.length ∧ (m.at k).gone = false ∧ (m.at k).isB = true
def bas (m : Md) (n : ByteArray) : Option Nat := (m.find n).bind fun k => if (m.at k).isB then some k else none
end Md
structure DH where
  b : Nat
  dn : Nat
  lv : Sl3
  nw : Sl3
  wt : Sl3
abbrev dh0 : DH := ⟨0, 0, s3z, s3z, s3z⟩
structure MH where
  bm : Nat
  dm : Nat
  a : Nat
  ov : Sl3
  tv : Sl3
  l : List (DH × Dv)
  bl : List (ByteArray × Nat)
  dl : List (ByteArray × Nat)
  s : ArrS
def MH.hd (c : MH) (k : Nat) : DH := (c.l.getD k (dh0, Dv.z)).1
def MH.bs (c : MH) (k : Nat) : Nat := (c.hd k).b
def wC (bs : Nat → Nat) (w : Wt) : WtC := ⟨w.tk, bs w.gv, w.t⟩
def dCells (h : DH) (d : Dv) : List Value := [.string d.name, h.lv.v, h.nw.v, .bool d.hl, .bool d.hn, .bool d.susp, .bool d.gone, h.wt.v]
def DevC (a : Nat) (bs : Nat → Nat) (x : DH × Dv) : HP :=
  if x.2.gone then star [] else if x.2.isB then blkR x.1.b 143 [ptr a 0, .int .i64 (x.1.dn : Int), .int .i64 0, .int .i64 (x.2.base.length : Int)]
  else star [blk x.1.b 75 (dCells x.1 x.2), sl tyapi_Target x.1.lv.v x.2.live, sl tyapi_Target x.1.nw.v x.2.new, sl tyErr x.1.wt.v (x.2.wait.map (wC bs))]
structure MapWF (c : MH) (m : Md) : Prop where
  dv : c.l.map Prod.snd = m.dv
  ok : MdOk m
  big : MdBig m
  dl : ∀ n, lookM c.dl n = (m.dev n).map c.bs
  bl : ∀ n, lookM c.bl n = (m.bas n).map c.bs
  inj : ∀ i j, m.isD i → m.isD j → c.bs i = c.bs j → i = j
  good : Good c.s
  dsk : ∀ k, m.isBs k → (c.hd k).dn < c.s.drv.length ∧ nowL c.s (c.hd k).dn = (m.at k).base ∧ (m.at k).base.length ≤ 65536
  dsj : ∀ i j, m.isBs i → m.isBs j → (c.hd i).dn = (c.hd j).dn → i = j
  wr : c.s.writes ≤ m.wr
def MapRG (X : HP) (c : MH) (m : Md) : HP := star [pur (MapWF c m), mpc mBas c.bm c.bl, X, sl tyS c.ov.v m.names, sl tyapi_Answer c.tv.v m.told, Go.VG.Own (DevC c.a c.bs) c.l, Arr c.a c.s]
abbrev MapR (c : MH) (m : Md) : HP := MapRG (mpc mDev c.dm c.dl) c m
abbrev mCells (c : MH) (m : Md) : List Value := [.map (some c.bm), .map (some c.dm), c.ov.v, .int .i64 (m.tks : Int), c.tv.v]
def MapP (b : Nat) (m : Md) : HP := ex fun c : MH => star [pur (MdBd m), blk b 79 (mCells c m), MapR c m]
theorem MapP_open {b : Nat} {m : Md} {R : List HP} : EntX (MapP b m :: R) fun c : MH => pur (MdBd m) :: blk b 79 (mCells c m) :: MapR c m :: R :=
  fun _ hh => let ⟨c, hc⟩ := stars_ex.1 hh; ⟨c, stars_star.1 hc⟩
theorem MapP_close {b : Nat} {m : Md} {c : MH} {R : List HP} (h : MdBd m) : Ent (blk b 79 (mCells c m) :: MapR c m :: R) (MapP b m :: R) :=
  fun _ hh => stars_ex.2 ⟨c, stars_star.2 (stars_pur.2 ⟨h, hh⟩)⟩
theorem MapR_wf {X : HP} {H : List HP} {C : HP → List HP} {c : MH} {m : Md} (hf : Foc H (MapRG X c m) C) : ∀ h, stars H h → MapWF c m := fun h hh => by
  obtain ⟨F, hp, _⟩ := hf.focus
  exact (stars_pur.1 (stars_star.1 (stars_perm hp _ hh))).1
theorem MapR_close {c : MH} {m : Md} {R : List HP} (h : MapWF c m) : Ent (mpc mBas c.bm c.bl :: mpc mDev c.dm c.dl :: sl tyS c.ov.v m.names :: sl tyapi_Answer c.tv.v m.told :: Go.VG.Own (DevC c.a c.bs) c.l :: Arr c.a c.s :: R) (MapR c m :: R) := fun _ hh => stars_star.2 (stars_pur.2 ⟨h, hh⟩)
section
variable {X : HP} {c : MH} {m : Md} {k : Nat} {R : List HP}
theorem MapWF.at (h : MapWF c m) (hk : k < m.dv.length) : k < c.l.length ∧ c.l.getD k (dh0, Dv.z) = (c.hd k, m.at k) := by
  have h1 : c.l.length = m.dv.length := by rw [← h.dv]; simp
  refine ⟨by omega, ?_⟩
  have h2 := getD_map (fun p : DH × Dv => p.2) c.l k (dh0, Dv.z)
  have h3 : (c.l.map fun p : DH × Dv => p.2).getD k Dv.z = m.at k := by rw [show (c.l.map fun p : DH × Dv => p.2) = m.dv from h.dv]; rfl
  have h4 : (c.l.getD k (dh0, Dv.z)).2 = m.at k := h2.symm.trans h3
  rw [← h4]; rfl
def MRest (X : HP) (c : MH) (m : Md) (k : Nat) : HP := star [mpc mBas c.bm c.bl, X, sl tyS c.ov.v m.names, sl tyapi_Answer c.tv.v m.told, ORest (DevC c.a c.bs) c.l k, Arr c.a c.s]
theorem DevC_dev {a : Nat} {bs : Nat → Nat} {h : DH} {d : Dv} (h1 : d.gone = false) (h2 : d.isB = false) : DevC a bs (h, d) = star [blk h.b 75 (dCells h d), sl tyapi_Target h.lv.v d.live, sl tyapi_Target h.nw.v d.new, sl tyErr h.wt.v (d.wait.map (wC bs))] := by
  unfold DevC; rw [if_neg (by simp [h1]), if_neg (by simp [h2])]
theorem DevC_bas {a : Nat} {bs : Nat → Nat} {h : DH} {d : Dv} (h1 : d.gone = false) (h2 : d.isB = true) : DevC a bs (h, d) = blkR h.b 143 [ptr a 0, .int .i64 (h.dn : Int), .int .i64 0, .int .i64 (d.base.length : Int)] := by
  unfold DevC; rw [if_neg (by simp [h1]), if_pos h2]
theorem MapR_dev (hk : m.isD k) : Ent (MapRG X c m :: R) (blk (c.bs k) 75 (dCells (c.hd k) (m.at k)) :: sl tyapi_Target (c.hd k).lv.v (m.at k).live :: sl tyapi_Target (c.hd k).nw.v (m.at k).new :: sl tyErr (c.hd k).wt.v ((m.at k).wait.map (wC c.bs)) :: MRest X c m k :: R) := fun h hh => by
  obtain ⟨hw, h1⟩ := stars_pur.1 (stars_star.1 hh)
  obtain ⟨g1, g2⟩ := hw.at hk.1
  have e := Own_open (DevC c.a c.bs) k (dh0, Dv.z) g1 (R := [mpc mBas c.bm c.bl, X, sl tyS c.ov.v m.names, sl tyapi_Answer c.tv.v m.told, Arr c.a c.s] ++ R)
  rw [g2, DevC_dev hk.2.1 hk.2.2] at e
  have h2 := e h (stars_perm (show List.Perm _ (Go.VG.Own (DevC c.a c.bs) c.l :: ([mpc mBas c.bm c.bl, X, sl tyS c.ov.v m.names, sl tyapi_Answer c.tv.v m.told, Arr c.a c.s] ++ R)) from (List.perm_middle (l₁ := [_, _, _, _]))) _ h1)
  have h3 := stars_star.1 h2
  have h4 : List.Perm ([blk (c.hd k).b 75 (dCells (c.hd k) (m.at k)), sl tyapi_Target (c.hd k).lv.v (m.at k).live, sl tyapi_Target (c.hd k).nw.v (m.at k).new, sl tyErr (c.hd k).wt.v ((m.at k).wait.map (wC c.bs))] ++ (ORest (DevC c.a c.bs) c.l k :: ([mpc mBas c.bm c.bl, X, sl tyS c.ov.v m.names, sl tyapi_Answer c.tv.v m.told, Arr c.a c.s] ++ R))) ([mpc mBas c.bm c.bl, X, sl tyS c.ov.v m.names, sl tyapi_Answer c.tv.v m.told, ORest (DevC c.a c.bs) c.l k, Arr c.a c.s] ++ ([blk (c.hd k).b 75 (dCells (c.hd k) (m.at k)), sl tyapi_Target (c.hd k).lv.v (m.at k).live, sl tyapi_Target (c.hd k).nw.v (m.at k).new, sl tyErr (c.hd k).wt.v ((m.at k).wait.map (wC c.bs))] ++ R)) := by
    refine (List.perm_append_comm_assoc [_, _, _, _] (ORest (DevC c.a c.bs) c.l k :: [mpc mBas c.bm c.bl, X, sl tyS c.ov.v m.names, sl tyapi_Answer c.tv.v m.told, Arr c.a c.s]) R).trans ?_
    exact List.Perm.append_right _ (List.perm_middle (l₁ := [_, _, _, _])).symm
  have h5 := stars_star.2 (stars_perm h4 _ h3)
  exact stars_perm (List.perm_middle (l₁ := [_, _, _, _])).symm _ h5
theorem MapR_put {c' : MH} {m' : Md} {h' : DH} {d' : Dv} (hk : k < c.l.length) (h1 : d'.gone = false) (h2 : d'.isB = false) (hc : c' = { c with l := c.l.set k (h', d') }) (hn : m'.names = m.names) (ht : m'.told = m.told) (hb : c'.bs = c.bs) (hw : MapWF c' m') :
    Ent (blk h'.b 75 (dCells h' d') :: sl tyapi_Target h'.lv.v d'.live :: sl tyapi_Target h'.nw.v d'.new :: sl tyErr h'.wt.v (d'.wait.map (wC c.bs)) :: MRest X c m k :: R) (MapRG X c' m' :: R) := fun h hh => by
  have h3 := stars_perm (List.perm_middle (l₁ := [_, _, _, _])) _ hh
  have h4 := stars_star.1 h3
  have e := Own_close (f := DevC c.a c.bs) (l := c.l) (i := k) (h', d') hk (R := [mpc mBas c.bm c.bl, X, sl tyS c.ov.v m.names, sl tyapi_Answer c.tv.v m.told, Arr c.a c.s] ++ R)
  rw [DevC_dev h1 h2] at e
  have h5 : List.Perm ([mpc mBas c.bm c.bl, X, sl tyS c.ov.v m.names, sl tyapi_Answer c.tv.v m.told, ORest (DevC c.a c.bs) c.l k, Arr c.a c.s] ++ ([blk h'.b 75 (dCells h' d'), sl tyapi_Target h'.lv.v d'.live, sl tyapi_Target h'.nw.v d'.new, sl tyErr h'.wt.v (d'.wait.map (wC c.bs))] ++ R)) ([blk h'.b 75 (dCells h' d'), sl tyapi_Target h'.lv.v d'.live, sl tyapi_Target h'.nw.v d'.new, sl tyErr h'.wt.v (d'.wait.map (wC c.bs))] ++ (ORest (DevC c.a c.bs) c.l k :: ([mpc mBas c.bm c.bl, X, sl tyS c.ov.v m.names, sl tyapi_Answer c.tv.v m.told, Arr c.a c.s] ++ R))) := by
    refine (List.perm_append_comm_assoc _ [_, _, _, _] R).trans ?_
    exact List.Perm.append_left _ (List.Perm.append_right R (List.perm_middle (l₁ := [_, _, _, _])))
  have h6 := e h (stars_star.2 (stars_perm h5 _ h4) |> fun z => by
    obtain ⟨g1, g2, dj, e2, ha, hb2⟩ := z
    exact ⟨g1, g2, dj, e2, ha, hb2⟩)
  subst hc
  unfold MapRG
  refine stars_star.2 (stars_pur.2 ⟨hw, ?_⟩)
  rw [hn, ht, hb]
  exact stars_perm (show List.Perm (Go.VG.Own (DevC c.a c.bs) (c.l.set k (h', d')) :: ([mpc mBas c.bm c.bl, X, sl tyS c.ov.v m.names, sl tyapi_Answer c.tv.v m.told, Arr c.a c.s] ++ R)) _ from (List.perm_middle (l₁ := [_, _, _, _])).symm) _ h6
def MRestB (X : HP) (c : MH) (m : Md) (k : Nat) : HP := star [pur (MapWF c m), mpc mBas c.bm c.bl, X, sl tyS c.ov.v m.names, sl tyapi_Answer c.tv.v m.told, ORest (DevC c.a c.bs) c.l k]
abbrev bCells (a : Nat) (h : DH) (d : Dv) : List Value := [ptr a 0, .int .i64 (h.dn : Int), .int .i64 0, .int .i64 (d.base.length : Int)]
theorem MapR_bas (hk : m.isBs k) : Ent (MapRG X c m :: R) (blkR (c.bs k) 143 (bCells c.a (c.hd k) (m.at k)) :: Arr c.a c.s :: MRestB X c m k :: R) := fun h hh => by
  obtain ⟨hw, h1⟩ := stars_pur.1 (stars_star.1 hh)
  obtain ⟨g1, g2⟩ := hw.at hk.1
  have e := Own_open (DevC c.a c.bs) k (dh0, Dv.z) g1 (R := [mpc mBas c.bm c.bl, X, sl tyS c.ov.v m.names, sl tyapi_Answer c.tv.v m.told, Arr c.a c.s] ++ R)
  rw [g2, DevC_bas hk.2.1 hk.2.2] at e
  have h2 := e h (stars_perm (show List.Perm _ (Go.VG.Own (DevC c.a c.bs) c.l :: ([mpc mBas c.bm c.bl, X, sl tyS c.ov.v m.names, sl tyapi_Answer c.tv.v m.told, Arr c.a c.s] ++ R)) from (List.perm_middle (l₁ := [_, _, _, _]))) _ h1)
  have h3 : List.Perm (ORest (DevC c.a c.bs) c.l k :: ([mpc mBas c.bm c.bl, X, sl tyS c.ov.v m.names, sl tyapi_Answer c.tv.v m.told, Arr c.a c.s] ++ R)) (Arr c.a c.s :: ([mpc mBas c.bm c.bl, X, sl tyS c.ov.v m.names, sl tyapi_Answer c.tv.v m.told, ORest (DevC c.a c.bs) c.l k] ++ R)) :=
    (List.perm_middle (l₁ := [_, _, _, _, _]) (l₂ := R) (a := Arr c.a c.s)).trans (List.Perm.cons _ (List.perm_middle (l₁ := [_, _, _, _]) (l₂ := R) (a := ORest (DevC c.a c.bs) c.l k)).symm) |> fun p => (List.Perm.refl _).trans p
  have h4 := stars_perm (List.Perm.cons _ h3) _ h2
  refine stars_perm (List.Perm.cons _ (List.Perm.cons _ (List.Perm.refl _))) _ (?_ : stars (_ :: _ :: _) h)
  obtain ⟨a1, a2, d1, e1, p1, q1⟩ := h4
  obtain ⟨b1, b2, d2, e2, p2, q2⟩ := q1
  exact ⟨a1, a2, d1, e1, p1, b1, b2, d2, e2, p2, stars_star.2 (stars_pur.2 ⟨hw, q2⟩)⟩
theorem MapR_putB {c' : MH} {m' : Md} {d' : Dv} {s' : ArrS} (hk : k < c.l.length) (h1 : d'.gone = false) (h2 : d'.isB = true) (hl : d'.base.length = (m.at k).base.length) (hc : c' = { c with l := c.l.set k (c.hd k, d'), s := s' }) (hn : m'.names = m.names) (ht : m'.told = m.told) (hb : c'.bs = c.bs) (hw : MapWF c' m') :
    Ent (blkR (c.bs k) 143 (bCells c.a (c.hd k) (m.at k)) :: Arr c.a s' :: MRestB X c m k :: R) (MapRG X c' m' :: R) := fun h hh => by
  obtain ⟨a1, a2, d1, e1, p1, b1, b2, d2, e2, p2, q2⟩ := hh
  have h4 : stars (blkR (c.bs k) 143 (bCells c.a (c.hd k) (m.at k)) :: Arr c.a s' :: ([mpc mBas c.bm c.bl, X, sl tyS c.ov.v m.names, sl tyapi_Answer c.tv.v m.told, ORest (DevC c.a c.bs) c.l k] ++ R)) h := ⟨a1, a2, d1, e1, p1, b1, b2, d2, e2, p2, (stars_pur.1 (stars_star.1 q2)).2⟩
  have e := Own_close (f := DevC c.a c.bs) (l := c.l) (i := k) (c.hd k, d') hk (R := [mpc mBas c.bm c.bl, X, sl tyS c.ov.v m.names, sl tyapi_Answer c.tv.v m.told, Arr c.a s'] ++ R)
  rw [DevC_bas h1 h2, hl] at e
  have h3 : List.Perm (Arr c.a s' :: ([mpc mBas c.bm c.bl, X, sl tyS c.ov.v m.names, sl tyapi_Answer c.tv.v m.told, ORest (DevC c.a c.bs) c.l k] ++ R)) (ORest (DevC c.a c.bs) c.l k :: ([mpc mBas c.bm c.bl, X, sl tyS c.ov.v m.names, sl tyapi_Answer c.tv.v m.told, Arr c.a s'] ++ R)) :=
    (List.perm_middle (l₁ := [_, _, _, _, _]) (l₂ := R) (a := ORest (DevC c.a c.bs) c.l k)).trans (List.Perm.cons _ (List.perm_middle (l₁ := [_, _, _, _]) (l₂ := R) (a := Arr c.a s')).symm) |> fun p => p
  have h6 := e h (stars_perm (List.Perm.cons _ h3) _ h4)
  subst hc
  unfold MapRG
  refine stars_star.2 (stars_pur.2 ⟨hw, ?_⟩)
  rw [hn, ht, hb]
  exact stars_perm (show List.Perm (Go.VG.Own (DevC c.a c.bs) (c.l.set k (c.hd k, d')) :: ([mpc mBas c.bm c.bl, X, sl tyS c.ov.v m.names, sl tyapi_Answer c.tv.v m.told, Arr c.a s'] ++ R)) _ from (List.perm_middle (l₁ := [_, _, _, _])).symm) _ h6
theorem MapR_backB (hk : m.isBs k) : Ent (blkR (c.bs k) 143 (bCells c.a (c.hd k) (m.at k)) :: Arr c.a c.s :: MRestB X c m k :: R) (MapRG X c m :: R) := fun h hh => by
  obtain ⟨a1, a2, d1, e1, p1, b1, b2, d2, e2, p2, q2⟩ := id hh
  have hw := (stars_pur.1 (stars_star.1 q2)).1
  obtain ⟨g1, g2⟩ := hw.at hk.1
  have e : c.l.set k (c.hd k, m.at k) = c.l := by
    rw [← g2]; simp [List.getD, g1]
  refine MapR_putB (d' := m.at k) g1 hk.2.1 hk.2.2 rfl ?_ rfl rfl rfl hw h hh
  rw [e]
theorem bs_set {l : List (DH × Dv)} {h' : DH} {d' : Dv} {s' : ArrS} (hk : k < c.l.length) (hb : h'.b = c.bs k) (hl : l = c.l.set k (h', d')) : ({ c with l := l, s := s' } : MH).bs = c.bs := by
  funext i
  subst hl
  unfold MH.bs MH.hd
  by_cases e : i = k
  · subst e
    have : (c.l.set i (h', d')).getD i (dh0, Dv.z) = (h', d') := by simp [List.getD, hk]
    show ((c.l.set i (h', d')).getD i (dh0, Dv.z)).1.b = _
    rw [this]; exact hb
  · show ((c.l.set k (h', d')).getD i (dh0, Dv.z)).1.b = _
    have : (c.l.set k (h', d')).getD i (dh0, Dv.z) = c.l.getD i (dh0, Dv.z) := by simp [List.getD, List.getElem?_set, Ne.symm e]
    rw [this]
def RestD (c : MH) (m : Md) : HP := star [pur (MapWF c m), mpc mBas c.bm c.bl, sl tyS c.ov.v m.names, sl tyapi_Answer c.tv.v m.told, Go.VG.Own (DevC c.a c.bs) c.l, Arr c.a c.s]
theorem MapRG_out : Ent (MapRG X c m :: R) (X :: RestD c m :: R) := fun h hh => by
  have h1 := stars_perm (show List.Perm (pur (MapWF c m) :: mpc mBas c.bm c.bl :: X :: ([sl tyS c.ov.v m.names, sl tyapi_Answer c.tv.v m.told, Go.VG.Own (DevC c.a c.bs) c.l, Arr c.a c.s] ++ R)) (X :: ([pur (MapWF c m), mpc mBas c.bm c.bl, sl tyS c.ov.v m.names, sl tyapi_Answer c.tv.v m.told, Go.VG.Own (DevC c.a c.bs) c.l, Arr c.a c.s] ++ R)) from List.perm_middle (l₁ := [_, _])) _ (stars_star.1 hh)
  obtain ⟨a1, a2, d1, e1, p1, q1⟩ := h1
  exact ⟨a1, a2, d1, e1, p1, stars_star.2 q1⟩
theorem MapRG_in : Ent (X :: RestD c m :: R) (MapRG X c m :: R) := fun h hh => by
  obtain ⟨a1, a2, d1, e1, p1, q1⟩ := hh
  exact stars_star.2 (stars_perm (show List.Perm (pur (MapWF c m) :: mpc mBas c.bm c.bl :: X :: ([sl tyS c.ov.v m.names, sl tyapi_Answer c.tv.v m.told, Go.VG.Own (DevC c.a c.bs) c.l, Arr c.a c.s] ++ R)) (X :: ([pur (MapWF c m), mpc mBas c.bm c.bl, sl tyS c.ov.v m.names, sl tyapi_Answer c.tv.v m.told, Go.VG.Own (DevC c.a c.bs) c.l, Arr c.a c.s] ++ R)) from List.perm_middle (l₁ := [_, _])).symm _ ⟨a1, a2, d1, e1, p1, stars_star.1 q1⟩)
end
end Go.Proofs
set_option linter.unusedSimpArgs false
set_option maxRecDepth 20000
namespace Go.Proofs
open Go.VG
theorem CMap1_bs_100_2_0_1 (v0 : (Option Addr)) (v1 : Nat) (v2 : Nat) (v3 : (Option Addr)) (v4 : Nat) (v5 : Nat) : BuildsSlice Try.prog 100 2 [(0, .slice v0 v1 v2), (1, .slice v3 v4 v5)] 34 [.slice v0 v1 v2, .slice v3 v4 v5] := fun w => by kernel_rfl
theorem CMap1_bs_103_1_0 (v0 : (Option Addr)) : BuildsSlice Try.prog 103 1 [(0, .pointer v0)] 72 [.pointer v0] := fun w => by kernel_rfl
section
variable {P : Program} {n : Env} {W : World} {o : Oper} {s : Slots} {H H' : List HP}
theorem VJ_ent {v : Value} (he : Ent H H') (h : VJ P n W o s H' v) : VJ P n W o s H v := fun a w hf hs => h a w hf (hs.imp he)
theorem Reads_ent {α : Type} {t : Ty α} {A : HP} {v : Value} {xs : List α} {R : List HP} (he : Ent [A] (sl t v xs :: R)) : Reads A t v xs := fun h hA => by
  obtain ⟨h1, h2, hd, e, hs, _⟩ := he h ⟨h, fun _ => none, fun _ => .inr (.inl rfl), by funext k; simp [PH.uni], hA, trivial⟩
  rw [e]
  exact (Reads.sl t v xs h1 hs).mono hd
end
section
variable {X : HP} {c : MH} {m : Md} {k : Nat} {R : List HP}
theorem rdLive (hk : m.isD k) : Reads (MapRG X c m) tyapi_Target (c.hd k).lv.v (m.at k).live := Reads_ent (R := blk (c.bs k) 75 (dCells (c.hd k) (m.at k)) :: sl tyapi_Target (c.hd k).nw.v (m.at k).new :: sl tyErr (c.hd k).wt.v ((m.at k).wait.map (wC c.bs)) :: [MRest X c m k]) (Ent.trans (MapR_dev hk) (Ent.take del1 Ent.refl))
theorem rdNew (hk : m.isD k) : Reads (MapRG X c m) tyapi_Target (c.hd k).nw.v (m.at k).new := Reads_ent (Ent.trans (MapR_dev hk) (Ent.take del2 Ent.refl))
theorem rdWait (hk : m.isD k) : Reads (MapRG X c m) tyErr (c.hd k).wt.v ((m.at k).wait.map (wC c.bs)) := Reads_ent (Ent.trans (MapR_dev hk) (Ent.take del3 Ent.refl))
theorem MapR_flat : Ent (MapR c m :: R) (mpc mBas c.bm c.bl :: mpc mDev c.dm c.dl :: sl tyS c.ov.v m.names :: sl tyapi_Answer c.tv.v m.told :: Go.VG.Own (DevC c.a c.bs) c.l :: Arr c.a c.s :: R) := fun h hh => (stars_pur.1 (stars_star.1 hh)).2
theorem rdOrd : Reads (MapR c m) tyS c.ov.v m.names := Reads_ent (Ent.trans MapR_flat (Ent.take del2 Ent.refl))
end
def pdv (c : MH) (o : Option Nat) : Value := match o with | some k => ptr (c.bs k) 0 | none => .pointer none
namespace Md
theorem find_lt {m : Md} {n : ByteArray} {k : Nat} (h : m.find n = some k) : k < m.dv.length ∧ (m.at k).gone = false ∧ (m.at k).name = n := by
  obtain ⟨h1, h2, _⟩ := List.findIdx?_eq_some_iff_getElem.1 h
  have e : m.at k = m.dv[k] := by simp [Md.at, List.getD, h1]
  simp only [isN, Bool.and_eq_true, Bool.not_eq_true', decide_eq_true_eq] at h2
  exact ⟨h1, by rw [e]; exact h2.1, by rw [e]; exact h2.2⟩
theorem dev_is {m : Md} {n : ByteArray} {k : Nat} (h : m.dev n = some k) : m.isD k ∧ m.find n = some k := by
  unfold dev at h
  cases hf : m.find n with
  | none => rw [hf] at h; cases h
  | some i =>
    rw [hf] at h
    obtain ⟨h1, h2, h3⟩ := find_lt hf
    cases hb : (m.at i).isB with
    | true => simp [hb] at h
    | false =>
      simp [hb] at h; subst h
      exact ⟨⟨h1, h2, hb⟩, rfl⟩
theorem bas_is {m : Md} {n : ByteArray} {k : Nat} (h : m.bas n = some k) : m.isBs k ∧ m.find n = some k := by
  unfold bas at h
  cases hf : m.find n with
  | none => rw [hf] at h; cases h
  | some i =>
    rw [hf] at h
    obtain ⟨h1, h2, h3⟩ := find_lt hf
    cases hb : (m.at i).isB with
    | false => simp [hb] at h
    | true =>
      simp [hb] at h; subst h
      exact ⟨⟨h1, h2, hb⟩, rfl⟩
theorem names_mem {m : Md} {n : ByteArray} : n ∈ m.names ↔ (m.find n).isSome := by
  unfold names find
  rw [List.findIdx?_isSome, List.any_eq_true, List.mem_map]
  constructor
  · rintro ⟨d, h1, h2⟩
    obtain ⟨h3, h4⟩ := List.mem_filter.1 h1
    exact ⟨d, h3, by unfold isN; rw [h4, h2]; simp⟩
  · rintro ⟨d, h1, h2⟩
    simp only [isN, Bool.and_eq_true, decide_eq_true_eq] at h2
    exact ⟨d, List.mem_filter.2 ⟨h1, h2.1⟩, h2.2⟩
theorem memS_find {m : Md} {n : ByteArray} : memS m.names n = (m.find n).isSome := by rw [Bool.eq_iff_iff, mem_memS, names_mem]
theorem names_len {m : Md} : m.names.length ≤ m.dv.length := by unfold names; rw [List.length_map]; exact List.length_filter_le _ _
end Md
section
variable {P : Program} {n : Env} {W : World} {s : Slots} {H : List HP} {K : Slots → List HP → Prop} {d : Nat} {dst : Option Tmp} {ty : TypeId} {pos : String} {after : Array Edge} {g : Option (Nat × Bool)} {c : MH} {m : Md} {nm : ByteArray} {C : HP → List HP}
theorem foc_ent {A : HP} (hf : Foc H A C) : ∃ F, Ent H (A :: F) := let ⟨F, hp, _⟩ := hf.focus; ⟨F, stars_perm hp⟩
theorem O_lookD {x y : Operand} (hx : ev s x = some (.map (some c.dm))) (hy : ev s y = some (.string nm)) (hf : Foc H (MapR c m) C) (hd : Nat.blt d n.n = true)
    (h0 : m.dev nm = none → K ((d, .pointer none) :: s) H) (h1 : ∀ k, m.dev nm = some k → K ((d, ptr (c.bs k) 0) :: s) H) : OJ Try.prog n W ⟨some d, .lookup 77 x y false, ty, pos, after, g⟩ s H K := by
  intro a w hfit hs
  have hW := MapR_wf hf _ hs.heap.choose_spec
  obtain ⟨F, hE⟩ := foc_ent hf
  have hl := hW.dl nm
  have hv : VJ Try.prog n W ⟨some d, .lookup 77 x y false, ty, pos, after, g⟩ s H (pdv c (m.dev nm)) := by
    refine VJ_ent (Ent.trans hE MapR_flat) (VJ_eq (V_lookup (M := mDev) (k := nm) (out := fun o => match o with | some b => ptr b 0 | none => .pointer none) hx hy foc1 ok_mDev Try.zeroValue72 (fun _ => rfl) rfl) ?_)
    rw [hl]; cases m.dev nm <;> rfl
  cases hm : m.dev nm with
  | none => rw [hm] at hv; exact OJ_V hv hd (h0 hm) a w hfit hs
  | some k => rw [hm] at hv; exact OJ_V hv hd (h1 k hm) a w hfit hs
theorem O_lookB {x y : Operand} (hx : ev s x = some (.map (some c.bm))) (hy : ev s y = some (.string nm)) (hf : Foc H (MapR c m) C) (hd : Nat.blt d n.n = true)
    (h0 : m.bas nm = none → K ((d, .tuple #[.nilIface, .bool false]) :: s) H) (h1 : ∀ k, m.bas nm = some k → K ((d, .tuple #[.iface 141 (ptr (c.bs k) 0), .bool true]) :: s) H) : OJ Try.prog n W ⟨some d, .lookup 76 x y true, ty, pos, after, g⟩ s H K := by
  intro a w hfit hs
  have hW := MapR_wf hf _ hs.heap.choose_spec
  obtain ⟨F, hE⟩ := foc_ent hf
  have hl := hW.bl nm
  have hv : VJ Try.prog n W ⟨some d, .lookup 76 x y true, ty, pos, after, g⟩ s H (.tuple #[(match m.bas nm with | some k => .iface 141 (ptr (c.bs k) 0) | none => .nilIface), .bool (m.bas nm).isSome]) := by
    refine VJ_ent (Ent.trans hE MapR_flat) (VJ_eq (V_lookup2 (M := mBas) (k := nm) (out := fun o => match o with | some b => .iface 141 (ptr b 0) | none => .nilIface) hx hy foc0 ok_mBas Try.zeroValue70 (fun _ => rfl) rfl) ?_)
    rw [hl]; cases m.bas nm <;> rfl
  cases hm : m.bas nm with
  | none => rw [hm] at hv; exact OJ_V hv hd (h0 hm) a w hfit hs
  | some k => rw [hm] at hv; exact OJ_V hv hd (h1 k hm) a w hfit hs
end
theorem usesGo_mem {n : ByteArray} : ∀ (l : List api_Target) (o : List ByteArray), memS (usesGo l o) n = (memS o n || nam l n)
  | [], o => by simp [usesGo, nam]
  | t :: l, o => by
    simp only [usesGo]
    rw [usesGo_mem l]
    unfold nam
    rw [List.any_cons, Bool.eq_iff_iff]
    split
    · rename_i h
      simp only [Bool.or_eq_true, decide_eq_true_eq]
      constructor
      · rintro (h1 | h1)
        · exact .inl h1
        · exact .inr (.inr h1)
      · rintro (h1 | ⟨rfl, h2⟩ | h1)
        · exact .inl h1
        · rcases h with h | h
          · exact absurd h h2
          · exact .inl h
        · exact .inr h1
    · rename_i h
      have e : memS (o ++ [t.On]) n = (memS o n || decide (t.On = n)) := by simp [memS]
      rw [e]
      simp only [Bool.or_eq_true, decide_eq_true_eq]
      constructor
      · rintro ((h1 | h1) | h1)
        · exact .inl h1
        · refine .inr (.inl ⟨h1, fun h2 => h (.inl (h1.trans h2))⟩)
        · exact .inr (.inr h1)
      · rintro (h1 | ⟨h1, _⟩ | h1)
        · exact .inl (.inl h1)
        · exact .inl (.inr h1)
        · exact .inr h1
theorem tuses_mem {l : List api_Target} {n : ByteArray} : memS (tuses l) n = nam l n := by unfold tuses; rw [usesGo_mem]; simp [memS]
theorem tuses_len (l : List api_Target) : (tuses l).length ≤ l.length := by have := usesGo_len l []; unfold tuses; simpa using this
namespace Md
def usersN (m : Md) (n : ByteArray) : List Nat := (m.names.filterMap m.dev).filter fun k => usesD (m.at k) n
def usersT (m : Md) (n : ByteArray) (i : Nat) : List Nat := ((m.names.take i).filterMap m.dev).filter fun k => usesD (m.at k) n
theorem usersT_len (m : Md) (n : ByteArray) (i : Nat) : (m.usersT n i).length ≤ i := by
  unfold usersT
  refine Nat.le_trans (List.length_filter_le _ _) (Nat.le_trans (List.length_filterMap_le _ _) ?_)
  rw [List.length_take]; omega
theorem usersT_none {m : Md} {n : ByteArray} {i : Nat} (hi : i < m.names.length) (h : m.dev (m.names.getD i ByteArray.empty) = none) : m.usersT n (i + 1) = m.usersT n i := by
  unfold usersT; rw [takeD ByteArray.empty hi, List.filterMap_append, List.filterMap_cons_none h, List.filterMap_nil, List.append_nil]
theorem usersT_no {m : Md} {n : ByteArray} {i k : Nat} (hi : i < m.names.length) (h : m.dev (m.names.getD i ByteArray.empty) = some k) (h2 : usesD (m.at k) n = false) : m.usersT n (i + 1) = m.usersT n i := by
  unfold usersT; rw [takeD ByteArray.empty hi, List.filterMap_append, List.filter_append, List.filterMap_cons_some h, List.filterMap_nil, List.filter_cons_of_neg (by simp [h2]), List.filter_nil, List.append_nil]
theorem usersT_yes {m : Md} {n : ByteArray} {i k : Nat} (hi : i < m.names.length) (h : m.dev (m.names.getD i ByteArray.empty) = some k) (h2 : usesD (m.at k) n = true) : m.usersT n (i + 1) = m.usersT n i ++ [k] := by
  unfold usersT; rw [takeD ByteArray.empty hi, List.filterMap_append, List.filter_append, List.filterMap_cons_some h, List.filterMap_nil, List.filter_cons_of_pos (p := fun k => usesD (m.at k) n) h2, List.filter_nil]
theorem usesD_of {m : Md} {k : Nat} {n : ByteArray} (hk : m.isD k) : usesD (m.at k) n = (nam (m.at k).live n || nam (m.at k).new n) := by unfold usesD; rw [hk.2.1]; rfl
end Md
theorem ut_yes {c : MH} {m : Md} {n : ByteArray} {i k : Nat} (hi : i < m.names.length) (h : m.dev (m.names.getD i ByteArray.empty) = some k) (h2 : Md.usesD (m.at k) n = true) : (m.usersT n i).map c.bs ++ [c.bs k] = (m.usersT n (i + 1)).map c.bs := by
  rw [Md.usersT_yes hi h h2, List.map_append]; rfl
theorem c_tables {W : World} {c : MH} {m : Md} {k : Nat} (hk : m.isD k) :
    CSpec Try.prog W 42 [ptr (c.bs k) 0] [MapR c m] (fun x : Sl3 => x.v) (fun _ => True) (fun x F => sl tyTs x.v [(c.hd k).lv, (c.hd k).nw] :: MapR c m :: F) := by
 refine CSpec.of_body Try.func42 rfl Try.ntmps42 rfl fun F => ?_
 show CJ _ _ _ _ _ _ (_ :: F)
 refine sR <| oA rfl rfl <| nT <| CJ_seq <| AJ_startH 256 (by kernel_rfl) rfl <| aN 0 1 rfl rfl (P_move rfl) rfl <| aN 1 3 rfl rfl (P_nilCheck rfl) rfl <| aN 2 7 rfl rfl (P_fieldAddr rfl ⟨_, _, _, Try.runUnderlying75, rfl, rfl, Try.sizeOf34, rfl⟩) rfl <| aV 3 15 rfl rfl (GY_none rfl) (t0_ eR) (VJ_ent (Ent.trans (t0_ eR) (MapR_dev hk)) (V_load rfl foc0 rfl Try.isAgg34)) rfl <| aN 4 31 rfl rfl (P_move rfl) rfl <| aN 5 63 rfl rfl (P_nilCheck rfl) rfl <| aN 6 127 rfl rfl (P_fieldAddr rfl ⟨_, _, _, Try.runUnderlying75, rfl, rfl, Try.sizeOf34, rfl⟩) rfl <| aV 7 255 rfl rfl (GY_none rfl) (t0_ eR) (VJ_ent (Ent.trans (t0_ eR) (MapR_dev hk)) (V_load rfl foc0 rfl Try.isAgg34)) rfl <| AJ_op 8 511 rfl (by kernel_rfl) rfl (GY_none rfl) <| O_buildSlice rfl (CMap1_bs_100_2_0_1 _ _ _ _ _ _) rfl fun b1 => ⟨fun h => absurd h (by decide), ?_⟩
 refine aN 9 1023 rfl rfl (P_assign rfl) rfl <| aD <| CJ_ret <| QJ_end (res1 Try.results42 rfl) <| CSpec.close ⟨some ⟨b1, 0, none⟩, 2, 2⟩ ?_ ?_ (Ent.trans (Ent.trans (t0_ eR) (sl_of_lit (t := tyTs) (m := 2) [(c.hd k).lv, (c.hd k).nw] rfl rfl rfl (by decide))) (t0_ (t0_ eR)))
 · rfl
 · trivial
theorem c_uses1 {W : World} {A : HP} {v : Value} {xs : List api_Target} {nb : Nat} {n : ByteArray} (hA : Reads A tyapi_Target v xs) (hl : xs.length ≤ 1000000) :
    CSpec Try.prog W 76 [v, ptr nb 0] [A, blk nb 9 [.string n]] (fun _ : Unit => .bool (nam xs n)) (fun _ => True) (fun _ F => A :: blk nb 9 [.string n] :: F) := by
 refine CSpec.of_body Try.func76 rfl Try.ntmps76 rfl fun F => ?_
 show CJ _ _ _ _ _ _ (_ :: _ :: F)
 have htl := tuses_len xs
 refine sR <| oA rfl rfl <| nT <| CJ_seq <| AJ_startH 8 (by kernel_rfl) rfl <| aN 0 1 rfl rfl (P_move rfl) rfl <| aV 2 5 rfl rfl (GY_none rfl) (t0_ (t0_ eR)) (V_load rfl foc1 rfl Try.isAgg9) rfl <| AJ_op 1 7 rfl (by kernel_rfl) rfl (GY_none rfl) <| O_call (L_table_Uses hA (uses_eq (by first | assumption | omega))) rfl Try.call27 (Dels.cons del0 Dels.nil) rfl fun _ hc2 => ⟨fun _ => (t0_ (t1_ (eD eR))), ?_⟩
 refine AJ_op 3 15 rfl (by kernel_rfl) rfl (GY_none rfl) <| O_call (L_slices_Contains_string (Reads.sl _ _ _) (contains_eq (by first | assumption | omega))) rfl Try.call30 (Dels.cons del1 Dels.nil) rfl fun _ hc3 => ⟨fun h => absurd h (by decide), ?_⟩
 refine aN 4 31 rfl rfl (P_assign rfl) rfl <| aD <| CJ_ret <| QJ_end (res1 Try.results76 rfl) <| CSpec.close () ?_ ?_ (t1_ (t1_ (eD eR)))
 · exact bv tuses_mem
 · trivial
theorem c_idxT {W : World} {A B : HP} {v : Value} {hs : List Sl3} {xs : List (List api_Target)} {nb : Nat} {n : ByteArray} (hB : Reads B tyTs v hs) (hA : ∀ i, i < hs.length → Reads A tyapi_Target (hs.getD i s3z).v (xs.getD i []) ∧ (xs.getD i []).length ≤ 1000000) (hl : hs.length = xs.length) (hl2 : xs.length ≤ 1000000) :
    CSpec Try.prog W 82 [v, .func (.func 76) #[] #[ptr nb 0]] [B, A, blk nb 9 [.string n]] (fun r : Int => .int .i64 r) (fun r => (0 ≤ r ↔ (xs.any fun x => nam x n) = true)) (fun _ F => B :: A :: blk nb 9 [.string n] :: F) := by
 refine CSpec.of_body Try.func82 rfl Try.ntmps82 rfl fun F => ?_
 show CJ _ _ _ _ _ _ (_ :: _ :: _ :: F)
 refine sR <| oA rfl rfl <| nT <| CJ_seq <| sR <| oM rfl rfl <| oV (V_len rfl foc0 hB Try.runUnderlying100) rfl <| oM rfl rfl <| nT <| CJ_block <| CJ_loopR (X := Nat) [4, 5, 8, 9, 10, 11, 12, 13, 14, 15, 16, 17, 18] (fun i  => ([(8, .int .i64 (i : Nat))] : Slots)) (fun i R => R) (fun i  => i ≤ hs.length ∧ ((xs.take i).any fun x => nam x n) = false) (fun i  => hs.length - i) (0) ?_ ?_ (t0_ (t0_ (t0_ eR))) ?_
 · exact ⟨Nat.zero_le _, by simp⟩
 · exact ⟨rfl, True.intro⟩
 ·
  intro i hpf
  obtain ⟨hi, hno⟩ := hpf
  show CJ _ _ _ _ _ (([(8, .int .i64 (i : Nat))] : Slots) ++ forget _ _) (_)
  refine sR <| oP (P_lss rfl rfl) rfl <| nT <| CJ_seq ?_
  first | (refine CJ_condD rfl (fun hg1 => ?_) (fun hg1 => ?_)) | (refine CJ_condN rfl (fun hg1 => ?_) (fun hg1 => ?_)) | (refine CJ_cond rfl (fun hg1 => ?_) (fun hg1 => ?_))
  ·
   refine kT <| CJ_seq <| CJ_block <| sR <| oM rfl rfl <| oA rfl rfl <| nT <| sR <| oM rfl rfl <| oM rfl rfl <| oM rfl rfl ?_
   first | (refine RJ_op rfl (OJ_V (V_index rfl rfl rfl (by omega) foc0 hB Try.runUnderlying100 Try.sizeOf34) rfl ?_)) | (refine RJ_op rfl (OJ_V (V_index rfl rfl (Int.toNat_of_nonneg (by omega)).symm (by omega) foc0 hB Try.runUnderlying100 Try.sizeOf34) rfl ?_))
   refine oV (V_loadE rfl rfl (by omega) foc0 hB rfl rfl Try.isAgg34) rfl <| oO <| O_callV rfl rfl (c_uses1 (hA i (by omega)).1 (hA i (by omega)).2) Try.call76 (Dels.cons del1 (Dels.cons del1 Dels.nil)) rfl fun _ hc1 => nT ?_
   first | (refine CJ_condD rfl (fun hg2 => ?_) (fun hg2 => ?_)) | (refine CJ_condN rfl (fun hg2 => ?_) (fun hg2 => ?_)) | (refine CJ_cond rfl (fun hg2 => ?_) (fun hg2 => ?_))
   ·
    refine sR <| oM rfl rfl <| oA rfl rfl <| nT <| CJ_ret <| QJ_block_ret <| QJ_then_ret <| QJ_round_ret <| QJ_block_ret <| QJ_then_ret <| QJ_end (res1 Try.results82 rfl) <| CSpec.close (i : Int) ?_ ?_ (t2_ (t0_ (t0_ eR)))
    · rfl
    ·
     refine ⟨fun _ => ?_, fun _ => by omega⟩
     rw [List.any_eq_true]
     exact ⟨xs.getD i [], by rw [List.getD_eq_getElem?_getD, List.getElem?_eq_getElem (by omega), Option.getD_some]; exact List.getElem_mem _, hg2⟩
   ·
    refine CJ_skip <| QJ_block_normal <| QJ_then <| CJ_region <| oP (P_add rfl rfl (by omega)) rfl <| oM rfl rfl <| RJ_nil <| QJ_nextR (i + 1) (by first | omega | (simp only []; omega)) ?_ (by repeat (first | exact Kp.base | exact Kp.self | refine Kp.cons rfl ?_ | refine Kp.forget rfl ?_)) ?_ (t2_ (t0_ (t0_ eR)))
    · exact ⟨by omega, by rw [takeD [] (by omega), List.any_append, hno, List.any_cons, hg2]; rfl⟩
    · exact ⟨rfl, True.intro⟩
  ·
   refine CJ_exit <| QJ_then_exit <| QJ_round_exit <| QJ_block_here <| QJ_then <| sR <| oA rfl rfl <| nT <| CJ_ret <| QJ_end (res1 Try.results82 rfl) <| CSpec.close (-1) ?_ ?_ (t0_ (t0_ (t0_ eR)))
   · rfl
   ·
    obtain rfl : i = hs.length := by omega
    rw [hl, List.take_length] at hno
    rw [hno]; simp
theorem c_conT {W : World} {A B : HP} {v : Value} {hs : List Sl3} {xs : List (List api_Target)} {nb : Nat} {n : ByteArray} (hB : Reads B tyTs v hs) (hA : ∀ i, i < hs.length → Reads A tyapi_Target (hs.getD i s3z).v (xs.getD i []) ∧ (xs.getD i []).length ≤ 1000000) (hl : hs.length = xs.length) (hl2 : xs.length ≤ 1000000) :
    CSpec Try.prog W 75 [v, .func (.func 76) #[] #[ptr nb 0]] [B, A, blk nb 9 [.string n]] (fun _ : Unit => .bool (xs.any fun x => nam x n)) (fun _ => True) (fun _ F => B :: A :: blk nb 9 [.string n] :: F) := by
 refine CSpec.of_body Try.func75 rfl Try.ntmps75 rfl fun F => ?_
 show CJ _ _ _ _ _ _ (_ :: _ :: _ :: F)
 refine sR <| oA rfl rfl <| nT <| sR <| oM rfl rfl <| oM rfl rfl <| oO <| O_call (c_idxT hB hA hl hl2) rfl Try.call82 (Dels.cons del0 (Dels.cons del0 (Dels.cons del0 Dels.nil))) rfl fun r hr => oP (P_geq rfl rfl) rfl <| oA rfl rfl <| nT <| CJ_ret <| QJ_end (res1 Try.results75 rfl) <| CSpec.close () ?_ ?_ (t0_ (t0_ (t0_ eR)))
 · exact bv (by rw [Bool.eq_iff_iff, decide_eq_true_iff]; exact hr)
 · trivial
theorem c_uses {W : World} {c : MH} {m : Md} {k : Nat} {n : ByteArray} (hk : m.isD k) :
    CSpec Try.prog W 65 [ptr (c.bs k) 0, .string n] [MapR c m] (fun _ : Unit => .bool (nam (m.at k).live n || nam (m.at k).new n)) (fun _ => True) (fun _ F => MapR c m :: F) := by
 refine CSpec.of_body Try.func65 rfl Try.ntmps65 rfl fun F => ?_
 show CJ _ _ _ _ _ _ (_ :: F)
 refine CJ_pure (MapR_wf foc0) fun hW => ?_
 have hO := hW.ok
 have hlen := hW.big.len
 have hns := Md.names_len (m := m)
 have hlv := (chk_len (hO.chk k).1).1
 have hnw := (chk_len (hO.chk k).2).1
 refine sR <| oO <| O_box rfl rfl rfl fun b1 => oA rfl rfl <| nT <| sR <| oM rfl rfl <| oO <| O_call (c_tables hk) rfl Try.call42 (Dels.cons del1 Dels.nil) rfl fun _ hc3 => oP (P_makeFunc rfl rfl) rfl <| RJ_op rfl (O_call (c_conT (xs := [(m.at k).live, (m.at k).new]) (Reads.sl _ _ _) (fun i hi => by
   match i, hi with
   | 0, _ => exact ⟨rdLive hk, by show (m.at k).live.length ≤ 1000000; omega⟩
   | 1, _ => exact ⟨rdNew hk, by show (m.at k).new.length ≤ 1000000; omega⟩) rfl (by show 2 ≤ 1000000; decide)) rfl Try.call75 (Dels.cons del0 (Dels.cons del0 (Dels.cons del0 Dels.nil))) rfl (fun _ hc4 => ?_))
 refine oA rfl rfl <| nT <| CJ_ret <| QJ_end (res1 Try.results65 rfl) <| CSpec.close () ?_ ?_ (t1_ (eD (eD eR)))
 · exact bv (by simp)
 · trivial
theorem c_users {W : World} {b : Nat} {c : MH} {m : Md} {n : ByteArray} :
    CSpec Try.prog W 44 [ptr b 0, .string n] [blk b 79 (mCells c m), MapR c m] (fun x : Sl3 => x.v) (fun _ => True) (fun x F => sl tyPD x.v ((m.usersN n).map c.bs) :: blk b 79 (mCells c m) :: MapR c m :: F) := by
 refine CSpec.of_body Try.func44 rfl Try.ntmps44 rfl fun F => ?_
 show CJ _ _ _ _ _ _ (_ :: _ :: F)
 refine CJ_pure (MapR_wf foc1) fun hW => ?_
 have hO := hW.ok
 have hlen := hW.big.len
 have hns := Md.names_len (m := m)
 refine sR <| oA rfl rfl <| nT <| sR <| oA rfl rfl <| nT <| CJ_seq <| sR <| oM rfl rfl <| oP (P_nilCheck rfl) rfl <| oP (P_fieldAddr rfl ⟨_, _, _, Try.runUnderlying79, rfl, rfl, Try.sizeOf45, rfl⟩) rfl <| oV (V_load rfl foc0 rfl Try.isAgg45) rfl <| oV (V_len rfl foc1 rdOrd Try.runUnderlying45) rfl <| oM rfl rfl <| nT <| CJ_block <| CJ_ent (fun h hh => sl_nil (t := tyPD) h hh) <| CJ_loopR (X := Nat × Sl3) [5, 7, 8, 14, 15, 16, 17, 18, 19, 20, 21, 22, 23, 24, 25, 26, 27, 28, 29, 30, 31, 32, 33, 34, 35] (fun ⟨i, rv⟩  => ([(14, .int .i64 (i : Nat)), (5, rv.v)] : Slots)) (fun ⟨i, rv⟩ R => sl tyPD rv.v ((m.usersT n i).map c.bs) :: R) (fun ⟨i, rv⟩  => i ≤ m.names.length) (fun ⟨i, rv⟩  => m.names.length - i) ⟨0, ⟨none, 0, 0⟩⟩ ?_ ?_ (t0_ (t0_ (t0_ eR))) ?_
 · exact Nat.zero_le _
 · exact ⟨rfl, rfl, True.intro⟩
 ·
  rintro ⟨i, rv⟩ hi
  show CJ _ _ _ _ _ (([(14, .int .i64 (i : Nat)), (5, rv.v)] : Slots) ++ forget _ _) (sl tyPD rv.v ((m.usersT n i).map c.bs) :: _)
  have hut := Md.usersT_len m n i
  have hum : ((m.usersT n i).map c.bs).length = (m.usersT n i).length := by simp
  refine sR <| oP (P_lss rfl rfl) rfl <| nT <| CJ_seq ?_
  first | (refine CJ_condD rfl (fun hg1 => ?_) (fun hg1 => ?_)) | (refine CJ_condN rfl (fun hg1 => ?_) (fun hg1 => ?_)) | (refine CJ_cond rfl (fun hg1 => ?_) (fun hg1 => ?_))
  ·
   refine kT <| CJ_seq <| CJ_block <| sR ?_
   first | (refine RJ_op rfl (OJ_V (V_index rfl rfl rfl (by omega) foc2 rdOrd Try.runUnderlying45 Try.sizeOf9) rfl ?_)) | (refine RJ_op rfl (OJ_V (V_index rfl rfl (Int.toNat_of_nonneg (by omega)).symm (by omega) foc2 rdOrd Try.runUnderlying45 Try.sizeOf9) rfl ?_))
   refine oV (V_loadE rfl rfl (by omega) foc2 rdOrd rfl rfl Try.isAgg9) rfl <| oA rfl rfl <| nT <| sR <| oM rfl rfl <| oP (P_nilCheck rfl) rfl <| oP (P_fieldAddr rfl ⟨_, _, _, Try.runUnderlying79, rfl, rfl, Try.sizeOf77, rfl⟩) rfl <| oV (V_load rfl foc1 rfl Try.isAgg77) rfl <| oM rfl rfl <| oO (O_lookD rfl rfl foc2 rfl (fun hd2 => ?_) (fun k1 hd2 => ?_))
   ·
    refine oA rfl rfl <| nT <| sR <| oM rfl rfl <| oP (P_neqNN rfl rfl Try.underlying72) rfl <| oM rfl rfl <| RJ_gn (GY_no rfl rfl rfl rfl) rfl rfl <| RJ_gn (GY_no rfl rfl rfl rfl) rfl rfl <| RJ_gn (GY_no rfl rfl rfl rfl) rfl rfl <| oP (P_pickF rfl rfl rfl) rfl <| nT <| CJ_condF rfl rfl <| CJ_skip <| QJ_block_normal <| QJ_then <| CJ_region <| oP (P_add rfl rfl (by omega)) rfl <| oM rfl rfl <| RJ_nil <| QJ_nextR ⟨i + 1, rv⟩ (by first | omega | (simp only []; omega)) ?_ (by repeat (first | exact Kp.base | exact Kp.self | refine Kp.cons rfl ?_ | refine Kp.forget rfl ?_)) ?_ (Ent.takeC del0 (congrArg (fun z : List Nat => sl tyPD rv.v (z.map c.bs)) (Md.usersT_none (by omega) hd2).symm) (t0_ (t0_ eR)))
    · omega
    · exact ⟨rfl, rfl, True.intro⟩
   ·
    refine oA rfl rfl <| nT <| sR <| oM rfl rfl <| oP (P_neqPN rfl rfl Try.underlying72) rfl <| oM rfl rfl <| gP (GY_yes rfl rfl rfl rfl) (P_move rfl) rfl <| gP (GY_yes rfl rfl rfl rfl) (P_move rfl) rfl <| RJ_gy (GY_yes rfl rfl rfl rfl) <| O_call (c_uses (Md.dev_is hd2).1) rfl Try.call65 (Dels.cons del2 Dels.nil) rfl fun _ hc3 => oP (P_pickT rfl rfl rfl) rfl <| nT ?_
    first | (refine CJ_condD rfl (fun hg2 => ?_) (fun hg2 => ?_)) | (refine CJ_condN rfl (fun hg2 => ?_) (fun hg2 => ?_)) | (refine CJ_cond rfl (fun hg2 => ?_) (fun hg2 => ?_))
    ·
     refine CJ_region <| oM rfl rfl <| oM rfl rfl <| oO <| O_buildSlice rfl (CMap1_bs_103_1_0 _) rfl fun b4 => oO <| O_append (t := tyPD) (bytes := 8) rfl rfl del2 foc0 (Reads.lit (t := tyPD) (ys := [c.bs k1]) rfl rfl (by decide) (by decide) rfl) Try.underlying103 ok_tyPD (by simp only [List.length_append, List.length_cons, List.length_nil, maxLen] at *; omega) (by simp only [List.length_append, List.length_cons, List.length_nil, maxLen] at *; omega) rfl fun p5 c6 => oA rfl rfl <| RJ_nil <| QJ_block_normal <| QJ_then <| CJ_region <| oP (P_add rfl rfl (by omega)) rfl <| oM rfl rfl <| RJ_nil <| QJ_nextR ⟨i + 1, ⟨p5, _, c6⟩⟩ (by first | omega | (simp only []; omega)) ?_ (by repeat (first | exact Kp.base | exact Kp.self | refine Kp.cons rfl ?_ | refine Kp.forget rfl ?_)) ?_ (Ent.takeC del0 (congrArg (sl tyPD _) (ut_yes (by omega) hd2 (by rw [Md.usesD_of (Md.dev_is hd2).1]; simpa using hg2))) (t2_ (t1_ (eD eR))))
     · omega
     · exact ⟨rfl, rfl, True.intro⟩
    ·
     refine CJ_skip <| QJ_block_normal <| QJ_then <| CJ_region <| oP (P_add rfl rfl (by omega)) rfl <| oM rfl rfl <| RJ_nil <| QJ_nextR ⟨i + 1, rv⟩ (by first | omega | (simp only []; omega)) ?_ (by repeat (first | exact Kp.base | exact Kp.self | refine Kp.cons rfl ?_ | refine Kp.forget rfl ?_)) ?_ (Ent.takeC del1 (congrArg (fun z : List Nat => sl tyPD rv.v (z.map c.bs)) (Md.usersT_no (by omega) hd2 (by rw [Md.usesD_of (Md.dev_is hd2).1]; simpa using hg2)).symm) (t1_ (t0_ eR)))
     · omega
     · exact ⟨rfl, rfl, True.intro⟩
  ·
   refine CJ_exit <| QJ_then_exit <| QJ_round_exit <| QJ_block_here <| QJ_then <| sR <| oM rfl rfl <| oA rfl rfl <| nT <| CJ_ret <| QJ_end (res1 Try.results44 rfl) ?_
   obtain rfl : i = m.names.length := by omega
   refine CSpec.close rv ?_ ?_ (Ent.takeC del0 (congrArg (sl tyPD _) (by unfold Md.usersT Md.usersN; rw [List.take_length])) (t0_ (t0_ eR)))
   · rfl
   · trivial
end Go.Proofs
namespace Go.Proofs
namespace Md
def key (d : Dv) : Bool × ByteArray := (d.gone, d.name)
section
variable {m m' : Md} {n : ByteArray} {k i : Nat} {d' : Dv}
theorem find_key (h : m'.dv.map key = m.dv.map key) : m'.find n = m.find n := by
  have e : ∀ x : Md, x.find n = (x.dv.map key).findIdx? (fun p => !p.1 && decide (p.2 = n)) := fun x => by
    rw [List.findIdx?_map]; rfl
  rw [e, e, h]
theorem names_key (h : m'.dv.map key = m.dv.map key) : m'.names = m.names := by
  have e : ∀ x : Md, x.names = ((x.dv.map key).filter fun p => !p.1).map (·.2) := fun x => by
    unfold names; rw [List.filter_map, List.map_map]; rfl
  rw [e, e, h]
theorem at_set (hk : k < m.dv.length) : (m.set k d').at i = if i = k then d' else m.at i := by
  show (m.dv.set k d').getD i Dv.z = _
  split
  · rename_i e; subst e; simp [List.getD, hk]
  · rename_i e; simp [List.getD, List.getElem?_set, Ne.symm e, Md.at]
theorem set_key (h : key d' = key (m.at k)) : (m.set k d').dv.map key = m.dv.map key := by
  show (m.dv.set k d').map key = _
  rw [List.map_set, h]
  by_cases hk : k < m.dv.length
  · have : key (m.at k) = (m.dv.map key)[k]'(by simpa using hk) := by simp [Md.at, List.getD, hk]
    rw [this, List.set_getElem_self]
  · rw [List.set_eq_of_length_le (by simpa using hk)]
theorem at_out (h : ¬ k < m.dv.length) : m.at k = Dv.z := by simp [Md.at, List.getD, List.getElem?_eq_none (Nat.le_of_not_lt h)]
end
structure Alike (d d' : Dv) : Prop where
  gone : d'.gone = d.gone
  isB : d'.isB = d.isB
  name : d'.name = d.name
  live : d'.live = d.live
  new : d'.new = d.new
  hl : d'.hl = d.hl
  hn : d'.hn = d.hn
  susp : d'.susp = d.susp
theorem Alike.rfl {d : Dv} : Alike d d := ⟨by rfl, by rfl, by rfl, by rfl, by rfl, by rfl, by rfl, by rfl⟩
theorem Alike.key {d d' : Dv} (h : Alike d d') : key d' = key d := by unfold Md.key; rw [h.gone, h.name]
structure Like (m m' : Md) : Prop where
  len : m'.dv.length = m.dv.length
  at_ : ∀ i, Alike (m.at i) (m'.at i)
theorem Like.keys {m m' : Md} (h : Like m m') : m'.dv.map key = m.dv.map key := by
  refine List.ext_getElem (by simp [h.len]) fun i h1 h2 => ?_
  have := (h.at_ i).key
  simp only [List.length_map] at h1 h2
  simpa [Md.at, List.getD, h1, h2] using this
theorem Like.find {m m' : Md} (h : Like m m') (n : ByteArray) : m'.find n = m.find n := find_key h.keys
theorem Like.names {m m' : Md} (h : Like m m') : m'.names = m.names := names_key h.keys
theorem Like.dev {m m' : Md} (h : Like m m') (n : ByteArray) : m'.dev n = m.dev n := by
  unfold Md.dev; rw [h.find]; congr 1; funext k; rw [(h.at_ k).isB]
theorem Like.refl {m : Md} : Like m m := ⟨rfl, fun _ => .rfl⟩
theorem Like.trans {a b c : Md} (h : Like a b) (g : Like b c) : Like a c := ⟨g.len.trans h.len, fun i => by
  have h1 := h.at_ i; have h2 := g.at_ i
  exact ⟨h2.gone.trans h1.gone, h2.isB.trans h1.isB, h2.name.trans h1.name, h2.live.trans h1.live, h2.new.trans h1.new, h2.hl.trans h1.hl, h2.hn.trans h1.hn, h2.susp.trans h1.susp⟩⟩
theorem Like.set {m : Md} {k : Nat} {d' : Dv} (h : Alike (m.at k) d') : Like m (m.set k d') := by
  refine ⟨by show (m.dv.set k d').length = _; simp, fun i => ?_⟩
  by_cases hk : k < m.dv.length
  · rw [at_set hk]; split
    · rename_i e; rw [e]; exact h
    · exact .rfl
  · have : (m.set k d').at i = m.at i := by
      show (m.dv.set k d').getD i Dv.z = _
      rw [List.set_eq_of_length_le (by omega)]; rfl
    rw [this]; exact .rfl
theorem Like.ok {m m' : Md} (h : Like m m') (hO : MdOk m) (hb : ∀ i, (m.at i).isB = true → (m'.at i).wait = [] ∧ (m'.at i).base.length ≤ 65536)
    (hw : ∀ i, i < m.dv.length → ∀ w ∈ (m'.at i).wait, (m.at i).gone = false ∧ w.gv < m.dv.length ∧ (m.at w.gv).gone = false ∧ (m.at w.gv).isB = false ∧ 1 ≤ w.t.Kind ∧ w.t.Kind ≤ 3 ∧ inT w.t) : MdOk m' where
  uniq := fun i j => by rw [h.len, (h.at_ i).gone, (h.at_ j).gone, (h.at_ i).name, (h.at_ j).name]; exact hO.uniq i j
  nm := fun i => by rw [h.len, (h.at_ i).gone, (h.at_ i).name]; exact hO.nm i
  chk := fun i => by rw [(h.at_ i).live, (h.at_ i).new]; exact hO.chk i
  nam := fun i => by unfold Md.tbl; rw [h.len, (h.at_ i).gone, (h.at_ i).live, (h.at_ i).new]; intro a b t ht hne; rw [h.find]; exact hO.nam i a b t ht hne
  acy := by
    obtain ⟨rk, hr⟩ := hO.acy
    refine ⟨rk, fun i => ?_⟩
    unfold Md.tbl; rw [h.len, (h.at_ i).gone, (h.at_ i).live, (h.at_ i).new]; intro a b t ht j hj; rw [h.find] at hj; exact hr i a b t ht j hj
  bas := fun i hi => by
    rw [(h.at_ i).isB] at hi
    obtain ⟨h1, h2, h3, h4, h5, h6, h7⟩ := hO.bas i hi
    obtain ⟨g1, g2⟩ := hb i hi
    exact ⟨(h.at_ i).live.trans h1, (h.at_ i).new.trans h2, g1, (h.at_ i).hl.trans h4, (h.at_ i).hn.trans h5, (h.at_ i).susp.trans h6, g2⟩
  hl := fun i => by rw [(h.at_ i).hl, (h.at_ i).live]; exact hO.hl i
  hn := fun i => by rw [(h.at_ i).hn, (h.at_ i).new]; exact hO.hn i
  org := fun i hi w hw' => by
    rw [h.len] at hi
    obtain ⟨h1, h2, h3, h4, h5⟩ := hw i hi w hw'
    exact ⟨(h.at_ i).gone.trans h1, by rw [h.len]; exact h2, (h.at_ _).gone.trans h3, (h.at_ _).isB.trans h4, h5⟩
end Md
end Go.Proofs
set_option linter.unusedSimpArgs false
set_option maxRecDepth 20000
namespace Go.Proofs
open Go.VG
section
variable {W : World} {c : MH} {m m' : Md} {k : Nat} {R : List HP}
theorem dev_like (h1 : m'.dv.map Md.key = m.dv.map Md.key) (h2 : ∀ i, (m'.at i).isB = (m.at i).isB) (n : ByteArray) : m'.dev n = m.dev n ∧ m'.bas n = m.bas n := by
  unfold Md.dev Md.bas; rw [Md.find_key h1]
  constructor <;> (congr 1; funext k; rw [h2 k])
theorem hd_set {l : List (DH × Dv)} {h' : DH} {d' : Dv} {s' : ArrS} {i : Nat} (hk : k < c.l.length) (hl : l = c.l.set k (h', d')) : ({ c with l := l, s := s' } : MH).hd i = if i = k then h' else c.hd i := by
  subst hl
  unfold MH.hd
  show ((c.l.set k (h', d')).getD i (dh0, Dv.z)).1 = _
  split
  · rename_i e; subst e; simp [List.getD, hk]
  · rename_i e; simp [List.getD, List.getElem?_set, Ne.symm e]
theorem MapWF.upd {h' : DH} {d' : Dv} {s' : ArrS} (hW : MapWF c m) (hk : k < m.dv.length) (hd : m'.dv = m.dv.set k d') (hkey : Md.key d' = Md.key (m.at k)) (hB : d'.isB = (m.at k).isB) (hb : h'.b = c.bs k) (hdn : h'.dn = (c.hd k).dn)
    (ok : MdOk m') (big : MdBig m') (good : Good s') (hdl : s'.drv.length = c.s.drv.length) (hnow : ∀ i, m.isBs i → nowL s' (c.hd i).dn = (m'.at i).base ∧ (m'.at i).base.length ≤ 65536) (hwr : s'.writes ≤ m'.wr) : MapWF { c with l := c.l.set k (h', d'), s := s' } m' := by
  obtain ⟨g1, g2⟩ := hW.at hk
  have hat : ∀ i, m'.at i = if i = k then d' else m.at i := fun i => by
    have e : m'.at i = (m.set k d').at i := by unfold Md.at; rw [hd]; rfl
    rw [e]; exact Md.at_set hk
  have hkeys : m'.dv.map Md.key = m.dv.map Md.key := by rw [hd]; exact Md.set_key hkey
  have hBs : ∀ i, (m'.at i).isB = (m.at i).isB := fun i => by rw [hat]; split; · rename_i e; rw [e]; exact hB
                                                              · rfl
  have hgo : ∀ i, (m'.at i).gone = (m.at i).gone := fun i => by
    rw [hat]; split
    · rename_i e; rw [e]; exact (Prod.mk.inj hkey).1
    · rfl
  have hlen : m'.dv.length = m.dv.length := by rw [hd]; simp
  have hbs : ({ c with l := c.l.set k (h', d'), s := s' } : MH).bs = c.bs := bs_set g1 hb rfl
  have hD : ∀ i, m'.isD i ↔ m.isD i := fun i => by unfold Md.isD; rw [hlen, hgo, hBs]
  have hBb : ∀ i, m'.isBs i ↔ m.isBs i := fun i => by unfold Md.isBs; rw [hlen, hgo, hBs]
  have hdn' : ∀ i, (({ c with l := c.l.set k (h', d'), s := s' } : MH).hd i).dn = (c.hd i).dn := fun i => by
    rw [hd_set g1 rfl]; split
    · rename_i e; rw [e]; exact hdn
    · rfl
  refine ⟨?_, ok, big, fun n => ?_, fun n => ?_, fun i j hi hj he => ?_, good, fun i hi => ?_, fun i j hi hj he => ?_, hwr⟩
  · show (c.l.set k (h', d')).map Prod.snd = _
    rw [List.map_set, hW.dv, hd]
  · rw [(dev_like hkeys hBs n).1, hbs]; exact hW.dl n
  · rw [(dev_like hkeys hBs n).2, hbs]; exact hW.bl n
  · rw [hbs] at he; exact hW.inj i j ((hD i).1 hi) ((hD j).1 hj) he
  · obtain ⟨q1, q2, q3⟩ := hW.dsk i ((hBb i).1 hi)
    obtain ⟨q4, q5⟩ := hnow i ((hBb i).1 hi)
    rw [hdn']
    exact ⟨by rw [show ({ c with l := c.l.set k (h', d'), s := s' } : MH).s = s' from rfl, hdl]; exact q1, q4, q5⟩
  · rw [hdn', hdn'] at he; exact hW.dsj i j ((hBb i).1 hi) ((hBb j).1 hj) he
theorem ICall.conseq {P : Program} {v : Value} {name : String} {args : List Value} {pre pre' : List HP} {X : Type} {res : X → Value} {pf : X → Prop} {post post' : X → List HP → List HP} {G : List HP} (h : ICall P W v name args pre res pf post) (h1 : ∀ F, Ent (pre' ++ F) (pre ++ (G ++ F))) (h2 : ∀ x, pf x → ∀ F, Ent (post x (G ++ F)) (post' x F)) : ICall P W v name args pre' res pf post' := by
  intro F w hs
  obtain ⟨f, zs, g1, g2⟩ := h (G ++ F) w (hs.imp (h1 F))
  refine ⟨f, zs, g1, g2.mono ?_⟩
  rintro e w' ⟨x, q1, q2, q3⟩
  exact ⟨x, q1, q2, q3.imp (h2 x q2 F)⟩
def MH.wrB (c : MH) (m : Md) (k : Nat) (a : Int) (v : UInt64) : MH := if 0 ≤ a ∧ a < ((m.at k).base.length : Int) then { c with l := c.l.set k (c.hd k, { m.at k with base := (m.at k).base.set a.toNat v }), s := wr1 c.s (c.hd k).dn a.toNat v } else c
def Md.wrB (m : Md) (k : Nat) (a : Int) (v : UInt64) : Md := if 0 ≤ a ∧ a < ((m.at k).base.length : Int) then { m.set k { m.at k with base := (m.at k).base.set a.toNat v } with wr := m.wr + 1 } else m
theorem span_in {len a : Int} (h : 0 ≤ len ∧ len ≤ 65536) (ha : -9223372036854775808 ≤ a ∧ a ≤ 9223372036854775807) : block_inside len a 1 = some (decide (0 ≤ a ∧ a < len)) := by
  unfold block_inside
  refine congrArg some ?_
  rw [Bool.eq_iff_iff]
  simp only [Bool.and_eq_true, decide_eq_true_eq]
  by_cases h1 : 0 ≤ a ∧ a ≤ len
  · rw [wrap64_in (by omega) (by omega)]; omega
  · constructor <;> intro h2 <;> omega
theorem c_baseSize (hk : m.isBs k) : ICall Try.prog W (.iface 141 (ptr (c.bs k) 0)) "Size" [] [MapR c m] (fun _ : Unit => .int .i64 ((m.at k).base.length : Int)) (fun _ => True) (fun _ F => MapR c m :: F) :=
  ICall.conseq (G := [MRestB (mpc mDev c.dm c.dl) c m k]) (ICall.of (fun w => by kernel_rfl) Try.call112 (L_dvc_span_Size rfl)) (fun F => MapR_bas hk) (fun _ _ F => MapR_backB hk)
theorem c_baseRead {a : Int} (hW : MapWF c m) (hk : m.isBs k) (ha : -9223372036854775808 ≤ a ∧ a ≤ 9223372036854775807) : ICall Try.prog W (.iface 141 (ptr (c.bs k) 0)) "Read" [.int .i64 a] [MapR c m] (fun _ : Unit => .tuple #[.int .u64 ((if 0 ≤ a ∧ a < ((m.at k).base.length : Int) then (m.at k).base.getD a.toNat 0 else 0 : UInt64).toNat : Int), .int .i64 (if 0 ≤ a ∧ a < ((m.at k).base.length : Int) then 0 else 1)]) (fun _ => True) (fun _ F => MapR c m :: F) := by
  obtain ⟨q1, q2, q3⟩ := hW.dsk k hk
  have e : dvc_span_Read c.s ((c.hd k).dn : Int) 0 ((m.at k).base.length : Int) a = some ((if 0 ≤ a ∧ a < ((m.at k).base.length : Int) then (m.at k).base.getD a.toNat 0 else 0 : UInt64), (if 0 ≤ a ∧ a < ((m.at k).base.length : Int) then 0 else 1 : Int)) := by
    unfold dvc_span_Read
    rw [span_in ⟨by omega, by omega⟩ ha, Option.bind_some]
    by_cases h : 0 ≤ a ∧ a < ((m.at k).base.length : Int)
    · rw [if_neg (by simp [h]), if_pos h, if_pos h, in64 (by omega)]
      obtain ⟨x, rfl⟩ := Int.eq_ofNat_of_zero_le h.1
      have hx : x < c.s.size (c.hd k).dn := by rw [size_nowL, q2]; omega
      simp only [Int.zero_add, Int.toNat_natCast]
      rw [hW.good.rdV q1 hx, hW.good.rdC q1 hx, q2]; rfl
    · rw [if_pos (by simpa using h), if_neg h, if_neg h]
  exact ICall.conseq (G := [MRestB (mpc mDev c.dm c.dl) c m k]) (ICall.of (fun w => by kernel_rfl) Try.call111 (L_dvc_span_Read e)) (fun F => MapR_bas hk) (fun _ _ F => MapR_backB hk)
theorem MdBig.wr1 (h : MdBig m) (hw : m.wr < 100000000) {k : Nat} {b : List UInt64} : MdBig { m.set k { m.at k with base := b } with wr := m.wr + 1 } := by
  refine ⟨by show (m.dv.set k _).length ≤ _; rw [List.length_set]; exact h.len, fun i => ?_, h.tks, h.told, hw⟩
  have e : ({ m.set k { m.at k with base := b } with wr := m.wr + 1 } : Md).at i = (m.set k { m.at k with base := b }).at i := rfl
  rw [e]
  by_cases hk : k < m.dv.length
  · rw [Md.at_set hk]; split
    · exact h.wl k
    · exact h.wl i
  · have : (m.set k { m.at k with base := b }).at i = m.at i := by
      show (m.dv.set k _).getD i Dv.z = _
      rw [List.set_eq_of_length_le (by omega)]; rfl
    rw [this]; exact h.wl i
theorem MapWF.wrB {a : Int} {v : UInt64} (hW : MapWF c m) (hk : m.isBs k) (hw : m.wr < 100000000) : MapWF (c.wrB m k a v) (m.wrB k a v) := by
  unfold MH.wrB Md.wrB
  by_cases h : 0 ≤ a ∧ a < ((m.at k).base.length : Int)
  · rw [if_pos h, if_pos h]
    obtain ⟨q1, q2, q3⟩ := hW.dsk k hk
    have hlike : Md.Like m { m.set k { m.at k with base := (m.at k).base.set a.toNat v } with wr := m.wr + 1 } := ⟨by show (m.dv.set k _).length = _; simp, fun i => (Md.Like.set (m := m) (k := k) (d' := { m.at k with base := (m.at k).base.set a.toNat v }) ⟨rfl, rfl, rfl, rfl, rfl, rfl, rfl, rfl⟩).at_ i⟩
    have hat : ∀ i, ({ m.set k { m.at k with base := (m.at k).base.set a.toNat v } with wr := m.wr + 1 } : Md).at i = if i = k then { m.at k with base := (m.at k).base.set a.toNat v } else m.at i := fun i => Md.at_set (m := m) hk.1
    refine hW.upd hk.1 rfl rfl rfl rfl rfl (hlike.ok hW.ok (fun i hi => ?_) (fun i hi w hw' => ?_)) (hW.big.wr1 hw) hW.good.wr1 drv_wr1 (fun i hi => ?_) (by rw [writes_wr1]; exact Nat.succ_le_succ hW.wr)
    · rw [hat]
      obtain ⟨_, _, g3, _, _, _, g4⟩ := hW.ok.bas i hi
      split
      · rename_i e; subst e; exact ⟨g3, by rw [List.length_set]; exact g4⟩
      · exact ⟨g3, g4⟩
    · rw [hat] at hw'
      refine hW.ok.org i hi w ?_
      split at hw'
      · rename_i e; subst e; exact hw'
      · exact hw'
    · obtain ⟨p1, p2, p3⟩ := hW.dsk i hi
      rw [nowL_wr1 q1, hat]
      by_cases e : i = k
      · subst e; rw [if_pos rfl, if_pos rfl, q2]; exact ⟨rfl, by rw [List.length_set]; exact q3⟩
      · rw [if_neg e, if_neg (fun he => e (hW.dsj i k hi hk he))]; exact ⟨p2, p3⟩
  · rw [if_neg h, if_neg h]; exact hW
theorem c_baseWrite {a : Int} {v : UInt64} (hW : MapWF c m) (hk : m.isBs k) (ha : -9223372036854775808 ≤ a ∧ a ≤ 9223372036854775807) (hw : m.wr < 100000000) : ICall Try.prog W (.iface 141 (ptr (c.bs k) 0)) "Write" [.int .i64 a, .int .u64 (v.toNat : Int)] [MapR c m] (fun _ : Unit => .int .i64 (if 0 ≤ a ∧ a < ((m.at k).base.length : Int) then 0 else 1)) (fun _ => True) (fun _ F => MapR (c.wrB m k a v) (m.wrB k a v) :: F) := by
  obtain ⟨q1, q2, q3⟩ := hW.dsk k hk
  have hwf := hW.wrB (a := a) (v := v) hk hw
  have e : dvc_span_Write c.s ((c.hd k).dn : Int) 0 ((m.at k).base.length : Int) a v = some ((if 0 ≤ a ∧ a < ((m.at k).base.length : Int) then 0 else 1 : Int), if 0 ≤ a ∧ a < ((m.at k).base.length : Int) then wr1 c.s (c.hd k).dn a.toNat v else c.s) := by
    unfold dvc_span_Write
    rw [span_in ⟨by omega, by omega⟩ ha, Option.bind_some]
    by_cases h : 0 ≤ a ∧ a < ((m.at k).base.length : Int)
    · have hl : inLen c.s.writes = true := inLen_le (by have := hW.wr; omega)
      rw [if_neg (by simp [h]), if_pos h, if_pos h, in64 (by omega), hl]
      obtain ⟨x, rfl⟩ := Int.eq_ofNat_of_zero_le h.1
      have hx : x < c.s.size (c.hd k).dn := by rw [size_nowL, q2]; omega
      simp only [Int.zero_add, Int.toNat_natCast]
      obtain ⟨g1, g2⟩ := hW.good.wr (v := v) q1 hx
      rw [g1, g2]; rfl
    · rw [if_pos (by simpa using h), if_neg h, if_neg h]
  obtain ⟨g1, g2⟩ := hW.at hk.1
  refine ICall.conseq (G := [MRestB (mpc mDev c.dm c.dl) c m k]) (ICall.of (fun w => by kernel_rfl) Try.call113 (L_dvc_span_Write e)) (fun F => MapR_bas hk) (fun _ _ F => ?_)
  unfold MH.wrB Md.wrB at hwf ⊢
  by_cases h : 0 ≤ a ∧ a < ((m.at k).base.length : Int)
  · simp only [if_pos h] at hwf ⊢
    exact MapR_putB (d' := { m.at k with base := (m.at k).base.set a.toNat v }) g1 hk.2.1 hk.2.2 (by simp) rfl (Md.names_key (Md.set_key (m := m) (k := k) (d' := { m.at k with base := (m.at k).base.set a.toNat v }) rfl)) rfl (bs_set g1 rfl rfl) hwf
  · simp only [if_neg h] at hwf ⊢
    exact MapR_backB hk
def MH.flB (c : MH) (m : Md) (k : Nat) : MH := { c with l := c.l.set k (c.hd k, m.at k), s := fl1 c.s (c.hd k).dn }
theorem MapWF.flB (hW : MapWF c m) (hk : m.isBs k) : MapWF (c.flB m k) m := by
  obtain ⟨q1, q2, q3⟩ := hW.dsk k hk
  have hd : m.dv = m.dv.set k (m.at k) := by
    have : m.at k = m.dv[k]'hk.1 := by simp [Md.at, List.getD, hk.1]
    rw [this, List.set_getElem_self]
  exact hW.upd hk.1 hd rfl rfl rfl rfl hW.ok hW.big (hW.good.fl1 q1) (by show (c.s.drv.set _ _).length = _; simp) (fun i hi => by
    obtain ⟨p1, p2, p3⟩ := hW.dsk i hi
    exact ⟨(nowL_fl1 q1).trans p2, p3⟩) hW.wr
theorem c_baseFlush (hW : MapWF c m) (hk : m.isBs k) : ICall Try.prog W (.iface 141 (ptr (c.bs k) 0)) "Flush" [] [MapR c m] (fun _ : Unit => .int .i64 0) (fun _ => True) (fun _ F => MapR (c.flB m k) m :: F) := by
  obtain ⟨q1, q2, q3⟩ := hW.dsk k hk
  have hc : flC c.s ((c.hd k).dn : Int) = 0 := by rw [flC_of hW.good.down q1, hW.good.miss]; rfl
  have e : dvc_span_Flush c.s ((c.hd k).dn : Int) 0 ((m.at k).base.length : Int) = some ((0 : Int), fl1 c.s (c.hd k).dn) := by
    unfold dvc_span_Flush
    have hl : inLen c.s.writes = true := inLen_le (by have := hW.wr; have := hW.big.wr; omega)
    rw [hl, hc, flS_of hc]; rfl
  obtain ⟨g1, g2⟩ := hW.at hk.1
  exact ICall.conseq (G := [MRestB (mpc mDev c.dm c.dl) c m k]) (ICall.of (fun w => by kernel_rfl) Try.call110 (L_dvc_span_Flush e)) (fun F => MapR_bas hk) (fun _ _ F => MapR_putB (d' := m.at k) g1 hk.2.1 hk.2.2 rfl rfl rfl rfl (bs_set g1 rfl rfl) (hW.flB hk))
end
theorem bas_none {m : Md} {n : ByteArray} (h : m.bas n = none) : m.find n = m.dev n := by
  unfold Md.dev
  unfold Md.bas at h
  cases hf : m.find n with
  | none => rfl
  | some k =>
    rw [hf] at h
    cases hb : (m.at k).isB with
    | true => simp [hb] at h
    | false => simp [hb]
theorem sizeN_bas {m : Md} {n : ByteArray} {k : Nat} (h : m.bas n = some k) : m.sizeN n = ((m.at k).base.length : Int) := by
  obtain ⟨h1, h2⟩ := Md.bas_is h
  unfold Md.sizeN; rw [h2]; show m.size k = _; unfold Md.size; rw [if_pos h1.2.2]
theorem sizeN_dev {m : Md} {n : ByteArray} {k : Nat} (h : m.dev n = some k) : m.sizeN n = tsize (m.at k).live := by
  obtain ⟨h1, h2⟩ := Md.dev_is h
  unfold Md.sizeN; rw [h2]; show m.size k = _; unfold Md.size; rw [if_neg (by simp [h1.2.2])]
theorem c_size {W : World} {b : Nat} {c : MH} {m : Md} {n : ByteArray} (hn : (m.find n).isSome = true) :
    CSpec Try.prog W 58 [ptr b 0, .string n] [blk b 79 (mCells c m), MapR c m] (fun _ : Unit => .int .i64 (m.sizeN n)) (fun _ => True) (fun _ F => blk b 79 (mCells c m) :: MapR c m :: F) := by
 refine CSpec.of_body Try.func58 rfl Try.ntmps58 rfl fun F => ?_
 show CJ _ _ _ _ _ _ (_ :: _ :: F)
 refine CJ_pure (MapR_wf foc1) fun hW => ?_
 have hO := hW.ok
 have hlen := hW.big.len
 have hns := Md.names_len (m := m)
 refine sR <| oA rfl rfl <| nT <| CJ_seq <| sR <| oM rfl rfl <| oP (P_nilCheck rfl) rfl <| oP (P_fieldAddr rfl ⟨_, _, _, Try.runUnderlying79, rfl, rfl, Try.sizeOf76, rfl⟩) rfl <| oV (V_load rfl foc0 rfl Try.isAgg76) rfl <| oM rfl rfl <| oO (O_lookB rfl rfl foc1 rfl (fun hd2 => ?_) (fun k1 hd2 => ?_))
 ·
  refine oM rfl rfl <| oP (P_extract rfl rfl) rfl <| oP (P_extract rfl rfl) rfl <| oA rfl rfl <| oA rfl rfl <| nT <| sR <| oM rfl rfl <| nT <| CJ_condF rfl rfl <| kT <| sR <| oM rfl rfl <| oP (P_nilCheck rfl) rfl <| oP (P_fieldAddr rfl ⟨_, _, _, Try.runUnderlying79, rfl, rfl, Try.sizeOf77, rfl⟩) rfl <| oV (V_load rfl foc0 rfl Try.isAgg77) rfl <| oM rfl rfl <| oO (O_lookD rfl rfl foc1 rfl (fun hd4 => ?_) (fun k3 hd4 => ?_))
  ·
   exfalso; rw [bas_none hd2, hd4] at hn; cases hn
  ·
   refine oP (P_nilCheck rfl) rfl <| oP (P_fieldAddr rfl ⟨_, _, _, Try.runUnderlying75, rfl, rfl, Try.sizeOf34, rfl⟩) rfl <| oV (VJ_ent (Ent.trans (t1_ eR) (MapR_dev (Md.dev_is hd4).1)) (V_load rfl foc0 rfl Try.isAgg34)) rfl <| oO <| O_call (L_table_Size (rdLive (Md.dev_is hd4).1) size_eq) rfl Try.call37 (Dels.cons del1 Dels.nil) rfl fun _ hc5 => oA rfl rfl <| nT <| CJ_ret <| QJ_end (res1 Try.results58 rfl) <| CSpec.close () ?_ ?_ (t1_ (t0_ eR))
   · exact iv (sizeN_dev hd4).symm
   · trivial
 ·
  refine oM rfl rfl <| oP (P_extract rfl rfl) rfl <| oP (P_extract rfl rfl) rfl <| oA rfl rfl <| oA rfl rfl <| nT <| sR <| oM rfl rfl <| nT <| CJ_condT rfl rfl <| sR <| oM rfl rfl <| oO <| O_callI rfl (c_baseSize (Md.bas_is hd2).1) rfl (Dels.cons del1 Dels.nil) rfl fun _ hc6 => oA rfl rfl <| nT <| CJ_ret <| QJ_then_ret <| QJ_end (res1 Try.results58 rfl) <| CSpec.close () ?_ ?_ (t1_ (t0_ eR))
  · exact iv (sizeN_bas hd2).symm
  · trivial
end Go.Proofs
