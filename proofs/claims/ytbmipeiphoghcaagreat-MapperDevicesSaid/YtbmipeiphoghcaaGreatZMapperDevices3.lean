/- MapperDevices, part 3 of the proof: LTab, LRef22, LMapT, PMapS, PMapT, PMapT2, PMapT3, PMapW, VgRm, LSpan, LMake, PMake, PSpans, PGood, PGood2, PArr, CMap0. -/
import Derived.WalkKit
import Derived.Orders
import Derived.RangeFuncLeaves
import Derived.RangeFuncCalls
import Derived.TacticsIn
import Derived.Handy
import Derived.OrdersHeld
import Derived.OrdersIn
import Derived.Below
import Derived.OpenShut
import Derived.Deep.Slices
import Derived.Scope
import Derived.RangeFuncRecord
import Derived.ChangeKeysEq
import Derived.Laws.BytesArg
import Derived.KernelRfl
import Derived.Maps.RangeRun
import Derived.LaidEql
import Derived.ProofKit
import Derived.ShutString
import Derived.ChangeOld
import Derived.Test.YtbmipeiphoghcaaGreatChecked
import Derived.Test.YtbmipeiphoghcaaGreatRows
import Derived.Test.YtbmipeiphoghcaaGreatZMapperDevices2
set_option linter.unusedSimpArgs false
set_option linter.unusedVariables false
set_option maxRecDepth 20000
set_option maxHeartbeats 4000000
namespace Go.Proofs
open Go.VG
@[ext] structure api_Target where
  Start : Int
  Length : Int
  On : ByteArray
  Offset : Int
  Fail : Bool
  deriving DecidableEq
abbrev tyapi_Target : Ty api_Target := { T := 37, sz := 5, enc := fun x => [.int .i64 x.Start, .int .i64 x.Length, .string x.On, .int .i64 x.Offset, .bool x.Fail], dflt := ⟨0, 0, ByteArray.empty, 0, false⟩, len := fun _ => rfl, one := fun _ => rfl, pos := by decide }
theorem zdw : ElemOk Tryz.prog tyapi_Target 48 := ⟨Tryz.t37, .agg #[.int .i64 0, .int .i64 0, .string ByteArray.empty, .int .i64 0, .bool false], by kernel_rfl, rfl, rfl, rfl, rfl⟩
theorem zoe (v0 : ByteArray) : zby Tryz.prog 59 1 [(0, .string v0)] 9 [.string v0] := fun w => by kernel_rfl
def ze9 (l : List api_Target) (rec : Nat → Int → Option ((Unit) ⊕ Int)) (x6 : Nat) (x7 : Int) : Option ((Unit) ⊕ Int) :=
  if (((x6 : Nat) : Int) < ((l.length : Nat) : Int)) then
    if (((l.getD x6 (⟨0, 0, ByteArray.empty, 0, false⟩ : api_Target))).Start ≠ x7) then
      some (.inr (2 : Int))
    else
      if ((((l.getD x6 (⟨0, 0, ByteArray.empty, 0, false⟩ : api_Target))).Length < (1 : Int)) ∨ ((16777216 : Int) < ((l.getD x6 (⟨0, 0, ByteArray.empty, 0, false⟩ : api_Target))).Length)) then
        some (.inr (1 : Int))
      else
        if ((((l.getD x6 (⟨0, 0, ByteArray.empty, 0, false⟩ : api_Target))).Fail = true ∧ (((l.getD x6 (⟨0, 0, ByteArray.empty, 0, false⟩ : api_Target))).On ≠ (ByteArray.mk #[]))) ∨ ((((l.getD x6 (⟨0, 0, ByteArray.empty, 0, false⟩ : api_Target))).On = (ByteArray.mk #[])) ∧ (((l.getD x6 (⟨0, 0, ByteArray.empty, 0, false⟩ : api_Target))).Offset ≠ (0 : Int)))) then
          some (.inr (2 : Int))
        else
          if ((((l.getD x6 (⟨0, 0, ByteArray.empty, 0, false⟩ : api_Target))).Offset < (0 : Int)) ∨ (((16777216 : Int) - ((l.getD x6 (⟨0, 0, ByteArray.empty, 0, false⟩ : api_Target))).Length) < ((l.getD x6 (⟨0, 0, ByteArray.empty, 0, false⟩ : api_Target))).Offset)) then
            some (.inr (1 : Int))
          else
            grd (inI64 ((x7 + ((l.getD x6 (⟨0, 0, ByteArray.empty, 0, false⟩ : api_Target))).Length))) <|
            rec (x6 + 1) ((x7 + ((l.getD x6 (⟨0, 0, ByteArray.empty, 0, false⟩ : api_Target))).Length))
  else
    some (.inl ())
def zd9 (l : List api_Target) : Nat → Nat → Int → Option ((Unit) ⊕ Int)
  | 0, _, _ => none
  | n + 1, x6, x7 => ze9 l (zd9 l n) x6 x7
def zfk (l : List api_Target) : Option (Int) :=
  if ((64 : Int) < ((l.length : Nat) : Int)) then
    some (4 : Int)
  else
    seqO (zd9 l FUEL 0 (0 : Int)) fun a5 =>
    some (0 : Int)
theorem zhc {W : World} {Al : HP} {vl : Value} {l : List api_Target} {r : Int} (rl : Reads Al tyapi_Target vl l) (h : zfk l = some r) :
    CSpec Tryz.prog W 68 [vl] [Al] (fun x : Unit => .int .i64 r) (fun _ => True) (fun x F => Al :: F) := by
 refine CSpec.of_body Tryz.func68 rfl Tryz.ntmps68 rfl fun F => ?_
 show CJ _ _ _ _ _ _ (_ :: F)
 unfold zfk at h
 refine zbl (zdm rl del0) fun hlen1 => sR <| oA rfl rfl <| nT <| zaf <| sR <| oM rfl rfl <| oV (V_len rfl foc0 rl Tryz.runUnderlying30) rfl <| oP (P_gtr (a := ((l.length : Nat) : Int)) (b := (64 : Int)) rfl rfl) rfl <| nT <| zbx rfl zaz (fun hg1 => ?_) (fun hg1 => ?_)
 ·
  replace h := ite_t hg1 h
  refine sR <| oA rfl rfl <| nT <| zai <| zad ?_
  cases h
  exact fE (res1 Tryz.results68 rfl) () eR
 ·
  replace h := ite_f hg1 h
  refine kT <| sR <| oA rfl rfl <| nT <| zaf <| sR <| oM rfl rfl <| oV (V_len rfl foc0 rl Tryz.runUnderlying30) rfl <| oM rfl rfl <| nT ?_
  obtain ⟨y4, hl2, hK3⟩ := seq_e h
  refine zd8 (X := Unit) [2, 3, 5, 11, 12, 13, 14, 15, 16, 17, 18, 19, 20, 21, 22, 23, 24, 25, 26, 27, 28, 29, 30, 31, 32, 33, 34, 35, 36, 37, 38, 39, 40, 41, 42, 43, 44, 45, 46, 47, 48, 49, 50, 51, 52, 53, 54, 55, 56, 57, 58, 59, 60, 61, 62, 63] (fun _ => ([] : Slots)) (fun _ R => R) (fun _ => y4 = .inl ()) Dels.nil ?_ ?_
  ·
   refine zat <| zbs (X := Nat × Nat × Int) [2, 3, 5, 11, 12, 13, 14, 15, 16, 17, 18, 19, 20, 21, 22, 23, 24, 25, 26, 27, 28, 29, 30, 31, 32, 33, 34, 35, 36, 37, 38, 39, 40, 41, 42, 43, 44, 45, 46, 47, 48, 49, 50, 51, 52, 53, 54, 55, 56, 57, 58, 59, 60, 61, 62, 63] (fun ⟨n, x6, x7⟩ => ([(3, .int .i64 x7), (11, .int .i64 (((x6 : Nat) : Int)))] : Slots)) (fun ⟨n, x6, x7⟩ R => R) (fun ⟨n, x6, x7⟩ => zd9 l n x6 x7 = some y4) (fun ⟨n, x6, x7⟩ => n) ⟨FUEL, 0, (0 : Int)⟩ ?_ ?_ eR ?_
   · exact hl2
   · exact ⟨rfl, rfl, True.intro⟩
   ·
    rintro ⟨n, x6, x7⟩ h
    cases n with
    | zero => exact zew h
    | succ n => ?_
    replace h : ze9 l (zd9 l n) x6 x7 = some y4 := h
    unfold ze9 at h
    show CJ _ _ _ _ _ (([(3, .int .i64 x7), (11, .int .i64 (((x6 : Nat) : Int)))] : Slots) ++ forget _ _) (_)
    refine sR <| oP (P_lss (a := ((x6 : Nat) : Int)) (b := ((l.length : Nat) : Int)) rfl rfl) rfl <| nT <| zaf <| zbx rfl zaz (fun hg2 => ?_) (fun hg2 => ?_)
    ·
     replace h := ite_t hg2 h
     refine kT <| zaf <| zat <| sR <| oV (zan (i := x6) rfl rfl rfl (by omega) foc0 rl Tryz.runUnderlying30 Tryz.sizeOf37) rfl <| oV (zcd rfl rfl (by omega) foc0 rl rfl rfl Tryz.isAgg37 Tryz.sizeOf37) rfl <| oO <| zb1 Tryz.zeroValue37 rfl rfl fun b8 => oO <| zbn rfl rfl foc0 Tryz.sizeOf37 rfl rfl rfl <| nT <| zaf <| zat <| sR <| oP (zaa rfl ⟨_, _, _, Tryz.runUnderlying37, rfl, rfl, Tryz.sizeOf3, rfl⟩) rfl <| oV (zah rfl foc0 rfl Tryz.isAgg3) rfl <| oM rfl rfl <| oP (P_neq (a := ((l.getD x6 (⟨0, 0, ByteArray.empty, 0, false⟩ : api_Target))).Start) (b := x7) rfl rfl) rfl <| oA rfl rfl <| nT <| zbx rfl zaz (fun hg3 => ?_) (fun hg3 => ?_)
     ·
      replace h := ite_t hg3 h
      refine sR <| oA rfl rfl <| nT <| zai <| zaj <| zad <| zaj <| zad <| zbd <| zaj <| zad ?_
      have hE := Option.some.inj h
      replace hE := zee hK3 hE.symm
      subst hE
      exact fE (res1 Tryz.results68 rfl) () (t1_ (eD eR))
     ·
      replace h := ite_f hg3 h
      refine sR <| oP (zaa rfl ⟨_, _, _, Tryz.runUnderlying37, rfl, rfl, Tryz.sizeOf3, rfl⟩) rfl <| oV (zah rfl foc0 rfl Tryz.isAgg3) rfl <| oP (P_lss (a := ((l.getD x6 (⟨0, 0, ByteArray.empty, 0, false⟩ : api_Target))).Length) (b := (1 : Int)) rfl rfl) rfl <| oM rfl rfl <| zb6 rfl rfl rfl (fun hG9 => have hP10 : ¬ (((l.getD x6 (⟨0, 0, ByteArray.empty, 0, false⟩ : api_Target))).Length < (1 : Int)) := nP (zaz) hG9; VJ_P (zaa rfl ⟨_, _, _, Tryz.runUnderlying37, rfl, rfl, Tryz.sizeOf3, rfl⟩)) <| zb6 rfl rfl rfl (fun hG11 => have hP12 : ¬ (((l.getD x6 (⟨0, 0, ByteArray.empty, 0, false⟩ : api_Target))).Length < (1 : Int)) := nP (zaz) hG11; zah (mbx hG11 rfl) foc0 rfl Tryz.isAgg3) <| zb6 rfl rfl rfl (fun hG13 => have hP14 : ¬ (((l.getD x6 (⟨0, 0, ByteArray.empty, 0, false⟩ : api_Target))).Length < (1 : Int)) := nP (zaz) hG13; VJ_P (P_gtr (a := ((l.getD x6 (⟨0, 0, ByteArray.empty, 0, false⟩ : api_Target))).Length) (b := (16777216 : Int)) (mbx hG13 rfl) rfl)) <| oP (zeo rfl rfl (fun hh => mbx (not_f hh) rfl)) rfl <| oA rfl rfl <| nT <| zbx rfl (bT_or zaz zaz) (fun hg4 => ?_) (fun hg4 => ?_)
      ·
       replace h := ite_t hg4 h
       refine sR <| oA rfl rfl <| nT <| zai <| zaj <| zad <| zaj <| zad <| zbd <| zaj <| zad ?_
       have hE := Option.some.inj h
       replace hE := zee hK3 hE.symm
       subst hE
       exact fE (res1 Tryz.results68 rfl) () (t1_ (eD eR))
      ·
       replace h := ite_f hg4 h
       refine sR <| oP (zaa rfl ⟨_, _, _, Tryz.runUnderlying37, rfl, rfl, Tryz.sizeOf4, rfl⟩) rfl <| oV (zah rfl foc0 rfl Tryz.isAgg4) rfl <| oM rfl rfl <| zc3 rfl rfl rfl (fun hG15 => have hP16 : ((l.getD x6 (⟨0, 0, ByteArray.empty, 0, false⟩ : api_Target))).Fail = true := (Iff.rfl).1 hG15; VJ_P (zaa rfl ⟨_, _, _, Tryz.runUnderlying37, rfl, rfl, Tryz.sizeOf9, rfl⟩)) <| zc3 rfl rfl rfl (fun hG17 => have hP18 : ((l.getD x6 (⟨0, 0, ByteArray.empty, 0, false⟩ : api_Target))).Fail = true := (Iff.rfl).1 hG17; zah (mbx hG17 rfl) foc0 rfl Tryz.isAgg9) <| zc3 rfl rfl rfl (fun hG19 => have hP20 : ((l.getD x6 (⟨0, 0, ByteArray.empty, 0, false⟩ : api_Target))).Fail = true := (Iff.rfl).1 hG19; VJ_P (ze8 (a := ((l.getD x6 (⟨0, 0, ByteArray.empty, 0, false⟩ : api_Target))).On) (b := (ByteArray.mk #[])) (mbx hG19 rfl) rfl Tryz.underlying9)) <| oP (zej rfl (fun hh => mbx hh rfl) rfl) rfl <| oM rfl rfl <| zb6 rfl rfl rfl (fun hG21 => have hP22 : ¬ (((l.getD x6 (⟨0, 0, ByteArray.empty, 0, false⟩ : api_Target))).Fail = true ∧ (((l.getD x6 (⟨0, 0, ByteArray.empty, 0, false⟩ : api_Target))).On ≠ (ByteArray.mk #[]))) := nP ((zb8 Iff.rfl zaz)) hG21; VJ_P (zaa rfl ⟨_, _, _, Tryz.runUnderlying37, rfl, rfl, Tryz.sizeOf9, rfl⟩)) ?_
       refine zb6 rfl rfl rfl (fun hG23 => have hP24 : ¬ (((l.getD x6 (⟨0, 0, ByteArray.empty, 0, false⟩ : api_Target))).Fail = true ∧ (((l.getD x6 (⟨0, 0, ByteArray.empty, 0, false⟩ : api_Target))).On ≠ (ByteArray.mk #[]))) := nP ((zb8 Iff.rfl zaz)) hG23; zah (mbx hG23 rfl) foc0 rfl Tryz.isAgg9) <| zb6 rfl rfl rfl (fun hG25 => have hP26 : ¬ (((l.getD x6 (⟨0, 0, ByteArray.empty, 0, false⟩ : api_Target))).Fail = true ∧ (((l.getD x6 (⟨0, 0, ByteArray.empty, 0, false⟩ : api_Target))).On ≠ (ByteArray.mk #[]))) := nP ((zb8 Iff.rfl zaz)) hG25; VJ_P (zcx (a := ((l.getD x6 (⟨0, 0, ByteArray.empty, 0, false⟩ : api_Target))).On) (b := (ByteArray.mk #[])) (mbx hG25 rfl) rfl Tryz.underlying9)) <| zb6 rfl rfl rfl (fun hG27 => have hP28 : ¬ (((l.getD x6 (⟨0, 0, ByteArray.empty, 0, false⟩ : api_Target))).Fail = true ∧ (((l.getD x6 (⟨0, 0, ByteArray.empty, 0, false⟩ : api_Target))).On ≠ (ByteArray.mk #[]))) := nP ((zb8 Iff.rfl zaz)) hG27; VJ_P (zag (mbx hG27 rfl))) <| zh0 rfl rfl rfl (fun hG29 => have hP30 : ¬ (((l.getD x6 (⟨0, 0, ByteArray.empty, 0, false⟩ : api_Target))).Fail = true ∧ (((l.getD x6 (⟨0, 0, ByteArray.empty, 0, false⟩ : api_Target))).On ≠ (ByteArray.mk #[]))) := nP ((zb8 Iff.rfl zaz)) (and_l hG29); have hP31 : (((l.getD x6 (⟨0, 0, ByteArray.empty, 0, false⟩ : api_Target))).On = (ByteArray.mk #[])) := (zaz).1 (and_r hG29); VJ_P (zaa rfl ⟨_, _, _, Tryz.runUnderlying37, rfl, rfl, Tryz.sizeOf3, rfl⟩)) ?_
       refine zh0 rfl rfl rfl (fun hG32 => have hP33 : ¬ (((l.getD x6 (⟨0, 0, ByteArray.empty, 0, false⟩ : api_Target))).Fail = true ∧ (((l.getD x6 (⟨0, 0, ByteArray.empty, 0, false⟩ : api_Target))).On ≠ (ByteArray.mk #[]))) := nP ((zb8 Iff.rfl zaz)) (and_l hG32); have hP34 : (((l.getD x6 (⟨0, 0, ByteArray.empty, 0, false⟩ : api_Target))).On = (ByteArray.mk #[])) := (zaz).1 (and_r hG32); zah (mbx hG32 rfl) foc0 rfl Tryz.isAgg3) <| zh0 rfl rfl rfl (fun hG35 => have hP36 : ¬ (((l.getD x6 (⟨0, 0, ByteArray.empty, 0, false⟩ : api_Target))).Fail = true ∧ (((l.getD x6 (⟨0, 0, ByteArray.empty, 0, false⟩ : api_Target))).On ≠ (ByteArray.mk #[]))) := nP ((zb8 Iff.rfl zaz)) (and_l hG35); have hP37 : (((l.getD x6 (⟨0, 0, ByteArray.empty, 0, false⟩ : api_Target))).On = (ByteArray.mk #[])) := (zaz).1 (and_r hG35); VJ_P (P_neq (a := ((l.getD x6 (⟨0, 0, ByteArray.empty, 0, false⟩ : api_Target))).Offset) (b := (0 : Int)) (mbx hG35 rfl) rfl)) <| zb6 rfl rfl rfl (fun hG38 => have hP39 : ¬ (((l.getD x6 (⟨0, 0, ByteArray.empty, 0, false⟩ : api_Target))).Fail = true ∧ (((l.getD x6 (⟨0, 0, ByteArray.empty, 0, false⟩ : api_Target))).On ≠ (ByteArray.mk #[]))) := nP ((zb8 Iff.rfl zaz)) hG38; VJ_P (zej (mbx hG38 rfl) (fun hh => mbx (and_i hG38 hh) rfl) rfl)) <| oP (zeo rfl rfl (fun hh => mbx (not_f hh) rfl)) rfl <| oA rfl rfl <| nT <| zbx rfl (bT_or (zb8 Iff.rfl zaz) (zb8 zaz zaz)) (fun hg5 => ?_) (fun hg5 => ?_)
       ·
        replace h := ite_t hg5 h
        refine sR <| oA rfl rfl <| nT <| zai <| zaj <| zad <| zaj <| zad <| zbd <| zaj <| zad ?_
        have hE := Option.some.inj h
        replace hE := zee hK3 hE.symm
        subst hE
        exact fE (res1 Tryz.results68 rfl) () (t1_ (eD eR))
       ·
        replace h := ite_f hg5 h
        refine sR <| oP (zaa rfl ⟨_, _, _, Tryz.runUnderlying37, rfl, rfl, Tryz.sizeOf3, rfl⟩) rfl <| oV (zah rfl foc0 rfl Tryz.isAgg3) rfl <| oP (P_lss (a := ((l.getD x6 (⟨0, 0, ByteArray.empty, 0, false⟩ : api_Target))).Offset) (b := (0 : Int)) rfl rfl) rfl <| oM rfl rfl <| zb6 rfl rfl rfl (fun hG40 => have hP41 : ¬ (((l.getD x6 (⟨0, 0, ByteArray.empty, 0, false⟩ : api_Target))).Offset < (0 : Int)) := nP (zaz) hG40; VJ_P (zaa rfl ⟨_, _, _, Tryz.runUnderlying37, rfl, rfl, Tryz.sizeOf3, rfl⟩)) <| zb6 rfl rfl rfl (fun hG42 => have hP43 : ¬ (((l.getD x6 (⟨0, 0, ByteArray.empty, 0, false⟩ : api_Target))).Offset < (0 : Int)) := nP (zaz) hG42; zah (mbx hG42 rfl) foc0 rfl Tryz.isAgg3) <| zb6 rfl rfl rfl (fun hG44 => have hP45 : ¬ (((l.getD x6 (⟨0, 0, ByteArray.empty, 0, false⟩ : api_Target))).Offset < (0 : Int)) := nP (zaz) hG44; VJ_P (zaa rfl ⟨_, _, _, Tryz.runUnderlying37, rfl, rfl, Tryz.sizeOf3, rfl⟩)) <| zb6 rfl rfl rfl (fun hG46 => have hP47 : ¬ (((l.getD x6 (⟨0, 0, ByteArray.empty, 0, false⟩ : api_Target))).Offset < (0 : Int)) := nP (zaz) hG46; zah (mbx hG46 rfl) foc0 rfl Tryz.isAgg3) <| zb6 rfl rfl rfl (fun hG48 => have hP49 : ¬ (((l.getD x6 (⟨0, 0, ByteArray.empty, 0, false⟩ : api_Target))).Offset < (0 : Int)) := nP (zaz) hG48; VJ_P (P_sub (a := (16777216 : Int)) (b := ((l.getD x6 (⟨0, 0, ByteArray.empty, 0, false⟩ : api_Target))).Length) rfl (mbx hG48 rfl) (by omega))) ?_
        refine zb6 rfl rfl rfl (fun hG50 => have hP51 : ¬ (((l.getD x6 (⟨0, 0, ByteArray.empty, 0, false⟩ : api_Target))).Offset < (0 : Int)) := nP (zaz) hG50; VJ_P (P_gtr (a := ((l.getD x6 (⟨0, 0, ByteArray.empty, 0, false⟩ : api_Target))).Offset) (b := ((16777216 : Int) - ((l.getD x6 (⟨0, 0, ByteArray.empty, 0, false⟩ : api_Target))).Length)) (mbx hG50 rfl) (mbx hG50 rfl))) <| oP (zeo rfl rfl (fun hh => mbx (not_f hh) rfl)) rfl <| oA rfl rfl <| nT <| zbx rfl (bT_or zaz zaz) (fun hg6 => ?_) (fun hg6 => ?_)
        ·
         replace h := ite_t hg6 h
         refine sR <| oA rfl rfl <| nT <| zai <| zaj <| zad <| zaj <| zad <| zbd <| zaj <| zad ?_
         have hE := Option.some.inj h
         replace hE := zee hK3 hE.symm
         subst hE
         exact fE (res1 Tryz.results68 rfl) () (t1_ (eD eR))
        ·
         replace h := ite_f hg6 h
         refine zbk <| zal <| zav <| zak <| oM rfl rfl <| oP (zaa rfl ⟨_, _, _, Tryz.runUnderlying37, rfl, rfl, Tryz.sizeOf3, rfl⟩) rfl <| oV (zah rfl foc0 rfl Tryz.isAgg3) rfl ?_
         obtain ⟨hg7, h⟩ := zd1 h
         exact oP (P_add (a := x7) (b := ((l.getD x6 (⟨0, 0, ByteArray.empty, 0, false⟩ : api_Target))).Length) rfl rfl hg7) rfl <| oA rfl rfl <| za9 <| zal <| zav <| zak <| oP (PJ_eq (P_add (a := ((x6 : Nat) : Int)) (b := (1 : Int)) rfl rfl (by omega)) rfl) rfl <| oM rfl rfl <| za9 <| nR ⟨n, (x6 + 1), (x7 + ((l.getD x6 (⟨0, 0, ByteArray.empty, 0, false⟩ : api_Target))).Length)⟩ h ⟨rfl, rfl, True.intro⟩ (t1_ (eD eR))
    ·
     replace h := ite_f hg2 h
     exact zbt <| za6 <| za7 <| za1 <| cR () (Option.some.inj h).symm True.intro eR
  ·
   rintro _ hy52
   replace h := zhz hK3 hy52
   show CJ _ _ _ _ _ (([] : Slots) ++ forget _ _) (_)
   refine sR <| oA rfl rfl <| nT <| zai ?_
   cases h
   exact fE (res1 Tryz.results68 rfl) () eR
def zdg (p0 : List ByteArray) (p1 : ByteArray) (rec : Nat → Option ((Unit) ⊕ Int)) (x6 : Nat) : Option ((Unit) ⊕ Int) :=
  if (((x6 : Nat) : Int) < ((p0.length : Nat) : Int)) then
    if (p1 = (p0.getD x6 ByteArray.empty)) then
      some (.inr (((x6 : Nat) : Int)))
    else
      rec (x6 + 1)
  else
    some (.inl ())
def zcq (p0 : List ByteArray) (p1 : ByteArray) : Nat → Nat → Option ((Unit) ⊕ Int)
  | 0, _ => none
  | n + 1, x6 => zdg p0 p1 (zcq p0 p1 n) x6
def zdn (p0 : List ByteArray) (p1 : ByteArray) : Option (Int) :=
  seqO (zcq p0 p1 FUEL 0) fun a5 =>
  some (-1 : Int)
theorem zi0 {W : World} {Ap0 : HP} {vp0 : Value} {p0 : List ByteArray} {p1 : ByteArray} {r : Int} (rp0 : Reads Ap0 tyS vp0 p0) (h : zdn p0 p1 = some r) :
    CSpec Tryz.prog W 64 [vp0, .string p1] [Ap0] (fun x : Unit => .int .i64 r) (fun _ => True) (fun x F => Ap0 :: F) := by
 refine CSpec.of_body Tryz.func64 rfl Tryz.ntmps64 rfl fun F => ?_
 show CJ _ _ _ _ _ _ (_ :: F)
 unfold zdn at h
 refine zbl (zdm rp0 del0) fun hlen1 => sR <| oA rfl rfl <| nT <| zaf <| sR <| oM rfl rfl <| oV (V_len rfl foc0 rp0 Tryz.runUnderlying59) rfl <| oM rfl rfl <| nT ?_
 obtain ⟨y4, hl2, hK3⟩ := seq_e h
 refine zd8 (X := Unit) [4, 5, 8, 9, 10, 11, 12, 13, 14, 15, 16, 17, 18] (fun _ => ([] : Slots)) (fun _ R => R) (fun _ => y4 = .inl ()) Dels.nil ?_ ?_
 ·
  refine zat <| zbs (X := Nat × Nat) [4, 5, 8, 9, 10, 11, 12, 13, 14, 15, 16, 17, 18] (fun ⟨n, x6⟩ => ([(8, .int .i64 (((x6 : Nat) : Int)))] : Slots)) (fun ⟨n, x6⟩ R => R) (fun ⟨n, x6⟩ => zcq p0 p1 n x6 = some y4) (fun ⟨n, x6⟩ => n) ⟨FUEL, 0⟩ ?_ ?_ eR ?_
  · exact hl2
  · exact ⟨rfl, True.intro⟩
  ·
   rintro ⟨n, x6⟩ h
   cases n with
   | zero => exact zew h
   | succ n => ?_
   replace h : zdg p0 p1 (zcq p0 p1 n) x6 = some y4 := h
   unfold zdg at h
   show CJ _ _ _ _ _ (([(8, .int .i64 (((x6 : Nat) : Int)))] : Slots) ++ forget _ _) (_)
   refine sR <| oP (P_lss (a := ((x6 : Nat) : Int)) (b := ((p0.length : Nat) : Int)) rfl rfl) rfl <| nT <| zaf <| zbx rfl zaz (fun hg1 => ?_) (fun hg1 => ?_)
   ·
    replace h := ite_t hg1 h
    refine kT <| zaf <| zat <| sR <| oM rfl rfl <| oA rfl rfl <| nT <| sR <| oM rfl rfl <| oM rfl rfl <| oM rfl rfl <| oV (zan (i := x6) rfl rfl rfl (by omega) foc0 rp0 Tryz.runUnderlying59 Tryz.sizeOf9) rfl <| oV (za3 rfl rfl (by omega) foc0 rp0 rfl rfl Tryz.isAgg9) rfl <| oP (zcx (a := p1) (b := (p0.getD x6 ByteArray.empty)) rfl rfl Tryz.underlying9) rfl <| nT <| zbx rfl zaz (fun hg2 => ?_) (fun hg2 => ?_)
    ·
     replace h := ite_t hg2 h
     refine sR <| oM rfl rfl <| oA rfl rfl <| nT <| zai <| zaj <| zad <| zbd <| zaj <| zad ?_
     have hE := Option.some.inj h
     replace hE := zee hK3 hE.symm
     subst hE
     exact fE (res1 Tryz.results64 rfl) () eR
    ·
     replace h := ite_f hg2 h
     exact zbk <| zal <| zav <| zak <| oP (PJ_eq (P_add (a := ((x6 : Nat) : Int)) (b := (1 : Int)) rfl rfl (by omega)) rfl) rfl <| oM rfl rfl <| za9 <| nR ⟨n, (x6 + 1)⟩ h ⟨rfl, True.intro⟩ eR
   ·
    replace h := ite_f hg1 h
    exact zbt <| za6 <| za7 <| za1 <| cR () (Option.some.inj h).symm True.intro eR
 ·
  rintro _ hy7
  replace h := zhz hK3 hy7
  show CJ _ _ _ _ _ (([] : Slots) ++ forget _ _) (_)
  refine sR <| oA rfl rfl <| nT <| zai ?_
  cases h
  exact fE (res1 Tryz.results64 rfl) () eR
def zc4 (p0 : List ByteArray) (p1 : ByteArray) : Option (Bool) :=
  Option.bind (zdn p0 p1) fun r2 =>
  some ((decide ((0 : Int) ≤ r2)))
theorem zch {W : World} {Ap0 : HP} {vp0 : Value} {p0 : List ByteArray} {p1 : ByteArray} {r : Bool} (rp0 : Reads Ap0 tyS vp0 p0) (h : zc4 p0 p1 = some r) :
    CSpec Tryz.prog W 56 [vp0, .string p1] [Ap0] (fun x : Unit => .bool r) (fun _ => True) (fun x F => Ap0 :: F) := by
 refine CSpec.of_body Tryz.func56 rfl Tryz.ntmps56 rfl fun F => ?_
 show CJ _ _ _ _ _ _ (_ :: F)
 unfold zc4 at h
 refine zbl (zdm rp0 del0) fun hlen1 => sR <| oA rfl rfl <| nT <| sR <| oM rfl rfl <| oM rfl rfl ?_
 obtain ⟨r2, hr3, h⟩ := zdl h
 refine oO <| zaq (zi0 rp0 hr3) rfl Tryz.call64 (Dels.cons del0 Dels.nil) rfl fun _ _ => oP (P_geq (a := r2) (b := (0 : Int)) rfl rfl) rfl <| oA rfl rfl <| nT <| zai ?_
 cases h
 exact fE (res1 Tryz.results56 rfl) () eR
def zfo (l : List api_Target) (rec : (List ByteArray) → Nat → Option ((List ByteArray))) (x9 : List ByteArray) (x11 : Nat) : Option ((List ByteArray)) :=
  if (((x11 : Nat) : Int) < ((l.length : Nat) : Int)) then
    if (((l.getD x11 (⟨0, 0, ByteArray.empty, 0, false⟩ : api_Target))).On ≠ (ByteArray.mk #[])) then
      Option.bind (zc4 x9 (((l.getD x11 (⟨0, 0, ByteArray.empty, 0, false⟩ : api_Target))).On)) fun r14 =>
      if (¬ r14 = true) then
        grd (inLen (x9.length + 1)) <|
        rec ((x9 ++ [((l.getD x11 (⟨0, 0, ByteArray.empty, 0, false⟩ : api_Target))).On])) (x11 + 1)
      else
        rec x9 (x11 + 1)
    else
      rec x9 (x11 + 1)
  else
    some x9
def zeh (l : List api_Target) : Nat → (List ByteArray) → Nat → Option ((List ByteArray))
  | 0, _, _ => none
  | n + 1, x9, x11 => zfo l (zeh l n) x9 x11
def zhr (l : List api_Target) : Option ((List ByteArray)) :=
  Option.bind (zeh l FUEL ([]) 0) fun a8 =>
  some a8
theorem zfq {W : World} {Al : HP} {vl : Value} {l : List api_Target} {r : (List ByteArray)} (rl : Reads Al tyapi_Target vl l) (h : zhr l = some r) :
    CSpec Tryz.prog W 69 [vl] [Al] (fun x : Sl3 => x.v) (fun _ => True) (fun x F => Al :: sl tyS x.v r :: F) := by
 refine CSpec.of_body Tryz.func69 rfl Tryz.ntmps69 rfl fun F => ?_
 show CJ _ _ _ _ _ _ (_ :: F)
 unfold zhr at h
 refine zbl (zdm rl del0) fun hlen1 => sR <| oA rfl rfl <| nT <| sR <| oA rfl rfl <| nT <| zaf <| sR <| oM rfl rfl <| oV (V_len rfl foc0 rl Tryz.runUnderlying30) rfl <| oM rfl rfl <| nT <| zbf (fun h hh => zb2 (t := tyS) h hh) ?_
 obtain ⟨y5, hl3, hK4⟩ := zia h
 refine zd8 (X := (List ByteArray) × Sl3) [3, 5, 8, 9, 10, 11, 12, 13, 14, 15, 16, 17, 18, 19, 20, 21, 22, 23, 24, 25, 26, 27] (fun ⟨a8, hd7⟩ => ([(3, hd7.v)] : Slots)) (fun ⟨a8, hd7⟩ R => sl tyS hd7.v a8 :: R) (fun ⟨a8, hd7⟩ => y5 = a8) (Dels.cons del0 Dels.nil) ?_ ?_
 ·
  refine zat <| zbs (X := Nat × (List ByteArray) × Nat × Sl3) [3, 5, 8, 9, 10, 11, 12, 13, 14, 15, 16, 17, 18, 19, 20, 21, 22, 23, 24, 25, 26, 27] (fun ⟨n, x9, x11, hd10⟩ => ([(3, hd10.v), (8, .int .i64 (((x11 : Nat) : Int)))] : Slots)) (fun ⟨n, x9, x11, hd10⟩ R => sl tyS hd10.v x9 :: R) (fun ⟨n, x9, x11, hd10⟩ => zeh l n x9 x11 = some y5) (fun ⟨n, x9, x11, hd10⟩ => n) ⟨FUEL, [], 0, ⟨none, 0, 0⟩⟩ ?_ ?_ eR ?_
  · exact hl3
  · exact ⟨rfl, rfl, True.intro⟩
  ·
   rintro ⟨n, x9, x11, hd10⟩ h
   cases n with
   | zero => exact zew h
   | succ n => ?_
   replace h : zfo l (zeh l n) x9 x11 = some y5 := h
   unfold zfo at h
   show CJ _ _ _ _ _ (([(3, hd10.v), (8, .int .i64 (((x11 : Nat) : Int)))] : Slots) ++ forget _ _) (sl tyS hd10.v x9 :: _)
   refine lC del0 fun hlen12 => sR <| oP (P_lss (a := ((x11 : Nat) : Int)) (b := ((l.length : Nat) : Int)) rfl rfl) rfl <| nT <| zaf <| zbx rfl zaz (fun hg1 => ?_) (fun hg1 => ?_)
   ·
    replace h := ite_t hg1 h
    refine kT <| zaf <| zat <| sR <| oV (zan (i := x11) rfl rfl rfl (by omega) foc1 rl Tryz.runUnderlying30 Tryz.sizeOf37) rfl <| oV (zcd rfl rfl (by omega) foc1 rl rfl rfl Tryz.isAgg37 Tryz.sizeOf37) rfl <| oO <| zb1 Tryz.zeroValue37 rfl rfl fun b13 => oO <| zbn rfl rfl foc0 Tryz.sizeOf37 rfl rfl rfl <| nT <| sR <| oP (zaa rfl ⟨_, _, _, Tryz.runUnderlying37, rfl, rfl, Tryz.sizeOf9, rfl⟩) rfl <| oV (zah rfl foc0 rfl Tryz.isAgg9) rfl <| oP (ze8 (a := ((l.getD x11 (⟨0, 0, ByteArray.empty, 0, false⟩ : api_Target))).On) (b := (ByteArray.mk #[])) rfl rfl Tryz.underlying9) rfl <| oM rfl rfl <| zd5 15 rfl zaz (fun hg2B hg2 => ?_) (fun hg2B hg2 => ?_)
    ·
     replace h := ite_t hg2 h
     refine gP (zab rfl rfl rfl hg2B) (zag rfl) rfl <| gP (zab rfl rfl rfl hg2B) (zaa rfl ⟨_, _, _, Tryz.runUnderlying37, rfl, rfl, Tryz.sizeOf9, rfl⟩) rfl <| gV (zab rfl rfl rfl hg2B) (zah rfl foc0 rfl Tryz.isAgg9) rfl ?_
     obtain ⟨r14, hr15, h⟩ := zdl h
     refine RJ_gy (zab rfl rfl rfl hg2B) <| zaq (zch (Reads.sl _ _ _) hr15) rfl Tryz.call56 (Dels.cons del1 Dels.nil) rfl fun _ _ => gP (zab rfl rfl rfl hg2B) (P_not rfl) rfl <| oP (zas rfl hg2B rfl) rfl <| nT <| zbx rfl (ziy Iff.rfl) (fun hg3 => ?_) (fun hg3 => ?_)
     ·
      replace h := ite_t hg3 h
      refine zak <| oM rfl rfl <| oP (zaa rfl ⟨_, _, _, Tryz.runUnderlying37, rfl, rfl, Tryz.sizeOf9, rfl⟩) rfl <| oV (zah rfl foc1 rfl Tryz.isAgg9) rfl <| oO <| zbe rfl (zoe _) rfl fun b16 => ?_
      obtain ⟨hg4, h⟩ := zh9 h
      exact oO <| zbv (t := tyS) (bytes := 16) rfl rfl del1 foc0 (Reads.lit (t := tyS) (ys := [((l.getD x11 (⟨0, 0, ByteArray.empty, 0, false⟩ : api_Target))).On]) rfl rfl (by decide) (by decide) rfl) Tryz.underlying59 ziz (apl (m := 1) (b := 16) hg4 (by decide)).1 (apl (m := 1) (b := 16) hg4 (by decide)).2 rfl fun p18 c19 => oA rfl rfl <| za9 <| zal <| zav <| zak <| oP (PJ_eq (P_add (a := ((x11 : Nat) : Int)) (b := (1 : Int)) rfl rfl (by omega)) rfl) rfl <| oM rfl rfl <| za9 <| nR ⟨n, (x9 ++ [((l.getD x11 (⟨0, 0, ByteArray.empty, 0, false⟩ : api_Target))).On]), (x11 + 1), ⟨p18, (x9 ++ [((l.getD x11 (⟨0, 0, ByteArray.empty, 0, false⟩ : api_Target))).On]).length, c19⟩⟩ h ⟨rfl, rfl, True.intro⟩ (t0_ (t2_ (eD (eD eR))))
     ·
      replace h := ite_f hg3 h
      exact zbk <| zal <| zav <| zak <| oP (PJ_eq (P_add (a := ((x11 : Nat) : Int)) (b := (1 : Int)) rfl rfl (by omega)) rfl) rfl <| oM rfl rfl <| za9 <| nR ⟨n, x9, (x11 + 1), hd10⟩ h ⟨rfl, rfl, True.intro⟩ (t0_ (t1_ (eD eR)))
    ·
     replace h := ite_f hg2 h
     exact RJ_gn (GY_no rfl rfl rfl hg2B) rfl rfl <| RJ_gn (GY_no rfl rfl rfl hg2B) rfl rfl <| RJ_gn (GY_no rfl rfl rfl hg2B) rfl rfl <| RJ_gn (GY_no rfl rfl rfl hg2B) rfl rfl <| RJ_gn (GY_no rfl rfl rfl hg2B) rfl rfl <| oP (zay rfl hg2B rfl) rfl <| nT <| za5 rfl rfl <| zbk <| zal <| zav <| zak <| oP (PJ_eq (P_add (a := ((x11 : Nat) : Int)) (b := (1 : Int)) rfl rfl (by omega)) rfl) rfl <| oM rfl rfl <| za9 <| nR ⟨n, x9, (x11 + 1), hd10⟩ h ⟨rfl, rfl, True.intro⟩ (t1_ (t1_ (eD eR)))
   ·
    replace h := ite_f hg1 h
    exact zbt <| za6 <| za7 <| za1 <| cR ⟨x9, hd10⟩ (Option.some.inj h).symm ⟨rfl, True.intro⟩ eR
 ·
  rintro ⟨a8, hd7⟩ hy20
  replace h := zf6 hK4 hy20
  show CJ _ _ _ _ _ (([(3, hd7.v)] : Slots) ++ forget _ _) (sl tyS hd7.v a8 :: _)
  refine lC del0 fun hlen21 => sR <| oM rfl rfl <| oA rfl rfl <| nT <| zai ?_
  cases h
  exact fE (res1 Tryz.results69 rfl) hd7 (t1_ eR)
def zfw (l : List api_Target) : Option (Int) :=
  if (((l.length : Nat) : Int) = (0 : Int)) then
    some (0 : Int)
  else
    lt ((l.getD (((((l.length : Nat) : Int) - (1 : Int))).toNat) (⟨0, 0, ByteArray.empty, 0, false⟩ : api_Target))) fun w2 =>
    grd (inI64 (w2.Start + w2.Length)) <|
    some (w2.Start + w2.Length)
theorem zkh {W : World} {Al : HP} {vl : Value} {l : List api_Target} {r : Int} (rl : Reads Al tyapi_Target vl l) (h : zfw l = some r) :
    CSpec Tryz.prog W 103 [vl] [Al] (fun x : Unit => .int .i64 r) (fun _ => True) (fun x F => Al :: F) := by
 refine CSpec.of_body Tryz.func103 rfl Tryz.ntmps103 rfl fun F => ?_
 show CJ _ _ _ _ _ _ (_ :: F)
 unfold zfw at h
 refine zbl (zdm rl del0) fun hlen1 => sR <| oA rfl rfl <| nT <| zaf <| sR <| oM rfl rfl <| oV (V_len rfl foc0 rl Tryz.runUnderlying30) rfl <| oP (P_eql (a := ((l.length : Nat) : Int)) (b := (0 : Int)) rfl rfl) rfl <| nT <| zbx rfl zaz (fun hg1 => ?_) (fun hg1 => ?_)
 ·
  replace h := ite_t hg1 h
  refine sR <| oA rfl rfl <| nT <| zai <| zad ?_
  cases h
  exact fE (res1 Tryz.results103 rfl) () eR
 ·
  replace h := ite_f hg1 h
  refine kT <| sR <| oM rfl rfl <| oM rfl rfl <| oV (V_len rfl foc0 rl Tryz.runUnderlying30) rfl <| oP (P_sub (a := ((l.length : Nat) : Int)) (b := (1 : Int)) rfl rfl (by omega)) rfl <| oV (zan (i := ((((l.length : Nat) : Int) - (1 : Int))).toNat) rfl rfl (Int.toNat_of_nonneg (by omega)).symm (by omega) foc0 rl Tryz.runUnderlying30 Tryz.sizeOf37) rfl <| oV (zcd rfl rfl (by omega) foc0 rl rfl rfl Tryz.isAgg37 Tryz.sizeOf37) rfl ?_
  obtain ⟨w2, hw2, h⟩ := lt_e h
  rw [← hw2]
  refine oO <| zb1 Tryz.zeroValue37 rfl rfl fun b3 => oO <| zbn rfl rfl foc0 Tryz.sizeOf37 rfl rfl rfl <| nT <| sR <| oP (zaa rfl ⟨_, _, _, Tryz.runUnderlying37, rfl, rfl, Tryz.sizeOf3, rfl⟩) rfl <| oV (zah rfl foc0 rfl Tryz.isAgg3) rfl <| oP (zaa rfl ⟨_, _, _, Tryz.runUnderlying37, rfl, rfl, Tryz.sizeOf3, rfl⟩) rfl <| oV (zah rfl foc0 rfl Tryz.isAgg3) rfl ?_
  obtain ⟨hg2, h⟩ := zd1 h
  refine oP (P_add (a := w2.Start) (b := w2.Length) rfl rfl hg2) rfl <| oA rfl rfl <| nT <| zai ?_
  cases h
  exact fE (res1 Tryz.results103 rfl) () (t1_ (eD eR))
def zhs (l : List api_Target) : Option (Int) :=
  Option.bind (zfk l) fun r2 =>
  if (r2 ≠ (0 : Int)) then
    some (0 : Int)
  else
    Option.bind (zfw l) fun r4 =>
    some r4
theorem zey {W : World} {Al : HP} {vl : Value} {l : List api_Target} {r : Int} (rl : Reads Al tyapi_Target vl l) (h : zhs l = some r) :
    CSpec Tryz.prog W 81 [vl] [Al] (fun x : Unit => .int .i64 r) (fun _ => True) (fun x F => Al :: F) := by
 refine CSpec.of_body Tryz.func81 rfl Tryz.ntmps81 rfl fun F => ?_
 show CJ _ _ _ _ _ _ (_ :: F)
 unfold zhs at h
 refine zbl (zdm rl del0) fun hlen1 => sR <| oA rfl rfl <| nT <| zaf <| sR <| oM rfl rfl ?_
 obtain ⟨r2, hr3, h⟩ := zdl h
 refine oO <| zaq (zhc rl hr3) rfl Tryz.call68 (Dels.cons del0 Dels.nil) rfl fun _ _ => oP (P_neq (a := r2) (b := (0 : Int)) rfl rfl) rfl <| nT <| zbx rfl zaz (fun hg1 => ?_) (fun hg1 => ?_)
 ·
  replace h := ite_t hg1 h
  refine sR <| oA rfl rfl <| nT <| zai <| zad ?_
  cases h
  exact fE (res1 Tryz.results81 rfl) () eR
 ·
  replace h := ite_f hg1 h
  refine kT <| sR <| oM rfl rfl ?_
  obtain ⟨r4, hr5, h⟩ := zdl h
  refine oO <| zaq (zkh rl hr5) rfl Tryz.call103 (Dels.cons del0 Dels.nil) rfl fun _ _ => oA rfl rfl <| nT <| zai ?_
  cases h
  exact fE (res1 Tryz.results81 rfl) () eR
def zfr (k : Int) (p1 : List api_Target) (p2 : Int) : Option (Bool) :=
  grd (decide (0 ≤ k ∧ k < (p1.length : Int))) <|
  grd (decide (0 ≤ k ∧ k < (p1.length : Int))) <|
  grd (inI64 ((((p1.getD ((k).toNat) (⟨0, 0, ByteArray.empty, 0, false⟩ : api_Target))).Start + ((p1.getD ((k).toNat) (⟨0, 0, ByteArray.empty, 0, false⟩ : api_Target))).Length))) <|
  lt ((((p1.getD ((k).toNat) (⟨0, 0, ByteArray.empty, 0, false⟩ : api_Target))).Start + ((p1.getD ((k).toNat) (⟨0, 0, ByteArray.empty, 0, false⟩ : api_Target))).Length)) fun w2 =>
  some ((decide (p2 < w2)))
theorem znz {W : World} {bp1 : Nat} {Ap1 : HP} {vp1 : Value} {bp2 : Nat} {k : Int} {p1 : List api_Target} {p2 : Int} {r : Bool} (rp1 : Reads Ap1 tyapi_Target vp1 p1) (h : zfr k p1 p2 = some r) :
    CSpec Tryz.prog W 114 [.int .i64 k, ptr bp1 0, ptr bp2 0] [blk bp1 30 [vp1], Ap1, blk bp2 3 [.int .i64 p2]] (fun x : Unit => .bool r) (fun _ => True) (fun x F => blk bp1 30 [vp1] :: Ap1 :: blk bp2 3 [.int .i64 p2] :: F) := by
 refine CSpec.of_body Tryz.func114 rfl Tryz.ntmps114 rfl fun F => ?_
 show CJ _ _ _ _ _ _ (_ :: _ :: _ :: F)
 unfold zfr at h
 refine zbl (zdm rp1 del1) fun hlen1 => sR <| oA rfl rfl <| nT <| zaf <| za0 0 (by kernel_rfl) rfl <| aV 0 1 rfl rfl (zac rfl) eR (zah rfl foc0 rfl Tryz.isAgg30) rfl <| aN 1 3 rfl rfl (zag rfl) rfl ?_
 obtain ⟨hg1, h⟩ := zdq h
 refine aV 2 7 rfl rfl (zac rfl) eR (zan (i := (k).toNat) rfl rfl (Int.toNat_of_nonneg (hg1.1)).symm (by omega) foc1 rp1 Tryz.runUnderlying30 Tryz.sizeOf37) rfl <| aN 3 15 rfl rfl (za2 rfl ⟨_, _, _, Tryz.runUnderlying37, rfl, rfl, Tryz.sizeOf3, rfl⟩) rfl <| aV 4 31 rfl rfl (zac rfl) eR (za3 rfl rfl (by omega) foc1 rp1 rfl rfl Tryz.isAgg3) rfl <| aV 5 63 rfl rfl (zac rfl) eR (zah rfl foc0 rfl Tryz.isAgg30) rfl <| aN 6 127 rfl rfl (zag rfl) rfl ?_
 obtain ⟨hg2, h⟩ := zdq h
 refine aV 7 255 rfl rfl (zac rfl) eR (zan (i := (k).toNat) rfl rfl (Int.toNat_of_nonneg (hg2.1)).symm (by omega) foc1 rp1 Tryz.runUnderlying30 Tryz.sizeOf37) rfl <| aN 8 511 rfl rfl (za2 rfl ⟨_, _, _, Tryz.runUnderlying37, rfl, rfl, Tryz.sizeOf3, rfl⟩) rfl <| aV 9 1023 rfl rfl (zac rfl) eR (za3 rfl rfl (by omega) foc1 rp1 rfl rfl Tryz.isAgg3) rfl ?_
 obtain ⟨hg3, h⟩ := zd1 h
 refine aN 10 2047 rfl rfl (P_add (a := ((p1.getD ((k).toNat) (⟨0, 0, ByteArray.empty, 0, false⟩ : api_Target))).Start) (b := ((p1.getD ((k).toNat) (⟨0, 0, ByteArray.empty, 0, false⟩ : api_Target))).Length) rfl rfl hg3) rfl ?_
 obtain ⟨w2, hw2, h⟩ := lt_e h
 rw [← hw2]
 refine aV 11 4095 rfl rfl (zac rfl) eR (zah rfl foc2 rfl Tryz.isAgg3) rfl <| aN 12 8191 rfl rfl (P_gtr (a := w2) (b := p2) rfl rfl) rfl <| aN 13 16383 rfl rfl (zbc rfl) rfl <| aD <| zai ?_
 cases h
 exact fE (res1 Tryz.results114 rfl) () eR
def zcu (f_c0 : List api_Target) (f_c1 : Int) (rec : Int → Int → Option (Int)) (x7 : Int) (x8 : Int) : Option (Int) :=
  if (x7 < x8) then
    grd (inI64 (x7 + x8)) <|
    Option.bind (zfr ((IntKind.i64.wrap (((zef ((zd2 (x7 + x8))) 1)).toNat : Int))) f_c0 f_c1) fun r9 =>
    if (¬ r9 = true) then
      grd (inI64 (((IntKind.i64.wrap (((zef ((zd2 (x7 + x8))) 1)).toNat : Int)) + (1 : Int)))) <|
      lt (((IntKind.i64.wrap (((zef ((zd2 (x7 + x8))) 1)).toNat : Int)) + (1 : Int))) fun w11 =>
      rec w11 x8
    else
      rec x7 ((IntKind.i64.wrap (((zef ((zd2 (x7 + x8))) 1)).toNat : Int)))
  else
    some x7
def zcb (f_c0 : List api_Target) (f_c1 : Int) : Nat → Int → Int → Option (Int)
  | 0, _, _ => none
  | n + 1, x7, x8 => zcu f_c0 f_c1 (zcb f_c0 f_c1 n) x7 x8
def zde (n_0 : Int) (f_c0 : List api_Target) (f_c1 : Int) : Option (Int) :=
  Option.bind (zcb f_c0 f_c1 FUEL (0 : Int) n_0) fun a6 =>
  some a6
theorem zg6 {W : World} {bf_c0 : Nat} {Af_c0 : HP} {vf_c0 : Value} {bf_c1 : Nat} {n_0 : Int} {f_c0 : List api_Target} {f_c1 : Int} {r : Int} (rf_c0 : Reads Af_c0 tyapi_Target vf_c0 f_c0) (h : zde n_0 f_c0 f_c1 = some r) :
    CSpec Tryz.prog W 113 [.int .i64 n_0, .func (.func 114) #[] #[ptr bf_c0 0, ptr bf_c1 0]] [blk bf_c0 30 [vf_c0], Af_c0, blk bf_c1 3 [.int .i64 f_c1]] (fun x : Unit => .int .i64 r) (fun _ => True) (fun x F => blk bf_c0 30 [vf_c0] :: Af_c0 :: blk bf_c1 3 [.int .i64 f_c1] :: F) := by
 refine CSpec.of_body Tryz.func113 rfl Tryz.ntmps113 rfl fun F => ?_
 show CJ _ _ _ _ _ _ (_ :: _ :: _ :: F)
 unfold zde at h
 refine zbl (zdm rf_c0 del1) fun hlen1 => sR <| oA rfl rfl <| nT <| sR <| oM rfl rfl <| oA rfl rfl <| oA rfl rfl <| nT <| zaf ?_
 obtain ⟨y4, hl2, hK3⟩ := zia h
 refine zd8 (X := Int) [5, 6, 7, 9, 10, 11, 12, 13, 14, 15, 16, 17, 18, 19, 20, 21, 22, 23, 24] (fun a6 => ([(5, .int .i64 a6)] : Slots)) (fun a6 R => R) (fun a6 => y4 = a6) Dels.nil ?_ ?_
 ·
  refine zat <| zbs (X := Nat × Int × Int) [5, 6, 7, 9, 10, 11, 12, 13, 14, 15, 16, 17, 18, 19, 20, 21, 22, 23, 24] (fun ⟨n, x7, x8⟩ => ([(5, .int .i64 x7), (6, .int .i64 x8)] : Slots)) (fun ⟨n, x7, x8⟩ R => R) (fun ⟨n, x7, x8⟩ => zcb f_c0 f_c1 n x7 x8 = some y4) (fun ⟨n, x7, x8⟩ => n) ⟨FUEL, (0 : Int), n_0⟩ ?_ ?_ eR ?_
  · exact hl2
  · exact ⟨rfl, rfl, True.intro⟩
  ·
   rintro ⟨n, x7, x8⟩ h
   cases n with
   | zero => exact zew h
   | succ n => ?_
   replace h : zcu f_c0 f_c1 (zcb f_c0 f_c1 n) x7 x8 = some y4 := h
   unfold zcu at h
   show CJ _ _ _ _ _ (([(5, .int .i64 x7), (6, .int .i64 x8)] : Slots) ++ forget _ _) (_)
   refine zaf <| sR <| oM rfl rfl <| oM rfl rfl <| oP (P_lss (a := x7) (b := x8) rfl rfl) rfl <| nT <| zbx rfl zaz (fun hg1 => ?_) (fun hg1 => ?_)
   ·
    replace h := ite_t hg1 h
    refine kT <| zat <| sR <| oM rfl rfl <| oM rfl rfl ?_
    obtain ⟨hg2, h⟩ := zd1 h
    refine oP (P_add (a := x7) (b := x8) rfl rfl hg2) rfl <| oP (zri (a := (x7 + x8)) rfl Tryz.runUnderlying3 Tryz.runUnderlying178) rfl <| oP (zsc (a := (zd2 (x7 + x8))) (m := 1) rfl rfl rfl) rfl <| oP (zo4 rfl Tryz.runUnderlying178 Tryz.runUnderlying3) rfl <| oA rfl rfl <| nT <| sR <| oM rfl rfl <| oM rfl rfl ?_
    obtain ⟨r9, hr10, h⟩ := zdl h
    refine oO <| zdv rfl rfl (znz rf_c0 hr10) Tryz.call114 (Dels.cons del0 (Dels.cons del0 (Dels.cons del0 Dels.nil))) rfl fun _ _ => oP (P_not rfl) rfl <| nT <| zbx rfl (ziy Iff.rfl) (fun hg3 => ?_) (fun hg3 => ?_)
    ·
     replace h := ite_t hg3 h
     refine zak <| oM rfl rfl ?_
     obtain ⟨hg4, h⟩ := zd1 h
     refine oP (P_add (a := (IntKind.i64.wrap (((zef ((zd2 (x7 + x8))) 1)).toNat : Int))) (b := (1 : Int)) rfl rfl hg4) rfl ?_
     obtain ⟨w11, hw11, h⟩ := lt_e h
     rw [← hw11]
     exact oA rfl rfl <| za9 <| zal <| nR ⟨n, w11, x8⟩ h ⟨rfl, rfl, True.intro⟩ eR
    ·
     replace h := ite_f hg3 h
     exact zak <| oM rfl rfl <| oA rfl rfl <| za9 <| zal <| nR ⟨n, x7, (IntKind.i64.wrap (((zef ((zd2 (x7 + x8))) 1)).toNat : Int))⟩ h ⟨rfl, rfl, True.intro⟩ eR
   ·
    replace h := ite_f hg1 h
    exact zbt <| za6 <| za7 <| za1 <| cR x7 (Option.some.inj h).symm ⟨rfl, True.intro⟩ eR
 ·
  rintro a6 hy12
  replace h := zf6 hK3 hy12
  show CJ _ _ _ _ _ (([(5, .int .i64 a6)] : Slots) ++ forget _ _) (_)
  refine sR <| oM rfl rfl <| oA rfl rfl <| nT <| zai ?_
  cases h
  exact fE (res1 Tryz.results113 rfl) () eR
def zht (l : List api_Target) (at_1 : Int) : Option (Int × Int) :=
  Option.bind (zde (((l.length : Nat) : Int)) l at_1) fun r6 =>
  grd (decide (0 ≤ r6 ∧ r6 < (l.length : Int))) <|
  grd (inI64 ((at_1 - ((l.getD ((r6).toNat) (⟨0, 0, ByteArray.empty, 0, false⟩ : api_Target))).Start))) <|
  lt ((at_1 - ((l.getD ((r6).toNat) (⟨0, 0, ByteArray.empty, 0, false⟩ : api_Target))).Start)) fun w8 =>
  some (r6, w8)
theorem zpe {W : World} {Al : HP} {vl : Value} {l : List api_Target} {at_1 : Int} {r : Int × Int} (rl : Reads Al tyapi_Target vl l) (h : zht l at_1 = some r) :
    CSpec Tryz.prog W 111 [vl, .int .i64 at_1] [Al] (fun x : Unit => .tuple #[.int .i64 r.1, .int .i64 r.2]) (fun _ => True) (fun x F => Al :: F) := by
 refine CSpec.of_body Tryz.func111 rfl Tryz.ntmps111 rfl fun F => ?_
 show CJ _ _ _ _ _ _ (_ :: F)
 unfold zht at h
 refine zbl (zdm rl del0) fun hlen1 => sR <| zqg (zod rl del0) fun hsv3 => ?_
 obtain ⟨sv2, hsv3⟩ := hsv3
 subst hsv3
 refine oO <| O_box rfl rfl rfl fun b4 => oO <| O_box rfl rfl rfl fun b5 => oA rfl rfl <| oA rfl rfl <| nT <| sR <| oV (zah rfl foc1 rfl Tryz.isAgg30) rfl <| oV (V_len rfl foc2 rl Tryz.runUnderlying30) rfl <| oP (zb4 rfl rfl) rfl ?_
 obtain ⟨r6, hr7, h⟩ := zdl h
 refine oO <| zaq (zg6 rl hr7) rfl Tryz.call113 (Dels.cons del1 (Dels.cons del1 (Dels.cons del0 Dels.nil))) rfl fun _ _ => oA rfl rfl <| nT <| zaf <| za0 0 (by kernel_rfl) rfl <| aN 0 1 rfl rfl (zag rfl) rfl <| aV 1 3 rfl rfl (zac rfl) eR (zah rfl foc2 rfl Tryz.isAgg3) rfl <| aV 2 7 rfl rfl (zac rfl) eR (zah rfl foc0 rfl Tryz.isAgg30) rfl <| aN 3 15 rfl rfl (zag rfl) rfl ?_
 obtain ⟨hg1, h⟩ := zdq h
 refine aV 4 31 rfl rfl (zac rfl) eR (zan (i := (r6).toNat) rfl rfl (Int.toNat_of_nonneg (hg1.1)).symm (by omega) foc1 rl Tryz.runUnderlying30 Tryz.sizeOf37) rfl <| aN 5 63 rfl rfl (za2 rfl ⟨_, _, _, Tryz.runUnderlying37, rfl, rfl, Tryz.sizeOf3, rfl⟩) rfl <| aV 6 127 rfl rfl (zac rfl) eR (za3 rfl rfl (by omega) foc1 rl rfl rfl Tryz.isAgg3) rfl ?_
 obtain ⟨hg2, h⟩ := zd1 h
 refine aN 7 255 rfl rfl (P_sub (a := at_1) (b := ((l.getD ((r6).toNat) (⟨0, 0, ByteArray.empty, 0, false⟩ : api_Target))).Start) rfl rfl hg2) rfl ?_
 obtain ⟨w8, hw8, h⟩ := lt_e h
 rw [← hw8]
 refine aN 8 511 rfl rfl (zbc rfl) rfl <| aN 9 1023 rfl rfl (zbc rfl) rfl <| aD <| zai ?_
 cases h
 exact fE (res2 Tryz.results111 rfl rfl) () (t1_ (eD (eD eR)))
def zhu (l : List api_Target) (at_1 : Int) : Option (Int × Int × Bool) :=
  Option.bind (zfk l) fun r2 =>
  if ((r2 ≠ (0 : Int)) ∨ (at_1 < (0 : Int))) then
    some (((0 : Int), (0 : Int), false))
  else
    Option.bind (zfw l) fun r8 =>
    if (r8 ≤ at_1) then
      some (((0 : Int), (0 : Int), false))
    else
      Option.bind (zht l at_1) fun r10 =>
      some (r10.1, r10.2, true)
theorem zki {W : World} {Al : HP} {vl : Value} {l : List api_Target} {at_1 : Int} {r : Int × Int × Bool} (rl : Reads Al tyapi_Target vl l) (h : zhu l at_1 = some r) :
    CSpec Tryz.prog W 101 [vl, .int .i64 at_1] [Al] (fun x : Unit => .tuple #[.int .i64 r.1, .int .i64 r.2.1, .bool r.2.2]) (fun _ => True) (fun x F => Al :: F) := by
 refine CSpec.of_body Tryz.func101 rfl Tryz.ntmps101 rfl fun F => ?_
 show CJ _ _ _ _ _ _ (_ :: F)
 unfold zhu at h
 refine zbl (zdm rl del0) fun hlen1 => sR <| oA rfl rfl <| oA rfl rfl <| oA rfl rfl <| nT <| zaf <| sR <| oM rfl rfl ?_
 obtain ⟨r2, hr3, h⟩ := zdl h
 refine oO <| zaq (zhc rl hr3) rfl Tryz.call68 (Dels.cons del0 Dels.nil) rfl fun _ _ => oP (P_neq (a := r2) (b := (0 : Int)) rfl rfl) rfl <| oM rfl rfl <| zb6 rfl rfl rfl (fun hG4 => have hP5 : ¬ (r2 ≠ (0 : Int)) := nP (zaz) hG4; VJ_P (zag rfl)) <| zb6 rfl rfl rfl (fun hG6 => have hP7 : ¬ (r2 ≠ (0 : Int)) := nP (zaz) hG6; VJ_P (P_lss (a := at_1) (b := (0 : Int)) (mbx hG6 rfl) rfl)) <| oP (zeo rfl rfl (fun hh => mbx (not_f hh) rfl)) rfl <| oM rfl rfl <| zd5 14 rfl (bT_or zaz zaz) (fun hg1B hg1 => ?_) (fun hg1B hg1 => ?_)
 ·
  replace h := ite_t hg1 h
  refine RJ_gn (GY_no rfl rfl rfl hg1B) rfl rfl <| RJ_gn (GY_no rfl rfl rfl hg1B) rfl rfl <| RJ_gn (GY_no rfl rfl rfl hg1B) rfl rfl <| RJ_gn (GY_no rfl rfl rfl hg1B) rfl rfl <| oP (zas rfl hg1B rfl) rfl <| nT <| za4 rfl rfl <| sR <| oA rfl rfl <| oA rfl rfl <| oA rfl rfl <| nT <| zai <| zad ?_
  cases h
  exact fE (res3 Tryz.results101 rfl rfl rfl) () eR
 ·
  replace h := ite_f hg1 h
  refine gP (zab rfl rfl rfl hg1B) (zag rfl) rfl <| gP (zab rfl rfl rfl hg1B) (zag rfl) rfl ?_
  obtain ⟨r8, hr9, h⟩ := zdl h
  refine RJ_gy (zab rfl rfl rfl hg1B) <| zaq (zkh rl hr9) rfl Tryz.call103 (Dels.cons del0 Dels.nil) rfl fun _ _ => gP (zab rfl rfl rfl hg1B) (P_geq (a := at_1) (b := r8) rfl rfl) rfl <| oP (zay rfl hg1B rfl) rfl <| nT <| zbx rfl zaz (fun hg2 => ?_) (fun hg2 => ?_)
  ·
   replace h := ite_t hg2 h
   refine sR <| oA rfl rfl <| oA rfl rfl <| oA rfl rfl <| nT <| zai <| zad ?_
   cases h
   exact fE (res3 Tryz.results101 rfl rfl rfl) () eR
  ·
   replace h := ite_f hg2 h
   refine kT <| sR <| oM rfl rfl <| oM rfl rfl ?_
   obtain ⟨r10, hr11, h⟩ := zdl h
   refine oO <| zaq (zpe rl hr11) rfl Tryz.call111 (Dels.cons del0 Dels.nil) rfl fun _ _ => oM rfl rfl <| oP (zaw rfl rfl) rfl <| oP (zaw rfl rfl) rfl <| oA rfl rfl <| oA rfl rfl <| nT <| sR <| oM rfl rfl <| oM rfl rfl <| oA rfl rfl <| oA rfl rfl <| oA rfl rfl <| nT <| zai ?_
   cases h
   exact fE (res3 Tryz.results101 rfl rfl rfl) () eR
end Go.Proofs
set_option linter.unusedSimpArgs false
set_option linter.unusedVariables false
set_option maxRecDepth 20000
set_option maxHeartbeats 4000000
namespace Go.Proofs
open Go.VG
def zc2 (l : List api_Target) (rec : Int → Nat → Option ((Unit) ⊕ Int)) (x6 : Int) (x7 : Nat) : Option ((Unit) ⊕ Int) :=
  if (((x7 : Nat) : Int) < ((l.length : Nat) : Int)) then
    if (((l.getD x7 (⟨0, 0, ByteArray.empty, 0, false⟩ : api_Target))).Start ≠ x6) then
      some (.inr (2 : Int))
    else
      if ((((l.getD x7 (⟨0, 0, ByteArray.empty, 0, false⟩ : api_Target))).Length < (1 : Int)) ∨ ((16777216 : Int) < ((l.getD x7 (⟨0, 0, ByteArray.empty, 0, false⟩ : api_Target))).Length)) then
        some (.inr (1 : Int))
      else
        if ((((l.getD x7 (⟨0, 0, ByteArray.empty, 0, false⟩ : api_Target))).Fail = true ∧ (((l.getD x7 (⟨0, 0, ByteArray.empty, 0, false⟩ : api_Target))).On ≠ (ByteArray.mk #[]))) ∨ ((((l.getD x7 (⟨0, 0, ByteArray.empty, 0, false⟩ : api_Target))).On = (ByteArray.mk #[])) ∧ (((l.getD x7 (⟨0, 0, ByteArray.empty, 0, false⟩ : api_Target))).Offset ≠ (0 : Int)))) then
          some (.inr (2 : Int))
        else
          if ((((l.getD x7 (⟨0, 0, ByteArray.empty, 0, false⟩ : api_Target))).Offset < (0 : Int)) ∨ (((16777216 : Int) - ((l.getD x7 (⟨0, 0, ByteArray.empty, 0, false⟩ : api_Target))).Length) < ((l.getD x7 (⟨0, 0, ByteArray.empty, 0, false⟩ : api_Target))).Offset)) then
            some (.inr (1 : Int))
          else
            grd (inI64 ((x6 + ((l.getD x7 (⟨0, 0, ByteArray.empty, 0, false⟩ : api_Target))).Length))) <|
            rec ((x6 + ((l.getD x7 (⟨0, 0, ByteArray.empty, 0, false⟩ : api_Target))).Length)) (x7 + 1)
  else
    some (.inl ())
def zcf (l : List api_Target) : Nat → Int → Nat → Option ((Unit) ⊕ Int)
  | 0, _, _ => none
  | n + 1, x6, x7 => zc2 l (zcf l n) x6 x7
def zcr (l : List api_Target) : Option (Int) :=
  if ((64 : Int) < ((l.length : Nat) : Int)) then
    some (4 : Int)
  else
    seqO (zcf l FUEL (0 : Int) 0) fun a5 =>
    some (0 : Int)
theorem zed {W : World} {Al : HP} {vl : Value} {l : List api_Target} {r : Int} (rl : Reads Al tyapi_Target vl l) (h : zcr l = some r) :
    CSpec Tryz.prog W 75 [vl] [Al] (fun x : Unit => .int .i64 r) (fun _ => True) (fun x F => Al :: F) := by
 refine CSpec.of_body Tryz.func75 rfl Tryz.ntmps75 rfl fun F => ?_
 show CJ _ _ _ _ _ _ (_ :: F)
 unfold zcr at h
 refine zbl (zdm rl del0) fun hlen1 => sR <| oA rfl rfl <| nT <| zaf <| sR <| oM rfl rfl <| oV (V_len rfl foc0 rl Tryz.runUnderlying30) rfl <| oP (P_gtr (a := ((l.length : Nat) : Int)) (b := (64 : Int)) rfl rfl) rfl <| nT <| zbx rfl zaz (fun hg1 => ?_) (fun hg1 => ?_)
 ·
  replace h := ite_t hg1 h
  refine sR <| oA rfl rfl <| nT <| zai <| zad ?_
  cases h
  exact fE (res1 Tryz.results75 rfl) () eR
 ·
  replace h := ite_f hg1 h
  refine kT <| sR <| oA rfl rfl <| nT <| zaf <| sR <| oA rfl rfl <| nT ?_
  obtain ⟨y4, hl2, hK3⟩ := seq_e h
  refine zd8 (X := Unit) [2, 3, 4, 5, 9, 10, 11, 12, 13, 14, 15, 16, 17, 18, 19, 20, 21, 22, 23, 24, 25, 26, 27, 28, 29, 30, 31, 32, 33, 34, 35, 36, 37, 38, 39, 40, 41, 42, 43, 44, 45, 46, 47, 48, 49, 50, 51, 52, 53, 54, 55, 56, 57, 58, 59, 60, 61, 62, 63, 64, 65, 66] (fun _ => ([] : Slots)) (fun _ R => R) (fun _ => y4 = .inl ()) Dels.nil ?_ ?_
  ·
   refine zat <| zbs (X := Nat × Int × Nat) [2, 3, 4, 5, 9, 10, 11, 12, 13, 14, 15, 16, 17, 18, 19, 20, 21, 22, 23, 24, 25, 26, 27, 28, 29, 30, 31, 32, 33, 34, 35, 36, 37, 38, 39, 40, 41, 42, 43, 44, 45, 46, 47, 48, 49, 50, 51, 52, 53, 54, 55, 56, 57, 58, 59, 60, 61, 62, 63, 64, 65, 66] (fun ⟨n, x6, x7⟩ => ([(3, .int .i64 x6), (4, .int .i64 (((x7 : Nat) : Int)))] : Slots)) (fun ⟨n, x6, x7⟩ R => R) (fun ⟨n, x6, x7⟩ => zcf l n x6 x7 = some y4) (fun ⟨n, x6, x7⟩ => n) ⟨FUEL, (0 : Int), 0⟩ ?_ ?_ eR ?_
   · exact hl2
   · exact ⟨rfl, rfl, True.intro⟩
   ·
    rintro ⟨n, x6, x7⟩ h
    cases n with
    | zero => exact zew h
    | succ n => ?_
    replace h : zc2 l (zcf l n) x6 x7 = some y4 := h
    unfold zc2 at h
    show CJ _ _ _ _ _ (([(3, .int .i64 x6), (4, .int .i64 (((x7 : Nat) : Int)))] : Slots) ++ forget _ _) (_)
    refine zaf <| sR <| oM rfl rfl <| oM rfl rfl <| oV (V_len rfl foc0 rl Tryz.runUnderlying30) rfl <| oP (P_lss (a := ((x7 : Nat) : Int)) (b := ((l.length : Nat) : Int)) rfl rfl) rfl <| nT <| zbx rfl zaz (fun hg2 => ?_) (fun hg2 => ?_)
    ·
     replace h := ite_t hg2 h
     refine kT <| zaf <| zat <| sR <| oM rfl rfl <| oM rfl rfl <| oV (zan (i := x7) rfl rfl rfl (by omega) foc0 rl Tryz.runUnderlying30 Tryz.sizeOf37) rfl <| oV (zcd rfl rfl (by omega) foc0 rl rfl rfl Tryz.isAgg37 Tryz.sizeOf37) rfl <| oO <| zb1 Tryz.zeroValue37 rfl rfl fun b8 => oO <| zbn rfl rfl foc0 Tryz.sizeOf37 rfl rfl rfl <| nT <| zaf <| zat <| sR <| oP (zaa rfl ⟨_, _, _, Tryz.runUnderlying37, rfl, rfl, Tryz.sizeOf3, rfl⟩) rfl <| oV (zah rfl foc0 rfl Tryz.isAgg3) rfl <| oM rfl rfl <| oP (P_neq (a := ((l.getD x7 (⟨0, 0, ByteArray.empty, 0, false⟩ : api_Target))).Start) (b := x6) rfl rfl) rfl <| oA rfl rfl <| nT <| zbx rfl zaz (fun hg3 => ?_) (fun hg3 => ?_)
     ·
      replace h := ite_t hg3 h
      refine sR <| oA rfl rfl <| nT <| zai <| zaj <| zad <| zaj <| zad <| zbd <| zaj <| zad ?_
      have hE := Option.some.inj h
      replace hE := zee hK3 hE.symm
      subst hE
      exact fE (res1 Tryz.results75 rfl) () (t1_ (eD eR))
     ·
      replace h := ite_f hg3 h
      refine sR <| oP (zaa rfl ⟨_, _, _, Tryz.runUnderlying37, rfl, rfl, Tryz.sizeOf3, rfl⟩) rfl <| oV (zah rfl foc0 rfl Tryz.isAgg3) rfl <| oP (P_lss (a := ((l.getD x7 (⟨0, 0, ByteArray.empty, 0, false⟩ : api_Target))).Length) (b := (1 : Int)) rfl rfl) rfl <| oM rfl rfl <| zb6 rfl rfl rfl (fun hG9 => have hP10 : ¬ (((l.getD x7 (⟨0, 0, ByteArray.empty, 0, false⟩ : api_Target))).Length < (1 : Int)) := nP (zaz) hG9; VJ_P (zaa rfl ⟨_, _, _, Tryz.runUnderlying37, rfl, rfl, Tryz.sizeOf3, rfl⟩)) <| zb6 rfl rfl rfl (fun hG11 => have hP12 : ¬ (((l.getD x7 (⟨0, 0, ByteArray.empty, 0, false⟩ : api_Target))).Length < (1 : Int)) := nP (zaz) hG11; zah (mbx hG11 rfl) foc0 rfl Tryz.isAgg3) <| zb6 rfl rfl rfl (fun hG13 => have hP14 : ¬ (((l.getD x7 (⟨0, 0, ByteArray.empty, 0, false⟩ : api_Target))).Length < (1 : Int)) := nP (zaz) hG13; VJ_P (P_gtr (a := ((l.getD x7 (⟨0, 0, ByteArray.empty, 0, false⟩ : api_Target))).Length) (b := (16777216 : Int)) (mbx hG13 rfl) rfl)) <| oP (zeo rfl rfl (fun hh => mbx (not_f hh) rfl)) rfl <| oA rfl rfl <| nT <| zbx rfl (bT_or zaz zaz) (fun hg4 => ?_) (fun hg4 => ?_)
      ·
       replace h := ite_t hg4 h
       refine sR <| oA rfl rfl <| nT <| zai <| zaj <| zad <| zaj <| zad <| zbd <| zaj <| zad ?_
       have hE := Option.some.inj h
       replace hE := zee hK3 hE.symm
       subst hE
       exact fE (res1 Tryz.results75 rfl) () (t1_ (eD eR))
      ·
       replace h := ite_f hg4 h
       refine sR <| oP (zaa rfl ⟨_, _, _, Tryz.runUnderlying37, rfl, rfl, Tryz.sizeOf4, rfl⟩) rfl <| oV (zah rfl foc0 rfl Tryz.isAgg4) rfl <| oM rfl rfl <| zc3 rfl rfl rfl (fun hG15 => have hP16 : ((l.getD x7 (⟨0, 0, ByteArray.empty, 0, false⟩ : api_Target))).Fail = true := (Iff.rfl).1 hG15; VJ_P (zaa rfl ⟨_, _, _, Tryz.runUnderlying37, rfl, rfl, Tryz.sizeOf9, rfl⟩)) <| zc3 rfl rfl rfl (fun hG17 => have hP18 : ((l.getD x7 (⟨0, 0, ByteArray.empty, 0, false⟩ : api_Target))).Fail = true := (Iff.rfl).1 hG17; zah (mbx hG17 rfl) foc0 rfl Tryz.isAgg9) <| zc3 rfl rfl rfl (fun hG19 => have hP20 : ((l.getD x7 (⟨0, 0, ByteArray.empty, 0, false⟩ : api_Target))).Fail = true := (Iff.rfl).1 hG19; VJ_P (ze8 (a := ((l.getD x7 (⟨0, 0, ByteArray.empty, 0, false⟩ : api_Target))).On) (b := (ByteArray.mk #[])) (mbx hG19 rfl) rfl Tryz.underlying9)) <| oP (zej rfl (fun hh => mbx hh rfl) rfl) rfl <| oM rfl rfl <| zb6 rfl rfl rfl (fun hG21 => have hP22 : ¬ (((l.getD x7 (⟨0, 0, ByteArray.empty, 0, false⟩ : api_Target))).Fail = true ∧ (((l.getD x7 (⟨0, 0, ByteArray.empty, 0, false⟩ : api_Target))).On ≠ (ByteArray.mk #[]))) := nP ((zb8 Iff.rfl zaz)) hG21; VJ_P (zaa rfl ⟨_, _, _, Tryz.runUnderlying37, rfl, rfl, Tryz.sizeOf9, rfl⟩)) ?_
       refine zb6 rfl rfl rfl (fun hG23 => have hP24 : ¬ (((l.getD x7 (⟨0, 0, ByteArray.empty, 0, false⟩ : api_Target))).Fail = true ∧ (((l.getD x7 (⟨0, 0, ByteArray.empty, 0, false⟩ : api_Target))).On ≠ (ByteArray.mk #[]))) := nP ((zb8 Iff.rfl zaz)) hG23; zah (mbx hG23 rfl) foc0 rfl Tryz.isAgg9) <| zb6 rfl rfl rfl (fun hG25 => have hP26 : ¬ (((l.getD x7 (⟨0, 0, ByteArray.empty, 0, false⟩ : api_Target))).Fail = true ∧ (((l.getD x7 (⟨0, 0, ByteArray.empty, 0, false⟩ : api_Target))).On ≠ (ByteArray.mk #[]))) := nP ((zb8 Iff.rfl zaz)) hG25; VJ_P (zcx (a := ((l.getD x7 (⟨0, 0, ByteArray.empty, 0, false⟩ : api_Target))).On) (b := (ByteArray.mk #[])) (mbx hG25 rfl) rfl Tryz.underlying9)) <| zb6 rfl rfl rfl (fun hG27 => have hP28 : ¬ (((l.getD x7 (⟨0, 0, ByteArray.empty, 0, false⟩ : api_Target))).Fail = true ∧ (((l.getD x7 (⟨0, 0, ByteArray.empty, 0, false⟩ : api_Target))).On ≠ (ByteArray.mk #[]))) := nP ((zb8 Iff.rfl zaz)) hG27; VJ_P (zag (mbx hG27 rfl))) <| zh0 rfl rfl rfl (fun hG29 => have hP30 : ¬ (((l.getD x7 (⟨0, 0, ByteArray.empty, 0, false⟩ : api_Target))).Fail = true ∧ (((l.getD x7 (⟨0, 0, ByteArray.empty, 0, false⟩ : api_Target))).On ≠ (ByteArray.mk #[]))) := nP ((zb8 Iff.rfl zaz)) (and_l hG29); have hP31 : (((l.getD x7 (⟨0, 0, ByteArray.empty, 0, false⟩ : api_Target))).On = (ByteArray.mk #[])) := (zaz).1 (and_r hG29); VJ_P (zaa rfl ⟨_, _, _, Tryz.runUnderlying37, rfl, rfl, Tryz.sizeOf3, rfl⟩)) ?_
       refine zh0 rfl rfl rfl (fun hG32 => have hP33 : ¬ (((l.getD x7 (⟨0, 0, ByteArray.empty, 0, false⟩ : api_Target))).Fail = true ∧ (((l.getD x7 (⟨0, 0, ByteArray.empty, 0, false⟩ : api_Target))).On ≠ (ByteArray.mk #[]))) := nP ((zb8 Iff.rfl zaz)) (and_l hG32); have hP34 : (((l.getD x7 (⟨0, 0, ByteArray.empty, 0, false⟩ : api_Target))).On = (ByteArray.mk #[])) := (zaz).1 (and_r hG32); zah (mbx hG32 rfl) foc0 rfl Tryz.isAgg3) <| zh0 rfl rfl rfl (fun hG35 => have hP36 : ¬ (((l.getD x7 (⟨0, 0, ByteArray.empty, 0, false⟩ : api_Target))).Fail = true ∧ (((l.getD x7 (⟨0, 0, ByteArray.empty, 0, false⟩ : api_Target))).On ≠ (ByteArray.mk #[]))) := nP ((zb8 Iff.rfl zaz)) (and_l hG35); have hP37 : (((l.getD x7 (⟨0, 0, ByteArray.empty, 0, false⟩ : api_Target))).On = (ByteArray.mk #[])) := (zaz).1 (and_r hG35); VJ_P (P_neq (a := ((l.getD x7 (⟨0, 0, ByteArray.empty, 0, false⟩ : api_Target))).Offset) (b := (0 : Int)) (mbx hG35 rfl) rfl)) <| zb6 rfl rfl rfl (fun hG38 => have hP39 : ¬ (((l.getD x7 (⟨0, 0, ByteArray.empty, 0, false⟩ : api_Target))).Fail = true ∧ (((l.getD x7 (⟨0, 0, ByteArray.empty, 0, false⟩ : api_Target))).On ≠ (ByteArray.mk #[]))) := nP ((zb8 Iff.rfl zaz)) hG38; VJ_P (zej (mbx hG38 rfl) (fun hh => mbx (and_i hG38 hh) rfl) rfl)) <| oP (zeo rfl rfl (fun hh => mbx (not_f hh) rfl)) rfl <| oA rfl rfl <| nT <| zbx rfl (bT_or (zb8 Iff.rfl zaz) (zb8 zaz zaz)) (fun hg5 => ?_) (fun hg5 => ?_)
       ·
        replace h := ite_t hg5 h
        refine sR <| oA rfl rfl <| nT <| zai <| zaj <| zad <| zaj <| zad <| zbd <| zaj <| zad ?_
        have hE := Option.some.inj h
        replace hE := zee hK3 hE.symm
        subst hE
        exact fE (res1 Tryz.results75 rfl) () (t1_ (eD eR))
       ·
        replace h := ite_f hg5 h
        refine sR <| oP (zaa rfl ⟨_, _, _, Tryz.runUnderlying37, rfl, rfl, Tryz.sizeOf3, rfl⟩) rfl <| oV (zah rfl foc0 rfl Tryz.isAgg3) rfl <| oP (P_lss (a := ((l.getD x7 (⟨0, 0, ByteArray.empty, 0, false⟩ : api_Target))).Offset) (b := (0 : Int)) rfl rfl) rfl <| oM rfl rfl <| zb6 rfl rfl rfl (fun hG40 => have hP41 : ¬ (((l.getD x7 (⟨0, 0, ByteArray.empty, 0, false⟩ : api_Target))).Offset < (0 : Int)) := nP (zaz) hG40; VJ_P (zaa rfl ⟨_, _, _, Tryz.runUnderlying37, rfl, rfl, Tryz.sizeOf3, rfl⟩)) <| zb6 rfl rfl rfl (fun hG42 => have hP43 : ¬ (((l.getD x7 (⟨0, 0, ByteArray.empty, 0, false⟩ : api_Target))).Offset < (0 : Int)) := nP (zaz) hG42; zah (mbx hG42 rfl) foc0 rfl Tryz.isAgg3) <| zb6 rfl rfl rfl (fun hG44 => have hP45 : ¬ (((l.getD x7 (⟨0, 0, ByteArray.empty, 0, false⟩ : api_Target))).Offset < (0 : Int)) := nP (zaz) hG44; VJ_P (zaa rfl ⟨_, _, _, Tryz.runUnderlying37, rfl, rfl, Tryz.sizeOf3, rfl⟩)) <| zb6 rfl rfl rfl (fun hG46 => have hP47 : ¬ (((l.getD x7 (⟨0, 0, ByteArray.empty, 0, false⟩ : api_Target))).Offset < (0 : Int)) := nP (zaz) hG46; zah (mbx hG46 rfl) foc0 rfl Tryz.isAgg3) <| zb6 rfl rfl rfl (fun hG48 => have hP49 : ¬ (((l.getD x7 (⟨0, 0, ByteArray.empty, 0, false⟩ : api_Target))).Offset < (0 : Int)) := nP (zaz) hG48; VJ_P (P_sub (a := (16777216 : Int)) (b := ((l.getD x7 (⟨0, 0, ByteArray.empty, 0, false⟩ : api_Target))).Length) rfl (mbx hG48 rfl) (by omega))) ?_
        refine zb6 rfl rfl rfl (fun hG50 => have hP51 : ¬ (((l.getD x7 (⟨0, 0, ByteArray.empty, 0, false⟩ : api_Target))).Offset < (0 : Int)) := nP (zaz) hG50; VJ_P (P_gtr (a := ((l.getD x7 (⟨0, 0, ByteArray.empty, 0, false⟩ : api_Target))).Offset) (b := ((16777216 : Int) - ((l.getD x7 (⟨0, 0, ByteArray.empty, 0, false⟩ : api_Target))).Length)) (mbx hG50 rfl) (mbx hG50 rfl))) <| oP (zeo rfl rfl (fun hh => mbx (not_f hh) rfl)) rfl <| oA rfl rfl <| nT <| zbx rfl (bT_or zaz zaz) (fun hg6 => ?_) (fun hg6 => ?_)
        ·
         replace h := ite_t hg6 h
         refine sR <| oA rfl rfl <| nT <| zai <| zaj <| zad <| zaj <| zad <| zbd <| zaj <| zad ?_
         have hE := Option.some.inj h
         replace hE := zee hK3 hE.symm
         subst hE
         exact fE (res1 Tryz.results75 rfl) () (t1_ (eD eR))
        ·
         replace h := ite_f hg6 h
         refine zbk <| zal <| zav <| zak <| oM rfl rfl <| oP (zaa rfl ⟨_, _, _, Tryz.runUnderlying37, rfl, rfl, Tryz.sizeOf3, rfl⟩) rfl <| oV (zah rfl foc0 rfl Tryz.isAgg3) rfl ?_
         obtain ⟨hg7, h⟩ := zd1 h
         exact oP (P_add (a := x6) (b := ((l.getD x7 (⟨0, 0, ByteArray.empty, 0, false⟩ : api_Target))).Length) rfl rfl hg7) rfl <| oA rfl rfl <| za9 <| zal <| zav <| zak <| oM rfl rfl <| oP (PJ_eq (P_add (a := ((x7 : Nat) : Int)) (b := (1 : Int)) rfl rfl (by omega)) rfl) rfl <| oA rfl rfl <| za9 <| nR ⟨n, (x6 + ((l.getD x7 (⟨0, 0, ByteArray.empty, 0, false⟩ : api_Target))).Length), (x7 + 1)⟩ h ⟨rfl, rfl, True.intro⟩ (t1_ (eD eR))
    ·
     replace h := ite_f hg2 h
     exact zbt <| za6 <| za7 <| za1 <| cR () (Option.some.inj h).symm True.intro eR
  ·
   rintro _ hy52
   replace h := zhz hK3 hy52
   show CJ _ _ _ _ _ (([] : Slots) ++ forget _ _) (_)
   refine sR <| oA rfl rfl <| nT <| zai ?_
   cases h
   exact fE (res1 Tryz.results75 rfl) () eR
def zc5 (l : List api_Target) (rec : Int → Nat → Option (Int)) (x9 : Int) (x10 : Nat) : Option (Int) :=
  if (((x10 : Nat) : Int) < ((l.length : Nat) : Int)) then
    grd (inI64 ((x9 + ((l.getD x10 (⟨0, 0, ByteArray.empty, 0, false⟩ : api_Target))).Length))) <|
    rec ((x9 + ((l.getD x10 (⟨0, 0, ByteArray.empty, 0, false⟩ : api_Target))).Length)) (x10 + 1)
  else
    some x9
def zci (l : List api_Target) : Nat → Int → Nat → Option (Int)
  | 0, _, _ => none
  | n + 1, x9, x10 => zc5 l (zci l n) x9 x10
def zdx (l : List api_Target) : Option (Int) :=
  Option.bind (zcr l) fun r2 =>
  if (r2 ≠ (0 : Int)) then
    some (0 : Int)
  else
    Option.bind (zci l FUEL (0 : Int) 0) fun a8 =>
    some a8
theorem zfx {W : World} {Al : HP} {vl : Value} {l : List api_Target} {r : Int} (rl : Reads Al tyapi_Target vl l) (h : zdx l = some r) :
    CSpec Tryz.prog W 84 [vl] [Al] (fun x : Unit => .int .i64 r) (fun _ => True) (fun x F => Al :: F) := by
 refine CSpec.of_body Tryz.func84 rfl Tryz.ntmps84 rfl fun F => ?_
 show CJ _ _ _ _ _ _ (_ :: F)
 unfold zdx at h
 refine zbl (zdm rl del0) fun hlen1 => sR <| oA rfl rfl <| nT <| zaf <| sR <| oM rfl rfl ?_
 obtain ⟨r2, hr3, h⟩ := zdl h
 refine oO <| zaq (zed rl hr3) rfl Tryz.call75 (Dels.cons del0 Dels.nil) rfl fun _ _ => oP (P_neq (a := r2) (b := (0 : Int)) rfl rfl) rfl <| nT <| zbx rfl zaz (fun hg1 => ?_) (fun hg1 => ?_)
 ·
  replace h := ite_t hg1 h
  refine sR <| oA rfl rfl <| nT <| zai <| zad ?_
  cases h
  exact fE (res1 Tryz.results84 rfl) () eR
 ·
  replace h := ite_f hg1 h
  refine kT <| sR <| oA rfl rfl <| nT <| zaf <| sR <| oA rfl rfl <| nT ?_
  obtain ⟨y6, hl4, hK5⟩ := zia h
  refine zd8 (X := Int) [3, 4, 8, 9, 10, 11, 12, 13, 14, 15, 16, 17, 18, 19, 20] (fun a8 => ([(3, .int .i64 a8)] : Slots)) (fun a8 R => R) (fun a8 => y6 = a8) Dels.nil ?_ ?_
  ·
   refine zat <| zbs (X := Nat × Int × Nat) [3, 4, 8, 9, 10, 11, 12, 13, 14, 15, 16, 17, 18, 19, 20] (fun ⟨n, x9, x10⟩ => ([(3, .int .i64 x9), (4, .int .i64 (((x10 : Nat) : Int)))] : Slots)) (fun ⟨n, x9, x10⟩ R => R) (fun ⟨n, x9, x10⟩ => zci l n x9 x10 = some y6) (fun ⟨n, x9, x10⟩ => n) ⟨FUEL, (0 : Int), 0⟩ ?_ ?_ eR ?_
   · exact hl4
   · exact ⟨rfl, rfl, True.intro⟩
   ·
    rintro ⟨n, x9, x10⟩ h
    cases n with
    | zero => exact zew h
    | succ n => ?_
    replace h : zc5 l (zci l n) x9 x10 = some y6 := h
    unfold zc5 at h
    show CJ _ _ _ _ _ (([(3, .int .i64 x9), (4, .int .i64 (((x10 : Nat) : Int)))] : Slots) ++ forget _ _) (_)
    refine zaf <| sR <| oM rfl rfl <| oM rfl rfl <| oV (V_len rfl foc0 rl Tryz.runUnderlying30) rfl <| oP (P_lss (a := ((x10 : Nat) : Int)) (b := ((l.length : Nat) : Int)) rfl rfl) rfl <| nT <| zbx rfl zaz (fun hg2 => ?_) (fun hg2 => ?_)
    ·
     replace h := ite_t hg2 h
     refine kT <| zaf <| zat <| zak <| oM rfl rfl <| oM rfl rfl <| oM rfl rfl <| oV (zan (i := x10) rfl rfl rfl (by omega) foc0 rl Tryz.runUnderlying30 Tryz.sizeOf37) rfl <| oP (za2 rfl ⟨_, _, _, Tryz.runUnderlying37, rfl, rfl, Tryz.sizeOf3, rfl⟩) rfl <| oV (za3 rfl rfl (by omega) foc0 rl rfl rfl Tryz.isAgg3) rfl ?_
     obtain ⟨hg3, h⟩ := zd1 h
     exact oP (P_add (a := x9) (b := ((l.getD x10 (⟨0, 0, ByteArray.empty, 0, false⟩ : api_Target))).Length) rfl rfl hg3) rfl <| oA rfl rfl <| za9 <| zal <| zav <| zak <| oM rfl rfl <| oP (PJ_eq (P_add (a := ((x10 : Nat) : Int)) (b := (1 : Int)) rfl rfl (by omega)) rfl) rfl <| oA rfl rfl <| za9 <| nR ⟨n, (x9 + ((l.getD x10 (⟨0, 0, ByteArray.empty, 0, false⟩ : api_Target))).Length), (x10 + 1)⟩ h ⟨rfl, rfl, True.intro⟩ eR
    ·
     replace h := ite_f hg2 h
     exact zbt <| za6 <| za7 <| za1 <| cR x9 (Option.some.inj h).symm ⟨rfl, True.intro⟩ eR
  ·
   rintro a8 hy11
   replace h := zf6 hK5 hy11
   show CJ _ _ _ _ _ (([(3, .int .i64 a8)] : Slots) ++ forget _ _) (_)
   refine sR <| oM rfl rfl <| oA rfl rfl <| nT <| zai ?_
   cases h
   exact fE (res1 Tryz.results84 rfl) () eR
def zc6 (l : List api_Target) (x9 : List ByteArray) (x11 : Nat) (rec : Bool → Nat → Option (Bool)) (x18 : Bool) (x19 : Nat) : Option (Bool) :=
  if (((x19 : Nat) : Int) < ((x9.length : Nat) : Int)) then
    if x18 = true then
      rec true (x19 + 1)
    else
      rec ((decide ((x9.getD x19 ByteArray.empty) = ((l.getD x11 (⟨0, 0, ByteArray.empty, 0, false⟩ : api_Target))).On))) (x19 + 1)
  else
    some x18
def zcj (l : List api_Target) (x9 : List ByteArray) (x11 : Nat) : Nat → Bool → Nat → Option (Bool)
  | 0, _, _ => none
  | n + 1, x18, x19 => zc6 l x9 x11 (zcj l x9 x11 n) x18 x19
def zc7 (l : List api_Target) (rec : (List ByteArray) → Nat → Option ((List ByteArray))) (x9 : List ByteArray) (x11 : Nat) : Option ((List ByteArray)) :=
  if (((x11 : Nat) : Int) < ((l.length : Nat) : Int)) then
    Option.bind (zcj l x9 x11 FUEL ((decide (((l.getD x11 (⟨0, 0, ByteArray.empty, 0, false⟩ : api_Target))).On = (ByteArray.mk #[])))) 0) fun a17 =>
    if (¬ a17 = true) then
      grd (inLen (x9.length + 1)) <|
      rec ((x9 ++ [((l.getD x11 (⟨0, 0, ByteArray.empty, 0, false⟩ : api_Target))).On])) (x11 + 1)
    else
      rec x9 (x11 + 1)
  else
    some x9
def zck (l : List api_Target) : Nat → (List ByteArray) → Nat → Option ((List ByteArray))
  | 0, _, _ => none
  | n + 1, x9, x11 => zc7 l (zck l n) x9 x11
def zdy (l : List api_Target) : Option ((List ByteArray)) :=
  Option.bind (zck l FUEL ([]) 0) fun a8 =>
  some a8
theorem zih {W : World} {Al : HP} {vl : Value} {l : List api_Target} {r : (List ByteArray)} (rl : Reads Al tyapi_Target vl l) (h : zdy l = some r) :
    CSpec Tryz.prog W 86 [vl] [Al] (fun x : Sl3 => x.v) (fun _ => True) (fun x F => Al :: sl tyS x.v r :: F) := by
 refine CSpec.of_body Tryz.func86 rfl Tryz.ntmps86 rfl fun F => ?_
 show CJ _ _ _ _ _ _ (_ :: F)
 unfold zdy at h
 refine zbl (zdm rl del0) fun hlen1 => sR <| oA rfl rfl <| nT <| sR <| oA rfl rfl <| nT <| zaf <| sR <| oA rfl rfl <| nT <| zbf (fun h hh => zb2 (t := tyS) h hh) ?_
 obtain ⟨y5, hl3, hK4⟩ := zia h
 refine zd8 (X := (List ByteArray) × Sl3) [3, 4, 5, 6, 7, 8, 9, 10, 11, 12, 13, 14, 15, 16, 17, 18, 19, 20, 21, 22, 23, 24, 25, 26, 27, 28, 29, 30, 31, 32, 33, 34, 35, 36, 37, 38, 39, 40, 41, 42, 43, 44, 45, 46, 47] (fun ⟨a8, hd7⟩ => ([(3, hd7.v)] : Slots)) (fun ⟨a8, hd7⟩ R => sl tyS hd7.v a8 :: R) (fun ⟨a8, hd7⟩ => y5 = a8) (Dels.cons del0 Dels.nil) ?_ ?_
 ·
  refine zat <| zbs (X := Nat × (List ByteArray) × Nat × Sl3) [3, 4, 5, 6, 7, 8, 9, 10, 11, 12, 13, 14, 15, 16, 17, 18, 19, 20, 21, 22, 23, 24, 25, 26, 27, 28, 29, 30, 31, 32, 33, 34, 35, 36, 37, 38, 39, 40, 41, 42, 43, 44, 45, 46, 47] (fun ⟨n, x9, x11, hd10⟩ => ([(3, hd10.v), (4, .int .i64 (((x11 : Nat) : Int)))] : Slots)) (fun ⟨n, x9, x11, hd10⟩ R => sl tyS hd10.v x9 :: R) (fun ⟨n, x9, x11, hd10⟩ => zck l n x9 x11 = some y5) (fun ⟨n, x9, x11, hd10⟩ => n) ⟨FUEL, [], 0, ⟨none, 0, 0⟩⟩ ?_ ?_ eR ?_
  · exact hl3
  · exact ⟨rfl, rfl, True.intro⟩
  ·
   rintro ⟨n, x9, x11, hd10⟩ h
   cases n with
   | zero => exact zew h
   | succ n => ?_
   replace h : zc7 l (zck l n) x9 x11 = some y5 := h
   unfold zc7 at h
   show CJ _ _ _ _ _ (([(3, hd10.v), (4, .int .i64 (((x11 : Nat) : Int)))] : Slots) ++ forget _ _) (sl tyS hd10.v x9 :: _)
   refine lC del0 fun hlen12 => zaf <| sR <| oM rfl rfl <| oM rfl rfl <| oV (V_len rfl foc1 rl Tryz.runUnderlying30) rfl <| oP (P_lss (a := ((x11 : Nat) : Int)) (b := ((l.length : Nat) : Int)) rfl rfl) rfl <| nT <| zbx rfl zaz (fun hg1 => ?_) (fun hg1 => ?_)
   ·
    replace h := ite_t hg1 h
    refine kT <| zaf <| zat <| sR <| oM rfl rfl <| oM rfl rfl <| oV (zan (i := x11) rfl rfl rfl (by omega) foc1 rl Tryz.runUnderlying30 Tryz.sizeOf37) rfl <| oP (za2 rfl ⟨_, _, _, Tryz.runUnderlying37, rfl, rfl, Tryz.sizeOf9, rfl⟩) rfl <| oV (za3 rfl rfl (by omega) foc1 rl rfl rfl Tryz.isAgg9) rfl <| oP (zcx (a := ((l.getD x11 (⟨0, 0, ByteArray.empty, 0, false⟩ : api_Target))).On) (b := (ByteArray.mk #[])) rfl rfl Tryz.underlying9) rfl <| oA rfl rfl <| nT <| zaf <| sR <| oA rfl rfl <| nT ?_
    obtain ⟨y15, hl13, hK14⟩ := zia h
    refine zd8 (X := Bool) [5, 6, 19, 20, 21, 22, 23, 24, 25, 26, 27, 28, 29, 30, 31, 32, 33, 34, 35, 36, 37] (fun a17 => ([(5, .bool a17)] : Slots)) (fun a17 R => R) (fun a17 => y15 = a17) Dels.nil ?_ ?_
    ·
     refine zat <| zbs (X := Nat × Bool × Nat) [5, 6, 19, 20, 21, 22, 23, 24, 25, 26, 27, 28, 29, 30, 31, 32, 33, 34, 35, 36, 37] (fun ⟨n, x18, x19⟩ => ([(5, .bool x18), (6, .int .i64 (((x19 : Nat) : Int)))] : Slots)) (fun ⟨n, x18, x19⟩ R => R) (fun ⟨n, x18, x19⟩ => zcj l x9 x11 n x18 x19 = some y15) (fun ⟨n, x18, x19⟩ => n) ⟨FUEL, (decide (((l.getD x11 (⟨0, 0, ByteArray.empty, 0, false⟩ : api_Target))).On = (ByteArray.mk #[]))), 0⟩ ?_ ?_ eR ?_
     · exact hl13
     · exact ⟨rfl, rfl, True.intro⟩
     ·
      rintro ⟨n, x18, x19⟩ h
      cases n with
      | zero => exact zew h
      | succ n => ?_
      replace h : zc6 l x9 x11 (zcj l x9 x11 n) x18 x19 = some y15 := h
      unfold zc6 at h
      show CJ _ _ _ _ _ (([(5, .bool x18), (6, .int .i64 (((x19 : Nat) : Int)))] : Slots) ++ forget _ _) (_)
      refine zaf <| sR <| oM rfl rfl <| oM rfl rfl <| oV (V_len rfl foc0 (Reads.sl _ _ _) Tryz.runUnderlying59) rfl <| oP (P_lss (a := ((x19 : Nat) : Int)) (b := ((x9.length : Nat) : Int)) rfl rfl) rfl <| nT <| zbx rfl zaz (fun hg2 => ?_) (fun hg2 => ?_)
      ·
       replace h := ite_t hg2 h
       refine kT <| zaf <| zat <| za0 0 (by kernel_rfl) rfl <| aN 0 1 rfl rfl (zag rfl) rfl <| aN 1 3 rfl rfl (zag rfl) rfl <| zsb 26 rfl Iff.rfl (fun hg3B hg3 => ?_) (fun hg3B hg3 => ?_)
       ·
        replace h := ite_t hg3 h
        exact aS 2 7 rfl rfl (GY_no rfl rfl rfl hg3B) rfl <| aS 3 15 rfl rfl (GY_no rfl rfl rfl hg3B) rfl <| aS 4 31 rfl rfl (GY_no rfl rfl rfl hg3B) rfl <| aS 5 63 rfl rfl (GY_no rfl rfl rfl hg3B) rfl <| aS 6 127 rfl rfl (GY_no rfl rfl rfl hg3B) rfl <| aS 7 255 rfl rfl (GY_no rfl rfl rfl hg3B) rfl <| aS 8 511 rfl rfl (GY_no rfl rfl rfl hg3B) rfl <| aS 9 1023 rfl rfl (GY_no rfl rfl rfl hg3B) rfl <| aS 10 2047 rfl rfl (GY_no rfl rfl rfl hg3B) rfl <| aS 11 4095 rfl rfl (GY_no rfl rfl rfl hg3B) rfl <| aN 12 8191 rfl rfl (zas rfl hg3B rfl) rfl <| aN 13 16383 rfl rfl (zbc rfl) rfl <| zcz (by kernel_rfl) <| zal <| zav <| zak <| oM rfl rfl <| oP (PJ_eq (P_add (a := ((x19 : Nat) : Int)) (b := (1 : Int)) rfl rfl (by omega)) rfl) rfl <| oA rfl rfl <| za9 <| nR ⟨n, true, (x19 + 1)⟩ h ⟨rfl, rfl, True.intro⟩ eR
       ·
        replace h := ite_f hg3 h
        refine aP 2 7 rfl rfl (zab rfl rfl rfl hg3B) (zag rfl) rfl <| aP 3 15 rfl rfl (zab rfl rfl rfl hg3B) (zag rfl) rfl <| aV 4 31 rfl rfl (zab rfl rfl rfl hg3B) eR (zan (i := x19) rfl rfl rfl (by omega) foc0 (Reads.sl _ _ _) Tryz.runUnderlying59 Tryz.sizeOf9) rfl <| aV 5 63 rfl rfl (zab rfl rfl rfl hg3B) eR (za3 rfl rfl (by omega) foc0 (Reads.sl _ _ _) rfl rfl Tryz.isAgg9) rfl <| aP 6 127 rfl rfl (zab rfl rfl rfl hg3B) (zag rfl) rfl <| aP 7 255 rfl rfl (zab rfl rfl rfl hg3B) (zag rfl) rfl <| aV 8 511 rfl rfl (zab rfl rfl rfl hg3B) eR (zan (i := x11) rfl rfl rfl (by omega) foc1 rl Tryz.runUnderlying30 Tryz.sizeOf37) rfl <| aP 9 1023 rfl rfl (zab rfl rfl rfl hg3B) (za2 rfl ⟨_, _, _, Tryz.runUnderlying37, rfl, rfl, Tryz.sizeOf9, rfl⟩) rfl <| aV 10 2047 rfl rfl (zab rfl rfl rfl hg3B) eR (za3 rfl rfl (by omega) foc1 rl rfl rfl Tryz.isAgg9) rfl <| aP 11 4095 rfl rfl (zab rfl rfl rfl hg3B) (zcx (a := (x9.getD x19 ByteArray.empty)) (b := ((l.getD x11 (⟨0, 0, ByteArray.empty, 0, false⟩ : api_Target))).On) rfl rfl Tryz.underlying9) rfl <| aN 12 8191 rfl rfl (zay rfl hg3B rfl) rfl <| aN 13 16383 rfl rfl (zbc rfl) rfl <| zcz (by kernel_rfl) <| zal <| zav <| zak <| oM rfl rfl <| oP (PJ_eq (P_add (a := ((x19 : Nat) : Int)) (b := (1 : Int)) rfl rfl (by omega)) rfl) rfl <| oA rfl rfl <| za9 ?_
        exact nR ⟨n, (decide ((x9.getD x19 ByteArray.empty) = ((l.getD x11 (⟨0, 0, ByteArray.empty, 0, false⟩ : api_Target))).On)), (x19 + 1)⟩ h ⟨rfl, rfl, True.intro⟩ eR
      ·
       replace h := ite_f hg2 h
       exact zbt <| za6 <| za7 <| za1 <| cR x18 (Option.some.inj h).symm ⟨rfl, True.intro⟩ eR
    ·
     rintro a17 hy20
     replace h := zf6 hK14 hy20
     show CJ _ _ _ _ _ (([(5, .bool a17)] : Slots) ++ forget _ _) (_)
     refine sR <| oM rfl rfl <| oP (P_not rfl) rfl <| nT <| zbx rfl (ziy Iff.rfl) (fun hg4 => ?_) (fun hg4 => ?_)
     ·
      replace h := ite_t hg4 h
      refine zak <| oM rfl rfl <| oM rfl rfl <| oM rfl rfl <| oV (zan (i := x11) rfl rfl rfl (by omega) foc1 rl Tryz.runUnderlying30 Tryz.sizeOf37) rfl <| oP (za2 rfl ⟨_, _, _, Tryz.runUnderlying37, rfl, rfl, Tryz.sizeOf9, rfl⟩) rfl <| oV (za3 rfl rfl (by omega) foc1 rl rfl rfl Tryz.isAgg9) rfl <| oO <| zbe rfl (zoe _) rfl fun b21 => ?_
      obtain ⟨hg5, h⟩ := zh9 h
      exact oO <| zbv (t := tyS) (bytes := 16) rfl rfl del1 foc0 (Reads.lit (t := tyS) (ys := [((l.getD x11 (⟨0, 0, ByteArray.empty, 0, false⟩ : api_Target))).On]) rfl rfl (by decide) (by decide) rfl) Tryz.underlying59 ziz (apl (m := 1) (b := 16) hg5 (by decide)).1 (apl (m := 1) (b := 16) hg5 (by decide)).2 rfl fun p23 c24 => oA rfl rfl <| za9 <| zal <| zav <| zak <| oM rfl rfl <| oP (PJ_eq (P_add (a := ((x11 : Nat) : Int)) (b := (1 : Int)) rfl rfl (by omega)) rfl) rfl <| oA rfl rfl <| za9 <| nR ⟨n, (x9 ++ [((l.getD x11 (⟨0, 0, ByteArray.empty, 0, false⟩ : api_Target))).On]), (x11 + 1), ⟨p23, (x9 ++ [((l.getD x11 (⟨0, 0, ByteArray.empty, 0, false⟩ : api_Target))).On]).length, c24⟩⟩ h ⟨rfl, rfl, True.intro⟩ (t0_ (t1_ (eD eR)))
     ·
      replace h := ite_f hg4 h
      exact zbk <| zal <| zav <| zak <| oM rfl rfl <| oP (PJ_eq (P_add (a := ((x11 : Nat) : Int)) (b := (1 : Int)) rfl rfl (by omega)) rfl) rfl <| oA rfl rfl <| za9 <| nR ⟨n, x9, (x11 + 1), hd10⟩ h ⟨rfl, rfl, True.intro⟩ eR
   ·
    replace h := ite_f hg1 h
    exact zbt <| za6 <| za7 <| za1 <| cR ⟨x9, hd10⟩ (Option.some.inj h).symm ⟨rfl, True.intro⟩ eR
 ·
  rintro ⟨a8, hd7⟩ hy25
  replace h := zf6 hK4 hy25
  show CJ _ _ _ _ _ (([(3, hd7.v)] : Slots) ++ forget _ _) (sl tyS hd7.v a8 :: _)
  refine lC del0 fun hlen26 => sR <| oM rfl rfl <| oA rfl rfl <| nT <| zai ?_
  cases h
  exact fE (res1 Tryz.results86 rfl) hd7 (t1_ eR)
def zc8 (l : List api_Target) (at_1 : Int) (rec : Nat → Option ((Unit) ⊕ (Int × Int × Bool))) (x12 : Nat) : Option ((Unit) ⊕ (Int × Int × Bool)) :=
  if (((x12 : Nat) : Int) < ((l.length : Nat) : Int)) then
    grd (inI64 ((((l.getD x12 (⟨0, 0, ByteArray.empty, 0, false⟩ : api_Target))).Start + ((l.getD x12 (⟨0, 0, ByteArray.empty, 0, false⟩ : api_Target))).Length))) <|
    lt ((((l.getD x12 (⟨0, 0, ByteArray.empty, 0, false⟩ : api_Target))).Start + ((l.getD x12 (⟨0, 0, ByteArray.empty, 0, false⟩ : api_Target))).Length)) fun w13 =>
    if (at_1 < w13) then
      grd (inI64 ((at_1 - ((l.getD x12 (⟨0, 0, ByteArray.empty, 0, false⟩ : api_Target))).Start))) <|
      some (.inr ((((x12 : Nat) : Int), (at_1 - ((l.getD x12 (⟨0, 0, ByteArray.empty, 0, false⟩ : api_Target))).Start), true)))
    else
      rec (x12 + 1)
  else
    some (.inl ())
def zcl (l : List api_Target) (at_1 : Int) : Nat → Nat → Option ((Unit) ⊕ (Int × Int × Bool))
  | 0, _ => none
  | n + 1, x12 => zc8 l at_1 (zcl l at_1 n) x12
def zdz (l : List api_Target) (at_1 : Int) : Option (Int × Int × Bool) :=
  Option.bind (zcr l) fun r2 =>
  if ((r2 ≠ (0 : Int)) ∨ (at_1 < (0 : Int))) then
    some (((0 : Int), (0 : Int), false))
  else
    seqO (zcl l at_1 FUEL 0) fun a11 =>
    some (((0 : Int), (0 : Int), false))
theorem zfy {W : World} {Al : HP} {vl : Value} {l : List api_Target} {at_1 : Int} {r : Int × Int × Bool} (rl : Reads Al tyapi_Target vl l) (h : zdz l at_1 = some r) :
    CSpec Tryz.prog W 87 [vl, .int .i64 at_1] [Al] (fun x : Unit => .tuple #[.int .i64 r.1, .int .i64 r.2.1, .bool r.2.2]) (fun _ => True) (fun x F => Al :: F) := by
 refine CSpec.of_body Tryz.func87 rfl Tryz.ntmps87 rfl fun F => ?_
 show CJ _ _ _ _ _ _ (_ :: F)
 unfold zdz at h
 refine zbl (zdm rl del0) fun hlen1 => sR <| oA rfl rfl <| oA rfl rfl <| oA rfl rfl <| nT <| zaf <| sR <| oM rfl rfl ?_
 obtain ⟨r2, hr3, h⟩ := zdl h
 refine oO <| zaq (zed rl hr3) rfl Tryz.call75 (Dels.cons del0 Dels.nil) rfl fun _ _ => oP (P_neq (a := r2) (b := (0 : Int)) rfl rfl) rfl <| oM rfl rfl <| zb6 rfl rfl rfl (fun hG4 => have hP5 : ¬ (r2 ≠ (0 : Int)) := nP (zaz) hG4; VJ_P (zag rfl)) <| zb6 rfl rfl rfl (fun hG6 => have hP7 : ¬ (r2 ≠ (0 : Int)) := nP (zaz) hG6; VJ_P (P_lss (a := at_1) (b := (0 : Int)) (mbx hG6 rfl) rfl)) <| oP (zeo rfl rfl (fun hh => mbx (not_f hh) rfl)) rfl <| nT <| zbx rfl (bT_or zaz zaz) (fun hg1 => ?_) (fun hg1 => ?_)
 ·
  replace h := ite_t hg1 h
  refine sR <| oA rfl rfl <| oA rfl rfl <| oA rfl rfl <| nT <| zai <| zad ?_
  cases h
  exact fE (res3 Tryz.results87 rfl rfl rfl) () eR
 ·
  replace h := ite_f hg1 h
  refine kT <| zaf <| sR <| oA rfl rfl <| nT ?_
  obtain ⟨y10, hl8, hK9⟩ := seq_e h
  refine zd8 (X := Unit) [4, 5, 6, 7, 15, 16, 17, 18, 19, 20, 21, 22, 23, 24, 25, 26, 27, 28, 29, 30, 31, 32, 33, 34, 35, 36, 37, 38, 39, 40, 41] (fun _ => ([] : Slots)) (fun _ R => R) (fun _ => y10 = .inl ()) Dels.nil ?_ ?_
  ·
   refine zat <| zbs (X := Nat × Nat) [4, 5, 6, 7, 15, 16, 17, 18, 19, 20, 21, 22, 23, 24, 25, 26, 27, 28, 29, 30, 31, 32, 33, 34, 35, 36, 37, 38, 39, 40, 41] (fun ⟨n, x12⟩ => ([(7, .int .i64 (((x12 : Nat) : Int)))] : Slots)) (fun ⟨n, x12⟩ R => R) (fun ⟨n, x12⟩ => zcl l at_1 n x12 = some y10) (fun ⟨n, x12⟩ => n) ⟨FUEL, 0⟩ ?_ ?_ eR ?_
   · exact hl8
   · exact ⟨rfl, True.intro⟩
   ·
    rintro ⟨n, x12⟩ h
    cases n with
    | zero => exact zew h
    | succ n => ?_
    replace h : zc8 l at_1 (zcl l at_1 n) x12 = some y10 := h
    unfold zc8 at h
    show CJ _ _ _ _ _ (([(7, .int .i64 (((x12 : Nat) : Int)))] : Slots) ++ forget _ _) (_)
    refine zaf <| sR <| oM rfl rfl <| oM rfl rfl <| oV (V_len rfl foc0 rl Tryz.runUnderlying30) rfl <| oP (P_lss (a := ((x12 : Nat) : Int)) (b := ((l.length : Nat) : Int)) rfl rfl) rfl <| nT <| zbx rfl zaz (fun hg2 => ?_) (fun hg2 => ?_)
    ·
     replace h := ite_t hg2 h
     refine kT <| zaf <| zat <| zaf <| za0 0 (by kernel_rfl) rfl <| aN 0 1 rfl rfl (zag rfl) rfl <| aN 1 3 rfl rfl (zag rfl) rfl <| aN 2 7 rfl rfl (zag rfl) rfl <| aV 3 15 rfl rfl (zac rfl) eR (zan (i := x12) rfl rfl rfl (by omega) foc0 rl Tryz.runUnderlying30 Tryz.sizeOf37) rfl <| aN 4 31 rfl rfl (za2 rfl ⟨_, _, _, Tryz.runUnderlying37, rfl, rfl, Tryz.sizeOf3, rfl⟩) rfl <| aV 5 63 rfl rfl (zac rfl) eR (za3 rfl rfl (by omega) foc0 rl rfl rfl Tryz.isAgg3) rfl <| aN 6 127 rfl rfl (zag rfl) rfl <| aN 7 255 rfl rfl (zag rfl) rfl <| aV 8 511 rfl rfl (zac rfl) eR (zan (i := x12) rfl rfl rfl (by omega) foc0 rl Tryz.runUnderlying30 Tryz.sizeOf37) rfl <| aN 9 1023 rfl rfl (za2 rfl ⟨_, _, _, Tryz.runUnderlying37, rfl, rfl, Tryz.sizeOf3, rfl⟩) rfl <| aV 10 2047 rfl rfl (zac rfl) eR (za3 rfl rfl (by omega) foc0 rl rfl rfl Tryz.isAgg3) rfl ?_
     obtain ⟨hg3, h⟩ := zd1 h
     refine aN 11 4095 rfl rfl (P_add (a := ((l.getD x12 (⟨0, 0, ByteArray.empty, 0, false⟩ : api_Target))).Start) (b := ((l.getD x12 (⟨0, 0, ByteArray.empty, 0, false⟩ : api_Target))).Length) rfl rfl hg3) rfl ?_
     obtain ⟨w13, hw13, h⟩ := lt_e h
     rw [← hw13]
     refine aN 12 8191 rfl rfl (P_lss (a := at_1) (b := w13) rfl rfl) rfl <| aD <| zbx rfl zaz (fun hg4 => ?_) (fun hg4 => ?_)
     ·
      replace h := ite_t hg4 h
      refine zaf <| za0 0 (by kernel_rfl) rfl <| aN 0 1 rfl rfl (zag rfl) rfl <| aN 1 3 rfl rfl (zag rfl) rfl <| aN 2 7 rfl rfl (zag rfl) rfl <| aN 3 15 rfl rfl (zag rfl) rfl <| aV 4 31 rfl rfl (zac rfl) eR (zan (i := x12) rfl rfl rfl (by omega) foc0 rl Tryz.runUnderlying30 Tryz.sizeOf37) rfl <| aN 5 63 rfl rfl (za2 rfl ⟨_, _, _, Tryz.runUnderlying37, rfl, rfl, Tryz.sizeOf3, rfl⟩) rfl <| aV 6 127 rfl rfl (zac rfl) eR (za3 rfl rfl (by omega) foc0 rl rfl rfl Tryz.isAgg3) rfl ?_
      obtain ⟨hg5, h⟩ := zd1 h
      refine aN 7 255 rfl rfl (P_sub (a := at_1) (b := ((l.getD x12 (⟨0, 0, ByteArray.empty, 0, false⟩ : api_Target))).Start) rfl rfl hg5) rfl <| aN 8 511 rfl rfl (zbc rfl) rfl <| aN 9 1023 rfl rfl (zbc rfl) rfl <| aN 10 2047 rfl rfl (zbc rfl) rfl <| aD <| zai <| zaj <| zad <| zbd <| zaj <| zad ?_
      have hE := Option.some.inj h
      replace hE := zee hK9 hE.symm
      subst hE
      exact fE (res3 Tryz.results87 rfl rfl rfl) () eR
     ·
      replace h := ite_f hg4 h
      exact zbk <| zal <| zav <| zak <| oM rfl rfl <| oP (PJ_eq (P_add (a := ((x12 : Nat) : Int)) (b := (1 : Int)) rfl rfl (by omega)) rfl) rfl <| oA rfl rfl <| za9 <| nR ⟨n, (x12 + 1)⟩ h ⟨rfl, True.intro⟩ eR
    ·
     replace h := ite_f hg2 h
     exact zbt <| za6 <| za7 <| za1 <| cR () (Option.some.inj h).symm True.intro eR
  ·
   rintro _ hy14
   replace h := zhz hK9 hy14
   show CJ _ _ _ _ _ (([] : Slots) ++ forget _ _) (_)
   refine sR <| oA rfl rfl <| oA rfl rfl <| oA rfl rfl <| nT <| zai ?_
   cases h
   exact fE (res3 Tryz.results87 rfl rfl rfl) () eR
end Go.Proofs
set_option linter.unusedSimpArgs false
set_option linter.unusedVariables false
set_option maxRecDepth 20000
set_option maxHeartbeats 4000000
namespace Go.Proofs
open Go.VG
@[ext] structure api_Task where
  Kind : Int
  At : Int
  Value : UInt64
  deriving DecidableEq
@[ext] structure api_Answer where
  Done : Bool
  Ticket : Int
  Value : UInt64
  Error : Int
  deriving DecidableEq
abbrev zau : Ty api_Answer := { T := 51, sz := 4, enc := fun x => [.bool x.Done, .int .i64 x.Ticket, .int .u64 (x.Value.toNat : Int), .int .i64 x.Error], dflt := ⟨false, 0, 0, 0⟩, len := fun _ => rfl, one := fun _ => rfl, pos := by decide }
theorem zcm : ElemOk Tryz.prog zau 32 := ⟨Tryz.t51, .agg #[.bool false, .int .i64 0, .int .u64 0, .int .i64 0], by kernel_rfl, rfl, rfl, rfl, rfl⟩
end Go.Proofs
namespace Go.Proofs
structure Wt where
  tk : Nat
  gv : Nat
  t : api_Task
deriving DecidableEq
structure Dv where
  gone : Bool
  isB : Bool
  name : ByteArray
  base : List UInt64
  live : List api_Target
  new : List api_Target
  hl : Bool
  hn : Bool
  susp : Bool
  wait : List Wt
abbrev noN : ByteArray := ByteArray.mk #[]
abbrev tgt0 : api_Target := ⟨0, 0, ByteArray.empty, 0, false⟩
abbrev tsk0 : api_Task := ⟨0, 0, 0⟩
def Wt.z : Wt := ⟨0, 0, tsk0⟩
abbrev ans0 : api_Answer := ⟨false, 0, 0, 0⟩
def Dv.z : Dv := ⟨false, false, ByteArray.empty, [], [], [], false, false, false, []⟩
structure Md where
  dv : List Dv
  tks : Nat
  told : List api_Answer
  cl : Nat
  wr : Nat
def Md.at (m : Md) (k : Nat) : Dv := m.dv.getD k Dv.z
def Md.set (m : Md) (k : Nat) (d : Dv) : Md := { m with dv := m.dv.set k d }
def chkGo : List api_Target → Int → Int
  | [], _ => 0
  | t :: l, s =>
    if t.Start ≠ s then 2
    else if t.Length < 1 ∨ 16777216 < t.Length then 1
    else if (t.Fail = true ∧ t.On ≠ noN) ∨ (t.On = noN ∧ t.Offset ≠ 0) then 2
    else if t.Offset < 0 ∨ 16777216 - t.Length < t.Offset then 1
    else chkGo l (s + t.Length)
def chk (l : List api_Target) : Int := if 64 < l.length then 4 else chkGo l 0
def tsum : List api_Target → Int
  | [] => 0
  | t :: l => t.Length + tsum l
def tsize (l : List api_Target) : Int := if chk l = 0 then tsum l else 0
def zfs : List api_Target → Nat → Int → Option (Nat × Int)
  | [], _, _ => none
  | t :: l, i, a => if a < t.Start + t.Length then some (i, a - t.Start) else zfs l (i + 1) a
def tfind (l : List api_Target) (a : Int) : Option (Nat × Int) := if chk l ≠ 0 ∨ a < 0 then none else zfs l 0 a
def memS (p : List ByteArray) (n : ByteArray) : Bool := p.any fun x => decide (x = n)
def zek : List api_Target → List ByteArray → List ByteArray
  | [], o => o
  | t :: l, o => zek l (if t.On = noN ∨ memS o t.On = true then o else o ++ [t.On])
def tuses (l : List api_Target) : List ByteArray := zek l []
def nam (l : List api_Target) (n : ByteArray) : Bool := l.any fun t => decide (t.On = n ∧ n ≠ noN)
namespace Md
def isN (d : Dv) (n : ByteArray) : Bool := !d.gone && decide (d.name = n)
def find (m : Md) (n : ByteArray) : Option Nat := m.dv.findIdx? fun d => isN d n
def dev (m : Md) (n : ByteArray) : Option Nat := (m.find n).bind fun k => if (m.at k).isB then none else some k
def names (m : Md) : List ByteArray := (m.dv.filter fun d => !d.gone).map (·.name)
def freshE (m : Md) (n : ByteArray) : Int := if n.size < 1 ∨ 40 < n.size then 10 else if (m.find n).isSome then 9 else 0
def addE (m : Md) (n : ByteArray) : Int := if m.freshE n ≠ 0 then m.freshE n else if 256 ≤ m.names.length then 4 else 0
def addS (m : Md) (d : Dv) : Md := if m.addE d.name = 0 then { m with dv := m.dv ++ [d] } else m
def crE (m : Md) (n : ByteArray) : Int := m.addE n
def crS (m : Md) (n : ByteArray) : Md := m.addS { Dv.z with name := n }
def baS (m : Md) (n : ByteArray) (size : Nat) : Md := m.addS { Dv.z with name := n, isB := true, base := List.replicate size 0 }
def usesD (d : Dv) (n : ByteArray) : Bool := !d.gone && (nam d.live n || nam d.new n)
def users (m : Md) (n : ByteArray) : Nat := m.dv.countP fun d => usesD d n
def busy (m : Md) (k : Nat) : Bool := decide ((m.at k).wait ≠ []) || m.dv.any fun d => d.wait.any fun w => decide (w.gv = k)
def size (m : Md) (k : Nat) : Int := if (m.at k).isB then ((m.at k).base.length : Int) else tsize (m.at k).live
def sizeN (m : Md) (n : ByteArray) : Int := match m.find n with
  | none => 0
  | some k => m.size k
def fits (m : Md) (l : List api_Target) : Bool := l.all fun t => decide (t.On = noN ∨ t.Offset + t.Length ≤ m.sizeN t.On)
def reach (m : Md) (k : Nat) : Nat → ByteArray → Bool
  | 0, _ => false
  | f + 1, n => match m.find n with
    | none => false
    | some i => decide (i = k) || ((m.at i).live ++ (m.at i).new).any fun t => decide (t.On ≠ noN) && reach m k f t.On
def ldE (m : Md) (n : ByteArray) (l : List api_Target) : Int := match m.dev n with
  | none => 12
  | some k =>
    if chk l ≠ 0 then chk l
    else if l.any (fun t => decide (t.On ≠ noN) && (m.find t.On).isNone) then 12
    else if l.any (fun t => decide (t.On ≠ noN) && m.reach k (m.dv.length + 1) t.On) then 21
    else if m.fits l then 0 else 1
def ldS (m : Md) (n : ByteArray) (l : List api_Target) : Md := match m.dev n with
  | none => m
  | some k => if m.ldE n l = 0 then m.set k { m.at k with new := l, hn := true } else m
def way (m : Md) : Nat → Nat → api_Task → Option Nat
  | 0, _, _ => none
  | f + 1, k, t =>
    if (m.at k).isB then none
    else if (m.at k).susp then some k
    else if t.Kind = 3 then (tuses (m.at k).live).findSome? fun n => (m.find n).bind fun j => way m f j t
    else match tfind (m.at k).live t.At with
      | none => none
      | some (i, o) =>
        let x := (m.at k).live.getD i tgt0
        if x.On = noN then none else (m.find x.On).bind fun j => way m f j { t with At := x.Offset + o }
def wayk (m : Md) (k : Nat) (t : api_Task) : Option Nat := m.way (m.dv.length + 1) k t
def carry (m : Md) : Nat → Nat → api_Task → (UInt64 × Int) × Md
  | 0, _, _ => ((0, 0), m)
  | f + 1, k, t =>
    if t.Kind = 3 then ((0, 0), m)
    else if t.At < 0 ∨ m.size k ≤ t.At then ((0, 1), m)
    else if (m.at k).isB then
      if t.Kind = 2 then ((0, 0), { m.set k { m.at k with base := (m.at k).base.set t.At.toNat t.Value } with wr := m.wr + 1 }) else (((m.at k).base.getD t.At.toNat 0, 0), m)
    else match tfind (m.at k).live t.At with
      | none => ((0, 1), m)
      | some (i, o) =>
        let x := (m.at k).live.getD i tgt0
        if x.Fail then ((0, 7), m)
        else if x.On = noN then ((0, if t.Kind = 2 then 22 else 0), m)
        else match m.find x.On with
          | none => ((0, 1), m)
          | some j => carry m f j { t with At := x.Offset + o }
def carryk (m : Md) (k : Nat) (t : api_Task) : (UInt64 × Int) × Md := m.carry (m.dv.length + 1) k t
def addW (m : Md) (k : Nat) (w : Wt) : Md := m.set k { m.at k with wait := (m.at k).wait ++ [w] }
def doE (m : Md) (n : ByteArray) (t : api_Task) : Int := match m.find n with
  | none => 12
  | some k => if t.Kind < 1 ∨ 3 < t.Kind then 17 else if (m.at k).isB = false ∧ (m.at k).hl = false ∧ (m.at k).susp = false then 20 else 0
def doA (m : Md) (n : ByteArray) (t : api_Task) : api_Answer := if m.doE n t ≠ 0 then ans0 else match m.find n with
  | none => ans0
  | some k => match m.wayk k t with
    | some _ => ⟨false, ((m.tks + 1 : Nat) : Int), 0, 0⟩
    | none => ⟨true, 0, (m.carryk k t).1.1, (m.carryk k t).1.2⟩
def doS (m : Md) (n : ByteArray) (t : api_Task) : Md := if m.doE n t ≠ 0 then m else match m.find n with
  | none => m
  | some k => match m.wayk k t with
    | some w => { m with tks := m.tks + 1 }.addW w ⟨m.tks + 1, k, t⟩
    | none => (m.carryk k t).2
def suE (m : Md) (n : ByteArray) : Int := match m.dev n with
  | none => 12
  | some k => if (m.at k).susp = true ∨ (m.wayk k ⟨3, 0, 0⟩).isSome then 20 else 0
def suS (m : Md) (n : ByteArray) : Md := match m.dev n with
  | none => m
  | some k => if m.suE n = 0 then m.set k { m.at k with susp := true } else m
def needs (m : Md) (k : Nat) (z : Int) : Bool := m.dv.all fun d => d.gone || (d.live ++ d.new).all fun t => decide (t.On ≠ (m.at k).name ∨ t.Offset + t.Length ≤ z)
def rsE (m : Md) (n : ByteArray) : Int := match m.dev n with
  | none => 12
  | some k =>
    let d := m.at k
    if d.susp = false ∨ (d.hl = false ∧ d.hn = false) then 20
    else if d.hn = true ∧ (m.needs k (tsize d.new) = false ∨ m.fits d.new = false) then 1
    else 0
def rsT (m : Md) (x : Wt) : Md := match m.wayk x.gv x.t with
  | some w => m.addW w x
  | none => { (m.carryk x.gv x.t).2 with told := (m.carryk x.gv x.t).2.told ++ [⟨true, (x.tk : Int), (m.carryk x.gv x.t).1.1, (m.carryk x.gv x.t).1.2⟩] }
def rsX (d : Dv) : Dv := if d.hn then { d with live := d.new, hl := true, new := [], hn := false } else d
def rsS (m : Md) (n : ByteArray) : Md := match m.dev n with
  | none => m
  | some k => if m.rsE n = 0 then (m.at k).wait.foldl rsT (m.set k { rsX (m.at k) with susp := false, wait := [] }) else m
def anS (m : Md) : Md := { m with told := [] }
end Md
end Go.Proofs
namespace Go.Proofs
open Go.VG
theorem dropD {α : Type} {l : List α} {i : Nat} (d : α) (h : i < l.length) : l.drop i = l.getD i d :: l.drop (i + 1) := by
  rw [List.drop_eq_getElem_cons h]; simp [List.getD, h]
theorem in64 {x : Int} (h : -9223372036854775808 ≤ x ∧ x ≤ 9223372036854775807) : inI64 x = true := inI64_iff.2 h
theorem zjh {n : Nat} (h : n ≤ 1000000000) : inLen n = true := by unfold inLen; exact Nat.ble_eq_true_of_le h
def errS (e : Int) : Unit ⊕ Int := if e = 0 then .inl () else .inr e
section
variable {l : List api_Target}
theorem zud : ∀ (N x : Nat) (s : Int), l.length - x < N → x ≤ l.length → l.length ≤ 64 → 0 ≤ s → s ≤ (x : Int) * 16777216 →
    zd9 l N x s = some (errS (chkGo (l.drop x) s)) := by
  intro N
  induction N with
  | zero => intro x s h; omega
  | succ N ih =>
    intro x s h1 h2 h3 h4 h5
    simp only [zd9, ze9]
    by_cases hx : x < l.length
    · rw [if_pos (by omega), dropD tgt0 hx]
      simp only [chkGo]
      generalize l.getD x tgt0 = t
      by_cases c1 : t.Start ≠ s
      · rw [if_pos c1, if_pos c1]; rfl
      · rw [if_neg c1, if_neg c1]
        by_cases c2 : t.Length < 1 ∨ 16777216 < t.Length
        · rw [if_pos c2, if_pos c2]; rfl
        · rw [if_neg c2, if_neg c2]
          by_cases c3 : (t.Fail = true ∧ t.On ≠ noN) ∨ t.On = noN ∧ t.Offset ≠ 0
          · rw [if_pos c3]
            rw [if_pos c3]; rfl
          · rw [if_neg c3]
            rw [if_neg c3]
            by_cases c4 : t.Offset < 0 ∨ 16777216 - t.Length < t.Offset
            · rw [if_pos c4, if_pos c4]; rfl
            · rw [if_neg c4, if_neg c4]
              have hb : x * 16777216 ≤ 64 * 16777216 := Nat.mul_le_mul_right _ (by omega)
              rw [in64 (by omega)]
              exact ih (x + 1) _ (by omega) hx h3 (by omega) (by omega)
    · rw [if_neg (by omega), List.drop_eq_nil_of_le (by omega)]; rfl
theorem zl2 : zfk l = some (chk l) := by
  unfold zfk chk
  by_cases h : 64 < l.length
  · rw [if_pos (by omega), if_pos h]
  · rw [if_neg (by omega), if_neg h]
    have hF := zec
    generalize FUEL = N at hF ⊢
    rw [zud N 0 0 (by omega) (by omega) (by omega) (by omega) (by omega), List.drop_zero]
    unfold errS
    by_cases c : chkGo l 0 = 0
    · rw [if_pos c, c]; rfl
    · rw [if_neg c]; rfl
theorem zue {p : List ByteArray} {n : ByteArray} : ∀ (N x : Nat), p.length - x < N → x ≤ p.length →
    zcq p n N x = some (match (p.drop x).findIdx? (fun y => decide (y = n)) with | some j => .inr ((x + j : Nat) : Int) | none => .inl ()) := by
  intro N
  induction N with
  | zero => intro x h; omega
  | succ N ih =>
    intro x h1 h2
    simp only [zcq, zdg]
    by_cases hx : x < p.length
    · rw [if_pos (by omega), dropD ByteArray.empty hx, List.findIdx?_cons]
      by_cases c : n = p.getD x ByteArray.empty
      · rw [if_pos c, if_pos (by simp [c])]; rfl
      · rw [if_neg c, if_neg (by simp; exact fun h => c h.symm), ih (x + 1) (by omega) hx]
        cases (p.drop (x + 1)).findIdx? (fun y => decide (y = n)) with
        | none => rfl
        | some j => simp; omega
    · rw [if_neg (by omega), List.drop_eq_nil_of_le (by omega)]; rfl
def idxS (p : List ByteArray) (n : ByteArray) : Int := match p.findIdx? (fun y => decide (y = n)) with | some j => (j : Int) | none => -1
theorem zuf {p : List ByteArray} {n : ByteArray} (h : p.length ≤ 1000000000) : zdn p n = some (idxS p n) := by
  unfold zdn idxS
  have hF := zec
  generalize FUEL = N at hF ⊢
  rw [zue N 0 (by omega) (by omega), List.drop_zero]
  cases p.findIdx? (fun y => decide (y = n)) with
  | none => rfl
  | some j => simp [seqO]
theorem mem_memS {p : List ByteArray} {n : ByteArray} : memS p n = true ↔ n ∈ p := by unfold memS; simp
theorem zug {p : List ByteArray} {n : ByteArray} : 0 ≤ idxS p n ↔ n ∈ p := by
  unfold idxS
  cases h : p.findIdx? (fun y => decide (y = n)) with
  | none =>
    rw [List.findIdx?_eq_none_iff] at h
    constructor
    · intro h2; simp at h2
    · intro h2; have := h n h2; simp at this
  | some j =>
    obtain ⟨hj, h2, _⟩ := List.findIdx?_eq_some_iff_getElem.1 h
    have h3 : p[j] = n := by simpa using h2
    exact ⟨fun _ => h3 ▸ List.getElem_mem hj, fun _ => by simp⟩
theorem zfl {p : List ByteArray} {n : ByteArray} (h : p.length ≤ 1000000000) : zc4 p n = some (memS p n) := by
  unfold zc4
  rw [zuf h, Option.bind_some]
  refine congrArg some ?_
  rw [Bool.eq_iff_iff, decide_eq_true_iff, mem_memS]; exact zug
theorem zmz : ∀ (l : List api_Target) (o : List ByteArray), (zek l o).length ≤ o.length + l.length
  | [], o => Nat.le_refl _
  | t :: l, o => by
    have := zmz l (if t.On = noN ∨ memS o t.On = true then o else o ++ [t.On])
    have h2 : (if t.On = noN ∨ memS o t.On = true then o else o ++ [t.On]).length ≤ o.length + 1 := by split <;> simp
    simp only [zek, List.length_cons]; omega
theorem zv0 : ∀ (N x : Nat) (o : List ByteArray), l.length - x < N → x ≤ l.length → o.length ≤ x → l.length ≤ 1000000 →
    zeh l N o x = some (zek (l.drop x) o) := by
  intro N
  induction N with
  | zero => intro x o h; omega
  | succ N ih =>
    intro x o h1 h2 h3 h4
    simp only [zeh, zfo]
    by_cases hx : x < l.length
    · rw [if_pos (by omega), dropD tgt0 hx]
      simp only [zek]
      generalize l.getD x tgt0 = t
      by_cases c1 : t.On ≠ noN
      · refine (if_pos c1).trans ?_
        rw [zfl (by omega), Option.bind_some]
        by_cases c2 : memS o t.On = true
        · rw [if_neg (by simp [c2]), ih (x + 1) o (by omega) hx (by omega) h4, if_pos (.inr c2)]
        · rw [if_pos (by simp [c2]), zjh (by omega)]
          refine (ih (x + 1) _ (by omega) hx (by simp; omega) h4).trans ?_
          rw [if_neg (fun h => h.elim c1 c2)]
      · have c1' : t.On = noN := Classical.not_not.1 c1
        refine (if_neg c1).trans ?_
        rw [ih (x + 1) o (by omega) hx (by omega) h4, if_pos (.inl c1')]
    · rw [if_neg (by omega), List.drop_eq_nil_of_le (by omega)]; rfl
theorem zi1 (h : l.length ≤ 1000000) : zhr l = some (tuses l) := by
  unfold zhr tuses
  have hF := zec
  generalize FUEL = N at hF ⊢
  rw [zv0 N 0 [] (by omega) (by omega) (by simp) h, List.drop_zero]; rfl
end
end Go.Proofs
namespace Go.Proofs
open Go.VG
section
variable {l : List api_Target}
theorem zrk {t : api_Target} {s : Int} (h : chkGo (t :: l) s = 0) : t.Start = s ∧ 1 ≤ t.Length ∧ t.Length ≤ 16777216 ∧ 0 ≤ t.Offset ∧ t.Offset ≤ 16777216 - t.Length ∧ chkGo l (s + t.Length) = 0 := by
  simp only [chkGo] at h
  split at h
  · cases h
  · rename_i c1
    split at h
    · cases h
    · rename_i c2
      split at h
      · cases h
      · split at h
        · cases h
        · rename_i c4
          exact ⟨Classical.not_not.1 c1, by omega, by omega, by omega, by omega, h⟩
theorem zgh : ∀ (l : List api_Target) (s : Int), chkGo l s = 0 → ∀ i, i < l.length → (l.getD i tgt0).Start = s + tsum (l.take i) ∧ 1 ≤ (l.getD i tgt0).Length ∧ (l.getD i tgt0).Length ≤ 16777216 ∧ 0 ≤ (l.getD i tgt0).Offset ∧ (l.getD i tgt0).Offset ≤ 16777216 - (l.getD i tgt0).Length
  | [], _, _, i, hi => by simp at hi
  | t :: l, s, h, i, hi => by
    obtain ⟨h1, h2, h3, h4, h5, h6⟩ := zrk h
    cases i with
    | zero => exact ⟨by simp [tsum, h1], h2, h3, h4, h5⟩
    | succ i =>
      obtain ⟨g1, g2⟩ := zgh l _ h6 i (by simpa using hi)
      simp only [List.getD_cons_succ, List.take_succ_cons, tsum]
      exact ⟨by omega, g2⟩
theorem zg7 : ∀ (a : List api_Target) (t : api_Target), tsum (a ++ [t]) = tsum a + t.Length
  | [], t => by simp [tsum]
  | x :: a, t => by simp only [List.cons_append, tsum, zg7 a t]; omega
theorem takeD {α : Type} {l : List α} {i : Nat} (d : α) (h : i < l.length) : l.take (i + 1) = l.take i ++ [l.getD i d] := by
  rw [List.take_add_one, List.getElem?_eq_getElem h]; simp [List.getD, h]
theorem zft (h : chkGo l 0 = 0) : ∀ i, i ≤ l.length → 0 ≤ tsum (l.take i) ∧ tsum (l.take i) ≤ (i : Int) * 16777216
  | 0, _ => by simp [tsum]
  | i + 1, hi => by
    obtain ⟨g1, g2⟩ := zft h i (by omega)
    have := zgh l 0 h i (by omega)
    rw [takeD tgt0 (by omega), zg7]; omega
theorem zkj (h : chkGo l 0 = 0) {i : Nat} : ∀ j, i ≤ j → j ≤ l.length → tsum (l.take i) + ((j : Int) - (i : Int)) ≤ tsum (l.take j)
  | 0, hi, _ => by obtain rfl : i = 0 := by omega
                   simp
  | j + 1, hi, hj => by
    rcases Nat.lt_or_ge i (j + 1) with h1 | h1
    · have g := zkj h (i := i) j (by omega) (by omega)
      have := zgh l 0 h j (by omega)
      rw [takeD tgt0 (show j < l.length by omega), zg7]; omega
    · obtain rfl : i = j + 1 := by omega
      omega
def tend (l : List api_Target) (i : Nat) : Int := tsum (l.take (i + 1))
theorem zi2 (h : chkGo l 0 = 0) {i : Nat} (hi : i < l.length) : (l.getD i tgt0).Start + (l.getD i tgt0).Length = tend l i := by
  unfold tend
  rw [takeD tgt0 hi, zg7]; have := zgh l 0 h i hi; omega
theorem zql (h : chkGo l 0 = 0) {i j : Nat} (hij : i < j) (hj : j < l.length) : tend l i < tend l j := by
  have := zkj h (i := i + 1) (j + 1) (by omega) (by omega)
  unfold tend; omega
theorem zb0 (h : chk l = 0) : l.length ≤ 64 ∧ chkGo l 0 = 0 := by
  unfold chk at h
  split at h
  · cases h
  · exact ⟨by omega, h⟩
theorem zk4 (h : chk l = 0) : 0 ≤ tsum l ∧ tsum l ≤ 1073741824 := by
  obtain ⟨h1, h2⟩ := zb0 h
  have := zft h2 l.length (Nat.le_refl _)
  rw [List.take_length] at this; omega
theorem zqm (h : chk l = 0) : zfw l = some (tsum l) := by
  obtain ⟨h1, h2⟩ := zb0 h
  unfold zfw
  cases l with
  | nil => rfl
  | cons t r =>
    rw [if_neg (by simp; omega)]
    have e : ((((t :: r).length : Nat) : Int) - 1).toNat = r.length := by simp
    simp only [lt, e]
    have h3 := zi2 (l := t :: r) h2 (i := r.length) (by simp)
    have h4 := zk4 h
    have h5 : tend (t :: r) r.length = tsum (t :: r) := by unfold tend; rw [List.take_of_length_le (by simp)]
    rw [h5] at h3
    rw [h3, in64 (by omega)]; rfl
theorem zh1 : zhs l = some (tsize l) := by
  unfold zhs tsize
  rw [zl2, Option.bind_some]
  by_cases h : chk l = 0
  · rw [if_neg (by simpa using h), zqm h, if_pos h]; rfl
  · rw [if_pos h, if_neg h]
theorem half' {a : Nat} (h : a ≤ 1000000000) : IntKind.i64.wrap ((zef (zd2 (a : Int)) 1).toNat : Int) = ((a / 2 : Nat) : Int) := by
  have h1 := zj7 (a : Int)
  have h2 : (zd2 (a : Int)).toNat = a := by omega
  have e : (zef (zd2 (a : Int)) 1).toNat = a / 2 := by rw [zjt, h2]; rfl
  rw [e, zg5 (by omega) (by omega)]
theorem zsw (h : chkGo l 0 = 0) (hl : l.length ≤ 64) {a : Int} : ∀ (N i j : Nat), j - i < N → i ≤ j → j ≤ l.length → (∀ q, q < i → tend l q ≤ a) → (∀ q, j ≤ q → q < l.length → a < tend l q) →
    ∃ r : Nat, zcb l a N (i : Int) (j : Int) = some (r : Int) ∧ r ≤ l.length ∧ (∀ q, q < r → tend l q ≤ a) ∧ (∀ q, r ≤ q → q < l.length → a < tend l q) := by
  intro N
  induction N with
  | zero => intro i j h1; omega
  | succ N ih =>
    intro i j h1 h2 h3 h4 h5
    simp only [zcb, zcu]
    by_cases hij : i < j
    · rw [if_pos (by omega), in64 (by omega)]
      have e : ((i : Int) + (j : Int)) = ((i + j : Nat) : Int) := by omega
      simp only [grd, e, half' (show i + j ≤ 1000000000 by omega), cond_true]
      have hm : (i + j) / 2 < l.length := by omega
      have e2 : zfr (((i + j) / 2 : Nat) : Int) l a = some (decide (a < tend l ((i + j) / 2))) := by
        unfold zfr
        have g := zi2 h hm
        have g2 := zft h ((i + j) / 2 + 1) (by omega)
        unfold tend at g
        simp only [grd, Int.toNat_natCast, lt]
        rw [show (decide (0 ≤ (((i + j) / 2 : Nat) : Int) ∧ (((i + j) / 2 : Nat) : Int) < (l.length : Int))) = true by simp; omega]
        simp only [cond_true]
        show (bif inI64 ((l.getD ((i + j) / 2) tgt0).Start + (l.getD ((i + j) / 2) tgt0).Length) then some (decide (a < (l.getD ((i + j) / 2) tgt0).Start + (l.getD ((i + j) / 2) tgt0).Length)) else none) = some (decide (a < tsum (l.take ((i + j) / 2 + 1))))
        generalize (l.getD ((i + j) / 2) tgt0).Start + (l.getD ((i + j) / 2) tgt0).Length = z at g ⊢
        subst g
        rw [in64 (by omega)]
        rfl
      rw [e2, Option.bind_some]
      by_cases c : a < tend l ((i + j) / 2)
      · rw [if_neg (by simpa using c)]
        refine ih i ((i + j) / 2) (by omega) (by omega) (by omega) h4 fun q g1 g2 => ?_
        rcases Nat.lt_or_ge ((i + j) / 2) q with g | g
        · have := zql h g g2; omega
        · obtain rfl : q = (i + j) / 2 := by omega
          exact c
      · rw [if_pos (by simpa using c), in64 (by omega)]
        have e3 : ((((i + j) / 2 : Nat) : Int) + 1) = (((i + j) / 2 + 1 : Nat) : Int) := by omega
        simp only [cond_true, lt, e3]
        refine ih ((i + j) / 2 + 1) j (by omega) (by omega) h3 (fun q g1 => ?_) h5
        rcases Nat.lt_or_ge q ((i + j) / 2) with g | g
        · have := zql h g hm; omega
        · obtain rfl : q = (i + j) / 2 := by omega
          omega
    · rw [if_neg (by omega)]
      obtain rfl : i = j := by omega
      exact ⟨i, rfl, h3, h4, h5⟩
theorem zof (h : chkGo l 0 = 0) {a : Int} {r : Nat} (hr : r < l.length) (h1 : ∀ q, q < r → tend l q ≤ a) (h2 : a < tend l r) : ∀ (m i : Nat), i + m = r → zfs (l.drop i) i a = some (r, a - (l.getD r tgt0).Start)
  | 0, i, e => by
    obtain rfl : i = r := by omega
    have := zi2 h hr
    rw [dropD tgt0 hr]; simp only [zfs]
    rw [if_pos (by omega)]
  | m + 1, i, e => by
    have hi : i < l.length := by omega
    have := zi2 h hi
    have := h1 i (by omega)
    rw [dropD tgt0 hi]; simp only [zfs]
    rw [if_neg (by omega)]
    exact zof h hr h1 h2 m (i + 1) (by omega)
theorem zls (h : chkGo l 0 = 0) {a : Int} (h1 : ∀ q, q < l.length → tend l q ≤ a) : ∀ (m i : Nat), i + m = l.length → zfs (l.drop i) i a = none
  | 0, i, e => by rw [List.drop_eq_nil_of_le (by omega)]; rfl
  | m + 1, i, e => by
    have hi : i < l.length := by omega
    have := zi2 h hi
    have := h1 i (by omega)
    rw [dropD tgt0 hi]; simp only [zfs]
    rw [if_neg (by omega)]
    exact zls h h1 m (i + 1) (by omega)
def zez (o : Option (Nat × Int)) : Int × Int × Bool := match o with | some (i, a) => ((i : Int), a, true) | none => (0, 0, false)
theorem zhv (h : chk l = 0) {a : Int} (ha : 0 ≤ a) : (tsum l ≤ a ∧ tfind l a = none) ∨ ∃ r, r < l.length ∧ (∀ q, q < r → tend l q ≤ a) ∧ a < tend l r ∧ a < tsum l ∧ tfind l a = some (r, a - (l.getD r tgt0).Start) := by
  obtain ⟨h1, h2⟩ := zb0 h
  have e : tfind l a = zfs l 0 a := by unfold tfind; rw [if_neg (by simp [h]; exact ha)]
  rcases (show a < tsum l ∨ tsum l ≤ a by omega) with g | g
  · -- the first one
    have : ∃ r, r < l.length ∧ (∀ q, q < r → tend l q ≤ a) ∧ a < tend l r := by
      have key : ∀ n, n ≤ l.length → (∀ q, q < n → tend l q ≤ a) ∨ ∃ r, r < l.length ∧ (∀ q, q < r → tend l q ≤ a) ∧ a < tend l r := by
        intro n
        induction n with
        | zero => intro _; exact .inl fun q hq => by omega
        | succ n ih =>
          intro hn
          rcases ih (by omega) with g1 | g1
          · by_cases c : a < tend l n
            · exact .inr ⟨n, hn, g1, c⟩
            · refine .inl fun q hq => ?_
              rcases Nat.lt_or_ge q n with g2 | g2
              · exact g1 q g2
              · obtain rfl : q = n := by omega
                omega
          · exact .inr g1
      rcases key l.length (Nat.le_refl _) with g1 | g1
      · exfalso
        cases hl : l.length with
        | zero => rw [List.eq_nil_of_length_eq_zero hl] at g; simp [tsum] at g; omega
        | succ n =>
          have := g1 n (by omega)
          unfold tend at this
          rw [List.take_of_length_le (by omega)] at this; omega
      · exact g1
    obtain ⟨r, g1, g2, g3⟩ := this
    exact .inr ⟨r, g1, g2, g3, g, by rw [e]; exact zof h2 g1 g2 g3 r 0 (by omega)⟩
  · refine .inl ⟨g, ?_⟩
    rw [e]
    refine zls h2 (fun q hq => ?_) l.length 0 (by omega)
    have := zkj h2 (i := q + 1) l.length (by omega) (Nat.le_refl _)
    rw [List.take_length] at this; unfold tend; omega
theorem zqn {a : Int} : zhu l a = some (zez (tfind l a)) := by
  unfold zhu
  rw [zl2, Option.bind_some]
  by_cases h : chk l ≠ 0 ∨ a < 0
  · rw [if_pos h]; unfold tfind; rw [if_pos h]; rfl
  · rw [if_neg h]
    have h0 : chk l = 0 := Classical.not_not.1 fun y => h (.inl y)
    have ha : 0 ≤ a := by omega
    have hb := zk4 h0
    obtain ⟨h1, h2⟩ := zb0 h0
    rw [zqm h0, Option.bind_some]
    rcases zhv h0 ha with ⟨g1, g2⟩ | ⟨r, g1, g2, g3, g4, g5⟩
    · rw [if_pos g1, g2]; rfl
    · rw [if_neg (by omega), g5]
      unfold zht zde
      have hF := zec
      generalize FUEL = N at hF ⊢
      obtain ⟨r', q1, q2, q3, q4⟩ := zsw h2 h1 (a := a) N 0 l.length (by omega) (by omega) (Nat.le_refl _) (fun q hq => by omega) (fun q h3 h4 => by omega)
      have e0 : ((0 : Nat) : Int) = 0 := rfl
      rw [e0] at q1
      have er : r' = r := by
        rcases Nat.lt_trichotomy r' r with g | g | g
        · have := g2 r' g; have := q4 r' (Nat.le_refl _) (by omega); omega
        · exact g
        · have := q3 r g; omega
      subst er
      rw [q1]
      simp only [Option.bind_some, grd, Int.toNat_natCast, lt]
      have hs := zgh l 0 h2 r' g1
      have hs2 := zft h2 r' (by omega)
      rw [show decide (0 ≤ (r' : Int) ∧ (r' : Int) < (l.length : Int)) = true by simp; omega]
      have hg : inI64 (a - (l.getD r' tgt0).Start) = true := in64 (by omega)
      exact (congrArg (fun b => Option.bind (bif b then some ((r' : Int), a - (l.getD r' tgt0).Start) else none) fun r10 => some (r10.1, r10.2, true)) hg).trans rfl
end
end Go.Proofs
namespace Go.Proofs
open Go.VG
section
variable {l : List api_Target}
theorem zsx : ∀ (N x : Nat) (s : Int), l.length - x < N → x ≤ l.length → l.length ≤ 64 → 0 ≤ s → s ≤ (x : Int) * 16777216 →
    zcf l N s x = some (errS (chkGo (l.drop x) s)) := by
  intro N
  induction N with
  | zero => intro x s h; omega
  | succ N ih =>
    intro x s h1 h2 h3 h4 h5
    simp only [zcf, zc2]
    by_cases hx : x < l.length
    · rw [if_pos (by omega), dropD tgt0 hx]
      simp only [chkGo]
      generalize l.getD x tgt0 = t
      by_cases c1 : t.Start ≠ s
      · rw [if_pos c1, if_pos c1]; rfl
      · rw [if_neg c1, if_neg c1]
        by_cases c2 : t.Length < 1 ∨ 16777216 < t.Length
        · rw [if_pos c2, if_pos c2]; rfl
        · rw [if_neg c2, if_neg c2]
          by_cases c3 : (t.Fail = true ∧ t.On ≠ noN) ∨ t.On = noN ∧ t.Offset ≠ 0
          · rw [if_pos c3]
            rw [if_pos c3]; rfl
          · rw [if_neg c3]
            rw [if_neg c3]
            by_cases c4 : t.Offset < 0 ∨ 16777216 - t.Length < t.Offset
            · rw [if_pos c4, if_pos c4]; rfl
            · rw [if_neg c4, if_neg c4]
              have hb : x * 16777216 ≤ 64 * 16777216 := Nat.mul_le_mul_right _ (by omega)
              rw [in64 (by omega)]
              exact ih (x + 1) _ (by omega) hx h3 (by omega) (by omega)
    · rw [if_neg (by omega), List.drop_eq_nil_of_le (by omega)]; rfl
theorem zkk : zcr l = some (chk l) := by
  unfold zcr chk
  by_cases h : 64 < l.length
  · rw [if_pos (by omega), if_pos h]
  · rw [if_neg (by omega), if_neg h]
    have hF := zec
    generalize FUEL = N at hF ⊢
    rw [zsx N 0 0 (by omega) (by omega) (by omega) (by omega) (by omega), List.drop_zero]
    unfold errS
    by_cases c : chkGo l 0 = 0
    · rw [if_pos c, c]; rfl
    · rw [if_neg c]; rfl
theorem zuh (h : chkGo l 0 = 0) (hl : l.length ≤ 64) : ∀ (N x : Nat), l.length - x < N → x ≤ l.length → zci l N (tsum (l.take x)) x = some (tsum l) := by
  intro N
  induction N with
  | zero => intro x h; omega
  | succ N ih =>
    intro x h1 h2
    simp only [zci, zc5]
    by_cases hx : x < l.length
    · rw [if_pos (by omega)]
      have g := ih (x + 1) (by omega) hx
      have hb := zft h (x + 1) hx
      rw [takeD tgt0 hx, zg7] at g hb
      have e1 : inI64 (tsum (l.take x) + (l.getD x tgt0).Length) = true := in64 (by omega)
      show grd (inI64 (tsum (l.take x) + (l.getD x tgt0).Length)) _ = _
      rw [e1]
      exact g
    · rw [if_neg (by omega), List.take_of_length_le (by omega)]
theorem zpf : zdx l = some (tsize l) := by
  unfold zdx tsize
  rw [zkk, Option.bind_some]
  by_cases h : chk l = 0
  · obtain ⟨h1, h2⟩ := zb0 h
    rw [if_neg (by simpa using h), if_pos h]
    have hF := zec
    generalize FUEL = N at hF ⊢
    have g := zuh h2 h1 N 0 (by omega) (by omega)
    rw [List.take_zero] at g
    rw [show (0 : Int) = tsum [] from rfl, g]; rfl
  · rw [if_pos h, if_neg h]
theorem zui {o : List ByteArray} {x : Nat} : ∀ (N k : Nat) (b : Bool), o.length - k < N → k ≤ o.length → zcj l o x N b k = some (b || memS (o.drop k) (l.getD x tgt0).On) := by
  intro N
  induction N with
  | zero => intro k b h; omega
  | succ N ih =>
    intro k b h1 h2
    simp only [zcj, zc6]
    by_cases hk : k < o.length
    · rw [if_pos (by omega), dropD ByteArray.empty hk]
      cases b
      · rw [if_neg (by simp), ih (k + 1) _ (by omega) hk]
        simp [memS]
      · rw [if_pos rfl, ih (k + 1) _ (by omega) hk]; simp
    · rw [if_neg (by omega), List.drop_eq_nil_of_le (by omega)]; simp [memS]
theorem zuj : ∀ (N x : Nat) (o : List ByteArray), l.length - x < N → x ≤ l.length → o.length ≤ x → l.length ≤ 1000000 →
    zck l N o x = some (zek (l.drop x) o) := by
  intro N
  induction N with
  | zero => intro x o h; omega
  | succ N ih =>
    intro x o h1 h2 h3 h4
    simp only [zck, zc7]
    by_cases hx : x < l.length
    · have hF := zec
      rw [if_pos (by omega), zui FUEL 0 _ (by omega) (by omega), List.drop_zero, dropD tgt0 hx, Option.bind_some]
      simp only [zek]
      generalize l.getD x tgt0 = t
      by_cases c : t.On = noN ∨ memS o t.On = true
      · rw [if_pos c, if_neg (by rw [Bool.or_eq_true, decide_eq_true_iff]; exact fun y => y c), ih (x + 1) o (by omega) hx (by omega) h4]
      · rw [if_neg c, if_pos (by rw [Bool.or_eq_true, decide_eq_true_iff]; exact c), zjh (by omega)]
        exact ih (x + 1) _ (by omega) hx (by simp; omega) h4
    · rw [if_neg (by omega), List.drop_eq_nil_of_le (by omega)]; rfl
theorem zuk (h : l.length ≤ 1000000) : zdy l = some (tuses l) := by
  unfold zdy tuses
  have hF := zec
  generalize FUEL = N at hF ⊢
  rw [zuj N 0 [] (by omega) (by omega) (by simp) h, List.drop_zero]; rfl
end
end Go.Proofs
namespace Go.Proofs
namespace Md
def tbl (d : Dv) : List api_Target := d.live ++ d.new
end Md
def inT (t : api_Task) : Prop := -9223372036854775808 ≤ t.At ∧ t.At ≤ 9223372036854775807
structure MdOk (m : Md) : Prop where
  uniq : ∀ i j, i < m.dv.length → j < m.dv.length → (m.at i).gone = false → (m.at j).gone = false → (m.at i).name = (m.at j).name → i = j
  nm : ∀ i, i < m.dv.length → (m.at i).gone = false → (m.at i).name ≠ noN
  chk : ∀ i, chk (m.at i).live = 0 ∧ chk (m.at i).new = 0
  nam : ∀ i, i < m.dv.length → (m.at i).gone = false → ∀ t ∈ Md.tbl (m.at i), t.On ≠ noN → (m.find t.On).isSome
  acy : ∃ rk : Nat → Nat, ∀ i, i < m.dv.length → (m.at i).gone = false → ∀ t ∈ Md.tbl (m.at i), ∀ j, m.find t.On = some j → rk j < rk i
  bas : ∀ i, (m.at i).isB = true → (m.at i).live = [] ∧ (m.at i).new = [] ∧ (m.at i).wait = [] ∧ (m.at i).hl = false ∧ (m.at i).hn = false ∧ (m.at i).susp = false ∧ (m.at i).base.length ≤ 65536
  hl : ∀ i, (m.at i).hl = false → (m.at i).live = []
  hn : ∀ i, (m.at i).hn = false → (m.at i).new = []
  org : ∀ i, i < m.dv.length → ∀ w ∈ (m.at i).wait, (m.at i).gone = false ∧ w.gv < m.dv.length ∧ (m.at w.gv).gone = false ∧ (m.at w.gv).isB = false ∧ 1 ≤ w.t.Kind ∧ w.t.Kind ≤ 3 ∧ inT w.t
structure MdBig (m : Md) : Prop where
  len : m.dv.length ≤ 10000
  wl : ∀ i, (m.at i).wait.length ≤ 100000
  tks : m.tks ≤ 100000
  told : m.told.length ≤ 100000000
  wr : m.wr ≤ 100000000
def Md.wsum (m : Md) : Nat := (m.dv.map fun d => d.wait.length).sum
theorem zlt : ∀ (l : List Dv) (i : Nat), (l.getD i Dv.z).wait.length ≤ (l.map fun d => d.wait.length).sum
  | [], i => by simp [Dv.z]
  | d :: l, 0 => by simp
  | d :: l, i + 1 => by have := zlt l i; simp only [List.getD_cons_succ, List.map_cons, List.sum_cons]; omega
theorem zib : ∀ (l : List Dv) (k : Nat) (d' : Dv), k < l.length → ((l.set k d').map fun d => d.wait.length).sum + (l.getD k Dv.z).wait.length = (l.map fun d => d.wait.length).sum + d'.wait.length
  | [], _, _, h => by cases h
  | d :: l, 0, d', _ => by simp; omega
  | d :: l, k + 1, d', h => by
    have := zib l k d' (by simpa using h)
    simp only [List.set_cons_succ, List.getD_cons_succ, List.map_cons, List.sum_cons]; omega
theorem Md.wait_le (m : Md) (i : Nat) : (m.at i).wait.length ≤ m.wsum := zlt m.dv i
structure MdBd (m : Md) : Prop where
  wl : m.wsum ≤ m.tks
  tks : m.tks ≤ m.cl
  told : m.told.length ≤ 4000 * m.cl
  wr : m.wr ≤ 4000 * m.cl
  len : m.dv.length ≤ m.cl + 2
  cl : m.cl ≤ 4000
theorem MdBd.big {m : Md} (h : MdBd m) : MdBig m := by
  have h1 := h.tks; have h2 := h.told; have h3 := h.wr; have h4 := h.len; have h5 := h.cl
  exact ⟨by omega, fun i => by have := h.wl; have := m.wait_le i; omega, by omega, by omega, by omega⟩
end Go.Proofs
namespace Go.VG
set_option linter.unusedSectionVars false
end Go.VG
set_option linter.unusedSimpArgs false
set_option linter.unusedVariables false
set_option maxRecDepth 20000
set_option maxHeartbeats 4000000
namespace Go.Proofs
open Go.VG
def zhd (x_0_a : ArrS) (x_0_d : Int) (x_0_start : Int) (x_0_length : Int) : Option (Int) :=
  some x_0_length
theorem zm0 {W : World} {bx_0 : Nat} {bx_0_a : Nat} {x_0_a : ArrS} {x_0_d : Int} {x_0_start : Int} {x_0_length : Int} {r : Int} (h : zhd x_0_a x_0_d x_0_start x_0_length = some r) :
    CSpec Tryz.prog W 148 [ptr bx_0 0] [blkR bx_0 161 [ptr bx_0_a 0, .int .i64 x_0_d, .int .i64 x_0_start, .int .i64 x_0_length], Arr bx_0_a x_0_a] (fun x : Unit => .int .i64 r) (fun _ => True) (fun x F => blkR bx_0 161 [ptr bx_0_a 0, .int .i64 x_0_d, .int .i64 x_0_start, .int .i64 x_0_length] :: Arr bx_0_a x_0_a :: F) := by
 refine CSpec.of_body Tryz.func148 rfl Tryz.ntmps148 rfl fun F => ?_
 show CJ _ _ _ _ _ _ (_ :: _ :: F)
 unfold zhd at h
 refine sR <| oA rfl rfl <| nT <| sR <| oM rfl rfl <| oP (zae rfl) rfl <| oP (zaa rfl ⟨_, _, _, Tryz.runUnderlying161, rfl, rfl, Tryz.sizeOf3, rfl⟩) rfl <| oV (zex rfl foc0 rfl Tryz.isAgg3) rfl <| oA rfl rfl <| nT <| zai ?_
 cases h
 exact fE (res1 Tryz.results148 rfl) () eR
def zdh (size : Int) (at_1 : Int) (n_2 : Int) : Option (Bool) :=
  some (((((decide ((0 : Int) ≤ at_1)) && (decide (at_1 ≤ size))) && (decide ((0 : Int) ≤ n_2))) && (decide (n_2 ≤ (IntKind.i64.wrap (size - at_1))))))
theorem zgu {W : World} {size : Int} {at_1 : Int} {n_2 : Int} {r : Bool} (h : zdh size at_1 n_2 = some r) :
    CSpec Tryz.prog W 92 [.int .i64 size, .int .i64 at_1, .int .i64 n_2] [] (fun x : Unit => .bool r) (fun _ => True) (fun x F => F) := by
 refine CSpec.of_body Tryz.func92 rfl Tryz.ntmps92 rfl fun F => ?_
 show CJ _ _ _ _ _ _ (F)
 unfold zdh at h
 refine sR <| oA rfl rfl <| nT <| sR <| oM rfl rfl <| oP (P_geq (a := at_1) (b := (0 : Int)) rfl rfl) rfl <| oM rfl rfl <| zc3 rfl rfl rfl (fun hG1 => have hP2 : ((0 : Int) ≤ at_1) := (zaz).1 hG1; VJ_P (zag rfl)) <| zc3 rfl rfl rfl (fun hG3 => have hP4 : ((0 : Int) ≤ at_1) := (zaz).1 hG3; VJ_P (zag rfl)) <| zc3 rfl rfl rfl (fun hG5 => have hP6 : ((0 : Int) ≤ at_1) := (zaz).1 hG5; VJ_P (P_leq (a := at_1) (b := size) (mbx hG5 rfl) (mbx hG5 rfl))) <| oP (zej rfl (fun hh => mbx hh rfl) rfl) rfl <| oM rfl rfl <| zc3 rfl rfl rfl (fun hG7 => have hP8 : (((0 : Int) ≤ at_1) ∧ (at_1 ≤ size)) := ((zb8 zaz zaz)).1 hG7; VJ_P (zag rfl)) <| zc3 rfl rfl rfl (fun hG9 => have hP10 : (((0 : Int) ≤ at_1) ∧ (at_1 ≤ size)) := ((zb8 zaz zaz)).1 hG9; VJ_P (P_geq (a := n_2) (b := (0 : Int)) (mbx hG9 rfl) rfl)) <| oP (zej rfl (fun hh => mbx hh rfl) rfl) rfl <| oM rfl rfl <| zc3 rfl rfl rfl (fun hG11 => have hP12 : ((((0 : Int) ≤ at_1) ∧ (at_1 ≤ size)) ∧ ((0 : Int) ≤ n_2)) := ((zb8 (zb8 zaz zaz) zaz)).1 hG11; VJ_P (zag rfl)) <| zc3 rfl rfl rfl (fun hG13 => have hP14 : ((((0 : Int) ≤ at_1) ∧ (at_1 ≤ size)) ∧ ((0 : Int) ≤ n_2)) := ((zb8 (zb8 zaz zaz) zaz)).1 hG13; VJ_P (zag rfl)) <| zc3 rfl rfl rfl (fun hG15 => have hP16 : ((((0 : Int) ≤ at_1) ∧ (at_1 ≤ size)) ∧ ((0 : Int) ≤ n_2)) := ((zb8 (zb8 zaz zaz) zaz)).1 hG15; VJ_P (zag rfl)) ?_
 refine zc3 rfl rfl rfl (fun hG17 => have hP18 : ((((0 : Int) ≤ at_1) ∧ (at_1 ≤ size)) ∧ ((0 : Int) ≤ n_2)) := ((zb8 (zb8 zaz zaz) zaz)).1 hG17; VJ_P (P_subW (a := size) (b := at_1) (mbx hG17 rfl) (mbx hG17 rfl))) <| zc3 rfl rfl rfl (fun hG19 => have hP20 : ((((0 : Int) ≤ at_1) ∧ (at_1 ≤ size)) ∧ ((0 : Int) ≤ n_2)) := ((zb8 (zb8 zaz zaz) zaz)).1 hG19; VJ_P (P_leq (a := n_2) (b := (IntKind.i64.wrap (size - at_1))) (mbx hG19 rfl) (mbx hG19 rfl))) <| oP (zej rfl (fun hh => mbx hh rfl) rfl) rfl <| oA rfl rfl <| nT <| zai ?_
 cases h
 exact fE (res1 Tryz.results92 rfl) () eR
def zff (x_0_a : ArrS) (x_0_d : Int) (x_0_start : Int) (x_0_length : Int) (at_1 : Int) : Option (UInt64 × Int) :=
  Option.bind (zdh x_0_length at_1 (1 : Int)) fun r1 =>
  if (¬ r1 = true) then
    some (((0 : UInt64), (1 : Int)))
  else
    grd (inI64 (x_0_start + at_1)) <|
    some (((rdV x_0_a x_0_d (x_0_start + at_1)), (rdC x_0_a x_0_d (x_0_start + at_1))))
theorem zm1 {W : World} {bx_0 : Nat} {bx_0_a : Nat} {x_0_a : ArrS} {x_0_d : Int} {x_0_start : Int} {x_0_length : Int} {at_1 : Int} {r : UInt64 × Int} (h : zff x_0_a x_0_d x_0_start x_0_length at_1 = some r) :
    CSpec Tryz.prog W 147 [ptr bx_0 0, .int .i64 at_1] [blkR bx_0 161 [ptr bx_0_a 0, .int .i64 x_0_d, .int .i64 x_0_start, .int .i64 x_0_length], Arr bx_0_a x_0_a] (fun x : Unit => .tuple #[.int .u64 (r.1.toNat : Int), .int .i64 r.2]) (fun _ => True) (fun x F => blkR bx_0 161 [ptr bx_0_a 0, .int .i64 x_0_d, .int .i64 x_0_start, .int .i64 x_0_length] :: Arr bx_0_a x_0_a :: F) := by
 refine CSpec.of_body Tryz.func147 rfl Tryz.ntmps147 rfl fun F => ?_
 show CJ _ _ _ _ _ _ (_ :: _ :: F)
 unfold zff at h
 refine sR <| oA rfl rfl <| oA rfl rfl <| nT <| zaf <| sR <| oM rfl rfl <| oP (zae rfl) rfl <| oP (zaa rfl ⟨_, _, _, Tryz.runUnderlying161, rfl, rfl, Tryz.sizeOf3, rfl⟩) rfl <| oV (zex rfl foc0 rfl Tryz.isAgg3) rfl <| oM rfl rfl ?_
 obtain ⟨r1, hr2, h⟩ := zdl h
 refine oO <| zaq (zgu hr2) rfl Tryz.call92 Dels.nil rfl fun _ _ => oP (P_not rfl) rfl <| nT <| zbx rfl (ziy Iff.rfl) (fun hg1 => ?_) (fun hg1 => ?_)
 ·
  replace h := ite_t hg1 h
  refine sR <| oA rfl rfl <| oA rfl rfl <| nT <| zai <| zad ?_
  cases h
  exact fE (res2 Tryz.results147 rfl rfl) () eR
 ·
  replace h := ite_f hg1 h
  refine kT <| zaf <| za0 16384 (by kernel_rfl) rfl <| aN 0 1 rfl rfl (zag rfl) rfl <| aN 1 3 rfl rfl (zae rfl) rfl <| aN 2 7 rfl rfl (zaa rfl ⟨_, _, _, Tryz.runUnderlying161, rfl, rfl, Tryz.sizeOf65, rfl⟩) rfl <| aV 3 15 rfl rfl (zac rfl) eR (zex rfl foc0 rfl Tryz.isAgg65) rfl <| aN 4 31 rfl rfl (zag rfl) rfl <| aN 5 63 rfl rfl (zae rfl) rfl <| aN 6 127 rfl rfl (zaa rfl ⟨_, _, _, Tryz.runUnderlying161, rfl, rfl, Tryz.sizeOf3, rfl⟩) rfl <| aV 7 255 rfl rfl (zac rfl) eR (zex rfl foc0 rfl Tryz.isAgg3) rfl <| aN 8 511 rfl rfl (zag rfl) rfl <| aN 9 1023 rfl rfl (zae rfl) rfl <| aN 10 2047 rfl rfl (zaa rfl ⟨_, _, _, Tryz.runUnderlying161, rfl, rfl, Tryz.sizeOf3, rfl⟩) rfl <| aV 11 4095 rfl rfl (zac rfl) eR (zex rfl foc0 rfl Tryz.isAgg3) rfl <| aN 12 8191 rfl rfl (zag rfl) rfl ?_
  obtain ⟨hg2, h⟩ := zd1 h
  refine aN 13 16383 rfl rfl (P_add (a := x_0_start) (b := at_1) rfl rfl hg2) rfl <| AJ_op 14 32767 rfl (by kernel_rfl) rfl (zac rfl) <| zaq (c_Read) rfl Tryz.call132 (Dels.cons del1 Dels.nil) rfl fun _ _ => ⟨fun h => absurd h (by decide), ?_⟩
  refine aN 15 65535 rfl rfl (zaw rfl rfl) rfl <| aN 16 131071 rfl rfl (zaw rfl rfl) rfl <| aN 17 262143 rfl rfl (zbc rfl) rfl <| aN 18 524287 rfl rfl (zbc rfl) rfl <| aD <| zai ?_
  cases h
  exact fE (res2 Tryz.results147 rfl rfl) () (t1_ eR)
def ze0 (x_0_a : ArrS) (x_0_d : Int) (x_0_start : Int) (x_0_length : Int) (at_1 : Int) (v : UInt64) : Option (Int × ArrS) :=
  Option.bind (zdh x_0_length at_1 (1 : Int)) fun r1 =>
  if (¬ r1 = true) then
    some (((1 : Int), x_0_a))
  else
    grd (inI64 (x_0_start + at_1)) <|
    grd (inLen x_0_a.writes) <|
    some (((wrR x_0_a x_0_d (x_0_start + at_1)), (wrS x_0_a x_0_d (x_0_start + at_1) v)))
theorem zl3 {W : World} {bx_0 : Nat} {bx_0_a : Nat} {x_0_a : ArrS} {x_0_d : Int} {x_0_start : Int} {x_0_length : Int} {at_1 : Int} {v : UInt64} {r : Int × ArrS} (h : ze0 x_0_a x_0_d x_0_start x_0_length at_1 v = some r) :
    CSpec Tryz.prog W 149 [ptr bx_0 0, .int .i64 at_1, .int .u64 (v.toNat : Int)] [blkR bx_0 161 [ptr bx_0_a 0, .int .i64 x_0_d, .int .i64 x_0_start, .int .i64 x_0_length], Arr bx_0_a x_0_a] (fun x : Unit => .int .i64 r.1) (fun _ => True) (fun x F => blkR bx_0 161 [ptr bx_0_a 0, .int .i64 x_0_d, .int .i64 x_0_start, .int .i64 x_0_length] :: Arr bx_0_a r.2 :: F) := by
 refine CSpec.of_body Tryz.func149 rfl Tryz.ntmps149 rfl fun F => ?_
 show CJ _ _ _ _ _ _ (_ :: _ :: F)
 unfold ze0 at h
 refine sR <| oA rfl rfl <| nT <| zaf <| sR <| oM rfl rfl <| oP (zae rfl) rfl <| oP (zaa rfl ⟨_, _, _, Tryz.runUnderlying161, rfl, rfl, Tryz.sizeOf3, rfl⟩) rfl <| oV (zex rfl foc0 rfl Tryz.isAgg3) rfl <| oM rfl rfl ?_
 obtain ⟨r1, hr2, h⟩ := zdl h
 refine oO <| zaq (zgu hr2) rfl Tryz.call92 Dels.nil rfl fun _ _ => oP (P_not rfl) rfl <| nT <| zbx rfl (ziy Iff.rfl) (fun hg1 => ?_) (fun hg1 => ?_)
 ·
  replace h := ite_t hg1 h
  refine sR <| oA rfl rfl <| nT <| zai <| zad ?_
  cases h
  exact fE (res1 Tryz.results149 rfl) () eR
 ·
  replace h := ite_f hg1 h
  refine kT <| zaf <| za0 32768 (by kernel_rfl) rfl <| aN 0 1 rfl rfl (zag rfl) rfl <| aN 1 3 rfl rfl (zae rfl) rfl <| aN 2 7 rfl rfl (zaa rfl ⟨_, _, _, Tryz.runUnderlying161, rfl, rfl, Tryz.sizeOf65, rfl⟩) rfl <| aV 3 15 rfl rfl (zac rfl) eR (zex rfl foc0 rfl Tryz.isAgg65) rfl <| aN 4 31 rfl rfl (zag rfl) rfl <| aN 5 63 rfl rfl (zae rfl) rfl <| aN 6 127 rfl rfl (zaa rfl ⟨_, _, _, Tryz.runUnderlying161, rfl, rfl, Tryz.sizeOf3, rfl⟩) rfl <| aV 7 255 rfl rfl (zac rfl) eR (zex rfl foc0 rfl Tryz.isAgg3) rfl <| aN 8 511 rfl rfl (zag rfl) rfl <| aN 9 1023 rfl rfl (zae rfl) rfl <| aN 10 2047 rfl rfl (zaa rfl ⟨_, _, _, Tryz.runUnderlying161, rfl, rfl, Tryz.sizeOf3, rfl⟩) rfl <| aV 11 4095 rfl rfl (zac rfl) eR (zex rfl foc0 rfl Tryz.isAgg3) rfl <| aN 12 8191 rfl rfl (zag rfl) rfl ?_
  obtain ⟨hg2, h⟩ := zd1 h
  refine aN 13 16383 rfl rfl (P_add (a := x_0_start) (b := at_1) rfl rfl hg2) rfl <| aN 14 32767 rfl rfl (zag rfl) rfl ?_
  obtain ⟨hg3, h⟩ := zh9 h
  refine AJ_op 15 65535 rfl (by kernel_rfl) rfl (zac rfl) <| zaq (zvx hg3 (v := v)) rfl Tryz.call133 (Dels.cons del1 Dels.nil) rfl fun _ _ => ⟨fun h => absurd h (by decide), ?_⟩
  refine aN 16 131071 rfl rfl (zbc rfl) rfl <| aD <| zai ?_
  cases h
  exact fE (res1 Tryz.results149 rfl) () (t1_ eR)
def ze1 (x_0_a : ArrS) (x_0_d : Int) (x_0_start : Int) (x_0_length : Int) : Option (Int × ArrS) :=
  grd (inLen x_0_a.writes) <|
  some (((flC x_0_a x_0_d), (flS x_0_a x_0_d)))
theorem zl4 {W : World} {bx_0 : Nat} {bx_0_a : Nat} {x_0_a : ArrS} {x_0_d : Int} {x_0_start : Int} {x_0_length : Int} {r : Int × ArrS} (h : ze1 x_0_a x_0_d x_0_start x_0_length = some r) :
    CSpec Tryz.prog W 146 [ptr bx_0 0] [blkR bx_0 161 [ptr bx_0_a 0, .int .i64 x_0_d, .int .i64 x_0_start, .int .i64 x_0_length], Arr bx_0_a x_0_a] (fun x : Unit => .int .i64 r.1) (fun _ => True) (fun x F => blkR bx_0 161 [ptr bx_0_a 0, .int .i64 x_0_d, .int .i64 x_0_start, .int .i64 x_0_length] :: Arr bx_0_a r.2 :: F) := by
 refine CSpec.of_body Tryz.func146 rfl Tryz.ntmps146 rfl fun F => ?_
 show CJ _ _ _ _ _ _ (_ :: _ :: F)
 unfold ze1 at h
 refine sR <| oA rfl rfl <| nT <| zaf <| za0 256 (by kernel_rfl) rfl <| aN 0 1 rfl rfl (zag rfl) rfl <| aN 1 3 rfl rfl (zae rfl) rfl <| aN 2 7 rfl rfl (zaa rfl ⟨_, _, _, Tryz.runUnderlying161, rfl, rfl, Tryz.sizeOf65, rfl⟩) rfl <| aV 3 15 rfl rfl (zac rfl) eR (zex rfl foc0 rfl Tryz.isAgg65) rfl <| aN 4 31 rfl rfl (zag rfl) rfl <| aN 5 63 rfl rfl (zae rfl) rfl <| aN 6 127 rfl rfl (zaa rfl ⟨_, _, _, Tryz.runUnderlying161, rfl, rfl, Tryz.sizeOf3, rfl⟩) rfl <| aV 7 255 rfl rfl (zac rfl) eR (zex rfl foc0 rfl Tryz.isAgg3) rfl ?_
 obtain ⟨hg1, h⟩ := zh9 h
 refine AJ_op 8 511 rfl (by kernel_rfl) rfl (zac rfl) <| zaq (zub hg1) rfl Tryz.call131 (Dels.cons del1 Dels.nil) rfl fun _ _ => ⟨fun h => absurd h (by decide), ?_⟩
 refine aN 9 1023 rfl rfl (zbc rfl) rfl <| aD <| zai ?_
 cases h
 exact fE (res1 Tryz.results146 rfl) () (t1_ eR)
def Dvc.span (x_d : Int) (x_start : Int) (x_length : Int) : Dvc := { dep := 1, size := fun s => zhd s x_d x_start x_length, rd := fun s k => zff s x_d x_start x_length k, wr := fun s k v => ze0 s x_d x_start x_length k v, fl := fun s => ze1 s x_d x_start x_length }
end Go.Proofs
set_option linter.unusedSimpArgs false
set_option linter.unusedVariables false
set_option maxRecDepth 20000
set_option maxHeartbeats 4000000
namespace Go.Proofs
open Go.VG
theorem zsy (v0 : Int) : zby Tryz.prog 22 1 [(0, .int .i64 v0)] 3 [.int .i64 v0] := fun w => by kernel_rfl
def zcn (l : List (List UInt64)) (rec : (List Int) → Nat → Option ((List Int))) (x9 : List Int) (x11 : Nat) : Option ((List Int)) :=
  if (((x11 : Nat) : Int) < ((l.length : Nat) : Int)) then
    grd (inLen (x9.length + 1)) <|
    grd (inN64 (x11 + 1)) <|
    rec ((x9 ++ [(((l.getD x11 []).length : Nat) : Int)])) (x11 + 1)
  else
    some x9
def zcv (l : List (List UInt64)) : Nat → (List Int) → Nat → Option ((List Int))
  | 0, _, _ => none
  | n + 1, x9, x11 => zcn l (zcv l n) x9 x11
def zco (l : List (List UInt64)) (rec : ArrS → Nat → Option ((ArrS) ⊕ (Option ArrS))) (x32 : ArrS) (x33 : Nat) : Option ((ArrS) ⊕ (Option ArrS)) :=
  if (((x33 : Nat) : Int) < ((l.length : Nat) : Int)) then
    grd (inLen x32.writes) <|
    if ((ldC x32 (((x33 : Nat) : Int)) (l.getD x33 [])) ≠ (0 : Int)) then
      some (.inr none)
    else
      grd (inN64 (x33 + 1)) <|
      rec ((ldS x32 (((x33 : Nat) : Int)) (l.getD x33 []))) (x33 + 1)
  else
    some (.inl x32)
def zcw (l : List (List UInt64)) : Nat → ArrS → Nat → Option ((ArrS) ⊕ (Option ArrS))
  | 0, _, _ => none
  | n + 1, x32, x33 => zco l (zcw l n) x32 x33
def zdp (l : List (List UInt64)) : Option ((Option ArrS)) :=
  Option.bind (zcv l FUEL ([]) 0) fun a8 =>
  grd (inLen a8.length) <|
  if ((newC a8) ≠ (0 : Int)) then
    some none
  else
    Option.elim (newO a8) (
      some none) fun o26 =>
    seqO (zcw l FUEL o26 0) fun a31 =>
    some (some a31)
theorem zic {W : World} {Al : HP} {vl : Value} {hsl : List Sl3} {Bl : HP} {l : List (List UInt64)} {r : (Option ArrS)} (rl : Reads Al tyRow vl hsl) (ql : RowsR Bl l hsl) (h : zdp l = some r) :
    CSpec Tryz.prog W 17 [vl] [Al, Bl] (fun x : Nat => oval r x) (fun _ => True) (fun x F => Al :: Bl :: optP (Arr x) r :: F) := by
 refine CSpec.of_body Tryz.func17 rfl Tryz.ntmps17 rfl fun F => ?_
 show CJ _ _ _ _ _ _ (_ :: _ :: F)
 unfold zdp at h
 refine zbl (zdm rl del0) fun hlen1 => sR <| oA rfl rfl <| nT <| sR <| oA rfl rfl <| nT <| zaf <| sR <| oA rfl rfl <| nT <| zbf (fun h hh => zb2 (t := tyI) h hh) ?_
 obtain ⟨y5, hl3, hK4⟩ := zia h
 refine zd8 (X := (List Int) × Sl3) [3, 4, 8, 9, 10, 11, 12, 13, 14, 15, 16, 17, 18, 19, 20, 21] (fun ⟨a8, hd7⟩ => ([(3, hd7.v)] : Slots)) (fun ⟨a8, hd7⟩ R => sl tyI hd7.v a8 :: R) (fun ⟨a8, hd7⟩ => y5 = a8) (Dels.cons del0 Dels.nil) ?_ ?_
 ·
  refine zat <| zbs (X := Nat × (List Int) × Nat × Sl3) [3, 4, 8, 9, 10, 11, 12, 13, 14, 15, 16, 17, 18, 19, 20, 21] (fun ⟨n, x9, x11, hd10⟩ => ([(3, hd10.v), (4, .int .i64 (((x11 : Nat) : Int)))] : Slots)) (fun ⟨n, x9, x11, hd10⟩ R => sl tyI hd10.v x9 :: R) (fun ⟨n, x9, x11, hd10⟩ => zcv l n x9 x11 = some y5) (fun ⟨n, x9, x11, hd10⟩ => n) ⟨FUEL, [], 0, ⟨none, 0, 0⟩⟩ ?_ ?_ eR ?_
  · exact hl3
  · exact ⟨rfl, rfl, True.intro⟩
  ·
   rintro ⟨n, x9, x11, hd10⟩ h
   cases n with
   | zero => exact zew h
   | succ n => ?_
   replace h : zcn l (zcv l n) x9 x11 = some y5 := h
   unfold zcn at h
   show CJ _ _ _ _ _ (([(3, hd10.v), (4, .int .i64 (((x11 : Nat) : Int)))] : Slots) ++ forget _ _) (sl tyI hd10.v x9 :: _)
   refine lC del0 fun hlen12 => zaf <| sR <| oM rfl rfl <| oM rfl rfl <| oV (VJ_eq (V_len rfl foc1 rl Tryz.runUnderlying68) (congrArg (fun z : Nat => Value.int .i64 (z : Int)) (ql.1).symm)) rfl <| oP (P_lss (a := ((x11 : Nat) : Int)) (b := ((l.length : Nat) : Int)) rfl rfl) rfl <| nT <| zbx rfl zaz (fun hg1 => ?_) (fun hg1 => ?_)
   ·
    replace h := ite_t hg1 h
    refine kT <| zaf <| zat <| zak <| oM rfl rfl <| oM rfl rfl <| oM rfl rfl <| oV (zan (i := x11) rfl rfl rfl (by have hz : x11 < l.length := (by omega); have hy := ql.1; omega) foc1 rl Tryz.runUnderlying68 Tryz.sizeOf67) rfl <| oV (za3 rfl rfl (by have hz : x11 < l.length := (by omega); have hy := ql.1; omega) foc1 rl rfl rfl Tryz.isAgg67) rfl <| oV (V_len rfl foc2 (ql.2 _ (by omega)) Tryz.runUnderlying67) rfl <| oO <| zbe rfl (zsy _) rfl fun b13 => ?_
    obtain ⟨hg2, h⟩ := zh9 h
    refine oO <| zbv (t := tyI) (bytes := 8) rfl rfl del1 foc0 (Reads.lit (t := tyI) (ys := [(((l.getD x11 []).length : Nat) : Int)]) rfl rfl (by decide) (by decide) rfl) Tryz.underlying22 ok_tyI (apl (m := 1) (b := 8) hg2 (by decide)).1 (apl (m := 1) (b := 8) hg2 (by decide)).2 rfl fun p15 c16 => oA rfl rfl <| za9 <| zal <| zav <| zak <| oM rfl rfl ?_
    obtain ⟨hg3, h⟩ := zsa h
    exact oP (PJ_eq (P_add (a := ((x11 : Nat) : Int)) (b := (1 : Int)) rfl rfl (zsd hg3)) rfl) rfl <| oA rfl rfl <| za9 <| nR ⟨n, (x9 ++ [(((l.getD x11 []).length : Nat) : Int)]), (x11 + 1), ⟨p15, (x9 ++ [(((l.getD x11 []).length : Nat) : Int)]).length, c16⟩⟩ h ⟨rfl, rfl, True.intro⟩ (t0_ (t1_ (t1_ (eD eR))))
   ·
    replace h := ite_f hg1 h
    exact zbt <| za6 <| za7 <| za1 <| cR ⟨x9, hd10⟩ (Option.some.inj h).symm ⟨rfl, True.intro⟩ eR
 ·
  rintro ⟨a8, hd7⟩ hy17
  replace h := zf6 hK4 hy17
  show CJ _ _ _ _ _ (([(3, hd7.v)] : Slots) ++ forget _ _) (sl tyI hd7.v a8 :: _)
  refine lC del0 fun hlen18 => sR <| oM rfl rfl ?_
  obtain ⟨hg4, h⟩ := zh9 h
  refine oO <| zaq (c_NewO (Reads.sl _ _ _) hg4) rfl Tryz.call49 (Dels.cons del0 Dels.nil) rfl fun X19 _ => oM rfl rfl <| oP (zaw rfl rfl) rfl <| oP (zaw rfl rfl) rfl <| oA rfl rfl <| oA rfl rfl <| nT <| zaf <| sR <| oM rfl rfl <| oP (P_neq (a := (newC a8)) (b := (0 : Int)) rfl rfl) rfl <| oM rfl rfl <| zb6 rfl rfl rfl (fun hG21 => have hP22 : ¬ ((newC a8) ≠ (0 : Int)) := nP (zaz) hG21; VJ_P (zag rfl)) <| zd5 29 rfl zaz (fun hg5B hg5 => ?_) (fun hg5B hg5 => ?_)
  ·
   replace h := ite_t hg5 h
   refine RJ_gn (GY_no rfl rfl rfl hg5B) rfl rfl <| oP (zas rfl hg5B rfl) rfl <| nT <| za4 rfl rfl <| sR <| oA rfl rfl <| nT <| zai <| zad ?_
   cases h
   exact fE (res1 Tryz.results17 rfl) 0 (t2_ (t2_ (Ent.trans (fun h hh => zik h hh) <| t0_ (eD (eD eR)))))
  ·
   replace h := ite_f hg5 h
   rcases opt_e h with ⟨ht25, h⟩ | ⟨o26, ht25, h⟩
   ·
    rw [ht25]
    refine zei (t1_ (t1_ (t1_ (eD eR)))) <| gP (zab rfl rfl rfl hg5B) (zgs (mbx (not_f hg5B) rfl) rfl Tryz.underlying65) rfl <| oP (zay rfl hg5B rfl) rfl <| nT <| za4 rfl rfl <| sR <| oA rfl rfl <| nT <| zai <| zad ?_
    cases h
    exact fE (res1 Tryz.results17 rfl) 0 (t1_ (t1_ (Ent.trans (fun h hh => zik h hh) <| t0_ (eD eR))))
   ·
    rw [ht25]
    refine zei (Ent.takeC (A' := Arr X19 o26) del0 rfl eR) <| gP (zab rfl rfl rfl hg5B) (zd7 (mbx (not_f hg5B) rfl) rfl Tryz.underlying65) rfl <| oP (zay rfl hg5B rfl) rfl <| nT <| za5 rfl rfl <| kT <| zaf <| sR <| oA rfl rfl <| nT ?_
    obtain ⟨y29, hl27, hK28⟩ := seq_e h
    refine zd8 (X := ArrS) [2, 7, 33, 34, 35, 36, 37, 38, 39, 40, 41, 42, 43, 44, 45, 46] (fun a31 => ([] : Slots)) (fun a31 R => Arr X19 a31 :: R) (fun a31 => y29 = .inl a31) (Dels.cons del0 Dels.nil) ?_ ?_
    ·
     refine zat <| zbs (X := Nat × ArrS × Nat) [2, 7, 33, 34, 35, 36, 37, 38, 39, 40, 41, 42, 43, 44, 45, 46] (fun ⟨n, x32, x33⟩ => ([(7, .int .i64 (((x33 : Nat) : Int)))] : Slots)) (fun ⟨n, x32, x33⟩ R => Arr X19 x32 :: R) (fun ⟨n, x32, x33⟩ => zcw l n x32 x33 = some y29) (fun ⟨n, x32, x33⟩ => n) ⟨FUEL, o26, 0⟩ ?_ ?_ eR ?_
     · exact hl27
     · exact ⟨rfl, True.intro⟩
     ·
      rintro ⟨n, x32, x33⟩ h
      cases n with
      | zero => exact zew h
      | succ n => ?_
      replace h : zco l (zcw l n) x32 x33 = some y29 := h
      unfold zco at h
      show CJ _ _ _ _ _ (([(7, .int .i64 (((x33 : Nat) : Int)))] : Slots) ++ forget _ _) (Arr X19 x32 :: _)
      refine zaf <| sR <| oM rfl rfl <| oM rfl rfl <| oV (VJ_eq (V_len rfl foc2 rl Tryz.runUnderlying68) (congrArg (fun z : Nat => Value.int .i64 (z : Int)) (ql.1).symm)) rfl <| oP (P_lss (a := ((x33 : Nat) : Int)) (b := ((l.length : Nat) : Int)) rfl rfl) rfl <| nT <| zbx rfl zaz (fun hg6 => ?_) (fun hg6 => ?_)
      ·
       replace h := ite_t hg6 h
       refine kT <| zaf <| zat <| sR <| oM rfl rfl <| oM rfl rfl <| oM rfl rfl <| oM rfl rfl <| oV (zan (i := x33) rfl rfl rfl (by have hz : x33 < l.length := (by omega); have hy := ql.1; omega) foc2 rl Tryz.runUnderlying68 Tryz.sizeOf67) rfl <| oV (za3 rfl rfl (by have hz : x33 < l.length := (by omega); have hy := ql.1; omega) foc2 rl rfl rfl Tryz.isAgg67) rfl ?_
       obtain ⟨hg7, h⟩ := zh9 h
       refine oO <| zaq (zvz (ql.2 _ (by omega)) hg7) rfl Tryz.call50 (Dels.cons del0 (Dels.cons del2 Dels.nil)) rfl fun _ _ => oP (P_neq (a := (ldC x32 (((x33 : Nat) : Int)) (l.getD x33 []))) (b := (0 : Int)) rfl rfl) rfl <| nT <| zbx rfl zaz (fun hg8 => ?_) (fun hg8 => ?_)
       ·
        replace h := ite_t hg8 h
        refine sR <| oA rfl rfl <| nT <| zai <| zaj <| zad <| zbd <| zaj <| zad ?_
        have hE := Option.some.inj h
        replace hE := zee hK28 hE.symm
        subst hE
        exact fE (res1 Tryz.results17 rfl) 0 (t3_ (t1_ (Ent.trans (fun h hh => zik h hh) <| t0_ (eD (eD eR)))))
       ·
        replace h := ite_f hg8 h
        refine zbk <| zal <| zav <| zak <| oM rfl rfl ?_
        obtain ⟨hg9, h⟩ := zsa h
        exact oP (PJ_eq (P_add (a := ((x33 : Nat) : Int)) (b := (1 : Int)) rfl rfl (zsd hg9)) rfl) rfl <| oA rfl rfl <| za9 <| nR ⟨n, (ldS x32 (((x33 : Nat) : Int)) (l.getD x33 [])), (x33 + 1)⟩ h ⟨rfl, True.intro⟩ (t0_ (t1_ (t1_ eR)))
      ·
       replace h := ite_f hg6 h
       exact zbt <| za6 <| za7 <| za1 <| cR x32 (Option.some.inj h).symm True.intro eR
    ·
     rintro a31 hy34
     replace h := zhz hK28 hy34
     show CJ _ _ _ _ _ (([] : Slots) ++ forget _ _) (Arr X19 a31 :: _)
     refine sR <| oM rfl rfl <| oA rfl rfl <| nT <| zai ?_
     cases h
     exact fE (res1 Tryz.results17 rfl) X19 (t2_ (t2_ (t0_ (eD eR))))
end Go.Proofs
namespace Go.Proofs
open Go.VG
def mkS (ims : List (List UInt64)) : ArrS := ⟨ims.map (fun im => ⟨im, im, false⟩), [], [], 0, false, 0⟩
theorem zl5 {n : Nat} (h : n ≤ 1000000000) : inLen n = true := inLen_iff.2 h
theorem zpg {n : Nat} (h : n ≤ 9000000000000000000) : inN64 n = true := inN64_iff.2 (by omega)
theorem grd_t {α : Type} {b : Bool} {o : Option α} (h : b = true) : grd b o = o := by rw [h]; rfl
def lensI (l : List (List UInt64)) : List Int := l.map fun im => (im.length : Int)
theorem zi3 {α : Type} {l : List α} {i : Nat} {d : α} (h : i < l.length) : l.take (i + 1) = l.take i ++ [l.getD i d] := by
  rw [List.take_succ_eq_append_getElem h]; simp [List.getD, h]
theorem zog {l : List (List UInt64)} (h8 : l.length ≤ 1000) : ∀ (N i : Nat) (acc : List Int), l.length - i < N → i ≤ l.length → acc = lensI (l.take i) →
    zcv l N acc i = some (lensI l)
  | 0, _, _, h, _, _ => absurd h (by omega)
  | N + 1, i, acc, h, hi, ha => by
    show zcn _ _ _ _ = _
    unfold zcn
    subst ha
    by_cases hlt : i < l.length
    · rw [if_pos (by omega), grd_t (zl5 (by simp [lensI]; omega)), grd_t (zpg (by omega))]
      refine zog h8 N (i + 1) _ (by omega) (by omega) ?_
      rw [zi3 (d := []) hlt]; simp [lensI]
    · rw [if_neg (by omega)]
      have : i = l.length := by omega
      rw [this, List.take_length]
def ldDrv (l : List (List UInt64)) (i : Nat) : List Drive := (l.take i).map (fun im => ⟨im, im, false⟩) ++ (lensI (l.drop i)).map mkD
theorem zoh {l : List (List UInt64)} (h8 : l.length ≤ 8) (hz : ∀ im ∈ l, 1 ≤ im.length ∧ im.length ≤ 65536) : ∀ (N i : Nat) (x : ArrS), l.length - i < N → i ≤ l.length → x = ⟨ldDrv l i, [], [], 0, false, 0⟩ →
    zcw l N x i = some (.inl (mkS l))
  | 0, _, _, h, _, _ => absurd h (by omega)
  | N + 1, i, x, h, hi, hx => by
    show zco _ _ _ _ = _
    unfold zco
    subst hx
    by_cases hlt : i < l.length
    · have hlen : (ldDrv l i).length = l.length := by simp [ldDrv, lensI]; omega
      have hin : inR ⟨ldDrv l i, [], [], 0, false, 0⟩ (i : Int) := by unfold inR; simp only [hlen]; omega
      have hg : (ldDrv l i).getD i d0 = mkD ((l.getD i []).length : Int) := by
        unfold ldDrv
        have e1 : ((l.take i).map (fun im => (⟨im, im, false⟩ : Drive))).length = i := by simp; omega
        simp only [List.getD]
        rw [List.getElem?_append_right (by omega), e1, Nat.sub_self, List.drop_eq_getElem_cons hlt]; simp [lensI, hlt]
      have hc : ldC ⟨ldDrv l i, [], [], 0, false, 0⟩ (i : Int) (l.getD i []) = 0 := by
        unfold ldC; rw [if_pos hin]; simp only [Int.toNat_natCast, hg]
        rw [if_pos (by simp [mkD])]
      rw [if_pos (by omega), grd_t (zl5 (by simp)), if_neg (by rw [hc]; simp), grd_t (zpg (by omega))]
      refine zoh h8 hz N (i + 1) _ (by omega) (by omega) ?_
      have hC : ldS ⟨ldDrv l i, [], [], 0, false, 0⟩ (i : Int) (l.getD i []) = ⟨ldDrv l (i + 1), [], [], 0, false, 0⟩ := by
        unfold ldS; rw [if_pos hc]
        have hd : ∀ n, zgb [] (i : Int) n = [] := fun n => by
          induction n with
          | zero => rfl
          | succ n ih => rw [← zkg, ih]; rfl
        simp only [Int.toNat_natCast, hg, hd, List.filter_nil]
        congr 1
        unfold ldDrv
        rw [zi3 (d := []) hlt, List.drop_eq_getElem_cons hlt]
        have e1 : ((l.take i).map (fun im => (⟨im, im, false⟩ : Drive))).length = i := by simp; omega
        rw [List.set_append_right _ _ (by omega), e1, Nat.sub_self]
        simp only [lensI, List.map_cons, List.set_cons_zero, List.map_append, List.map_nil, List.append_assoc, List.cons_append, List.nil_append]
        rfl
      exact hC
    · rw [if_neg (by omega)]
      have : i = l.length := by omega
      rw [this]; simp [ldDrv, mkS, lensI]
theorem zsz {l : List (List UInt64)} (h8 : l.length ≤ 8) (hz : ∀ im ∈ l, 1 ≤ im.length ∧ im.length ≤ 65536) : zdp l = some (some (mkS l)) := by
  unfold zdp
  have hF := zec
  generalize FUEL = N at hF ⊢
  rw [zog (by omega) N 0 [] (by omega) (by omega) (by simp [lensI])]
  have hN : newB (lensI l) = true := by
    unfold newB
    rw [Bool.and_eq_true, Nat.ble_eq, List.all_eq_true]
    refine ⟨by simpa [lensI] using h8, fun z hz' => ?_⟩
    obtain ⟨im, him, rfl⟩ := List.mem_map.1 hz'
    have := hz im him
    simp; omega
  simp only [Option.bind_some]
  rw [grd_t (zl5 (by simp [lensI]; omega))]
  have hnc : newC (lensI l) = 0 := by unfold newC; rw [if_pos hN]
  have hno : newO (lensI l) = some (newS (lensI l)) := by unfold newO; rw [if_pos hN]
  rw [if_neg (by rw [hnc]; simp), hno]
  simp only [Option.elim]
  rw [zoh h8 hz N 0 _ (by omega) (by omega) (by simp [newS, ldDrv])]
  rfl
end Go.Proofs
namespace Go.Proofs
open Go.VG
theorem zv1 {n k m : Int} (hn : 0 ≤ n ∧ n ≤ 4611686018427387904) : zdh n k m = some (decide (0 ≤ k ∧ k ≤ n ∧ 0 ≤ m ∧ m ≤ n - k)) := by
  unfold zdh
  refine congrArg some ?_
  rw [Bool.eq_iff_iff]
  by_cases h : 0 ≤ k ∧ k ≤ n
  · rw [zg5 (by omega) (by omega)]; simp; omega
  · simp; omega
def zs0 (s : ArrS) : List Dvc := (List.range s.drv.length).map fun i => Dvc.span ((i : Nat) : Int) 0 ((s.size i : Nat) : Int)
@[simp] theorem zw8 {s : ArrS} : (zs0 s).length = s.drv.length := by simp [zs0]
theorem zul {s : ArrS} {i : Nat} (h : i < s.drv.length) : sizeI s (i : Int) = ((s.size i : Nat) : Int) := by
  rw [sizeI, if_pos (show inR s (i : Int) from ⟨by omega, by omega⟩)]; simp
theorem zum {n k m : Int} (hn : n ≤ 1000000000) (h : 0 ≤ k ∧ 0 ≤ m ∧ k + m ≤ n) : zdh n k m = some true := by
  rw [zv1 (by omega)]; exact congrArg some (decide_eq_true (by omega))
end Go.Proofs
namespace Go.Proofs
open Go.VG
def nowL (s : ArrS) (d : Nat) : List UInt64 := (s.drv.getD d d0).now
theorem zgc {s : ArrS} {d : Nat} : s.size d = (nowL s d).length := rfl
structure Good (s : ArrS) : Prop where
  down : s.down = false
  fuse : s.fuse = 0
  bad : s.bad = []
  miss : ∀ d, (s.drv.getD d d0).miss = false
theorem zph {ims : List (List UInt64)} : Good (mkS ims) where
  down := rfl
  fuse := rfl
  bad := rfl
  miss d := by
    simp only [mkS, List.getD, List.getElem?_map]
    cases ims[d]? <;> rfl
theorem zji {ims : List (List UInt64)} {d : Nat} : nowL (mkS ims) d = ims.getD d [] := by
  simp only [nowL, mkS, List.getD, List.getElem?_map]
  cases ims[d]? <;> rfl
@[simp] theorem drv_mkS {ims : List (List UInt64)} : (mkS ims).drv.length = ims.length := by simp [mkS]
theorem Good.chk {s : ArrS} (hg : Good s) {d a : Nat} (hd : d < s.drv.length) (ha : a < s.size d) : cPow s = 0 ∧ cLoc s d = 0 ∧ cPla s d a = 0 ∧ cPre s d = 0 ∧ cWho s d a = 0 := by
  refine ⟨by simp [cPow, hg.down], ?_, ?_, by simp only [cPre, missI, Int.toNat_natCast, hg.miss d]; rfl, by simp [cWho, isBad, hg.bad, lookM]⟩
  · rw [cLoc, if_pos (show inR s (d : Int) from ⟨by omega, by omega⟩)]
  · rw [cPla, zul hd, if_pos (by omega)]
theorem Good.rdC {s : ArrS} (hg : Good s) {d a : Nat} (hd : d < s.drv.length) (ha : a < s.size d) : rdC s d a = 0 := by
  obtain ⟨h1, h2, h3, h4, h5⟩ := hg.chk hd ha
  simp [Go.Proofs.rdC, fz, h1, h2, h3, h4, h5]
theorem Good.rdV {s : ArrS} (hg : Good s) {d a : Nat} (hd : d < s.drv.length) (ha : a < s.size d) : rdV s d a = (nowL s d).getD a 0 := by
  rw [Go.Proofs.rdV, if_pos (hg.rdC hd ha)]; rfl
def wr1 (s : ArrS) (d a : Nat) (v : UInt64) : ArrS := { s with drv := zdr s d a v, log := s.log ++ [⟨d, a, v⟩], writes := s.writes + 1 }
theorem Good.wr {s : ArrS} (hg : Good s) {d a : Nat} {v : UInt64} (hd : d < s.drv.length) (ha : a < s.size d) : wrR s d a = 0 ∧ wrS s d a v = wr1 s d a v := by
  obtain ⟨h1, h2, h3, h4, h5⟩ := hg.chk hd ha
  have hc : wrC s d a = 0 := by simp [wrC, fz, h1, h2, h3, h4]
  refine ⟨by rw [wrR, if_neg (by simp [hc]), if_neg (by rw [hg.fuse]; decide)], ?_⟩
  rw [wrS, if_neg (by simp [hc]), if_neg (by rw [hg.fuse]; decide)]
  have hdel : delM ([] : List ((Int × Int) × Unit)) ((d : Int), (a : Int)) = [] := rfl
  simp only [wr1, Int.toNat_natCast, hg.bad, hg.fuse, hdel]
theorem zjj {s : ArrS} {d a e : Nat} {v : UInt64} (hd : d < s.drv.length) : nowL (wr1 s d a v) e = if e = d then (nowL s d).set a v else nowL s e := by
  unfold nowL wr1 zdr
  simp only [List.getD, List.getElem?_set]
  by_cases h : d = e
  · subst h; simp [hd]
  · rw [if_neg h, if_neg (fun x => h x.symm)]
@[simp] theorem zn0 {s : ArrS} {d a : Nat} {v : UInt64} : (wr1 s d a v).drv.length = s.drv.length := by simp [wr1, zdr]
@[simp] theorem zm2 {s : ArrS} {d a : Nat} {v : UInt64} : (wr1 s d a v).writes = s.writes + 1 := rfl
theorem zpi {s : ArrS} {d a e : Nat} {v : UInt64} (hd : d < s.drv.length) : (wr1 s d a v).size e = s.size e := by
  rw [zgc, zgc, zjj hd]; split
  · rename_i h; rw [List.length_set, h]
  · rfl
theorem Good.wr1 {s : ArrS} (hg : Good s) {d a : Nat} {v : UInt64} : Good (wr1 s d a v) where
  down := hg.down
  fuse := hg.fuse
  bad := hg.bad
  miss e := by
    have h0 := hg.miss e
    simp only [Go.Proofs.wr1, zdr, List.getD, List.getElem?_set] at h0 ⊢
    by_cases h : d = e
    · subst h
      by_cases hl : d < s.drv.length
      · have h1 := hg.miss d
        simp [hl, List.getD] at h1 ⊢
        exact h1
      · simp [hl]
    · rw [if_neg h]; exact h0
end Go.Proofs
namespace Go.Proofs
open Go.VG
def wrN (s : ArrS) (d a : Nat) (f : Nat → UInt64) : Nat → ArrS
  | 0 => s
  | n + 1 => wr1 (wrN s d a f n) d (a + n) (f n)
theorem Good.wrN {s : ArrS} (hg : Good s) {d a : Nat} {f : Nat → UInt64} : ∀ n, Good (wrN s d a f n)
  | 0 => hg
  | n + 1 => (Good.wrN hg n).wr1
@[simp] theorem zv2 {s : ArrS} {d a : Nat} {f : Nat → UInt64} : ∀ {n}, (wrN s d a f n).drv.length = s.drv.length
  | 0 => rfl
  | n + 1 => by rw [wrN, zn0, zv2]
@[simp] theorem zrl {s : ArrS} {d a : Nat} {f : Nat → UInt64} : ∀ {n}, (wrN s d a f n).writes = s.writes + n
  | 0 => rfl
  | n + 1 => by rw [wrN, zm2, zrl]; omega
theorem getD_set_ne {l : List UInt64} {i j : Nat} {v : UInt64} (h : i ≠ j) : (l.set i v).getD j 0 = l.getD j 0 := by
  simp [List.getD, List.getElem?_set, h]
theorem zlu {l : List UInt64} {i : Nat} {v : UInt64} (h : i < l.length) : (l.set i v).getD i 0 = v := by
  simp [List.getD, List.getElem?_set, h]
end Go.Proofs
namespace Go.Proofs
open Go.VG
def durL (s : ArrS) (d : Nat) : List UInt64 := (s.drv.getD d d0).dur
def pendR (log : List Rec) (d a : Nat) : List UInt64 := (log.filter fun r => decide (r.d = d ∧ r.a = a)).map Rec.v
abbrev pend (s : ArrS) (d a : Nat) : List UInt64 := pendR s.log d a
def now (s : ArrS) (d a : Nat) : UInt64 := (nowL s d).getD a 0
def dur (s : ArrS) (d a : Nat) : UInt64 := (durL s d).getD a 0
theorem zs1 {d a : Nat} : pendR [] d a = [] := rfl
theorem zkl {l l' : List Rec} {d a : Nat} : pendR (l ++ l') d a = pendR l d a ++ pendR l' d a := by simp [pendR]
theorem zoi {r : Rec} {d a : Nat} : pendR [r] d a = if r.d = d ∧ r.a = a then [r.v] else [] := by
  by_cases h : r.d = d ∧ r.a = a
  · simp [pendR, h]
  · simp [pendR, h]
theorem zrm {r : Rec} {l : List Rec} {d a : Nat} : pendR (r :: l) d a = if r.d = d ∧ r.a = a then r.v :: pendR l d a else pendR l d a := by
  rw [show r :: l = [r] ++ l from rfl, zkl, zoi]; split <;> rfl
theorem zpj {l : List Rec} {d e a : Nat} : pendR (zd3 e l) d a = if d = e then [] else pendR l d a := by
  unfold pendR zd3
  rw [List.filter_filter]
  by_cases h : d = e
  · subst h
    rw [if_pos rfl, List.filter_eq_nil_iff.2]; · rfl
    intro r _ hr; simp at hr; exact hr.2 hr.1.1
  · rw [if_neg h]
    congr 1; apply List.filter_congr; intro r _
    by_cases h2 : r.d = d ∧ r.a = a
    · simp [h2, h]
    · simp [h2]
def lastD : UInt64 → List UInt64 → UInt64
  | d, [] => d
  | _, x :: l => lastD x l
theorem zm3 {v : UInt64} : ∀ {l : List UInt64} {d : UInt64}, lastD d (l ++ [v]) = v
  | [], _ => rfl
  | x :: l, _ => zm3 (l := l) (d := x)
structure Coh (s : ArrS) : Prop where
  len : ∀ d, (durL s d).length = (nowL s d).length
  last : ∀ d a, a < s.size d → lastD (dur s d a) (pend s d a) = now s d a
  log : ∀ r ∈ s.log, r.d < s.drv.length ∧ r.a < s.size r.d
theorem zun {l : List UInt64} {i j : Nat} {v : UInt64} (h : i < l.length) : (l.set i v).getD j 0 = if j = i then v else l.getD j 0 := by
  by_cases e : j = i
  · subst e; rw [if_pos rfl, zlu h]
  · rw [if_neg e, getD_set_ne (fun x => e x.symm)]
theorem zi4 {l : List Drive} {i j : Nat} {x : Drive} (h : i < l.length) : (l.set i x).getD j d0 = if j = i then x else l.getD j d0 := by
  simp only [List.getD, List.getElem?_set]
  by_cases e : i = j
  · subst e; simp [h]
  · rw [if_neg e, if_neg (fun x => e x.symm)]
section
variable {s : ArrS} {d a : Nat} {v : UInt64}
theorem zpk {e : Nat} (hd : d < s.drv.length) : durL (wr1 s d a v) e = durL s e := by
  unfold durL wr1 zdr
  rw [zi4 hd]; split
  · rename_i h; subst h; rfl
  · rfl
theorem zuo {e b : Nat} : pend (wr1 s d a v) e b = if d = e ∧ a = b then pend s e b ++ [v] else pend s e b := by
  show pendR (s.log ++ [⟨d, a, v⟩]) e b = _
  rw [zkl, zoi]; split <;> simp_all
theorem zv3 {e b : Nat} (hd : d < s.drv.length) (ha : a < s.size d) : now (wr1 s d a v) e b = if d = e ∧ a = b then v else now s e b := by
  unfold now
  rw [zjj hd]
  by_cases h : e = d
  · subst h; rw [if_pos rfl, zun (show a < (nowL s e).length from ha)]
    by_cases h2 : b = a
    · subst h2; simp
    · rw [if_neg h2, if_neg (fun x => h2 x.2.symm)]
  · rw [if_neg h, if_neg (fun x => h x.1.symm)]
theorem zv4 {e b : Nat} (hd : d < s.drv.length) : dur (wr1 s d a v) e b = dur s e b := by unfold dur; rw [zpk hd]
theorem Coh.wr1 (hc : Coh s) (hd : d < s.drv.length) (ha : a < s.size d) : Coh (wr1 s d a v) where
  len e := by rw [zpk hd, zjj hd]; split
              · rename_i h; subst h; rw [List.length_set]; exact hc.len _
              · exact hc.len e
  last e b hb := by
    rw [zpi hd] at hb
    have h1 := hc.last e b hb
    rw [zv4 hd, zuo, zv3 hd ha]
    by_cases h : d = e ∧ a = b
    · rw [if_pos h, if_pos h, zm3]
    · rw [if_neg h, if_neg h]; exact h1
  log r hr := by
    rw [zn0, zpi hd]
    rcases List.mem_append.1 (show r ∈ s.log ++ [⟨d, a, v⟩] from hr) with h | h
    · exact hc.log r h
    · rw [List.mem_singleton.1 h]; exact ⟨hd, ha⟩
end
def fl1 (s : ArrS) (d : Nat) : ArrS := { s with drv := s.drv.set d { s.drv.getD d d0 with dur := flDur (s.drv.getD d d0).now d s.log (s.drv.getD d d0).dur }, log := zd3 d s.log }
theorem zpl {nw : List UInt64} {i a : Nat} : ∀ {log : List Rec} {du : List UInt64}, a < du.length → (flDur nw i log du).getD a 0 = if pendR log i a = [] then du.getD a 0 else nw.getD a 0
  | [], du, _ => by rw [zs1, if_pos rfl]; rfl
  | r :: log, du, h => by
    show (flDur nw i log (if r.d = i then du.set r.a (nw.getD r.a 0) else du)).getD a 0 = _
    rw [zpl (by split <;> simpa using h), zrm]
    by_cases hr : r.d = i
    · rw [if_pos hr]
      by_cases ha : r.a = a
      · rw [show (if r.d = i ∧ r.a = a then r.v :: pendR log i a else pendR log i a) = r.v :: pendR log i a from if_pos ⟨hr, ha⟩, if_neg (show ¬ r.v :: pendR log i a = [] by simp)]
        subst ha
        split
        · rw [zlu h]
        · rfl
      · rw [show (if r.d = i ∧ r.a = a then r.v :: pendR log i a else pendR log i a) = pendR log i a from if_neg (fun x => ha x.2), getD_set_ne ha]
    · rw [if_neg hr, show (if r.d = i ∧ r.a = a then r.v :: pendR log i a else pendR log i a) = pendR log i a from if_neg (fun x => hr x.1)]
section
variable {s : ArrS} {d : Nat}
@[simp] theorem zv5 : (fl1 s d).drv.length = s.drv.length := by simp [fl1]
theorem zjk {e : Nat} (hd : d < s.drv.length) : nowL (fl1 s d) e = nowL s e := by
  unfold nowL fl1
  rw [zi4 hd]; split
  · rename_i h; subst h; rfl
  · rfl
theorem zpm {e : Nat} (hd : d < s.drv.length) : (fl1 s d).size e = s.size e := by rw [zgc, zgc, zjk hd]
theorem zup {e b : Nat} : pend (fl1 s d) e b = if e = d then [] else pend s e b := zpj
theorem zv6 {e b : Nat} (hc : Coh s) (hd : d < s.drv.length) (hb : b < s.size e) : dur (fl1 s d) e b = if e = d then now s e b else dur s e b := by
  unfold dur durL fl1
  rw [zi4 hd]
  by_cases h : e = d
  · subst h
    rw [if_pos rfl, if_pos rfl]
    have hl := hc.last e b hb
    rw [zpl (by have := hc.len e; unfold durL at this; rw [this]; exact hb)]
    by_cases hp : pendR s.log e b = []
    · rw [if_pos hp]
      have : pend s e b = [] := hp
      rw [this] at hl
      exact hl
    · rw [if_neg hp]; rfl
  · rw [if_neg h, if_neg h]
theorem zv7 {e b : Nat} (hd : d < s.drv.length) : now (fl1 s d) e b = now s e b := by unfold now; rw [zjk hd]
theorem Coh.fl1 (hc : Coh s) (hd : d < s.drv.length) : Coh (fl1 s d) where
  len e := by
    rw [zjk hd]
    unfold durL Go.Proofs.fl1
    rw [zi4 hd]; split
    · rename_i h; subst h; rw [zim]; exact hc.len _
    · exact hc.len e
  last e b hb := by
    rw [zpm hd] at hb
    have h1 := hc.last e b hb
    rw [zv6 hc hd hb, zup, zv7 hd]
    by_cases h : e = d
    · rw [if_pos h, if_pos h]; rfl
    · rw [if_neg h, if_neg h]; exact h1
  log r hr := by
    rw [zv5, zpm hd]
    exact hc.log r (List.mem_filter.1 (show r ∈ zd3 d s.log from hr)).1
theorem zuq {e : Nat} (hd : d < s.drv.length) : ((fl1 s d).drv.getD e d0).miss = (s.drv.getD e d0).miss := by
  unfold fl1
  rw [zi4 hd]; split
  · rename_i h; subst h; rfl
  · rfl
theorem Good.fl1 (hg : Good s) (hd : d < s.drv.length) : Good (fl1 s d) where
  down := hg.down
  fuse := hg.fuse
  bad := hg.bad
  miss e := by rw [zuq hd]; exact hg.miss e
theorem flC_of (hdn : s.down = false) (hd : d < s.drv.length) : flC s d = if (s.drv.getD d d0).miss then 6 else 0 := by
  have h1 : cPow s = 0 := by simp [cPow, hdn]
  have h2 : cLoc s d = 0 := by rw [cLoc, if_pos (show inR s (d : Int) from ⟨by omega, by omega⟩)]
  simp only [flC, fz, h1, h2, cPre, missI, Int.toNat_natCast]
  by_cases hm : (s.drv.getD d d0).miss = true
  · simp [hm]
  · simp [hm]
theorem flS_of (h : flC s d = 0) : flS s d = fl1 s d := zst h
end
section
variable {s : ArrS} {ks : List Bool}
@[simp] theorem drv_rs : (rsS s ks).drv.length = s.drv.length := by simp [rsS, (zoc ks s.log 0 s.drv 0).1]
theorem zqo {d : Nat} : nowL (rsS s ks) d = durL (rsS s ks) d := by unfold nowL durL; rw [rs_at]; rfl
theorem now_rs {d a : Nat} : now (rsS s ks) d a = dur (rsS s ks) d a := by unfold now dur; rw [zqo]
theorem Coh.rs (hc : Coh s) : Coh (rsS s ks) where
  len d := by rw [zqo]
  last d a _ := by show dur (rsS s ks) d a = _; rw [now_rs]
  log r h := by cases h
end
end Go.Proofs
set_option linter.unusedSimpArgs false
set_option maxRecDepth 20000
namespace Go.Proofs
open Go.VG
theorem zid (a b : ByteArray) : (a == b) = decide (a = b) := by
  cases a; cases b
  rename_i x y
  show (x == y) = _
  rw [Bool.eq_iff_iff]; simp
theorem zn1 {P : Program} {t : TypeId} (hu : P.underlying t = some .string) (e : Bool) (x : ByteArray) (w : World) (n : Nat) : (Instr.checkKey e (n + 1) t (.string x)).run P w = .ok () w := by
  simp [Instr.checkKey, run_underlying hu]
theorem zpn {P : Program} {t : TypeId} (hu : P.underlying t = some .string) (a b : ByteArray) (w : World) : (Op.equal t (.string a) (.string b)).run P w = .ok (decide (a = b)) w := by
  have e : Op.equal t (.string a) (.string b) = Op.equalIn (9999 + 1) t (.string a) (.string b) := rfl
  rw [e, Op.equalIn, ← zid]
  simp only [Sem.run_bind, run_underlying hu, Result.andThen_ok]
  simp
abbrev mDev : MTy ByteArray Nat := { KT := 9, VT := 85, ek := fun k => .string k, ev := fun b => ptr b 0 }
theorem zqp : MOk Tryz.prog mDev 82 where
  ty := Tryz.underlying82
  eq := fun a b w => zpn Tryz.underlying9 a b w
  chk := fun e a w => zn1 Tryz.underlying9 e a w 9999
  same := fun a => by simp [Instr.sameBits, zid]
  kd := ⟨_, Tryz.underlying9, .inr fun a b => by simp only [Instr.sameNow, zid]⟩
abbrev mBas : MTy ByteArray Nat := { KT := 9, VT := 39, ek := fun k => .string k, ev := fun b => .iface 159 (ptr b 0) }
theorem zqq : MOk Tryz.prog mBas 81 where
  ty := Tryz.underlying81
  eq := fun a b w => zpn Tryz.underlying9 a b w
  chk := fun e a w => zn1 Tryz.underlying9 e a w 9999
  same := fun a => by simp [Instr.sameBits, zid]
  kd := ⟨_, Tryz.underlying9, .inr fun a b => by simp only [Instr.sameNow, zid]⟩
abbrev mMet : MTy ByteArray Bool := { KT := 9, VT := 4, ek := fun k => .string k, ev := fun b => .bool b }
theorem zqr : MOk Tryz.prog mMet 165 where
  ty := Tryz.underlying165
  eq := fun a b w => zpn Tryz.underlying9 a b w
  chk := fun e a w => zn1 Tryz.underlying9 e a w 9999
  same := fun a => by simp [Instr.sameBits, zid]
  kd := ⟨_, Tryz.underlying9, .inr fun a b => by simp only [Instr.sameNow, zid]⟩
abbrev s3z : Sl3 := ⟨none, 0, 0⟩
abbrev tyPD : Ty Nat := { T := 85, sz := 1, enc := fun b => [ptr b 0], dflt := 0, len := fun _ => rfl, one := fun _ => rfl, pos := by decide }
theorem zv8 : ElemOk Tryz.prog tyPD 8 := ⟨Tryz.t85, .pointer none, by kernel_rfl, rfl, rfl, rfl, rfl⟩
abbrev tyTs : Ty Sl3 := { T := 30, sz := 1, enc := fun x => [x.v], dflt := s3z, len := fun _ => rfl, one := fun _ => rfl, pos := by decide }
structure WtC where
  tk : Int
  p : Nat
  t : api_Task
abbrev tyErr : Ty WtC := { T := 135, sz := 5, enc := fun x => [.int .i64 x.tk, ptr x.p 0, .int .i64 x.t.Kind, .int .i64 x.t.At, .int .u64 (x.t.Value.toNat : Int)], dflt := ⟨0, 0, tsk0⟩, len := fun _ => rfl, one := fun _ => rfl, pos := by decide }
theorem zgv : ElemOk Tryz.prog tyErr 40 := ⟨Tryz.t135, .agg #[.int .i64 0, .pointer none, .int .i64 0, .int .i64 0, .int .u64 0], by kernel_rfl, rfl, rfl, rfl, rfl⟩
namespace Md
def isD (m : Md) (k : Nat) : Prop := k < m.dv.length ∧ (m.at k).gone = false ∧ (m.at k).isB = false
def isBs (m : Md) (k : Nat) : Prop := k < m.dv.length ∧ (m.at k).gone = false ∧ (m.at k).isB = true
def bas (m : Md) (n : ByteArray) : Option Nat := (m.find n).bind fun k => if (m.at k).isB then some k else none
end Md
structure DH where
  b : Nat
  dn : Nat
  lv : Sl3
  nw : Sl3
  wt : Sl3
abbrev dh0 : DH := ⟨0, 0, s3z, s3z, s3z⟩
structure MH where
  bm : Nat
  dm : Nat
  a : Nat
  ov : Sl3
  tv : Sl3
  l : List (DH × Dv)
  bl : List (ByteArray × Nat)
  dl : List (ByteArray × Nat)
  s : ArrS
def MH.hd (c : MH) (k : Nat) : DH := (c.l.getD k (dh0, Dv.z)).1
def MH.bs (c : MH) (k : Nat) : Nat := (c.hd k).b
def wC (bs : Nat → Nat) (w : Wt) : WtC := ⟨w.tk, bs w.gv, w.t⟩
def zfg (h : DH) (d : Dv) : List Value := [.string d.name, h.lv.v, h.nw.v, .bool d.hl, .bool d.hn, .bool d.susp, .bool d.gone, h.wt.v]
def DevC (a : Nat) (bs : Nat → Nat) (x : DH × Dv) : HP :=
  if x.2.gone then star [] else if x.2.isB then blkR x.1.b 161 [ptr a 0, .int .i64 (x.1.dn : Int), .int .i64 0, .int .i64 (x.2.base.length : Int)]
  else star [blk x.1.b 111 (zfg x.1 x.2), sl tyapi_Target x.1.lv.v x.2.live, sl tyapi_Target x.1.nw.v x.2.new, sl tyErr x.1.wt.v (x.2.wait.map (wC bs))]
structure MapWF (c : MH) (m : Md) : Prop where
  dv : c.l.map Prod.snd = m.dv
  ok : MdOk m
  big : MdBig m
  dl : ∀ n, lookM c.dl n = (m.dev n).map c.bs
  bl : ∀ n, lookM c.bl n = (m.bas n).map c.bs
  inj : ∀ i j, m.isD i → m.isD j → c.bs i = c.bs j → i = j
  good : Good c.s
  dsk : ∀ k, m.isBs k → (c.hd k).dn < c.s.drv.length ∧ nowL c.s (c.hd k).dn = (m.at k).base ∧ (m.at k).base.length ≤ 65536
  dsj : ∀ i j, m.isBs i → m.isBs j → (c.hd i).dn = (c.hd j).dn → i = j
  wr : c.s.writes ≤ m.wr
def MapRG (X : HP) (c : MH) (m : Md) : HP := star [pur (MapWF c m), mpc mBas c.bm c.bl, X, sl tyS c.ov.v m.names, sl zau c.tv.v m.told, Go.VG.Own (DevC c.a c.bs) c.l, Arr c.a c.s]
abbrev MapR (c : MH) (m : Md) : HP := MapRG (mpc mDev c.dm c.dl) c m
abbrev zax (c : MH) (m : Md) : List Value := [.map (some c.bm), .map (some c.dm), c.ov.v, .int .i64 (m.tks : Int), c.tv.v]
def MapP (b : Nat) (m : Md) : HP := ex fun c : MH => star [pur (MdBd m), blk b 84 (zax c m), MapR c m]
theorem zin {b : Nat} {m : Md} {R : List HP} : EntX (MapP b m :: R) fun c : MH => pur (MdBd m) :: blk b 84 (zax c m) :: MapR c m :: R :=
  fun _ hh => let ⟨c, hc⟩ := stars_ex.1 hh; ⟨c, stars_star.1 hc⟩
theorem zgi {b : Nat} {m : Md} {c : MH} {R : List HP} (h : MdBd m) : Ent (blk b 84 (zax c m) :: MapR c m :: R) (MapP b m :: R) :=
  fun _ hh => stars_ex.2 ⟨c, stars_star.2 (stars_pur.2 ⟨h, hh⟩)⟩
theorem zb3 {X : HP} {H : List HP} {C : HP → List HP} {c : MH} {m : Md} (hf : Foc H (MapRG X c m) C) : ∀ h, stars H h → MapWF c m := fun h hh => by
  obtain ⟨F, hp, _⟩ := hf.focus
  exact (stars_pur.1 (stars_star.1 (zbr hp _ hh))).1
theorem zrn {c : MH} {m : Md} {R : List HP} (h : MapWF c m) : Ent (mpc mBas c.bm c.bl :: mpc mDev c.dm c.dl :: sl tyS c.ov.v m.names :: sl zau c.tv.v m.told :: Go.VG.Own (DevC c.a c.bs) c.l :: Arr c.a c.s :: R) (MapR c m :: R) := fun _ hh => stars_star.2 (stars_pur.2 ⟨h, hh⟩)
section
variable {X : HP} {c : MH} {m : Md} {k : Nat} {R : List HP}
theorem MapWF.at (h : MapWF c m) (hk : k < m.dv.length) : k < c.l.length ∧ c.l.getD k (dh0, Dv.z) = (c.hd k, m.at k) := by
  have h1 : c.l.length = m.dv.length := by rw [← h.dv]; simp
  refine ⟨by omega, ?_⟩
  have h2 := zo9 (fun p : DH × Dv => p.2) c.l k (dh0, Dv.z)
  have h3 : (c.l.map fun p : DH × Dv => p.2).getD k Dv.z = m.at k := by rw [show (c.l.map fun p : DH × Dv => p.2) = m.dv from h.dv]; rfl
  have h4 : (c.l.getD k (dh0, Dv.z)).2 = m.at k := h2.symm.trans h3
  rw [← h4]; rfl
def MRest (X : HP) (c : MH) (m : Md) (k : Nat) : HP := star [mpc mBas c.bm c.bl, X, sl tyS c.ov.v m.names, sl zau c.tv.v m.told, ORest (DevC c.a c.bs) c.l k, Arr c.a c.s]
theorem zjl {a : Nat} {bs : Nat → Nat} {h : DH} {d : Dv} (h1 : d.gone = false) (h2 : d.isB = false) : DevC a bs (h, d) = star [blk h.b 111 (zfg h d), sl tyapi_Target h.lv.v d.live, sl tyapi_Target h.nw.v d.new, sl tyErr h.wt.v (d.wait.map (wC bs))] := by
  unfold DevC; rw [if_neg (by simp [h1]), if_neg (by simp [h2])]
theorem zl6 {a : Nat} {bs : Nat → Nat} {h : DH} {d : Dv} (h1 : d.gone = false) (h2 : d.isB = true) : DevC a bs (h, d) = blkR h.b 161 [ptr a 0, .int .i64 (h.dn : Int), .int .i64 0, .int .i64 (d.base.length : Int)] := by
  unfold DevC; rw [if_neg (by simp [h1]), if_pos h2]
theorem za8 (hk : m.isD k) : Ent (MapRG X c m :: R) (blk (c.bs k) 111 (zfg (c.hd k) (m.at k)) :: sl tyapi_Target (c.hd k).lv.v (m.at k).live :: sl tyapi_Target (c.hd k).nw.v (m.at k).new :: sl tyErr (c.hd k).wt.v ((m.at k).wait.map (wC c.bs)) :: MRest X c m k :: R) := fun h hh => by
  obtain ⟨hw, h1⟩ := stars_pur.1 (stars_star.1 hh)
  obtain ⟨g1, g2⟩ := hw.at hk.1
  have e := zjd (DevC c.a c.bs) k (dh0, Dv.z) g1 (R := [mpc mBas c.bm c.bl, X, sl tyS c.ov.v m.names, sl zau c.tv.v m.told, Arr c.a c.s] ++ R)
  rw [g2, zjl hk.2.1 hk.2.2] at e
  have h2 := e h (zbr (show List.Perm _ (Go.VG.Own (DevC c.a c.bs) c.l :: ([mpc mBas c.bm c.bl, X, sl tyS c.ov.v m.names, sl zau c.tv.v m.told, Arr c.a c.s] ++ R)) from (List.perm_middle (l₁ := [_, _, _, _]))) _ h1)
  have h3 := stars_star.1 h2
  have h4 : List.Perm ([blk (c.hd k).b 111 (zfg (c.hd k) (m.at k)), sl tyapi_Target (c.hd k).lv.v (m.at k).live, sl tyapi_Target (c.hd k).nw.v (m.at k).new, sl tyErr (c.hd k).wt.v ((m.at k).wait.map (wC c.bs))] ++ (ORest (DevC c.a c.bs) c.l k :: ([mpc mBas c.bm c.bl, X, sl tyS c.ov.v m.names, sl zau c.tv.v m.told, Arr c.a c.s] ++ R))) ([mpc mBas c.bm c.bl, X, sl tyS c.ov.v m.names, sl zau c.tv.v m.told, ORest (DevC c.a c.bs) c.l k, Arr c.a c.s] ++ ([blk (c.hd k).b 111 (zfg (c.hd k) (m.at k)), sl tyapi_Target (c.hd k).lv.v (m.at k).live, sl tyapi_Target (c.hd k).nw.v (m.at k).new, sl tyErr (c.hd k).wt.v ((m.at k).wait.map (wC c.bs))] ++ R)) := by
    refine (List.perm_append_comm_assoc [_, _, _, _] (ORest (DevC c.a c.bs) c.l k :: [mpc mBas c.bm c.bl, X, sl tyS c.ov.v m.names, sl zau c.tv.v m.told, Arr c.a c.s]) R).trans ?_
    exact List.Perm.append_right _ (List.perm_middle (l₁ := [_, _, _, _])).symm
  have h5 := stars_star.2 (zbr h4 _ h3)
  exact zbr (List.perm_middle (l₁ := [_, _, _, _])).symm _ h5
theorem zur {c' : MH} {m' : Md} {h' : DH} {d' : Dv} (hk : k < c.l.length) (h1 : d'.gone = false) (h2 : d'.isB = false) (hc : c' = { c with l := c.l.set k (h', d') }) (hn : m'.names = m.names) (ht : m'.told = m.told) (hb : c'.bs = c.bs) (hw : MapWF c' m') :
    Ent (blk h'.b 111 (zfg h' d') :: sl tyapi_Target h'.lv.v d'.live :: sl tyapi_Target h'.nw.v d'.new :: sl tyErr h'.wt.v (d'.wait.map (wC c.bs)) :: MRest X c m k :: R) (MapRG X c' m' :: R) := fun h hh => by
  have h3 := zbr (List.perm_middle (l₁ := [_, _, _, _])) _ hh
  have h4 := stars_star.1 h3
  have e := zj6 (f := DevC c.a c.bs) (l := c.l) (i := k) (h', d') hk (R := [mpc mBas c.bm c.bl, X, sl tyS c.ov.v m.names, sl zau c.tv.v m.told, Arr c.a c.s] ++ R)
  rw [zjl h1 h2] at e
  have h5 : List.Perm ([mpc mBas c.bm c.bl, X, sl tyS c.ov.v m.names, sl zau c.tv.v m.told, ORest (DevC c.a c.bs) c.l k, Arr c.a c.s] ++ ([blk h'.b 111 (zfg h' d'), sl tyapi_Target h'.lv.v d'.live, sl tyapi_Target h'.nw.v d'.new, sl tyErr h'.wt.v (d'.wait.map (wC c.bs))] ++ R)) ([blk h'.b 111 (zfg h' d'), sl tyapi_Target h'.lv.v d'.live, sl tyapi_Target h'.nw.v d'.new, sl tyErr h'.wt.v (d'.wait.map (wC c.bs))] ++ (ORest (DevC c.a c.bs) c.l k :: ([mpc mBas c.bm c.bl, X, sl tyS c.ov.v m.names, sl zau c.tv.v m.told, Arr c.a c.s] ++ R))) := by
    refine (List.perm_append_comm_assoc _ [_, _, _, _] R).trans ?_
    exact List.Perm.append_left _ (List.Perm.append_right R (List.perm_middle (l₁ := [_, _, _, _])))
  have h6 := e h (stars_star.2 (zbr h5 _ h4) |> fun z => by
    obtain ⟨g1, g2, dj, e2, ha, hb2⟩ := z
    exact ⟨g1, g2, dj, e2, ha, hb2⟩)
  subst hc
  unfold MapRG
  refine stars_star.2 (stars_pur.2 ⟨hw, ?_⟩)
  rw [hn, ht, hb]
  exact zbr (show List.Perm (Go.VG.Own (DevC c.a c.bs) (c.l.set k (h', d')) :: ([mpc mBas c.bm c.bl, X, sl tyS c.ov.v m.names, sl zau c.tv.v m.told, Arr c.a c.s] ++ R)) _ from (List.perm_middle (l₁ := [_, _, _, _])).symm) _ h6
def zie (X : HP) (c : MH) (m : Md) (k : Nat) : HP := star [pur (MapWF c m), mpc mBas c.bm c.bl, X, sl tyS c.ov.v m.names, sl zau c.tv.v m.told, ORest (DevC c.a c.bs) c.l k]
abbrev zm4 (a : Nat) (h : DH) (d : Dv) : List Value := [ptr a 0, .int .i64 (h.dn : Int), .int .i64 0, .int .i64 (d.base.length : Int)]
theorem zjm (hk : m.isBs k) : Ent (MapRG X c m :: R) (blkR (c.bs k) 161 (zm4 c.a (c.hd k) (m.at k)) :: Arr c.a c.s :: zie X c m k :: R) := fun h hh => by
  obtain ⟨hw, h1⟩ := stars_pur.1 (stars_star.1 hh)
  obtain ⟨g1, g2⟩ := hw.at hk.1
  have e := zjd (DevC c.a c.bs) k (dh0, Dv.z) g1 (R := [mpc mBas c.bm c.bl, X, sl tyS c.ov.v m.names, sl zau c.tv.v m.told, Arr c.a c.s] ++ R)
  rw [g2, zl6 hk.2.1 hk.2.2] at e
  have h2 := e h (zbr (show List.Perm _ (Go.VG.Own (DevC c.a c.bs) c.l :: ([mpc mBas c.bm c.bl, X, sl tyS c.ov.v m.names, sl zau c.tv.v m.told, Arr c.a c.s] ++ R)) from (List.perm_middle (l₁ := [_, _, _, _]))) _ h1)
  have h3 : List.Perm (ORest (DevC c.a c.bs) c.l k :: ([mpc mBas c.bm c.bl, X, sl tyS c.ov.v m.names, sl zau c.tv.v m.told, Arr c.a c.s] ++ R)) (Arr c.a c.s :: ([mpc mBas c.bm c.bl, X, sl tyS c.ov.v m.names, sl zau c.tv.v m.told, ORest (DevC c.a c.bs) c.l k] ++ R)) :=
    (List.perm_middle (l₁ := [_, _, _, _, _]) (l₂ := R) (a := Arr c.a c.s)).trans (List.Perm.cons _ (List.perm_middle (l₁ := [_, _, _, _]) (l₂ := R) (a := ORest (DevC c.a c.bs) c.l k)).symm) |> fun p => (List.Perm.refl _).trans p
  have h4 := zbr (List.Perm.cons _ h3) _ h2
  refine zbr (List.Perm.cons _ (List.Perm.cons _ (List.Perm.refl _))) _ (?_ : stars (_ :: _ :: _) h)
  obtain ⟨a1, a2, d1, e1, p1, q1⟩ := h4
  obtain ⟨b1, b2, d2, e2, p2, q2⟩ := q1
  exact ⟨a1, a2, d1, e1, p1, b1, b2, d2, e2, p2, stars_star.2 (stars_pur.2 ⟨hw, q2⟩)⟩
theorem zkm {c' : MH} {m' : Md} {d' : Dv} {s' : ArrS} (hk : k < c.l.length) (h1 : d'.gone = false) (h2 : d'.isB = true) (hl : d'.base.length = (m.at k).base.length) (hc : c' = { c with l := c.l.set k (c.hd k, d'), s := s' }) (hn : m'.names = m.names) (ht : m'.told = m.told) (hb : c'.bs = c.bs) (hw : MapWF c' m') :
    Ent (blkR (c.bs k) 161 (zm4 c.a (c.hd k) (m.at k)) :: Arr c.a s' :: zie X c m k :: R) (MapRG X c' m' :: R) := fun h hh => by
  obtain ⟨a1, a2, d1, e1, p1, b1, b2, d2, e2, p2, q2⟩ := hh
  have h4 : stars (blkR (c.bs k) 161 (zm4 c.a (c.hd k) (m.at k)) :: Arr c.a s' :: ([mpc mBas c.bm c.bl, X, sl tyS c.ov.v m.names, sl zau c.tv.v m.told, ORest (DevC c.a c.bs) c.l k] ++ R)) h := ⟨a1, a2, d1, e1, p1, b1, b2, d2, e2, p2, (stars_pur.1 (stars_star.1 q2)).2⟩
  have e := zj6 (f := DevC c.a c.bs) (l := c.l) (i := k) (c.hd k, d') hk (R := [mpc mBas c.bm c.bl, X, sl tyS c.ov.v m.names, sl zau c.tv.v m.told, Arr c.a s'] ++ R)
  rw [zl6 h1 h2, hl] at e
  have h3 : List.Perm (Arr c.a s' :: ([mpc mBas c.bm c.bl, X, sl tyS c.ov.v m.names, sl zau c.tv.v m.told, ORest (DevC c.a c.bs) c.l k] ++ R)) (ORest (DevC c.a c.bs) c.l k :: ([mpc mBas c.bm c.bl, X, sl tyS c.ov.v m.names, sl zau c.tv.v m.told, Arr c.a s'] ++ R)) :=
    (List.perm_middle (l₁ := [_, _, _, _, _]) (l₂ := R) (a := ORest (DevC c.a c.bs) c.l k)).trans (List.Perm.cons _ (List.perm_middle (l₁ := [_, _, _, _]) (l₂ := R) (a := Arr c.a s')).symm) |> fun p => p
  have h6 := e h (zbr (List.Perm.cons _ h3) _ h4)
  subst hc
  unfold MapRG
  refine stars_star.2 (stars_pur.2 ⟨hw, ?_⟩)
  rw [hn, ht, hb]
  exact zbr (show List.Perm (Go.VG.Own (DevC c.a c.bs) (c.l.set k (c.hd k, d')) :: ([mpc mBas c.bm c.bl, X, sl tyS c.ov.v m.names, sl zau c.tv.v m.told, Arr c.a s'] ++ R)) _ from (List.perm_middle (l₁ := [_, _, _, _])).symm) _ h6
theorem zjn (hk : m.isBs k) : Ent (blkR (c.bs k) 161 (zm4 c.a (c.hd k) (m.at k)) :: Arr c.a c.s :: zie X c m k :: R) (MapRG X c m :: R) := fun h hh => by
  obtain ⟨a1, a2, d1, e1, p1, b1, b2, d2, e2, p2, q2⟩ := id hh
  have hw := (stars_pur.1 (stars_star.1 q2)).1
  obtain ⟨g1, g2⟩ := hw.at hk.1
  have e : c.l.set k (c.hd k, m.at k) = c.l := by
    rw [← g2]; simp [List.getD, g1]
  refine zkm (d' := m.at k) g1 hk.2.1 hk.2.2 rfl ?_ rfl rfl rfl hw h hh
  rw [e]
theorem zif {l : List (DH × Dv)} {h' : DH} {d' : Dv} {s' : ArrS} (hk : k < c.l.length) (hb : h'.b = c.bs k) (hl : l = c.l.set k (h', d')) : ({ c with l := l, s := s' } : MH).bs = c.bs := by
  funext i
  subst hl
  unfold MH.bs MH.hd
  by_cases e : i = k
  · subst e
    have : (c.l.set i (h', d')).getD i (dh0, Dv.z) = (h', d') := by simp [List.getD, hk]
    show ((c.l.set i (h', d')).getD i (dh0, Dv.z)).1.b = _
    rw [this]; exact hb
  · show ((c.l.set k (h', d')).getD i (dh0, Dv.z)).1.b = _
    have : (c.l.set k (h', d')).getD i (dh0, Dv.z) = c.l.getD i (dh0, Dv.z) := by simp [List.getD, List.getElem?_set, Ne.symm e]
    rw [this]
end
end Go.Proofs
