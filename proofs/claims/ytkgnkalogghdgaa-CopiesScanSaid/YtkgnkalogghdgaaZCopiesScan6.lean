/- CopiesScan, part 6 of the proof: LCop, PCopC, LAw13, PCop1, PCop2, LMax, LCopiesScan, PCopiesScan. -/
import Derived.WalkKit
import Derived.Orders
import Derived.RangeFuncLeaves
import Derived.RangeFuncCalls
import Derived.TacticsIn
import Derived.Handy
import Derived.OrdersHeld
import Derived.OrdersIn
import Derived.Below
import Derived.OpenShut
import Derived.Deep.Slices
import Derived.Scope
import Derived.KernelRfl
import Derived.RangeFuncRecord
import Derived.ChangeKeysEq
import Derived.Laws.BytesArg
import Derived.ProofKit
import Derived.ShutString
import Derived.ChangeOld
import Derived.Test.YtkgnkalogghdgaaChecked
import Derived.Test.YtkgnkalogghdgaaRows
import Derived.Test.YtkgnkalogghdgaaZCopiesScan5
set_option linter.unusedSimpArgs false
set_option linter.unusedVariables false
set_option maxRecDepth 20000
set_option maxHeartbeats 4000000
namespace Go.Proofs
open Go.VG
@[ext] structure copies_found where
  copy : api_Copy
  error : Int
  failed : Bool
  seq : Int
  deriving DecidableEq
theorem bs_66_1_0 (v0 : Bool) (v1 : Int) (v2 : ByteArray) : BuildsSlice Try.prog 66 1 [(0, .agg #[.bool v0, .int .i64 v1, .string v2])] 34 [.bool v0, .int .i64 v1, .string v2] := fun w => by kernel_rfl
def copies_look (x_0 : Dvc) (s : ArrS) : Option (copies_found) :=
  Option.bind (ring_Read x_0 s) fun r2 =>
  Option.bind ((
    if ((r2.2 ≠ (0 : Int)) ∧ (r2.2 ≠ (11 : Int))) then
      some ((false, (0 : Int), ByteArray.empty))
    else
      some (r2.1.Valid, r2.1.Seq, r2.1.Text) : Option (Bool × Int × ByteArray))) fun a16 =>
  Option.bind (ring_Seqs x_0 s) fun r18 =>
  if (¬ ((r18.2.2 ≠ (0 : Int)) ∨ (((r2.2 ≠ (0 : Int)) ∧ (r2.2 ≠ (12 : Int))) ∧ (r2.2 ≠ (11 : Int))))) then
    some ((⟨(⟨a16.1, a16.2.1, a16.2.2⟩ : api_Copy), r2.2, ((decide (r18.2.2 ≠ (0 : Int))) || (((decide (r2.2 ≠ (0 : Int))) && (decide (r2.2 ≠ (12 : Int)))) && (decide (r2.2 ≠ (11 : Int))))), (max r18.1 r18.2.1)⟩ : copies_found))
  else
    some ((⟨(⟨a16.1, a16.2.1, a16.2.2⟩ : api_Copy), r2.2, ((decide (r18.2.2 ≠ (0 : Int))) || (((decide (r2.2 ≠ (0 : Int))) && (decide (r2.2 ≠ (12 : Int)))) && (decide (r2.2 ≠ (11 : Int))))), (0 : Int)⟩ : copies_found))
theorem L_copies_look {W : World} {vx_0 : IfH} {bs : Nat} {x_0 : Dvc} {s : ArrS} {r : copies_found} (h : copies_look x_0 s = some r) :
    CSpec Try.prog W 73 [IfH.v vx_0] [DevP bs x_0 vx_0, Arr bs s] (fun x : Unit => .agg #[.bool r.copy.Valid, .int .i64 r.copy.Seq, .string r.copy.Text, .int .i64 r.error, .bool r.failed, .int .i64 r.seq]) (fun _ => True) (fun x F => DevP bs x_0 vx_0 :: Arr bs s :: F) := by
 refine CSpec.of_body Try.func73 rfl Try.ntmps73 rfl fun F => ?_
 show CJ _ _ _ _ _ _ (_ :: _ :: F)
 unfold copies_look at h
 refine sR <| oO <| O_alloc Try.zeroValue140 rfl rfl fun b1 => nT <| sR <| oM rfl rfl ?_
 obtain ⟨r2, hr3, h⟩ := bind_e h
 refine oO <| O_call (L_ring_Read hr3) rfl Try.call18 (Dels.cons del1 (Dels.cons del1 Dels.nil)) rfl fun _ _ => oM rfl rfl <| oP (P_extract rfl rfl) rfl <| oP (P_extract rfl rfl) rfl <| oP (P_fieldAddr rfl ⟨_, _, _, Try.runUnderlying140, rfl, rfl, Try.sizeOf34, rfl⟩) rfl <| oO <| O_storeN rfl rfl foc2 Try.sizeOf34 rfl rfl rfl <| oP (P_fieldAddr rfl ⟨_, _, _, Try.runUnderlying140, rfl, rfl, Try.sizeOf30, rfl⟩) rfl <| oO <| O_store rfl rfl foc2 rfl rfl Try.sizeOf30 <| nT <| CJ_seq <| sR <| oP (P_fieldAddr rfl ⟨_, _, _, Try.runUnderlying140, rfl, rfl, Try.sizeOf30, rfl⟩) rfl <| oV (V_load rfl foc2 rfl Try.isAgg30) rfl <| oP (P_neq (a := r2.2) (b := (0 : Int)) rfl rfl) rfl <| oM rfl rfl <| RJ_mbT rfl rfl rfl (fun hG4 => have hP5 : (r2.2 ≠ (0 : Int)) := (bT_dec).1 hG4; VJ_P (P_fieldAddr rfl ⟨_, _, _, Try.runUnderlying140, rfl, rfl, Try.sizeOf30, rfl⟩)) <| RJ_mbT rfl rfl rfl (fun hG6 => have hP7 : (r2.2 ≠ (0 : Int)) := (bT_dec).1 hG6; V_load (mbx hG6 rfl) foc2 rfl Try.isAgg30) <| RJ_mbT rfl rfl rfl (fun hG8 => have hP9 : (r2.2 ≠ (0 : Int)) := (bT_dec).1 hG8; VJ_P (P_neq (a := r2.2) (b := (11 : Int)) (mbx hG8 rfl) rfl)) <| oP (P_pickAnd rfl (fun hh => mbx hh rfl) rfl) rfl <| nT ?_
 obtain ⟨y12, hl10, hK11⟩ := bind_c h
 refine CJ_cutT (X := Bool × Int × ByteArray) [21, 22] (fun a16 => ([] : Slots)) (fun a16 R => blk b1 140 [.bool a16.1, .int .i64 a16.2.1, .string a16.2.2, .int .i64 r2.2, .bool false, .int .i64 (0 : Int)] :: R) (fun a16 => y12 = a16) (Dels.cons del2 Dels.nil) ?_ ?_
 ·
  have h := hl10
  refine CJ_condP rfl (bT_and bT_dec bT_dec) (fun hg1 => ?_) (fun hg1 => ?_)
  ·
   replace h := ite_t hg1 h
   exact CJ_region <| oP (P_build rfl (bld_34)) rfl <| oP (P_fieldAddr rfl ⟨_, _, _, Try.runUnderlying140, rfl, rfl, Try.sizeOf34, rfl⟩) rfl <| oO <| O_storeN rfl rfl foc2 Try.sizeOf34 rfl rfl rfl <| RJ_nil <| cR (false, (0 : Int), ByteArray.empty) (Option.some.inj h).symm True.intro (t2_ eR)
  ·
   replace h := ite_f hg1 h
   exact CJ_skip <| cR (r2.1.Valid, r2.1.Seq, r2.1.Text) (Option.some.inj h).symm True.intro (t2_ eR)
 ·
  rintro a16 hy17
  replace h := bindK_at hK11 hy17
  show CJ _ _ _ _ _ (([] : Slots) ++ forget _ _) (blk b1 140 [.bool a16.1, .int .i64 a16.2.1, .string a16.2.2, .int .i64 r2.2, .bool false, .int .i64 (0 : Int)] :: _)
  refine sR <| oM rfl rfl ?_
  obtain ⟨r18, hr19, h⟩ := bind_e h
  refine oO <| O_call (L_ring_Seqs hr19) rfl Try.call25 (Dels.cons del1 (Dels.cons del1 Dels.nil)) rfl fun _ _ => oM rfl rfl <| oP (P_extract rfl rfl) rfl <| oP (P_extract rfl rfl) rfl <| oP (P_extract rfl rfl) rfl <| oA rfl rfl <| oA rfl rfl <| oA rfl rfl <| nT <| sR <| oM rfl rfl <| oP (P_neq (a := r18.2.2) (b := (0 : Int)) rfl rfl) rfl <| oM rfl rfl <| RJ_mbF rfl rfl rfl (fun hG20 => have hP21 : ¬ (r18.2.2 ≠ (0 : Int)) := nP (bT_dec) hG20; VJ_P (P_fieldAddr rfl ⟨_, _, _, Try.runUnderlying140, rfl, rfl, Try.sizeOf30, rfl⟩)) <| RJ_mbF rfl rfl rfl (fun hG22 => have hP23 : ¬ (r18.2.2 ≠ (0 : Int)) := nP (bT_dec) hG22; V_load (mbx hG22 rfl) foc2 rfl Try.isAgg30) <| RJ_mbF rfl rfl rfl (fun hG24 => have hP25 : ¬ (r18.2.2 ≠ (0 : Int)) := nP (bT_dec) hG24; VJ_P (P_neq (a := r2.2) (b := (0 : Int)) (mbx hG24 rfl) rfl)) <| RJ_mbF rfl rfl rfl (fun hG26 => have hP27 : ¬ (r18.2.2 ≠ (0 : Int)) := nP (bT_dec) hG26; VJ_P (P_move (mbx hG26 rfl))) <| RJ_mbGT rfl rfl rfl (fun hG28 => have hP29 : ¬ (r18.2.2 ≠ (0 : Int)) := nP (bT_dec) (and_l hG28); have hP30 : (r2.2 ≠ (0 : Int)) := (bT_dec).1 (and_r hG28); VJ_P (P_fieldAddr rfl ⟨_, _, _, Try.runUnderlying140, rfl, rfl, Try.sizeOf30, rfl⟩)) <| RJ_mbGT rfl rfl rfl (fun hG31 => have hP32 : ¬ (r18.2.2 ≠ (0 : Int)) := nP (bT_dec) (and_l hG31); have hP33 : (r2.2 ≠ (0 : Int)) := (bT_dec).1 (and_r hG31); V_load (mbx hG31 rfl) foc2 rfl Try.isAgg30) ?_
  refine RJ_mbGT rfl rfl rfl (fun hG34 => have hP35 : ¬ (r18.2.2 ≠ (0 : Int)) := nP (bT_dec) (and_l hG34); have hP36 : (r2.2 ≠ (0 : Int)) := (bT_dec).1 (and_r hG34); VJ_P (P_neq (a := r2.2) (b := (12 : Int)) (mbx hG34 rfl) rfl)) <| RJ_mbF rfl rfl rfl (fun hG37 => have hP38 : ¬ (r18.2.2 ≠ (0 : Int)) := nP (bT_dec) hG37; VJ_P (P_pickAnd (mbx hG37 rfl) (fun hh => mbx (and_i hG37 hh) rfl) rfl)) <| RJ_mbF rfl rfl rfl (fun hG39 => have hP40 : ¬ (r18.2.2 ≠ (0 : Int)) := nP (bT_dec) hG39; VJ_P (P_move (mbx hG39 rfl))) <| RJ_mbGT rfl rfl rfl (fun hG41 => have hP42 : ¬ (r18.2.2 ≠ (0 : Int)) := nP (bT_dec) (and_l hG41); have hP43 : ((r2.2 ≠ (0 : Int)) ∧ (r2.2 ≠ (12 : Int))) := ((bT_and bT_dec bT_dec)).1 (and_r hG41); VJ_P (P_fieldAddr rfl ⟨_, _, _, Try.runUnderlying140, rfl, rfl, Try.sizeOf30, rfl⟩)) <| RJ_mbGT rfl rfl rfl (fun hG44 => have hP45 : ¬ (r18.2.2 ≠ (0 : Int)) := nP (bT_dec) (and_l hG44); have hP46 : ((r2.2 ≠ (0 : Int)) ∧ (r2.2 ≠ (12 : Int))) := ((bT_and bT_dec bT_dec)).1 (and_r hG44); V_load (mbx hG44 rfl) foc2 rfl Try.isAgg30) <| RJ_mbGT rfl rfl rfl (fun hG47 => have hP48 : ¬ (r18.2.2 ≠ (0 : Int)) := nP (bT_dec) (and_l hG47); have hP49 : ((r2.2 ≠ (0 : Int)) ∧ (r2.2 ≠ (12 : Int))) := ((bT_and bT_dec bT_dec)).1 (and_r hG47); VJ_P (P_neq (a := r2.2) (b := (11 : Int)) (mbx hG47 rfl) rfl)) <| RJ_mbF rfl rfl rfl (fun hG50 => have hP51 : ¬ (r18.2.2 ≠ (0 : Int)) := nP (bT_dec) hG50; VJ_P (P_pickAnd (mbx hG50 rfl) (fun hh => mbx (and_i hG50 hh) rfl) rfl)) ?_
  refine oP (P_pickOr rfl rfl (fun hh => mbx (not_f hh) rfl)) rfl <| oP (P_fieldAddr rfl ⟨_, _, _, Try.runUnderlying140, rfl, rfl, Try.sizeOf4, rfl⟩) rfl <| oO <| O_store rfl rfl foc2 rfl rfl Try.sizeOf4 <| nT <| CJ_seq <| sR <| oP (P_fieldAddr rfl ⟨_, _, _, Try.runUnderlying140, rfl, rfl, Try.sizeOf4, rfl⟩) rfl <| oV (V_load rfl foc2 rfl Try.isAgg4) rfl <| oP (P_not rfl) rfl <| nT <| CJ_condP rfl (bT_not (bT_or bT_dec (bT_and (bT_and bT_dec bT_dec) bT_dec))) (fun hg2 => ?_) (fun hg2 => ?_)
  ·
   replace h := ite_t hg2 h
   refine CJ_region <| oM rfl rfl <| oM rfl rfl <| oP (P_max (a := r18.1) (b := r18.2.1) rfl rfl) rfl <| oP (P_fieldAddr rfl ⟨_, _, _, Try.runUnderlying140, rfl, rfl, Try.sizeOf3, rfl⟩) rfl <| oO <| O_store rfl rfl foc2 rfl rfl Try.sizeOf3 <| nT <| sR <| oV (V_loadN rfl foc2 Try.isAgg140 Try.sizeOf140 rfl rfl) rfl <| oO <| O_storeN rfl rfl foc2 Try.sizeOf140 rfl rfl rfl <| nT <| CJ_ret ?_
   cases h
   exact fE (resA1 Try.results73 (RV_cellN rfl foc2 Try.isAgg140 Try.sizeOf140 rfl rfl)) () (t0_ (t0_ (eD eR)))
  ·
   replace h := ite_f hg2 h
   refine kT <| sR <| oV (V_loadN rfl foc2 Try.isAgg140 Try.sizeOf140 rfl rfl) rfl <| oO <| O_storeN rfl rfl foc2 Try.sizeOf140 rfl rfl rfl <| nT <| CJ_ret ?_
   cases h
   exact fE (resA1 Try.results73 (RV_cellN rfl foc2 Try.isAgg140 Try.sizeOf140 rfl rfl)) () (t0_ (t0_ (eD eR)))
def copies_Scan_l1_b (l : List Dvc) (s : ArrS) (rec : Nat → (List api_Copy) → (List Int) → Int → Option ((List api_Copy) × (List Int) × Int)) (x14 : Nat) (x15 : List api_Copy) (x17 : List Int) (x19 : Int) : Option ((List api_Copy) × (List Int) × Int) :=
  if (((x14 : Nat) : Int) < ((l.length : Nat) : Int)) then
    Option.bind (copies_look (l.getD x14 dv0) s) fun r23 =>
    grd (inLen (x15.length + 1)) <|
    if r23.failed = true then
      grd (inLen (x17.length + 1)) <|
      rec (x14 + 1) ((x15 ++ [(⟨r23.copy.Valid, r23.copy.Seq, r23.copy.Text⟩ : api_Copy)])) ((x17 ++ [((x14 : Nat) : Int)])) (max x19 r23.seq)
    else
      rec (x14 + 1) ((x15 ++ [(⟨r23.copy.Valid, r23.copy.Seq, r23.copy.Text⟩ : api_Copy)])) x17 (max x19 r23.seq)
  else
    some (x15, x17, x19)
def copies_Scan_l1 (l : List Dvc) (s : ArrS) : Nat → Nat → (List api_Copy) → (List Int) → Int → Option ((List api_Copy) × (List Int) × Int)
  | 0, _, _, _, _ => none
  | n + 1, x14, x15, x17, x19 => copies_Scan_l1_b l s (copies_Scan_l1 l s n) x14 x15 x17 x19
def copies_Scan (l : List Dvc) (s : ArrS) : Option ((List api_Copy) × (List Int) × Int) :=
  Option.bind (copies_Scan_l1 l s FUEL 0 ([]) ([]) (0 : Int)) fun a13 =>
  some (a13.1, a13.2.1, a13.2.2)
theorem L_copies_Scan {W : World} {Al : HP} {vl : Value} {hsl : List IfH} {bs : Nat} {l : List Dvc} {s : ArrS} {r : (List api_Copy) × (List Int) × Int} (rl : Reads Al tyDev vl hsl) (h : copies_Scan l s = some r) :
    CSpec Try.prog W 41 [vl] [Al, Rs (DevP bs) l hsl, Arr bs s] (fun x : Sl3 × Sl3 => .tuple #[x.1.v, x.2.v, .int .i64 r.2.2]) (fun _ => True) (fun x F => Al :: Rs (DevP bs) l hsl :: Arr bs s :: sl tyapi_Copy x.1.v r.1 :: sl tyI x.2.v r.2.1 :: F) := by
 refine CSpec.of_body Try.func41 rfl Try.ntmps41 rfl fun F => ?_
 show CJ _ _ _ _ _ _ (_ :: _ :: _ :: F)
 unfold copies_Scan at h
 refine CJ_pure (len_of rl del0) fun hlen1 => CJ_pure (fun h hh => Rs_len (stars_perm (del1 (A := Rs (DevP bs) l hsl)).out h hh)) fun hdl2 => sR <| oA rfl rfl <| oA rfl rfl <| oA rfl rfl <| nT <| sR <| oA rfl rfl <| nT <| sR <| oA rfl rfl <| nT <| sR <| oA rfl rfl <| nT <| CJ_seq <| sR <| oM rfl rfl <| oV (VJ_eq (V_len rfl foc0 rl Try.runUnderlying67) (congrArg (fun z : Nat => Value.int .i64 (z : Int)) (hdl2).symm)) rfl <| oM rfl rfl <| nT <| CJ_ent (fun h hh => sl_nil (t := tyapi_Copy) h hh) <| CJ_ent (fun h hh => sl_nil (t := tyI) h hh) ?_
 obtain ⟨y7, hl5, hK6⟩ := bind_c h
 refine CJ_cutT (X := ((List api_Copy) × (List Int) × Int) × Sl3 × Sl3) [5, 6, 7, 8, 9, 10, 13, 14, 15, 16, 17, 18, 19, 20, 21, 22, 23, 24, 25, 26, 27, 28, 29, 30, 31, 32, 33, 34, 35] (fun ⟨a13, hd9, hd11⟩ => ([(5, hd9.v), (6, hd11.v), (7, .int .i64 a13.2.2)] : Slots)) (fun ⟨a13, hd9, hd11⟩ R => sl tyapi_Copy hd9.v a13.1 :: sl tyI hd11.v a13.2.1 :: R) (fun ⟨a13, hd9, hd11⟩ => y7 = a13) (Dels.cons del1 (Dels.cons del0 Dels.nil)) ?_ ?_
 ·
  refine CJ_block <| CJ_loopR (X := Nat × Nat × (List api_Copy) × (List Int) × Int × Sl3 × Sl3) [5, 6, 7, 8, 9, 10, 13, 14, 15, 16, 17, 18, 19, 20, 21, 22, 23, 24, 25, 26, 27, 28, 29, 30, 31, 32, 33, 34, 35] (fun ⟨n, x14, x15, x17, x19, hd16, hd18⟩ => ([(5, hd16.v), (6, hd18.v), (7, .int .i64 x19), (13, .int .i64 (((x14 : Nat) : Int)))] : Slots)) (fun ⟨n, x14, x15, x17, x19, hd16, hd18⟩ R => sl tyapi_Copy hd16.v x15 :: sl tyI hd18.v x17 :: R) (fun ⟨n, x14, x15, x17, x19, hd16, hd18⟩ => copies_Scan_l1 l s n x14 x15 x17 x19 = some y7) (fun ⟨n, x14, x15, x17, x19, hd16, hd18⟩ => n) ⟨FUEL, 0, [], [], (0 : Int), ⟨none, 0, 0⟩, ⟨none, 0, 0⟩⟩ ?_ ?_ (t1_ eR) ?_
  · exact hl5
  · exact ⟨rfl, rfl, rfl, rfl, True.intro⟩
  ·
   rintro ⟨n, x14, x15, x17, x19, hd16, hd18⟩ h
   cases n with
   | zero => exact none_e h
   | succ n => ?_
   replace h : copies_Scan_l1_b l s (copies_Scan_l1 l s n) x14 x15 x17 x19 = some y7 := h
   unfold copies_Scan_l1_b at h
   show CJ _ _ _ _ _ (([(5, hd16.v), (6, hd18.v), (7, .int .i64 x19), (13, .int .i64 (((x14 : Nat) : Int)))] : Slots) ++ forget _ _) (sl tyapi_Copy hd16.v x15 :: sl tyI hd18.v x17 :: _)
   refine lC del0 fun hlen20 => lC del1 fun hlen21 => sR <| oP (P_lss (a := ((x14 : Nat) : Int)) (b := ((l.length : Nat) : Int)) rfl rfl) rfl <| nT <| CJ_seq <| CJ_condP rfl bT_dec (fun hg1 => ?_) (fun hg1 => ?_)
   ·
    replace h := ite_t hg1 h
    refine kT <| CJ_seq <| CJ_block <| sR <| oM rfl rfl <| oV (V_index (i := x14) rfl rfl rfl (by have hz : x14 < l.length := (by omega); have hy := hdl2; omega) foc2 rl Try.runUnderlying67 Try.sizeOf26) rfl <| RJ_ent (Ent.trans (t3_ eR) (Rs_at (fun _ _ => Dup_DevP) (dx := dv0) (dh := tyDev.dflt) (i := x14) (by omega))) <| oV (V_loadE rfl rfl (by have hz : x14 < l.length := (by omega); have hy := hdl2; omega) foc4 rl rfl rfl Try.isAgg26) rfl <| oA rfl rfl <| oA rfl rfl <| nT <| sR <| oM rfl rfl ?_
    obtain ⟨r23, hr24, h⟩ := bind_e h
    refine oO <| O_call (L_copies_look hr24) rfl Try.call73 (Dels.cons del0 (Dels.cons del4 Dels.nil)) rfl fun _ _ => oO <| O_alloc Try.zeroValue140 rfl rfl fun b25 => oO <| O_storeN rfl rfl foc0 Try.sizeOf140 rfl rfl rfl <| RJ_nil <| QJ_ent (t0_ (t1_ (t1_ (t1_ (t1_ (t1_ (eD eR))))))) <| QJ_then <| sR <| oM rfl rfl <| oP (P_fieldAddr rfl ⟨_, _, _, Try.runUnderlying140, rfl, rfl, Try.sizeOf34, rfl⟩) rfl <| oV (V_loadN rfl foc0 Try.isAgg34 Try.sizeOf34 rfl rfl) rfl <| oO <| O_buildSlice rfl (bs_66_1_0 _ _ _) rfl fun b26 => ?_
    obtain ⟨hg2, h⟩ := grd_Le h
    refine oO <| O_append (t := tyapi_Copy) (bytes := 32) rfl rfl del4 foc0 (Reads.lit (t := tyapi_Copy) (ys := [(⟨r23.copy.Valid, r23.copy.Seq, r23.copy.Text⟩ : api_Copy)]) rfl rfl (by decide) (by decide) rfl) Try.underlying66 ok_tyapi_Copy (apl (m := 1) (b := 32) hg2 (by decide)).1 (apl (m := 1) (b := 32) hg2 (by decide)).2 rfl fun p28 c29 => oA rfl rfl <| RJ_nil <| QJ_ent (t0_ (t1_ (t1_ (t1_ (t1_ (t1_ (eD eR))))))) <| QJ_then <| CJ_seq <| sR <| oP (P_fieldAddr rfl ⟨_, _, _, Try.runUnderlying140, rfl, rfl, Try.sizeOf4, rfl⟩) rfl <| oV (V_load rfl foc1 rfl Try.isAgg4) rfl <| nT <| CJ_condP rfl Iff.rfl (fun hg3 => ?_) (fun hg3 => ?_)
    ·
     replace h := ite_t hg3 h
     refine CJ_region <| oM rfl rfl <| oM rfl rfl <| oO <| O_buildSlice rfl (bs_38_1_0 _) rfl fun b30 => ?_
     obtain ⟨hg4, h⟩ := grd_Le h
     exact oO <| O_append (t := tyI) (bytes := 8) rfl rfl del5 foc0 (Reads.lit (t := tyI) (ys := [((x14 : Nat) : Int)]) rfl rfl (by decide) (by decide) rfl) Try.underlying38 ok_tyI (apl (m := 1) (b := 8) hg4 (by decide)).1 (apl (m := 1) (b := 8) hg4 (by decide)).2 rfl fun p32 c33 => oA rfl rfl <| RJ_nil <| QJ_ent (t0_ (t1_ (t1_ (t1_ (t1_ (t1_ (eD eR))))))) <| QJ_then <| CJ_region <| oM rfl rfl <| oP (P_fieldAddr rfl ⟨_, _, _, Try.runUnderlying140, rfl, rfl, Try.sizeOf3, rfl⟩) rfl <| oV (V_load rfl foc2 rfl Try.isAgg3) rfl <| oP (P_max (a := x19) (b := r23.seq) rfl rfl) rfl <| oA rfl rfl <| RJ_nil <| QJ_block_normal <| QJ_then <| CJ_region <| oP (PJ_eq (P_add (a := ((x14 : Nat) : Int)) (b := (1 : Int)) rfl rfl (by omega)) rfl) rfl <| oM rfl rfl <| RJ_nil <| nR ⟨n, (x14 + 1), (x15 ++ [(⟨r23.copy.Valid, r23.copy.Seq, r23.copy.Text⟩ : api_Copy)]), (x17 ++ [((x14 : Nat) : Int)]), (max x19 r23.seq), ⟨p28, (x15 ++ [(⟨r23.copy.Valid, r23.copy.Seq, r23.copy.Text⟩ : api_Copy)]).length, c29⟩, ⟨p32, (x17 ++ [((x14 : Nat) : Int)]).length, c33⟩⟩ h ⟨rfl, rfl, rfl, rfl, True.intro⟩ (t1_ (t0_ (t3_ (t2_ (t1_ (eD eR))))))
    ·
     replace h := ite_f hg3 h
     exact kT <| CJ_region <| oM rfl rfl <| oP (P_fieldAddr rfl ⟨_, _, _, Try.runUnderlying140, rfl, rfl, Try.sizeOf3, rfl⟩) rfl <| oV (V_load rfl foc1 rfl Try.isAgg3) rfl <| oP (P_max (a := x19) (b := r23.seq) rfl rfl) rfl <| oA rfl rfl <| RJ_nil <| QJ_block_normal <| QJ_then <| CJ_region <| oP (PJ_eq (P_add (a := ((x14 : Nat) : Int)) (b := (1 : Int)) rfl rfl (by omega)) rfl) rfl <| oM rfl rfl <| RJ_nil <| nR ⟨n, (x14 + 1), (x15 ++ [(⟨r23.copy.Valid, r23.copy.Seq, r23.copy.Text⟩ : api_Copy)]), x17, (max x19 r23.seq), ⟨p28, (x15 ++ [(⟨r23.copy.Valid, r23.copy.Seq, r23.copy.Text⟩ : api_Copy)]).length, c29⟩, hd18⟩ h ⟨rfl, rfl, rfl, rfl, True.intro⟩ (t0_ (t3_ (t3_ (t2_ (t1_ (eD eR))))))
   ·
    replace h := ite_f hg1 h
    exact CJ_exit <| QJ_then_exit <| QJ_round_exit <| QJ_block_here <| cR ⟨(x15, x17, x19), hd16, hd18⟩ (Option.some.inj h).symm ⟨rfl, rfl, rfl, True.intro⟩ eR
 ·
  rintro ⟨a13, hd9, hd11⟩ hy34
  replace h := bindK_at hK6 hy34
  show CJ _ _ _ _ _ (([(5, hd9.v), (6, hd11.v), (7, .int .i64 a13.2.2)] : Slots) ++ forget _ _) (sl tyapi_Copy hd9.v a13.1 :: sl tyI hd11.v a13.2.1 :: _)
  refine lC del0 fun hlen35 => lC del1 fun hlen36 => sR <| oM rfl rfl <| oM rfl rfl <| oM rfl rfl <| oA rfl rfl <| oA rfl rfl <| oA rfl rfl <| nT <| CJ_ret ?_
  cases h
  exact fE (res3 Try.results41 rfl rfl rfl) ⟨hd9, hd11⟩ (t2_ (t2_ (t2_ eR)))
def copies_Choose_1 (c : api_Copy) : Option (Bool) :=
  some c.Valid
theorem L_copies_Choose_1 {W : World} {c : api_Copy} {r : Bool} (h : copies_Choose_1 c = some r) :
    CSpec Try.prog W 74 [.agg #[.bool c.Valid, .int .i64 c.Seq, .string c.Text]] [] (fun x : Unit => .bool r) (fun _ => True) (fun x F => F) := by
 refine CSpec.of_body Try.func74 rfl Try.ntmps74 rfl fun F => ?_
 show CJ _ _ _ _ _ _ (F)
 unfold copies_Choose_1 at h
 refine sR <| oO <| O_box rfl rfl rfl fun b1 => oA rfl rfl <| nT <| sR <| oP (P_fieldAddr rfl ⟨_, _, _, Try.runUnderlying34, rfl, rfl, Try.sizeOf4, rfl⟩) rfl <| oV (V_load rfl foc0 rfl Try.isAgg4) rfl <| oA rfl rfl <| nT <| CJ_ret ?_
 cases h
 exact fE (res1 Try.results74 rfl) () (eD eR)
def copies_Choose_2 (a : api_Copy) (b : api_Copy) : Option (Bool) :=
  some ((decide (b.Seq < a.Seq)))
theorem L_copies_Choose_2 {W : World} {a : api_Copy} {b : api_Copy} {r : Bool} (h : copies_Choose_2 a b = some r) :
    CSpec Try.prog W 76 [.agg #[.bool a.Valid, .int .i64 a.Seq, .string a.Text], .agg #[.bool b.Valid, .int .i64 b.Seq, .string b.Text]] [] (fun x : Unit => .bool r) (fun _ => True) (fun x F => F) := by
 refine CSpec.of_body Try.func76 rfl Try.ntmps76 rfl fun F => ?_
 show CJ _ _ _ _ _ _ (F)
 unfold copies_Choose_2 at h
 refine sR <| oO <| O_box rfl rfl rfl fun b1 => oO <| O_box rfl rfl rfl fun b2 => oA rfl rfl <| nT <| sR <| oP (P_fieldAddr rfl ⟨_, _, _, Try.runUnderlying34, rfl, rfl, Try.sizeOf3, rfl⟩) rfl <| oV (V_load rfl foc1 rfl Try.isAgg3) rfl <| oP (P_fieldAddr rfl ⟨_, _, _, Try.runUnderlying34, rfl, rfl, Try.sizeOf3, rfl⟩) rfl <| oV (V_load rfl foc0 rfl Try.isAgg3) rfl <| oP (P_gtr (a := a.Seq) (b := b.Seq) rfl rfl) rfl <| oA rfl rfl <| nT <| CJ_ret ?_
 cases h
 exact fE (res1 Try.results76 rfl) () (eD (eD eR))
def copies_best__copies_Choose_1_l1_b (l : List api_Copy) (rec : Nat → Int → Option (Int)) (x7 : Nat) (x8 : Int) : Option (Int) :=
  if (((x7 : Nat) : Int) < ((l.length : Nat) : Int)) then
    Option.bind (copies_Choose_1 ((l.getD x7 (⟨false, 0, ByteArray.empty⟩ : api_Copy)))) fun r10 =>
    if r10 = true then
      if (x8 < (0 : Int)) then
        rec (x7 + 1) (((x7 : Nat) : Int))
      else
        grd (decide (0 ≤ x8 ∧ x8 < (l.length : Int))) <|
        Option.bind (copies_Choose_2 ((l.getD x7 (⟨false, 0, ByteArray.empty⟩ : api_Copy))) ((l.getD ((x8).toNat) (⟨false, 0, ByteArray.empty⟩ : api_Copy)))) fun r12 =>
        if r12 = true then
          rec (x7 + 1) (((x7 : Nat) : Int))
        else
          rec (x7 + 1) x8
    else
      rec (x7 + 1) x8
  else
    some x8
def copies_best__copies_Choose_1_l1 (l : List api_Copy) : Nat → Nat → Int → Option (Int)
  | 0, _, _ => none
  | n + 1, x7, x8 => copies_best__copies_Choose_1_l1_b l (copies_best__copies_Choose_1_l1 l n) x7 x8
def copies_best__copies_Choose_1 (l : List api_Copy) : Option (Int) :=
  Option.bind (copies_best__copies_Choose_1_l1 l FUEL 0 (-1 : Int)) fun a6 =>
  some a6
theorem L_copies_best__copies_Choose_1 {W : World} {Al : HP} {vl : Value} {l : List api_Copy} {r : Int} (rl : Reads Al tyapi_Copy vl l) (h : copies_best__copies_Choose_1 l = some r) :
    CSpec Try.prog W 75 [vl, .func (.func 74) #[] #[], .func (.func 76) #[] #[]] [Al] (fun x : Unit => .int .i64 r) (fun _ => True) (fun x F => Al :: F) := by
 refine CSpec.of_body Try.func75 rfl Try.ntmps75 rfl fun F => ?_
 show CJ _ _ _ _ _ _ (_ :: F)
 unfold copies_best__copies_Choose_1 at h
 refine CJ_pure (len_of rl del0) fun hlen1 => sR <| oA rfl rfl <| nT <| sR <| oA rfl rfl <| nT <| CJ_seq <| sR <| oM rfl rfl <| oV (V_len rfl foc0 rl Try.runUnderlying66) rfl <| oM rfl rfl <| nT ?_
 obtain ⟨y4, hl2, hK3⟩ := bind_c h
 refine CJ_cutT (X := Int) [7, 8, 9, 12, 13, 14, 15, 16, 17, 18, 19, 20, 21, 22, 23, 24, 25, 26, 27, 28, 29, 30, 31, 32, 33, 34] (fun a6 => ([(7, .int .i64 a6)] : Slots)) (fun a6 R => R) (fun a6 => y4 = a6) Dels.nil ?_ ?_
 ·
  refine CJ_block <| CJ_loopR (X := Nat × Nat × Int) [7, 8, 9, 12, 13, 14, 15, 16, 17, 18, 19, 20, 21, 22, 23, 24, 25, 26, 27, 28, 29, 30, 31, 32, 33, 34] (fun ⟨n, x7, x8⟩ => ([(7, .int .i64 x8), (12, .int .i64 (((x7 : Nat) : Int)))] : Slots)) (fun ⟨n, x7, x8⟩ R => R) (fun ⟨n, x7, x8⟩ => copies_best__copies_Choose_1_l1 l n x7 x8 = some y4) (fun ⟨n, x7, x8⟩ => n) ⟨FUEL, 0, (-1 : Int)⟩ ?_ ?_ eR ?_
  · exact hl2
  · exact ⟨rfl, rfl, True.intro⟩
  ·
   rintro ⟨n, x7, x8⟩ h
   cases n with
   | zero => exact none_e h
   | succ n => ?_
   replace h : copies_best__copies_Choose_1_l1_b l (copies_best__copies_Choose_1_l1 l n) x7 x8 = some y4 := h
   unfold copies_best__copies_Choose_1_l1_b at h
   show CJ _ _ _ _ _ (([(7, .int .i64 x8), (12, .int .i64 (((x7 : Nat) : Int)))] : Slots) ++ forget _ _) (_)
   refine sR <| oP (P_lss (a := ((x7 : Nat) : Int)) (b := ((l.length : Nat) : Int)) rfl rfl) rfl <| nT <| CJ_seq <| CJ_condP rfl bT_dec (fun hg1 => ?_) (fun hg1 => ?_)
   ·
    replace h := ite_t hg1 h
    refine kT <| CJ_seq <| CJ_block <| sR <| oM rfl rfl <| oV (V_index (i := x7) rfl rfl rfl (by omega) foc0 rl Try.runUnderlying66 Try.sizeOf34) rfl <| oV (V_loadEN rfl rfl (by omega) foc0 rl rfl rfl Try.isAgg34 Try.sizeOf34) rfl <| oO <| O_alloc Try.zeroValue34 rfl rfl fun b9 => oA rfl rfl <| oO <| O_storeN rfl rfl foc0 Try.sizeOf34 rfl rfl rfl <| nT <| CJ_seq <| AJ_startH 8192 (by kernel_rfl) rfl <| aN 0 1 rfl rfl (P_move rfl) rfl <| aV 1 3 rfl rfl (GY_none rfl) eR (V_loadN rfl foc0 Try.isAgg34 Try.sizeOf34 rfl rfl) rfl ?_
    obtain ⟨r10, hr11, h⟩ := bind_e h
    refine AJ_op 2 7 rfl (by kernel_rfl) rfl (GY_none rfl) <| O_callV rfl rfl (L_copies_Choose_1 hr11) Try.call74 Dels.nil rfl fun _ _ => ⟨fun _ => eR, ?_⟩
    refine aN 3 15 rfl rfl (P_move rfl) rfl <| AJ_splitP 20 rfl Iff.rfl (fun hg2B hg2 => ?_) (fun hg2B hg2 => ?_)
    ·
     replace h := ite_t hg2 h
     refine aP 4 31 rfl rfl (GY_yes rfl rfl rfl hg2B) (P_move rfl) rfl <| aP 5 63 rfl rfl (GY_yes rfl rfl rfl hg2B) (P_lss (a := x8) (b := (0 : Int)) rfl rfl) rfl <| aP 6 127 rfl rfl (GY_yes rfl rfl rfl hg2B) (P_move rfl) rfl <| AJ_splitP 23 rfl bT_dec (fun hg3B hg3 => ?_) (fun hg3B hg3 => ?_)
     ·
      replace h := ite_t hg3 h
      exact aS 7 255 rfl rfl (GY_no rfl rfl rfl hg3B) rfl <| aS 8 511 rfl rfl (GY_no rfl rfl rfl hg3B) rfl <| aS 9 1023 rfl rfl (GY_no rfl rfl rfl hg3B) rfl <| aS 10 2047 rfl rfl (GY_no rfl rfl rfl hg3B) rfl <| aS 11 4095 rfl rfl (GY_no rfl rfl rfl hg3B) rfl <| aS 12 8191 rfl rfl (GY_no rfl rfl rfl hg3B) rfl <| aS 13 16383 rfl rfl (GY_no rfl rfl rfl hg3B) rfl <| aP 14 32767 rfl rfl (GY_yes rfl rfl rfl hg2B) (P_pickT rfl hg3B rfl) rfl <| aN 15 65535 rfl rfl (P_pickT rfl hg2B rfl) rfl <| aD <| CJ_condT rfl rfl <| CJ_region <| oM rfl rfl <| oA rfl rfl <| RJ_nil <| QJ_block_normal <| QJ_then <| CJ_region <| oP (PJ_eq (P_add (a := ((x7 : Nat) : Int)) (b := (1 : Int)) rfl rfl (by omega)) rfl) rfl <| oM rfl rfl <| RJ_nil <| nR ⟨n, (x7 + 1), ((x7 : Nat) : Int)⟩ h ⟨rfl, rfl, True.intro⟩ (t1_ (eD eR))
     ·
      replace h := ite_f hg3 h
      refine aP 7 255 rfl rfl (GY_yes rfl rfl rfl hg3B) (P_move rfl) rfl <| aV 8 511 rfl rfl (GY_yes rfl rfl rfl hg3B) eR (V_loadN rfl foc0 Try.isAgg34 Try.sizeOf34 rfl rfl) rfl <| aP 9 1023 rfl rfl (GY_yes rfl rfl rfl hg3B) (P_move rfl) rfl <| aP 10 2047 rfl rfl (GY_yes rfl rfl rfl hg3B) (P_move rfl) rfl ?_
      obtain ⟨hg4, h⟩ := grd_de h
      refine aV 11 4095 rfl rfl (GY_yes rfl rfl rfl hg3B) eR (V_index (i := (x8).toNat) rfl rfl (Int.toNat_of_nonneg (hg4.1)).symm (by omega) foc1 rl Try.runUnderlying66 Try.sizeOf34) rfl <| aV 12 8191 rfl rfl (GY_yes rfl rfl rfl hg3B) eR (V_loadEN rfl rfl (by omega) foc1 rl rfl rfl Try.isAgg34 Try.sizeOf34) rfl ?_
      obtain ⟨r12, hr13, h⟩ := bind_e h
      refine AJ_op 13 16383 rfl (by kernel_rfl) rfl (GY_yes rfl rfl rfl hg3B) <| O_callV rfl rfl (L_copies_Choose_2 hr13) Try.call76 Dels.nil rfl fun _ _ => ⟨fun h => absurd h (by decide), ?_⟩
      refine aP 14 32767 rfl rfl (GY_yes rfl rfl rfl hg2B) (P_pickF rfl hg3B rfl) rfl <| aN 15 65535 rfl rfl (P_pickT rfl hg2B rfl) rfl <| aD <| CJ_condP rfl Iff.rfl (fun hg5 => ?_) (fun hg5 => ?_)
      ·
       replace h := ite_t hg5 h
       exact CJ_region <| oM rfl rfl <| oA rfl rfl <| RJ_nil <| QJ_block_normal <| QJ_then <| CJ_region <| oP (PJ_eq (P_add (a := ((x7 : Nat) : Int)) (b := (1 : Int)) rfl rfl (by omega)) rfl) rfl <| oM rfl rfl <| RJ_nil <| nR ⟨n, (x7 + 1), ((x7 : Nat) : Int)⟩ h ⟨rfl, rfl, True.intro⟩ (t1_ (eD eR))
      ·
       replace h := ite_f hg5 h
       exact CJ_skip <| QJ_block_normal <| QJ_then <| CJ_region <| oP (PJ_eq (P_add (a := ((x7 : Nat) : Int)) (b := (1 : Int)) rfl rfl (by omega)) rfl) rfl <| oM rfl rfl <| RJ_nil <| nR ⟨n, (x7 + 1), x8⟩ h ⟨rfl, rfl, True.intro⟩ (t1_ (eD eR))
    ·
     replace h := ite_f hg2 h
     exact aS 4 31 rfl rfl (GY_no rfl rfl rfl hg2B) rfl <| aS 5 63 rfl rfl (GY_no rfl rfl rfl hg2B) rfl <| aS 6 127 rfl rfl (GY_no rfl rfl rfl hg2B) rfl <| aS 7 255 rfl rfl (GY_undef rfl rfl rfl) rfl <| aS 8 511 rfl rfl (GY_undef rfl rfl rfl) rfl <| aS 9 1023 rfl rfl (GY_undef rfl rfl rfl) rfl <| aS 10 2047 rfl rfl (GY_undef rfl rfl rfl) rfl <| aS 11 4095 rfl rfl (GY_undef rfl rfl rfl) rfl <| aS 12 8191 rfl rfl (GY_undef rfl rfl rfl) rfl <| aS 13 16383 rfl rfl (GY_undef rfl rfl rfl) rfl <| aS 14 32767 rfl rfl (GY_no rfl rfl rfl hg2B) rfl <| aN 15 65535 rfl rfl (P_pickF rfl hg2B rfl) rfl <| aD <| CJ_condF rfl rfl <| CJ_skip <| QJ_block_normal <| QJ_then <| CJ_region <| oP (PJ_eq (P_add (a := ((x7 : Nat) : Int)) (b := (1 : Int)) rfl rfl (by omega)) rfl) rfl <| oM rfl rfl <| RJ_nil <| nR ⟨n, (x7 + 1), x8⟩ h ⟨rfl, rfl, True.intro⟩ (t1_ (eD eR))
   ·
    replace h := ite_f hg1 h
    exact CJ_exit <| QJ_then_exit <| QJ_round_exit <| QJ_block_here <| cR x8 (Option.some.inj h).symm ⟨rfl, True.intro⟩ eR
 ·
  rintro a6 hy14
  replace h := bindK_at hK3 hy14
  show CJ _ _ _ _ _ (([(7, .int .i64 a6)] : Slots) ++ forget _ _) (_)
  refine sR <| oM rfl rfl <| oA rfl rfl <| nT <| CJ_ret ?_
  cases h
  exact fE (res1 Try.results75 rfl) () eR
def copies_Choose_l1_b (l : List api_Copy) (r2 : Int) (rec : Nat → Option ((Unit) ⊕ (Int × Int))) (x8 : Nat) : Option ((Unit) ⊕ (Int × Int)) :=
  if (((x8 : Nat) : Int) < ((l.length : Nat) : Int)) then
    if ((l.getD x8 (⟨false, 0, ByteArray.empty⟩ : api_Copy))).Valid = true then
      grd (decide (0 ≤ r2 ∧ r2 < (l.length : Int))) <|
      if (((l.getD x8 (⟨false, 0, ByteArray.empty⟩ : api_Copy))).Seq = ((l.getD ((r2).toNat) (⟨false, 0, ByteArray.empty⟩ : api_Copy))).Seq) then
        grd (decide (0 ≤ r2 ∧ r2 < (l.length : Int))) <|
        if (((l.getD x8 (⟨false, 0, ByteArray.empty⟩ : api_Copy))).Text ≠ ((l.getD ((r2).toNat) (⟨false, 0, ByteArray.empty⟩ : api_Copy))).Text) then
          some (.inr (((-1 : Int), (13 : Int))))
        else
          rec (x8 + 1)
      else
        rec (x8 + 1)
    else
      if false = true then
        grd (decide (0 ≤ r2 ∧ r2 < (l.length : Int))) <|
        if (((l.getD x8 (⟨false, 0, ByteArray.empty⟩ : api_Copy))).Text ≠ ((l.getD ((r2).toNat) (⟨false, 0, ByteArray.empty⟩ : api_Copy))).Text) then
          some (.inr (((-1 : Int), (13 : Int))))
        else
          rec (x8 + 1)
      else
        rec (x8 + 1)
  else
    some (.inl ())
def copies_Choose_l1 (l : List api_Copy) (r2 : Int) : Nat → Nat → Option ((Unit) ⊕ (Int × Int))
  | 0, _ => none
  | n + 1, x8 => copies_Choose_l1_b l r2 (copies_Choose_l1 l r2 n) x8
def copies_Choose (l : List api_Copy) : Option (Int × Int) :=
  Option.bind (copies_best__copies_Choose_1 l) fun r2 =>
  if (r2 < (0 : Int)) then
    some (((-1 : Int), (12 : Int)))
  else
    seqO (copies_Choose_l1 l r2 FUEL 0) fun a7 =>
    some ((r2, (0 : Int)))
theorem L_copies_Choose {W : World} {Al : HP} {vl : Value} {l : List api_Copy} {r : Int × Int} (rl : Reads Al tyapi_Copy vl l) (h : copies_Choose l = some r) :
    CSpec Try.prog W 48 [vl] [Al] (fun x : Unit => .tuple #[.int .i64 r.1, .int .i64 r.2]) (fun _ => True) (fun x F => Al :: F) := by
 refine CSpec.of_body Try.func48 rfl Try.ntmps48 rfl fun F => ?_
 show CJ _ _ _ _ _ _ (_ :: F)
 unfold copies_Choose at h
 refine CJ_pure (len_of rl del0) fun hlen1 => sR <| oA rfl rfl <| oA rfl rfl <| nT <| sR <| oA rfl rfl <| nT <| sR <| oM rfl rfl <| oM rfl rfl ?_
 obtain ⟨r2, hr3, h⟩ := bind_e h
 refine oO <| O_call (L_copies_best__copies_Choose_1 rl hr3) rfl Try.call75 (Dels.cons del0 Dels.nil) rfl fun _ _ => oA rfl rfl <| nT <| CJ_seq <| sR <| oM rfl rfl <| oP (P_lss (a := r2) (b := (0 : Int)) rfl rfl) rfl <| nT <| CJ_condP rfl bT_dec (fun hg1 => ?_) (fun hg1 => ?_)
 ·
  replace h := ite_t hg1 h
  refine sR <| oA rfl rfl <| oA rfl rfl <| nT <| CJ_ret <| QJ_then_ret ?_
  cases h
  exact fE (res2 Try.results48 rfl rfl) () eR
 ·
  replace h := ite_f hg1 h
  refine kT <| CJ_seq <| sR <| oM rfl rfl <| oV (V_len rfl foc0 rl Try.runUnderlying66) rfl <| oM rfl rfl <| nT ?_
  obtain ⟨y6, hl4, hK5⟩ := seq_e h
  refine CJ_cutT (X := Unit) [2, 3, 7, 15, 16, 17, 18, 19, 20, 21, 22, 23, 24, 25, 26, 27, 28, 29, 30, 31, 32, 33, 34, 35, 36, 37, 38, 39, 40, 41] (fun _ => ([] : Slots)) (fun _ R => R) (fun _ => y6 = .inl ()) Dels.nil ?_ ?_
  ·
   refine CJ_block <| CJ_loopR (X := Nat × Nat) [2, 3, 7, 15, 16, 17, 18, 19, 20, 21, 22, 23, 24, 25, 26, 27, 28, 29, 30, 31, 32, 33, 34, 35, 36, 37, 38, 39, 40, 41] (fun ⟨n, x8⟩ => ([(15, .int .i64 (((x8 : Nat) : Int)))] : Slots)) (fun ⟨n, x8⟩ R => R) (fun ⟨n, x8⟩ => copies_Choose_l1 l r2 n x8 = some y6) (fun ⟨n, x8⟩ => n) ⟨FUEL, 0⟩ ?_ ?_ eR ?_
   · exact hl4
   · exact ⟨rfl, True.intro⟩
   ·
    rintro ⟨n, x8⟩ h
    cases n with
    | zero => exact none_e h
    | succ n => ?_
    replace h : copies_Choose_l1_b l r2 (copies_Choose_l1 l r2 n) x8 = some y6 := h
    unfold copies_Choose_l1_b at h
    show CJ _ _ _ _ _ (([(15, .int .i64 (((x8 : Nat) : Int)))] : Slots) ++ forget _ _) (_)
    refine sR <| oP (P_lss (a := ((x8 : Nat) : Int)) (b := ((l.length : Nat) : Int)) rfl rfl) rfl <| nT <| CJ_seq <| CJ_condP rfl bT_dec (fun hg2 => ?_) (fun hg2 => ?_)
    ·
     replace h := ite_t hg2 h
     refine kT <| CJ_seq <| CJ_block <| sR <| oV (V_index (i := x8) rfl rfl rfl (by omega) foc0 rl Try.runUnderlying66 Try.sizeOf34) rfl <| oV (V_loadEN rfl rfl (by omega) foc0 rl rfl rfl Try.isAgg34 Try.sizeOf34) rfl <| oO <| O_alloc Try.zeroValue34 rfl rfl fun b9 => oO <| O_storeN rfl rfl foc0 Try.sizeOf34 rfl rfl rfl <| nT <| CJ_seq <| AJ_startH 0 (by kernel_rfl) rfl <| aN 0 1 rfl rfl (P_fieldAddr rfl ⟨_, _, _, Try.runUnderlying34, rfl, rfl, Try.sizeOf4, rfl⟩) rfl <| aV 1 3 rfl rfl (GY_none rfl) eR (V_load rfl foc0 rfl Try.isAgg4) rfl <| aN 2 7 rfl rfl (P_move rfl) rfl <| AJ_splitP 21 rfl Iff.rfl (fun hg3B hg3 => ?_) (fun hg3B hg3 => ?_)
     ·
      replace h := ite_t hg3 h
      refine aP 3 15 rfl rfl (GY_yes rfl rfl rfl hg3B) (P_fieldAddr rfl ⟨_, _, _, Try.runUnderlying34, rfl, rfl, Try.sizeOf3, rfl⟩) rfl <| aV 4 31 rfl rfl (GY_yes rfl rfl rfl hg3B) eR (V_load rfl foc0 rfl Try.isAgg3) rfl <| aP 5 63 rfl rfl (GY_yes rfl rfl rfl hg3B) (P_move rfl) rfl <| aP 6 127 rfl rfl (GY_yes rfl rfl rfl hg3B) (P_move rfl) rfl ?_
      obtain ⟨hg4, h⟩ := grd_de h
      refine aV 7 255 rfl rfl (GY_yes rfl rfl rfl hg3B) eR (V_index (i := (r2).toNat) rfl rfl (Int.toNat_of_nonneg (hg4.1)).symm (by omega) foc1 rl Try.runUnderlying66 Try.sizeOf34) rfl <| aP 8 511 rfl rfl (GY_yes rfl rfl rfl hg3B) (P_fieldE rfl ⟨_, _, _, Try.runUnderlying34, rfl, rfl, Try.sizeOf3, rfl⟩) rfl <| aV 9 1023 rfl rfl (GY_yes rfl rfl rfl hg3B) eR (V_loadE rfl rfl (by omega) foc1 rl rfl rfl Try.isAgg3) rfl <| aP 10 2047 rfl rfl (GY_yes rfl rfl rfl hg3B) (P_eql (a := ((l.getD x8 (⟨false, 0, ByteArray.empty⟩ : api_Copy))).Seq) (b := ((l.getD ((r2).toNat) (⟨false, 0, ByteArray.empty⟩ : api_Copy))).Seq) rfl rfl) rfl <| aN 11 4095 rfl rfl (P_pickT rfl hg3B rfl) rfl <| aN 12 8191 rfl rfl (P_move rfl) rfl <| AJ_splitP 31 rfl bT_dec (fun hg5B hg5 => ?_) (fun hg5B hg5 => ?_)
      ·
       replace h := ite_t hg5 h
       refine aP 13 16383 rfl rfl (GY_yes rfl rfl rfl hg5B) (P_fieldAddr rfl ⟨_, _, _, Try.runUnderlying34, rfl, rfl, Try.sizeOf9, rfl⟩) rfl <| aV 14 32767 rfl rfl (GY_yes rfl rfl rfl hg5B) eR (V_load rfl foc0 rfl Try.isAgg9) rfl <| aP 15 65535 rfl rfl (GY_yes rfl rfl rfl hg5B) (P_move rfl) rfl <| aP 16 131071 rfl rfl (GY_yes rfl rfl rfl hg5B) (P_move rfl) rfl ?_
       obtain ⟨hg6, h⟩ := grd_de h
       refine aV 17 262143 rfl rfl (GY_yes rfl rfl rfl hg5B) eR (V_index (i := (r2).toNat) rfl rfl (Int.toNat_of_nonneg (hg6.1)).symm (by omega) foc1 rl Try.runUnderlying66 Try.sizeOf34) rfl <| aP 18 524287 rfl rfl (GY_yes rfl rfl rfl hg5B) (P_fieldE rfl ⟨_, _, _, Try.runUnderlying34, rfl, rfl, Try.sizeOf9, rfl⟩) rfl <| aV 19 1048575 rfl rfl (GY_yes rfl rfl rfl hg5B) eR (V_loadE rfl rfl (by omega) foc1 rl rfl rfl Try.isAgg9) rfl <| aP 20 2097151 rfl rfl (GY_yes rfl rfl rfl hg5B) (P_neqStr (a := ((l.getD x8 (⟨false, 0, ByteArray.empty⟩ : api_Copy))).Text) (b := ((l.getD ((r2).toNat) (⟨false, 0, ByteArray.empty⟩ : api_Copy))).Text) rfl rfl Try.underlying9) rfl <| aN 21 4194303 rfl rfl (P_pickT rfl hg5B rfl) rfl <| aD <| CJ_condP rfl bT_dec (fun hg7 => ?_) (fun hg7 => ?_)
       ·
        replace h := ite_t hg7 h
        refine sR <| oA rfl rfl <| oA rfl rfl <| nT <| CJ_ret <| QJ_block_ret <| QJ_then_ret <| QJ_round_ret <| QJ_block_ret <| QJ_then_ret ?_
        have hE := Option.some.inj h
        replace hE := seq_inr hK5 hE.symm
        subst hE
        exact fE (res2 Try.results48 rfl rfl) () (t1_ (eD eR))
       ·
        replace h := ite_f hg7 h
        exact CJ_skip <| QJ_block_normal <| QJ_then <| CJ_region <| oP (PJ_eq (P_add (a := ((x8 : Nat) : Int)) (b := (1 : Int)) rfl rfl (by omega)) rfl) rfl <| oM rfl rfl <| RJ_nil <| nR ⟨n, (x8 + 1)⟩ h ⟨rfl, True.intro⟩ (t1_ (eD eR))
      ·
       replace h := ite_f hg5 h
       exact aS 13 16383 rfl rfl (GY_no rfl rfl rfl hg5B) rfl <| aS 14 32767 rfl rfl (GY_no rfl rfl rfl hg5B) rfl <| aS 15 65535 rfl rfl (GY_no rfl rfl rfl hg5B) rfl <| aS 16 131071 rfl rfl (GY_no rfl rfl rfl hg5B) rfl <| aS 17 262143 rfl rfl (GY_no rfl rfl rfl hg5B) rfl <| aS 18 524287 rfl rfl (GY_no rfl rfl rfl hg5B) rfl <| aS 19 1048575 rfl rfl (GY_no rfl rfl rfl hg5B) rfl <| aS 20 2097151 rfl rfl (GY_no rfl rfl rfl hg5B) rfl <| aN 21 4194303 rfl rfl (P_pickF rfl hg5B rfl) rfl <| aD <| CJ_condF rfl rfl <| CJ_skip <| QJ_block_normal <| QJ_then <| CJ_region <| oP (PJ_eq (P_add (a := ((x8 : Nat) : Int)) (b := (1 : Int)) rfl rfl (by omega)) rfl) rfl <| oM rfl rfl <| RJ_nil <| nR ⟨n, (x8 + 1)⟩ h ⟨rfl, True.intro⟩ (t1_ (eD eR))
     ·
      replace h := ite_f hg3 h
      refine aS 3 15 rfl rfl (GY_no rfl rfl rfl hg3B) rfl <| aS 4 31 rfl rfl (GY_no rfl rfl rfl hg3B) rfl <| aS 5 63 rfl rfl (GY_no rfl rfl rfl hg3B) rfl <| aS 6 127 rfl rfl (GY_no rfl rfl rfl hg3B) rfl <| aS 7 255 rfl rfl (GY_no rfl rfl rfl hg3B) rfl <| aS 8 511 rfl rfl (GY_no rfl rfl rfl hg3B) rfl <| aS 9 1023 rfl rfl (GY_no rfl rfl rfl hg3B) rfl <| aS 10 2047 rfl rfl (GY_no rfl rfl rfl hg3B) rfl <| aN 11 4095 rfl rfl (P_pickF rfl hg3B rfl) rfl <| aN 12 8191 rfl rfl (P_move rfl) rfl <| AJ_splitP 31 rfl Iff.rfl (fun hg8B hg8 => ?_) (fun hg8B hg8 => ?_)
      ·
       replace h := ite_t hg8 h
       refine aP 13 16383 rfl rfl (GY_yes rfl rfl rfl hg8B) (P_fieldAddr rfl ⟨_, _, _, Try.runUnderlying34, rfl, rfl, Try.sizeOf9, rfl⟩) rfl <| aV 14 32767 rfl rfl (GY_yes rfl rfl rfl hg8B) eR (V_load rfl foc0 rfl Try.isAgg9) rfl <| aP 15 65535 rfl rfl (GY_yes rfl rfl rfl hg8B) (P_move rfl) rfl <| aP 16 131071 rfl rfl (GY_yes rfl rfl rfl hg8B) (P_move rfl) rfl ?_
       obtain ⟨hg9, h⟩ := grd_de h
       refine aV 17 262143 rfl rfl (GY_yes rfl rfl rfl hg8B) eR (V_index (i := (r2).toNat) rfl rfl (Int.toNat_of_nonneg (hg9.1)).symm (by omega) foc1 rl Try.runUnderlying66 Try.sizeOf34) rfl <| aP 18 524287 rfl rfl (GY_yes rfl rfl rfl hg8B) (P_fieldE rfl ⟨_, _, _, Try.runUnderlying34, rfl, rfl, Try.sizeOf9, rfl⟩) rfl <| aV 19 1048575 rfl rfl (GY_yes rfl rfl rfl hg8B) eR (V_loadE rfl rfl (by omega) foc1 rl rfl rfl Try.isAgg9) rfl <| aP 20 2097151 rfl rfl (GY_yes rfl rfl rfl hg8B) (P_neqStr (a := ((l.getD x8 (⟨false, 0, ByteArray.empty⟩ : api_Copy))).Text) (b := ((l.getD ((r2).toNat) (⟨false, 0, ByteArray.empty⟩ : api_Copy))).Text) rfl rfl Try.underlying9) rfl <| aN 21 4194303 rfl rfl (P_pickT rfl hg8B rfl) rfl <| aD <| CJ_condP rfl bT_dec (fun hg10 => ?_) (fun hg10 => ?_)
       ·
        replace h := ite_t hg10 h
        refine sR <| oA rfl rfl <| oA rfl rfl <| nT <| CJ_ret <| QJ_block_ret <| QJ_then_ret <| QJ_round_ret <| QJ_block_ret <| QJ_then_ret ?_
        have hE := Option.some.inj h
        replace hE := seq_inr hK5 hE.symm
        subst hE
        exact fE (res2 Try.results48 rfl rfl) () (t1_ (eD eR))
       ·
        replace h := ite_f hg10 h
        exact CJ_skip <| QJ_block_normal <| QJ_then <| CJ_region <| oP (PJ_eq (P_add (a := ((x8 : Nat) : Int)) (b := (1 : Int)) rfl rfl (by omega)) rfl) rfl <| oM rfl rfl <| RJ_nil <| nR ⟨n, (x8 + 1)⟩ h ⟨rfl, True.intro⟩ (t1_ (eD eR))
      ·
       replace h := ite_f hg8 h
       exact aS 13 16383 rfl rfl (GY_no rfl rfl rfl hg8B) rfl <| aS 14 32767 rfl rfl (GY_no rfl rfl rfl hg8B) rfl <| aS 15 65535 rfl rfl (GY_no rfl rfl rfl hg8B) rfl <| aS 16 131071 rfl rfl (GY_no rfl rfl rfl hg8B) rfl <| aS 17 262143 rfl rfl (GY_no rfl rfl rfl hg8B) rfl <| aS 18 524287 rfl rfl (GY_no rfl rfl rfl hg8B) rfl <| aS 19 1048575 rfl rfl (GY_no rfl rfl rfl hg8B) rfl <| aS 20 2097151 rfl rfl (GY_no rfl rfl rfl hg8B) rfl <| aN 21 4194303 rfl rfl (P_pickF rfl hg8B rfl) rfl <| aD <| CJ_condF rfl rfl <| CJ_skip <| QJ_block_normal <| QJ_then <| CJ_region <| oP (PJ_eq (P_add (a := ((x8 : Nat) : Int)) (b := (1 : Int)) rfl rfl (by omega)) rfl) rfl <| oM rfl rfl <| RJ_nil <| nR ⟨n, (x8 + 1)⟩ h ⟨rfl, True.intro⟩ (t1_ (eD eR))
    ·
     replace h := ite_f hg2 h
     exact CJ_exit <| QJ_then_exit <| QJ_round_exit <| QJ_block_here <| cR () (Option.some.inj h).symm True.intro eR
  ·
   rintro _ hy10
   replace h := seq_inl hK5 hy10
   show CJ _ _ _ _ _ (([] : Slots) ++ forget _ _) (_)
   refine sR <| oM rfl rfl <| oA rfl rfl <| oA rfl rfl <| nT <| CJ_ret ?_
   cases h
   exact fE (res2 Try.results48 rfl rfl) () eR
def copies_Commit_l1_b (l : List Dvc) (seq : Int) (text : ByteArray) (rec : ArrS → Nat → Option ((ArrS) ⊕ (Bool × Int × ArrS))) (x8 : ArrS) (x9 : Nat) : Option ((ArrS) ⊕ (Bool × Int × ArrS)) :=
  if (((x9 : Nat) : Int) < ((l.length : Nat) : Int)) then
    Option.bind (ring_Prepare (l.getD x9 dv0) seq text x8) fun r11 =>
    if (r11.1 ≠ (0 : Int)) then
      some (.inr (false, r11.1, r11.2))
    else
      rec r11.2 (x9 + 1)
  else
    some (.inl x8)
def copies_Commit_l1 (l : List Dvc) (seq : Int) (text : ByteArray) : Nat → ArrS → Nat → Option ((ArrS) ⊕ (Bool × Int × ArrS))
  | 0, _, _ => none
  | n + 1, x8, x9 => copies_Commit_l1_b l seq text (copies_Commit_l1 l seq text n) x8 x9
def copies_Commit_l2_b (l : List Dvc) (rec : ArrS → Nat → Option ((ArrS) ⊕ (Bool × Int × ArrS))) (x19 : ArrS) (x20 : Nat) : Option ((ArrS) ⊕ (Bool × Int × ArrS)) :=
  if (((x20 : Nat) : Int) < ((l.length : Nat) : Int)) then
    Option.bind (ring_Switch (l.getD x20 dv0) x19) fun r22 =>
    if (r22.1 ≠ (0 : Int)) then
      some (.inr (true, r22.1, r22.2))
    else
      rec r22.2 (x20 + 1)
  else
    some (.inl x19)
def copies_Commit_l2 (l : List Dvc) : Nat → ArrS → Nat → Option ((ArrS) ⊕ (Bool × Int × ArrS))
  | 0, _, _ => none
  | n + 1, x19, x20 => copies_Commit_l2_b l (copies_Commit_l2 l n) x19 x20
def copies_Commit (l : List Dvc) (seq : Int) (text : ByteArray) (s : ArrS) : Option (Bool × Int × ArrS) :=
  if (((l.length : Nat) : Int) = (0 : Int)) then
    some ((false, (12 : Int), s))
  else
    seqO (copies_Commit_l1 l seq text FUEL s 0) fun a7 =>
    seqO (copies_Commit_l2 l FUEL a7 0) fun a18 =>
    some ((true, (0 : Int), a18))
theorem L_copies_Commit {W : World} {Al : HP} {vl : Value} {hsl : List IfH} {bs : Nat} {l : List Dvc} {seq : Int} {text : ByteArray} {s : ArrS} {r : Bool × Int × ArrS} (rl : Reads Al tyDev vl hsl) (h : copies_Commit l seq text s = some r) :
    CSpec Try.prog W 45 [vl, .int .i64 seq, .string text] [Al, Rs (DevP bs) l hsl, Arr bs s] (fun x : Unit => .tuple #[.bool r.1, .int .i64 r.2.1]) (fun _ => True) (fun x F => Al :: Rs (DevP bs) l hsl :: Arr bs r.2.2 :: F) := by
 refine CSpec.of_body Try.func45 rfl Try.ntmps45 rfl fun F => ?_
 show CJ _ _ _ _ _ _ (_ :: _ :: _ :: F)
 unfold copies_Commit at h
 refine CJ_pure (len_of rl del0) fun hlen1 => CJ_pure (fun h hh => Rs_len (stars_perm (del1 (A := Rs (DevP bs) l hsl)).out h hh)) fun hdl2 => sR <| oA rfl rfl <| oA rfl rfl <| nT <| CJ_seq <| sR <| oM rfl rfl <| oV (VJ_eq (V_len rfl foc0 rl Try.runUnderlying67) (congrArg (fun z : Nat => Value.int .i64 (z : Int)) (hdl2).symm)) rfl <| oP (P_eql (a := ((l.length : Nat) : Int)) (b := (0 : Int)) rfl rfl) rfl <| nT <| CJ_condP rfl bT_dec (fun hg1 => ?_) (fun hg1 => ?_)
 ·
  replace h := ite_t hg1 h
  refine sR <| oA rfl rfl <| oA rfl rfl <| nT <| CJ_ret <| QJ_then_ret ?_
  cases h
  exact fE (res2 Try.results45 rfl rfl) () eR
 ·
  replace h := ite_f hg1 h
  refine kT <| CJ_seq <| sR <| oM rfl rfl <| oV (VJ_eq (V_len rfl foc0 rl Try.runUnderlying67) (congrArg (fun z : Nat => Value.int .i64 (z : Int)) (hdl2).symm)) rfl <| oM rfl rfl <| nT ?_
  obtain ⟨y5, hl3, hK4⟩ := seq_e h
  refine CJ_cutT (X := ArrS) [6, 7, 9, 10, 19, 20, 21, 22, 23, 24, 25, 26, 27, 28, 29, 30] (fun a7 => ([] : Slots)) (fun a7 R => Arr bs a7 :: R) (fun a7 => y5 = .inl a7) (Dels.cons del2 Dels.nil) ?_ ?_
  ·
   refine CJ_block <| CJ_loopR (X := Nat × ArrS × Nat) [6, 7, 9, 10, 19, 20, 21, 22, 23, 24, 25, 26, 27, 28, 29, 30] (fun ⟨n, x8, x9⟩ => ([(19, .int .i64 (((x9 : Nat) : Int)))] : Slots)) (fun ⟨n, x8, x9⟩ R => Arr bs x8 :: R) (fun ⟨n, x8, x9⟩ => copies_Commit_l1 l seq text n x8 x9 = some y5) (fun ⟨n, x8, x9⟩ => n) ⟨FUEL, s, 0⟩ ?_ ?_ (t2_ eR) ?_
   · exact hl3
   · exact ⟨rfl, True.intro⟩
   ·
    rintro ⟨n, x8, x9⟩ h
    cases n with
    | zero => exact none_e h
    | succ n => ?_
    replace h : copies_Commit_l1_b l seq text (copies_Commit_l1 l seq text n) x8 x9 = some y5 := h
    unfold copies_Commit_l1_b at h
    show CJ _ _ _ _ _ (([(19, .int .i64 (((x9 : Nat) : Int)))] : Slots) ++ forget _ _) (Arr bs x8 :: _)
    refine sR <| oP (P_lss (a := ((x9 : Nat) : Int)) (b := ((l.length : Nat) : Int)) rfl rfl) rfl <| nT <| CJ_seq <| CJ_condP rfl bT_dec (fun hg2 => ?_) (fun hg2 => ?_)
    ·
     replace h := ite_t hg2 h
     refine kT <| CJ_seq <| CJ_block <| sR <| oV (V_index (i := x9) rfl rfl rfl (by have hz : x9 < l.length := (by omega); have hy := hdl2; omega) foc1 rl Try.runUnderlying67 Try.sizeOf26) rfl <| RJ_ent (Ent.trans (t2_ eR) (Rs_at (fun _ _ => Dup_DevP) (dx := dv0) (dh := tyDev.dflt) (i := x9) (by omega))) <| oV (V_loadE rfl rfl (by have hz : x9 < l.length := (by omega); have hy := hdl2; omega) foc3 rl rfl rfl Try.isAgg26) rfl <| oA rfl rfl <| nT <| sR <| oM rfl rfl <| oM rfl rfl <| oM rfl rfl ?_
     obtain ⟨r11, hr12, h⟩ := bind_e h
     refine oO <| O_call (L_ring_Prepare hr12) rfl Try.call16 (Dels.cons del0 (Dels.cons del1 Dels.nil)) rfl fun _ _ => oA rfl rfl <| nT <| sR <| oM rfl rfl <| oP (P_neq (a := r11.1) (b := (0 : Int)) rfl rfl) rfl <| nT <| CJ_condP rfl bT_dec (fun hg3 => ?_) (fun hg3 => ?_)
     ·
      replace h := ite_t hg3 h
      refine sR <| oM rfl rfl <| oA rfl rfl <| oA rfl rfl <| nT <| CJ_ret <| QJ_block_ret <| QJ_then_ret <| QJ_round_ret <| QJ_block_ret <| QJ_then_ret ?_
      have hE := Option.some.inj h
      replace hE := seq_inr hK4 hE.symm
      subst hE
      exact fE (res2 Try.results45 rfl rfl) () (t3_ (t2_ (t1_ (eD eR))))
     ·
      replace h := ite_f hg3 h
      exact CJ_skip <| QJ_block_normal <| QJ_then <| CJ_region <| oP (PJ_eq (P_add (a := ((x9 : Nat) : Int)) (b := (1 : Int)) rfl rfl (by omega)) rfl) rfl <| oM rfl rfl <| RJ_nil <| nR ⟨n, r11.2, (x9 + 1)⟩ h ⟨rfl, True.intro⟩ (t1_ (t2_ (t1_ (eD eR))))
    ·
     replace h := ite_f hg2 h
     exact CJ_exit <| QJ_then_exit <| QJ_round_exit <| QJ_block_here <| cR x8 (Option.some.inj h).symm True.intro eR
  ·
   rintro a7 hy13
   replace h := seq_inl hK4 hy13
   show CJ _ _ _ _ _ (([] : Slots) ++ forget _ _) (Arr bs a7 :: _)
   refine CJ_seq <| sR <| oM rfl rfl <| oV (VJ_eq (V_len rfl foc1 rl Try.runUnderlying67) (congrArg (fun z : Nat => Value.int .i64 (z : Int)) (hdl2).symm)) rfl <| oM rfl rfl <| nT ?_
   obtain ⟨y16, hl14, hK15⟩ := seq_e h
   refine CJ_cutT (X := ArrS) [6, 7, 12, 13, 33, 34, 35, 36, 37, 38, 39, 40, 41, 42] (fun a18 => ([] : Slots)) (fun a18 R => Arr bs a18 :: R) (fun a18 => y16 = .inl a18) (Dels.cons del0 Dels.nil) ?_ ?_
   ·
    refine CJ_block <| CJ_loopR (X := Nat × ArrS × Nat) [6, 7, 12, 13, 33, 34, 35, 36, 37, 38, 39, 40, 41, 42] (fun ⟨n, x19, x20⟩ => ([(33, .int .i64 (((x20 : Nat) : Int)))] : Slots)) (fun ⟨n, x19, x20⟩ R => Arr bs x19 :: R) (fun ⟨n, x19, x20⟩ => copies_Commit_l2 l n x19 x20 = some y16) (fun ⟨n, x19, x20⟩ => n) ⟨FUEL, a7, 0⟩ ?_ ?_ eR ?_
    · exact hl14
    · exact ⟨rfl, True.intro⟩
    ·
     rintro ⟨n, x19, x20⟩ h
     cases n with
     | zero => exact none_e h
     | succ n => ?_
     replace h : copies_Commit_l2_b l (copies_Commit_l2 l n) x19 x20 = some y16 := h
     unfold copies_Commit_l2_b at h
     show CJ _ _ _ _ _ (([(33, .int .i64 (((x20 : Nat) : Int)))] : Slots) ++ forget _ _) (Arr bs x19 :: _)
     refine sR <| oP (P_lss (a := ((x20 : Nat) : Int)) (b := ((l.length : Nat) : Int)) rfl rfl) rfl <| nT <| CJ_seq <| CJ_condP rfl bT_dec (fun hg4 => ?_) (fun hg4 => ?_)
     ·
      replace h := ite_t hg4 h
      refine kT <| CJ_seq <| CJ_block <| sR <| oV (V_index (i := x20) rfl rfl rfl (by have hz : x20 < l.length := (by omega); have hy := hdl2; omega) foc1 rl Try.runUnderlying67 Try.sizeOf26) rfl <| RJ_ent (Ent.trans (t2_ eR) (Rs_at (fun _ _ => Dup_DevP) (dx := dv0) (dh := tyDev.dflt) (i := x20) (by omega))) <| oV (V_loadE rfl rfl (by have hz : x20 < l.length := (by omega); have hy := hdl2; omega) foc3 rl rfl rfl Try.isAgg26) rfl <| oA rfl rfl <| nT <| sR <| oM rfl rfl ?_
      obtain ⟨r22, hr23, h⟩ := bind_e h
      refine oO <| O_call (L_ring_Switch hr23) rfl Try.call17 (Dels.cons del0 (Dels.cons del1 Dels.nil)) rfl fun _ _ => oA rfl rfl <| nT <| sR <| oM rfl rfl <| oP (P_neq (a := r22.1) (b := (0 : Int)) rfl rfl) rfl <| nT <| CJ_condP rfl bT_dec (fun hg5 => ?_) (fun hg5 => ?_)
      ·
       replace h := ite_t hg5 h
       refine sR <| oM rfl rfl <| oA rfl rfl <| oA rfl rfl <| nT <| CJ_ret <| QJ_block_ret <| QJ_then_ret <| QJ_round_ret <| QJ_block_ret <| QJ_then_ret ?_
       have hE := Option.some.inj h
       replace hE := seq_inr hK15 hE.symm
       subst hE
       exact fE (res2 Try.results45 rfl rfl) () (t3_ (t2_ (t1_ (eD eR))))
      ·
       replace h := ite_f hg5 h
       exact CJ_skip <| QJ_block_normal <| QJ_then <| CJ_region <| oP (PJ_eq (P_add (a := ((x20 : Nat) : Int)) (b := (1 : Int)) rfl rfl (by omega)) rfl) rfl <| oM rfl rfl <| RJ_nil <| nR ⟨n, r22.2, (x20 + 1)⟩ h ⟨rfl, True.intro⟩ (t1_ (t2_ (t1_ (eD eR))))
     ·
      replace h := ite_f hg4 h
      exact CJ_exit <| QJ_then_exit <| QJ_round_exit <| QJ_block_here <| cR x19 (Option.some.inj h).symm True.intro eR
   ·
    rintro a18 hy24
    replace h := seq_inl hK15 hy24
    show CJ _ _ _ _ _ (([] : Slots) ++ forget _ _) (Arr bs a18 :: _)
    refine sR <| oA rfl rfl <| oA rfl rfl <| nT <| CJ_ret ?_
    cases h
    exact fE (res2 Try.results45 rfl rfl) () (t1_ (t1_ eR))
end Go.Proofs
namespace Go.Proofs
open Go.VG
abbrev zC : api_Copy := ⟨false, 0, ByteArray.empty⟩
theorem best_same {l : List api_Copy} {c : api_Copy} (hc : ∀ i, i < l.length → l.getD i zC = c) : ∀ (N i : Nat), l.length - i < N → 0 < l.length → copies_best__copies_Choose_1_l1 l N i 0 = some 0
  | 0, _, h, _ => absurd h (by omega)
  | N + 1, i, h, h0 => by
    have e1 : copies_best__copies_Choose_1_l1 l (N + 1) i 0 = copies_best__copies_Choose_1_l1_b l (copies_best__copies_Choose_1_l1 l N) i 0 := rfl
    rw [e1]
    unfold copies_best__copies_Choose_1_l1_b copies_Choose_1 copies_Choose_2
    by_cases hlt : i < l.length
    · rw [if_pos (by omega)]; simp only [Option.bind_some]
      have ih := best_same hc N (i + 1) (by omega) h0
      split
      · rw [if_neg (by omega), grd_pos (decide_eq_true (by omega)), show ((0 : Int)).toNat = 0 from rfl, hc i hlt, hc 0 h0, if_neg (by simp)]
        exact ih
      · exact ih
    · rw [if_neg (by omega)]
theorem conf_same {l : List api_Copy} {c : api_Copy} (hc : ∀ i, i < l.length → l.getD i zC = c) (h0 : 0 < l.length) : ∀ (N i : Nat), l.length - i < N → copies_Choose_l1 l 0 N i = some (.inl ())
  | 0, _, h => absurd h (by omega)
  | N + 1, i, h => by
    show copies_Choose_l1_b l 0 (copies_Choose_l1 l 0 N) i = _
    unfold copies_Choose_l1_b
    by_cases hlt : i < l.length
    · have ih := conf_same hc h0 N (i + 1) (by omega)
      rw [if_pos (by omega), grd_pos (decide_eq_true (by omega)), grd_pos (decide_eq_true (by omega)), if_neg (show ¬ false = true by decide), show ((0 : Int)).toNat = 0 from rfl, hc i hlt, hc 0 h0]
      split
      · rw [if_pos rfl, if_neg (fun x => x rfl)]; exact ih
      · exact ih
    · rw [if_neg (by omega)]
theorem choose_same {l : List api_Copy} {c : api_Copy} (hc : ∀ i, i < l.length → l.getD i zC = c) (h0 : 0 < l.length) (hl : l.length ≤ 1000) (hv : c.Valid = true) : copies_Choose l = some (0, 0) := by
  unfold copies_Choose copies_best__copies_Choose_1
  have hF := fuel_big
  generalize FUEL = N at hF ⊢
  obtain ⟨M, rfl⟩ : ∃ M, N = M + 1 := ⟨N - 1, by omega⟩
  have e1 : copies_best__copies_Choose_1_l1 l (M + 1) 0 (-1) = copies_best__copies_Choose_1_l1_b l (copies_best__copies_Choose_1_l1 l M) 0 (-1) := rfl
  have e2 : copies_best__copies_Choose_1_l1 l (M + 1) 0 (-1) = some 0 := by
    rw [e1]
    unfold copies_best__copies_Choose_1_l1_b copies_Choose_1
    rw [if_pos (by omega)]; simp only [Option.bind_some]
    rw [if_pos (by rw [show l.getD 0 (⟨false, 0, ByteArray.empty⟩ : api_Copy) = c from hc 0 h0]; exact hv), if_pos (by omega)]
    exact best_same hc M 1 (by omega) h0
  rw [e2]; simp only [Option.bind_some]
  rw [if_neg (by omega), conf_same hc h0 (M + 1) 0 (by omega)]; rfl
end Go.Proofs
set_option linter.unusedSimpArgs false
set_option linter.unusedVariables false
set_option maxRecDepth 20000
set_option maxHeartbeats 4000000
namespace Go.Proofs
open Go.VG
def volumegrouplaw13_areas_l1_b (n_0 : Int) (size : Int) (rec : (List (List UInt64)) → Nat → Option ((List (List UInt64)))) (x10 : List (List UInt64)) (x13 : Nat) : Option ((List (List UInt64))) :=
  if (((x13 : Nat) : Int) < n_0) then
    grd (decide (0 ≤ size ∧ size ≤ 1000000000)) <|
    grd (inLen (x10.length + 1)) <|
    grd (inN64 (x13 + 1)) <|
    rec ((x10 ++ [(List.replicate ((size).toNat) (0 : UInt64))])) (x13 + 1)
  else
    some x10
def volumegrouplaw13_areas_l1 (n_0 : Int) (size : Int) : Nat → (List (List UInt64)) → Nat → Option ((List (List UInt64)))
  | 0, _, _ => none
  | n + 1, x10, x13 => volumegrouplaw13_areas_l1_b n_0 size (volumegrouplaw13_areas_l1 n_0 size n) x10 x13
def volumegrouplaw13_areas (n_0 : Int) (size : Int) : Option ((Option ArrS)) :=
  Option.bind (volumegrouplaw13_areas_l1 n_0 size FUEL (([] : List (List UInt64))) 0) fun a9 =>
  Option.bind (volumegroupmake_Loaded a9) fun r26 =>
  some r26
theorem L_volumegrouplaw13_areas {W : World} {n_0 : Int} {size : Int} {r : (Option ArrS)} (h : volumegrouplaw13_areas n_0 size = some r) :
    CSpec Try.prog W 44 [.int .i64 n_0, .int .i64 size] [] (fun x : Nat => oval r x) (fun _ => True) (fun x F => optP (Arr x) r :: F) := by
 refine CSpec.of_body Try.func44 rfl Try.ntmps44 rfl fun F => ?_
 show CJ _ _ _ _ _ _ (F)
 unfold volumegrouplaw13_areas at h
 refine sR <| oA rfl rfl <| nT <| sR <| oA rfl rfl <| nT <| CJ_seq <| sR <| oA rfl rfl <| nT <| CJ_ent (fun h hh => sl_nil (t := tyRow) h (rs_nil (RP := RowP) h hh)) ?_
 obtain ⟨y5, hl3, hK4⟩ := bind_c h
 refine CJ_cutT (X := (List (List UInt64)) × Sl3 × (List Sl3)) [5, 6, 7, 8, 9, 10, 11, 12, 13, 14, 15, 16] (fun ⟨a9, hd7, hs8⟩ => ([(5, hd7.v)] : Slots)) (fun ⟨a9, hd7, hs8⟩ R => sl tyRow hd7.v hs8 :: Rs RowP a9 hs8 :: R) (fun ⟨a9, hd7, hs8⟩ => y5 = a9) (Dels.cons del0 (Dels.cons del0 Dels.nil)) ?_ ?_
 ·
  refine CJ_block <| CJ_loopR (X := Nat × (List (List UInt64)) × Nat × Sl3 × (List Sl3)) [5, 6, 7, 8, 9, 10, 11, 12, 13, 14, 15, 16] (fun ⟨n, x10, x13, hd11, hs12⟩ => ([(5, hd11.v), (6, .int .i64 (((x13 : Nat) : Int)))] : Slots)) (fun ⟨n, x10, x13, hd11, hs12⟩ R => sl tyRow hd11.v hs12 :: Rs RowP x10 hs12 :: R) (fun ⟨n, x10, x13, hd11, hs12⟩ => volumegrouplaw13_areas_l1 n_0 size n x10 x13 = some y5) (fun ⟨n, x10, x13, hd11, hs12⟩ => n) ⟨FUEL, ([] : List (List UInt64)), 0, ⟨none, 0, 0⟩, ([] : List Sl3)⟩ ?_ ?_ eR ?_
  · exact hl3
  · exact ⟨rfl, rfl, True.intro⟩
  ·
   rintro ⟨n, x10, x13, hd11, hs12⟩ h
   cases n with
   | zero => exact none_e h
   | succ n => ?_
   replace h : volumegrouplaw13_areas_l1_b n_0 size (volumegrouplaw13_areas_l1 n_0 size n) x10 x13 = some y5 := h
   unfold volumegrouplaw13_areas_l1_b at h
   show CJ _ _ _ _ _ (([(5, hd11.v), (6, .int .i64 (((x13 : Nat) : Int)))] : Slots) ++ forget _ _) (sl tyRow hd11.v hs12 :: Rs RowP x10 hs12 :: _)
   refine lC del0 fun hlen14 => CJ_pure (fun h hh => Rs_len (stars_perm (del1 (A := Rs RowP x10 hs12)).out h hh)) fun hdl15 => CJ_seq <| sR <| oM rfl rfl <| oM rfl rfl <| oP (P_lss (a := ((x13 : Nat) : Int)) (b := n_0) rfl rfl) rfl <| nT <| CJ_condP rfl bT_dec (fun hg1 => ?_) (fun hg1 => ?_)
   ·
    replace h := ite_t hg1 h
    refine kT <| CJ_seq <| CJ_block <| CJ_region <| oM rfl rfl <| oM rfl rfl ?_
    obtain ⟨hg2, h⟩ := grd_de h
    refine oO <| O_make (t := tyU) (m := (size).toNat) (x0 := 0) (z := _) (bytes := _) rfl rfl (Int.toNat_of_nonneg (hg2.1)).symm (Int.toNat_of_nonneg (hg2.1)).symm Try.underlying29 ⟨Try.t39, by kernel_rfl, rfl, rfl, rfl⟩ rfl (by omega) (by decide) rfl fun b16 => oO <| O_buildSlice rfl (bs_62_1_0 _ _ _) rfl fun b17 => RJ_shareS del1 <| RJ_ent (Ent.trans (t0_ eR) (fun h hh => stars_dup Dup.slR hh)) <| RJ_ent (Ent.take1 del0 (RowP_of (h := (⟨some ⟨b16, 0, none⟩, (size).toNat, (size).toNat⟩ : Sl3)) Dup.slR (Reads.slR _ _ _)) eR) ?_
    obtain ⟨hg3, h⟩ := grd_Le h
    refine oO <| O_append (t := tyRow) (bytes := 24) rfl rfl del3 foc2 (Reads.lit (t := tyRow) (ys := [(⟨some ⟨b16, 0, none⟩, (size).toNat, (size).toNat⟩ : Sl3)]) rfl rfl (by decide) (by decide) rfl) Try.underlying62 ok_tyRow (apl (m := 1) (b := 24) (by have hz : _ ≤ 1000000000 := hg3; have := hdl15; omega) (by decide)).1 (apl (m := 1) (b := 24) (by have hz : _ ≤ 1000000000 := hg3; have := hdl15; omega) (by decide)).2 rfl fun p20 c21 => RJ_ent (Ent.trans (t4_ (t1_ eR)) (Rs_push (x := (List.replicate ((size).toNat) (0 : UInt64))) (g := (⟨some ⟨b16, 0, none⟩, (size).toNat, (size).toNat⟩ : Sl3)) Dup_RowP)) <| RJ_pure (fun h hh => Rs_len (stars_perm (del0 (A := Rs RowP ((x10 ++ [(List.replicate ((size).toNat) (0 : UInt64))])) ((hs12 ++ [(⟨some ⟨b16, 0, none⟩, (size).toNat, (size).toNat⟩ : Sl3)])))).out h hh)) fun hdl22 => oA rfl rfl <| RJ_nil <| QJ_block_normal <| QJ_then <| CJ_region <| oM rfl rfl ?_
    obtain ⟨hg4, h⟩ := grd_Ne h
    exact oP (PJ_eq (P_add (a := ((x13 : Nat) : Int)) (b := (1 : Int)) rfl rfl (nat_in hg4)) rfl) rfl <| oA rfl rfl <| RJ_nil <| nR ⟨n, (x10 ++ [(List.replicate ((size).toNat) (0 : UInt64))]), (x13 + 1), ⟨p20, (hs12 ++ [(⟨some ⟨b16, 0, none⟩, (size).toNat, (size).toNat⟩ : Sl3)]).length, c21⟩, (hs12 ++ [(⟨some ⟨b16, 0, none⟩, (size).toNat, (size).toNat⟩ : Sl3)])⟩ h ⟨rfl, rfl, True.intro⟩ (t2_ (t0_ (eD (eD (eD eR)))))
   ·
    replace h := ite_f hg1 h
    exact CJ_exit <| QJ_then_exit <| QJ_round_exit <| QJ_block_here <| cR ⟨x10, hd11, hs12⟩ (Option.some.inj h).symm ⟨rfl, True.intro⟩ eR
 ·
  rintro ⟨a9, hd7, hs8⟩ hy23
  replace h := bindK_at hK4 hy23
  show CJ _ _ _ _ _ (([(5, hd7.v)] : Slots) ++ forget _ _) (sl tyRow hd7.v hs8 :: Rs RowP a9 hs8 :: _)
  refine lC del0 fun hlen24 => CJ_pure (fun h hh => Rs_len (stars_perm (del1 (A := Rs RowP a9 hs8)).out h hh)) fun hdl25 => sR <| oM rfl rfl ?_
  obtain ⟨r26, hr27, h⟩ := bind_e h
  refine oO <| O_call (L_volumegroupmake_Loaded (Reads.sl _ _ _) (RowsR.rs hdl25) hr27) rfl Try.call36 (Dels.cons del0 (Dels.cons del0 Dels.nil)) rfl fun X28 _ => oA rfl rfl <| nT <| CJ_ret ?_
  cases h
  exact fE (res1 Try.results44 rfl) X28 (t2_ (eD (eD eR)))
def volumegrouplaw13_some_l1_b (bits : Int) (r1 : (List Dvc)) (rec : (List Dvc) → Nat → Option ((List Dvc))) (x16 : List Dvc) (x19 : Nat) : Option ((List Dvc)) :=
  if (((x19 : Nat) : Int) < ((r1.length : Nat) : Int)) then
    if ((andI (shrI bits x19) (1 : Int)) = (1 : Int)) then
      grd (inLen (x16.length + 1)) <|
      grd (inN64 (x19 + 1)) <|
      rec ((x16 ++ [(r1.getD x19 dv0)])) (x19 + 1)
    else
      grd (inN64 (x19 + 1)) <|
      rec x16 (x19 + 1)
  else
    some x16
def volumegrouplaw13_some_l1 (bits : Int) (r1 : (List Dvc)) : Nat → (List Dvc) → Nat → Option ((List Dvc))
  | 0, _, _ => none
  | n + 1, x16, x19 => volumegrouplaw13_some_l1_b bits r1 (volumegrouplaw13_some_l1 bits r1 n) x16 x19
def volumegrouplaw13_some (a : ArrS) (bits : Int) : Option ((List Dvc)) :=
  Option.bind (volumegroupmake_Spans a) fun r1 =>
  Option.bind (volumegrouplaw13_some_l1 bits r1 FUEL ([] : List Dvc) 0) fun a15 =>
  some a15
theorem L_volumegrouplaw13_some {W : World} {ba : Nat} {a : ArrS} {bits : Int} {r : (List Dvc)} (h : volumegrouplaw13_some a bits = some r) :
    CSpec Try.prog W 46 [ptr ba 0, .int .i64 bits] [Arr ba a] (fun x : (Sl3 × List IfH) => x.1.v) (fun _ => True) (fun x F => Arr ba a :: sl tyDev x.1.v x.2 :: Rs (DevP ba) r x.2 :: F) := by
 refine CSpec.of_body Try.func46 rfl Try.ntmps46 rfl fun F => ?_
 show CJ _ _ _ _ _ _ (_ :: F)
 unfold volumegrouplaw13_some at h
 refine sR <| oA rfl rfl <| nT <| sR <| oM rfl rfl ?_
 obtain ⟨r1, hr2, h⟩ := bind_e h
 refine oO <| O_call (L_volumegroupmake_Spans hr2) rfl Try.call37 (Dels.cons del0 Dels.nil) rfl fun X3 _ => RJ_pure (fun h hh => Rs_len (stars_perm (del2 (A := Rs (DevP ba) r1 X3.2)).out h hh)) fun hdl6 => oA rfl rfl <| nT <| sR <| oA rfl rfl <| nT <| CJ_seq <| sR <| oA rfl rfl <| nT <| CJ_ent (fun h hh => sl_nil (t := tyDev) h (rs_nil (RP := DevP ba) h hh)) ?_
 obtain ⟨y11, hl9, hK10⟩ := bind_c h
 refine CJ_cutT (X := (List Dvc) × Sl3 × (List IfH)) [6, 7, 10, 11, 12, 13, 14, 15, 16, 17, 18, 19, 20, 21, 22, 23, 24, 25, 26, 27] (fun ⟨a15, hd13, hs14⟩ => ([(6, hd13.v)] : Slots)) (fun ⟨a15, hd13, hs14⟩ R => sl tyDev hd13.v hs14 :: Rs (DevP ba) a15 hs14 :: R) (fun ⟨a15, hd13, hs14⟩ => y11 = a15) (Dels.cons del0 (Dels.cons del0 Dels.nil)) ?_ ?_
 ·
  refine CJ_block <| CJ_loopR (X := Nat × (List Dvc) × Nat × Sl3 × (List IfH)) [6, 7, 10, 11, 12, 13, 14, 15, 16, 17, 18, 19, 20, 21, 22, 23, 24, 25, 26, 27] (fun ⟨n, x16, x19, hd17, hs18⟩ => ([(6, hd17.v), (7, .int .i64 (((x19 : Nat) : Int)))] : Slots)) (fun ⟨n, x16, x19, hd17, hs18⟩ R => sl tyDev hd17.v hs18 :: Rs (DevP ba) x16 hs18 :: R) (fun ⟨n, x16, x19, hd17, hs18⟩ => volumegrouplaw13_some_l1 bits r1 n x16 x19 = some y11) (fun ⟨n, x16, x19, hd17, hs18⟩ => n) ⟨FUEL, ([] : List Dvc), 0, ⟨none, 0, 0⟩, ([] : List IfH)⟩ ?_ ?_ eR ?_
  · exact hl9
  · exact ⟨rfl, rfl, True.intro⟩
  ·
   rintro ⟨n, x16, x19, hd17, hs18⟩ h
   cases n with
   | zero => exact none_e h
   | succ n => ?_
   replace h : volumegrouplaw13_some_l1_b bits r1 (volumegrouplaw13_some_l1 bits r1 n) x16 x19 = some y11 := h
   unfold volumegrouplaw13_some_l1_b at h
   show CJ _ _ _ _ _ (([(6, hd17.v), (7, .int .i64 (((x19 : Nat) : Int)))] : Slots) ++ forget _ _) (sl tyDev hd17.v hs18 :: Rs (DevP ba) x16 hs18 :: _)
   refine lC del0 fun hlen20 => CJ_pure (fun h hh => Rs_len (stars_perm (del1 (A := Rs (DevP ba) x16 hs18)).out h hh)) fun hdl21 => CJ_seq <| sR <| oM rfl rfl <| oM rfl rfl <| oV (VJ_eq (V_len rfl foc3 (Reads.sl _ _ _) Try.runUnderlying67) (congrArg (fun z : Nat => Value.int .i64 (z : Int)) (hdl6).symm)) rfl <| oP (P_lss (a := ((x19 : Nat) : Int)) (b := ((r1.length : Nat) : Int)) rfl rfl) rfl <| nT <| CJ_condP rfl bT_dec (fun hg1 => ?_) (fun hg1 => ?_)
   ·
    replace h := ite_t hg1 h
    refine kT <| CJ_seq <| CJ_block <| sR <| oM rfl rfl <| oM rfl rfl <| oP (P_shr_i64 (a := bits) (m := x19) rfl rfl rfl) rfl <| oP (P_and (a := (shrI bits x19)) (m := (1 : Int)) rfl rfl (by decide)) rfl <| oP (P_eql (a := (andI (shrI bits x19) (1 : Int))) (b := (1 : Int)) rfl rfl) rfl <| nT <| CJ_condP rfl bT_dec (fun hg3 => ?_) (fun hg3 => ?_)
    ·
     replace h := ite_t hg3 h
     refine CJ_region <| oM rfl rfl <| oM rfl rfl <| oM rfl rfl <| oV (V_index (i := x19) rfl rfl rfl (by have hz : x19 < r1.length := (by omega); have hy := hdl6; omega) foc3 (Reads.sl _ _ _) Try.runUnderlying67 Try.sizeOf26) rfl <| RJ_ent (Ent.trans (t4_ eR) (Rs_at (fun _ _ => Dup_DevP) (dx := dv0) (dh := tyDev.dflt) (i := x19) (by omega))) <| oV (V_loadE rfl rfl (by have hz : x19 < r1.length := (by omega); have hy := hdl6; omega) foc5 (Reads.sl _ _ _) rfl rfl Try.isAgg26) rfl <| oO <| O_buildSlice rfl (bs_67_1_0 _ _) rfl fun b23 => ?_
     obtain ⟨hg4, h⟩ := grd_Le h
     refine oO <| O_append (t := tyDev) (bytes := 16) rfl rfl del3 foc0 (Reads.lit (t := tyDev) (ys := [(X3.2.getD x19 tyDev.dflt)]) rfl rfl (by decide) (by decide) rfl) Try.underlying67 ok_tyDev (apl (m := 1) (b := 16) (by have hz : _ ≤ 1000000000 := hg4; have := hdl21; omega) (by decide)).1 (apl (m := 1) (b := 16) (by have hz : _ ≤ 1000000000 := hg4; have := hdl21; omega) (by decide)).2 rfl fun p25 c26 => RJ_ent (Ent.trans (t4_ (t2_ eR)) (Rs_push (x := (r1.getD x19 dv0)) (g := (X3.2.getD x19 tyDev.dflt)) (fun _ _ => Dup_DevP))) <| RJ_pure (fun h hh => Rs_len (stars_perm (del0 (A := Rs (DevP ba) ((x16 ++ [(r1.getD x19 dv0)])) ((hs18 ++ [(X3.2.getD x19 tyDev.dflt)])))).out h hh)) fun hdl27 => oA rfl rfl <| RJ_nil <| QJ_block_normal <| QJ_ent (t0_ (t1_ (t2_ (t2_ (t2_ (eD (eD eR))))))) <| QJ_then <| CJ_region <| oM rfl rfl ?_
     obtain ⟨hg5, h⟩ := grd_Ne h
     exact oP (PJ_eq (P_add (a := ((x19 : Nat) : Int)) (b := (1 : Int)) rfl rfl (nat_in hg5)) rfl) rfl <| oA rfl rfl <| RJ_nil <| nR ⟨n, (x16 ++ [(r1.getD x19 dv0)]), (x19 + 1), ⟨p25, (hs18 ++ [(X3.2.getD x19 tyDev.dflt)]).length, c26⟩, (hs18 ++ [(X3.2.getD x19 tyDev.dflt)])⟩ h ⟨rfl, rfl, True.intro⟩ (t1_ (t0_ (t1_ (t1_ eR))))
    ·
     replace h := ite_f hg3 h
     refine CJ_skip <| QJ_block_normal <| QJ_then <| CJ_region <| oM rfl rfl ?_
     obtain ⟨hg6, h⟩ := grd_Ne h
     exact oP (PJ_eq (P_add (a := ((x19 : Nat) : Int)) (b := (1 : Int)) rfl rfl (nat_in hg6)) rfl) rfl <| oA rfl rfl <| RJ_nil <| nR ⟨n, x16, (x19 + 1), hd17, hs18⟩ h ⟨rfl, rfl, True.intro⟩ eR
   ·
    replace h := ite_f hg1 h
    exact CJ_exit <| QJ_then_exit <| QJ_round_exit <| QJ_block_here <| cR ⟨x16, hd17, hs18⟩ (Option.some.inj h).symm ⟨rfl, True.intro⟩ eR
 ·
  rintro ⟨a15, hd13, hs14⟩ hy28
  replace h := bindK_at hK10 hy28
  show CJ _ _ _ _ _ (([(6, hd13.v)] : Slots) ++ forget _ _) (sl tyDev hd13.v hs14 :: Rs (DevP ba) a15 hs14 :: _)
  refine lC del0 fun hlen29 => CJ_pure (fun h hh => Rs_len (stars_perm (del1 (A := Rs (DevP ba) a15 hs14)).out h hh)) fun hdl30 => sR <| oM rfl rfl <| oA rfl rfl <| nT <| CJ_ret ?_
  cases h
  exact fE (res1 Try.results46 rfl) (hd13, hs14) (t2_ (t0_ (t0_ (eD (eD eR)))))
def volumegrouplaw13_awake : Option (Bool) :=
  Option.bind (volumegrouplaw13_areas (2 : Int) (12 : Int)) fun r1 =>
  Option.elim r1 (
    some false) fun o6 =>
  Option.bind (volumegrouplaw13_some o6 (3 : Int)) fun r7 =>
  Option.bind (copies_Commit r7 (1 : Int) (ByteArray.mk #[116, 101, 120, 116]) o6) fun r13 =>
  Option.bind (volumegrouplaw13_some r13.2.2 (3 : Int)) fun r15 =>
  Option.bind (copies_Scan r15 r13.2.2) fun r21 =>
  Option.bind (copies_Choose r21.1) fun r26 =>
  some (((((((((decide (r13.2.1 = (0 : Int))) && r13.1) && (decide (r26.2 = (0 : Int)))) && (decide (r26.1 = (0 : Int)))) && (decide (((r21.1.length : Nat) : Int) = (2 : Int)))) && (decide (((r21.1.getD 1 (⟨false, 0, ByteArray.empty⟩ : api_Copy))).Text = (ByteArray.mk #[116, 101, 120, 116])))) && (decide (((r21.2.1.length : Nat) : Int) = (0 : Int)))) && (decide (r21.2.2 = (1 : Int)))))
theorem L_volumegrouplaw13_awake {W : World} {r : Bool} (h : volumegrouplaw13_awake = some r) :
    CSpec Try.prog W 43 [] [] (fun x : Unit => .bool r) (fun _ => True) (fun x F => F) := by
 refine CSpec.of_body Try.func43 rfl Try.ntmps43 rfl fun F => ?_
 show CJ _ _ _ _ _ _ (F)
 unfold volumegrouplaw13_awake at h
 refine sR <| oA rfl rfl <| nT <| sR ?_
 obtain ⟨r1, hr2, h⟩ := bind_e h
 refine oO <| O_call (L_volumegrouplaw13_areas hr2) rfl Try.call44 Dels.nil rfl fun X3 _ => oA rfl rfl <| nT <| CJ_seq <| sR <| oM rfl rfl ?_
 rcases opt_e h with ⟨ht5, h⟩ | ⟨o6, ht5, h⟩
 ·
  rw [ht5]
  refine RJ_ent (eD eR) <| oP (P_eqlNN rfl rfl Try.underlying24) rfl <| nT <| CJ_condT rfl rfl <| sR <| oA rfl rfl <| nT <| CJ_ret <| QJ_then_ret ?_
  cases h
  exact fE (res1 Try.results43 rfl) () eR
 ·
  rw [ht5]
  refine RJ_ent (Ent.takeC (A' := Arr X3 o6) del0 rfl eR) <| oP (P_eqlPN rfl rfl Try.underlying24) rfl <| nT <| CJ_condF rfl rfl <| kT <| sR <| oM rfl rfl ?_
  obtain ⟨r7, hr8, h⟩ := bind_e h
  refine oO <| O_call (L_volumegrouplaw13_some hr8) rfl Try.call46 (Dels.cons del0 Dels.nil) rfl fun X9 _ => RJ_pure (fun h hh => Rs_len (stars_perm (del2 (A := Rs (DevP X3) r7 X9.2)).out h hh)) fun hdl12 => ?_
  obtain ⟨r13, hr14, h⟩ := bind_e h
  refine oO <| O_call (L_copies_Commit (Reads.sl _ _ _) hr14) rfl Try.call45 (Dels.cons del1 (Dels.cons del1 (Dels.cons del0 Dels.nil))) rfl fun _ _ => oM rfl rfl <| oP (P_extract rfl rfl) rfl <| oP (P_extract rfl rfl) rfl <| oA rfl rfl <| oA rfl rfl <| nT <| sR <| oM rfl rfl ?_
  obtain ⟨r15, hr16, h⟩ := bind_e h
  refine oO <| O_call (L_volumegrouplaw13_some hr16) rfl Try.call46 (Dels.cons del2 Dels.nil) rfl fun X17 _ => RJ_pure (fun h hh => Rs_len (stars_perm (del2 (A := Rs (DevP X3) r15 X17.2)).out h hh)) fun hdl20 => ?_
  obtain ⟨r21, hr22, h⟩ := bind_e h
  refine oO <| O_call (L_copies_Scan (Reads.sl _ _ _) hr22) rfl Try.call41 (Dels.cons del1 (Dels.cons del1 (Dels.cons del0 Dels.nil))) rfl fun X23 _ => oM rfl rfl <| oP (P_extract (v := X23.1.v) rfl rfl) rfl <| oP (P_extract (v := X23.2.v) rfl rfl) rfl <| oP (P_extract rfl rfl) rfl <| oA rfl rfl <| oA rfl rfl <| oA rfl rfl <| RJ_nil <| QJ_ent (t2_ (t2_ (t2_ (eD (eD (eD (eD eR))))))) <| QJ_then <| sR <| oM rfl rfl ?_
  obtain ⟨r26, hr27, h⟩ := bind_e h
  refine oO <| O_call (L_copies_Choose (Reads.sl _ _ _) hr27) rfl Try.call48 (Dels.cons del1 Dels.nil) rfl fun _ _ => oM rfl rfl <| oP (P_extract rfl rfl) rfl <| oP (P_extract rfl rfl) rfl <| oA rfl rfl <| oA rfl rfl <| nT <| sR <| oM rfl rfl <| oP (P_eql (a := r13.2.1) (b := (0 : Int)) rfl rfl) rfl <| oM rfl rfl <| RJ_mbT rfl rfl rfl (fun hG28 => have hP29 : (r13.2.1 = (0 : Int)) := (bT_dec).1 hG28; VJ_P (P_move rfl)) <| oP (P_pickAnd rfl (fun hh => mbx hh rfl) rfl) rfl <| oM rfl rfl <| RJ_mbT rfl rfl rfl (fun hG30 => have hP31 : ((r13.2.1 = (0 : Int)) ∧ r13.1 = true) := ((bT_and bT_dec Iff.rfl)).1 hG30; VJ_P (P_move rfl)) <| RJ_mbT rfl rfl rfl (fun hG32 => have hP33 : ((r13.2.1 = (0 : Int)) ∧ r13.1 = true) := ((bT_and bT_dec Iff.rfl)).1 hG32; VJ_P (P_eql (a := r26.2) (b := (0 : Int)) (mbx hG32 rfl) rfl)) <| oP (P_pickAnd rfl (fun hh => mbx hh rfl) rfl) rfl <| oM rfl rfl <| RJ_mbT rfl rfl rfl (fun hG34 => have hP35 : (((r13.2.1 = (0 : Int)) ∧ r13.1 = true) ∧ (r26.2 = (0 : Int))) := ((bT_and (bT_and bT_dec Iff.rfl) bT_dec)).1 hG34; VJ_P (P_move rfl)) <| RJ_mbT rfl rfl rfl (fun hG36 => have hP37 : (((r13.2.1 = (0 : Int)) ∧ r13.1 = true) ∧ (r26.2 = (0 : Int))) := ((bT_and (bT_and bT_dec Iff.rfl) bT_dec)).1 hG36; VJ_P (P_eql (a := r26.1) (b := (0 : Int)) (mbx hG36 rfl) rfl)) <| oP (P_pickAnd rfl (fun hh => mbx hh rfl) rfl) rfl <| oM rfl rfl ?_
  refine RJ_mbT rfl rfl rfl (fun hG38 => have hP39 : ((((r13.2.1 = (0 : Int)) ∧ r13.1 = true) ∧ (r26.2 = (0 : Int))) ∧ (r26.1 = (0 : Int))) := ((bT_and (bT_and (bT_and bT_dec Iff.rfl) bT_dec) bT_dec)).1 hG38; VJ_P (P_move rfl)) <| RJ_mbT rfl rfl rfl (fun hG40 => have hP41 : ((((r13.2.1 = (0 : Int)) ∧ r13.1 = true) ∧ (r26.2 = (0 : Int))) ∧ (r26.1 = (0 : Int))) := ((bT_and (bT_and (bT_and bT_dec Iff.rfl) bT_dec) bT_dec)).1 hG40; V_len (mbx hG40 rfl) foc0 (Reads.sl _ _ _) Try.runUnderlying66) <| RJ_mbT rfl rfl rfl (fun hG42 => have hP43 : ((((r13.2.1 = (0 : Int)) ∧ r13.1 = true) ∧ (r26.2 = (0 : Int))) ∧ (r26.1 = (0 : Int))) := ((bT_and (bT_and (bT_and bT_dec Iff.rfl) bT_dec) bT_dec)).1 hG42; VJ_P (P_eql (a := ((r21.1.length : Nat) : Int)) (b := (2 : Int)) (mbx hG42 rfl) rfl)) <| oP (P_pickAnd rfl (fun hh => mbx hh rfl) rfl) rfl <| oM rfl rfl <| RJ_mbT rfl rfl rfl (fun hG44 => have hP45 : (((((r13.2.1 = (0 : Int)) ∧ r13.1 = true) ∧ (r26.2 = (0 : Int))) ∧ (r26.1 = (0 : Int))) ∧ (((r21.1.length : Nat) : Int) = (2 : Int))) := ((bT_and (bT_and (bT_and (bT_and bT_dec Iff.rfl) bT_dec) bT_dec) bT_dec)).1 hG44; VJ_P (P_move rfl)) <| RJ_mbT rfl rfl rfl (fun hG46 => have hP47 : (((((r13.2.1 = (0 : Int)) ∧ r13.1 = true) ∧ (r26.2 = (0 : Int))) ∧ (r26.1 = (0 : Int))) ∧ (((r21.1.length : Nat) : Int) = (2 : Int))) := ((bT_and (bT_and (bT_and (bT_and bT_dec Iff.rfl) bT_dec) bT_dec) bT_dec)).1 hG46; V_index (i := 1) (mbx hG46 rfl) rfl rfl (by omega) foc0 (Reads.sl _ _ _) Try.runUnderlying66 Try.sizeOf34) ?_
  refine RJ_mbT rfl rfl rfl (fun hG48 => have hP49 : (((((r13.2.1 = (0 : Int)) ∧ r13.1 = true) ∧ (r26.2 = (0 : Int))) ∧ (r26.1 = (0 : Int))) ∧ (((r21.1.length : Nat) : Int) = (2 : Int))) := ((bT_and (bT_and (bT_and (bT_and bT_dec Iff.rfl) bT_dec) bT_dec) bT_dec)).1 hG48; VJ_P (P_fieldE (mbx hG48 rfl) ⟨_, _, _, Try.runUnderlying34, rfl, rfl, Try.sizeOf9, rfl⟩)) <| RJ_mbT rfl rfl rfl (fun hG50 => have hP51 : (((((r13.2.1 = (0 : Int)) ∧ r13.1 = true) ∧ (r26.2 = (0 : Int))) ∧ (r26.1 = (0 : Int))) ∧ (((r21.1.length : Nat) : Int) = (2 : Int))) := ((bT_and (bT_and (bT_and (bT_and bT_dec Iff.rfl) bT_dec) bT_dec) bT_dec)).1 hG50; V_loadE (mbx hG50 rfl) rfl (by omega) foc0 (Reads.sl _ _ _) rfl rfl Try.isAgg9) <| RJ_mbT rfl rfl rfl (fun hG52 => have hP53 : (((((r13.2.1 = (0 : Int)) ∧ r13.1 = true) ∧ (r26.2 = (0 : Int))) ∧ (r26.1 = (0 : Int))) ∧ (((r21.1.length : Nat) : Int) = (2 : Int))) := ((bT_and (bT_and (bT_and (bT_and bT_dec Iff.rfl) bT_dec) bT_dec) bT_dec)).1 hG52; VJ_P (P_eqlStr (a := ((r21.1.getD 1 (⟨false, 0, ByteArray.empty⟩ : api_Copy))).Text) (b := (ByteArray.mk #[116, 101, 120, 116])) (mbx hG52 rfl) rfl Try.underlying9)) <| oP (P_pickAnd rfl (fun hh => mbx hh rfl) rfl) rfl <| oM rfl rfl ?_
  refine RJ_mbT rfl rfl rfl (fun hG54 => have hP55 : ((((((r13.2.1 = (0 : Int)) ∧ r13.1 = true) ∧ (r26.2 = (0 : Int))) ∧ (r26.1 = (0 : Int))) ∧ (((r21.1.length : Nat) : Int) = (2 : Int))) ∧ (((r21.1.getD 1 (⟨false, 0, ByteArray.empty⟩ : api_Copy))).Text = (ByteArray.mk #[116, 101, 120, 116]))) := ((bT_and (bT_and (bT_and (bT_and (bT_and bT_dec Iff.rfl) bT_dec) bT_dec) bT_dec) bT_dec)).1 hG54; VJ_P (P_move rfl)) <| RJ_mbT rfl rfl rfl (fun hG56 => have hP57 : ((((((r13.2.1 = (0 : Int)) ∧ r13.1 = true) ∧ (r26.2 = (0 : Int))) ∧ (r26.1 = (0 : Int))) ∧ (((r21.1.length : Nat) : Int) = (2 : Int))) ∧ (((r21.1.getD 1 (⟨false, 0, ByteArray.empty⟩ : api_Copy))).Text = (ByteArray.mk #[116, 101, 120, 116]))) := ((bT_and (bT_and (bT_and (bT_and (bT_and bT_dec Iff.rfl) bT_dec) bT_dec) bT_dec) bT_dec)).1 hG56; V_len (mbx hG56 rfl) foc2 (Reads.sl _ _ _) Try.runUnderlying38) <| RJ_mbT rfl rfl rfl (fun hG58 => have hP59 : ((((((r13.2.1 = (0 : Int)) ∧ r13.1 = true) ∧ (r26.2 = (0 : Int))) ∧ (r26.1 = (0 : Int))) ∧ (((r21.1.length : Nat) : Int) = (2 : Int))) ∧ (((r21.1.getD 1 (⟨false, 0, ByteArray.empty⟩ : api_Copy))).Text = (ByteArray.mk #[116, 101, 120, 116]))) := ((bT_and (bT_and (bT_and (bT_and (bT_and bT_dec Iff.rfl) bT_dec) bT_dec) bT_dec) bT_dec)).1 hG58; VJ_P (P_eql (a := ((r21.2.1.length : Nat) : Int)) (b := (0 : Int)) (mbx hG58 rfl) rfl)) <| oP (P_pickAnd rfl (fun hh => mbx hh rfl) rfl) rfl <| oM rfl rfl ?_
  refine RJ_mbT rfl rfl rfl (fun hG60 => have hP61 : (((((((r13.2.1 = (0 : Int)) ∧ r13.1 = true) ∧ (r26.2 = (0 : Int))) ∧ (r26.1 = (0 : Int))) ∧ (((r21.1.length : Nat) : Int) = (2 : Int))) ∧ (((r21.1.getD 1 (⟨false, 0, ByteArray.empty⟩ : api_Copy))).Text = (ByteArray.mk #[116, 101, 120, 116]))) ∧ (((r21.2.1.length : Nat) : Int) = (0 : Int))) := ((bT_and (bT_and (bT_and (bT_and (bT_and (bT_and bT_dec Iff.rfl) bT_dec) bT_dec) bT_dec) bT_dec) bT_dec)).1 hG60; VJ_P (P_move rfl)) <| RJ_mbT rfl rfl rfl (fun hG62 => have hP63 : (((((((r13.2.1 = (0 : Int)) ∧ r13.1 = true) ∧ (r26.2 = (0 : Int))) ∧ (r26.1 = (0 : Int))) ∧ (((r21.1.length : Nat) : Int) = (2 : Int))) ∧ (((r21.1.getD 1 (⟨false, 0, ByteArray.empty⟩ : api_Copy))).Text = (ByteArray.mk #[116, 101, 120, 116]))) ∧ (((r21.2.1.length : Nat) : Int) = (0 : Int))) := ((bT_and (bT_and (bT_and (bT_and (bT_and (bT_and bT_dec Iff.rfl) bT_dec) bT_dec) bT_dec) bT_dec) bT_dec)).1 hG62; VJ_P (P_eql (a := r21.2.2) (b := (1 : Int)) (mbx hG62 rfl) rfl)) <| oP (P_pickAnd rfl (fun hh => mbx hh rfl) rfl) rfl <| oA rfl rfl <| nT <| CJ_ret ?_
  cases h
  exact fE (res1 Try.results43 rfl) () (eD (eD (eD eR)))
end Go.Proofs
namespace Go.Proofs
open Go.VG
abbrev dks (ds : List Nat) (n : Nat) : List Dvc := ds.map fun d => Dk d n
theorem dks_getD {ds : List Nat} {n i : Nat} (h : i < ds.length) : (dks ds n).getD i dv0 = Dk (ds.getD i 0) n := by
  simp [dks, List.getD_eq_getElem?_getD, h]
theorem dks_len {ds : List Nat} {n : Nat} : (dks ds n).length = ds.length := by simp [dks]
section
variable {ns : List Nat} {K n : Nat} {s t : ArrS}
theorem Prepd.other {d e st q : Nat} {x : ByteArray} (p : Prepd ns K s d n st q x t) (hde : d ≠ e) (h : Lv ns K e n s) (hK : K + (encT x).length + 1 ≤ 900000) : Lv ns (K + (encT x).length + 1) e n t ∧ Go.Proofs.now t e = Go.Proofs.now s e := by
  have hn : Go.Proofs.now t e = Go.Proofs.now s e := funext fun b => by rw [p.now, if_neg hde]
  exact ⟨⟨p.ok, p.dn, h.hd, h.hn, h.h4, h.hb, by rw [p.miss]; exact h.ms, fun b hb => by rw [p.cand e b h.hd (by rw [h.hn]; exact hb), if_neg hde, h.cl b hb, hn], hK⟩, hn⟩
theorem Put1.other {d e k : Nat} {v : UInt64} (p : Put1 ns K s d k v t) (hde : d ≠ e) (h : Lv ns K e n s) (hK : K + 1 ≤ 900000) : Lv ns (K + 1) e n t ∧ Go.Proofs.now t e = Go.Proofs.now s e := by
  have hn : Go.Proofs.now t e = Go.Proofs.now s e := funext fun b => by rw [p.now, if_neg (fun x => hde x.1)]
  exact ⟨⟨p.ok, p.dn, h.hd, h.hn, h.h4, h.hb, by rw [p.miss]; exact h.ms, fun b hb => by rw [p.cand e b h.hd (by rw [h.hn]; exact hb), if_neg hde, h.cl b hb, hn], hK⟩, hn⟩
def Dist (ds : List Nat) : Prop := ∀ i j, i < j → j < ds.length → ds.getD i 0 ≠ ds.getD j 0
theorem commit_l1 {ds : List Nat} {q : Nat} {x : ByteArray} {c : Nat → Option Txt} {L : Nat} (hx : x.size ≤ 8192) (hq : 1 ≤ q ∧ q ≤ 1048575) (hL : (encT x).length = L) (hd : Dist ds) (hin : ∀ i, i < ds.length → ds.getD i 0 < ns.length)
    (hfit : ∀ i, i < ds.length → L + oLen (c (ds.getD i 0)) ≤ rgR n) : ∀ (N i K : Nat) (s : ArrS), ds.length - i < N → i ≤ ds.length → K + (ds.length - i) * (L + 1) ≤ 700000 → (∀ e, e < ns.length → Lv ns K e n s) → s.fuse = 0 →
    (∀ e, e < ns.length → Hold (now s e) (rgR n) 0 (c e)) → (∀ j, j < i → Hold (now s (ds.getD j 0)) (rgR n) 1 (some ⟨q, nextSt (rgR n) (c (ds.getD j 0)), x⟩)) →
    ∃ t, copies_Commit_l1 (dks ds n) (q : Int) x N s i = some (.inl t) ∧ (∀ e, e < ns.length → Lv ns (K + (ds.length - i) * (L + 1)) e n t) ∧ t.fuse = 0 ∧ (∀ e, e < ns.length → Hold (now t e) (rgR n) 0 (c e)) ∧
      (∀ j, j < ds.length → Hold (now t (ds.getD j 0)) (rgR n) 1 (some ⟨q, nextSt (rgR n) (c (ds.getD j 0)), x⟩)) ∧ (∀ e, (∀ j, i ≤ j → j < ds.length → ds.getD j 0 ≠ e) → now t e = now s e)
  | 0, _, _, _, h, _, _, _, _, _, _ => absurd h (by omega)
  | N + 1, i, K, s, h, hi, hK, hl, hf, h0, h1 => by
    show ∃ t, copies_Commit_l1_b _ _ _ _ _ _ = _ ∧ _
    unfold copies_Commit_l1_b
    rw [dks_len]
    by_cases hlt : i < ds.length
    · rw [if_pos (by omega), dks_getD hlt]
      have hmul : (ds.length - i) * (L + 1) = (L + 1) + (ds.length - (i + 1)) * (L + 1) := by
        rw [show ds.length - i = (ds.length - (i + 1)) + 1 by omega, Nat.add_mul, Nat.one_mul, Nat.add_comm]
      rcases prep_hold (hl _ (hin i hlt)) (by omega) (h0 _ (hin i hlt)) hq hx with ⟨h2, _⟩ | ⟨_, ⟨t, h2, h3, h4, h5, h6⟩ | ⟨h2, _⟩⟩
      · have := hfit i hlt; omega
      · rw [h2]; simp only [Option.bind_some]
        rw [if_neg (by simp)]
        rw [hL] at h4
        have hoth : ∀ e, ds.getD i 0 ≠ e → e < ns.length → Lv ns (K + L + 1) e n t ∧ now t e = now s e := fun e hne he => by
          have := h3.other hne (hl e he) (by omega)
          rw [hL] at this; exact this
        obtain ⟨u, u1, u2, u3, u4, u5, u6⟩ := commit_l1 hx hq hL hd hin hfit N (i + 1) (K + L + 1) t (by omega) (by omega) (by omega) (fun e he => by
          by_cases hne : ds.getD i 0 = e
          · rw [← hne]; exact h4
          · exact (hoth e hne he).1) (by rw [h3.fuse, hf]; omega) (fun e he => by
          by_cases hne : ds.getD i 0 = e
          · rw [← hne]; exact h5
          · rw [(hoth e hne he).2]; exact h0 e he) (fun j hj => by
          rcases Nat.lt_or_ge j i with hji | hji
          · have hne := hd j i hji hlt
            rw [(hoth _ (fun e => hne e.symm) (hin j (by omega))).2]
            exact h1 j hji
          · have : j = i := by omega
            rw [this]; exact h6)
        refine ⟨u, u1, fun e he => ?_, u3, u4, u5, fun e he => ?_⟩
        · have := u2 e he
          rw [show K + (ds.length - i) * (L + 1) = K + L + 1 + (ds.length - (i + 1)) * (L + 1) by omega]
          exact this
        · rw [u6 e (fun j hj hjl => he j (by omega) hjl)]
          funext b
          rw [h3.now, if_neg (he i (Nat.le_refl _) hlt)]
      · exact absurd hf h2
    · rw [if_neg (by omega)]
      have e : i = ds.length := by omega
      refine ⟨s, rfl, fun e he => ?_, hf, h0, fun j hj => h1 j (by omega), fun _ _ => rfl⟩
      rw [show ds.length - i = 0 by omega, Nat.zero_mul]; exact hl e he
theorem commit_l2 {ds : List Nat} {T : Nat → Txt} (hd : Dist ds) (hin : ∀ i, i < ds.length → ds.getD i 0 < ns.length) : ∀ (N i K : Nat) (s : ArrS), ds.length - i < N → i ≤ ds.length → K + (ds.length - i) ≤ 700000 → (∀ e, e < ns.length → Lv ns K e n s) → s.fuse = 0 →
    (∀ j, j < ds.length → Hold (now s (ds.getD j 0)) (rgR n) 1 (some (T (ds.getD j 0)))) → (∀ j, j < i → Hold (now s (ds.getD j 0)) (rgR n) 0 (some (T (ds.getD j 0)))) →
    ∃ t, copies_Commit_l2 (dks ds n) N s i = some (.inl t) ∧ (∀ e, e < ns.length → Lv ns (K + (ds.length - i)) e n t) ∧ t.fuse = 0 ∧ (∀ j, j < ds.length → Hold (now t (ds.getD j 0)) (rgR n) 0 (some (T (ds.getD j 0))) ∧ Hold (now t (ds.getD j 0)) (rgR n) 1 (some (T (ds.getD j 0)))) ∧
      (∀ e, (∀ j, i ≤ j → j < ds.length → ds.getD j 0 ≠ e) → now t e = now s e)
  | 0, _, _, _, h, _, _, _, _, _, _ => absurd h (by omega)
  | N + 1, i, K, s, h, hi, hK, hl, hf, h1, h0 => by
    show ∃ t, copies_Commit_l2_b _ _ _ _ = _ ∧ _
    unfold copies_Commit_l2_b
    rw [dks_len]
    by_cases hlt : i < ds.length
    · rw [if_pos (by omega), dks_getD hlt]
      rcases switch_hold (hl _ (hin i hlt)) (by omega) (h1 i hlt) with ⟨_, t, h2, h3, h4, h5⟩ | ⟨h2, _⟩
      · rw [h2]; simp only [Option.bind_some]
        rw [if_neg (by simp)]
        have hoth : ∀ e, ds.getD i 0 ≠ e → e < ns.length → Lv ns (K + 1) e n t ∧ now t e = now s e := fun e hne he => h3.other hne (hl e he) (by omega)
        have hown : Hold (now t (ds.getD i 0)) (rgR n) 1 (some (T (ds.getD i 0))) := by
          refine (h1 i hlt).congr (by rw [h3.nowD]; rfl) fun k _ => ?_
          rw [h3.nowD]
          unfold upd
          rw [if_neg (by have := plc_ge (r := rgR n) (st := oSt (some (T (ds.getD i 0)))) (i := k); omega)]
        obtain ⟨u, u1, u2, u3, u4, u5⟩ := commit_l2 hd hin N (i + 1) (K + 1) t (by omega) (by omega) (by omega) (fun e he => by
          by_cases hne : ds.getD i 0 = e
          · rw [← hne]; exact h4
          · exact (hoth e hne he).1) (by rw [h3.fuse, hf]) (fun j hj => by
          by_cases hne : ds.getD i 0 = ds.getD j 0
          · rw [← hne]; exact hown
          · rw [(hoth _ hne (hin j hj)).2]; exact h1 j hj) (fun j hj => by
          rcases Nat.lt_or_ge j i with hji | hji
          · have hne := hd j i hji hlt
            rw [(hoth _ (fun e => hne e.symm) (hin j (by omega))).2]
            exact h0 j hji
          · have : j = i := by omega
            rw [this]; exact h5)
        refine ⟨u, u1, fun e he => ?_, u3, u4, fun e he => ?_⟩
        · have := u2 e he
          rw [show K + (ds.length - i) = K + 1 + (ds.length - (i + 1)) by omega]
          exact this
        · rw [u5 e (fun j hj hjl => he j (by omega) hjl)]
          funext b
          rw [h3.now, if_neg (fun x => he i (Nat.le_refl _) hlt x.1)]
      · omega
    · rw [if_neg (by omega)]
      refine ⟨s, rfl, fun e he => ?_, hf, fun j hj => ⟨h0 j (by omega), h1 j hj⟩, fun _ _ => rfl⟩
      rw [show ds.length - i = 0 by omega]; exact hl e he
theorem commit_ok {ds : List Nat} {q : Nat} {x : ByteArray} {c : Nat → Option Txt} {L : Nat} (hx : x.size ≤ 8192) (hq : 1 ≤ q ∧ q ≤ 1048575) (hL : (encT x).length = L) (hd : Dist ds) (hin : ∀ i, i < ds.length → ds.getD i 0 < ns.length) (h0 : ds.length ≠ 0) (h100 : ds.length ≤ 100)
    (hfit : ∀ i, i < ds.length → L + oLen (c (ds.getD i 0)) ≤ rgR n) (hK : K ≤ 100000) (hl : ∀ e, e < ns.length → Lv ns K e n s) (hf : s.fuse = 0) (hh : ∀ e, e < ns.length → Hold (now s e) (rgR n) 0 (c e)) :
    ∃ t, copies_Commit (dks ds n) (q : Int) x s = some (true, 0, t) ∧ (∀ e, e < ns.length → Lv ns (K + ds.length * (L + 1) + ds.length) e n t) ∧ t.fuse = 0 ∧
      (∀ j, j < ds.length → Hold (now t (ds.getD j 0)) (rgR n) 0 (some ⟨q, nextSt (rgR n) (c (ds.getD j 0)), x⟩) ∧ Hold (now t (ds.getD j 0)) (rgR n) 1 (some ⟨q, nextSt (rgR n) (c (ds.getD j 0)), x⟩)) ∧
      (∀ e, (∀ j, j < ds.length → ds.getD j 0 ≠ e) → now t e = now s e) := by
  unfold copies_Commit
  rw [dks_len, if_neg (by omega)]
  have hF := fuel_big
  generalize FUEL = N at hF ⊢
  have hE := encT_lt hx
  have hb : ds.length * (L + 1) ≤ 100 * 4096 := Nat.mul_le_mul h100 (by omega)
  obtain ⟨t, t1, t2, t3, t4, t5, t6⟩ := commit_l1 (ns := ns) (n := n) hx hq hL hd hin hfit N 0 K s (by omega) (by omega) (by simp only [Nat.sub_zero]; omega) hl hf hh (fun j hj => absurd hj (by omega))
  rw [t1]
  simp only [seqO, Option.bind_some, Sum.elim_inl]
  simp only [Nat.sub_zero] at t2
  obtain ⟨u, u1, u2, u3, u4, u5⟩ := commit_l2 (ns := ns) (n := n) (ds := ds) (T := fun d => ⟨q, nextSt (rgR n) (c d), x⟩) hd hin N 0 _ t (by omega) (by omega) (by simp only [Nat.sub_zero]; omega) t2 t3 t5 (fun j hj => absurd hj (by omega))
  rw [u1]
  simp only [Option.bind_some, Sum.elim_inl]
  simp only [Nat.sub_zero] at u2
  exact ⟨u, rfl, u2, u3, u4, fun e he => by rw [u5 e (fun j _ hj => he j hj), t6 e (fun j _ hj => he j hj)]⟩
noncomputable def foundR (A : Nat → UInt64) (r : Nat) : copies_found := ⟨(readR A r).1, (readR A r).2, false, max ((dQ (A 0)).toNat : Int) ((dQ (A 1)).toNat : Int)⟩
theorem readR_cases (A : Nat → UInt64) (r : Nat) : (readR A r).2 = 0 ∨ (readR A r).2 = 11 ∨ ((readR A r).2 = 12 ∧ (readR A r).1 = ⟨false, 0, ByteArray.empty⟩) := by
  unfold readR
  split
  · exact .inr (.inr ⟨rfl, rfl⟩)
  · split
    · exact .inl rfl
    · exact .inr (.inl rfl)
theorem look_eq {d : Nat} (h : Lv ns K d n s) : copies_look (Dk d n) s = some (foundR (now s d) (rgR n)) := by
  unfold copies_look
  rw [read_eq h]; simp only [Option.bind_some]
  rw [seqs_eq h]
  unfold foundR
  rcases readR_cases (now s d) (rgR n) with h1 | h1 | ⟨h1, h2⟩
  · rw [if_neg (fun x => x.1 h1)]; simp only [Option.bind_some]
    rw [if_pos (by simp [h1])]; simp [h1]
  · rw [if_neg (fun x => x.2 h1)]; simp only [Option.bind_some]
    rw [if_pos (by simp [h1])]; simp [h1]
  · rw [if_pos (by rw [h1]; decide)]; simp only [Option.bind_some]
    rw [if_pos (by simp [h1])]; simp [h1, h2]
noncomputable def greatR (s : ArrS) (ds : List Nat) : Int := ds.foldl (fun m d => max m (max ((dQ (now s d 0)).toNat : Int) ((dQ (now s d 1)).toNat : Int))) 0
noncomputable def copiesR (s : ArrS) (n : Nat) (ds : List Nat) : List api_Copy := ds.map fun d => (readR (now s d) (rgR n)).1
theorem scan_l1 {ds : List Nat} (hl : ∀ i, i < ds.length → Lv ns K (ds.getD i 0) n s) (h100 : ds.length ≤ 1000) : ∀ (N i : Nat), ds.length - i < N → i ≤ ds.length →
    copies_Scan_l1 (dks ds n) s N i (copiesR s n (ds.take i)) [] (greatR s (ds.take i)) = some (copiesR s n ds, [], greatR s ds)
  | 0, _, h, _ => absurd h (by omega)
  | N + 1, i, h, hi => by
    show copies_Scan_l1_b _ _ _ _ _ _ _ = _
    unfold copies_Scan_l1_b
    rw [dks_len]
    by_cases hlt : i < ds.length
    · rw [if_pos (by omega), dks_getD hlt, look_eq (hl i hlt)]; simp only [Option.bind_some]
      have ht : ds.take (i + 1) = ds.take i ++ [ds.getD i 0] := by
        rw [List.take_succ_eq_append_getElem hlt]; simp [List.getD_eq_getElem?_getD, hlt]
      have e1 : copiesR s n (ds.take (i + 1)) = copiesR s n (ds.take i) ++ [(readR (now s (ds.getD i 0)) (rgR n)).1] := by unfold copiesR; rw [ht, List.map_append]; rfl
      have e2 : greatR s (ds.take (i + 1)) = max (greatR s (ds.take i)) (max ((dQ (now s (ds.getD i 0) 0)).toNat : Int) ((dQ (now s (ds.getD i 0) 1)).toNat : Int)) := by unfold greatR; rw [ht, List.foldl_append]; rfl
      rw [grd_pos (inLen_of (by unfold copiesR; simp; omega)), if_neg (by simp [foundR])]
      have ih := scan_l1 hl h100 N (i + 1) (by omega) (by omega)
      rw [e1, e2] at ih
      exact ih
    · rw [if_neg (by omega), List.take_of_length_le (by omega)]
theorem scan_eq {ds : List Nat} (hl : ∀ i, i < ds.length → Lv ns K (ds.getD i 0) n s) (h100 : ds.length ≤ 1000) : copies_Scan (dks ds n) s = some (copiesR s n ds, [], greatR s ds) := by
  unfold copies_Scan
  have hF := fuel_big
  generalize FUEL = N at hF ⊢
  have := scan_l1 hl h100 N 0 (by omega) (by omega)
  rw [List.take_zero] at this
  rw [show (copiesR s n [] : List api_Copy) = [] from rfl, show greatR s [] = 0 from rfl] at this
  rw [this]; rfl
end
theorem areas_eq {m n : Nat} (hm : m ≤ 8) (hn : 1 ≤ n ∧ n ≤ 1000) : volumegrouplaw13_areas (m : Int) (n : Int) = some (some (mkS (List.replicate m (List.replicate n 0)))) := by
  have hl : ∀ (N i : Nat), m - i < N → i ≤ m → volumegrouplaw13_areas_l1 (m : Int) (n : Int) N (List.replicate i (List.replicate n 0)) i = some (List.replicate m (List.replicate n 0)) := by
    intro N
    induction N with
    | zero => intro i h; exact absurd h (by omega)
    | succ N ih =>
      intro i h hi
      show volumegrouplaw13_areas_l1_b _ _ _ _ _ = _
      unfold volumegrouplaw13_areas_l1_b
      by_cases hlt : i < m
      · rw [if_pos (by omega), grd_pos (decide_eq_true (by omega)), grd_pos (inLen_of (by simp; omega)), grd_pos (inN64_of (by omega)), show ((n : Nat) : Int).toNat = n by omega]
        have e : List.replicate i (List.replicate n (0 : UInt64)) ++ [List.replicate n 0] = List.replicate (i + 1) (List.replicate n 0) := by rw [List.replicate_succ']
        rw [e]; exact ih (i + 1) (by omega) (by omega)
      · rw [if_neg (by omega), show i = m by omega]
  unfold volumegrouplaw13_areas
  have hF := fuel_big
  generalize FUEL = N at hF ⊢
  have := hl N 0 (by omega) (by omega)
  rw [List.replicate_zero] at this
  rw [this]; simp only [Option.bind_some]
  rw [loaded_eq (by simp; omega) (by intro im him; rw [List.eq_of_mem_replicate him]; simp; omega)]; rfl
theorem lvA_mkS {m n e : Nat} (he : e < m) (hn : 4 ≤ n ∧ n ≤ 1000) : Lv (List.replicate m n) 0 e n (mkS (List.replicate m (List.replicate n 0))) := by
  have hS : InSz (List.replicate m n) (mkS (List.replicate m (List.replicate n 0))) := by have := inSz_mkS (ims := List.replicate m (List.replicate n (0 : UInt64))); simpa [lensN] using this
  exact ⟨⟨hS, Nat.le_refl _, coh_mkS, rfl⟩, rfl, by simpa using he, by simp [List.getD_eq_getElem?_getD, List.getElem?_replicate, he], hn.1, hn.2, miss_mkS, fun b _ => cand_mkS, by omega⟩
theorem now0A {m n e b : Nat} : now (mkS (List.replicate m (List.replicate n 0))) e b = 0 := by
  unfold now nowL
  simp only [mkS, List.getD_eq_getElem?_getD, List.getElem?_map, List.getElem?_replicate]
  split
  · simp only [Option.map_some, Option.getD_some, List.getElem?_replicate]
    split <;> rfl
  · rfl
theorem spansA_eq {m n K e : Nat} {s : ArrS} (h : Lv (List.replicate m n) K e n s) (hm : m ≤ 8) : volumegroupmake_Spans s = some (dks (List.range m) n) := by
  have hc : s.drv.length = m := by have := h.ok.sz.cnt; simpa using this
  have hz : ∀ i, i < m → s.size i = n := fun i hi => by
    have := h.ok.sz.size i (by simpa using hi)
    simpa [List.getD_eq_getElem?_getD, List.getElem?_replicate, hi] using this
  have h4 := h.h4; have hb := h.hb
  rw [spans_eq (by omega) (fun i hi => by rw [hz i (by omega)]; omega)]
  show some ((List.range s.drv.length).map _) = _
  rw [hc]
  refine congrArg some (List.map_congr_left fun i hi => ?_)
  show Dvc.span ((i : Nat) : Int) 0 ((s.size i : Nat) : Int) = _
  rw [hz i (List.mem_range.1 hi)]
def bitsL (bits : Int) (m : Nat) : List Nat := (List.range m).filter fun i => decide (andI (shrI bits i) 1 = 1)
theorem some_eq {m n K e : Nat} {s : ArrS} {bits : Int} (h : Lv (List.replicate m n) K e n s) (hm : m ≤ 8) : volumegrouplaw13_some s bits = some (dks (bitsL bits m) n) := by
  have hl : ∀ (N i : Nat), m - i < N → i ≤ m → volumegrouplaw13_some_l1 bits (dks (List.range m) n) N (dks (bitsL bits i) n) i = some (dks (bitsL bits m) n) := by
    intro N
    induction N with
    | zero => intro i h; exact absurd h (by omega)
    | succ N ih =>
      intro i h hi
      show volumegrouplaw13_some_l1_b _ _ _ _ _ = _
      unfold volumegrouplaw13_some_l1_b
      rw [dks_len, List.length_range]
      by_cases hlt : i < m
      · have hlb : (dks (bitsL bits i) n).length ≤ i := by rw [dks_len]; unfold bitsL; exact Nat.le_trans (List.length_filter_le _ _) (by simp)
        have hgd : (List.range m).getD i 0 = i := by simp [List.getD_eq_getElem?_getD, hlt]
        rw [if_pos (by omega), dks_getD (by simpa using hlt), hgd]
        by_cases hb : andI (shrI bits i) 1 = 1
        · rw [if_pos hb, grd_pos (inLen_of (by omega)), grd_pos (inN64_of (by omega))]
          have e : dks (bitsL bits i) n ++ [Dk i n] = dks (bitsL bits (i + 1)) n := by unfold bitsL dks; rw [List.range_succ, List.filter_append]; simp [hb]
          rw [e]; exact ih (i + 1) (by omega) (by omega)
        · rw [if_neg hb, grd_pos (inN64_of (by omega))]
          have e : dks (bitsL bits i) n = dks (bitsL bits (i + 1)) n := by unfold bitsL dks; rw [List.range_succ, List.filter_append]; simp [hb]
          rw [e]; exact ih (i + 1) (by omega) (by omega)
      · rw [if_neg (by omega), show i = m by omega]
  unfold volumegrouplaw13_some
  rw [spansA_eq h hm]; simp only [Option.bind_some]
  have hF := fuel_big
  generalize FUEL = N at hF ⊢
  have := hl N 0 (by omega) (by omega)
  rw [show (dks (bitsL bits 0) n : List Dvc) = [] from rfl] at this
  rw [this]; rfl
abbrev txt4 : ByteArray := ByteArray.mk #[116, 101, 120, 116]
theorem txt4_len : (encT txt4).length = 2 := by rw [encT_len]; rfl
theorem awake13 : volumegrouplaw13_awake = some true := by
  unfold volumegrouplaw13_awake
  rw [show volumegrouplaw13_areas (2 : Int) (12 : Int) = _ from areas_eq (m := 2) (n := 12) (by omega) (by omega)]; simp only [Option.bind_some, Option.elim]
  have hL : ∀ e, e < (List.replicate 2 12).length → Lv (List.replicate 2 12) 0 e 12 (mkS (List.replicate 2 (List.replicate 12 0))) := fun e he => lvA_mkS (by simpa using he) (by omega)
  rw [some_eq (hL 0 (by simp)) (by omega)]; simp only [Option.bind_some]
  have hb : bitsL 3 2 = [0, 1] := by decide
  rw [hb]
  have hr : rgR 12 = 10 := rfl
  obtain ⟨t, t1, t2, t3, t4, _⟩ := commit_ok (ns := List.replicate 2 12) (n := 12) (K := 0) (ds := [0, 1]) (q := 1) (x := txt4) (c := fun _ => none) (L := 2) (by decide) (by omega) txt4_len (by
    intro i j h1 h2
    have : i = 0 ∧ j = 1 := by simp at h2; omega
    rw [this.1, this.2]; decide) (by
    intro i hi
    have : i = 0 ∨ i = 1 := by simp at hi; omega
    rcases this with rfl | rfl <;> decide) (by decide) (by decide) (fun i _ => by rw [hr]; show 2 + 0 ≤ 10; omega) (by omega) hL rfl (fun e _ => by show now _ e 0 = 0; exact now0A)
  rw [show copies_Commit (dks [0, 1] 12) (1 : Int) txt4 _ = _ from t1]; simp only [Option.bind_some]
  rw [some_eq (t2 0 (by simp)) (by omega), hb]; simp only [Option.bind_some]
  have h0 := t4 0 (by decide); have h1 := t4 1 (by decide)
  have g0 : ([0, 1] : List Nat).getD 0 0 = 0 := rfl
  have g1 : ([0, 1] : List Nat).getD 1 0 = 1 := rfl
  rw [g0] at h0; rw [g1] at h1
  rw [scan_eq (ds := [0, 1]) (fun i hi => by
    have : i = 0 ∨ i = 1 := by simp at hi; omega
    rcases this with rfl | rfl
    · exact t2 0 (by simp)
    · exact t2 1 (by simp)) (by decide)]
  simp only [Option.bind_some]
  have hrd : ∀ d, Hold (now t d) (rgR 12) 0 (some ⟨1, nextSt (rgR 12) none, txt4⟩) → (readR (now t d) (rgR 12)).1 = ⟨true, 1, txt4⟩ := fun d hh => by
    unfold readR
    rw [if_neg (fun x => nomatch hh.ne.1 x), hh.whole, if_pos rfl, hh.dS.2.2]; rfl
  have hc : copiesR t 12 [0, 1] = [⟨true, 1, txt4⟩, ⟨true, 1, txt4⟩] := by
    show [(readR (now t 0) (rgR 12)).1, (readR (now t 1) (rgR 12)).1] = _
    rw [hrd 0 h0.1, hrd 1 h1.1]
  have hg : greatR t [0, 1] = 1 := by
    show max (max 0 (max ((dQ (now t 0 0)).toNat : Int) ((dQ (now t 0 1)).toNat : Int))) (max ((dQ (now t 1 0)).toNat : Int) ((dQ (now t 1 1)).toNat : Int)) = 1
    rw [h0.1.dS.2.2, h0.2.dS.2.2, h1.1.dS.2.2, h1.2.dS.2.2]; rfl
  rw [hc, hg, choose_same (c := ⟨true, 1, txt4⟩) (by
    intro i hi
    have : i = 0 ∨ i = 1 := by simp at hi; omega
    rcases this with rfl | rfl <;> rfl) (by decide) (by decide) rfl]
  rfl
end Go.Proofs
namespace Go.Proofs
open Go.VG
structure LvX (ns : List Nat) (K d n : Nat) (s : ArrS) : Prop where
  ok : ArrOk ns K s
  dn : s.down = false
  hd : d < ns.length
  hn : ns.getD d 0 = n
  h4 : 4 ≤ n
  hb : n ≤ 1000
  cl : ∀ b, b < n → cand s d b = [now s d b]
  hK : K ≤ 900000
section
variable {ns : List Nat} {K d n : Nat} {s t : ArrS}
theorem LvX.lv (h : LvX ns K d n s) (hm : miss s d = false) : Lv ns K d n s := ⟨h.ok, h.dn, h.hd, h.hn, h.h4, h.hb, hm, h.cl, h.hK⟩
theorem Lv.x (h : Lv ns K d n s) : LvX ns K d n s := ⟨h.ok, h.dn, h.hd, h.hn, h.h4, h.hb, h.cl, h.hK⟩
theorem smS_gen {k : Nat} {v : Bool} (hok : ArrOk ns K s) (hk : k < ns.length) : ArrOk ns K (smS s (k : Int) v) ∧ (∀ e, e < ns.length → miss (smS s (k : Int) v) e = if e = k then v else miss s e) ∧ (∀ e, now (smS s (k : Int) v) e = now s e) ∧ (∀ e b, cand (smS s (k : Int) v) e b = cand s e b) ∧ (smS s (k : Int) v).down = s.down ∧ (smS s (k : Int) v).fuse = s.fuse := by
  have hkl : k < s.drv.length := hok.disk hk
  have hM := (Missed.self (s := s)).set (b := v) hkl
  have hnow : ∀ e, nowL (smS s (k : Int) v) e = nowL s e := fun e => hM.now e
  have hdur : ∀ e, durL (smS s (k : Int) v) e = durL s e := fun e => hM.dur e
  have hlog : (smS s (k : Int) v).log = s.log := hM.log
  have hlen : (smS s (k : Int) v).drv.length = s.drv.length := hM.drv
  have hsize : ∀ e, (smS s (k : Int) v).size e = s.size e := fun e => hM.size
  refine ⟨⟨hM.inSz hok.sz, by rw [hM.wr]; exact hok.wr, ⟨fun d => by rw [hnow, hdur]; exact hok.coh.len d, fun d b hb => ?_, fun r hr => ?_⟩, by rw [hM.bad]; exact hok.bad⟩, fun e he => hM.miss e (hok.disk he), fun e => funext fun b => by unfold now; rw [hnow], fun e b => ?_, hM.down, hM.fuse⟩
  · rw [hsize] at hb
    have := hok.coh.last d b hb
    show lastD (dur _ _ _) (pendR _ _ _) = now _ _ _
    unfold dur now; rw [hdur, hnow, hlog]; exact this
  · rw [hlog] at hr
    rw [hlen, hsize]; exact hok.coh.log r hr
  · show dur _ _ _ :: pendR _ _ _ = dur _ _ _ :: pendR _ _ _
    unfold dur; rw [hdur, hlog]
end
end Go.Proofs
set_option linter.unusedSimpArgs false
set_option linter.unusedVariables false
set_option maxRecDepth 20000
set_option maxHeartbeats 4000000
namespace Go.Proofs
open Go.VG
theorem P_max3 {P : Program} {n : Env} {s : Slots} {dst : Option Tmp} {ty : TypeId} {pos : String} {after : Array Edge} {g : Option (Nat × Bool)} {x y z : Operand} {ats : Array TypeId} {k : IntKind} {a b c : Int} (hx : ev s x = some (.int k a)) (hy : ev s y = some (.int k b)) (hz : ev s z = some (.int k c)) :
    PJ P n ⟨dst, .call { callee := .builtin .max, args := #[x, y, z], argTypes := ats }, ty, pos, after, g⟩ s (.int k (max (max a b) c)) :=
  (fun q w hf => by
    have e : ∀ u v : Int, (if u < v then v else u) = max u v := fun u v => by rw [Int.max_def]; split <;> split <;> omega
    simp [execOp, resolve, invoke, builtin, Builtin.max_, Builtin.max2, hf.eval hx, hf.eval hy, hf.eval hz, e])
end Go.Proofs
set_option linter.unusedSimpArgs false
set_option linter.unusedVariables false
set_option maxRecDepth 20000
set_option maxHeartbeats 4000000
namespace Go.Proofs
open Go.VG
theorem bld_117_0 (v0 : (Option Addr)) (v1 : Nat) (v2 : Nat) : ∀ w, (Instr.build 117 (#[(0, .slice v0 v1 v2)] : Array (Nat × Value))).run Try.prog w = .ok (.agg #[.slice v0 v1 v2, .int .i64 (0 : Int)]) w := fun w => by kernel_rfl
theorem bs_43_3_0_1_2 (v0 : ByteArray) (v1 : ByteArray) (v2 : ByteArray) : BuildsSlice Try.prog 43 3 [(0, .string v0), (1, .string v1), (2, .string v2)] 9 [.string v0, .string v1, .string v2] := fun w => by kernel_rfl
def volumegroupmake_New (l : List Int) : Option ((List Int) × Nat) :=
  if ((1000 : Int) < ((l.length : Nat) : Int)) then
    some ((((l.take 1000).drop 0), 0))
  else
    some (l, 0)
theorem L_volumegroupmake_New {W : World} {Al : HP} {vl : Value} {l : List Int} {r : (List Int) × Nat} (rl : Reads Al tyI vl l) (h : volumegroupmake_New l = some r) :
    CSpec Try.prog W 19 [vl] [Al] (fun x : Nat × Value => ptr x.1 0) (fun _ => True) (fun x F => Al :: blk x.1 117 [x.2, .int .i64 (((r.2 : Nat) : Int))] :: pur (Reads Al tyI x.2 r.1) :: F) := by
 refine CSpec.of_body Try.func19 rfl Try.ntmps19 rfl fun F => ?_
 show CJ _ _ _ _ _ _ (_ :: F)
 unfold volumegroupmake_New at h
 refine CJ_pure (len_of rl del0) fun hlen1 => sR <| oA rfl rfl <| nT <| CJ_seq <| sR <| oM rfl rfl <| oV (V_len rfl foc0 rl Try.runUnderlying38) rfl <| oP (P_gtr (a := ((l.length : Nat) : Int)) (b := (1000 : Int)) rfl rfl) rfl <| nT <| CJ_condP rfl bT_dec (fun hg1 => ?_) (fun hg1 => ?_)
 ·
  replace h := ite_t hg1 h
  refine CJ_region <| oM rfl rfl <| oV (V_slice (l := 0) (h := 1000) rfl foc0 rl rfl ⟨_, rfl⟩ (by omega) (by omega) Try.underlying38 Try.sizeOf3) rfl <| oA rfl rfl <| nT <| sR <| oM rfl rfl <| RJ_pure (reads_sl3 rl del0) fun hsv3 => ?_
  obtain ⟨sv2, hsv3⟩ := hsv3
  subst hsv3
  refine oP (P_build rfl (bld_117_0 _ _ _)) rfl <| oO <| O_box rfl rfl rfl fun b4 => oA rfl rfl <| nT <| CJ_ret ?_
  cases h
  exact fE (res1 Try.results19 rfl) ⟨b4, sliceV tyI.sz (Sl3.v sv2) 0 1000⟩ (t1_ (t0_ (Ent.trans (fun h hh => stars_pur.2 ⟨(Reads.sliceV (l := 0) (h := 1000) rl (by omega) (by omega)), hh⟩) <| t0_ eR)))
 ·
  replace h := ite_f hg1 h
  refine kT <| sR <| oM rfl rfl <| RJ_pure (reads_sl3 rl del0) fun hsv6 => ?_
  obtain ⟨sv5, hsv6⟩ := hsv6
  subst hsv6
  refine oP (P_build rfl (bld_117_0 _ _ _)) rfl <| oO <| O_box rfl rfl rfl fun b7 => oA rfl rfl <| nT <| CJ_ret ?_
  cases h
  exact fE (res1 Try.results19 rfl) ⟨b7, (Sl3.v sv5)⟩ (t1_ (t0_ (Ent.trans (fun h hh => stars_pur.2 ⟨rl, hh⟩) <| t0_ eR)))
def volumegroupmake_Src_Raw (s_0_L : List Int) (s_0_At : Int) : Option (Int × Int) :=
  if (((s_0_L.length : Nat) : Int) ≤ s_0_At) then
    some (((0 : Int), s_0_At))
  else
    grd (inI64 ((s_0_At + (1 : Int)))) <|
    grd (inI64 (((s_0_At + (1 : Int)) - (1 : Int)))) <|
    grd (decide (0 ≤ ((s_0_At + (1 : Int)) - (1 : Int)) ∧ ((s_0_At + (1 : Int)) - (1 : Int)) < (s_0_L.length : Int))) <|
    some (((s_0_L.getD ((((s_0_At + (1 : Int)) - (1 : Int))).toNat) 0), (s_0_At + (1 : Int))))
theorem L_volumegroupmake_Src_Raw {W : World} {bs_0 : Nat} {As_0_L : HP} {vs_0_L : Value} {s_0_L : List Int} {s_0_At : Int} {r : Int × Int} (rs_0_L : Reads As_0_L tyI vs_0_L s_0_L) (h : volumegroupmake_Src_Raw s_0_L s_0_At = some r) :
    CSpec Try.prog W 63 [ptr bs_0 0] [blk bs_0 117 [vs_0_L, .int .i64 s_0_At], As_0_L] (fun x : Unit => .int .i64 r.1) (fun _ => True) (fun x F => blk bs_0 117 [vs_0_L, .int .i64 r.2] :: As_0_L :: F) := by
 refine CSpec.of_body Try.func63 rfl Try.ntmps63 rfl fun F => ?_
 show CJ _ _ _ _ _ _ (_ :: _ :: F)
 unfold volumegroupmake_Src_Raw at h
 refine CJ_pure (len_of rs_0_L del1) fun hlen1 => sR <| oA rfl rfl <| nT <| CJ_seq <| CJ_seq <| AJ_startH 0 (by kernel_rfl) rfl <| aN 0 1 rfl rfl (P_move rfl) rfl <| aN 1 3 rfl rfl (P_nilCheck rfl) rfl <| aN 2 7 rfl rfl (P_fieldAddr rfl ⟨_, _, _, Try.runUnderlying117, rfl, rfl, Try.sizeOf3, rfl⟩) rfl <| aV 3 15 rfl rfl (GY_none rfl) eR (V_load rfl foc0 rfl Try.isAgg3) rfl <| aN 4 31 rfl rfl (P_move rfl) rfl <| aN 5 63 rfl rfl (P_nilCheck rfl) rfl <| aN 6 127 rfl rfl (P_fieldAddr rfl ⟨_, _, _, Try.runUnderlying117, rfl, rfl, Try.sizeOf38, rfl⟩) rfl <| aV 7 255 rfl rfl (GY_none rfl) eR (V_load rfl foc0 rfl Try.isAgg38) rfl <| aV 8 511 rfl rfl (GY_none rfl) eR (V_len rfl foc1 rs_0_L Try.runUnderlying38) rfl <| aN 9 1023 rfl rfl (P_geq (a := s_0_At) (b := ((s_0_L.length : Nat) : Int)) rfl rfl) rfl <| aD <| CJ_condP rfl bT_dec (fun hg1 => ?_) (fun hg1 => ?_)
 ·
  replace h := ite_t hg1 h
  refine sR <| oA rfl rfl <| nT <| CJ_ret <| QJ_then_ret ?_
  cases h
  exact fE (res1 Try.results63 rfl) () eR
 ·
  replace h := ite_f hg1 h
  refine kT <| sR <| oM rfl rfl <| oP (P_nilCheck rfl) rfl <| oP (P_fieldAddr rfl ⟨_, _, _, Try.runUnderlying117, rfl, rfl, Try.sizeOf3, rfl⟩) rfl <| oV (V_load rfl foc0 rfl Try.isAgg3) rfl ?_
  obtain ⟨hg2, h⟩ := grd_Ie h
  refine oP (P_add (a := s_0_At) (b := (1 : Int)) rfl rfl hg2) rfl <| oP (P_nilCheck rfl) rfl <| oP (P_fieldAddr rfl ⟨_, _, _, Try.runUnderlying117, rfl, rfl, Try.sizeOf3, rfl⟩) rfl <| oO <| O_store rfl rfl foc0 rfl rfl Try.sizeOf3 <| nT <| CJ_seq <| AJ_startH 0 (by kernel_rfl) rfl <| aN 0 1 rfl rfl (P_move rfl) rfl <| aN 1 3 rfl rfl (P_nilCheck rfl) rfl <| aN 2 7 rfl rfl (P_fieldAddr rfl ⟨_, _, _, Try.runUnderlying117, rfl, rfl, Try.sizeOf38, rfl⟩) rfl <| aV 3 15 rfl rfl (GY_none rfl) eR (V_load rfl foc0 rfl Try.isAgg38) rfl <| aN 4 31 rfl rfl (P_move rfl) rfl <| aN 5 63 rfl rfl (P_nilCheck rfl) rfl <| aN 6 127 rfl rfl (P_fieldAddr rfl ⟨_, _, _, Try.runUnderlying117, rfl, rfl, Try.sizeOf3, rfl⟩) rfl <| aV 7 255 rfl rfl (GY_none rfl) eR (V_load rfl foc0 rfl Try.isAgg3) rfl ?_
  obtain ⟨hg3, h⟩ := grd_Ie h
  refine aN 8 511 rfl rfl (P_sub (a := (s_0_At + (1 : Int))) (b := (1 : Int)) rfl rfl hg3) rfl ?_
  obtain ⟨hg4, h⟩ := grd_de h
  refine aV 9 1023 rfl rfl (GY_none rfl) eR (V_index (i := (((s_0_At + (1 : Int)) - (1 : Int))).toNat) rfl rfl (Int.toNat_of_nonneg (hg4.1)).symm (by omega) foc1 rs_0_L Try.runUnderlying38 Try.sizeOf3) rfl <| aV 10 2047 rfl rfl (GY_none rfl) eR (V_loadE rfl rfl (by omega) foc1 rs_0_L rfl rfl Try.isAgg3) rfl <| aN 11 4095 rfl rfl (P_assign rfl) rfl <| aD <| CJ_ret ?_
  cases h
  exact fE (res1 Try.results63 rfl) () eR
def volumegroupmake_Src_N (s_0_L : List Int) (s_0_At : Int) (n_1 : Int) : Option (Int × Int) :=
  if (n_1 < (1 : Int)) then
    some (((0 : Int), s_0_At))
  else
    Option.bind (volumegroupmake_Src_Raw s_0_L s_0_At) fun r2 =>
    if ((r2.1.tmod n_1) < (0 : Int)) then
      grd (inI64 (((r2.1.tmod n_1) + n_1))) <|
      some ((((r2.1.tmod n_1) + n_1), r2.2))
    else
      some (((r2.1.tmod n_1), r2.2))
theorem L_volumegroupmake_Src_N {W : World} {bs_0 : Nat} {As_0_L : HP} {vs_0_L : Value} {s_0_L : List Int} {s_0_At : Int} {n_1 : Int} {r : Int × Int} (rs_0_L : Reads As_0_L tyI vs_0_L s_0_L) (h : volumegroupmake_Src_N s_0_L s_0_At n_1 = some r) :
    CSpec Try.prog W 28 [ptr bs_0 0, .int .i64 n_1] [blk bs_0 117 [vs_0_L, .int .i64 s_0_At], As_0_L] (fun x : Unit => .int .i64 r.1) (fun _ => True) (fun x F => blk bs_0 117 [vs_0_L, .int .i64 r.2] :: As_0_L :: F) := by
 refine CSpec.of_body Try.func28 rfl Try.ntmps28 rfl fun F => ?_
 show CJ _ _ _ _ _ _ (_ :: _ :: F)
 unfold volumegroupmake_Src_N at h
 refine CJ_pure (len_of rs_0_L del1) fun hlen1 => sR <| oA rfl rfl <| nT <| CJ_seq <| sR <| oM rfl rfl <| oP (P_lss (a := n_1) (b := (1 : Int)) rfl rfl) rfl <| nT <| CJ_condP rfl bT_dec (fun hg1 => ?_) (fun hg1 => ?_)
 ·
  replace h := ite_t hg1 h
  refine sR <| oA rfl rfl <| nT <| CJ_ret <| QJ_then_ret ?_
  cases h
  exact fE (res1 Try.results28 rfl) () eR
 ·
  replace h := ite_f hg1 h
  refine kT <| sR <| oM rfl rfl ?_
  obtain ⟨r2, hr3, h⟩ := bind_e h
  refine oO <| O_call (L_volumegroupmake_Src_Raw rs_0_L hr3) rfl Try.call63 (Dels.cons del0 (Dels.cons del0 Dels.nil)) rfl fun _ _ => oM rfl rfl <| oP (P_remT (a := r2.1) (b := n_1) rfl rfl (by omega)) rfl <| oA rfl rfl <| nT <| CJ_seq <| sR <| oM rfl rfl <| oP (P_lss (a := (r2.1.tmod n_1)) (b := (0 : Int)) rfl rfl) rfl <| nT <| CJ_condP rfl bT_dec (fun hg2 => ?_) (fun hg2 => ?_)
  ·
   replace h := ite_t hg2 h
   refine CJ_region <| oM rfl rfl <| oM rfl rfl ?_
   obtain ⟨hg3, h⟩ := grd_Ie h
   refine oP (P_add (a := (r2.1.tmod n_1)) (b := n_1) rfl rfl hg3) rfl <| oA rfl rfl <| nT <| sR <| oM rfl rfl <| oA rfl rfl <| nT <| CJ_ret ?_
   cases h
   exact fE (res1 Try.results28 rfl) () eR
  ·
   replace h := ite_f hg2 h
   refine kT <| sR <| oM rfl rfl <| oA rfl rfl <| nT <| CJ_ret ?_
   cases h
   exact fE (res1 Try.results28 rfl) () eR
def volumegroupmake_Src_Range (s_0_L : List Int) (s_0_At : Int) (low : Int) (high : Int) : Option (Int × Int) :=
  grd (inI64 (high - low)) <|
  grd (inI64 (((high - low) + (1 : Int)))) <|
  Option.bind (volumegroupmake_Src_N s_0_L s_0_At (((high - low) + (1 : Int)))) fun r2 =>
  grd (inI64 (low + r2.1)) <|
  some (((low + r2.1), r2.2))
theorem L_volumegroupmake_Src_Range {W : World} {bs_0 : Nat} {As_0_L : HP} {vs_0_L : Value} {s_0_L : List Int} {s_0_At : Int} {low : Int} {high : Int} {r : Int × Int} (rs_0_L : Reads As_0_L tyI vs_0_L s_0_L) (h : volumegroupmake_Src_Range s_0_L s_0_At low high = some r) :
    CSpec Try.prog W 20 [ptr bs_0 0, .int .i64 low, .int .i64 high] [blk bs_0 117 [vs_0_L, .int .i64 s_0_At], As_0_L] (fun x : Unit => .int .i64 r.1) (fun _ => True) (fun x F => blk bs_0 117 [vs_0_L, .int .i64 r.2] :: As_0_L :: F) := by
 refine CSpec.of_body Try.func20 rfl Try.ntmps20 rfl fun F => ?_
 show CJ _ _ _ _ _ _ (_ :: _ :: F)
 unfold volumegroupmake_Src_Range at h
 refine CJ_pure (len_of rs_0_L del1) fun hlen1 => sR <| oA rfl rfl <| nT <| sR <| oM rfl rfl <| oM rfl rfl <| oM rfl rfl <| oM rfl rfl ?_
 obtain ⟨hg1, h⟩ := grd_Ie h
 refine oP (P_sub (a := high) (b := low) rfl rfl hg1) rfl ?_
 obtain ⟨hg2, h⟩ := grd_Ie h
 refine oP (P_add (a := (high - low)) (b := (1 : Int)) rfl rfl hg2) rfl ?_
 obtain ⟨r2, hr3, h⟩ := bind_e h
 refine oO <| O_call (L_volumegroupmake_Src_N rs_0_L hr3) rfl Try.call28 (Dels.cons del0 (Dels.cons del0 Dels.nil)) rfl fun _ _ => ?_
 obtain ⟨hg3, h⟩ := grd_Ie h
 refine oP (P_add (a := low) (b := r2.1) rfl rfl hg3) rfl <| oA rfl rfl <| nT <| CJ_ret ?_
 cases h
 exact fE (res1 Try.results20 rfl) () eR
def volumegroupmake_Src_Pick (s_0_L : List Int) (s_0_At : Int) (l : List Int) : Option (Int × Int) :=
  Option.bind (volumegroupmake_Src_N s_0_L s_0_At (((l.length : Nat) : Int))) fun r3 =>
  grd (decide (0 ≤ r3.1 ∧ r3.1 < (l.length : Int))) <|
  some (((l.getD ((r3.1).toNat) 0), r3.2))
theorem L_volumegroupmake_Src_Pick {W : World} {bs_0 : Nat} {As_0_L : HP} {vs_0_L : Value} {Al : HP} {vl : Value} {s_0_L : List Int} {s_0_At : Int} {l : List Int} {r : Int × Int} (rs_0_L : Reads As_0_L tyI vs_0_L s_0_L) (rl : Reads Al tyI vl l) (h : volumegroupmake_Src_Pick s_0_L s_0_At l = some r) :
    CSpec Try.prog W 34 [ptr bs_0 0, vl] [blk bs_0 117 [vs_0_L, .int .i64 s_0_At], As_0_L, Al] (fun x : Unit => .int .i64 r.1) (fun _ => True) (fun x F => blk bs_0 117 [vs_0_L, .int .i64 r.2] :: As_0_L :: Al :: F) := by
 refine CSpec.of_body Try.func34 rfl Try.ntmps34 rfl fun F => ?_
 show CJ _ _ _ _ _ _ (_ :: _ :: _ :: F)
 unfold volumegroupmake_Src_Pick at h
 refine CJ_pure (len_of rs_0_L del1) fun hlen1 => CJ_pure (len_of rl del2) fun hlen2 => sR <| oA rfl rfl <| nT <| sR <| oM rfl rfl <| oM rfl rfl <| oM rfl rfl <| oV (V_len rfl foc2 rl Try.runUnderlying38) rfl ?_
 obtain ⟨r3, hr4, h⟩ := bind_e h
 refine oO <| O_call (L_volumegroupmake_Src_N rs_0_L hr4) rfl Try.call28 (Dels.cons del0 (Dels.cons del0 Dels.nil)) rfl fun _ _ => ?_
 obtain ⟨hg1, h⟩ := grd_de h
 refine oV (V_index (i := (r3.1).toNat) rfl rfl (Int.toNat_of_nonneg (hg1.1)).symm (by omega) foc2 rl Try.runUnderlying38 Try.sizeOf3) rfl <| oV (V_loadE rfl rfl (by omega) foc2 rl rfl rfl Try.isAgg3) rfl <| oA rfl rfl <| nT <| CJ_ret ?_
 cases h
 exact fE (res1 Try.results34 rfl) () eR
def volumegroupmake_Src_Word (s_0_L : List Int) (s_0_At : Int) (l : List ByteArray) : Option (ByteArray × Int) :=
  Option.bind (volumegroupmake_Src_N s_0_L s_0_At (((l.length : Nat) : Int))) fun r3 =>
  grd (decide (0 ≤ r3.1 ∧ r3.1 < (l.length : Int))) <|
  some (((l.getD ((r3.1).toNat) ByteArray.empty), r3.2))
theorem L_volumegroupmake_Src_Word {W : World} {bs_0 : Nat} {As_0_L : HP} {vs_0_L : Value} {Al : HP} {vl : Value} {s_0_L : List Int} {s_0_At : Int} {l : List ByteArray} {r : ByteArray × Int} (rs_0_L : Reads As_0_L tyI vs_0_L s_0_L) (rl : Reads Al tyS vl l) (h : volumegroupmake_Src_Word s_0_L s_0_At l = some r) :
    CSpec Try.prog W 22 [ptr bs_0 0, vl] [blk bs_0 117 [vs_0_L, .int .i64 s_0_At], As_0_L, Al] (fun x : Unit => .string r.1) (fun _ => True) (fun x F => blk bs_0 117 [vs_0_L, .int .i64 r.2] :: As_0_L :: Al :: F) := by
 refine CSpec.of_body Try.func22 rfl Try.ntmps22 rfl fun F => ?_
 show CJ _ _ _ _ _ _ (_ :: _ :: _ :: F)
 unfold volumegroupmake_Src_Word at h
 refine CJ_pure (len_of rs_0_L del1) fun hlen1 => CJ_pure (len_of rl del2) fun hlen2 => sR <| oA rfl rfl <| nT <| sR <| oM rfl rfl <| oM rfl rfl <| oM rfl rfl <| oV (V_len rfl foc2 rl Try.runUnderlying43) rfl ?_
 obtain ⟨r3, hr4, h⟩ := bind_e h
 refine oO <| O_call (L_volumegroupmake_Src_N rs_0_L hr4) rfl Try.call28 (Dels.cons del0 (Dels.cons del0 Dels.nil)) rfl fun _ _ => ?_
 obtain ⟨hg1, h⟩ := grd_de h
 refine oV (V_index (i := (r3.1).toNat) rfl rfl (Int.toNat_of_nonneg (hg1.1)).symm (by omega) foc2 rl Try.runUnderlying43 Try.sizeOf9) rfl <| oV (V_loadE rfl rfl (by omega) foc2 rl rfl rfl Try.isAgg9) rfl <| oA rfl rfl <| nT <| CJ_ret ?_
 cases h
 exact fE (res1 Try.results22 rfl) () eR
def volumegrouplaw13_CopiesScan_l2_b (r2 : (List Int) × Nat) (rec : Int → (List UInt64) → Int → Option ((List UInt64) × Int)) (x39 : Int) (x40 : List UInt64) (x42 : Int) : Option ((List UInt64) × Int) :=
  if ((0 : Int) < x42) then
    Option.bind (volumegroupmake_Src_N r2.1 x39 (9 : Int)) fun r44 =>
    grd (inI64 (((1 : Int) + r44.1))) <|
    Option.bind (volumegroupmake_Src_Word r2.1 r44.2 ([(ByteArray.mk #[97]), (ByteArray.mk #[116, 101, 120, 116]), (ByteArray.mk #[109, 111, 114, 101, 32, 116, 101, 120, 116])])) fun r47 =>
    Option.bind (volumegroupref12_Prepared x40 (((1 : Int) + r44.1)) r47.1) fun r49 =>
    if (r49.2 = (0 : Int)) then
      Option.bind (volumegroupmake_Src_N r2.1 r47.2 (3 : Int)) fun r53 =>
      if ((0 : Int) < r53.1) then
        grd (decide (1 < r49.1.length)) <|
        grd (decide (0 < r49.1.length)) <|
        grd (inI64 ((x42 - (1 : Int)))) <|
        rec r53.2 ((r49.1.set 0 (r49.1.getD 1 0))) ((x42 - (1 : Int)))
      else
        grd (inI64 ((x42 - (1 : Int)))) <|
        rec r53.2 r49.1 ((x42 - (1 : Int)))
    else
      grd (inI64 ((x42 - (1 : Int)))) <|
      rec r47.2 x40 ((x42 - (1 : Int)))
  else
    some (x40, x39)
def volumegrouplaw13_CopiesScan_l2 (r2 : (List Int) × Nat) : Nat → Int → (List UInt64) → Int → Option ((List UInt64) × Int)
  | 0, _, _, _ => none
  | n + 1, x39, x40, x42 => volumegrouplaw13_CopiesScan_l2_b r2 (volumegrouplaw13_CopiesScan_l2 r2 n) x39 x40 x42
def volumegrouplaw13_CopiesScan_l1_b (r2 : (List Int) × Nat) (rec : Int → (List (List UInt64)) → Int → Option ((List (List UInt64)) × Int)) (x19 : Int) (x20 : List (List UInt64)) (x23 : Int) : Option ((List (List UInt64)) × Int) :=
  if ((0 : Int) < x23) then
    Option.bind (volumegroupmake_Src_Pick r2.1 x19 ([(12 : Int), (12 : Int), (9 : Int), (3 : Int)])) fun r27 =>
    grd (decide (0 ≤ r27.1 ∧ r27.1 ≤ 1000000000)) <|
    Option.bind (volumegroupmake_Src_N r2.1 r27.2 (3 : Int)) fun r30 =>
    Option.bind (volumegrouplaw13_CopiesScan_l2 r2 FUEL r30.2 ((List.replicate ((r27.1).toNat) (0 : UInt64))) r30.1) fun a38 =>
    Option.bind (volumegroupmake_Src_N r2.1 a38.2 (4 : Int)) fun r57 =>
    if (r57.1 = (0 : Int)) then
      Option.bind (volumegroupmake_Src_N r2.1 r57.2 (((a38.1.length : Nat) : Int))) fun r59 =>
      grd (decide (0 ≤ r59.1 ∧ r59.1 < (a38.1.length : Int))) <|
      Option.bind (volumegroupmake_Src_N r2.1 r59.2 (64 : Int)) fun r61 =>
      grd (decide (0 ≤ r61.1)) <|
      grd (decide (0 ≤ r59.1 ∧ r59.1 < (a38.1.length : Int))) <|
      grd (inLen (x20.length + 1)) <|
      grd (inI64 ((x23 - (1 : Int)))) <|
      rec r61.2 ((x20 ++ [(a38.1.set ((r59.1).toNat) (((a38.1.getD ((r59.1).toNat) 0) ^^^ (shl_u64 (1 : UInt64) ((r61.1).toNat)))))])) ((x23 - (1 : Int)))
    else
      grd (inLen (x20.length + 1)) <|
      grd (inI64 ((x23 - (1 : Int)))) <|
      rec r57.2 (x20 ++ [a38.1]) ((x23 - (1 : Int)))
  else
    some (x20, x19)
def volumegrouplaw13_CopiesScan_l1 (r2 : (List Int) × Nat) : Nat → Int → (List (List UInt64)) → Int → Option ((List (List UInt64)) × Int)
  | 0, _, _, _ => none
  | n + 1, x19, x20, x23 => volumegrouplaw13_CopiesScan_l1_b r2 (volumegrouplaw13_CopiesScan_l1 r2 n) x19 x20 x23
def volumegrouplaw13_CopiesScan_l3_b (r2 : (List Int) × Nat) (a18 : (List (List UInt64)) × Int) (rec : Int → ArrS → (List api_Copy) → (List Int) → Int → Nat → Option ((List api_Copy) × (List Int) × Int × Int × ArrS)) (x103 : Int) (x104 : ArrS) (x105 : List api_Copy) (x107 : List Int) (x109 : Int) (x110 : Nat) : Option ((List api_Copy) × (List Int) × Int × Int × ArrS) :=
  if (((x110 : Nat) : Int) < ((a18.1.length : Nat) : Int)) then
    Option.bind (volumegroupref12_Read (a18.1.getD x110 [])) fun r113 =>
    Option.bind (volumegroupmake_Src_N r2.1 x103 (6 : Int)) fun r116 =>
    Option.bind ((
      if (r116.1 = (0 : Int)) then
        some (((6 : Int), false, (0 : Int), ByteArray.empty, (smS x104 (((x110 : Nat) : Int)) true)))
      else
        some (r113.2, r113.1.Valid, r113.1.Seq, r113.1.Text, x104) : Option (Int × Bool × Int × ByteArray × ArrS))) fun a126 =>
    if (((a126.1 ≠ (0 : Int)) ∧ (a126.1 ≠ (11 : Int))) ∧ (a126.1 ≠ (12 : Int))) then
      grd (inLen (x107.length + 1)) <|
      grd (inLen (x105.length + 1)) <|
      rec r116.2 a126.2.2.2.2 ((x105 ++ [(⟨a126.2.1, a126.2.2.1, a126.2.2.2.1⟩ : api_Copy)])) ((x107 ++ [((x110 : Nat) : Int)])) x109 (x110 + 1)
    else
      grd (decide (0 < (a18.1.getD x110 []).length)) <|
      grd (decide (1 < (a18.1.getD x110 []).length)) <|
      Option.bind (volumegroupref12_Split (((a18.1.getD x110 []).getD 0 0))) fun r144 =>
      Option.bind (volumegroupref12_Split (((a18.1.getD x110 []).getD 1 0))) fun r146 =>
      grd (inLen (x105.length + 1)) <|
      rec r116.2 a126.2.2.2.2 ((x105 ++ [(⟨a126.2.1, a126.2.2.1, a126.2.2.2.1⟩ : api_Copy)])) x107 ((max (max x109 r144.Seq) r146.Seq)) (x110 + 1)
  else
    some (x105, x107, x109, x103, x104)
def volumegrouplaw13_CopiesScan_l3 (r2 : (List Int) × Nat) (a18 : (List (List UInt64)) × Int) : Nat → Int → ArrS → (List api_Copy) → (List Int) → Int → Nat → Option ((List api_Copy) × (List Int) × Int × Int × ArrS)
  | 0, _, _, _, _, _, _ => none
  | n + 1, x103, x104, x105, x107, x109, x110 => volumegrouplaw13_CopiesScan_l3_b r2 a18 (volumegrouplaw13_CopiesScan_l3 r2 a18 n) x103 x104 x105 x107 x109 x110
def volumegrouplaw13_CopiesScan_l5_b (a102 : (List api_Copy) × (List Int) × Int × Int × ArrS) (r155 : (List api_Copy) × (List Int) × Int) (rec : Nat → Option ((Unit) ⊕ Bool)) (x172 : Nat) : Option ((Unit) ⊕ Bool) :=
  if (((x172 : Nat) : Int) < ((r155.2.1.length : Nat) : Int)) then
    if ((r155.2.1.getD x172 0) ≠ (a102.2.1.getD x172 0)) then
      some (.inr false)
    else
      rec (x172 + 1)
  else
    some (.inl ())
def volumegrouplaw13_CopiesScan_l5 (a102 : (List api_Copy) × (List Int) × Int × Int × ArrS) (r155 : (List api_Copy) × (List Int) × Int) : Nat → Nat → Option ((Unit) ⊕ Bool)
  | 0, _ => none
  | n + 1, x172 => volumegrouplaw13_CopiesScan_l5_b a102 r155 (volumegrouplaw13_CopiesScan_l5 a102 r155 n) x172
def volumegrouplaw13_CopiesScan (l : List Int) : Option (Bool) :=
  Option.bind (volumegroupmake_New l) fun r2 =>
  Option.bind (volumegroupmake_Src_Range r2.1 (((r2.2 : Nat) : Int)) (1 : Int) (4 : Int)) fun r7 =>
  Option.bind (volumegrouplaw13_CopiesScan_l1 r2 FUEL r7.2 (([] : List (List UInt64))) r7.1) fun a18 =>
  Option.bind (volumegroupmake_Loaded a18.1) fun r78 =>
  Option.elim r78 (
    some false) fun o83 =>
  Option.bind (volumegroupmake_Spans o83) fun r84 =>
  Option.bind (volumegrouplaw13_CopiesScan_l3 r2 a18 FUEL a18.2 o83 ([]) ([]) (0 : Int) 0) fun a102 =>
  Option.bind (copies_Scan r84 a102.2.2.2.2) fun r155 =>
  if ((((r155.2.1.length : Nat) : Int) ≠ ((a102.2.1.length : Nat) : Int)) ∨ (r155.2.2 ≠ a102.2.2.1)) then
    some false
  else
    Option.bind (volumegroupref13_Same r155.1 a102.1) fun r166 =>
    if (¬ r166 = true) then
      some false
    else
      seqO (volumegrouplaw13_CopiesScan_l5 a102 r155 FUEL 0) fun a171 =>
      Option.bind (volumegrouplaw13_awake) fun r174 =>
      some r174
theorem L_volumegrouplaw13_CopiesScan {W : World} {Al : HP} {vl : Value} {l : List Int} {r : Bool} (rl : Reads Al tyI vl l) (h : volumegrouplaw13_CopiesScan l = some r) :
    CSpec Try.prog W 8 [vl] [Al] (fun x : Unit => .bool r) (fun _ => True) (fun x F => Al :: F) := by
 refine CSpec.of_body Try.func8 rfl Try.ntmps8 rfl fun F => ?_
 show CJ _ _ _ _ _ _ (_ :: F)
 unfold volumegrouplaw13_CopiesScan at h
 refine CJ_pure (len_of rl del0) fun hlen1 => sR <| oA rfl rfl <| nT <| sR <| oM rfl rfl ?_
 obtain ⟨r2, hr3, h⟩ := bind_e h
 refine oO <| O_call (L_volumegroupmake_New rl hr3) rfl Try.call19 (Dels.cons del0 Dels.nil) rfl fun X4 _ => RJ_ent (t2_ eR) <| RJ_pur fun hpur_q6 => oA rfl rfl <| nT <| sR <| oA rfl rfl <| nT <| CJ_seq <| sR <| oM rfl rfl ?_
 obtain ⟨r7, hr8, h⟩ := bind_e h
 refine oO <| O_call (L_volumegroupmake_Src_Range hpur_q6 hr8) rfl Try.call20 (Dels.cons del1 (Dels.cons del0 Dels.nil)) rfl fun _ _ => oA rfl rfl <| nT <| CJ_ent (fun h hh => sl_nil (t := tyRow) h (rs_nil (RP := RowP) h hh)) ?_
 obtain ⟨y13, hl11, hK12⟩ := bind_c h
 refine CJ_cutT (X := ((List (List UInt64)) × Int) × Sl3 × (List Sl3)) [4, 5, 6, 7, 8, 9, 26, 27, 28, 29, 30, 31, 32, 33, 34, 35, 36, 37, 38, 39, 40, 41, 42, 43, 44, 45, 46, 47, 48, 49, 50, 51, 52, 53, 54, 55, 56, 57, 58, 59, 60, 61, 62, 63, 64, 65, 66, 67, 68, 69, 70, 71, 72, 73, 74, 75, 76, 77, 78, 79, 80] (fun ⟨a18, hd15, hs16⟩ => ([(4, hd15.v)] : Slots)) (fun ⟨a18, hd15, hs16⟩ R => sl tyRow hd15.v hs16 :: Rs RowP a18.1 hs16 :: blk X4.1 117 [X4.2, .int .i64 a18.2] :: R) (fun ⟨a18, hd15, hs16⟩ => y13 = a18) (Dels.cons del0 (Dels.cons del0 (Dels.cons del0 Dels.nil))) ?_ ?_
 ·
  refine CJ_block <| CJ_loopR (X := Nat × Int × (List (List UInt64)) × Int × Sl3 × (List Sl3)) [4, 5, 6, 7, 8, 9, 26, 27, 28, 29, 30, 31, 32, 33, 34, 35, 36, 37, 38, 39, 40, 41, 42, 43, 44, 45, 46, 47, 48, 49, 50, 51, 52, 53, 54, 55, 56, 57, 58, 59, 60, 61, 62, 63, 64, 65, 66, 67, 68, 69, 70, 71, 72, 73, 74, 75, 76, 77, 78, 79, 80] (fun ⟨n, x19, x20, x23, hd21, hs22⟩ => ([(4, hd21.v), (5, .int .i64 x23)] : Slots)) (fun ⟨n, x19, x20, x23, hd21, hs22⟩ R => blk X4.1 117 [X4.2, .int .i64 x19] :: sl tyRow hd21.v hs22 :: Rs RowP x20 hs22 :: R) (fun ⟨n, x19, x20, x23, hd21, hs22⟩ => volumegrouplaw13_CopiesScan_l1 r2 n x19 x20 x23 = some y13) (fun ⟨n, x19, x20, x23, hd21, hs22⟩ => n) ⟨FUEL, r7.2, ([] : List (List UInt64)), r7.1, ⟨none, 0, 0⟩, ([] : List Sl3)⟩ ?_ ?_ (t2_ eR) ?_
  · exact hl11
  · exact ⟨rfl, rfl, True.intro⟩
  ·
   rintro ⟨n, x19, x20, x23, hd21, hs22⟩ h
   cases n with
   | zero => exact none_e h
   | succ n => ?_
   replace h : volumegrouplaw13_CopiesScan_l1_b r2 (volumegrouplaw13_CopiesScan_l1 r2 n) x19 x20 x23 = some y13 := h
   unfold volumegrouplaw13_CopiesScan_l1_b at h
   show CJ _ _ _ _ _ (([(4, hd21.v), (5, .int .i64 x23)] : Slots) ++ forget _ _) (blk X4.1 117 [X4.2, .int .i64 x19] :: sl tyRow hd21.v hs22 :: Rs RowP x20 hs22 :: _)
   refine lC del1 fun hlen24 => CJ_pure (fun h hh => Rs_len (stars_perm (del2 (A := Rs RowP x20 hs22)).out h hh)) fun hdl25 => CJ_seq <| sR <| oM rfl rfl <| oP (P_gtr (a := x23) (b := (0 : Int)) rfl rfl) rfl <| nT <| CJ_condP rfl bT_dec (fun hg1 => ?_) (fun hg1 => ?_)
   ·
    replace h := ite_t hg1 h
    refine kT <| CJ_seq <| CJ_block <| sR <| oM rfl rfl <| oO <| O_buildSlice rfl (bs_38_4_0_1_2_3 _ _ _ _) rfl fun b26 => RJ_ent (Ent.trans (t0_ eR) (sl_of_lit (t := tyI) (m := 4) [(12 : Int), (12 : Int), (9 : Int), (3 : Int)] rfl rfl rfl (by decide))) ?_
    obtain ⟨r27, hr28, h⟩ := bind_e h
    refine oO <| O_call (L_volumegroupmake_Src_Pick hpur_q6 (Reads.sl _ _ _) hr28) rfl Try.call34 (Dels.cons del1 (Dels.cons del3 (Dels.cons del0 Dels.nil))) rfl fun _ _ => ?_
    obtain ⟨hg2, h⟩ := grd_de h
    refine oO <| O_make (t := tyU) (m := (r27.1).toNat) (x0 := 0) (z := _) (bytes := _) rfl rfl (Int.toNat_of_nonneg (hg2.1)).symm (Int.toNat_of_nonneg (hg2.1)).symm Try.underlying29 ⟨Try.t39, by kernel_rfl, rfl, rfl, rfl⟩ rfl (by omega) (by decide) rfl fun b29 => oA rfl rfl <| nT <| CJ_seq <| sR <| oM rfl rfl ?_
    obtain ⟨r30, hr31, h⟩ := bind_e h
    refine oO <| O_call (L_volumegroupmake_Src_N hpur_q6 hr31) rfl Try.call28 (Dels.cons del1 (Dels.cons del1 Dels.nil)) rfl fun _ _ => oA rfl rfl <| nT ?_
    obtain ⟨y34, hl32, hK33⟩ := bind_c h
    refine CJ_cutT (X := ((List UInt64) × Int) × Sl3) [6, 7, 8, 9, 36, 37, 38, 39, 40, 41, 42, 43, 44, 45, 46, 47, 48, 49, 50, 51, 52, 53, 54, 55, 56, 57, 58, 59, 60, 61] (fun ⟨a38, hd36⟩ => ([(6, hd36.v)] : Slots)) (fun ⟨a38, hd36⟩ R => sl tyU hd36.v a38.1 :: blk X4.1 117 [X4.2, .int .i64 a38.2] :: R) (fun ⟨a38, hd36⟩ => y34 = a38) (Dels.cons del2 (Dels.cons del0 (Dels.cons del1 Dels.nil))) ?_ ?_
    ·
     refine CJ_block <| CJ_loopR (X := Nat × Int × (List UInt64) × Int × Sl3) [6, 7, 8, 9, 36, 37, 38, 39, 40, 41, 42, 43, 44, 45, 46, 47, 48, 49, 50, 51, 52, 53, 54, 55, 56, 57, 58, 59, 60, 61] (fun ⟨n, x39, x40, x42, hd41⟩ => ([(6, hd41.v), (7, .int .i64 x42)] : Slots)) (fun ⟨n, x39, x40, x42, hd41⟩ R => blk X4.1 117 [X4.2, .int .i64 x39] :: sl tyU hd41.v x40 :: R) (fun ⟨n, x39, x40, x42, hd41⟩ => volumegrouplaw13_CopiesScan_l2 r2 n x39 x40 x42 = some y34) (fun ⟨n, x39, x40, x42, hd41⟩ => n) ⟨FUEL, r30.2, (List.replicate ((r27.1).toNat) (0 : UInt64)), r30.1, ⟨some ⟨b29, 0, none⟩, (r27.1).toNat, (r27.1).toNat⟩⟩ ?_ ?_ (t0_ (t1_ (t0_ (t1_ (t1_ (eD eR)))))) ?_
     · exact hl32
     · exact ⟨rfl, rfl, True.intro⟩
     ·
      rintro ⟨n, x39, x40, x42, hd41⟩ h
      cases n with
      | zero => exact none_e h
      | succ n => ?_
      replace h : volumegrouplaw13_CopiesScan_l2_b r2 (volumegrouplaw13_CopiesScan_l2 r2 n) x39 x40 x42 = some y34 := h
      unfold volumegrouplaw13_CopiesScan_l2_b at h
      show CJ _ _ _ _ _ (([(6, hd41.v), (7, .int .i64 x42)] : Slots) ++ forget _ _) (blk X4.1 117 [X4.2, .int .i64 x39] :: sl tyU hd41.v x40 :: _)
      refine lC del1 fun hlen43 => CJ_seq <| sR <| oM rfl rfl <| oP (P_gtr (a := x42) (b := (0 : Int)) rfl rfl) rfl <| nT <| CJ_condP rfl bT_dec (fun hg3 => ?_) (fun hg3 => ?_)
      ·
       replace h := ite_t hg3 h
       refine kT <| CJ_seq <| CJ_block <| sR <| oM rfl rfl <| oM rfl rfl ?_
       obtain ⟨r44, hr45, h⟩ := bind_e h
       refine oO <| O_call (L_volumegroupmake_Src_N hpur_q6 hr45) rfl Try.call28 (Dels.cons del0 (Dels.cons del1 Dels.nil)) rfl fun _ _ => ?_
       obtain ⟨hg4, h⟩ := grd_Ie h
       refine oP (P_add (a := (1 : Int)) (b := r44.1) rfl rfl hg4) rfl <| oM rfl rfl <| oO <| O_buildSlice rfl (bs_43_3_0_1_2 _ _ _) rfl fun b46 => RJ_ent (Ent.trans (t0_ eR) (sl_of_lit (t := tyS) (m := 3) [(ByteArray.mk #[97]), (ByteArray.mk #[116, 101, 120, 116]), (ByteArray.mk #[109, 111, 114, 101, 32, 116, 101, 120, 116])] rfl rfl rfl (by decide))) ?_
       obtain ⟨r47, hr48, h⟩ := bind_e h
       refine oO <| O_call (L_volumegroupmake_Src_Word hpur_q6 (Reads.sl _ _ _) hr48) rfl Try.call22 (Dels.cons del1 (Dels.cons del1 (Dels.cons del0 Dels.nil))) rfl fun _ _ => ?_
       obtain ⟨r49, hr50, h⟩ := bind_e h
       refine oO <| O_call (L_volumegroupref12_Prepared (Reads.sl _ _ _) hr50) rfl Try.call35 (Dels.cons del3 Dels.nil) rfl fun X51 _ => oM rfl rfl <| oP (P_extract (v := X51.v) rfl rfl) rfl <| oP (P_extract rfl rfl) rfl <| oA rfl rfl <| oA rfl rfl <| RJ_nil <| QJ_ent (t0_ (t0_ (t0_ (t0_ (t1_ (t1_ (eD eR))))))) <| QJ_then <| sR <| oM rfl rfl <| oP (P_eql (a := r49.2) (b := (0 : Int)) rfl rfl) rfl <| nT <| CJ_condP rfl bT_dec (fun hg5 => ?_) (fun hg5 => ?_)
       ·
        replace h := ite_t hg5 h
        refine sR <| oM rfl rfl <| oA rfl rfl <| nT <| sR <| oM rfl rfl ?_
        obtain ⟨r53, hr54, h⟩ := bind_e h
        refine oO <| O_call (L_volumegroupmake_Src_N hpur_q6 hr54) rfl Try.call28 (Dels.cons del2 (Dels.cons del2 Dels.nil)) rfl fun _ _ => oP (P_gtr (a := r53.1) (b := (0 : Int)) rfl rfl) rfl <| nT <| CJ_condP rfl bT_dec (fun hg6 => ?_) (fun hg6 => ?_)
        ·
         replace h := ite_t hg6 h
         refine CJ_region <| oM rfl rfl <| oM rfl rfl ?_
         obtain ⟨hg7, h⟩ := grd_de h
         refine oV (V_index (i := 1) rfl rfl rfl hg7 foc3 (Reads.sl _ _ _) Try.runUnderlying29 Try.sizeOf39) rfl <| oV (V_loadE rfl rfl hg7 foc3 (Reads.sl _ _ _) rfl rfl Try.isAgg39) rfl ?_
         obtain ⟨hg8, h⟩ := grd_de h
         refine oV (V_index (i := 0) rfl rfl rfl hg8 foc3 (Reads.sl _ _ _) Try.runUnderlying29 Try.sizeOf39) rfl <| oO <| O_storeE (x' := (r49.1.getD 1 0)) rfl rfl rfl hg8 foc3 rfl rfl rfl Try.sizeOf39 <| RJ_nil <| QJ_block_normal <| QJ_then <| CJ_region <| oM rfl rfl ?_
         obtain ⟨hg9, h⟩ := grd_Ie h
         exact oP (P_sub (a := x42) (b := (1 : Int)) rfl rfl hg9) rfl <| oA rfl rfl <| RJ_nil <| nR ⟨n, r53.2, (r49.1.set 0 (r49.1.getD 1 0)), (x42 - (1 : Int)), X51⟩ h ⟨rfl, rfl, True.intro⟩ (t0_ (t2_ (t0_ (t1_ (t1_ (eD eR))))))
        ·
         replace h := ite_f hg6 h
         refine CJ_skip <| QJ_block_normal <| QJ_then <| CJ_region <| oM rfl rfl ?_
         obtain ⟨hg10, h⟩ := grd_Ie h
         exact oP (P_sub (a := x42) (b := (1 : Int)) rfl rfl hg10) rfl <| oA rfl rfl <| RJ_nil <| nR ⟨n, r53.2, r49.1, (x42 - (1 : Int)), X51⟩ h ⟨rfl, rfl, True.intro⟩ (t0_ (t2_ (t0_ (t1_ (t1_ (eD eR))))))
       ·
        replace h := ite_f hg5 h
        refine CJ_skip <| QJ_block_normal <| QJ_then <| CJ_region <| oM rfl rfl ?_
        obtain ⟨hg11, h⟩ := grd_Ie h
        exact oP (P_sub (a := x42) (b := (1 : Int)) rfl rfl hg11) rfl <| oA rfl rfl <| RJ_nil <| nR ⟨n, r47.2, x40, (x42 - (1 : Int)), hd41⟩ h ⟨rfl, rfl, True.intro⟩ (t2_ (t0_ (t1_ (t1_ (t1_ (eD eR))))))
      ·
       replace h := ite_f hg3 h
       exact CJ_exit <| QJ_then_exit <| QJ_round_exit <| QJ_block_here <| cR ⟨(x40, x39), hd41⟩ (Option.some.inj h).symm ⟨rfl, True.intro⟩ (t1_ eR)
    ·
     rintro ⟨a38, hd36⟩ hy55
     replace h := bindK_at hK33 hy55
     show CJ _ _ _ _ _ (([(6, hd36.v)] : Slots) ++ forget _ _) (sl tyU hd36.v a38.1 :: blk X4.1 117 [X4.2, .int .i64 a38.2] :: _)
     refine lC del0 fun hlen56 => CJ_seq <| sR <| oM rfl rfl ?_
     obtain ⟨r57, hr58, h⟩ := bind_e h
     refine oO <| O_call (L_volumegroupmake_Src_N hpur_q6 hr58) rfl Try.call28 (Dels.cons del1 (Dels.cons del1 Dels.nil)) rfl fun _ _ => oP (P_eql (a := r57.1) (b := (0 : Int)) rfl rfl) rfl <| nT <| CJ_condP rfl bT_dec (fun hg12 => ?_) (fun hg12 => ?_)
     ·
      replace h := ite_t hg12 h
      refine AJ_start [Al, sl tyU hd36.v a38.1, sl tyRow hd21.v hs22, Rs RowP x20 hs22] 4096 (by kernel_rfl) rfl <| aN 0 1 rfl rfl (P_move rfl) rfl <| aN 1 3 rfl rfl (P_move rfl) rfl <| aN 2 7 rfl rfl (P_move rfl) rfl <| aV 3 15 rfl rfl (GY_none rfl) (t1_ (t1_ (t1_ (t1_ Ent.done)))) (V_len rfl foc1 (Reads.sl _ _ _) Try.runUnderlying29) rfl <| aN 7 143 rfl rfl (P_move rfl) rfl ?_
      obtain ⟨r59, hr60, h⟩ := bind_e h
      refine AJ_op 4 159 rfl (by kernel_rfl) rfl (GY_none rfl) <| O_call (L_volumegroupmake_Src_N hpur_q6 hr60) rfl Try.call28 (Dels.cons del0 (Dels.cons del0 Dels.nil)) rfl fun _ _ => ⟨fun _ => (t1_ (t1_ (t1_ (t1_ Ent.done)))), ?_⟩
      obtain ⟨hg13, h⟩ := grd_de h
      refine aV 5 191 rfl rfl (GY_none rfl) (t1_ (t1_ (t1_ (t1_ Ent.done)))) (V_index (i := (r59.1).toNat) rfl rfl (Int.toNat_of_nonneg (hg13.1)).symm (by omega) foc1 (Reads.sl _ _ _) Try.runUnderlying29 Try.sizeOf39) rfl <| aV 6 255 rfl rfl (GY_none rfl) (t1_ (t1_ (t1_ (t1_ Ent.done)))) (V_loadE rfl rfl (by omega) foc1 (Reads.sl _ _ _) rfl rfl Try.isAgg39) rfl ?_
      obtain ⟨r61, hr62, h⟩ := bind_e h
      refine AJ_op 8 511 rfl (by kernel_rfl) rfl (GY_none rfl) <| O_call (L_volumegroupmake_Src_N hpur_q6 hr62) rfl Try.call28 (Dels.cons del0 (Dels.cons del0 Dels.nil)) rfl fun _ _ => ⟨fun _ => (t1_ (t1_ (t1_ (t1_ Ent.done)))), ?_⟩
      obtain ⟨hg14, h⟩ := grd_de h
      refine aN 9 1023 rfl rfl (P_shl_u64 (a := (1 : UInt64)) (m := (r61.1).toNat) rfl rfl (Int.toNat_of_nonneg hg14).symm) rfl <| aN 10 2047 rfl rfl (P_xor_u64 (a := (a38.1.getD ((r59.1).toNat) 0)) (b := (shl_u64 (1 : UInt64) ((r61.1).toNat))) rfl rfl) rfl ?_
      obtain ⟨hg15, h⟩ := grd_de h
      refine aV 11 4095 rfl rfl (GY_none rfl) (t1_ (t1_ (t1_ (t1_ Ent.done)))) (V_index (i := (r59.1).toNat) rfl rfl (Int.toNat_of_nonneg (hg15.1)).symm (by omega) foc1 (Reads.sl _ _ _) Try.runUnderlying29 Try.sizeOf39) rfl <| AJ_op 12 8191 rfl (by kernel_rfl) rfl (GY_none rfl) <| O_storeE (x' := ((a38.1.getD ((r59.1).toNat) 0) ^^^ (shl_u64 (1 : UInt64) ((r61.1).toNat)))) rfl rfl rfl (by omega) foc2 rfl rfl rfl Try.sizeOf39 <| ⟨fun h => absurd h (by decide), ?_⟩
      refine aD <| CJ_region <| oM rfl rfl <| oM rfl rfl <| oO <| O_buildSlice rfl (bs_62_1_0 _ _ _) rfl fun b63 => RJ_shareS del3 <| RJ_ent (Ent.trans (t0_ eR) (fun h hh => stars_dup Dup.slR hh)) <| RJ_ent (Ent.take1 del0 (RowP_of (h := (hd36 : Sl3)) Dup.slR (Reads.slR _ _ _)) eR) ?_
      obtain ⟨hg16, h⟩ := grd_Le h
      refine oO <| O_append (t := tyRow) (bytes := 24) rfl rfl del5 foc2 (Reads.lit (t := tyRow) (ys := [(hd36 : Sl3)]) rfl rfl (by decide) (by decide) rfl) Try.underlying62 ok_tyRow (apl (m := 1) (b := 24) (by have hz : _ ≤ 1000000000 := hg16; have := hdl25; omega) (by decide)).1 (apl (m := 1) (b := 24) (by have hz : _ ≤ 1000000000 := hg16; have := hdl25; omega) (by decide)).2 rfl fun p66 c67 => RJ_ent (Ent.trans (t6_ (t1_ eR)) (Rs_push (x := (a38.1.set ((r59.1).toNat) (((a38.1.getD ((r59.1).toNat) 0) ^^^ (shl_u64 (1 : UInt64) ((r61.1).toNat)))))) (g := (hd36 : Sl3)) Dup_RowP)) <| RJ_pure (fun h hh => Rs_len (stars_perm (del0 (A := Rs RowP ((x20 ++ [(a38.1.set ((r59.1).toNat) (((a38.1.getD ((r59.1).toNat) 0) ^^^ (shl_u64 (1 : UInt64) ((r61.1).toNat)))))])) ((hs22 ++ [(hd36 : Sl3)])))).out h hh)) fun hdl68 => oA rfl rfl <| RJ_nil <| QJ_block_normal <| QJ_ent (t0_ (t1_ (t3_ (t3_ (eD (eD (eD eR))))))) <| QJ_then <| CJ_region <| oM rfl rfl ?_
      obtain ⟨hg17, h⟩ := grd_Ie h
      exact oP (P_sub (a := x23) (b := (1 : Int)) rfl rfl hg17) rfl <| oA rfl rfl <| RJ_nil <| nR ⟨n, r61.2, (x20 ++ [(a38.1.set ((r59.1).toNat) (((a38.1.getD ((r59.1).toNat) 0) ^^^ (shl_u64 (1 : UInt64) ((r61.1).toNat)))))]), (x23 - (1 : Int)), ⟨p66, (hs22 ++ [(hd36 : Sl3)]).length, c67⟩, (hs22 ++ [(hd36 : Sl3)])⟩ h ⟨rfl, rfl, True.intro⟩ (t2_ (t1_ eR))
     ·
      replace h := ite_f hg12 h
      refine kT <| CJ_region <| oM rfl rfl <| oM rfl rfl <| oO <| O_buildSlice rfl (bs_62_1_0 _ _ _) rfl fun b69 => RJ_shareS del3 <| RJ_ent (Ent.trans (t0_ eR) (fun h hh => stars_dup Dup.slR hh)) <| RJ_ent (Ent.take1 del0 (RowP_of (h := (hd36 : Sl3)) Dup.slR (Reads.slR _ _ _)) eR) ?_
      obtain ⟨hg18, h⟩ := grd_Le h
      refine oO <| O_append (t := tyRow) (bytes := 24) rfl rfl del5 foc2 (Reads.lit (t := tyRow) (ys := [(hd36 : Sl3)]) rfl rfl (by decide) (by decide) rfl) Try.underlying62 ok_tyRow (apl (m := 1) (b := 24) (by have hz : _ ≤ 1000000000 := hg18; have := hdl25; omega) (by decide)).1 (apl (m := 1) (b := 24) (by have hz : _ ≤ 1000000000 := hg18; have := hdl25; omega) (by decide)).2 rfl fun p72 c73 => RJ_ent (Ent.trans (t6_ (t1_ eR)) (Rs_push (x := a38.1) (g := (hd36 : Sl3)) Dup_RowP)) <| RJ_pure (fun h hh => Rs_len (stars_perm (del0 (A := Rs RowP (x20 ++ [a38.1]) ((hs22 ++ [(hd36 : Sl3)])))).out h hh)) fun hdl74 => oA rfl rfl <| RJ_nil <| QJ_block_normal <| QJ_ent (t0_ (t1_ (t3_ (t3_ (eD (eD (eD eR))))))) <| QJ_then <| CJ_region <| oM rfl rfl ?_
      obtain ⟨hg19, h⟩ := grd_Ie h
      exact oP (P_sub (a := x23) (b := (1 : Int)) rfl rfl hg19) rfl <| oA rfl rfl <| RJ_nil <| nR ⟨n, r57.2, (x20 ++ [a38.1]), (x23 - (1 : Int)), ⟨p72, (hs22 ++ [(hd36 : Sl3)]).length, c73⟩, (hs22 ++ [(hd36 : Sl3)])⟩ h ⟨rfl, rfl, True.intro⟩ (t2_ (t1_ eR))
   ·
    replace h := ite_f hg1 h
    exact CJ_exit <| QJ_then_exit <| QJ_round_exit <| QJ_block_here <| cR ⟨(x20, x19), hd21, hs22⟩ (Option.some.inj h).symm ⟨rfl, True.intro⟩ (t1_ (t1_ eR))
 ·
  rintro ⟨a18, hd15, hs16⟩ hy75
  replace h := bindK_at hK12 hy75
  show CJ _ _ _ _ _ (([(4, hd15.v)] : Slots) ++ forget _ _) (sl tyRow hd15.v hs16 :: Rs RowP a18.1 hs16 :: blk X4.1 117 [X4.2, .int .i64 a18.2] :: _)
  refine lC del0 fun hlen76 => CJ_pure (fun h hh => Rs_len (stars_perm (del1 (A := Rs RowP a18.1 hs16)).out h hh)) fun hdl77 => sR <| oM rfl rfl ?_
  obtain ⟨r78, hr79, h⟩ := bind_e h
  refine oO <| O_call (L_volumegroupmake_Loaded (Reads.sl _ _ _) (RowsR.rs hdl77) hr79) rfl Try.call36 (Dels.cons del0 (Dels.cons del0 Dels.nil)) rfl fun X80 _ => oA rfl rfl <| nT <| CJ_seq <| sR <| oM rfl rfl ?_
  rcases opt_e h with ⟨ht82, h⟩ | ⟨o83, ht82, h⟩
  ·
   rw [ht82]
   refine RJ_ent (t0_ (t0_ (t1_ (t1_ (eD eR))))) <| oP (P_eqlNN rfl rfl Try.underlying24) rfl <| nT <| CJ_condT rfl rfl <| sR <| oA rfl rfl <| nT <| CJ_ret <| QJ_then_ret ?_
   cases h
   exact fE (res1 Try.results8 rfl) () (t3_ (eD (eD (eD eR))))
  ·
   rw [ht82]
   refine RJ_ent (Ent.takeC (A' := Arr X80 o83) del2 rfl eR) <| oP (P_eqlPN rfl rfl Try.underlying24) rfl <| nT <| CJ_condF rfl rfl <| kT <| sR <| oA rfl rfl <| nT <| sR <| oA rfl rfl <| nT <| sR <| oA rfl rfl <| nT <| sR <| oM rfl rfl ?_
   obtain ⟨r84, hr85, h⟩ := bind_e h
   refine oO <| O_call (L_volumegroupmake_Spans hr85) rfl Try.call37 (Dels.cons del0 Dels.nil) rfl fun X86 _ => RJ_pure (fun h hh => Rs_len (stars_perm (del2 (A := Rs (DevP X80) r84 X86.2)).out h hh)) fun hdl89 => oA rfl rfl <| nT <| CJ_seq <| sR <| oA rfl rfl <| nT <| CJ_ent (fun h hh => sl_nil (t := tyapi_Copy) h hh) <| CJ_ent (fun h hh => sl_nil (t := tyI) h hh) ?_
   obtain ⟨y94, hl92, hK93⟩ := bind_c h
   refine CJ_cutT (X := ((List api_Copy) × (List Int) × Int × Int × ArrS) × Sl3 × Sl3) [11, 12, 13, 15, 16, 17, 87, 88, 89, 90, 91, 92, 93, 94, 95, 96, 97, 98, 99, 100, 101, 102, 103, 104, 105, 106, 107, 108, 109, 110, 111, 112, 113, 114, 115, 116, 117, 118, 119, 120, 121, 122, 123, 124, 125, 126, 127, 128, 129, 130, 131, 132, 133, 134, 135, 136, 137, 138, 139, 140, 141, 142, 143] (fun ⟨a102, hd96, hd98⟩ => ([(11, hd96.v), (12, hd98.v), (13, .int .i64 a102.2.2.1)] : Slots)) (fun ⟨a102, hd96, hd98⟩ R => sl tyapi_Copy hd96.v a102.1 :: sl tyI hd98.v a102.2.1 :: blk X4.1 117 [X4.2, .int .i64 a102.2.2.2.1] :: Arr X80 a102.2.2.2.2 :: R) (fun ⟨a102, hd96, hd98⟩ => y94 = a102) (Dels.cons del1 (Dels.cons del0 (Dels.cons del5 (Dels.cons del0 Dels.nil)))) ?_ ?_
   ·
    refine CJ_block <| CJ_loopR (X := Nat × Int × ArrS × (List api_Copy) × (List Int) × Int × Nat × Sl3 × Sl3) [11, 12, 13, 15, 16, 17, 87, 88, 89, 90, 91, 92, 93, 94, 95, 96, 97, 98, 99, 100, 101, 102, 103, 104, 105, 106, 107, 108, 109, 110, 111, 112, 113, 114, 115, 116, 117, 118, 119, 120, 121, 122, 123, 124, 125, 126, 127, 128, 129, 130, 131, 132, 133, 134, 135, 136, 137, 138, 139, 140, 141, 142, 143] (fun ⟨n, x103, x104, x105, x107, x109, x110, hd106, hd108⟩ => ([(11, hd106.v), (12, hd108.v), (13, .int .i64 x109), (15, .int .i64 (((x110 : Nat) : Int)))] : Slots)) (fun ⟨n, x103, x104, x105, x107, x109, x110, hd106, hd108⟩ R => blk X4.1 117 [X4.2, .int .i64 x103] :: Arr X80 x104 :: sl tyapi_Copy hd106.v x105 :: sl tyI hd108.v x107 :: R) (fun ⟨n, x103, x104, x105, x107, x109, x110, hd106, hd108⟩ => volumegrouplaw13_CopiesScan_l3 r2 a18 n x103 x104 x105 x107 x109 x110 = some y94) (fun ⟨n, x103, x104, x105, x107, x109, x110, hd106, hd108⟩ => n) ⟨FUEL, a18.2, o83, [], [], (0 : Int), 0, ⟨none, 0, 0⟩, ⟨none, 0, 0⟩⟩ ?_ ?_ (t7_ (t2_ (t1_ eR))) ?_
    · exact hl92
    · exact ⟨rfl, rfl, rfl, rfl, True.intro⟩
    ·
     rintro ⟨n, x103, x104, x105, x107, x109, x110, hd106, hd108⟩ h
     cases n with
     | zero => exact none_e h
     | succ n => ?_
     replace h : volumegrouplaw13_CopiesScan_l3_b r2 a18 (volumegrouplaw13_CopiesScan_l3 r2 a18 n) x103 x104 x105 x107 x109 x110 = some y94 := h
     unfold volumegrouplaw13_CopiesScan_l3_b at h
     show CJ _ _ _ _ _ (([(11, hd106.v), (12, hd108.v), (13, .int .i64 x109), (15, .int .i64 (((x110 : Nat) : Int)))] : Slots) ++ forget _ _) (blk X4.1 117 [X4.2, .int .i64 x103] :: Arr X80 x104 :: sl tyapi_Copy hd106.v x105 :: sl tyI hd108.v x107 :: _)
     refine lC del2 fun hlen111 => lC del3 fun hlen112 => CJ_seq <| sR <| oM rfl rfl <| oM rfl rfl <| oV (VJ_eq (V_len rfl foc6 (Reads.sl _ _ _) Try.runUnderlying62) (congrArg (fun z : Nat => Value.int .i64 (z : Int)) (hdl77).symm)) rfl <| oP (P_lss (a := ((x110 : Nat) : Int)) (b := ((a18.1.length : Nat) : Int)) rfl rfl) rfl <| nT <| CJ_condP rfl bT_dec (fun hg20 => ?_) (fun hg20 => ?_)
     ·
      replace h := ite_t hg20 h
      refine kT <| CJ_seq <| CJ_block <| sR <| oM rfl rfl <| oM rfl rfl <| oV (V_index (i := x110) rfl rfl rfl (by have hz : x110 < a18.1.length := (by omega); have hy := hdl77; omega) foc6 (Reads.sl _ _ _) Try.runUnderlying62 Try.sizeOf29) rfl <| oV (V_loadE rfl rfl (by have hz : x110 < a18.1.length := (by omega); have hy := hdl77; omega) foc6 (Reads.sl _ _ _) rfl rfl Try.isAgg29) rfl ?_
      obtain ⟨r113, hr114, h⟩ := bind_e h
      refine oO <| O_call (L_volumegroupref12_Read ((RowsR.rs hdl77).2 _ (by omega)) hr114) rfl Try.call38 (Dels.cons del7 Dels.nil) rfl fun _ _ => oM rfl rfl <| oP (P_extract rfl rfl) rfl <| oP (P_extract rfl rfl) rfl <| oO <| O_alloc Try.zeroValue34 rfl rfl fun b115 => oO <| O_storeN rfl rfl foc0 Try.sizeOf34 rfl rfl rfl <| oA rfl rfl <| nT <| CJ_seq <| sR <| oM rfl rfl ?_
      obtain ⟨r116, hr117, h⟩ := bind_e h
      refine oO <| O_call (L_volumegroupmake_Src_N hpur_q6 hr117) rfl Try.call28 (Dels.cons del2 (Dels.cons del8 Dels.nil)) rfl fun _ _ => oP (P_eql (a := r116.1) (b := (0 : Int)) rfl rfl) rfl <| nT ?_
      obtain ⟨y120, hl118, hK119⟩ := bind_c h
      refine CJ_cutT (X := Int × Bool × Int × ByteArray × ArrS) [17, 104, 105, 106, 107] (fun a126 => ([(17, .int .i64 a126.1)] : Slots)) (fun a126 R => blk b115 34 [.bool a126.2.1, .int .i64 a126.2.2.1, .string a126.2.2.2.1] :: Arr X80 a126.2.2.2.2 :: R) (fun a126 => y120 = a126) (Dels.cons del2 (Dels.cons del3 Dels.nil)) ?_ ?_
      ·
       have h := hl118
       refine CJ_condP rfl bT_dec (fun hg21 => ?_) (fun hg21 => ?_)
       ·
        replace h := ite_t hg21 h
        exact sR <| oM rfl rfl <| oM rfl rfl <| oO <| O_call (c_SetMissing) rfl Try.call39 (Dels.cons del4 Dels.nil) rfl fun _ _ => nT <| CJ_region <| oP (P_build rfl (bld_34)) rfl <| oO <| O_storeN rfl rfl foc3 Try.sizeOf34 rfl rfl rfl <| oA rfl rfl <| RJ_nil <| cR ((6 : Int), false, (0 : Int), ByteArray.empty, (smS x104 (((x110 : Nat) : Int)) true)) (Option.some.inj h).symm ⟨rfl, True.intro⟩ (t3_ eR)
       ·
        replace h := ite_f hg21 h
        exact CJ_skip <| cR (r113.2, r113.1.Valid, r113.1.Seq, r113.1.Text, x104) (Option.some.inj h).symm ⟨rfl, True.intro⟩ (t2_ (t3_ eR))
      ·
       rintro a126 hy127
       replace h := bindK_at hK119 hy127
       show CJ _ _ _ _ _ (([(17, .int .i64 a126.1)] : Slots) ++ forget _ _) (blk b115 34 [.bool a126.2.1, .int .i64 a126.2.2.1, .string a126.2.2.2.1] :: Arr X80 a126.2.2.2.2 :: _)
       refine CJ_seq <| sR <| oM rfl rfl <| oP (P_neq (a := a126.1) (b := (0 : Int)) rfl rfl) rfl <| oM rfl rfl <| RJ_mbT rfl rfl rfl (fun hG128 => have hP129 : (a126.1 ≠ (0 : Int)) := (bT_dec).1 hG128; VJ_P (P_move rfl)) <| RJ_mbT rfl rfl rfl (fun hG130 => have hP131 : (a126.1 ≠ (0 : Int)) := (bT_dec).1 hG130; VJ_P (P_neq (a := a126.1) (b := (11 : Int)) (mbx hG130 rfl) rfl)) <| oP (P_pickAnd rfl (fun hh => mbx hh rfl) rfl) rfl <| oM rfl rfl <| RJ_mbT rfl rfl rfl (fun hG132 => have hP133 : ((a126.1 ≠ (0 : Int)) ∧ (a126.1 ≠ (11 : Int))) := ((bT_and bT_dec bT_dec)).1 hG132; VJ_P (P_move rfl)) <| RJ_mbT rfl rfl rfl (fun hG134 => have hP135 : ((a126.1 ≠ (0 : Int)) ∧ (a126.1 ≠ (11 : Int))) := ((bT_and bT_dec bT_dec)).1 hG134; VJ_P (P_neq (a := a126.1) (b := (12 : Int)) (mbx hG134 rfl) rfl)) <| oP (P_pickAnd rfl (fun hh => mbx hh rfl) rfl) rfl <| nT <| CJ_condP rfl (bT_and (bT_and bT_dec bT_dec) bT_dec) (fun hg22 => ?_) (fun hg22 => ?_)
       ·
        replace h := ite_t hg22 h
        refine CJ_region <| oM rfl rfl <| oM rfl rfl <| oO <| O_buildSlice rfl (bs_38_1_0 _) rfl fun b136 => ?_
        obtain ⟨hg23, h⟩ := grd_Le h
        refine oO <| O_append (t := tyI) (bytes := 8) rfl rfl del7 foc0 (Reads.lit (t := tyI) (ys := [((x110 : Nat) : Int)]) rfl rfl (by decide) (by decide) rfl) Try.underlying38 ok_tyI (apl (m := 1) (b := 8) hg23 (by decide)).1 (apl (m := 1) (b := 8) hg23 (by decide)).2 rfl fun p138 c139 => oA rfl rfl <| RJ_nil <| QJ_ent (t0_ (t1_ (t1_ (t1_ (t1_ (t1_ (t1_ (t1_ (t1_ (t1_ (eD eR))))))))))) <| QJ_then <| CJ_region <| oM rfl rfl <| oV (V_loadN rfl foc1 Try.isAgg34 Try.sizeOf34 rfl rfl) rfl <| oO <| O_buildSlice rfl (bs_66_1_0 _ _ _) rfl fun b140 => ?_
        obtain ⟨hg24, h⟩ := grd_Le h
        exact oO <| O_append (t := tyapi_Copy) (bytes := 32) rfl rfl del7 foc0 (Reads.lit (t := tyapi_Copy) (ys := [(⟨a126.2.1, a126.2.2.1, a126.2.2.2.1⟩ : api_Copy)]) rfl rfl (by decide) (by decide) rfl) Try.underlying66 ok_tyapi_Copy (apl (m := 1) (b := 32) hg24 (by decide)).1 (apl (m := 1) (b := 32) hg24 (by decide)).2 rfl fun p142 c143 => oA rfl rfl <| RJ_nil <| QJ_block_normal <| QJ_ent (t0_ (t1_ (t2_ (t2_ (t2_ (t2_ (t2_ (t2_ (t2_ (eD (eD eR))))))))))) <| QJ_then <| CJ_region <| oM rfl rfl <| oP (PJ_eq (P_add (a := ((x110 : Nat) : Int)) (b := (1 : Int)) rfl rfl (by omega)) rfl) rfl <| oA rfl rfl <| RJ_nil <| nR ⟨n, r116.2, a126.2.2.2.2, (x105 ++ [(⟨a126.2.1, a126.2.2.1, a126.2.2.2.1⟩ : api_Copy)]), (x107 ++ [((x110 : Nat) : Int)]), x109, (x110 + 1), ⟨p142, (x105 ++ [(⟨a126.2.1, a126.2.2.1, a126.2.2.2.1⟩ : api_Copy)]).length, c143⟩, ⟨p138, (x107 ++ [((x110 : Nat) : Int)]).length, c139⟩⟩ h ⟨rfl, rfl, rfl, rfl, True.intro⟩ (t3_ (t2_ (t0_ (t0_ (t2_ (t2_ (t2_ (t1_ eR))))))))
       ·
        replace h := ite_f hg22 h
        refine AJ_startH 32768 (by kernel_rfl) rfl <| aN 0 1 rfl rfl (P_move rfl) rfl <| aN 1 3 rfl rfl (P_move rfl) rfl <| aN 2 7 rfl rfl (P_move rfl) rfl <| aV 3 15 rfl rfl (GY_none rfl) eR (V_index (i := x110) rfl rfl rfl (by have hz : x110 < a18.1.length := (by omega); have hy := hdl77; omega) foc9 (Reads.sl _ _ _) Try.runUnderlying62 Try.sizeOf29) rfl <| aV 4 31 rfl rfl (GY_none rfl) eR (V_loadE rfl rfl (by have hz : x110 < a18.1.length := (by omega); have hy := hdl77; omega) foc9 (Reads.sl _ _ _) rfl rfl Try.isAgg29) rfl ?_
        obtain ⟨hg25, h⟩ := grd_de h
        refine aV 5 63 rfl rfl (GY_none rfl) eR (V_index (i := 0) rfl rfl rfl hg25 foc4 ((RowsR.rs hdl77).2 _ (by omega)) Try.runUnderlying29 Try.sizeOf39) rfl <| aV 6 127 rfl rfl (GY_none rfl) eR (V_loadE rfl rfl hg25 foc4 ((RowsR.rs hdl77).2 _ (by omega)) rfl rfl Try.isAgg39) rfl <| aN 9 639 rfl rfl (P_move rfl) rfl <| aN 10 1663 rfl rfl (P_move rfl) rfl <| aV 11 3711 rfl rfl (GY_none rfl) eR (V_index (i := x110) rfl rfl rfl (by have hz : x110 < a18.1.length := (by omega); have hy := hdl77; omega) foc9 (Reads.sl _ _ _) Try.runUnderlying62 Try.sizeOf29) rfl <| aV 12 7807 rfl rfl (GY_none rfl) eR (V_loadE rfl rfl (by have hz : x110 < a18.1.length := (by omega); have hy := hdl77; omega) foc9 (Reads.sl _ _ _) rfl rfl Try.isAgg29) rfl ?_
        obtain ⟨hg26, h⟩ := grd_de h
        refine aV 13 15999 rfl rfl (GY_none rfl) eR (V_index (i := 1) rfl rfl rfl hg26 foc4 ((RowsR.rs hdl77).2 _ (by omega)) Try.runUnderlying29 Try.sizeOf39) rfl <| aV 14 32383 rfl rfl (GY_none rfl) eR (V_loadE rfl rfl hg26 foc4 ((RowsR.rs hdl77).2 _ (by omega)) rfl rfl Try.isAgg39) rfl ?_
        obtain ⟨r144, hr145, h⟩ := bind_e h
        refine AJ_op 7 32511 rfl (by kernel_rfl) rfl (GY_none rfl) <| O_call (L_volumegroupref12_Split hr145) rfl Try.call40 Dels.nil rfl fun _ _ => ⟨fun _ => eR, ?_⟩
        refine aN 8 32767 rfl rfl (P_field rfl (fld_73_0 _ _ _ _)) rfl ?_
        obtain ⟨r146, hr147, h⟩ := bind_e h
        refine AJ_op 15 65535 rfl (by kernel_rfl) rfl (GY_none rfl) <| O_call (L_volumegroupref12_Split hr147) rfl Try.call40 Dels.nil rfl fun _ _ => ⟨fun h => absurd h (by decide), ?_⟩
        refine aN 16 131071 rfl rfl (P_field rfl (fld_73_0 _ _ _ _)) rfl <| aN 17 262143 rfl rfl (P_max3 (a := x109) (b := r144.Seq) (c := r146.Seq) rfl rfl rfl) rfl <| aN 18 524287 rfl rfl (P_assign rfl) rfl <| aD <| CJ_region <| oM rfl rfl <| oV (V_loadN rfl foc0 Try.isAgg34 Try.sizeOf34 rfl rfl) rfl <| oO <| O_buildSlice rfl (bs_66_1_0 _ _ _) rfl fun b148 => ?_
        obtain ⟨hg27, h⟩ := grd_Le h
        exact oO <| O_append (t := tyapi_Copy) (bytes := 32) rfl rfl del6 foc0 (Reads.lit (t := tyapi_Copy) (ys := [(⟨a126.2.1, a126.2.2.1, a126.2.2.2.1⟩ : api_Copy)]) rfl rfl (by decide) (by decide) rfl) Try.underlying66 ok_tyapi_Copy (apl (m := 1) (b := 32) hg27 (by decide)).1 (apl (m := 1) (b := 32) hg27 (by decide)).2 rfl fun p150 c151 => oA rfl rfl <| RJ_nil <| QJ_block_normal <| QJ_ent (t0_ (t2_ (t2_ (t2_ (t2_ (t2_ (t2_ (t2_ (t2_ (eD (eD eR))))))))))) <| QJ_then <| CJ_region <| oM rfl rfl <| oP (PJ_eq (P_add (a := ((x110 : Nat) : Int)) (b := (1 : Int)) rfl rfl (by omega)) rfl) rfl <| oA rfl rfl <| RJ_nil <| nR ⟨n, r116.2, a126.2.2.2.2, (x105 ++ [(⟨a126.2.1, a126.2.2.1, a126.2.2.2.1⟩ : api_Copy)]), x107, (max (max x109 r144.Seq) r146.Seq), (x110 + 1), ⟨p150, (x105 ++ [(⟨a126.2.1, a126.2.2.1, a126.2.2.2.1⟩ : api_Copy)]).length, c151⟩, hd108⟩ h ⟨rfl, rfl, rfl, rfl, True.intro⟩ (t2_ (t1_ (t0_ (t2_ (t2_ (t2_ (t2_ (t1_ eR))))))))
     ·
      replace h := ite_f hg20 h
      exact CJ_exit <| QJ_then_exit <| QJ_round_exit <| QJ_block_here <| cR ⟨(x105, x107, x109, x103, x104), hd106, hd108⟩ (Option.some.inj h).symm ⟨rfl, rfl, rfl, True.intro⟩ (t2_ (t2_ eR))
   ·
    rintro ⟨a102, hd96, hd98⟩ hy152
    replace h := bindK_at hK93 hy152
    show CJ _ _ _ _ _ (([(11, hd96.v), (12, hd98.v), (13, .int .i64 a102.2.2.1)] : Slots) ++ forget _ _) (sl tyapi_Copy hd96.v a102.1 :: sl tyI hd98.v a102.2.1 :: blk X4.1 117 [X4.2, .int .i64 a102.2.2.2.1] :: Arr X80 a102.2.2.2.2 :: _)
    refine lC del0 fun hlen153 => lC del1 fun hlen154 => sR <| oM rfl rfl ?_
    obtain ⟨r155, hr156, h⟩ := bind_e h
    refine oO <| O_call (L_copies_Scan (Reads.sl _ _ _) hr156) rfl Try.call41 (Dels.cons del4 (Dels.cons del4 (Dels.cons del3 Dels.nil))) rfl fun X157 _ => oM rfl rfl <| oP (P_extract (v := X157.1.v) rfl rfl) rfl <| oP (P_extract (v := X157.2.v) rfl rfl) rfl <| oP (P_extract rfl rfl) rfl <| oA rfl rfl <| oA rfl rfl <| oA rfl rfl <| RJ_nil <| QJ_ent (t2_ (t2_ (t2_ (t2_ (t2_ (t5_ (eD (eD (eD (eD (eD eR))))))))))) <| QJ_then <| CJ_seq <| sR <| oM rfl rfl <| oV (V_len rfl foc2 (Reads.sl _ _ _) Try.runUnderlying38) rfl <| oM rfl rfl <| oV (V_len rfl foc4 (Reads.sl _ _ _) Try.runUnderlying38) rfl <| oP (P_neq (a := ((r155.2.1.length : Nat) : Int)) (b := ((a102.2.1.length : Nat) : Int)) rfl rfl) rfl <| oM rfl rfl <| RJ_mbF rfl rfl rfl (fun hG160 => have hP161 : ¬ (((r155.2.1.length : Nat) : Int) ≠ ((a102.2.1.length : Nat) : Int)) := nP (bT_dec) hG160; VJ_P (P_move rfl)) <| RJ_mbF rfl rfl rfl (fun hG162 => have hP163 : ¬ (((r155.2.1.length : Nat) : Int) ≠ ((a102.2.1.length : Nat) : Int)) := nP (bT_dec) hG162; VJ_P (P_move rfl)) <| RJ_mbF rfl rfl rfl (fun hG164 => have hP165 : ¬ (((r155.2.1.length : Nat) : Int) ≠ ((a102.2.1.length : Nat) : Int)) := nP (bT_dec) hG164; VJ_P (P_neq (a := r155.2.2) (b := a102.2.2.1) (mbx hG164 rfl) (mbx hG164 rfl))) <| oP (P_pickOr rfl rfl (fun hh => mbx (not_f hh) rfl)) rfl <| oM rfl rfl ?_
    refine RJ_splitP 160 rfl (bT_or bT_dec bT_dec) (fun hg28B hg28 => ?_) (fun hg28B hg28 => ?_)
    ·
     replace h := ite_t hg28 h
     refine RJ_gn (GY_no rfl rfl rfl hg28B) rfl rfl <| RJ_gn (GY_no rfl rfl rfl hg28B) rfl rfl <| RJ_gn (GY_no rfl rfl rfl hg28B) rfl rfl <| RJ_gn (GY_no rfl rfl rfl hg28B) rfl rfl <| oP (P_pickT rfl hg28B rfl) rfl <| nT <| CJ_condT rfl rfl <| sR <| oA rfl rfl <| nT <| CJ_ret <| QJ_then_ret ?_
     cases h
     exact fE (res1 Try.results8 rfl) () (t5_ (eD (eD (eD (eD (eD eR))))))
    ·
     replace h := ite_f hg28 h
     refine gP (GY_yes rfl rfl rfl hg28B) (P_move rfl) rfl <| gP (GY_yes rfl rfl rfl hg28B) (P_move rfl) rfl ?_
     obtain ⟨r166, hr167, h⟩ := bind_e h
     refine RJ_gy (GY_yes rfl rfl rfl hg28B) <| O_call (L_volumegroupref13_Same (Reads.sl _ _ _) (Reads.sl _ _ _) hr167) rfl Try.call42 (Dels.cons del1 (Dels.cons del2 Dels.nil)) rfl fun _ _ => gP (GY_yes rfl rfl rfl hg28B) (P_not rfl) rfl <| oP (P_pickF rfl hg28B rfl) rfl <| nT <| CJ_condP rfl (bT_not Iff.rfl) (fun hg29 => ?_) (fun hg29 => ?_)
     ·
      replace h := ite_t hg29 h
      refine sR <| oA rfl rfl <| nT <| CJ_ret <| QJ_then_ret ?_
      cases h
      exact fE (res1 Try.results8 rfl) () (t5_ (eD (eD (eD (eD (eD eR))))))
     ·
      replace h := ite_f hg29 h
      refine kT <| CJ_seq <| sR <| oA rfl rfl <| nT ?_
      obtain ⟨y170, hl168, hK169⟩ := seq_e h
      refine CJ_cutT (X := Unit) [2, 21, 166, 167, 168, 169, 170, 171, 172, 173, 174, 175, 176, 177, 178, 179, 180] (fun _ => ([] : Slots)) (fun _ R => R) (fun _ => y170 = .inl ()) Dels.nil ?_ ?_
      ·
       refine CJ_block <| CJ_loopR (X := Nat × Nat) [2, 21, 166, 167, 168, 169, 170, 171, 172, 173, 174, 175, 176, 177, 178, 179, 180] (fun ⟨n, x172⟩ => ([(21, .int .i64 (((x172 : Nat) : Int)))] : Slots)) (fun ⟨n, x172⟩ R => R) (fun ⟨n, x172⟩ => volumegrouplaw13_CopiesScan_l5 a102 r155 n x172 = some y170) (fun ⟨n, x172⟩ => n) ⟨FUEL, 0⟩ ?_ ?_ eR ?_
       · exact hl168
       · exact ⟨rfl, True.intro⟩
       ·
        rintro ⟨n, x172⟩ h
        cases n with
        | zero => exact none_e h
        | succ n => ?_
        replace h : volumegrouplaw13_CopiesScan_l5_b a102 r155 (volumegrouplaw13_CopiesScan_l5 a102 r155 n) x172 = some y170 := h
        unfold volumegrouplaw13_CopiesScan_l5_b at h
        show CJ _ _ _ _ _ (([(21, .int .i64 (((x172 : Nat) : Int)))] : Slots) ++ forget _ _) (_)
        refine CJ_seq <| sR <| oM rfl rfl <| oM rfl rfl <| oV (V_len rfl foc3 (Reads.sl _ _ _) Try.runUnderlying38) rfl <| oP (P_lss (a := ((x172 : Nat) : Int)) (b := ((r155.2.1.length : Nat) : Int)) rfl rfl) rfl <| nT <| CJ_condP rfl bT_dec (fun hg30 => ?_) (fun hg30 => ?_)
        ·
         replace h := ite_t hg30 h
         refine kT <| CJ_seq <| CJ_block <| CJ_seq <| AJ_startH 0 (by kernel_rfl) rfl <| aN 0 1 rfl rfl (P_move rfl) rfl <| aN 1 3 rfl rfl (P_move rfl) rfl <| aV 2 7 rfl rfl (GY_none rfl) eR (V_index (i := x172) rfl rfl rfl (by omega) foc3 (Reads.sl _ _ _) Try.runUnderlying38 Try.sizeOf3) rfl <| aV 3 15 rfl rfl (GY_none rfl) eR (V_loadE rfl rfl (by omega) foc3 (Reads.sl _ _ _) rfl rfl Try.isAgg3) rfl <| aN 4 31 rfl rfl (P_move rfl) rfl <| aN 5 63 rfl rfl (P_move rfl) rfl <| aV 6 127 rfl rfl (GY_none rfl) eR (V_index (i := x172) rfl rfl rfl (by omega) foc4 (Reads.sl _ _ _) Try.runUnderlying38 Try.sizeOf3) rfl <| aV 7 255 rfl rfl (GY_none rfl) eR (V_loadE rfl rfl (by omega) foc4 (Reads.sl _ _ _) rfl rfl Try.isAgg3) rfl <| aN 8 511 rfl rfl (P_neq (a := (r155.2.1.getD x172 0)) (b := (a102.2.1.getD x172 0)) rfl rfl) rfl <| aD <| CJ_condP rfl bT_dec (fun hg31 => ?_) (fun hg31 => ?_)
         ·
          replace h := ite_t hg31 h
          refine sR <| oA rfl rfl <| nT <| CJ_ret <| QJ_block_ret <| QJ_then_ret <| QJ_round_ret <| QJ_block_ret <| QJ_then_ret ?_
          have hE := Option.some.inj h
          replace hE := seq_inr hK169 hE.symm
          subst hE
          exact fE (res1 Try.results8 rfl) () (t5_ (eD (eD (eD (eD (eD eR))))))
         ·
          replace h := ite_f hg31 h
          exact CJ_skip <| QJ_block_normal <| QJ_then <| CJ_region <| oM rfl rfl <| oP (PJ_eq (P_add (a := ((x172 : Nat) : Int)) (b := (1 : Int)) rfl rfl (by omega)) rfl) rfl <| oA rfl rfl <| RJ_nil <| nR ⟨n, (x172 + 1)⟩ h ⟨rfl, True.intro⟩ eR
        ·
         replace h := ite_f hg30 h
         exact CJ_exit <| QJ_then_exit <| QJ_round_exit <| QJ_block_here <| cR () (Option.some.inj h).symm True.intro eR
      ·
       rintro _ hy173
       replace h := seq_inl hK169 hy173
       show CJ _ _ _ _ _ (([] : Slots) ++ forget _ _) (_)
       refine sR ?_
       obtain ⟨r174, hr175, h⟩ := bind_e h
       refine oO <| O_call (L_volumegrouplaw13_awake hr175) rfl Try.call43 Dels.nil rfl fun _ _ => oA rfl rfl <| nT <| CJ_ret ?_
       cases h
       exact fE (res1 Try.results8 rfl) () (t5_ (eD (eD (eD (eD (eD eR))))))
end Go.Proofs
namespace Go.Proofs
open Go.VG
theorem new_ok (l : List Int) : ∃ L, volumegroupmake_New l = some (L, 0) ∧ L.length ≤ 1000 := by
  unfold volumegroupmake_New
  by_cases h : (1000 : Int) < ((l.length : Nat) : Int)
  · rw [if_pos h]; exact ⟨_, rfl, by simp; omega⟩
  · rw [if_neg h]; exact ⟨_, rfl, by omega⟩
theorem raw_ok {L : List Int} {a : Int} (hL : L.length ≤ 1000) (h : 0 ≤ a ∧ a ≤ 1000) : ∃ v b, volumegroupmake_Src_Raw L a = some (v, b) ∧ 0 ≤ b ∧ b ≤ 1000 := by
  unfold volumegroupmake_Src_Raw
  by_cases h1 : ((L.length : Nat) : Int) ≤ a
  · rw [if_pos h1]; exact ⟨_, _, rfl, h.1, h.2⟩
  · rw [if_neg h1, grd_t (inI64_of (by omega)), grd_t (inI64_of (by omega)), grd_t (decide_eq_true (by omega))]
    exact ⟨_, _, rfl, by omega, by omega⟩
theorem srcN_ok {L : List Int} {a n : Int} (hL : L.length ≤ 1000) (h : 0 ≤ a ∧ a ≤ 1000) (hn : n ≤ 1000000000) : ∃ v b, volumegroupmake_Src_N L a n = some (v, b) ∧ (0 ≤ b ∧ b ≤ 1000) ∧ 0 ≤ v ∧ (1 ≤ n → v < n) ∧ (n < 1 → v = 0) := by
  unfold volumegroupmake_Src_N
  by_cases h1 : n < 1
  · rw [if_pos h1]; exact ⟨_, _, rfl, h, Int.le_refl _, fun x => by omega, fun _ => rfl⟩
  · rw [if_neg h1]
    obtain ⟨v, b, h2, h3⟩ := raw_ok hL h
    rw [h2]; simp only [Option.bind_some]
    have h4 := Int.natAbs_tmod v n
    have h5 := Nat.mod_lt v.natAbs (show 0 < n.natAbs by omega)
    by_cases h6 : v.tmod n < 0
    · rw [if_pos h6, grd_t (inI64_of (by omega))]
      exact ⟨_, _, rfl, h3, by omega, fun _ => by omega, fun x => by omega⟩
    · rw [if_neg h6]
      exact ⟨_, _, rfl, h3, by omega, fun _ => by omega, fun x => by omega⟩
theorem srcRange_ok {L : List Int} {a lo hi : Int} (hL : L.length ≤ 1000) (h : 0 ≤ a ∧ a ≤ 1000) (h1 : -1000000 ≤ lo ∧ lo ≤ hi ∧ hi ≤ 1000000) : ∃ v b, volumegroupmake_Src_Range L a lo hi = some (v, b) ∧ (0 ≤ b ∧ b ≤ 1000) ∧ lo ≤ v ∧ v ≤ hi := by
  unfold volumegroupmake_Src_Range
  obtain ⟨v, b, h2, h3, h4, h5, -⟩ := srcN_ok (n := hi - lo + 1) hL h (by omega)
  have := h5 (by omega)
  rw [grd_t (inI64_of (by omega)), grd_t (inI64_of (by omega)), h2]; simp only [Option.bind_some]
  rw [grd_t (inI64_of (by omega))]
  exact ⟨_, _, rfl, h3, by omega, by omega⟩
theorem srcWord_ok {L : List Int} {a : Int} {l : List ByteArray} (hL : L.length ≤ 1000) (h : 0 ≤ a ∧ a ≤ 1000) (hl : 1 ≤ l.length ∧ l.length ≤ 1000) : ∃ (v : Nat) (b : Int), volumegroupmake_Src_Word L a l = some (l.getD v ByteArray.empty, b) ∧ (0 ≤ b ∧ b ≤ 1000) ∧ v < l.length := by
  unfold volumegroupmake_Src_Word
  obtain ⟨v, b, h2, h3, h4, h5, -⟩ := srcN_ok (n := ((l.length : Nat) : Int)) hL h (by omega)
  have := h5 (by omega)
  rw [h2]; simp only [Option.bind_some]
  rw [grd_pos (decide_eq_true (by omega))]
  exact ⟨v.toNat, b, rfl, h3, by omega⟩
theorem srcPick_ok {L : List Int} {a : Int} {l : List Int} (hL : L.length ≤ 1000) (h : 0 ≤ a ∧ a ≤ 1000) (hl : 1 ≤ l.length ∧ l.length ≤ 1000) : ∃ (v : Nat) (b : Int), volumegroupmake_Src_Pick L a l = some (l.getD v 0, b) ∧ (0 ≤ b ∧ b ≤ 1000) ∧ v < l.length := by
  unfold volumegroupmake_Src_Pick
  obtain ⟨v, b, h2, h3, h4, h5, -⟩ := srcN_ok (n := ((l.length : Nat) : Int)) hL h (by omega)
  have := h5 (by omega)
  rw [h2]; simp only [Option.bind_some]
  rw [grd_pos (decide_eq_true (by omega))]
  exact ⟨v.toNat, b, rfl, h3, by omega⟩
section
variable {ns : List Nat} {K d n : Nat} {s : ArrS}
theorem look_small (h4 : n < 4) : copies_look (Dk d n) s = some ⟨zC, 3, true, 0⟩ := by
  unfold copies_look
  rw [read_small h4]; simp only [Option.bind_some]
  rw [seqs_small h4]; simp
theorem look_miss (h : LvX ns K d n s) (hm : miss s d = true) : copies_look (Dk d n) s = some ⟨zC, 6, true, 0⟩ := by
  have h4 := h.h4; have hb := h.hb
  have h6 : ∀ k : Nat, k < n → (Dk d n).rd s (k : Int) = some (rdV s d k, 6) := fun k hk => by
    rw [Dk.rd0 (by omega) hk, h.ok.rdM h.dn h.hd (by rw [h.hn]; exact hk) hm]
  have h60 : (Dk d n).rd s (0 : Int) = some (rdV s d ((0 : Nat) : Int), 6) := h6 0 (by omega)
  have hr : ring_Read (Dk d n) s = some (zC, 6) := by
    unfold ring_Read
    rw [open_eq h.h4 h.hb]; simp only [Option.bind_some]
    rw [if_neg (by simp)]; simp only [Option.elim]
    rw [h60]; simp only [Option.bind_some]
    rw [if_pos (by decide)]
  have hq : ring_Seqs (Dk d n) s = some (0, 0, 6) := by
    unfold ring_Seqs
    rw [open_eq h.h4 h.hb]; simp only [Option.bind_some]
    rw [if_neg (by simp)]; simp only [Option.elim]
    unfold block_ReadAll
    rw [Dk.sz]; simp only [Option.bind_some]
    rw [inside_t (by omega) (by omega)]; simp only [Option.bind_some]
    rw [if_neg (by simp)]
    have hF := fuel_big
    generalize FUEL = N at hF ⊢
    obtain ⟨M, rfl⟩ : ∃ M, N = M + 1 := ⟨N - 1, by omega⟩
    have e : block_ReadAll_l1 (Dk d n) 0 2 s (M + 1) 0 [] = some (.inr ([], 6)) := by
      show block_ReadAll_l1_b _ _ _ _ _ _ _ = _
      unfold block_ReadAll_l1_b
      rw [if_pos (by decide), grd_pos (inI64_of (by decide))]
      show Option.bind ((Dk d n).rd s (0 : Int)) _ = _
      rw [h60]; simp only [Option.bind_some]
      rw [if_pos (by decide)]
    rw [e]; rfl
  unfold copies_look
  rw [hr]; simp only [Option.bind_some]
  rw [hq]; simp
end
abbrev dkn (W : List (List UInt64)) : List Dvc := (List.range W.length).map fun i => Dk i (W.getD i []).length
theorem dkn_getD {W : List (List UInt64)} {i : Nat} (h : i < W.length) : (dkn W).getD i dv0 = Dk i (W.getD i []).length := by
  simp [dkn, List.getD_eq_getElem?_getD, h]
theorem dkn_len {W : List (List UInt64)} : (dkn W).length = W.length := by simp [dkn]
section
variable {W : List (List UInt64)} {M M' : Nat → Bool} {s : ArrS}
def stepF (b : Bool) (w : List UInt64) : Bool := decide (w.length < 4) || b
noncomputable def stepC (b : Bool) (w : List UInt64) : api_Copy := if stepF b w = true then zC else (readR (listA w) (rgR w.length)).1
def stepG (b : Bool) (w : List UInt64) (g : Int) : Int := if stepF b w = true then g else max (max g ((dQ (w.getD 0 0)).toNat : Int)) ((dQ (w.getD 1 0)).toNat : Int)
noncomputable def CS (W : List (List UInt64)) (M : Nat → Bool) : Nat → List api_Copy
  | 0 => []
  | i + 1 => CS W M i ++ [stepC (M i) (W.getD i [])]
def FL (W : List (List UInt64)) (M : Nat → Bool) : Nat → List Int
  | 0 => []
  | i + 1 => if stepF (M i) (W.getD i []) = true then FL W M i ++ [((i : Nat) : Int)] else FL W M i
def GR (W : List (List UInt64)) (M : Nat → Bool) : Nat → Int
  | 0 => 0
  | i + 1 => stepG (M i) (W.getD i []) (GR W M i)
theorem all_congr : ∀ {i : Nat}, (∀ e, e < i → M e = M' e) → CS W M i = CS W M' i ∧ FL W M i = FL W M' i ∧ GR W M i = GR W M' i
  | 0, _ => ⟨rfl, rfl, rfl⟩
  | i + 1, h => by
    obtain ⟨h1, h2, h3⟩ := all_congr (i := i) fun e he => h e (by omega)
    simp only [CS, FL, GR, h1, h2, h3, h i (Nat.lt_succ_self i)]
    exact ⟨trivial, trivial, trivial⟩
theorem CS_len : ∀ {i : Nat}, (CS W M i).length = i
  | 0 => rfl
  | i + 1 => by simp [CS, CS_len (i := i)]
theorem FL_len : ∀ {i : Nat}, (FL W M i).length ≤ i
  | 0 => Nat.le_refl _
  | i + 1 => by
    have := FL_len (i := i)
    unfold FL
    split
    · simp; omega
    · omega
theorem GR_nn : ∀ {i : Nat}, 0 ≤ GR W M i
  | 0 => Int.le_refl _
  | i + 1 => by
    have := GR_nn (i := i)
    unfold GR stepG
    split
    · exact this
    · omega
structure Arr4 (W : List (List UInt64)) (M : Nat → Bool) (s : ArrS) : Prop where
  ok : ArrOk (lensN W) 0 s
  dn : s.down = false
  now : ∀ e, Go.Proofs.now s e = Go.Proofs.now (mkS W) e
  cl : ∀ e b, Go.Proofs.cand s e b = [Go.Proofs.now s e b]
  ms : ∀ e, e < W.length → miss s e = M e
theorem len4 : (lensN W).length = W.length := by simp [lensN]
theorem nowW {e : Nat} : now (mkS W) e = listA (W.getD e []) := by
  funext b
  unfold now
  rw [nowL_mkS]
theorem Arr4.lvx (h : Arr4 W M s) {i : Nat} (hi : i < W.length) (h4 : 4 ≤ (W.getD i []).length) (hb : (W.getD i []).length ≤ 1000) : LvX (lensN W) 0 i (W.getD i []).length s :=
  ⟨h.ok, h.dn, by rw [len4]; exact hi, lensN_getD, h4, hb, fun b _ => h.cl i b, by omega⟩
theorem look4 (h : Arr4 W M s) {i : Nat} (hi : i < W.length) (hb : (W.getD i []).length ≤ 1000) :
    ∃ f, copies_look (Dk i (W.getD i []).length) s = some f ∧ f.copy = stepC (M i) (W.getD i []) ∧ f.failed = stepF (M i) (W.getD i []) ∧ ∀ g, 0 ≤ g → max g f.seq = stepG (M i) (W.getD i []) g := by
  by_cases h4 : (W.getD i []).length < 4
  · have hF : stepF (M i) (W.getD i []) = true := by unfold stepF; rw [decide_eq_true h4]; rfl
    refine ⟨_, look_small h4, ?_, hF.symm, fun g hg => ?_⟩
    · unfold stepC; rw [if_pos hF]
    · unfold stepG; rw [if_pos hF]; show max g 0 = g; omega
  · have hx := h.lvx hi (by omega) hb
    cases hm : M i with
    | true =>
      have hF : stepF true (W.getD i []) = true := by unfold stepF; rw [Bool.or_true]
      refine ⟨_, look_miss hx (by rw [h.ms i hi, hm]), ?_, hF.symm, fun g hg => ?_⟩
      · unfold stepC; rw [if_pos hF]
      · unfold stepG; rw [if_pos hF]; show max g 0 = g; omega
    | false =>
      have hF : ¬ stepF false (W.getD i []) = true := by unfold stepF; rw [decide_eq_false h4]; decide
      have hn : now s i = listA (W.getD i []) := by rw [h.now, nowW]
      refine ⟨_, look_eq (hx.lv (by rw [h.ms i hi, hm])), ?_, ?_, fun g hg => ?_⟩
      · unfold stepC; rw [if_neg hF, hn]; rfl
      · show false = _; simpa using hF
      · unfold stepG; rw [if_neg hF, hn]
        show max g (max ((dQ ((W.getD i []).getD 0 0)).toNat : Int) ((dQ ((W.getD i []).getD 1 0)).toNat : Int)) = _
        omega
theorem scan4_l1 (h : Arr4 W M s) (hb : ∀ i, i < W.length → (W.getD i []).length ≤ 1000) (h8 : W.length ≤ 8) : ∀ (N i : Nat), W.length - i < N → i ≤ W.length →
    copies_Scan_l1 (dkn W) s N i (CS W M i) (FL W M i) (GR W M i) = some (CS W M W.length, FL W M W.length, GR W M W.length)
  | 0, _, h, _ => absurd h (by omega)
  | N + 1, i, hN, hi => by
    show copies_Scan_l1_b _ _ _ _ _ _ _ = _
    unfold copies_Scan_l1_b
    rw [dkn_len]
    by_cases hlt : i < W.length
    · have hfl := FL_len (W := W) (M := M) (i := i)
      obtain ⟨f, f1, f2, f3, f4⟩ := look4 h hlt (hb i hlt)
      rw [if_pos (by omega), dkn_getD hlt, f1]; simp only [Option.bind_some]
      rw [grd_pos (inLen_of (by rw [CS_len]; omega))]
      have ih := scan4_l1 h hb h8 N (i + 1) (by omega) (by omega)
      have e1 : (⟨f.copy.Valid, f.copy.Seq, f.copy.Text⟩ : api_Copy) = stepC (M i) (W.getD i []) := f2
      rw [e1, f3, f4 _ GR_nn]
      simp only [CS, FL, GR] at ih
      split
      · rename_i hF
        rw [if_pos hF] at ih
        rw [grd_pos (inLen_of (by omega))]; exact ih
      · rename_i hF
        rw [if_neg hF] at ih
        exact ih
    · rw [if_neg (by omega), show i = W.length by omega]
theorem same13 (a : List api_Copy) (ha : a.length ≤ 1000) : volumegroupref13_Same a a = some true := by
  have hl : ∀ (N i : Nat), a.length - i < N → volumegroupref13_Same_l1 a a N i = some (.inl ()) := by
    intro N
    induction N with
    | zero => intro i h; exact absurd h (by omega)
    | succ N ih =>
      intro i h
      show volumegroupref13_Same_l1_b _ _ _ _ = _
      unfold volumegroupref13_Same_l1_b
      by_cases hlt : i < a.length
      · rw [if_pos (by omega), if_neg (fun x => x rfl)]; exact ih (i + 1) (by omega)
      · rw [if_neg (by omega)]
  unfold volumegroupref13_Same
  have hF := fuel_big
  generalize FUEL = N at hF ⊢
  rw [if_neg (by simp), hl N 0 (by omega)]; rfl
theorem scan_l3 {L : List Int} {L0 : Nat} {z : Int} (hL : L.length ≤ 1000) (hb : ∀ i, i < W.length → 3 ≤ (W.getD i []).length ∧ (W.getD i []).length ≤ 1000) (h8 : W.length ≤ 8) : ∀ (N i : Nat) (p : Int) (s : ArrS) (M : Nat → Bool), W.length - i < N → i ≤ W.length → (0 ≤ p ∧ p ≤ 1000) → Arr4 W M s → (∀ e, i ≤ e → M e = false) →
    ∃ M' p' t, volumegrouplaw13_CopiesScan_l3 (L, L0) (W, z) N p s (CS W M i) (FL W M i) (GR W M i) i = some (CS W M' W.length, FL W M' W.length, GR W M' W.length, p', t) ∧ Arr4 W M' t
  | 0, _, _, _, _, h, _, _, _, _ => absurd h (by omega)
  | N + 1, i, p, s, M, hN, hi, hp, hA, hM => by
    have e : volumegrouplaw13_CopiesScan_l3 (L, L0) (W, z) (N + 1) p s (CS W M i) (FL W M i) (GR W M i) i = volumegrouplaw13_CopiesScan_l3_b (L, L0) (W, z) (volumegrouplaw13_CopiesScan_l3 (L, L0) (W, z) N) p s (CS W M i) (FL W M i) (GR W M i) i := rfl
    rw [e]
    unfold volumegrouplaw13_CopiesScan_l3_b
    simp only
    by_cases hlt : i < W.length
    · obtain ⟨hb3, hb1⟩ := hb i hlt
      have hfl := FL_len (W := W) (M := M) (i := i)
      rw [if_pos (by omega)]
      obtain ⟨R, hR, hRs⟩ : ∃ R, volumegroupref12_Read (W.getD i []) = some R ∧ ((W.getD i []).length < 4 → R = (zC, 3)) ∧ (4 ≤ (W.getD i []).length → R = readR (listA (W.getD i [])) (rgR (W.getD i []).length)) := by
        by_cases h4 : (W.getD i []).length < 4
        · refine ⟨(zC, 3), by unfold volumegroupref12_Read; rw [if_pos (by omega)], fun _ => rfl, fun h => absurd h4 (by omega)⟩
        · refine ⟨readR (listA (W.getD i [])) (rgR (W.getD i []).length), ?_, fun h => absurd h h4, fun _ => rfl⟩
          unfold volumegroupref12_Read readR
          rw [if_neg (by omega)]
          by_cases h0 : (W.getD i []).getD 0 0 = 0
          · rw [if_pos h0, if_pos (show listA (W.getD i []) 0 = 0 from h0)]
          · rw [if_neg h0, if_neg (show ¬ listA (W.getD i []) 0 = 0 from h0), rwhole_eq (by omega) hb1]; simp only [Option.bind_some]
            by_cases hw : (wholeR (listA (W.getD i [])) (rgR (W.getD i []).length) ((W.getD i []).getD 0 0)).2 = true
            · rw [if_neg (by simpa using hw), if_pos (show (wholeR (listA (W.getD i [])) (rgR (W.getD i []).length) (listA (W.getD i []) 0)).2 = true from hw), rsplit_eq]; rfl
            · rw [if_pos hw, if_neg (show ¬ (wholeR (listA (W.getD i [])) (rgR (W.getD i []).length) (listA (W.getD i []) 0)).2 = true from hw), rsplit_eq]; rfl
      rw [hR]; simp only [Option.bind_some]
      obtain ⟨v, b, h1, hb', _⟩ := srcN_ok (L := L) (a := p) (n := 6) hL hp (by omega)
      rw [h1]; simp only [Option.bind_some]
      by_cases h0 : v = 0
      · rw [if_pos h0]; simp only [Option.bind_some]
        rw [if_pos (by decide), grd_pos (inLen_of (by omega)), grd_pos (inLen_of (by rw [CS_len]; omega))]
        obtain ⟨g1, g2, g3, g4, g5, g6⟩ := smS_gen (v := true) (k := i) hA.ok (by rw [len4]; exact hlt)
        have hA' : Arr4 W (fun e => if e = i then true else M e) (smS s (i : Int) true) := ⟨g1, by rw [g5]; exact hA.dn, fun e => by rw [g3]; exact hA.now e, fun e b => by rw [g4, g3]; exact hA.cl e b, fun e he => by
          rw [g2 e (by rw [len4]; exact he)]
          split
          · rfl
          · exact hA.ms e he⟩
        obtain ⟨c1, c2, c3⟩ := all_congr (W := W) (M := M) (M' := fun e => if e = i then true else M e) (i := i) fun e he => by rw [if_neg (by omega)]
        have hF : stepF true (W.getD i []) = true := by unfold stepF; rw [Bool.or_true]
        have ih := scan_l3 (L0 := L0) (z := z) hL hb h8 N (i + 1) b _ _ (by omega) (by omega) hb' hA' (fun e he => by rw [if_neg (by omega)]; exact hM e (by omega))
        simp only [CS, FL, GR, if_true, stepC, stepG, hF] at ih
        rw [← c1, ← c2, ← c3] at ih
        exact ih
      · rw [if_neg h0]; simp only [Option.bind_some]
        have hMi := hM i (Nat.le_refl _)
        have ih := scan_l3 (L0 := L0) (z := z) hL hb h8 N (i + 1) b s M (by omega) (by omega) hb' hA (fun e he => hM e (by omega))
        by_cases h4 : (W.getD i []).length < 4
        · have hRe := hRs.1 h4
          have hF : stepF false (W.getD i []) = true := by unfold stepF; rw [decide_eq_true h4]; rfl
          rw [hRe]
          rw [if_pos (by decide), grd_pos (inLen_of (by omega)), grd_pos (inLen_of (by rw [CS_len]; omega))]
          simp only [CS, FL, GR, hMi, stepC, stepG, hF, if_true] at ih
          exact ih
        · have hRe := hRs.2 (by omega)
          have hF : ¬ stepF false (W.getD i []) = true := by unfold stepF; rw [decide_eq_false h4]; decide
          rw [hRe]
          have hcs := readR_cases (listA (W.getD i [])) (rgR (W.getD i []).length)
          rw [if_neg (by rintro ⟨⟨x1, x2⟩, x3⟩; rcases hcs with h | h | h; exact x1 h; exact x2 h; exact x3 h.1), grd_pos (decide_eq_true (by omega)), grd_pos (decide_eq_true (by omega)), rsplit_eq]; simp only [Option.bind_some]
          rw [rsplit_eq]; simp only [Option.bind_some]
          rw [grd_pos (inLen_of (by rw [CS_len]; omega))]
          simp only [CS, FL, GR, hMi, stepC, stepG, if_neg hF] at ih
          exact ih
    · rw [if_neg (by omega)]
      have e : i = W.length := by omega
      subst e
      exact ⟨M, p, s, rfl, hA⟩
theorem scan_l5 {c : (List api_Copy) × (List Int) × Int × Int × ArrS} {r : (List api_Copy) × (List Int) × Int} (h : r.2.1 = c.2.1) : ∀ (N i : Nat), r.2.1.length - i < N → volumegrouplaw13_CopiesScan_l5 c r N i = some (.inl ())
  | 0, _, h => absurd h (by omega)
  | N + 1, i, hN => by
    show volumegrouplaw13_CopiesScan_l5_b _ _ _ _ = _
    unfold volumegrouplaw13_CopiesScan_l5_b
    by_cases hlt : i < r.2.1.length
    · rw [if_pos (by omega), if_neg (by rw [h]; exact fun x => x rfl)]; exact scan_l5 h N (i + 1) (by omega)
    · rw [if_neg (by omega)]
end
theorem scan_l2 {L : List Int} {L0 n : Nat} (hL : L.length ≤ 1000) (hn : 3 ≤ n ∧ n ≤ 1000) : ∀ (N : Nat) (p : Int) (X : List UInt64) (c : Int), c.toNat < N → c ≤ 100 → (0 ≤ p ∧ p ≤ 1000) → X.length = n →
    ∃ X' p', volumegrouplaw13_CopiesScan_l2 (L, L0) N p X c = some (X', p') ∧ X'.length = n ∧ 0 ≤ p' ∧ p' ≤ 1000
  | 0, _, _, _, h, _, _, _ => absurd h (by omega)
  | N + 1, p, X, c, h, hc, hp, hX => by
    have e : volumegrouplaw13_CopiesScan_l2 (L, L0) (N + 1) p X c = volumegrouplaw13_CopiesScan_l2_b (L, L0) (volumegrouplaw13_CopiesScan_l2 (L, L0) N) p X c := rfl
    rw [e]
    unfold volumegrouplaw13_CopiesScan_l2_b
    by_cases h0 : 0 < c
    · rw [if_pos h0]
      obtain ⟨v, b, h1, hb, hv0, hv1, -⟩ := srcN_ok (L := L) (a := p) (n := 9) hL hp (by omega)
      have hv2 := hv1 (by omega)
      rw [h1]; simp only [Option.bind_some]
      rw [grd_pos (inI64_of (by omega))]
      obtain ⟨k, b2, h2, hb2, _⟩ := srcWord_ok (L := L) (a := b) (l := [(ByteArray.mk #[97]), (ByteArray.mk #[116, 101, 120, 116]), (ByteArray.mk #[109, 111, 114, 101, 32, 116, 101, 120, 116])]) hL hb (by simp)
      rw [h2]; simp only [Option.bind_some]
      generalize List.getD [_, _, _] k ByteArray.empty = x
      subst hX
      have hP : ∃ out e, volumegroupref12_Prepared X (1 + v) x = some (out, e) ∧ (e = 0 → out.length = X.length ∧ 4 ≤ X.length) := by
        by_cases h4 : 4 ≤ X.length
        · obtain ⟨out, e, t, p1, _, _, _, p5, _⟩ := prep_agree (w := X) h4 hn.2 (1 + v) x
          exact ⟨out, e, p1, fun he => ⟨(p5 he).1, h4⟩⟩
        · exact ⟨[], 3, by unfold volumegroupref12_Prepared; rw [if_pos (by omega)], fun he => absurd he (by decide)⟩
      obtain ⟨out, e, p1, p5⟩ := hP
      rw [p1]; simp only [Option.bind_some]
      by_cases he : e = 0
      · rw [if_pos he]
        have ho := p5 he
        obtain ⟨v3, b3, h3, hb3, _⟩ := srcN_ok (L := L) (a := b2) (n := 3) hL hb2 (by omega)
        rw [h3]; simp only [Option.bind_some]
        by_cases h4 : 0 < v3
        · rw [if_pos h4, grd_pos (decide_eq_true (by omega)), grd_pos (decide_eq_true (by omega)), grd_pos (inI64_of (by omega))]
          exact scan_l2 hL hn N b3 _ (c - 1) (by omega) (by omega) hb3 (by rw [List.length_set, ho.1])
        · rw [if_neg h4, grd_pos (inI64_of (by omega))]
          exact scan_l2 hL hn N b3 _ (c - 1) (by omega) (by omega) hb3 ho.1
      · rw [if_neg he, grd_pos (inI64_of (by omega))]
        exact scan_l2 hL hn N b2 _ (c - 1) (by omega) (by omega) hb2 rfl
    · rw [if_neg h0]
      exact ⟨X, p, rfl, hX, hp.1, hp.2⟩
theorem scan_l1i {L : List Int} {L0 : Nat} (hL : L.length ≤ 1000) : ∀ (N : Nat) (p : Int) (W : List (List UInt64)) (c : Int), c.toNat < N → c ≤ 8 → (0 ≤ p ∧ p ≤ 1000) → (W.length : Int) + c ≤ 8 ∧ W.length ≤ 8 → (∀ w ∈ W, 3 ≤ w.length ∧ w.length ≤ 1000) →
    ∃ W' p', volumegrouplaw13_CopiesScan_l1 (L, L0) N p W c = some (W', p') ∧ W'.length ≤ 8 ∧ (∀ w ∈ W', 3 ≤ w.length ∧ w.length ≤ 1000) ∧ 0 ≤ p' ∧ p' ≤ 1000
  | 0, _, _, _, h, _, _, _, _ => absurd h (by omega)
  | N + 1, p, W, c, h, hc, hp, hW, hw => by
    have e : volumegrouplaw13_CopiesScan_l1 (L, L0) (N + 1) p W c = volumegrouplaw13_CopiesScan_l1_b (L, L0) (volumegrouplaw13_CopiesScan_l1 (L, L0) N) p W c := rfl
    rw [e]
    unfold volumegrouplaw13_CopiesScan_l1_b
    by_cases h0 : 0 < c
    · rw [if_pos h0]
      obtain ⟨v, b, h1, hb, hv⟩ := srcPick_ok (L := L) (a := p) (l := [(12 : Int), (12 : Int), (9 : Int), (3 : Int)]) hL hp (by simp)
      rw [h1]; simp only [Option.bind_some]
      have hn : ∃ n : Nat, ([(12 : Int), (12 : Int), (9 : Int), (3 : Int)]).getD v 0 = (n : Int) ∧ 3 ≤ n ∧ n ≤ 1000 := by
        have : v = 0 ∨ v = 1 ∨ v = 2 ∨ v = 3 := by simp at hv; omega
        rcases this with rfl | rfl | rfl | rfl
        · exact ⟨12, rfl, by omega⟩
        · exact ⟨12, rfl, by omega⟩
        · exact ⟨9, rfl, by omega⟩
        · exact ⟨3, rfl, by omega⟩
      obtain ⟨n, hne, hn⟩ := hn
      rw [hne, grd_pos (decide_eq_true (by omega)), show ((n : Nat) : Int).toNat = n by omega]
      obtain ⟨v2, b2, h2, hb2, _, hv2, _⟩ := srcN_ok (L := L) (a := b) (n := 3) hL hb (by omega)
      have := hv2 (by omega)
      rw [h2]; simp only [Option.bind_some]
      have hF := fuel_big
      obtain ⟨X, b3, h3, hX, hb3⟩ := scan_l2 (L := L) (L0 := L0) (n := n) hL hn FUEL b2 (List.replicate n 0) v2 (by omega) (by omega) hb2 (by simp)
      rw [h3]; simp only [Option.bind_some]
      obtain ⟨v4, b4, h4, hb4, _⟩ := srcN_ok (L := L) (a := b3) (n := 4) hL hb3 (by omega)
      rw [h4]; simp only [Option.bind_some]
      have hadd : ∀ Y : List UInt64, Y.length = n → ∀ w ∈ W ++ [Y], 3 ≤ w.length ∧ w.length ≤ 1000 := fun Y hY w hm => by
        rcases List.mem_append.1 hm with hm | hm
        · exact hw w hm
        · rw [List.mem_singleton.1 hm, hY]; exact hn
      by_cases h5 : v4 = 0
      · rw [if_pos h5]
        obtain ⟨v6, b6, h6, hb6, hv6, hw6, -⟩ := srcN_ok (L := L) (a := b4) (n := ((X.length : Nat) : Int)) hL hb4 (by omega)
        have := hw6 (by omega)
        rw [h6]; simp only [Option.bind_some]
        rw [grd_pos (decide_eq_true (by omega))]
        obtain ⟨v7, b7, h7, hb7, hv7, _⟩ := srcN_ok (L := L) (a := b6) (n := 64) hL hb6 (by omega)
        rw [h7]; simp only [Option.bind_some]
        rw [grd_pos (decide_eq_true hv7), grd_pos (decide_eq_true (by omega)), grd_pos (inLen_of (by omega)), grd_pos (inI64_of (by omega))]
        exact scan_l1i hL N b7 _ (c - 1) (by omega) (by omega) hb7 (by rw [List.length_append, List.length_singleton]; omega) (hadd _ (by rw [List.length_set, hX]))
      · rw [if_neg h5, grd_pos (inLen_of (by omega)), grd_pos (inI64_of (by omega))]
        exact scan_l1i hL N b4 _ (c - 1) (by omega) (by omega) hb4 (by rw [List.length_append, List.length_singleton]; omega) (hadd _ hX)
    · rw [if_neg h0]
      exact ⟨W, p, rfl, hW.2, hw, hp.1, hp.2⟩
theorem PCopiesScan (l : List Int) : volumegrouplaw13_CopiesScan l = some true := by
  unfold volumegrouplaw13_CopiesScan
  obtain ⟨L, h1, hL⟩ := new_ok l
  rw [h1]; simp only [Option.bind_some]
  obtain ⟨v, b, h2, hb, hv1, hv2⟩ := srcRange_ok (L := L) (a := ((0 : Nat) : Int)) (lo := 1) (hi := 4) hL (by omega) (by omega)
  rw [h2]; simp only [Option.bind_some]
  have hF := fuel_big
  obtain ⟨W, p, h3, hW, hw, hp⟩ := scan_l1i (L := L) (L0 := 0) hL FUEL b [] v (by omega) (by omega) hb (by simp; omega) (by simp)
  rw [h3]; simp only [Option.bind_some]
  rw [loaded_eq hW (fun im him => by have := hw im him; omega)]
  simp only [Option.bind_some, Option.elim]
  have hS : InSz (lensN W) (mkS W) := inSz_mkS
  have hA : Arr4 W (fun _ => false) (mkS W) := ⟨⟨hS, Nat.le_refl _, coh_mkS, rfl⟩, rfl, fun _ => rfl, fun _ _ => cand_mkS, fun e _ => miss_mkS⟩
  have hbW : ∀ i, i < W.length → 3 ≤ (W.getD i []).length ∧ (W.getD i []).length ≤ 1000 := fun i hi => hw _ (by
    have : W.getD i [] = W[i] := by simp [List.getD_eq_getElem?_getD, hi]
    rw [this]; exact List.getElem_mem hi)
  have hdl : (mkS W).drv.length = W.length := by simp [mkS]
  have hsz : ∀ i, (mkS W).size i = (W.getD i []).length := fun i => by rw [size_nowL, nowL_mkS]
  have hsp : volumegroupmake_Spans (mkS W) = some (dkn W) := by
    rw [spans_eq (by omega) (fun i hi => by rw [hsz]; have := hbW i (by omega); omega)]
    show some ((List.range (mkS W).drv.length).map _) = _
    rw [hdl]
    refine congrArg some (List.map_congr_left fun i _ => ?_)
    show Dvc.span ((i : Nat) : Int) 0 (((mkS W).size i : Nat) : Int) = _
    rw [hsz]
  rw [hsp]; simp only [Option.bind_some]
  obtain ⟨M, p', t, h4, hA'⟩ := scan_l3 (L := L) (L0 := 0) (z := p) hL hbW hW FUEL 0 p (mkS W) (fun _ => false) (by omega) (by omega) hp hA (fun _ _ => rfl)
  have h4' : volumegrouplaw13_CopiesScan_l3 (L, 0) (W, p) FUEL p (mkS W) [] [] (0 : Int) 0 = some (CS W M W.length, FL W M W.length, GR W M W.length, p', t) := h4
  rw [h4']; simp only [Option.bind_some]
  have h5 : copies_Scan (dkn W) t = some (CS W M W.length, FL W M W.length, GR W M W.length) := by
    unfold copies_Scan
    have := scan4_l1 hA' (fun i hi => (hbW i hi).2) hW FUEL 0 (by omega) (by omega)
    have h' : copies_Scan_l1 (dkn W) t FUEL 0 [] [] (0 : Int) = some (CS W M W.length, FL W M W.length, GR W M W.length) := this
    rw [h']; rfl
  have hfl := FL_len (W := W) (M := M) (i := W.length)
  rw [h5]; simp only [Option.bind_some]
  rw [if_neg (by simp), same13 _ (by rw [CS_len]; omega)]; simp only [Option.bind_some]
  rw [if_neg (by simp), scan_l5 rfl FUEL 0 (by show (FL W M W.length).length - 0 < FUEL; omega)]
  simp only [seqO, Option.bind_some, Sum.elim_inl]
  rw [awake13]; rfl
end Go.Proofs
