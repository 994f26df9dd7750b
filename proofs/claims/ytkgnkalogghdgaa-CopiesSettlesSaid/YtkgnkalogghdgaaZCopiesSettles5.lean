/- CopiesSettles, part 5 of the proof: LCop, PCopC, LAw13, PCop1, PCop2, PChoose, PFlip, PKeep, VgDe, LCopS, PSet, PLoad, LCopiesSettles. -/
import Derived.WalkKit
import Derived.Orders
import Derived.RangeFuncLeaves
import Derived.RangeFuncCalls
import Derived.TacticsIn
import Derived.Handy
import Derived.OrdersHeld
import Derived.OrdersIn
import Derived.Below
import Derived.OpenShut
import Derived.Deep.Slices
import Derived.Scope
import Derived.KernelRfl
import Derived.RangeFuncRecord
import Derived.ChangeKeysEq
import Derived.Laws.BytesArg
import Derived.ProofKit
import Derived.ShutString
import Derived.ChangeOld
import Derived.Test.YtkgnkalogghdgaaChecked
import Derived.Test.YtkgnkalogghdgaaRows
import Derived.Test.YtkgnkalogghdgaaZCopiesSettles4
set_option linter.unusedSimpArgs false
set_option linter.unusedVariables false
set_option maxRecDepth 20000
set_option maxHeartbeats 4000000
namespace Go.Proofs
open Go.VG
@[ext] structure copies_found where
  copy : api_Copy
  error : Int
  failed : Bool
  seq : Int
  deriving DecidableEq
theorem bs_66_1_0 (v0 : Bool) (v1 : Int) (v2 : ByteArray) : BuildsSlice Try.prog 66 1 [(0, .agg #[.bool v0, .int .i64 v1, .string v2])] 34 [.bool v0, .int .i64 v1, .string v2] := fun w => by kernel_rfl
def copies_look (x_0 : Dvc) (s : ArrS) : Option (copies_found) :=
  Option.bind (ring_Read x_0 s) fun r2 =>
  Option.bind ((
    if ((r2.2 ≠ (0 : Int)) ∧ (r2.2 ≠ (11 : Int))) then
      some ((false, (0 : Int), ByteArray.empty))
    else
      some (r2.1.Valid, r2.1.Seq, r2.1.Text) : Option (Bool × Int × ByteArray))) fun a16 =>
  Option.bind (ring_Seqs x_0 s) fun r18 =>
  if (¬ ((r18.2.2 ≠ (0 : Int)) ∨ (((r2.2 ≠ (0 : Int)) ∧ (r2.2 ≠ (12 : Int))) ∧ (r2.2 ≠ (11 : Int))))) then
    some ((⟨(⟨a16.1, a16.2.1, a16.2.2⟩ : api_Copy), r2.2, ((decide (r18.2.2 ≠ (0 : Int))) || (((decide (r2.2 ≠ (0 : Int))) && (decide (r2.2 ≠ (12 : Int)))) && (decide (r2.2 ≠ (11 : Int))))), (max r18.1 r18.2.1)⟩ : copies_found))
  else
    some ((⟨(⟨a16.1, a16.2.1, a16.2.2⟩ : api_Copy), r2.2, ((decide (r18.2.2 ≠ (0 : Int))) || (((decide (r2.2 ≠ (0 : Int))) && (decide (r2.2 ≠ (12 : Int)))) && (decide (r2.2 ≠ (11 : Int))))), (0 : Int)⟩ : copies_found))
theorem L_copies_look {W : World} {vx_0 : IfH} {bs : Nat} {x_0 : Dvc} {s : ArrS} {r : copies_found} (h : copies_look x_0 s = some r) :
    CSpec Try.prog W 73 [IfH.v vx_0] [DevP bs x_0 vx_0, Arr bs s] (fun x : Unit => .agg #[.bool r.copy.Valid, .int .i64 r.copy.Seq, .string r.copy.Text, .int .i64 r.error, .bool r.failed, .int .i64 r.seq]) (fun _ => True) (fun x F => DevP bs x_0 vx_0 :: Arr bs s :: F) := by
 refine CSpec.of_body Try.func73 rfl Try.ntmps73 rfl fun F => ?_
 show CJ _ _ _ _ _ _ (_ :: _ :: F)
 unfold copies_look at h
 refine sR <| oO <| O_alloc Try.zeroValue140 rfl rfl fun b1 => nT <| sR <| oM rfl rfl ?_
 obtain ⟨r2, hr3, h⟩ := bind_e h
 refine oO <| O_call (L_ring_Read hr3) rfl Try.call18 (Dels.cons del1 (Dels.cons del1 Dels.nil)) rfl fun _ _ => oM rfl rfl <| oP (P_extract rfl rfl) rfl <| oP (P_extract rfl rfl) rfl <| oP (P_fieldAddr rfl ⟨_, _, _, Try.runUnderlying140, rfl, rfl, Try.sizeOf34, rfl⟩) rfl <| oO <| O_storeN rfl rfl foc2 Try.sizeOf34 rfl rfl rfl <| oP (P_fieldAddr rfl ⟨_, _, _, Try.runUnderlying140, rfl, rfl, Try.sizeOf30, rfl⟩) rfl <| oO <| O_store rfl rfl foc2 rfl rfl Try.sizeOf30 <| nT <| CJ_seq <| sR <| oP (P_fieldAddr rfl ⟨_, _, _, Try.runUnderlying140, rfl, rfl, Try.sizeOf30, rfl⟩) rfl <| oV (V_load rfl foc2 rfl Try.isAgg30) rfl <| oP (P_neq (a := r2.2) (b := (0 : Int)) rfl rfl) rfl <| oM rfl rfl <| RJ_mbT rfl rfl rfl (fun hG4 => have hP5 : (r2.2 ≠ (0 : Int)) := (bT_dec).1 hG4; VJ_P (P_fieldAddr rfl ⟨_, _, _, Try.runUnderlying140, rfl, rfl, Try.sizeOf30, rfl⟩)) <| RJ_mbT rfl rfl rfl (fun hG6 => have hP7 : (r2.2 ≠ (0 : Int)) := (bT_dec).1 hG6; V_load (mbx hG6 rfl) foc2 rfl Try.isAgg30) <| RJ_mbT rfl rfl rfl (fun hG8 => have hP9 : (r2.2 ≠ (0 : Int)) := (bT_dec).1 hG8; VJ_P (P_neq (a := r2.2) (b := (11 : Int)) (mbx hG8 rfl) rfl)) <| oP (P_pickAnd rfl (fun hh => mbx hh rfl) rfl) rfl <| nT ?_
 obtain ⟨y12, hl10, hK11⟩ := bind_c h
 refine CJ_cutT (X := Bool × Int × ByteArray) [21, 22] (fun a16 => ([] : Slots)) (fun a16 R => blk b1 140 [.bool a16.1, .int .i64 a16.2.1, .string a16.2.2, .int .i64 r2.2, .bool false, .int .i64 (0 : Int)] :: R) (fun a16 => y12 = a16) (Dels.cons del2 Dels.nil) ?_ ?_
 ·
  have h := hl10
  refine CJ_condP rfl (bT_and bT_dec bT_dec) (fun hg1 => ?_) (fun hg1 => ?_)
  ·
   replace h := ite_t hg1 h
   exact CJ_region <| oP (P_build rfl (bld_34)) rfl <| oP (P_fieldAddr rfl ⟨_, _, _, Try.runUnderlying140, rfl, rfl, Try.sizeOf34, rfl⟩) rfl <| oO <| O_storeN rfl rfl foc2 Try.sizeOf34 rfl rfl rfl <| RJ_nil <| cR (false, (0 : Int), ByteArray.empty) (Option.some.inj h).symm True.intro (t2_ eR)
  ·
   replace h := ite_f hg1 h
   exact CJ_skip <| cR (r2.1.Valid, r2.1.Seq, r2.1.Text) (Option.some.inj h).symm True.intro (t2_ eR)
 ·
  rintro a16 hy17
  replace h := bindK_at hK11 hy17
  show CJ _ _ _ _ _ (([] : Slots) ++ forget _ _) (blk b1 140 [.bool a16.1, .int .i64 a16.2.1, .string a16.2.2, .int .i64 r2.2, .bool false, .int .i64 (0 : Int)] :: _)
  refine sR <| oM rfl rfl ?_
  obtain ⟨r18, hr19, h⟩ := bind_e h
  refine oO <| O_call (L_ring_Seqs hr19) rfl Try.call25 (Dels.cons del1 (Dels.cons del1 Dels.nil)) rfl fun _ _ => oM rfl rfl <| oP (P_extract rfl rfl) rfl <| oP (P_extract rfl rfl) rfl <| oP (P_extract rfl rfl) rfl <| oA rfl rfl <| oA rfl rfl <| oA rfl rfl <| nT <| sR <| oM rfl rfl <| oP (P_neq (a := r18.2.2) (b := (0 : Int)) rfl rfl) rfl <| oM rfl rfl <| RJ_mbF rfl rfl rfl (fun hG20 => have hP21 : ¬ (r18.2.2 ≠ (0 : Int)) := nP (bT_dec) hG20; VJ_P (P_fieldAddr rfl ⟨_, _, _, Try.runUnderlying140, rfl, rfl, Try.sizeOf30, rfl⟩)) <| RJ_mbF rfl rfl rfl (fun hG22 => have hP23 : ¬ (r18.2.2 ≠ (0 : Int)) := nP (bT_dec) hG22; V_load (mbx hG22 rfl) foc2 rfl Try.isAgg30) <| RJ_mbF rfl rfl rfl (fun hG24 => have hP25 : ¬ (r18.2.2 ≠ (0 : Int)) := nP (bT_dec) hG24; VJ_P (P_neq (a := r2.2) (b := (0 : Int)) (mbx hG24 rfl) rfl)) <| RJ_mbF rfl rfl rfl (fun hG26 => have hP27 : ¬ (r18.2.2 ≠ (0 : Int)) := nP (bT_dec) hG26; VJ_P (P_move (mbx hG26 rfl))) <| RJ_mbGT rfl rfl rfl (fun hG28 => have hP29 : ¬ (r18.2.2 ≠ (0 : Int)) := nP (bT_dec) (and_l hG28); have hP30 : (r2.2 ≠ (0 : Int)) := (bT_dec).1 (and_r hG28); VJ_P (P_fieldAddr rfl ⟨_, _, _, Try.runUnderlying140, rfl, rfl, Try.sizeOf30, rfl⟩)) <| RJ_mbGT rfl rfl rfl (fun hG31 => have hP32 : ¬ (r18.2.2 ≠ (0 : Int)) := nP (bT_dec) (and_l hG31); have hP33 : (r2.2 ≠ (0 : Int)) := (bT_dec).1 (and_r hG31); V_load (mbx hG31 rfl) foc2 rfl Try.isAgg30) ?_
  refine RJ_mbGT rfl rfl rfl (fun hG34 => have hP35 : ¬ (r18.2.2 ≠ (0 : Int)) := nP (bT_dec) (and_l hG34); have hP36 : (r2.2 ≠ (0 : Int)) := (bT_dec).1 (and_r hG34); VJ_P (P_neq (a := r2.2) (b := (12 : Int)) (mbx hG34 rfl) rfl)) <| RJ_mbF rfl rfl rfl (fun hG37 => have hP38 : ¬ (r18.2.2 ≠ (0 : Int)) := nP (bT_dec) hG37; VJ_P (P_pickAnd (mbx hG37 rfl) (fun hh => mbx (and_i hG37 hh) rfl) rfl)) <| RJ_mbF rfl rfl rfl (fun hG39 => have hP40 : ¬ (r18.2.2 ≠ (0 : Int)) := nP (bT_dec) hG39; VJ_P (P_move (mbx hG39 rfl))) <| RJ_mbGT rfl rfl rfl (fun hG41 => have hP42 : ¬ (r18.2.2 ≠ (0 : Int)) := nP (bT_dec) (and_l hG41); have hP43 : ((r2.2 ≠ (0 : Int)) ∧ (r2.2 ≠ (12 : Int))) := ((bT_and bT_dec bT_dec)).1 (and_r hG41); VJ_P (P_fieldAddr rfl ⟨_, _, _, Try.runUnderlying140, rfl, rfl, Try.sizeOf30, rfl⟩)) <| RJ_mbGT rfl rfl rfl (fun hG44 => have hP45 : ¬ (r18.2.2 ≠ (0 : Int)) := nP (bT_dec) (and_l hG44); have hP46 : ((r2.2 ≠ (0 : Int)) ∧ (r2.2 ≠ (12 : Int))) := ((bT_and bT_dec bT_dec)).1 (and_r hG44); V_load (mbx hG44 rfl) foc2 rfl Try.isAgg30) <| RJ_mbGT rfl rfl rfl (fun hG47 => have hP48 : ¬ (r18.2.2 ≠ (0 : Int)) := nP (bT_dec) (and_l hG47); have hP49 : ((r2.2 ≠ (0 : Int)) ∧ (r2.2 ≠ (12 : Int))) := ((bT_and bT_dec bT_dec)).1 (and_r hG47); VJ_P (P_neq (a := r2.2) (b := (11 : Int)) (mbx hG47 rfl) rfl)) <| RJ_mbF rfl rfl rfl (fun hG50 => have hP51 : ¬ (r18.2.2 ≠ (0 : Int)) := nP (bT_dec) hG50; VJ_P (P_pickAnd (mbx hG50 rfl) (fun hh => mbx (and_i hG50 hh) rfl) rfl)) ?_
  refine oP (P_pickOr rfl rfl (fun hh => mbx (not_f hh) rfl)) rfl <| oP (P_fieldAddr rfl ⟨_, _, _, Try.runUnderlying140, rfl, rfl, Try.sizeOf4, rfl⟩) rfl <| oO <| O_store rfl rfl foc2 rfl rfl Try.sizeOf4 <| nT <| CJ_seq <| sR <| oP (P_fieldAddr rfl ⟨_, _, _, Try.runUnderlying140, rfl, rfl, Try.sizeOf4, rfl⟩) rfl <| oV (V_load rfl foc2 rfl Try.isAgg4) rfl <| oP (P_not rfl) rfl <| nT <| CJ_condP rfl (bT_not (bT_or bT_dec (bT_and (bT_and bT_dec bT_dec) bT_dec))) (fun hg2 => ?_) (fun hg2 => ?_)
  ·
   replace h := ite_t hg2 h
   refine CJ_region <| oM rfl rfl <| oM rfl rfl <| oP (P_max (a := r18.1) (b := r18.2.1) rfl rfl) rfl <| oP (P_fieldAddr rfl ⟨_, _, _, Try.runUnderlying140, rfl, rfl, Try.sizeOf3, rfl⟩) rfl <| oO <| O_store rfl rfl foc2 rfl rfl Try.sizeOf3 <| nT <| sR <| oV (V_loadN rfl foc2 Try.isAgg140 Try.sizeOf140 rfl rfl) rfl <| oO <| O_storeN rfl rfl foc2 Try.sizeOf140 rfl rfl rfl <| nT <| CJ_ret ?_
   cases h
   exact fE (resA1 Try.results73 (RV_cellN rfl foc2 Try.isAgg140 Try.sizeOf140 rfl rfl)) () (t0_ (t0_ (eD eR)))
  ·
   replace h := ite_f hg2 h
   refine kT <| sR <| oV (V_loadN rfl foc2 Try.isAgg140 Try.sizeOf140 rfl rfl) rfl <| oO <| O_storeN rfl rfl foc2 Try.sizeOf140 rfl rfl rfl <| nT <| CJ_ret ?_
   cases h
   exact fE (resA1 Try.results73 (RV_cellN rfl foc2 Try.isAgg140 Try.sizeOf140 rfl rfl)) () (t0_ (t0_ (eD eR)))
def copies_Scan_l1_b (l : List Dvc) (s : ArrS) (rec : Nat → (List api_Copy) → (List Int) → Int → Option ((List api_Copy) × (List Int) × Int)) (x14 : Nat) (x15 : List api_Copy) (x17 : List Int) (x19 : Int) : Option ((List api_Copy) × (List Int) × Int) :=
  if (((x14 : Nat) : Int) < ((l.length : Nat) : Int)) then
    Option.bind (copies_look (l.getD x14 dv0) s) fun r23 =>
    grd (inLen (x15.length + 1)) <|
    if r23.failed = true then
      grd (inLen (x17.length + 1)) <|
      rec (x14 + 1) ((x15 ++ [(⟨r23.copy.Valid, r23.copy.Seq, r23.copy.Text⟩ : api_Copy)])) ((x17 ++ [((x14 : Nat) : Int)])) (max x19 r23.seq)
    else
      rec (x14 + 1) ((x15 ++ [(⟨r23.copy.Valid, r23.copy.Seq, r23.copy.Text⟩ : api_Copy)])) x17 (max x19 r23.seq)
  else
    some (x15, x17, x19)
def copies_Scan_l1 (l : List Dvc) (s : ArrS) : Nat → Nat → (List api_Copy) → (List Int) → Int → Option ((List api_Copy) × (List Int) × Int)
  | 0, _, _, _, _ => none
  | n + 1, x14, x15, x17, x19 => copies_Scan_l1_b l s (copies_Scan_l1 l s n) x14 x15 x17 x19
def copies_Scan (l : List Dvc) (s : ArrS) : Option ((List api_Copy) × (List Int) × Int) :=
  Option.bind (copies_Scan_l1 l s FUEL 0 ([]) ([]) (0 : Int)) fun a13 =>
  some (a13.1, a13.2.1, a13.2.2)
theorem L_copies_Scan {W : World} {Al : HP} {vl : Value} {hsl : List IfH} {bs : Nat} {l : List Dvc} {s : ArrS} {r : (List api_Copy) × (List Int) × Int} (rl : Reads Al tyDev vl hsl) (h : copies_Scan l s = some r) :
    CSpec Try.prog W 41 [vl] [Al, Rs (DevP bs) l hsl, Arr bs s] (fun x : Sl3 × Sl3 => .tuple #[x.1.v, x.2.v, .int .i64 r.2.2]) (fun _ => True) (fun x F => Al :: Rs (DevP bs) l hsl :: Arr bs s :: sl tyapi_Copy x.1.v r.1 :: sl tyI x.2.v r.2.1 :: F) := by
 refine CSpec.of_body Try.func41 rfl Try.ntmps41 rfl fun F => ?_
 show CJ _ _ _ _ _ _ (_ :: _ :: _ :: F)
 unfold copies_Scan at h
 refine CJ_pure (len_of rl del0) fun hlen1 => CJ_pure (fun h hh => Rs_len (stars_perm (del1 (A := Rs (DevP bs) l hsl)).out h hh)) fun hdl2 => sR <| oA rfl rfl <| oA rfl rfl <| oA rfl rfl <| nT <| sR <| oA rfl rfl <| nT <| sR <| oA rfl rfl <| nT <| sR <| oA rfl rfl <| nT <| CJ_seq <| sR <| oM rfl rfl <| oV (VJ_eq (V_len rfl foc0 rl Try.runUnderlying67) (congrArg (fun z : Nat => Value.int .i64 (z : Int)) (hdl2).symm)) rfl <| oM rfl rfl <| nT <| CJ_ent (fun h hh => sl_nil (t := tyapi_Copy) h hh) <| CJ_ent (fun h hh => sl_nil (t := tyI) h hh) ?_
 obtain ⟨y7, hl5, hK6⟩ := bind_c h
 refine CJ_cutT (X := ((List api_Copy) × (List Int) × Int) × Sl3 × Sl3) [5, 6, 7, 8, 9, 10, 13, 14, 15, 16, 17, 18, 19, 20, 21, 22, 23, 24, 25, 26, 27, 28, 29, 30, 31, 32, 33, 34, 35] (fun ⟨a13, hd9, hd11⟩ => ([(5, hd9.v), (6, hd11.v), (7, .int .i64 a13.2.2)] : Slots)) (fun ⟨a13, hd9, hd11⟩ R => sl tyapi_Copy hd9.v a13.1 :: sl tyI hd11.v a13.2.1 :: R) (fun ⟨a13, hd9, hd11⟩ => y7 = a13) (Dels.cons del1 (Dels.cons del0 Dels.nil)) ?_ ?_
 ·
  refine CJ_block <| CJ_loopR (X := Nat × Nat × (List api_Copy) × (List Int) × Int × Sl3 × Sl3) [5, 6, 7, 8, 9, 10, 13, 14, 15, 16, 17, 18, 19, 20, 21, 22, 23, 24, 25, 26, 27, 28, 29, 30, 31, 32, 33, 34, 35] (fun ⟨n, x14, x15, x17, x19, hd16, hd18⟩ => ([(5, hd16.v), (6, hd18.v), (7, .int .i64 x19), (13, .int .i64 (((x14 : Nat) : Int)))] : Slots)) (fun ⟨n, x14, x15, x17, x19, hd16, hd18⟩ R => sl tyapi_Copy hd16.v x15 :: sl tyI hd18.v x17 :: R) (fun ⟨n, x14, x15, x17, x19, hd16, hd18⟩ => copies_Scan_l1 l s n x14 x15 x17 x19 = some y7) (fun ⟨n, x14, x15, x17, x19, hd16, hd18⟩ => n) ⟨FUEL, 0, [], [], (0 : Int), ⟨none, 0, 0⟩, ⟨none, 0, 0⟩⟩ ?_ ?_ (t1_ eR) ?_
  · exact hl5
  · exact ⟨rfl, rfl, rfl, rfl, True.intro⟩
  ·
   rintro ⟨n, x14, x15, x17, x19, hd16, hd18⟩ h
   cases n with
   | zero => exact none_e h
   | succ n => ?_
   replace h : copies_Scan_l1_b l s (copies_Scan_l1 l s n) x14 x15 x17 x19 = some y7 := h
   unfold copies_Scan_l1_b at h
   show CJ _ _ _ _ _ (([(5, hd16.v), (6, hd18.v), (7, .int .i64 x19), (13, .int .i64 (((x14 : Nat) : Int)))] : Slots) ++ forget _ _) (sl tyapi_Copy hd16.v x15 :: sl tyI hd18.v x17 :: _)
   refine lC del0 fun hlen20 => lC del1 fun hlen21 => sR <| oP (P_lss (a := ((x14 : Nat) : Int)) (b := ((l.length : Nat) : Int)) rfl rfl) rfl <| nT <| CJ_seq <| CJ_condP rfl bT_dec (fun hg1 => ?_) (fun hg1 => ?_)
   ·
    replace h := ite_t hg1 h
    refine kT <| CJ_seq <| CJ_block <| sR <| oM rfl rfl <| oV (V_index (i := x14) rfl rfl rfl (by have hz : x14 < l.length := (by omega); have hy := hdl2; omega) foc2 rl Try.runUnderlying67 Try.sizeOf26) rfl <| RJ_ent (Ent.trans (t3_ eR) (Rs_at (fun _ _ => Dup_DevP) (dx := dv0) (dh := tyDev.dflt) (i := x14) (by omega))) <| oV (V_loadE rfl rfl (by have hz : x14 < l.length := (by omega); have hy := hdl2; omega) foc4 rl rfl rfl Try.isAgg26) rfl <| oA rfl rfl <| oA rfl rfl <| nT <| sR <| oM rfl rfl ?_
    obtain ⟨r23, hr24, h⟩ := bind_e h
    refine oO <| O_call (L_copies_look hr24) rfl Try.call73 (Dels.cons del0 (Dels.cons del4 Dels.nil)) rfl fun _ _ => oO <| O_alloc Try.zeroValue140 rfl rfl fun b25 => oO <| O_storeN rfl rfl foc0 Try.sizeOf140 rfl rfl rfl <| RJ_nil <| QJ_ent (t0_ (t1_ (t1_ (t1_ (t1_ (t1_ (eD eR))))))) <| QJ_then <| sR <| oM rfl rfl <| oP (P_fieldAddr rfl ⟨_, _, _, Try.runUnderlying140, rfl, rfl, Try.sizeOf34, rfl⟩) rfl <| oV (V_loadN rfl foc0 Try.isAgg34 Try.sizeOf34 rfl rfl) rfl <| oO <| O_buildSlice rfl (bs_66_1_0 _ _ _) rfl fun b26 => ?_
    obtain ⟨hg2, h⟩ := grd_Le h
    refine oO <| O_append (t := tyapi_Copy) (bytes := 32) rfl rfl del4 foc0 (Reads.lit (t := tyapi_Copy) (ys := [(⟨r23.copy.Valid, r23.copy.Seq, r23.copy.Text⟩ : api_Copy)]) rfl rfl (by decide) (by decide) rfl) Try.underlying66 ok_tyapi_Copy (apl (m := 1) (b := 32) hg2 (by decide)).1 (apl (m := 1) (b := 32) hg2 (by decide)).2 rfl fun p28 c29 => oA rfl rfl <| RJ_nil <| QJ_ent (t0_ (t1_ (t1_ (t1_ (t1_ (t1_ (eD eR))))))) <| QJ_then <| CJ_seq <| sR <| oP (P_fieldAddr rfl ⟨_, _, _, Try.runUnderlying140, rfl, rfl, Try.sizeOf4, rfl⟩) rfl <| oV (V_load rfl foc1 rfl Try.isAgg4) rfl <| nT <| CJ_condP rfl Iff.rfl (fun hg3 => ?_) (fun hg3 => ?_)
    ·
     replace h := ite_t hg3 h
     refine CJ_region <| oM rfl rfl <| oM rfl rfl <| oO <| O_buildSlice rfl (bs_38_1_0 _) rfl fun b30 => ?_
     obtain ⟨hg4, h⟩ := grd_Le h
     exact oO <| O_append (t := tyI) (bytes := 8) rfl rfl del5 foc0 (Reads.lit (t := tyI) (ys := [((x14 : Nat) : Int)]) rfl rfl (by decide) (by decide) rfl) Try.underlying38 ok_tyI (apl (m := 1) (b := 8) hg4 (by decide)).1 (apl (m := 1) (b := 8) hg4 (by decide)).2 rfl fun p32 c33 => oA rfl rfl <| RJ_nil <| QJ_ent (t0_ (t1_ (t1_ (t1_ (t1_ (t1_ (eD eR))))))) <| QJ_then <| CJ_region <| oM rfl rfl <| oP (P_fieldAddr rfl ⟨_, _, _, Try.runUnderlying140, rfl, rfl, Try.sizeOf3, rfl⟩) rfl <| oV (V_load rfl foc2 rfl Try.isAgg3) rfl <| oP (P_max (a := x19) (b := r23.seq) rfl rfl) rfl <| oA rfl rfl <| RJ_nil <| QJ_block_normal <| QJ_then <| CJ_region <| oP (PJ_eq (P_add (a := ((x14 : Nat) : Int)) (b := (1 : Int)) rfl rfl (by omega)) rfl) rfl <| oM rfl rfl <| RJ_nil <| nR ⟨n, (x14 + 1), (x15 ++ [(⟨r23.copy.Valid, r23.copy.Seq, r23.copy.Text⟩ : api_Copy)]), (x17 ++ [((x14 : Nat) : Int)]), (max x19 r23.seq), ⟨p28, (x15 ++ [(⟨r23.copy.Valid, r23.copy.Seq, r23.copy.Text⟩ : api_Copy)]).length, c29⟩, ⟨p32, (x17 ++ [((x14 : Nat) : Int)]).length, c33⟩⟩ h ⟨rfl, rfl, rfl, rfl, True.intro⟩ (t1_ (t0_ (t3_ (t2_ (t1_ (eD eR))))))
    ·
     replace h := ite_f hg3 h
     exact kT <| CJ_region <| oM rfl rfl <| oP (P_fieldAddr rfl ⟨_, _, _, Try.runUnderlying140, rfl, rfl, Try.sizeOf3, rfl⟩) rfl <| oV (V_load rfl foc1 rfl Try.isAgg3) rfl <| oP (P_max (a := x19) (b := r23.seq) rfl rfl) rfl <| oA rfl rfl <| RJ_nil <| QJ_block_normal <| QJ_then <| CJ_region <| oP (PJ_eq (P_add (a := ((x14 : Nat) : Int)) (b := (1 : Int)) rfl rfl (by omega)) rfl) rfl <| oM rfl rfl <| RJ_nil <| nR ⟨n, (x14 + 1), (x15 ++ [(⟨r23.copy.Valid, r23.copy.Seq, r23.copy.Text⟩ : api_Copy)]), x17, (max x19 r23.seq), ⟨p28, (x15 ++ [(⟨r23.copy.Valid, r23.copy.Seq, r23.copy.Text⟩ : api_Copy)]).length, c29⟩, hd18⟩ h ⟨rfl, rfl, rfl, rfl, True.intro⟩ (t0_ (t3_ (t3_ (t2_ (t1_ (eD eR))))))
   ·
    replace h := ite_f hg1 h
    exact CJ_exit <| QJ_then_exit <| QJ_round_exit <| QJ_block_here <| cR ⟨(x15, x17, x19), hd16, hd18⟩ (Option.some.inj h).symm ⟨rfl, rfl, rfl, True.intro⟩ eR
 ·
  rintro ⟨a13, hd9, hd11⟩ hy34
  replace h := bindK_at hK6 hy34
  show CJ _ _ _ _ _ (([(5, hd9.v), (6, hd11.v), (7, .int .i64 a13.2.2)] : Slots) ++ forget _ _) (sl tyapi_Copy hd9.v a13.1 :: sl tyI hd11.v a13.2.1 :: _)
  refine lC del0 fun hlen35 => lC del1 fun hlen36 => sR <| oM rfl rfl <| oM rfl rfl <| oM rfl rfl <| oA rfl rfl <| oA rfl rfl <| oA rfl rfl <| nT <| CJ_ret ?_
  cases h
  exact fE (res3 Try.results41 rfl rfl rfl) ⟨hd9, hd11⟩ (t2_ (t2_ (t2_ eR)))
def copies_Choose_1 (c : api_Copy) : Option (Bool) :=
  some c.Valid
theorem L_copies_Choose_1 {W : World} {c : api_Copy} {r : Bool} (h : copies_Choose_1 c = some r) :
    CSpec Try.prog W 74 [.agg #[.bool c.Valid, .int .i64 c.Seq, .string c.Text]] [] (fun x : Unit => .bool r) (fun _ => True) (fun x F => F) := by
 refine CSpec.of_body Try.func74 rfl Try.ntmps74 rfl fun F => ?_
 show CJ _ _ _ _ _ _ (F)
 unfold copies_Choose_1 at h
 refine sR <| oO <| O_box rfl rfl rfl fun b1 => oA rfl rfl <| nT <| sR <| oP (P_fieldAddr rfl ⟨_, _, _, Try.runUnderlying34, rfl, rfl, Try.sizeOf4, rfl⟩) rfl <| oV (V_load rfl foc0 rfl Try.isAgg4) rfl <| oA rfl rfl <| nT <| CJ_ret ?_
 cases h
 exact fE (res1 Try.results74 rfl) () (eD eR)
def copies_Choose_2 (a : api_Copy) (b : api_Copy) : Option (Bool) :=
  some ((decide (b.Seq < a.Seq)))
theorem L_copies_Choose_2 {W : World} {a : api_Copy} {b : api_Copy} {r : Bool} (h : copies_Choose_2 a b = some r) :
    CSpec Try.prog W 76 [.agg #[.bool a.Valid, .int .i64 a.Seq, .string a.Text], .agg #[.bool b.Valid, .int .i64 b.Seq, .string b.Text]] [] (fun x : Unit => .bool r) (fun _ => True) (fun x F => F) := by
 refine CSpec.of_body Try.func76 rfl Try.ntmps76 rfl fun F => ?_
 show CJ _ _ _ _ _ _ (F)
 unfold copies_Choose_2 at h
 refine sR <| oO <| O_box rfl rfl rfl fun b1 => oO <| O_box rfl rfl rfl fun b2 => oA rfl rfl <| nT <| sR <| oP (P_fieldAddr rfl ⟨_, _, _, Try.runUnderlying34, rfl, rfl, Try.sizeOf3, rfl⟩) rfl <| oV (V_load rfl foc1 rfl Try.isAgg3) rfl <| oP (P_fieldAddr rfl ⟨_, _, _, Try.runUnderlying34, rfl, rfl, Try.sizeOf3, rfl⟩) rfl <| oV (V_load rfl foc0 rfl Try.isAgg3) rfl <| oP (P_gtr (a := a.Seq) (b := b.Seq) rfl rfl) rfl <| oA rfl rfl <| nT <| CJ_ret ?_
 cases h
 exact fE (res1 Try.results76 rfl) () (eD (eD eR))
def copies_best__copies_Choose_1_l1_b (l : List api_Copy) (rec : Nat → Int → Option (Int)) (x7 : Nat) (x8 : Int) : Option (Int) :=
  if (((x7 : Nat) : Int) < ((l.length : Nat) : Int)) then
    Option.bind (copies_Choose_1 ((l.getD x7 (⟨false, 0, ByteArray.empty⟩ : api_Copy)))) fun r10 =>
    if r10 = true then
      if (x8 < (0 : Int)) then
        rec (x7 + 1) (((x7 : Nat) : Int))
      else
        grd (decide (0 ≤ x8 ∧ x8 < (l.length : Int))) <|
        Option.bind (copies_Choose_2 ((l.getD x7 (⟨false, 0, ByteArray.empty⟩ : api_Copy))) ((l.getD ((x8).toNat) (⟨false, 0, ByteArray.empty⟩ : api_Copy)))) fun r12 =>
        if r12 = true then
          rec (x7 + 1) (((x7 : Nat) : Int))
        else
          rec (x7 + 1) x8
    else
      rec (x7 + 1) x8
  else
    some x8
def copies_best__copies_Choose_1_l1 (l : List api_Copy) : Nat → Nat → Int → Option (Int)
  | 0, _, _ => none
  | n + 1, x7, x8 => copies_best__copies_Choose_1_l1_b l (copies_best__copies_Choose_1_l1 l n) x7 x8
def copies_best__copies_Choose_1 (l : List api_Copy) : Option (Int) :=
  Option.bind (copies_best__copies_Choose_1_l1 l FUEL 0 (-1 : Int)) fun a6 =>
  some a6
theorem L_copies_best__copies_Choose_1 {W : World} {Al : HP} {vl : Value} {l : List api_Copy} {r : Int} (rl : Reads Al tyapi_Copy vl l) (h : copies_best__copies_Choose_1 l = some r) :
    CSpec Try.prog W 75 [vl, .func (.func 74) #[] #[], .func (.func 76) #[] #[]] [Al] (fun x : Unit => .int .i64 r) (fun _ => True) (fun x F => Al :: F) := by
 refine CSpec.of_body Try.func75 rfl Try.ntmps75 rfl fun F => ?_
 show CJ _ _ _ _ _ _ (_ :: F)
 unfold copies_best__copies_Choose_1 at h
 refine CJ_pure (len_of rl del0) fun hlen1 => sR <| oA rfl rfl <| nT <| sR <| oA rfl rfl <| nT <| CJ_seq <| sR <| oM rfl rfl <| oV (V_len rfl foc0 rl Try.runUnderlying66) rfl <| oM rfl rfl <| nT ?_
 obtain ⟨y4, hl2, hK3⟩ := bind_c h
 refine CJ_cutT (X := Int) [7, 8, 9, 12, 13, 14, 15, 16, 17, 18, 19, 20, 21, 22, 23, 24, 25, 26, 27, 28, 29, 30, 31, 32, 33, 34] (fun a6 => ([(7, .int .i64 a6)] : Slots)) (fun a6 R => R) (fun a6 => y4 = a6) Dels.nil ?_ ?_
 ·
  refine CJ_block <| CJ_loopR (X := Nat × Nat × Int) [7, 8, 9, 12, 13, 14, 15, 16, 17, 18, 19, 20, 21, 22, 23, 24, 25, 26, 27, 28, 29, 30, 31, 32, 33, 34] (fun ⟨n, x7, x8⟩ => ([(7, .int .i64 x8), (12, .int .i64 (((x7 : Nat) : Int)))] : Slots)) (fun ⟨n, x7, x8⟩ R => R) (fun ⟨n, x7, x8⟩ => copies_best__copies_Choose_1_l1 l n x7 x8 = some y4) (fun ⟨n, x7, x8⟩ => n) ⟨FUEL, 0, (-1 : Int)⟩ ?_ ?_ eR ?_
  · exact hl2
  · exact ⟨rfl, rfl, True.intro⟩
  ·
   rintro ⟨n, x7, x8⟩ h
   cases n with
   | zero => exact none_e h
   | succ n => ?_
   replace h : copies_best__copies_Choose_1_l1_b l (copies_best__copies_Choose_1_l1 l n) x7 x8 = some y4 := h
   unfold copies_best__copies_Choose_1_l1_b at h
   show CJ _ _ _ _ _ (([(7, .int .i64 x8), (12, .int .i64 (((x7 : Nat) : Int)))] : Slots) ++ forget _ _) (_)
   refine sR <| oP (P_lss (a := ((x7 : Nat) : Int)) (b := ((l.length : Nat) : Int)) rfl rfl) rfl <| nT <| CJ_seq <| CJ_condP rfl bT_dec (fun hg1 => ?_) (fun hg1 => ?_)
   ·
    replace h := ite_t hg1 h
    refine kT <| CJ_seq <| CJ_block <| sR <| oM rfl rfl <| oV (V_index (i := x7) rfl rfl rfl (by omega) foc0 rl Try.runUnderlying66 Try.sizeOf34) rfl <| oV (V_loadEN rfl rfl (by omega) foc0 rl rfl rfl Try.isAgg34 Try.sizeOf34) rfl <| oO <| O_alloc Try.zeroValue34 rfl rfl fun b9 => oA rfl rfl <| oO <| O_storeN rfl rfl foc0 Try.sizeOf34 rfl rfl rfl <| nT <| CJ_seq <| AJ_startH 8192 (by kernel_rfl) rfl <| aN 0 1 rfl rfl (P_move rfl) rfl <| aV 1 3 rfl rfl (GY_none rfl) eR (V_loadN rfl foc0 Try.isAgg34 Try.sizeOf34 rfl rfl) rfl ?_
    obtain ⟨r10, hr11, h⟩ := bind_e h
    refine AJ_op 2 7 rfl (by kernel_rfl) rfl (GY_none rfl) <| O_callV rfl rfl (L_copies_Choose_1 hr11) Try.call74 Dels.nil rfl fun _ _ => ⟨fun _ => eR, ?_⟩
    refine aN 3 15 rfl rfl (P_move rfl) rfl <| AJ_splitP 20 rfl Iff.rfl (fun hg2B hg2 => ?_) (fun hg2B hg2 => ?_)
    ·
     replace h := ite_t hg2 h
     refine aP 4 31 rfl rfl (GY_yes rfl rfl rfl hg2B) (P_move rfl) rfl <| aP 5 63 rfl rfl (GY_yes rfl rfl rfl hg2B) (P_lss (a := x8) (b := (0 : Int)) rfl rfl) rfl <| aP 6 127 rfl rfl (GY_yes rfl rfl rfl hg2B) (P_move rfl) rfl <| AJ_splitP 23 rfl bT_dec (fun hg3B hg3 => ?_) (fun hg3B hg3 => ?_)
     ·
      replace h := ite_t hg3 h
      exact aS 7 255 rfl rfl (GY_no rfl rfl rfl hg3B) rfl <| aS 8 511 rfl rfl (GY_no rfl rfl rfl hg3B) rfl <| aS 9 1023 rfl rfl (GY_no rfl rfl rfl hg3B) rfl <| aS 10 2047 rfl rfl (GY_no rfl rfl rfl hg3B) rfl <| aS 11 4095 rfl rfl (GY_no rfl rfl rfl hg3B) rfl <| aS 12 8191 rfl rfl (GY_no rfl rfl rfl hg3B) rfl <| aS 13 16383 rfl rfl (GY_no rfl rfl rfl hg3B) rfl <| aP 14 32767 rfl rfl (GY_yes rfl rfl rfl hg2B) (P_pickT rfl hg3B rfl) rfl <| aN 15 65535 rfl rfl (P_pickT rfl hg2B rfl) rfl <| aD <| CJ_condT rfl rfl <| CJ_region <| oM rfl rfl <| oA rfl rfl <| RJ_nil <| QJ_block_normal <| QJ_then <| CJ_region <| oP (PJ_eq (P_add (a := ((x7 : Nat) : Int)) (b := (1 : Int)) rfl rfl (by omega)) rfl) rfl <| oM rfl rfl <| RJ_nil <| nR ⟨n, (x7 + 1), ((x7 : Nat) : Int)⟩ h ⟨rfl, rfl, True.intro⟩ (t1_ (eD eR))
     ·
      replace h := ite_f hg3 h
      refine aP 7 255 rfl rfl (GY_yes rfl rfl rfl hg3B) (P_move rfl) rfl <| aV 8 511 rfl rfl (GY_yes rfl rfl rfl hg3B) eR (V_loadN rfl foc0 Try.isAgg34 Try.sizeOf34 rfl rfl) rfl <| aP 9 1023 rfl rfl (GY_yes rfl rfl rfl hg3B) (P_move rfl) rfl <| aP 10 2047 rfl rfl (GY_yes rfl rfl rfl hg3B) (P_move rfl) rfl ?_
      obtain ⟨hg4, h⟩ := grd_de h
      refine aV 11 4095 rfl rfl (GY_yes rfl rfl rfl hg3B) eR (V_index (i := (x8).toNat) rfl rfl (Int.toNat_of_nonneg (hg4.1)).symm (by omega) foc1 rl Try.runUnderlying66 Try.sizeOf34) rfl <| aV 12 8191 rfl rfl (GY_yes rfl rfl rfl hg3B) eR (V_loadEN rfl rfl (by omega) foc1 rl rfl rfl Try.isAgg34 Try.sizeOf34) rfl ?_
      obtain ⟨r12, hr13, h⟩ := bind_e h
      refine AJ_op 13 16383 rfl (by kernel_rfl) rfl (GY_yes rfl rfl rfl hg3B) <| O_callV rfl rfl (L_copies_Choose_2 hr13) Try.call76 Dels.nil rfl fun _ _ => ⟨fun h => absurd h (by decide), ?_⟩
      refine aP 14 32767 rfl rfl (GY_yes rfl rfl rfl hg2B) (P_pickF rfl hg3B rfl) rfl <| aN 15 65535 rfl rfl (P_pickT rfl hg2B rfl) rfl <| aD <| CJ_condP rfl Iff.rfl (fun hg5 => ?_) (fun hg5 => ?_)
      ·
       replace h := ite_t hg5 h
       exact CJ_region <| oM rfl rfl <| oA rfl rfl <| RJ_nil <| QJ_block_normal <| QJ_then <| CJ_region <| oP (PJ_eq (P_add (a := ((x7 : Nat) : Int)) (b := (1 : Int)) rfl rfl (by omega)) rfl) rfl <| oM rfl rfl <| RJ_nil <| nR ⟨n, (x7 + 1), ((x7 : Nat) : Int)⟩ h ⟨rfl, rfl, True.intro⟩ (t1_ (eD eR))
      ·
       replace h := ite_f hg5 h
       exact CJ_skip <| QJ_block_normal <| QJ_then <| CJ_region <| oP (PJ_eq (P_add (a := ((x7 : Nat) : Int)) (b := (1 : Int)) rfl rfl (by omega)) rfl) rfl <| oM rfl rfl <| RJ_nil <| nR ⟨n, (x7 + 1), x8⟩ h ⟨rfl, rfl, True.intro⟩ (t1_ (eD eR))
    ·
     replace h := ite_f hg2 h
     exact aS 4 31 rfl rfl (GY_no rfl rfl rfl hg2B) rfl <| aS 5 63 rfl rfl (GY_no rfl rfl rfl hg2B) rfl <| aS 6 127 rfl rfl (GY_no rfl rfl rfl hg2B) rfl <| aS 7 255 rfl rfl (GY_undef rfl rfl rfl) rfl <| aS 8 511 rfl rfl (GY_undef rfl rfl rfl) rfl <| aS 9 1023 rfl rfl (GY_undef rfl rfl rfl) rfl <| aS 10 2047 rfl rfl (GY_undef rfl rfl rfl) rfl <| aS 11 4095 rfl rfl (GY_undef rfl rfl rfl) rfl <| aS 12 8191 rfl rfl (GY_undef rfl rfl rfl) rfl <| aS 13 16383 rfl rfl (GY_undef rfl rfl rfl) rfl <| aS 14 32767 rfl rfl (GY_no rfl rfl rfl hg2B) rfl <| aN 15 65535 rfl rfl (P_pickF rfl hg2B rfl) rfl <| aD <| CJ_condF rfl rfl <| CJ_skip <| QJ_block_normal <| QJ_then <| CJ_region <| oP (PJ_eq (P_add (a := ((x7 : Nat) : Int)) (b := (1 : Int)) rfl rfl (by omega)) rfl) rfl <| oM rfl rfl <| RJ_nil <| nR ⟨n, (x7 + 1), x8⟩ h ⟨rfl, rfl, True.intro⟩ (t1_ (eD eR))
   ·
    replace h := ite_f hg1 h
    exact CJ_exit <| QJ_then_exit <| QJ_round_exit <| QJ_block_here <| cR x8 (Option.some.inj h).symm ⟨rfl, True.intro⟩ eR
 ·
  rintro a6 hy14
  replace h := bindK_at hK3 hy14
  show CJ _ _ _ _ _ (([(7, .int .i64 a6)] : Slots) ++ forget _ _) (_)
  refine sR <| oM rfl rfl <| oA rfl rfl <| nT <| CJ_ret ?_
  cases h
  exact fE (res1 Try.results75 rfl) () eR
def copies_Choose_l1_b (l : List api_Copy) (r2 : Int) (rec : Nat → Option ((Unit) ⊕ (Int × Int))) (x8 : Nat) : Option ((Unit) ⊕ (Int × Int)) :=
  if (((x8 : Nat) : Int) < ((l.length : Nat) : Int)) then
    if ((l.getD x8 (⟨false, 0, ByteArray.empty⟩ : api_Copy))).Valid = true then
      grd (decide (0 ≤ r2 ∧ r2 < (l.length : Int))) <|
      if (((l.getD x8 (⟨false, 0, ByteArray.empty⟩ : api_Copy))).Seq = ((l.getD ((r2).toNat) (⟨false, 0, ByteArray.empty⟩ : api_Copy))).Seq) then
        grd (decide (0 ≤ r2 ∧ r2 < (l.length : Int))) <|
        if (((l.getD x8 (⟨false, 0, ByteArray.empty⟩ : api_Copy))).Text ≠ ((l.getD ((r2).toNat) (⟨false, 0, ByteArray.empty⟩ : api_Copy))).Text) then
          some (.inr (((-1 : Int), (13 : Int))))
        else
          rec (x8 + 1)
      else
        rec (x8 + 1)
    else
      if false = true then
        grd (decide (0 ≤ r2 ∧ r2 < (l.length : Int))) <|
        if (((l.getD x8 (⟨false, 0, ByteArray.empty⟩ : api_Copy))).Text ≠ ((l.getD ((r2).toNat) (⟨false, 0, ByteArray.empty⟩ : api_Copy))).Text) then
          some (.inr (((-1 : Int), (13 : Int))))
        else
          rec (x8 + 1)
      else
        rec (x8 + 1)
  else
    some (.inl ())
def copies_Choose_l1 (l : List api_Copy) (r2 : Int) : Nat → Nat → Option ((Unit) ⊕ (Int × Int))
  | 0, _ => none
  | n + 1, x8 => copies_Choose_l1_b l r2 (copies_Choose_l1 l r2 n) x8
def copies_Choose (l : List api_Copy) : Option (Int × Int) :=
  Option.bind (copies_best__copies_Choose_1 l) fun r2 =>
  if (r2 < (0 : Int)) then
    some (((-1 : Int), (12 : Int)))
  else
    seqO (copies_Choose_l1 l r2 FUEL 0) fun a7 =>
    some ((r2, (0 : Int)))
theorem L_copies_Choose {W : World} {Al : HP} {vl : Value} {l : List api_Copy} {r : Int × Int} (rl : Reads Al tyapi_Copy vl l) (h : copies_Choose l = some r) :
    CSpec Try.prog W 48 [vl] [Al] (fun x : Unit => .tuple #[.int .i64 r.1, .int .i64 r.2]) (fun _ => True) (fun x F => Al :: F) := by
 refine CSpec.of_body Try.func48 rfl Try.ntmps48 rfl fun F => ?_
 show CJ _ _ _ _ _ _ (_ :: F)
 unfold copies_Choose at h
 refine CJ_pure (len_of rl del0) fun hlen1 => sR <| oA rfl rfl <| oA rfl rfl <| nT <| sR <| oA rfl rfl <| nT <| sR <| oM rfl rfl <| oM rfl rfl ?_
 obtain ⟨r2, hr3, h⟩ := bind_e h
 refine oO <| O_call (L_copies_best__copies_Choose_1 rl hr3) rfl Try.call75 (Dels.cons del0 Dels.nil) rfl fun _ _ => oA rfl rfl <| nT <| CJ_seq <| sR <| oM rfl rfl <| oP (P_lss (a := r2) (b := (0 : Int)) rfl rfl) rfl <| nT <| CJ_condP rfl bT_dec (fun hg1 => ?_) (fun hg1 => ?_)
 ·
  replace h := ite_t hg1 h
  refine sR <| oA rfl rfl <| oA rfl rfl <| nT <| CJ_ret <| QJ_then_ret ?_
  cases h
  exact fE (res2 Try.results48 rfl rfl) () eR
 ·
  replace h := ite_f hg1 h
  refine kT <| CJ_seq <| sR <| oM rfl rfl <| oV (V_len rfl foc0 rl Try.runUnderlying66) rfl <| oM rfl rfl <| nT ?_
  obtain ⟨y6, hl4, hK5⟩ := seq_e h
  refine CJ_cutT (X := Unit) [2, 3, 7, 15, 16, 17, 18, 19, 20, 21, 22, 23, 24, 25, 26, 27, 28, 29, 30, 31, 32, 33, 34, 35, 36, 37, 38, 39, 40, 41] (fun _ => ([] : Slots)) (fun _ R => R) (fun _ => y6 = .inl ()) Dels.nil ?_ ?_
  ·
   refine CJ_block <| CJ_loopR (X := Nat × Nat) [2, 3, 7, 15, 16, 17, 18, 19, 20, 21, 22, 23, 24, 25, 26, 27, 28, 29, 30, 31, 32, 33, 34, 35, 36, 37, 38, 39, 40, 41] (fun ⟨n, x8⟩ => ([(15, .int .i64 (((x8 : Nat) : Int)))] : Slots)) (fun ⟨n, x8⟩ R => R) (fun ⟨n, x8⟩ => copies_Choose_l1 l r2 n x8 = some y6) (fun ⟨n, x8⟩ => n) ⟨FUEL, 0⟩ ?_ ?_ eR ?_
   · exact hl4
   · exact ⟨rfl, True.intro⟩
   ·
    rintro ⟨n, x8⟩ h
    cases n with
    | zero => exact none_e h
    | succ n => ?_
    replace h : copies_Choose_l1_b l r2 (copies_Choose_l1 l r2 n) x8 = some y6 := h
    unfold copies_Choose_l1_b at h
    show CJ _ _ _ _ _ (([(15, .int .i64 (((x8 : Nat) : Int)))] : Slots) ++ forget _ _) (_)
    refine sR <| oP (P_lss (a := ((x8 : Nat) : Int)) (b := ((l.length : Nat) : Int)) rfl rfl) rfl <| nT <| CJ_seq <| CJ_condP rfl bT_dec (fun hg2 => ?_) (fun hg2 => ?_)
    ·
     replace h := ite_t hg2 h
     refine kT <| CJ_seq <| CJ_block <| sR <| oV (V_index (i := x8) rfl rfl rfl (by omega) foc0 rl Try.runUnderlying66 Try.sizeOf34) rfl <| oV (V_loadEN rfl rfl (by omega) foc0 rl rfl rfl Try.isAgg34 Try.sizeOf34) rfl <| oO <| O_alloc Try.zeroValue34 rfl rfl fun b9 => oO <| O_storeN rfl rfl foc0 Try.sizeOf34 rfl rfl rfl <| nT <| CJ_seq <| AJ_startH 0 (by kernel_rfl) rfl <| aN 0 1 rfl rfl (P_fieldAddr rfl ⟨_, _, _, Try.runUnderlying34, rfl, rfl, Try.sizeOf4, rfl⟩) rfl <| aV 1 3 rfl rfl (GY_none rfl) eR (V_load rfl foc0 rfl Try.isAgg4) rfl <| aN 2 7 rfl rfl (P_move rfl) rfl <| AJ_splitP 21 rfl Iff.rfl (fun hg3B hg3 => ?_) (fun hg3B hg3 => ?_)
     ·
      replace h := ite_t hg3 h
      refine aP 3 15 rfl rfl (GY_yes rfl rfl rfl hg3B) (P_fieldAddr rfl ⟨_, _, _, Try.runUnderlying34, rfl, rfl, Try.sizeOf3, rfl⟩) rfl <| aV 4 31 rfl rfl (GY_yes rfl rfl rfl hg3B) eR (V_load rfl foc0 rfl Try.isAgg3) rfl <| aP 5 63 rfl rfl (GY_yes rfl rfl rfl hg3B) (P_move rfl) rfl <| aP 6 127 rfl rfl (GY_yes rfl rfl rfl hg3B) (P_move rfl) rfl ?_
      obtain ⟨hg4, h⟩ := grd_de h
      refine aV 7 255 rfl rfl (GY_yes rfl rfl rfl hg3B) eR (V_index (i := (r2).toNat) rfl rfl (Int.toNat_of_nonneg (hg4.1)).symm (by omega) foc1 rl Try.runUnderlying66 Try.sizeOf34) rfl <| aP 8 511 rfl rfl (GY_yes rfl rfl rfl hg3B) (P_fieldE rfl ⟨_, _, _, Try.runUnderlying34, rfl, rfl, Try.sizeOf3, rfl⟩) rfl <| aV 9 1023 rfl rfl (GY_yes rfl rfl rfl hg3B) eR (V_loadE rfl rfl (by omega) foc1 rl rfl rfl Try.isAgg3) rfl <| aP 10 2047 rfl rfl (GY_yes rfl rfl rfl hg3B) (P_eql (a := ((l.getD x8 (⟨false, 0, ByteArray.empty⟩ : api_Copy))).Seq) (b := ((l.getD ((r2).toNat) (⟨false, 0, ByteArray.empty⟩ : api_Copy))).Seq) rfl rfl) rfl <| aN 11 4095 rfl rfl (P_pickT rfl hg3B rfl) rfl <| aN 12 8191 rfl rfl (P_move rfl) rfl <| AJ_splitP 31 rfl bT_dec (fun hg5B hg5 => ?_) (fun hg5B hg5 => ?_)
      ·
       replace h := ite_t hg5 h
       refine aP 13 16383 rfl rfl (GY_yes rfl rfl rfl hg5B) (P_fieldAddr rfl ⟨_, _, _, Try.runUnderlying34, rfl, rfl, Try.sizeOf9, rfl⟩) rfl <| aV 14 32767 rfl rfl (GY_yes rfl rfl rfl hg5B) eR (V_load rfl foc0 rfl Try.isAgg9) rfl <| aP 15 65535 rfl rfl (GY_yes rfl rfl rfl hg5B) (P_move rfl) rfl <| aP 16 131071 rfl rfl (GY_yes rfl rfl rfl hg5B) (P_move rfl) rfl ?_
       obtain ⟨hg6, h⟩ := grd_de h
       refine aV 17 262143 rfl rfl (GY_yes rfl rfl rfl hg5B) eR (V_index (i := (r2).toNat) rfl rfl (Int.toNat_of_nonneg (hg6.1)).symm (by omega) foc1 rl Try.runUnderlying66 Try.sizeOf34) rfl <| aP 18 524287 rfl rfl (GY_yes rfl rfl rfl hg5B) (P_fieldE rfl ⟨_, _, _, Try.runUnderlying34, rfl, rfl, Try.sizeOf9, rfl⟩) rfl <| aV 19 1048575 rfl rfl (GY_yes rfl rfl rfl hg5B) eR (V_loadE rfl rfl (by omega) foc1 rl rfl rfl Try.isAgg9) rfl <| aP 20 2097151 rfl rfl (GY_yes rfl rfl rfl hg5B) (P_neqStr (a := ((l.getD x8 (⟨false, 0, ByteArray.empty⟩ : api_Copy))).Text) (b := ((l.getD ((r2).toNat) (⟨false, 0, ByteArray.empty⟩ : api_Copy))).Text) rfl rfl Try.underlying9) rfl <| aN 21 4194303 rfl rfl (P_pickT rfl hg5B rfl) rfl <| aD <| CJ_condP rfl bT_dec (fun hg7 => ?_) (fun hg7 => ?_)
       ·
        replace h := ite_t hg7 h
        refine sR <| oA rfl rfl <| oA rfl rfl <| nT <| CJ_ret <| QJ_block_ret <| QJ_then_ret <| QJ_round_ret <| QJ_block_ret <| QJ_then_ret ?_
        have hE := Option.some.inj h
        replace hE := seq_inr hK5 hE.symm
        subst hE
        exact fE (res2 Try.results48 rfl rfl) () (t1_ (eD eR))
       ·
        replace h := ite_f hg7 h
        exact CJ_skip <| QJ_block_normal <| QJ_then <| CJ_region <| oP (PJ_eq (P_add (a := ((x8 : Nat) : Int)) (b := (1 : Int)) rfl rfl (by omega)) rfl) rfl <| oM rfl rfl <| RJ_nil <| nR ⟨n, (x8 + 1)⟩ h ⟨rfl, True.intro⟩ (t1_ (eD eR))
      ·
       replace h := ite_f hg5 h
       exact aS 13 16383 rfl rfl (GY_no rfl rfl rfl hg5B) rfl <| aS 14 32767 rfl rfl (GY_no rfl rfl rfl hg5B) rfl <| aS 15 65535 rfl rfl (GY_no rfl rfl rfl hg5B) rfl <| aS 16 131071 rfl rfl (GY_no rfl rfl rfl hg5B) rfl <| aS 17 262143 rfl rfl (GY_no rfl rfl rfl hg5B) rfl <| aS 18 524287 rfl rfl (GY_no rfl rfl rfl hg5B) rfl <| aS 19 1048575 rfl rfl (GY_no rfl rfl rfl hg5B) rfl <| aS 20 2097151 rfl rfl (GY_no rfl rfl rfl hg5B) rfl <| aN 21 4194303 rfl rfl (P_pickF rfl hg5B rfl) rfl <| aD <| CJ_condF rfl rfl <| CJ_skip <| QJ_block_normal <| QJ_then <| CJ_region <| oP (PJ_eq (P_add (a := ((x8 : Nat) : Int)) (b := (1 : Int)) rfl rfl (by omega)) rfl) rfl <| oM rfl rfl <| RJ_nil <| nR ⟨n, (x8 + 1)⟩ h ⟨rfl, True.intro⟩ (t1_ (eD eR))
     ·
      replace h := ite_f hg3 h
      refine aS 3 15 rfl rfl (GY_no rfl rfl rfl hg3B) rfl <| aS 4 31 rfl rfl (GY_no rfl rfl rfl hg3B) rfl <| aS 5 63 rfl rfl (GY_no rfl rfl rfl hg3B) rfl <| aS 6 127 rfl rfl (GY_no rfl rfl rfl hg3B) rfl <| aS 7 255 rfl rfl (GY_no rfl rfl rfl hg3B) rfl <| aS 8 511 rfl rfl (GY_no rfl rfl rfl hg3B) rfl <| aS 9 1023 rfl rfl (GY_no rfl rfl rfl hg3B) rfl <| aS 10 2047 rfl rfl (GY_no rfl rfl rfl hg3B) rfl <| aN 11 4095 rfl rfl (P_pickF rfl hg3B rfl) rfl <| aN 12 8191 rfl rfl (P_move rfl) rfl <| AJ_splitP 31 rfl Iff.rfl (fun hg8B hg8 => ?_) (fun hg8B hg8 => ?_)
      ·
       replace h := ite_t hg8 h
       refine aP 13 16383 rfl rfl (GY_yes rfl rfl rfl hg8B) (P_fieldAddr rfl ⟨_, _, _, Try.runUnderlying34, rfl, rfl, Try.sizeOf9, rfl⟩) rfl <| aV 14 32767 rfl rfl (GY_yes rfl rfl rfl hg8B) eR (V_load rfl foc0 rfl Try.isAgg9) rfl <| aP 15 65535 rfl rfl (GY_yes rfl rfl rfl hg8B) (P_move rfl) rfl <| aP 16 131071 rfl rfl (GY_yes rfl rfl rfl hg8B) (P_move rfl) rfl ?_
       obtain ⟨hg9, h⟩ := grd_de h
       refine aV 17 262143 rfl rfl (GY_yes rfl rfl rfl hg8B) eR (V_index (i := (r2).toNat) rfl rfl (Int.toNat_of_nonneg (hg9.1)).symm (by omega) foc1 rl Try.runUnderlying66 Try.sizeOf34) rfl <| aP 18 524287 rfl rfl (GY_yes rfl rfl rfl hg8B) (P_fieldE rfl ⟨_, _, _, Try.runUnderlying34, rfl, rfl, Try.sizeOf9, rfl⟩) rfl <| aV 19 1048575 rfl rfl (GY_yes rfl rfl rfl hg8B) eR (V_loadE rfl rfl (by omega) foc1 rl rfl rfl Try.isAgg9) rfl <| aP 20 2097151 rfl rfl (GY_yes rfl rfl rfl hg8B) (P_neqStr (a := ((l.getD x8 (⟨false, 0, ByteArray.empty⟩ : api_Copy))).Text) (b := ((l.getD ((r2).toNat) (⟨false, 0, ByteArray.empty⟩ : api_Copy))).Text) rfl rfl Try.underlying9) rfl <| aN 21 4194303 rfl rfl (P_pickT rfl hg8B rfl) rfl <| aD <| CJ_condP rfl bT_dec (fun hg10 => ?_) (fun hg10 => ?_)
       ·
        replace h := ite_t hg10 h
        refine sR <| oA rfl rfl <| oA rfl rfl <| nT <| CJ_ret <| QJ_block_ret <| QJ_then_ret <| QJ_round_ret <| QJ_block_ret <| QJ_then_ret ?_
        have hE := Option.some.inj h
        replace hE := seq_inr hK5 hE.symm
        subst hE
        exact fE (res2 Try.results48 rfl rfl) () (t1_ (eD eR))
       ·
        replace h := ite_f hg10 h
        exact CJ_skip <| QJ_block_normal <| QJ_then <| CJ_region <| oP (PJ_eq (P_add (a := ((x8 : Nat) : Int)) (b := (1 : Int)) rfl rfl (by omega)) rfl) rfl <| oM rfl rfl <| RJ_nil <| nR ⟨n, (x8 + 1)⟩ h ⟨rfl, True.intro⟩ (t1_ (eD eR))
      ·
       replace h := ite_f hg8 h
       exact aS 13 16383 rfl rfl (GY_no rfl rfl rfl hg8B) rfl <| aS 14 32767 rfl rfl (GY_no rfl rfl rfl hg8B) rfl <| aS 15 65535 rfl rfl (GY_no rfl rfl rfl hg8B) rfl <| aS 16 131071 rfl rfl (GY_no rfl rfl rfl hg8B) rfl <| aS 17 262143 rfl rfl (GY_no rfl rfl rfl hg8B) rfl <| aS 18 524287 rfl rfl (GY_no rfl rfl rfl hg8B) rfl <| aS 19 1048575 rfl rfl (GY_no rfl rfl rfl hg8B) rfl <| aS 20 2097151 rfl rfl (GY_no rfl rfl rfl hg8B) rfl <| aN 21 4194303 rfl rfl (P_pickF rfl hg8B rfl) rfl <| aD <| CJ_condF rfl rfl <| CJ_skip <| QJ_block_normal <| QJ_then <| CJ_region <| oP (PJ_eq (P_add (a := ((x8 : Nat) : Int)) (b := (1 : Int)) rfl rfl (by omega)) rfl) rfl <| oM rfl rfl <| RJ_nil <| nR ⟨n, (x8 + 1)⟩ h ⟨rfl, True.intro⟩ (t1_ (eD eR))
    ·
     replace h := ite_f hg2 h
     exact CJ_exit <| QJ_then_exit <| QJ_round_exit <| QJ_block_here <| cR () (Option.some.inj h).symm True.intro eR
  ·
   rintro _ hy10
   replace h := seq_inl hK5 hy10
   show CJ _ _ _ _ _ (([] : Slots) ++ forget _ _) (_)
   refine sR <| oM rfl rfl <| oA rfl rfl <| oA rfl rfl <| nT <| CJ_ret ?_
   cases h
   exact fE (res2 Try.results48 rfl rfl) () eR
def copies_Next (greatest : Int) : Option (Int × Int) :=
  if (greatest < (0 : Int)) then
    some (((0 : Int), (1 : Int)))
  else
    if ((1048575 : Int) ≤ greatest) then
      some (((0 : Int), (4 : Int)))
    else
      some (((greatest + (1 : Int)), (0 : Int)))
theorem L_copies_Next {W : World} {greatest : Int} {r : Int × Int} (h : copies_Next greatest = some r) :
    CSpec Try.prog W 50 [.int .i64 greatest] [] (fun x : Unit => .tuple #[.int .i64 r.1, .int .i64 r.2]) (fun _ => True) (fun x F => F) := by
 refine CSpec.of_body Try.func50 rfl Try.ntmps50 rfl fun F => ?_
 show CJ _ _ _ _ _ _ (F)
 unfold copies_Next at h
 refine sR <| oA rfl rfl <| oA rfl rfl <| nT <| CJ_seq <| CJ_block <| sR <| oM rfl rfl <| oP (P_lss (a := greatest) (b := (0 : Int)) rfl rfl) rfl <| oA rfl rfl <| nT <| CJ_condP rfl bT_dec (fun hg1 => ?_) (fun hg1 => ?_)
 ·
  replace h := ite_t hg1 h
  refine sR <| oA rfl rfl <| oA rfl rfl <| nT <| CJ_ret <| QJ_block_ret <| QJ_then_ret ?_
  cases h
  exact fE (res2 Try.results50 rfl rfl) () eR
 ·
  replace h := ite_f hg1 h
  refine sR <| oM rfl rfl <| oP (P_geq (a := greatest) (b := (1048575 : Int)) rfl rfl) rfl <| oA rfl rfl <| nT <| CJ_condP rfl bT_dec (fun hg2 => ?_) (fun hg2 => ?_)
  ·
   replace h := ite_t hg2 h
   refine sR <| oA rfl rfl <| oA rfl rfl <| nT <| CJ_ret <| QJ_block_ret <| QJ_then_ret ?_
   cases h
   exact fE (res2 Try.results50 rfl rfl) () eR
  ·
   replace h := ite_f hg2 h
   refine CJ_skip <| QJ_block_normal <| QJ_then <| sR <| oM rfl rfl <| oP (P_add (a := greatest) (b := (1 : Int)) rfl rfl (by omega)) rfl <| oA rfl rfl <| oA rfl rfl <| nT <| CJ_ret ?_
   cases h
   exact fE (res2 Try.results50 rfl rfl) () eR
def copies_Commit_l1_b (l : List Dvc) (seq : Int) (text : ByteArray) (rec : ArrS → Nat → Option ((ArrS) ⊕ (Bool × Int × ArrS))) (x8 : ArrS) (x9 : Nat) : Option ((ArrS) ⊕ (Bool × Int × ArrS)) :=
  if (((x9 : Nat) : Int) < ((l.length : Nat) : Int)) then
    Option.bind (ring_Prepare (l.getD x9 dv0) seq text x8) fun r11 =>
    if (r11.1 ≠ (0 : Int)) then
      some (.inr (false, r11.1, r11.2))
    else
      rec r11.2 (x9 + 1)
  else
    some (.inl x8)
def copies_Commit_l1 (l : List Dvc) (seq : Int) (text : ByteArray) : Nat → ArrS → Nat → Option ((ArrS) ⊕ (Bool × Int × ArrS))
  | 0, _, _ => none
  | n + 1, x8, x9 => copies_Commit_l1_b l seq text (copies_Commit_l1 l seq text n) x8 x9
def copies_Commit_l2_b (l : List Dvc) (rec : ArrS → Nat → Option ((ArrS) ⊕ (Bool × Int × ArrS))) (x19 : ArrS) (x20 : Nat) : Option ((ArrS) ⊕ (Bool × Int × ArrS)) :=
  if (((x20 : Nat) : Int) < ((l.length : Nat) : Int)) then
    Option.bind (ring_Switch (l.getD x20 dv0) x19) fun r22 =>
    if (r22.1 ≠ (0 : Int)) then
      some (.inr (true, r22.1, r22.2))
    else
      rec r22.2 (x20 + 1)
  else
    some (.inl x19)
def copies_Commit_l2 (l : List Dvc) : Nat → ArrS → Nat → Option ((ArrS) ⊕ (Bool × Int × ArrS))
  | 0, _, _ => none
  | n + 1, x19, x20 => copies_Commit_l2_b l (copies_Commit_l2 l n) x19 x20
def copies_Commit (l : List Dvc) (seq : Int) (text : ByteArray) (s : ArrS) : Option (Bool × Int × ArrS) :=
  if (((l.length : Nat) : Int) = (0 : Int)) then
    some ((false, (12 : Int), s))
  else
    seqO (copies_Commit_l1 l seq text FUEL s 0) fun a7 =>
    seqO (copies_Commit_l2 l FUEL a7 0) fun a18 =>
    some ((true, (0 : Int), a18))
theorem L_copies_Commit {W : World} {Al : HP} {vl : Value} {hsl : List IfH} {bs : Nat} {l : List Dvc} {seq : Int} {text : ByteArray} {s : ArrS} {r : Bool × Int × ArrS} (rl : Reads Al tyDev vl hsl) (h : copies_Commit l seq text s = some r) :
    CSpec Try.prog W 45 [vl, .int .i64 seq, .string text] [Al, Rs (DevP bs) l hsl, Arr bs s] (fun x : Unit => .tuple #[.bool r.1, .int .i64 r.2.1]) (fun _ => True) (fun x F => Al :: Rs (DevP bs) l hsl :: Arr bs r.2.2 :: F) := by
 refine CSpec.of_body Try.func45 rfl Try.ntmps45 rfl fun F => ?_
 show CJ _ _ _ _ _ _ (_ :: _ :: _ :: F)
 unfold copies_Commit at h
 refine CJ_pure (len_of rl del0) fun hlen1 => CJ_pure (fun h hh => Rs_len (stars_perm (del1 (A := Rs (DevP bs) l hsl)).out h hh)) fun hdl2 => sR <| oA rfl rfl <| oA rfl rfl <| nT <| CJ_seq <| sR <| oM rfl rfl <| oV (VJ_eq (V_len rfl foc0 rl Try.runUnderlying67) (congrArg (fun z : Nat => Value.int .i64 (z : Int)) (hdl2).symm)) rfl <| oP (P_eql (a := ((l.length : Nat) : Int)) (b := (0 : Int)) rfl rfl) rfl <| nT <| CJ_condP rfl bT_dec (fun hg1 => ?_) (fun hg1 => ?_)
 ·
  replace h := ite_t hg1 h
  refine sR <| oA rfl rfl <| oA rfl rfl <| nT <| CJ_ret <| QJ_then_ret ?_
  cases h
  exact fE (res2 Try.results45 rfl rfl) () eR
 ·
  replace h := ite_f hg1 h
  refine kT <| CJ_seq <| sR <| oM rfl rfl <| oV (VJ_eq (V_len rfl foc0 rl Try.runUnderlying67) (congrArg (fun z : Nat => Value.int .i64 (z : Int)) (hdl2).symm)) rfl <| oM rfl rfl <| nT ?_
  obtain ⟨y5, hl3, hK4⟩ := seq_e h
  refine CJ_cutT (X := ArrS) [6, 7, 9, 10, 19, 20, 21, 22, 23, 24, 25, 26, 27, 28, 29, 30] (fun a7 => ([] : Slots)) (fun a7 R => Arr bs a7 :: R) (fun a7 => y5 = .inl a7) (Dels.cons del2 Dels.nil) ?_ ?_
  ·
   refine CJ_block <| CJ_loopR (X := Nat × ArrS × Nat) [6, 7, 9, 10, 19, 20, 21, 22, 23, 24, 25, 26, 27, 28, 29, 30] (fun ⟨n, x8, x9⟩ => ([(19, .int .i64 (((x9 : Nat) : Int)))] : Slots)) (fun ⟨n, x8, x9⟩ R => Arr bs x8 :: R) (fun ⟨n, x8, x9⟩ => copies_Commit_l1 l seq text n x8 x9 = some y5) (fun ⟨n, x8, x9⟩ => n) ⟨FUEL, s, 0⟩ ?_ ?_ (t2_ eR) ?_
   · exact hl3
   · exact ⟨rfl, True.intro⟩
   ·
    rintro ⟨n, x8, x9⟩ h
    cases n with
    | zero => exact none_e h
    | succ n => ?_
    replace h : copies_Commit_l1_b l seq text (copies_Commit_l1 l seq text n) x8 x9 = some y5 := h
    unfold copies_Commit_l1_b at h
    show CJ _ _ _ _ _ (([(19, .int .i64 (((x9 : Nat) : Int)))] : Slots) ++ forget _ _) (Arr bs x8 :: _)
    refine sR <| oP (P_lss (a := ((x9 : Nat) : Int)) (b := ((l.length : Nat) : Int)) rfl rfl) rfl <| nT <| CJ_seq <| CJ_condP rfl bT_dec (fun hg2 => ?_) (fun hg2 => ?_)
    ·
     replace h := ite_t hg2 h
     refine kT <| CJ_seq <| CJ_block <| sR <| oV (V_index (i := x9) rfl rfl rfl (by have hz : x9 < l.length := (by omega); have hy := hdl2; omega) foc1 rl Try.runUnderlying67 Try.sizeOf26) rfl <| RJ_ent (Ent.trans (t2_ eR) (Rs_at (fun _ _ => Dup_DevP) (dx := dv0) (dh := tyDev.dflt) (i := x9) (by omega))) <| oV (V_loadE rfl rfl (by have hz : x9 < l.length := (by omega); have hy := hdl2; omega) foc3 rl rfl rfl Try.isAgg26) rfl <| oA rfl rfl <| nT <| sR <| oM rfl rfl <| oM rfl rfl <| oM rfl rfl ?_
     obtain ⟨r11, hr12, h⟩ := bind_e h
     refine oO <| O_call (L_ring_Prepare hr12) rfl Try.call16 (Dels.cons del0 (Dels.cons del1 Dels.nil)) rfl fun _ _ => oA rfl rfl <| nT <| sR <| oM rfl rfl <| oP (P_neq (a := r11.1) (b := (0 : Int)) rfl rfl) rfl <| nT <| CJ_condP rfl bT_dec (fun hg3 => ?_) (fun hg3 => ?_)
     ·
      replace h := ite_t hg3 h
      refine sR <| oM rfl rfl <| oA rfl rfl <| oA rfl rfl <| nT <| CJ_ret <| QJ_block_ret <| QJ_then_ret <| QJ_round_ret <| QJ_block_ret <| QJ_then_ret ?_
      have hE := Option.some.inj h
      replace hE := seq_inr hK4 hE.symm
      subst hE
      exact fE (res2 Try.results45 rfl rfl) () (t3_ (t2_ (t1_ (eD eR))))
     ·
      replace h := ite_f hg3 h
      exact CJ_skip <| QJ_block_normal <| QJ_then <| CJ_region <| oP (PJ_eq (P_add (a := ((x9 : Nat) : Int)) (b := (1 : Int)) rfl rfl (by omega)) rfl) rfl <| oM rfl rfl <| RJ_nil <| nR ⟨n, r11.2, (x9 + 1)⟩ h ⟨rfl, True.intro⟩ (t1_ (t2_ (t1_ (eD eR))))
    ·
     replace h := ite_f hg2 h
     exact CJ_exit <| QJ_then_exit <| QJ_round_exit <| QJ_block_here <| cR x8 (Option.some.inj h).symm True.intro eR
  ·
   rintro a7 hy13
   replace h := seq_inl hK4 hy13
   show CJ _ _ _ _ _ (([] : Slots) ++ forget _ _) (Arr bs a7 :: _)
   refine CJ_seq <| sR <| oM rfl rfl <| oV (VJ_eq (V_len rfl foc1 rl Try.runUnderlying67) (congrArg (fun z : Nat => Value.int .i64 (z : Int)) (hdl2).symm)) rfl <| oM rfl rfl <| nT ?_
   obtain ⟨y16, hl14, hK15⟩ := seq_e h
   refine CJ_cutT (X := ArrS) [6, 7, 12, 13, 33, 34, 35, 36, 37, 38, 39, 40, 41, 42] (fun a18 => ([] : Slots)) (fun a18 R => Arr bs a18 :: R) (fun a18 => y16 = .inl a18) (Dels.cons del0 Dels.nil) ?_ ?_
   ·
    refine CJ_block <| CJ_loopR (X := Nat × ArrS × Nat) [6, 7, 12, 13, 33, 34, 35, 36, 37, 38, 39, 40, 41, 42] (fun ⟨n, x19, x20⟩ => ([(33, .int .i64 (((x20 : Nat) : Int)))] : Slots)) (fun ⟨n, x19, x20⟩ R => Arr bs x19 :: R) (fun ⟨n, x19, x20⟩ => copies_Commit_l2 l n x19 x20 = some y16) (fun ⟨n, x19, x20⟩ => n) ⟨FUEL, a7, 0⟩ ?_ ?_ eR ?_
    · exact hl14
    · exact ⟨rfl, True.intro⟩
    ·
     rintro ⟨n, x19, x20⟩ h
     cases n with
     | zero => exact none_e h
     | succ n => ?_
     replace h : copies_Commit_l2_b l (copies_Commit_l2 l n) x19 x20 = some y16 := h
     unfold copies_Commit_l2_b at h
     show CJ _ _ _ _ _ (([(33, .int .i64 (((x20 : Nat) : Int)))] : Slots) ++ forget _ _) (Arr bs x19 :: _)
     refine sR <| oP (P_lss (a := ((x20 : Nat) : Int)) (b := ((l.length : Nat) : Int)) rfl rfl) rfl <| nT <| CJ_seq <| CJ_condP rfl bT_dec (fun hg4 => ?_) (fun hg4 => ?_)
     ·
      replace h := ite_t hg4 h
      refine kT <| CJ_seq <| CJ_block <| sR <| oV (V_index (i := x20) rfl rfl rfl (by have hz : x20 < l.length := (by omega); have hy := hdl2; omega) foc1 rl Try.runUnderlying67 Try.sizeOf26) rfl <| RJ_ent (Ent.trans (t2_ eR) (Rs_at (fun _ _ => Dup_DevP) (dx := dv0) (dh := tyDev.dflt) (i := x20) (by omega))) <| oV (V_loadE rfl rfl (by have hz : x20 < l.length := (by omega); have hy := hdl2; omega) foc3 rl rfl rfl Try.isAgg26) rfl <| oA rfl rfl <| nT <| sR <| oM rfl rfl ?_
      obtain ⟨r22, hr23, h⟩ := bind_e h
      refine oO <| O_call (L_ring_Switch hr23) rfl Try.call17 (Dels.cons del0 (Dels.cons del1 Dels.nil)) rfl fun _ _ => oA rfl rfl <| nT <| sR <| oM rfl rfl <| oP (P_neq (a := r22.1) (b := (0 : Int)) rfl rfl) rfl <| nT <| CJ_condP rfl bT_dec (fun hg5 => ?_) (fun hg5 => ?_)
      ·
       replace h := ite_t hg5 h
       refine sR <| oM rfl rfl <| oA rfl rfl <| oA rfl rfl <| nT <| CJ_ret <| QJ_block_ret <| QJ_then_ret <| QJ_round_ret <| QJ_block_ret <| QJ_then_ret ?_
       have hE := Option.some.inj h
       replace hE := seq_inr hK15 hE.symm
       subst hE
       exact fE (res2 Try.results45 rfl rfl) () (t3_ (t2_ (t1_ (eD eR))))
      ·
       replace h := ite_f hg5 h
       exact CJ_skip <| QJ_block_normal <| QJ_then <| CJ_region <| oP (PJ_eq (P_add (a := ((x20 : Nat) : Int)) (b := (1 : Int)) rfl rfl (by omega)) rfl) rfl <| oM rfl rfl <| RJ_nil <| nR ⟨n, r22.2, (x20 + 1)⟩ h ⟨rfl, True.intro⟩ (t1_ (t2_ (t1_ (eD eR))))
     ·
      replace h := ite_f hg4 h
      exact CJ_exit <| QJ_then_exit <| QJ_round_exit <| QJ_block_here <| cR x19 (Option.some.inj h).symm True.intro eR
   ·
    rintro a18 hy24
    replace h := seq_inl hK15 hy24
    show CJ _ _ _ _ _ (([] : Slots) ++ forget _ _) (Arr bs a18 :: _)
    refine sR <| oA rfl rfl <| oA rfl rfl <| nT <| CJ_ret ?_
    cases h
    exact fE (res2 Try.results45 rfl rfl) () (t1_ (t1_ eR))
end Go.Proofs
namespace Go.Proofs
open Go.VG
abbrev zC : api_Copy := ⟨false, 0, ByteArray.empty⟩
theorem best_same {l : List api_Copy} {c : api_Copy} (hc : ∀ i, i < l.length → l.getD i zC = c) : ∀ (N i : Nat), l.length - i < N → 0 < l.length → copies_best__copies_Choose_1_l1 l N i 0 = some 0
  | 0, _, h, _ => absurd h (by omega)
  | N + 1, i, h, h0 => by
    have e1 : copies_best__copies_Choose_1_l1 l (N + 1) i 0 = copies_best__copies_Choose_1_l1_b l (copies_best__copies_Choose_1_l1 l N) i 0 := rfl
    rw [e1]
    unfold copies_best__copies_Choose_1_l1_b copies_Choose_1 copies_Choose_2
    by_cases hlt : i < l.length
    · rw [if_pos (by omega)]; simp only [Option.bind_some]
      have ih := best_same hc N (i + 1) (by omega) h0
      split
      · rw [if_neg (by omega), grd_pos (decide_eq_true (by omega)), show ((0 : Int)).toNat = 0 from rfl, hc i hlt, hc 0 h0, if_neg (by simp)]
        exact ih
      · exact ih
    · rw [if_neg (by omega)]
theorem conf_same {l : List api_Copy} {c : api_Copy} (hc : ∀ i, i < l.length → l.getD i zC = c) (h0 : 0 < l.length) : ∀ (N i : Nat), l.length - i < N → copies_Choose_l1 l 0 N i = some (.inl ())
  | 0, _, h => absurd h (by omega)
  | N + 1, i, h => by
    show copies_Choose_l1_b l 0 (copies_Choose_l1 l 0 N) i = _
    unfold copies_Choose_l1_b
    by_cases hlt : i < l.length
    · have ih := conf_same hc h0 N (i + 1) (by omega)
      rw [if_pos (by omega), grd_pos (decide_eq_true (by omega)), grd_pos (decide_eq_true (by omega)), if_neg (show ¬ false = true by decide), show ((0 : Int)).toNat = 0 from rfl, hc i hlt, hc 0 h0]
      split
      · rw [if_pos rfl, if_neg (fun x => x rfl)]; exact ih
      · exact ih
    · rw [if_neg (by omega)]
theorem choose_same {l : List api_Copy} {c : api_Copy} (hc : ∀ i, i < l.length → l.getD i zC = c) (h0 : 0 < l.length) (hl : l.length ≤ 1000) (hv : c.Valid = true) : copies_Choose l = some (0, 0) := by
  unfold copies_Choose copies_best__copies_Choose_1
  have hF := fuel_big
  generalize FUEL = N at hF ⊢
  obtain ⟨M, rfl⟩ : ∃ M, N = M + 1 := ⟨N - 1, by omega⟩
  have e1 : copies_best__copies_Choose_1_l1 l (M + 1) 0 (-1) = copies_best__copies_Choose_1_l1_b l (copies_best__copies_Choose_1_l1 l M) 0 (-1) := rfl
  have e2 : copies_best__copies_Choose_1_l1 l (M + 1) 0 (-1) = some 0 := by
    rw [e1]
    unfold copies_best__copies_Choose_1_l1_b copies_Choose_1
    rw [if_pos (by omega)]; simp only [Option.bind_some]
    rw [if_pos (by rw [show l.getD 0 (⟨false, 0, ByteArray.empty⟩ : api_Copy) = c from hc 0 h0]; exact hv), if_pos (by omega)]
    exact best_same hc M 1 (by omega) h0
  rw [e2]; simp only [Option.bind_some]
  rw [if_neg (by omega), conf_same hc h0 (M + 1) 0 (by omega)]; rfl
end Go.Proofs
set_option linter.unusedSimpArgs false
set_option linter.unusedVariables false
set_option maxRecDepth 20000
set_option maxHeartbeats 4000000
namespace Go.Proofs
open Go.VG
def volumegrouplaw13_areas_l1_b (n_0 : Int) (size : Int) (rec : (List (List UInt64)) → Nat → Option ((List (List UInt64)))) (x10 : List (List UInt64)) (x13 : Nat) : Option ((List (List UInt64))) :=
  if (((x13 : Nat) : Int) < n_0) then
    grd (decide (0 ≤ size ∧ size ≤ 1000000000)) <|
    grd (inLen (x10.length + 1)) <|
    grd (inN64 (x13 + 1)) <|
    rec ((x10 ++ [(List.replicate ((size).toNat) (0 : UInt64))])) (x13 + 1)
  else
    some x10
def volumegrouplaw13_areas_l1 (n_0 : Int) (size : Int) : Nat → (List (List UInt64)) → Nat → Option ((List (List UInt64)))
  | 0, _, _ => none
  | n + 1, x10, x13 => volumegrouplaw13_areas_l1_b n_0 size (volumegrouplaw13_areas_l1 n_0 size n) x10 x13
def volumegrouplaw13_areas (n_0 : Int) (size : Int) : Option ((Option ArrS)) :=
  Option.bind (volumegrouplaw13_areas_l1 n_0 size FUEL (([] : List (List UInt64))) 0) fun a9 =>
  Option.bind (volumegroupmake_Loaded a9) fun r26 =>
  some r26
theorem L_volumegrouplaw13_areas {W : World} {n_0 : Int} {size : Int} {r : (Option ArrS)} (h : volumegrouplaw13_areas n_0 size = some r) :
    CSpec Try.prog W 44 [.int .i64 n_0, .int .i64 size] [] (fun x : Nat => oval r x) (fun _ => True) (fun x F => optP (Arr x) r :: F) := by
 refine CSpec.of_body Try.func44 rfl Try.ntmps44 rfl fun F => ?_
 show CJ _ _ _ _ _ _ (F)
 unfold volumegrouplaw13_areas at h
 refine sR <| oA rfl rfl <| nT <| sR <| oA rfl rfl <| nT <| CJ_seq <| sR <| oA rfl rfl <| nT <| CJ_ent (fun h hh => sl_nil (t := tyRow) h (rs_nil (RP := RowP) h hh)) ?_
 obtain ⟨y5, hl3, hK4⟩ := bind_c h
 refine CJ_cutT (X := (List (List UInt64)) × Sl3 × (List Sl3)) [5, 6, 7, 8, 9, 10, 11, 12, 13, 14, 15, 16] (fun ⟨a9, hd7, hs8⟩ => ([(5, hd7.v)] : Slots)) (fun ⟨a9, hd7, hs8⟩ R => sl tyRow hd7.v hs8 :: Rs RowP a9 hs8 :: R) (fun ⟨a9, hd7, hs8⟩ => y5 = a9) (Dels.cons del0 (Dels.cons del0 Dels.nil)) ?_ ?_
 ·
  refine CJ_block <| CJ_loopR (X := Nat × (List (List UInt64)) × Nat × Sl3 × (List Sl3)) [5, 6, 7, 8, 9, 10, 11, 12, 13, 14, 15, 16] (fun ⟨n, x10, x13, hd11, hs12⟩ => ([(5, hd11.v), (6, .int .i64 (((x13 : Nat) : Int)))] : Slots)) (fun ⟨n, x10, x13, hd11, hs12⟩ R => sl tyRow hd11.v hs12 :: Rs RowP x10 hs12 :: R) (fun ⟨n, x10, x13, hd11, hs12⟩ => volumegrouplaw13_areas_l1 n_0 size n x10 x13 = some y5) (fun ⟨n, x10, x13, hd11, hs12⟩ => n) ⟨FUEL, ([] : List (List UInt64)), 0, ⟨none, 0, 0⟩, ([] : List Sl3)⟩ ?_ ?_ eR ?_
  · exact hl3
  · exact ⟨rfl, rfl, True.intro⟩
  ·
   rintro ⟨n, x10, x13, hd11, hs12⟩ h
   cases n with
   | zero => exact none_e h
   | succ n => ?_
   replace h : volumegrouplaw13_areas_l1_b n_0 size (volumegrouplaw13_areas_l1 n_0 size n) x10 x13 = some y5 := h
   unfold volumegrouplaw13_areas_l1_b at h
   show CJ _ _ _ _ _ (([(5, hd11.v), (6, .int .i64 (((x13 : Nat) : Int)))] : Slots) ++ forget _ _) (sl tyRow hd11.v hs12 :: Rs RowP x10 hs12 :: _)
   refine lC del0 fun hlen14 => CJ_pure (fun h hh => Rs_len (stars_perm (del1 (A := Rs RowP x10 hs12)).out h hh)) fun hdl15 => CJ_seq <| sR <| oM rfl rfl <| oM rfl rfl <| oP (P_lss (a := ((x13 : Nat) : Int)) (b := n_0) rfl rfl) rfl <| nT <| CJ_condP rfl bT_dec (fun hg1 => ?_) (fun hg1 => ?_)
   ·
    replace h := ite_t hg1 h
    refine kT <| CJ_seq <| CJ_block <| CJ_region <| oM rfl rfl <| oM rfl rfl ?_
    obtain ⟨hg2, h⟩ := grd_de h
    refine oO <| O_make (t := tyU) (m := (size).toNat) (x0 := 0) (z := _) (bytes := _) rfl rfl (Int.toNat_of_nonneg (hg2.1)).symm (Int.toNat_of_nonneg (hg2.1)).symm Try.underlying29 ⟨Try.t39, by kernel_rfl, rfl, rfl, rfl⟩ rfl (by omega) (by decide) rfl fun b16 => oO <| O_buildSlice rfl (bs_62_1_0 _ _ _) rfl fun b17 => RJ_shareS del1 <| RJ_ent (Ent.trans (t0_ eR) (fun h hh => stars_dup Dup.slR hh)) <| RJ_ent (Ent.take1 del0 (RowP_of (h := (⟨some ⟨b16, 0, none⟩, (size).toNat, (size).toNat⟩ : Sl3)) Dup.slR (Reads.slR _ _ _)) eR) ?_
    obtain ⟨hg3, h⟩ := grd_Le h
    refine oO <| O_append (t := tyRow) (bytes := 24) rfl rfl del3 foc2 (Reads.lit (t := tyRow) (ys := [(⟨some ⟨b16, 0, none⟩, (size).toNat, (size).toNat⟩ : Sl3)]) rfl rfl (by decide) (by decide) rfl) Try.underlying62 ok_tyRow (apl (m := 1) (b := 24) (by have hz : _ ≤ 1000000000 := hg3; have := hdl15; omega) (by decide)).1 (apl (m := 1) (b := 24) (by have hz : _ ≤ 1000000000 := hg3; have := hdl15; omega) (by decide)).2 rfl fun p20 c21 => RJ_ent (Ent.trans (t4_ (t1_ eR)) (Rs_push (x := (List.replicate ((size).toNat) (0 : UInt64))) (g := (⟨some ⟨b16, 0, none⟩, (size).toNat, (size).toNat⟩ : Sl3)) Dup_RowP)) <| RJ_pure (fun h hh => Rs_len (stars_perm (del0 (A := Rs RowP ((x10 ++ [(List.replicate ((size).toNat) (0 : UInt64))])) ((hs12 ++ [(⟨some ⟨b16, 0, none⟩, (size).toNat, (size).toNat⟩ : Sl3)])))).out h hh)) fun hdl22 => oA rfl rfl <| RJ_nil <| QJ_block_normal <| QJ_then <| CJ_region <| oM rfl rfl ?_
    obtain ⟨hg4, h⟩ := grd_Ne h
    exact oP (PJ_eq (P_add (a := ((x13 : Nat) : Int)) (b := (1 : Int)) rfl rfl (nat_in hg4)) rfl) rfl <| oA rfl rfl <| RJ_nil <| nR ⟨n, (x10 ++ [(List.replicate ((size).toNat) (0 : UInt64))]), (x13 + 1), ⟨p20, (hs12 ++ [(⟨some ⟨b16, 0, none⟩, (size).toNat, (size).toNat⟩ : Sl3)]).length, c21⟩, (hs12 ++ [(⟨some ⟨b16, 0, none⟩, (size).toNat, (size).toNat⟩ : Sl3)])⟩ h ⟨rfl, rfl, True.intro⟩ (t2_ (t0_ (eD (eD (eD eR)))))
   ·
    replace h := ite_f hg1 h
    exact CJ_exit <| QJ_then_exit <| QJ_round_exit <| QJ_block_here <| cR ⟨x10, hd11, hs12⟩ (Option.some.inj h).symm ⟨rfl, True.intro⟩ eR
 ·
  rintro ⟨a9, hd7, hs8⟩ hy23
  replace h := bindK_at hK4 hy23
  show CJ _ _ _ _ _ (([(5, hd7.v)] : Slots) ++ forget _ _) (sl tyRow hd7.v hs8 :: Rs RowP a9 hs8 :: _)
  refine lC del0 fun hlen24 => CJ_pure (fun h hh => Rs_len (stars_perm (del1 (A := Rs RowP a9 hs8)).out h hh)) fun hdl25 => sR <| oM rfl rfl ?_
  obtain ⟨r26, hr27, h⟩ := bind_e h
  refine oO <| O_call (L_volumegroupmake_Loaded (Reads.sl _ _ _) (RowsR.rs hdl25) hr27) rfl Try.call36 (Dels.cons del0 (Dels.cons del0 Dels.nil)) rfl fun X28 _ => oA rfl rfl <| nT <| CJ_ret ?_
  cases h
  exact fE (res1 Try.results44 rfl) X28 (t2_ (eD (eD eR)))
def volumegrouplaw13_some_l1_b (bits : Int) (r1 : (List Dvc)) (rec : (List Dvc) → Nat → Option ((List Dvc))) (x16 : List Dvc) (x19 : Nat) : Option ((List Dvc)) :=
  if (((x19 : Nat) : Int) < ((r1.length : Nat) : Int)) then
    if ((andI (shrI bits x19) (1 : Int)) = (1 : Int)) then
      grd (inLen (x16.length + 1)) <|
      grd (inN64 (x19 + 1)) <|
      rec ((x16 ++ [(r1.getD x19 dv0)])) (x19 + 1)
    else
      grd (inN64 (x19 + 1)) <|
      rec x16 (x19 + 1)
  else
    some x16
def volumegrouplaw13_some_l1 (bits : Int) (r1 : (List Dvc)) : Nat → (List Dvc) → Nat → Option ((List Dvc))
  | 0, _, _ => none
  | n + 1, x16, x19 => volumegrouplaw13_some_l1_b bits r1 (volumegrouplaw13_some_l1 bits r1 n) x16 x19
def volumegrouplaw13_some (a : ArrS) (bits : Int) : Option ((List Dvc)) :=
  Option.bind (volumegroupmake_Spans a) fun r1 =>
  Option.bind (volumegrouplaw13_some_l1 bits r1 FUEL ([] : List Dvc) 0) fun a15 =>
  some a15
theorem L_volumegrouplaw13_some {W : World} {ba : Nat} {a : ArrS} {bits : Int} {r : (List Dvc)} (h : volumegrouplaw13_some a bits = some r) :
    CSpec Try.prog W 46 [ptr ba 0, .int .i64 bits] [Arr ba a] (fun x : (Sl3 × List IfH) => x.1.v) (fun _ => True) (fun x F => Arr ba a :: sl tyDev x.1.v x.2 :: Rs (DevP ba) r x.2 :: F) := by
 refine CSpec.of_body Try.func46 rfl Try.ntmps46 rfl fun F => ?_
 show CJ _ _ _ _ _ _ (_ :: F)
 unfold volumegrouplaw13_some at h
 refine sR <| oA rfl rfl <| nT <| sR <| oM rfl rfl ?_
 obtain ⟨r1, hr2, h⟩ := bind_e h
 refine oO <| O_call (L_volumegroupmake_Spans hr2) rfl Try.call37 (Dels.cons del0 Dels.nil) rfl fun X3 _ => RJ_pure (fun h hh => Rs_len (stars_perm (del2 (A := Rs (DevP ba) r1 X3.2)).out h hh)) fun hdl6 => oA rfl rfl <| nT <| sR <| oA rfl rfl <| nT <| CJ_seq <| sR <| oA rfl rfl <| nT <| CJ_ent (fun h hh => sl_nil (t := tyDev) h (rs_nil (RP := DevP ba) h hh)) ?_
 obtain ⟨y11, hl9, hK10⟩ := bind_c h
 refine CJ_cutT (X := (List Dvc) × Sl3 × (List IfH)) [6, 7, 10, 11, 12, 13, 14, 15, 16, 17, 18, 19, 20, 21, 22, 23, 24, 25, 26, 27] (fun ⟨a15, hd13, hs14⟩ => ([(6, hd13.v)] : Slots)) (fun ⟨a15, hd13, hs14⟩ R => sl tyDev hd13.v hs14 :: Rs (DevP ba) a15 hs14 :: R) (fun ⟨a15, hd13, hs14⟩ => y11 = a15) (Dels.cons del0 (Dels.cons del0 Dels.nil)) ?_ ?_
 ·
  refine CJ_block <| CJ_loopR (X := Nat × (List Dvc) × Nat × Sl3 × (List IfH)) [6, 7, 10, 11, 12, 13, 14, 15, 16, 17, 18, 19, 20, 21, 22, 23, 24, 25, 26, 27] (fun ⟨n, x16, x19, hd17, hs18⟩ => ([(6, hd17.v), (7, .int .i64 (((x19 : Nat) : Int)))] : Slots)) (fun ⟨n, x16, x19, hd17, hs18⟩ R => sl tyDev hd17.v hs18 :: Rs (DevP ba) x16 hs18 :: R) (fun ⟨n, x16, x19, hd17, hs18⟩ => volumegrouplaw13_some_l1 bits r1 n x16 x19 = some y11) (fun ⟨n, x16, x19, hd17, hs18⟩ => n) ⟨FUEL, ([] : List Dvc), 0, ⟨none, 0, 0⟩, ([] : List IfH)⟩ ?_ ?_ eR ?_
  · exact hl9
  · exact ⟨rfl, rfl, True.intro⟩
  ·
   rintro ⟨n, x16, x19, hd17, hs18⟩ h
   cases n with
   | zero => exact none_e h
   | succ n => ?_
   replace h : volumegrouplaw13_some_l1_b bits r1 (volumegrouplaw13_some_l1 bits r1 n) x16 x19 = some y11 := h
   unfold volumegrouplaw13_some_l1_b at h
   show CJ _ _ _ _ _ (([(6, hd17.v), (7, .int .i64 (((x19 : Nat) : Int)))] : Slots) ++ forget _ _) (sl tyDev hd17.v hs18 :: Rs (DevP ba) x16 hs18 :: _)
   refine lC del0 fun hlen20 => CJ_pure (fun h hh => Rs_len (stars_perm (del1 (A := Rs (DevP ba) x16 hs18)).out h hh)) fun hdl21 => CJ_seq <| sR <| oM rfl rfl <| oM rfl rfl <| oV (VJ_eq (V_len rfl foc3 (Reads.sl _ _ _) Try.runUnderlying67) (congrArg (fun z : Nat => Value.int .i64 (z : Int)) (hdl6).symm)) rfl <| oP (P_lss (a := ((x19 : Nat) : Int)) (b := ((r1.length : Nat) : Int)) rfl rfl) rfl <| nT <| CJ_condP rfl bT_dec (fun hg1 => ?_) (fun hg1 => ?_)
   ·
    replace h := ite_t hg1 h
    refine kT <| CJ_seq <| CJ_block <| sR <| oM rfl rfl <| oM rfl rfl <| oP (P_shr_i64 (a := bits) (m := x19) rfl rfl rfl) rfl <| oP (P_and (a := (shrI bits x19)) (m := (1 : Int)) rfl rfl (by decide)) rfl <| oP (P_eql (a := (andI (shrI bits x19) (1 : Int))) (b := (1 : Int)) rfl rfl) rfl <| nT <| CJ_condP rfl bT_dec (fun hg3 => ?_) (fun hg3 => ?_)
    ·
     replace h := ite_t hg3 h
     refine CJ_region <| oM rfl rfl <| oM rfl rfl <| oM rfl rfl <| oV (V_index (i := x19) rfl rfl rfl (by have hz : x19 < r1.length := (by omega); have hy := hdl6; omega) foc3 (Reads.sl _ _ _) Try.runUnderlying67 Try.sizeOf26) rfl <| RJ_ent (Ent.trans (t4_ eR) (Rs_at (fun _ _ => Dup_DevP) (dx := dv0) (dh := tyDev.dflt) (i := x19) (by omega))) <| oV (V_loadE rfl rfl (by have hz : x19 < r1.length := (by omega); have hy := hdl6; omega) foc5 (Reads.sl _ _ _) rfl rfl Try.isAgg26) rfl <| oO <| O_buildSlice rfl (bs_67_1_0 _ _) rfl fun b23 => ?_
     obtain ⟨hg4, h⟩ := grd_Le h
     refine oO <| O_append (t := tyDev) (bytes := 16) rfl rfl del3 foc0 (Reads.lit (t := tyDev) (ys := [(X3.2.getD x19 tyDev.dflt)]) rfl rfl (by decide) (by decide) rfl) Try.underlying67 ok_tyDev (apl (m := 1) (b := 16) (by have hz : _ ≤ 1000000000 := hg4; have := hdl21; omega) (by decide)).1 (apl (m := 1) (b := 16) (by have hz : _ ≤ 1000000000 := hg4; have := hdl21; omega) (by decide)).2 rfl fun p25 c26 => RJ_ent (Ent.trans (t4_ (t2_ eR)) (Rs_push (x := (r1.getD x19 dv0)) (g := (X3.2.getD x19 tyDev.dflt)) (fun _ _ => Dup_DevP))) <| RJ_pure (fun h hh => Rs_len (stars_perm (del0 (A := Rs (DevP ba) ((x16 ++ [(r1.getD x19 dv0)])) ((hs18 ++ [(X3.2.getD x19 tyDev.dflt)])))).out h hh)) fun hdl27 => oA rfl rfl <| RJ_nil <| QJ_block_normal <| QJ_ent (t0_ (t1_ (t2_ (t2_ (t2_ (eD (eD eR))))))) <| QJ_then <| CJ_region <| oM rfl rfl ?_
     obtain ⟨hg5, h⟩ := grd_Ne h
     exact oP (PJ_eq (P_add (a := ((x19 : Nat) : Int)) (b := (1 : Int)) rfl rfl (nat_in hg5)) rfl) rfl <| oA rfl rfl <| RJ_nil <| nR ⟨n, (x16 ++ [(r1.getD x19 dv0)]), (x19 + 1), ⟨p25, (hs18 ++ [(X3.2.getD x19 tyDev.dflt)]).length, c26⟩, (hs18 ++ [(X3.2.getD x19 tyDev.dflt)])⟩ h ⟨rfl, rfl, True.intro⟩ (t1_ (t0_ (t1_ (t1_ eR))))
    ·
     replace h := ite_f hg3 h
     refine CJ_skip <| QJ_block_normal <| QJ_then <| CJ_region <| oM rfl rfl ?_
     obtain ⟨hg6, h⟩ := grd_Ne h
     exact oP (PJ_eq (P_add (a := ((x19 : Nat) : Int)) (b := (1 : Int)) rfl rfl (nat_in hg6)) rfl) rfl <| oA rfl rfl <| RJ_nil <| nR ⟨n, x16, (x19 + 1), hd17, hs18⟩ h ⟨rfl, rfl, True.intro⟩ eR
   ·
    replace h := ite_f hg1 h
    exact CJ_exit <| QJ_then_exit <| QJ_round_exit <| QJ_block_here <| cR ⟨x16, hd17, hs18⟩ (Option.some.inj h).symm ⟨rfl, True.intro⟩ eR
 ·
  rintro ⟨a15, hd13, hs14⟩ hy28
  replace h := bindK_at hK10 hy28
  show CJ _ _ _ _ _ (([(6, hd13.v)] : Slots) ++ forget _ _) (sl tyDev hd13.v hs14 :: Rs (DevP ba) a15 hs14 :: _)
  refine lC del0 fun hlen29 => CJ_pure (fun h hh => Rs_len (stars_perm (del1 (A := Rs (DevP ba) a15 hs14)).out h hh)) fun hdl30 => sR <| oM rfl rfl <| oA rfl rfl <| nT <| CJ_ret ?_
  cases h
  exact fE (res1 Try.results46 rfl) (hd13, hs14) (t2_ (t0_ (t0_ (eD (eD eR)))))
def volumegrouplaw13_awake : Option (Bool) :=
  Option.bind (volumegrouplaw13_areas (2 : Int) (12 : Int)) fun r1 =>
  Option.elim r1 (
    some false) fun o6 =>
  Option.bind (volumegrouplaw13_some o6 (3 : Int)) fun r7 =>
  Option.bind (copies_Commit r7 (1 : Int) (ByteArray.mk #[116, 101, 120, 116]) o6) fun r13 =>
  Option.bind (volumegrouplaw13_some r13.2.2 (3 : Int)) fun r15 =>
  Option.bind (copies_Scan r15 r13.2.2) fun r21 =>
  Option.bind (copies_Choose r21.1) fun r26 =>
  some (((((((((decide (r13.2.1 = (0 : Int))) && r13.1) && (decide (r26.2 = (0 : Int)))) && (decide (r26.1 = (0 : Int)))) && (decide (((r21.1.length : Nat) : Int) = (2 : Int)))) && (decide (((r21.1.getD 1 (⟨false, 0, ByteArray.empty⟩ : api_Copy))).Text = (ByteArray.mk #[116, 101, 120, 116])))) && (decide (((r21.2.1.length : Nat) : Int) = (0 : Int)))) && (decide (r21.2.2 = (1 : Int)))))
theorem L_volumegrouplaw13_awake {W : World} {r : Bool} (h : volumegrouplaw13_awake = some r) :
    CSpec Try.prog W 43 [] [] (fun x : Unit => .bool r) (fun _ => True) (fun x F => F) := by
 refine CSpec.of_body Try.func43 rfl Try.ntmps43 rfl fun F => ?_
 show CJ _ _ _ _ _ _ (F)
 unfold volumegrouplaw13_awake at h
 refine sR <| oA rfl rfl <| nT <| sR ?_
 obtain ⟨r1, hr2, h⟩ := bind_e h
 refine oO <| O_call (L_volumegrouplaw13_areas hr2) rfl Try.call44 Dels.nil rfl fun X3 _ => oA rfl rfl <| nT <| CJ_seq <| sR <| oM rfl rfl ?_
 rcases opt_e h with ⟨ht5, h⟩ | ⟨o6, ht5, h⟩
 ·
  rw [ht5]
  refine RJ_ent (eD eR) <| oP (P_eqlNN rfl rfl Try.underlying24) rfl <| nT <| CJ_condT rfl rfl <| sR <| oA rfl rfl <| nT <| CJ_ret <| QJ_then_ret ?_
  cases h
  exact fE (res1 Try.results43 rfl) () eR
 ·
  rw [ht5]
  refine RJ_ent (Ent.takeC (A' := Arr X3 o6) del0 rfl eR) <| oP (P_eqlPN rfl rfl Try.underlying24) rfl <| nT <| CJ_condF rfl rfl <| kT <| sR <| oM rfl rfl ?_
  obtain ⟨r7, hr8, h⟩ := bind_e h
  refine oO <| O_call (L_volumegrouplaw13_some hr8) rfl Try.call46 (Dels.cons del0 Dels.nil) rfl fun X9 _ => RJ_pure (fun h hh => Rs_len (stars_perm (del2 (A := Rs (DevP X3) r7 X9.2)).out h hh)) fun hdl12 => ?_
  obtain ⟨r13, hr14, h⟩ := bind_e h
  refine oO <| O_call (L_copies_Commit (Reads.sl _ _ _) hr14) rfl Try.call45 (Dels.cons del1 (Dels.cons del1 (Dels.cons del0 Dels.nil))) rfl fun _ _ => oM rfl rfl <| oP (P_extract rfl rfl) rfl <| oP (P_extract rfl rfl) rfl <| oA rfl rfl <| oA rfl rfl <| nT <| sR <| oM rfl rfl ?_
  obtain ⟨r15, hr16, h⟩ := bind_e h
  refine oO <| O_call (L_volumegrouplaw13_some hr16) rfl Try.call46 (Dels.cons del2 Dels.nil) rfl fun X17 _ => RJ_pure (fun h hh => Rs_len (stars_perm (del2 (A := Rs (DevP X3) r15 X17.2)).out h hh)) fun hdl20 => ?_
  obtain ⟨r21, hr22, h⟩ := bind_e h
  refine oO <| O_call (L_copies_Scan (Reads.sl _ _ _) hr22) rfl Try.call41 (Dels.cons del1 (Dels.cons del1 (Dels.cons del0 Dels.nil))) rfl fun X23 _ => oM rfl rfl <| oP (P_extract (v := X23.1.v) rfl rfl) rfl <| oP (P_extract (v := X23.2.v) rfl rfl) rfl <| oP (P_extract rfl rfl) rfl <| oA rfl rfl <| oA rfl rfl <| oA rfl rfl <| RJ_nil <| QJ_ent (t2_ (t2_ (t2_ (eD (eD (eD (eD eR))))))) <| QJ_then <| sR <| oM rfl rfl ?_
  obtain ⟨r26, hr27, h⟩ := bind_e h
  refine oO <| O_call (L_copies_Choose (Reads.sl _ _ _) hr27) rfl Try.call48 (Dels.cons del1 Dels.nil) rfl fun _ _ => oM rfl rfl <| oP (P_extract rfl rfl) rfl <| oP (P_extract rfl rfl) rfl <| oA rfl rfl <| oA rfl rfl <| nT <| sR <| oM rfl rfl <| oP (P_eql (a := r13.2.1) (b := (0 : Int)) rfl rfl) rfl <| oM rfl rfl <| RJ_mbT rfl rfl rfl (fun hG28 => have hP29 : (r13.2.1 = (0 : Int)) := (bT_dec).1 hG28; VJ_P (P_move rfl)) <| oP (P_pickAnd rfl (fun hh => mbx hh rfl) rfl) rfl <| oM rfl rfl <| RJ_mbT rfl rfl rfl (fun hG30 => have hP31 : ((r13.2.1 = (0 : Int)) ∧ r13.1 = true) := ((bT_and bT_dec Iff.rfl)).1 hG30; VJ_P (P_move rfl)) <| RJ_mbT rfl rfl rfl (fun hG32 => have hP33 : ((r13.2.1 = (0 : Int)) ∧ r13.1 = true) := ((bT_and bT_dec Iff.rfl)).1 hG32; VJ_P (P_eql (a := r26.2) (b := (0 : Int)) (mbx hG32 rfl) rfl)) <| oP (P_pickAnd rfl (fun hh => mbx hh rfl) rfl) rfl <| oM rfl rfl <| RJ_mbT rfl rfl rfl (fun hG34 => have hP35 : (((r13.2.1 = (0 : Int)) ∧ r13.1 = true) ∧ (r26.2 = (0 : Int))) := ((bT_and (bT_and bT_dec Iff.rfl) bT_dec)).1 hG34; VJ_P (P_move rfl)) <| RJ_mbT rfl rfl rfl (fun hG36 => have hP37 : (((r13.2.1 = (0 : Int)) ∧ r13.1 = true) ∧ (r26.2 = (0 : Int))) := ((bT_and (bT_and bT_dec Iff.rfl) bT_dec)).1 hG36; VJ_P (P_eql (a := r26.1) (b := (0 : Int)) (mbx hG36 rfl) rfl)) <| oP (P_pickAnd rfl (fun hh => mbx hh rfl) rfl) rfl <| oM rfl rfl ?_
  refine RJ_mbT rfl rfl rfl (fun hG38 => have hP39 : ((((r13.2.1 = (0 : Int)) ∧ r13.1 = true) ∧ (r26.2 = (0 : Int))) ∧ (r26.1 = (0 : Int))) := ((bT_and (bT_and (bT_and bT_dec Iff.rfl) bT_dec) bT_dec)).1 hG38; VJ_P (P_move rfl)) <| RJ_mbT rfl rfl rfl (fun hG40 => have hP41 : ((((r13.2.1 = (0 : Int)) ∧ r13.1 = true) ∧ (r26.2 = (0 : Int))) ∧ (r26.1 = (0 : Int))) := ((bT_and (bT_and (bT_and bT_dec Iff.rfl) bT_dec) bT_dec)).1 hG40; V_len (mbx hG40 rfl) foc0 (Reads.sl _ _ _) Try.runUnderlying66) <| RJ_mbT rfl rfl rfl (fun hG42 => have hP43 : ((((r13.2.1 = (0 : Int)) ∧ r13.1 = true) ∧ (r26.2 = (0 : Int))) ∧ (r26.1 = (0 : Int))) := ((bT_and (bT_and (bT_and bT_dec Iff.rfl) bT_dec) bT_dec)).1 hG42; VJ_P (P_eql (a := ((r21.1.length : Nat) : Int)) (b := (2 : Int)) (mbx hG42 rfl) rfl)) <| oP (P_pickAnd rfl (fun hh => mbx hh rfl) rfl) rfl <| oM rfl rfl <| RJ_mbT rfl rfl rfl (fun hG44 => have hP45 : (((((r13.2.1 = (0 : Int)) ∧ r13.1 = true) ∧ (r26.2 = (0 : Int))) ∧ (r26.1 = (0 : Int))) ∧ (((r21.1.length : Nat) : Int) = (2 : Int))) := ((bT_and (bT_and (bT_and (bT_and bT_dec Iff.rfl) bT_dec) bT_dec) bT_dec)).1 hG44; VJ_P (P_move rfl)) <| RJ_mbT rfl rfl rfl (fun hG46 => have hP47 : (((((r13.2.1 = (0 : Int)) ∧ r13.1 = true) ∧ (r26.2 = (0 : Int))) ∧ (r26.1 = (0 : Int))) ∧ (((r21.1.length : Nat) : Int) = (2 : Int))) := ((bT_and (bT_and (bT_and (bT_and bT_dec Iff.rfl) bT_dec) bT_dec) bT_dec)).1 hG46; V_index (i := 1) (mbx hG46 rfl) rfl rfl (by omega) foc0 (Reads.sl _ _ _) Try.runUnderlying66 Try.sizeOf34) ?_
  refine RJ_mbT rfl rfl rfl (fun hG48 => have hP49 : (((((r13.2.1 = (0 : Int)) ∧ r13.1 = true) ∧ (r26.2 = (0 : Int))) ∧ (r26.1 = (0 : Int))) ∧ (((r21.1.length : Nat) : Int) = (2 : Int))) := ((bT_and (bT_and (bT_and (bT_and bT_dec Iff.rfl) bT_dec) bT_dec) bT_dec)).1 hG48; VJ_P (P_fieldE (mbx hG48 rfl) ⟨_, _, _, Try.runUnderlying34, rfl, rfl, Try.sizeOf9, rfl⟩)) <| RJ_mbT rfl rfl rfl (fun hG50 => have hP51 : (((((r13.2.1 = (0 : Int)) ∧ r13.1 = true) ∧ (r26.2 = (0 : Int))) ∧ (r26.1 = (0 : Int))) ∧ (((r21.1.length : Nat) : Int) = (2 : Int))) := ((bT_and (bT_and (bT_and (bT_and bT_dec Iff.rfl) bT_dec) bT_dec) bT_dec)).1 hG50; V_loadE (mbx hG50 rfl) rfl (by omega) foc0 (Reads.sl _ _ _) rfl rfl Try.isAgg9) <| RJ_mbT rfl rfl rfl (fun hG52 => have hP53 : (((((r13.2.1 = (0 : Int)) ∧ r13.1 = true) ∧ (r26.2 = (0 : Int))) ∧ (r26.1 = (0 : Int))) ∧ (((r21.1.length : Nat) : Int) = (2 : Int))) := ((bT_and (bT_and (bT_and (bT_and bT_dec Iff.rfl) bT_dec) bT_dec) bT_dec)).1 hG52; VJ_P (P_eqlStr (a := ((r21.1.getD 1 (⟨false, 0, ByteArray.empty⟩ : api_Copy))).Text) (b := (ByteArray.mk #[116, 101, 120, 116])) (mbx hG52 rfl) rfl Try.underlying9)) <| oP (P_pickAnd rfl (fun hh => mbx hh rfl) rfl) rfl <| oM rfl rfl ?_
  refine RJ_mbT rfl rfl rfl (fun hG54 => have hP55 : ((((((r13.2.1 = (0 : Int)) ∧ r13.1 = true) ∧ (r26.2 = (0 : Int))) ∧ (r26.1 = (0 : Int))) ∧ (((r21.1.length : Nat) : Int) = (2 : Int))) ∧ (((r21.1.getD 1 (⟨false, 0, ByteArray.empty⟩ : api_Copy))).Text = (ByteArray.mk #[116, 101, 120, 116]))) := ((bT_and (bT_and (bT_and (bT_and (bT_and bT_dec Iff.rfl) bT_dec) bT_dec) bT_dec) bT_dec)).1 hG54; VJ_P (P_move rfl)) <| RJ_mbT rfl rfl rfl (fun hG56 => have hP57 : ((((((r13.2.1 = (0 : Int)) ∧ r13.1 = true) ∧ (r26.2 = (0 : Int))) ∧ (r26.1 = (0 : Int))) ∧ (((r21.1.length : Nat) : Int) = (2 : Int))) ∧ (((r21.1.getD 1 (⟨false, 0, ByteArray.empty⟩ : api_Copy))).Text = (ByteArray.mk #[116, 101, 120, 116]))) := ((bT_and (bT_and (bT_and (bT_and (bT_and bT_dec Iff.rfl) bT_dec) bT_dec) bT_dec) bT_dec)).1 hG56; V_len (mbx hG56 rfl) foc2 (Reads.sl _ _ _) Try.runUnderlying38) <| RJ_mbT rfl rfl rfl (fun hG58 => have hP59 : ((((((r13.2.1 = (0 : Int)) ∧ r13.1 = true) ∧ (r26.2 = (0 : Int))) ∧ (r26.1 = (0 : Int))) ∧ (((r21.1.length : Nat) : Int) = (2 : Int))) ∧ (((r21.1.getD 1 (⟨false, 0, ByteArray.empty⟩ : api_Copy))).Text = (ByteArray.mk #[116, 101, 120, 116]))) := ((bT_and (bT_and (bT_and (bT_and (bT_and bT_dec Iff.rfl) bT_dec) bT_dec) bT_dec) bT_dec)).1 hG58; VJ_P (P_eql (a := ((r21.2.1.length : Nat) : Int)) (b := (0 : Int)) (mbx hG58 rfl) rfl)) <| oP (P_pickAnd rfl (fun hh => mbx hh rfl) rfl) rfl <| oM rfl rfl ?_
  refine RJ_mbT rfl rfl rfl (fun hG60 => have hP61 : (((((((r13.2.1 = (0 : Int)) ∧ r13.1 = true) ∧ (r26.2 = (0 : Int))) ∧ (r26.1 = (0 : Int))) ∧ (((r21.1.length : Nat) : Int) = (2 : Int))) ∧ (((r21.1.getD 1 (⟨false, 0, ByteArray.empty⟩ : api_Copy))).Text = (ByteArray.mk #[116, 101, 120, 116]))) ∧ (((r21.2.1.length : Nat) : Int) = (0 : Int))) := ((bT_and (bT_and (bT_and (bT_and (bT_and (bT_and bT_dec Iff.rfl) bT_dec) bT_dec) bT_dec) bT_dec) bT_dec)).1 hG60; VJ_P (P_move rfl)) <| RJ_mbT rfl rfl rfl (fun hG62 => have hP63 : (((((((r13.2.1 = (0 : Int)) ∧ r13.1 = true) ∧ (r26.2 = (0 : Int))) ∧ (r26.1 = (0 : Int))) ∧ (((r21.1.length : Nat) : Int) = (2 : Int))) ∧ (((r21.1.getD 1 (⟨false, 0, ByteArray.empty⟩ : api_Copy))).Text = (ByteArray.mk #[116, 101, 120, 116]))) ∧ (((r21.2.1.length : Nat) : Int) = (0 : Int))) := ((bT_and (bT_and (bT_and (bT_and (bT_and (bT_and bT_dec Iff.rfl) bT_dec) bT_dec) bT_dec) bT_dec) bT_dec)).1 hG62; VJ_P (P_eql (a := r21.2.2) (b := (1 : Int)) (mbx hG62 rfl) rfl)) <| oP (P_pickAnd rfl (fun hh => mbx hh rfl) rfl) rfl <| oA rfl rfl <| nT <| CJ_ret ?_
  cases h
  exact fE (res1 Try.results43 rfl) () (eD (eD (eD eR)))
end Go.Proofs
namespace Go.Proofs
open Go.VG
abbrev dks (ds : List Nat) (n : Nat) : List Dvc := ds.map fun d => Dk d n
theorem dks_getD {ds : List Nat} {n i : Nat} (h : i < ds.length) : (dks ds n).getD i dv0 = Dk (ds.getD i 0) n := by
  simp [dks, List.getD_eq_getElem?_getD, h]
theorem dks_len {ds : List Nat} {n : Nat} : (dks ds n).length = ds.length := by simp [dks]
section
variable {ns : List Nat} {K n : Nat} {s t : ArrS}
theorem Prepd.other {d e st q : Nat} {x : ByteArray} (p : Prepd ns K s d n st q x t) (hde : d ≠ e) (h : Lv ns K e n s) (hK : K + (encT x).length + 1 ≤ 900000) : Lv ns (K + (encT x).length + 1) e n t ∧ Go.Proofs.now t e = Go.Proofs.now s e := by
  have hn : Go.Proofs.now t e = Go.Proofs.now s e := funext fun b => by rw [p.now, if_neg hde]
  exact ⟨⟨p.ok, p.dn, h.hd, h.hn, h.h4, h.hb, by rw [p.miss]; exact h.ms, fun b hb => by rw [p.cand e b h.hd (by rw [h.hn]; exact hb), if_neg hde, h.cl b hb, hn], hK⟩, hn⟩
theorem Put1.other {d e k : Nat} {v : UInt64} (p : Put1 ns K s d k v t) (hde : d ≠ e) (h : Lv ns K e n s) (hK : K + 1 ≤ 900000) : Lv ns (K + 1) e n t ∧ Go.Proofs.now t e = Go.Proofs.now s e := by
  have hn : Go.Proofs.now t e = Go.Proofs.now s e := funext fun b => by rw [p.now, if_neg (fun x => hde x.1)]
  exact ⟨⟨p.ok, p.dn, h.hd, h.hn, h.h4, h.hb, by rw [p.miss]; exact h.ms, fun b hb => by rw [p.cand e b h.hd (by rw [h.hn]; exact hb), if_neg hde, h.cl b hb, hn], hK⟩, hn⟩
def Dist (ds : List Nat) : Prop := ∀ i j, i < j → j < ds.length → ds.getD i 0 ≠ ds.getD j 0
theorem commit_l1 {ds : List Nat} {q : Nat} {x : ByteArray} {c : Nat → Option Txt} {L : Nat} (hx : x.size ≤ 8192) (hq : 1 ≤ q ∧ q ≤ 1048575) (hL : (encT x).length = L) (hd : Dist ds) (hin : ∀ i, i < ds.length → ds.getD i 0 < ns.length)
    (hfit : ∀ i, i < ds.length → L + oLen (c (ds.getD i 0)) ≤ rgR n) : ∀ (N i K : Nat) (s : ArrS), ds.length - i < N → i ≤ ds.length → K + (ds.length - i) * (L + 1) ≤ 700000 → (∀ e, e < ns.length → Lv ns K e n s) → s.fuse = 0 →
    (∀ e, e < ns.length → Hold (now s e) (rgR n) 0 (c e)) → (∀ j, j < i → Hold (now s (ds.getD j 0)) (rgR n) 1 (some ⟨q, nextSt (rgR n) (c (ds.getD j 0)), x⟩)) →
    ∃ t, copies_Commit_l1 (dks ds n) (q : Int) x N s i = some (.inl t) ∧ (∀ e, e < ns.length → Lv ns (K + (ds.length - i) * (L + 1)) e n t) ∧ t.fuse = 0 ∧ (∀ e, e < ns.length → Hold (now t e) (rgR n) 0 (c e)) ∧
      (∀ j, j < ds.length → Hold (now t (ds.getD j 0)) (rgR n) 1 (some ⟨q, nextSt (rgR n) (c (ds.getD j 0)), x⟩)) ∧ (∀ e, (∀ j, i ≤ j → j < ds.length → ds.getD j 0 ≠ e) → now t e = now s e)
  | 0, _, _, _, h, _, _, _, _, _, _ => absurd h (by omega)
  | N + 1, i, K, s, h, hi, hK, hl, hf, h0, h1 => by
    show ∃ t, copies_Commit_l1_b _ _ _ _ _ _ = _ ∧ _
    unfold copies_Commit_l1_b
    rw [dks_len]
    by_cases hlt : i < ds.length
    · rw [if_pos (by omega), dks_getD hlt]
      have hmul : (ds.length - i) * (L + 1) = (L + 1) + (ds.length - (i + 1)) * (L + 1) := by
        rw [show ds.length - i = (ds.length - (i + 1)) + 1 by omega, Nat.add_mul, Nat.one_mul, Nat.add_comm]
      rcases prep_hold (hl _ (hin i hlt)) (by omega) (h0 _ (hin i hlt)) hq hx with ⟨h2, _⟩ | ⟨_, ⟨t, h2, h3, h4, h5, h6⟩ | ⟨h2, _⟩⟩
      · have := hfit i hlt; omega
      · rw [h2]; simp only [Option.bind_some]
        rw [if_neg (by simp)]
        rw [hL] at h4
        have hoth : ∀ e, ds.getD i 0 ≠ e → e < ns.length → Lv ns (K + L + 1) e n t ∧ now t e = now s e := fun e hne he => by
          have := h3.other hne (hl e he) (by omega)
          rw [hL] at this; exact this
        obtain ⟨u, u1, u2, u3, u4, u5, u6⟩ := commit_l1 hx hq hL hd hin hfit N (i + 1) (K + L + 1) t (by omega) (by omega) (by omega) (fun e he => by
          by_cases hne : ds.getD i 0 = e
          · rw [← hne]; exact h4
          · exact (hoth e hne he).1) (by rw [h3.fuse, hf]; omega) (fun e he => by
          by_cases hne : ds.getD i 0 = e
          · rw [← hne]; exact h5
          · rw [(hoth e hne he).2]; exact h0 e he) (fun j hj => by
          rcases Nat.lt_or_ge j i with hji | hji
          · have hne := hd j i hji hlt
            rw [(hoth _ (fun e => hne e.symm) (hin j (by omega))).2]
            exact h1 j hji
          · have : j = i := by omega
            rw [this]; exact h6)
        refine ⟨u, u1, fun e he => ?_, u3, u4, u5, fun e he => ?_⟩
        · have := u2 e he
          rw [show K + (ds.length - i) * (L + 1) = K + L + 1 + (ds.length - (i + 1)) * (L + 1) by omega]
          exact this
        · rw [u6 e (fun j hj hjl => he j (by omega) hjl)]
          funext b
          rw [h3.now, if_neg (he i (Nat.le_refl _) hlt)]
      · exact absurd hf h2
    · rw [if_neg (by omega)]
      have e : i = ds.length := by omega
      refine ⟨s, rfl, fun e he => ?_, hf, h0, fun j hj => h1 j (by omega), fun _ _ => rfl⟩
      rw [show ds.length - i = 0 by omega, Nat.zero_mul]; exact hl e he
theorem commit_l2 {ds : List Nat} {T : Nat → Txt} (hd : Dist ds) (hin : ∀ i, i < ds.length → ds.getD i 0 < ns.length) : ∀ (N i K : Nat) (s : ArrS), ds.length - i < N → i ≤ ds.length → K + (ds.length - i) ≤ 700000 → (∀ e, e < ns.length → Lv ns K e n s) → s.fuse = 0 →
    (∀ j, j < ds.length → Hold (now s (ds.getD j 0)) (rgR n) 1 (some (T (ds.getD j 0)))) → (∀ j, j < i → Hold (now s (ds.getD j 0)) (rgR n) 0 (some (T (ds.getD j 0)))) →
    ∃ t, copies_Commit_l2 (dks ds n) N s i = some (.inl t) ∧ (∀ e, e < ns.length → Lv ns (K + (ds.length - i)) e n t) ∧ t.fuse = 0 ∧ (∀ j, j < ds.length → Hold (now t (ds.getD j 0)) (rgR n) 0 (some (T (ds.getD j 0))) ∧ Hold (now t (ds.getD j 0)) (rgR n) 1 (some (T (ds.getD j 0)))) ∧
      (∀ e, (∀ j, i ≤ j → j < ds.length → ds.getD j 0 ≠ e) → now t e = now s e)
  | 0, _, _, _, h, _, _, _, _, _, _ => absurd h (by omega)
  | N + 1, i, K, s, h, hi, hK, hl, hf, h1, h0 => by
    show ∃ t, copies_Commit_l2_b _ _ _ _ = _ ∧ _
    unfold copies_Commit_l2_b
    rw [dks_len]
    by_cases hlt : i < ds.length
    · rw [if_pos (by omega), dks_getD hlt]
      rcases switch_hold (hl _ (hin i hlt)) (by omega) (h1 i hlt) with ⟨_, t, h2, h3, h4, h5⟩ | ⟨h2, _⟩
      · rw [h2]; simp only [Option.bind_some]
        rw [if_neg (by simp)]
        have hoth : ∀ e, ds.getD i 0 ≠ e → e < ns.length → Lv ns (K + 1) e n t ∧ now t e = now s e := fun e hne he => h3.other hne (hl e he) (by omega)
        have hown : Hold (now t (ds.getD i 0)) (rgR n) 1 (some (T (ds.getD i 0))) := by
          refine (h1 i hlt).congr (by rw [h3.nowD]; rfl) fun k _ => ?_
          rw [h3.nowD]
          unfold upd
          rw [if_neg (by have := plc_ge (r := rgR n) (st := oSt (some (T (ds.getD i 0)))) (i := k); omega)]
        obtain ⟨u, u1, u2, u3, u4, u5⟩ := commit_l2 hd hin N (i + 1) (K + 1) t (by omega) (by omega) (by omega) (fun e he => by
          by_cases hne : ds.getD i 0 = e
          · rw [← hne]; exact h4
          · exact (hoth e hne he).1) (by rw [h3.fuse, hf]) (fun j hj => by
          by_cases hne : ds.getD i 0 = ds.getD j 0
          · rw [← hne]; exact hown
          · rw [(hoth _ hne (hin j hj)).2]; exact h1 j hj) (fun j hj => by
          rcases Nat.lt_or_ge j i with hji | hji
          · have hne := hd j i hji hlt
            rw [(hoth _ (fun e => hne e.symm) (hin j (by omega))).2]
            exact h0 j hji
          · have : j = i := by omega
            rw [this]; exact h5)
        refine ⟨u, u1, fun e he => ?_, u3, u4, fun e he => ?_⟩
        · have := u2 e he
          rw [show K + (ds.length - i) = K + 1 + (ds.length - (i + 1)) by omega]
          exact this
        · rw [u5 e (fun j hj hjl => he j (by omega) hjl)]
          funext b
          rw [h3.now, if_neg (fun x => he i (Nat.le_refl _) hlt x.1)]
      · omega
    · rw [if_neg (by omega)]
      refine ⟨s, rfl, fun e he => ?_, hf, fun j hj => ⟨h0 j (by omega), h1 j hj⟩, fun _ _ => rfl⟩
      rw [show ds.length - i = 0 by omega]; exact hl e he
theorem commit_ok {ds : List Nat} {q : Nat} {x : ByteArray} {c : Nat → Option Txt} {L : Nat} (hx : x.size ≤ 8192) (hq : 1 ≤ q ∧ q ≤ 1048575) (hL : (encT x).length = L) (hd : Dist ds) (hin : ∀ i, i < ds.length → ds.getD i 0 < ns.length) (h0 : ds.length ≠ 0) (h100 : ds.length ≤ 100)
    (hfit : ∀ i, i < ds.length → L + oLen (c (ds.getD i 0)) ≤ rgR n) (hK : K ≤ 100000) (hl : ∀ e, e < ns.length → Lv ns K e n s) (hf : s.fuse = 0) (hh : ∀ e, e < ns.length → Hold (now s e) (rgR n) 0 (c e)) :
    ∃ t, copies_Commit (dks ds n) (q : Int) x s = some (true, 0, t) ∧ (∀ e, e < ns.length → Lv ns (K + ds.length * (L + 1) + ds.length) e n t) ∧ t.fuse = 0 ∧
      (∀ j, j < ds.length → Hold (now t (ds.getD j 0)) (rgR n) 0 (some ⟨q, nextSt (rgR n) (c (ds.getD j 0)), x⟩) ∧ Hold (now t (ds.getD j 0)) (rgR n) 1 (some ⟨q, nextSt (rgR n) (c (ds.getD j 0)), x⟩)) ∧
      (∀ e, (∀ j, j < ds.length → ds.getD j 0 ≠ e) → now t e = now s e) := by
  unfold copies_Commit
  rw [dks_len, if_neg (by omega)]
  have hF := fuel_big
  generalize FUEL = N at hF ⊢
  have hE := encT_lt hx
  have hb : ds.length * (L + 1) ≤ 100 * 4096 := Nat.mul_le_mul h100 (by omega)
  obtain ⟨t, t1, t2, t3, t4, t5, t6⟩ := commit_l1 (ns := ns) (n := n) hx hq hL hd hin hfit N 0 K s (by omega) (by omega) (by simp only [Nat.sub_zero]; omega) hl hf hh (fun j hj => absurd hj (by omega))
  rw [t1]
  simp only [seqO, Option.bind_some, Sum.elim_inl]
  simp only [Nat.sub_zero] at t2
  obtain ⟨u, u1, u2, u3, u4, u5⟩ := commit_l2 (ns := ns) (n := n) (ds := ds) (T := fun d => ⟨q, nextSt (rgR n) (c d), x⟩) hd hin N 0 _ t (by omega) (by omega) (by simp only [Nat.sub_zero]; omega) t2 t3 t5 (fun j hj => absurd hj (by omega))
  rw [u1]
  simp only [Option.bind_some, Sum.elim_inl]
  simp only [Nat.sub_zero] at u2
  exact ⟨u, rfl, u2, u3, u4, fun e he => by rw [u5 e (fun j _ hj => he j hj), t6 e (fun j _ hj => he j hj)]⟩
noncomputable def foundR (A : Nat → UInt64) (r : Nat) : copies_found := ⟨(readR A r).1, (readR A r).2, false, max ((dQ (A 0)).toNat : Int) ((dQ (A 1)).toNat : Int)⟩
theorem readR_cases (A : Nat → UInt64) (r : Nat) : (readR A r).2 = 0 ∨ (readR A r).2 = 11 ∨ ((readR A r).2 = 12 ∧ (readR A r).1 = ⟨false, 0, ByteArray.empty⟩) := by
  unfold readR
  split
  · exact .inr (.inr ⟨rfl, rfl⟩)
  · split
    · exact .inl rfl
    · exact .inr (.inl rfl)
theorem look_eq {d : Nat} (h : Lv ns K d n s) : copies_look (Dk d n) s = some (foundR (now s d) (rgR n)) := by
  unfold copies_look
  rw [read_eq h]; simp only [Option.bind_some]
  rw [seqs_eq h]
  unfold foundR
  rcases readR_cases (now s d) (rgR n) with h1 | h1 | ⟨h1, h2⟩
  · rw [if_neg (fun x => x.1 h1)]; simp only [Option.bind_some]
    rw [if_pos (by simp [h1])]; simp [h1]
  · rw [if_neg (fun x => x.2 h1)]; simp only [Option.bind_some]
    rw [if_pos (by simp [h1])]; simp [h1]
  · rw [if_pos (by rw [h1]; decide)]; simp only [Option.bind_some]
    rw [if_pos (by simp [h1])]; simp [h1, h2]
noncomputable def greatR (s : ArrS) (ds : List Nat) : Int := ds.foldl (fun m d => max m (max ((dQ (now s d 0)).toNat : Int) ((dQ (now s d 1)).toNat : Int))) 0
noncomputable def copiesR (s : ArrS) (n : Nat) (ds : List Nat) : List api_Copy := ds.map fun d => (readR (now s d) (rgR n)).1
theorem scan_l1 {ds : List Nat} (hl : ∀ i, i < ds.length → Lv ns K (ds.getD i 0) n s) (h100 : ds.length ≤ 1000) : ∀ (N i : Nat), ds.length - i < N → i ≤ ds.length →
    copies_Scan_l1 (dks ds n) s N i (copiesR s n (ds.take i)) [] (greatR s (ds.take i)) = some (copiesR s n ds, [], greatR s ds)
  | 0, _, h, _ => absurd h (by omega)
  | N + 1, i, h, hi => by
    show copies_Scan_l1_b _ _ _ _ _ _ _ = _
    unfold copies_Scan_l1_b
    rw [dks_len]
    by_cases hlt : i < ds.length
    · rw [if_pos (by omega), dks_getD hlt, look_eq (hl i hlt)]; simp only [Option.bind_some]
      have ht : ds.take (i + 1) = ds.take i ++ [ds.getD i 0] := by
        rw [List.take_succ_eq_append_getElem hlt]; simp [List.getD_eq_getElem?_getD, hlt]
      have e1 : copiesR s n (ds.take (i + 1)) = copiesR s n (ds.take i) ++ [(readR (now s (ds.getD i 0)) (rgR n)).1] := by unfold copiesR; rw [ht, List.map_append]; rfl
      have e2 : greatR s (ds.take (i + 1)) = max (greatR s (ds.take i)) (max ((dQ (now s (ds.getD i 0) 0)).toNat : Int) ((dQ (now s (ds.getD i 0) 1)).toNat : Int)) := by unfold greatR; rw [ht, List.foldl_append]; rfl
      rw [grd_pos (inLen_of (by unfold copiesR; simp; omega)), if_neg (by simp [foundR])]
      have ih := scan_l1 hl h100 N (i + 1) (by omega) (by omega)
      rw [e1, e2] at ih
      exact ih
    · rw [if_neg (by omega), List.take_of_length_le (by omega)]
theorem scan_eq {ds : List Nat} (hl : ∀ i, i < ds.length → Lv ns K (ds.getD i 0) n s) (h100 : ds.length ≤ 1000) : copies_Scan (dks ds n) s = some (copiesR s n ds, [], greatR s ds) := by
  unfold copies_Scan
  have hF := fuel_big
  generalize FUEL = N at hF ⊢
  have := scan_l1 hl h100 N 0 (by omega) (by omega)
  rw [List.take_zero] at this
  rw [show (copiesR s n [] : List api_Copy) = [] from rfl, show greatR s [] = 0 from rfl] at this
  rw [this]; rfl
end
theorem areas_eq {m n : Nat} (hm : m ≤ 8) (hn : 1 ≤ n ∧ n ≤ 1000) : volumegrouplaw13_areas (m : Int) (n : Int) = some (some (mkS (List.replicate m (List.replicate n 0)))) := by
  have hl : ∀ (N i : Nat), m - i < N → i ≤ m → volumegrouplaw13_areas_l1 (m : Int) (n : Int) N (List.replicate i (List.replicate n 0)) i = some (List.replicate m (List.replicate n 0)) := by
    intro N
    induction N with
    | zero => intro i h; exact absurd h (by omega)
    | succ N ih =>
      intro i h hi
      show volumegrouplaw13_areas_l1_b _ _ _ _ _ = _
      unfold volumegrouplaw13_areas_l1_b
      by_cases hlt : i < m
      · rw [if_pos (by omega), grd_pos (decide_eq_true (by omega)), grd_pos (inLen_of (by simp; omega)), grd_pos (inN64_of (by omega)), show ((n : Nat) : Int).toNat = n by omega]
        have e : List.replicate i (List.replicate n (0 : UInt64)) ++ [List.replicate n 0] = List.replicate (i + 1) (List.replicate n 0) := by rw [List.replicate_succ']
        rw [e]; exact ih (i + 1) (by omega) (by omega)
      · rw [if_neg (by omega), show i = m by omega]
  unfold volumegrouplaw13_areas
  have hF := fuel_big
  generalize FUEL = N at hF ⊢
  have := hl N 0 (by omega) (by omega)
  rw [List.replicate_zero] at this
  rw [this]; simp only [Option.bind_some]
  rw [loaded_eq (by simp; omega) (by intro im him; rw [List.eq_of_mem_replicate him]; simp; omega)]; rfl
theorem lvA_mkS {m n e : Nat} (he : e < m) (hn : 4 ≤ n ∧ n ≤ 1000) : Lv (List.replicate m n) 0 e n (mkS (List.replicate m (List.replicate n 0))) := by
  have hS : InSz (List.replicate m n) (mkS (List.replicate m (List.replicate n 0))) := by have := inSz_mkS (ims := List.replicate m (List.replicate n (0 : UInt64))); simpa [lensN] using this
  exact ⟨⟨hS, Nat.le_refl _, coh_mkS, rfl⟩, rfl, by simpa using he, by simp [List.getD_eq_getElem?_getD, List.getElem?_replicate, he], hn.1, hn.2, miss_mkS, fun b _ => cand_mkS, by omega⟩
theorem now0A {m n e b : Nat} : now (mkS (List.replicate m (List.replicate n 0))) e b = 0 := by
  unfold now nowL
  simp only [mkS, List.getD_eq_getElem?_getD, List.getElem?_map, List.getElem?_replicate]
  split
  · simp only [Option.map_some, Option.getD_some, List.getElem?_replicate]
    split <;> rfl
  · rfl
theorem spansA_eq {m n K e : Nat} {s : ArrS} (h : Lv (List.replicate m n) K e n s) (hm : m ≤ 8) : volumegroupmake_Spans s = some (dks (List.range m) n) := by
  have hc : s.drv.length = m := by have := h.ok.sz.cnt; simpa using this
  have hz : ∀ i, i < m → s.size i = n := fun i hi => by
    have := h.ok.sz.size i (by simpa using hi)
    simpa [List.getD_eq_getElem?_getD, List.getElem?_replicate, hi] using this
  have h4 := h.h4; have hb := h.hb
  rw [spans_eq (by omega) (fun i hi => by rw [hz i (by omega)]; omega)]
  show some ((List.range s.drv.length).map _) = _
  rw [hc]
  refine congrArg some (List.map_congr_left fun i hi => ?_)
  show Dvc.span ((i : Nat) : Int) 0 ((s.size i : Nat) : Int) = _
  rw [hz i (List.mem_range.1 hi)]
def bitsL (bits : Int) (m : Nat) : List Nat := (List.range m).filter fun i => decide (andI (shrI bits i) 1 = 1)
theorem some_eq {m n K e : Nat} {s : ArrS} {bits : Int} (h : Lv (List.replicate m n) K e n s) (hm : m ≤ 8) : volumegrouplaw13_some s bits = some (dks (bitsL bits m) n) := by
  have hl : ∀ (N i : Nat), m - i < N → i ≤ m → volumegrouplaw13_some_l1 bits (dks (List.range m) n) N (dks (bitsL bits i) n) i = some (dks (bitsL bits m) n) := by
    intro N
    induction N with
    | zero => intro i h; exact absurd h (by omega)
    | succ N ih =>
      intro i h hi
      show volumegrouplaw13_some_l1_b _ _ _ _ _ = _
      unfold volumegrouplaw13_some_l1_b
      rw [dks_len, List.length_range]
      by_cases hlt : i < m
      · have hlb : (dks (bitsL bits i) n).length ≤ i := by rw [dks_len]; unfold bitsL; exact Nat.le_trans (List.length_filter_le _ _) (by simp)
        have hgd : (List.range m).getD i 0 = i := by simp [List.getD_eq_getElem?_getD, hlt]
        rw [if_pos (by omega), dks_getD (by simpa using hlt), hgd]
        by_cases hb : andI (shrI bits i) 1 = 1
        · rw [if_pos hb, grd_pos (inLen_of (by omega)), grd_pos (inN64_of (by omega))]
          have e : dks (bitsL bits i) n ++ [Dk i n] = dks (bitsL bits (i + 1)) n := by unfold bitsL dks; rw [List.range_succ, List.filter_append]; simp [hb]
          rw [e]; exact ih (i + 1) (by omega) (by omega)
        · rw [if_neg hb, grd_pos (inN64_of (by omega))]
          have e : dks (bitsL bits i) n = dks (bitsL bits (i + 1)) n := by unfold bitsL dks; rw [List.range_succ, List.filter_append]; simp [hb]
          rw [e]; exact ih (i + 1) (by omega) (by omega)
      · rw [if_neg (by omega), show i = m by omega]
  unfold volumegrouplaw13_some
  rw [spansA_eq h hm]; simp only [Option.bind_some]
  have hF := fuel_big
  generalize FUEL = N at hF ⊢
  have := hl N 0 (by omega) (by omega)
  rw [show (dks (bitsL bits 0) n : List Dvc) = [] from rfl] at this
  rw [this]; rfl
abbrev txt4 : ByteArray := ByteArray.mk #[116, 101, 120, 116]
theorem txt4_len : (encT txt4).length = 2 := by rw [encT_len]; rfl
theorem awake13 : volumegrouplaw13_awake = some true := by
  unfold volumegrouplaw13_awake
  rw [show volumegrouplaw13_areas (2 : Int) (12 : Int) = _ from areas_eq (m := 2) (n := 12) (by omega) (by omega)]; simp only [Option.bind_some, Option.elim]
  have hL : ∀ e, e < (List.replicate 2 12).length → Lv (List.replicate 2 12) 0 e 12 (mkS (List.replicate 2 (List.replicate 12 0))) := fun e he => lvA_mkS (by simpa using he) (by omega)
  rw [some_eq (hL 0 (by simp)) (by omega)]; simp only [Option.bind_some]
  have hb : bitsL 3 2 = [0, 1] := by decide
  rw [hb]
  have hr : rgR 12 = 10 := rfl
  obtain ⟨t, t1, t2, t3, t4, _⟩ := commit_ok (ns := List.replicate 2 12) (n := 12) (K := 0) (ds := [0, 1]) (q := 1) (x := txt4) (c := fun _ => none) (L := 2) (by decide) (by omega) txt4_len (by
    intro i j h1 h2
    have : i = 0 ∧ j = 1 := by simp at h2; omega
    rw [this.1, this.2]; decide) (by
    intro i hi
    have : i = 0 ∨ i = 1 := by simp at hi; omega
    rcases this with rfl | rfl <;> decide) (by decide) (by decide) (fun i _ => by rw [hr]; show 2 + 0 ≤ 10; omega) (by omega) hL rfl (fun e _ => by show now _ e 0 = 0; exact now0A)
  rw [show copies_Commit (dks [0, 1] 12) (1 : Int) txt4 _ = _ from t1]; simp only [Option.bind_some]
  rw [some_eq (t2 0 (by simp)) (by omega), hb]; simp only [Option.bind_some]
  have h0 := t4 0 (by decide); have h1 := t4 1 (by decide)
  have g0 : ([0, 1] : List Nat).getD 0 0 = 0 := rfl
  have g1 : ([0, 1] : List Nat).getD 1 0 = 1 := rfl
  rw [g0] at h0; rw [g1] at h1
  rw [scan_eq (ds := [0, 1]) (fun i hi => by
    have : i = 0 ∨ i = 1 := by simp at hi; omega
    rcases this with rfl | rfl
    · exact t2 0 (by simp)
    · exact t2 1 (by simp)) (by decide)]
  simp only [Option.bind_some]
  have hrd : ∀ d, Hold (now t d) (rgR 12) 0 (some ⟨1, nextSt (rgR 12) none, txt4⟩) → (readR (now t d) (rgR 12)).1 = ⟨true, 1, txt4⟩ := fun d hh => by
    unfold readR
    rw [if_neg (fun x => nomatch hh.ne.1 x), hh.whole, if_pos rfl, hh.dS.2.2]; rfl
  have hc : copiesR t 12 [0, 1] = [⟨true, 1, txt4⟩, ⟨true, 1, txt4⟩] := by
    show [(readR (now t 0) (rgR 12)).1, (readR (now t 1) (rgR 12)).1] = _
    rw [hrd 0 h0.1, hrd 1 h1.1]
  have hg : greatR t [0, 1] = 1 := by
    show max (max 0 (max ((dQ (now t 0 0)).toNat : Int) ((dQ (now t 0 1)).toNat : Int))) (max ((dQ (now t 1 0)).toNat : Int) ((dQ (now t 1 1)).toNat : Int)) = 1
    rw [h0.1.dS.2.2, h0.2.dS.2.2, h1.1.dS.2.2, h1.2.dS.2.2]; rfl
  rw [hc, hg, choose_same (c := ⟨true, 1, txt4⟩) (by
    intro i hi
    have : i = 0 ∨ i = 1 := by simp at hi; omega
    rcases this with rfl | rfl <;> rfl) (by decide) (by decide) rfl]
  rfl
end Go.Proofs
namespace Go.Proofs
open Go.VG
structure LvX (ns : List Nat) (K d n : Nat) (s : ArrS) : Prop where
  ok : ArrOk ns K s
  dn : s.down = false
  hd : d < ns.length
  hn : ns.getD d 0 = n
  h4 : 4 ≤ n
  hb : n ≤ 1000
  cl : ∀ b, b < n → cand s d b = [now s d b]
  hK : K ≤ 900000
section
variable {ns : List Nat} {K d n : Nat} {s t : ArrS}
theorem LvX.lv (h : LvX ns K d n s) (hm : miss s d = false) : Lv ns K d n s := ⟨h.ok, h.dn, h.hd, h.hn, h.h4, h.hb, hm, h.cl, h.hK⟩
theorem Lv.x (h : Lv ns K d n s) : LvX ns K d n s := ⟨h.ok, h.dn, h.hd, h.hn, h.h4, h.hb, h.cl, h.hK⟩
end
end Go.Proofs
namespace Go.Proofs
open Go.VG
def BestAt (l : List api_Copy) (i : Nat) (x : Int) : Prop :=
  (x = -1 ∧ ∀ j, j < i → (l.getD j zC).Valid = false) ∨ (0 ≤ x ∧ x < (l.length : Int) ∧ (l.getD x.toNat zC).Valid = true ∧ ∀ j, j < i → (l.getD j zC).Valid = true → (l.getD j zC).Seq ≤ (l.getD x.toNat zC).Seq)
theorem best_spec {l : List api_Copy} : ∀ (N i : Nat) (x : Int), BestAt l i x → l.length - i < N → i ≤ l.length → ∃ y, copies_best__copies_Choose_1_l1 l N i x = some y ∧ BestAt l l.length y
  | 0, _, _, _, h, _ => absurd h (by omega)
  | N + 1, i, x, hx, h, hi => by
    have e1 : copies_best__copies_Choose_1_l1 l (N + 1) i x = copies_best__copies_Choose_1_l1_b l (copies_best__copies_Choose_1_l1 l N) i x := rfl
    rw [e1]
    unfold copies_best__copies_Choose_1_l1_b copies_Choose_1 copies_Choose_2
    by_cases hlt : i < l.length
    · have hI : (((i : Nat) : Int) < ((l.length : Nat) : Int)) := by omega
      rw [if_pos hI]; simp only [Option.bind_some]
      have hsn : ∀ {p : Nat → Prop}, (∀ j, j < i → p j) → p i → ∀ j, j < i + 1 → p j := fun h1 h2 j hj => by
        rcases Nat.lt_or_ge j i with h3 | h3
        · exact h1 j h3
        · rw [show j = i by omega]; exact h2
      by_cases hv : (l.getD i (⟨false, 0, ByteArray.empty⟩ : api_Copy)).Valid = true
      · rw [if_pos hv]
        by_cases h0 : x < 0
        · rw [if_pos h0]
          refine best_spec N (i + 1) _ (.inr ⟨by omega, hI, hv, ?_⟩) (by omega) (by omega)
          refine hsn (fun j hj hvj => ?_) (fun _ => Int.le_refl _)
          rcases hx with ⟨_, h1⟩ | ⟨h1, _⟩
          · rw [h1 j hj] at hvj; cases hvj
          · omega
        · have hx' : 0 ≤ x ∧ x < (l.length : Int) ∧ (l.getD x.toNat zC).Valid = true ∧ ∀ j, j < i → (l.getD j zC).Valid = true → (l.getD j zC).Seq ≤ (l.getD x.toNat zC).Seq := by
            rcases hx with ⟨h1, _⟩ | h1
            · omega
            · exact h1
          rw [if_neg h0, grd_pos (decide_eq_true ⟨hx'.1, hx'.2.1⟩)]
          by_cases hs : (l.getD x.toNat (⟨false, 0, ByteArray.empty⟩ : api_Copy)).Seq < (l.getD i (⟨false, 0, ByteArray.empty⟩ : api_Copy)).Seq
          · rw [if_pos (decide_eq_true hs)]
            exact best_spec N (i + 1) _ (.inr ⟨by omega, hI, hv, hsn (fun j hj hvj => Int.le_trans (hx'.2.2.2 j hj hvj) (Int.le_of_lt hs)) (fun _ => Int.le_refl _)⟩) (by omega) (by omega)
          · rw [if_neg (by simpa using hs)]
            exact best_spec N (i + 1) _ (.inr ⟨hx'.1, hx'.2.1, hx'.2.2.1, hsn hx'.2.2.2 (fun _ => Int.not_lt.1 hs)⟩) (by omega) (by omega)
      · rw [if_neg hv]
        have hvf : (l.getD i zC).Valid = false := by simpa using hv
        refine best_spec N (i + 1) _ ?_ (by omega) (by omega)
        rcases hx with ⟨h1, h2⟩ | ⟨h1, h2, h3, h4⟩
        · exact .inl ⟨h1, hsn h2 hvf⟩
        · exact .inr ⟨h1, h2, h3, hsn h4 (fun x => by rw [hvf] at x; cases x)⟩
    · have hI : ¬ (((i : Nat) : Int) < ((l.length : Nat) : Int)) := by omega
      rw [if_neg hI]
      exact ⟨x, rfl, by rw [show l.length = i by omega]; exact hx⟩
def Clash (l : List api_Copy) (k : Nat) (j : Nat) : Prop := (l.getD j zC).Valid = true ∧ (l.getD j zC).Seq = (l.getD k zC).Seq ∧ (l.getD j zC).Text ≠ (l.getD k zC).Text
theorem conf_spec {l : List api_Copy} {k : Int} (hk : 0 ≤ k ∧ k < (l.length : Int)) : ∀ (N i : Nat), l.length - i < N → i ≤ l.length → (∀ j, j < i → ¬ Clash l k.toNat j) →
    (copies_Choose_l1 l k N i = some (.inl ()) ∧ ∀ j, j < l.length → ¬ Clash l k.toNat j) ∨ (copies_Choose_l1 l k N i = some (.inr (-1, 13)) ∧ ∃ j, j < l.length ∧ Clash l k.toNat j)
  | 0, _, h, _, _ => absurd h (by omega)
  | N + 1, i, h, hi, hj => by
    have e1 : copies_Choose_l1 l k (N + 1) i = copies_Choose_l1_b l k (copies_Choose_l1 l k N) i := rfl
    rw [e1]
    unfold copies_Choose_l1_b
    by_cases hlt : i < l.length
    · rw [if_pos (by omega), grd_pos (decide_eq_true hk), grd_pos (decide_eq_true hk), if_neg (show ¬ false = true by decide)]
      have ih := fun (hc : ¬ Clash l k.toNat i) => conf_spec hk N (i + 1) (by omega) (by omega) (fun j h1 => by
        rcases Nat.lt_or_ge j i with h3 | h3
        · exact hj j h3
        · rw [show j = i by omega]; exact hc)
      by_cases c1 : (l.getD i (⟨false, 0, ByteArray.empty⟩ : api_Copy)).Valid = true
      · rw [if_pos c1]
        by_cases c2 : (l.getD i (⟨false, 0, ByteArray.empty⟩ : api_Copy)).Seq = (l.getD k.toNat (⟨false, 0, ByteArray.empty⟩ : api_Copy)).Seq
        · rw [if_pos c2]
          by_cases c3 : (l.getD i (⟨false, 0, ByteArray.empty⟩ : api_Copy)).Text = (l.getD k.toNat (⟨false, 0, ByteArray.empty⟩ : api_Copy)).Text
          · rw [if_neg (fun x => x c3)]
            exact ih (fun x => x.2.2 c3)
          · rw [if_pos c3]
            exact .inr ⟨rfl, i, hlt, c1, c2, c3⟩
        · rw [if_neg c2]
          exact ih (fun x => c2 x.2.1)
      · rw [if_neg c1]
        exact ih (fun x => c1 x.1)
    · rw [if_neg (by omega)]
      exact .inl ⟨rfl, fun j h1 => hj j (by omega)⟩
theorem choose_spec (l : List api_Copy) (hl : l.length ≤ 1000) :
    (copies_Choose l = some (-1, 12) ∧ ∀ j, j < l.length → (l.getD j zC).Valid = false) ∨
    (∃ k : Nat, k < l.length ∧ (l.getD k zC).Valid = true ∧ (∀ j, j < l.length → (l.getD j zC).Valid = true → (l.getD j zC).Seq ≤ (l.getD k zC).Seq) ∧
      ((copies_Choose l = some (-1, 13) ∧ ∃ j, j < l.length ∧ Clash l k j) ∨ (copies_Choose l = some ((k : Int), 0) ∧ ∀ j, j < l.length → ¬ Clash l k j))) := by
  unfold copies_Choose copies_best__copies_Choose_1
  have hF := fuel_big
  generalize FUEL = N at hF ⊢
  obtain ⟨y, h1, h2⟩ := best_spec (l := l) N 0 (-1) (.inl ⟨rfl, fun j h => absurd h (by omega)⟩) (by omega) (by omega)
  rw [h1]; simp only [Option.bind_some]
  rcases h2 with ⟨h2, h3⟩ | ⟨h2, h3, h4, h5⟩
  · rw [if_pos (by omega)]
    exact .inl ⟨rfl, h3⟩
  · rw [if_neg (by omega)]
    refine .inr ⟨y.toNat, by omega, h4, h5, ?_⟩
    rcases conf_spec (l := l) (k := y) ⟨h2, h3⟩ N 0 (by omega) (by omega) (fun j h => absurd h (by omega)) with ⟨h6, h7⟩ | ⟨h6, h7⟩
    · rw [h6]
      refine .inr ⟨?_, h7⟩
      rw [Int.toNat_of_nonneg h2]; rfl
    · rw [h6]
      exact .inl ⟨rfl, h7⟩
end Go.Proofs
namespace Go.Proofs
open Go.VG
theorem tb_xor' (a b : UInt64) (i : Nat) : tb (a ^^^ b) i = (tb a i ^^ tb b i) := by unfold tb; rw [UInt64.toNat_xor, Nat.testBit_xor]
theorem tb_bit {k i : Nat} (hk : k < 64) (hi : i < 64) : tb (shl_u64 1 k) i = decide (i = k) := by
  rw [tb_shl _ (by omega)]
  have h1 : ∀ j, tb 1 j = decide (j = 0) := fun j => by
    show (1 : Nat).testBit j = _
    cases j with
    | zero => rfl
    | succ j => rw [Nat.testBit_succ]; simp
  rw [h1]
  by_cases e : i = k
  · subst e; simp [hk]
  · by_cases h2 : k ≤ i
    · simp [e, show ¬ i - k = 0 by omega]
    · simp [e, h2]
theorem field_flip {w : UInt64} {p n k : Nat} (hp : p + n ≤ 64) (hk : k < 64) (h : k < p ∨ p + n ≤ k) : fieldU (w ^^^ shl_u64 1 k) p n = fieldU w p n := by
  refine tb_ext fun i _ => ?_
  rw [tb_fieldU _ _ (by omega), tb_fieldU _ _ (by omega)]
  by_cases hi : i < n
  · rw [tb_xor', tb_bit hk (by omega), decide_eq_false (show ¬ p + i = k by omega), Bool.xor_false]
  · simp [hi]
theorem field_zero {p n : Nat} (hp : p ≤ 64) : fieldU 0 p n = 0 := by
  refine tb_ext fun i _ => ?_
  rw [tb_fieldU _ _ hp, tb_zero, tb_zero, Bool.and_false]
theorem desc_self (w : UInt64) : descW (dQ w) (dS w) (dN w) (dC w) = w := by
  refine tb_ext fun i hi => ?_
  rw [desc_tb (fieldU_lt _ _ _) (fieldU_lt _ _ _) (fieldU_lt _ _ _) hi]
  split
  · rw [tb_fieldU _ _ (by omega), Nat.zero_add]; simp [*]
  · split
    · rw [tb_fieldU _ _ (by omega), show 20 + (i - 20) = i by omega]; simp; omega
    · split
      · rw [tb_fieldU _ _ (by omega), show 36 + (i - 36) = i by omega]; simp; omega
      · rw [tb_fieldU _ _ (by omega), show 48 + (i - 48) = i by omega]; simp; omega
theorem decT_ok {l : List UInt64} (h : (decT l).2 = 0) : (l.getD 0 0).toNat ≤ 8192 ∧ l.length = 1 + bytesN (l.getD 0 0).toNat ∧ encT (decT l).1 = l ∧ (decT l).1.size = (l.getD 0 0).toNat := by
  unfold decT at h ⊢
  split at h
  · exact absurd h (by decide)
  · rename_i h1
    split at h
    · rename_i h2
      rw [if_neg h1, if_pos h2]
      exact ⟨by omega, by omega, h2, by rw [strSize_of, bytesT_len]⟩
    · exact absurd h (by decide)
section
variable {A B : Nat → UInt64} {r d : Nat} {w : UInt64}
theorem whole_parts (h : (wholeR A r w).2 = true) : dQ w ≠ 0 ∧ dN w ≠ 0 ∧ (dS w).toNat < r ∧ (dN w).toNat ≤ r ∧ (decT (ringW A r (dS w).toNat (dN w).toNat)).2 = 0 ∧ sumW (dQ w) (dS w) (dN w) (ringW A r (dS w).toNat (dN w).toNat) = dC w ∧ (wholeR A r w).1 = (decT (ringW A r (dS w).toNat (dN w).toNat)).1 := by
  unfold wholeR at h ⊢
  split at h
  · exact absurd h (by decide)
  · rename_i h1
    rw [if_neg h1]
    rw [Bool.and_eq_true, decide_eq_true_eq, decide_eq_true_eq] at h
    exact ⟨fun x => h1 (.inl x), fun x => h1 (.inr (.inl x)), by omega, by omega, h.1, h.2, rfl⟩
theorem self_u64 (x : UInt64) : to_u64 ((x.toNat : Nat) : Int) = x := by
  have h1 := to_u64_toNat (x.toNat : Int)
  have h2 := x.toNat_lt
  exact UInt64.toNat_inj.1 (by omega)
noncomputable def wtxt (A : Nat → UInt64) (r : Nat) (w : UInt64) : Txt := ⟨(dQ w).toNat, (dS w).toNat, (wholeR A r w).1⟩
theorem hold_whole (hr : r ≤ 65535) (h : (wholeR A r (A d)).2 = true) : Hold A r d (some (wtxt A r (A d))) ∧ oLen (some (wtxt A r (A d))) = (dN (A d)).toNat := by
  obtain ⟨h1, h2, h3, h4, h5, h6, h7⟩ := whole_parts h
  obtain ⟨k1, k2, k3, k4⟩ := decT_ok h5
  have hq : (dQ (A d)).toNat < 2 ^ 20 := fieldU_lt _ _ _
  have hq0 : (dQ (A d)).toNat ≠ 0 := fun x => h1 (UInt64.toNat_inj.1 x)
  have hlen : (encT (wholeR A r (A d)).1).length = (dN (A d)).toNat := by rw [h7, k3, ringW_len]
  refine ⟨⟨⟨⟨by show 1 ≤ (dQ (A d)).toNat; omega, hq⟩, hr, h3, by show (wholeR A r (A d)).1.size ≤ 8192; rw [h7, k4]; exact k1, by show (encT (wholeR A r (A d)).1).length ≤ r; rw [hlen]; exact h4⟩, ?_, fun i hi => ?_⟩, hlen⟩
  · show A d = descT (dQ (A d)).toNat (dS (A d)).toNat (wholeR A r (A d)).1
    unfold descT
    rw [hlen, self_u64, self_u64, self_u64, h7, k3, h6, desc_self]
  · show A (plc r (dS (A d)).toNat i) = (encT (wholeR A r (A d)).1).getD i 0
    have hi' : i < (dN (A d)).toNat := by rw [← hlen]; exact hi
    rw [h7, k3]
    simp [ringW, List.getD_eq_getElem?_getD, hi']
def Sh (A : Nat → UInt64) (r : Nat) : Prop := (wholeR A r (A 0)).2 = true → (dN (A 0)).toNat ≤ 3
theorem Hold.sh {c : Option Txt} (h : Hold A r 0 c) (h3 : oLen c ≤ 3) : Sh A r := fun hw => by
  cases c with
  | none =>
    have h0 : A 0 = 0 := h
    exact absurd (by rw [h0]; exact field_zero (by omega)) (whole_parts hw).1
  | some t => rw [h.dS.2.1]; exact h3
theorem Sh.flip {c : Option Txt} {j k : Nat} (hk : k < 64) (h : Hold A r 0 c) (h3 : oLen c ≤ 3) : Sh (upd A j (A j ^^^ shl_u64 1 k)) r := fun hw => by
  by_cases hj : j = 0
  · subst hj
    have e0 : upd A 0 (A 0 ^^^ shl_u64 1 k) 0 = A 0 ^^^ shl_u64 1 k := by unfold upd; rw [if_pos rfl]
    rw [e0] at hw ⊢
    obtain ⟨h1, h2, -, -, h5, -, -⟩ := whole_parts hw
    cases c with
    | none =>
      have hA : A 0 = 0 := h
      rw [hA] at h1 h2
      rcases Nat.lt_or_ge k 20 with h20 | h20
      · exact absurd ((field_flip (p := 36) (n := 12) (by omega) hk (.inl (by omega))).trans (field_zero (by omega))) h2
      · exact absurd ((field_flip (p := 0) (n := 20) (by omega) hk (.inr (by omega))).trans (field_zero (by omega))) h1
    | some t =>
      obtain ⟨e1, e2, -⟩ := h.dS
      by_cases h36 : k < 36 ∨ 48 ≤ k
      · rw [show dN (A 0 ^^^ shl_u64 1 k) = dN (A 0) from field_flip (by omega) hk (by omega), e2]; exact h3
      · obtain ⟨-, k2, -, -⟩ := decT_ok h5
        have hs : dS (A 0 ^^^ shl_u64 1 k) = dS (A 0) := field_flip (by omega) hk (by omega)
        rw [ringW_len, hs, e1] at k2
        have hn0 : (dN (A 0 ^^^ shl_u64 1 k)).toNat ≠ 0 := fun x => h2 (UInt64.toNat_inj.1 x)
        have hl0 : 0 < (encT t.s).length := by rw [encT_len]; omega
        have hg : (ringW (upd A 0 (A 0 ^^^ shl_u64 1 k)) r t.st (dN (A 0 ^^^ shl_u64 1 k)).toNat).getD 0 0 = to_u64 (t.s.size : Int) := by
          have : (ringW (upd A 0 (A 0 ^^^ shl_u64 1 k)) r t.st (dN (A 0 ^^^ shl_u64 1 k)).toNat).getD 0 0 = upd A 0 (A 0 ^^^ shl_u64 1 k) (plc r t.st 0) := by
            simp [ringW, List.getD_eq_getElem?_getD, Nat.pos_of_ne_zero hn0]
          rw [this]
          unfold upd
          rw [if_neg (by have := plc_ge (r := r) (st := t.st) (i := 0); omega), h.2.2 0 hl0]; rfl
        have hsz := h.1.sz
        rw [hg, to_u64_len (by omega), ← encT_len] at k2
        rw [k2]; exact h3
  · have e0 : upd A j (A j ^^^ shl_u64 1 k) 0 = A 0 := by unfold upd; rw [if_neg (fun x => hj x.symm)]
    rw [e0] at hw ⊢
    cases c with
    | none =>
      have h0 : A 0 = 0 := h
      rw [h0] at hw
      exact absurd (field_zero (by omega)) (whole_parts hw).1
    | some t => rw [h.dS.2.1]; exact h3
end
end Go.Proofs
namespace Go.Proofs
open Go.VG
end Go.Proofs
namespace Go.VG
def ddef (f : FuncId) (cap : List Value) : Deferred := { target := .fn (.func f) cap.toArray, args := #[] }
def DSpec (P : Program) (W : World) (f : FuncId) (cap : List Value) (pre post : List HP) : Prop :=
  ∀ F w, St W w (pre ++ F) → ∀ u, CallsDIn (fw none) 0 P f cap.toArray u w fun e u' w' => u' = u ∧ (∃ v, e = .returned v) ∧ St W w' (post ++ F)
section
variable {P : Program} {n : Env} {W : World} {s : Slots} {H : List HP} {ops : Array Oper} {Q : Exit → Act → World → Prop} {ty : TypeId} {pos : String} {after : Array Edge}
theorem DSpec.of_body {f : FuncId} {fn : Func} {c : Code} {cap : List Value} {pre post : List HP} {X : Type} {res : X → Value} {pf : X → Prop}
    (hf : P.funcs[f]? = some fn) (hb : fn.body = some c) {m : Nat} (hn : fn.ntmps = m) (hargs : Nat.ble cap.length m = true)
    (h : ∀ F, CJ P ⟨m, none, []⟩ W (bodyPost P fn (CPost W res pf (fun _ F => post ++ F) F)) c (args0 0 cap) (pre ++ F)) : DSpec P W f cap pre post := by
  intro F w hs u
  refine CallsDIn.mono (callsDIn_of_wp (u := u) hf hb trivial (h F _ w ⟨?_, rfl, ?_⟩ hs)) ?_
  · have : cap.length ≤ m := by simpa using hargs
    simp [hn]; omega
  · intro i v hl
    obtain ⟨_, h2⟩ := look_args0 cap 0 i v hl
    have hlt : i < cap.length := by
      rcases Nat.lt_or_ge i cap.length with h' | h'
      · exact h'
      · simp [List.getElem?_eq_none h'] at h2
    simp only [Nat.sub_zero] at h2
    rw [Array.getElem?_append_left (by simpa using hlt)]
    simpa using h2
  · rintro e u' w' ⟨h1, x, h2, _, h3⟩
    exact ⟨h1, ⟨_, h2⟩, h3⟩
theorem RJ_defer {fo : Operand} {f : FuncId} {cap : List Value} {rest : List Oper} (hfo : ev s fo = some (.func (.func f) #[] cap.toArray)) (hr : n.r = none)
    (h : RJ P ⟨n.n, none, ddef f cap :: n.ds⟩ W ops Q rest s H) : RJ P n W ops Q (⟨none, .defer { callee := .value fo, args := #[], argTypes := #[] }, ty, pos, after, none⟩ :: rest) s H := by
  intro a w hf hs
  refine wpListIn_plain rfl fun K hK => ?_
  refine ⟨fun _ _ => trivial, ?_⟩
  obtain ⟨nn, r, ds⟩ := n
  simp only at hr
  subst hr
  have he : (execOp a.eval ⟨none, .defer { callee := .value fo, args := #[], argTypes := #[] }, ty, pos, after, none⟩).run P w = .ok (.defer (ddef f cap)) w := by
    simp [execOp, resolve, hf.eval hfo, Deferred.ofValue, ddef]
  have h1 : Oper.semAt none a.eval ⟨none, .defer { callee := .value fo, args := #[], argTypes := #[] }, ty, pos, after, none⟩ = execOp a.eval ⟨none, .defer { callee := .value fo, args := #[], argTypes := #[] }, ty, pos, after, none⟩ := rfl
  show Oper.uponIn _ _ _ _ _ _ _ ((Oper.semAt none a.eval _).run P w)
  rw [h1, he, Oper.uponIn_defer]
  refine hK _ w (h _ w ⟨hf.size, ?_, hf.slot⟩ hs)
  show ddef f cap :: a.defers = _
  rw [hf.defers]
theorem QJ_endD1 {fn : Func} {R : Ending → World → Prop} {v : Value} {m : Nat} {f : FuncId} {cap : List Value} {pre post F : List HP} {e : Exit} (he : e = .ret ∨ e = .normal) (hen : Enters P f) (hp : Ent H (pre ++ F)) (hd : DSpec P W f cap pre post)
    (hr : ∀ a w, Fits ⟨m, none, [ddef f cap]⟩ s a → St W w (post ++ F) → (results fn a.tmps).run P w = .ok v w) (h : ∀ w, St W w (post ++ F) → R (.returned v) w) :
    QJ ⟨m, none, [ddef f cap]⟩ W (bodyPostM (fw none) 0 P fn R) e s H := fun a w hf hs => by
  have h1 : LeavesInM (fw none) 0 P fn a.tmps R a.defers .returning w := by
    rw [hf.defers]
    refine ⟨by simp, .inr ⟨(fun h => by cases h), .func f, cap.toArray, f, cap.toArray, rfl, (by simp only [ddef, invoke, Array.append_empty, Array.empty_append]; exact hen _ _), fun _ _ => trivial, ?_⟩⟩
    refine (hd F w (hs.imp hp) .returning).mono ?_
    rintro e u' w' ⟨rfl, ⟨x, rfl⟩, h3⟩
    exact ⟨v, hr a w' hf h3, h w' h3⟩
  rcases he with rfl | rfl
  · exact h1
  · exact h1
end
end Go.VG
set_option linter.unusedSimpArgs false
set_option linter.unusedVariables false
set_option maxRecDepth 20000
set_option maxHeartbeats 4000000
namespace Go.Proofs
open Go.VG
def copies_Settle_1 (p0 : Int) (p1_Valid : Bool) (p1_Seq : Int) (p1_Text : ByteArray) : Option (Bool × Int × ByteArray) :=
  if (p0 ≠ (0 : Int)) then
    some ((false, (0 : Int), ByteArray.empty))
  else
    some (p1_Valid, p1_Seq, p1_Text)
theorem LD_copies_Settle_1 {W : World} {bp0 : Nat} {bp1 : Nat} {p0 : Int} {p1_Valid : Bool} {p1_Seq : Int} {p1_Text : ByteArray} {r : Bool × Int × ByteArray} (h : copies_Settle_1 p0 p1_Valid p1_Seq p1_Text = some r) :
    DSpec Try.prog W 77 [ptr bp0 0, ptr bp1 0] [blk bp0 30 [.int .i64 p0], blk bp1 34 [.bool p1_Valid, .int .i64 p1_Seq, .string p1_Text]] [blk bp0 30 [.int .i64 p0], blk bp1 34 [.bool r.1, .int .i64 r.2.1, .string r.2.2]] := by
  refine DSpec.of_body (X := Unit) (res := fun _ => .tuple #[]) (pf := fun _ => True) Try.func77 rfl Try.ntmps77 rfl (fun F => ?_)
  show CJ _ _ _ _ _ _ (_ :: _ :: F)
  unfold copies_Settle_1 at h
  refine CJ_seq ?_
  refine CJ_region ?_
  refine RJ_op rfl (OJ_V (V_load rfl foc0 rfl Try.isAgg30) rfl ?_)
  refine RJ_op rfl (OJ_P (P_neq (a := p0) (b := (0 : Int)) rfl rfl) rfl ?_)
  refine RJ_nil ?_
  refine QJ_then ?_
  refine CJ_condP rfl bT_dec (fun hg1 => ?_) (fun hg1 => ?_)
  ·
    replace h := ite_t hg1 h
    refine CJ_region ?_
    refine RJ_op rfl (OJ_P (P_build rfl (bld_34)) rfl ?_)
    refine RJ_op rfl (O_storeN rfl rfl foc1 Try.sizeOf34 rfl rfl rfl ?_)
    refine RJ_nil ?_
    have hE := Option.some.inj h
    subst hE
    refine QJ_endN (res0 Try.results77) ?_
    refine CSpec.close () ?_ ?_ Ent.refl
    · rfl
    · trivial
  ·
    replace h := ite_f hg1 h
    refine CJ_skip ?_
    have hE := Option.some.inj h
    subst hE
    refine QJ_endN (res0 Try.results77) ?_
    refine CSpec.close () ?_ ?_ Ent.refl
    · rfl
    · trivial
def copies_Settle_l1_b (l : List Dvc) (rec : ArrS → Nat → Option ((ArrS) ⊕ (api_Copy × Int × ArrS))) (x25 : ArrS) (x26 : Nat) : Option ((ArrS) ⊕ (api_Copy × Int × ArrS)) :=
  if (((x26 : Nat) : Int) < ((l.length : Nat) : Int)) then
    Option.bind (copies_look (l.getD x26 dv0) x25) fun r28 =>
    if (r28.error = (11 : Int)) then
      Option.bind (ring_Clear (l.getD x26 dv0) x25) fun r31 =>
      if (r31.1 ≠ (0 : Int)) then
        Option.bind (copies_Settle_1 r31.1 false (0 : Int) ByteArray.empty) fun r33 =>
        some (.inr (((⟨r33.1, r33.2.1, r33.2.2⟩ : api_Copy), r31.1, r31.2)))
      else
        rec r31.2 (x26 + 1)
    else
      rec x25 (x26 + 1)
  else
    some (.inl x25)
def copies_Settle_l1 (l : List Dvc) : Nat → ArrS → Nat → Option ((ArrS) ⊕ (api_Copy × Int × ArrS))
  | 0, _, _ => none
  | n + 1, x25, x26 => copies_Settle_l1_b l (copies_Settle_l1 l n) x25 x26
def copies_Settle (l : List Dvc) (s : ArrS) : Option (api_Copy × Int × ArrS) :=
  Option.bind (copies_Scan l s) fun r5 =>
  if ((0 : Int) < ((r5.2.1.length : Nat) : Int)) then
    Option.bind (copies_Settle_1 (6 : Int) false (0 : Int) ByteArray.empty) fun r10 =>
    some (((⟨r10.1, r10.2.1, r10.2.2⟩ : api_Copy), (6 : Int), s))
  else
    Option.bind (copies_Choose r5.1) fun r12 =>
    if (r12.2 ≠ (0 : Int)) then
      Option.bind (copies_Settle_1 r12.2 false (0 : Int) ByteArray.empty) fun r14 =>
      some (((⟨r14.1, r14.2.1, r14.2.2⟩ : api_Copy), r12.2, s))
    else
      Option.bind (copies_Next r5.2.2) fun r16 =>
      if (r16.2 ≠ (0 : Int)) then
        Option.bind (copies_Settle_1 r16.2 false (0 : Int) ByteArray.empty) fun r18 =>
        some (((⟨r18.1, r18.2.1, r18.2.2⟩ : api_Copy), r16.2, s))
      else
        seqO (copies_Settle_l1 l FUEL s 0) fun a24 =>
        grd (decide (0 ≤ r12.1 ∧ r12.1 < (r5.1.length : Int))) <|
        Option.bind (copies_Commit l r16.1 (((r5.1.getD ((r12.1).toNat) (⟨false, 0, ByteArray.empty⟩ : api_Copy))).Text) a24) fun r36 =>
        grd (decide (0 ≤ r12.1 ∧ r12.1 < (r5.1.length : Int))) <|
        Option.bind (copies_Settle_1 r36.2.1 true r16.1 (((r5.1.getD ((r12.1).toNat) (⟨false, 0, ByteArray.empty⟩ : api_Copy))).Text)) fun r38 =>
        some (((⟨r38.1, r38.2.1, r38.2.2⟩ : api_Copy), r36.2.1, r36.2.2))
theorem L_copies_Settle {W : World} {Al : HP} {vl : Value} {hsl : List IfH} {bs : Nat} {l : List Dvc} {s : ArrS} {r : api_Copy × Int × ArrS} (rl : Reads Al tyDev vl hsl) (h : copies_Settle l s = some r) :
    CSpec Try.prog W 52 [vl] [Al, Rs (DevP bs) l hsl, Arr bs s] (fun x : Unit => .tuple #[.agg #[.bool r.1.Valid, .int .i64 r.1.Seq, .string r.1.Text], .int .i64 r.2.1]) (fun _ => True) (fun x F => Al :: Rs (DevP bs) l hsl :: Arr bs r.2.2 :: F) := by
  refine CSpec.of_bodyM Try.func52 rfl Try.ntmps52 rfl (fun F => ?_)
  show CJ _ _ _ _ _ _ (_ :: _ :: _ :: F)
  unfold copies_Settle at h
  refine CJ_pure (len_of rl del0) (fun hlen1 => ?_)
  refine CJ_pure (fun h hh => Rs_len (stars_perm (del1 (A := Rs (DevP bs) l hsl)).out h hh)) (fun hdl2 => ?_)
  refine CJ_seq ?_
  refine CJ_region ?_
  refine RJ_op rfl (O_alloc Try.zeroValue34 rfl rfl (fun b3 => ?_))
  refine RJ_op rfl (O_alloc Try.zeroValue30 rfl rfl (fun b4 => ?_))
  refine RJ_nil ?_
  refine QJ_then ?_
  refine CJ_seq ?_
  refine CJ_region ?_
  refine RJ_op rfl (OJ_P (P_makeFunc rfl rfl) rfl ?_)
  refine RJ_defer rfl rfl ?_
  refine RJ_nil ?_
  refine QJ_then ?_
  refine CJ_seq ?_
  refine CJ_region ?_
  refine RJ_op rfl (OJ_P (P_move rfl) rfl ?_)
  obtain ⟨r5, hr6, h⟩ := bind_e h
  refine RJ_op rfl (O_call (L_copies_Scan rl hr6) rfl Try.call41 (Dels.cons del2 (Dels.cons del2 (Dels.cons del2 Dels.nil))) rfl (fun X7 _ => ?_))
  refine RJ_op rfl (OJ_P (P_move rfl) rfl ?_)
  refine RJ_op rfl (OJ_P (P_extract (v := X7.1.v) rfl rfl) rfl ?_)
  refine RJ_op rfl (OJ_P (P_extract (v := X7.2.v) rfl rfl) rfl ?_)
  refine RJ_op rfl (OJ_P (P_extract rfl rfl) rfl ?_)
  refine RJ_op rfl (OJ_P (P_assign rfl) rfl ?_)
  refine RJ_op rfl (OJ_P (P_assign rfl) rfl ?_)
  refine RJ_op rfl (OJ_P (P_assign rfl) rfl ?_)
  refine RJ_nil ?_
  refine QJ_then ?_
  refine CJ_seq ?_
  refine CJ_seq ?_
  refine CJ_region ?_
  refine RJ_op rfl (OJ_P (P_move rfl) rfl ?_)
  refine RJ_op rfl (OJ_V (V_len rfl foc4 (Reads.sl _ _ _) Try.runUnderlying38) rfl ?_)
  refine RJ_op rfl (OJ_P (P_gtr (a := ((r5.2.1.length : Nat) : Int)) (b := (0 : Int)) rfl rfl) rfl ?_)
  refine RJ_nil ?_
  refine QJ_ent (Ent.take del0 (Ent.take del0 (Ent.take del0 (Ent.take del0 (Ent.take del1 (Ent.take del1 (Ent.drop Ent.refl))))))) ?_
  refine QJ_then ?_
  refine CJ_condP rfl bT_dec (fun hg1 => ?_) (fun hg1 => ?_)
  ·
    replace h := ite_t hg1 h
    refine CJ_seq ?_
    refine CJ_region ?_
    refine RJ_op rfl (OJ_V (V_loadN rfl foc5 Try.isAgg34 Try.sizeOf34 rfl rfl) rfl ?_)
    refine RJ_op rfl (O_storeN rfl rfl foc5 Try.sizeOf34 rfl rfl rfl ?_)
    refine RJ_op rfl (O_store rfl rfl foc4 rfl rfl Try.sizeOf30 ?_)
    refine RJ_nil ?_
    refine QJ_then ?_
    refine CJ_ret ?_
    refine QJ_then_ret ?_
    obtain ⟨r10, hr11, h⟩ := bind_e h
    have hE := Option.some.inj h
    subst hE
    refine QJ_endD1 (.inl rfl) Try.call77 (Ent.take del4 (Ent.take del4 Ent.refl)) (LD_copies_Settle_1 hr11) (resA2 Try.results52 (RV_cellN rfl foc1 Try.isAgg34 Try.sizeOf34 rfl rfl) (RV_cell rfl foc0 rfl Try.isAgg30)) ?_
    refine CSpec.close () ?_ ?_ (Ent.take del2 (Ent.take del2 (Ent.take del2 (Ent.drop (Ent.drop (Ent.drop Ent.refl))))))
    · rfl
    · trivial
  ·
    replace h := ite_f hg1 h
    refine CJ_skip ?_
    refine QJ_then ?_
    refine CJ_seq ?_
    refine CJ_region ?_
    refine RJ_op rfl (OJ_P (P_move rfl) rfl ?_)
    obtain ⟨r12, hr13, h⟩ := bind_e h
    refine RJ_op rfl (O_call (L_copies_Choose (Reads.sl _ _ _) hr13) rfl Try.call48 (Dels.cons del3 Dels.nil) rfl (fun _ _ => ?_))
    refine RJ_op rfl (OJ_P (P_move rfl) rfl ?_)
    refine RJ_op rfl (OJ_P (P_extract rfl rfl) rfl ?_)
    refine RJ_op rfl (OJ_P (P_extract rfl rfl) rfl ?_)
    refine RJ_op rfl (OJ_P (P_assign rfl) rfl ?_)
    refine RJ_op rfl (O_store rfl rfl foc4 rfl rfl Try.sizeOf30 ?_)
    refine RJ_nil ?_
    refine QJ_then ?_
    refine CJ_seq ?_
    refine CJ_seq ?_
    refine CJ_region ?_
    refine RJ_op rfl (OJ_V (V_load rfl foc4 rfl Try.isAgg30) rfl ?_)
    refine RJ_op rfl (OJ_P (P_neq (a := r12.2) (b := (0 : Int)) rfl rfl) rfl ?_)
    refine RJ_nil ?_
    refine QJ_then ?_
    refine CJ_condP rfl bT_dec (fun hg2 => ?_) (fun hg2 => ?_)
    ·
      replace h := ite_t hg2 h
      refine CJ_seq ?_
      refine AJ_startH 8 (by kernel_rfl) rfl ?_
      refine AJ_takeV 0 1 rfl (by kernel_rfl) rfl (by kernel_rfl) (by kernel_rfl) (GY_none rfl) Ent.refl (V_loadN rfl foc5 Try.isAgg34 Try.sizeOf34 rfl rfl) rfl (fun _ _ _ _ h => h) ?_
      refine AJ_takeV 1 3 rfl (by kernel_rfl) rfl (by kernel_rfl) (by kernel_rfl) (GY_none rfl) Ent.refl (V_load rfl foc4 rfl Try.isAgg30) rfl (fun _ _ _ _ h => h) ?_
      refine AJ_op 2 7 rfl (by kernel_rfl) rfl (GY_none rfl) (O_storeN rfl rfl foc5 Try.sizeOf34 rfl rfl rfl ?_)
      refine ⟨fun _ => Ent.refl, ?_⟩
      refine AJ_op 3 15 rfl (by kernel_rfl) rfl (GY_none rfl) (O_store rfl rfl foc4 rfl rfl Try.sizeOf30 ?_)
      refine ⟨fun h => absurd h (by decide), ?_⟩
      refine AJ_done (by kernel_rfl) ?_
      refine QJ_then ?_
      refine CJ_ret ?_
      refine QJ_then_ret ?_
      obtain ⟨r14, hr15, h⟩ := bind_e h
      have hE := Option.some.inj h
      subst hE
      refine QJ_endD1 (.inl rfl) Try.call77 (Ent.take del4 (Ent.take del4 Ent.refl)) (LD_copies_Settle_1 hr15) (resA2 Try.results52 (RV_cellN rfl foc1 Try.isAgg34 Try.sizeOf34 rfl rfl) (RV_cell rfl foc0 rfl Try.isAgg30)) ?_
      refine CSpec.close () ?_ ?_ (Ent.take del3 (Ent.take del3 (Ent.take del3 (Ent.drop (Ent.drop (Ent.drop Ent.refl))))))
      · rfl
      · trivial
    ·
      replace h := ite_f hg2 h
      refine CJ_skip ?_
      refine QJ_then ?_
      refine CJ_seq ?_
      refine CJ_region ?_
      refine RJ_op rfl (OJ_P (P_move rfl) rfl ?_)
      obtain ⟨r16, hr17, h⟩ := bind_e h
      refine RJ_op rfl (O_call (L_copies_Next hr17) rfl Try.call50 Dels.nil rfl (fun _ _ => ?_))
      refine RJ_op rfl (OJ_P (P_move rfl) rfl ?_)
      refine RJ_op rfl (OJ_P (P_extract rfl rfl) rfl ?_)
      refine RJ_op rfl (OJ_P (P_extract rfl rfl) rfl ?_)
      refine RJ_op rfl (OJ_P (P_assign rfl) rfl ?_)
      refine RJ_op rfl (O_store rfl rfl foc4 rfl rfl Try.sizeOf30 ?_)
      refine RJ_nil ?_
      refine QJ_then ?_
      refine CJ_seq ?_
      refine CJ_seq ?_
      refine CJ_region ?_
      refine RJ_op rfl (OJ_V (V_load rfl foc4 rfl Try.isAgg30) rfl ?_)
      refine RJ_op rfl (OJ_P (P_neq (a := r16.2) (b := (0 : Int)) rfl rfl) rfl ?_)
      refine RJ_nil ?_
      refine QJ_then ?_
      refine CJ_condP rfl bT_dec (fun hg3 => ?_) (fun hg3 => ?_)
      ·
        replace h := ite_t hg3 h
        refine CJ_seq ?_
        refine AJ_startH 8 (by kernel_rfl) rfl ?_
        refine AJ_takeV 0 1 rfl (by kernel_rfl) rfl (by kernel_rfl) (by kernel_rfl) (GY_none rfl) Ent.refl (V_loadN rfl foc5 Try.isAgg34 Try.sizeOf34 rfl rfl) rfl (fun _ _ _ _ h => h) ?_
        refine AJ_takeV 1 3 rfl (by kernel_rfl) rfl (by kernel_rfl) (by kernel_rfl) (GY_none rfl) Ent.refl (V_load rfl foc4 rfl Try.isAgg30) rfl (fun _ _ _ _ h => h) ?_
        refine AJ_op 2 7 rfl (by kernel_rfl) rfl (GY_none rfl) (O_storeN rfl rfl foc5 Try.sizeOf34 rfl rfl rfl ?_)
        refine ⟨fun _ => Ent.refl, ?_⟩
        refine AJ_op 3 15 rfl (by kernel_rfl) rfl (GY_none rfl) (O_store rfl rfl foc4 rfl rfl Try.sizeOf30 ?_)
        refine ⟨fun h => absurd h (by decide), ?_⟩
        refine AJ_done (by kernel_rfl) ?_
        refine QJ_then ?_
        refine CJ_ret ?_
        refine QJ_then_ret ?_
        obtain ⟨r18, hr19, h⟩ := bind_e h
        have hE := Option.some.inj h
        subst hE
        refine QJ_endD1 (.inl rfl) Try.call77 (Ent.take del4 (Ent.take del4 Ent.refl)) (LD_copies_Settle_1 hr19) (resA2 Try.results52 (RV_cellN rfl foc1 Try.isAgg34 Try.sizeOf34 rfl rfl) (RV_cell rfl foc0 rfl Try.isAgg30)) ?_
        refine CSpec.close () ?_ ?_ (Ent.take del3 (Ent.take del3 (Ent.take del3 (Ent.drop (Ent.drop (Ent.drop Ent.refl))))))
        · rfl
        · trivial
      ·
        replace h := ite_f hg3 h
        refine CJ_skip ?_
        refine QJ_then ?_
        refine CJ_seq ?_
        refine CJ_seq ?_
        refine CJ_region ?_
        refine RJ_op rfl (OJ_P (P_move rfl) rfl ?_)
        refine RJ_op rfl (OJ_V (VJ_eq (V_len rfl foc1 rl Try.runUnderlying67) (congrArg (fun z : Nat => Value.int .i64 (z : Int)) (hdl2).symm)) rfl ?_)
        refine RJ_op rfl (OJ_P (P_move rfl) rfl ?_)
        refine RJ_nil ?_
        refine QJ_then ?_
        obtain ⟨y22, hl20, hK21⟩ := seq_e h
        refine CJ_cutT (X := ArrS) [10, 11, 12, 44, 45, 46, 47, 48, 49, 50, 51, 52, 53, 54, 55, 56, 57, 58, 59] (fun a24 => ([] : Slots)) (fun a24 R => Arr bs a24 :: R) (fun a24 => y22 = .inl a24) (Dels.cons del3 Dels.nil) ?_ ?_
        ·
          refine CJ_block ?_
          refine CJ_loopR (X := Nat × ArrS × Nat) [10, 11, 12, 44, 45, 46, 47, 48, 49, 50, 51, 52, 53, 54, 55, 56, 57, 58, 59] (fun ⟨n, x25, x26⟩ => ([(44, .int .i64 (((x26 : Nat) : Int)))] : Slots)) (fun ⟨n, x25, x26⟩ R => Arr bs x25 :: R) (fun ⟨n, x25, x26⟩ => copies_Settle_l1 l n x25 x26 = some y22) (fun ⟨n, x25, x26⟩ => n) ⟨FUEL, s, 0⟩ ?_ ?_ (Ent.take del3 Ent.refl) ?_
          · exact hl20
          · exact ⟨rfl, True.intro⟩
          ·
            rintro ⟨n, x25, x26⟩ h
            cases n with
            | zero => exact none_e h
            | succ n => ?_
            replace h : copies_Settle_l1_b l (copies_Settle_l1 l n) x25 x26 = some y22 := h
            unfold copies_Settle_l1_b at h
            show CJ _ _ _ _ _ (([(44, .int .i64 (((x26 : Nat) : Int)))] : Slots) ++ forget _ _) (Arr bs x25 :: _)
            refine CJ_seq ?_
            refine CJ_region ?_
            refine RJ_op rfl (OJ_P (P_lss (a := ((x26 : Nat) : Int)) (b := ((l.length : Nat) : Int)) rfl rfl) rfl ?_)
            refine RJ_nil ?_
            refine QJ_then ?_
            refine CJ_seq ?_
            refine CJ_condP rfl bT_dec (fun hg4 => ?_) (fun hg4 => ?_)
            ·
              replace h := ite_t hg4 h
              refine CJ_skip ?_
              refine QJ_then ?_
              refine CJ_seq ?_
              refine CJ_block ?_
              refine CJ_seq ?_
              refine CJ_region ?_
              refine RJ_op rfl (OJ_V (V_index (i := x26) rfl rfl rfl (by have hz : x26 < l.length := (by omega); have hy := hdl2; omega) foc2 rl Try.runUnderlying67 Try.sizeOf26) rfl ?_)
              refine RJ_ent (Ent.trans (Ent.take del3 Ent.refl) (Rs_at (fun _ _ => Dup_DevP) (dx := dv0) (dh := tyDev.dflt) (i := x26) (by omega))) ?_
              refine RJ_op rfl (OJ_V (V_loadE rfl rfl (by have hz : x26 < l.length := (by omega); have hy := hdl2; omega) foc4 rl rfl rfl Try.isAgg26) rfl ?_)
              refine RJ_op rfl (OJ_P (P_assign rfl) rfl ?_)
              refine RJ_nil ?_
              refine QJ_then ?_
              refine CJ_seq ?_
              refine CJ_region ?_
              refine RJ_op rfl (OJ_P (P_move rfl) rfl ?_)
              obtain ⟨r28, hr29, h⟩ := bind_e h
              refine RJ_op rfl (O_call (L_copies_look hr29) rfl Try.call73 (Dels.cons del0 (Dels.cons del1 Dels.nil)) rfl (fun _ _ => ?_))
              refine RJ_op rfl (O_alloc Try.zeroValue140 rfl rfl (fun b30 => ?_))
              refine RJ_op rfl (O_storeN rfl rfl foc0 Try.sizeOf140 rfl rfl rfl ?_)
              refine RJ_nil ?_
              refine QJ_then ?_
              refine CJ_seq ?_
              refine CJ_region ?_
              refine RJ_op rfl (OJ_P (P_fieldAddr rfl ⟨_, _, _, Try.runUnderlying140, rfl, rfl, Try.sizeOf30, rfl⟩) rfl ?_)
              refine RJ_op rfl (OJ_V (V_load rfl foc0 rfl Try.isAgg30) rfl ?_)
              refine RJ_op rfl (OJ_P (P_eql (a := r28.error) (b := (11 : Int)) rfl rfl) rfl ?_)
              refine RJ_nil ?_
              refine QJ_ent (Ent.take del1 (Ent.take del1 (Ent.take del1 (Ent.take del1 (Ent.take del1 (Ent.take del1 (Ent.take del1 (Ent.drop Ent.refl)))))))) ?_
              refine QJ_then ?_
              refine CJ_condP rfl bT_dec (fun hg5 => ?_) (fun hg5 => ?_)
              ·
                replace h := ite_t hg5 h
                refine CJ_seq ?_
                refine CJ_region ?_
                refine RJ_op rfl (OJ_P (P_move rfl) rfl ?_)
                obtain ⟨r31, hr32, h⟩ := bind_e h
                refine RJ_op rfl (O_call (L_ring_Clear hr32) rfl Try.call29 (Dels.cons del0 (Dels.cons del0 Dels.nil)) rfl (fun _ _ => ?_))
                refine RJ_op rfl (OJ_P (P_assign rfl) rfl ?_)
                refine RJ_nil ?_
                refine QJ_ent (Ent.take del1 (Ent.take del1 (Ent.take del1 (Ent.take del1 (Ent.take del1 (Ent.take del1 (Ent.drop Ent.refl))))))) ?_
                refine QJ_then ?_
                refine CJ_seq ?_
                refine CJ_region ?_
                refine RJ_op rfl (OJ_P (P_move rfl) rfl ?_)
                refine RJ_op rfl (OJ_P (P_neq (a := r31.1) (b := (0 : Int)) rfl rfl) rfl ?_)
                refine RJ_nil ?_
                refine QJ_then ?_
                refine CJ_condP rfl bT_dec (fun hg6 => ?_) (fun hg6 => ?_)
                ·
                  replace h := ite_t hg6 h
                  refine CJ_seq ?_
                  refine CJ_region ?_
                  refine RJ_op rfl (OJ_V (V_loadN rfl foc5 Try.isAgg34 Try.sizeOf34 rfl rfl) rfl ?_)
                  refine RJ_op rfl (OJ_P (P_move rfl) rfl ?_)
                  refine RJ_op rfl (O_storeN rfl rfl foc5 Try.sizeOf34 rfl rfl rfl ?_)
                  refine RJ_op rfl (O_store rfl rfl foc4 rfl rfl Try.sizeOf30 ?_)
                  refine RJ_nil ?_
                  refine QJ_then ?_
                  refine CJ_ret ?_
                  refine QJ_block_ret ?_
                  refine QJ_then_ret ?_
                  refine QJ_round_ret ?_
                  refine QJ_block_ret ?_
                  refine QJ_then_ret ?_
                  obtain ⟨r33, hr34, h⟩ := bind_e h
                  have hE := Option.some.inj h
                  replace hE := seq_inr hK21 hE.symm
                  subst hE
                  refine QJ_endD1 (.inl rfl) Try.call77 (Ent.take del4 (Ent.take del4 Ent.refl)) (LD_copies_Settle_1 hr34) (resA2 Try.results52 (RV_cellN rfl foc1 Try.isAgg34 Try.sizeOf34 rfl rfl) (RV_cell rfl foc0 rfl Try.isAgg30)) ?_
                  refine CSpec.close () ?_ ?_ (Ent.take del5 (Ent.take del3 (Ent.take del2 (Ent.drop (Ent.drop (Ent.drop Ent.refl))))))
                  · rfl
                  · trivial
                ·
                  replace h := ite_f hg6 h
                  refine CJ_skip ?_
                  refine QJ_block_normal ?_
                  refine QJ_then ?_
                  refine CJ_region ?_
                  refine RJ_op rfl (OJ_P (PJ_eq (P_add (a := ((x26 : Nat) : Int)) (b := (1 : Int)) rfl rfl (by omega)) rfl) rfl ?_)
                  refine RJ_op rfl (OJ_P (P_move rfl) rfl ?_)
                  refine RJ_nil ?_
                  refine QJ_nextR ⟨n, r31.2, (x26 + 1)⟩ (Nat.lt_succ_self _) ?_ (by repeat (first | exact Kp.base | exact Kp.self | refine Kp.cons rfl ?_ | refine Kp.forget rfl ?_)) ?_ (Ent.take del0 (Ent.take del1 (Ent.take del1 Ent.refl)))
                  · exact h
                  · exact ⟨rfl, True.intro⟩
              ·
                replace h := ite_f hg5 h
                refine CJ_skip ?_
                refine QJ_block_normal ?_
                refine QJ_ent (Ent.take del1 (Ent.take del1 (Ent.take del1 (Ent.take del1 (Ent.take del1 (Ent.take del1 (Ent.drop Ent.refl))))))) ?_
                refine QJ_then ?_
                refine CJ_region ?_
                refine RJ_op rfl (OJ_P (PJ_eq (P_add (a := ((x26 : Nat) : Int)) (b := (1 : Int)) rfl rfl (by omega)) rfl) rfl ?_)
                refine RJ_op rfl (OJ_P (P_move rfl) rfl ?_)
                refine RJ_nil ?_
                refine QJ_nextR ⟨n, x25, (x26 + 1)⟩ (Nat.lt_succ_self _) ?_ (by repeat (first | exact Kp.base | exact Kp.self | refine Kp.cons rfl ?_ | refine Kp.forget rfl ?_)) ?_ (Ent.take del0 (Ent.take del1 (Ent.take del1 Ent.refl)))
                · exact h
                · exact ⟨rfl, True.intro⟩
            ·
              replace h := ite_f hg4 h
              refine CJ_exit ?_
              refine QJ_then_exit ?_
              refine QJ_round_exit ?_
              refine QJ_block_here ?_
              refine QJ_cutR x25 ?_ (by repeat (first | exact Kp.base | exact Kp.self | refine Kp.cons rfl ?_ | refine Kp.forget rfl ?_)) ?_ Ent.refl
              · exact (Option.some.inj h).symm
              · exact True.intro
        ·
          rintro a24 hy35
          replace h := seq_inl hK21 hy35
          show CJ _ _ _ _ _ (([] : Slots) ++ forget _ _) (Arr bs a24 :: _)
          refine CJ_seq ?_
          refine CJ_region ?_
          refine RJ_op rfl (OJ_P (P_move rfl) rfl ?_)
          refine RJ_op rfl (OJ_P (P_move rfl) rfl ?_)
          refine RJ_op rfl (OJ_P (P_move rfl) rfl ?_)
          refine RJ_op rfl (OJ_P (P_move rfl) rfl ?_)
          obtain ⟨hg7, h⟩ := grd_de h
          refine RJ_op rfl (OJ_V (V_index (i := (r12.1).toNat) rfl rfl (Int.toNat_of_nonneg (hg7.1)).symm (by omega) foc1 (Reads.sl _ _ _) Try.runUnderlying66 Try.sizeOf34) rfl ?_)
          refine RJ_op rfl (OJ_P (P_fieldE rfl ⟨_, _, _, Try.runUnderlying34, rfl, rfl, Try.sizeOf9, rfl⟩) rfl ?_)
          refine RJ_op rfl (OJ_V (V_loadE rfl rfl (by omega) foc1 (Reads.sl _ _ _) rfl rfl Try.isAgg9) rfl ?_)
          obtain ⟨r36, hr37, h⟩ := bind_e h
          refine RJ_op rfl (O_call (L_copies_Commit rl hr37) rfl Try.call45 (Dels.cons del2 (Dels.cons del2 (Dels.cons del0 Dels.nil))) rfl (fun _ _ => ?_))
          refine RJ_op rfl (OJ_P (P_move rfl) rfl ?_)
          refine RJ_op rfl (OJ_P (P_extract rfl rfl) rfl ?_)
          refine RJ_op rfl (OJ_P (P_extract rfl rfl) rfl ?_)
          refine RJ_op rfl (O_store rfl rfl foc4 rfl rfl Try.sizeOf30 ?_)
          refine RJ_nil ?_
          refine QJ_then ?_
          refine CJ_seq ?_
          refine AJ_start [Al, Rs (DevP bs) l hsl, Arr bs r36.2.2, sl tyapi_Copy X7.1.v r5.1, blk b4 30 [.int .i64 r36.2.1]] 512 (by kernel_rfl) rfl ?_
          refine AJ_takeP 0 1 rfl (by kernel_rfl) rfl (GY_none rfl) (P_move rfl) rfl (fun _ _ _ _ h => h) ?_
          refine AJ_takeP 1 3 rfl (by kernel_rfl) rfl (GY_none rfl) (P_move rfl) rfl (fun _ _ _ _ h => h) ?_
          refine AJ_takeP 2 7 rfl (by kernel_rfl) rfl (GY_none rfl) (P_move rfl) rfl (fun _ _ _ _ h => h) ?_
          obtain ⟨hg8, h⟩ := grd_de h
          refine AJ_takeV 3 15 rfl (by kernel_rfl) rfl (by kernel_rfl) (by kernel_rfl) (GY_none rfl) (Ent.take del0 (Ent.take del0 (Ent.take del0 (Ent.take del0 (Ent.take del0 Ent.done))))) (V_index (i := (r12.1).toNat) rfl rfl (Int.toNat_of_nonneg (hg8.1)).symm (by omega) foc3 (Reads.sl _ _ _) Try.runUnderlying66 Try.sizeOf34) rfl (fun _ _ _ _ h => h) ?_
          refine AJ_takeP 4 31 rfl (by kernel_rfl) rfl (GY_none rfl) (P_fieldE rfl ⟨_, _, _, Try.runUnderlying34, rfl, rfl, Try.sizeOf9, rfl⟩) rfl (fun _ _ _ _ h => h) ?_
          refine AJ_takeV 5 63 rfl (by kernel_rfl) rfl (by kernel_rfl) (by kernel_rfl) (GY_none rfl) (Ent.take del0 (Ent.take del0 (Ent.take del0 (Ent.take del0 (Ent.take del0 Ent.done))))) (V_loadE rfl rfl (by omega) foc3 (Reads.sl _ _ _) rfl rfl Try.isAgg9) rfl (fun _ _ _ _ h => h) ?_
          refine AJ_takeP 6 127 rfl (by kernel_rfl) rfl (GY_none rfl) (P_build rfl (bld_34_0_1_2 _ _ _)) rfl (fun _ _ _ _ h => h) ?_
          refine AJ_takeV 7 255 rfl (by kernel_rfl) rfl (by kernel_rfl) (by kernel_rfl) (GY_none rfl) (Ent.take del0 (Ent.take del0 (Ent.take del0 (Ent.take del0 (Ent.take del0 Ent.done))))) (V_load rfl foc4 rfl Try.isAgg30) rfl (fun _ _ _ _ h => h) ?_
          refine AJ_op 8 511 rfl (by kernel_rfl) rfl (GY_none rfl) (O_storeN rfl rfl foc5 Try.sizeOf34 rfl rfl rfl ?_)
          refine ⟨fun _ => (Ent.take del0 (Ent.take del0 (Ent.take del0 (Ent.take del0 (Ent.take del0 Ent.done))))), ?_⟩
          refine AJ_op 9 1023 rfl (by kernel_rfl) rfl (GY_none rfl) (O_store rfl rfl foc4 rfl rfl Try.sizeOf30 ?_)
          refine ⟨fun h => absurd h (by decide), ?_⟩
          refine AJ_done (by kernel_rfl) ?_
          refine QJ_then ?_
          refine CJ_ret ?_
          obtain ⟨r38, hr39, h⟩ := bind_e h
          have hE := Option.some.inj h
          subst hE
          refine QJ_endD1 (.inl rfl) Try.call77 (Ent.take del4 (Ent.take del4 Ent.refl)) (LD_copies_Settle_1 hr39) (resA2 Try.results52 (RV_cellN rfl foc1 Try.isAgg34 Try.sizeOf34 rfl rfl) (RV_cell rfl foc0 rfl Try.isAgg30)) ?_
          refine CSpec.close () ?_ ?_ (Ent.take del2 (Ent.take del2 (Ent.take del2 (Ent.drop (Ent.drop (Ent.drop Ent.refl))))))
          · rfl
          · trivial
end Go.Proofs
namespace Go.Proofs
open Go.VG
theorem Lv.fuse {ns : List Nat} {K d n m : Nat} {s : ArrS} (h : Lv ns K d n s) : Lv ns K d n { s with fuse := m } := ⟨h.ok.fuse, h.dn, h.hd, h.hn, h.h4, h.hb, h.ms, h.cl, h.hK⟩
theorem Lv.mono {ns : List Nat} {K K' d n : Nat} {s : ArrS} (h : Lv ns K d n s) (hK : K ≤ K') (h9 : K' ≤ 900000) : Lv ns K' d n s := ⟨h.ok.mono hK, h.dn, h.hd, h.hn, h.h4, h.hb, h.ms, h.cl, h9⟩
abbrev w1 (s : ArrS) (e : Nat) : Nat := (dQ (now s e 1)).toNat
section
variable {ns : List Nat} {n : Nat}
def Aft (ns : List Nat) (K n : Nat) (c : Nat → Option Txt) (V : Nat → Nat → Prop) (t : ArrS) : Prop :=
  t.writes ≤ K ∧ ∀ (f : Nat) (ks : List Bool) (e : Nat), e < ns.length → Lv ns K e n (rsS { t with fuse := f } ks) ∧ Hold (now (rsS { t with fuse := f } ks) e) (rgR n) 0 (c e) ∧ V e (w1 (rsS { t with fuse := f } ks) e)
theorem Aft.rs {K : Nat} {t : ArrS} {c : Nat → Option Txt} {V : Nat → Nat → Prop} (h : Aft ns K n c V t) (ks : List Bool) (e : Nat) (he : e < ns.length) : Lv ns K e n (rsS t ks) ∧ Hold (now (rsS t ks) e) (rgR n) 0 (c e) ∧ V e (w1 (rsS t ks) e) := h.2 t.fuse ks e he
theorem great_fold {s : ArrS} {g : Nat} : ∀ (ds : List Nat) (a : Int), a ≤ (g : Int) → (∀ d, d ∈ ds → (dQ (now s d 0)).toNat ≤ g ∧ w1 s d ≤ g) →
    a ≤ ds.foldl (fun m d => max m (max ((dQ (now s d 0)).toNat : Int) ((dQ (now s d 1)).toNat : Int))) a ∧ ds.foldl (fun m d => max m (max ((dQ (now s d 0)).toNat : Int) ((dQ (now s d 1)).toNat : Int))) a ≤ (g : Int) ∧
      ∀ d, d ∈ ds → ((dQ (now s d 0)).toNat : Int) ≤ ds.foldl (fun m d => max m (max ((dQ (now s d 0)).toNat : Int) ((dQ (now s d 1)).toNat : Int))) a ∧ (w1 s d : Int) ≤ ds.foldl (fun m d => max m (max ((dQ (now s d 0)).toNat : Int) ((dQ (now s d 1)).toNat : Int))) a
  | [], a, ha, _ => ⟨Int.le_refl _, ha, fun d h => nomatch h⟩
  | d :: ds, a, ha, h => by
    have h4 := h d (by simp)
    have h5 : w1 s d = (dQ (now s d 1)).toNat := rfl
    obtain ⟨h1, h2, h3⟩ := great_fold ds (max a (max ((dQ (now s d 0)).toNat : Int) ((dQ (now s d 1)).toNat : Int))) (by omega) (fun e he => h e (List.mem_cons_of_mem _ he))
    rw [List.foldl_cons]
    refine ⟨by omega, h2, fun e he => ?_⟩
    rcases List.mem_cons.1 he with he | he
    · rw [he]; omega
    · exact h3 e he
theorem greatR_spec {s : ArrS} {g : Nat} (ds : List Nat) (h : ∀ d, d ∈ ds → (dQ (now s d 0)).toNat ≤ g ∧ w1 s d ≤ g) : 0 ≤ greatR s ds ∧ greatR s ds ≤ (g : Int) ∧ ∀ d, d ∈ ds → ((dQ (now s d 0)).toNat : Int) ≤ greatR s ds ∧ (w1 s d : Int) ≤ greatR s ds :=
  great_fold ds 0 (by omega) h
section
variable {K : Nat} {s : ArrS} {ds : List Nat}
theorem set1_eq {e : Int} {v : Bool} {q : Int} {x : ByteArray} : copies_Settle_1 e v q x = some (if e ≠ 0 then (false, 0, ByteArray.empty) else (v, q, x)) := by
  unfold copies_Settle_1
  split <;> rfl
theorem settle_no (hl : ∀ i, i < ds.length → Lv ns K (ds.getD i 0) n s) (h100 : ds.length ≤ 1000) {k e : Int} (hc : copies_Choose (copiesR s n ds) = some (k, e)) (he : e ≠ 0) : copies_Settle (dks ds n) s = some (zC, e, s) := by
  unfold copies_Settle
  rw [scan_eq hl h100]; simp only [Option.bind_some]
  rw [if_neg (by simp), hc]; simp only [Option.bind_some]
  rw [if_pos he, set1_eq, if_pos he]; rfl
theorem settle_limit (hl : ∀ i, i < ds.length → Lv ns K (ds.getD i 0) n s) (h100 : ds.length ≤ 1000) {k : Int} (hc : copies_Choose (copiesR s n ds) = some (k, 0)) (h0 : 0 ≤ greatR s ds) (hg : (1048575 : Int) ≤ greatR s ds) : copies_Settle (dks ds n) s = some (zC, 4, s) := by
  unfold copies_Settle
  rw [scan_eq hl h100]; simp only [Option.bind_some]
  rw [if_neg (by simp), hc]; simp only [Option.bind_some]
  rw [if_neg (by decide)]
  unfold copies_Next
  rw [if_neg (by omega), if_pos hg]; simp only [Option.bind_some]
  rw [if_pos (by decide), set1_eq, if_pos (by decide)]; rfl
theorem settle_go {s' : ArrS} (hl : ∀ i, i < ds.length → Lv ns K (ds.getD i 0) n s) (h100 : ds.length ≤ 1000) {k : Nat} (hc : copies_Choose (copiesR s n ds) = some ((k : Int), 0)) (hk : k < ds.length) (h0 : 0 ≤ greatR s ds) (hg : greatR s ds < (1048575 : Int))
    (hlo : copies_Settle_l1 (dks ds n) FUEL s 0 = some (.inl s')) {r : Bool × Int × ArrS} (hr : copies_Commit (dks ds n) (greatR s ds + 1) ((copiesR s n ds).getD k zC).Text s' = some r) :
    copies_Settle (dks ds n) s = some (if r.2.1 ≠ 0 then zC else ⟨true, greatR s ds + 1, ((copiesR s n ds).getD k zC).Text⟩, r.2.1, r.2.2) := by
  unfold copies_Settle
  rw [scan_eq hl h100]; simp only [Option.bind_some]
  rw [if_neg (by simp), hc]; simp only [Option.bind_some]
  rw [if_neg (by decide)]
  unfold copies_Next
  rw [if_neg (by omega), if_neg (by omega)]; simp only [Option.bind_some]
  have hkl : k < (copiesR s n ds).length := by simp [copiesR, hk]
  rw [if_neg (by decide), hlo]
  simp only [seqO, Option.bind_some, Sum.elim_inl]
  rw [grd_pos (decide_eq_true (by omega)), Int.toNat_natCast, show copies_Commit (dks ds n) (greatR s ds + 1) ((copiesR s n ds).getD k (⟨false, 0, ByteArray.empty⟩ : api_Copy)).Text s' = _ from hr]; simp only [Option.bind_some]
  rw [grd_pos (decide_eq_true (by omega)), set1_eq]; simp only [Option.bind_some]
  split <;> rfl
end
end
end Go.Proofs
namespace Go.Proofs
open Go.VG
section
variable {s t : ArrS} {K k d : Nat}
structure Ld (ns : List Nat) (K : Nat) (s : ArrS) (d : Nat) (im : List UInt64) (t : ArrS) : Prop where
  ok : ArrOk ns K t
  dn : t.down = s.down
  fuse : t.fuse = s.fuse
  miss : ∀ e, Go.Proofs.miss t e = Go.Proofs.miss s e
  oth : ∀ i a, i ≠ d → Go.Proofs.now t i a = Go.Proofs.now s i a ∧ cand t i a = cand s i a
  own : ∀ a, Go.Proofs.now t d a = im.getD a 0 ∧ cand t d a = [im.getD a 0]
theorem drvSet {l : List Drive} {i j : Nat} {x : Drive} (h : i < l.length) : (l.set i x).getD j d0 = if j = i then x else l.getD j d0 := by
  simp only [List.getD, List.getElem?_set]
  by_cases e : i = j
  · subst e; simp [h]
  · rw [if_neg e, if_neg (fun x => e x.symm)]
theorem delUp_nil {n : Nat} : delUpTo [] ((d : Nat) : Int) n = [] := by
  unfold delUpTo
  generalize List.range n = l
  induction l with
  | nil => rfl
  | cons x l ih => rw [List.foldl_cons, show delM [] (((d : Nat) : Int), ((x : Nat) : Int)) = [] from rfl]; exact ih
theorem load_eq {ns : List Nat} {im : List UInt64} (h : ArrOk ns K s) (hd : d < ns.length) (hl : im.length = ns.getD d 0) : ldC s ((d : Nat) : Int) im = 0 ∧ Ld ns K s d im (ldS s ((d : Nat) : Int) im) := by
  have hdd := h.disk hd
  have hsz : (s.drv.getD d d0).now.length = ns.getD d 0 := by rw [← h.sz.size d hd, size_nowL]; rfl
  have hc : ldC s ((d : Nat) : Int) im = 0 := by
    unfold ldC
    rw [if_pos (show inR s ((d : Nat) : Int) from ⟨by omega, by omega⟩), Int.toNat_natCast, hsz, if_pos hl]
  have hdrv : (ldS s ((d : Nat) : Int) im).drv = s.drv.set d ⟨im, im, (s.drv.getD d d0).miss⟩ := by unfold ldS; rw [if_pos hc, Int.toNat_natCast]
  have hlog : (ldS s ((d : Nat) : Int) im).log = s.log.filter (fun r => !decide ((r.d : Int) = ((d : Nat) : Int))) := by unfold ldS; rw [if_pos hc]
  have hbad : (ldS s ((d : Nat) : Int) im).bad = [] := by unfold ldS; rw [if_pos hc, h.bad]; exact delUp_nil
  have hdn : (ldS s ((d : Nat) : Int) im).down = s.down := by unfold ldS; rw [if_pos hc]
  have hfu : (ldS s ((d : Nat) : Int) im).fuse = s.fuse := by unfold ldS; rw [if_pos hc]
  have hwr : (ldS s ((d : Nat) : Int) im).writes = s.writes := by unfold ldS; rw [if_pos hc]
  generalize ldS s ((d : Nat) : Int) im = t at hdrv hlog hbad hdn hfu hwr
  have hnow : ∀ e, nowL t e = if e = d then im else nowL s e := fun e => by
    unfold nowL; rw [hdrv, drvSet hdd]; split <;> rfl
  have hdur : ∀ e, durL t e = if e = d then im else durL s e := fun e => by
    unfold durL; rw [hdrv, drvSet hdd]; split <;> rfl
  have hpe : ∀ e a, pend t e a = if e = d then [] else pend s e a := fun e a => by
    show pendR t.log e a = _
    unfold pend pendR
    rw [hlog, List.filter_filter]
    split
    · rename_i z; subst z
      rw [List.filter_eq_nil_iff.2 (fun r _ => by simp; omega)]; rfl
    · rename_i z
      congr 2
      funext r
      by_cases y : r.d = e
      · have : ¬ ((r.d : Int) = ((d : Nat) : Int)) := by omega
        simp [this]
      · simp [y]
  have hsize : ∀ e, t.size e = if e = d then ns.getD d 0 else s.size e := fun e => by
    rw [size_nowL, hnow]; split
    · exact hl
    · rw [size_nowL]
  refine ⟨hc, ⟨⟨by rw [hdrv, List.length_set]; exact h.sz.cnt, fun e he => ?_, by rw [hwr]; exact h.sz.wr⟩, by rw [hwr]; exact h.wr, ⟨fun e => ?_, fun e a ha => ?_, fun r hr => ?_⟩, hbad⟩, hdn, hfu, fun e => ?_, fun i a hi => ?_, fun a => ?_⟩
  · rw [hsize]; split
    · rename_i z; rw [z]
    · exact h.sz.size e he
  · rw [hnow, hdur]; split
    · rfl
    · exact h.coh.len e
  · rw [hpe]; show lastD ((durL t e).getD a 0) _ = (nowL t e).getD a 0
    rw [hdur, hnow]
    rw [hsize] at ha
    split
    · rfl
    · rename_i z; rw [if_neg z] at ha; exact h.coh.last e a ha
  · rw [hlog] at hr
    have h1 := List.mem_filter.1 hr
    have h2 := h.coh.log r h1.1
    have h3 : r.d ≠ d := fun z => by have := h1.2; rw [z] at this; simp at this
    rw [hdrv, List.length_set, hsize, if_neg h3]
    exact h2
  · show (t.drv.getD e d0).miss = _
    rw [hdrv, drvSet hdd]; split
    · rename_i z; rw [z]; rfl
    · rfl
  · refine ⟨?_, ?_⟩
    · show (nowL t i).getD a 0 = _
      rw [hnow, if_neg hi]; rfl
    · show (durL t i).getD a 0 :: pend t i a = _
      rw [hdur, hpe, if_neg hi, if_neg hi]; rfl
  · refine ⟨?_, ?_⟩
    · show (nowL t d).getD a 0 = _
      rw [hnow, if_pos rfl]
    · show (durL t d).getD a 0 :: pend t d a = _
      rw [hdur, hpe, if_pos rfl, if_pos rfl]
end
end Go.Proofs
set_option linter.unusedSimpArgs false
set_option linter.unusedVariables false
set_option maxRecDepth 20000
set_option maxHeartbeats 4000000
namespace Go.Proofs
open Go.VG
theorem bld_117_0 (v0 : (Option Addr)) (v1 : Nat) (v2 : Nat) : ∀ w, (Instr.build 117 (#[(0, .slice v0 v1 v2)] : Array (Nat × Value))).run Try.prog w = .ok (.agg #[.slice v0 v1 v2, .int .i64 (0 : Int)]) w := fun w => by kernel_rfl
theorem bs_43_3_0_1_2 (v0 : ByteArray) (v1 : ByteArray) (v2 : ByteArray) : BuildsSlice Try.prog 43 3 [(0, .string v0), (1, .string v1), (2, .string v2)] 9 [.string v0, .string v1, .string v2] := fun w => by kernel_rfl
def volumegroupmake_New (l : List Int) : Option ((List Int) × Nat) :=
  if ((1000 : Int) < ((l.length : Nat) : Int)) then
    some ((((l.take 1000).drop 0), 0))
  else
    some (l, 0)
theorem L_volumegroupmake_New {W : World} {Al : HP} {vl : Value} {l : List Int} {r : (List Int) × Nat} (rl : Reads Al tyI vl l) (h : volumegroupmake_New l = some r) :
    CSpec Try.prog W 19 [vl] [Al] (fun x : Nat × Value => ptr x.1 0) (fun _ => True) (fun x F => Al :: blk x.1 117 [x.2, .int .i64 (((r.2 : Nat) : Int))] :: pur (Reads Al tyI x.2 r.1) :: F) := by
 refine CSpec.of_body Try.func19 rfl Try.ntmps19 rfl fun F => ?_
 show CJ _ _ _ _ _ _ (_ :: F)
 unfold volumegroupmake_New at h
 refine CJ_pure (len_of rl del0) fun hlen1 => sR <| oA rfl rfl <| nT <| CJ_seq <| sR <| oM rfl rfl <| oV (V_len rfl foc0 rl Try.runUnderlying38) rfl <| oP (P_gtr (a := ((l.length : Nat) : Int)) (b := (1000 : Int)) rfl rfl) rfl <| nT <| CJ_condP rfl bT_dec (fun hg1 => ?_) (fun hg1 => ?_)
 ·
  replace h := ite_t hg1 h
  refine CJ_region <| oM rfl rfl <| oV (V_slice (l := 0) (h := 1000) rfl foc0 rl rfl ⟨_, rfl⟩ (by omega) (by omega) Try.underlying38 Try.sizeOf3) rfl <| oA rfl rfl <| nT <| sR <| oM rfl rfl <| RJ_pure (reads_sl3 rl del0) fun hsv3 => ?_
  obtain ⟨sv2, hsv3⟩ := hsv3
  subst hsv3
  refine oP (P_build rfl (bld_117_0 _ _ _)) rfl <| oO <| O_box rfl rfl rfl fun b4 => oA rfl rfl <| nT <| CJ_ret ?_
  cases h
  exact fE (res1 Try.results19 rfl) ⟨b4, sliceV tyI.sz (Sl3.v sv2) 0 1000⟩ (t1_ (t0_ (Ent.trans (fun h hh => stars_pur.2 ⟨(Reads.sliceV (l := 0) (h := 1000) rl (by omega) (by omega)), hh⟩) <| t0_ eR)))
 ·
  replace h := ite_f hg1 h
  refine kT <| sR <| oM rfl rfl <| RJ_pure (reads_sl3 rl del0) fun hsv6 => ?_
  obtain ⟨sv5, hsv6⟩ := hsv6
  subst hsv6
  refine oP (P_build rfl (bld_117_0 _ _ _)) rfl <| oO <| O_box rfl rfl rfl fun b7 => oA rfl rfl <| nT <| CJ_ret ?_
  cases h
  exact fE (res1 Try.results19 rfl) ⟨b7, (Sl3.v sv5)⟩ (t1_ (t0_ (Ent.trans (fun h hh => stars_pur.2 ⟨rl, hh⟩) <| t0_ eR)))
def volumegroupmake_Src_Raw (s_0_L : List Int) (s_0_At : Int) : Option (Int × Int) :=
  if (((s_0_L.length : Nat) : Int) ≤ s_0_At) then
    some (((0 : Int), s_0_At))
  else
    grd (inI64 ((s_0_At + (1 : Int)))) <|
    grd (inI64 (((s_0_At + (1 : Int)) - (1 : Int)))) <|
    grd (decide (0 ≤ ((s_0_At + (1 : Int)) - (1 : Int)) ∧ ((s_0_At + (1 : Int)) - (1 : Int)) < (s_0_L.length : Int))) <|
    some (((s_0_L.getD ((((s_0_At + (1 : Int)) - (1 : Int))).toNat) 0), (s_0_At + (1 : Int))))
theorem L_volumegroupmake_Src_Raw {W : World} {bs_0 : Nat} {As_0_L : HP} {vs_0_L : Value} {s_0_L : List Int} {s_0_At : Int} {r : Int × Int} (rs_0_L : Reads As_0_L tyI vs_0_L s_0_L) (h : volumegroupmake_Src_Raw s_0_L s_0_At = some r) :
    CSpec Try.prog W 63 [ptr bs_0 0] [blk bs_0 117 [vs_0_L, .int .i64 s_0_At], As_0_L] (fun x : Unit => .int .i64 r.1) (fun _ => True) (fun x F => blk bs_0 117 [vs_0_L, .int .i64 r.2] :: As_0_L :: F) := by
 refine CSpec.of_body Try.func63 rfl Try.ntmps63 rfl fun F => ?_
 show CJ _ _ _ _ _ _ (_ :: _ :: F)
 unfold volumegroupmake_Src_Raw at h
 refine CJ_pure (len_of rs_0_L del1) fun hlen1 => sR <| oA rfl rfl <| nT <| CJ_seq <| CJ_seq <| AJ_startH 0 (by kernel_rfl) rfl <| aN 0 1 rfl rfl (P_move rfl) rfl <| aN 1 3 rfl rfl (P_nilCheck rfl) rfl <| aN 2 7 rfl rfl (P_fieldAddr rfl ⟨_, _, _, Try.runUnderlying117, rfl, rfl, Try.sizeOf3, rfl⟩) rfl <| aV 3 15 rfl rfl (GY_none rfl) eR (V_load rfl foc0 rfl Try.isAgg3) rfl <| aN 4 31 rfl rfl (P_move rfl) rfl <| aN 5 63 rfl rfl (P_nilCheck rfl) rfl <| aN 6 127 rfl rfl (P_fieldAddr rfl ⟨_, _, _, Try.runUnderlying117, rfl, rfl, Try.sizeOf38, rfl⟩) rfl <| aV 7 255 rfl rfl (GY_none rfl) eR (V_load rfl foc0 rfl Try.isAgg38) rfl <| aV 8 511 rfl rfl (GY_none rfl) eR (V_len rfl foc1 rs_0_L Try.runUnderlying38) rfl <| aN 9 1023 rfl rfl (P_geq (a := s_0_At) (b := ((s_0_L.length : Nat) : Int)) rfl rfl) rfl <| aD <| CJ_condP rfl bT_dec (fun hg1 => ?_) (fun hg1 => ?_)
 ·
  replace h := ite_t hg1 h
  refine sR <| oA rfl rfl <| nT <| CJ_ret <| QJ_then_ret ?_
  cases h
  exact fE (res1 Try.results63 rfl) () eR
 ·
  replace h := ite_f hg1 h
  refine kT <| sR <| oM rfl rfl <| oP (P_nilCheck rfl) rfl <| oP (P_fieldAddr rfl ⟨_, _, _, Try.runUnderlying117, rfl, rfl, Try.sizeOf3, rfl⟩) rfl <| oV (V_load rfl foc0 rfl Try.isAgg3) rfl ?_
  obtain ⟨hg2, h⟩ := grd_Ie h
  refine oP (P_add (a := s_0_At) (b := (1 : Int)) rfl rfl hg2) rfl <| oP (P_nilCheck rfl) rfl <| oP (P_fieldAddr rfl ⟨_, _, _, Try.runUnderlying117, rfl, rfl, Try.sizeOf3, rfl⟩) rfl <| oO <| O_store rfl rfl foc0 rfl rfl Try.sizeOf3 <| nT <| CJ_seq <| AJ_startH 0 (by kernel_rfl) rfl <| aN 0 1 rfl rfl (P_move rfl) rfl <| aN 1 3 rfl rfl (P_nilCheck rfl) rfl <| aN 2 7 rfl rfl (P_fieldAddr rfl ⟨_, _, _, Try.runUnderlying117, rfl, rfl, Try.sizeOf38, rfl⟩) rfl <| aV 3 15 rfl rfl (GY_none rfl) eR (V_load rfl foc0 rfl Try.isAgg38) rfl <| aN 4 31 rfl rfl (P_move rfl) rfl <| aN 5 63 rfl rfl (P_nilCheck rfl) rfl <| aN 6 127 rfl rfl (P_fieldAddr rfl ⟨_, _, _, Try.runUnderlying117, rfl, rfl, Try.sizeOf3, rfl⟩) rfl <| aV 7 255 rfl rfl (GY_none rfl) eR (V_load rfl foc0 rfl Try.isAgg3) rfl ?_
  obtain ⟨hg3, h⟩ := grd_Ie h
  refine aN 8 511 rfl rfl (P_sub (a := (s_0_At + (1 : Int))) (b := (1 : Int)) rfl rfl hg3) rfl ?_
  obtain ⟨hg4, h⟩ := grd_de h
  refine aV 9 1023 rfl rfl (GY_none rfl) eR (V_index (i := (((s_0_At + (1 : Int)) - (1 : Int))).toNat) rfl rfl (Int.toNat_of_nonneg (hg4.1)).symm (by omega) foc1 rs_0_L Try.runUnderlying38 Try.sizeOf3) rfl <| aV 10 2047 rfl rfl (GY_none rfl) eR (V_loadE rfl rfl (by omega) foc1 rs_0_L rfl rfl Try.isAgg3) rfl <| aN 11 4095 rfl rfl (P_assign rfl) rfl <| aD <| CJ_ret ?_
  cases h
  exact fE (res1 Try.results63 rfl) () eR
def volumegroupmake_Src_N (s_0_L : List Int) (s_0_At : Int) (n_1 : Int) : Option (Int × Int) :=
  if (n_1 < (1 : Int)) then
    some (((0 : Int), s_0_At))
  else
    Option.bind (volumegroupmake_Src_Raw s_0_L s_0_At) fun r2 =>
    if ((r2.1.tmod n_1) < (0 : Int)) then
      grd (inI64 (((r2.1.tmod n_1) + n_1))) <|
      some ((((r2.1.tmod n_1) + n_1), r2.2))
    else
      some (((r2.1.tmod n_1), r2.2))
theorem L_volumegroupmake_Src_N {W : World} {bs_0 : Nat} {As_0_L : HP} {vs_0_L : Value} {s_0_L : List Int} {s_0_At : Int} {n_1 : Int} {r : Int × Int} (rs_0_L : Reads As_0_L tyI vs_0_L s_0_L) (h : volumegroupmake_Src_N s_0_L s_0_At n_1 = some r) :
    CSpec Try.prog W 28 [ptr bs_0 0, .int .i64 n_1] [blk bs_0 117 [vs_0_L, .int .i64 s_0_At], As_0_L] (fun x : Unit => .int .i64 r.1) (fun _ => True) (fun x F => blk bs_0 117 [vs_0_L, .int .i64 r.2] :: As_0_L :: F) := by
 refine CSpec.of_body Try.func28 rfl Try.ntmps28 rfl fun F => ?_
 show CJ _ _ _ _ _ _ (_ :: _ :: F)
 unfold volumegroupmake_Src_N at h
 refine CJ_pure (len_of rs_0_L del1) fun hlen1 => sR <| oA rfl rfl <| nT <| CJ_seq <| sR <| oM rfl rfl <| oP (P_lss (a := n_1) (b := (1 : Int)) rfl rfl) rfl <| nT <| CJ_condP rfl bT_dec (fun hg1 => ?_) (fun hg1 => ?_)
 ·
  replace h := ite_t hg1 h
  refine sR <| oA rfl rfl <| nT <| CJ_ret <| QJ_then_ret ?_
  cases h
  exact fE (res1 Try.results28 rfl) () eR
 ·
  replace h := ite_f hg1 h
  refine kT <| sR <| oM rfl rfl ?_
  obtain ⟨r2, hr3, h⟩ := bind_e h
  refine oO <| O_call (L_volumegroupmake_Src_Raw rs_0_L hr3) rfl Try.call63 (Dels.cons del0 (Dels.cons del0 Dels.nil)) rfl fun _ _ => oM rfl rfl <| oP (P_remT (a := r2.1) (b := n_1) rfl rfl (by omega)) rfl <| oA rfl rfl <| nT <| CJ_seq <| sR <| oM rfl rfl <| oP (P_lss (a := (r2.1.tmod n_1)) (b := (0 : Int)) rfl rfl) rfl <| nT <| CJ_condP rfl bT_dec (fun hg2 => ?_) (fun hg2 => ?_)
  ·
   replace h := ite_t hg2 h
   refine CJ_region <| oM rfl rfl <| oM rfl rfl ?_
   obtain ⟨hg3, h⟩ := grd_Ie h
   refine oP (P_add (a := (r2.1.tmod n_1)) (b := n_1) rfl rfl hg3) rfl <| oA rfl rfl <| nT <| sR <| oM rfl rfl <| oA rfl rfl <| nT <| CJ_ret ?_
   cases h
   exact fE (res1 Try.results28 rfl) () eR
  ·
   replace h := ite_f hg2 h
   refine kT <| sR <| oM rfl rfl <| oA rfl rfl <| nT <| CJ_ret ?_
   cases h
   exact fE (res1 Try.results28 rfl) () eR
def volumegrouplaw13_CopiesSettles_l1_b (r2 : (List Int) × Nat) (rec : Int → ArrS → Nat → Option ((Int × ArrS) ⊕ Bool)) (x20 : Int) (x21 : ArrS) (x22 : Nat) : Option ((Int × ArrS) ⊕ Bool) :=
  if (((x22 : Nat) : Int) < (3 : Int)) then
    grd (decide (x22 < ([(ByteArray.mk #[102, 105, 114, 115, 116]), (ByteArray.mk #[115, 101, 99, 111, 110, 100, 32, 116, 101, 120, 116]), (ByteArray.mk #[116, 104, 105, 114, 100])]).length)) <|
    lt ((([(ByteArray.mk #[102, 105, 114, 115, 116]), (ByteArray.mk #[115, 101, 99, 111, 110, 100, 32, 116, 101, 120, 116]), (ByteArray.mk #[116, 104, 105, 114, 100])]).getD x22 ByteArray.empty)) fun w23 =>
    Option.bind (volumegroupmake_Src_N r2.1 x20 (7 : Int)) fun r24 =>
    grd (inI64 (((1 : Int) + r24.1))) <|
    Option.bind (volumegrouplaw13_some x21 (((1 : Int) + r24.1))) fun r26 =>
    Option.bind (copies_Commit r26 ((((x22 + 1) : Nat) : Int)) w23 x21) fun r32 =>
    if (r32.2.1 ≠ (0 : Int)) then
      some (.inr false)
    else
      rec r24.2 r32.2.2 (x22 + 1)
  else
    some (.inl (x20, x21))
def volumegrouplaw13_CopiesSettles_l1 (r2 : (List Int) × Nat) : Nat → Int → ArrS → Nat → Option ((Int × ArrS) ⊕ Bool)
  | 0, _, _, _ => none
  | n + 1, x20, x21, x22 => volumegrouplaw13_CopiesSettles_l1_b r2 (volumegrouplaw13_CopiesSettles_l1 r2 n) x20 x21 x22
def volumegrouplaw13_CopiesSettles_l2_b (r2 : (List Int) × Nat) (rec : Int → ArrS → Nat → Option ((Int × ArrS) ⊕ Bool)) (x41 : Int) (x42 : ArrS) (x43 : Nat) : Option ((Int × ArrS) ⊕ Bool) :=
  if (((x43 : Nat) : Int) < (3 : Int)) then
    Option.bind (volumegroupmake_Src_N r2.1 x41 (5 : Int)) fun r44 =>
    if (r44.1 = (0 : Int)) then
      if (((imC x42 (((x43 : Nat) : Int))) ≠ (0 : Int)) ∨ (((((imL x42 (((x43 : Nat) : Int)))).length : Nat) : Int) ≠ (24 : Int))) then
        some (.inr false)
      else
        Option.bind (volumegroupmake_Src_N r2.1 r44.2 (24 : Int)) fun r55 =>
        grd (decide (0 ≤ r55.1 ∧ r55.1 < (((imL x42 (((x43 : Nat) : Int)))).length : Int))) <|
        Option.bind (volumegroupmake_Src_N r2.1 r55.2 (64 : Int)) fun r57 =>
        grd (decide (0 ≤ r57.1)) <|
        lt (((((imL x42 (((x43 : Nat) : Int)))).getD ((r55.1).toNat) 0) ^^^ (shl_u64 (1 : UInt64) ((r57.1).toNat)))) fun w59 =>
        grd (decide (0 ≤ r55.1 ∧ r55.1 < (((imL x42 (((x43 : Nat) : Int)))).length : Int))) <|
        grd (inLen x42.writes) <|
        lt ((ldC x42 (((x43 : Nat) : Int)) ((((imL x42 (((x43 : Nat) : Int)))).set ((r55.1).toNat) w59)))) fun w60 =>
        if (w60 ≠ (0 : Int)) then
          some (.inr false)
        else
          rec r57.2 ((ldS x42 (((x43 : Nat) : Int)) ((((imL x42 (((x43 : Nat) : Int)))).set ((r55.1).toNat) w59)))) (x43 + 1)
    else
      rec r44.2 x42 (x43 + 1)
  else
    some (.inl (x41, x42))
def volumegrouplaw13_CopiesSettles_l2 (r2 : (List Int) × Nat) : Nat → Int → ArrS → Nat → Option ((Int × ArrS) ⊕ Bool)
  | 0, _, _, _ => none
  | n + 1, x41, x42, x43 => volumegrouplaw13_CopiesSettles_l2_b r2 (volumegrouplaw13_CopiesSettles_l2 r2 n) x41 x42 x43
def volumegrouplaw13_CopiesSettles_l3_b (r83 : api_Copy × Int × ArrS) (r128 : (List api_Copy) × (List Int) × Int) (rec : Nat → Option ((Unit) ⊕ Bool)) (x137 : Nat) : Option ((Unit) ⊕ Bool) :=
  if (((x137 : Nat) : Int) < ((r128.1.length : Nat) : Int)) then
    if ((r128.1.getD x137 (⟨false, 0, ByteArray.empty⟩ : api_Copy)) ≠ r83.1) then
      some (.inr false)
    else
      grd (inN64 (x137 + 1)) <|
      rec (x137 + 1)
  else
    some (.inl ())
def volumegrouplaw13_CopiesSettles_l3 (r83 : api_Copy × Int × ArrS) (r128 : (List api_Copy) × (List Int) × Int) : Nat → Nat → Option ((Unit) ⊕ Bool)
  | 0, _ => none
  | n + 1, x137 => volumegrouplaw13_CopiesSettles_l3_b r83 r128 (volumegrouplaw13_CopiesSettles_l3 r83 r128 n) x137
def volumegrouplaw13_CopiesSettles (l : List Int) : Option (Bool) :=
  Option.bind (volumegroupmake_New l) fun r2 =>
  Option.bind (volumegrouplaw13_areas (3 : Int) (24 : Int)) fun r7 =>
  Option.elim r7 (
    some false) fun o12 =>
  seqO (volumegrouplaw13_CopiesSettles_l1 r2 FUEL (((r2.2 : Nat) : Int)) o12 0) fun a19 =>
  seqO (volumegrouplaw13_CopiesSettles_l2 r2 FUEL a19.1 a19.2 0) fun a40 =>
  Option.bind (volumegroupmake_Src_N r2.1 a40.1 (7 : Int)) fun r62 =>
  grd (inI64 (((1 : Int) + r62.1))) <|
  Option.bind (volumegrouplaw13_some a40.2 (((1 : Int) + r62.1))) fun r64 =>
  Option.bind (copies_Scan r64 a40.2) fun r70 =>
  Option.bind (copies_Choose r70.1) fun r75 =>
  Option.bind (volumegrouplaw13_some a40.2 (((1 : Int) + r62.1))) fun r77 =>
  Option.bind (copies_Settle r77 a40.2) fun r83 =>
  if ((r75.2 ≠ (0 : Int)) ∨ ((1048575 : Int) ≤ r70.2.2)) then
    if ((((r70.2.1.length : Nat) : Int) = (0 : Int)) ∧ ((r83.2.1 = r75.2) ∨ ((r75.2 = (0 : Int)) ∧ (r83.2.1 = (4 : Int))))) then
      Option.bind (volumegrouplaw13_awake) fun r120 =>
      some r120
    else
      some false
  else
    if (r83.2.1 ≠ (0 : Int)) then
      some false
    else
      grd (inI64 ((r70.2.2 + (1 : Int)))) <|
      grd (decide (0 ≤ r75.1 ∧ r75.1 < (r70.1.length : Int))) <|
      if (r83.1 ≠ (⟨true, (r70.2.2 + (1 : Int)), ((r70.1.getD ((r75.1).toNat) (⟨false, 0, ByteArray.empty⟩ : api_Copy))).Text⟩ : api_Copy)) then
        some false
      else
        Option.bind (volumegrouplaw13_some r83.2.2 (((1 : Int) + r62.1))) fun r122 =>
        Option.bind (copies_Scan r122 r83.2.2) fun r128 =>
        seqO (volumegrouplaw13_CopiesSettles_l3 r83 r128 FUEL 0) fun a136 =>
        Option.bind (volumegrouplaw13_awake) fun r139 =>
        some r139
theorem L_volumegrouplaw13_CopiesSettles {W : World} {Al : HP} {vl : Value} {l : List Int} {r : Bool} (rl : Reads Al tyI vl l) (h : volumegrouplaw13_CopiesSettles l = some r) :
    CSpec Try.prog W 13 [vl] [Al] (fun x : Unit => .bool r) (fun _ => True) (fun x F => Al :: F) := by
 refine CSpec.of_body Try.func13 rfl Try.ntmps13 rfl fun F => ?_
 show CJ _ _ _ _ _ _ (_ :: F)
 unfold volumegrouplaw13_CopiesSettles at h
 refine CJ_pure (len_of rl del0) fun hlen1 => sR <| oA rfl rfl <| nT <| sR <| oM rfl rfl ?_
 obtain ⟨r2, hr3, h⟩ := bind_e h
 refine oO <| O_call (L_volumegroupmake_New rl hr3) rfl Try.call19 (Dels.cons del0 Dels.nil) rfl fun X4 _ => RJ_ent (t2_ eR) <| RJ_pur fun hpur_q6 => oA rfl rfl <| nT <| sR ?_
 obtain ⟨r7, hr8, h⟩ := bind_e h
 refine oO <| O_call (L_volumegrouplaw13_areas hr8) rfl Try.call44 Dels.nil rfl fun X9 _ => oA rfl rfl <| nT <| CJ_seq <| sR <| oM rfl rfl ?_
 rcases opt_e h with ⟨ht11, h⟩ | ⟨o12, ht11, h⟩
 ·
  rw [ht11]
  refine RJ_ent (t1_ (t1_ (eD eR))) <| oP (P_eqlNN rfl rfl Try.underlying24) rfl <| nT <| CJ_condT rfl rfl <| sR <| oA rfl rfl <| nT <| CJ_ret <| QJ_then_ret ?_
  cases h
  exact fE (res1 Try.results13 rfl) () (t0_ (eD eR))
 ·
  rw [ht11]
  refine RJ_ent (Ent.takeC (A' := Arr X9 o12) del0 rfl eR) <| oP (P_eqlPN rfl rfl Try.underlying24) rfl <| nT <| CJ_condF rfl rfl <| kT <| sR <| oO <| O_buildSlice rfl (bs_43_3_0_1_2 _ _ _) rfl fun b13 => RJ_ent (Ent.trans (t0_ eR) (sl_of_lit (t := tyS) (m := 3) [(ByteArray.mk #[102, 105, 114, 115, 116]), (ByteArray.mk #[115, 101, 99, 111, 110, 100, 32, 116, 101, 120, 116]), (ByteArray.mk #[116, 104, 105, 114, 100])] rfl rfl rfl (by decide))) <| oA rfl rfl <| nT <| CJ_seq <| sR <| oA rfl rfl <| nT ?_
  obtain ⟨y16, hl14, hK15⟩ := seq_e h
  refine CJ_cutT (X := Int × ArrS) [2, 6, 7, 8, 30, 31, 32, 33, 34, 35, 36, 37, 38, 39, 40, 41, 42, 43, 44, 45, 46, 47, 48, 49, 50] (fun a19 => ([] : Slots)) (fun a19 R => blk X4.1 117 [X4.2, .int .i64 a19.1] :: Arr X9 a19.2 :: R) (fun a19 => y16 = .inl a19) (Dels.cons del3 (Dels.cons del1 Dels.nil)) ?_ ?_
  ·
   refine CJ_block <| CJ_loopR (X := Nat × Int × ArrS × Nat) [2, 6, 7, 8, 30, 31, 32, 33, 34, 35, 36, 37, 38, 39, 40, 41, 42, 43, 44, 45, 46, 47, 48, 49, 50] (fun ⟨n, x20, x21, x22⟩ => ([(6, .int .i64 (((x22 : Nat) : Int)))] : Slots)) (fun ⟨n, x20, x21, x22⟩ R => blk X4.1 117 [X4.2, .int .i64 x20] :: Arr X9 x21 :: R) (fun ⟨n, x20, x21, x22⟩ => volumegrouplaw13_CopiesSettles_l1 r2 n x20 x21 x22 = some y16) (fun ⟨n, x20, x21, x22⟩ => n) ⟨FUEL, ((r2.2 : Nat) : Int), o12, 0⟩ ?_ ?_ (t3_ (t1_ eR)) ?_
   · exact hl14
   · exact ⟨rfl, True.intro⟩
   ·
    rintro ⟨n, x20, x21, x22⟩ h
    cases n with
    | zero => exact none_e h
    | succ n => ?_
    replace h : volumegrouplaw13_CopiesSettles_l1_b r2 (volumegrouplaw13_CopiesSettles_l1 r2 n) x20 x21 x22 = some y16 := h
    unfold volumegrouplaw13_CopiesSettles_l1_b at h
    show CJ _ _ _ _ _ (([(6, .int .i64 (((x22 : Nat) : Int)))] : Slots) ++ forget _ _) (blk X4.1 117 [X4.2, .int .i64 x20] :: Arr X9 x21 :: _)
    refine CJ_seq <| sR <| oM rfl rfl <| oP (P_lss (a := ((x22 : Nat) : Int)) (b := (3 : Int)) rfl rfl) rfl <| nT <| CJ_condP rfl bT_dec (fun hg1 => ?_) (fun hg1 => ?_)
    ·
     replace h := ite_t hg1 h
     refine kT <| CJ_seq <| CJ_block <| CJ_seq <| AJ_start [Arr X9 x21, sl tyS (.slice (some ⟨b13, 0, none⟩) 3 3) ([(ByteArray.mk #[102, 105, 114, 115, 116]), (ByteArray.mk #[115, 101, 99, 111, 110, 100, 32, 116, 101, 120, 116]), (ByteArray.mk #[116, 104, 105, 114, 100])]), Al] 2048 (by kernel_rfl) rfl <| aN 0 1 rfl rfl (P_move rfl) rfl <| aN 1 3 rfl rfl (P_move rfl) rfl <| aN 5 35 rfl rfl (P_move rfl) rfl <| aN 6 99 rfl rfl (PJ_eq (P_add (a := ((x22 : Nat) : Int)) (b := (1 : Int)) rfl rfl (by omega)) rfl) rfl <| aN 7 227 rfl rfl (P_move rfl) rfl <| aN 8 483 rfl rfl (P_move rfl) rfl ?_
     obtain ⟨hg2, h⟩ := grd_de h
     refine aV 9 995 rfl rfl (GY_none rfl) (t1_ (t1_ (t1_ Ent.done))) (V_index (i := x22) rfl rfl rfl hg2 foc1 (Reads.sl _ _ _) Try.runUnderlying43 Try.sizeOf9) rfl <| aV 10 2019 rfl rfl (GY_none rfl) (t1_ (t1_ (t1_ Ent.done))) (V_loadE rfl rfl hg2 foc1 (Reads.sl _ _ _) rfl rfl Try.isAgg9) rfl ?_
     obtain ⟨w23, hw23, h⟩ := lt_e h
     rw [← hw23]
     obtain ⟨r24, hr25, h⟩ := bind_e h
     refine AJ_op 2 2023 rfl (by kernel_rfl) rfl (GY_none rfl) <| O_call (L_volumegroupmake_Src_N hpur_q6 hr25) rfl Try.call28 (Dels.cons del0 (Dels.cons del2 Dels.nil)) rfl fun _ _ => ⟨fun _ => (t2_ (t2_ (t1_ Ent.done))), ?_⟩
     obtain ⟨hg3, h⟩ := grd_Ie h
     refine aN 3 2031 rfl rfl (P_add (a := (1 : Int)) (b := r24.1) rfl rfl hg3) rfl ?_
     obtain ⟨r26, hr27, h⟩ := bind_e h
     refine AJ_op 4 2047 rfl (by kernel_rfl) rfl (GY_none rfl) <| O_call (L_volumegrouplaw13_some hr27) rfl Try.call46 (Dels.cons del2 Dels.nil) rfl fun X28 _ => ⟨fun _ => (t0_ (t4_ (t3_ Ent.done))), ?_⟩
     refine AJ_pure (fun h hh => Rs_len (stars_perm (del2 (A := Rs (DevP X9) r26 X28.2)).out h hh)) fun hdl31 => ?_
     obtain ⟨r32, hr33, h⟩ := bind_e h
     refine AJ_op 11 4095 rfl (by kernel_rfl) rfl (GY_none rfl) <| O_call (L_copies_Commit (Reads.sl _ _ _) hr33) rfl Try.call45 (Dels.cons del1 (Dels.cons del1 (Dels.cons del0 Dels.nil))) rfl fun _ _ => ⟨fun h => absurd h (by decide), ?_⟩
     refine aN 12 8191 rfl rfl (P_move rfl) rfl <| aN 13 16383 rfl rfl (P_extract rfl rfl) rfl <| aN 14 32767 rfl rfl (P_extract rfl rfl) rfl <| aN 15 65535 rfl rfl (P_assign rfl) rfl <| aN 16 131071 rfl rfl (P_assign rfl) rfl <| aD <| sR <| oM rfl rfl <| oP (P_neq (a := r32.2.1) (b := (0 : Int)) rfl rfl) rfl <| nT <| CJ_condP rfl bT_dec (fun hg4 => ?_) (fun hg4 => ?_)
     ·
      replace h := ite_t hg4 h
      refine sR <| oA rfl rfl <| nT <| CJ_ret <| QJ_block_ret <| QJ_then_ret <| QJ_round_ret <| QJ_block_ret <| QJ_then_ret ?_
      have hE := Option.some.inj h
      replace hE := seq_inr hK15 hE.symm
      subst hE
      exact fE (res1 Try.results13 rfl) () (t4_ (eD (eD (eD (eD (eD eR))))))
     ·
      replace h := ite_f hg4 h
      exact CJ_skip <| QJ_block_normal <| QJ_then <| CJ_region <| oM rfl rfl <| oP (PJ_eq (P_add (a := ((x22 : Nat) : Int)) (b := (1 : Int)) rfl rfl (by omega)) rfl) rfl <| oA rfl rfl <| RJ_nil <| nR ⟨n, r24.2, r32.2.2, (x22 + 1)⟩ h ⟨rfl, True.intro⟩ (t3_ (t2_ (t3_ (t2_ (eD (eD eR))))))
    ·
     replace h := ite_f hg1 h
     exact CJ_exit <| QJ_then_exit <| QJ_round_exit <| QJ_block_here <| cR (x20, x21) (Option.some.inj h).symm True.intro eR
  ·
   rintro a19 hy34
   replace h := seq_inl hK15 hy34
   show CJ _ _ _ _ _ (([] : Slots) ++ forget _ _) (blk X4.1 117 [X4.2, .int .i64 a19.1] :: Arr X9 a19.2 :: _)
   refine CJ_seq <| sR <| oA rfl rfl <| nT ?_
   obtain ⟨y37, hl35, hK36⟩ := seq_e h
   refine CJ_cutT (X := Int × ArrS) [2, 9, 10, 11, 51, 52, 53, 54, 55, 56, 57, 58, 59, 60, 61, 62, 63, 64, 65, 66, 67, 68, 69, 70, 71, 72, 73, 74, 75, 76, 77, 78, 79, 80, 81, 82, 83, 84, 85] (fun a40 => ([] : Slots)) (fun a40 R => blk X4.1 117 [X4.2, .int .i64 a40.1] :: Arr X9 a40.2 :: R) (fun a40 => y37 = .inl a40) (Dels.cons del0 (Dels.cons del0 Dels.nil)) ?_ ?_
   ·
    refine CJ_block <| CJ_loopR (X := Nat × Int × ArrS × Nat) [2, 9, 10, 11, 51, 52, 53, 54, 55, 56, 57, 58, 59, 60, 61, 62, 63, 64, 65, 66, 67, 68, 69, 70, 71, 72, 73, 74, 75, 76, 77, 78, 79, 80, 81, 82, 83, 84, 85] (fun ⟨n, x41, x42, x43⟩ => ([(9, .int .i64 (((x43 : Nat) : Int)))] : Slots)) (fun ⟨n, x41, x42, x43⟩ R => blk X4.1 117 [X4.2, .int .i64 x41] :: Arr X9 x42 :: R) (fun ⟨n, x41, x42, x43⟩ => volumegrouplaw13_CopiesSettles_l2 r2 n x41 x42 x43 = some y37) (fun ⟨n, x41, x42, x43⟩ => n) ⟨FUEL, a19.1, a19.2, 0⟩ ?_ ?_ eR ?_
    · exact hl35
    · exact ⟨rfl, True.intro⟩
    ·
     rintro ⟨n, x41, x42, x43⟩ h
     cases n with
     | zero => exact none_e h
     | succ n => ?_
     replace h : volumegrouplaw13_CopiesSettles_l2_b r2 (volumegrouplaw13_CopiesSettles_l2 r2 n) x41 x42 x43 = some y37 := h
     unfold volumegrouplaw13_CopiesSettles_l2_b at h
     show CJ _ _ _ _ _ (([(9, .int .i64 (((x43 : Nat) : Int)))] : Slots) ++ forget _ _) (blk X4.1 117 [X4.2, .int .i64 x41] :: Arr X9 x42 :: _)
     refine CJ_seq <| sR <| oM rfl rfl <| oP (P_lss (a := ((x43 : Nat) : Int)) (b := (3 : Int)) rfl rfl) rfl <| nT <| CJ_condP rfl bT_dec (fun hg5 => ?_) (fun hg5 => ?_)
     ·
      replace h := ite_t hg5 h
      refine kT <| CJ_seq <| CJ_block <| sR <| oM rfl rfl ?_
      obtain ⟨r44, hr45, h⟩ := bind_e h
      refine oO <| O_call (L_volumegroupmake_Src_N hpur_q6 hr45) rfl Try.call28 (Dels.cons del0 (Dels.cons del2 Dels.nil)) rfl fun _ _ => oP (P_eql (a := r44.1) (b := (0 : Int)) rfl rfl) rfl <| nT <| CJ_condP rfl bT_dec (fun hg6 => ?_) (fun hg6 => ?_)
      ·
       replace h := ite_t hg6 h
       refine sR <| oM rfl rfl <| oM rfl rfl <| oO <| O_call (c_ImageD) rfl Try.call30 (Dels.cons del2 Dels.nil) rfl fun X46 _ => RJ_pure (len_of (Reads.sl _ _ _) del0) fun hlen48 => oM rfl rfl <| oP (P_extract (v := (Sl3.v X46)) rfl rfl) rfl <| oP (P_extract rfl rfl) rfl <| oA rfl rfl <| oA rfl rfl <| nT <| CJ_seq <| sR <| oM rfl rfl <| oP (P_neq (a := (imC x42 (((x43 : Nat) : Int)))) (b := (0 : Int)) rfl rfl) rfl <| oM rfl rfl <| RJ_mbF rfl rfl rfl (fun hG49 => have hP50 : ¬ ((imC x42 (((x43 : Nat) : Int))) ≠ (0 : Int)) := nP (bT_dec) hG49; VJ_P (P_move rfl)) <| RJ_mbF rfl rfl rfl (fun hG51 => have hP52 : ¬ ((imC x42 (((x43 : Nat) : Int))) ≠ (0 : Int)) := nP (bT_dec) hG51; V_len (mbx hG51 rfl) foc0 (Reads.sl _ _ _) Try.runUnderlying29) <| RJ_mbF rfl rfl rfl (fun hG53 => have hP54 : ¬ ((imC x42 (((x43 : Nat) : Int))) ≠ (0 : Int)) := nP (bT_dec) hG53; VJ_P (P_neq (a := ((((imL x42 (((x43 : Nat) : Int)))).length : Nat) : Int)) (b := (24 : Int)) (mbx hG53 rfl) rfl)) <| oP (P_pickOr rfl rfl (fun hh => mbx (not_f hh) rfl)) rfl <| nT <| CJ_condP rfl (bT_or bT_dec bT_dec) (fun hg7 => ?_) (fun hg7 => ?_)
       ·
        replace h := ite_t hg7 h
        refine sR <| oA rfl rfl <| nT <| CJ_ret <| QJ_then_ret <| QJ_block_ret <| QJ_then_ret <| QJ_round_ret <| QJ_block_ret <| QJ_then_ret ?_
        have hE := Option.some.inj h
        replace hE := seq_inr hK36 hE.symm
        subst hE
        exact fE (res1 Try.results13 rfl) () (t3_ (eD (eD (eD (eD eR)))))
       ·
        replace h := ite_f hg7 h
        refine kT <| CJ_seq <| AJ_start [sl tyU (Sl3.v X46) ((imL x42 (((x43 : Nat) : Int)))), Arr X9 x42, Al, sl tyS (.slice (some ⟨b13, 0, none⟩) 3 3) ([(ByteArray.mk #[102, 105, 114, 115, 116]), (ByteArray.mk #[115, 101, 99, 111, 110, 100, 32, 116, 101, 120, 116]), (ByteArray.mk #[116, 104, 105, 114, 100])])] 1024 (by kernel_rfl) rfl <| aN 0 1 rfl rfl (P_move rfl) rfl <| aN 1 3 rfl rfl (P_move rfl) rfl <| aN 5 35 rfl rfl (P_move rfl) rfl ?_
        obtain ⟨r55, hr56, h⟩ := bind_e h
        refine AJ_op 2 39 rfl (by kernel_rfl) rfl (GY_none rfl) <| O_call (L_volumegroupmake_Src_N hpur_q6 hr56) rfl Try.call28 (Dels.cons del2 (Dels.cons del2 Dels.nil)) rfl fun _ _ => ⟨fun _ => (t2_ (t2_ (t1_ (t1_ Ent.done)))), ?_⟩
        obtain ⟨hg8, h⟩ := grd_de h
        refine aV 3 47 rfl rfl (GY_none rfl) (t2_ (t2_ (t1_ (t1_ Ent.done)))) (V_index (i := (r55.1).toNat) rfl rfl (Int.toNat_of_nonneg (hg8.1)).symm (by omega) foc0 (Reads.sl _ _ _) Try.runUnderlying29 Try.sizeOf39) rfl <| aV 4 63 rfl rfl (GY_none rfl) (t2_ (t2_ (t1_ (t1_ Ent.done)))) (V_loadE rfl rfl (by omega) foc0 (Reads.sl _ _ _) rfl rfl Try.isAgg39) rfl ?_
        obtain ⟨r57, hr58, h⟩ := bind_e h
        refine AJ_op 6 127 rfl (by kernel_rfl) rfl (GY_none rfl) <| O_call (L_volumegroupmake_Src_N hpur_q6 hr58) rfl Try.call28 (Dels.cons del0 (Dels.cons del0 Dels.nil)) rfl fun _ _ => ⟨fun _ => (t2_ (t2_ (t1_ (t1_ Ent.done)))), ?_⟩
        obtain ⟨hg9, h⟩ := grd_de h
        refine aN 7 255 rfl rfl (P_shl_u64 (a := (1 : UInt64)) (m := (r57.1).toNat) rfl rfl (Int.toNat_of_nonneg hg9).symm) rfl <| aN 8 511 rfl rfl (P_xor_u64 (a := (((imL x42 (((x43 : Nat) : Int)))).getD ((r55.1).toNat) 0)) (b := (shl_u64 (1 : UInt64) ((r57.1).toNat))) rfl rfl) rfl ?_
        obtain ⟨w59, hw59, h⟩ := lt_e h
        rw [← hw59]
        obtain ⟨hg10, h⟩ := grd_de h
        refine aV 9 1023 rfl rfl (GY_none rfl) (t2_ (t2_ (t1_ (t1_ Ent.done)))) (V_index (i := (r55.1).toNat) rfl rfl (Int.toNat_of_nonneg (hg10.1)).symm (by omega) foc0 (Reads.sl _ _ _) Try.runUnderlying29 Try.sizeOf39) rfl <| AJ_op 10 2047 rfl (by kernel_rfl) rfl (GY_none rfl) <| O_storeE (x' := w59) rfl rfl rfl (by omega) foc2 rfl rfl rfl Try.sizeOf39 <| ⟨fun h => absurd h (by decide), ?_⟩
        refine aD <| sR <| oM rfl rfl <| oM rfl rfl <| oM rfl rfl ?_
        obtain ⟨hg11, h⟩ := grd_Le h
        refine oO <| O_call (c_LoadD (Reads.sl _ _ _) hg11) rfl Try.call53 (Dels.cons del3 (Dels.cons del2 Dels.nil)) rfl fun _ _ => ?_
        obtain ⟨w60, hw60, h⟩ := lt_e h
        rw [← hw60]
        refine oP (P_neq (a := w60) (b := (0 : Int)) rfl rfl) rfl <| nT <| CJ_condP rfl bT_dec (fun hg12 => ?_) (fun hg12 => ?_)
        ·
         replace h := ite_t hg12 h
         refine sR <| oA rfl rfl <| nT <| CJ_ret <| QJ_block_ret <| QJ_then_ret <| QJ_round_ret <| QJ_block_ret <| QJ_then_ret ?_
         have hE := Option.some.inj h
         replace hE := seq_inr hK36 hE.symm
         subst hE
         exact fE (res1 Try.results13 rfl) () (t3_ (eD (eD (eD (eD eR)))))
        ·
         replace h := ite_f hg12 h
         exact CJ_skip <| QJ_block_normal <| QJ_then <| CJ_region <| oM rfl rfl <| oP (PJ_eq (P_add (a := ((x43 : Nat) : Int)) (b := (1 : Int)) rfl rfl (by omega)) rfl) rfl <| oA rfl rfl <| RJ_nil <| nR ⟨n, r57.2, (ldS x42 (((x43 : Nat) : Int)) ((((imL x42 (((x43 : Nat) : Int)))).set ((r55.1).toNat) w59))), (x43 + 1)⟩ h ⟨rfl, True.intro⟩ (t2_ (t0_ (t2_ (t1_ (eD eR)))))
      ·
       replace h := ite_f hg6 h
       exact CJ_skip <| QJ_block_normal <| QJ_then <| CJ_region <| oM rfl rfl <| oP (PJ_eq (P_add (a := ((x43 : Nat) : Int)) (b := (1 : Int)) rfl rfl (by omega)) rfl) rfl <| oA rfl rfl <| RJ_nil <| nR ⟨n, r44.2, x42, (x43 + 1)⟩ h ⟨rfl, True.intro⟩ (t0_ (t1_ (t1_ eR)))
     ·
      replace h := ite_f hg5 h
      exact CJ_exit <| QJ_then_exit <| QJ_round_exit <| QJ_block_here <| cR (x41, x42) (Option.some.inj h).symm True.intro eR
   ·
    rintro a40 hy61
    replace h := seq_inl hK36 hy61
    show CJ _ _ _ _ _ (([] : Slots) ++ forget _ _) (blk X4.1 117 [X4.2, .int .i64 a40.1] :: Arr X9 a40.2 :: _)
    refine sR <| oM rfl rfl ?_
    obtain ⟨r62, hr63, h⟩ := bind_e h
    refine oO <| O_call (L_volumegroupmake_Src_N hpur_q6 hr63) rfl Try.call28 (Dels.cons del0 (Dels.cons del2 Dels.nil)) rfl fun _ _ => ?_
    obtain ⟨hg13, h⟩ := grd_Ie h
    refine oP (P_add (a := (1 : Int)) (b := r62.1) rfl rfl hg13) rfl <| oA rfl rfl <| nT <| sR <| oM rfl rfl <| oM rfl rfl ?_
    obtain ⟨r64, hr65, h⟩ := bind_e h
    refine oO <| O_call (L_volumegrouplaw13_some hr65) rfl Try.call46 (Dels.cons del2 Dels.nil) rfl fun X66 _ => RJ_pure (fun h hh => Rs_len (stars_perm (del2 (A := Rs (DevP X9) r64 X66.2)).out h hh)) fun hdl69 => ?_
    obtain ⟨r70, hr71, h⟩ := bind_e h
    refine oO <| O_call (L_copies_Scan (Reads.sl _ _ _) hr71) rfl Try.call41 (Dels.cons del1 (Dels.cons del1 (Dels.cons del0 Dels.nil))) rfl fun X72 _ => oM rfl rfl <| oP (P_extract (v := X72.1.v) rfl rfl) rfl <| oP (P_extract (v := X72.2.v) rfl rfl) rfl <| oP (P_extract rfl rfl) rfl <| oA rfl rfl <| oA rfl rfl <| oA rfl rfl <| RJ_nil <| QJ_ent (t2_ (t2_ (t2_ (t3_ (eD (eD (eD (eD eR)))))))) <| QJ_then <| sR <| oM rfl rfl ?_
    obtain ⟨r75, hr76, h⟩ := bind_e h
    refine oO <| O_call (L_copies_Choose (Reads.sl _ _ _) hr76) rfl Try.call48 (Dels.cons del1 Dels.nil) rfl fun _ _ => oM rfl rfl <| oP (P_extract rfl rfl) rfl <| oP (P_extract rfl rfl) rfl <| oA rfl rfl <| oA rfl rfl <| nT <| sR <| oM rfl rfl <| oM rfl rfl ?_
    obtain ⟨r77, hr78, h⟩ := bind_e h
    refine oO <| O_call (L_volumegrouplaw13_some hr78) rfl Try.call46 (Dels.cons del1 Dels.nil) rfl fun X79 _ => RJ_pure (fun h hh => Rs_len (stars_perm (del2 (A := Rs (DevP X9) r77 X79.2)).out h hh)) fun hdl82 => ?_
    obtain ⟨r83, hr84, h⟩ := bind_e h
    refine oO <| O_call (L_copies_Settle (Reads.sl _ _ _) hr84) rfl Try.call52 (Dels.cons del1 (Dels.cons del1 (Dels.cons del0 Dels.nil))) rfl fun _ _ => oM rfl rfl <| oP (P_extract rfl rfl) rfl <| oP (P_extract rfl rfl) rfl <| oO <| O_alloc Try.zeroValue34 rfl rfl fun b85 => oO <| O_storeN rfl rfl foc0 Try.sizeOf34 rfl rfl rfl <| oA rfl rfl <| RJ_nil <| QJ_ent (t0_ (t2_ (t2_ (t2_ (t2_ (eD (eD eR))))))) <| QJ_then <| CJ_seq <| sR <| oM rfl rfl <| oP (P_neq (a := r75.2) (b := (0 : Int)) rfl rfl) rfl <| oM rfl rfl <| RJ_mbF rfl rfl rfl (fun hG86 => have hP87 : ¬ (r75.2 ≠ (0 : Int)) := nP (bT_dec) hG86; VJ_P (P_move rfl)) <| RJ_mbF rfl rfl rfl (fun hG88 => have hP89 : ¬ (r75.2 ≠ (0 : Int)) := nP (bT_dec) hG88; VJ_P (P_geq (a := r70.2.2) (b := (1048575 : Int)) (mbx hG88 rfl) rfl)) <| oP (P_pickOr rfl rfl (fun hh => mbx (not_f hh) rfl)) rfl <| nT <| CJ_condP rfl (bT_or bT_dec bT_dec) (fun hg14 => ?_) (fun hg14 => ?_)
    ·
     replace h := ite_t hg14 h
     refine sR <| oM rfl rfl <| oV (V_len rfl foc3 (Reads.sl _ _ _) Try.runUnderlying38) rfl <| oP (P_eql (a := ((r70.2.1.length : Nat) : Int)) (b := (0 : Int)) rfl rfl) rfl <| oM rfl rfl <| RJ_mbT rfl rfl rfl (fun hG90 => have hP91 : (((r70.2.1.length : Nat) : Int) = (0 : Int)) := (bT_dec).1 hG90; VJ_P (P_move rfl)) <| RJ_mbT rfl rfl rfl (fun hG92 => have hP93 : (((r70.2.1.length : Nat) : Int) = (0 : Int)) := (bT_dec).1 hG92; VJ_P (P_move rfl)) <| RJ_mbT rfl rfl rfl (fun hG94 => have hP95 : (((r70.2.1.length : Nat) : Int) = (0 : Int)) := (bT_dec).1 hG94; VJ_P (P_eql (a := r83.2.1) (b := r75.2) (mbx hG94 rfl) (mbx hG94 rfl))) <| RJ_mbT rfl rfl rfl (fun hG96 => have hP97 : (((r70.2.1.length : Nat) : Int) = (0 : Int)) := (bT_dec).1 hG96; VJ_P (P_move (mbx hG96 rfl))) <| RJ_mbGF rfl rfl rfl (fun hG98 => have hP99 : (((r70.2.1.length : Nat) : Int) = (0 : Int)) := (bT_dec).1 (and_l hG98); have hP100 : ¬ (r83.2.1 = r75.2) := nP (bT_dec) (and_r hG98); VJ_P (P_move rfl)) <| RJ_mbGF rfl rfl rfl (fun hG101 => have hP102 : (((r70.2.1.length : Nat) : Int) = (0 : Int)) := (bT_dec).1 (and_l hG101); have hP103 : ¬ (r83.2.1 = r75.2) := nP (bT_dec) (and_r hG101); VJ_P (P_eql (a := r75.2) (b := (0 : Int)) (mbx hG101 rfl) rfl)) <| RJ_mbGF rfl rfl rfl (fun hG104 => have hP105 : (((r70.2.1.length : Nat) : Int) = (0 : Int)) := (bT_dec).1 (and_l hG104); have hP106 : ¬ (r83.2.1 = r75.2) := nP (bT_dec) (and_r hG104); VJ_P (P_move (mbx hG104 rfl))) ?_
     refine RJ_mbGT rfl rfl rfl (fun hG107 => have hP108 : (((r70.2.1.length : Nat) : Int) = (0 : Int)) := (bT_dec).1 (and_l (and_l hG107)); have hP109 : ¬ (r83.2.1 = r75.2) := nP (bT_dec) (and_r (and_l hG107)); have hP110 : (r75.2 = (0 : Int)) := (bT_dec).1 (and_r hG107); VJ_P (P_move rfl)) <| RJ_mbGT rfl rfl rfl (fun hG111 => have hP112 : (((r70.2.1.length : Nat) : Int) = (0 : Int)) := (bT_dec).1 (and_l (and_l hG111)); have hP113 : ¬ (r83.2.1 = r75.2) := nP (bT_dec) (and_r (and_l hG111)); have hP114 : (r75.2 = (0 : Int)) := (bT_dec).1 (and_r hG111); VJ_P (P_eql (a := r83.2.1) (b := (4 : Int)) (mbx hG111 rfl) rfl)) <| RJ_mbGF rfl rfl rfl (fun hG115 => have hP116 : (((r70.2.1.length : Nat) : Int) = (0 : Int)) := (bT_dec).1 (and_l hG115); have hP117 : ¬ (r83.2.1 = r75.2) := nP (bT_dec) (and_r hG115); VJ_P (P_pickAnd (mbx hG115 rfl) (fun hh => mbx (and_i hG115 hh) rfl) rfl)) <| RJ_mbT rfl rfl rfl (fun hG118 => have hP119 : (((r70.2.1.length : Nat) : Int) = (0 : Int)) := (bT_dec).1 hG118; VJ_P (P_pickOr (mbx hG118 rfl) rfl (fun hh => mbx (and_i hG118 (not_f hh)) rfl))) <| oP (P_pickAnd rfl (fun hh => mbx hh rfl) rfl) rfl <| oM rfl rfl <| RJ_splitP 131 rfl (bT_and bT_dec (bT_or bT_dec (bT_and bT_dec bT_dec))) (fun hg15B hg15 => ?_) (fun hg15B hg15 => ?_)
     ·
      replace h := ite_t hg15 h
      obtain ⟨r120, hr121, h⟩ := bind_e h
      refine RJ_gy (GY_yes rfl rfl rfl hg15B) <| O_call (L_volumegrouplaw13_awake hr121) rfl Try.call43 Dels.nil rfl fun _ _ => oP (P_pickT rfl hg15B rfl) rfl <| oA rfl rfl <| nT <| CJ_ret <| QJ_then_ret ?_
      cases h
      exact fE (res1 Try.results13 rfl) () (t4_ (eD (eD (eD (eD eR)))))
     ·
      replace h := ite_f hg15 h
      refine RJ_gn (GY_no rfl rfl rfl hg15B) rfl rfl <| oP (P_pickF rfl hg15B rfl) rfl <| oA rfl rfl <| nT <| CJ_ret <| QJ_then_ret ?_
      cases h
      exact fE (res1 Try.results13 rfl) () (t4_ (eD (eD (eD (eD eR)))))
    ·
     replace h := ite_f hg14 h
     refine kT <| CJ_seq <| CJ_seq <| AJ_startH 0 (by kernel_rfl) rfl <| aN 0 1 rfl rfl (P_move rfl) rfl <| aN 1 3 rfl rfl (P_neq (a := r83.2.1) (b := (0 : Int)) rfl rfl) rfl <| aN 2 7 rfl rfl (P_move rfl) rfl <| AJ_splitP 136 rfl bT_dec (fun hg16B hg16 => ?_) (fun hg16B hg16 => ?_)
     ·
      replace h := ite_t hg16 h
      refine aS 3 15 rfl rfl (GY_no rfl rfl rfl hg16B) rfl <| aS 4 31 rfl rfl (GY_no rfl rfl rfl hg16B) rfl <| aS 5 63 rfl rfl (GY_no rfl rfl rfl hg16B) rfl <| aS 6 127 rfl rfl (GY_no rfl rfl rfl hg16B) rfl <| aS 7 255 rfl rfl (GY_no rfl rfl rfl hg16B) rfl <| aS 8 511 rfl rfl (GY_no rfl rfl rfl hg16B) rfl <| aS 9 1023 rfl rfl (GY_no rfl rfl rfl hg16B) rfl <| aS 10 2047 rfl rfl (GY_no rfl rfl rfl hg16B) rfl <| aS 11 4095 rfl rfl (GY_no rfl rfl rfl hg16B) rfl <| aS 12 8191 rfl rfl (GY_no rfl rfl rfl hg16B) rfl <| aN 13 16383 rfl rfl (P_pickT rfl hg16B rfl) rfl <| aD <| CJ_condT rfl rfl <| sR <| oA rfl rfl <| nT <| CJ_ret <| QJ_then_ret ?_
      cases h
      exact fE (res1 Try.results13 rfl) () (t4_ (eD (eD (eD (eD eR)))))
     ·
      replace h := ite_f hg16 h
      refine aV 3 15 rfl rfl (GY_yes rfl rfl rfl hg16B) eR (V_loadN rfl foc0 Try.isAgg34 Try.sizeOf34 rfl rfl) rfl <| aP 4 31 rfl rfl (GY_yes rfl rfl rfl hg16B) (P_move rfl) rfl ?_
      obtain ⟨hg17, h⟩ := grd_Ie h
      refine aP 5 63 rfl rfl (GY_yes rfl rfl rfl hg16B) (P_add (a := r70.2.2) (b := (1 : Int)) rfl rfl hg17) rfl <| aP 6 127 rfl rfl (GY_yes rfl rfl rfl hg16B) (P_move rfl) rfl <| aP 7 255 rfl rfl (GY_yes rfl rfl rfl hg16B) (P_move rfl) rfl ?_
      obtain ⟨hg18, h⟩ := grd_de h
      refine aV 8 511 rfl rfl (GY_yes rfl rfl rfl hg16B) eR (V_index (i := (r75.1).toNat) rfl rfl (Int.toNat_of_nonneg (hg18.1)).symm (by omega) foc2 (Reads.sl _ _ _) Try.runUnderlying66 Try.sizeOf34) rfl <| aP 9 1023 rfl rfl (GY_yes rfl rfl rfl hg16B) (P_fieldE rfl ⟨_, _, _, Try.runUnderlying34, rfl, rfl, Try.sizeOf9, rfl⟩) rfl <| aV 10 2047 rfl rfl (GY_yes rfl rfl rfl hg16B) eR (V_loadE rfl rfl (by omega) foc2 (Reads.sl _ _ _) rfl rfl Try.isAgg9) rfl <| aP 11 4095 rfl rfl (GY_yes rfl rfl rfl hg16B) (P_build rfl (bld_34_0_1_2 _ _ _)) rfl <| aP 12 8191 rfl rfl (GY_yes rfl rfl rfl hg16B) (P_neqS (enc := (tyapi_Copy).enc) (r83.1) ((⟨true, (r70.2.2 + (1 : Int)), ((r70.1.getD ((r75.1).toNat) (⟨false, 0, ByteArray.empty⟩ : api_Copy))).Text⟩ : api_Copy)) rfl rfl eqs_34 (by kernel_rfl)) rfl <| aN 13 16383 rfl rfl (P_pickF rfl hg16B rfl) rfl <| aD <| CJ_condP rfl bT_dec (fun hg19 => ?_) (fun hg19 => ?_)
      ·
       replace h := ite_t hg19 h
       refine sR <| oA rfl rfl <| nT <| CJ_ret <| QJ_then_ret ?_
       cases h
       exact fE (res1 Try.results13 rfl) () (t4_ (eD (eD (eD (eD eR)))))
      ·
       replace h := ite_f hg19 h
       refine kT <| sR <| oM rfl rfl <| oM rfl rfl ?_
       obtain ⟨r122, hr123, h⟩ := bind_e h
       refine oO <| O_call (L_volumegrouplaw13_some hr123) rfl Try.call46 (Dels.cons del1 Dels.nil) rfl fun X124 _ => RJ_pure (fun h hh => Rs_len (stars_perm (del2 (A := Rs (DevP X9) r122 X124.2)).out h hh)) fun hdl127 => ?_
       obtain ⟨r128, hr129, h⟩ := bind_e h
       refine oO <| O_call (L_copies_Scan (Reads.sl _ _ _) hr129) rfl Try.call41 (Dels.cons del1 (Dels.cons del1 (Dels.cons del0 Dels.nil))) rfl fun X130 _ => oM rfl rfl <| oP (P_extract (v := X130.1.v) rfl rfl) rfl <| oP (P_extract (v := X130.2.v) rfl rfl) rfl <| oP (P_extract rfl rfl) rfl <| oA rfl rfl <| oA rfl rfl <| oA rfl rfl <| RJ_nil <| QJ_ent (t2_ (t2_ (t3_ (t5_ (eD (eD (eD (eD (eD eR))))))))) <| QJ_then <| CJ_seq <| sR <| oA rfl rfl <| nT ?_
       obtain ⟨y135, hl133, hK134⟩ := seq_e h
       refine CJ_cutT (X := Unit) [2, 23, 156, 157, 158, 159, 160, 161, 162, 163, 164, 165, 166, 167] (fun _ => ([] : Slots)) (fun _ R => R) (fun _ => y135 = .inl ()) Dels.nil ?_ ?_
       ·
        refine CJ_block <| CJ_loopR (X := Nat × Nat) [2, 23, 156, 157, 158, 159, 160, 161, 162, 163, 164, 165, 166, 167] (fun ⟨n, x137⟩ => ([(23, .int .i64 (((x137 : Nat) : Int)))] : Slots)) (fun ⟨n, x137⟩ R => R) (fun ⟨n, x137⟩ => volumegrouplaw13_CopiesSettles_l3 r83 r128 n x137 = some y135) (fun ⟨n, x137⟩ => n) ⟨FUEL, 0⟩ ?_ ?_ eR ?_
        · exact hl133
        · exact ⟨rfl, True.intro⟩
        ·
         rintro ⟨n, x137⟩ h
         cases n with
         | zero => exact none_e h
         | succ n => ?_
         replace h : volumegrouplaw13_CopiesSettles_l3_b r83 r128 (volumegrouplaw13_CopiesSettles_l3 r83 r128 n) x137 = some y135 := h
         unfold volumegrouplaw13_CopiesSettles_l3_b at h
         show CJ _ _ _ _ _ (([(23, .int .i64 (((x137 : Nat) : Int)))] : Slots) ++ forget _ _) (_)
         refine CJ_seq <| sR <| oM rfl rfl <| oM rfl rfl <| oV (V_len rfl foc1 (Reads.sl _ _ _) Try.runUnderlying66) rfl <| oP (P_lss (a := ((x137 : Nat) : Int)) (b := ((r128.1.length : Nat) : Int)) rfl rfl) rfl <| nT <| CJ_condP rfl bT_dec (fun hg20 => ?_) (fun hg20 => ?_)
         ·
          replace h := ite_t hg20 h
          refine kT <| CJ_seq <| CJ_block <| CJ_seq <| AJ_startH 0 (by kernel_rfl) rfl <| aN 0 1 rfl rfl (P_move rfl) rfl <| aN 1 3 rfl rfl (P_move rfl) rfl <| aV 2 7 rfl rfl (GY_none rfl) eR (V_index (i := x137) rfl rfl rfl (by omega) foc1 (Reads.sl _ _ _) Try.runUnderlying66 Try.sizeOf34) rfl <| aV 3 15 rfl rfl (GY_none rfl) eR (V_loadEN rfl rfl (by omega) foc1 (Reads.sl _ _ _) rfl rfl Try.isAgg34 Try.sizeOf34) rfl <| aV 4 31 rfl rfl (GY_none rfl) eR (V_loadN rfl foc2 Try.isAgg34 Try.sizeOf34 rfl rfl) rfl <| aN 5 63 rfl rfl (P_neqS (enc := (tyapi_Copy).enc) ((r128.1.getD x137 (⟨false, 0, ByteArray.empty⟩ : api_Copy))) (r83.1) rfl rfl eqs_34 (by kernel_rfl)) rfl <| aD <| CJ_condP rfl bT_dec (fun hg21 => ?_) (fun hg21 => ?_)
          ·
           replace h := ite_t hg21 h
           refine sR <| oA rfl rfl <| nT <| CJ_ret <| QJ_block_ret <| QJ_then_ret <| QJ_round_ret <| QJ_block_ret <| QJ_then_ret ?_
           have hE := Option.some.inj h
           replace hE := seq_inr hK134 hE.symm
           subst hE
           exact fE (res1 Try.results13 rfl) () (t3_ (eD (eD (eD eR))))
          ·
           replace h := ite_f hg21 h
           refine CJ_skip <| QJ_block_normal <| QJ_then <| CJ_region <| oM rfl rfl ?_
           obtain ⟨hg22, h⟩ := grd_Ne h
           exact oP (PJ_eq (P_add (a := ((x137 : Nat) : Int)) (b := (1 : Int)) rfl rfl (nat_in hg22)) rfl) rfl <| oA rfl rfl <| RJ_nil <| nR ⟨n, (x137 + 1)⟩ h ⟨rfl, True.intro⟩ eR
         ·
          replace h := ite_f hg20 h
          exact CJ_exit <| QJ_then_exit <| QJ_round_exit <| QJ_block_here <| cR () (Option.some.inj h).symm True.intro eR
       ·
        rintro _ hy138
        replace h := seq_inl hK134 hy138
        show CJ _ _ _ _ _ (([] : Slots) ++ forget _ _) (_)
        refine sR ?_
        obtain ⟨r139, hr140, h⟩ := bind_e h
        refine oO <| O_call (L_volumegrouplaw13_awake hr140) rfl Try.call43 Dels.nil rfl fun _ _ => oA rfl rfl <| nT <| CJ_ret ?_
        cases h
        exact fE (res1 Try.results13 rfl) () (t3_ (eD (eD (eD eR))))
end Go.Proofs
