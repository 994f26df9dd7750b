/- ParityvolErrors, part 7 of the proof: LParityvolErrors, PParityvolErrors. -/
import Derived.WalkKit
import Derived.Orders
import Derived.RangeFuncLeaves
import Derived.RangeFuncCalls
import Derived.TacticsIn
import Derived.Handy
import Derived.OrdersHeld
import Derived.OrdersIn
import Derived.Below
import Derived.OpenShut
import Derived.Deep.Slices
import Derived.Scope
import Derived.KernelRfl
import Derived.RangeFuncRecord
import Derived.ChangeKeysEq
import Derived.ProofKit
import Derived.ShutString
import Derived.ChangeOld
import Derived.Test.YtmoiepdpckpolaaGreatChecked
import Derived.Test.YtmoiepdpckpolaaGreatRows
import Derived.Test.YtmoiepdpckpolaaGreatZParityvolErrors6
set_option linter.unusedSimpArgs false
set_option linter.unusedVariables false
set_option maxRecDepth 20000
set_option maxHeartbeats 4000000
namespace Go.Proofs
open Go.VG
theorem bs_35_3_0_1_2 (v0 : Int) (v1 : Int) (v2 : Int) : BuildsSlice Tryz.prog 35 3 [(0, .int .i64 v0), (1, .int .i64 v1), (2, .int .i64 v2)] 3 [.int .i64 v0, .int .i64 v1, .int .i64 v2] := fun w => by kernel_rfl
def volumegroupref18_fits (chunk : Int) (n_1 : Int) : Option (Bool) :=
  some (((((decide ((1 : Int) ≤ chunk)) && (decide (chunk ≤ (65536 : Int)))) && (decide ((3 : Int) ≤ n_1))) && (decide (n_1 ≤ (6 : Int)))))
theorem L_volumegroupref18_fits {W : World} {chunk : Int} {n_1 : Int} {r : Bool} (h : volumegroupref18_fits chunk n_1 = some r) :
    CSpec Tryz.prog W 61 [.int .i64 chunk, .int .i64 n_1] [] (fun x : Unit => .bool r) (fun _ => True) (fun x F => F) := by
 refine CSpec.of_body Tryz.func61 rfl Tryz.ntmps61 rfl fun F => ?_
 show CJ _ _ _ _ _ _ (F)
 unfold volumegroupref18_fits at h
 refine sR <| oA rfl rfl <| nT <| sR <| oM rfl rfl <| oP (P_geq (a := chunk) (b := (1 : Int)) rfl rfl) rfl <| oM rfl rfl <| RJ_mbT rfl rfl rfl (fun hG1 => have hP2 : ((1 : Int) ≤ chunk) := (bT_dec).1 hG1; VJ_P (P_move rfl)) <| RJ_mbT rfl rfl rfl (fun hG3 => have hP4 : ((1 : Int) ≤ chunk) := (bT_dec).1 hG3; VJ_P (P_leq (a := chunk) (b := (65536 : Int)) (mbx hG3 rfl) rfl)) <| oP (P_pickAnd rfl (fun hh => mbx hh rfl) rfl) rfl <| oM rfl rfl <| RJ_mbT rfl rfl rfl (fun hG5 => have hP6 : (((1 : Int) ≤ chunk) ∧ (chunk ≤ (65536 : Int))) := ((bT_and bT_dec bT_dec)).1 hG5; VJ_P (P_move rfl)) <| RJ_mbT rfl rfl rfl (fun hG7 => have hP8 : (((1 : Int) ≤ chunk) ∧ (chunk ≤ (65536 : Int))) := ((bT_and bT_dec bT_dec)).1 hG7; VJ_P (P_geq (a := n_1) (b := (3 : Int)) (mbx hG7 rfl) rfl)) <| oP (P_pickAnd rfl (fun hh => mbx hh rfl) rfl) rfl <| oM rfl rfl <| RJ_mbT rfl rfl rfl (fun hG9 => have hP10 : ((((1 : Int) ≤ chunk) ∧ (chunk ≤ (65536 : Int))) ∧ ((3 : Int) ≤ n_1)) := ((bT_and (bT_and bT_dec bT_dec) bT_dec)).1 hG9; VJ_P (P_move rfl)) <| RJ_mbT rfl rfl rfl (fun hG11 => have hP12 : ((((1 : Int) ≤ chunk) ∧ (chunk ≤ (65536 : Int))) ∧ ((3 : Int) ≤ n_1)) := ((bT_and (bT_and bT_dec bT_dec) bT_dec)).1 hG11; VJ_P (P_leq (a := n_1) (b := (6 : Int)) (mbx hG11 rfl) rfl)) <| oP (P_pickAnd rfl (fun hh => mbx hh rfl) rfl) rfl <| oA rfl rfl <| nT <| CJ_ret ?_
 cases h
 exact fE (res1 Tryz.results61 rfl) () eR
def volumegroupref18_Size_l1_b (sizes : List Int) (rec : Int → Nat → Option ((Int) ⊕ (Int × Int))) (x9 : Int) (x10 : Nat) : Option ((Int) ⊕ (Int × Int)) :=
  if (((x10 : Nat) : Int) < ((sizes.length : Nat) : Int)) then
    if (((sizes.getD x10 0) < (0 : Int)) ∨ ((1073741824 : Int) < (sizes.getD x10 0))) then
      some (.inr (((0 : Int), (1 : Int))))
    else
      rec ((min x9 (sizes.getD x10 0))) (x10 + 1)
  else
    some (.inl x9)
def volumegroupref18_Size_l1 (sizes : List Int) : Nat → Int → Nat → Option ((Int) ⊕ (Int × Int))
  | 0, _, _ => none
  | n + 1, x9, x10 => volumegroupref18_Size_l1_b sizes (volumegroupref18_Size_l1 sizes n) x9 x10
def volumegroupref18_Size (chunk : Int) (sizes : List Int) : Option (Int × Int) :=
  Option.bind (volumegroupref18_fits chunk (((sizes.length : Nat) : Int))) fun r2 =>
  if (¬ r2 = true) then
    some (((0 : Int), (1 : Int)))
  else
    seqO (volumegroupref18_Size_l1 sizes FUEL (1073741824 : Int) 0) fun a8 =>
    grd (decide (¬ chunk = 0)) <|
    grd (inI64 (((IntKind.i64.wrap (a8.tdiv chunk)) * chunk))) <|
    grd (inI64 (((((sizes.length : Nat) : Int) - (1 : Int)) * ((IntKind.i64.wrap (a8.tdiv chunk)) * chunk)))) <|
    lt (((((sizes.length : Nat) : Int) - (1 : Int)) * ((IntKind.i64.wrap (a8.tdiv chunk)) * chunk))) fun w22 =>
    some ((w22, (0 : Int)))
theorem L_volumegroupref18_Size {W : World} {Asizes : HP} {vsizes : Value} {chunk : Int} {sizes : List Int} {r : Int × Int} (rsizes : Reads Asizes tyI vsizes sizes) (h : volumegroupref18_Size chunk sizes = some r) :
    CSpec Tryz.prog W 27 [.int .i64 chunk, vsizes] [Asizes] (fun x : Unit => .tuple #[.int .i64 r.1, .int .i64 r.2]) (fun _ => True) (fun x F => Asizes :: F) := by
 refine CSpec.of_body Tryz.func27 rfl Tryz.ntmps27 rfl fun F => ?_
 show CJ _ _ _ _ _ _ (_ :: F)
 unfold volumegroupref18_Size at h
 refine CJ_pure (len_of rsizes del0) fun hlen1 => sR <| oA rfl rfl <| oA rfl rfl <| nT <| CJ_seq <| sR <| oM rfl rfl <| oM rfl rfl <| oV (V_len rfl foc0 rsizes Tryz.runUnderlying35) rfl ?_
 obtain ⟨r2, hr3, h⟩ := bind_e h
 refine oO <| O_call (L_volumegroupref18_fits hr3) rfl Tryz.call61 Dels.nil rfl fun _ _ => oP (P_not rfl) rfl <| nT <| CJ_condP rfl (bT_not Iff.rfl) (fun hg1 => ?_) (fun hg1 => ?_)
 ·
  replace h := ite_t hg1 h
  refine sR <| oA rfl rfl <| oA rfl rfl <| nT <| CJ_ret <| QJ_then_ret ?_
  cases h
  exact fE (res2 Tryz.results27 rfl rfl) () eR
 ·
  replace h := ite_f hg1 h
  refine kT <| sR <| oA rfl rfl <| nT <| CJ_seq <| sR <| oA rfl rfl <| nT ?_
  obtain ⟨y6, hl4, hK5⟩ := seq_e h
  refine CJ_cutT (X := Int) [4, 5, 6, 7, 13, 14, 15, 16, 17, 18, 19, 20, 21, 22, 23, 24, 25, 26, 27, 28, 29, 30, 31, 32, 33, 34, 35, 36] (fun a8 => ([(6, .int .i64 a8)] : Slots)) (fun a8 R => R) (fun a8 => y6 = .inl a8) Dels.nil ?_ ?_
  ·
   refine CJ_block <| CJ_loopR (X := Nat × Int × Nat) [4, 5, 6, 7, 13, 14, 15, 16, 17, 18, 19, 20, 21, 22, 23, 24, 25, 26, 27, 28, 29, 30, 31, 32, 33, 34, 35, 36] (fun ⟨n, x9, x10⟩ => ([(6, .int .i64 x9), (7, .int .i64 (((x10 : Nat) : Int)))] : Slots)) (fun ⟨n, x9, x10⟩ R => R) (fun ⟨n, x9, x10⟩ => volumegroupref18_Size_l1 sizes n x9 x10 = some y6) (fun ⟨n, x9, x10⟩ => n) ⟨FUEL, (1073741824 : Int), 0⟩ ?_ ?_ eR ?_
   · exact hl4
   · exact ⟨rfl, rfl, True.intro⟩
   ·
    rintro ⟨n, x9, x10⟩ h
    cases n with
    | zero => exact none_e h
    | succ n => ?_
    replace h : volumegroupref18_Size_l1_b sizes (volumegroupref18_Size_l1 sizes n) x9 x10 = some y6 := h
    unfold volumegroupref18_Size_l1_b at h
    show CJ _ _ _ _ _ (([(6, .int .i64 x9), (7, .int .i64 (((x10 : Nat) : Int)))] : Slots) ++ forget _ _) (_)
    refine CJ_seq <| sR <| oM rfl rfl <| oM rfl rfl <| oV (V_len rfl foc0 rsizes Tryz.runUnderlying35) rfl <| oP (P_lss (a := ((x10 : Nat) : Int)) (b := ((sizes.length : Nat) : Int)) rfl rfl) rfl <| nT <| CJ_condP rfl bT_dec (fun hg2 => ?_) (fun hg2 => ?_)
    ·
     replace h := ite_t hg2 h
     refine kT <| CJ_seq <| CJ_block <| CJ_seq <| sR <| oM rfl rfl <| oM rfl rfl <| oV (V_index (i := x10) rfl rfl rfl (by omega) foc0 rsizes Tryz.runUnderlying35 Tryz.sizeOf3) rfl <| oV (V_loadE rfl rfl (by omega) foc0 rsizes rfl rfl Tryz.isAgg3) rfl <| oP (P_lss (a := (sizes.getD x10 0)) (b := (0 : Int)) rfl rfl) rfl <| oM rfl rfl <| RJ_mbF rfl rfl rfl (fun hG11 => have hP12 : ¬ ((sizes.getD x10 0) < (0 : Int)) := nP (bT_dec) hG11; VJ_P (P_move rfl)) <| RJ_mbF rfl rfl rfl (fun hG13 => have hP14 : ¬ ((sizes.getD x10 0) < (0 : Int)) := nP (bT_dec) hG13; VJ_P (P_move rfl)) <| RJ_mbF rfl rfl rfl (fun hG15 => have hP16 : ¬ ((sizes.getD x10 0) < (0 : Int)) := nP (bT_dec) hG15; V_index (i := x10) (mbx hG15 rfl) (mbx hG15 rfl) rfl (by omega) foc0 rsizes Tryz.runUnderlying35 Tryz.sizeOf3) <| RJ_mbF rfl rfl rfl (fun hG17 => have hP18 : ¬ ((sizes.getD x10 0) < (0 : Int)) := nP (bT_dec) hG17; V_loadE (mbx hG17 rfl) rfl (by omega) foc0 rsizes rfl rfl Tryz.isAgg3) <| RJ_mbF rfl rfl rfl (fun hG19 => have hP20 : ¬ ((sizes.getD x10 0) < (0 : Int)) := nP (bT_dec) hG19; VJ_P (P_gtr (a := (sizes.getD x10 0)) (b := (1073741824 : Int)) (mbx hG19 rfl) rfl)) <| oP (P_pickOr rfl rfl (fun hh => mbx (not_f hh) rfl)) rfl <| nT <| CJ_condP rfl (bT_or bT_dec bT_dec) (fun hg3 => ?_) (fun hg3 => ?_)
     ·
      replace h := ite_t hg3 h
      refine sR <| oA rfl rfl <| oA rfl rfl <| nT <| CJ_ret <| QJ_then_ret <| QJ_block_ret <| QJ_then_ret <| QJ_round_ret <| QJ_block_ret <| QJ_then_ret ?_
      have hE := Option.some.inj h
      replace hE := seq_inr hK5 hE.symm
      subst hE
      exact fE (res2 Tryz.results27 rfl rfl) () eR
     ·
      replace h := ite_f hg3 h
      exact kT <| CJ_region <| oM rfl rfl <| oM rfl rfl <| oM rfl rfl <| oV (V_index (i := x10) rfl rfl rfl (by omega) foc0 rsizes Tryz.runUnderlying35 Tryz.sizeOf3) rfl <| oV (V_loadE rfl rfl (by omega) foc0 rsizes rfl rfl Tryz.isAgg3) rfl <| oP (P_min (a := x9) (b := (sizes.getD x10 0)) rfl rfl) rfl <| oA rfl rfl <| RJ_nil <| QJ_block_normal <| QJ_then <| CJ_region <| oM rfl rfl <| oP (PJ_eq (P_add (a := ((x10 : Nat) : Int)) (b := (1 : Int)) rfl rfl (by omega)) rfl) rfl <| oA rfl rfl <| RJ_nil <| nR ⟨n, (min x9 (sizes.getD x10 0)), (x10 + 1)⟩ h ⟨rfl, rfl, True.intro⟩ eR
    ·
     replace h := ite_f hg2 h
     exact CJ_exit <| QJ_then_exit <| QJ_round_exit <| QJ_block_here <| cR x9 (Option.some.inj h).symm ⟨rfl, True.intro⟩ eR
  ·
   rintro a8 hy21
   replace h := seq_inl hK5 hy21
   show CJ _ _ _ _ _ (([(6, .int .i64 a8)] : Slots) ++ forget _ _) (_)
   refine sR <| oM rfl rfl <| oV (V_len rfl foc0 rsizes Tryz.runUnderlying35) rfl <| oP (P_sub (a := ((sizes.length : Nat) : Int)) (b := (1 : Int)) rfl rfl (by omega)) rfl <| oM rfl rfl <| oM rfl rfl ?_
   obtain ⟨hg4, h⟩ := grd_de h
   refine oP (P_quoT (a := a8) (b := chunk) rfl rfl hg4) rfl <| oM rfl rfl ?_
   obtain ⟨hg5, h⟩ := grd_Ie h
   refine oP (P_mul (a := (IntKind.i64.wrap (a8.tdiv chunk))) (b := chunk) rfl rfl hg5) rfl ?_
   obtain ⟨hg6, h⟩ := grd_Ie h
   refine oP (P_mul (a := (((sizes.length : Nat) : Int) - (1 : Int))) (b := ((IntKind.i64.wrap (a8.tdiv chunk)) * chunk)) rfl rfl hg6) rfl ?_
   obtain ⟨w22, hw22, h⟩ := lt_e h
   rw [← hw22]
   refine oA rfl rfl <| oA rfl rfl <| nT <| CJ_ret ?_
   cases h
   exact fE (res2 Tryz.results27 rfl rfl) () eR
def parityvol_Volume_Read_2 (at_1 : Int) : Option (UInt64 × Int) :=
  if (at_1 < (0 : Int)) then
    some (((0 : UInt64), (1 : Int)))
  else
    none
theorem L_parityvol_Volume_Read_2 {W : World} {at_1 : Int} {r : UInt64 × Int} (h : parityvol_Volume_Read_2 at_1 = some r) :
    CSpec Tryz.prog W 28 [.pointer none, .int .i64 at_1] [] (fun x : Unit => .tuple #[.int .u64 (r.1.toNat : Int), .int .i64 r.2]) (fun _ => True) (fun x F => F) := by
 refine CSpec.of_body Tryz.func28 rfl Tryz.ntmps28 rfl fun F => ?_
 show CJ _ _ _ _ _ _ (F)
 unfold parityvol_Volume_Read_2 at h
 refine sR <| oA rfl rfl <| oA rfl rfl <| nT <| CJ_seq <| sR <| oM rfl rfl <| oP (P_lss (a := at_1) (b := (0 : Int)) rfl rfl) rfl <| oM rfl rfl <| RJ_splitP 16 rfl bT_dec (fun hg1B hg1 => ?_) (fun hg1B hg1 => ?_)
 ·
  replace h := ite_t hg1 h
  refine RJ_gn (GY_no rfl rfl rfl hg1B) rfl rfl <| RJ_gn (GY_no rfl rfl rfl hg1B) rfl rfl <| RJ_gn (GY_no rfl rfl rfl hg1B) rfl rfl <| RJ_gn (GY_no rfl rfl rfl hg1B) rfl rfl <| oP (P_pickT rfl hg1B rfl) rfl <| nT <| CJ_condT rfl rfl <| sR <| oA rfl rfl <| oA rfl rfl <| nT <| CJ_ret <| QJ_then_ret ?_
  cases h
  exact fE (res2 Tryz.results28 rfl rfl) () eR
 ·
  replace h := ite_f hg1 h
  exact gP (GY_yes rfl rfl rfl hg1B) (P_move rfl) rfl <| gP (GY_yes rfl rfl rfl hg1B) (P_move rfl) rfl <| none_e h
def parityvol_Volume_Fill_2 (n_1 : Int) : Option (Int × Int) :=
  if (n_1 < (0 : Int)) then
    some (((0 : Int), (1 : Int)))
  else
    none
theorem L_parityvol_Volume_Fill_2 {W : World} {n_1 : Int} {r : Int × Int} (h : parityvol_Volume_Fill_2 n_1 = some r) :
    CSpec Tryz.prog W 29 [.pointer none, .int .i64 n_1] [] (fun x : Unit => .tuple #[.int .i64 r.1, .int .i64 r.2]) (fun _ => True) (fun x F => F) := by
 refine CSpec.of_body Tryz.func29 rfl Tryz.ntmps29 rfl fun F => ?_
 show CJ _ _ _ _ _ _ (F)
 unfold parityvol_Volume_Fill_2 at h
 refine sR <| oA rfl rfl <| oA rfl rfl <| nT <| CJ_seq <| sR <| oM rfl rfl <| oP (P_lss (a := n_1) (b := (0 : Int)) rfl rfl) rfl <| nT <| CJ_condP rfl bT_dec (fun hg1 => ?_) (fun hg1 => ?_)
 ·
  replace h := ite_t hg1 h
  refine sR <| oA rfl rfl <| oA rfl rfl <| nT <| CJ_ret <| QJ_then_ret ?_
  cases h
  exact fE (res2 Tryz.results29 rfl rfl) () eR
 ·
  replace h := ite_f hg1 h
  exact kT <| CJ_seq <| sR <| oM rfl rfl <| none_e h
def parityvol_Volume_Scrub_2 (row : Int) (n_2 : Int) : Option ((List Int) × Int) :=
  if ((row < (0 : Int)) ∨ (n_2 < (0 : Int))) then
    some (([], (1 : Int)))
  else
    none
theorem L_parityvol_Volume_Scrub_2 {W : World} {row : Int} {n_2 : Int} {r : (List Int) × Int} (h : parityvol_Volume_Scrub_2 row n_2 = some r) :
    CSpec Tryz.prog W 30 [.pointer none, .int .i64 row, .int .i64 n_2] [] (fun x : Sl3 => .tuple #[x.v, .int .i64 r.2]) (fun _ => True) (fun x F => sl tyI x.v r.1 :: F) := by
 refine CSpec.of_body Tryz.func30 rfl Tryz.ntmps30 rfl fun F => ?_
 show CJ _ _ _ _ _ _ (F)
 unfold parityvol_Volume_Scrub_2 at h
 refine sR <| oA rfl rfl <| oA rfl rfl <| nT <| CJ_seq <| sR <| oM rfl rfl <| oP (P_lss (a := row) (b := (0 : Int)) rfl rfl) rfl <| oM rfl rfl <| RJ_mbF rfl rfl rfl (fun hG1 => have hP2 : ¬ (row < (0 : Int)) := nP (bT_dec) hG1; VJ_P (P_move rfl)) <| RJ_mbF rfl rfl rfl (fun hG3 => have hP4 : ¬ (row < (0 : Int)) := nP (bT_dec) hG3; VJ_P (P_lss (a := n_2) (b := (0 : Int)) (mbx hG3 rfl) rfl)) <| oP (P_pickOr rfl rfl (fun hh => mbx (not_f hh) rfl)) rfl <| nT <| CJ_condP rfl (bT_or bT_dec bT_dec) (fun hg1 => ?_) (fun hg1 => ?_)
 ·
  replace h := ite_t hg1 h
  refine sR <| oA rfl rfl <| oA rfl rfl <| nT <| CJ_ret <| QJ_then_ret <| QJ_ent (fun h hh => sl_nil (t := tyI) h hh) ?_
  cases h
  exact fE (res2 Tryz.results30 rfl rfl) ⟨none, 0, 0⟩ eR
 ·
  replace h := ite_f hg1 h
  exact kT <| CJ_seq <| sR <| oM rfl rfl <| none_e h
def volumegrouplaw19_ParityvolErrors_l1_b (sizes : List UInt8) (rec : Int → Nat → (List Int) → Option ((List Int) × Int)) (x19 : Int) (x20 : Nat) (x21 : List Int) : Option ((List Int) × Int) :=
  if (((x20 : Nat) : Int) < ((sizes.length : Nat) : Int)) then
    grd (inN64 ((1 + (((sizes.getD x20 0) % (30 : UInt8))).toNat))) <|
    grd (inLen (x21.length + 1)) <|
    grd (decide (x20 < ((x21 ++ [(((1 + (((sizes.getD x20 0) % (30 : UInt8))).toNat) : Nat) : Int)])).length)) <|
    lt ((((x21 ++ [(((1 + (((sizes.getD x20 0) % (30 : UInt8))).toNat) : Nat) : Int)])).getD x20 0)) fun w28 =>
    rec (min x19 w28) (x20 + 1) ((x21 ++ [(((1 + (((sizes.getD x20 0) % (30 : UInt8))).toNat) : Nat) : Int)]))
  else
    some (x21, x19)
def volumegrouplaw19_ParityvolErrors_l1 (sizes : List UInt8) : Nat → Int → Nat → (List Int) → Option ((List Int) × Int)
  | 0, _, _, _ => none
  | n + 1, x19, x20, x21 => volumegrouplaw19_ParityvolErrors_l1_b sizes (volumegrouplaw19_ParityvolErrors_l1 sizes n) x19 x20 x21
def volumegrouplaw19_ParityvolErrors_l5_b (stale : List Int) (a18 : (List Int) × Int) (rec : Nat → Nat → Option (Nat)) (x79 : Nat) (x80 : Nat) : Option (Nat) :=
  if ((((x80 : Nat) : Int) < ((stale.length : Nat) : Int)) ∧ (((x79 : Nat) : Int) ≠ (1 : Int))) then
    if (((stale.getD x80 0) < (0 : Int)) ∨ (((a18.1.length : Nat) : Int) ≤ (stale.getD x80 0))) then
      rec 1 (x80 + 1)
    else
      if ((stale.getD x80 0) ≠ (stale.getD 0 0)) then
        rec 19 (x80 + 1)
      else
        rec x79 (x80 + 1)
  else
    some x79
def volumegrouplaw19_ParityvolErrors_l5 (stale : List Int) (a18 : (List Int) × Int) : Nat → Nat → Nat → Option (Nat)
  | 0, _, _ => none
  | n + 1, x79, x80 => volumegrouplaw19_ParityvolErrors_l5_b stale a18 (volumegrouplaw19_ParityvolErrors_l5 stale a18 n) x79 x80
def volumegrouplaw19_ParityvolErrors_l6_b (stale : List Int) (a18 : (List Int) × Int) (rec : Nat → Nat → Option (Nat)) (x105 : Nat) (x106 : Nat) : Option (Nat) :=
  if (((x106 : Nat) : Int) < ((stale.length : Nat) : Int)) then
    if (((stale.getD x106 0) < (0 : Int)) ∨ (((a18.1.length : Nat) : Int) ≤ (stale.getD x106 0))) then
      rec 1 (x106 + 1)
    else
      rec x105 (x106 + 1)
  else
    some x105
def volumegrouplaw19_ParityvolErrors_l6 (stale : List Int) (a18 : (List Int) × Int) : Nat → Nat → Nat → Option (Nat)
  | 0, _, _ => none
  | n + 1, x105, x106 => volumegrouplaw19_ParityvolErrors_l6_b stale a18 (volumegrouplaw19_ParityvolErrors_l6 stale a18 n) x105 x106
def volumegrouplaw19_ParityvolErrors (sizes : List UInt8) (chunk : Int) (stale : List Int) (n_3 : Int) : Option (Bool) :=
  if (((8 : Int) < ((sizes.length : Nat) : Int)) ∨ ((5 : Int) < ((stale.length : Nat) : Int))) then
    Option.bind (volumegrouplaw19_awake) fun r9 =>
    some r9
  else
    Option.bind (volumegrouplaw19_ParityvolErrors_l1 sizes FUEL (1048576 : Int) 0 ([])) fun a18 =>
    Option.bind ((
      if ((0 : Int) < chunk) then
        some (((1 : Int) + (chunk % (20 : Int))))
      else
        some chunk : Option (Int))) fun a35 =>
    grd (inLen a18.1.length) <|
    if ((newC a18.1) ≠ (0 : Int)) then
      some false
    else
      Option.elim (newO a18.1) (
        some false) fun o44 =>
      Option.bind (volumegroupmake_Spans o44) fun r45 =>
      Option.bind ((
        if (((((a18.1.length : Nat) : Int) < (3 : Int)) ∨ ((6 : Int) < ((a18.1.length : Nat) : Int))) ∨ (a35 < (1 : Int))) then
          some 1
        else
          grd (inI64 (((16 : Int) + a35))) <|
          if (a18.2 < ((16 : Int) + a35)) then
            some 3
          else
            some 0 : Option (Nat))) fun a65 =>
      Option.bind (parityvol_Format r45 a35 o44) fun r67 =>
      if (r67.1 ≠ ((a65 : Nat) : Int)) then
        some false
      else
        Option.bind ((
          if (((a65 : Nat) : Int) = (0 : Int)) then
            Option.bind (volumegrouplaw19_ParityvolErrors_l5 stale a18 FUEL a65 0) fun a78 =>
            Option.bind (volumegrouplaw19_ParityvolErrors_l6 stale a18 FUEL a78 0) fun a104 =>
            some a104
          else
            some a65 : Option (Nat))) fun a73 =>
        Option.bind (parityvol_Open r45 stale a35 r67.2) fun r123 =>
        if (r123.2.1 ≠ ((a73 : Nat) : Int)) then
          some false
        else
          Option.elim r123.1 (
            if (¬ (true = true ↔ (r123.2.1 ≠ (0 : Int)))) then
              some false
            else
              if (r123.2.1 ≠ (0 : Int)) then
                Option.bind (volumegrouplaw19_awake) fun r133 =>
                some r133
              else
                grd (inI64 ((a18.2 - (16 : Int)))) <|
                grd (inI64 ((a18.2 - (16 : Int)))) <|
                grd (inI64 ((a18.2 - (16 : Int)))) <|
                Option.bind (volumegroupref18_Size a35 ([(a18.2 - (16 : Int)), (a18.2 - (16 : Int)), (a18.2 - (16 : Int))])) fun r136 =>
                grd (inI64 (((IntKind.i64.wrap (r136.1.tdiv (2 : Int))) * (((a18.1.length : Nat) : Int) - (1 : Int))))) <|
                lt (((IntKind.i64.wrap (r136.1.tdiv (2 : Int))) * (((a18.1.length : Nat) : Int) - (1 : Int)))) fun w138 =>
                Option.bind (parityvol_Volume_Read_2 n_3) fun r139 =>
                Option.bind (parityvol_Volume_Fill_2 (-1 : Int)) fun r141 =>
                Option.bind (parityvol_Volume_Scrub_2 (-1 : Int) (0 : Int)) fun r143 =>
                none) fun o132 =>
          if (¬ (false = true ↔ (r123.2.1 ≠ (0 : Int)))) then
            some false
          else
            if (r123.2.1 ≠ (0 : Int)) then
              Option.bind (volumegrouplaw19_awake) fun r153 =>
              some r153
            else
              grd (inI64 ((a18.2 - (16 : Int)))) <|
              grd (inI64 ((a18.2 - (16 : Int)))) <|
              grd (inI64 ((a18.2 - (16 : Int)))) <|
              Option.bind (volumegroupref18_Size a35 ([(a18.2 - (16 : Int)), (a18.2 - (16 : Int)), (a18.2 - (16 : Int))])) fun r156 =>
              grd (inI64 (((IntKind.i64.wrap (r156.1.tdiv (2 : Int))) * (((a18.1.length : Nat) : Int) - (1 : Int))))) <|
              lt (((IntKind.i64.wrap (r156.1.tdiv (2 : Int))) * (((a18.1.length : Nat) : Int) - (1 : Int)))) fun w158 =>
              Option.bind (parityvol_Volume_Read o132 n_3 r123.2.2) fun r159 =>
              Option.bind (parityvol_Volume_Fill r159.2.2.1 (-1 : Int) r159.2.2.2) fun r161 =>
              Option.bind (parityvol_Volume_Scrub r161.2.2.1 (-1 : Int) (0 : Int) r161.2.2.2) fun r163 =>
              Option.bind (parityvol_Volume_Size r163.2.2.1 r163.2.2.2) fun r173 =>
              if ((r173 ≠ w158) ∨ (¬ (((n_3 < (0 : Int)) ∨ (w158 ≤ n_3)) ↔ (r159.2.1 = (1 : Int))))) then
                some false
              else
                if ((n_3 < (0 : Int)) ∨ (w158 ≤ n_3)) then
                  Option.bind (parityvol_Volume_Write r163.2.2.1 n_3 (1 : UInt64) r163.2.2.2) fun r183 =>
                  if (r183.1 ≠ (1 : Int)) then
                    some false
                  else
                    Option.bind (parityvol_Volume_Drop r183.2.1 (-1 : Int) r183.2.2) fun r185 =>
                    if (r185.1 ≠ (1 : Int)) then
                      some false
                    else
                      Option.bind (parityvol_Volume_Drop r185.2 (((a18.1.length : Nat) : Int)) r183.2.2) fun r187 =>
                      if (r187.1 ≠ (1 : Int)) then
                        some false
                      else
                        Option.bind (parityvol_Volume_Failed r187.2 r183.2.2) fun r189 =>
                        if (((r189.length : Nat) : Int) ≠ (0 : Int)) then
                          some false
                        else
                          if (((stale.length : Nat) : Int) = (0 : Int)) then
                            if ((r161.2.1 = (1 : Int)) ∧ (r163.2.1 = (1 : Int))) then
                              Option.bind (parityvol_Volume_Accept r187.2 r183.2.2) fun r197 =>
                              if (r197.1 = (20 : Int)) then
                                Option.bind (parityvol_Volume_Filled r197.2.1 r197.2.2) fun r199 =>
                                if (¬ r199 = true) then
                                  Option.bind (parityvol_Volume_Drop r197.2.1 (0 : Int) r197.2.2) fun r201 =>
                                  if (r201.1 = (0 : Int)) then
                                    Option.bind (parityvol_Volume_Drop r201.2 (1 : Int) r197.2.2) fun r203 =>
                                    if (r203.1 = (19 : Int)) then
                                      Option.bind (parityvol_Volume_Drop r203.2 (0 : Int) r197.2.2) fun r205 =>
                                      if (r205.1 = (0 : Int)) then
                                        Option.bind (volumegrouplaw19_awake) fun r207 =>
                                        some r207
                                      else
                                        some false
                                    else
                                      some false
                                  else
                                    some false
                                else
                                  some false
                              else
                                some false
                            else
                              some false
                          else
                            if ((r161.2.1 = (1 : Int)) ∧ (r163.2.1 = (1 : Int))) then
                              grd (inI64 (((stale.getD 0 0) + (1 : Int)))) <|
                              grd (decide (¬ ((a18.1.length : Nat) : Int) = 0)) <|
                              Option.bind (parityvol_Volume_Drop r187.2 (((((stale.getD 0 0) + (1 : Int))).tmod (((a18.1.length : Nat) : Int)))) r183.2.2) fun r213 =>
                              if (r213.1 = (19 : Int)) then
                                Option.bind (volumegrouplaw19_awake) fun r215 =>
                                some r215
                              else
                                some false
                            else
                              some false
                else
                  Option.bind (parityvol_Volume_Drop r163.2.2.1 (-1 : Int) r163.2.2.2) fun r217 =>
                  if (r217.1 ≠ (1 : Int)) then
                    some false
                  else
                    Option.bind (parityvol_Volume_Drop r217.2 (((a18.1.length : Nat) : Int)) r163.2.2.2) fun r219 =>
                    if (r219.1 ≠ (1 : Int)) then
                      some false
                    else
                      Option.bind (parityvol_Volume_Failed r219.2 r163.2.2.2) fun r221 =>
                      if (((r221.length : Nat) : Int) ≠ (0 : Int)) then
                        some false
                      else
                        if (((stale.length : Nat) : Int) = (0 : Int)) then
                          if ((r161.2.1 = (1 : Int)) ∧ (r163.2.1 = (1 : Int))) then
                            Option.bind (parityvol_Volume_Accept r219.2 r163.2.2.2) fun r229 =>
                            if (r229.1 = (20 : Int)) then
                              Option.bind (parityvol_Volume_Filled r229.2.1 r229.2.2) fun r231 =>
                              if (¬ r231 = true) then
                                Option.bind (parityvol_Volume_Drop r229.2.1 (0 : Int) r229.2.2) fun r233 =>
                                if (r233.1 = (0 : Int)) then
                                  Option.bind (parityvol_Volume_Drop r233.2 (1 : Int) r229.2.2) fun r235 =>
                                  if (r235.1 = (19 : Int)) then
                                    Option.bind (parityvol_Volume_Drop r235.2 (0 : Int) r229.2.2) fun r237 =>
                                    if (r237.1 = (0 : Int)) then
                                      Option.bind (volumegrouplaw19_awake) fun r239 =>
                                      some r239
                                    else
                                      some false
                                  else
                                    some false
                                else
                                  some false
                              else
                                some false
                            else
                              some false
                          else
                            some false
                        else
                          if ((r161.2.1 = (1 : Int)) ∧ (r163.2.1 = (1 : Int))) then
                            grd (inI64 (((stale.getD 0 0) + (1 : Int)))) <|
                            grd (decide (¬ ((a18.1.length : Nat) : Int) = 0)) <|
                            Option.bind (parityvol_Volume_Drop r219.2 (((((stale.getD 0 0) + (1 : Int))).tmod (((a18.1.length : Nat) : Int)))) r163.2.2.2) fun r245 =>
                            if (r245.1 = (19 : Int)) then
                              Option.bind (volumegrouplaw19_awake) fun r247 =>
                              some r247
                            else
                              some false
                          else
                            some false
theorem L_volumegrouplaw19_ParityvolErrors {W : World} {Asizes : HP} {vsizes : Value} {Astale : HP} {vstale : Value} {sizes : List UInt8} {chunk : Int} {stale : List Int} {n_3 : Int} {r : Bool} (rsizes : Reads Asizes tyU8 vsizes sizes) (rstale : Reads Astale tyI vstale stale) (h : volumegrouplaw19_ParityvolErrors sizes chunk stale n_3 = some r) :
    CSpec Tryz.prog W 7 [vsizes, .int .i64 chunk, vstale, .int .i64 n_3] [Asizes, Astale] (fun x : Unit => .bool r) (fun _ => True) (fun x F => Asizes :: Astale :: F) := by
 refine CSpec.of_body Tryz.func7 rfl Tryz.ntmps7 rfl fun F => ?_
 show CJ _ _ _ _ _ _ (_ :: _ :: F)
 unfold volumegrouplaw19_ParityvolErrors at h
 refine CJ_pure (len_of rsizes del0) fun hlen1 => CJ_pure (len_of rstale del1) fun hlen2 => sR <| oA rfl rfl <| nT <| CJ_seq <| sR <| oM rfl rfl <| oV (V_len rfl foc0 rsizes Tryz.runUnderlying59) rfl <| oP (P_gtr (a := ((sizes.length : Nat) : Int)) (b := (8 : Int)) rfl rfl) rfl <| oM rfl rfl <| RJ_mbF rfl rfl rfl (fun hG3 => have hP4 : ¬ ((8 : Int) < ((sizes.length : Nat) : Int)) := nP (bT_dec) hG3; VJ_P (P_move rfl)) <| RJ_mbF rfl rfl rfl (fun hG5 => have hP6 : ¬ ((8 : Int) < ((sizes.length : Nat) : Int)) := nP (bT_dec) hG5; V_len (mbx hG5 rfl) foc1 rstale Tryz.runUnderlying35) <| RJ_mbF rfl rfl rfl (fun hG7 => have hP8 : ¬ ((8 : Int) < ((sizes.length : Nat) : Int)) := nP (bT_dec) hG7; VJ_P (P_gtr (a := ((stale.length : Nat) : Int)) (b := (5 : Int)) (mbx hG7 rfl) rfl)) <| oP (P_pickOr rfl rfl (fun hh => mbx (not_f hh) rfl)) rfl <| nT <| CJ_condP rfl (bT_or bT_dec bT_dec) (fun hg1 => ?_) (fun hg1 => ?_)
 ·
  replace h := ite_t hg1 h
  refine sR ?_
  obtain ⟨r9, hr10, h⟩ := bind_e h
  refine oO <| O_call (L_volumegrouplaw19_awake hr10) rfl Tryz.call11 Dels.nil rfl fun _ _ => oA rfl rfl <| nT <| CJ_ret <| QJ_then_ret ?_
  cases h
  exact fE (res1 Tryz.results7 rfl) () eR
 ·
  replace h := ite_f hg1 h
  refine kT <| sR <| oA rfl rfl <| nT <| sR <| oA rfl rfl <| nT <| CJ_seq <| sR <| oA rfl rfl <| nT <| CJ_ent (fun h hh => sl_nil (t := tyI) h hh) ?_
  obtain ⟨y14, hl12, hK13⟩ := bind_c h
  refine CJ_cutT (X := ((List Int) × Int) × Sl3) [9, 10, 11, 38, 39, 40, 41, 42, 43, 44, 45, 46, 47, 48, 49, 50, 51, 52, 53, 54, 55, 56, 57, 58, 59] (fun ⟨a18, hd16⟩ => ([(9, hd16.v), (10, .int .i64 a18.2)] : Slots)) (fun ⟨a18, hd16⟩ R => sl tyI hd16.v a18.1 :: R) (fun ⟨a18, hd16⟩ => y14 = a18) (Dels.cons del0 Dels.nil) ?_ ?_
  ·
   refine CJ_block <| CJ_loopR (X := Nat × Int × Nat × (List Int) × Sl3) [9, 10, 11, 38, 39, 40, 41, 42, 43, 44, 45, 46, 47, 48, 49, 50, 51, 52, 53, 54, 55, 56, 57, 58, 59] (fun ⟨n, x19, x20, x21, hd22⟩ => ([(9, hd22.v), (10, .int .i64 x19), (11, .int .i64 (((x20 : Nat) : Int)))] : Slots)) (fun ⟨n, x19, x20, x21, hd22⟩ R => sl tyI hd22.v x21 :: R) (fun ⟨n, x19, x20, x21, hd22⟩ => volumegrouplaw19_ParityvolErrors_l1 sizes n x19 x20 x21 = some y14) (fun ⟨n, x19, x20, x21, hd22⟩ => n) ⟨FUEL, (1048576 : Int), 0, [], ⟨none, 0, 0⟩⟩ ?_ ?_ eR ?_
   · exact hl12
   · exact ⟨rfl, rfl, rfl, True.intro⟩
   ·
    rintro ⟨n, x19, x20, x21, hd22⟩ h
    cases n with
    | zero => exact none_e h
    | succ n => ?_
    replace h : volumegrouplaw19_ParityvolErrors_l1_b sizes (volumegrouplaw19_ParityvolErrors_l1 sizes n) x19 x20 x21 = some y14 := h
    unfold volumegrouplaw19_ParityvolErrors_l1_b at h
    show CJ _ _ _ _ _ (([(9, hd22.v), (10, .int .i64 x19), (11, .int .i64 (((x20 : Nat) : Int)))] : Slots) ++ forget _ _) (sl tyI hd22.v x21 :: _)
    refine lC del0 fun hlen23 => CJ_seq <| sR <| oM rfl rfl <| oM rfl rfl <| oV (V_len rfl foc1 rsizes Tryz.runUnderlying59) rfl <| oP (P_lss (a := ((x20 : Nat) : Int)) (b := ((sizes.length : Nat) : Int)) rfl rfl) rfl <| nT <| CJ_condP rfl bT_dec (fun hg2 => ?_) (fun hg2 => ?_)
    ·
     replace h := ite_t hg2 h
     refine kT <| CJ_seq <| CJ_block <| sR <| oM rfl rfl <| oM rfl rfl <| oM rfl rfl <| oV (V_index (i := x20) rfl rfl rfl (by omega) foc1 rsizes Tryz.runUnderlying59 Tryz.sizeOf5) rfl <| oV (V_loadE rfl rfl (by omega) foc1 rsizes rfl rfl Tryz.isAgg5) rfl <| oP (P_rem_u8 (a := (sizes.getD x20 0)) (b := (30 : UInt8)) rfl rfl (by decide)) rfl <| oP (P_convSame rfl Tryz.runUnderlying5 Tryz.runUnderlying3 (wrap64_u _ (by have h9 := (((sizes.getD x20 0) % (30 : UInt8))).toNat_lt; exact (by omega : (((sizes.getD x20 0) % (30 : UInt8))).toNat < 9223372036854775808)))) rfl ?_
     obtain ⟨hg3, h⟩ := grd_Ne h
     refine oP (PJ_eq (P_add (a := (1 : Int)) (b := (((((sizes.getD x20 0) % (30 : UInt8))).toNat : Nat) : Int)) rfl rfl (nat_in hg3)) rfl) rfl <| oO <| O_buildSlice rfl (bs_35_1_0 _) rfl fun b24 => ?_
     obtain ⟨hg4, h⟩ := grd_Le h
     refine oO <| O_append (t := tyI) (bytes := 8) rfl rfl del1 foc0 (Reads.lit (t := tyI) (ys := [(((1 + (((sizes.getD x20 0) % (30 : UInt8))).toNat) : Nat) : Int)]) rfl rfl (by decide) (by decide) rfl) Tryz.underlying35 ok_tyI (apl (m := 1) (b := 8) hg4 (by decide)).1 (apl (m := 1) (b := 8) hg4 (by decide)).2 rfl fun p26 c27 => oA rfl rfl <| nT <| CJ_region <| oM rfl rfl <| oM rfl rfl <| oM rfl rfl ?_
     obtain ⟨hg5, h⟩ := grd_de h
     refine oV (V_index (i := x20) rfl rfl rfl hg5 foc0 (Reads.sl _ _ _) Tryz.runUnderlying35 Tryz.sizeOf3) rfl <| oV (V_loadE rfl rfl hg5 foc0 (Reads.sl _ _ _) rfl rfl Tryz.isAgg3) rfl ?_
     obtain ⟨w28, hw28, h⟩ := lt_e h
     rw [← hw28]
     exact oP (P_min (a := x19) (b := w28) rfl rfl) rfl <| oA rfl rfl <| RJ_nil <| QJ_block_normal <| QJ_then <| CJ_region <| oM rfl rfl <| oP (PJ_eq (P_add (a := ((x20 : Nat) : Int)) (b := (1 : Int)) rfl rfl (by omega)) rfl) rfl <| oA rfl rfl <| RJ_nil <| nR ⟨n, (min x19 w28), (x20 + 1), (x21 ++ [(((1 + (((sizes.getD x20 0) % (30 : UInt8))).toNat) : Nat) : Int)]), ⟨p26, (x21 ++ [(((1 + (((sizes.getD x20 0) % (30 : UInt8))).toNat) : Nat) : Int)]).length, c27⟩⟩ h ⟨rfl, rfl, rfl, True.intro⟩ (t0_ (t1_ (t1_ (eD eR))))
    ·
     replace h := ite_f hg2 h
     exact CJ_exit <| QJ_then_exit <| QJ_round_exit <| QJ_block_here <| cR ⟨(x21, x19), hd22⟩ (Option.some.inj h).symm ⟨rfl, rfl, True.intro⟩ eR
  ·
   rintro ⟨a18, hd16⟩ hy29
   replace h := bindK_at hK13 hy29
   show CJ _ _ _ _ _ (([(9, hd16.v), (10, .int .i64 a18.2)] : Slots) ++ forget _ _) (sl tyI hd16.v a18.1 :: _)
   refine lC del0 fun hlen30 => CJ_seq <| sR <| oM rfl rfl <| oP (P_gtr (a := chunk) (b := (0 : Int)) rfl rfl) rfl <| nT ?_
   obtain ⟨y33, hl31, hK32⟩ := bind_c h
   refine CJ_cutT (X := Int) [1, 62, 63, 64] (fun a35 => ([(1, .int .i64 a35)] : Slots)) (fun a35 R => R) (fun a35 => y33 = a35) Dels.nil ?_ ?_
   ·
    have h := hl31
    refine CJ_condP rfl bT_dec (fun hg6 => ?_) (fun hg6 => ?_)
    ·
     replace h := ite_t hg6 h
     exact CJ_region <| oM rfl rfl <| oP (P_rem (a := chunk) (b := (20 : Int)) rfl rfl (by omega)) rfl <| oP (P_add (a := (1 : Int)) (b := (chunk % (20 : Int))) rfl rfl (by omega)) rfl <| oA rfl rfl <| RJ_nil <| cR ((1 : Int) + (chunk % (20 : Int))) (Option.some.inj h).symm ⟨rfl, True.intro⟩ eR
    ·
     replace h := ite_f hg6 h
     exact CJ_skip <| cR chunk (Option.some.inj h).symm ⟨rfl, True.intro⟩ eR
   ·
    rintro a35 hy36
    replace h := bindK_at hK32 hy36
    show CJ _ _ _ _ _ (([(1, .int .i64 a35)] : Slots) ++ forget _ _) (_)
    refine sR <| oM rfl rfl ?_
    obtain ⟨hg7, h⟩ := grd_Le h
    refine oO <| O_call (c_NewO (Reads.sl _ _ _) hg7) rfl Tryz.call23 (Dels.cons del0 Dels.nil) rfl fun X37 _ => oM rfl rfl <| oP (P_extract rfl rfl) rfl <| oP (P_extract rfl rfl) rfl <| oA rfl rfl <| oA rfl rfl <| nT <| CJ_seq <| sR <| oM rfl rfl <| oP (P_neq (a := (newC a18.1)) (b := (0 : Int)) rfl rfl) rfl <| oM rfl rfl <| RJ_mbF rfl rfl rfl (fun hG39 => have hP40 : ¬ ((newC a18.1) ≠ (0 : Int)) := nP (bT_dec) hG39; VJ_P (P_move rfl)) <| RJ_splitP 72 rfl bT_dec (fun hg8B hg8 => ?_) (fun hg8B hg8 => ?_)
    ·
     replace h := ite_t hg8 h
     refine RJ_gn (GY_no rfl rfl rfl hg8B) rfl rfl <| oP (P_pickT rfl hg8B rfl) rfl <| nT <| CJ_condT rfl rfl <| sR <| oA rfl rfl <| nT <| CJ_ret <| QJ_then_ret ?_
     cases h
     exact fE (res1 Tryz.results7 rfl) () (t2_ (t2_ (eD (eD eR))))
    ·
     replace h := ite_f hg8 h
     rcases opt_e h with ⟨ht43, h⟩ | ⟨o44, ht43, h⟩
     ·
      rw [ht43]
      refine RJ_ent (t1_ (t1_ (t1_ (eD eR)))) <| gP (GY_yes rfl rfl rfl hg8B) (P_eqlNN (mbx (not_f hg8B) rfl) rfl Tryz.underlying30) rfl <| oP (P_pickF rfl hg8B rfl) rfl <| nT <| CJ_condT rfl rfl <| sR <| oA rfl rfl <| nT <| CJ_ret <| QJ_then_ret ?_
      cases h
      exact fE (res1 Tryz.results7 rfl) () (t1_ (t1_ (eD eR)))
     ·
      rw [ht43]
      refine RJ_ent (Ent.takeC (A' := Arr X37 o44) del0 rfl eR) <| gP (GY_yes rfl rfl rfl hg8B) (P_eqlPN (mbx (not_f hg8B) rfl) rfl Tryz.underlying30) rfl <| oP (P_pickF rfl hg8B rfl) rfl <| nT <| CJ_condF rfl rfl <| kT <| sR <| oM rfl rfl ?_
      obtain ⟨r45, hr46, h⟩ := bind_e h
      refine oO <| O_call (L_volumegroupmake_Spans hr46) rfl Tryz.call24 (Dels.cons del0 Dels.nil) rfl fun X47 _ => RJ_pure (fun h hh => Rs_len (stars_perm (del2 (A := Rs (DevP X37) r45 X47.2)).out h hh)) fun hdl50 => oA rfl rfl <| nT <| sR <| oA rfl rfl <| nT <| CJ_seq <| sR <| oM rfl rfl <| oV (V_len rfl foc3 (Reads.sl _ _ _) Tryz.runUnderlying35) rfl <| oP (P_lss (a := ((a18.1.length : Nat) : Int)) (b := (3 : Int)) rfl rfl) rfl <| oM rfl rfl <| RJ_mbF rfl rfl rfl (fun hG51 => have hP52 : ¬ (((a18.1.length : Nat) : Int) < (3 : Int)) := nP (bT_dec) hG51; VJ_P (P_move rfl)) <| RJ_mbF rfl rfl rfl (fun hG53 => have hP54 : ¬ (((a18.1.length : Nat) : Int) < (3 : Int)) := nP (bT_dec) hG53; V_len (mbx hG53 rfl) foc3 (Reads.sl _ _ _) Tryz.runUnderlying35) <| RJ_mbF rfl rfl rfl (fun hG55 => have hP56 : ¬ (((a18.1.length : Nat) : Int) < (3 : Int)) := nP (bT_dec) hG55; VJ_P (P_gtr (a := ((a18.1.length : Nat) : Int)) (b := (6 : Int)) (mbx hG55 rfl) rfl)) <| oP (P_pickOr rfl rfl (fun hh => mbx (not_f hh) rfl)) rfl <| oM rfl rfl <| RJ_mbF rfl rfl rfl (fun hG57 => have hP58 : ¬ ((((a18.1.length : Nat) : Int) < (3 : Int)) ∨ ((6 : Int) < ((a18.1.length : Nat) : Int))) := nP ((bT_or bT_dec bT_dec)) hG57; VJ_P (P_move rfl)) <| RJ_mbF rfl rfl rfl (fun hG59 => have hP60 : ¬ ((((a18.1.length : Nat) : Int) < (3 : Int)) ∨ ((6 : Int) < ((a18.1.length : Nat) : Int))) := nP ((bT_or bT_dec bT_dec)) hG59; VJ_P (P_lss (a := a35) (b := (1 : Int)) (mbx hG59 rfl) rfl)) ?_
      refine oP (P_pickOr rfl rfl (fun hh => mbx (not_f hh) rfl)) rfl <| nT ?_
      obtain ⟨y63, hl61, hK62⟩ := bind_c h
      refine CJ_cutT (X := Nat) [15, 90, 91, 92, 93] (fun a65 => ([(15, .int .i64 (((a65 : Nat) : Int)))] : Slots)) (fun a65 R => R) (fun a65 => y63 = a65) Dels.nil ?_ ?_
      ·
       have h := hl61
       refine CJ_condP rfl (bT_or (bT_or bT_dec bT_dec) bT_dec) (fun hg9 => ?_) (fun hg9 => ?_)
       ·
        replace h := ite_t hg9 h
        exact CJ_region <| oA rfl rfl <| RJ_nil <| cR 1 (Option.some.inj h).symm ⟨rfl, True.intro⟩ eR
       ·
        replace h := ite_f hg9 h
        refine sR <| oM rfl rfl <| oM rfl rfl ?_
        obtain ⟨hg10, h⟩ := grd_Ie h
        refine oP (P_add (a := (16 : Int)) (b := a35) rfl rfl hg10) rfl <| oP (P_lss (a := a18.2) (b := ((16 : Int) + a35)) rfl rfl) rfl <| nT <| CJ_condP rfl bT_dec (fun hg11 => ?_) (fun hg11 => ?_)
        ·
         replace h := ite_t hg11 h
         exact CJ_region <| oA rfl rfl <| RJ_nil <| cR 3 (Option.some.inj h).symm ⟨rfl, True.intro⟩ eR
        ·
         replace h := ite_f hg11 h
         exact CJ_skip <| cR 0 (Option.some.inj h).symm ⟨rfl, True.intro⟩ eR
      ·
       rintro a65 hy66
       replace h := bindK_at hK62 hy66
       show CJ _ _ _ _ _ (([(15, .int .i64 (((a65 : Nat) : Int)))] : Slots) ++ forget _ _) (_)
       refine CJ_seq <| sR <| oM rfl rfl <| oM rfl rfl ?_
       obtain ⟨r67, hr68, h⟩ := bind_e h
       refine oO <| O_call (L_parityvol_Format (Reads.sl _ _ _) hr68) rfl Tryz.call25 (Dels.cons del1 (Dels.cons del1 (Dels.cons del0 Dels.nil))) rfl fun _ _ => oM rfl rfl <| oP (P_neq (a := r67.1) (b := ((a65 : Nat) : Int)) rfl rfl) rfl <| nT <| CJ_condP rfl bT_dec (fun hg12 => ?_) (fun hg12 => ?_)
       ·
        replace h := ite_t hg12 h
        refine sR <| oA rfl rfl <| nT <| CJ_ret <| QJ_then_ret ?_
        cases h
        exact fE (res1 Tryz.results7 rfl) () (t4_ (t4_ (eD (eD (eD (eD eR))))))
       ·
        replace h := ite_f hg12 h
        refine kT <| CJ_seq <| sR <| oM rfl rfl <| oP (P_eql (a := ((a65 : Nat) : Int)) (b := (0 : Int)) rfl rfl) rfl <| nT ?_
        obtain ⟨y71, hl69, hK70⟩ := bind_c h
        refine CJ_cutT (X := Nat) [15, 16, 17, 101, 102, 103, 104, 105, 106, 107, 108, 109, 110, 111, 112, 113, 114, 115, 116, 117, 118, 119, 120, 121, 122, 123, 124, 125, 126, 127, 128, 129, 130, 131, 132, 133, 134, 135, 136, 137, 138, 139, 140, 141, 142, 143, 144, 145, 146, 147, 148, 149, 150, 151, 152] (fun a73 => ([(15, .int .i64 (((a73 : Nat) : Int)))] : Slots)) (fun a73 R => R) (fun a73 => y71 = a73) Dels.nil ?_ ?_
        ·
         have h := hl69
         refine CJ_condP rfl bT_dec (fun hg13 => ?_) (fun hg13 => ?_)
         ·
          replace h := ite_t hg13 h
          refine CJ_seq <| sR <| oA rfl rfl <| nT ?_
          obtain ⟨y76, hl74, hK75⟩ := bind_c h
          refine CJ_cutT (X := Nat) [15, 16, 101, 102, 103, 104, 105, 106, 107, 108, 109, 110, 111, 112, 113, 114, 115, 116, 117, 118, 119, 120, 121, 122, 123, 124, 125, 126, 127, 128, 129, 130, 131, 132] (fun a78 => ([(15, .int .i64 (((a78 : Nat) : Int)))] : Slots)) (fun a78 R => R) (fun a78 => y76 = a78) Dels.nil ?_ ?_
          ·
           refine CJ_block <| CJ_loopR (X := Nat × Nat × Nat) [15, 16, 101, 102, 103, 104, 105, 106, 107, 108, 109, 110, 111, 112, 113, 114, 115, 116, 117, 118, 119, 120, 121, 122, 123, 124, 125, 126, 127, 128, 129, 130, 131, 132] (fun ⟨n, x79, x80⟩ => ([(15, .int .i64 (((x79 : Nat) : Int))), (16, .int .i64 (((x80 : Nat) : Int)))] : Slots)) (fun ⟨n, x79, x80⟩ R => R) (fun ⟨n, x79, x80⟩ => volumegrouplaw19_ParityvolErrors_l5 stale a18 n x79 x80 = some y76) (fun ⟨n, x79, x80⟩ => n) ⟨FUEL, a65, 0⟩ ?_ ?_ eR ?_
           · exact hl74
           · exact ⟨rfl, rfl, True.intro⟩
           ·
            rintro ⟨n, x79, x80⟩ h
            cases n with
            | zero => exact none_e h
            | succ n => ?_
            replace h : volumegrouplaw19_ParityvolErrors_l5_b stale a18 (volumegrouplaw19_ParityvolErrors_l5 stale a18 n) x79 x80 = some y76 := h
            unfold volumegrouplaw19_ParityvolErrors_l5_b at h
            show CJ _ _ _ _ _ (([(15, .int .i64 (((x79 : Nat) : Int))), (16, .int .i64 (((x80 : Nat) : Int)))] : Slots) ++ forget _ _) (_)
            refine CJ_seq <| sR <| oM rfl rfl <| oM rfl rfl <| oV (V_len rfl foc5 rstale Tryz.runUnderlying35) rfl <| oP (P_lss (a := ((x80 : Nat) : Int)) (b := ((stale.length : Nat) : Int)) rfl rfl) rfl <| oM rfl rfl <| RJ_mbT rfl rfl rfl (fun hG81 => have hP82 : (((x80 : Nat) : Int) < ((stale.length : Nat) : Int)) := (bT_dec).1 hG81; VJ_P (P_move rfl)) <| RJ_mbT rfl rfl rfl (fun hG83 => have hP84 : (((x80 : Nat) : Int) < ((stale.length : Nat) : Int)) := (bT_dec).1 hG83; VJ_P (P_neq (a := ((x79 : Nat) : Int)) (b := (1 : Int)) (mbx hG83 rfl) rfl)) <| oP (P_pickAnd rfl (fun hh => mbx hh rfl) rfl) rfl <| nT <| CJ_condP rfl (bT_and bT_dec bT_dec) (fun hg14 => ?_) (fun hg14 => ?_)
            ·
             replace h := ite_t hg14 h
             refine kT <| CJ_seq <| CJ_block <| sR <| oM rfl rfl <| oM rfl rfl <| oV (V_index (i := x80) rfl rfl rfl (by omega) foc5 rstale Tryz.runUnderlying35 Tryz.sizeOf3) rfl <| oV (V_loadE rfl rfl (by omega) foc5 rstale rfl rfl Tryz.isAgg3) rfl <| oP (P_lss (a := (stale.getD x80 0)) (b := (0 : Int)) rfl rfl) rfl <| oM rfl rfl <| RJ_mbF rfl rfl rfl (fun hG85 => have hP86 : ¬ ((stale.getD x80 0) < (0 : Int)) := nP (bT_dec) hG85; VJ_P (P_move rfl)) <| RJ_mbF rfl rfl rfl (fun hG87 => have hP88 : ¬ ((stale.getD x80 0) < (0 : Int)) := nP (bT_dec) hG87; VJ_P (P_move rfl)) <| RJ_mbF rfl rfl rfl (fun hG89 => have hP90 : ¬ ((stale.getD x80 0) < (0 : Int)) := nP (bT_dec) hG89; V_index (i := x80) (mbx hG89 rfl) (mbx hG89 rfl) rfl (by omega) foc5 rstale Tryz.runUnderlying35 Tryz.sizeOf3) <| RJ_mbF rfl rfl rfl (fun hG91 => have hP92 : ¬ ((stale.getD x80 0) < (0 : Int)) := nP (bT_dec) hG91; V_loadE (mbx hG91 rfl) rfl (by omega) foc5 rstale rfl rfl Tryz.isAgg3) <| RJ_mbF rfl rfl rfl (fun hG93 => have hP94 : ¬ ((stale.getD x80 0) < (0 : Int)) := nP (bT_dec) hG93; VJ_P (P_move rfl)) <| RJ_mbF rfl rfl rfl (fun hG95 => have hP96 : ¬ ((stale.getD x80 0) < (0 : Int)) := nP (bT_dec) hG95; V_len (mbx hG95 rfl) foc3 (Reads.sl _ _ _) Tryz.runUnderlying35) <| RJ_mbF rfl rfl rfl (fun hG97 => have hP98 : ¬ ((stale.getD x80 0) < (0 : Int)) := nP (bT_dec) hG97; VJ_P (P_geq (a := (stale.getD x80 0)) (b := ((a18.1.length : Nat) : Int)) (mbx hG97 rfl) (mbx hG97 rfl))) ?_
             refine oP (P_pickOr rfl rfl (fun hh => mbx (not_f hh) rfl)) rfl <| nT <| CJ_condP rfl (bT_or bT_dec bT_dec) (fun hg15 => ?_) (fun hg15 => ?_)
             ·
              replace h := ite_t hg15 h
              exact CJ_region <| oA rfl rfl <| RJ_nil <| QJ_block_normal <| QJ_then <| CJ_region <| oM rfl rfl <| oP (PJ_eq (P_add (a := ((x80 : Nat) : Int)) (b := (1 : Int)) rfl rfl (by omega)) rfl) rfl <| oA rfl rfl <| RJ_nil <| nR ⟨n, 1, (x80 + 1)⟩ h ⟨rfl, rfl, True.intro⟩ eR
             ·
              replace h := ite_f hg15 h
              refine CJ_seq <| AJ_startH 0 (by kernel_rfl) rfl <| aN 0 1 rfl rfl (P_move rfl) rfl <| aN 1 3 rfl rfl (P_move rfl) rfl <| aV 2 7 rfl rfl (GY_none rfl) eR (V_index (i := x80) rfl rfl rfl (by omega) foc5 rstale Tryz.runUnderlying35 Tryz.sizeOf3) rfl <| aV 3 15 rfl rfl (GY_none rfl) eR (V_loadE rfl rfl (by omega) foc5 rstale rfl rfl Tryz.isAgg3) rfl <| aN 4 31 rfl rfl (P_move rfl) rfl <| aV 5 63 rfl rfl (GY_none rfl) eR (V_index (i := 0) rfl rfl rfl (by omega) foc5 rstale Tryz.runUnderlying35 Tryz.sizeOf3) rfl <| aV 6 127 rfl rfl (GY_none rfl) eR (V_loadE rfl rfl (by omega) foc5 rstale rfl rfl Tryz.isAgg3) rfl <| aN 7 255 rfl rfl (P_neq (a := (stale.getD x80 0)) (b := (stale.getD 0 0)) rfl rfl) rfl <| aD <| CJ_condP rfl bT_dec (fun hg16 => ?_) (fun hg16 => ?_)
              ·
               replace h := ite_t hg16 h
               exact CJ_region <| oA rfl rfl <| RJ_nil <| QJ_block_normal <| QJ_then <| CJ_region <| oM rfl rfl <| oP (PJ_eq (P_add (a := ((x80 : Nat) : Int)) (b := (1 : Int)) rfl rfl (by omega)) rfl) rfl <| oA rfl rfl <| RJ_nil <| nR ⟨n, 19, (x80 + 1)⟩ h ⟨rfl, rfl, True.intro⟩ eR
              ·
               replace h := ite_f hg16 h
               exact CJ_skip <| QJ_block_normal <| QJ_then <| CJ_region <| oM rfl rfl <| oP (PJ_eq (P_add (a := ((x80 : Nat) : Int)) (b := (1 : Int)) rfl rfl (by omega)) rfl) rfl <| oA rfl rfl <| RJ_nil <| nR ⟨n, x79, (x80 + 1)⟩ h ⟨rfl, rfl, True.intro⟩ eR
            ·
             replace h := ite_f hg14 h
             exact CJ_exit <| QJ_then_exit <| QJ_round_exit <| QJ_block_here <| cR x79 (Option.some.inj h).symm ⟨rfl, True.intro⟩ eR
          ·
           rintro a78 hy99
           replace h := bindK_at hK75 hy99
           show CJ _ _ _ _ _ (([(15, .int .i64 (((a78 : Nat) : Int)))] : Slots) ++ forget _ _) (_)
           refine sR <| oA rfl rfl <| nT ?_
           obtain ⟨y102, hl100, hK101⟩ := bind_c h
           refine CJ_cutQ (X := Nat) [15, 17, 133, 134, 135, 136, 137, 138, 139, 140, 141, 142, 143, 144, 145, 146, 147, 148, 149, 150, 151, 152] (fun a104 => ([(15, .int .i64 (((a104 : Nat) : Int)))] : Slots)) (fun a104 R => R) (fun a104 => y102 = a104) Dels.nil ?_ ?_
           ·
            refine CJ_block <| CJ_loopR (X := Nat × Nat × Nat) [15, 17, 133, 134, 135, 136, 137, 138, 139, 140, 141, 142, 143, 144, 145, 146, 147, 148, 149, 150, 151, 152] (fun ⟨n, x105, x106⟩ => ([(15, .int .i64 (((x105 : Nat) : Int))), (17, .int .i64 (((x106 : Nat) : Int)))] : Slots)) (fun ⟨n, x105, x106⟩ R => R) (fun ⟨n, x105, x106⟩ => volumegrouplaw19_ParityvolErrors_l6 stale a18 n x105 x106 = some y102) (fun ⟨n, x105, x106⟩ => n) ⟨FUEL, a78, 0⟩ ?_ ?_ eR ?_
            · exact hl100
            · exact ⟨rfl, rfl, True.intro⟩
            ·
             rintro ⟨n, x105, x106⟩ h
             cases n with
             | zero => exact none_e h
             | succ n => ?_
             replace h : volumegrouplaw19_ParityvolErrors_l6_b stale a18 (volumegrouplaw19_ParityvolErrors_l6 stale a18 n) x105 x106 = some y102 := h
             unfold volumegrouplaw19_ParityvolErrors_l6_b at h
             show CJ _ _ _ _ _ (([(15, .int .i64 (((x105 : Nat) : Int))), (17, .int .i64 (((x106 : Nat) : Int)))] : Slots) ++ forget _ _) (_)
             refine CJ_seq <| sR <| oM rfl rfl <| oM rfl rfl <| oV (V_len rfl foc5 rstale Tryz.runUnderlying35) rfl <| oP (P_lss (a := ((x106 : Nat) : Int)) (b := ((stale.length : Nat) : Int)) rfl rfl) rfl <| nT <| CJ_condP rfl bT_dec (fun hg17 => ?_) (fun hg17 => ?_)
             ·
              replace h := ite_t hg17 h
              refine kT <| CJ_seq <| CJ_block <| sR <| oM rfl rfl <| oM rfl rfl <| oV (V_index (i := x106) rfl rfl rfl (by omega) foc5 rstale Tryz.runUnderlying35 Tryz.sizeOf3) rfl <| oV (V_loadE rfl rfl (by omega) foc5 rstale rfl rfl Tryz.isAgg3) rfl <| oP (P_lss (a := (stale.getD x106 0)) (b := (0 : Int)) rfl rfl) rfl <| oM rfl rfl <| RJ_mbF rfl rfl rfl (fun hG107 => have hP108 : ¬ ((stale.getD x106 0) < (0 : Int)) := nP (bT_dec) hG107; VJ_P (P_move rfl)) <| RJ_mbF rfl rfl rfl (fun hG109 => have hP110 : ¬ ((stale.getD x106 0) < (0 : Int)) := nP (bT_dec) hG109; VJ_P (P_move rfl)) <| RJ_mbF rfl rfl rfl (fun hG111 => have hP112 : ¬ ((stale.getD x106 0) < (0 : Int)) := nP (bT_dec) hG111; V_index (i := x106) (mbx hG111 rfl) (mbx hG111 rfl) rfl (by omega) foc5 rstale Tryz.runUnderlying35 Tryz.sizeOf3) <| RJ_mbF rfl rfl rfl (fun hG113 => have hP114 : ¬ ((stale.getD x106 0) < (0 : Int)) := nP (bT_dec) hG113; V_loadE (mbx hG113 rfl) rfl (by omega) foc5 rstale rfl rfl Tryz.isAgg3) <| RJ_mbF rfl rfl rfl (fun hG115 => have hP116 : ¬ ((stale.getD x106 0) < (0 : Int)) := nP (bT_dec) hG115; VJ_P (P_move rfl)) <| RJ_mbF rfl rfl rfl (fun hG117 => have hP118 : ¬ ((stale.getD x106 0) < (0 : Int)) := nP (bT_dec) hG117; V_len (mbx hG117 rfl) foc3 (Reads.sl _ _ _) Tryz.runUnderlying35) <| RJ_mbF rfl rfl rfl (fun hG119 => have hP120 : ¬ ((stale.getD x106 0) < (0 : Int)) := nP (bT_dec) hG119; VJ_P (P_geq (a := (stale.getD x106 0)) (b := ((a18.1.length : Nat) : Int)) (mbx hG119 rfl) (mbx hG119 rfl))) ?_
              refine oP (P_pickOr rfl rfl (fun hh => mbx (not_f hh) rfl)) rfl <| nT <| CJ_condP rfl (bT_or bT_dec bT_dec) (fun hg18 => ?_) (fun hg18 => ?_)
              ·
               replace h := ite_t hg18 h
               exact CJ_region <| oA rfl rfl <| RJ_nil <| QJ_block_normal <| QJ_then <| CJ_region <| oM rfl rfl <| oP (PJ_eq (P_add (a := ((x106 : Nat) : Int)) (b := (1 : Int)) rfl rfl (by omega)) rfl) rfl <| oA rfl rfl <| RJ_nil <| nR ⟨n, 1, (x106 + 1)⟩ h ⟨rfl, rfl, True.intro⟩ eR
              ·
               replace h := ite_f hg18 h
               exact CJ_skip <| QJ_block_normal <| QJ_then <| CJ_region <| oM rfl rfl <| oP (PJ_eq (P_add (a := ((x106 : Nat) : Int)) (b := (1 : Int)) rfl rfl (by omega)) rfl) rfl <| oA rfl rfl <| RJ_nil <| nR ⟨n, x105, (x106 + 1)⟩ h ⟨rfl, rfl, True.intro⟩ eR
             ·
              replace h := ite_f hg17 h
              exact CJ_exit <| QJ_then_exit <| QJ_round_exit <| QJ_block_here <| cR x105 (Option.some.inj h).symm ⟨rfl, True.intro⟩ eR
           ·
            rintro a104 hy121
            replace h := bindK_at hK101 hy121
            show QJ _ _ _ _ (([(15, .int .i64 (((a104 : Nat) : Int)))] : Slots) ++ forget _ _) (_)
            exact cR a104 (Option.some.inj h).symm ⟨rfl, True.intro⟩ eR
         ·
          replace h := ite_f hg13 h
          exact CJ_skip <| cR a65 (Option.some.inj h).symm ⟨rfl, True.intro⟩ eR
        ·
         rintro a73 hy122
         replace h := bindK_at hK70 hy122
         show CJ _ _ _ _ _ (([(15, .int .i64 (((a73 : Nat) : Int)))] : Slots) ++ forget _ _) (_)
         refine sR <| oM rfl rfl <| oM rfl rfl <| oM rfl rfl ?_
         obtain ⟨r123, hr124, h⟩ := bind_e h
         refine oO <| O_call (L_parityvol_Open (Reads.sl _ _ _) rstale hr124) rfl Tryz.call26 (Dels.cons del0 (Dels.cons del0 (Dels.cons del3 (Dels.cons del0 Dels.nil)))) rfl fun X125 _ => oM rfl rfl <| oP (P_extract rfl rfl) rfl <| oP (P_extract rfl rfl) rfl <| oA rfl rfl <| oA rfl rfl <| RJ_nil <| QJ_ent (t2_ (t2_ (t2_ (t2_ (t2_ (eD (eD eR))))))) <| QJ_then <| CJ_seq <| sR <| oM rfl rfl <| oM rfl rfl <| oP (P_neq (a := r123.2.1) (b := ((a73 : Nat) : Int)) rfl rfl) rfl <| oM rfl rfl <| RJ_mbF rfl rfl rfl (fun hG127 => have hP128 : ¬ (r123.2.1 ≠ ((a73 : Nat) : Int)) := nP (bT_dec) hG127; VJ_P (P_move rfl)) <| RJ_splitP 163 rfl bT_dec (fun hg19B hg19 => ?_) (fun hg19B hg19 => ?_)
         ·
          replace h := ite_t hg19 h
          refine RJ_gn (GY_no rfl rfl rfl hg19B) rfl rfl <| RJ_gn (GY_no rfl rfl rfl hg19B) rfl rfl <| RJ_gn (GY_no rfl rfl rfl hg19B) rfl rfl <| RJ_gn (GY_no rfl rfl rfl hg19B) rfl rfl <| oP (P_pickT rfl hg19B rfl) rfl <| nT <| CJ_condT rfl rfl <| sR <| oA rfl rfl <| nT <| CJ_ret <| QJ_then_ret ?_
          cases h
          exact fE (res1 Tryz.results7 rfl) () (t4_ (t0_ (eD (eD (eD eR)))))
         ·
          replace h := ite_f hg19 h
          rcases opt_e h with ⟨ht131, h⟩ | ⟨o132, ht131, h⟩
          ·
           rw [ht131]
           refine RJ_ent (t0_ (t0_ (t1_ (t1_ (eD eR))))) <| gP (GY_yes rfl rfl rfl hg19B) (P_eqlNN (mbx (not_f hg19B) rfl) rfl Tryz.underlying65) rfl <| gP (GY_yes rfl rfl rfl hg19B) (P_move rfl) rfl <| gP (GY_yes rfl rfl rfl hg19B) (P_neq (a := r123.2.1) (b := (0 : Int)) rfl rfl) rfl <| gP (GY_yes rfl rfl rfl hg19B) (P_neqB rfl rfl Tryz.underlying4) rfl <| oP (P_pickF rfl hg19B rfl) rfl <| nT <| CJ_condP rfl (bT_not (bT_beq Iff.rfl bT_dec)) (fun hg20 => ?_) (fun hg20 => ?_)
           ·
            replace h := ite_t hg20 h
            refine sR <| oA rfl rfl <| nT <| CJ_ret <| QJ_then_ret ?_
            cases h
            exact fE (res1 Tryz.results7 rfl) () (t3_ (t0_ (eD (eD eR))))
           ·
            replace h := ite_f hg20 h
            refine kT <| CJ_seq <| sR <| oM rfl rfl <| oP (P_neq (a := r123.2.1) (b := (0 : Int)) rfl rfl) rfl <| nT <| CJ_condP rfl bT_dec (fun hg21 => ?_) (fun hg21 => ?_)
            ·
             replace h := ite_t hg21 h
             refine sR ?_
             obtain ⟨r133, hr134, h⟩ := bind_e h
             refine oO <| O_call (L_volumegrouplaw19_awake hr134) rfl Tryz.call11 Dels.nil rfl fun _ _ => oA rfl rfl <| nT <| CJ_ret <| QJ_then_ret ?_
             cases h
             exact fE (res1 Tryz.results7 rfl) () (t3_ (t0_ (eD (eD eR))))
            ·
             replace h := ite_f hg21 h
             refine kT <| sR <| oM rfl rfl <| oM rfl rfl ?_
             obtain ⟨hg22, h⟩ := grd_Ie h
             refine oP (P_sub (a := a18.2) (b := (16 : Int)) rfl rfl hg22) rfl <| oM rfl rfl ?_
             obtain ⟨hg23, h⟩ := grd_Ie h
             refine oP (P_sub (a := a18.2) (b := (16 : Int)) rfl rfl hg23) rfl <| oM rfl rfl ?_
             obtain ⟨hg24, h⟩ := grd_Ie h
             refine oP (P_sub (a := a18.2) (b := (16 : Int)) rfl rfl hg24) rfl <| oO <| O_buildSlice rfl (bs_35_3_0_1_2 _ _ _) rfl fun b135 => RJ_ent (Ent.trans (t0_ eR) (sl_of_lit (t := tyI) (m := 3) [(a18.2 - (16 : Int)), (a18.2 - (16 : Int)), (a18.2 - (16 : Int))] rfl rfl rfl (by decide))) ?_
             obtain ⟨r136, hr137, h⟩ := bind_e h
             refine oO <| O_call (L_volumegroupref18_Size (Reads.sl _ _ _) hr137) rfl Tryz.call27 (Dels.cons del0 Dels.nil) rfl fun _ _ => oM rfl rfl <| oP (P_extract rfl rfl) rfl <| oP (P_extract rfl rfl) rfl <| oA rfl rfl <| oA rfl rfl <| nT <| sR <| oM rfl rfl <| oP (P_quoT (a := r136.1) (b := (2 : Int)) rfl rfl (by decide)) rfl <| oM rfl rfl <| oV (V_len rfl foc3 (Reads.sl _ _ _) Tryz.runUnderlying35) rfl <| oP (P_sub (a := ((a18.1.length : Nat) : Int)) (b := (1 : Int)) rfl rfl (by omega)) rfl ?_
             obtain ⟨hg25, h⟩ := grd_Ie h
             refine oP (P_mul (a := (IntKind.i64.wrap (r136.1.tdiv (2 : Int)))) (b := (((a18.1.length : Nat) : Int) - (1 : Int))) rfl rfl hg25) rfl ?_
             obtain ⟨w138, hw138, h⟩ := lt_e h
             rw [← hw138]
             refine oA rfl rfl <| nT <| sR <| oM rfl rfl <| oM rfl rfl ?_
             obtain ⟨r139, hr140, h⟩ := bind_e h
             refine oO <| O_call (L_parityvol_Volume_Read_2 hr140) rfl Tryz.call28 Dels.nil rfl fun _ _ => oM rfl rfl <| oP (P_extract rfl rfl) rfl <| oP (P_extract rfl rfl) rfl <| oA rfl rfl <| oA rfl rfl <| nT <| sR <| oM rfl rfl ?_
             obtain ⟨r141, hr142, h⟩ := bind_e h
             refine oO <| O_call (L_parityvol_Volume_Fill_2 hr142) rfl Tryz.call29 Dels.nil rfl fun _ _ => oM rfl rfl <| oP (P_extract rfl rfl) rfl <| oP (P_extract rfl rfl) rfl <| oA rfl rfl <| oA rfl rfl <| nT <| sR <| oM rfl rfl ?_
             obtain ⟨r143, hr144, h⟩ := bind_e h
             exact oO <| O_call (L_parityvol_Volume_Scrub_2 hr144) rfl Tryz.call30 Dels.nil rfl fun X145 _ => oM rfl rfl <| oP (P_extract (v := X145.v) rfl rfl) rfl <| oP (P_extract rfl rfl) rfl <| oA rfl rfl <| oA rfl rfl <| nT <| sR <| oM rfl rfl <| oP (P_lss (a := n_3) (b := (0 : Int)) rfl rfl) rfl <| oM rfl rfl <| RJ_mbF rfl rfl rfl (fun hG147 => have hP148 : ¬ (n_3 < (0 : Int)) := nP (bT_dec) hG147; VJ_P (P_move rfl)) <| RJ_mbF rfl rfl rfl (fun hG149 => have hP150 : ¬ (n_3 < (0 : Int)) := nP (bT_dec) hG149; VJ_P (P_move rfl)) <| RJ_mbF rfl rfl rfl (fun hG151 => have hP152 : ¬ (n_3 < (0 : Int)) := nP (bT_dec) hG151; VJ_P (P_geq (a := n_3) (b := w138) (mbx hG151 rfl) (mbx hG151 rfl))) <| oP (P_pickOr rfl rfl (fun hh => mbx (not_f hh) rfl)) rfl <| oA rfl rfl <| nT <| CJ_seq <| sR <| oM rfl rfl <| none_e h
          ·
           rw [ht131]
           refine RJ_ent (Ent.takeC (A' := VolP X37 X125 o132) del2 rfl eR) <| gP (GY_yes rfl rfl rfl hg19B) (P_eqlPN (mbx (not_f hg19B) rfl) rfl Tryz.underlying65) rfl <| gP (GY_yes rfl rfl rfl hg19B) (P_move rfl) rfl <| gP (GY_yes rfl rfl rfl hg19B) (P_neq (a := r123.2.1) (b := (0 : Int)) rfl rfl) rfl <| gP (GY_yes rfl rfl rfl hg19B) (P_neqB rfl rfl Tryz.underlying4) rfl <| oP (P_pickF rfl hg19B rfl) rfl <| nT <| CJ_condP rfl (bT_not (bT_beq Iff.rfl bT_dec)) (fun hg26 => ?_) (fun hg26 => ?_)
           ·
            replace h := ite_t hg26 h
            refine sR <| oA rfl rfl <| nT <| CJ_ret <| QJ_then_ret ?_
            cases h
            exact fE (res1 Tryz.results7 rfl) () (t4_ (t1_ (eD (eD (eD eR)))))
           ·
            replace h := ite_f hg26 h
            refine kT <| CJ_seq <| sR <| oM rfl rfl <| oP (P_neq (a := r123.2.1) (b := (0 : Int)) rfl rfl) rfl <| nT <| CJ_condP rfl bT_dec (fun hg27 => ?_) (fun hg27 => ?_)
            ·
             replace h := ite_t hg27 h
             refine sR ?_
             obtain ⟨r153, hr154, h⟩ := bind_e h
             refine oO <| O_call (L_volumegrouplaw19_awake hr154) rfl Tryz.call11 Dels.nil rfl fun _ _ => oA rfl rfl <| nT <| CJ_ret <| QJ_then_ret ?_
             cases h
             exact fE (res1 Tryz.results7 rfl) () (t4_ (t1_ (eD (eD (eD eR)))))
            ·
             replace h := ite_f hg27 h
             refine kT <| sR <| oM rfl rfl <| oM rfl rfl ?_
             obtain ⟨hg28, h⟩ := grd_Ie h
             refine oP (P_sub (a := a18.2) (b := (16 : Int)) rfl rfl hg28) rfl <| oM rfl rfl ?_
             obtain ⟨hg29, h⟩ := grd_Ie h
             refine oP (P_sub (a := a18.2) (b := (16 : Int)) rfl rfl hg29) rfl <| oM rfl rfl ?_
             obtain ⟨hg30, h⟩ := grd_Ie h
             refine oP (P_sub (a := a18.2) (b := (16 : Int)) rfl rfl hg30) rfl <| oO <| O_buildSlice rfl (bs_35_3_0_1_2 _ _ _) rfl fun b155 => RJ_ent (Ent.trans (t0_ eR) (sl_of_lit (t := tyI) (m := 3) [(a18.2 - (16 : Int)), (a18.2 - (16 : Int)), (a18.2 - (16 : Int))] rfl rfl rfl (by decide))) ?_
             obtain ⟨r156, hr157, h⟩ := bind_e h
             refine oO <| O_call (L_volumegroupref18_Size (Reads.sl _ _ _) hr157) rfl Tryz.call27 (Dels.cons del0 Dels.nil) rfl fun _ _ => oM rfl rfl <| oP (P_extract rfl rfl) rfl <| oP (P_extract rfl rfl) rfl <| oA rfl rfl <| oA rfl rfl <| nT <| sR <| oM rfl rfl <| oP (P_quoT (a := r156.1) (b := (2 : Int)) rfl rfl (by decide)) rfl <| oM rfl rfl <| oV (V_len rfl foc4 (Reads.sl _ _ _) Tryz.runUnderlying35) rfl <| oP (P_sub (a := ((a18.1.length : Nat) : Int)) (b := (1 : Int)) rfl rfl (by omega)) rfl ?_
             obtain ⟨hg31, h⟩ := grd_Ie h
             refine oP (P_mul (a := (IntKind.i64.wrap (r156.1.tdiv (2 : Int)))) (b := (((a18.1.length : Nat) : Int) - (1 : Int))) rfl rfl hg31) rfl ?_
             obtain ⟨w158, hw158, h⟩ := lt_e h
             rw [← hw158]
             refine oA rfl rfl <| nT <| sR <| oM rfl rfl <| oM rfl rfl ?_
             obtain ⟨r159, hr160, h⟩ := bind_e h
             refine oO <| O_call (L_parityvol_Volume_Read hr160) rfl Tryz.call28 (Dels.cons del1 (Dels.cons del2 Dels.nil)) rfl fun _ _ => oM rfl rfl <| oP (P_extract rfl rfl) rfl <| oP (P_extract rfl rfl) rfl <| oA rfl rfl <| oA rfl rfl <| nT <| sR <| oM rfl rfl ?_
             obtain ⟨r161, hr162, h⟩ := bind_e h
             refine oO <| O_call (L_parityvol_Volume_Fill hr162) rfl Tryz.call29 (Dels.cons del0 (Dels.cons del0 Dels.nil)) rfl fun _ _ => oM rfl rfl <| oP (P_extract rfl rfl) rfl <| oP (P_extract rfl rfl) rfl <| oA rfl rfl <| oA rfl rfl <| nT <| sR <| oM rfl rfl ?_
             obtain ⟨r163, hr164, h⟩ := bind_e h
             refine oO <| O_call (L_parityvol_Volume_Scrub hr164) rfl Tryz.call30 (Dels.cons del0 (Dels.cons del0 Dels.nil)) rfl fun X165 _ => oM rfl rfl <| oP (P_extract (v := X165.v) rfl rfl) rfl <| oP (P_extract rfl rfl) rfl <| oA rfl rfl <| oA rfl rfl <| RJ_nil <| QJ_ent (t0_ (t0_ (t2_ (t2_ (t2_ (eD (eD eR))))))) <| QJ_then <| sR <| oM rfl rfl <| oP (P_lss (a := n_3) (b := (0 : Int)) rfl rfl) rfl <| oM rfl rfl <| RJ_mbF rfl rfl rfl (fun hG167 => have hP168 : ¬ (n_3 < (0 : Int)) := nP (bT_dec) hG167; VJ_P (P_move rfl)) <| RJ_mbF rfl rfl rfl (fun hG169 => have hP170 : ¬ (n_3 < (0 : Int)) := nP (bT_dec) hG169; VJ_P (P_move rfl)) <| RJ_mbF rfl rfl rfl (fun hG171 => have hP172 : ¬ (n_3 < (0 : Int)) := nP (bT_dec) hG171; VJ_P (P_geq (a := n_3) (b := w158) (mbx hG171 rfl) (mbx hG171 rfl))) <| oP (P_pickOr rfl rfl (fun hh => mbx (not_f hh) rfl)) rfl <| oA rfl rfl <| nT <| CJ_seq <| sR <| oM rfl rfl ?_
             obtain ⟨r173, hr174, h⟩ := bind_e h
             refine oO <| O_call (L_parityvol_Volume_Size hr174) rfl Tryz.call31 (Dels.cons del0 (Dels.cons del0 Dels.nil)) rfl fun _ _ => oM rfl rfl <| oP (P_neq (a := r173) (b := w158) rfl rfl) rfl <| oM rfl rfl <| RJ_mbF rfl rfl rfl (fun hG175 => have hP176 : ¬ (r173 ≠ w158) := nP (bT_dec) hG175; VJ_P (P_move rfl)) <| RJ_mbF rfl rfl rfl (fun hG177 => have hP178 : ¬ (r173 ≠ w158) := nP (bT_dec) hG177; VJ_P (P_move rfl)) <| RJ_mbF rfl rfl rfl (fun hG179 => have hP180 : ¬ (r173 ≠ w158) := nP (bT_dec) hG179; VJ_P (P_eql (a := r159.2.1) (b := (1 : Int)) (mbx hG179 rfl) rfl)) <| RJ_mbF rfl rfl rfl (fun hG181 => have hP182 : ¬ (r173 ≠ w158) := nP (bT_dec) hG181; VJ_P (P_neqB (mbx hG181 rfl) (mbx hG181 rfl) Tryz.underlying4)) <| oP (P_pickOr rfl rfl (fun hh => mbx (not_f hh) rfl)) rfl <| oM rfl rfl <| RJ_splitP 224 rfl (bT_or bT_dec (bT_not (bT_beq (bT_or bT_dec bT_dec) bT_dec))) (fun hg32B hg32 => ?_) (fun hg32B hg32 => ?_)
             ·
              replace h := ite_t hg32 h
              refine RJ_gn (GY_no rfl rfl rfl hg32B) rfl rfl <| RJ_gn (GY_no rfl rfl rfl hg32B) rfl rfl <| RJ_gn (GY_undef rfl rfl rfl) rfl rfl <| RJ_gn (GY_undef rfl rfl rfl) rfl rfl <| RJ_gn (GY_undef rfl rfl rfl) rfl rfl <| RJ_gn (GY_undef rfl rfl rfl) rfl rfl <| RJ_gn (GY_no rfl rfl rfl hg32B) rfl rfl <| oP (P_pickT rfl hg32B rfl) rfl <| oM rfl rfl <| RJ_gn (GY_no rfl rfl rfl rfl) rfl rfl <| RJ_gn (GY_no rfl rfl rfl rfl) rfl rfl <| RJ_gn (GY_no rfl rfl rfl rfl) rfl rfl <| oP (P_pickT rfl rfl rfl) rfl <| oM rfl rfl <| RJ_gn (GY_no rfl rfl rfl rfl) rfl rfl <| RJ_gn (GY_no rfl rfl rfl rfl) rfl rfl <| RJ_gn (GY_no rfl rfl rfl rfl) rfl rfl <| RJ_gn (GY_no rfl rfl rfl rfl) rfl rfl <| RJ_gn (GY_no rfl rfl rfl rfl) rfl rfl <| oP (P_pickT rfl rfl rfl) rfl <| oM rfl rfl <| RJ_gn (GY_no rfl rfl rfl rfl) rfl rfl <| RJ_gn (GY_no rfl rfl rfl rfl) rfl rfl <| RJ_gn (GY_no rfl rfl rfl rfl) rfl rfl <| RJ_gn (GY_no rfl rfl rfl rfl) rfl rfl <| oP (P_pickT rfl rfl rfl) rfl <| nT <| CJ_condT rfl rfl <| sR <| oA rfl rfl <| nT <| CJ_ret <| QJ_then_ret ?_
              cases h
              exact fE (res1 Tryz.results7 rfl) () (t4_ (t2_ (eD (eD (eD eR)))))
             ·
              replace h := ite_f hg32 h
              refine gP (GY_yes rfl rfl rfl hg32B) (P_move rfl) rfl <| gP (GY_yes rfl rfl rfl hg32B) (P_move rfl) rfl <| RJ_splitP 226 rfl (bT_or bT_dec bT_dec) (fun hg33B hg33 => ?_) (fun hg33B hg33 => ?_)
              ·
               replace h := ite_t hg33 h
               refine gP (GY_yes rfl rfl rfl hg33B) (P_move rfl) rfl <| gP (GY_yes rfl rfl rfl hg33B) (P_move rfl) rfl ?_
               obtain ⟨r183, hr184, h⟩ := bind_e h
               refine RJ_gy (GY_yes rfl rfl rfl hg33B) <| O_call (L_parityvol_Volume_Write hr184) rfl Tryz.call32 (Dels.cons del0 (Dels.cons del0 Dels.nil)) rfl fun _ _ => gP (GY_yes rfl rfl rfl hg33B) (P_neq (a := r183.1) (b := (1 : Int)) rfl rfl) rfl <| gP (GY_yes rfl rfl rfl hg32B) (P_pickT rfl hg33B rfl) rfl <| oP (P_pickF rfl hg32B rfl) rfl <| oM rfl rfl <| RJ_splitP 233 rfl bT_dec (fun hg34B hg34 => ?_) (fun hg34B hg34 => ?_)
               ·
                replace h := ite_t hg34 h
                refine RJ_gn (GY_no rfl rfl rfl hg34B) rfl rfl <| RJ_gn (GY_no rfl rfl rfl hg34B) rfl rfl <| RJ_gn (GY_no rfl rfl rfl hg34B) rfl rfl <| oP (P_pickT rfl hg34B rfl) rfl <| oM rfl rfl <| RJ_gn (GY_no rfl rfl rfl rfl) rfl rfl <| RJ_gn (GY_no rfl rfl rfl rfl) rfl rfl <| RJ_gn (GY_no rfl rfl rfl rfl) rfl rfl <| RJ_gn (GY_no rfl rfl rfl rfl) rfl rfl <| RJ_gn (GY_no rfl rfl rfl rfl) rfl rfl <| oP (P_pickT rfl rfl rfl) rfl <| oM rfl rfl <| RJ_gn (GY_no rfl rfl rfl rfl) rfl rfl <| RJ_gn (GY_no rfl rfl rfl rfl) rfl rfl <| RJ_gn (GY_no rfl rfl rfl rfl) rfl rfl <| RJ_gn (GY_no rfl rfl rfl rfl) rfl rfl <| oP (P_pickT rfl rfl rfl) rfl <| nT <| CJ_condT rfl rfl <| sR <| oA rfl rfl <| nT <| CJ_ret <| QJ_then_ret ?_
                cases h
                exact fE (res1 Tryz.results7 rfl) () (t4_ (t2_ (eD (eD (eD eR)))))
               ·
                replace h := ite_f hg34 h
                refine gP (GY_yes rfl rfl rfl hg34B) (P_move rfl) rfl ?_
                obtain ⟨r185, hr186, h⟩ := bind_e h
                refine RJ_gy (GY_yes rfl rfl rfl hg34B) <| O_call (L_parityvol_Volume_Drop hr186) rfl Tryz.call33 (Dels.cons del0 (Dels.cons del0 Dels.nil)) rfl fun _ _ => gP (GY_yes rfl rfl rfl hg34B) (P_neq (a := r185.1) (b := (1 : Int)) rfl rfl) rfl <| oP (P_pickF rfl hg34B rfl) rfl <| oM rfl rfl <| RJ_splitP 238 rfl bT_dec (fun hg35B hg35 => ?_) (fun hg35B hg35 => ?_)
                ·
                 replace h := ite_t hg35 h
                 refine RJ_gn (GY_no rfl rfl rfl hg35B) rfl rfl <| RJ_gn (GY_no rfl rfl rfl hg35B) rfl rfl <| RJ_gn (GY_no rfl rfl rfl hg35B) rfl rfl <| RJ_gn (GY_no rfl rfl rfl hg35B) rfl rfl <| RJ_gn (GY_no rfl rfl rfl hg35B) rfl rfl <| oP (P_pickT rfl hg35B rfl) rfl <| oM rfl rfl <| RJ_gn (GY_no rfl rfl rfl rfl) rfl rfl <| RJ_gn (GY_no rfl rfl rfl rfl) rfl rfl <| RJ_gn (GY_no rfl rfl rfl rfl) rfl rfl <| RJ_gn (GY_no rfl rfl rfl rfl) rfl rfl <| oP (P_pickT rfl rfl rfl) rfl <| nT <| CJ_condT rfl rfl <| sR <| oA rfl rfl <| nT <| CJ_ret <| QJ_then_ret ?_
                 cases h
                 exact fE (res1 Tryz.results7 rfl) () (t4_ (t2_ (eD (eD (eD eR)))))
                ·
                 replace h := ite_f hg35 h
                 refine gP (GY_yes rfl rfl rfl hg35B) (P_move rfl) rfl <| gP (GY_yes rfl rfl rfl hg35B) (P_move rfl) rfl <| gV (GY_yes rfl rfl rfl hg35B) (V_len rfl foc3 (Reads.sl _ _ _) Tryz.runUnderlying35) rfl ?_
                 obtain ⟨r187, hr188, h⟩ := bind_e h
                 refine RJ_gy (GY_yes rfl rfl rfl hg35B) <| O_call (L_parityvol_Volume_Drop hr188) rfl Tryz.call33 (Dels.cons del0 (Dels.cons del0 Dels.nil)) rfl fun _ _ => gP (GY_yes rfl rfl rfl hg35B) (P_neq (a := r187.1) (b := (1 : Int)) rfl rfl) rfl <| oP (P_pickF rfl hg35B rfl) rfl <| oM rfl rfl <| RJ_splitP 245 rfl bT_dec (fun hg36B hg36 => ?_) (fun hg36B hg36 => ?_)
                 ·
                  replace h := ite_t hg36 h
                  refine RJ_gn (GY_no rfl rfl rfl hg36B) rfl rfl <| RJ_gn (GY_no rfl rfl rfl hg36B) rfl rfl <| RJ_gn (GY_no rfl rfl rfl hg36B) rfl rfl <| RJ_gn (GY_no rfl rfl rfl hg36B) rfl rfl <| oP (P_pickT rfl hg36B rfl) rfl <| nT <| CJ_condT rfl rfl <| sR <| oA rfl rfl <| nT <| CJ_ret <| QJ_then_ret ?_
                  cases h
                  exact fE (res1 Tryz.results7 rfl) () (t4_ (t2_ (eD (eD (eD eR)))))
                 ·
                  replace h := ite_f hg36 h
                  refine gP (GY_yes rfl rfl rfl hg36B) (P_move rfl) rfl ?_
                  obtain ⟨r189, hr190, h⟩ := bind_e h
                  refine RJ_gy (GY_yes rfl rfl rfl hg36B) <| O_call (L_parityvol_Volume_Failed hr190) rfl Tryz.call34 (Dels.cons del0 (Dels.cons del0 Dels.nil)) rfl fun X191 _ => gV (GY_yes rfl rfl rfl hg36B) (V_len rfl foc2 (Reads.sl _ _ _) Tryz.runUnderlying35) rfl <| gP (GY_yes rfl rfl rfl hg36B) (P_neq (a := ((r189.length : Nat) : Int)) (b := (0 : Int)) rfl rfl) rfl <| oP (P_pickF rfl hg36B rfl) rfl <| nT <| CJ_condP rfl bT_dec (fun hg37 => ?_) (fun hg37 => ?_)
                  ·
                   replace h := ite_t hg37 h
                   refine sR <| oA rfl rfl <| nT <| CJ_ret <| QJ_then_ret ?_
                   cases h
                   exact fE (res1 Tryz.results7 rfl) () (t5_ (t3_ (eD (eD (eD (eD eR))))))
                  ·
                   replace h := ite_f hg37 h
                   refine kT <| CJ_seq <| sR <| oM rfl rfl <| oV (V_len rfl foc3 rstale Tryz.runUnderlying35) rfl <| oP (P_eql (a := ((stale.length : Nat) : Int)) (b := (0 : Int)) rfl rfl) rfl <| nT <| CJ_condP rfl bT_dec (fun hg38 => ?_) (fun hg38 => ?_)
                   ·
                    replace h := ite_t hg38 h
                    refine sR <| oM rfl rfl <| oP (P_eql (a := r161.2.1) (b := (1 : Int)) rfl rfl) rfl <| oM rfl rfl <| RJ_mbT rfl rfl rfl (fun hG193 => have hP194 : (r161.2.1 = (1 : Int)) := (bT_dec).1 hG193; VJ_P (P_move rfl)) <| RJ_mbT rfl rfl rfl (fun hG195 => have hP196 : (r161.2.1 = (1 : Int)) := (bT_dec).1 hG195; VJ_P (P_eql (a := r163.2.1) (b := (1 : Int)) (mbx hG195 rfl) rfl)) <| oP (P_pickAnd rfl (fun hh => mbx hh rfl) rfl) rfl <| oM rfl rfl <| RJ_splitP 260 rfl (bT_and bT_dec bT_dec) (fun hg39B hg39 => ?_) (fun hg39B hg39 => ?_)
                    ·
                     replace h := ite_t hg39 h
                     refine gP (GY_yes rfl rfl rfl hg39B) (P_move rfl) rfl ?_
                     obtain ⟨r197, hr198, h⟩ := bind_e h
                     refine RJ_gy (GY_yes rfl rfl rfl hg39B) <| O_call (L_parityvol_Volume_Accept hr198) rfl Tryz.call35 (Dels.cons del0 (Dels.cons del0 Dels.nil)) rfl fun _ _ => gP (GY_yes rfl rfl rfl hg39B) (P_eql (a := r197.1) (b := (20 : Int)) rfl rfl) rfl <| oP (P_pickT rfl hg39B rfl) rfl <| oM rfl rfl <| RJ_splitP 265 rfl bT_dec (fun hg40B hg40 => ?_) (fun hg40B hg40 => ?_)
                     ·
                      replace h := ite_t hg40 h
                      refine gP (GY_yes rfl rfl rfl hg40B) (P_move rfl) rfl ?_
                      obtain ⟨r199, hr200, h⟩ := bind_e h
                      refine RJ_gy (GY_yes rfl rfl rfl hg40B) <| O_call (L_parityvol_Volume_Filled hr200) rfl Tryz.call36 (Dels.cons del0 (Dels.cons del0 Dels.nil)) rfl fun _ _ => gP (GY_yes rfl rfl rfl hg40B) (P_not rfl) rfl <| oP (P_pickT rfl hg40B rfl) rfl <| oM rfl rfl <| RJ_splitP 270 rfl (bT_not Iff.rfl) (fun hg41B hg41 => ?_) (fun hg41B hg41 => ?_)
                      ·
                       replace h := ite_t hg41 h
                       refine gP (GY_yes rfl rfl rfl hg41B) (P_move rfl) rfl ?_
                       obtain ⟨r201, hr202, h⟩ := bind_e h
                       refine RJ_gy (GY_yes rfl rfl rfl hg41B) <| O_call (L_parityvol_Volume_Drop hr202) rfl Tryz.call33 (Dels.cons del0 (Dels.cons del0 Dels.nil)) rfl fun _ _ => gP (GY_yes rfl rfl rfl hg41B) (P_eql (a := r201.1) (b := (0 : Int)) rfl rfl) rfl <| oP (P_pickT rfl hg41B rfl) rfl <| oM rfl rfl <| RJ_splitP 275 rfl bT_dec (fun hg42B hg42 => ?_) (fun hg42B hg42 => ?_)
                       ·
                        replace h := ite_t hg42 h
                        refine gP (GY_yes rfl rfl rfl hg42B) (P_move rfl) rfl ?_
                        obtain ⟨r203, hr204, h⟩ := bind_e h
                        refine RJ_gy (GY_yes rfl rfl rfl hg42B) <| O_call (L_parityvol_Volume_Drop hr204) rfl Tryz.call33 (Dels.cons del0 (Dels.cons del0 Dels.nil)) rfl fun _ _ => gP (GY_yes rfl rfl rfl hg42B) (P_eql (a := r203.1) (b := (19 : Int)) rfl rfl) rfl <| oP (P_pickT rfl hg42B rfl) rfl <| oM rfl rfl <| RJ_splitP 280 rfl bT_dec (fun hg43B hg43 => ?_) (fun hg43B hg43 => ?_)
                        ·
                         replace h := ite_t hg43 h
                         refine gP (GY_yes rfl rfl rfl hg43B) (P_move rfl) rfl ?_
                         obtain ⟨r205, hr206, h⟩ := bind_e h
                         refine RJ_gy (GY_yes rfl rfl rfl hg43B) <| O_call (L_parityvol_Volume_Drop hr206) rfl Tryz.call33 (Dels.cons del0 (Dels.cons del0 Dels.nil)) rfl fun _ _ => gP (GY_yes rfl rfl rfl hg43B) (P_eql (a := r205.1) (b := (0 : Int)) rfl rfl) rfl <| oP (P_pickT rfl hg43B rfl) rfl <| oM rfl rfl <| RJ_splitP 285 rfl bT_dec (fun hg44B hg44 => ?_) (fun hg44B hg44 => ?_)
                         ·
                          replace h := ite_t hg44 h
                          obtain ⟨r207, hr208, h⟩ := bind_e h
                          refine RJ_gy (GY_yes rfl rfl rfl hg44B) <| O_call (L_volumegrouplaw19_awake hr208) rfl Tryz.call11 Dels.nil rfl fun _ _ => oP (P_pickT rfl hg44B rfl) rfl <| oA rfl rfl <| nT <| CJ_ret <| QJ_then_ret ?_
                          cases h
                          exact fE (res1 Tryz.results7 rfl) () (t5_ (t3_ (eD (eD (eD (eD eR))))))
                         ·
                          replace h := ite_f hg44 h
                          refine RJ_gn (GY_no rfl rfl rfl hg44B) rfl rfl <| oP (P_pickF rfl hg44B rfl) rfl <| oA rfl rfl <| nT <| CJ_ret <| QJ_then_ret ?_
                          cases h
                          exact fE (res1 Tryz.results7 rfl) () (t5_ (t3_ (eD (eD (eD (eD eR))))))
                        ·
                         replace h := ite_f hg43 h
                         refine RJ_gn (GY_no rfl rfl rfl hg43B) rfl rfl <| RJ_gn (GY_no rfl rfl rfl hg43B) rfl rfl <| RJ_gn (GY_no rfl rfl rfl hg43B) rfl rfl <| oP (P_pickF rfl hg43B rfl) rfl <| oM rfl rfl <| RJ_gn (GY_no rfl rfl rfl rfl) rfl rfl <| oP (P_pickF rfl rfl rfl) rfl <| oA rfl rfl <| nT <| CJ_ret <| QJ_then_ret ?_
                         cases h
                         exact fE (res1 Tryz.results7 rfl) () (t5_ (t3_ (eD (eD (eD (eD eR))))))
                       ·
                        replace h := ite_f hg42 h
                        refine RJ_gn (GY_no rfl rfl rfl hg42B) rfl rfl <| RJ_gn (GY_no rfl rfl rfl hg42B) rfl rfl <| RJ_gn (GY_no rfl rfl rfl hg42B) rfl rfl <| oP (P_pickF rfl hg42B rfl) rfl <| oM rfl rfl <| RJ_gn (GY_no rfl rfl rfl rfl) rfl rfl <| RJ_gn (GY_no rfl rfl rfl rfl) rfl rfl <| RJ_gn (GY_no rfl rfl rfl rfl) rfl rfl <| oP (P_pickF rfl rfl rfl) rfl <| oM rfl rfl <| RJ_gn (GY_no rfl rfl rfl rfl) rfl rfl <| oP (P_pickF rfl rfl rfl) rfl <| oA rfl rfl <| nT <| CJ_ret <| QJ_then_ret ?_
                        cases h
                        exact fE (res1 Tryz.results7 rfl) () (t5_ (t3_ (eD (eD (eD (eD eR))))))
                      ·
                       replace h := ite_f hg41 h
                       refine RJ_gn (GY_no rfl rfl rfl hg41B) rfl rfl <| RJ_gn (GY_no rfl rfl rfl hg41B) rfl rfl <| RJ_gn (GY_no rfl rfl rfl hg41B) rfl rfl <| oP (P_pickF rfl hg41B rfl) rfl <| oM rfl rfl <| RJ_gn (GY_no rfl rfl rfl rfl) rfl rfl <| RJ_gn (GY_no rfl rfl rfl rfl) rfl rfl <| RJ_gn (GY_no rfl rfl rfl rfl) rfl rfl <| oP (P_pickF rfl rfl rfl) rfl <| oM rfl rfl <| RJ_gn (GY_no rfl rfl rfl rfl) rfl rfl <| RJ_gn (GY_no rfl rfl rfl rfl) rfl rfl <| RJ_gn (GY_no rfl rfl rfl rfl) rfl rfl <| oP (P_pickF rfl rfl rfl) rfl <| oM rfl rfl <| RJ_gn (GY_no rfl rfl rfl rfl) rfl rfl <| oP (P_pickF rfl rfl rfl) rfl <| oA rfl rfl <| nT <| CJ_ret <| QJ_then_ret ?_
                       cases h
                       exact fE (res1 Tryz.results7 rfl) () (t5_ (t3_ (eD (eD (eD (eD eR))))))
                     ·
                      replace h := ite_f hg40 h
                      refine RJ_gn (GY_no rfl rfl rfl hg40B) rfl rfl <| RJ_gn (GY_no rfl rfl rfl hg40B) rfl rfl <| RJ_gn (GY_no rfl rfl rfl hg40B) rfl rfl <| oP (P_pickF rfl hg40B rfl) rfl <| oM rfl rfl <| RJ_gn (GY_no rfl rfl rfl rfl) rfl rfl <| RJ_gn (GY_no rfl rfl rfl rfl) rfl rfl <| RJ_gn (GY_no rfl rfl rfl rfl) rfl rfl <| oP (P_pickF rfl rfl rfl) rfl <| oM rfl rfl <| RJ_gn (GY_no rfl rfl rfl rfl) rfl rfl <| RJ_gn (GY_no rfl rfl rfl rfl) rfl rfl <| RJ_gn (GY_no rfl rfl rfl rfl) rfl rfl <| oP (P_pickF rfl rfl rfl) rfl <| oM rfl rfl <| RJ_gn (GY_no rfl rfl rfl rfl) rfl rfl <| RJ_gn (GY_no rfl rfl rfl rfl) rfl rfl <| RJ_gn (GY_no rfl rfl rfl rfl) rfl rfl <| oP (P_pickF rfl rfl rfl) rfl <| oM rfl rfl <| RJ_gn (GY_no rfl rfl rfl rfl) rfl rfl <| oP (P_pickF rfl rfl rfl) rfl <| oA rfl rfl <| nT <| CJ_ret <| QJ_then_ret ?_
                      cases h
                      exact fE (res1 Tryz.results7 rfl) () (t5_ (t3_ (eD (eD (eD (eD eR))))))
                    ·
                     replace h := ite_f hg39 h
                     refine RJ_gn (GY_no rfl rfl rfl hg39B) rfl rfl <| RJ_gn (GY_no rfl rfl rfl hg39B) rfl rfl <| RJ_gn (GY_no rfl rfl rfl hg39B) rfl rfl <| oP (P_pickF rfl hg39B rfl) rfl <| oM rfl rfl <| RJ_gn (GY_no rfl rfl rfl rfl) rfl rfl <| RJ_gn (GY_no rfl rfl rfl rfl) rfl rfl <| RJ_gn (GY_no rfl rfl rfl rfl) rfl rfl <| oP (P_pickF rfl rfl rfl) rfl <| oM rfl rfl <| RJ_gn (GY_no rfl rfl rfl rfl) rfl rfl <| RJ_gn (GY_no rfl rfl rfl rfl) rfl rfl <| RJ_gn (GY_no rfl rfl rfl rfl) rfl rfl <| oP (P_pickF rfl rfl rfl) rfl <| oM rfl rfl <| RJ_gn (GY_no rfl rfl rfl rfl) rfl rfl <| RJ_gn (GY_no rfl rfl rfl rfl) rfl rfl <| RJ_gn (GY_no rfl rfl rfl rfl) rfl rfl <| oP (P_pickF rfl rfl rfl) rfl <| oM rfl rfl <| RJ_gn (GY_no rfl rfl rfl rfl) rfl rfl <| RJ_gn (GY_no rfl rfl rfl rfl) rfl rfl <| RJ_gn (GY_no rfl rfl rfl rfl) rfl rfl <| oP (P_pickF rfl rfl rfl) rfl <| oM rfl rfl <| RJ_gn (GY_no rfl rfl rfl rfl) rfl rfl <| oP (P_pickF rfl rfl rfl) rfl <| oA rfl rfl <| nT <| CJ_ret <| QJ_then_ret ?_
                     cases h
                     exact fE (res1 Tryz.results7 rfl) () (t5_ (t3_ (eD (eD (eD (eD eR))))))
                   ·
                    replace h := ite_f hg38 h
                    refine kT <| sR <| oM rfl rfl <| oP (P_eql (a := r161.2.1) (b := (1 : Int)) rfl rfl) rfl <| oM rfl rfl <| RJ_mbT rfl rfl rfl (fun hG209 => have hP210 : (r161.2.1 = (1 : Int)) := (bT_dec).1 hG209; VJ_P (P_move rfl)) <| RJ_mbT rfl rfl rfl (fun hG211 => have hP212 : (r161.2.1 = (1 : Int)) := (bT_dec).1 hG211; VJ_P (P_eql (a := r163.2.1) (b := (1 : Int)) (mbx hG211 rfl) rfl)) <| oP (P_pickAnd rfl (fun hh => mbx hh rfl) rfl) rfl <| oM rfl rfl <| RJ_splitP 294 rfl (bT_and bT_dec bT_dec) (fun hg45B hg45 => ?_) (fun hg45B hg45 => ?_)
                    ·
                     replace h := ite_t hg45 h
                     refine gP (GY_yes rfl rfl rfl hg45B) (P_move rfl) rfl <| gP (GY_yes rfl rfl rfl hg45B) (P_move rfl) rfl <| gV (GY_yes rfl rfl rfl hg45B) (V_index (i := 0) rfl rfl rfl (by omega) foc3 rstale Tryz.runUnderlying35 Tryz.sizeOf3) rfl <| gV (GY_yes rfl rfl rfl hg45B) (V_loadE rfl rfl (by omega) foc3 rstale rfl rfl Tryz.isAgg3) rfl ?_
                     obtain ⟨hg46, h⟩ := grd_Ie h
                     refine gP (GY_yes rfl rfl rfl hg45B) (P_add (a := (stale.getD 0 0)) (b := (1 : Int)) rfl rfl hg46) rfl <| gP (GY_yes rfl rfl rfl hg45B) (P_move rfl) rfl <| gV (GY_yes rfl rfl rfl hg45B) (V_len rfl foc4 (Reads.sl _ _ _) Tryz.runUnderlying35) rfl ?_
                     obtain ⟨hg47, h⟩ := grd_de h
                     refine gP (GY_yes rfl rfl rfl hg45B) (P_remT (a := ((stale.getD 0 0) + (1 : Int))) (b := ((a18.1.length : Nat) : Int)) rfl rfl hg47) rfl ?_
                     obtain ⟨r213, hr214, h⟩ := bind_e h
                     refine RJ_gy (GY_yes rfl rfl rfl hg45B) <| O_call (L_parityvol_Volume_Drop hr214) rfl Tryz.call33 (Dels.cons del0 (Dels.cons del0 Dels.nil)) rfl fun _ _ => gP (GY_yes rfl rfl rfl hg45B) (P_eql (a := r213.1) (b := (19 : Int)) rfl rfl) rfl <| oP (P_pickT rfl hg45B rfl) rfl <| oM rfl rfl <| RJ_splitP 306 rfl bT_dec (fun hg48B hg48 => ?_) (fun hg48B hg48 => ?_)
                     ·
                      replace h := ite_t hg48 h
                      refine gP (GY_yes rfl rfl rfl hg48B) (P_move rfl) rfl <| gP (GY_yes rfl rfl rfl hg48B) (P_makeIface rfl Tryz.runUnderlying65 (by intro ms h; cases h)) rfl <| gP (GY_yes rfl rfl rfl hg48B) (P_neqIfN rfl rfl Tryz.underlying79) rfl <| oP (P_pickT rfl hg48B rfl) rfl <| oM rfl rfl ?_
                      obtain ⟨r215, hr216, h⟩ := bind_e h
                      refine RJ_gy (GY_yes rfl rfl rfl rfl) <| O_call (L_volumegrouplaw19_awake hr216) rfl Tryz.call11 Dels.nil rfl fun _ _ => oP (P_pickT rfl rfl rfl) rfl <| oA rfl rfl <| nT <| CJ_ret ?_
                      cases h
                      exact fE (res1 Tryz.results7 rfl) () (t5_ (t3_ (eD (eD (eD (eD eR))))))
                     ·
                      replace h := ite_f hg48 h
                      refine RJ_gn (GY_no rfl rfl rfl hg48B) rfl rfl <| RJ_gn (GY_no rfl rfl rfl hg48B) rfl rfl <| RJ_gn (GY_no rfl rfl rfl hg48B) rfl rfl <| oP (P_pickF rfl hg48B rfl) rfl <| oM rfl rfl <| RJ_gn (GY_no rfl rfl rfl rfl) rfl rfl <| oP (P_pickF rfl rfl rfl) rfl <| oA rfl rfl <| nT <| CJ_ret ?_
                      cases h
                      exact fE (res1 Tryz.results7 rfl) () (t5_ (t3_ (eD (eD (eD (eD eR))))))
                    ·
                     replace h := ite_f hg45 h
                     refine RJ_gn (GY_no rfl rfl rfl hg45B) rfl rfl <| RJ_gn (GY_no rfl rfl rfl hg45B) rfl rfl <| RJ_gn (GY_no rfl rfl rfl hg45B) rfl rfl <| RJ_gn (GY_no rfl rfl rfl hg45B) rfl rfl <| RJ_gn (GY_no rfl rfl rfl hg45B) rfl rfl <| RJ_gn (GY_no rfl rfl rfl hg45B) rfl rfl <| RJ_gn (GY_no rfl rfl rfl hg45B) rfl rfl <| RJ_gn (GY_no rfl rfl rfl hg45B) rfl rfl <| RJ_gn (GY_no rfl rfl rfl hg45B) rfl rfl <| RJ_gn (GY_no rfl rfl rfl hg45B) rfl rfl <| oP (P_pickF rfl hg45B rfl) rfl <| oM rfl rfl <| RJ_gn (GY_no rfl rfl rfl rfl) rfl rfl <| RJ_gn (GY_no rfl rfl rfl rfl) rfl rfl <| RJ_gn (GY_no rfl rfl rfl rfl) rfl rfl <| oP (P_pickF rfl rfl rfl) rfl <| oM rfl rfl <| RJ_gn (GY_no rfl rfl rfl rfl) rfl rfl <| oP (P_pickF rfl rfl rfl) rfl <| oA rfl rfl <| nT <| CJ_ret ?_
                     cases h
                     exact fE (res1 Tryz.results7 rfl) () (t5_ (t3_ (eD (eD (eD (eD eR))))))
              ·
               replace h := ite_f hg33 h
               refine RJ_gn (GY_no rfl rfl rfl hg33B) rfl rfl <| RJ_gn (GY_no rfl rfl rfl hg33B) rfl rfl <| RJ_gn (GY_no rfl rfl rfl hg33B) rfl rfl <| RJ_gn (GY_no rfl rfl rfl hg33B) rfl rfl <| gP (GY_yes rfl rfl rfl hg32B) (P_pickF rfl hg33B rfl) rfl <| oP (P_pickF rfl hg32B rfl) rfl <| oM rfl rfl <| gP (GY_yes rfl rfl rfl rfl) (P_move rfl) rfl ?_
               obtain ⟨r217, hr218, h⟩ := bind_e h
               refine RJ_gy (GY_yes rfl rfl rfl rfl) <| O_call (L_parityvol_Volume_Drop hr218) rfl Tryz.call33 (Dels.cons del0 (Dels.cons del0 Dels.nil)) rfl fun _ _ => gP (GY_yes rfl rfl rfl rfl) (P_neq (a := r217.1) (b := (1 : Int)) rfl rfl) rfl <| oP (P_pickF rfl rfl rfl) rfl <| oM rfl rfl <| RJ_splitP 238 rfl bT_dec (fun hg49B hg49 => ?_) (fun hg49B hg49 => ?_)
               ·
                replace h := ite_t hg49 h
                refine RJ_gn (GY_no rfl rfl rfl hg49B) rfl rfl <| RJ_gn (GY_no rfl rfl rfl hg49B) rfl rfl <| RJ_gn (GY_no rfl rfl rfl hg49B) rfl rfl <| RJ_gn (GY_no rfl rfl rfl hg49B) rfl rfl <| RJ_gn (GY_no rfl rfl rfl hg49B) rfl rfl <| oP (P_pickT rfl hg49B rfl) rfl <| oM rfl rfl <| RJ_gn (GY_no rfl rfl rfl rfl) rfl rfl <| RJ_gn (GY_no rfl rfl rfl rfl) rfl rfl <| RJ_gn (GY_no rfl rfl rfl rfl) rfl rfl <| RJ_gn (GY_no rfl rfl rfl rfl) rfl rfl <| oP (P_pickT rfl rfl rfl) rfl <| nT <| CJ_condT rfl rfl <| sR <| oA rfl rfl <| nT <| CJ_ret <| QJ_then_ret ?_
                cases h
                exact fE (res1 Tryz.results7 rfl) () (t4_ (t2_ (eD (eD (eD eR)))))
               ·
                replace h := ite_f hg49 h
                refine gP (GY_yes rfl rfl rfl hg49B) (P_move rfl) rfl <| gP (GY_yes rfl rfl rfl hg49B) (P_move rfl) rfl <| gV (GY_yes rfl rfl rfl hg49B) (V_len rfl foc3 (Reads.sl _ _ _) Tryz.runUnderlying35) rfl ?_
                obtain ⟨r219, hr220, h⟩ := bind_e h
                refine RJ_gy (GY_yes rfl rfl rfl hg49B) <| O_call (L_parityvol_Volume_Drop hr220) rfl Tryz.call33 (Dels.cons del0 (Dels.cons del0 Dels.nil)) rfl fun _ _ => gP (GY_yes rfl rfl rfl hg49B) (P_neq (a := r219.1) (b := (1 : Int)) rfl rfl) rfl <| oP (P_pickF rfl hg49B rfl) rfl <| oM rfl rfl <| RJ_splitP 245 rfl bT_dec (fun hg50B hg50 => ?_) (fun hg50B hg50 => ?_)
                ·
                 replace h := ite_t hg50 h
                 refine RJ_gn (GY_no rfl rfl rfl hg50B) rfl rfl <| RJ_gn (GY_no rfl rfl rfl hg50B) rfl rfl <| RJ_gn (GY_no rfl rfl rfl hg50B) rfl rfl <| RJ_gn (GY_no rfl rfl rfl hg50B) rfl rfl <| oP (P_pickT rfl hg50B rfl) rfl <| nT <| CJ_condT rfl rfl <| sR <| oA rfl rfl <| nT <| CJ_ret <| QJ_then_ret ?_
                 cases h
                 exact fE (res1 Tryz.results7 rfl) () (t4_ (t2_ (eD (eD (eD eR)))))
                ·
                 replace h := ite_f hg50 h
                 refine gP (GY_yes rfl rfl rfl hg50B) (P_move rfl) rfl ?_
                 obtain ⟨r221, hr222, h⟩ := bind_e h
                 refine RJ_gy (GY_yes rfl rfl rfl hg50B) <| O_call (L_parityvol_Volume_Failed hr222) rfl Tryz.call34 (Dels.cons del0 (Dels.cons del0 Dels.nil)) rfl fun X223 _ => gV (GY_yes rfl rfl rfl hg50B) (V_len rfl foc2 (Reads.sl _ _ _) Tryz.runUnderlying35) rfl <| gP (GY_yes rfl rfl rfl hg50B) (P_neq (a := ((r221.length : Nat) : Int)) (b := (0 : Int)) rfl rfl) rfl <| oP (P_pickF rfl hg50B rfl) rfl <| nT <| CJ_condP rfl bT_dec (fun hg51 => ?_) (fun hg51 => ?_)
                 ·
                  replace h := ite_t hg51 h
                  refine sR <| oA rfl rfl <| nT <| CJ_ret <| QJ_then_ret ?_
                  cases h
                  exact fE (res1 Tryz.results7 rfl) () (t5_ (t3_ (eD (eD (eD (eD eR))))))
                 ·
                  replace h := ite_f hg51 h
                  refine kT <| CJ_seq <| sR <| oM rfl rfl <| oV (V_len rfl foc3 rstale Tryz.runUnderlying35) rfl <| oP (P_eql (a := ((stale.length : Nat) : Int)) (b := (0 : Int)) rfl rfl) rfl <| nT <| CJ_condP rfl bT_dec (fun hg52 => ?_) (fun hg52 => ?_)
                  ·
                   replace h := ite_t hg52 h
                   refine sR <| oM rfl rfl <| oP (P_eql (a := r161.2.1) (b := (1 : Int)) rfl rfl) rfl <| oM rfl rfl <| RJ_mbT rfl rfl rfl (fun hG225 => have hP226 : (r161.2.1 = (1 : Int)) := (bT_dec).1 hG225; VJ_P (P_move rfl)) <| RJ_mbT rfl rfl rfl (fun hG227 => have hP228 : (r161.2.1 = (1 : Int)) := (bT_dec).1 hG227; VJ_P (P_eql (a := r163.2.1) (b := (1 : Int)) (mbx hG227 rfl) rfl)) <| oP (P_pickAnd rfl (fun hh => mbx hh rfl) rfl) rfl <| oM rfl rfl <| RJ_splitP 260 rfl (bT_and bT_dec bT_dec) (fun hg53B hg53 => ?_) (fun hg53B hg53 => ?_)
                   ·
                    replace h := ite_t hg53 h
                    refine gP (GY_yes rfl rfl rfl hg53B) (P_move rfl) rfl ?_
                    obtain ⟨r229, hr230, h⟩ := bind_e h
                    refine RJ_gy (GY_yes rfl rfl rfl hg53B) <| O_call (L_parityvol_Volume_Accept hr230) rfl Tryz.call35 (Dels.cons del0 (Dels.cons del0 Dels.nil)) rfl fun _ _ => gP (GY_yes rfl rfl rfl hg53B) (P_eql (a := r229.1) (b := (20 : Int)) rfl rfl) rfl <| oP (P_pickT rfl hg53B rfl) rfl <| oM rfl rfl <| RJ_splitP 265 rfl bT_dec (fun hg54B hg54 => ?_) (fun hg54B hg54 => ?_)
                    ·
                     replace h := ite_t hg54 h
                     refine gP (GY_yes rfl rfl rfl hg54B) (P_move rfl) rfl ?_
                     obtain ⟨r231, hr232, h⟩ := bind_e h
                     refine RJ_gy (GY_yes rfl rfl rfl hg54B) <| O_call (L_parityvol_Volume_Filled hr232) rfl Tryz.call36 (Dels.cons del0 (Dels.cons del0 Dels.nil)) rfl fun _ _ => gP (GY_yes rfl rfl rfl hg54B) (P_not rfl) rfl <| oP (P_pickT rfl hg54B rfl) rfl <| oM rfl rfl <| RJ_splitP 270 rfl (bT_not Iff.rfl) (fun hg55B hg55 => ?_) (fun hg55B hg55 => ?_)
                     ·
                      replace h := ite_t hg55 h
                      refine gP (GY_yes rfl rfl rfl hg55B) (P_move rfl) rfl ?_
                      obtain ⟨r233, hr234, h⟩ := bind_e h
                      refine RJ_gy (GY_yes rfl rfl rfl hg55B) <| O_call (L_parityvol_Volume_Drop hr234) rfl Tryz.call33 (Dels.cons del0 (Dels.cons del0 Dels.nil)) rfl fun _ _ => gP (GY_yes rfl rfl rfl hg55B) (P_eql (a := r233.1) (b := (0 : Int)) rfl rfl) rfl <| oP (P_pickT rfl hg55B rfl) rfl <| oM rfl rfl <| RJ_splitP 275 rfl bT_dec (fun hg56B hg56 => ?_) (fun hg56B hg56 => ?_)
                      ·
                       replace h := ite_t hg56 h
                       refine gP (GY_yes rfl rfl rfl hg56B) (P_move rfl) rfl ?_
                       obtain ⟨r235, hr236, h⟩ := bind_e h
                       refine RJ_gy (GY_yes rfl rfl rfl hg56B) <| O_call (L_parityvol_Volume_Drop hr236) rfl Tryz.call33 (Dels.cons del0 (Dels.cons del0 Dels.nil)) rfl fun _ _ => gP (GY_yes rfl rfl rfl hg56B) (P_eql (a := r235.1) (b := (19 : Int)) rfl rfl) rfl <| oP (P_pickT rfl hg56B rfl) rfl <| oM rfl rfl <| RJ_splitP 280 rfl bT_dec (fun hg57B hg57 => ?_) (fun hg57B hg57 => ?_)
                       ·
                        replace h := ite_t hg57 h
                        refine gP (GY_yes rfl rfl rfl hg57B) (P_move rfl) rfl ?_
                        obtain ⟨r237, hr238, h⟩ := bind_e h
                        refine RJ_gy (GY_yes rfl rfl rfl hg57B) <| O_call (L_parityvol_Volume_Drop hr238) rfl Tryz.call33 (Dels.cons del0 (Dels.cons del0 Dels.nil)) rfl fun _ _ => gP (GY_yes rfl rfl rfl hg57B) (P_eql (a := r237.1) (b := (0 : Int)) rfl rfl) rfl <| oP (P_pickT rfl hg57B rfl) rfl <| oM rfl rfl <| RJ_splitP 285 rfl bT_dec (fun hg58B hg58 => ?_) (fun hg58B hg58 => ?_)
                        ·
                         replace h := ite_t hg58 h
                         obtain ⟨r239, hr240, h⟩ := bind_e h
                         refine RJ_gy (GY_yes rfl rfl rfl hg58B) <| O_call (L_volumegrouplaw19_awake hr240) rfl Tryz.call11 Dels.nil rfl fun _ _ => oP (P_pickT rfl hg58B rfl) rfl <| oA rfl rfl <| nT <| CJ_ret <| QJ_then_ret ?_
                         cases h
                         exact fE (res1 Tryz.results7 rfl) () (t5_ (t3_ (eD (eD (eD (eD eR))))))
                        ·
                         replace h := ite_f hg58 h
                         refine RJ_gn (GY_no rfl rfl rfl hg58B) rfl rfl <| oP (P_pickF rfl hg58B rfl) rfl <| oA rfl rfl <| nT <| CJ_ret <| QJ_then_ret ?_
                         cases h
                         exact fE (res1 Tryz.results7 rfl) () (t5_ (t3_ (eD (eD (eD (eD eR))))))
                       ·
                        replace h := ite_f hg57 h
                        refine RJ_gn (GY_no rfl rfl rfl hg57B) rfl rfl <| RJ_gn (GY_no rfl rfl rfl hg57B) rfl rfl <| RJ_gn (GY_no rfl rfl rfl hg57B) rfl rfl <| oP (P_pickF rfl hg57B rfl) rfl <| oM rfl rfl <| RJ_gn (GY_no rfl rfl rfl rfl) rfl rfl <| oP (P_pickF rfl rfl rfl) rfl <| oA rfl rfl <| nT <| CJ_ret <| QJ_then_ret ?_
                        cases h
                        exact fE (res1 Tryz.results7 rfl) () (t5_ (t3_ (eD (eD (eD (eD eR))))))
                      ·
                       replace h := ite_f hg56 h
                       refine RJ_gn (GY_no rfl rfl rfl hg56B) rfl rfl <| RJ_gn (GY_no rfl rfl rfl hg56B) rfl rfl <| RJ_gn (GY_no rfl rfl rfl hg56B) rfl rfl <| oP (P_pickF rfl hg56B rfl) rfl <| oM rfl rfl <| RJ_gn (GY_no rfl rfl rfl rfl) rfl rfl <| RJ_gn (GY_no rfl rfl rfl rfl) rfl rfl <| RJ_gn (GY_no rfl rfl rfl rfl) rfl rfl <| oP (P_pickF rfl rfl rfl) rfl <| oM rfl rfl <| RJ_gn (GY_no rfl rfl rfl rfl) rfl rfl <| oP (P_pickF rfl rfl rfl) rfl <| oA rfl rfl <| nT <| CJ_ret <| QJ_then_ret ?_
                       cases h
                       exact fE (res1 Tryz.results7 rfl) () (t5_ (t3_ (eD (eD (eD (eD eR))))))
                     ·
                      replace h := ite_f hg55 h
                      refine RJ_gn (GY_no rfl rfl rfl hg55B) rfl rfl <| RJ_gn (GY_no rfl rfl rfl hg55B) rfl rfl <| RJ_gn (GY_no rfl rfl rfl hg55B) rfl rfl <| oP (P_pickF rfl hg55B rfl) rfl <| oM rfl rfl <| RJ_gn (GY_no rfl rfl rfl rfl) rfl rfl <| RJ_gn (GY_no rfl rfl rfl rfl) rfl rfl <| RJ_gn (GY_no rfl rfl rfl rfl) rfl rfl <| oP (P_pickF rfl rfl rfl) rfl <| oM rfl rfl <| RJ_gn (GY_no rfl rfl rfl rfl) rfl rfl <| RJ_gn (GY_no rfl rfl rfl rfl) rfl rfl <| RJ_gn (GY_no rfl rfl rfl rfl) rfl rfl <| oP (P_pickF rfl rfl rfl) rfl <| oM rfl rfl <| RJ_gn (GY_no rfl rfl rfl rfl) rfl rfl <| oP (P_pickF rfl rfl rfl) rfl <| oA rfl rfl <| nT <| CJ_ret <| QJ_then_ret ?_
                      cases h
                      exact fE (res1 Tryz.results7 rfl) () (t5_ (t3_ (eD (eD (eD (eD eR))))))
                    ·
                     replace h := ite_f hg54 h
                     refine RJ_gn (GY_no rfl rfl rfl hg54B) rfl rfl <| RJ_gn (GY_no rfl rfl rfl hg54B) rfl rfl <| RJ_gn (GY_no rfl rfl rfl hg54B) rfl rfl <| oP (P_pickF rfl hg54B rfl) rfl <| oM rfl rfl <| RJ_gn (GY_no rfl rfl rfl rfl) rfl rfl <| RJ_gn (GY_no rfl rfl rfl rfl) rfl rfl <| RJ_gn (GY_no rfl rfl rfl rfl) rfl rfl <| oP (P_pickF rfl rfl rfl) rfl <| oM rfl rfl <| RJ_gn (GY_no rfl rfl rfl rfl) rfl rfl <| RJ_gn (GY_no rfl rfl rfl rfl) rfl rfl <| RJ_gn (GY_no rfl rfl rfl rfl) rfl rfl <| oP (P_pickF rfl rfl rfl) rfl <| oM rfl rfl <| RJ_gn (GY_no rfl rfl rfl rfl) rfl rfl <| RJ_gn (GY_no rfl rfl rfl rfl) rfl rfl <| RJ_gn (GY_no rfl rfl rfl rfl) rfl rfl <| oP (P_pickF rfl rfl rfl) rfl <| oM rfl rfl <| RJ_gn (GY_no rfl rfl rfl rfl) rfl rfl <| oP (P_pickF rfl rfl rfl) rfl <| oA rfl rfl <| nT <| CJ_ret <| QJ_then_ret ?_
                     cases h
                     exact fE (res1 Tryz.results7 rfl) () (t5_ (t3_ (eD (eD (eD (eD eR))))))
                   ·
                    replace h := ite_f hg53 h
                    refine RJ_gn (GY_no rfl rfl rfl hg53B) rfl rfl <| RJ_gn (GY_no rfl rfl rfl hg53B) rfl rfl <| RJ_gn (GY_no rfl rfl rfl hg53B) rfl rfl <| oP (P_pickF rfl hg53B rfl) rfl <| oM rfl rfl <| RJ_gn (GY_no rfl rfl rfl rfl) rfl rfl <| RJ_gn (GY_no rfl rfl rfl rfl) rfl rfl <| RJ_gn (GY_no rfl rfl rfl rfl) rfl rfl <| oP (P_pickF rfl rfl rfl) rfl <| oM rfl rfl <| RJ_gn (GY_no rfl rfl rfl rfl) rfl rfl <| RJ_gn (GY_no rfl rfl rfl rfl) rfl rfl <| RJ_gn (GY_no rfl rfl rfl rfl) rfl rfl <| oP (P_pickF rfl rfl rfl) rfl <| oM rfl rfl <| RJ_gn (GY_no rfl rfl rfl rfl) rfl rfl <| RJ_gn (GY_no rfl rfl rfl rfl) rfl rfl <| RJ_gn (GY_no rfl rfl rfl rfl) rfl rfl <| oP (P_pickF rfl rfl rfl) rfl <| oM rfl rfl <| RJ_gn (GY_no rfl rfl rfl rfl) rfl rfl <| RJ_gn (GY_no rfl rfl rfl rfl) rfl rfl <| RJ_gn (GY_no rfl rfl rfl rfl) rfl rfl <| oP (P_pickF rfl rfl rfl) rfl <| oM rfl rfl <| RJ_gn (GY_no rfl rfl rfl rfl) rfl rfl <| oP (P_pickF rfl rfl rfl) rfl <| oA rfl rfl <| nT <| CJ_ret <| QJ_then_ret ?_
                    cases h
                    exact fE (res1 Tryz.results7 rfl) () (t5_ (t3_ (eD (eD (eD (eD eR))))))
                  ·
                   replace h := ite_f hg52 h
                   refine kT <| sR <| oM rfl rfl <| oP (P_eql (a := r161.2.1) (b := (1 : Int)) rfl rfl) rfl <| oM rfl rfl <| RJ_mbT rfl rfl rfl (fun hG241 => have hP242 : (r161.2.1 = (1 : Int)) := (bT_dec).1 hG241; VJ_P (P_move rfl)) <| RJ_mbT rfl rfl rfl (fun hG243 => have hP244 : (r161.2.1 = (1 : Int)) := (bT_dec).1 hG243; VJ_P (P_eql (a := r163.2.1) (b := (1 : Int)) (mbx hG243 rfl) rfl)) <| oP (P_pickAnd rfl (fun hh => mbx hh rfl) rfl) rfl <| oM rfl rfl <| RJ_splitP 294 rfl (bT_and bT_dec bT_dec) (fun hg59B hg59 => ?_) (fun hg59B hg59 => ?_)
                   ·
                    replace h := ite_t hg59 h
                    refine gP (GY_yes rfl rfl rfl hg59B) (P_move rfl) rfl <| gP (GY_yes rfl rfl rfl hg59B) (P_move rfl) rfl <| gV (GY_yes rfl rfl rfl hg59B) (V_index (i := 0) rfl rfl rfl (by omega) foc3 rstale Tryz.runUnderlying35 Tryz.sizeOf3) rfl <| gV (GY_yes rfl rfl rfl hg59B) (V_loadE rfl rfl (by omega) foc3 rstale rfl rfl Tryz.isAgg3) rfl ?_
                    obtain ⟨hg60, h⟩ := grd_Ie h
                    refine gP (GY_yes rfl rfl rfl hg59B) (P_add (a := (stale.getD 0 0)) (b := (1 : Int)) rfl rfl hg60) rfl <| gP (GY_yes rfl rfl rfl hg59B) (P_move rfl) rfl <| gV (GY_yes rfl rfl rfl hg59B) (V_len rfl foc4 (Reads.sl _ _ _) Tryz.runUnderlying35) rfl ?_
                    obtain ⟨hg61, h⟩ := grd_de h
                    refine gP (GY_yes rfl rfl rfl hg59B) (P_remT (a := ((stale.getD 0 0) + (1 : Int))) (b := ((a18.1.length : Nat) : Int)) rfl rfl hg61) rfl ?_
                    obtain ⟨r245, hr246, h⟩ := bind_e h
                    refine RJ_gy (GY_yes rfl rfl rfl hg59B) <| O_call (L_parityvol_Volume_Drop hr246) rfl Tryz.call33 (Dels.cons del0 (Dels.cons del0 Dels.nil)) rfl fun _ _ => gP (GY_yes rfl rfl rfl hg59B) (P_eql (a := r245.1) (b := (19 : Int)) rfl rfl) rfl <| oP (P_pickT rfl hg59B rfl) rfl <| oM rfl rfl <| RJ_splitP 306 rfl bT_dec (fun hg62B hg62 => ?_) (fun hg62B hg62 => ?_)
                    ·
                     replace h := ite_t hg62 h
                     refine gP (GY_yes rfl rfl rfl hg62B) (P_move rfl) rfl <| gP (GY_yes rfl rfl rfl hg62B) (P_makeIface rfl Tryz.runUnderlying65 (by intro ms h; cases h)) rfl <| gP (GY_yes rfl rfl rfl hg62B) (P_neqIfN rfl rfl Tryz.underlying79) rfl <| oP (P_pickT rfl hg62B rfl) rfl <| oM rfl rfl ?_
                     obtain ⟨r247, hr248, h⟩ := bind_e h
                     refine RJ_gy (GY_yes rfl rfl rfl rfl) <| O_call (L_volumegrouplaw19_awake hr248) rfl Tryz.call11 Dels.nil rfl fun _ _ => oP (P_pickT rfl rfl rfl) rfl <| oA rfl rfl <| nT <| CJ_ret ?_
                     cases h
                     exact fE (res1 Tryz.results7 rfl) () (t5_ (t3_ (eD (eD (eD (eD eR))))))
                    ·
                     replace h := ite_f hg62 h
                     refine RJ_gn (GY_no rfl rfl rfl hg62B) rfl rfl <| RJ_gn (GY_no rfl rfl rfl hg62B) rfl rfl <| RJ_gn (GY_no rfl rfl rfl hg62B) rfl rfl <| oP (P_pickF rfl hg62B rfl) rfl <| oM rfl rfl <| RJ_gn (GY_no rfl rfl rfl rfl) rfl rfl <| oP (P_pickF rfl rfl rfl) rfl <| oA rfl rfl <| nT <| CJ_ret ?_
                     cases h
                     exact fE (res1 Tryz.results7 rfl) () (t5_ (t3_ (eD (eD (eD (eD eR))))))
                   ·
                    replace h := ite_f hg59 h
                    refine RJ_gn (GY_no rfl rfl rfl hg59B) rfl rfl <| RJ_gn (GY_no rfl rfl rfl hg59B) rfl rfl <| RJ_gn (GY_no rfl rfl rfl hg59B) rfl rfl <| RJ_gn (GY_no rfl rfl rfl hg59B) rfl rfl <| RJ_gn (GY_no rfl rfl rfl hg59B) rfl rfl <| RJ_gn (GY_no rfl rfl rfl hg59B) rfl rfl <| RJ_gn (GY_no rfl rfl rfl hg59B) rfl rfl <| RJ_gn (GY_no rfl rfl rfl hg59B) rfl rfl <| RJ_gn (GY_no rfl rfl rfl hg59B) rfl rfl <| RJ_gn (GY_no rfl rfl rfl hg59B) rfl rfl <| oP (P_pickF rfl hg59B rfl) rfl <| oM rfl rfl <| RJ_gn (GY_no rfl rfl rfl rfl) rfl rfl <| RJ_gn (GY_no rfl rfl rfl rfl) rfl rfl <| RJ_gn (GY_no rfl rfl rfl rfl) rfl rfl <| oP (P_pickF rfl rfl rfl) rfl <| oM rfl rfl <| RJ_gn (GY_no rfl rfl rfl rfl) rfl rfl <| oP (P_pickF rfl rfl rfl) rfl <| oA rfl rfl <| nT <| CJ_ret ?_
                    cases h
                    exact fE (res1 Tryz.results7 rfl) () (t5_ (t3_ (eD (eD (eD (eD eR))))))
end Go.Proofs
namespace Go.Proofs
open Go.VG
def szs (l : List UInt8) : List Nat := l.map fun b => 1 + (b % 30).toNat
theorem szs_len {l : List UInt8} : (szs l).length = l.length := by simp [szs]
theorem szs_at {l : List UInt8} {i : Nat} (h : i < l.length) : (szs l).getD i 0 = 1 + ((l.getD i 0) % 30).toNat := by simp [szs, List.getD, h]
theorem b30 {b : UInt8} : (b % 30).toNat < 30 := by have := @u8modP b 30 (by decide); exact this
def toI (l : List Nat) : List Int := l.map fun n : Nat => (n : Int)
theorem sizes_l1 {l : List UInt8} (hl : l.length ≤ 8) : ∀ (N i : Nat), l.length - i < N → i ≤ l.length → volumegrouplaw19_ParityvolErrors_l1 l N (mnN 1048576 (fun i => (szs l).getD i 0) i : Int) i (toI ((szs l).take i)) = some (toI (szs l), (mnN 1048576 (fun i => (szs l).getD i 0) l.length : Int))
  | 0, _, h, _ => absurd h (by omega)
  | N + 1, i, h, hi => by
    have hu : volumegrouplaw19_ParityvolErrors_l1 l (N + 1) (mnN 1048576 (fun i => (szs l).getD i 0) i : Int) i (toI ((szs l).take i)) = volumegrouplaw19_ParityvolErrors_l1_b l (volumegrouplaw19_ParityvolErrors_l1 l N) (mnN 1048576 (fun i => (szs l).getD i 0) i : Int) i (toI ((szs l).take i)) := rfl
    rw [hu]
    unfold volumegrouplaw19_ParityvolErrors_l1_b lt
    by_cases hlt : i < l.length
    · have hb := @b30 (l.getD i 0)
      have hlen : (toI ((szs l).take i)).length = i := by simp [toI, szs_len]; omega
      have e1 : (toI ((szs l).take i) ++ [((1 + ((l.getD i 0) % 30).toNat : Nat) : Int)]) = toI ((szs l).take (i + 1)) := by
        rw [getD_take_snoc (d := 0) (by rw [szs_len]; exact hlt), szs_at hlt]; simp [toI]
      have e2 : (toI ((szs l).take i) ++ [((1 + ((l.getD i 0) % 30).toNat : Nat) : Int)]).getD i 0 = ((1 + ((l.getD i 0) % 30).toNat : Nat) : Int) := by
        simp only [List.getD, List.getElem?_append, hlen]
        rw [if_neg (by omega), Nat.sub_self]; rfl
      rw [if_pos (by omega), grd_t (inN64_of (by omega)), grd_t (inLen_of (by omega)), grd_t (decide_eq_true (by rw [List.length_append, hlen]; simp))]
      simp only
      rw [e2, e1]
      have hr := sizes_l1 hl N (i + 1) (by omega) (by omega)
      have e3 : ((mnN 1048576 (fun i => (szs l).getD i 0) (i + 1) : Nat) : Int) = min ((mnN 1048576 (fun i => (szs l).getD i 0) i : Nat) : Int) ((1 + ((l.getD i 0) % 30).toNat : Nat) : Int) := by
        show ((min (mnN 1048576 (fun i => (szs l).getD i 0) i) ((szs l).getD i 0) : Nat) : Int) = _
        rw [szs_at hlt]; omega
      rw [e3] at hr; exact hr
    · rw [if_neg (by omega)]
      have : i = l.length := by omega
      rw [this, List.take_of_length_le (by rw [szs_len]; omega)]
section
variable {ns : List Nat} {K c R n : Nat} {s t : ArrS} {st : Option Nat} {er ch : Int} {stale : List Int}
theorem geN (hs : ∀ i, i < ns.length → 1 ≤ ns.getD i 0 ∧ ns.getD i 0 ≤ 1000) : newS (toI ns) = mkS (ns.map fun m => List.replicate m 0) ∧ GE ns 0 (mkS (ns.map fun m => List.replicate m 0)) := by
  have e1 : lensN (ns.map fun m => List.replicate m (0 : UInt64)) = ns := by
    unfold lensN
    rw [List.map_map]
    conv => rhs; rw [← List.map_id ns]
    exact List.map_congr_left (fun m _ => by simp)
  refine ⟨?_, ?_⟩
  · unfold newS mkS toI
    rw [List.map_map, List.map_map]
    refine congrArg (fun d => (⟨d, [], [], 0, false, 0⟩ : ArrS)) (List.map_congr_left (fun m _ => ?_))
    simp [mkD]
  · have h1 := inSz_mkS (ims := ns.map fun m => List.replicate m (0 : UInt64))
    have hc := coh_mkS (ims := ns.map fun m => List.replicate m (0 : UInt64))
    rw [e1] at h1
    refine ⟨⟨⟨h1.cnt, h1.size, h1.wr⟩, Nat.le_refl _, hc, rfl⟩, rfl, rfl, fun e => good_mkS.miss e, fun e b => ?_⟩
    show (nowL (mkS _) e).getD b 0 = 0
    rw [nowL_mkS]
    simp only [List.getD, List.getElem?_map]
    cases ns[e]? with
    | none => rfl
    | some m =>
      simp only [Option.map_some, Option.getD_some, List.getElem?_replicate]
      split <;> rfl
theorem formE {legs : List Dvc} {x : parityvol_layout} (h : parityvol_newLayout legs ch s = some (x, er)) (h0 : er ≠ 0) : parityvol_Format legs ch s = some (er, s) := by
  unfold parityvol_Format
  rw [h]; simp only [Option.bind_some]
  rw [if_pos h0]
theorem openE {legs : List Dvc} {x : parityvol_layout} (h : parityvol_newLayout legs ch s = some (x, er)) (h0 : er ≠ 0) : parityvol_Open legs stale ch s = some (none, er, s) := by
  unfold parityvol_Open
  rw [h]; simp only [Option.bind_some]
  rw [if_pos h0]
theorem formG (h8 : ns.length ≤ 8) (hc : ch = (c : Int)) (hRc : R * c ≤ 900) (hs : ∀ i, i < ns.length → 16 + R * c ≤ ns.getD i 0 ∧ ns.getD i 0 ≤ 1000) (he : GE ns 0 s) (h : parityvol_newLayout (legsA ns) ch s = some ((⟨(ns.length : Int), ch, (R : Int)⟩ : parityvol_layout), 0)) : ∃ t, parityvol_Format (legsA ns) ch s = some (0, t) ∧ GE ns 8000 t := by
  have hF := fuel_big
  unfold parityvol_Format
  rw [h]; simp only [Option.bind_some]
  have e1 : (R : Int) * ch = ((R * c : Nat) : Int) := by rw [hc]; push_cast; rfl
  have e2 : (16 : Int) + ((R * c : Nat) : Int) = ((16 + R * c : Nat) : Int) := by push_cast; rfl
  rw [if_neg (by simp), e1, e2, grd_t (inI64_of (by omega)), grd_t (inI64_of (by omega)), grd_t (decide_eq_true ⟨by omega, by omega⟩)]
  obtain ⟨t, g1, g2⟩ := formG_l1 (ns := ns) (m := 16 + R * c) (ch := ch) (r3 := ((⟨(ns.length : Int), ch, (R : Int)⟩ : parityvol_layout), 0)) (by show (16 : Int) + (R : Int) * ch = _; rw [e1, e2]) h8 hs FUEL 0 s 0 (by omega) (by omega) (by omega) he
  rw [g1, seqO_inl]
  obtain ⟨t', k1, k2⟩ := formG_l2 FUEL 0 t (by omega) (by omega) (by omega) g2
  rw [k1, seqO_inl]
  exact ⟨t', rfl, k2.mono (by omega)⟩
theorem l5_any {a18 : (List Int) × Int} (hl : stale.length ≤ 5) : ∀ (N i x : Nat), stale.length - i < N → i ≤ stale.length → ∃ r, volumegrouplaw19_ParityvolErrors_l5 stale a18 N x i = some r
  | 0, _, _, h, _ => absurd h (by omega)
  | N + 1, i, x, h, hi => by
    have hu : volumegrouplaw19_ParityvolErrors_l5 stale a18 (N + 1) x i = volumegrouplaw19_ParityvolErrors_l5_b stale a18 (volumegrouplaw19_ParityvolErrors_l5 stale a18 N) x i := rfl
    rw [hu]
    unfold volumegrouplaw19_ParityvolErrors_l5_b
    by_cases hlt : i < stale.length ∧ ((x : Nat) : Int) ≠ 1
    · rw [if_pos ⟨by omega, hlt.2⟩]
      split
      · exact l5_any hl N (i + 1) 1 (by omega) (by omega)
      · split
        · exact l5_any hl N (i + 1) 19 (by omega) (by omega)
        · exact l5_any hl N (i + 1) x (by omega) (by omega)
    · rw [if_neg (fun y => hlt ⟨by omega, y.2⟩)]
      exact ⟨x, rfl⟩
theorem l5_in {a18 : (List Int) × Int} (hl : stale.length ≤ 5) (hin : ∀ m, m < stale.length → ¬ outR a18.1.length (stale.getD m 0)) : ∀ (N i x : Nat), stale.length - i < N → i ≤ stale.length → (x = 0 ∨ x = 19) → ∃ r, volumegrouplaw19_ParityvolErrors_l5 stale a18 N x i = some r ∧ ((r = 19 ∧ (x = 19 ∨ ∃ m, i ≤ m ∧ m < stale.length ∧ stale.getD m 0 ≠ stale.getD 0 0)) ∨ (r = 0 ∧ x = 0 ∧ ∀ m, i ≤ m → m < stale.length → stale.getD m 0 = stale.getD 0 0))
  | 0, _, _, h, _, _ => absurd h (by omega)
  | N + 1, i, x, h, hi, hx => by
    have hu : volumegrouplaw19_ParityvolErrors_l5 stale a18 (N + 1) x i = volumegrouplaw19_ParityvolErrors_l5_b stale a18 (volumegrouplaw19_ParityvolErrors_l5 stale a18 N) x i := rfl
    rw [hu]
    unfold volumegrouplaw19_ParityvolErrors_l5_b
    by_cases hlt : i < stale.length
    · have h1 := hin i hlt
      unfold outR at h1
      rw [if_pos ⟨by omega, by omega⟩, if_neg h1]
      by_cases z : stale.getD i 0 ≠ stale.getD 0 0
      · rw [if_pos z]
        obtain ⟨r, r1, r2⟩ := l5_in hl hin N (i + 1) 19 (by omega) (by omega) (.inr rfl)
        rcases r2 with ⟨r2, -⟩ | ⟨-, r3, -⟩
        · exact ⟨r, r1, .inl ⟨r2, .inr ⟨i, Nat.le_refl _, hlt, z⟩⟩⟩
        · cases r3
      · rw [if_neg z]
        have z' : stale.getD i 0 = stale.getD 0 0 := Classical.byContradiction z
        obtain ⟨r, r1, r2⟩ := l5_in hl hin N (i + 1) x (by omega) (by omega) hx
        refine ⟨r, r1, r2.imp (fun y => ⟨y.1, y.2.imp id (fun ⟨m, m1, m2⟩ => ⟨m, by omega, m2⟩)⟩) (fun y => ⟨y.1, y.2.1, fun m hm hml => ?_⟩)⟩
        by_cases e : m = i
        · rw [e]; exact z'
        · exact y.2.2 m (by omega) hml
    · rw [if_neg (by omega)]
      rcases hx with rfl | rfl
      · exact ⟨0, rfl, .inr ⟨rfl, rfl, fun m hm hml => absurd hml (by omega)⟩⟩
      · exact ⟨19, rfl, .inl ⟨rfl, .inl rfl⟩⟩
theorem l6_eq {a18 : (List Int) × Int} (hl : stale.length ≤ 5) : ∀ (N i x : Nat), stale.length - i < N → i ≤ stale.length → ∃ r, volumegrouplaw19_ParityvolErrors_l6 stale a18 N x i = some r ∧ ((x = 1 ∨ ∃ m, i ≤ m ∧ m < stale.length ∧ outR a18.1.length (stale.getD m 0)) → r = 1) ∧ ((∀ m, i ≤ m → m < stale.length → ¬ outR a18.1.length (stale.getD m 0)) → r = x)
  | 0, _, _, h, _ => absurd h (by omega)
  | N + 1, i, x, h, hi => by
    have hu : volumegrouplaw19_ParityvolErrors_l6 stale a18 (N + 1) x i = volumegrouplaw19_ParityvolErrors_l6_b stale a18 (volumegrouplaw19_ParityvolErrors_l6 stale a18 N) x i := rfl
    rw [hu]
    unfold volumegrouplaw19_ParityvolErrors_l6_b
    by_cases hlt : i < stale.length
    · rw [if_pos (by omega)]
      by_cases z : outR a18.1.length (stale.getD i 0)
      · rw [if_pos (show stale.getD i 0 < 0 ∨ ((a18.1.length : Nat) : Int) ≤ stale.getD i 0 from z)]
        obtain ⟨r, r1, r2, -⟩ := l6_eq (a18 := a18) hl N (i + 1) 1 (by omega) (by omega)
        exact ⟨r, r1, fun _ => r2 (.inl rfl), fun y => absurd z (y i (Nat.le_refl _) hlt)⟩
      · rw [if_neg (show ¬ (stale.getD i 0 < 0 ∨ ((a18.1.length : Nat) : Int) ≤ stale.getD i 0) from z)]
        obtain ⟨r, r1, r2, r3⟩ := l6_eq (a18 := a18) hl N (i + 1) x (by omega) (by omega)
        refine ⟨r, r1, fun y => r2 (y.imp id (fun ⟨m, m1, m2, m3⟩ => ⟨m, ?_, m2, m3⟩)), fun y => r3 (fun m hm hml => y m (by omega) hml)⟩
        have : m ≠ i := fun u => z (by rw [← u]; exact m3)
        omega
    · rw [if_neg (by omega)]
      exact ⟨x, rfl, fun y => y.elim id (fun ⟨m, m1, m2, _⟩ => absurd m2 (by omega)), fun _ => rfl⟩
theorem errs_eq {a18 : (List Int) × Int} (hl : stale.length ≤ 5) (hk : Sk a18.1.length stale er st) : ∃ r : Nat, (Option.bind (volumegrouplaw19_ParityvolErrors_l5 stale a18 FUEL 0 0) fun a78 => Option.bind (volumegrouplaw19_ParityvolErrors_l6 stale a18 FUEL a78 0) fun a104 => some a104) = some r ∧ er = (r : Int) := by
  have hF := fuel_big
  cases hk with
  | out h =>
    obtain ⟨x, hx⟩ := l5_any (a18 := a18) hl FUEL 0 0 (by omega) (by omega)
    obtain ⟨r, r1, r2, -⟩ := l6_eq (a18 := a18) hl FUEL 0 x (by omega) (by omega)
    obtain ⟨m, m1, m2⟩ := h
    rw [hx]; simp only [Option.bind_some]
    rw [r1]
    exact ⟨r, rfl, by rw [r2 (.inr ⟨m, Nat.zero_le _, m1, m2⟩)]; rfl⟩
  | two h1 h2 =>
    obtain ⟨x, hx, hy⟩ := l5_in (a18 := a18) hl h1 FUEL 0 0 (by omega) (by omega) (.inl rfl)
    obtain ⟨r, r1, -, r3⟩ := l6_eq (a18 := a18) hl FUEL 0 x (by omega) (by omega)
    obtain ⟨m, m1, m2⟩ := h2
    rw [hx]; simp only [Option.bind_some]
    rw [r1]
    refine ⟨r, rfl, ?_⟩
    rw [r3 (fun m _ hm => h1 m hm)]
    rcases hy with ⟨y, -⟩ | ⟨-, -, y⟩
    · rw [y]; rfl
    · exact absurd (y m (Nat.zero_le _) m1) m2
  | no h =>
    subst h
    obtain ⟨x, hx, hy⟩ := l5_in (stale := []) (a18 := a18) hl (fun m hm => absurd hm (by simp)) FUEL 0 0 (by simp; omega) (by simp) (.inl rfl)
    obtain ⟨r, r1, -, r3⟩ := l6_eq (stale := []) (a18 := a18) hl FUEL 0 x (by simp; omega) (by simp)
    rw [hx]; simp only [Option.bind_some]
    rw [r1]
    refine ⟨r, rfl, ?_⟩
    rw [r3 (fun m _ hm => absurd hm (by simp))]
    rcases hy with ⟨-, y⟩ | ⟨y, -⟩
    · rcases y with y | ⟨m, _, m2, _⟩
      · cases y
      · exact absurd m2 (by simp)
    · rw [y]; rfl
  | one k h1 h2 h3 =>
    have hin : ∀ m, m < stale.length → ¬ outR a18.1.length (stale.getD m 0) := fun m hm y => by
      unfold outR at y
      rw [h3 m hm] at y; omega
    obtain ⟨x, hx, hy⟩ := l5_in (a18 := a18) hl hin FUEL 0 0 (by omega) (by omega) (.inl rfl)
    obtain ⟨r, r1, -, r3⟩ := l6_eq (a18 := a18) hl FUEL 0 x (by omega) (by omega)
    rw [hx]; simp only [Option.bind_some]
    rw [r1]
    refine ⟨r, rfl, ?_⟩
    rw [r3 (fun m _ hm => hin m hm)]
    rcases hy with ⟨-, y⟩ | ⟨y, -⟩
    · rcases y with y | ⟨m, _, m2, m3⟩
      · cases y
      · exact absurd (by rw [h3 m m2, h3 0 h2]) m3
    · rw [y]; rfl
theorem refSize_l1 {M : Int} (hM : 0 ≤ M ∧ M ≤ 1000) : ∀ (N i : Nat) (a : Int), 3 - i < N → i ≤ 3 → volumegroupref18_Size_l1 [M, M, M] N a i = some (.inl (if i < 3 then min a M else a))
  | 0, _, _, h, _ => absurd h (by omega)
  | N + 1, i, a, h, hi => by
    have hu : volumegroupref18_Size_l1 [M, M, M] (N + 1) a i = volumegroupref18_Size_l1_b [M, M, M] (volumegroupref18_Size_l1 [M, M, M] N) a i := rfl
    rw [hu]
    unfold volumegroupref18_Size_l1_b
    by_cases hlt : i < 3
    · have e1 : ([M, M, M] : List Int).getD i 0 = M := by
        have : i = 0 ∨ i = 1 ∨ i = 2 := by omega
        rcases this with rfl | rfl | rfl <;> rfl
      rw [if_pos (by simp; omega), e1, if_neg (by omega), refSize_l1 hM N (i + 1) _ (by omega) (by omega), if_pos hlt]
      split
      · rw [show min (min a M) M = min a M by omega]
      · rfl
    · rw [if_neg (by simp; omega), if_neg hlt]
theorem refSize {M : Nat} (hM : M ≤ 1000) (hc : 1 ≤ c ∧ c ≤ 20) : volumegroupref18_Size (c : Int) [(M : Int), (M : Int), (M : Int)] = some (((2 * (M / c * c) : Nat) : Int), 0) := by
  have hF := fuel_big
  have hd : M / c ≤ M := Nat.div_le_self _ _
  have hm : M / c * c ≤ M := Nat.div_mul_le_self _ _
  unfold volumegroupref18_Size volumegroupref18_fits lt
  simp only [Option.bind_some]
  rw [if_neg (by simp; omega), refSize_l1 (by omega) FUEL 0 _ (by omega) (by omega), seqO_inl, if_pos (by omega), show min (1073741824 : Int) (M : Int) = (M : Int) by omega, tdivN, wrapN (by omega)]
  have e1 : ((M / c : Nat) : Int) * (c : Int) = ((M / c * c : Nat) : Int) := by push_cast; rfl
  have e2 : (((([(M : Int), (M : Int), (M : Int)] : List Int).length : Nat) : Int) - 1) * ((M / c * c : Nat) : Int) = ((2 * (M / c * c) : Nat) : Int) := by
    simp only [List.length_cons, List.length_nil]
    omega
  rw [e1, e2, grd_t (decide_eq_true (by omega)), grd_t (inI64_of (by omega)), grd_t (inI64_of (by omega))]
theorem mod_neE {p L : Nat} (hp : p < L) (hL : 3 ≤ L) : (p + 1) % L ≠ p := by
  by_cases h : p + 1 < L
  · rw [Nat.mod_eq_of_lt h]; omega
  · have : p + 1 = L := by omega
    rw [this, Nat.mod_self]; omega
end
theorem parityvolErrors (sizes : List UInt8) (chunk : Int) (stale : List Int) (n_3 : Int) : volumegrouplaw19_ParityvolErrors sizes chunk stale n_3 = some true := by
  have hF := fuel_big
  unfold volumegrouplaw19_ParityvolErrors
  by_cases hg : sizes.length ≤ 8 ∧ stale.length ≤ 5
  · rw [if_neg (by omega)]
    have hz := sizes_l1 hg.1 FUEL 0 (by omega) (by omega)
    rw [show ((mnN 1048576 (fun i => (szs sizes).getD i 0) 0 : Nat) : Int) = (1048576 : Int) from rfl, show toI ((szs sizes).take 0) = [] from rfl] at hz
    rw [hz]; simp only [Option.bind_some]
    obtain ⟨ns, hns⟩ : ∃ ns, ns = szs sizes := ⟨_, rfl⟩
    have hlen : ns.length = sizes.length := by rw [hns, szs_len]
    have hs : ∀ i, i < ns.length → 1 ≤ ns.getD i 0 ∧ ns.getD i 0 ≤ 30 := fun i hi => by
      rw [hns, szs_at (by omega)]
      have := @b30 (sizes.getD i 0)
      omega
    have hs' : ∀ i, i < ns.length → 1 ≤ ns.getD i 0 ∧ ns.getD i 0 ≤ 1000 := fun i hi => by have := hs i hi; omega
    rw [show mnN 1048576 (fun i => (szs sizes).getD i 0) sizes.length = lst ns by rw [← hns, ← hlen]; rfl, ← hns]
    have hti : (toI ns).length = ns.length := by simp [toI]
    obtain ⟨ch, hch, hch20⟩ : ∃ ch, (if (0 : Int) < chunk then some ((1 : Int) + chunk % 20) else some chunk : Option Int) = some ch ∧ ch ≤ 20 := by
      by_cases h : (0 : Int) < chunk
      · rw [if_pos h]; exact ⟨_, rfl, by omega⟩
      · rw [if_neg h]; exact ⟨_, rfl, by omega⟩
    rw [hch]; simp only [Option.bind_some]
    have hN : newB (toI ns) = true := by
      unfold newB
      rw [Bool.and_eq_true, Nat.ble_eq, List.all_eq_true]
      refine ⟨by omega, fun z hz' => ?_⟩
      obtain ⟨m, hm, rfl⟩ := List.mem_map.1 hz'
      obtain ⟨i, hi, rfl⟩ := List.getElem_of_mem hm
      have := hs i hi
      simp only [List.getD, List.getElem?_eq_getElem hi, Option.getD_some] at this
      simp; omega
    have hnc : newC (toI ns) = 0 := by unfold newC; rw [if_pos hN]
    have hno : newO (toI ns) = some (newS (toI ns)) := by unfold newO; rw [if_pos hN]
    obtain ⟨g1, g2⟩ := geN hs'
    rw [grd_t (inLen_of (by omega)), hnc, if_neg (by simp), hno, g1]; simp only [Option.elim_some]
    rw [spansG g2 (by omega) hs']; simp only [Option.bind_some]
    have hnl : ∀ s, _ := fun s => nlayG (ns := ns) (s := s) hch20 (by omega) hs'
    rw [hti]
    by_cases c1 : ((ns.length : Int) < 3 ∨ 6 < (ns.length : Int)) ∨ ch < 1
    · have hE : ∀ s, parityvol_newLayout (legsA ns) ch s = some ((⟨0, 0, 0⟩ : parityvol_layout), 1) := fun s => by rw [hnl, if_pos c1]
      rw [if_pos c1]; simp only [Option.bind_some]
      rw [formE (hE _) (by decide)]; simp only [Option.bind_some]
      rw [if_neg (by simp), if_neg (by simp)]; simp only [Option.bind_some]
      rw [openE (hE _) (by decide)]; simp only [Option.bind_some]
      rw [if_neg (by simp)]; simp only [Option.elim_none]
      rw [if_neg (by simp), if_pos (by decide), awake19]; rfl
    · have hcc : 1 ≤ ch := by omega
      obtain ⟨c, rfl⟩ : ∃ c : Nat, ch = (c : Int) := ⟨ch.toNat, by omega⟩
      rw [if_neg c1, grd_t (inI64_of (by omega))]
      by_cases c2 : (lst ns : Int) < 16 + (c : Int)
      · have hE : ∀ s, parityvol_newLayout (legsA ns) (c : Int) s = some ((⟨0, 0, 0⟩ : parityvol_layout), 3) := fun s => by rw [hnl, if_neg c1, if_pos c2]
        rw [if_pos c2]; simp only [Option.bind_some]
        rw [formE (hE _) (by decide)]; simp only [Option.bind_some]
        rw [if_neg (by simp), if_neg (by simp)]; simp only [Option.bind_some]
        rw [openE (hE _) (by decide)]; simp only [Option.bind_some]
        rw [if_neg (by simp)]; simp only [Option.elim_none]
        rw [if_neg (by simp), if_pos (by decide), awake19]; rfl
      · rw [if_neg c2]; simp only [Option.bind_some]
        obtain ⟨R, hR⟩ : ∃ R, R = (lst ns - 16) / c := ⟨_, rfl⟩
        have hL : ∀ s, parityvol_newLayout (legsA ns) (c : Int) s = some ((⟨(ns.length : Int), (c : Int), (R : Int)⟩ : parityvol_layout), 0) := fun s => by rw [hnl, if_neg c1, if_neg c2, Int.toNat_natCast, hR]
        have hRc : R * c ≤ lst ns - 16 := by rw [hR]; exact Nat.div_mul_le_self _ _
        have hls : ∀ i, i < ns.length → lst ns ≤ ns.getD i 0 := fun i hi => mnN_le hi
        have hl30 : lst ns ≤ 30 := Nat.le_trans (hls 0 (by omega)) (hs 0 (by omega)).2
        have hs2 : ∀ i, i < ns.length → 16 + R * c ≤ ns.getD i 0 ∧ ns.getD i 0 ≤ 1000 := fun i hi => by
          have h1 := hls i hi
          have h2 := hs i hi
          omega
        obtain ⟨t, f1, f2⟩ := formG (by omega) rfl (by omega) hs2 g2 (hL _)
        rw [f1]; simp only [Option.bind_some]
        rw [if_neg (by simp), if_pos (by rfl)]
        obtain ⟨er, st, hk⟩ := sk_all (n := ns.length) stale
        obtain ⟨r, e1, e2⟩ := errs_eq (a18 := (toI ns, (lst ns : Int))) hg.2 (by rw [show (toI ns, (lst ns : Int)).1.length = ns.length from hti]; exact hk)
        rw [e1]; simp only [Option.bind_some]
        rw [openG hk (by omega) hg.2 hs' f2 rfl (hL t)]; simp only [Option.bind_some]
        rw [if_neg (fun y => y e2)]
        by_cases her : er = 0
        · rw [if_neg (fun y => y her)]; simp only [Option.elim_some]
          subst her
          rw [if_neg (by simp), if_neg (by simp)]
          have e16 : (lst ns : Int) - 16 = ((lst ns - 16 : Nat) : Int) := by omega
          have hc20 : 1 ≤ c ∧ c ≤ 20 := by omega
          rw [e16, grd_t (inI64_of (by omega)), grd_t (inI64_of (by omega)), grd_t (inI64_of (by omega)), refSize (by omega) hc20]; simp only [Option.bind_some]
          rw [← hR]
          have e2' : (((2 * (R * c) : Nat) : Int)).tdiv (2 : Int) = ((R * c : Nat) : Int) := by
            show (((2 * (R * c)) / 2 : Nat) : Int) = _
            rw [Nat.mul_div_cancel_left _ (by omega)]
          have hn1 : (ns.length : Int) - 1 = ((ns.length - 1 : Nat) : Int) := by omega
          have eD : ((R * c : Nat) : Int) * ((ns.length - 1 : Nat) : Int) = (((ns.length - 1) * R * c : Nat) : Int) := by
            rw [show (ns.length - 1) * R * c = R * c * (ns.length - 1) by rw [Nat.mul_assoc, Nat.mul_comm]]
            push_cast; rfl
          have hD : (ns.length - 1) * R * c ≤ 5 * 14 := by
            rw [Nat.mul_assoc]
            exact Nat.mul_le_mul (by omega) (by omega)
          rw [e2', wrapN (by omega), hn1, eD, grd_t (inI64_of (by omega))]
          unfold lt
          simp only
          have hnn : 3 ≤ ns.length ∧ ns.length ≤ 6 := by omega
          obtain ⟨w, er, r1, r2⟩ := readG (x := n_3) (c := c) (R := R) (st := st) hnn (by omega) hc20 hs2 f2
          rw [r1]; simp only [Option.bind_some]
          have hfill : parityvol_Volume_Fill (volG ns c R st) (-1 : Int) t = some (0, 1, volG ns c R st, t) := by unfold parityvol_Volume_Fill; rw [if_pos (by decide)]
          have hscr : parityvol_Volume_Scrub (volG ns c R st) (-1 : Int) (0 : Int) t = some ([], 1, volG ns c R st, t) := by unfold parityvol_Volume_Scrub; rw [if_pos (.inl (by decide))]
          rw [hfill]; simp only [Option.bind_some]
          rw [hscr]; simp only [Option.bind_some]
          rw [sizeG hnn (by omega) hc20]; simp only [Option.bind_some]
          rw [if_neg (fun y => y.elim (fun z => z rfl) (fun z => z r2))]
          have d1 := fun j => dropG1 (ns := ns) (c := c) (R := R) (st := st) (s := t) (j := j)
          have tailN : st = none → stale = [] → (Option.bind (parityvol_Volume_Accept (volG ns c R st) t) fun r197 =>
              if (r197.1 = (20 : Int)) then
                Option.bind (parityvol_Volume_Filled r197.2.1 r197.2.2) fun r199 =>
                if (¬ r199 = true) then
                  Option.bind (parityvol_Volume_Drop r197.2.1 (0 : Int) r197.2.2) fun r201 =>
                  if (r201.1 = (0 : Int)) then
                    Option.bind (parityvol_Volume_Drop r201.2 (1 : Int) r197.2.2) fun r203 =>
                    if (r203.1 = (19 : Int)) then
                      Option.bind (parityvol_Volume_Drop r203.2 (0 : Int) r197.2.2) fun r205 =>
                      if (r205.1 = (0 : Int)) then
                        Option.bind (volumegrouplaw19_awake) fun r207 =>
                        some r207
                      else
                        some false
                    else
                      some false
                  else
                    some false
                else
                  some false
              else
                some false) = some true := fun hst _ => by
            subst hst
            rw [acceptG (by omega)]; simp only [Option.bind_some]
            rw [if_pos trivial, filledG (by omega)]; simp only [Option.bind_some]
            rw [if_pos (by simp), show parityvol_Volume_Drop (volG ns c R none) (0 : Int) t = _ from dropG0 (j := 0) (by omega) (by omega) (.inl rfl)]; simp only [Option.bind_some]
            rw [if_pos trivial, show parityvol_Volume_Drop (volG ns c R (some 0)) (1 : Int) t = _ from dropG19 (i := 0) (j := 1) (by omega) (by omega) (by omega) (by omega)]; simp only [Option.bind_some]
            rw [if_pos trivial, show parityvol_Volume_Drop (volG ns c R (some 0)) (0 : Int) t = _ from dropG0 (j := 0) (by omega) (by omega) (.inr rfl)]; simp only [Option.bind_some]
            rw [if_pos trivial, awake19]; rfl
          have tailS : ∀ k, st = some k → k < ns.length → stale.getD 0 0 = (k : Int) → (grd (inI64 (((stale.getD 0 0) + (1 : Int)))) <|
              grd (decide (¬ (ns.length : Int) = 0)) <|
              Option.bind (parityvol_Volume_Drop (volG ns c R st) (((((stale.getD 0 0) + (1 : Int))).tmod ((ns.length : Int)))) t) fun r213 =>
              if (r213.1 = (19 : Int)) then
                Option.bind (volumegrouplaw19_awake) fun r215 =>
                some r215
              else
                some false) = some true := fun k hst hkn hk0 => by
            subst hst
            have e3 : (k : Int) + 1 = ((k + 1 : Nat) : Int) := by push_cast; rfl
            rw [hk0, e3, grd_t (inI64_of (by omega)), grd_t (decide_eq_true (by omega)), tmodN, dropG19 (by omega) (Nat.mod_lt _ (by omega)) hkn (fun y => mod_neE hkn hnn.1 y.symm)]; simp only [Option.bind_some]
            rw [if_pos trivial, awake19]; rfl
          have fin : ∀ (x y : Option Bool), (stale.length = 0 → x = some true) → (0 < stale.length → y = some true) → (if (((stale.length : Nat) : Int) = (0 : Int)) then (if ((1 : Int) = (1 : Int)) ∧ ((1 : Int) = (1 : Int)) then x else some false) else (if ((1 : Int) = (1 : Int)) ∧ ((1 : Int) = (1 : Int)) then y else some false)) = some true := fun x y hx hy => by
            by_cases h : stale.length = 0
            · rw [if_pos (by omega), if_pos ⟨rfl, rfl⟩]; exact hx h
            · rw [if_neg (by omega), if_pos ⟨rfl, rfl⟩]; exact hy (by omega)
          have hN0 : stale.length = 0 → st = none ∧ stale = [] := fun h => by
            cases hk with
            | no h' => exact ⟨rfl, h'⟩
            | one k h1 h2 h3 => omega
          have hS0 : 0 < stale.length → ∃ k, st = some k ∧ k < ns.length ∧ stale.getD 0 0 = (k : Int) := fun h => by
            cases hk with
            | no h' => rw [h'] at h; exact absurd h (by simp)
            | one k h1 h2 h3 => exact ⟨k, rfl, h1, h3 0 h2⟩
          by_cases hx : n_3 < 0 ∨ (((ns.length - 1) * R * c : Nat) : Int) ≤ n_3
          · rw [if_pos hx, writeG hnn (by omega) hc20 hx]; simp only [Option.bind_some]
            rw [if_neg (by simp), d1 _ (.inl (by decide))]; simp only [Option.bind_some]
            rw [if_neg (by simp), d1 _ (.inr (by omega))]; simp only [Option.bind_some]
            rw [if_neg (by simp), failedG (by omega)]; simp only [Option.bind_some]
            rw [if_neg (by simp)]
            exact fin _ _ (fun h => tailN (hN0 h).1 (hN0 h).2) (fun h => by
              obtain ⟨k, k1, k2, k3⟩ := hS0 h
              exact tailS k k1 k2 k3)
          · rw [if_neg hx, d1 _ (.inl (by decide))]; simp only [Option.bind_some]
            rw [if_neg (by simp), d1 _ (.inr (by omega))]; simp only [Option.bind_some]
            rw [if_neg (by simp), failedG (by omega)]; simp only [Option.bind_some]
            rw [if_neg (by simp)]
            exact fin _ _ (fun h => tailN (hN0 h).1 (hN0 h).2) (fun h => by
              obtain ⟨k, k1, k2, k3⟩ := hS0 h
              exact tailS k k1 k2 k3)
        · rw [if_pos her]; simp only [Option.elim_none]
          rw [if_neg (by simp [her]), if_pos her, awake19]; rfl
  · rw [if_pos (by omega), awake19]; rfl
end Go.Proofs
