/- ParityvolScrubs, part 8 of the proof: LParityvolScrubs, PQs1, PParityvolScrubs. -/
import Derived.WalkKit
import Derived.Orders
import Derived.RangeFuncLeaves
import Derived.RangeFuncCalls
import Derived.TacticsIn
import Derived.Handy
import Derived.OrdersHeld
import Derived.OrdersIn
import Derived.Below
import Derived.OpenShut
import Derived.Deep.Slices
import Derived.Scope
import Derived.KernelRfl
import Derived.RangeFuncRecord
import Derived.ChangeKeysEq
import Derived.ProofKit
import Derived.ShutString
import Derived.ChangeOld
import Derived.Test.YtmoiepdpckpolaaGreatChecked
import Derived.Test.YtmoiepdpckpolaaGreatRows
import Derived.Test.YtmoiepdpckpolaaGreatZParityvolScrubs7
set_option linter.unusedSimpArgs false
set_option linter.unusedVariables false
set_option maxRecDepth 20000
set_option maxHeartbeats 4000000
namespace Go.Proofs
open Go.VG
def volumegrouplaw19_shape (n_0 : UInt8) : Option (Int × Int × Int) :=
  grd (inN64 ((3 + ((n_0 % (2 : UInt8))).toNat))) <|
  grd (inN64 ((1 + (((n_0 / (2 : UInt8)) % (3 : UInt8))).toNat))) <|
  grd (inN64 ((1 + (((n_0 / (8 : UInt8)) % (2 : UInt8))).toNat))) <|
  some (((((3 + ((n_0 % (2 : UInt8))).toNat) : Nat) : Int), (((1 + (((n_0 / (2 : UInt8)) % (3 : UInt8))).toNat) : Nat) : Int), (((1 + (((n_0 / (8 : UInt8)) % (2 : UInt8))).toNat) : Nat) : Int)))
theorem L_volumegrouplaw19_shape {W : World} {n_0 : UInt8} {r : Int × Int × Int} (h : volumegrouplaw19_shape n_0 = some r) :
    CSpec Tryz.prog W 12 [.int .u8 (n_0.toNat : Int)] [] (fun x : Unit => .tuple #[.int .i64 r.1, .int .i64 r.2.1, .int .i64 r.2.2]) (fun _ => True) (fun x F => F) := by
 refine CSpec.of_body Tryz.func12 rfl Tryz.ntmps12 rfl fun F => ?_
 show CJ _ _ _ _ _ _ (F)
 unfold volumegrouplaw19_shape at h
 refine sR <| oA rfl rfl <| oA rfl rfl <| oA rfl rfl <| nT <| sR <| oM rfl rfl <| oP (P_rem_u8 (a := n_0) (b := (2 : UInt8)) rfl rfl (by decide)) rfl <| oP (P_convSame rfl Tryz.runUnderlying5 Tryz.runUnderlying3 (wrap64_u _ (by have h9 := ((n_0 % (2 : UInt8))).toNat_lt; exact (by omega : ((n_0 % (2 : UInt8))).toNat < 9223372036854775808)))) rfl ?_
 obtain ⟨hg1, h⟩ := grd_Ne h
 refine oP (PJ_eq (P_add (a := (3 : Int)) (b := ((((n_0 % (2 : UInt8))).toNat : Nat) : Int)) rfl rfl (nat_in hg1)) rfl) rfl <| oM rfl rfl <| oP (P_quo_u8 (a := n_0) (b := (2 : UInt8)) rfl rfl (by decide)) rfl <| oP (P_rem_u8 (a := (n_0 / (2 : UInt8))) (b := (3 : UInt8)) rfl rfl (by decide)) rfl <| oP (P_convSame rfl Tryz.runUnderlying5 Tryz.runUnderlying3 (wrap64_u _ (by have h9 := (((n_0 / (2 : UInt8)) % (3 : UInt8))).toNat_lt; exact (by omega : (((n_0 / (2 : UInt8)) % (3 : UInt8))).toNat < 9223372036854775808)))) rfl ?_
 obtain ⟨hg2, h⟩ := grd_Ne h
 refine oP (PJ_eq (P_add (a := (1 : Int)) (b := (((((n_0 / (2 : UInt8)) % (3 : UInt8))).toNat : Nat) : Int)) rfl rfl (nat_in hg2)) rfl) rfl <| oM rfl rfl <| oP (P_quo_u8 (a := n_0) (b := (8 : UInt8)) rfl rfl (by decide)) rfl <| oP (P_rem_u8 (a := (n_0 / (8 : UInt8))) (b := (2 : UInt8)) rfl rfl (by decide)) rfl <| oP (P_convSame rfl Tryz.runUnderlying5 Tryz.runUnderlying3 (wrap64_u _ (by have h9 := (((n_0 / (8 : UInt8)) % (2 : UInt8))).toNat_lt; exact (by omega : (((n_0 / (8 : UInt8)) % (2 : UInt8))).toNat < 9223372036854775808)))) rfl ?_
 obtain ⟨hg3, h⟩ := grd_Ne h
 refine oP (PJ_eq (P_add (a := (1 : Int)) (b := (((((n_0 / (8 : UInt8)) % (2 : UInt8))).toNat : Nat) : Int)) rfl rfl (nat_in hg3)) rfl) rfl <| oA rfl rfl <| oA rfl rfl <| oA rfl rfl <| nT <| CJ_ret ?_
 cases h
 exact fE (res3 Tryz.results12 rfl rfl rfl) () eR
def volumegroupref18_fits (chunk : Int) (n_1 : Int) : Option (Bool) :=
  some (((((decide ((1 : Int) ≤ chunk)) && (decide (chunk ≤ (65536 : Int)))) && (decide ((3 : Int) ≤ n_1))) && (decide (n_1 ≤ (6 : Int)))))
theorem L_volumegroupref18_fits {W : World} {chunk : Int} {n_1 : Int} {r : Bool} (h : volumegroupref18_fits chunk n_1 = some r) :
    CSpec Tryz.prog W 61 [.int .i64 chunk, .int .i64 n_1] [] (fun x : Unit => .bool r) (fun _ => True) (fun x F => F) := by
 refine CSpec.of_body Tryz.func61 rfl Tryz.ntmps61 rfl fun F => ?_
 show CJ _ _ _ _ _ _ (F)
 unfold volumegroupref18_fits at h
 refine sR <| oA rfl rfl <| nT <| sR <| oM rfl rfl <| oP (P_geq (a := chunk) (b := (1 : Int)) rfl rfl) rfl <| oM rfl rfl <| RJ_mbT rfl rfl rfl (fun hG1 => have hP2 : ((1 : Int) ≤ chunk) := (bT_dec).1 hG1; VJ_P (P_move rfl)) <| RJ_mbT rfl rfl rfl (fun hG3 => have hP4 : ((1 : Int) ≤ chunk) := (bT_dec).1 hG3; VJ_P (P_leq (a := chunk) (b := (65536 : Int)) (mbx hG3 rfl) rfl)) <| oP (P_pickAnd rfl (fun hh => mbx hh rfl) rfl) rfl <| oM rfl rfl <| RJ_mbT rfl rfl rfl (fun hG5 => have hP6 : (((1 : Int) ≤ chunk) ∧ (chunk ≤ (65536 : Int))) := ((bT_and bT_dec bT_dec)).1 hG5; VJ_P (P_move rfl)) <| RJ_mbT rfl rfl rfl (fun hG7 => have hP8 : (((1 : Int) ≤ chunk) ∧ (chunk ≤ (65536 : Int))) := ((bT_and bT_dec bT_dec)).1 hG7; VJ_P (P_geq (a := n_1) (b := (3 : Int)) (mbx hG7 rfl) rfl)) <| oP (P_pickAnd rfl (fun hh => mbx hh rfl) rfl) rfl <| oM rfl rfl <| RJ_mbT rfl rfl rfl (fun hG9 => have hP10 : ((((1 : Int) ≤ chunk) ∧ (chunk ≤ (65536 : Int))) ∧ ((3 : Int) ≤ n_1)) := ((bT_and (bT_and bT_dec bT_dec) bT_dec)).1 hG9; VJ_P (P_move rfl)) <| RJ_mbT rfl rfl rfl (fun hG11 => have hP12 : ((((1 : Int) ≤ chunk) ∧ (chunk ≤ (65536 : Int))) ∧ ((3 : Int) ≤ n_1)) := ((bT_and (bT_and bT_dec bT_dec) bT_dec)).1 hG11; VJ_P (P_leq (a := n_1) (b := (6 : Int)) (mbx hG11 rfl) rfl)) <| oP (P_pickAnd rfl (fun hh => mbx hh rfl) rfl) rfl <| oA rfl rfl <| nT <| CJ_ret ?_
 cases h
 exact fE (res1 Tryz.results61 rfl) () eR
def volumegroupref18_Place (chunk : Int) (n_1 : Int) (at_2 : Int) : Option (Int × Int × Int × Int) :=
  Option.bind (volumegroupref18_fits chunk n_1) fun r1 =>
  if (((¬ r1 = true) ∨ (at_2 < (0 : Int))) ∨ ((1073741824 : Int) < at_2)) then
    some (((0 : Int), (0 : Int), (0 : Int), (1 : Int)))
  else
    grd (decide (¬ chunk = 0)) <|
    grd (inI64 ((n_1 - (1 : Int)))) <|
    grd (decide (¬ (n_1 - (1 : Int)) = 0)) <|
    lt ((IntKind.i64.wrap (((IntKind.i64.wrap (at_2.tdiv chunk))).tdiv ((n_1 - (1 : Int)))))) fun w11 =>
    grd (inI64 ((n_1 - (1 : Int)))) <|
    grd (decide (¬ (n_1 - (1 : Int)) = 0)) <|
    grd (inI64 ((n_1 - (1 : Int)))) <|
    grd (decide (¬ n_1 = 0)) <|
    grd (inI64 (((n_1 - (1 : Int)) - (w11.tmod n_1)))) <|
    grd (inI64 ((((n_1 - (1 : Int)) - (w11.tmod n_1)) + (1 : Int)))) <|
    grd (inI64 (((((n_1 - (1 : Int)) - (w11.tmod n_1)) + (1 : Int)) + (((IntKind.i64.wrap (at_2.tdiv chunk))).tmod ((n_1 - (1 : Int))))))) <|
    lt (((((n_1 - (1 : Int)) - (w11.tmod n_1)) + (1 : Int)) + (((IntKind.i64.wrap (at_2.tdiv chunk))).tmod ((n_1 - (1 : Int)))))) fun w12 =>
    grd (decide (¬ n_1 = 0)) <|
    grd (inI64 (w11 * chunk)) <|
    grd (decide (¬ chunk = 0)) <|
    grd (inI64 (((w11 * chunk) + (at_2.tmod chunk)))) <|
    some (((w12.tmod n_1), ((w11 * chunk) + (at_2.tmod chunk)), ((n_1 - (1 : Int)) - (w11.tmod n_1)), (0 : Int)))
theorem L_volumegroupref18_Place {W : World} {chunk : Int} {n_1 : Int} {at_2 : Int} {r : Int × Int × Int × Int} (h : volumegroupref18_Place chunk n_1 at_2 = some r) :
    CSpec Tryz.prog W 22 [.int .i64 chunk, .int .i64 n_1, .int .i64 at_2] [] (fun x : Unit => .tuple #[.int .i64 r.1, .int .i64 r.2.1, .int .i64 r.2.2.1, .int .i64 r.2.2.2]) (fun _ => True) (fun x F => F) := by
 refine CSpec.of_body Tryz.func22 rfl Tryz.ntmps22 rfl fun F => ?_
 show CJ _ _ _ _ _ _ (F)
 unfold volumegroupref18_Place at h
 refine sR <| oA rfl rfl <| oA rfl rfl <| oA rfl rfl <| oA rfl rfl <| nT <| CJ_seq <| sR <| oM rfl rfl <| oM rfl rfl ?_
 obtain ⟨r1, hr2, h⟩ := bind_e h
 refine oO <| O_call (L_volumegroupref18_fits hr2) rfl Tryz.call61 Dels.nil rfl fun _ _ => oP (P_not rfl) rfl <| oM rfl rfl <| RJ_mbF rfl rfl rfl (fun hG3 => have hP4 : ¬ (¬ r1 = true) := nP ((bT_not Iff.rfl)) hG3; VJ_P (P_move rfl)) <| RJ_mbF rfl rfl rfl (fun hG5 => have hP6 : ¬ (¬ r1 = true) := nP ((bT_not Iff.rfl)) hG5; VJ_P (P_lss (a := at_2) (b := (0 : Int)) (mbx hG5 rfl) rfl)) <| oP (P_pickOr rfl rfl (fun hh => mbx (not_f hh) rfl)) rfl <| oM rfl rfl <| RJ_mbF rfl rfl rfl (fun hG7 => have hP8 : ¬ ((¬ r1 = true) ∨ (at_2 < (0 : Int))) := nP ((bT_or (bT_not Iff.rfl) bT_dec)) hG7; VJ_P (P_move rfl)) <| RJ_mbF rfl rfl rfl (fun hG9 => have hP10 : ¬ ((¬ r1 = true) ∨ (at_2 < (0 : Int))) := nP ((bT_or (bT_not Iff.rfl) bT_dec)) hG9; VJ_P (P_gtr (a := at_2) (b := (1073741824 : Int)) (mbx hG9 rfl) rfl)) <| oP (P_pickOr rfl rfl (fun hh => mbx (not_f hh) rfl)) rfl <| nT <| CJ_condP rfl (bT_or (bT_or (bT_not Iff.rfl) bT_dec) bT_dec) (fun hg1 => ?_) (fun hg1 => ?_)
 ·
  replace h := ite_t hg1 h
  refine sR <| oA rfl rfl <| oA rfl rfl <| oA rfl rfl <| oA rfl rfl <| nT <| CJ_ret <| QJ_then_ret ?_
  cases h
  exact fE (res4 Tryz.results22 rfl rfl rfl rfl) () eR
 ·
  replace h := ite_f hg1 h
  refine kT <| sR <| oM rfl rfl <| oM rfl rfl ?_
  obtain ⟨hg2, h⟩ := grd_de h
  refine oP (P_quoT (a := at_2) (b := chunk) rfl rfl hg2) rfl <| oA rfl rfl <| nT <| CJ_seq <| AJ_startH 0 (by kernel_rfl) rfl <| aN 0 1 rfl rfl (P_move rfl) rfl <| aN 1 3 rfl rfl (P_move rfl) rfl ?_
  obtain ⟨hg3, h⟩ := grd_Ie h
  refine aN 2 7 rfl rfl (P_sub (a := n_1) (b := (1 : Int)) rfl rfl hg3) rfl ?_
  obtain ⟨hg4, h⟩ := grd_de h
  refine aN 3 15 rfl rfl (P_quoT (a := (IntKind.i64.wrap (at_2.tdiv chunk))) (b := (n_1 - (1 : Int))) rfl rfl hg4) rfl ?_
  obtain ⟨w11, hw11, h⟩ := lt_e h
  rw [← hw11]
  refine aN 4 31 rfl rfl (P_move rfl) rfl <| aN 5 63 rfl rfl (P_move rfl) rfl ?_
  obtain ⟨hg5, h⟩ := grd_Ie h
  refine aN 6 127 rfl rfl (P_sub (a := n_1) (b := (1 : Int)) rfl rfl hg5) rfl ?_
  obtain ⟨hg6, h⟩ := grd_de h
  refine aN 7 255 rfl rfl (P_remT (a := (IntKind.i64.wrap (at_2.tdiv chunk))) (b := (n_1 - (1 : Int))) rfl rfl hg6) rfl <| aN 8 511 rfl rfl (P_assign rfl) rfl <| aN 9 1023 rfl rfl (P_assign rfl) rfl <| aD <| sR <| oM rfl rfl ?_
  obtain ⟨hg7, h⟩ := grd_Ie h
  refine oP (P_sub (a := n_1) (b := (1 : Int)) rfl rfl hg7) rfl <| oM rfl rfl <| oM rfl rfl ?_
  obtain ⟨hg8, h⟩ := grd_de h
  refine oP (P_remT (a := w11) (b := n_1) rfl rfl hg8) rfl ?_
  obtain ⟨hg9, h⟩ := grd_Ie h
  refine oP (P_sub (a := (n_1 - (1 : Int))) (b := (w11.tmod n_1)) rfl rfl hg9) rfl <| oA rfl rfl <| nT <| CJ_seq <| AJ_startH 0 (by kernel_rfl) rfl <| aN 0 1 rfl rfl (P_move rfl) rfl ?_
  obtain ⟨hg10, h⟩ := grd_Ie h
  refine aN 1 3 rfl rfl (P_add (a := ((n_1 - (1 : Int)) - (w11.tmod n_1))) (b := (1 : Int)) rfl rfl hg10) rfl <| aN 2 7 rfl rfl (P_move rfl) rfl ?_
  obtain ⟨hg11, h⟩ := grd_Ie h
  refine aN 3 15 rfl rfl (P_add (a := (((n_1 - (1 : Int)) - (w11.tmod n_1)) + (1 : Int))) (b := (((IntKind.i64.wrap (at_2.tdiv chunk))).tmod ((n_1 - (1 : Int))))) rfl rfl hg11) rfl ?_
  obtain ⟨w12, hw12, h⟩ := lt_e h
  rw [← hw12]
  refine aN 4 31 rfl rfl (P_move rfl) rfl ?_
  obtain ⟨hg12, h⟩ := grd_de h
  refine aN 5 63 rfl rfl (P_remT (a := w12) (b := n_1) rfl rfl hg12) rfl <| aN 6 127 rfl rfl (P_move rfl) rfl <| aN 7 255 rfl rfl (P_move rfl) rfl ?_
  obtain ⟨hg13, h⟩ := grd_Ie h
  refine aN 8 511 rfl rfl (P_mul (a := w11) (b := chunk) rfl rfl hg13) rfl <| aN 9 1023 rfl rfl (P_move rfl) rfl <| aN 10 2047 rfl rfl (P_move rfl) rfl ?_
  obtain ⟨hg14, h⟩ := grd_de h
  refine aN 11 4095 rfl rfl (P_remT (a := at_2) (b := chunk) rfl rfl hg14) rfl ?_
  obtain ⟨hg15, h⟩ := grd_Ie h
  refine aN 12 8191 rfl rfl (P_add (a := (w11 * chunk)) (b := (at_2.tmod chunk)) rfl rfl hg15) rfl <| aN 13 16383 rfl rfl (P_move rfl) rfl <| aN 14 32767 rfl rfl (P_assign rfl) rfl <| aN 15 65535 rfl rfl (P_assign rfl) rfl <| aN 16 131071 rfl rfl (P_assign rfl) rfl <| aN 17 262143 rfl rfl (P_assign rfl) rfl <| aD <| CJ_ret ?_
  cases h
  exact fE (res4 Tryz.results22 rfl rfl rfl rfl) () eR
def volumegroupref18_Xor_l1_b (l : List UInt64) (rec : UInt64 → Nat → Option (UInt64)) (x7 : UInt64) (x8 : Nat) : Option (UInt64) :=
  if (((x8 : Nat) : Int) < ((l.length : Nat) : Int)) then
    rec ((x7 ^^^ (l.getD x8 0))) (x8 + 1)
  else
    some x7
def volumegroupref18_Xor_l1 (l : List UInt64) : Nat → UInt64 → Nat → Option (UInt64)
  | 0, _, _ => none
  | n + 1, x7, x8 => volumegroupref18_Xor_l1_b l (volumegroupref18_Xor_l1 l n) x7 x8
def volumegroupref18_Xor (l : List UInt64) : Option (UInt64) :=
  Option.bind (volumegroupref18_Xor_l1 l FUEL (0 : UInt64) 0) fun a6 =>
  some a6
theorem L_volumegroupref18_Xor {W : World} {Al : HP} {vl : Value} {l : List UInt64} {r : UInt64} (rl : Reads Al tyU vl l) (h : volumegroupref18_Xor l = some r) :
    CSpec Tryz.prog W 17 [vl] [Al] (fun x : Unit => .int .u64 (r.toNat : Int)) (fun _ => True) (fun x F => Al :: F) := by
 refine CSpec.of_body Tryz.func17 rfl Tryz.ntmps17 rfl fun F => ?_
 show CJ _ _ _ _ _ _ (_ :: F)
 unfold volumegroupref18_Xor at h
 refine CJ_pure (len_of rl del0) fun hlen1 => sR <| oA rfl rfl <| nT <| sR <| oA rfl rfl <| nT <| CJ_seq <| sR <| oA rfl rfl <| nT ?_
 obtain ⟨y4, hl2, hK3⟩ := bind_c h
 refine CJ_cutT (X := UInt64) [3, 4, 5, 6, 7, 8, 9, 10, 11, 12, 13, 14, 15, 16] (fun a6 => ([(3, .int .u64 (a6.toNat : Int))] : Slots)) (fun a6 R => R) (fun a6 => y4 = a6) Dels.nil ?_ ?_
 ·
  refine CJ_block <| CJ_loopR (X := Nat × UInt64 × Nat) [3, 4, 5, 6, 7, 8, 9, 10, 11, 12, 13, 14, 15, 16] (fun ⟨n, x7, x8⟩ => ([(3, .int .u64 (x7.toNat : Int)), (4, .int .i64 (((x8 : Nat) : Int)))] : Slots)) (fun ⟨n, x7, x8⟩ R => R) (fun ⟨n, x7, x8⟩ => volumegroupref18_Xor_l1 l n x7 x8 = some y4) (fun ⟨n, x7, x8⟩ => n) ⟨FUEL, (0 : UInt64), 0⟩ ?_ ?_ eR ?_
  · exact hl2
  · exact ⟨rfl, rfl, True.intro⟩
  ·
   rintro ⟨n, x7, x8⟩ h
   cases n with
   | zero => exact none_e h
   | succ n => ?_
   replace h : volumegroupref18_Xor_l1_b l (volumegroupref18_Xor_l1 l n) x7 x8 = some y4 := h
   unfold volumegroupref18_Xor_l1_b at h
   show CJ _ _ _ _ _ (([(3, .int .u64 (x7.toNat : Int)), (4, .int .i64 (((x8 : Nat) : Int)))] : Slots) ++ forget _ _) (_)
   refine CJ_seq <| sR <| oM rfl rfl <| oM rfl rfl <| oV (V_len rfl foc0 rl Tryz.runUnderlying43) rfl <| oP (P_lss (a := ((x8 : Nat) : Int)) (b := ((l.length : Nat) : Int)) rfl rfl) rfl <| nT <| CJ_condP rfl bT_dec (fun hg1 => ?_) (fun hg1 => ?_)
   ·
    replace h := ite_t hg1 h
    exact kT <| CJ_seq <| CJ_block <| CJ_region <| oM rfl rfl <| oM rfl rfl <| oM rfl rfl <| oV (V_index (i := x8) rfl rfl rfl (by omega) foc0 rl Tryz.runUnderlying43 Tryz.sizeOf44) rfl <| oV (V_loadE rfl rfl (by omega) foc0 rl rfl rfl Tryz.isAgg44) rfl <| oP (P_xor_u64 (a := x7) (b := (l.getD x8 0)) rfl rfl) rfl <| oA rfl rfl <| RJ_nil <| QJ_block_normal <| QJ_then <| CJ_region <| oM rfl rfl <| oP (PJ_eq (P_add (a := ((x8 : Nat) : Int)) (b := (1 : Int)) rfl rfl (by omega)) rfl) rfl <| oA rfl rfl <| RJ_nil <| nR ⟨n, (x7 ^^^ (l.getD x8 0)), (x8 + 1)⟩ h ⟨rfl, rfl, True.intro⟩ eR
   ·
    replace h := ite_f hg1 h
    exact CJ_exit <| QJ_then_exit <| QJ_round_exit <| QJ_block_here <| cR x7 (Option.some.inj h).symm ⟨rfl, True.intro⟩ eR
 ·
  rintro a6 hy9
  replace h := bindK_at hK3 hy9
  show CJ _ _ _ _ _ (([(3, .int .u64 (a6.toNat : Int))] : Slots) ++ forget _ _) (_)
  refine sR <| oM rfl rfl <| oA rfl rfl <| nT <| CJ_ret ?_
  cases h
  exact fE (res1 Tryz.results17 rfl) () eR
def volumegrouplaw19_ParityvolScrubs_l1_b (rot : List UInt8) (r13 : Int × Int × Int) (rec : ArrS → Nat → Option ((ArrS) ⊕ Bool)) (x32 : ArrS) (x33 : Nat) : Option ((ArrS) ⊕ Bool) :=
  if (((x33 : Nat) : Int) < ((rot.length : Nat) : Int)) then
    grd (inI64 ((r13.1 - (1 : Int)))) <|
    grd (inI64 (((r13.1 - (1 : Int)) * r13.2.1))) <|
    grd (inI64 ((((r13.1 - (1 : Int)) * r13.2.1) * r13.2.2))) <|
    grd (decide (¬ (((r13.1 - (1 : Int)) * r13.2.1) * r13.2.2) = 0)) <|
    lt ((((((rot.getD x33 0).toNat : Nat) : Int)).tmod ((((r13.1 - (1 : Int)) * r13.2.1) * r13.2.2)))) fun w34 =>
    Option.bind (volumegroupref18_Place r13.2.2 r13.1 w34) fun r35 =>
    if (((imC x32 r35.2.2.1) ≠ (0 : Int)) ∨ ((((imL x32 r35.2.2.1).length : Nat) : Int) ≠ (IntKind.i64.wrap ((16 : Int) + (IntKind.i64.wrap (r13.2.1 * r13.2.2)))))) then
      some (.inr false)
    else
      grd (inI64 (((16 : Int) + r35.2.1))) <|
      grd (inI64 (((16 : Int) + r35.2.1))) <|
      grd (decide (0 ≤ ((16 : Int) + r35.2.1) ∧ ((16 : Int) + r35.2.1) < ((imL x32 r35.2.2.1).length : Int))) <|
      lt (((1 : UInt64) + (((imL x32 r35.2.2.1).getD ((((16 : Int) + r35.2.1)).toNat) 0) * (2 : UInt64)))) fun w58 =>
      grd (decide (0 ≤ ((16 : Int) + r35.2.1) ∧ ((16 : Int) + r35.2.1) < ((imL x32 r35.2.2.1).length : Int))) <|
      grd (inLen x32.writes) <|
      lt ((ldC x32 r35.2.2.1 (((imL x32 r35.2.2.1).set ((((16 : Int) + r35.2.1)).toNat) w58)))) fun w63 =>
      if (w63 ≠ (0 : Int)) then
        some (.inr false)
      else
        rec ((ldS x32 r35.2.2.1 (((imL x32 r35.2.2.1).set ((((16 : Int) + r35.2.1)).toNat) w58)))) (x33 + 1)
  else
    some (.inl x32)
def volumegrouplaw19_ParityvolScrubs_l1 (rot : List UInt8) (r13 : Int × Int × Int) : Nat → ArrS → Nat → Option ((ArrS) ⊕ Bool)
  | 0, _, _ => none
  | n + 1, x32, x33 => volumegrouplaw19_ParityvolScrubs_l1_b rot r13 (volumegrouplaw19_ParityvolScrubs_l1 rot r13 n) x32 x33
def volumegrouplaw19_ParityvolScrubs_l3_b (r13 : Int × Int × Int) (a31 : ArrS) (r79 : Int × Int × Int × Int) (rec : (List UInt64) → Nat → Option (((List UInt64)) ⊕ (((List Bool)) ⊕ Bool))) (x88 : List UInt64) (x90 : Nat) : Option (((List UInt64)) ⊕ (((List Bool)) ⊕ Bool)) :=
  if (((x90 : Nat) : Int) < r13.1) then
    grd (inI64 (((16 : Int) + r79.2.1))) <|
    if ((rdC a31 (((x90 : Nat) : Int)) (((16 : Int) + r79.2.1))) ≠ (0 : Int)) then
      some (.inr (.inr false))
    else
      grd (inLen (x88.length + 1)) <|
      grd (inN64 (x90 + 1)) <|
      rec ((x88 ++ [(rdV a31 (((x90 : Nat) : Int)) (((16 : Int) + r79.2.1)))])) (x90 + 1)
  else
    some (.inl x88)
def volumegrouplaw19_ParityvolScrubs_l3 (r13 : Int × Int × Int) (a31 : ArrS) (r79 : Int × Int × Int × Int) : Nat → (List UInt64) → Nat → Option (((List UInt64)) ⊕ (((List Bool)) ⊕ Bool))
  | 0, _, _ => none
  | n + 1, x88, x90 => volumegrouplaw19_ParityvolScrubs_l3_b r13 a31 r79 (volumegrouplaw19_ParityvolScrubs_l3 r13 a31 r79 n) x88 x90
def volumegrouplaw19_ParityvolScrubs_l2_b (r13 : Int × Int × Int) (r24 : Bool × OwnS × ArrS) (a31 : ArrS) (rec : (List Bool) → Nat → Option (((List Bool)) ⊕ Bool)) (x70 : List Bool) (x71 : Nat) : Option (((List Bool)) ⊕ Bool) :=
  if (((x71 : Nat) : Int) < ((r24.2.1.T.length : Nat) : Int)) then
    Option.bind (volumegroupref18_Place r13.2.2 r13.1 (((x71 : Nat) : Int))) fun r79 =>
    seqO (volumegrouplaw19_ParityvolScrubs_l3 r13 a31 r79 FUEL ([]) 0) fun a87 =>
    grd (decide (¬ r13.2.2 = 0)) <|
    grd (decide (¬ r13.2.2 = 0)) <|
    grd (decide (0 ≤ (IntKind.i64.wrap (r79.2.1.tdiv r13.2.2)) ∧ (IntKind.i64.wrap (r79.2.1.tdiv r13.2.2)) < (x70.length : Int))) <|
    if (x70.getD (((IntKind.i64.wrap (r79.2.1.tdiv r13.2.2))).toNat) false) = true then
      grd (decide (0 ≤ (IntKind.i64.wrap (r79.2.1.tdiv r13.2.2)) ∧ (IntKind.i64.wrap (r79.2.1.tdiv r13.2.2)) < (x70.length : Int))) <|
      grd (inN64 (x71 + 1)) <|
      rec ((x70.set (((IntKind.i64.wrap (r79.2.1.tdiv r13.2.2))).toNat) true)) (x71 + 1)
    else
      Option.bind (volumegroupref18_Xor a87) fun r102 =>
      grd (decide (0 ≤ (IntKind.i64.wrap (r79.2.1.tdiv r13.2.2)) ∧ (IntKind.i64.wrap (r79.2.1.tdiv r13.2.2)) < (x70.length : Int))) <|
      grd (inN64 (x71 + 1)) <|
      rec ((x70.set (((IntKind.i64.wrap (r79.2.1.tdiv r13.2.2))).toNat) ((decide (r102 ≠ (0 : UInt64)))))) (x71 + 1)
  else
    some (.inl x70)
def volumegrouplaw19_ParityvolScrubs_l2 (r13 : Int × Int × Int) (r24 : Bool × OwnS × ArrS) (a31 : ArrS) : Nat → (List Bool) → Nat → Option (((List Bool)) ⊕ Bool)
  | 0, _, _ => none
  | n + 1, x70, x71 => volumegrouplaw19_ParityvolScrubs_l2_b r13 r24 a31 (volumegrouplaw19_ParityvolScrubs_l2 r13 r24 a31 n) x70 x71
def volumegrouplaw19_ParityvolScrubs_l4_b (row : UInt8) (r13 : Int × Int × Int) (a69 : (List Bool)) (w127 : Int) (r128 : (List Int) × Int × VolS × ArrS) (rec : Nat → Option ((Unit) ⊕ Bool)) (x144 : Nat) : Option ((Unit) ⊕ Bool) :=
  if (((x144 : Nat) : Int) < ((r128.1.length : Nat) : Int)) then
    if ((r128.1.getD x144 0) < ((((row.toNat : Nat) : Int)).tmod ((r13.2.1 + (1 : Int))))) then
      some (.inr false)
    else
      if ((min r13.2.1 w127) ≤ (r128.1.getD x144 0)) then
        some (.inr false)
      else
        grd (decide (0 ≤ (r128.1.getD x144 0) ∧ (r128.1.getD x144 0) < (a69.length : Int))) <|
        if (¬ (a69.getD (((r128.1.getD x144 0)).toNat) false) = true) then
          some (.inr false)
        else
          if ((0 : Int) < ((x144 : Nat) : Int)) then
            grd (inI64 ((((x144 : Nat) : Int) - (1 : Int)))) <|
            if ((r128.1.getD x144 0) ≤ (r128.1.getD (((((x144 : Nat) : Int) - (1 : Int))).toNat) 0)) then
              some (.inr false)
            else
              grd (inN64 (x144 + 1)) <|
              rec (x144 + 1)
          else
            grd (inN64 (x144 + 1)) <|
            rec (x144 + 1)
  else
    some (.inl ())
def volumegrouplaw19_ParityvolScrubs_l4 (row : UInt8) (r13 : Int × Int × Int) (a69 : (List Bool)) (w127 : Int) (r128 : (List Int) × Int × VolS × ArrS) : Nat → Nat → Option ((Unit) ⊕ Bool)
  | 0, _ => none
  | n + 1, x144 => volumegrouplaw19_ParityvolScrubs_l4_b row r13 a69 w127 r128 (volumegrouplaw19_ParityvolScrubs_l4 row r13 a69 w127 r128 n) x144
def volumegrouplaw19_ParityvolScrubs_l5_b (row : UInt8) (r13 : Int × Int × Int) (w127 : Int) (r132 : (List Int) × Int × VolS × ArrS) (rec : Nat → Option ((Unit) ⊕ Bool)) (x150 : Nat) : Option ((Unit) ⊕ Bool) :=
  if (((x150 : Nat) : Int) < ((r132.1.length : Nat) : Int)) then
    if ((((((row.toNat : Nat) : Int)).tmod ((r13.2.1 + (1 : Int)))) ≤ (r132.1.getD x150 0)) ∧ ((r132.1.getD x150 0) < (min r13.2.1 w127))) then
      some (.inr false)
    else
      grd (inN64 (x150 + 1)) <|
      rec (x150 + 1)
  else
    some (.inl ())
def volumegrouplaw19_ParityvolScrubs_l5 (row : UInt8) (r13 : Int × Int × Int) (w127 : Int) (r132 : (List Int) × Int × VolS × ArrS) : Nat → Nat → Option ((Unit) ⊕ Bool)
  | 0, _ => none
  | n + 1, x150 => volumegrouplaw19_ParityvolScrubs_l5_b row r13 w127 r132 (volumegrouplaw19_ParityvolScrubs_l5 row r13 w127 r132 n) x150
def volumegrouplaw19_ParityvolScrubs (n_0 : UInt8) (l : List volumegroupmake_Step) (rot : List UInt8) (row : UInt8) (many : UInt8) : Option (Bool) :=
  Option.bind (volumegroupmake_Few l) fun r3 =>
  if ((¬ r3 = true) ∨ ((6 : Int) < ((rot.length : Nat) : Int))) then
    Option.bind (volumegrouplaw19_awake) fun r11 =>
    some r11
  else
    Option.bind (volumegrouplaw19_shape n_0) fun r13 =>
    Option.bind (volumegrouplaw19_begun r13.1 r13.2.1 r13.2.2) fun r15 =>
    Option.elim r15.1 (
      some false) fun o21 =>
    Option.elim r15.2 (
      none) fun o23 =>
    Option.bind (volumegroupmake_Owner_Play o21 l (-1 : Int) (0 : Int) (0 : Int) o23) fun r24 =>
    if (¬ r24.1 = true) then
      some false
    else
      grd (decide (0 ≤ r13.2.1 ∧ r13.2.1 ≤ 1000000000)) <|
      seqO (volumegrouplaw19_ParityvolScrubs_l1 rot r13 FUEL r24.2.2 0) fun a31 =>
      seqO (volumegrouplaw19_ParityvolScrubs_l2 r13 r24 a31 FUEL ((List.replicate ((r13.2.1).toNat) false)) 0) fun a69 =>
      Option.bind (volumegroupmake_Spans a31) fun r110 =>
      Option.bind (parityvol_Open r110 ([]) r13.2.2 a31) fun r117 =>
      if (r117.2.1 ≠ (0 : Int)) then
        some false
      else
        Option.elim r117.1 (
          some false) fun o126 =>
        grd (inI64 ((r13.2.1 + (1 : Int)))) <|
        grd (inI64 ((r13.2.1 + (1 : Int)))) <|
        grd (inI64 ((((((row.toNat : Nat) : Int)).tmod ((r13.2.1 + (1 : Int)))) + (((many.toNat % 4) : Nat) : Int)))) <|
        lt ((((((row.toNat : Nat) : Int)).tmod ((r13.2.1 + (1 : Int)))) + (((many.toNat % 4) : Nat) : Int))) fun w127 =>
        Option.bind (parityvol_Volume_Scrub o126 (((((row.toNat : Nat) : Int)).tmod ((r13.2.1 + (1 : Int))))) ((((many.toNat % 4) : Nat) : Int)) r117.2.2) fun r128 =>
        Option.bind (parityvol_Volume_Scrub r128.2.2.1 (0 : Int) r13.2.1 r128.2.2.2) fun r132 =>
        if ((r128.2.1 ≠ (0 : Int)) ∨ (r132.2.1 ≠ (0 : Int))) then
          some false
        else
          seqO (volumegrouplaw19_ParityvolScrubs_l4 row r13 a69 w127 r128 FUEL 0) fun a143 =>
          seqO (volumegrouplaw19_ParityvolScrubs_l5 row r13 w127 r132 FUEL 0) fun a149 =>
          grd (inI64 ((r13.2.1 + (5 : Int)))) <|
          Option.bind (parityvol_Volume_Scrub r132.2.2.1 (0 : Int) ((r13.2.1 + (5 : Int))) r132.2.2.2) fun r164 =>
          if ((r164.2.1 ≠ (0 : Int)) ∨ (((r164.1.length : Nat) : Int) ≠ (0 : Int))) then
            some false
          else
            Option.bind (parityvol_Volume_Flush r164.2.2.1 r164.2.2.2) fun r174 =>
            if (r174.1 ≠ (0 : Int)) then
              some false
            else
              Option.bind (volumegroupmake_Owner_Lose ({ r24.2.1 with X := (some r174.2.1) }) (0 : Int) (0 : Int) r174.2.2) fun r180 =>
              if r180.1 = true then
                Option.bind (volumegroupmake_Owner_All r180.2.1 false r180.2.2) fun r182 =>
                if r182.1 = true then
                  Option.bind (volumegrouplaw19_awake) fun r184 =>
                  some r184
                else
                  some false
              else
                some false
theorem L_volumegrouplaw19_ParityvolScrubs {W : World} {Al : HP} {vl : Value} {Arot : HP} {vrot : Value} {n_0 : UInt8} {l : List volumegroupmake_Step} {rot : List UInt8} {row : UInt8} {many : UInt8} {r : Bool} (rl : Reads Al tyvolumegroupmake_Step vl l) (rrot : Reads Arot tyU8 vrot rot) (h : volumegrouplaw19_ParityvolScrubs n_0 l rot row many = some r) :
    CSpec Tryz.prog W 9 [.int .u8 (n_0.toNat : Int), vl, vrot, .int .u8 (row.toNat : Int), .int .u8 (many.toNat : Int)] [Al, Arot] (fun x : Unit => .bool r) (fun _ => True) (fun x F => Al :: Arot :: F) := by
 refine CSpec.of_body Tryz.func9 rfl Tryz.ntmps9 rfl fun F => ?_
 show CJ _ _ _ _ _ _ (_ :: _ :: F)
 unfold volumegrouplaw19_ParityvolScrubs at h
 refine CJ_pure (len_of rl del0) fun hlen1 => CJ_pure (len_of rrot del1) fun hlen2 => sR <| oA rfl rfl <| nT <| CJ_seq <| sR <| oM rfl rfl ?_
 obtain ⟨r3, hr4, h⟩ := bind_e h
 refine oO <| O_call (L_volumegroupmake_Few rl hr4) rfl Tryz.call10 (Dels.cons del0 Dels.nil) rfl fun _ _ => oP (P_not rfl) rfl <| oM rfl rfl <| RJ_mbF rfl rfl rfl (fun hG5 => have hP6 : ¬ (¬ r3 = true) := nP ((bT_not Iff.rfl)) hG5; VJ_P (P_move rfl)) <| RJ_mbF rfl rfl rfl (fun hG7 => have hP8 : ¬ (¬ r3 = true) := nP ((bT_not Iff.rfl)) hG7; V_len (mbx hG7 rfl) foc1 rrot Tryz.runUnderlying59) <| RJ_mbF rfl rfl rfl (fun hG9 => have hP10 : ¬ (¬ r3 = true) := nP ((bT_not Iff.rfl)) hG9; VJ_P (P_gtr (a := ((rot.length : Nat) : Int)) (b := (6 : Int)) (mbx hG9 rfl) rfl)) <| oP (P_pickOr rfl rfl (fun hh => mbx (not_f hh) rfl)) rfl <| nT <| CJ_condP rfl (bT_or (bT_not Iff.rfl) bT_dec) (fun hg1 => ?_) (fun hg1 => ?_)
 ·
  replace h := ite_t hg1 h
  refine sR ?_
  obtain ⟨r11, hr12, h⟩ := bind_e h
  refine oO <| O_call (L_volumegrouplaw19_awake hr12) rfl Tryz.call11 Dels.nil rfl fun _ _ => oA rfl rfl <| nT <| CJ_ret <| QJ_then_ret ?_
  cases h
  exact fE (res1 Tryz.results9 rfl) () eR
 ·
  replace h := ite_f hg1 h
  refine kT <| sR <| oM rfl rfl ?_
  obtain ⟨r13, hr14, h⟩ := bind_e h
  refine oO <| O_call (L_volumegrouplaw19_shape hr14) rfl Tryz.call12 Dels.nil rfl fun _ _ => oM rfl rfl <| oP (P_extract rfl rfl) rfl <| oP (P_extract rfl rfl) rfl <| oP (P_extract rfl rfl) rfl <| oA rfl rfl <| oA rfl rfl <| oA rfl rfl <| nT <| sR <| oM rfl rfl <| oM rfl rfl <| oM rfl rfl ?_
  obtain ⟨r15, hr16, h⟩ := bind_e h
  refine oO <| O_call (L_volumegrouplaw19_begun hr16) rfl Tryz.call13 Dels.nil rfl fun X17 _ => oA rfl rfl <| nT <| CJ_seq <| sR <| oM rfl rfl ?_
  rcases opt_e h with ⟨ht20, h⟩ | ⟨o21, ht20, h⟩
  ·
   rw [ht20]
   refine RJ_ent (t1_ (t1_ (t1_ (eD eR)))) <| oP (P_eqlNN rfl rfl Tryz.underlying27) rfl <| oM rfl rfl <| RJ_gn (GY_no rfl rfl rfl rfl) rfl rfl <| RJ_gn (GY_no rfl rfl rfl rfl) rfl rfl <| RJ_gn (GY_no rfl rfl rfl rfl) rfl rfl <| RJ_gn (GY_no rfl rfl rfl rfl) rfl rfl <| oP (P_pickT rfl rfl rfl) rfl <| nT <| CJ_condT rfl rfl <| sR <| oA rfl rfl <| nT <| CJ_ret <| QJ_then_ret ?_
   cases h
   exact fE (res1 Tryz.results9 rfl) () (t1_ (t1_ (eD eR)))
  ·
   rw [ht20]
   refine RJ_ent (Ent.takeC (A' := OwnP X17.2 X17.1 o21) del0 rfl eR) <| oP (P_eqlPN rfl rfl Tryz.underlying27) rfl <| oM rfl rfl <| gP (GY_yes rfl rfl rfl rfl) (P_move rfl) rfl <| gP (GY_yes rfl rfl rfl rfl) (P_move rfl) rfl ?_
   rcases opt_e h with ⟨ht22, h⟩ | ⟨o23, ht22, h⟩
   ·
    rw [ht22]
    exact RJ_ent (t0_ (t1_ (t1_ (eD eR)))) <| none_e h
   ·
    rw [ht22]
    refine RJ_ent (Ent.takeC (A' := Arr X17.2 o23) del1 rfl eR) ?_
    obtain ⟨r24, hr25, h⟩ := bind_e h
    refine RJ_gy (GY_yes rfl rfl rfl rfl) <| O_call (L_volumegroupmake_Owner_Play rl hr25) rfl Tryz.call14 (Dels.cons del1 (Dels.cons del1 (Dels.cons del0 Dels.nil))) rfl fun _ _ => gP (GY_yes rfl rfl rfl rfl) (P_not rfl) rfl <| oP (P_pickF rfl rfl rfl) rfl <| nT <| CJ_condP rfl (bT_not Iff.rfl) (fun hg2 => ?_) (fun hg2 => ?_)
    ·
     replace h := ite_t hg2 h
     refine sR <| oA rfl rfl <| nT <| CJ_ret <| QJ_then_ret ?_
     cases h
     exact fE (res1 Tryz.results9 rfl) () (t1_ (t2_ (eD (eD eR))))
    ·
     replace h := ite_f hg2 h
     refine kT <| sR <| oM rfl rfl ?_
     obtain ⟨hg3, h⟩ := grd_de h
     refine oO <| O_make (t := tyB) (m := (r13.2.1).toNat) (x0 := false) (z := _) (bytes := _) rfl rfl (Int.toNat_of_nonneg (hg3.1)).symm (Int.toNat_of_nonneg (hg3.1)).symm Tryz.underlying86 ⟨Tryz.t4, by kernel_rfl, rfl, rfl, rfl⟩ rfl (by omega) (by decide) rfl fun b26 => oA rfl rfl <| nT <| CJ_seq <| sR <| oA rfl rfl <| nT ?_
     obtain ⟨y29, hl27, hK28⟩ := seq_e h
     refine CJ_cutT (X := ArrS) [10, 16, 17, 18, 19, 20, 21, 22, 23, 72, 73, 74, 75, 76, 77, 78, 79, 80, 81, 82, 83, 84, 85, 86, 87, 88, 89, 90, 91, 92, 93, 94, 95, 96, 97, 98, 99, 100, 101, 102, 103, 104, 105, 106, 107, 108, 109, 110, 111, 112, 113, 114, 115, 116, 117, 118, 119, 120, 121, 122, 123, 124, 125, 126, 127, 128, 129, 130, 131, 132, 133, 134, 135, 136, 137] (fun a31 => ([] : Slots)) (fun a31 R => Arr X17.2 a31 :: R) (fun a31 => y29 = .inl a31) (Dels.cons del3 Dels.nil) ?_ ?_
     ·
      refine CJ_block <| CJ_loopR (X := Nat × ArrS × Nat) [10, 16, 17, 18, 19, 20, 21, 22, 23, 72, 73, 74, 75, 76, 77, 78, 79, 80, 81, 82, 83, 84, 85, 86, 87, 88, 89, 90, 91, 92, 93, 94, 95, 96, 97, 98, 99, 100, 101, 102, 103, 104, 105, 106, 107, 108, 109, 110, 111, 112, 113, 114, 115, 116, 117, 118, 119, 120, 121, 122, 123, 124, 125, 126, 127, 128, 129, 130, 131, 132, 133, 134, 135, 136, 137] (fun ⟨n, x32, x33⟩ => ([(16, .int .i64 (((x33 : Nat) : Int)))] : Slots)) (fun ⟨n, x32, x33⟩ R => Arr X17.2 x32 :: R) (fun ⟨n, x32, x33⟩ => volumegrouplaw19_ParityvolScrubs_l1 rot r13 n x32 x33 = some y29) (fun ⟨n, x32, x33⟩ => n) ⟨FUEL, r24.2.2, 0⟩ ?_ ?_ (t3_ eR) ?_
      · exact hl27
      · exact ⟨rfl, True.intro⟩
      ·
       rintro ⟨n, x32, x33⟩ h
       cases n with
       | zero => exact none_e h
       | succ n => ?_
       replace h : volumegrouplaw19_ParityvolScrubs_l1_b rot r13 (volumegrouplaw19_ParityvolScrubs_l1 rot r13 n) x32 x33 = some y29 := h
       unfold volumegrouplaw19_ParityvolScrubs_l1_b at h
       show CJ _ _ _ _ _ (([(16, .int .i64 (((x33 : Nat) : Int)))] : Slots) ++ forget _ _) (Arr X17.2 x32 :: _)
       refine CJ_seq <| sR <| oM rfl rfl <| oM rfl rfl <| oV (V_len rfl foc4 rrot Tryz.runUnderlying59) rfl <| oP (P_lss (a := ((x33 : Nat) : Int)) (b := ((rot.length : Nat) : Int)) rfl rfl) rfl <| nT <| CJ_condP rfl bT_dec (fun hg4 => ?_) (fun hg4 => ?_)
       ·
        replace h := ite_t hg4 h
        refine kT <| CJ_seq <| CJ_block <| sR <| oM rfl rfl <| oM rfl rfl <| oV (V_index (i := x33) rfl rfl rfl (by omega) foc4 rrot Tryz.runUnderlying59 Tryz.sizeOf5) rfl <| oV (V_loadE rfl rfl (by omega) foc4 rrot rfl rfl Tryz.isAgg5) rfl <| oP (P_convSame rfl Tryz.runUnderlying5 Tryz.runUnderlying3 (wrap64_u _ (by have h9 := (rot.getD x33 0).toNat_lt; exact (by omega : (rot.getD x33 0).toNat < 9223372036854775808)))) rfl <| oM rfl rfl ?_
        obtain ⟨hg5, h⟩ := grd_Ie h
        refine oP (P_sub (a := r13.1) (b := (1 : Int)) rfl rfl hg5) rfl <| oM rfl rfl ?_
        obtain ⟨hg6, h⟩ := grd_Ie h
        refine oP (P_mul (a := (r13.1 - (1 : Int))) (b := r13.2.1) rfl rfl hg6) rfl <| oM rfl rfl ?_
        obtain ⟨hg7, h⟩ := grd_Ie h
        refine oP (P_mul (a := ((r13.1 - (1 : Int)) * r13.2.1)) (b := r13.2.2) rfl rfl hg7) rfl ?_
        obtain ⟨hg8, h⟩ := grd_de h
        refine oP (P_remT (a := (((rot.getD x33 0).toNat : Nat) : Int)) (b := (((r13.1 - (1 : Int)) * r13.2.1) * r13.2.2)) rfl rfl hg8) rfl ?_
        obtain ⟨w34, hw34, h⟩ := lt_e h
        rw [← hw34]
        refine oA rfl rfl <| nT <| sR <| oM rfl rfl <| oM rfl rfl <| oM rfl rfl ?_
        obtain ⟨r35, hr36, h⟩ := bind_e h
        refine oO <| O_call (L_volumegroupref18_Place hr36) rfl Tryz.call22 Dels.nil rfl fun _ _ => oM rfl rfl <| oP (P_extract rfl rfl) rfl <| oP (P_extract rfl rfl) rfl <| oP (P_extract rfl rfl) rfl <| oP (P_extract rfl rfl) rfl <| oA rfl rfl <| oA rfl rfl <| oA rfl rfl <| oA rfl rfl <| nT <| CJ_seq <| CJ_entX (Ent.transX (t2_ eR) (OwnP_open (l := r24.2.1))) fun oc37 => lC del5 fun hlen39 => lC del6 fun hlen40 => CJ_region <| oM rfl rfl <| oP (P_nilCheck rfl) rfl <| oP (P_fieldAddr rfl ⟨_, _, _, Tryz.runUnderlying37, rfl, rfl, Tryz.sizeOf30, rfl⟩) rfl <| oV (V_load rfl foc0 rfl Tryz.isAgg30) rfl <| oM rfl rfl <| oO <| O_call (c_ImageD) rfl Tryz.call42 (Dels.cons del7 Dels.nil) rfl fun X41 _ => RJ_pure (len_of (Reads.sl _ _ _) del0) fun hlen43 => oM rfl rfl <| oP (P_extract (v := (Sl3.v X41)) rfl rfl) rfl <| oP (P_extract rfl rfl) rfl <| oA rfl rfl <| oA rfl rfl <| RJ_nil <| QJ_ent (Ent.trans (t2_ (t2_ (t2_ (t2_ (t2_ (t2_ (t2_ eR))))))) (OwnP_mk (v0 := r24.2.1.Open_1) (v1 := r24.2.1.X) (v2 := r24.2.1.T) (v3 := r24.2.1.Stale) (v4 := r24.2.1.Lost) (h0 := oc37.1) (h1 := oc37.2.1) (h2 := oc37.2.2.1) (h3 := oc37.2.2.2.1) (h4 := oc37.2.2.2.2.1) (h5 := oc37.2.2.2.2.2))) <| QJ_then <| CJ_seq <| sR <| oM rfl rfl <| oP (P_neq (a := (imC x32 r35.2.2.1)) (b := (0 : Int)) rfl rfl) rfl <| oM rfl rfl ?_
        refine RJ_mbF rfl rfl rfl (fun hG44 => have hP45 : ¬ ((imC x32 r35.2.2.1) ≠ (0 : Int)) := nP (bT_dec) hG44; VJ_P (P_move rfl)) <| RJ_mbF rfl rfl rfl (fun hG46 => have hP47 : ¬ ((imC x32 r35.2.2.1) ≠ (0 : Int)) := nP (bT_dec) hG46; V_len (mbx hG46 rfl) foc1 (Reads.sl _ _ _) Tryz.runUnderlying43) <| RJ_mbF rfl rfl rfl (fun hG48 => have hP49 : ¬ ((imC x32 r35.2.2.1) ≠ (0 : Int)) := nP (bT_dec) hG48; VJ_P (P_move rfl)) <| RJ_mbF rfl rfl rfl (fun hG50 => have hP51 : ¬ ((imC x32 r35.2.2.1) ≠ (0 : Int)) := nP (bT_dec) hG50; VJ_P (P_move rfl)) <| RJ_mbF rfl rfl rfl (fun hG52 => have hP53 : ¬ ((imC x32 r35.2.2.1) ≠ (0 : Int)) := nP (bT_dec) hG52; VJ_P (P_mulW (a := r13.2.1) (b := r13.2.2) (mbx hG52 rfl) (mbx hG52 rfl))) <| RJ_mbF rfl rfl rfl (fun hG54 => have hP55 : ¬ ((imC x32 r35.2.2.1) ≠ (0 : Int)) := nP (bT_dec) hG54; VJ_P (P_addW (a := (16 : Int)) (b := (IntKind.i64.wrap (r13.2.1 * r13.2.2))) rfl (mbx hG54 rfl))) <| RJ_mbF rfl rfl rfl (fun hG56 => have hP57 : ¬ ((imC x32 r35.2.2.1) ≠ (0 : Int)) := nP (bT_dec) hG56; VJ_P (P_neq (a := (((imL x32 r35.2.2.1).length : Nat) : Int)) (b := (IntKind.i64.wrap ((16 : Int) + (IntKind.i64.wrap (r13.2.1 * r13.2.2))))) (mbx hG56 rfl) (mbx hG56 rfl))) <| oP (P_pickOr rfl rfl (fun hh => mbx (not_f hh) rfl)) rfl <| nT <| CJ_condP rfl (bT_or bT_dec bT_dec) (fun hg9 => ?_) (fun hg9 => ?_)
        ·
         replace h := ite_t hg9 h
         refine sR <| oA rfl rfl <| nT <| CJ_ret <| QJ_then_ret <| QJ_block_ret <| QJ_then_ret <| QJ_round_ret <| QJ_block_ret <| QJ_then_ret ?_
         have hE := Option.some.inj h
         replace hE := seq_inr hK28 hE.symm
         subst hE
         exact fE (res1 Tryz.results9 rfl) () (t4_ (t4_ (eD (eD (eD (eD eR))))))
        ·
         replace h := ite_f hg9 h
         refine kT <| sR <| oM rfl rfl <| oM rfl rfl ?_
         obtain ⟨hg10, h⟩ := grd_Ie h
         refine oP (P_add (a := (16 : Int)) (b := r35.2.1) rfl rfl hg10) rfl <| oM rfl rfl <| oM rfl rfl ?_
         obtain ⟨hg11, h⟩ := grd_Ie h
         refine oP (P_add (a := (16 : Int)) (b := r35.2.1) rfl rfl hg11) rfl ?_
         obtain ⟨hg12, h⟩ := grd_de h
         refine oV (V_index (i := (((16 : Int) + r35.2.1)).toNat) rfl rfl (Int.toNat_of_nonneg (hg12.1)).symm (by omega) foc1 (Reads.sl _ _ _) Tryz.runUnderlying43 Tryz.sizeOf44) rfl <| oV (V_loadE rfl rfl (by omega) foc1 (Reads.sl _ _ _) rfl rfl Tryz.isAgg44) rfl <| oP (P_mul_u64 (a := ((imL x32 r35.2.2.1).getD ((((16 : Int) + r35.2.1)).toNat) 0)) (b := (2 : UInt64)) rfl rfl) rfl <| oP (P_add_u64 (a := (1 : UInt64)) (b := (((imL x32 r35.2.2.1).getD ((((16 : Int) + r35.2.1)).toNat) 0) * (2 : UInt64))) rfl rfl) rfl ?_
         obtain ⟨w58, hw58, h⟩ := lt_e h
         rw [← hw58]
         obtain ⟨hg13, h⟩ := grd_de h
         refine oV (V_index (i := (((16 : Int) + r35.2.1)).toNat) rfl rfl (Int.toNat_of_nonneg (hg13.1)).symm (by omega) foc1 (Reads.sl _ _ _) Tryz.runUnderlying43 Tryz.sizeOf44) rfl <| oO <| O_storeE (x' := w58) rfl rfl rfl (by omega) foc1 rfl rfl rfl Tryz.sizeOf44 <| nT <| CJ_seq <| CJ_entX (Ent.transX (t0_ eR) (OwnP_open (l := r24.2.1))) fun oc59 => lC del5 fun hlen61 => lC del6 fun hlen62 => CJ_region <| oM rfl rfl <| oP (P_nilCheck rfl) rfl <| oP (P_fieldAddr rfl ⟨_, _, _, Tryz.runUnderlying37, rfl, rfl, Tryz.sizeOf30, rfl⟩) rfl <| oV (V_load rfl foc0 rfl Tryz.isAgg30) rfl <| oM rfl rfl <| oM rfl rfl ?_
         obtain ⟨hg14, h⟩ := grd_Le h
         refine oO <| O_call (c_LoadD (Reads.sl _ _ _) hg14) rfl Tryz.call37 (Dels.cons del8 (Dels.cons del7 Dels.nil)) rfl fun _ _ => ?_
         obtain ⟨w63, hw63, h⟩ := lt_e h
         rw [← hw63]
         refine oP (P_neq (a := w63) (b := (0 : Int)) rfl rfl) rfl <| RJ_nil <| QJ_ent (Ent.trans (t2_ (t2_ (t2_ (t2_ (t2_ (t2_ (t2_ eR))))))) (OwnP_mk (v0 := r24.2.1.Open_1) (v1 := r24.2.1.X) (v2 := r24.2.1.T) (v3 := r24.2.1.Stale) (v4 := r24.2.1.Lost) (h0 := oc59.1) (h1 := oc59.2.1) (h2 := oc59.2.2.1) (h3 := oc59.2.2.2.1) (h4 := oc59.2.2.2.2.1) (h5 := oc59.2.2.2.2.2))) <| QJ_then <| CJ_condP rfl bT_dec (fun hg15 => ?_) (fun hg15 => ?_)
         ·
          replace h := ite_t hg15 h
          refine sR <| oA rfl rfl <| nT <| CJ_ret <| QJ_block_ret <| QJ_then_ret <| QJ_round_ret <| QJ_block_ret <| QJ_then_ret ?_
          have hE := Option.some.inj h
          replace hE := seq_inr hK28 hE.symm
          subst hE
          exact fE (res1 Tryz.results9 rfl) () (t4_ (t4_ (eD (eD (eD (eD eR))))))
         ·
          replace h := ite_f hg15 h
          exact CJ_skip <| QJ_block_normal <| QJ_then <| CJ_region <| oM rfl rfl <| oP (PJ_eq (P_add (a := ((x33 : Nat) : Int)) (b := (1 : Int)) rfl rfl (by omega)) rfl) rfl <| oA rfl rfl <| RJ_nil <| nR ⟨n, (ldS x32 r35.2.2.1 (((imL x32 r35.2.2.1).set ((((16 : Int) + r35.2.1)).toNat) w58))), (x33 + 1)⟩ h ⟨rfl, True.intro⟩ (t1_ (t2_ (t0_ (t1_ (t1_ (eD eR))))))
       ·
        replace h := ite_f hg4 h
        exact CJ_exit <| QJ_then_exit <| QJ_round_exit <| QJ_block_here <| cR x32 (Option.some.inj h).symm True.intro eR
     ·
      rintro a31 hy64
      replace h := seq_inl hK28 hy64
      show CJ _ _ _ _ _ (([] : Slots) ++ forget _ _) (Arr X17.2 a31 :: _)
      refine CJ_seq <| sR <| oA rfl rfl <| nT ?_
      obtain ⟨y67, hl65, hK66⟩ := seq_e h
      refine CJ_cutT (X := (List Bool)) [10, 24, 25, 26, 27, 28, 29, 30, 31, 32, 138, 139, 140, 141, 142, 143, 144, 145, 146, 147, 148, 149, 150, 151, 152, 153, 154, 155, 156, 157, 158, 159, 160, 161, 162, 163, 164, 165, 166, 167, 168, 169, 170, 171, 172, 173, 174, 175, 176, 177, 178, 179, 180, 181, 182, 183, 184, 185, 186, 187, 188, 189, 190, 191, 192, 193, 194, 195, 196] (fun a69 => ([] : Slots)) (fun a69 R => sl tyB (.slice (some ⟨b26, 0, none⟩) ((r13.2.1).toNat) ((r13.2.1).toNat)) a69 :: R) (fun a69 => y67 = .inl a69) (Dels.cons del1 Dels.nil) ?_ ?_
      ·
       refine CJ_block <| CJ_loopR (X := Nat × (List Bool) × Nat) [10, 24, 25, 26, 27, 28, 29, 30, 31, 32, 138, 139, 140, 141, 142, 143, 144, 145, 146, 147, 148, 149, 150, 151, 152, 153, 154, 155, 156, 157, 158, 159, 160, 161, 162, 163, 164, 165, 166, 167, 168, 169, 170, 171, 172, 173, 174, 175, 176, 177, 178, 179, 180, 181, 182, 183, 184, 185, 186, 187, 188, 189, 190, 191, 192, 193, 194, 195, 196] (fun ⟨n, x70, x71⟩ => ([(24, .int .i64 (((x71 : Nat) : Int)))] : Slots)) (fun ⟨n, x70, x71⟩ R => sl tyB (.slice (some ⟨b26, 0, none⟩) ((r13.2.1).toNat) ((r13.2.1).toNat)) x70 :: R) (fun ⟨n, x70, x71⟩ => volumegrouplaw19_ParityvolScrubs_l2 r13 r24 a31 n x70 x71 = some y67) (fun ⟨n, x70, x71⟩ => n) ⟨FUEL, (List.replicate ((r13.2.1).toNat) false), 0⟩ ?_ ?_ (t1_ eR) ?_
       · exact hl65
       · exact ⟨rfl, True.intro⟩
       ·
        rintro ⟨n, x70, x71⟩ h
        cases n with
        | zero => exact none_e h
        | succ n => ?_
        replace h : volumegrouplaw19_ParityvolScrubs_l2_b r13 r24 a31 (volumegrouplaw19_ParityvolScrubs_l2 r13 r24 a31 n) x70 x71 = some y67 := h
        unfold volumegrouplaw19_ParityvolScrubs_l2_b at h
        show CJ _ _ _ _ _ (([(24, .int .i64 (((x71 : Nat) : Int)))] : Slots) ++ forget _ _) (sl tyB (.slice (some ⟨b26, 0, none⟩) ((r13.2.1).toNat) ((r13.2.1).toNat)) x70 :: _)
        refine lC del0 fun hlen72 => CJ_seq <| CJ_seq <| CJ_entX (Ent.transX (t2_ eR) (OwnP_open (l := r24.2.1))) fun oc73 => lC del5 fun hlen75 => lC del6 fun hlen76 => CJ_entX (Ent.transX (t4_ eR) Trk_open) fun tc77 => CJ_pur fun hS78 => CJ_region <| oM rfl rfl <| oM rfl rfl <| oP (P_nilCheck rfl) rfl <| oP (P_fieldAddr rfl ⟨_, _, _, Tryz.runUnderlying37, rfl, rfl, Tryz.sizeOf34, rfl⟩) rfl <| oV (V_load rfl foc3 rfl Tryz.isAgg34) rfl <| oP (P_nilCheck rfl) rfl <| oP (P_fieldAddr rfl ⟨_, _, _, Tryz.runUnderlying56, rfl, rfl, Tryz.sizeOf54, rfl⟩) rfl <| oV (V_load rfl foc0 rfl Tryz.isAgg54) rfl <| oV (VJ_eq (V_len rfl foc1 (Reads.sl _ _ _) Tryz.runUnderlying54) (congrArg (fun z : Nat => Value.int .i64 (z : Int)) hS78.len.symm)) rfl <| oP (P_lss (a := ((x71 : Nat) : Int)) (b := ((r24.2.1.T.length : Nat) : Int)) rfl rfl) rfl <| RJ_nil <| QJ_ent (Ent.trans (t0_ (t0_ (t0_ eR))) (Trk_close hS78)) <| QJ_ent (Ent.trans (t1_ (t1_ (t1_ (t1_ eR)))) (OwnP_mk (v0 := r24.2.1.Open_1) (v1 := r24.2.1.X) (v2 := r24.2.1.T) (v3 := r24.2.1.Stale) (v4 := r24.2.1.Lost) (h0 := oc73.1) (h1 := oc73.2.1) (h2 := oc73.2.2.1) (h3 := oc73.2.2.2.1) (h4 := oc73.2.2.2.2.1) (h5 := oc73.2.2.2.2.2))) <| QJ_then <| CJ_condP rfl bT_dec (fun hg16 => ?_) (fun hg16 => ?_)
        ·
         replace h := ite_t hg16 h
         refine kT <| CJ_seq <| CJ_block <| sR <| oM rfl rfl <| oM rfl rfl <| oM rfl rfl ?_
         obtain ⟨r79, hr80, h⟩ := bind_e h
         refine oO <| O_call (L_volumegroupref18_Place hr80) rfl Tryz.call22 Dels.nil rfl fun _ _ => oM rfl rfl <| oP (P_extract rfl rfl) rfl <| oP (P_extract rfl rfl) rfl <| oP (P_extract rfl rfl) rfl <| oP (P_extract rfl rfl) rfl <| oA rfl rfl <| oA rfl rfl <| oA rfl rfl <| oA rfl rfl <| nT <| sR <| oA rfl rfl <| nT <| CJ_seq <| sR <| oA rfl rfl <| nT <| CJ_ent (fun h hh => sl_nil (t := tyU) h hh) ?_
         obtain ⟨y84, hl82, hK83⟩ := seq_e h
         refine CJ_cutT (X := (List UInt64) × Sl3) [10, 29, 30, 31, 32, 159, 160, 161, 162, 163, 164, 165, 166, 167, 168, 169, 170, 171, 172, 173, 174, 175, 176, 177, 178, 179, 180] (fun ⟨a87, hd86⟩ => ([(29, hd86.v)] : Slots)) (fun ⟨a87, hd86⟩ R => sl tyU hd86.v a87 :: R) (fun ⟨a87, hd86⟩ => y84 = .inl a87) (Dels.cons del0 Dels.nil) ?_ ?_
         ·
          refine CJ_block <| CJ_loopR (X := Nat × (List UInt64) × Nat × Sl3) [10, 29, 30, 31, 32, 159, 160, 161, 162, 163, 164, 165, 166, 167, 168, 169, 170, 171, 172, 173, 174, 175, 176, 177, 178, 179, 180] (fun ⟨n, x88, x90, hd89⟩ => ([(29, hd89.v), (30, .int .i64 (((x90 : Nat) : Int)))] : Slots)) (fun ⟨n, x88, x90, hd89⟩ R => sl tyU hd89.v x88 :: R) (fun ⟨n, x88, x90, hd89⟩ => volumegrouplaw19_ParityvolScrubs_l3 r13 a31 r79 n x88 x90 = some y84) (fun ⟨n, x88, x90, hd89⟩ => n) ⟨FUEL, [], 0, ⟨none, 0, 0⟩⟩ ?_ ?_ eR ?_
          · exact hl82
          · exact ⟨rfl, rfl, True.intro⟩
          ·
           rintro ⟨n, x88, x90, hd89⟩ h
           cases n with
           | zero => exact none_e h
           | succ n => ?_
           replace h : volumegrouplaw19_ParityvolScrubs_l3_b r13 a31 r79 (volumegrouplaw19_ParityvolScrubs_l3 r13 a31 r79 n) x88 x90 = some y84 := h
           unfold volumegrouplaw19_ParityvolScrubs_l3_b at h
           show CJ _ _ _ _ _ (([(29, hd89.v), (30, .int .i64 (((x90 : Nat) : Int)))] : Slots) ++ forget _ _) (sl tyU hd89.v x88 :: _)
           refine lC del0 fun hlen91 => CJ_seq <| sR <| oM rfl rfl <| oM rfl rfl <| oP (P_lss (a := ((x90 : Nat) : Int)) (b := r13.1) rfl rfl) rfl <| nT <| CJ_condP rfl bT_dec (fun hg17 => ?_) (fun hg17 => ?_)
           ·
            replace h := ite_t hg17 h
            refine kT <| CJ_seq <| CJ_block <| CJ_seq <| CJ_entX (Ent.transX (t1_ eR) (OwnP_open (l := r24.2.1))) fun oc92 => lC del5 fun hlen94 => lC del6 fun hlen95 => CJ_region <| oM rfl rfl <| oP (P_nilCheck rfl) rfl <| oP (P_fieldAddr rfl ⟨_, _, _, Tryz.runUnderlying37, rfl, rfl, Tryz.sizeOf30, rfl⟩) rfl <| oV (V_load rfl foc0 rfl Tryz.isAgg30) rfl <| oM rfl rfl <| oM rfl rfl ?_
            obtain ⟨hg18, h⟩ := grd_Ie h
            refine oP (P_add (a := (16 : Int)) (b := r79.2.1) rfl rfl hg18) rfl <| oO <| O_call (c_Read) rfl Tryz.call16 (Dels.cons del9 Dels.nil) rfl fun _ _ => oM rfl rfl <| oP (P_extract rfl rfl) rfl <| oP (P_extract rfl rfl) rfl <| oA rfl rfl <| oA rfl rfl <| RJ_nil <| QJ_ent (Ent.trans (t1_ (t1_ (t1_ (t1_ (t1_ (t1_ (t1_ eR))))))) (OwnP_mk (v0 := r24.2.1.Open_1) (v1 := r24.2.1.X) (v2 := r24.2.1.T) (v3 := r24.2.1.Stale) (v4 := r24.2.1.Lost) (h0 := oc92.1) (h1 := oc92.2.1) (h2 := oc92.2.2.1) (h3 := oc92.2.2.2.1) (h4 := oc92.2.2.2.2.1) (h5 := oc92.2.2.2.2.2))) <| QJ_then <| CJ_seq <| sR <| oM rfl rfl <| oP (P_neq (a := (rdC a31 (((x90 : Nat) : Int)) (((16 : Int) + r79.2.1)))) (b := (0 : Int)) rfl rfl) rfl <| nT <| CJ_condP rfl bT_dec (fun hg19 => ?_) (fun hg19 => ?_)
            ·
             replace h := ite_t hg19 h
             refine sR <| oA rfl rfl <| nT <| CJ_ret <| QJ_then_ret <| QJ_block_ret <| QJ_then_ret <| QJ_round_ret <| QJ_block_ret <| QJ_then_ret <| QJ_block_ret <| QJ_then_ret <| QJ_round_ret <| QJ_block_ret <| QJ_then_ret ?_
             have hE := Option.some.inj h
             replace hE := seq_inr hK83 hE.symm
             replace hE := seq_inr hK66 hE.symm
             subst hE
             exact fE (res1 Tryz.results9 rfl) () (t4_ (t4_ (eD (eD (eD (eD eR))))))
            ·
             replace h := ite_f hg19 h
             refine kT <| CJ_region <| oM rfl rfl <| oM rfl rfl <| oO <| O_buildSlice rfl (bs_43_1_0 _) rfl fun b96 => ?_
             obtain ⟨hg20, h⟩ := grd_Le h
             refine oO <| O_append (t := tyU) (bytes := 8) rfl rfl del3 foc0 (Reads.lit (t := tyU) (ys := [(rdV a31 (((x90 : Nat) : Int)) (((16 : Int) + r79.2.1)))]) rfl rfl (by decide) (by decide) rfl) Tryz.underlying43 ok_tyU (apl (m := 1) (b := 8) hg20 (by decide)).1 (apl (m := 1) (b := 8) hg20 (by decide)).2 rfl fun p98 c99 => oA rfl rfl <| RJ_nil <| QJ_block_normal <| QJ_ent (t0_ (t1_ (t1_ (t1_ (t1_ (t1_ (eD eR))))))) <| QJ_then <| CJ_region <| oM rfl rfl ?_
             obtain ⟨hg21, h⟩ := grd_Ne h
             exact oP (PJ_eq (P_add (a := ((x90 : Nat) : Int)) (b := (1 : Int)) rfl rfl (nat_in hg21)) rfl) rfl <| oA rfl rfl <| RJ_nil <| nR ⟨n, (x88 ++ [(rdV a31 (((x90 : Nat) : Int)) (((16 : Int) + r79.2.1)))]), (x90 + 1), ⟨p98, (x88 ++ [(rdV a31 (((x90 : Nat) : Int)) (((16 : Int) + r79.2.1)))]).length, c99⟩⟩ h ⟨rfl, rfl, True.intro⟩ (t0_ (t0_ (t1_ eR)))
           ·
            replace h := ite_f hg17 h
            exact CJ_exit <| QJ_then_exit <| QJ_round_exit <| QJ_block_here <| cR ⟨x88, hd89⟩ (Option.some.inj h).symm ⟨rfl, True.intro⟩ eR
         ·
          rintro ⟨a87, hd86⟩ hy100
          replace h := seq_inl hK83 hy100
          show CJ _ _ _ _ _ (([(29, hd86.v)] : Slots) ++ forget _ _) (sl tyU hd86.v a87 :: _)
          refine lC del0 fun hlen101 => AJ_startH 65536 (by kernel_rfl) rfl <| aN 0 1 rfl rfl (P_move rfl) rfl <| aN 1 3 rfl rfl (P_move rfl) rfl <| aN 2 7 rfl rfl (P_move rfl) rfl ?_
          obtain ⟨hg22, h⟩ := grd_de h
          refine aN 3 15 rfl rfl (P_quoT (a := r79.2.1) (b := r13.2.2) rfl rfl hg22) rfl <| aN 4 31 rfl rfl (P_move rfl) rfl <| aN 5 63 rfl rfl (P_move rfl) rfl <| aN 6 127 rfl rfl (P_move rfl) rfl ?_
          obtain ⟨hg23, h⟩ := grd_de h
          refine aN 7 255 rfl rfl (P_quoT (a := r79.2.1) (b := r13.2.2) rfl rfl hg23) rfl ?_
          obtain ⟨hg24, h⟩ := grd_de h
          refine aV 8 511 rfl rfl (GY_none rfl) eR (V_index (i := ((IntKind.i64.wrap (r79.2.1.tdiv r13.2.2))).toNat) rfl rfl (Int.toNat_of_nonneg (hg24.1)).symm (by omega) foc2 (Reads.sl _ _ _) Tryz.runUnderlying86 Tryz.sizeOf4) rfl <| aV 9 1023 rfl rfl (GY_none rfl) eR (V_loadE rfl rfl (by omega) foc2 (Reads.sl _ _ _) rfl rfl Tryz.isAgg4) rfl <| aN 10 2047 rfl rfl (P_move rfl) rfl <| AJ_splitP 191 rfl Iff.rfl (fun hg25B hg25 => ?_) (fun hg25B hg25 => ?_)
          ·
           replace h := ite_t hg25 h
           refine aS 11 4095 rfl rfl (GY_no rfl rfl rfl hg25B) rfl <| aS 12 8191 rfl rfl (GY_no rfl rfl rfl hg25B) rfl <| aS 13 16383 rfl rfl (GY_no rfl rfl rfl hg25B) rfl <| aN 14 32767 rfl rfl (P_pickT rfl hg25B rfl) rfl ?_
           obtain ⟨hg26, h⟩ := grd_de h
           refine aV 15 65535 rfl rfl (GY_none rfl) eR (V_index (i := ((IntKind.i64.wrap (r79.2.1.tdiv r13.2.2))).toNat) rfl rfl (Int.toNat_of_nonneg (hg26.1)).symm (by omega) foc2 (Reads.sl _ _ _) Tryz.runUnderlying86 Tryz.sizeOf4) rfl <| AJ_op 16 131071 rfl (by kernel_rfl) rfl (GY_none rfl) <| O_storeE (x' := true) rfl rfl rfl (by omega) foc2 rfl rfl rfl Tryz.sizeOf4 <| ⟨fun h => absurd h (by decide), ?_⟩
           refine AJ_done (by kernel_rfl) <| QJ_block_normal <| QJ_then <| CJ_region <| oM rfl rfl ?_
           obtain ⟨hg27, h⟩ := grd_Ne h
           exact oP (PJ_eq (P_add (a := ((x71 : Nat) : Int)) (b := (1 : Int)) rfl rfl (nat_in hg27)) rfl) rfl <| oA rfl rfl <| RJ_nil <| nR ⟨n, (x70.set (((IntKind.i64.wrap (r79.2.1.tdiv r13.2.2))).toNat) true), (x71 + 1)⟩ h ⟨rfl, True.intro⟩ (t2_ (t2_ (t1_ (t1_ (t1_ (eD eR))))))
          ·
           replace h := ite_f hg25 h
           refine aP 11 4095 rfl rfl (GY_yes rfl rfl rfl hg25B) (P_move rfl) rfl ?_
           obtain ⟨r102, hr103, h⟩ := bind_e h
           refine AJ_op 12 8191 rfl (by kernel_rfl) rfl (GY_yes rfl rfl rfl hg25B) <| O_call (L_volumegroupref18_Xor (Reads.sl _ _ _) hr103) rfl Tryz.call17 (Dels.cons del0 Dels.nil) rfl fun _ _ => ⟨fun _ => eR, ?_⟩
           refine aP 13 16383 rfl rfl (GY_yes rfl rfl rfl hg25B) (P_ne_u64 (a := r102) (b := (0 : UInt64)) rfl rfl) rfl <| aN 14 32767 rfl rfl (P_pickF rfl hg25B rfl) rfl ?_
           obtain ⟨hg28, h⟩ := grd_de h
           refine aV 15 65535 rfl rfl (GY_none rfl) eR (V_index (i := ((IntKind.i64.wrap (r79.2.1.tdiv r13.2.2))).toNat) rfl rfl (Int.toNat_of_nonneg (hg28.1)).symm (by omega) foc2 (Reads.sl _ _ _) Tryz.runUnderlying86 Tryz.sizeOf4) rfl <| AJ_op 16 131071 rfl (by kernel_rfl) rfl (GY_none rfl) <| O_storeE (x' := (decide (r102 ≠ (0 : UInt64)))) rfl rfl rfl (by omega) foc2 rfl rfl rfl Tryz.sizeOf4 <| ⟨fun h => absurd h (by decide), ?_⟩
           refine AJ_done (by kernel_rfl) <| QJ_block_normal <| QJ_then <| CJ_region <| oM rfl rfl ?_
           obtain ⟨hg29, h⟩ := grd_Ne h
           exact oP (PJ_eq (P_add (a := ((x71 : Nat) : Int)) (b := (1 : Int)) rfl rfl (nat_in hg29)) rfl) rfl <| oA rfl rfl <| RJ_nil <| nR ⟨n, (x70.set (((IntKind.i64.wrap (r79.2.1.tdiv r13.2.2))).toNat) ((decide (r102 ≠ (0 : UInt64))))), (x71 + 1)⟩ h ⟨rfl, True.intro⟩ (t2_ (t2_ (t1_ (t1_ (t1_ (eD eR))))))
        ·
         replace h := ite_f hg16 h
         exact CJ_exit <| QJ_then_exit <| QJ_round_exit <| QJ_block_here <| cR x70 (Option.some.inj h).symm True.intro (t1_ (t1_ eR))
      ·
       rintro a69 hy104
       replace h := seq_inl hK66 hy104
       show CJ _ _ _ _ _ (([] : Slots) ++ forget _ _) (sl tyB (.slice (some ⟨b26, 0, none⟩) ((r13.2.1).toNat) ((r13.2.1).toNat)) a69 :: _)
       refine lC del0 fun hlen105 => CJ_seq <| CJ_entX (Ent.transX (t2_ eR) (OwnP_open (l := r24.2.1))) fun oc106 => lC del5 fun hlen108 => lC del6 fun hlen109 => CJ_region <| oM rfl rfl <| oP (P_nilCheck rfl) rfl <| oP (P_fieldAddr rfl ⟨_, _, _, Tryz.runUnderlying37, rfl, rfl, Tryz.sizeOf30, rfl⟩) rfl <| oV (V_load rfl foc0 rfl Tryz.isAgg30) rfl ?_
       obtain ⟨r110, hr111, h⟩ := bind_e h
       refine oO <| O_call (L_volumegroupmake_Spans hr111) rfl Tryz.call24 (Dels.cons del8 Dels.nil) rfl fun X112 _ => RJ_pure (fun h hh => Rs_len (stars_perm (del2 (A := Rs (DevP X17.2) r110 X112.2)).out h hh)) fun hdl115 => oM rfl rfl <| RJ_ent (fun h hh => sl_nil (t := tyI) h hh) ?_
       obtain ⟨r117, hr118, h⟩ := bind_e h
       refine oO <| O_call (L_parityvol_Open (Reads.sl _ _ _) (Reads.sl _ _ _) hr118) rfl Tryz.call26 (Dels.cons del2 (Dels.cons del2 (Dels.cons del0 (Dels.cons del0 Dels.nil)))) rfl fun X119 _ => oM rfl rfl <| oP (P_extract rfl rfl) rfl <| oP (P_extract rfl rfl) rfl <| oA rfl rfl <| oA rfl rfl <| RJ_nil <| QJ_ent (Ent.trans (t5_ (t5_ (t5_ (t5_ (t5_ (t5_ (t5_ eR))))))) (OwnP_mk (v0 := r24.2.1.Open_1) (v1 := r24.2.1.X) (v2 := r24.2.1.T) (v3 := r24.2.1.Stale) (v4 := r24.2.1.Lost) (h0 := oc106.1) (h1 := oc106.2.1) (h2 := oc106.2.2.1) (h3 := oc106.2.2.2.1) (h4 := oc106.2.2.2.2.1) (h5 := oc106.2.2.2.2.2))) <| QJ_ent (t0_ (t3_ (t3_ (t3_ (t3_ (t3_ (eD (eD (eD eR))))))))) <| QJ_then <| CJ_seq <| sR <| oM rfl rfl <| oP (P_neq (a := r117.2.1) (b := (0 : Int)) rfl rfl) rfl <| oM rfl rfl <| RJ_mbF rfl rfl rfl (fun hG121 => have hP122 : ¬ (r117.2.1 ≠ (0 : Int)) := nP (bT_dec) hG121; VJ_P (P_move rfl)) <| RJ_splitP 209 rfl bT_dec (fun hg30B hg30 => ?_) (fun hg30B hg30 => ?_)
       ·
        replace h := ite_t hg30 h
        refine RJ_gn (GY_no rfl rfl rfl hg30B) rfl rfl <| oP (P_pickT rfl hg30B rfl) rfl <| nT <| CJ_condT rfl rfl <| sR <| oA rfl rfl <| nT <| CJ_ret <| QJ_then_ret ?_
        cases h
        exact fE (res1 Tryz.results9 rfl) () (t4_ (t4_ (eD (eD (eD (eD eR))))))
       ·
        replace h := ite_f hg30 h
        rcases opt_e h with ⟨ht125, h⟩ | ⟨o126, ht125, h⟩
        ·
         rw [ht125]
         refine RJ_ent (t0_ (t0_ (t1_ (t1_ (t1_ (eD eR)))))) <| gP (GY_yes rfl rfl rfl hg30B) (P_eqlNN (mbx (not_f hg30B) rfl) rfl Tryz.underlying65) rfl <| oP (P_pickF rfl hg30B rfl) rfl <| nT <| CJ_condT rfl rfl <| sR <| oA rfl rfl <| nT <| CJ_ret <| QJ_then_ret ?_
         cases h
         exact fE (res1 Tryz.results9 rfl) () (t3_ (t3_ (eD (eD (eD eR)))))
        ·
         rw [ht125]
         refine RJ_ent (Ent.takeC (A' := VolP X17.2 X119 o126) del2 rfl eR) <| gP (GY_yes rfl rfl rfl hg30B) (P_eqlPN (mbx (not_f hg30B) rfl) rfl Tryz.underlying65) rfl <| oP (P_pickF rfl hg30B rfl) rfl <| nT <| CJ_condF rfl rfl <| kT <| CJ_seq <| AJ_startH 0 (by kernel_rfl) rfl <| aN 0 1 rfl rfl (P_move rfl) rfl <| aN 1 3 rfl rfl (P_convSame rfl Tryz.runUnderlying5 Tryz.runUnderlying3 (wrap64_u _ (by have h9 := row.toNat_lt; exact (by omega : row.toNat < 9223372036854775808)))) rfl <| aN 2 7 rfl rfl (P_move rfl) rfl ?_
         obtain ⟨hg31, h⟩ := grd_Ie h
         refine aN 3 15 rfl rfl (P_add (a := r13.2.1) (b := (1 : Int)) rfl rfl hg31) rfl <| aN 4 31 rfl rfl (P_remT (a := ((row.toNat : Nat) : Int)) (b := (r13.2.1 + (1 : Int))) rfl rfl (by omega)) rfl <| aN 5 63 rfl rfl (P_move rfl) rfl <| aN 6 127 rfl rfl (P_move rfl) rfl <| aN 7 255 rfl rfl (P_convSame rfl Tryz.runUnderlying5 Tryz.runUnderlying3 (wrap64_u _ (by have h9 := row.toNat_lt; exact (by omega : row.toNat < 9223372036854775808)))) rfl <| aN 8 511 rfl rfl (P_move rfl) rfl ?_
         obtain ⟨hg32, h⟩ := grd_Ie h
         refine aN 9 1023 rfl rfl (P_add (a := r13.2.1) (b := (1 : Int)) rfl rfl hg32) rfl <| aN 10 2047 rfl rfl (P_remT (a := ((row.toNat : Nat) : Int)) (b := (r13.2.1 + (1 : Int))) rfl rfl (by omega)) rfl <| aN 11 4095 rfl rfl (P_move rfl) rfl <| aN 12 8191 rfl rfl (P_convSame rfl Tryz.runUnderlying5 Tryz.runUnderlying3 (wrap64_u _ (by have h9 := many.toNat_lt; exact (by omega : many.toNat < 9223372036854775808)))) rfl <| aN 13 16383 rfl rfl (PJ_eq (P_rem (a := ((many.toNat : Nat) : Int)) (b := (4 : Int)) rfl rfl (by omega)) rfl) rfl ?_
         obtain ⟨hg33, h⟩ := grd_Ie h
         refine aN 14 32767 rfl rfl (P_add (a := ((((row.toNat : Nat) : Int)).tmod ((r13.2.1 + (1 : Int))))) (b := (((many.toNat % 4) : Nat) : Int)) rfl rfl hg33) rfl ?_
         obtain ⟨w127, hw127, h⟩ := lt_e h
         rw [← hw127]
         refine aN 15 65535 rfl rfl (P_min (a := r13.2.1) (b := w127) rfl rfl) rfl <| aN 16 131071 rfl rfl (P_assign rfl) rfl <| aN 17 262143 rfl rfl (P_assign rfl) rfl <| aD <| sR <| oM rfl rfl <| oM rfl rfl <| oM rfl rfl <| oP (P_convSame rfl Tryz.runUnderlying5 Tryz.runUnderlying3 (wrap64_u _ (by have h9 := many.toNat_lt; exact (by omega : many.toNat < 9223372036854775808)))) rfl <| oP (PJ_eq (P_rem (a := ((many.toNat : Nat) : Int)) (b := (4 : Int)) rfl rfl (by omega)) rfl) rfl ?_
         obtain ⟨r128, hr129, h⟩ := bind_e h
         refine oO <| O_call (L_parityvol_Volume_Scrub hr129) rfl Tryz.call30 (Dels.cons del0 (Dels.cons del1 Dels.nil)) rfl fun X130 _ => oM rfl rfl <| oP (P_extract (v := X130.v) rfl rfl) rfl <| oP (P_extract rfl rfl) rfl <| oA rfl rfl <| oA rfl rfl <| nT <| sR <| oM rfl rfl <| oM rfl rfl ?_
         obtain ⟨r132, hr133, h⟩ := bind_e h
         refine oO <| O_call (L_parityvol_Volume_Scrub hr133) rfl Tryz.call30 (Dels.cons del0 (Dels.cons del0 Dels.nil)) rfl fun X134 _ => oM rfl rfl <| oP (P_extract (v := X134.v) rfl rfl) rfl <| oP (P_extract rfl rfl) rfl <| oA rfl rfl <| oA rfl rfl <| nT <| CJ_seq <| sR <| oM rfl rfl <| oP (P_neq (a := r128.2.1) (b := (0 : Int)) rfl rfl) rfl <| oM rfl rfl <| RJ_mbF rfl rfl rfl (fun hG136 => have hP137 : ¬ (r128.2.1 ≠ (0 : Int)) := nP (bT_dec) hG136; VJ_P (P_move rfl)) <| RJ_mbF rfl rfl rfl (fun hG138 => have hP139 : ¬ (r128.2.1 ≠ (0 : Int)) := nP (bT_dec) hG138; VJ_P (P_neq (a := r132.2.1) (b := (0 : Int)) (mbx hG138 rfl) rfl)) <| oP (P_pickOr rfl rfl (fun hh => mbx (not_f hh) rfl)) rfl <| nT <| CJ_condP rfl (bT_or bT_dec bT_dec) (fun hg34 => ?_) (fun hg34 => ?_)
         ·
          replace h := ite_t hg34 h
          refine sR <| oA rfl rfl <| RJ_nil <| QJ_ent (t1_ (t5_ (t5_ (eD (eD (eD (eD (eD eR)))))))) <| QJ_then <| CJ_ret <| QJ_then_ret ?_
          cases h
          exact fE (res1 Tryz.results9 rfl) () (t1_ (t1_ (eD eR)))
         ·
          replace h := ite_f hg34 h
          refine kT <| CJ_seq <| sR <| oA rfl rfl <| nT ?_
          obtain ⟨y142, hl140, hK141⟩ := seq_e h
          refine CJ_cutT (X := Unit) [10, 40, 250, 251, 252, 253, 254, 255, 256, 257, 258, 259, 260, 261, 262, 263, 264, 265, 266, 267, 268, 269, 270, 271, 272, 273, 274, 275, 276, 277, 278, 279, 280, 281, 282, 283, 284, 285, 286, 287, 288, 289, 290, 291, 292, 293, 294, 295] (fun _ => ([] : Slots)) (fun _ R => R) (fun _ => y142 = .inl ()) Dels.nil ?_ ?_
          ·
           refine CJ_block <| CJ_loopR (X := Nat × Nat) [10, 40, 250, 251, 252, 253, 254, 255, 256, 257, 258, 259, 260, 261, 262, 263, 264, 265, 266, 267, 268, 269, 270, 271, 272, 273, 274, 275, 276, 277, 278, 279, 280, 281, 282, 283, 284, 285, 286, 287, 288, 289, 290, 291, 292, 293, 294, 295] (fun ⟨n, x144⟩ => ([(40, .int .i64 (((x144 : Nat) : Int)))] : Slots)) (fun ⟨n, x144⟩ R => R) (fun ⟨n, x144⟩ => volumegrouplaw19_ParityvolScrubs_l4 row r13 a69 w127 r128 n x144 = some y142) (fun ⟨n, x144⟩ => n) ⟨FUEL, 0⟩ ?_ ?_ eR ?_
           · exact hl140
           · exact ⟨rfl, True.intro⟩
           ·
            rintro ⟨n, x144⟩ h
            cases n with
            | zero => exact none_e h
            | succ n => ?_
            replace h : volumegrouplaw19_ParityvolScrubs_l4_b row r13 a69 w127 r128 (volumegrouplaw19_ParityvolScrubs_l4 row r13 a69 w127 r128 n) x144 = some y142 := h
            unfold volumegrouplaw19_ParityvolScrubs_l4_b at h
            show CJ _ _ _ _ _ (([(40, .int .i64 (((x144 : Nat) : Int)))] : Slots) ++ forget _ _) (_)
            refine CJ_seq <| sR <| oM rfl rfl <| oM rfl rfl <| oV (V_len rfl foc3 (Reads.sl _ _ _) Tryz.runUnderlying35) rfl <| oP (P_lss (a := ((x144 : Nat) : Int)) (b := ((r128.1.length : Nat) : Int)) rfl rfl) rfl <| nT <| CJ_condP rfl bT_dec (fun hg35 => ?_) (fun hg35 => ?_)
            ·
             replace h := ite_t hg35 h
             refine kT <| CJ_seq <| CJ_block <| CJ_seq <| AJ_startH 0 (by kernel_rfl) rfl <| aN 0 1 rfl rfl (P_move rfl) rfl <| aN 1 3 rfl rfl (P_move rfl) rfl <| aV 2 7 rfl rfl (GY_none rfl) eR (V_index (i := x144) rfl rfl rfl (by omega) foc3 (Reads.sl _ _ _) Tryz.runUnderlying35 Tryz.sizeOf3) rfl <| aV 3 15 rfl rfl (GY_none rfl) eR (V_loadE rfl rfl (by omega) foc3 (Reads.sl _ _ _) rfl rfl Tryz.isAgg3) rfl <| aN 4 31 rfl rfl (P_move rfl) rfl <| aN 5 63 rfl rfl (P_lss (a := (r128.1.getD x144 0)) (b := ((((row.toNat : Nat) : Int)).tmod ((r13.2.1 + (1 : Int))))) rfl rfl) rfl <| aN 6 127 rfl rfl (P_move rfl) rfl <| AJ_splitP 262 rfl bT_dec (fun hg36B hg36 => ?_) (fun hg36B hg36 => ?_)
             ·
              replace h := ite_t hg36 h
              refine aS 7 255 rfl rfl (GY_no rfl rfl rfl hg36B) rfl <| aS 8 511 rfl rfl (GY_no rfl rfl rfl hg36B) rfl <| aS 9 1023 rfl rfl (GY_no rfl rfl rfl hg36B) rfl <| aS 10 2047 rfl rfl (GY_no rfl rfl rfl hg36B) rfl <| aS 11 4095 rfl rfl (GY_no rfl rfl rfl hg36B) rfl <| aS 12 8191 rfl rfl (GY_no rfl rfl rfl hg36B) rfl <| aN 13 16383 rfl rfl (P_pickT rfl hg36B rfl) rfl <| aN 14 32767 rfl rfl (P_move rfl) rfl <| aS 15 65535 rfl rfl (GY_no rfl rfl rfl rfl) rfl <| aS 16 131071 rfl rfl (GY_no rfl rfl rfl rfl) rfl <| aS 17 262143 rfl rfl (GY_no rfl rfl rfl rfl) rfl <| aS 18 524287 rfl rfl (GY_no rfl rfl rfl rfl) rfl <| aS 19 1048575 rfl rfl (GY_no rfl rfl rfl rfl) rfl <| aS 20 2097151 rfl rfl (GY_no rfl rfl rfl rfl) rfl <| aS 21 4194303 rfl rfl (GY_no rfl rfl rfl rfl) rfl <| aS 22 8388607 rfl rfl (GY_no rfl rfl rfl rfl) rfl <| aN 23 16777215 rfl rfl (P_pickT rfl rfl rfl) rfl <| aN 24 33554431 rfl rfl (P_move rfl) rfl <| aS 25 67108863 rfl rfl (GY_no rfl rfl rfl rfl) rfl <| aS 26 134217727 rfl rfl (GY_no rfl rfl rfl rfl) rfl <| aS 27 268435455 rfl rfl (GY_no rfl rfl rfl rfl) rfl <| aS 28 536870911 rfl rfl (GY_undef rfl rfl rfl) rfl <| aS 29 1073741823 rfl rfl (GY_undef rfl rfl rfl) rfl <| aS 30 2147483647 rfl rfl (GY_undef rfl rfl rfl) rfl <| aS 31 4294967295 rfl rfl (GY_undef rfl rfl rfl) rfl <| aS 32 8589934591 rfl rfl (GY_undef rfl rfl rfl) rfl <| aS 33 17179869183 rfl rfl (GY_undef rfl rfl rfl) rfl <| aS 34 34359738367 rfl rfl (GY_undef rfl rfl rfl) rfl ?_
              refine aS 35 68719476735 rfl rfl (GY_undef rfl rfl rfl) rfl <| aS 36 137438953471 rfl rfl (GY_undef rfl rfl rfl) rfl <| aS 37 274877906943 rfl rfl (GY_undef rfl rfl rfl) rfl <| aS 38 549755813887 rfl rfl (GY_no rfl rfl rfl rfl) rfl <| aN 39 1099511627775 rfl rfl (P_pickT rfl rfl rfl) rfl <| aD <| CJ_condT rfl rfl <| sR <| oA rfl rfl <| nT <| CJ_ret <| QJ_block_ret <| QJ_then_ret <| QJ_round_ret <| QJ_block_ret <| QJ_then_ret ?_
              have hE := Option.some.inj h
              replace hE := seq_inr hK141 hE.symm
              subst hE
              exact fE (res1 Tryz.results9 rfl) () (t6_ (t6_ (eD (eD (eD (eD (eD (eD eR))))))))
             ·
              replace h := ite_f hg36 h
              refine aP 7 255 rfl rfl (GY_yes rfl rfl rfl hg36B) (P_move rfl) rfl <| aP 8 511 rfl rfl (GY_yes rfl rfl rfl hg36B) (P_move rfl) rfl <| aV 9 1023 rfl rfl (GY_yes rfl rfl rfl hg36B) eR (V_index (i := x144) rfl rfl rfl (by omega) foc3 (Reads.sl _ _ _) Tryz.runUnderlying35 Tryz.sizeOf3) rfl <| aV 10 2047 rfl rfl (GY_yes rfl rfl rfl hg36B) eR (V_loadE rfl rfl (by omega) foc3 (Reads.sl _ _ _) rfl rfl Tryz.isAgg3) rfl <| aP 11 4095 rfl rfl (GY_yes rfl rfl rfl hg36B) (P_move rfl) rfl <| aP 12 8191 rfl rfl (GY_yes rfl rfl rfl hg36B) (P_geq (a := (r128.1.getD x144 0)) (b := (min r13.2.1 w127)) rfl rfl) rfl <| aN 13 16383 rfl rfl (P_pickF rfl hg36B rfl) rfl <| aN 14 32767 rfl rfl (P_move rfl) rfl <| AJ_splitP 270 rfl bT_dec (fun hg37B hg37 => ?_) (fun hg37B hg37 => ?_)
              ·
               replace h := ite_t hg37 h
               refine aS 15 65535 rfl rfl (GY_no rfl rfl rfl hg37B) rfl <| aS 16 131071 rfl rfl (GY_no rfl rfl rfl hg37B) rfl <| aS 17 262143 rfl rfl (GY_no rfl rfl rfl hg37B) rfl <| aS 18 524287 rfl rfl (GY_no rfl rfl rfl hg37B) rfl <| aS 19 1048575 rfl rfl (GY_no rfl rfl rfl hg37B) rfl <| aS 20 2097151 rfl rfl (GY_no rfl rfl rfl hg37B) rfl <| aS 21 4194303 rfl rfl (GY_no rfl rfl rfl hg37B) rfl <| aS 22 8388607 rfl rfl (GY_no rfl rfl rfl hg37B) rfl <| aN 23 16777215 rfl rfl (P_pickT rfl hg37B rfl) rfl <| aN 24 33554431 rfl rfl (P_move rfl) rfl <| aS 25 67108863 rfl rfl (GY_no rfl rfl rfl rfl) rfl <| aS 26 134217727 rfl rfl (GY_no rfl rfl rfl rfl) rfl <| aS 27 268435455 rfl rfl (GY_no rfl rfl rfl rfl) rfl <| aS 28 536870911 rfl rfl (GY_undef rfl rfl rfl) rfl <| aS 29 1073741823 rfl rfl (GY_undef rfl rfl rfl) rfl <| aS 30 2147483647 rfl rfl (GY_undef rfl rfl rfl) rfl <| aS 31 4294967295 rfl rfl (GY_undef rfl rfl rfl) rfl <| aS 32 8589934591 rfl rfl (GY_undef rfl rfl rfl) rfl <| aS 33 17179869183 rfl rfl (GY_undef rfl rfl rfl) rfl <| aS 34 34359738367 rfl rfl (GY_undef rfl rfl rfl) rfl <| aS 35 68719476735 rfl rfl (GY_undef rfl rfl rfl) rfl <| aS 36 137438953471 rfl rfl (GY_undef rfl rfl rfl) rfl <| aS 37 274877906943 rfl rfl (GY_undef rfl rfl rfl) rfl <| aS 38 549755813887 rfl rfl (GY_no rfl rfl rfl rfl) rfl <| aN 39 1099511627775 rfl rfl (P_pickT rfl rfl rfl) rfl <| aD <| CJ_condT rfl rfl <| sR <| oA rfl rfl <| nT <| CJ_ret <| QJ_block_ret <| QJ_then_ret <| QJ_round_ret <| QJ_block_ret ?_
               refine QJ_then_ret ?_
               have hE := Option.some.inj h
               replace hE := seq_inr hK141 hE.symm
               subst hE
               exact fE (res1 Tryz.results9 rfl) () (t6_ (t6_ (eD (eD (eD (eD (eD (eD eR))))))))
              ·
               replace h := ite_f hg37 h
               refine aP 15 65535 rfl rfl (GY_yes rfl rfl rfl hg37B) (P_move rfl) rfl <| aP 16 131071 rfl rfl (GY_yes rfl rfl rfl hg37B) (P_move rfl) rfl <| aP 17 262143 rfl rfl (GY_yes rfl rfl rfl hg37B) (P_move rfl) rfl <| aV 18 524287 rfl rfl (GY_yes rfl rfl rfl hg37B) eR (V_index (i := x144) rfl rfl rfl (by omega) foc3 (Reads.sl _ _ _) Tryz.runUnderlying35 Tryz.sizeOf3) rfl <| aV 19 1048575 rfl rfl (GY_yes rfl rfl rfl hg37B) eR (V_loadE rfl rfl (by omega) foc3 (Reads.sl _ _ _) rfl rfl Tryz.isAgg3) rfl ?_
               obtain ⟨hg38, h⟩ := grd_de h
               refine aV 20 2097151 rfl rfl (GY_yes rfl rfl rfl hg37B) eR (V_index (i := ((r128.1.getD x144 0)).toNat) rfl rfl (Int.toNat_of_nonneg (hg38.1)).symm (by omega) foc5 (Reads.sl _ _ _) Tryz.runUnderlying86 Tryz.sizeOf4) rfl <| aV 21 4194303 rfl rfl (GY_yes rfl rfl rfl hg37B) eR (V_loadE rfl rfl (by omega) foc5 (Reads.sl _ _ _) rfl rfl Tryz.isAgg4) rfl <| aP 22 8388607 rfl rfl (GY_yes rfl rfl rfl hg37B) (P_not rfl) rfl <| aN 23 16777215 rfl rfl (P_pickF rfl hg37B rfl) rfl <| aN 24 33554431 rfl rfl (P_move rfl) rfl <| AJ_splitP 280 rfl (bT_not Iff.rfl) (fun hg39B hg39 => ?_) (fun hg39B hg39 => ?_)
               ·
                replace h := ite_t hg39 h
                refine aS 25 67108863 rfl rfl (GY_no rfl rfl rfl hg39B) rfl <| aS 26 134217727 rfl rfl (GY_no rfl rfl rfl hg39B) rfl <| aS 27 268435455 rfl rfl (GY_no rfl rfl rfl hg39B) rfl <| aS 28 536870911 rfl rfl (GY_undef rfl rfl rfl) rfl <| aS 29 1073741823 rfl rfl (GY_undef rfl rfl rfl) rfl <| aS 30 2147483647 rfl rfl (GY_undef rfl rfl rfl) rfl <| aS 31 4294967295 rfl rfl (GY_undef rfl rfl rfl) rfl <| aS 32 8589934591 rfl rfl (GY_undef rfl rfl rfl) rfl <| aS 33 17179869183 rfl rfl (GY_undef rfl rfl rfl) rfl <| aS 34 34359738367 rfl rfl (GY_undef rfl rfl rfl) rfl <| aS 35 68719476735 rfl rfl (GY_undef rfl rfl rfl) rfl <| aS 36 137438953471 rfl rfl (GY_undef rfl rfl rfl) rfl <| aS 37 274877906943 rfl rfl (GY_undef rfl rfl rfl) rfl <| aS 38 549755813887 rfl rfl (GY_no rfl rfl rfl hg39B) rfl <| aN 39 1099511627775 rfl rfl (P_pickT rfl hg39B rfl) rfl <| aD <| CJ_condT rfl rfl <| sR <| oA rfl rfl <| nT <| CJ_ret <| QJ_block_ret <| QJ_then_ret <| QJ_round_ret <| QJ_block_ret <| QJ_then_ret ?_
                have hE := Option.some.inj h
                replace hE := seq_inr hK141 hE.symm
                subst hE
                exact fE (res1 Tryz.results9 rfl) () (t6_ (t6_ (eD (eD (eD (eD (eD (eD eR))))))))
               ·
                replace h := ite_f hg39 h
                refine aP 25 67108863 rfl rfl (GY_yes rfl rfl rfl hg39B) (P_move rfl) rfl <| aP 26 134217727 rfl rfl (GY_yes rfl rfl rfl hg39B) (P_gtr (a := ((x144 : Nat) : Int)) (b := (0 : Int)) rfl rfl) rfl <| aP 27 268435455 rfl rfl (GY_yes rfl rfl rfl hg39B) (P_move rfl) rfl <| AJ_splitP 283 rfl bT_dec (fun hg40B hg40 => ?_) (fun hg40B hg40 => ?_)
                ·
                 replace h := ite_t hg40 h
                 refine aP 28 536870911 rfl rfl (GY_yes rfl rfl rfl hg40B) (P_move rfl) rfl <| aP 29 1073741823 rfl rfl (GY_yes rfl rfl rfl hg40B) (P_move rfl) rfl <| aV 30 2147483647 rfl rfl (GY_yes rfl rfl rfl hg40B) eR (V_index (i := x144) rfl rfl rfl (by omega) foc3 (Reads.sl _ _ _) Tryz.runUnderlying35 Tryz.sizeOf3) rfl <| aV 31 4294967295 rfl rfl (GY_yes rfl rfl rfl hg40B) eR (V_loadE rfl rfl (by omega) foc3 (Reads.sl _ _ _) rfl rfl Tryz.isAgg3) rfl <| aP 32 8589934591 rfl rfl (GY_yes rfl rfl rfl hg40B) (P_move rfl) rfl <| aP 33 17179869183 rfl rfl (GY_yes rfl rfl rfl hg40B) (P_move rfl) rfl ?_
                 obtain ⟨hg41, h⟩ := grd_Ie h
                 refine aP 34 34359738367 rfl rfl (GY_yes rfl rfl rfl hg40B) (P_sub (a := ((x144 : Nat) : Int)) (b := (1 : Int)) rfl rfl hg41) rfl <| aV 35 68719476735 rfl rfl (GY_yes rfl rfl rfl hg40B) eR (V_index (i := ((((x144 : Nat) : Int) - (1 : Int))).toNat) rfl rfl (Int.toNat_of_nonneg (by omega)).symm (by omega) foc3 (Reads.sl _ _ _) Tryz.runUnderlying35 Tryz.sizeOf3) rfl <| aV 36 137438953471 rfl rfl (GY_yes rfl rfl rfl hg40B) eR (V_loadE rfl rfl (by omega) foc3 (Reads.sl _ _ _) rfl rfl Tryz.isAgg3) rfl <| aP 37 274877906943 rfl rfl (GY_yes rfl rfl rfl hg40B) (P_leq (a := (r128.1.getD x144 0)) (b := (r128.1.getD (((((x144 : Nat) : Int) - (1 : Int))).toNat) 0)) rfl rfl) rfl <| aP 38 549755813887 rfl rfl (GY_yes rfl rfl rfl hg39B) (P_pickT rfl hg40B rfl) rfl <| aN 39 1099511627775 rfl rfl (P_pickF rfl hg39B rfl) rfl <| aD <| CJ_condP rfl bT_dec (fun hg42 => ?_) (fun hg42 => ?_)
                 ·
                  replace h := ite_t hg42 h
                  refine sR <| oA rfl rfl <| nT <| CJ_ret <| QJ_block_ret <| QJ_then_ret <| QJ_round_ret <| QJ_block_ret <| QJ_then_ret ?_
                  have hE := Option.some.inj h
                  replace hE := seq_inr hK141 hE.symm
                  subst hE
                  exact fE (res1 Tryz.results9 rfl) () (t6_ (t6_ (eD (eD (eD (eD (eD (eD eR))))))))
                 ·
                  replace h := ite_f hg42 h
                  refine CJ_skip <| QJ_block_normal <| QJ_then <| CJ_region <| oM rfl rfl ?_
                  obtain ⟨hg43, h⟩ := grd_Ne h
                  exact oP (PJ_eq (P_add (a := ((x144 : Nat) : Int)) (b := (1 : Int)) rfl rfl (nat_in hg43)) rfl) rfl <| oA rfl rfl <| RJ_nil <| nR ⟨n, (x144 + 1)⟩ h ⟨rfl, True.intro⟩ eR
                ·
                 replace h := ite_f hg40 h
                 refine aS 28 536870911 rfl rfl (GY_no rfl rfl rfl hg40B) rfl <| aS 29 1073741823 rfl rfl (GY_no rfl rfl rfl hg40B) rfl <| aS 30 2147483647 rfl rfl (GY_no rfl rfl rfl hg40B) rfl <| aS 31 4294967295 rfl rfl (GY_no rfl rfl rfl hg40B) rfl <| aS 32 8589934591 rfl rfl (GY_no rfl rfl rfl hg40B) rfl <| aS 33 17179869183 rfl rfl (GY_no rfl rfl rfl hg40B) rfl <| aS 34 34359738367 rfl rfl (GY_no rfl rfl rfl hg40B) rfl <| aS 35 68719476735 rfl rfl (GY_no rfl rfl rfl hg40B) rfl <| aS 36 137438953471 rfl rfl (GY_no rfl rfl rfl hg40B) rfl <| aS 37 274877906943 rfl rfl (GY_no rfl rfl rfl hg40B) rfl <| aP 38 549755813887 rfl rfl (GY_yes rfl rfl rfl hg39B) (P_pickF rfl hg40B rfl) rfl <| aN 39 1099511627775 rfl rfl (P_pickF rfl hg39B rfl) rfl <| aD <| CJ_condF rfl rfl <| CJ_skip <| QJ_block_normal <| QJ_then <| CJ_region <| oM rfl rfl ?_
                 obtain ⟨hg44, h⟩ := grd_Ne h
                 exact oP (PJ_eq (P_add (a := ((x144 : Nat) : Int)) (b := (1 : Int)) rfl rfl (nat_in hg44)) rfl) rfl <| oA rfl rfl <| RJ_nil <| nR ⟨n, (x144 + 1)⟩ h ⟨rfl, True.intro⟩ eR
            ·
             replace h := ite_f hg35 h
             exact CJ_exit <| QJ_then_exit <| QJ_round_exit <| QJ_block_here <| cR () (Option.some.inj h).symm True.intro eR
          ·
           rintro _ hy145
           replace h := seq_inl hK141 hy145
           show CJ _ _ _ _ _ (([] : Slots) ++ forget _ _) (_)
           refine CJ_seq <| sR <| oA rfl rfl <| RJ_nil <| QJ_ent (t0_ (t0_ (t0_ (t1_ (t2_ (t2_ (eD (eD eR)))))))) <| QJ_then ?_
           obtain ⟨y148, hl146, hK147⟩ := seq_e h
           refine CJ_cutT (X := Unit) [10, 41, 296, 297, 298, 299, 300, 301, 302, 303, 304, 305, 306, 307, 308, 309, 310, 311, 312, 313, 314, 315] (fun _ => ([] : Slots)) (fun _ R => R) (fun _ => y148 = .inl ()) Dels.nil ?_ ?_
           ·
            refine CJ_block <| CJ_loopR (X := Nat × Nat) [10, 41, 296, 297, 298, 299, 300, 301, 302, 303, 304, 305, 306, 307, 308, 309, 310, 311, 312, 313, 314, 315] (fun ⟨n, x150⟩ => ([(41, .int .i64 (((x150 : Nat) : Int)))] : Slots)) (fun ⟨n, x150⟩ R => R) (fun ⟨n, x150⟩ => volumegrouplaw19_ParityvolScrubs_l5 row r13 w127 r132 n x150 = some y148) (fun ⟨n, x150⟩ => n) ⟨FUEL, 0⟩ ?_ ?_ eR ?_
            · exact hl146
            · exact ⟨rfl, True.intro⟩
            ·
             rintro ⟨n, x150⟩ h
             cases n with
             | zero => exact none_e h
             | succ n => ?_
             replace h : volumegrouplaw19_ParityvolScrubs_l5_b row r13 w127 r132 (volumegrouplaw19_ParityvolScrubs_l5 row r13 w127 r132 n) x150 = some y148 := h
             unfold volumegrouplaw19_ParityvolScrubs_l5_b at h
             show CJ _ _ _ _ _ (([(41, .int .i64 (((x150 : Nat) : Int)))] : Slots) ++ forget _ _) (_)
             refine CJ_seq <| sR <| oM rfl rfl <| oM rfl rfl <| oV (V_len rfl foc2 (Reads.sl _ _ _) Tryz.runUnderlying35) rfl <| oP (P_lss (a := ((x150 : Nat) : Int)) (b := ((r132.1.length : Nat) : Int)) rfl rfl) rfl <| nT <| CJ_condP rfl bT_dec (fun hg45 => ?_) (fun hg45 => ?_)
             ·
              replace h := ite_t hg45 h
              refine kT <| CJ_seq <| CJ_block <| sR <| oM rfl rfl <| oM rfl rfl <| oV (V_index (i := x150) rfl rfl rfl (by omega) foc2 (Reads.sl _ _ _) Tryz.runUnderlying35 Tryz.sizeOf3) rfl <| oV (V_loadE rfl rfl (by omega) foc2 (Reads.sl _ _ _) rfl rfl Tryz.isAgg3) rfl <| oM rfl rfl <| oP (P_geq (a := (r132.1.getD x150 0)) (b := ((((row.toNat : Nat) : Int)).tmod ((r13.2.1 + (1 : Int))))) rfl rfl) rfl <| oM rfl rfl <| RJ_mbT rfl rfl rfl (fun hG151 => have hP152 : (((((row.toNat : Nat) : Int)).tmod ((r13.2.1 + (1 : Int)))) ≤ (r132.1.getD x150 0)) := (bT_dec).1 hG151; VJ_P (P_move rfl)) <| RJ_mbT rfl rfl rfl (fun hG153 => have hP154 : (((((row.toNat : Nat) : Int)).tmod ((r13.2.1 + (1 : Int)))) ≤ (r132.1.getD x150 0)) := (bT_dec).1 hG153; VJ_P (P_move rfl)) <| RJ_mbT rfl rfl rfl (fun hG155 => have hP156 : (((((row.toNat : Nat) : Int)).tmod ((r13.2.1 + (1 : Int)))) ≤ (r132.1.getD x150 0)) := (bT_dec).1 hG155; V_index (i := x150) (mbx hG155 rfl) (mbx hG155 rfl) rfl (by omega) foc2 (Reads.sl _ _ _) Tryz.runUnderlying35 Tryz.sizeOf3) <| RJ_mbT rfl rfl rfl (fun hG157 => have hP158 : (((((row.toNat : Nat) : Int)).tmod ((r13.2.1 + (1 : Int)))) ≤ (r132.1.getD x150 0)) := (bT_dec).1 hG157; V_loadE (mbx hG157 rfl) rfl (by omega) foc2 (Reads.sl _ _ _) rfl rfl Tryz.isAgg3) <| RJ_mbT rfl rfl rfl (fun hG159 => have hP160 : (((((row.toNat : Nat) : Int)).tmod ((r13.2.1 + (1 : Int)))) ≤ (r132.1.getD x150 0)) := (bT_dec).1 hG159; VJ_P (P_move rfl)) ?_
              refine RJ_mbT rfl rfl rfl (fun hG161 => have hP162 : (((((row.toNat : Nat) : Int)).tmod ((r13.2.1 + (1 : Int)))) ≤ (r132.1.getD x150 0)) := (bT_dec).1 hG161; VJ_P (P_lss (a := (r132.1.getD x150 0)) (b := (min r13.2.1 w127)) (mbx hG161 rfl) (mbx hG161 rfl))) <| oP (P_pickAnd rfl (fun hh => mbx hh rfl) rfl) rfl <| nT <| CJ_condP rfl (bT_and bT_dec bT_dec) (fun hg46 => ?_) (fun hg46 => ?_)
              ·
               replace h := ite_t hg46 h
               refine sR <| oA rfl rfl <| nT <| CJ_ret <| QJ_block_ret <| QJ_then_ret <| QJ_round_ret <| QJ_block_ret <| QJ_then_ret ?_
               have hE := Option.some.inj h
               replace hE := seq_inr hK147 hE.symm
               subst hE
               exact fE (res1 Tryz.results9 rfl) () (t4_ (t4_ (eD (eD (eD (eD eR))))))
              ·
               replace h := ite_f hg46 h
               refine CJ_skip <| QJ_block_normal <| QJ_then <| CJ_region <| oM rfl rfl ?_
               obtain ⟨hg47, h⟩ := grd_Ne h
               exact oP (PJ_eq (P_add (a := ((x150 : Nat) : Int)) (b := (1 : Int)) rfl rfl (nat_in hg47)) rfl) rfl <| oA rfl rfl <| RJ_nil <| nR ⟨n, (x150 + 1)⟩ h ⟨rfl, True.intro⟩ eR
             ·
              replace h := ite_f hg45 h
              exact CJ_exit <| QJ_then_exit <| QJ_round_exit <| QJ_block_here <| cR () (Option.some.inj h).symm True.intro eR
           ·
            rintro _ hy163
            replace h := seq_inl hK147 hy163
            show CJ _ _ _ _ _ (([] : Slots) ++ forget _ _) (_)
            refine sR <| oM rfl rfl <| oM rfl rfl ?_
            obtain ⟨hg48, h⟩ := grd_Ie h
            refine oP (P_add (a := r13.2.1) (b := (5 : Int)) rfl rfl hg48) rfl ?_
            obtain ⟨r164, hr165, h⟩ := bind_e h
            refine oO <| O_call (L_parityvol_Volume_Scrub hr165) rfl Tryz.call30 (Dels.cons del0 (Dels.cons del0 Dels.nil)) rfl fun X166 _ => oM rfl rfl <| oP (P_extract (v := X166.v) rfl rfl) rfl <| oP (P_extract rfl rfl) rfl <| oA rfl rfl <| oA rfl rfl <| RJ_nil <| QJ_ent (t0_ (t0_ (t0_ (t1_ (t1_ (t1_ (eD eR))))))) <| QJ_then <| CJ_seq <| sR <| oM rfl rfl <| oP (P_neq (a := r164.2.1) (b := (0 : Int)) rfl rfl) rfl <| oM rfl rfl <| RJ_mbF rfl rfl rfl (fun hG168 => have hP169 : ¬ (r164.2.1 ≠ (0 : Int)) := nP (bT_dec) hG168; VJ_P (P_move rfl)) <| RJ_mbF rfl rfl rfl (fun hG170 => have hP171 : ¬ (r164.2.1 ≠ (0 : Int)) := nP (bT_dec) hG170; V_len (mbx hG170 rfl) foc2 (Reads.sl _ _ _) Tryz.runUnderlying35) <| RJ_mbF rfl rfl rfl (fun hG172 => have hP173 : ¬ (r164.2.1 ≠ (0 : Int)) := nP (bT_dec) hG172; VJ_P (P_neq (a := ((r164.1.length : Nat) : Int)) (b := (0 : Int)) (mbx hG172 rfl) rfl)) <| oP (P_pickOr rfl rfl (fun hh => mbx (not_f hh) rfl)) rfl <| oM rfl rfl <| RJ_splitP 330 rfl (bT_or bT_dec bT_dec) (fun hg49B hg49 => ?_) (fun hg49B hg49 => ?_)
            ·
             replace h := ite_t hg49 h
             refine RJ_gn (GY_no rfl rfl rfl hg49B) rfl rfl <| RJ_gn (GY_no rfl rfl rfl hg49B) rfl rfl <| RJ_gn (GY_no rfl rfl rfl hg49B) rfl rfl <| oP (P_pickT rfl hg49B rfl) rfl <| nT <| CJ_condT rfl rfl <| sR <| oA rfl rfl <| nT <| CJ_ret <| QJ_then_ret ?_
             cases h
             exact fE (res1 Tryz.results9 rfl) () (t4_ (t4_ (eD (eD (eD (eD eR))))))
            ·
             replace h := ite_f hg49 h
             refine gP (GY_yes rfl rfl rfl hg49B) (P_move rfl) rfl ?_
             obtain ⟨r174, hr175, h⟩ := bind_e h
             refine RJ_gy (GY_yes rfl rfl rfl hg49B) <| O_call (L_parityvol_Volume_Flush hr175) rfl Tryz.call43 (Dels.cons del0 (Dels.cons del0 Dels.nil)) rfl fun _ _ => gP (GY_yes rfl rfl rfl hg49B) (P_neq (a := r174.1) (b := (0 : Int)) rfl rfl) rfl <| oP (P_pickF rfl hg49B rfl) rfl <| nT <| CJ_condP rfl bT_dec (fun hg50 => ?_) (fun hg50 => ?_)
             ·
              replace h := ite_t hg50 h
              refine sR <| oA rfl rfl <| nT <| CJ_ret <| QJ_then_ret ?_
              cases h
              exact fE (res1 Tryz.results9 rfl) () (t4_ (t4_ (eD (eD (eD (eD eR))))))
             ·
              replace h := ite_f hg50 h
              refine kT <| CJ_seq <| CJ_entX (Ent.transX (t3_ eR) (OwnP_open (l := r24.2.1))) fun oc176 => lC del5 fun hlen178 => lC del6 fun hlen179 => CJ_region <| oM rfl rfl <| oM rfl rfl <| oP (P_makeIface rfl Tryz.runUnderlying65 (by intro ms h; cases h)) rfl <| oP (P_nilCheck rfl) rfl <| oP (P_fieldAddr rfl ⟨_, _, _, Tryz.runUnderlying37, rfl, rfl, Tryz.sizeOf33, rfl⟩) rfl <| oO <| O_store rfl rfl foc0 rfl rfl Tryz.sizeOf33 <| RJ_nil <| QJ_ent (Ent.trans (t0_ (t0_ (t0_ (t4_ (t1_ (t1_ (t1_ eR))))))) (OwnP_mk (v0 := r24.2.1.Open_1) (v1 := (some r174.2.1)) (v2 := r24.2.1.T) (v3 := r24.2.1.Stale) (v4 := r24.2.1.Lost) (h0 := oc176.1) (h1 := oc176.2.1) (h2 := X119) (h3 := oc176.2.2.2.1) (h4 := oc176.2.2.2.2.1) (h5 := oc176.2.2.2.2.2))) <| QJ_then <| sR <| oM rfl rfl ?_
              obtain ⟨r180, hr181, h⟩ := bind_e h
              refine oO <| O_call (L_volumegroupmake_Owner_Lose hr181) rfl Tryz.call40 (Dels.cons del0 (Dels.cons del1 Dels.nil)) rfl fun _ _ => oM rfl rfl <| RJ_splitP 342 rfl Iff.rfl (fun hg51B hg51 => ?_) (fun hg51B hg51 => ?_)
              ·
               replace h := ite_t hg51 h
               refine gP (GY_yes rfl rfl rfl hg51B) (P_move rfl) rfl ?_
               obtain ⟨r182, hr183, h⟩ := bind_e h
               refine RJ_gy (GY_yes rfl rfl rfl hg51B) <| O_call (L_volumegroupmake_Owner_All hr183) rfl Tryz.call21 (Dels.cons del0 (Dels.cons del0 Dels.nil)) rfl fun _ _ => oP (P_pickT rfl hg51B rfl) rfl <| oM rfl rfl <| RJ_splitP 346 rfl Iff.rfl (fun hg52B hg52 => ?_) (fun hg52B hg52 => ?_)
               ·
                replace h := ite_t hg52 h
                obtain ⟨r184, hr185, h⟩ := bind_e h
                refine RJ_gy (GY_yes rfl rfl rfl hg52B) <| O_call (L_volumegrouplaw19_awake hr185) rfl Tryz.call11 Dels.nil rfl fun _ _ => oP (P_pickT rfl hg52B rfl) rfl <| oA rfl rfl <| nT <| CJ_ret ?_
                cases h
                exact fE (res1 Tryz.results9 rfl) () (t4_ (t4_ (eD (eD (eD (eD eR))))))
               ·
                replace h := ite_f hg52 h
                refine RJ_gn (GY_no rfl rfl rfl hg52B) rfl rfl <| oP (P_pickF rfl hg52B rfl) rfl <| oA rfl rfl <| nT <| CJ_ret ?_
                cases h
                exact fE (res1 Tryz.results9 rfl) () (t4_ (t4_ (eD (eD (eD (eD eR))))))
              ·
               replace h := ite_f hg51 h
               refine RJ_gn (GY_no rfl rfl rfl hg51B) rfl rfl <| RJ_gn (GY_no rfl rfl rfl hg51B) rfl rfl <| oP (P_pickF rfl hg51B rfl) rfl <| oM rfl rfl <| RJ_gn (GY_no rfl rfl rfl rfl) rfl rfl <| oP (P_pickF rfl rfl rfl) rfl <| oA rfl rfl <| nT <| CJ_ret ?_
               cases h
               exact fE (res1 Tryz.results9 rfl) () (t4_ (t4_ (eD (eD (eD (eD eR))))))
end Go.Proofs
namespace Go.Proofs
open Go.VG
theorem shape_eq (n : UInt8) : volumegrouplaw19_shape n = some (((CP n).L : Int), ((CP n).R : Int), ((CP n).c : Int)) := by
  have h1 := (CP n).hL
  have h2 := (CP n).hR
  have h3 := (CP n).hc
  have e1 : 3 + (n % 2).toNat = (CP n).L := rfl
  have e2 : 1 + ((n / 2) % 3).toNat = (CP n).R := rfl
  have e3 : 1 + ((n / 8) % 2).toNat = (CP n).c := rfl
  unfold volumegrouplaw19_shape
  rw [e1, e2, e3, grd_t (inN64_of (by omega)), grd_t (inN64_of (by omega)), grd_t (inN64_of (by omega))]
theorem refXorP_l1 {l : List UInt64} (hl : l.length ≤ 1000000) : ∀ (N i : Nat), l.length - i < N → i ≤ l.length → volumegroupref18_Xor_l1 l N (xorL (l.take i)) i = some (xorL l)
  | 0, _, h, _ => absurd h (by omega)
  | N + 1, i, h, hi => by
    have hu : volumegroupref18_Xor_l1 l (N + 1) (xorL (l.take i)) i = volumegroupref18_Xor_l1_b l (volumegroupref18_Xor_l1 l N) (xorL (l.take i)) i := rfl
    rw [hu]
    unfold volumegroupref18_Xor_l1_b
    by_cases hlt : i < l.length
    · rw [if_pos (by omega)]
      have e : xorL (l.take i) ^^^ l.getD i 0 = xorL (l.take (i + 1)) := by rw [getD_take_snoc (d := 0) hlt, xorL_snoc]
      rw [e]
      exact refXorP_l1 hl N (i + 1) (by omega) (by omega)
    · rw [if_neg (by omega), List.take_of_length_le (by omega)]
theorem refXorP {l : List UInt64} (hl : l.length ≤ 1000000) : volumegroupref18_Xor l = some (xorL l) := by
  have hF := fuel_big
  unfold volumegroupref18_Xor
  have h := refXorP_l1 hl FUEL 0 (by omega) (by omega)
  have e : xorL (l.take 0) = 0 := rfl
  rw [e] at h
  rw [h]; rfl
section
variable {C : PC} {V V' V1 : Nat → Nat → UInt64} {q qo : UInt64} {e e' : PE} {mz : Nat → Bool} {F : Prop} {K K' a i d o r n m j : Nat} {s t : ArrS} {v v0 : VolS} {P Q : Nat → Prop} {l : List Int} {hp hn : UInt64 → Prop} {x : Nat → Nat → Prop} {nwP bc : Prop} {bn : Nat}
theorem place18 (ha : a < C.D) : volumegroupref18_Place (C.c : Int) (C.L : Int) (a : Int) = some ((C.leg a : Int), (C.off a : Int), (C.par (C.off a) : Int), 0) := by
  obtain ⟨p1, p2, p3, p4⟩ := PC.plc ha
  have hD := @PC.hD C
  have hO := @PC.hO C
  have hL := C.hL
  have hc := C.hc
  have e1 : (C.L : Int) - 1 = ((C.L - 1 : Nat) : Int) := by omega
  have d1 : a / C.c ≤ a := Nat.div_le_self _ _
  have d2 : a / C.c / (C.L - 1) ≤ a / C.c := Nat.div_le_self _ _
  have d3 : a / C.c / (C.L - 1) % C.L < C.L := Nat.mod_lt _ (by omega)
  have d4 : a / C.c % (C.L - 1) < C.L - 1 := Nat.mod_lt _ (by omega)
  have d5 : a % C.c < C.c := Nat.mod_lt _ (by omega)
  have d6 : a / C.c / (C.L - 1) * C.c ≤ C.off a := Nat.le_add_right _ _
  have e2 : ((C.L - 1 : Nat) : Int) - ((a / C.c / (C.L - 1) % C.L : Nat) : Int) = (C.par (C.off a) : Int) := by rw [p4]; omega
  have p5 : C.par (C.off a) < C.L := PC.parL p2
  have e3 : (C.par (C.off a) : Int) + 1 + ((a / C.c % (C.L - 1) : Nat) : Int) = ((C.par (C.off a) + 1 + a / C.c % (C.L - 1) : Nat) : Int) := by push_cast; rfl
  have e4 : ((a / C.c / (C.L - 1) : Nat) : Int) * (C.c : Int) = ((a / C.c / (C.L - 1) * C.c : Nat) : Int) := by push_cast; rfl
  have e5 : ((a / C.c / (C.L - 1) * C.c : Nat) : Int) + ((a % C.c : Nat) : Int) = (C.off a : Int) := by unfold PC.off offF; push_cast; rfl
  have e6 : (C.par (C.off a) + 1 + a / C.c % (C.L - 1)) % C.L = C.leg a := by unfold PC.leg legF; rw [p4]
  unfold volumegroupref18_Place volumegroupref18_fits lt
  simp only [Option.bind_some]
  rw [if_neg (by simp; omega), e1, tdivN, wrapN (by omega), tdivN, wrapN (by omega)]
  simp only [tmodN, e2]
  rw [e3, tmodN, e6, e4, e5, grd_t (decide_eq_true (by omega)), grd_t (inI64_of (by omega)), grd_t (decide_eq_true (by omega)), grd_t (inI64_of (by omega)), grd_t (decide_eq_true (by omega)), grd_t (inI64_of (by omega)), grd_t (decide_eq_true (by omega)), grd_t (inI64_of (by omega)), grd_t (inI64_of (by omega)), grd_t (inI64_of (by omega)), grd_t (decide_eq_true (by omega)), grd_t (inI64_of (by omega)), grd_t (decide_eq_true (by omega)), grd_t (inI64_of (by omega))]
theorem Lg.reW (h : Lg C V qo e q e' hp hn x nwP bn bc s d) (hV : ∀ o, V' d o = V d o) : Lg C V' qo e q e' hp hn x nwP bn bc s d :=
  ⟨h.hd, h.hn, h.bd, fun o ho hx c hc => by rw [hV]; exact h.dt o ho hx c hc, fun z o ho => by rw [hV]; exact h.nw z o ho, h.nb, h.nc⟩
theorem listSet {l : List UInt64} {i j : Nat} {x : UInt64} (h : i < l.length) : (l.set i x).getD j 0 = if j = i then x else l.getD j 0 := by
  simp only [List.getD, List.getElem?_set]
  by_cases e : i = j
  · subst e; simp [h]
  · rw [if_neg e, if_neg (fun x => e x.symm)]
theorem D_int : ((((C.L - 1 : Nat) : Int) * (C.R : Int)) * (C.c : Int)) = (C.D : Int) ∧ (((C.L - 1 : Nat) : Int) * (C.R : Int)) = (((C.L - 1) * C.R : Nat) : Int) ∧ (C.L - 1) * C.R ≤ 9 := by
  have hL := C.hL
  have hR := C.hR
  refine ⟨by unfold PC.D; push_cast; rfl, by push_cast; rfl, Nat.mul_le_mul (show C.L - 1 ≤ 3 by omega) (show C.R ≤ 3 by omega)⟩
theorem rot_l1 {rot : List UInt8} : ∀ (N i : Nat) (s : ArrS) (V' : Nat → Nat → UInt64), rot.length - i < N → i ≤ rot.length → rot.length ≤ 1000 → PEn C mz F K s → Qs C none V' q e s → (∀ d o, d ≠ C.par o → V' d o = V d o) →
    ∃ t V'', volumegrouplaw19_ParityvolScrubs_l1 rot ((C.L : Int), (C.R : Int), (C.c : Int)) N s i = some (.inl t) ∧ PEn C mz F K t ∧ Qs C none V'' q e t ∧ ∀ d o, d ≠ C.par o → V'' d o = V d o
  | 0, _, _, _, h, _, _, _, _, _ => absurd h (by omega)
  | N + 1, i, s, V', h, hi, hr, he, hQ, hV => by
    have hL := C.hL
    have hO := @PC.hO C
    have hD := @PC.hD C
    have hsz : C.sz = 16 + C.O := rfl
    have hu : volumegrouplaw19_ParityvolScrubs_l1 rot ((C.L : Int), (C.R : Int), (C.c : Int)) (N + 1) s i = volumegrouplaw19_ParityvolScrubs_l1_b rot ((C.L : Int), (C.R : Int), (C.c : Int)) (volumegrouplaw19_ParityvolScrubs_l1 rot ((C.L : Int), (C.R : Int), (C.c : Int)) N) s i := rfl
    rw [hu]
    unfold volumegrouplaw19_ParityvolScrubs_l1_b
    simp only
    by_cases hlt : i < rot.length
    · have e1 : (C.L : Int) - 1 = ((C.L - 1 : Nat) : Int) := by omega
      obtain ⟨e3, e2, e4⟩ := @D_int C
      obtain ⟨a, ha⟩ : ∃ a, a = (rot.getD i 0).toNat % C.D := ⟨_, rfl⟩
      have haD : a < C.D := by rw [ha]; exact Nat.mod_lt _ (by omega)
      obtain ⟨p1, p2, p3, p4⟩ := PC.plc haD
      have p5 := PC.parL p2
      have hcnt : s.drv.length = C.L := by rw [he.ok.sz.cnt, PC.len]
      have hlen : (nowL s (C.par (C.off a))).length = C.sz := by rw [← size_nowL, he.ok.sz.size _ (by rw [PC.len]; exact p5), PC.nsz p5]
      have e5 : (C.R : Int) * (C.c : Int) = (C.O : Int) := by unfold PC.O; push_cast; rfl
      have e6 : (16 : Int) + (C.O : Int) = ((16 + C.O : Nat) : Int) := by push_cast; rfl
      have e7 : (16 : Int) + (C.off a : Int) = ((16 + C.off a : Nat) : Int) := by push_cast; rfl
      rw [if_pos (by omega), e1, e3, e2, grd_t (inI64_of (by omega)), grd_t (inI64_of (by omega)), grd_t (inI64_of (by omega)), grd_t (decide_eq_true (by omega)), tmodN, ← ha]
      unfold lt
      simp only
      rw [place18 haD]; simp only [Option.bind_some]
      rw [imC_of (by omega), imL_of (by omega), hlen, e5, wrapN (by omega), e6, wrapN (by omega), if_neg (by omega), e7, grd_t (inI64_of (by omega)), grd_t (inI64_of (by omega)), grd_t (decide_eq_true (by omega)), Int.toNat_natCast, grd_t (decide_eq_true (by omega)), grd_t (inLen_of (by have := he.ok.wr; have := he.ok.sz.wr; omega))]
      obtain ⟨w, hw⟩ : ∃ w, w = (1 : UInt64) + (nowL s (C.par (C.off a))).getD (16 + C.off a) 0 * 2 := ⟨_, rfl⟩
      rw [← hw]
      obtain ⟨l1, l2⟩ := load_eq (d := C.par (C.off a)) (im := (nowL s (C.par (C.off a))).set (16 + C.off a) w) he.ok (by rw [PC.len]; exact p5) (by rw [List.length_set, hlen, PC.nsz p5])
      rw [l1, if_neg (by simp)]
      generalize ldS s ((C.par (C.off a) : Nat) : Int) ((nowL s (C.par (C.off a))).set (16 + C.off a) w) = t at l2
      have hown : ∀ b, now t (C.par (C.off a)) b = if b = 16 + C.off a then w else now s (C.par (C.off a)) b := fun b => by
        rw [(l2.own b).1, listSet (by omega)]; rfl
      have hownc : ∀ b c, c ∈ cand t (C.par (C.off a)) b → c = now t (C.par (C.off a)) b := fun b c hc => by
        rw [(l2.own b).2, List.mem_singleton] at hc
        rw [hc, (l2.own b).1]
      refine rot_l1 N (i + 1) t (fun d o => if d = C.par (C.off a) ∧ o = C.off a then w else V' d o) (by omega) (by omega) hr ⟨l2.ok, by rw [l2.dn]; exact he.dn, fun e => by rw [l2.miss]; exact he.ms e, fun z => by rw [l2.fuse]; exact he.fu z⟩ (fun d hd hds => ?_) (fun d o hdo => ?_)
      · have g := hQ d hd hds
        have s1 := @sl_le q
        by_cases z : d = C.par (C.off a)
        · subst z
          have hnn : ∀ b, b ≠ 16 + C.off a → now t (C.par (C.off a)) b = now s (C.par (C.off a)) b := fun b hb => by rw [hown, if_neg hb]
          have hnw : ∀ o, o < C.O → now t (C.par (C.off a)) (16 + o) = if C.par (C.off a) = C.par (C.off a) ∧ o = C.off a then w else V' (C.par (C.off a)) o := fun o ho => by
            rw [hown]
            by_cases y : o = C.off a
            · rw [if_pos (by omega), if_pos ⟨rfl, y⟩]
            · rw [if_neg (by omega), if_neg (fun u => y u.2)]; exact g.nw trivial o ho
          refine ⟨fun c hc => ?_, ?_, fun hq j hj c hc => ?_, fun o ho _ c hc => ?_, fun _ o ho => hnw o ho, fun j hj => absurd hj (by omega), fun y => y.elim⟩
          · rw [hownc _ c hc, hnn 0 (by omega)]; exact g.hn
          · rw [hnn 0 (by omega)]; exact g.hn
          · rw [hownc _ c hc, hnn _ (by omega)]
            exact g.bd hq j hj _ (he.now_cand hd (by omega))
          · rw [hownc _ c hc]; exact hnw o ho
        · exact ((hQ d hd hds).frame (fun b => (l2.oth d b z).1) (fun b _ => (l2.oth d b z).2)).reW (fun o => if_neg (fun y => z y.1))
      · rw [if_neg (fun y => hdo (by rw [y.1, y.2]))]; exact hV d o hdo
    · rw [if_neg (by omega)]
      exact ⟨s, V', rfl, he, hQ, hV⟩
theorem wrong_l3 (hm : ∀ i, mz i = false) (he : PEn C mz F K s) (hQ : Qs C none V' q e s) (ho : o < C.O) {x1 x2 : Int} : ∀ (N i : Nat), C.L - i < N → i ≤ C.L →
    volumegrouplaw19_ParityvolScrubs_l3 ((C.L : Int), (C.R : Int), (C.c : Int)) s (x1, (o : Int), x2, 0) N ((List.range i).map fun d => V' d o) i = some (.inl ((List.range C.L).map fun d => V' d o))
  | 0, _, h, _ => absurd h (by omega)
  | N + 1, i, h, hi => by
    have hL := C.hL
    have hO := @PC.hO C
    have hsz : C.sz = 16 + C.O := rfl
    have hu : volumegrouplaw19_ParityvolScrubs_l3 ((C.L : Int), (C.R : Int), (C.c : Int)) s (x1, (o : Int), x2, 0) (N + 1) ((List.range i).map fun d => V' d o) i = volumegrouplaw19_ParityvolScrubs_l3_b ((C.L : Int), (C.R : Int), (C.c : Int)) s (x1, (o : Int), x2, 0) (volumegrouplaw19_ParityvolScrubs_l3 ((C.L : Int), (C.R : Int), (C.c : Int)) s (x1, (o : Int), x2, 0) N) ((List.range i).map fun d => V' d o) i := rfl
    have e7 : (16 : Int) + (o : Int) = ((16 + o : Nat) : Int) := by push_cast; rfl
    rw [hu]
    unfold volumegrouplaw19_ParityvolScrubs_l3_b
    simp only
    by_cases hlt : i < C.L
    · obtain ⟨r1, r2⟩ := he.ok.rdA (d := i) (a := 16 + o) he.dn (by rw [PC.len]; exact hlt) (by rw [PC.nsz hlt]; omega) (by rw [he.ms]; exact hm i)
      rw [if_pos (by omega), e7, grd_t (inI64_of (by omega)), r2, if_neg (by simp), grd_t (inLen_of (by simp; omega)), grd_t (inN64_of (by omega)), r1]
      have hr := wrong_l3 hm he hQ ho (x1 := x1) (x2 := x2) N (i + 1) (by omega) (by omega)
      rw [List.range_succ, List.map_append, List.map_cons, List.map_nil, ← (hQ i hlt (by simp)).nw trivial o ho] at hr
      exact hr
    · rw [if_neg (by omega)]
      have : i = C.L := by omega
      rw [this]
theorem boolSet {l : List Bool} {i j : Nat} {x : Bool} (h : i < l.length) : (l.set i x).getD j false = if j = i then x else l.getD j false := by
  simp only [List.getD, List.getElem?_set]
  by_cases e : i = j
  · subst e; simp [h]
  · rw [if_neg e, if_neg (fun x => e x.symm)]
theorem off_div (ha : a < C.D) : C.off a / C.c < C.R := by
  obtain ⟨p1, p2, p3, p4⟩ := PC.plc ha
  have hc := C.hc
  have : C.off a < C.R * C.c := p2
  exact (Nat.div_lt_iff_lt_mul (by omega)).2 this
theorem wrong_l2 (hm : ∀ i, mz i = false) (he : PEn C mz F K s) (hQ : Qs C none V' q e s) {r24 : Bool × OwnS × ArrS} (hT : r24.2.1.T.length = C.D) : ∀ (N a : Nat) (w : List Bool), C.D - a < N → a ≤ C.D → w.length = C.R → (∀ b, b < a → xr (fun d => V' d (C.off b)) C.L ≠ 0 → w.getD (C.off b / C.c) false = true) →
    ∃ w', volumegrouplaw19_ParityvolScrubs_l2 ((C.L : Int), (C.R : Int), (C.c : Int)) r24 s N w a = some (.inl w') ∧ w'.length = C.R ∧ ∀ b, b < C.D → xr (fun d => V' d (C.off b)) C.L ≠ 0 → w'.getD (C.off b / C.c) false = true
  | 0, _, _, h, _, _, _ => absurd h (by omega)
  | N + 1, a, w, h, ha, hw, hb => by
    have hF := fuel_big
    have hL := C.hL
    have hc := C.hc
    have hO := @PC.hO C
    have hD := @PC.hD C
    have hu : volumegrouplaw19_ParityvolScrubs_l2 ((C.L : Int), (C.R : Int), (C.c : Int)) r24 s (N + 1) w a = volumegrouplaw19_ParityvolScrubs_l2_b ((C.L : Int), (C.R : Int), (C.c : Int)) r24 s (volumegrouplaw19_ParityvolScrubs_l2 ((C.L : Int), (C.R : Int), (C.c : Int)) r24 s N) w a := rfl
    rw [hu]
    unfold volumegrouplaw19_ParityvolScrubs_l2_b
    simp only
    rw [hT]
    by_cases hlt : a < C.D
    · obtain ⟨p1, p2, p3, p4⟩ := PC.plc hlt
      have hod := off_div hlt
      have hdl : C.off a / C.c ≤ C.off a := Nat.div_le_self _ _
      have h0 : (0 : Int) ≤ ((C.off a / C.c : Nat) : Int) := Int.natCast_nonneg _
      have hlen : ((List.range C.L).map fun d => V' d (C.off a)).length = C.L := by simp
      rw [if_pos (by omega), place18 hlt]; simp only [Option.bind_some]
      rw [show volumegrouplaw19_ParityvolScrubs_l3 ((C.L : Int), (C.R : Int), (C.c : Int)) s ((C.leg a : Int), (C.off a : Int), (C.par (C.off a) : Int), 0) FUEL [] 0 = _ from wrong_l3 (V' := V') hm he hQ p2 FUEL 0 (by omega) (by omega), seqO_inl, tdivN, wrapN (by omega), grd_t (decide_eq_true (by omega)), grd_t (decide_eq_true (by omega)), grd_t (decide_eq_true (by omega)), Int.toNat_natCast]
      by_cases hg : w.getD (C.off a / C.c) false = true
      · rw [if_pos hg, grd_t (decide_eq_true (by omega)), grd_t (inN64_of (by omega))]
        refine wrong_l2 hm he hQ hT N (a + 1) _ (by omega) (by omega) (by rw [List.length_set]; exact hw) (fun b hba hx => ?_)
        rw [boolSet (by omega)]
        split
        · rfl
        · rename_i y
          by_cases z : b = a
          · subst z; exact absurd rfl y
          · exact hb b (by omega) hx
      · rw [if_neg hg, refXorP (by rw [hlen]; omega), xorL_map]; simp only [Option.bind_some]
        rw [grd_t (decide_eq_true (by omega)), grd_t (inN64_of (by omega))]
        refine wrong_l2 hm he hQ hT N (a + 1) _ (by omega) (by omega) (by rw [List.length_set]; exact hw) (fun b hba hx => ?_)
        rw [boolSet (by omega)]
        by_cases z : b = a
        · subst z
          rw [if_pos rfl]; exact decide_eq_true hx
        · have hbb := hb b (by omega) hx
          split
          · rename_i y
            rw [y] at hbb
            exact absurd hbb hg
          · exact hbb
    · rw [if_neg (by omega)]
      have : a = C.D := by omega
      subst this
      exact ⟨w, rfl, hw, hb⟩
end
end Go.Proofs
namespace Go.Proofs
open Go.VG
def surB (L R c o : Nat) : Bool := !(decide (3 ≤ L) && decide (1 ≤ R) && decide (1 ≤ c) && decide (o < R * c)) || (List.range 18).any fun a => decide (a < (L - 1) * R * c) && decide (offF L c a = o)
theorem surB_all : ∀ L, L < 5 → ∀ R, R < 4 → ∀ c, c < 3 → ∀ o, o < 6 → surB L R c o = true := by decide +kernel
section
variable {C : PC} {V V' V1 : Nat → Nat → UInt64} {q : UInt64} {e : PE} {mz : Nat → Bool} {F : Prop} {K K' a i d o r n m nn hi j : Nat} {s t : ArrS} {w : List Bool} {l : List Int} {row : UInt8}
theorem PC.sur (ho : o < C.O) : ∃ a, a < C.D ∧ C.off a = o := by
  have hL := C.hL
  have hR := C.hR
  have hc := C.hc
  have h := surB_all C.L (by omega) C.R (by omega) C.c (by omega) o (by have := @PC.hO C; omega)
  unfold surB at h
  rw [decide_eq_true hL.1, decide_eq_true hR.1, decide_eq_true hc.1, decide_eq_true (show o < C.R * C.c from ho)] at h
  simp only [Bool.and_self, Bool.not_true, Bool.false_or, List.any_eq_true, Bool.and_eq_true, decide_eq_true_eq] at h
  obtain ⟨a, -, h1, h2⟩ := h
  exact ⟨a, h1, h2⟩
theorem Sd.ge (h : Sd C V m hi l) : ∀ i, i < l.length → ((i : Nat) : Int) ≤ l.getD i 0
  | 0, hl => by
    obtain ⟨x, x1, -⟩ := h.at_ 0 hl
    rw [x1]; omega
  | i + 1, hl => by
    have h1 := Sd.ge h i (by omega)
    have h2 := h.up (i + 1) (by omega) hl
    rw [Nat.add_sub_cancel] at h2
    omega
theorem Sd.len (h : Sd C V m hi l) : l.length ≤ hi := by
  by_cases z : l.length = 0
  · omega
  · obtain ⟨x, x1, x2, x3, -⟩ := h.at_ (l.length - 1) (by omega)
    have := h.ge (l.length - 1) (by omega)
    omega
theorem scrubs_l4 {r128 : (List Int) × Int × VolS × ArrS} (hS : Sd C V m hi r128.1) (h1 : hi ≤ C.R) (h2 : hi ≤ m + nn) (hw : w.length = C.R) (hodd : ∀ r, r < C.R → (∃ j, j < C.c ∧ xr (fun d => V d (r * C.c + j)) C.L ≠ 0) → w.getD r false = true) (hrow : ((row.toNat : Nat) : Int).tmod ((C.R : Int) + 1) = (m : Int)) : ∀ (N i : Nat), r128.1.length - i < N → i ≤ r128.1.length →
    volumegrouplaw19_ParityvolScrubs_l4 row ((C.L : Int), (C.R : Int), (C.c : Int)) w ((m : Int) + (nn : Int)) r128 N i = some (.inl ())
  | 0, _, h, _ => absurd h (by omega)
  | N + 1, i, h, hi' => by
    have hR := C.hR
    have hlen := hS.len
    have hu : volumegrouplaw19_ParityvolScrubs_l4 row ((C.L : Int), (C.R : Int), (C.c : Int)) w ((m : Int) + (nn : Int)) r128 (N + 1) i = volumegrouplaw19_ParityvolScrubs_l4_b row ((C.L : Int), (C.R : Int), (C.c : Int)) w ((m : Int) + (nn : Int)) r128 (volumegrouplaw19_ParityvolScrubs_l4 row ((C.L : Int), (C.R : Int), (C.c : Int)) w ((m : Int) + (nn : Int)) r128 N) i := rfl
    rw [hu]
    unfold volumegrouplaw19_ParityvolScrubs_l4_b
    simp only
    rw [hrow]
    by_cases hlt : i < r128.1.length
    · obtain ⟨x, x1, x2, x3, x4⟩ := hS.at_ i hlt
      have hup := hS.up i
      have hr := scrubs_l4 hS h1 h2 hw hodd hrow N (i + 1) (by omega) (by omega)
      rw [if_pos (by omega)]
      rw [x1] at hup ⊢
      rw [if_neg (by omega), if_neg (by omega), grd_t (decide_eq_true (by omega)), Int.toNat_natCast, if_neg (by rw [hodd x (by omega) x4]; simp)]
      by_cases z : 0 < i
      · have h3 := hup z hlt
        have e1 : ((i : Nat) : Int).toNat = i := Int.toNat_natCast _
        rw [if_pos (by omega), grd_t (inI64_of (by omega)), show (((i : Nat) : Int) - (1 : Int)).toNat = i - 1 by omega, if_neg (by omega), grd_t (inN64_of (by omega))]
        exact hr
      · rw [if_neg (by omega), grd_t (inN64_of (by omega))]
        exact hr
    · rw [if_neg (by omega)]
theorem scrubs_l5 {r132 : (List Int) × Int × VolS × ArrS} {hi' : Nat} (hS : Sd C V 0 hi' r132.1) (h1 : hi' ≤ C.R) (hev : ∀ o, o < C.O → m ≤ o / C.c → o / C.c < m + nn → xr (fun d => V d o) C.L = 0) (hrow : ((row.toNat : Nat) : Int).tmod ((C.R : Int) + 1) = (m : Int)) : ∀ (N i : Nat), r132.1.length - i < N → i ≤ r132.1.length →
    volumegrouplaw19_ParityvolScrubs_l5 row ((C.L : Int), (C.R : Int), (C.c : Int)) ((m : Int) + (nn : Int)) r132 N i = some (.inl ())
  | 0, _, h, _ => absurd h (by omega)
  | N + 1, i, h, hi => by
    have hR := C.hR
    have hc := C.hc
    have hlen := hS.len
    have hu : volumegrouplaw19_ParityvolScrubs_l5 row ((C.L : Int), (C.R : Int), (C.c : Int)) ((m : Int) + (nn : Int)) r132 (N + 1) i = volumegrouplaw19_ParityvolScrubs_l5_b row ((C.L : Int), (C.R : Int), (C.c : Int)) ((m : Int) + (nn : Int)) r132 (volumegrouplaw19_ParityvolScrubs_l5 row ((C.L : Int), (C.R : Int), (C.c : Int)) ((m : Int) + (nn : Int)) r132 N) i := rfl
    rw [hu]
    unfold volumegrouplaw19_ParityvolScrubs_l5_b
    simp only
    rw [hrow]
    by_cases hlt : i < r132.1.length
    · obtain ⟨x, x1, x2, x3, j, j1, j2⟩ := hS.at_ i hlt
      have hr := scrubs_l5 hS h1 hev hrow N (i + 1) (by omega) (by omega)
      rw [if_pos (by omega)]
      rw [x1]
      rw [if_neg (fun z => by
        have e1 : (x * C.c + j) / C.c = x := by
          rw [Nat.add_comm, Nat.add_mul_div_right _ _ (by omega), Nat.div_eq_of_lt j1]; omega
        have hxR : x < C.R := by omega
        exact j2 (hev _ (row_lt hxR j1) (by rw [e1]; omega) (by rw [e1]; omega))), grd_t (inN64_of (by omega))]
      exact hr
    · rw [if_neg (by omega)]
theorem TI.congr {T : List Sec} (h : TI C T V) (hv : ∀ d o, d ≠ C.par o → V' d o = V d o) : TI C T V' := by
  have h1 : ∀ a, a < C.D → vlP C V' a = vlP C V a := fun a ha => by
    obtain ⟨p1, p2, p3, p4⟩ := PC.plc ha
    exact hv _ _ p3
  exact ⟨fun a ha => by rw [h1 a ha]; exact h.ok a ha, fun a ha hk => by rw [h1 a ha]; exact h.kn a ha hk⟩
end
theorem parityvolScrubs (n : UInt8) (l : List volumegroupmake_Step) (rot : List UInt8) (row many : UInt8) : volumegrouplaw19_ParityvolScrubs n l rot row many = some true := by
  unfold volumegrouplaw19_ParityvolScrubs volumegroupmake_Few
  simp only [Option.bind_some]
  by_cases hl : ((l.length : Nat) : Int) ≤ 24 ∧ rot.length ≤ 6
  · rw [if_neg (by simp; omega), shape_eq]; simp only [Option.bind_some]
    rw [begunP_eq]; simp only [Option.bind_some, Option.elim_some]
    have hF := fuel_big
    generalize CP n = C
    have hL := C.hL
    have hR := C.hR
    have hc := C.hc
    have hO := @PC.hO C
    have hD := @PC.hD C
    obtain ⟨o', t, st', z', mz', V, q, e, h1, h2, hE, h3⟩ := playB (C := C) (l := l) (lose := -1) (k := 0) (by omega) (by omega)
    have hz : z' = none ∧ mz' = fun _ => false := h3.elim id (fun y => absurd y.2 (by decide))
    obtain ⟨rfl, rfl⟩ := hz
    have hst : st' = none := h2.ow.sz.elim id id
    subst hst
    have hm : ∀ i : Nat, (fun _ => false : Nat → Bool) i = false := fun _ => rfl
    rw [show volumegroupmake_Owner_Play (owB C) l (-1 : Int) (0 : Int) (0 : Int) (stB C) = some (true, o', t) from h1]; simp only [Option.bind_some]
    rw [if_neg (by simp), grd_t (decide_eq_true (by omega))]
    obtain ⟨t1, V1, a1, a2, a3, a4⟩ := rot_l1 (rot := rot) (V := V) FUEL 0 t V (by omega) (by omega) (by omega) hE h2.qs (fun _ _ _ => rfl)
    rw [a1, seqO_inl, Int.toNat_natCast]
    obtain ⟨w, b1, b2, b3⟩ := wrong_l2 (V' := V1) (r24 := (true, o', t)) hm a2 a3 h2.tl.len FUEL 0 (List.replicate C.R false) (by omega) (by omega) (by simp) (fun b hb => absurd hb (by omega))
    rw [b1, seqO_inl]
    obtain ⟨s1, -, -⟩ := pspans a2.ok
    rw [s1]; simp only [Option.bind_some]
    obtain ⟨V2, hV2⟩ : ∃ V2 : Nat → Nat → UInt64, V2 = fun d o => if q ≠ 0 ∧ o = e.off ∧ d = C.par o then e.p else V1 d o := ⟨_, rfl⟩
    have v1 : ∀ d o, ¬ (q ≠ 0 ∧ exE C e d o) → V2 d o = V1 d o := fun d o hx => by
      rw [hV2]
      show (if q ≠ 0 ∧ o = e.off ∧ d = C.par o then e.p else V1 d o) = _
      rw [if_neg (fun y => hx ⟨y.1, y.2.1, .inr (by rw [← y.2.1]; exact y.2.2)⟩)]
    have v2 : ∀ d o, d ≠ C.par o → V2 d o = V d o := fun d o hx => by
      rw [hV2]
      show (if q ≠ 0 ∧ o = e.off ∧ d = C.par o then e.p else V1 d o) = _
      rw [if_neg (fun y => hx y.2.2)]; exact a4 d o hx
    have v3 : q ≠ 0 → V2 (C.par e.off) e.off = e.p := fun hq => by
      rw [hV2]
      show (if q ≠ 0 ∧ e.off = e.off ∧ C.par e.off = C.par e.off then e.p else V1 _ _) = _
      rw [if_pos ⟨hq, rfl, rfl⟩]
    have hrc0 := Rc.now_Q a2 a3
    have hrc : Rc C none V2 q e t1 := ⟨hrc0.lo, hrc0.bd, fun d hd hds o ho hx => by rw [v1 d o hx]; exact hrc0.dt d hd hds o ho hx, hrc0.ex, hrc0.sh, fun d hd hds o ho hx => by rw [v1 d o hx]; exact hrc0.sd d hd hds o ho hx⟩
    have hjw : JW C V2 q e := ⟨fun hq => by
      have hv := h2.jv.ev hq
      exact ⟨hv.off, hv.leg, hv.ne, by rw [v2 _ _ hv.ne]; exact hv.w, v3 hq⟩, h2.jv.sm⟩
    -- what is odd behind the opening was odd ahead of it
    have hodd : ∀ o, o < C.O → xr (fun d => V2 d o) C.L ≠ 0 → xr (fun d => V1 d o) C.L ≠ 0 := fun o ho hx => by
      by_cases y : q ≠ 0 ∧ o = e.off
      · obtain ⟨y1, rfl⟩ := y
        exfalso
        refine hx ?_
        have e1 : (fun d => V2 d e.off) = fun d => V d e.off := funext fun d => by
          by_cases z : d = C.par e.off
          · rw [z, v3 y1]; exact (h2.jv.ev y1).p.symm
          · exact v2 _ _ z
        rw [e1]; exact h2.jv.even _ ho
      · have e1 : (fun d => V2 d o) = fun d => V1 d o := funext fun d => v1 d o (fun z => y ⟨z.1, z.2.1⟩)
        rw [e1] at hx; exact hx
    have hwr : ∀ r, r < C.R → (∃ j, j < C.c ∧ xr (fun d => V2 d (r * C.c + j)) C.L ≠ 0) → w.getD r false = true := fun r hr ⟨j, j1, j2⟩ => by
      have ho := row_lt hr j1
      obtain ⟨a, ha, hao⟩ := PC.sur ho
      have h4 := b3 a ha (by rw [hao]; exact hodd _ ho j2)
      rw [hao, show (r * C.c + j) / C.c = r by rw [Nat.add_comm, Nat.add_mul_div_right _ _ (by omega), Nat.div_eq_of_lt j1]; omega] at h4
      exact h4
    rcases pOpen_eq a2 (by omega) (fun j hj => by cases hj) hrc hjw with ⟨e1, t2, c1, c2, c3, c4⟩ | ⟨j, -, j2, -⟩
    · rw [show parityvol_Open (spansA t1) [] (C.c : Int) t1 = _ from c1]; simp only [Option.bind_some]
      rw [if_neg (by simp)]; simp only [Option.elim_some]
      have er : (C.R : Int) + 1 = ((C.R + 1 : Nat) : Int) := by push_cast; rfl
      obtain ⟨m, hmm⟩ : ∃ m, m = row.toNat % (C.R + 1) := ⟨_, rfl⟩
      obtain ⟨nn, hnn⟩ : ∃ nn, nn = many.toNat % 4 := ⟨_, rfl⟩
      have hm1 : m < C.R + 1 := by rw [hmm]; exact Nat.mod_lt _ (by omega)
      have hn1 : nn < 4 := by rw [hnn]; exact Nat.mod_lt _ (by omega)
      have hrow : ((row.toNat : Nat) : Int).tmod ((C.R : Int) + 1) = (m : Int) := by rw [er, tmodN, hmm]
      rw [hrow, ← hnn, grd_t (inI64_of (by omega)), grd_t (inI64_of (by omega)), grd_t (inI64_of (by omega))]
      unfold lt
      simp only
      have g0 : SC C (fun _ => false) 20018 V2 (vol C none none q e1 false 0) t2 := ⟨⟨q, e1, rfl, c3, c4, by have := h2.qk; omega⟩, c2⟩
      obtain ⟨l1, u1, t3, V3, hi1, d1, d2, d3, d4, d5, d6, d7⟩ := scrub_eq (m := m) (n := nn) hm g0 (by omega) (by omega) (by omega)
      rw [d1]; simp only [Option.bind_some]
      obtain ⟨l2, u2, t4, V4, hi2, f1, f2, f3, f4, f5, f6, f7⟩ := scrub_eq (m := 0) (n := C.R) hm d2 (by omega) (by omega) (by omega)
      rw [show parityvol_Volume_Scrub u1 (0 : Int) (C.R : Int) t3 = _ from f1]; simp only [Option.bind_some]
      rw [if_neg (by simp), scrubs_l4 (r128 := (l1, 0, u1, t3)) d7 d3 d4 b2 hwr hrow FUEL 0 (by have := d7.len; show l1.length - 0 < _; omega) (by omega), seqO_inl, scrubs_l5 (r132 := (l2, 0, u2, t4)) (V := V3) f7 f3 (fun o ho x1 x2 => d6.ev o ho ⟨x1, by
        have : o / C.c < C.R := (Nat.div_lt_iff_lt_mul (by omega)).2 ho
        omega⟩) hrow FUEL 0 (by have := f7.len; show l2.length - 0 < _; omega) (by omega), seqO_inl, grd_t (inI64_of (by omega))]
      obtain ⟨l3, u3, t5, V5, hi3, k1, k2, k3, k4, k5, k6, k7⟩ := scrub_eq (m := 0) (n := C.R + 5) hm f2 (by omega) (by omega) (by omega)
      have e5 : (C.R : Int) + 5 = ((C.R + 5 : Nat) : Int) := by push_cast; rfl
      rw [e5, show parityvol_Volume_Scrub u2 (0 : Int) ((C.R + 5 : Nat) : Int) t4 = _ from k1]; simp only [Option.bind_some]
      have ev4 : ∀ o, o < C.O → xr (fun d => V4 d o) C.L = 0 := fun o ho => f6.ev o ho ⟨Nat.zero_le _, by
        have : o / C.c < C.R := (Nat.div_lt_iff_lt_mul (by omega)).2 ho
        omega⟩
      have ev5 : ∀ o, o < C.O → xr (fun d => V5 d o) C.L = 0 := fun o ho => k6.ev o ho ⟨Nat.zero_le _, by
        have : o / C.c < C.R := (Nat.div_lt_iff_lt_mul (by omega)).2 ho
        omega⟩
      have hl3 : l3.length = 0 := by
        by_cases z : l3.length = 0
        · exact z
        · obtain ⟨x, x1, x2, x3, j, j1, j2⟩ := k7.at_ 0 (by omega)
          exact absurd (ev4 _ (row_lt (by omega) j1)) j2
      rw [hl3, if_neg (by simp)]
      obtain ⟨⟨q5, e6, rfl, m1, m2, m3⟩, m4⟩ := k2
      rcases pflush_eq (fun i j hi => by cases hi) m4 (by omega) m1 with ⟨t6, n1, n2, n3⟩ | ⟨j, -, -, j2, -⟩
      · rw [n1]; simp only [Option.bind_some]
        rw [if_neg (by simp)]
        have hti : TI C o'.T V5 := h2.ti.congr (fun d o hd => by rw [k6.dat d o hd, f6.dat d o hd, d6.dat d o hd]; exact v2 d o hd)
        have hup : UPv C none none (fun _ => false) 21000 V5 q5 e6 { o' with X := some (vol C none none q5 e6 false 0) } t6 := ⟨⟨0, .inl rfl, rfl⟩, h2.ow.set rfl rfl rfl, n2.any.mono (by omega), ⟨ev5, m2.ev, m2.sm⟩, by omega, n3, hti, h2.tl.mono (by omega)⟩
        obtain ⟨o7, w1, w2⟩ := oloseP (k := 0) hup (by omega)
        rw [show volumegroupmake_Owner_Lose { o' with X := some (vol C none none q5 e6 false 0) } (0 : Int) (0 : Int) t6 = _ from w1]; simp only [Option.bind_some]
        rw [if_pos trivial]
        obtain ⟨st8, o8, y1, y2⟩ := oallP w2 (by omega) (g := false)
        rw [y1]; simp only [Option.bind_some]
        rw [if_pos trivial, awake19]; rfl
      · cases j2
    · cases j2
  · rw [if_pos (by simp; omega), awake19]; rfl
end Go.Proofs
