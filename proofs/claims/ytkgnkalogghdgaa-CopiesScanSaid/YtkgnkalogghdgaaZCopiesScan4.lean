/- CopiesScan, part 4 of the proof: LPack, PPack, LCopy, LRef12. -/
import Derived.WalkKit
import Derived.Orders
import Derived.RangeFuncLeaves
import Derived.RangeFuncCalls
import Derived.TacticsIn
import Derived.Handy
import Derived.OrdersHeld
import Derived.OrdersIn
import Derived.Below
import Derived.OpenShut
import Derived.Deep.Slices
import Derived.Scope
import Derived.KernelRfl
import Derived.RangeFuncRecord
import Derived.ChangeKeysEq
import Derived.Laws.BytesArg
import Derived.ProofKit
import Derived.ShutString
import Derived.ChangeOld
import Derived.Test.YtkgnkalogghdgaaChecked
import Derived.Test.YtkgnkalogghdgaaRows
import Derived.Test.YtkgnkalogghdgaaZCopiesScan3
set_option linter.unusedSimpArgs false
set_option linter.unusedVariables false
set_option maxRecDepth 20000
set_option maxHeartbeats 4000000
namespace Go.Proofs
open Go.VG
theorem bs_29_1_0 (v0 : Int) : BuildsSlice Try.prog 29 1 [(0, .int .u64 v0)] 39 [.int .u64 v0] := fun w => by kernel_rfl
def pack_Length (n_0 : Int) : Option (Int) :=
  if (n_0 < (0 : Int)) then
    some (0 : Int)
  else
    grd (inI64 (((1 : Int) + (IntKind.i64.wrap (n_0.tdiv (8 : Int)))))) <|
    if ((0 : Int) < (n_0 % (8 : Int))) then
      grd (inI64 ((((1 : Int) + (IntKind.i64.wrap (n_0.tdiv (8 : Int)))) + (1 : Int)))) <|
      some ((((1 : Int) + (IntKind.i64.wrap (n_0.tdiv (8 : Int)))) + (1 : Int)))
    else
      some (((1 : Int) + (IntKind.i64.wrap (n_0.tdiv (8 : Int)))))
theorem L_pack_Length {W : World} {n_0 : Int} {r : Int} (h : pack_Length n_0 = some r) :
    CSpec Try.prog W 80 [.int .i64 n_0] [] (fun x : Unit => .int .i64 r) (fun _ => True) (fun x F => F) := by
 refine CSpec.of_body Try.func80 rfl Try.ntmps80 rfl fun F => ?_
 show CJ _ _ _ _ _ _ (F)
 unfold pack_Length at h
 refine sR <| oA rfl rfl <| nT <| CJ_seq <| sR <| oM rfl rfl <| oP (P_lss (a := n_0) (b := (0 : Int)) rfl rfl) rfl <| nT <| CJ_condP rfl bT_dec (fun hg1 => ?_) (fun hg1 => ?_)
 ·
  replace h := ite_t hg1 h
  refine sR <| oA rfl rfl <| nT <| CJ_ret <| QJ_then_ret ?_
  cases h
  exact fE (res1 Try.results80 rfl) () eR
 ·
  replace h := ite_f hg1 h
  refine kT <| sR <| oM rfl rfl <| oP (P_quoT (a := n_0) (b := (8 : Int)) rfl rfl (by decide)) rfl ?_
  obtain ⟨hg2, h⟩ := grd_Ie h
  refine oP (P_add (a := (1 : Int)) (b := (IntKind.i64.wrap (n_0.tdiv (8 : Int)))) rfl rfl hg2) rfl <| oA rfl rfl <| nT <| CJ_seq <| sR <| oM rfl rfl <| oP (P_rem (a := n_0) (b := (8 : Int)) rfl rfl (by omega)) rfl <| oP (P_gtr (a := (n_0 % (8 : Int))) (b := (0 : Int)) rfl rfl) rfl <| nT <| CJ_condP rfl bT_dec (fun hg3 => ?_) (fun hg3 => ?_)
  ·
   replace h := ite_t hg3 h
   refine CJ_region <| oM rfl rfl ?_
   obtain ⟨hg4, h⟩ := grd_Ie h
   refine oP (P_add (a := ((1 : Int) + (IntKind.i64.wrap (n_0.tdiv (8 : Int))))) (b := (1 : Int)) rfl rfl hg4) rfl <| oA rfl rfl <| nT <| sR <| oM rfl rfl <| oA rfl rfl <| nT <| CJ_ret ?_
   cases h
   exact fE (res1 Try.results80 rfl) () eR
  ·
   replace h := ite_f hg3 h
   refine kT <| sR <| oM rfl rfl <| oA rfl rfl <| nT <| CJ_ret ?_
   cases h
   exact fE (res1 Try.results80 rfl) () eR
def pack_Text_l1_b (s_0 : ByteArray) (rec : (List UInt64) → Nat → Option ((List UInt64))) (x10 : List UInt64) (x11 : Nat) : Option ((List UInt64)) :=
  if (((x11 : Nat) : Int) < ((s_0.size : Nat) : Int)) then
    grd (decide ((1 + (x11 / 8)) < x10.length)) <|
    lt ((shl_u64 ((to_u64 (((strAt s_0 x11).toNat : Int)))) ((((((x11 % 8) : Nat) : Int) * (8 : Int))).toNat))) fun w13 =>
    grd (decide ((1 + (x11 / 8)) < x10.length)) <|
    rec ((x10.set ((1 + (x11 / 8))) (((x10.getD ((1 + (x11 / 8))) 0) ||| w13)))) (x11 + 1)
  else
    some x10
def pack_Text_l1 (s_0 : ByteArray) : Nat → (List UInt64) → Nat → Option ((List UInt64))
  | 0, _, _ => none
  | n + 1, x10, x11 => pack_Text_l1_b s_0 (pack_Text_l1 s_0 n) x10 x11
def pack_Text (s_0 : ByteArray) : Option ((List UInt64) × Int) :=
  if ((8192 : Int) < ((s_0.size : Nat) : Int)) then
    some (([], (4 : Int)))
  else
    Option.bind (pack_Length (((s_0.size : Nat) : Int))) fun r2 =>
    grd (decide (0 ≤ r2 ∧ r2 ≤ 1000000000)) <|
    grd (decide (0 < ((List.replicate ((r2).toNat) (0 : UInt64))).length)) <|
    Option.bind (pack_Text_l1 s_0 FUEL ((((List.replicate ((r2).toNat) (0 : UInt64))).set 0 ((to_u64 (((s_0.size : Nat) : Int)))))) 0) fun a9 =>
    some ((a9, (0 : Int)))
theorem L_pack_Text {W : World} {s_0 : ByteArray} {r : (List UInt64) × Int} (h : pack_Text s_0 = some r) :
    CSpec Try.prog W 55 [.string s_0] [] (fun x : Sl3 => .tuple #[x.v, .int .i64 r.2]) (fun _ => True) (fun x F => sl tyU x.v r.1 :: F) := by
 refine CSpec.of_body Try.func55 rfl Try.ntmps55 rfl fun F => ?_
 show CJ _ _ _ _ _ _ (F)
 unfold pack_Text at h
 refine sR <| oA rfl rfl <| oA rfl rfl <| nT <| CJ_seq <| sR <| oM rfl rfl <| oP (P_lenS (b := s_0) rfl Try.runUnderlying9) rfl <| oP (P_gtr (a := ((s_0.size : Nat) : Int)) (b := (8192 : Int)) rfl rfl) rfl <| nT <| CJ_condP rfl bT_dec (fun hg1 => ?_) (fun hg1 => ?_)
 ·
  replace h := ite_t hg1 h
  refine sR <| oA rfl rfl <| oA rfl rfl <| nT <| CJ_ret <| QJ_then_ret <| QJ_ent (fun h hh => sl_nil (t := tyU) h hh) ?_
  cases h
  exact fE (res2 Try.results55 rfl rfl) ⟨none, 0, 0⟩ eR
 ·
  replace h := ite_f hg1 h
  refine kT <| sR <| oM rfl rfl <| oP (P_lenS (b := s_0) rfl Try.runUnderlying9) rfl ?_
  obtain ⟨r2, hr3, h⟩ := bind_e h
  refine oO <| O_call (L_pack_Length hr3) rfl Try.call80 Dels.nil rfl fun _ _ => ?_
  obtain ⟨hg2, h⟩ := grd_de h
  refine oO <| O_make (t := tyU) (m := (r2).toNat) (x0 := 0) (z := _) (bytes := _) rfl rfl (Int.toNat_of_nonneg (hg2.1)).symm (Int.toNat_of_nonneg (hg2.1)).symm Try.underlying29 ⟨Try.t39, by kernel_rfl, rfl, rfl, rfl⟩ rfl (by omega) (by decide) rfl fun b4 => oA rfl rfl <| nT <| sR <| oM rfl rfl <| oM rfl rfl <| oP (P_lenS (b := s_0) rfl Try.runUnderlying9) rfl <| oP (P_conv_u64 (a := ((s_0.size : Nat) : Int)) rfl Try.runUnderlying3 Try.runUnderlying39) rfl ?_
  obtain ⟨hg3, h⟩ := grd_de h
  refine oV (V_index (i := 0) rfl rfl rfl hg3 foc0 (Reads.sl _ _ _) Try.runUnderlying29 Try.sizeOf39) rfl <| oO <| O_storeE (x' := (to_u64 (((s_0.size : Nat) : Int)))) rfl rfl rfl hg3 foc0 rfl rfl rfl Try.sizeOf39 <| nT <| CJ_seq <| sR <| oM rfl rfl <| oP (P_lenS (b := s_0) rfl Try.runUnderlying9) rfl <| oM rfl rfl <| nT ?_
  obtain ⟨y7, hl5, hK6⟩ := bind_c h
  refine CJ_cutT (X := (List UInt64)) [5, 20, 21, 22, 23, 24, 25, 26, 27, 28, 29, 30, 31, 32, 33, 34, 35, 36, 37, 38, 39] (fun a9 => ([] : Slots)) (fun a9 R => sl tyU (.slice (some ⟨b4, 0, none⟩) ((r2).toNat) ((r2).toNat)) a9 :: R) (fun a9 => y7 = a9) (Dels.cons del0 Dels.nil) ?_ ?_
  ·
   refine CJ_block <| CJ_loopR (X := Nat × (List UInt64) × Nat) [5, 20, 21, 22, 23, 24, 25, 26, 27, 28, 29, 30, 31, 32, 33, 34, 35, 36, 37, 38, 39] (fun ⟨n, x10, x11⟩ => ([(20, .int .i64 (((x11 : Nat) : Int)))] : Slots)) (fun ⟨n, x10, x11⟩ R => sl tyU (.slice (some ⟨b4, 0, none⟩) ((r2).toNat) ((r2).toNat)) x10 :: R) (fun ⟨n, x10, x11⟩ => pack_Text_l1 s_0 n x10 x11 = some y7) (fun ⟨n, x10, x11⟩ => n) ⟨FUEL, (((List.replicate ((r2).toNat) (0 : UInt64))).set 0 ((to_u64 (((s_0.size : Nat) : Int))))), 0⟩ ?_ ?_ eR ?_
   · exact hl5
   · exact ⟨rfl, True.intro⟩
   ·
    rintro ⟨n, x10, x11⟩ h
    cases n with
    | zero => exact none_e h
    | succ n => ?_
    replace h : pack_Text_l1_b s_0 (pack_Text_l1 s_0 n) x10 x11 = some y7 := h
    unfold pack_Text_l1_b at h
    show CJ _ _ _ _ _ (([(20, .int .i64 (((x11 : Nat) : Int)))] : Slots) ++ forget _ _) (sl tyU (.slice (some ⟨b4, 0, none⟩) ((r2).toNat) ((r2).toNat)) x10 :: _)
    refine lC del0 fun hlen12 => sR <| oP (P_lss (a := ((x11 : Nat) : Int)) (b := ((s_0.size : Nat) : Int)) rfl rfl) rfl <| nT <| CJ_seq <| CJ_condP rfl bT_dec (fun hg4 => ?_) (fun hg4 => ?_)
    ·
     replace h := ite_t hg4 h
     refine kT <| CJ_seq <| CJ_block <| sR <| oM rfl rfl <| oA rfl rfl <| nT <| AJ_startH 65536 (by kernel_rfl) rfl <| aN 0 1 rfl rfl (P_move rfl) rfl <| aN 1 3 rfl rfl (P_move rfl) rfl <| aN 2 7 rfl rfl (PJ_eq (P_quo (a := ((x11 : Nat) : Int)) (b := (8 : Int)) rfl rfl (by omega)) rfl) rfl <| aN 3 15 rfl rfl (PJ_eq (P_add (a := (1 : Int)) (b := (((x11 / 8) : Nat) : Int)) rfl rfl (by omega)) rfl) rfl ?_
     obtain ⟨hg5, h⟩ := grd_de h
     refine aV 4 31 rfl rfl (GY_none rfl) eR (V_index (i := (1 + (x11 / 8))) rfl rfl rfl hg5 foc0 (Reads.sl _ _ _) Try.runUnderlying29 Try.sizeOf39) rfl <| aV 5 63 rfl rfl (GY_none rfl) eR (V_loadE rfl rfl hg5 foc0 (Reads.sl _ _ _) rfl rfl Try.isAgg39) rfl <| aN 6 127 rfl rfl (P_move rfl) rfl <| aN 7 255 rfl rfl (P_move rfl) rfl <| aN 8 511 rfl rfl (P_indexS (b := s_0) (i := x11) rfl rfl rfl (by omega) Try.runUnderlying9) rfl <| aN 9 1023 rfl rfl (P_conv_u64 (a := ((strAt s_0 x11).toNat : Int)) rfl Try.runUnderlying5 Try.runUnderlying39) rfl <| aN 10 2047 rfl rfl (P_move rfl) rfl <| aN 11 4095 rfl rfl (PJ_eq (P_rem (a := ((x11 : Nat) : Int)) (b := (8 : Int)) rfl rfl (by omega)) rfl) rfl <| aN 12 8191 rfl rfl (P_mul (a := (((x11 % 8) : Nat) : Int)) (b := (8 : Int)) rfl rfl (by omega)) rfl <| aN 13 16383 rfl rfl (P_shl_u64 (a := (to_u64 (((strAt s_0 x11).toNat : Int)))) (m := (((((x11 % 8) : Nat) : Int) * (8 : Int))).toNat) rfl rfl (Int.toNat_of_nonneg (by omega)).symm) rfl ?_
     obtain ⟨w13, hw13, h⟩ := lt_e h
     rw [← hw13]
     refine aN 14 32767 rfl rfl (P_or_u64 (a := (x10.getD ((1 + (x11 / 8))) 0)) (b := w13) rfl rfl) rfl ?_
     obtain ⟨hg6, h⟩ := grd_de h
     refine aV 15 65535 rfl rfl (GY_none rfl) eR (V_index (i := (1 + (x11 / 8))) rfl rfl rfl hg6 foc0 (Reads.sl _ _ _) Try.runUnderlying29 Try.sizeOf39) rfl <| AJ_op 16 131071 rfl (by kernel_rfl) rfl (GY_none rfl) <| O_storeE (x' := ((x10.getD ((1 + (x11 / 8))) 0) ||| w13)) rfl rfl rfl hg6 foc0 rfl rfl rfl Try.sizeOf39 <| ⟨fun h => absurd h (by decide), ?_⟩
     exact AJ_done (by kernel_rfl) <| QJ_block_normal <| QJ_then <| CJ_region <| oP (PJ_eq (P_add (a := ((x11 : Nat) : Int)) (b := (1 : Int)) rfl rfl (by omega)) rfl) rfl <| oM rfl rfl <| RJ_nil <| nR ⟨n, (x10.set ((1 + (x11 / 8))) (((x10.getD ((1 + (x11 / 8))) 0) ||| w13))), (x11 + 1)⟩ h ⟨rfl, True.intro⟩ eR
    ·
     replace h := ite_f hg4 h
     exact CJ_exit <| QJ_then_exit <| QJ_round_exit <| QJ_block_here <| cR x10 (Option.some.inj h).symm True.intro eR
  ·
   rintro a9 hy14
   replace h := bindK_at hK6 hy14
   show CJ _ _ _ _ _ (([] : Slots) ++ forget _ _) (sl tyU (.slice (some ⟨b4, 0, none⟩) ((r2).toNat) ((r2).toNat)) a9 :: _)
   refine lC del0 fun hlen15 => sR <| oM rfl rfl <| oA rfl rfl <| oA rfl rfl <| nT <| CJ_ret ?_
   cases h
   exact fE (res2 Try.results55 rfl rfl) ⟨some ⟨b4, 0, none⟩, (r2).toNat, (r2).toNat⟩ eR
def slices_Equal_uint64_l1_b (p0 : List UInt64) (p1 : List UInt64) (rec : Nat → Option ((Unit) ⊕ Bool)) (x7 : Nat) : Option ((Unit) ⊕ Bool) :=
  if (((x7 : Nat) : Int) < ((p0.length : Nat) : Int)) then
    if ((p0.getD x7 0) ≠ (p1.getD x7 0)) then
      some (.inr false)
    else
      rec (x7 + 1)
  else
    some (.inl ())
def slices_Equal_uint64_l1 (p0 : List UInt64) (p1 : List UInt64) : Nat → Nat → Option ((Unit) ⊕ Bool)
  | 0, _ => none
  | n + 1, x7 => slices_Equal_uint64_l1_b p0 p1 (slices_Equal_uint64_l1 p0 p1 n) x7
def slices_Equal_uint64 (p0 : List UInt64) (p1 : List UInt64) : Option (Bool) :=
  if (((p0.length : Nat) : Int) ≠ ((p1.length : Nat) : Int)) then
    some false
  else
    seqO (slices_Equal_uint64_l1 p0 p1 FUEL 0) fun a6 =>
    some true
theorem L_slices_Equal_uint64 {W : World} {Ap0 : HP} {vp0 : Value} {Ap1 : HP} {vp1 : Value} {p0 : List UInt64} {p1 : List UInt64} {r : Bool} (rp0 : Reads Ap0 tyU vp0 p0) (rp1 : Reads Ap1 tyU vp1 p1) (h : slices_Equal_uint64 p0 p1 = some r) :
    CSpec Try.prog W 95 [vp0, vp1] [Ap0, Ap1] (fun x : Unit => .bool r) (fun _ => True) (fun x F => Ap0 :: Ap1 :: F) := by
 refine CSpec.of_body Try.func95 rfl Try.ntmps95 rfl fun F => ?_
 show CJ _ _ _ _ _ _ (_ :: _ :: F)
 unfold slices_Equal_uint64 at h
 refine CJ_pure (len_of rp0 del0) fun hlen1 => CJ_pure (len_of rp1 del1) fun hlen2 => sR <| oA rfl rfl <| nT <| CJ_seq <| sR <| oM rfl rfl <| oV (V_len rfl foc0 rp0 Try.runUnderlying29) rfl <| oM rfl rfl <| oV (V_len rfl foc1 rp1 Try.runUnderlying29) rfl <| oP (P_neq (a := ((p0.length : Nat) : Int)) (b := ((p1.length : Nat) : Int)) rfl rfl) rfl <| nT <| CJ_condP rfl bT_dec (fun hg1 => ?_) (fun hg1 => ?_)
 ·
  replace h := ite_t hg1 h
  refine sR <| oA rfl rfl <| nT <| CJ_ret <| QJ_then_ret ?_
  cases h
  exact fE (res1 Try.results95 rfl) () eR
 ·
  replace h := ite_f hg1 h
  refine kT <| CJ_seq <| sR <| oM rfl rfl <| oV (V_len rfl foc0 rp0 Try.runUnderlying29) rfl <| oM rfl rfl <| nT ?_
  obtain ⟨y5, hl3, hK4⟩ := seq_e h
  refine CJ_cutT (X := Unit) [4, 5, 13, 14, 15, 16, 17, 18, 19, 20, 21, 22, 23, 24, 25] (fun _ => ([] : Slots)) (fun _ R => R) (fun _ => y5 = .inl ()) Dels.nil ?_ ?_
  ·
   refine CJ_block <| CJ_loopR (X := Nat × Nat) [4, 5, 13, 14, 15, 16, 17, 18, 19, 20, 21, 22, 23, 24, 25] (fun ⟨n, x7⟩ => ([(13, .int .i64 (((x7 : Nat) : Int)))] : Slots)) (fun ⟨n, x7⟩ R => R) (fun ⟨n, x7⟩ => slices_Equal_uint64_l1 p0 p1 n x7 = some y5) (fun ⟨n, x7⟩ => n) ⟨FUEL, 0⟩ ?_ ?_ eR ?_
   · exact hl3
   · exact ⟨rfl, True.intro⟩
   ·
    rintro ⟨n, x7⟩ h
    cases n with
    | zero => exact none_e h
    | succ n => ?_
    replace h : slices_Equal_uint64_l1_b p0 p1 (slices_Equal_uint64_l1 p0 p1 n) x7 = some y5 := h
    unfold slices_Equal_uint64_l1_b at h
    show CJ _ _ _ _ _ (([(13, .int .i64 (((x7 : Nat) : Int)))] : Slots) ++ forget _ _) (_)
    refine sR <| oP (P_lss (a := ((x7 : Nat) : Int)) (b := ((p0.length : Nat) : Int)) rfl rfl) rfl <| nT <| CJ_seq <| CJ_condP rfl bT_dec (fun hg2 => ?_) (fun hg2 => ?_)
    ·
     replace h := ite_t hg2 h
     refine kT <| CJ_seq <| CJ_block <| sR <| oM rfl rfl <| oA rfl rfl <| nT <| CJ_seq <| AJ_startH 0 (by kernel_rfl) rfl <| aN 0 1 rfl rfl (P_move rfl) rfl <| aN 1 3 rfl rfl (P_move rfl) rfl <| aV 2 7 rfl rfl (GY_none rfl) eR (V_index (i := x7) rfl rfl rfl (by omega) foc0 rp0 Try.runUnderlying29 Try.sizeOf39) rfl <| aV 3 15 rfl rfl (GY_none rfl) eR (V_loadE rfl rfl (by omega) foc0 rp0 rfl rfl Try.isAgg39) rfl <| aN 4 31 rfl rfl (P_move rfl) rfl <| aN 5 63 rfl rfl (P_move rfl) rfl <| aV 6 127 rfl rfl (GY_none rfl) eR (V_index (i := x7) rfl rfl rfl (by omega) foc1 rp1 Try.runUnderlying29 Try.sizeOf39) rfl <| aV 7 255 rfl rfl (GY_none rfl) eR (V_loadE rfl rfl (by omega) foc1 rp1 rfl rfl Try.isAgg39) rfl <| aN 8 511 rfl rfl (P_ne_u64 (a := (p0.getD x7 0)) (b := (p1.getD x7 0)) rfl rfl) rfl <| aD <| CJ_condP rfl bT_dec (fun hg3 => ?_) (fun hg3 => ?_)
     ·
      replace h := ite_t hg3 h
      refine sR <| oA rfl rfl <| nT <| CJ_ret <| QJ_block_ret <| QJ_then_ret <| QJ_round_ret <| QJ_block_ret <| QJ_then_ret ?_
      have hE := Option.some.inj h
      replace hE := seq_inr hK4 hE.symm
      subst hE
      exact fE (res1 Try.results95 rfl) () eR
     ·
      replace h := ite_f hg3 h
      exact CJ_skip <| QJ_block_normal <| QJ_then <| CJ_region <| oP (PJ_eq (P_add (a := ((x7 : Nat) : Int)) (b := (1 : Int)) rfl rfl (by omega)) rfl) rfl <| oM rfl rfl <| RJ_nil <| nR ⟨n, (x7 + 1)⟩ h ⟨rfl, True.intro⟩ eR
    ·
     replace h := ite_f hg2 h
     exact CJ_exit <| QJ_then_exit <| QJ_round_exit <| QJ_block_here <| cR () (Option.some.inj h).symm True.intro eR
  ·
   rintro _ hy8
   replace h := seq_inl hK4 hy8
   show CJ _ _ _ _ _ (([] : Slots) ++ forget _ _) (_)
   refine sR <| oA rfl rfl <| nT <| CJ_ret ?_
   cases h
   exact fE (res1 Try.results95 rfl) () eR
def pack_FromText_l1_b (l : List UInt64) (rec : (List UInt8) → Nat → Option ((List UInt8))) (x18 : List UInt8) (x19 : Nat) : Option ((List UInt8)) :=
  if (((x19 : Nat) : Int) < ((((List.replicate ((l.getD 0 0).toNat) (0 : UInt8))).length : Nat) : Int)) then
    grd (inI64 (((1 : Int) + (IntKind.i64.wrap ((((x19 : Nat) : Int)).tdiv (8 : Int)))))) <|
    grd (decide (0 ≤ ((1 : Int) + (IntKind.i64.wrap ((((x19 : Nat) : Int)).tdiv (8 : Int)))) ∧ ((1 : Int) + (IntKind.i64.wrap ((((x19 : Nat) : Int)).tdiv (8 : Int)))) < (l.length : Int))) <|
    lt ((l.getD ((((1 : Int) + (IntKind.i64.wrap ((((x19 : Nat) : Int)).tdiv (8 : Int))))).toNat) 0)) fun w21 =>
    lt ((to_u8 (((shr_u64 w21 ((((((x19 % 8) : Nat) : Int) * (8 : Int))).toNat)).toNat : Int)))) fun w22 =>
    grd (decide (x19 < x18.length)) <|
    grd (inN64 (x19 + 1)) <|
    rec (x18.set x19 w22) (x19 + 1)
  else
    some x18
def pack_FromText_l1 (l : List UInt64) : Nat → (List UInt8) → Nat → Option ((List UInt8))
  | 0, _, _ => none
  | n + 1, x18, x19 => pack_FromText_l1_b l (pack_FromText_l1 l n) x18 x19
def pack_FromText (l : List UInt64) : Option (ByteArray × Int) :=
  if ((((l.length : Nat) : Int) = (0 : Int)) ∨ (((8192 : UInt64).toNat : Int) < ((l.getD 0 0).toNat : Int))) then
    some (((ByteArray.mk #[]), (2 : Int)))
  else
    Option.bind (pack_Length ((IntKind.i64.wrap ((l.getD 0 0).toNat : Int)))) fun r10 =>
    if (((l.length : Nat) : Int) ≠ r10) then
      some (((ByteArray.mk #[]), (2 : Int)))
    else
      grd (inLen ((l.getD 0 0).toNat)) <|
      Option.bind (pack_FromText_l1 l FUEL ((List.replicate ((l.getD 0 0).toNat) (0 : UInt8))) 0) fun a17 =>
      Option.bind (pack_Text (strOf a17)) fun r25 =>
      if (r25.2 ≠ (0 : Int)) then
        some (((ByteArray.mk #[]), (2 : Int)))
      else
        Option.bind (slices_Equal_uint64 r25.1 l) fun r29 =>
        if (¬ r29 = true) then
          some (((ByteArray.mk #[]), (2 : Int)))
        else
          some (((strOf a17), (0 : Int)))
theorem L_pack_FromText {W : World} {Al : HP} {vl : Value} {l : List UInt64} {r : ByteArray × Int} (rl : Reads Al tyU vl l) (h : pack_FromText l = some r) :
    CSpec Try.prog W 81 [vl] [Al] (fun x : Unit => .tuple #[.string r.1, .int .i64 r.2]) (fun _ => True) (fun x F => Al :: F) := by
 refine CSpec.of_body Try.func81 rfl Try.ntmps81 rfl fun F => ?_
 show CJ _ _ _ _ _ _ (_ :: F)
 unfold pack_FromText at h
 refine CJ_pure (len_of rl del0) fun hlen1 => sR <| oA rfl rfl <| oA rfl rfl <| nT <| CJ_seq <| sR <| oM rfl rfl <| oV (V_len rfl foc0 rl Try.runUnderlying29) rfl <| oP (P_eql (a := ((l.length : Nat) : Int)) (b := (0 : Int)) rfl rfl) rfl <| oM rfl rfl <| RJ_mbF rfl rfl rfl (fun hG2 => have hP3 : ¬ (((l.length : Nat) : Int) = (0 : Int)) := nP (bT_dec) hG2; VJ_P (P_move rfl)) <| RJ_mbF rfl rfl rfl (fun hG4 => have hP5 : ¬ (((l.length : Nat) : Int) = (0 : Int)) := nP (bT_dec) hG4; V_index (i := 0) (mbx hG4 rfl) rfl rfl (by omega) foc0 rl Try.runUnderlying29 Try.sizeOf39) <| RJ_mbF rfl rfl rfl (fun hG6 => have hP7 : ¬ (((l.length : Nat) : Int) = (0 : Int)) := nP (bT_dec) hG6; V_loadE (mbx hG6 rfl) rfl (by omega) foc0 rl rfl rfl Try.isAgg39) <| RJ_mbF rfl rfl rfl (fun hG8 => have hP9 : ¬ (((l.length : Nat) : Int) = (0 : Int)) := nP (bT_dec) hG8; VJ_P (P_gtr (a := ((l.getD 0 0).toNat : Int)) (b := ((8192 : UInt64).toNat : Int)) (mbx hG8 rfl) rfl)) <| oP (P_pickOr rfl rfl (fun hh => mbx (not_f hh) rfl)) rfl <| oM rfl rfl <| RJ_splitP 17 rfl (bT_or bT_dec bT_dec) (fun hg1B hg1 => ?_) (fun hg1B hg1 => ?_)
 ·
  replace h := ite_t hg1 h
  refine RJ_gn (GY_no rfl rfl rfl hg1B) rfl rfl <| RJ_gn (GY_no rfl rfl rfl hg1B) rfl rfl <| RJ_gn (GY_no rfl rfl rfl hg1B) rfl rfl <| RJ_gn (GY_no rfl rfl rfl hg1B) rfl rfl <| RJ_gn (GY_no rfl rfl rfl hg1B) rfl rfl <| RJ_gn (GY_no rfl rfl rfl hg1B) rfl rfl <| RJ_gn (GY_no rfl rfl rfl hg1B) rfl rfl <| RJ_gn (GY_no rfl rfl rfl hg1B) rfl rfl <| oP (P_pickT rfl hg1B rfl) rfl <| nT <| CJ_condT rfl rfl <| sR <| oA rfl rfl <| oA rfl rfl <| nT <| CJ_ret <| QJ_then_ret ?_
  cases h
  exact fE (res2 Try.results81 rfl rfl) () eR
 ·
  replace h := ite_f hg1 h
  refine gP (GY_yes rfl rfl rfl hg1B) (P_move rfl) rfl <| gV (GY_yes rfl rfl rfl hg1B) (V_len rfl foc0 rl Try.runUnderlying29) rfl <| gP (GY_yes rfl rfl rfl hg1B) (P_move rfl) rfl <| gV (GY_yes rfl rfl rfl hg1B) (V_index (i := 0) rfl rfl rfl (by omega) foc0 rl Try.runUnderlying29 Try.sizeOf39) rfl <| gV (GY_yes rfl rfl rfl hg1B) (V_loadE rfl rfl (by omega) foc0 rl rfl rfl Try.isAgg39) rfl <| gP (GY_yes rfl rfl rfl hg1B) (P_conv rfl Try.runUnderlying39 Try.runUnderlying3) rfl ?_
  obtain ⟨r10, hr11, h⟩ := bind_e h
  refine RJ_gy (GY_yes rfl rfl rfl hg1B) <| O_call (L_pack_Length hr11) rfl Try.call80 Dels.nil rfl fun _ _ => gP (GY_yes rfl rfl rfl hg1B) (P_neq (a := ((l.length : Nat) : Int)) (b := r10) rfl rfl) rfl <| oP (P_pickF rfl hg1B rfl) rfl <| nT <| CJ_condP rfl bT_dec (fun hg2 => ?_) (fun hg2 => ?_)
  ·
   replace h := ite_t hg2 h
   refine sR <| oA rfl rfl <| oA rfl rfl <| nT <| CJ_ret <| QJ_then_ret ?_
   cases h
   exact fE (res2 Try.results81 rfl rfl) () eR
  ·
   replace h := ite_f hg2 h
   refine kT <| sR <| oM rfl rfl <| oV (V_index (i := 0) rfl rfl rfl (by omega) foc0 rl Try.runUnderlying29 Try.sizeOf39) rfl <| oV (V_loadE rfl rfl (by omega) foc0 rl rfl rfl Try.isAgg39) rfl ?_
   obtain ⟨hg3, h⟩ := grd_Le h
   refine oO <| O_make (t := tyU8) (m := (l.getD 0 0).toNat) (x0 := 0) (z := _) (bytes := _) rfl rfl rfl rfl Try.underlying22 ⟨Try.t5, by kernel_rfl, rfl, rfl, rfl⟩ rfl hg3 (by decide) rfl fun b12 => oA rfl rfl <| nT <| CJ_seq <| sR <| oM rfl rfl <| oV (V_len rfl foc0 (Reads.sl _ _ _) Try.runUnderlying22) rfl <| oM rfl rfl <| nT ?_
   obtain ⟨y15, hl13, hK14⟩ := bind_c h
   refine CJ_cutT (X := (List UInt8)) [5, 33, 34, 35, 36, 37, 38, 39, 40, 41, 42, 43, 44, 45, 46, 47, 48, 49, 50] (fun a17 => ([] : Slots)) (fun a17 R => sl tyU8 (.slice (some ⟨b12, 0, none⟩) ((l.getD 0 0).toNat) ((l.getD 0 0).toNat)) a17 :: R) (fun a17 => y15 = a17) (Dels.cons del0 Dels.nil) ?_ ?_
   ·
    refine CJ_block <| CJ_loopR (X := Nat × (List UInt8) × Nat) [5, 33, 34, 35, 36, 37, 38, 39, 40, 41, 42, 43, 44, 45, 46, 47, 48, 49, 50] (fun ⟨n, x18, x19⟩ => ([(33, .int .i64 (((x19 : Nat) : Int)))] : Slots)) (fun ⟨n, x18, x19⟩ R => sl tyU8 (.slice (some ⟨b12, 0, none⟩) ((l.getD 0 0).toNat) ((l.getD 0 0).toNat)) x18 :: R) (fun ⟨n, x18, x19⟩ => pack_FromText_l1 l n x18 x19 = some y15) (fun ⟨n, x18, x19⟩ => n) ⟨FUEL, (List.replicate ((l.getD 0 0).toNat) (0 : UInt8)), 0⟩ ?_ ?_ eR ?_
    · exact hl13
    · exact ⟨rfl, True.intro⟩
    ·
     rintro ⟨n, x18, x19⟩ h
     cases n with
     | zero => exact none_e h
     | succ n => ?_
     replace h : pack_FromText_l1_b l (pack_FromText_l1 l n) x18 x19 = some y15 := h
     unfold pack_FromText_l1_b at h
     show CJ _ _ _ _ _ (([(33, .int .i64 (((x19 : Nat) : Int)))] : Slots) ++ forget _ _) (sl tyU8 (.slice (some ⟨b12, 0, none⟩) ((l.getD 0 0).toNat) ((l.getD 0 0).toNat)) x18 :: _)
     refine lC del0 fun hlen20 => sR <| oP (P_lss (a := ((x19 : Nat) : Int)) (b := ((((List.replicate ((l.getD 0 0).toNat) (0 : UInt8))).length : Nat) : Int)) rfl rfl) rfl <| nT <| CJ_seq <| CJ_condP rfl bT_dec (fun hg4 => ?_) (fun hg4 => ?_)
     ·
      replace h := ite_t hg4 h
      refine kT <| CJ_seq <| CJ_block <| sR <| oM rfl rfl <| oA rfl rfl <| nT <| CJ_region <| oM rfl rfl <| oM rfl rfl <| oM rfl rfl <| oM rfl rfl <| oP (P_quoT (a := ((x19 : Nat) : Int)) (b := (8 : Int)) rfl rfl (by decide)) rfl ?_
      obtain ⟨hg5, h⟩ := grd_Ie h
      refine oP (P_add (a := (1 : Int)) (b := (IntKind.i64.wrap ((((x19 : Nat) : Int)).tdiv (8 : Int)))) rfl rfl hg5) rfl ?_
      obtain ⟨hg6, h⟩ := grd_de h
      refine oV (V_index (i := (((1 : Int) + (IntKind.i64.wrap ((((x19 : Nat) : Int)).tdiv (8 : Int))))).toNat) rfl rfl (Int.toNat_of_nonneg (hg6.1)).symm (by omega) foc1 rl Try.runUnderlying29 Try.sizeOf39) rfl <| oV (V_loadE rfl rfl (by omega) foc1 rl rfl rfl Try.isAgg39) rfl ?_
      obtain ⟨w21, hw21, h⟩ := lt_e h
      rw [← hw21]
      refine oM rfl rfl <| oP (PJ_eq (P_rem (a := ((x19 : Nat) : Int)) (b := (8 : Int)) rfl rfl (by omega)) rfl) rfl <| oP (P_mul (a := (((x19 % 8) : Nat) : Int)) (b := (8 : Int)) rfl rfl (by omega)) rfl <| oP (P_shr_u64 (a := w21) (m := (((((x19 % 8) : Nat) : Int) * (8 : Int))).toNat) rfl rfl (Int.toNat_of_nonneg (by omega)).symm) rfl <| oP (P_conv_u8 (a := ((shr_u64 w21 ((((((x19 % 8) : Nat) : Int) * (8 : Int))).toNat)).toNat : Int)) rfl Try.runUnderlying39 Try.runUnderlying5) rfl ?_
      obtain ⟨w22, hw22, h⟩ := lt_e h
      rw [← hw22]
      obtain ⟨hg7, h⟩ := grd_de h
      refine oV (V_index (i := x19) rfl rfl rfl hg7 foc0 (Reads.sl _ _ _) Try.runUnderlying22 Try.sizeOf5) rfl <| oO <| O_storeE (x' := w22) rfl rfl rfl hg7 foc0 rfl rfl rfl Try.sizeOf5 <| RJ_nil <| QJ_block_normal <| QJ_then <| CJ_region ?_
      obtain ⟨hg8, h⟩ := grd_Ne h
      exact oP (PJ_eq (P_add (a := ((x19 : Nat) : Int)) (b := (1 : Int)) rfl rfl (nat_in hg8)) rfl) rfl <| oM rfl rfl <| RJ_nil <| nR ⟨n, (x18.set x19 w22), (x19 + 1)⟩ h ⟨rfl, True.intro⟩ eR
     ·
      replace h := ite_f hg4 h
      exact CJ_exit <| QJ_then_exit <| QJ_round_exit <| QJ_block_here <| cR x18 (Option.some.inj h).symm True.intro eR
   ·
    rintro a17 hy23
    replace h := bindK_at hK14 hy23
    show CJ _ _ _ _ _ (([] : Slots) ++ forget _ _) (sl tyU8 (.slice (some ⟨b12, 0, none⟩) ((l.getD 0 0).toNat) ((l.getD 0 0).toNat)) a17 :: _)
    refine lC del0 fun hlen24 => CJ_seq <| sR <| oM rfl rfl <| oV (V_convBS (t := tyU8) rfl rfl (fun _ => rfl) foc0 (Reads.sl _ _ _) Try.underlying22 Try.underlying5 Try.underlying9) rfl ?_
    obtain ⟨r25, hr26, h⟩ := bind_e h
    refine oO <| O_call (L_pack_Text hr26) rfl Try.call55 Dels.nil rfl fun X27 _ => oM rfl rfl <| oP (P_extract (v := X27.v) rfl rfl) rfl <| oP (P_extract rfl rfl) rfl <| oA rfl rfl <| oA rfl rfl <| nT <| sR <| oM rfl rfl <| oP (P_neq (a := r25.2) (b := (0 : Int)) rfl rfl) rfl <| oM rfl rfl <| RJ_splitP 59 rfl bT_dec (fun hg9B hg9 => ?_) (fun hg9B hg9 => ?_)
    ·
     replace h := ite_t hg9 h
     refine RJ_gn (GY_no rfl rfl rfl hg9B) rfl rfl <| RJ_gn (GY_no rfl rfl rfl hg9B) rfl rfl <| RJ_gn (GY_no rfl rfl rfl hg9B) rfl rfl <| RJ_gn (GY_no rfl rfl rfl hg9B) rfl rfl <| oP (P_pickT rfl hg9B rfl) rfl <| nT <| CJ_condT rfl rfl <| sR <| oA rfl rfl <| oA rfl rfl <| nT <| CJ_ret <| QJ_then_ret ?_
     cases h
     exact fE (res2 Try.results81 rfl rfl) () (t2_ (eD (eD eR)))
    ·
     replace h := ite_f hg9 h
     refine gP (GY_yes rfl rfl rfl hg9B) (P_move rfl) rfl <| gP (GY_yes rfl rfl rfl hg9B) (P_move rfl) rfl ?_
     obtain ⟨r29, hr30, h⟩ := bind_e h
     refine RJ_gy (GY_yes rfl rfl rfl hg9B) <| O_call (L_slices_Equal_uint64 (Reads.sl _ _ _) rl hr30) rfl Try.call95 (Dels.cons del0 (Dels.cons del1 Dels.nil)) rfl fun _ _ => gP (GY_yes rfl rfl rfl hg9B) (P_not rfl) rfl <| oP (P_pickF rfl hg9B rfl) rfl <| nT <| CJ_condP rfl (bT_not Iff.rfl) (fun hg10 => ?_) (fun hg10 => ?_)
     ·
      replace h := ite_t hg10 h
      refine sR <| oA rfl rfl <| oA rfl rfl <| nT <| CJ_ret <| QJ_then_ret ?_
      cases h
      exact fE (res2 Try.results81 rfl rfl) () (t1_ (eD (eD eR)))
     ·
      replace h := ite_f hg10 h
      refine kT <| sR <| oM rfl rfl <| oV (V_convBS (t := tyU8) rfl rfl (fun _ => rfl) foc2 (Reads.sl _ _ _) Try.underlying22 Try.underlying5 Try.underlying9) rfl <| oA rfl rfl <| oA rfl rfl <| nT <| CJ_ret ?_
      cases h
      exact fE (res2 Try.results81 rfl rfl) () (t1_ (eD (eD eR)))
def pack_divided_l1_b (widths : List Int) (rec : Int → Nat → Option ((Unit) ⊕ Bool)) (x6 : Int) (x7 : Nat) : Option ((Unit) ⊕ Bool) :=
  if (((x7 : Nat) : Int) < ((widths.length : Nat) : Int)) then
    if (((widths.getD x7 0) < (1 : Int)) ∨ ((64 : Int) < (widths.getD x7 0))) then
      some (.inr false)
    else
      grd (inI64 ((x6 + (widths.getD x7 0)))) <|
      if ((64 : Int) < (x6 + (widths.getD x7 0))) then
        some (.inr false)
      else
        rec ((x6 + (widths.getD x7 0))) (x7 + 1)
  else
    some (.inl ())
def pack_divided_l1 (widths : List Int) : Nat → Int → Nat → Option ((Unit) ⊕ Bool)
  | 0, _, _ => none
  | n + 1, x6, x7 => pack_divided_l1_b widths (pack_divided_l1 widths n) x6 x7
def pack_divided (widths : List Int) : Option (Bool) :=
  seqO (pack_divided_l1 widths FUEL (0 : Int) 0) fun a5 =>
  some true
theorem L_pack_divided {W : World} {Awidths : HP} {vwidths : Value} {widths : List Int} {r : Bool} (rwidths : Reads Awidths tyI vwidths widths) (h : pack_divided widths = some r) :
    CSpec Try.prog W 96 [vwidths] [Awidths] (fun x : Unit => .bool r) (fun _ => True) (fun x F => Awidths :: F) := by
 refine CSpec.of_body Try.func96 rfl Try.ntmps96 rfl fun F => ?_
 show CJ _ _ _ _ _ _ (_ :: F)
 unfold pack_divided at h
 refine CJ_pure (len_of rwidths del0) fun hlen1 => sR <| oA rfl rfl <| nT <| sR <| oA rfl rfl <| nT <| CJ_seq <| sR <| oM rfl rfl <| oV (V_len rfl foc0 rwidths Try.runUnderlying38) rfl <| oM rfl rfl <| nT ?_
 obtain ⟨y4, hl2, hK3⟩ := seq_e h
 refine CJ_cutT (X := Unit) [2, 3, 5, 8, 9, 10, 11, 12, 13, 14, 15, 16, 17, 18, 19, 20, 21, 22, 23] (fun _ => ([] : Slots)) (fun _ R => R) (fun _ => y4 = .inl ()) Dels.nil ?_ ?_
 ·
  refine CJ_block <| CJ_loopR (X := Nat × Int × Nat) [2, 3, 5, 8, 9, 10, 11, 12, 13, 14, 15, 16, 17, 18, 19, 20, 21, 22, 23] (fun ⟨n, x6, x7⟩ => ([(3, .int .i64 x6), (8, .int .i64 (((x7 : Nat) : Int)))] : Slots)) (fun ⟨n, x6, x7⟩ R => R) (fun ⟨n, x6, x7⟩ => pack_divided_l1 widths n x6 x7 = some y4) (fun ⟨n, x6, x7⟩ => n) ⟨FUEL, (0 : Int), 0⟩ ?_ ?_ eR ?_
  · exact hl2
  · exact ⟨rfl, rfl, True.intro⟩
  ·
   rintro ⟨n, x6, x7⟩ h
   cases n with
   | zero => exact none_e h
   | succ n => ?_
   replace h : pack_divided_l1_b widths (pack_divided_l1 widths n) x6 x7 = some y4 := h
   unfold pack_divided_l1_b at h
   show CJ _ _ _ _ _ (([(3, .int .i64 x6), (8, .int .i64 (((x7 : Nat) : Int)))] : Slots) ++ forget _ _) (_)
   refine sR <| oP (P_lss (a := ((x7 : Nat) : Int)) (b := ((widths.length : Nat) : Int)) rfl rfl) rfl <| nT <| CJ_seq <| CJ_condP rfl bT_dec (fun hg1 => ?_) (fun hg1 => ?_)
   ·
    replace h := ite_t hg1 h
    refine kT <| CJ_seq <| CJ_block <| sR <| oV (V_index (i := x7) rfl rfl rfl (by omega) foc0 rwidths Try.runUnderlying38 Try.sizeOf3) rfl <| oV (V_loadE rfl rfl (by omega) foc0 rwidths rfl rfl Try.isAgg3) rfl <| oA rfl rfl <| nT <| CJ_seq <| sR <| oM rfl rfl <| oP (P_lss (a := (widths.getD x7 0)) (b := (1 : Int)) rfl rfl) rfl <| oM rfl rfl <| RJ_mbF rfl rfl rfl (fun hG8 => have hP9 : ¬ ((widths.getD x7 0) < (1 : Int)) := nP (bT_dec) hG8; VJ_P (P_move rfl)) <| RJ_mbF rfl rfl rfl (fun hG10 => have hP11 : ¬ ((widths.getD x7 0) < (1 : Int)) := nP (bT_dec) hG10; VJ_P (P_gtr (a := (widths.getD x7 0)) (b := (64 : Int)) (mbx hG10 rfl) rfl)) <| oP (P_pickOr rfl rfl (fun hh => mbx (not_f hh) rfl)) rfl <| nT <| CJ_condP rfl (bT_or bT_dec bT_dec) (fun hg2 => ?_) (fun hg2 => ?_)
    ·
     replace h := ite_t hg2 h
     refine sR <| oA rfl rfl <| nT <| CJ_ret <| QJ_then_ret <| QJ_block_ret <| QJ_then_ret <| QJ_round_ret <| QJ_block_ret <| QJ_then_ret ?_
     have hE := Option.some.inj h
     replace hE := seq_inr hK3 hE.symm
     subst hE
     exact fE (res1 Try.results96 rfl) () eR
    ·
     replace h := ite_f hg2 h
     refine kT <| sR <| oM rfl rfl <| oM rfl rfl ?_
     obtain ⟨hg3, h⟩ := grd_Ie h
     refine oP (P_add (a := x6) (b := (widths.getD x7 0)) rfl rfl hg3) rfl <| oA rfl rfl <| nT <| sR <| oM rfl rfl <| oP (P_gtr (a := (x6 + (widths.getD x7 0))) (b := (64 : Int)) rfl rfl) rfl <| nT <| CJ_condP rfl bT_dec (fun hg4 => ?_) (fun hg4 => ?_)
     ·
      replace h := ite_t hg4 h
      refine sR <| oA rfl rfl <| nT <| CJ_ret <| QJ_block_ret <| QJ_then_ret <| QJ_round_ret <| QJ_block_ret <| QJ_then_ret ?_
      have hE := Option.some.inj h
      replace hE := seq_inr hK3 hE.symm
      subst hE
      exact fE (res1 Try.results96 rfl) () eR
     ·
      replace h := ite_f hg4 h
      exact CJ_skip <| QJ_block_normal <| QJ_then <| CJ_region <| oP (PJ_eq (P_add (a := ((x7 : Nat) : Int)) (b := (1 : Int)) rfl rfl (by omega)) rfl) rfl <| oM rfl rfl <| RJ_nil <| nR ⟨n, (x6 + (widths.getD x7 0)), (x7 + 1)⟩ h ⟨rfl, rfl, True.intro⟩ eR
   ·
    replace h := ite_f hg1 h
    exact CJ_exit <| QJ_then_exit <| QJ_round_exit <| QJ_block_here <| cR () (Option.some.inj h).symm True.intro eR
 ·
  rintro _ hy12
  replace h := seq_inl hK3 hy12
  show CJ _ _ _ _ _ (([] : Slots) ++ forget _ _) (_)
  refine sR <| oA rfl rfl <| nT <| CJ_ret ?_
  cases h
  exact fE (res1 Try.results96 rfl) () eR
def pack_fields (widths : List Int) : Option (Unit) :=
  some ()
theorem L_pack_fields {W : World} {Awidths : HP} {vwidths : Value} {widths : List Int} {r : Unit} (rwidths : Reads Awidths tyI vwidths widths) (h : pack_fields widths = some r) :
    CSpec Try.prog W 97 [vwidths] [Awidths] (fun x : Nat => .func (.func 101) #[] #[ptr x 0]) (fun _ => True) (fun x F => Awidths :: blk x 38 [vwidths] :: F) := by
 refine CSpec.of_body Try.func97 rfl Try.ntmps97 rfl fun F => ?_
 show CJ _ _ _ _ _ _ (_ :: F)
 unfold pack_fields at h
 refine CJ_pure (len_of rwidths del0) fun hlen1 => sR <| RJ_pure (reads_sl3 rwidths del0) fun hsv3 => ?_
 obtain ⟨sv2, hsv3⟩ := hsv3
 subst hsv3
 refine oO <| O_box rfl rfl rfl fun b4 => oA rfl rfl <| nT <| sR <| oP (P_makeFunc rfl rfl) rfl <| oA rfl rfl <| nT <| CJ_ret ?_
 cases h
 exact fE (res1 Try.results97 rfl) b4 (t1_ eR)
def pack_Fields_l1_b (values : List UInt64) (rec : (UInt64 × Nat) → Option ((UInt64 × Nat) ⊕ (Nat × UInt64 × Nat))) (e16 : (Int × UInt64)) (a21 : UInt64 × Nat) : Option ((UInt64 × Nat) ⊕ (Nat × UInt64 × Nat)) :=
  grd (decide (a21.2 < values.length)) <|
  if ((e16.2.toNat : Int) < ((values.getD a21.2 0).toNat : Int)) then
    some (.inr (a21.2, a21.1, 1))
  else
    grd (decide (a21.2 < values.length)) <|
    grd (decide (0 ≤ e16.1)) <|
    grd (inN64 (a21.2 + 1)) <|
    rec (((a21.1 ||| (shl_u64 (values.getD a21.2 0) ((e16.1).toNat))), (a21.2 + 1)))
def pack_Fields_l1 (values : List UInt64) : List (Int × UInt64) → (UInt64 × Nat) → Option ((UInt64 × Nat) ⊕ (Nat × UInt64 × Nat))
  | [], a21 => some (.inl a21)
  | e16 :: bs28, a21 => pack_Fields_l1_b values (pack_Fields_l1 values bs28) e16 a21
def pack_Fields (widths : List Int) (values : List UInt64) : Option (UInt64 × Int) :=
  if (((widths.length : Nat) : Int) ≠ ((values.length : Nat) : Int)) then
    some (((0 : UInt64), (3 : Int)))
  else
    Option.bind (pack_divided widths) fun r8 =>
    if (¬ r8 = true) then
      some (((0 : UInt64), (1 : Int)))
    else
      Option.bind (pack_fields widths) fun r12 =>
      grd (decide ((∀ w ∈ widths, 0 ≤ w ∧ w ≤ 64) ∧ widths.length ≤ 1000000)) <|
      Option.bind (pack_Fields_l1 values (fieldsL widths 0) (((0 : UInt64), 0))) fun y20 =>
      selO y20 (fun a21 =>
        some ((a21.1, (0 : Int)))) (fun z22 =>
        some (((0 : UInt64), ((z22.2.2 : Nat) : Int))))
theorem L_pack_Fields {W : World} {Awidths : HP} {vwidths : Value} {Avalues : HP} {vvalues : Value} {widths : List Int} {values : List UInt64} {r : UInt64 × Int} (rwidths : Reads Awidths tyI vwidths widths) (rvalues : Reads Avalues tyU vvalues values) (h : pack_Fields widths values = some r) :
    CSpec Try.prog W 87 [vwidths, vvalues] [Awidths, Avalues] (fun x : Unit => .tuple #[.int .u64 (r.1.toNat : Int), .int .i64 r.2]) (fun _ => True) (fun x F => Awidths :: Avalues :: F) := by
  refine CSpec.of_bodyM Try.func87 rfl Try.ntmps87 rfl (fun F => ?_)
  show CJ _ _ _ _ _ _ (_ :: _ :: F)
  unfold pack_Fields at h
  refine CJ_pure (len_of rwidths del0) (fun hlen1 => ?_)
  refine CJ_pure (len_of rvalues del1) (fun hlen2 => ?_)
  refine CJ_seq ?_
  refine CJ_region ?_
  refine RJ_pure (reads_sl3 rvalues del1) (fun hsv4 => ?_)
  obtain ⟨sv3, hsv4⟩ := hsv4
  subst hsv4
  refine RJ_op rfl (O_box rfl rfl rfl (fun b5 => ?_))
  refine RJ_op rfl (O_alloc Try.zeroValue39 rfl rfl (fun b6 => ?_))
  refine RJ_op rfl (O_alloc Try.zeroValue30 rfl rfl (fun b7 => ?_))
  refine RJ_nil ?_
  refine QJ_then ?_
  refine CJ_seq ?_
  refine CJ_seq ?_
  refine CJ_region ?_
  refine RJ_op rfl (OJ_P (P_move rfl) rfl ?_)
  refine RJ_op rfl (OJ_V (V_len rfl foc3 rwidths Try.runUnderlying38) rfl ?_)
  refine RJ_op rfl (OJ_V (V_load rfl foc2 rfl Try.isAgg29) rfl ?_)
  refine RJ_op rfl (OJ_V (V_len rfl foc4 rvalues Try.runUnderlying29) rfl ?_)
  refine RJ_op rfl (OJ_P (P_neq (a := ((widths.length : Nat) : Int)) (b := ((values.length : Nat) : Int)) rfl rfl) rfl ?_)
  refine RJ_nil ?_
  refine QJ_then ?_
  refine CJ_condP rfl bT_dec (fun hg1 => ?_) (fun hg1 => ?_)
  ·
    replace h := ite_t hg1 h
    refine CJ_seq ?_
    refine CJ_region ?_
    refine RJ_op rfl (O_store rfl rfl foc1 rfl rfl Try.sizeOf39 ?_)
    refine RJ_op rfl (O_store rfl rfl foc0 rfl rfl Try.sizeOf30 ?_)
    refine RJ_nil ?_
    refine QJ_then ?_
    refine CJ_ret ?_
    refine QJ_then_ret ?_
    have hE := Option.some.inj h
    subst hE
    refine QJ_endM0 (.inl rfl) (resA2 Try.results87 (RV_cell rfl foc1 rfl Try.isAgg39) (RV_cell rfl foc0 rfl Try.isAgg30)) ?_
    refine CSpec.close () ?_ ?_ (Ent.take del3 (Ent.take del3 (Ent.drop (Ent.drop (Ent.drop Ent.refl)))))
    · rfl
    · trivial
  ·
    replace h := ite_f hg1 h
    refine CJ_skip ?_
    refine QJ_then ?_
    refine CJ_seq ?_
    refine CJ_seq ?_
    refine CJ_region ?_
    refine RJ_op rfl (OJ_P (P_move rfl) rfl ?_)
    obtain ⟨r8, hr9, h⟩ := bind_e h
    refine RJ_op rfl (O_call (L_pack_divided rwidths hr9) rfl Try.call96 (Dels.cons del3 Dels.nil) rfl (fun _ _ => ?_))
    refine RJ_op rfl (OJ_P (P_not rfl) rfl ?_)
    refine RJ_nil ?_
    refine QJ_then ?_
    refine CJ_condP rfl (bT_not Iff.rfl) (fun hg2 => ?_) (fun hg2 => ?_)
    ·
      replace h := ite_t hg2 h
      refine CJ_seq ?_
      refine CJ_region ?_
      refine RJ_op rfl (O_store rfl rfl foc2 rfl rfl Try.sizeOf39 ?_)
      refine RJ_op rfl (O_store rfl rfl foc1 rfl rfl Try.sizeOf30 ?_)
      refine RJ_nil ?_
      refine QJ_then ?_
      refine CJ_ret ?_
      refine QJ_then_ret ?_
      have hE := Option.some.inj h
      subst hE
      refine QJ_endM0 (.inl rfl) (resA2 Try.results87 (RV_cell rfl foc2 rfl Try.isAgg39) (RV_cell rfl foc1 rfl Try.isAgg30)) ?_
      refine CSpec.close () ?_ ?_ (Ent.take del0 (Ent.take del3 (Ent.drop (Ent.drop (Ent.drop Ent.refl)))))
      · rfl
      · trivial
    ·
      replace h := ite_f hg2 h
      refine CJ_skip ?_
      refine QJ_then ?_
      refine CJ_seq ?_
      refine CJ_region ?_
      refine RJ_op rfl (O_alloc Try.zeroValue39 rfl rfl (fun b10 => ?_))
      refine RJ_nil ?_
      refine QJ_then ?_
      refine CJ_seq ?_
      refine CJ_region ?_
      refine RJ_op rfl (O_alloc Try.zeroValue3 rfl rfl (fun b11 => ?_))
      refine RJ_op rfl (O_store rfl rfl foc0 rfl rfl Try.sizeOf3 ?_)
      refine RJ_nil ?_
      refine QJ_then ?_
      refine CJ_seq ?_
      refine CJ_seq ?_
      refine CJ_region ?_
      refine RJ_op rfl (OJ_P (P_move rfl) rfl ?_)
      obtain ⟨r12, hr13, h⟩ := bind_e h
      refine RJ_op rfl (O_call (L_pack_fields rwidths hr13) rfl Try.call97 (Dels.cons del2 Dels.nil) rfl (fun X14 _ => ?_))
      refine RJ_nil ?_
      refine QJ_then ?_
      refine CJ_block ?_
      obtain ⟨hg17, h⟩ := grd_de h
      obtain ⟨y20, hl18, hK19⟩ := bind_c h
      refine CJ_range (ps := [20, 21]) (C := UInt64 × Nat) (Z := Nat × UInt64 × Nat) (ispec_fields rwidths hg17) rfl Try.call101 rfl (fun _ => rfl) (fun a21 R => blk b10 39 [.int .u64 (a21.1.toNat : Int)] :: blk b11 3 [.int .i64 (((a21.2 : Nat) : Int))] :: blk b7 30 [.int .i64 (0 : Int)] :: R) (fun bs28 a21 => pack_Fields_l1 values bs28 a21 = some y20) (fun z22 R => blk b11 3 [.int .i64 (((z22.1 : Nat) : Int))] :: blk b10 39 [.int .u64 (z22.2.1.toNat : Int)] :: blk b7 30 [.int .i64 (((z22.2.2 : Nat) : Int))] :: R) (fun z22 => y20 = .inr z22) ((0 : UInt64), 0) hl18 (Dels.cons del1 (Dels.cons del0 Dels.nil)) (Ent.take del1 Ent.refl) ?_ ?_ ?_
      ·
        rintro l29 Zz bs28 e16 a21 hpre30 h
        replace h : pack_Fields_l1_b values (pack_Fields_l1 values bs28) e16 a21 = some y20 := h
        unfold pack_Fields_l1_b at h
        show CJ _ _ _ _ _ (([(21, .int .u64 (e16.2.toNat : Int)), (20, .int .i64 e16.1)] : Slots) ++ _) (Zz :: blk b10 39 [.int .u64 (a21.1.toNat : Int)] :: blk b11 3 [.int .i64 (((a21.2 : Nat) : Int))] :: blk b7 30 [.int .i64 (0 : Int)] :: _)
        refine CJ_seq ?_
        refine CJ_region ?_
        refine RJ_op rfl (OJ_P (P_assign rfl) rfl ?_)
        refine RJ_nil ?_
        refine QJ_then ?_
        refine CJ_region ?_
        refine RJ_op rfl (OJ_P (P_assign rfl) rfl ?_)
        refine RJ_nil ?_
        refine QJ_begin (fun Zz31 => ?_)
        refine CJ_block ?_
        refine CJ_seq ?_
        refine CJ_seq ?_
        refine CJ_region ?_
        refine RJ_op rfl (OJ_V (V_load rfl foc5 rfl Try.isAgg29) rfl ?_)
        refine RJ_op rfl (OJ_V (V_load rfl foc2 rfl Try.isAgg3) rfl ?_)
        obtain ⟨hg3, h⟩ := grd_de h
        refine RJ_op rfl (OJ_V (V_index (i := a21.2) rfl rfl rfl hg3 foc6 rvalues Try.runUnderlying29 Try.sizeOf39) rfl ?_)
        refine RJ_op rfl (OJ_V (V_loadE rfl rfl hg3 foc6 rvalues rfl rfl Try.isAgg39) rfl ?_)
        refine RJ_op rfl (OJ_P (P_move rfl) rfl ?_)
        refine RJ_op rfl (OJ_P (P_gtr (a := ((values.getD a21.2 0).toNat : Int)) (b := (e16.2.toNat : Int)) rfl rfl) rfl ?_)
        refine RJ_nil ?_
        refine QJ_then ?_
        refine CJ_condP rfl bT_dec (fun hg4 => ?_) (fun hg4 => ?_)
        ·
          replace h := ite_t hg4 h
          refine CJ_seq ?_
          refine CJ_region ?_
          refine RJ_op rfl (O_store rfl rfl foc4 rfl rfl Try.sizeOf39 ?_)
          refine RJ_op rfl (O_store rfl rfl foc3 rfl rfl Try.sizeOf30 ?_)
          refine RJ_nil ?_
          refine QJ_then ?_
          refine CJ_ret ?_
          refine QJ_then_ret ?_
          refine QJ_block_ret ?_
          refine QJ_rngR (a21.2, a21.1, 1) ?_ (Ent.take del0 (Ent.take del1 Ent.refl))
          exact (Option.some.inj h).symm
        ·
          replace h := ite_f hg4 h
          refine CJ_skip ?_
          refine QJ_then ?_
          refine CJ_seq ?_
          refine AJ_startH 256 (by kernel_rfl) rfl ?_
          refine AJ_takeV 0 1 rfl (by kernel_rfl) rfl (by kernel_rfl) (by kernel_rfl) (GY_none rfl) Ent.refl (V_load rfl foc1 rfl Try.isAgg39) rfl (fun _ _ _ _ h => h) ?_
          refine AJ_takeV 1 3 rfl (by kernel_rfl) rfl (by kernel_rfl) (by kernel_rfl) (GY_none rfl) Ent.refl (V_load rfl foc5 rfl Try.isAgg29) rfl (fun _ _ _ _ h => h) ?_
          refine AJ_takeV 2 7 rfl (by kernel_rfl) rfl (by kernel_rfl) (by kernel_rfl) (GY_none rfl) Ent.refl (V_load rfl foc2 rfl Try.isAgg3) rfl (fun _ _ _ _ h => h) ?_
          obtain ⟨hg5, h⟩ := grd_de h
          refine AJ_takeV 3 15 rfl (by kernel_rfl) rfl (by kernel_rfl) (by kernel_rfl) (GY_none rfl) Ent.refl (V_index (i := a21.2) rfl rfl rfl hg5 foc6 rvalues Try.runUnderlying29 Try.sizeOf39) rfl (fun _ _ _ _ h => h) ?_
          refine AJ_takeV 4 31 rfl (by kernel_rfl) rfl (by kernel_rfl) (by kernel_rfl) (GY_none rfl) Ent.refl (V_loadE rfl rfl hg5 foc6 rvalues rfl rfl Try.isAgg39) rfl (fun _ _ _ _ h => h) ?_
          refine AJ_takeP 5 63 rfl (by kernel_rfl) rfl (GY_none rfl) (P_move rfl) rfl (fun _ _ _ _ h => h) ?_
          obtain ⟨hg6, h⟩ := grd_de h
          refine AJ_takeP 6 127 rfl (by kernel_rfl) rfl (GY_none rfl) (P_shl_u64 (a := (values.getD a21.2 0)) (m := (e16.1).toNat) rfl rfl (Int.toNat_of_nonneg hg6).symm) rfl (fun _ _ _ _ h => h) ?_
          refine AJ_takeP 7 255 rfl (by kernel_rfl) rfl (GY_none rfl) (P_or_u64 (a := a21.1) (b := (shl_u64 (values.getD a21.2 0) ((e16.1).toNat))) rfl rfl) rfl (fun _ _ _ _ h => h) ?_
          refine AJ_op 8 511 rfl (by kernel_rfl) rfl (GY_none rfl) (O_store rfl rfl foc1 rfl rfl Try.sizeOf39 ?_)
          refine ⟨fun h => absurd h (by decide), ?_⟩
          refine AJ_done (by kernel_rfl) ?_
          refine QJ_then ?_
          refine CJ_region ?_
          refine RJ_op rfl (OJ_V (V_load rfl foc2 rfl Try.isAgg3) rfl ?_)
          obtain ⟨hg7, h⟩ := grd_Ne h
          refine RJ_op rfl (OJ_P (PJ_eq (P_add (a := ((a21.2 : Nat) : Int)) (b := (1 : Int)) rfl rfl (nat_in hg7)) rfl) rfl ?_)
          refine RJ_op rfl (O_store rfl rfl foc2 rfl rfl Try.sizeOf3 ?_)
          refine RJ_nil ?_
          refine QJ_block_normal ?_
          refine QJ_rng ((a21.1 ||| (shl_u64 (values.getD a21.2 0) ((e16.1).toNat))), (a21.2 + 1)) ?_ Ent.refl
          exact h
      ·
        rintro D32 a21 hy33
        replace h := sel_inl hK19 (show some (.inl a21) = some y20 from hy33)
        show QJ _ _ _ _ _ (dblk D32 :: blk X14 38 [vwidths] :: Awidths :: blk b10 39 [.int .u64 (a21.1.toNat : Int)] :: blk b11 3 [.int .i64 (((a21.2 : Nat) : Int))] :: blk b7 30 [.int .i64 (0 : Int)] :: _)
        refine QJ_block_normal ?_
        refine QJ_ent (Ent.take del0 (Ent.take del1 (Ent.take del1 (Ent.take del2 (Ent.take del2 (Ent.take del3 (Ent.drop (Ent.drop (Ent.drop Ent.refl))))))))) ?_
        refine QJ_then ?_
        refine CJ_seq ?_
        refine CJ_region ?_
        refine RJ_op rfl (OJ_V (V_load rfl foc2 rfl Try.isAgg39) rfl ?_)
        refine RJ_op rfl (O_store rfl rfl foc4 rfl rfl Try.sizeOf39 ?_)
        refine RJ_op rfl (O_store rfl rfl foc3 rfl rfl Try.sizeOf30 ?_)
        refine RJ_nil ?_
        refine QJ_then ?_
        refine CJ_ret ?_
        have hE := Option.some.inj h
        subst hE
        refine QJ_endM1 (.inl rfl) del0 (resA2 Try.results87 (RV_cell rfl foc4 rfl Try.isAgg39) (RV_cell rfl foc3 rfl Try.isAgg30)) rfl ?_
        refine CSpec.close () ?_ ?_ (Ent.take del0 (Ent.take del3 (Ent.drop (Ent.drop (Ent.drop Ent.refl)))))
        · rfl
        · trivial
      ·
        rintro D34 z22 hy35
        replace h := sel_inr hK19 hy35
        show QJ _ _ _ _ _ (dblk D34 :: blk X14 38 [vwidths] :: Awidths :: blk b11 3 [.int .i64 (((z22.1 : Nat) : Int))] :: blk b10 39 [.int .u64 (z22.2.1.toNat : Int)] :: blk b7 30 [.int .i64 (((z22.2.2 : Nat) : Int))] :: _)
        refine QJ_block_ret ?_
        refine QJ_then_ret ?_
        have hE := Option.some.inj h
        subst hE
        refine QJ_endM1 (.inl rfl) del0 (resA2 Try.results87 (RV_cell rfl foc6 rfl Try.isAgg39) (RV_cell rfl foc5 rfl Try.isAgg30)) rfl ?_
        refine CSpec.close () ?_ ?_ (Ent.take del1 (Ent.take del6 (Ent.drop (Ent.drop (Ent.drop (Ent.drop (Ent.drop (Ent.drop Ent.refl))))))))
        · rfl
        · trivial
def pack_Split_l1_b (w : UInt64) (rec : (List UInt64) → Option ((List UInt64))) (e11 : (Int × UInt64)) (a17 : (List UInt64)) : Option ((List UInt64)) :=
  grd (decide (0 ≤ e11.1)) <|
  grd (inLen (a17.length + 1)) <|
  rec ((a17 ++ [((shr_u64 w ((e11.1).toNat)) &&& e11.2)]))
def pack_Split_l1 (w : UInt64) : List (Int × UInt64) → (List UInt64) → Option ((List UInt64))
  | [], a17 => some a17
  | e11 :: bs21, a17 => pack_Split_l1_b w (pack_Split_l1 w bs21) e11 a17
def pack_Split (w : UInt64) (widths : List Int) : Option ((List UInt64) × Int) :=
  Option.bind (pack_divided widths) fun r3 =>
  if (¬ r3 = true) then
    some (([], (1 : Int)))
  else
    Option.bind (pack_fields widths) fun r7 =>
    grd (decide ((∀ w ∈ widths, 0 ≤ w ∧ w ≤ 64) ∧ widths.length ≤ 1000000)) <|
    Option.bind (pack_Split_l1 w (fieldsL widths 0) ([])) fun a17 =>
    some ((a17, (0 : Int)))
theorem L_pack_Split {W : World} {Awidths : HP} {vwidths : Value} {w : UInt64} {widths : List Int} {r : (List UInt64) × Int} (rwidths : Reads Awidths tyI vwidths widths) (h : pack_Split w widths = some r) :
    CSpec Try.prog W 82 [.int .u64 (w.toNat : Int), vwidths] [Awidths] (fun x : Sl3 => .tuple #[x.v, .int .i64 r.2]) (fun _ => True) (fun x F => Awidths :: sl tyU x.v r.1 :: F) := by
  refine CSpec.of_bodyM Try.func82 rfl Try.ntmps82 rfl (fun F => ?_)
  show CJ _ _ _ _ _ _ (_ :: F)
  unfold pack_Split at h
  refine CJ_pure (len_of rwidths del0) (fun hlen1 => ?_)
  refine CJ_seq ?_
  refine CJ_region ?_
  refine RJ_op rfl (O_box rfl rfl rfl (fun b2 => ?_))
  refine RJ_op rfl (OJ_P (P_assign rfl) rfl ?_)
  refine RJ_op rfl (OJ_P (P_assign rfl) rfl ?_)
  refine RJ_nil ?_
  refine QJ_then ?_
  refine CJ_seq ?_
  refine CJ_seq ?_
  refine CJ_region ?_
  refine RJ_op rfl (OJ_P (P_move rfl) rfl ?_)
  obtain ⟨r3, hr4, h⟩ := bind_e h
  refine RJ_op rfl (O_call (L_pack_divided rwidths hr4) rfl Try.call96 (Dels.cons del1 Dels.nil) rfl (fun _ _ => ?_))
  refine RJ_op rfl (OJ_P (P_not rfl) rfl ?_)
  refine RJ_nil ?_
  refine QJ_then ?_
  refine CJ_condP rfl (bT_not Iff.rfl) (fun hg1 => ?_) (fun hg1 => ?_)
  ·
    replace h := ite_t hg1 h
    refine CJ_seq ?_
    refine CJ_region ?_
    refine RJ_op rfl (OJ_P (P_assign rfl) rfl ?_)
    refine RJ_op rfl (OJ_P (P_assign rfl) rfl ?_)
    refine RJ_nil ?_
    refine QJ_then ?_
    refine CJ_ret ?_
    refine QJ_then_ret ?_
    refine QJ_ent (fun h hh => sl_nil (t := tyU) h hh) ?_
    have hE := Option.some.inj h
    subst hE
    refine QJ_endM0 (.inl rfl) (res2 Try.results82 rfl rfl) ?_
    refine CSpec.close ⟨none, 0, 0⟩ ?_ ?_ (Ent.take del1 (Ent.take del0 (Ent.drop Ent.refl)))
    · rfl
    · trivial
  ·
    replace h := ite_f hg1 h
    refine CJ_skip ?_
    refine QJ_then ?_
    refine CJ_seq ?_
    refine CJ_region ?_
    refine RJ_op rfl (O_alloc Try.zeroValue29 rfl rfl (fun b6 => ?_))
    refine RJ_nil ?_
    refine QJ_then ?_
    refine CJ_seq ?_
    refine CJ_seq ?_
    refine CJ_region ?_
    refine RJ_op rfl (OJ_P (P_move rfl) rfl ?_)
    obtain ⟨r7, hr8, h⟩ := bind_e h
    refine RJ_op rfl (O_call (L_pack_fields rwidths hr8) rfl Try.call97 (Dels.cons del1 Dels.nil) rfl (fun X9 _ => ?_))
    refine RJ_nil ?_
    refine QJ_then ?_
    refine CJ_block ?_
    obtain ⟨hg12, h⟩ := grd_de h
    refine CJ_ent (fun h hh => sl_nil (t := tyU) h hh) ?_
    obtain ⟨y16, hl14, hK15⟩ := bind_c h
    refine CJ_range (ps := [14, 15]) (C := (List UInt64) × Sl3) (Z := Unit) (ispec_fields rwidths hg12) rfl Try.call101 rfl (fun _ => rfl) (fun ⟨a17, hd20⟩ R => sl tyU hd20.v a17 :: blk b6 29 [hd20.v] :: R) (fun bs21 ⟨a17, hd20⟩ => pack_Split_l1 w bs21 a17 = some y16) (fun _ R => R) (fun _ => False) ⟨[], ⟨none, 0, 0⟩⟩ hl14 (Dels.cons del2 (Dels.cons del1 Dels.nil)) Ent.refl ?_ ?_ ?_
    ·
      rintro l22 Zz bs21 e11 ⟨a17, hd20⟩ hpre23 h
      replace h : pack_Split_l1_b w (pack_Split_l1 w bs21) e11 a17 = some y16 := h
      unfold pack_Split_l1_b at h
      show CJ _ _ _ _ _ (([(15, .int .u64 (e11.2.toNat : Int)), (14, .int .i64 e11.1)] : Slots) ++ _) (Zz :: sl tyU hd20.v a17 :: blk b6 29 [hd20.v] :: _)
      refine CJ_pure (len_of (Reads.sl _ _ _) del1) (fun hlen24 => ?_)
      refine CJ_seq ?_
      refine CJ_region ?_
      refine RJ_op rfl (OJ_P (P_assign rfl) rfl ?_)
      refine RJ_nil ?_
      refine QJ_then ?_
      refine CJ_region ?_
      refine RJ_op rfl (OJ_P (P_assign rfl) rfl ?_)
      refine RJ_nil ?_
      refine QJ_begin (fun Zz25 => ?_)
      refine CJ_block ?_
      refine AJ_startH 384 (by kernel_rfl) rfl ?_
      refine AJ_takeV 0 1 rfl (by kernel_rfl) rfl (by kernel_rfl) (by kernel_rfl) (GY_none rfl) Ent.refl (V_load rfl foc2 rfl Try.isAgg29) rfl (fun _ _ _ _ h => h) ?_
      refine AJ_takeV 1 3 rfl (by kernel_rfl) rfl (by kernel_rfl) (by kernel_rfl) (GY_none rfl) Ent.refl (V_load rfl foc3 rfl Try.isAgg39) rfl (fun _ _ _ _ h => h) ?_
      refine AJ_takeP 2 7 rfl (by kernel_rfl) rfl (GY_none rfl) (P_move rfl) rfl (fun _ _ _ _ h => h) ?_
      obtain ⟨hg2, h⟩ := grd_de h
      refine AJ_takeP 3 15 rfl (by kernel_rfl) rfl (GY_none rfl) (P_shr_u64 (a := w) (m := (e11.1).toNat) rfl rfl (Int.toNat_of_nonneg hg2).symm) rfl (fun _ _ _ _ h => h) ?_
      refine AJ_takeP 4 31 rfl (by kernel_rfl) rfl (GY_none rfl) (P_move rfl) rfl (fun _ _ _ _ h => h) ?_
      refine AJ_takeP 5 63 rfl (by kernel_rfl) rfl (GY_none rfl) (P_and_u64 (a := (shr_u64 w ((e11.1).toNat))) (b := e11.2) rfl rfl) rfl (fun _ _ _ _ h => h) ?_
      refine AJ_op 6 127 rfl (by kernel_rfl) rfl (GY_none rfl) (O_buildSlice rfl (bs_29_1_0 _) rfl (fun b26 => ?_))
      refine ⟨fun _ => (Ent.take del1 (Ent.take del1 (Ent.take del1 (Ent.take del1 (Ent.drop Ent.refl))))), ?_⟩
      obtain ⟨hg3, h⟩ := grd_Le h
      refine AJ_op 7 255 rfl (by kernel_rfl) rfl (GY_none rfl) (O_append (t := tyU) (bytes := 8) rfl rfl del2 foc0 (Reads.lit (t := tyU) (ys := [((shr_u64 w ((e11.1).toNat)) &&& e11.2)]) rfl rfl (by decide) (by decide) rfl) Try.underlying29 ok_tyU (apl (m := 1) (b := 8) hg3 (by decide)).1 (apl (m := 1) (b := 8) hg3 (by decide)).2 rfl (fun p28 c29 => ?_))
      refine ⟨fun h => absurd h (by decide), ?_⟩
      refine AJ_op 8 511 rfl (by kernel_rfl) rfl (GY_none rfl) (O_store rfl rfl foc3 rfl rfl Try.sizeOf29 ?_)
      refine ⟨fun h => absurd h (by decide), ?_⟩
      refine AJ_done (by kernel_rfl) ?_
      refine QJ_block_normal ?_
      refine QJ_rng ⟨(a17 ++ [((shr_u64 w ((e11.1).toNat)) &&& e11.2)]), ⟨p28, (a17 ++ [((shr_u64 w ((e11.1).toNat)) &&& e11.2)]).length, c29⟩⟩ ?_ (Ent.take del2 (Ent.take del0 (Ent.take del1 (Ent.take del1 (Ent.drop Ent.refl)))))
      exact h
    ·
      rintro D30 ⟨a17, hd20⟩ hy31
      replace h := bindK_sm hK15 (show some a17 = some y16 from hy31)
      show QJ _ _ _ _ _ (dblk D30 :: blk X9 38 [vwidths] :: Awidths :: sl tyU hd20.v a17 :: blk b6 29 [hd20.v] :: _)
      refine QJ_block_normal ?_
      refine QJ_then ?_
      refine CJ_seq ?_
      refine CJ_region ?_
      refine RJ_op rfl (OJ_V (V_load rfl foc4 rfl Try.isAgg29) rfl ?_)
      refine RJ_op rfl (OJ_P (P_assign rfl) rfl ?_)
      refine RJ_op rfl (OJ_P (P_assign rfl) rfl ?_)
      refine RJ_nil ?_
      refine QJ_then ?_
      refine CJ_ret ?_
      have hE := Option.some.inj h
      subst hE
      refine QJ_endM1 (.inl rfl) del0 (res2 Try.results82 rfl rfl) rfl ?_
      refine CSpec.close hd20 ?_ ?_ (Ent.take del1 (Ent.take del1 (Ent.drop (Ent.drop (Ent.drop Ent.refl)))))
      · rfl
      · trivial
    ·
      exact fun _ _ h9 => h9.elim
def volumegroupref02_Length (n_0 : Int) : Option (Int) :=
  if (n_0 < (0 : Int)) then
    some (0 : Int)
  else
    grd (inI64 (((1 : Int) + (IntKind.i64.wrap (n_0.tdiv (8 : Int)))))) <|
    grd (inI64 ((((1 : Int) + (IntKind.i64.wrap (n_0.tdiv (8 : Int)))) + (min ((n_0 % (8 : Int))) (1 : Int))))) <|
    lt ((((1 : Int) + (IntKind.i64.wrap (n_0.tdiv (8 : Int)))) + (min ((n_0 % (8 : Int))) (1 : Int)))) fun w1 =>
    some w1
theorem L_volumegroupref02_Length {W : World} {n_0 : Int} {r : Int} (h : volumegroupref02_Length n_0 = some r) :
    CSpec Try.prog W 99 [.int .i64 n_0] [] (fun x : Unit => .int .i64 r) (fun _ => True) (fun x F => F) := by
 refine CSpec.of_body Try.func99 rfl Try.ntmps99 rfl fun F => ?_
 show CJ _ _ _ _ _ _ (F)
 unfold volumegroupref02_Length at h
 refine sR <| oA rfl rfl <| nT <| CJ_seq <| sR <| oM rfl rfl <| oP (P_lss (a := n_0) (b := (0 : Int)) rfl rfl) rfl <| nT <| CJ_condP rfl bT_dec (fun hg1 => ?_) (fun hg1 => ?_)
 ·
  replace h := ite_t hg1 h
  refine sR <| oA rfl rfl <| nT <| CJ_ret <| QJ_then_ret ?_
  cases h
  exact fE (res1 Try.results99 rfl) () eR
 ·
  replace h := ite_f hg1 h
  refine kT <| sR <| oM rfl rfl <| oP (P_quoT (a := n_0) (b := (8 : Int)) rfl rfl (by decide)) rfl ?_
  obtain ⟨hg2, h⟩ := grd_Ie h
  refine oP (P_add (a := (1 : Int)) (b := (IntKind.i64.wrap (n_0.tdiv (8 : Int)))) rfl rfl hg2) rfl <| oM rfl rfl <| oP (P_rem (a := n_0) (b := (8 : Int)) rfl rfl (by omega)) rfl <| oP (P_min (a := (n_0 % (8 : Int))) (b := (1 : Int)) rfl rfl) rfl ?_
  obtain ⟨hg3, h⟩ := grd_Ie h
  refine oP (P_add (a := ((1 : Int) + (IntKind.i64.wrap (n_0.tdiv (8 : Int))))) (b := (min ((n_0 % (8 : Int))) (1 : Int))) rfl rfl hg3) rfl ?_
  obtain ⟨w1, hw1, h⟩ := lt_e h
  rw [← hw1]
  refine oA rfl rfl <| nT <| CJ_ret ?_
  cases h
  exact fE (res1 Try.results99 rfl) () eR
def volumegroupref02_Words_l1_b (s_0 : ByteArray) (rec : (List UInt64) → Nat → Option ((List UInt64))) (x9 : List UInt64) (x10 : Nat) : Option ((List UInt64)) :=
  if (((x10 : Nat) : Int) < ((s_0.size : Nat) : Int)) then
    grd (inI64 (((1 : Int) + (IntKind.i64.wrap ((((x10 : Nat) : Int)).tdiv (8 : Int)))))) <|
    grd (decide (0 ≤ ((1 : Int) + (IntKind.i64.wrap ((((x10 : Nat) : Int)).tdiv (8 : Int)))) ∧ ((1 : Int) + (IntKind.i64.wrap ((((x10 : Nat) : Int)).tdiv (8 : Int)))) < (x9.length : Int))) <|
    lt ((x9.getD ((((1 : Int) + (IntKind.i64.wrap ((((x10 : Nat) : Int)).tdiv (8 : Int))))).toNat) 0)) fun w12 =>
    lt ((shl_u64 ((to_u64 (((strAt s_0 x10).toNat : Int)))) ((((8 : Int) * (((x10 % 8) : Nat) : Int))).toNat))) fun w13 =>
    grd (decide (0 ≤ ((1 : Int) + (IntKind.i64.wrap ((((x10 : Nat) : Int)).tdiv (8 : Int)))) ∧ ((1 : Int) + (IntKind.i64.wrap ((((x10 : Nat) : Int)).tdiv (8 : Int)))) < (x9.length : Int))) <|
    grd (inN64 (x10 + 1)) <|
    rec ((x9.set ((((1 : Int) + (IntKind.i64.wrap ((((x10 : Nat) : Int)).tdiv (8 : Int))))).toNat) (w12 ||| w13))) (x10 + 1)
  else
    some x9
def volumegroupref02_Words_l1 (s_0 : ByteArray) : Nat → (List UInt64) → Nat → Option ((List UInt64))
  | 0, _, _ => none
  | n + 1, x9, x10 => volumegroupref02_Words_l1_b s_0 (volumegroupref02_Words_l1 s_0 n) x9 x10
def volumegroupref02_Words (s_0 : ByteArray) : Option ((List UInt64)) :=
  Option.bind (volumegroupref02_Length (((s_0.size : Nat) : Int))) fun r1 =>
  grd (decide (0 ≤ r1 ∧ r1 ≤ 1000000000)) <|
  grd (decide (0 < ((List.replicate ((r1).toNat) (0 : UInt64))).length)) <|
  Option.bind (volumegroupref02_Words_l1 s_0 FUEL ((((List.replicate ((r1).toNat) (0 : UInt64))).set 0 ((to_u64 (((s_0.size : Nat) : Int)))))) 0) fun a8 =>
  some a8
theorem L_volumegroupref02_Words {W : World} {s_0 : ByteArray} {r : (List UInt64)} (h : volumegroupref02_Words s_0 = some r) :
    CSpec Try.prog W 91 [.string s_0] [] (fun x : Sl3 => x.v) (fun _ => True) (fun x F => sl tyU x.v r :: F) := by
 refine CSpec.of_body Try.func91 rfl Try.ntmps91 rfl fun F => ?_
 show CJ _ _ _ _ _ _ (F)
 unfold volumegroupref02_Words at h
 refine sR <| oA rfl rfl <| nT <| sR <| oM rfl rfl <| oP (P_lenS (b := s_0) rfl Try.runUnderlying9) rfl ?_
 obtain ⟨r1, hr2, h⟩ := bind_e h
 refine oO <| O_call (L_volumegroupref02_Length hr2) rfl Try.call99 Dels.nil rfl fun _ _ => ?_
 obtain ⟨hg1, h⟩ := grd_de h
 refine oO <| O_make (t := tyU) (m := (r1).toNat) (x0 := 0) (z := _) (bytes := _) rfl rfl (Int.toNat_of_nonneg (hg1.1)).symm (Int.toNat_of_nonneg (hg1.1)).symm Try.underlying29 ⟨Try.t39, by kernel_rfl, rfl, rfl, rfl⟩ rfl (by omega) (by decide) rfl fun b3 => oA rfl rfl <| nT <| sR <| oM rfl rfl <| oM rfl rfl <| oP (P_lenS (b := s_0) rfl Try.runUnderlying9) rfl <| oP (P_conv_u64 (a := ((s_0.size : Nat) : Int)) rfl Try.runUnderlying3 Try.runUnderlying39) rfl ?_
 obtain ⟨hg2, h⟩ := grd_de h
 refine oV (V_index (i := 0) rfl rfl rfl hg2 foc0 (Reads.sl _ _ _) Try.runUnderlying29 Try.sizeOf39) rfl <| oO <| O_storeE (x' := (to_u64 (((s_0.size : Nat) : Int)))) rfl rfl rfl hg2 foc0 rfl rfl rfl Try.sizeOf39 <| nT <| CJ_seq <| sR <| oA rfl rfl <| nT ?_
 obtain ⟨y6, hl4, hK5⟩ := bind_c h
 refine CJ_cutT (X := (List UInt64)) [4, 14, 15, 16, 17, 18, 19, 20, 21, 22, 23, 24, 25, 26, 27, 28, 29, 30, 31, 32, 33, 34, 35] (fun a8 => ([] : Slots)) (fun a8 R => sl tyU (.slice (some ⟨b3, 0, none⟩) ((r1).toNat) ((r1).toNat)) a8 :: R) (fun a8 => y6 = a8) (Dels.cons del0 Dels.nil) ?_ ?_
 ·
  refine CJ_block <| CJ_loopR (X := Nat × (List UInt64) × Nat) [4, 14, 15, 16, 17, 18, 19, 20, 21, 22, 23, 24, 25, 26, 27, 28, 29, 30, 31, 32, 33, 34, 35] (fun ⟨n, x9, x10⟩ => ([(4, .int .i64 (((x10 : Nat) : Int)))] : Slots)) (fun ⟨n, x9, x10⟩ R => sl tyU (.slice (some ⟨b3, 0, none⟩) ((r1).toNat) ((r1).toNat)) x9 :: R) (fun ⟨n, x9, x10⟩ => volumegroupref02_Words_l1 s_0 n x9 x10 = some y6) (fun ⟨n, x9, x10⟩ => n) ⟨FUEL, (((List.replicate ((r1).toNat) (0 : UInt64))).set 0 ((to_u64 (((s_0.size : Nat) : Int))))), 0⟩ ?_ ?_ eR ?_
  · exact hl4
  · exact ⟨rfl, True.intro⟩
  ·
   rintro ⟨n, x9, x10⟩ h
   cases n with
   | zero => exact none_e h
   | succ n => ?_
   replace h : volumegroupref02_Words_l1_b s_0 (volumegroupref02_Words_l1 s_0 n) x9 x10 = some y6 := h
   unfold volumegroupref02_Words_l1_b at h
   show CJ _ _ _ _ _ (([(4, .int .i64 (((x10 : Nat) : Int)))] : Slots) ++ forget _ _) (sl tyU (.slice (some ⟨b3, 0, none⟩) ((r1).toNat) ((r1).toNat)) x9 :: _)
   refine lC del0 fun hlen11 => CJ_seq <| sR <| oM rfl rfl <| oM rfl rfl <| oP (P_lenS (b := s_0) rfl Try.runUnderlying9) rfl <| oP (P_lss (a := ((x10 : Nat) : Int)) (b := ((s_0.size : Nat) : Int)) rfl rfl) rfl <| nT <| CJ_condP rfl bT_dec (fun hg3 => ?_) (fun hg3 => ?_)
   ·
    replace h := ite_t hg3 h
    refine kT <| CJ_seq <| CJ_block <| AJ_startH 65536 (by kernel_rfl) rfl <| aN 0 1 rfl rfl (P_move rfl) rfl <| aN 1 3 rfl rfl (P_move rfl) rfl <| aN 2 7 rfl rfl (P_quoT (a := ((x10 : Nat) : Int)) (b := (8 : Int)) rfl rfl (by decide)) rfl ?_
    obtain ⟨hg4, h⟩ := grd_Ie h
    refine aN 3 15 rfl rfl (P_add (a := (1 : Int)) (b := (IntKind.i64.wrap ((((x10 : Nat) : Int)).tdiv (8 : Int)))) rfl rfl hg4) rfl ?_
    obtain ⟨hg5, h⟩ := grd_de h
    refine aV 4 31 rfl rfl (GY_none rfl) eR (V_index (i := (((1 : Int) + (IntKind.i64.wrap ((((x10 : Nat) : Int)).tdiv (8 : Int))))).toNat) rfl rfl (Int.toNat_of_nonneg (hg5.1)).symm (by omega) foc0 (Reads.sl _ _ _) Try.runUnderlying29 Try.sizeOf39) rfl <| aV 5 63 rfl rfl (GY_none rfl) eR (V_loadE rfl rfl (by omega) foc0 (Reads.sl _ _ _) rfl rfl Try.isAgg39) rfl ?_
    obtain ⟨w12, hw12, h⟩ := lt_e h
    rw [← hw12]
    refine aN 6 127 rfl rfl (P_move rfl) rfl <| aN 7 255 rfl rfl (P_move rfl) rfl <| aN 8 511 rfl rfl (P_indexS (b := s_0) (i := x10) rfl rfl rfl (by omega) Try.runUnderlying9) rfl <| aN 9 1023 rfl rfl (P_conv_u64 (a := ((strAt s_0 x10).toNat : Int)) rfl Try.runUnderlying5 Try.runUnderlying39) rfl <| aN 10 2047 rfl rfl (P_move rfl) rfl <| aN 11 4095 rfl rfl (PJ_eq (P_rem (a := ((x10 : Nat) : Int)) (b := (8 : Int)) rfl rfl (by omega)) rfl) rfl <| aN 12 8191 rfl rfl (P_mul (a := (8 : Int)) (b := (((x10 % 8) : Nat) : Int)) rfl rfl (by omega)) rfl <| aN 13 16383 rfl rfl (P_shl_u64 (a := (to_u64 (((strAt s_0 x10).toNat : Int)))) (m := (((8 : Int) * (((x10 % 8) : Nat) : Int))).toNat) rfl rfl (Int.toNat_of_nonneg (by omega)).symm) rfl ?_
    obtain ⟨w13, hw13, h⟩ := lt_e h
    rw [← hw13]
    refine aN 14 32767 rfl rfl (P_or_u64 (a := w12) (b := w13) rfl rfl) rfl ?_
    obtain ⟨hg6, h⟩ := grd_de h
    refine aV 15 65535 rfl rfl (GY_none rfl) eR (V_index (i := (((1 : Int) + (IntKind.i64.wrap ((((x10 : Nat) : Int)).tdiv (8 : Int))))).toNat) rfl rfl (Int.toNat_of_nonneg (hg6.1)).symm (by omega) foc0 (Reads.sl _ _ _) Try.runUnderlying29 Try.sizeOf39) rfl <| AJ_op 16 131071 rfl (by kernel_rfl) rfl (GY_none rfl) <| O_storeE (x' := (w12 ||| w13)) rfl rfl rfl (by omega) foc0 rfl rfl rfl Try.sizeOf39 <| ⟨fun h => absurd h (by decide), ?_⟩
    refine AJ_done (by kernel_rfl) <| QJ_block_normal <| QJ_then <| CJ_region <| oM rfl rfl ?_
    obtain ⟨hg7, h⟩ := grd_Ne h
    exact oP (PJ_eq (P_add (a := ((x10 : Nat) : Int)) (b := (1 : Int)) rfl rfl (nat_in hg7)) rfl) rfl <| oA rfl rfl <| RJ_nil <| nR ⟨n, (x9.set ((((1 : Int) + (IntKind.i64.wrap ((((x10 : Nat) : Int)).tdiv (8 : Int))))).toNat) (w12 ||| w13)), (x10 + 1)⟩ h ⟨rfl, True.intro⟩ eR
   ·
    replace h := ite_f hg3 h
    exact CJ_exit <| QJ_then_exit <| QJ_round_exit <| QJ_block_here <| cR x9 (Option.some.inj h).symm True.intro eR
 ·
  rintro a8 hy14
  replace h := bindK_at hK5 hy14
  show CJ _ _ _ _ _ (([] : Slots) ++ forget _ _) (sl tyU (.slice (some ⟨b3, 0, none⟩) ((r1).toNat) ((r1).toNat)) a8 :: _)
  refine lC del0 fun hlen15 => sR <| oM rfl rfl <| oA rfl rfl <| nT <| CJ_ret ?_
  cases h
  exact fE (res1 Try.results91 rfl) ⟨some ⟨b3, 0, none⟩, (r1).toNat, (r1).toNat⟩ eR
def volumegroupref02_Text (s_0 : ByteArray) : Option ((List UInt64) × Int) :=
  if ((8192 : Int) < ((s_0.size : Nat) : Int)) then
    some (([], (4 : Int)))
  else
    Option.bind (volumegroupref02_Words s_0) fun r2 =>
    some ((r2, (0 : Int)))
theorem L_volumegroupref02_Text {W : World} {s_0 : ByteArray} {r : (List UInt64) × Int} (h : volumegroupref02_Text s_0 = some r) :
    CSpec Try.prog W 66 [.string s_0] [] (fun x : Sl3 => .tuple #[x.v, .int .i64 r.2]) (fun _ => True) (fun x F => sl tyU x.v r.1 :: F) := by
 refine CSpec.of_body Try.func66 rfl Try.ntmps66 rfl fun F => ?_
 show CJ _ _ _ _ _ _ (F)
 unfold volumegroupref02_Text at h
 refine sR <| oA rfl rfl <| oA rfl rfl <| nT <| CJ_seq <| sR <| oM rfl rfl <| oP (P_lenS (b := s_0) rfl Try.runUnderlying9) rfl <| oP (P_gtr (a := ((s_0.size : Nat) : Int)) (b := (8192 : Int)) rfl rfl) rfl <| nT <| CJ_condP rfl bT_dec (fun hg1 => ?_) (fun hg1 => ?_)
 ·
  replace h := ite_t hg1 h
  refine sR <| oA rfl rfl <| oA rfl rfl <| nT <| CJ_ret <| QJ_then_ret <| QJ_ent (fun h hh => sl_nil (t := tyU) h hh) ?_
  cases h
  exact fE (res2 Try.results66 rfl rfl) ⟨none, 0, 0⟩ eR
 ·
  replace h := ite_f hg1 h
  refine kT <| sR <| oM rfl rfl ?_
  obtain ⟨r2, hr3, h⟩ := bind_e h
  refine oO <| O_call (L_volumegroupref02_Words hr3) rfl Try.call91 Dels.nil rfl fun X4 _ => oA rfl rfl <| oA rfl rfl <| nT <| CJ_ret ?_
  cases h
  exact fE (res2 Try.results66 rfl rfl) X4 eR
def volumegroupref02_FromText_l1_b (l : List UInt64) (rec : (List UInt8) → Nat → Option (((List UInt8)) ⊕ (ByteArray × Int))) (x26 : List UInt8) (x27 : Nat) : Option (((List UInt8)) ⊕ (ByteArray × Int)) :=
  grd (inI64 (((8 : Int) * (((l.length : Nat) : Int) - (1 : Int))))) <|
  if (((x27 : Nat) : Int) < ((8 : Int) * (((l.length : Nat) : Int) - (1 : Int)))) then
    grd (inI64 (((1 : Int) + (IntKind.i64.wrap ((((x27 : Nat) : Int)).tdiv (8 : Int)))))) <|
    grd (decide (0 ≤ ((1 : Int) + (IntKind.i64.wrap ((((x27 : Nat) : Int)).tdiv (8 : Int)))) ∧ ((1 : Int) + (IntKind.i64.wrap ((((x27 : Nat) : Int)).tdiv (8 : Int)))) < (l.length : Int))) <|
    lt ((l.getD ((((1 : Int) + (IntKind.i64.wrap ((((x27 : Nat) : Int)).tdiv (8 : Int))))).toNat) 0)) fun w29 =>
    lt ((to_u8 (((shr_u64 w29 ((((8 : Int) * (((x27 % 8) : Nat) : Int))).toNat)).toNat : Int)))) fun w30 =>
    if (((x27 : Nat) : Int) < (IntKind.i64.wrap ((l.getD 0 0).toNat : Int))) then
      grd (decide (x27 < x26.length)) <|
      grd (inN64 (x27 + 1)) <|
      rec (x26.set x27 w30) (x27 + 1)
    else
      if (w30 ≠ (0 : UInt8)) then
        some (.inr (((ByteArray.mk #[]), (2 : Int))))
      else
        grd (inN64 (x27 + 1)) <|
        rec x26 (x27 + 1)
  else
    some (.inl x26)
def volumegroupref02_FromText_l1 (l : List UInt64) : Nat → (List UInt8) → Nat → Option (((List UInt8)) ⊕ (ByteArray × Int))
  | 0, _, _ => none
  | n + 1, x26, x27 => volumegroupref02_FromText_l1_b l (volumegroupref02_FromText_l1 l n) x26 x27
def volumegroupref02_FromText (l : List UInt64) : Option (ByteArray × Int) :=
  if ((((l.length : Nat) : Int) = (0 : Int)) ∨ (((((8 : UInt64) * (to_u64 (((l.length : Nat) : Int))))).toNat : Int) < ((l.getD 0 0).toNat : Int))) then
    some (((ByteArray.mk #[]), (2 : Int)))
  else
    Option.bind (volumegroupref02_Length ((IntKind.i64.wrap ((l.getD 0 0).toNat : Int)))) fun r18 =>
    if (r18 ≠ ((l.length : Nat) : Int)) then
      some (((ByteArray.mk #[]), (2 : Int)))
    else
      grd (decide (0 ≤ (IntKind.i64.wrap ((l.getD 0 0).toNat : Int)) ∧ (IntKind.i64.wrap ((l.getD 0 0).toNat : Int)) ≤ 1000000000)) <|
      seqO (volumegroupref02_FromText_l1 l FUEL ((List.replicate (((IntKind.i64.wrap ((l.getD 0 0).toNat : Int))).toNat) (0 : UInt8))) 0) fun a25 =>
      some (((strOf a25), (0 : Int)))
theorem L_volumegroupref02_FromText {W : World} {Al : HP} {vl : Value} {l : List UInt64} {r : ByteArray × Int} (rl : Reads Al tyU vl l) (h : volumegroupref02_FromText l = some r) :
    CSpec Try.prog W 90 [vl] [Al] (fun x : Unit => .tuple #[.string r.1, .int .i64 r.2]) (fun _ => True) (fun x F => Al :: F) := by
 refine CSpec.of_body Try.func90 rfl Try.ntmps90 rfl fun F => ?_
 show CJ _ _ _ _ _ _ (_ :: F)
 unfold volumegroupref02_FromText at h
 refine CJ_pure (len_of rl del0) fun hlen1 => sR <| oA rfl rfl <| oA rfl rfl <| nT <| CJ_seq <| sR <| oM rfl rfl <| oV (V_len rfl foc0 rl Try.runUnderlying29) rfl <| oP (P_eql (a := ((l.length : Nat) : Int)) (b := (0 : Int)) rfl rfl) rfl <| oM rfl rfl <| RJ_mbF rfl rfl rfl (fun hG2 => have hP3 : ¬ (((l.length : Nat) : Int) = (0 : Int)) := nP (bT_dec) hG2; VJ_P (P_move rfl)) <| RJ_mbF rfl rfl rfl (fun hG4 => have hP5 : ¬ (((l.length : Nat) : Int) = (0 : Int)) := nP (bT_dec) hG4; V_index (i := 0) (mbx hG4 rfl) rfl rfl (by omega) foc0 rl Try.runUnderlying29 Try.sizeOf39) <| RJ_mbF rfl rfl rfl (fun hG6 => have hP7 : ¬ (((l.length : Nat) : Int) = (0 : Int)) := nP (bT_dec) hG6; V_loadE (mbx hG6 rfl) rfl (by omega) foc0 rl rfl rfl Try.isAgg39) <| RJ_mbF rfl rfl rfl (fun hG8 => have hP9 : ¬ (((l.length : Nat) : Int) = (0 : Int)) := nP (bT_dec) hG8; VJ_P (P_move rfl)) <| RJ_mbF rfl rfl rfl (fun hG10 => have hP11 : ¬ (((l.length : Nat) : Int) = (0 : Int)) := nP (bT_dec) hG10; V_len (mbx hG10 rfl) foc0 rl Try.runUnderlying29) <| RJ_mbF rfl rfl rfl (fun hG12 => have hP13 : ¬ (((l.length : Nat) : Int) = (0 : Int)) := nP (bT_dec) hG12; VJ_P (P_conv_u64 (a := ((l.length : Nat) : Int)) (mbx hG12 rfl) Try.runUnderlying3 Try.runUnderlying39)) <| RJ_mbF rfl rfl rfl (fun hG14 => have hP15 : ¬ (((l.length : Nat) : Int) = (0 : Int)) := nP (bT_dec) hG14; VJ_P (P_mul_u64 (a := (8 : UInt64)) (b := (to_u64 (((l.length : Nat) : Int)))) rfl (mbx hG14 rfl))) ?_
 refine RJ_mbF rfl rfl rfl (fun hG16 => have hP17 : ¬ (((l.length : Nat) : Int) = (0 : Int)) := nP (bT_dec) hG16; VJ_P (P_gtr (a := ((l.getD 0 0).toNat : Int)) (b := ((((8 : UInt64) * (to_u64 (((l.length : Nat) : Int))))).toNat : Int)) (mbx hG16 rfl) (mbx hG16 rfl))) <| oP (P_pickOr rfl rfl (fun hh => mbx (not_f hh) rfl)) rfl <| oM rfl rfl <| RJ_splitP 21 rfl (bT_or bT_dec bT_dec) (fun hg1B hg1 => ?_) (fun hg1B hg1 => ?_)
 ·
  replace h := ite_t hg1 h
  refine RJ_gn (GY_no rfl rfl rfl hg1B) rfl rfl <| RJ_gn (GY_no rfl rfl rfl hg1B) rfl rfl <| RJ_gn (GY_no rfl rfl rfl hg1B) rfl rfl <| RJ_gn (GY_no rfl rfl rfl hg1B) rfl rfl <| RJ_gn (GY_no rfl rfl rfl hg1B) rfl rfl <| RJ_gn (GY_no rfl rfl rfl hg1B) rfl rfl <| RJ_gn (GY_no rfl rfl rfl hg1B) rfl rfl <| RJ_gn (GY_no rfl rfl rfl hg1B) rfl rfl <| oP (P_pickT rfl hg1B rfl) rfl <| nT <| CJ_condT rfl rfl <| sR <| oA rfl rfl <| oA rfl rfl <| nT <| CJ_ret <| QJ_then_ret ?_
  cases h
  exact fE (res2 Try.results90 rfl rfl) () eR
 ·
  replace h := ite_f hg1 h
  refine gP (GY_yes rfl rfl rfl hg1B) (P_move rfl) rfl <| gV (GY_yes rfl rfl rfl hg1B) (V_index (i := 0) rfl rfl rfl (by omega) foc0 rl Try.runUnderlying29 Try.sizeOf39) rfl <| gV (GY_yes rfl rfl rfl hg1B) (V_loadE rfl rfl (by omega) foc0 rl rfl rfl Try.isAgg39) rfl <| gP (GY_yes rfl rfl rfl hg1B) (P_conv rfl Try.runUnderlying39 Try.runUnderlying3) rfl ?_
  obtain ⟨r18, hr19, h⟩ := bind_e h
  refine RJ_gy (GY_yes rfl rfl rfl hg1B) <| O_call (L_volumegroupref02_Length hr19) rfl Try.call99 Dels.nil rfl fun _ _ => gP (GY_yes rfl rfl rfl hg1B) (P_move rfl) rfl <| gV (GY_yes rfl rfl rfl hg1B) (V_len rfl foc0 rl Try.runUnderlying29) rfl <| gP (GY_yes rfl rfl rfl hg1B) (P_neq (a := r18) (b := ((l.length : Nat) : Int)) rfl rfl) rfl <| oP (P_pickF rfl hg1B rfl) rfl <| nT <| CJ_condP rfl bT_dec (fun hg2 => ?_) (fun hg2 => ?_)
  ·
   replace h := ite_t hg2 h
   refine sR <| oA rfl rfl <| oA rfl rfl <| nT <| CJ_ret <| QJ_then_ret ?_
   cases h
   exact fE (res2 Try.results90 rfl rfl) () eR
  ·
   replace h := ite_f hg2 h
   refine kT <| sR <| oM rfl rfl <| oV (V_index (i := 0) rfl rfl rfl (by omega) foc0 rl Try.runUnderlying29 Try.sizeOf39) rfl <| oV (V_loadE rfl rfl (by omega) foc0 rl rfl rfl Try.isAgg39) rfl <| oP (P_conv rfl Try.runUnderlying39 Try.runUnderlying3) rfl <| oA rfl rfl <| nT <| sR <| oM rfl rfl ?_
   obtain ⟨hg3, h⟩ := grd_de h
   refine oO <| O_make (t := tyU8) (m := ((IntKind.i64.wrap ((l.getD 0 0).toNat : Int))).toNat) (x0 := 0) (z := _) (bytes := _) rfl rfl (Int.toNat_of_nonneg (hg3.1)).symm (Int.toNat_of_nonneg (hg3.1)).symm Try.underlying22 ⟨Try.t5, by kernel_rfl, rfl, rfl, rfl⟩ rfl (by omega) (by decide) rfl fun b20 => oA rfl rfl <| nT <| CJ_seq <| sR <| oA rfl rfl <| nT ?_
   obtain ⟨y23, hl21, hK22⟩ := seq_e h
   refine CJ_cutT (X := (List UInt8)) [2, 3, 6, 7, 37, 38, 39, 40, 41, 42, 43, 44, 45, 46, 47, 48, 49, 50, 51, 52, 53, 54, 55, 56, 57, 58, 59, 60, 61, 62, 63, 64] (fun a25 => ([] : Slots)) (fun a25 R => sl tyU8 (.slice (some ⟨b20, 0, none⟩) (((IntKind.i64.wrap ((l.getD 0 0).toNat : Int))).toNat) (((IntKind.i64.wrap ((l.getD 0 0).toNat : Int))).toNat)) a25 :: R) (fun a25 => y23 = .inl a25) (Dels.cons del0 Dels.nil) ?_ ?_
   ·
    refine CJ_block <| CJ_loopR (X := Nat × (List UInt8) × Nat) [2, 3, 6, 7, 37, 38, 39, 40, 41, 42, 43, 44, 45, 46, 47, 48, 49, 50, 51, 52, 53, 54, 55, 56, 57, 58, 59, 60, 61, 62, 63, 64] (fun ⟨n, x26, x27⟩ => ([(6, .int .i64 (((x27 : Nat) : Int)))] : Slots)) (fun ⟨n, x26, x27⟩ R => sl tyU8 (.slice (some ⟨b20, 0, none⟩) (((IntKind.i64.wrap ((l.getD 0 0).toNat : Int))).toNat) (((IntKind.i64.wrap ((l.getD 0 0).toNat : Int))).toNat)) x26 :: R) (fun ⟨n, x26, x27⟩ => volumegroupref02_FromText_l1 l n x26 x27 = some y23) (fun ⟨n, x26, x27⟩ => n) ⟨FUEL, (List.replicate (((IntKind.i64.wrap ((l.getD 0 0).toNat : Int))).toNat) (0 : UInt8)), 0⟩ ?_ ?_ eR ?_
    · exact hl21
    · exact ⟨rfl, True.intro⟩
    ·
     rintro ⟨n, x26, x27⟩ h
     cases n with
     | zero => exact none_e h
     | succ n => ?_
     replace h : volumegroupref02_FromText_l1_b l (volumegroupref02_FromText_l1 l n) x26 x27 = some y23 := h
     unfold volumegroupref02_FromText_l1_b at h
     show CJ _ _ _ _ _ (([(6, .int .i64 (((x27 : Nat) : Int)))] : Slots) ++ forget _ _) (sl tyU8 (.slice (some ⟨b20, 0, none⟩) (((IntKind.i64.wrap ((l.getD 0 0).toNat : Int))).toNat) (((IntKind.i64.wrap ((l.getD 0 0).toNat : Int))).toNat)) x26 :: _)
     refine lC del0 fun hlen28 => CJ_seq <| sR <| oM rfl rfl <| oM rfl rfl <| oV (V_len rfl foc1 rl Try.runUnderlying29) rfl <| oP (P_sub (a := ((l.length : Nat) : Int)) (b := (1 : Int)) rfl rfl (by omega)) rfl ?_
     obtain ⟨hg4, h⟩ := grd_Ie h
     refine oP (P_mul (a := (8 : Int)) (b := (((l.length : Nat) : Int) - (1 : Int))) rfl rfl hg4) rfl <| oP (P_lss (a := ((x27 : Nat) : Int)) (b := ((8 : Int) * (((l.length : Nat) : Int) - (1 : Int)))) rfl rfl) rfl <| nT <| CJ_condP rfl bT_dec (fun hg5 => ?_) (fun hg5 => ?_)
     ·
      replace h := ite_t hg5 h
      refine kT <| CJ_seq <| CJ_block <| sR <| oM rfl rfl <| oM rfl rfl <| oP (P_quoT (a := ((x27 : Nat) : Int)) (b := (8 : Int)) rfl rfl (by decide)) rfl ?_
      obtain ⟨hg6, h⟩ := grd_Ie h
      refine oP (P_add (a := (1 : Int)) (b := (IntKind.i64.wrap ((((x27 : Nat) : Int)).tdiv (8 : Int)))) rfl rfl hg6) rfl ?_
      obtain ⟨hg7, h⟩ := grd_de h
      refine oV (V_index (i := (((1 : Int) + (IntKind.i64.wrap ((((x27 : Nat) : Int)).tdiv (8 : Int))))).toNat) rfl rfl (Int.toNat_of_nonneg (hg7.1)).symm (by omega) foc1 rl Try.runUnderlying29 Try.sizeOf39) rfl <| oV (V_loadE rfl rfl (by omega) foc1 rl rfl rfl Try.isAgg39) rfl ?_
      obtain ⟨w29, hw29, h⟩ := lt_e h
      rw [← hw29]
      refine oM rfl rfl <| oP (PJ_eq (P_rem (a := ((x27 : Nat) : Int)) (b := (8 : Int)) rfl rfl (by omega)) rfl) rfl <| oP (P_mul (a := (8 : Int)) (b := (((x27 % 8) : Nat) : Int)) rfl rfl (by omega)) rfl <| oP (P_shr_u64 (a := w29) (m := (((8 : Int) * (((x27 % 8) : Nat) : Int))).toNat) rfl rfl (Int.toNat_of_nonneg (by omega)).symm) rfl <| oP (P_conv_u8 (a := ((shr_u64 w29 ((((8 : Int) * (((x27 % 8) : Nat) : Int))).toNat)).toNat : Int)) rfl Try.runUnderlying39 Try.runUnderlying5) rfl ?_
      obtain ⟨w30, hw30, h⟩ := lt_e h
      rw [← hw30]
      refine oA rfl rfl <| nT <| sR <| oM rfl rfl <| oM rfl rfl <| oP (P_lss (a := ((x27 : Nat) : Int)) (b := (IntKind.i64.wrap ((l.getD 0 0).toNat : Int))) rfl rfl) rfl <| nT <| CJ_condP rfl bT_dec (fun hg8 => ?_) (fun hg8 => ?_)
      ·
       replace h := ite_t hg8 h
       refine CJ_region <| oM rfl rfl <| oM rfl rfl <| oM rfl rfl ?_
       obtain ⟨hg9, h⟩ := grd_de h
       refine oV (V_index (i := x27) rfl rfl rfl hg9 foc0 (Reads.sl _ _ _) Try.runUnderlying22 Try.sizeOf5) rfl <| oO <| O_storeE (x' := w30) rfl rfl rfl hg9 foc0 rfl rfl rfl Try.sizeOf5 <| RJ_nil <| QJ_block_normal <| QJ_then <| CJ_region <| oM rfl rfl ?_
       obtain ⟨hg10, h⟩ := grd_Ne h
       exact oP (PJ_eq (P_add (a := ((x27 : Nat) : Int)) (b := (1 : Int)) rfl rfl (nat_in hg10)) rfl) rfl <| oA rfl rfl <| RJ_nil <| nR ⟨n, (x26.set x27 w30), (x27 + 1)⟩ h ⟨rfl, True.intro⟩ eR
      ·
       replace h := ite_f hg8 h
       refine sR <| oM rfl rfl <| oP (P_ne_u8 (a := w30) (b := (0 : UInt8)) rfl rfl) rfl <| nT <| CJ_condP rfl bT_dec (fun hg11 => ?_) (fun hg11 => ?_)
       ·
        replace h := ite_t hg11 h
        refine sR <| oA rfl rfl <| oA rfl rfl <| nT <| CJ_ret <| QJ_block_ret <| QJ_then_ret <| QJ_round_ret <| QJ_block_ret <| QJ_then_ret ?_
        have hE := Option.some.inj h
        replace hE := seq_inr hK22 hE.symm
        subst hE
        exact fE (res2 Try.results90 rfl rfl) () (t1_ (eD eR))
       ·
        replace h := ite_f hg11 h
        refine CJ_skip <| QJ_block_normal <| QJ_then <| CJ_region <| oM rfl rfl ?_
        obtain ⟨hg12, h⟩ := grd_Ne h
        exact oP (PJ_eq (P_add (a := ((x27 : Nat) : Int)) (b := (1 : Int)) rfl rfl (nat_in hg12)) rfl) rfl <| oA rfl rfl <| RJ_nil <| nR ⟨n, x26, (x27 + 1)⟩ h ⟨rfl, True.intro⟩ eR
     ·
      replace h := ite_f hg5 h
      exact CJ_exit <| QJ_then_exit <| QJ_round_exit <| QJ_block_here <| cR x26 (Option.some.inj h).symm True.intro eR
   ·
    rintro a25 hy31
    replace h := seq_inl hK22 hy31
    show CJ _ _ _ _ _ (([] : Slots) ++ forget _ _) (sl tyU8 (.slice (some ⟨b20, 0, none⟩) (((IntKind.i64.wrap ((l.getD 0 0).toNat : Int))).toNat) (((IntKind.i64.wrap ((l.getD 0 0).toNat : Int))).toNat)) a25 :: _)
    refine lC del0 fun hlen32 => sR <| oM rfl rfl <| oV (V_convBS (t := tyU8) rfl rfl (fun _ => rfl) foc0 (Reads.sl _ _ _) Try.underlying22 Try.underlying5 Try.underlying9) rfl <| oA rfl rfl <| oA rfl rfl <| nT <| CJ_ret ?_
    cases h
    exact fE (res2 Try.results90 rfl rfl) () (t1_ (eD eR))
end Go.Proofs
namespace Go.Proofs
open Go.VG
theorem tdiv8 {n : Nat} (h : n ≤ 1000000000) : IntKind.i64.wrap (((n : Nat) : Int).tdiv (8 : Int)) = ((n / 8 : Nat) : Int) := by
  have e : ((n : Nat) : Int).tdiv (8 : Int) = ((n / 8 : Nat) : Int) := by
    rw [Int.tdiv_eq_ediv_of_nonneg (by omega)]; omega
  rw [e]; exact wrap64_in (by omega) (by omega)
theorem length_eq {n : Nat} (h : n ≤ 100000000) : pack_Length (n : Int) = some ((1 + bytesN n : Nat) : Int) := by
  unfold pack_Length
  rw [tdiv8 (by omega), if_neg (by omega), grd_pos (inI64_of (by omega))]
  unfold bytesN
  by_cases h8 : (0 : Int) < ((n : Int) % (8 : Int))
  · rw [if_pos h8, grd_pos (inI64_of (by omega))]; congr 1; omega
  · rw [if_neg h8]; congr 1; omega
theorem rlength_eq {n : Nat} (h : n ≤ 100000000) : volumegroupref02_Length (n : Int) = some ((1 + bytesN n : Nat) : Int) := by
  unfold volumegroupref02_Length
  simp only [lt]
  have hmin : min ((n : Int) % (8 : Int)) (1 : Int) = if n % 8 = 0 then 0 else 1 := by
    split <;> omega
  rw [tdiv8 (by omega), if_neg (by omega), grd_pos (inI64_of (by omega)), hmin, grd_pos (inI64_of (by split <;> omega))]
  unfold bytesN
  congr 1
  split <;> omega
def textP (b : Nat → UInt8) (n i : Nat) : List UInt64 := to_u64 (n : Int) :: (List.range (bytesN n)).map fun k => wordB fun j => if 8 * k + j < i then b (8 * k + j) else 0
theorem textP_len {b : Nat → UInt8} {n i : Nat} : (textP b n i).length = 1 + bytesN n := by simp [textP]; omega
theorem textP_get {b : Nat → UInt8} {n i k : Nat} (h : k < bytesN n) : (textP b n i).getD (1 + k) 0 = wordB fun j => if 8 * k + j < i then b (8 * k + j) else 0 := by
  rw [Nat.add_comm]
  simp [textP, List.getD_eq_getElem?_getD, h]
theorem wordB_zero : (wordB fun _ => 0) = 0 := by
  refine tb_ext fun i hi => ?_
  rw [tb_wordB _ hi, tb_zero]
  exact Nat.zero_testBit _
theorem textP_zero {b : Nat → UInt8} {n : Nat} : (List.replicate (1 + bytesN n) (0 : UInt64)).set 0 (to_u64 (n : Int)) = textP b n 0 := by
  refine List.ext_getElem (by rw [List.length_set, List.length_replicate, textP_len]) fun i h1 h2 => ?_
  cases i with
  | zero => simp [textP]
  | succ k =>
    have e := getD_get (l := textP b n 0) h2
    rw [textP_len] at h2
    have e3 : (textP b n 0).getD (k + 1) 0 = wordB fun j => if 8 * k + j < 0 then b (8 * k + j) else 0 := by
      rw [show k + 1 = 1 + k by omega]; exact textP_get (by omega)
    rw [← e, e3]
    simp [wordB_zero]
theorem textP_step {b : Nat → UInt8} {n i : Nat} (h : i < n) : (textP b n i).set (1 + i / 8) ((textP b n i).getD (1 + i / 8) 0 ||| shl_u64 (to_u64 ((b i).toNat : Int)) (8 * (i % 8))) = textP b n (i + 1) := by
  have hk : i / 8 < bytesN n := by unfold bytesN; omega
  rw [textP_get hk, wordB_put (by omega) (if_neg (by omega))]
  refine List.ext_getElem (by rw [List.length_set, textP_len, textP_len]) fun q h1 h2 => ?_
  rw [List.getElem_set, ← getD_get h2]
  rw [textP_len] at h2
  split
  · rename_i e
    rw [← e, textP_get hk]
    refine wordB_inj.2 fun j hj => ?_
    by_cases e2 : j = i % 8
    · rw [if_pos e2, if_pos (by omega)]; congr 1; omega
    · rw [if_neg e2]
      by_cases e3 : 8 * (i / 8) + j < i
      · rw [if_pos e3, if_pos (by omega)]
      · rw [if_neg e3, if_neg (by omega)]
  · rename_i e
    rw [List.length_set] at h1
    rw [← getD_get h1]
    rcases Nat.eq_zero_or_pos q with h0 | h0
    · rw [h0]; simp [textP]
    · obtain ⟨k, rfl⟩ : ∃ k, q = 1 + k := ⟨q - 1, by omega⟩
      rw [textP_get (b := b) (i := i) (show k < bytesN n by omega), textP_get (b := b) (i := i + 1) (show k < bytesN n by omega)]
      refine wordB_inj.2 fun j hj => ?_
      by_cases e3 : 8 * k + j < i
      · rw [if_pos e3, if_pos (by omega)]
      · rw [if_neg e3, if_neg (by omega)]
theorem text_l1 {s : ByteArray} (hs : s.size ≤ 8192) : ∀ (N i : Nat), s.size - i < N → i ≤ s.size → pack_Text_l1 s N (textP (strAt s) s.size i) i = some (encT s)
  | 0, _, h, _ => absurd h (by omega)
  | N + 1, i, h, hi => by
    show pack_Text_l1_b _ _ _ _ = _
    unfold pack_Text_l1_b
    simp only [lt]
    by_cases hlt : i < s.size
    · have hb : 1 + i / 8 < (textP (strAt s) s.size i).length := by rw [textP_len]; unfold bytesN; omega
      rw [if_pos (by omega), grd_pos (decide_eq_true hb), grd_pos (decide_eq_true hb), show ((((i % 8 : Nat) : Int)) * (8 : Int)).toNat = 8 * (i % 8) by omega, textP_step hlt]
      exact text_l1 hs N (i + 1) (by omega) (by omega)
    · rw [if_neg (by omega), show i = s.size by omega]; rfl
theorem text_eq (s : ByteArray) : pack_Text s = some (if 8192 < s.size then ([], 4) else (encT s, 0)) := by
  unfold pack_Text
  by_cases h : 8192 < s.size
  · rw [if_pos (by omega), if_pos h]
  · rw [if_neg (by omega), if_neg h, length_eq (by omega)]; simp only [Option.bind_some]
    have hb : bytesN s.size ≤ 100000 := by unfold bytesN; omega
    rw [grd_pos (decide_eq_true (by omega)), show (((1 + bytesN s.size : Nat) : Int)).toNat = 1 + bytesN s.size by omega, grd_pos (decide_eq_true (by rw [List.length_replicate]; omega)), textP_zero (b := strAt s)]
    have hF := fuel_big
    generalize FUEL = N at hF ⊢
    rw [text_l1 (by omega) N 0 (by omega) (by omega)]; rfl
theorem rwordsT_l1 {s : ByteArray} (hs : s.size ≤ 8192) : ∀ (N i : Nat), s.size - i < N → i ≤ s.size → volumegroupref02_Words_l1 s N (textP (strAt s) s.size i) i = some (encT s)
  | 0, _, h, _ => absurd h (by omega)
  | N + 1, i, h, hi => by
    show volumegroupref02_Words_l1_b _ _ _ _ = _
    unfold volumegroupref02_Words_l1_b
    simp only [lt]
    by_cases hlt : i < s.size
    · have hb : 1 + i / 8 < (textP (strAt s) s.size i).length := by rw [textP_len]; unfold bytesN; omega
      rw [if_pos (by omega), tdiv8 (by omega), grd_pos (inI64_of (by omega)), grd_pos (decide_eq_true (by omega)), show ((1 : Int) + ((i / 8 : Nat) : Int)).toNat = 1 + i / 8 by omega, grd_pos (decide_eq_true (by omega)), grd_pos (inN64_of (by omega)),
        show ((8 : Int) * (((i % 8 : Nat) : Int))).toNat = 8 * (i % 8) by omega, textP_step hlt]
      exact rwordsT_l1 hs N (i + 1) (by omega) (by omega)
    · rw [if_neg (by omega), show i = s.size by omega]; rfl
theorem rtext_eq (s : ByteArray) : volumegroupref02_Text s = some (if 8192 < s.size then ([], 4) else (encT s, 0)) := by
  unfold volumegroupref02_Text
  by_cases h : 8192 < s.size
  · rw [if_pos (by omega), if_pos h]
  · rw [if_neg (by omega), if_neg h]
    unfold volumegroupref02_Words
    rw [rlength_eq (by omega)]; simp only [Option.bind_some]
    have hb : bytesN s.size ≤ 100000 := by unfold bytesN; omega
    rw [grd_pos (decide_eq_true (by omega)), show (((1 + bytesN s.size : Nat) : Int)).toNat = 1 + bytesN s.size by omega, grd_pos (decide_eq_true (by rw [List.length_replicate]; omega)), textP_zero (b := strAt s)]
    have hF := fuel_big
    generalize FUEL = N at hF ⊢
    rw [rwordsT_l1 (by omega) N 0 (by omega) (by omega)]; rfl
theorem slicesEq_l1 {a b : List UInt64} (hl : a.length = b.length) : ∀ (N i : Nat), a.length - i < N → i ≤ a.length → (∀ j, j < i → a.getD j 0 = b.getD j 0) →
    slices_Equal_uint64_l1 a b N i = some (if a = b then .inl () else .inr false)
  | 0, _, h, _, _ => absurd h (by omega)
  | N + 1, i, h, hi, he => by
    show slices_Equal_uint64_l1_b _ _ _ _ = _
    unfold slices_Equal_uint64_l1_b
    by_cases hlt : i < a.length
    · rw [if_pos (by omega)]
      by_cases hab : a.getD i 0 = b.getD i 0
      · rw [if_neg (by simpa using hab)]
        refine slicesEq_l1 hl N (i + 1) (by omega) (by omega) fun j hj => ?_
        rcases Nat.lt_or_ge j i with h2 | h2
        · exact he j h2
        · have : j = i := by omega
          rw [this]; exact hab
      · rw [if_pos (by simpa using hab), if_neg (fun e => hab (by rw [e]))]
    · rw [if_neg (by omega), if_pos]
      refine List.ext_getElem hl fun j h1 h2 => ?_
      have := he j (by omega)
      simpa [List.getD, h1, h2] using this
theorem slicesEq {a b : List UInt64} (hl : a.length ≤ 1000000000) : slices_Equal_uint64 a b = some (decide (a = b)) := by
  unfold slices_Equal_uint64
  have hF := fuel_big
  generalize FUEL = N at hF ⊢
  by_cases h : a.length = b.length
  · rw [if_neg (by omega), slicesEq_l1 h N 0 (by omega) (by omega) (fun j h => absurd h (by omega))]
    by_cases e : a = b
    · rw [if_pos e]; show some true = _; rw [decide_eq_true e]
    · rw [if_neg e]; show some false = _; rw [decide_eq_false e]
  · rw [if_pos (by omega), decide_eq_false (fun e => h (congrArg List.length e))]
def bytesP (l : List UInt64) (n i : Nat) : List UInt8 := (List.range n).map fun k => if k < i then byteOf (l.getD (1 + k / 8) 0) (k % 8) else 0
theorem bytesP_zero {l : List UInt64} {n : Nat} : List.replicate n (0 : UInt8) = bytesP l n 0 := by
  refine List.ext_getElem (by simp [bytesP]) fun i h1 h2 => by simp [bytesP]
theorem bytesP_len {l : List UInt64} {n i : Nat} : (bytesP l n i).length = n := by simp [bytesP]
theorem bytesP_step {l : List UInt64} {n i : Nat} : (bytesP l n i).set i (byteOf (l.getD (1 + i / 8) 0) (i % 8)) = bytesP l n (i + 1) := by
  refine List.ext_getElem (by simp [bytesP]) fun k h1 h2 => ?_
  rw [List.getElem_set]
  split
  · rename_i e; subst e; simp [bytesP]
  · rename_i e
    simp only [bytesP, List.getElem_map, List.getElem_range]
    by_cases h3 : k < i
    · rw [if_pos h3, if_pos (by omega)]
    · rw [if_neg h3, if_neg (by omega)]
theorem bytesP_full {l : List UInt64} : bytesP l (l.getD 0 0).toNat (l.getD 0 0).toNat = bytesT l :=
  List.map_congr_left fun i hi => if_pos (List.mem_range.1 hi)
theorem bytesP_over {l : List UInt64} {n i : Nat} (h : n ≤ i) : bytesP l n i = bytesP l n n :=
  List.map_congr_left fun k hk => by rw [if_pos (by have := List.mem_range.1 hk; omega), if_pos (List.mem_range.1 hk)]
section
variable {l : List UInt64}
theorem fromT_l1 (h0 : (l.getD 0 0).toNat ≤ 8192) (hl : l.length = 1 + bytesN (l.getD 0 0).toNat) : ∀ (N i : Nat), (l.getD 0 0).toNat - i < N → i ≤ (l.getD 0 0).toNat → pack_FromText_l1 l N (bytesP l (l.getD 0 0).toNat i) i = some (bytesT l)
  | 0, _, h, _ => absurd h (by omega)
  | N + 1, i, h, hi => by
    show pack_FromText_l1_b _ _ _ _ = _
    unfold pack_FromText_l1_b
    simp only [lt, List.length_replicate]
    by_cases hlt : i < (l.getD 0 0).toNat
    · have hb : 1 + i / 8 < l.length := by rw [hl]; unfold bytesN; omega
      rw [if_pos (by omega), tdiv8 (by omega), grd_pos (inI64_of (by omega)), grd_pos (decide_eq_true (by omega)), show ((1 : Int) + ((i / 8 : Nat) : Int)).toNat = 1 + i / 8 by omega, grd_pos (decide_eq_true (by rw [bytesP_len]; exact hlt)), grd_pos (inN64_of (by omega)),
        show ((((i % 8 : Nat) : Int)) * (8 : Int)).toNat = 8 * (i % 8) by omega]
      show pack_FromText_l1 l N ((bytesP l (l.getD 0 0).toNat i).set i (byteOf (l.getD (1 + i / 8) 0) (i % 8))) (i + 1) = _
      rw [bytesP_step]
      exact fromT_l1 h0 hl N (i + 1) (by omega) (by omega)
    · rw [if_neg (by omega), show i = (l.getD 0 0).toNat by omega, bytesP_full]
theorem fromText_eq (hL : l.length ≤ 1000000) : pack_FromText l = some (decT l) := by
  unfold pack_FromText decT
  by_cases h1 : l.length = 0 ∨ 8192 < (l.getD 0 0).toNat
  · rw [if_pos (by have : ((8192 : UInt64).toNat : Int) = 8192 := rfl
                   rw [this]; omega), if_pos (by omega)]
  · rw [if_neg (by have : ((8192 : UInt64).toNat : Int) = 8192 := rfl
                   rw [this]; omega), wrap64_u _ (by omega), length_eq (by omega)]
    simp only [Option.bind_some]
    by_cases h2 : l.length = 1 + bytesN (l.getD 0 0).toNat
    · rw [if_neg (by omega), if_neg (by omega), grd_pos (inLen_of (by omega)), bytesP_zero (l := l)]
      have hF := fuel_big
      generalize FUEL = N at hF ⊢
      rw [fromT_l1 (by omega) h2 N 0 (by omega) (by omega)]; simp only [Option.bind_some]
      rw [text_eq, if_neg (by rw [strSize_of, bytesT_len]; omega)]; simp only [Option.bind_some]
      rw [if_neg (by simp), slicesEq (by rw [encT_len]; unfold bytesN; rw [strSize_of, bytesT_len]; omega)]
      simp only [Option.bind_some]
      by_cases h3 : encT (strOf (bytesT l)) = l
      · rw [if_neg (by simpa using h3), if_pos h3]
      · rw [if_pos (by simpa using h3), if_neg h3]
    · rw [if_pos (by omega), if_pos (by omega)]
theorem rfromT_l1 (h0 : (l.getD 0 0).toNat ≤ 8192) (hl : l.length = 1 + bytesN (l.getD 0 0).toNat) : ∀ (N i : Nat), 8 * bytesN (l.getD 0 0).toNat - i < N → i ≤ 8 * bytesN (l.getD 0 0).toNat →
    (∀ j, (l.getD 0 0).toNat ≤ j → j < i → byteOf (l.getD (1 + j / 8) 0) (j % 8) = 0) →
    volumegroupref02_FromText_l1 l N (bytesP l (l.getD 0 0).toNat i) i = some (if encT (strOf (bytesT l)) = l then .inl (bytesT l) else .inr (emptyS, 2))
  | 0, _, h, _, _ => absurd h (by omega)
  | N + 1, i, h, hi, hz => by
    show volumegroupref02_FromText_l1_b _ _ _ _ = _
    unfold volumegroupref02_FromText_l1_b
    simp only [lt]
    have hn : (l.getD 0 0).toNat ≤ 8 * bytesN (l.getD 0 0).toNat := by unfold bytesN; omega
    have hB : bytesN (l.getD 0 0).toNat ≤ 1024 := by unfold bytesN; omega
    have he : (8 : Int) * (((l.length : Nat) : Int) - (1 : Int)) = ((8 * bytesN (l.getD 0 0).toNat : Nat) : Int) := by rw [hl]; omega
    rw [he, grd_pos (inI64_of (by omega)), wrap64_u _ (by omega)]
    by_cases hlt : i < 8 * bytesN (l.getD 0 0).toNat
    · have hb : 1 + i / 8 < l.length := by rw [hl]; omega
      rw [if_pos (by omega), tdiv8 (by omega), grd_pos (inI64_of (by omega)), grd_pos (decide_eq_true (by omega)), show ((1 : Int) + ((i / 8 : Nat) : Int)).toNat = 1 + i / 8 by omega, show ((8 : Int) * (((i % 8 : Nat) : Int))).toNat = 8 * (i % 8) by omega]
      by_cases h3 : i < (l.getD 0 0).toNat
      · rw [if_pos (by omega), grd_pos (decide_eq_true (by rw [bytesP_len]; exact h3)), grd_pos (inN64_of (by omega))]
        show volumegroupref02_FromText_l1 l N ((bytesP l (l.getD 0 0).toNat i).set i (byteOf (l.getD (1 + i / 8) 0) (i % 8))) (i + 1) = _
        rw [bytesP_step]
        exact rfromT_l1 h0 hl N (i + 1) (by omega) (by omega) (fun j hj hji => by omega)
      · rw [if_neg (by omega)]
        show (if byteOf (l.getD (1 + i / 8) 0) (i % 8) ≠ 0 then some (Sum.inr (emptyS, 2)) else _) = _
        by_cases h4 : byteOf (l.getD (1 + i / 8) 0) (i % 8) = 0
        · rw [if_neg (fun x => x h4), grd_pos (inN64_of (by omega)), bytesP_over (i := i) (by omega), ← bytesP_over (i := i + 1) (by omega)]
          refine rfromT_l1 h0 hl N (i + 1) (by omega) (by omega) (fun j hj hji => ?_)
          rcases Nat.lt_or_ge j i with h5 | h5
          · exact hz j hj h5
          · have : j = i := by omega
            rw [this]; exact h4
        · rw [if_pos h4, if_neg (fun x => h4 ((encT_iff (by omega) hl).1 x i (by omega) hlt))]
    · rw [if_neg (by omega), if_pos ((encT_iff (by omega) hl).2 fun j hj hjB => hz j hj (by omega)), bytesP_over (by omega), bytesP_full]
theorem rfromText_eq (hL : l.length ≤ 1000) : volumegroupref02_FromText l = some (decT l) := by
  unfold volumegroupref02_FromText decT
  have h8 : ((((8 : UInt64) * (to_u64 (((l.length : Nat) : Int))))).toNat : Int) = ((8 * l.length : Nat) : Int) := by
    rw [UInt64.toNat_mul, to_u64_len (by omega)]
    have : (8 : UInt64).toNat = 8 := rfl
    rw [this, Nat.mod_eq_of_lt (by omega)]
  rw [h8]
  have hb : (l.getD 0 0).toNat ≤ 8 * bytesN (l.getD 0 0).toNat := by unfold bytesN; omega
  by_cases h1 : l.length = 0 ∨ 8 * l.length < (l.getD 0 0).toNat
  · rw [if_pos (by omega), if_pos (by omega)]
  · rw [if_neg (by omega), wrap64_u _ (by omega), rlength_eq (by omega)]
    simp only [Option.bind_some]
    by_cases h2 : l.length = 1 + bytesN (l.getD 0 0).toNat
    · rw [if_neg (by omega), if_neg (by omega), grd_pos (decide_eq_true (by omega)), show ((((l.getD 0 0).toNat : Nat) : Int)).toNat = (l.getD 0 0).toNat by omega, bytesP_zero (l := l)]
      have hF := fuel_big
      generalize FUEL = N at hF ⊢
      rw [rfromT_l1 (by omega) h2 N 0 (by omega) (by omega) (fun j _ h => absurd h (by omega))]
      by_cases h3 : encT (strOf (bytesT l)) = l
      · rw [if_pos h3, if_pos h3]; rfl
      · rw [if_neg h3, if_neg h3]; rfl
    · rw [if_pos (by omega), if_pos (by omega)]
end
end Go.Proofs
set_option linter.unusedSimpArgs false
set_option linter.unusedVariables false
set_option maxRecDepth 20000
set_option maxHeartbeats 4000000
namespace Go.Proofs
open Go.VG
def block_ReadAll_l1_b (x_0 : Dvc) (at_1 : Int) (n_2 : Int) (s : ArrS) (rec : Nat → (List UInt64) → Option (((List UInt64)) ⊕ ((List UInt64) × Int))) (x14 : Nat) (x15 : List UInt64) : Option (((List UInt64)) ⊕ ((List UInt64) × Int)) :=
  if (((x14 : Nat) : Int) < n_2) then
    grd (inI64 ((at_1 + ((x14 : Nat) : Int)))) <|
    Option.bind (Dvc.rd x_0 s ((at_1 + ((x14 : Nat) : Int)))) fun r19 =>
    if (r19.2 ≠ (0 : Int)) then
      some (.inr ([], r19.2))
    else
      grd (inLen (x15.length + 1)) <|
      grd (inN64 (x14 + 1)) <|
      rec (x14 + 1) (x15 ++ [r19.1])
  else
    some (.inl x15)
def block_ReadAll_l1 (x_0 : Dvc) (at_1 : Int) (n_2 : Int) (s : ArrS) : Nat → Nat → (List UInt64) → Option (((List UInt64)) ⊕ ((List UInt64) × Int))
  | 0, _, _ => none
  | n + 1, x14, x15 => block_ReadAll_l1_b x_0 at_1 n_2 s (block_ReadAll_l1 x_0 at_1 n_2 s n) x14 x15
def block_ReadAll (x_0 : Dvc) (at_1 : Int) (n_2 : Int) (s : ArrS) : Option ((List UInt64) × Int) :=
  Option.bind (Dvc.size x_0 s) fun r2 =>
  Option.bind (block_inside r2 at_1 n_2) fun r4 =>
  if (¬ r4 = true) then
    some (([], (1 : Int)))
  else
    seqO (block_ReadAll_l1 x_0 at_1 n_2 s FUEL 0 ([])) fun a13 =>
    some ((a13, (0 : Int)))
theorem L_block_ReadAll {W : World} {vx_0 : IfH} {bs : Nat} {x_0 : Dvc} {at_1 : Int} {n_2 : Int} {s : ArrS} {r : (List UInt64) × Int} (h : block_ReadAll x_0 at_1 n_2 s = some r) :
    CSpec Try.prog W 62 [IfH.v vx_0, .int .i64 at_1, .int .i64 n_2] [DevP bs x_0 vx_0, Arr bs s] (fun x : Sl3 => .tuple #[x.v, .int .i64 r.2]) (fun _ => True) (fun x F => DevP bs x_0 vx_0 :: Arr bs s :: sl tyU x.v r.1 :: F) := by
 refine CSpec.of_body Try.func62 rfl Try.ntmps62 rfl fun F => ?_
 show CJ _ _ _ _ _ _ (_ :: _ :: F)
 unfold block_ReadAll at h
 refine sR <| oA rfl rfl <| oA rfl rfl <| nT <| CJ_seq <| sR <| oM rfl rfl <| RJ_pure (fun h hh => DevP_dep h (stars_perm (del0 (A := DevP bs x_0 vx_0)).out h hh)) fun hdp1 => ?_
 obtain ⟨r2, hr3, h⟩ := bind_e h
 refine oO <| O_callI rfl (dev_Size hr3 hdp1) rfl (Dels.cons del0 (Dels.cons del0 Dels.nil)) rfl fun _ _ => oM rfl rfl <| oM rfl rfl ?_
 obtain ⟨r4, hr5, h⟩ := bind_e h
 refine oO <| O_call (L_block_inside hr5) rfl Try.call88 Dels.nil rfl fun _ _ => oP (P_not rfl) rfl <| nT <| CJ_condP rfl (bT_not Iff.rfl) (fun hg1 => ?_) (fun hg1 => ?_)
 ·
  replace h := ite_t hg1 h
  refine sR <| oA rfl rfl <| oA rfl rfl <| nT <| CJ_ret <| QJ_then_ret <| QJ_ent (fun h hh => sl_nil (t := tyU) h hh) ?_
  cases h
  exact fE (res2 Try.results62 rfl rfl) ⟨none, 0, 0⟩ (t1_ (t1_ eR))
 ·
  replace h := ite_f hg1 h
  refine kT <| sR <| oA rfl rfl <| nT <| CJ_seq <| sR <| oM rfl rfl <| oM rfl rfl <| nT <| CJ_ent (fun h hh => sl_nil (t := tyU) h hh) ?_
  obtain ⟨y10, hl8, hK9⟩ := seq_e h
  refine CJ_cutT (X := (List UInt64) × Sl3) [6, 7, 8, 9, 10, 11, 19, 20, 21, 22, 23, 24, 25, 26, 27, 28, 29, 30, 31, 32, 33, 34, 35, 36, 37] (fun ⟨a13, hd12⟩ => ([(8, hd12.v)] : Slots)) (fun ⟨a13, hd12⟩ R => sl tyU hd12.v a13 :: R) (fun ⟨a13, hd12⟩ => y10 = .inl a13) (Dels.cons del0 Dels.nil) ?_ ?_
  ·
   refine CJ_block <| CJ_loopR (X := Nat × Nat × (List UInt64) × Sl3) [6, 7, 8, 9, 10, 11, 19, 20, 21, 22, 23, 24, 25, 26, 27, 28, 29, 30, 31, 32, 33, 34, 35, 36, 37] (fun ⟨n, x14, x15, hd16⟩ => ([(8, hd16.v), (19, .int .i64 (((x14 : Nat) : Int)))] : Slots)) (fun ⟨n, x14, x15, hd16⟩ R => sl tyU hd16.v x15 :: R) (fun ⟨n, x14, x15, hd16⟩ => block_ReadAll_l1 x_0 at_1 n_2 s n x14 x15 = some y10) (fun ⟨n, x14, x15, hd16⟩ => n) ⟨FUEL, 0, [], ⟨none, 0, 0⟩⟩ ?_ ?_ eR ?_
   · exact hl8
   · exact ⟨rfl, rfl, True.intro⟩
   ·
    rintro ⟨n, x14, x15, hd16⟩ h
    cases n with
    | zero => exact none_e h
    | succ n => ?_
    replace h : block_ReadAll_l1_b x_0 at_1 n_2 s (block_ReadAll_l1 x_0 at_1 n_2 s n) x14 x15 = some y10 := h
    unfold block_ReadAll_l1_b at h
    show CJ _ _ _ _ _ (([(8, hd16.v), (19, .int .i64 (((x14 : Nat) : Int)))] : Slots) ++ forget _ _) (sl tyU hd16.v x15 :: _)
    refine lC del0 fun hlen17 => sR <| oP (P_lss (a := ((x14 : Nat) : Int)) (b := n_2) rfl rfl) rfl <| nT <| CJ_seq <| CJ_condP rfl bT_dec (fun hg2 => ?_) (fun hg2 => ?_)
    ·
     replace h := ite_t hg2 h
     refine kT <| CJ_seq <| CJ_block <| sR <| oM rfl rfl <| oA rfl rfl <| nT <| sR <| oM rfl rfl <| oM rfl rfl <| oM rfl rfl ?_
     obtain ⟨hg3, h⟩ := grd_Ie h
     refine oP (P_add (a := at_1) (b := ((x14 : Nat) : Int)) rfl rfl hg3) rfl <| RJ_pure (fun h hh => DevP_dep h (stars_perm (del1 (A := DevP bs x_0 vx_0)).out h hh)) fun hdp18 => ?_
     obtain ⟨r19, hr20, h⟩ := bind_e h
     refine oO <| O_callI rfl (dev_Read hr20 hdp18) rfl (Dels.cons del1 (Dels.cons del1 Dels.nil)) rfl fun _ _ => oM rfl rfl <| oP (P_extract rfl rfl) rfl <| oP (P_extract rfl rfl) rfl <| oA rfl rfl <| oA rfl rfl <| nT <| CJ_seq <| sR <| oM rfl rfl <| oP (P_neq (a := r19.2) (b := (0 : Int)) rfl rfl) rfl <| nT <| CJ_condP rfl bT_dec (fun hg4 => ?_) (fun hg4 => ?_)
     ·
      replace h := ite_t hg4 h
      refine sR <| oM rfl rfl <| oA rfl rfl <| oA rfl rfl <| nT <| CJ_ret <| QJ_then_ret <| QJ_block_ret <| QJ_then_ret <| QJ_round_ret <| QJ_block_ret <| QJ_then_ret <| QJ_ent (fun h hh => sl_nil (t := tyU) h hh) ?_
      have hE := Option.some.inj h
      replace hE := seq_inr hK9 hE.symm
      subst hE
      exact fE (res2 Try.results62 rfl rfl) ⟨none, 0, 0⟩ (t1_ (t1_ (t0_ (eD eR))))
     ·
      replace h := ite_f hg4 h
      refine kT <| CJ_region <| oM rfl rfl <| oM rfl rfl <| oO <| O_buildSlice rfl (bs_29_1_0 _) rfl fun b22 => ?_
      obtain ⟨hg5, h⟩ := grd_Le h
      refine oO <| O_append (t := tyU) (bytes := 8) rfl rfl del3 foc0 (Reads.lit (t := tyU) (ys := [r19.1]) rfl rfl (by decide) (by decide) rfl) Try.underlying29 ok_tyU (apl (m := 1) (b := 8) hg5 (by decide)).1 (apl (m := 1) (b := 8) hg5 (by decide)).2 rfl fun p24 c25 => oA rfl rfl <| RJ_nil <| QJ_block_normal <| QJ_then <| CJ_region ?_
      obtain ⟨hg6, h⟩ := grd_Ne h
      exact oP (PJ_eq (P_add (a := ((x14 : Nat) : Int)) (b := (1 : Int)) rfl rfl (nat_in hg6)) rfl) rfl <| oM rfl rfl <| RJ_nil <| nR ⟨n, (x14 + 1), (x15 ++ [r19.1]), ⟨p24, (x15 ++ [r19.1]).length, c25⟩⟩ h ⟨rfl, rfl, True.intro⟩ (t0_ (t1_ (t1_ (eD eR))))
    ·
     replace h := ite_f hg2 h
     exact CJ_exit <| QJ_then_exit <| QJ_round_exit <| QJ_block_here <| cR ⟨x15, hd16⟩ (Option.some.inj h).symm ⟨rfl, True.intro⟩ eR
  ·
   rintro ⟨a13, hd12⟩ hy26
   replace h := seq_inl hK9 hy26
   show CJ _ _ _ _ _ (([(8, hd12.v)] : Slots) ++ forget _ _) (sl tyU hd12.v a13 :: _)
   refine lC del0 fun hlen27 => sR <| oM rfl rfl <| oA rfl rfl <| oA rfl rfl <| nT <| CJ_ret ?_
   cases h
   exact fE (res2 Try.results62 rfl rfl) hd12 (t1_ (t1_ eR))
end Go.Proofs
set_option linter.unusedSimpArgs false
set_option linter.unusedVariables false
set_option maxRecDepth 20000
set_option maxHeartbeats 4000000
namespace Go.Proofs
open Go.VG
@[ext] structure volumegroupref12_Descriptor where
  Seq : Int
  Start : Int
  Length : Int
  Sum : UInt16
  deriving DecidableEq
@[ext] structure api_Copy where
  Valid : Bool
  Seq : Int
  Text : ByteArray
  deriving DecidableEq
abbrev tyapi_Copy : Ty api_Copy := { T := 34, sz := 3, enc := fun x => [.bool x.Valid, .int .i64 x.Seq, .string x.Text], dflt := ⟨false, 0, ByteArray.empty⟩, len := fun _ => rfl, one := fun _ => rfl, pos := by decide }
theorem ok_tyapi_Copy : ElemOk Try.prog tyapi_Copy 32 := ⟨Try.t34, .agg #[.bool false, .int .i64 0, .string ByteArray.empty], by kernel_rfl, rfl, rfl, rfl, rfl⟩
theorem bld_73_0_1_2_3 (v0 : Int) (v1 : Int) (v2 : Int) (v3 : Int) : ∀ w, (Instr.build 73 (#[(0, .int .i64 v0), (1, .int .i64 v1), (2, .int .i64 v2), (3, .int .u16 v3)] : Array (Nat × Value))).run Try.prog w = .ok (.agg #[.int .i64 v0, .int .i64 v1, .int .i64 v2, .int .u16 v3]) w := fun w => by kernel_rfl
theorem bs_29_3_0_1_2 (v0 : Int) (v1 : Int) (v2 : Int) : BuildsSlice Try.prog 29 3 [(0, .int .u64 v0), (1, .int .u64 v1), (2, .int .u64 v2)] 39 [.int .u64 v0, .int .u64 v1, .int .u64 v2] := fun w => by kernel_rfl
theorem bld_34 : ∀ w, (Instr.build 34 (#[] : Array (Nat × Value))).run Try.prog w = .ok (.agg #[.bool false, .int .i64 (0 : Int), .string ByteArray.empty]) w := fun w => by kernel_rfl
theorem fld_73_0 (v0 : Int) (v1 : Int) (v2 : Int) (v3 : Int) : ∀ w, (Instr.field 73 (.agg #[.int .i64 v0, .int .i64 v1, .int .i64 v2, .int .u16 v3]) 0).run Try.prog w = .ok (.int .i64 v0) w := fun w => by kernel_rfl
theorem bld_34_1 (v0 : Int) : ∀ w, (Instr.build 34 (#[(1, .int .i64 v0)] : Array (Nat × Value))).run Try.prog w = .ok (.agg #[.bool false, .int .i64 v0, .string ByteArray.empty]) w := fun w => by kernel_rfl
theorem bld_34_0_1_2 (v0 : Bool) (v1 : Int) (v2 : ByteArray) : ∀ w, (Instr.build 34 (#[(0, .bool v0), (1, .int .i64 v1), (2, .string v2)] : Array (Nat × Value))).run Try.prog w = .ok (.agg #[.bool v0, .int .i64 v1, .string v2]) w := fun w => by kernel_rfl
theorem bld_73 : ∀ w, (Instr.build 73 (#[] : Array (Nat × Value))).run Try.prog w = .ok (.agg #[.int .i64 (0 : Int), .int .i64 (0 : Int), .int .i64 (0 : Int), .int .u16 0]) w := fun w => by kernel_rfl
theorem bld_73_0_1_2 (v0 : Int) (v1 : Int) (v2 : Int) : ∀ w, (Instr.build 73 (#[(0, .int .i64 v0), (1, .int .i64 v1), (2, .int .i64 v2)] : Array (Nat × Value))).run Try.prog w = .ok (.agg #[.int .i64 v0, .int .i64 v1, .int .i64 v2, .int .u16 0]) w := fun w => by kernel_rfl
def volumegroupref12_Split (w : UInt64) : Option (volumegroupref12_Descriptor) :=
  some ((⟨(IntKind.i64.wrap (((w &&& (1048575 : UInt64))).toNat : Int)), (IntKind.i64.wrap ((((shr_u64 w 20) &&& (65535 : UInt64))).toNat : Int)), (IntKind.i64.wrap ((((shr_u64 w 36) &&& (4095 : UInt64))).toNat : Int)), (to_u16 (((shr_u64 w 48).toNat : Int)))⟩ : volumegroupref12_Descriptor))
theorem L_volumegroupref12_Split {W : World} {w : UInt64} {r : volumegroupref12_Descriptor} (h : volumegroupref12_Split w = some r) :
    CSpec Try.prog W 40 [.int .u64 (w.toNat : Int)] [] (fun x : Unit => .agg #[.int .i64 r.Seq, .int .i64 r.Start, .int .i64 r.Length, .int .u16 (r.Sum.toNat : Int)]) (fun _ => True) (fun x F => F) := by
 refine CSpec.of_body Try.func40 rfl Try.ntmps40 rfl fun F => ?_
 show CJ _ _ _ _ _ _ (F)
 unfold volumegroupref12_Split at h
 refine sR <| oO <| O_alloc Try.zeroValue73 rfl rfl fun b1 => nT <| sR <| oM rfl rfl <| oP (P_and_u64 (a := w) (b := (1048575 : UInt64)) rfl rfl) rfl <| oP (P_conv rfl Try.runUnderlying39 Try.runUnderlying3) rfl <| oM rfl rfl <| oP (P_shr_u64 (a := w) (m := 20) rfl rfl rfl) rfl <| oP (P_and_u64 (a := (shr_u64 w 20)) (b := (65535 : UInt64)) rfl rfl) rfl <| oP (P_conv rfl Try.runUnderlying39 Try.runUnderlying3) rfl <| oM rfl rfl <| oP (P_shr_u64 (a := w) (m := 36) rfl rfl rfl) rfl <| oP (P_and_u64 (a := (shr_u64 w 36)) (b := (4095 : UInt64)) rfl rfl) rfl <| oP (P_conv rfl Try.runUnderlying39 Try.runUnderlying3) rfl <| oM rfl rfl <| oP (P_shr_u64 (a := w) (m := 48) rfl rfl rfl) rfl <| oP (P_conv_u16 (a := ((shr_u64 w 48).toNat : Int)) rfl Try.runUnderlying39 Try.runUnderlying71) rfl <| oP (P_build rfl (bld_73_0_1_2_3 _ _ _ _)) rfl <| oO <| O_storeN rfl rfl foc0 Try.sizeOf73 rfl rfl rfl <| nT <| CJ_ret ?_
 cases h
 exact fE (resA1 Try.results40 (RV_cellN rfl foc0 Try.isAgg73 Try.sizeOf73 rfl rfl)) () (eD eR)
def volumegroupref12_Ring (size : Int) : Option (Int) :=
  grd (inI64 ((size - (2 : Int)))) <|
  some ((min ((size - (2 : Int))) (65535 : Int)))
theorem L_volumegroupref12_Ring {W : World} {size : Int} {r : Int} (h : volumegroupref12_Ring size = some r) :
    CSpec Try.prog W 67 [.int .i64 size] [] (fun x : Unit => .int .i64 r) (fun _ => True) (fun x F => F) := by
 refine CSpec.of_body Try.func67 rfl Try.ntmps67 rfl fun F => ?_
 show CJ _ _ _ _ _ _ (F)
 unfold volumegroupref12_Ring at h
 refine sR <| oA rfl rfl <| nT <| sR <| oM rfl rfl ?_
 obtain ⟨hg1, h⟩ := grd_Ie h
 refine oP (P_sub (a := size) (b := (2 : Int)) rfl rfl hg1) rfl <| oP (P_min (a := (size - (2 : Int))) (b := (65535 : Int)) rfl rfl) rfl <| oA rfl rfl <| nT <| CJ_ret ?_
 cases h
 exact fE (res1 Try.results67 rfl) () eR
def volumegroupref12_Words_l1_b (area : List UInt64) (start : Int) (length : Int) (r2 : Int) (rec : (List UInt64) → Nat → Option ((List UInt64))) (x11 : List UInt64) (x13 : Nat) : Option ((List UInt64)) :=
  if (((x13 : Nat) : Int) < length) then
    grd (inI64 ((start + ((x13 : Nat) : Int)))) <|
    grd (decide (¬ r2 = 0)) <|
    grd (inI64 (((2 : Int) + (((start + ((x13 : Nat) : Int))).tmod r2)))) <|
    grd (decide (0 ≤ ((2 : Int) + (((start + ((x13 : Nat) : Int))).tmod r2)) ∧ ((2 : Int) + (((start + ((x13 : Nat) : Int))).tmod r2)) < (area.length : Int))) <|
    grd (inLen (x11.length + 1)) <|
    grd (inN64 (x13 + 1)) <|
    rec ((x11 ++ [(area.getD ((((2 : Int) + (((start + ((x13 : Nat) : Int))).tmod r2))).toNat) 0)])) (x13 + 1)
  else
    some x11
def volumegroupref12_Words_l1 (area : List UInt64) (start : Int) (length : Int) (r2 : Int) : Nat → (List UInt64) → Nat → Option ((List UInt64))
  | 0, _, _ => none
  | n + 1, x11, x13 => volumegroupref12_Words_l1_b area start length r2 (volumegroupref12_Words_l1 area start length r2 n) x11 x13
def volumegroupref12_Words (area : List UInt64) (start : Int) (length : Int) : Option ((List UInt64)) :=
  Option.bind (volumegroupref12_Ring (((area.length : Nat) : Int))) fun r2 =>
  Option.bind (volumegroupref12_Words_l1 area start length r2 FUEL ([]) 0) fun a10 =>
  some a10
theorem L_volumegroupref12_Words {W : World} {Aarea : HP} {varea : Value} {area : List UInt64} {start : Int} {length : Int} {r : (List UInt64)} (rarea : Reads Aarea tyU varea area) (h : volumegroupref12_Words area start length = some r) :
    CSpec Try.prog W 89 [varea, .int .i64 start, .int .i64 length] [Aarea] (fun x : Sl3 => x.v) (fun _ => True) (fun x F => Aarea :: sl tyU x.v r :: F) := by
 refine CSpec.of_body Try.func89 rfl Try.ntmps89 rfl fun F => ?_
 show CJ _ _ _ _ _ _ (_ :: F)
 unfold volumegroupref12_Words at h
 refine CJ_pure (len_of rarea del0) fun hlen1 => sR <| oA rfl rfl <| nT <| sR <| oM rfl rfl <| oV (V_len rfl foc0 rarea Try.runUnderlying29) rfl ?_
 obtain ⟨r2, hr3, h⟩ := bind_e h
 refine oO <| O_call (L_volumegroupref12_Ring hr3) rfl Try.call67 Dels.nil rfl fun _ _ => oA rfl rfl <| nT <| sR <| oA rfl rfl <| nT <| CJ_seq <| sR <| oA rfl rfl <| nT <| CJ_ent (fun h hh => sl_nil (t := tyU) h hh) ?_
 obtain ⟨y7, hl5, hK6⟩ := bind_c h
 refine CJ_cutT (X := (List UInt64) × Sl3) [8, 9, 13, 14, 15, 16, 17, 18, 19, 20, 21, 22, 23, 24, 25, 26, 27, 28, 29] (fun ⟨a10, hd9⟩ => ([(8, hd9.v)] : Slots)) (fun ⟨a10, hd9⟩ R => sl tyU hd9.v a10 :: R) (fun ⟨a10, hd9⟩ => y7 = a10) (Dels.cons del0 Dels.nil) ?_ ?_
 ·
  refine CJ_block <| CJ_loopR (X := Nat × (List UInt64) × Nat × Sl3) [8, 9, 13, 14, 15, 16, 17, 18, 19, 20, 21, 22, 23, 24, 25, 26, 27, 28, 29] (fun ⟨n, x11, x13, hd12⟩ => ([(8, hd12.v), (9, .int .i64 (((x13 : Nat) : Int)))] : Slots)) (fun ⟨n, x11, x13, hd12⟩ R => sl tyU hd12.v x11 :: R) (fun ⟨n, x11, x13, hd12⟩ => volumegroupref12_Words_l1 area start length r2 n x11 x13 = some y7) (fun ⟨n, x11, x13, hd12⟩ => n) ⟨FUEL, [], 0, ⟨none, 0, 0⟩⟩ ?_ ?_ eR ?_
  · exact hl5
  · exact ⟨rfl, rfl, True.intro⟩
  ·
   rintro ⟨n, x11, x13, hd12⟩ h
   cases n with
   | zero => exact none_e h
   | succ n => ?_
   replace h : volumegroupref12_Words_l1_b area start length r2 (volumegroupref12_Words_l1 area start length r2 n) x11 x13 = some y7 := h
   unfold volumegroupref12_Words_l1_b at h
   show CJ _ _ _ _ _ (([(8, hd12.v), (9, .int .i64 (((x13 : Nat) : Int)))] : Slots) ++ forget _ _) (sl tyU hd12.v x11 :: _)
   refine lC del0 fun hlen14 => CJ_seq <| sR <| oM rfl rfl <| oM rfl rfl <| oP (P_lss (a := ((x13 : Nat) : Int)) (b := length) rfl rfl) rfl <| nT <| CJ_condP rfl bT_dec (fun hg1 => ?_) (fun hg1 => ?_)
   ·
    replace h := ite_t hg1 h
    refine kT <| CJ_seq <| CJ_block <| CJ_region <| oM rfl rfl <| oM rfl rfl <| oM rfl rfl <| oM rfl rfl ?_
    obtain ⟨hg2, h⟩ := grd_Ie h
    refine oP (P_add (a := start) (b := ((x13 : Nat) : Int)) rfl rfl hg2) rfl <| oM rfl rfl ?_
    obtain ⟨hg3, h⟩ := grd_de h
    refine oP (P_remT (a := (start + ((x13 : Nat) : Int))) (b := r2) rfl rfl hg3) rfl ?_
    obtain ⟨hg4, h⟩ := grd_Ie h
    refine oP (P_add (a := (2 : Int)) (b := (((start + ((x13 : Nat) : Int))).tmod r2)) rfl rfl hg4) rfl ?_
    obtain ⟨hg5, h⟩ := grd_de h
    refine oV (V_index (i := (((2 : Int) + (((start + ((x13 : Nat) : Int))).tmod r2))).toNat) rfl rfl (Int.toNat_of_nonneg (hg5.1)).symm (by omega) foc1 rarea Try.runUnderlying29 Try.sizeOf39) rfl <| oV (V_loadE rfl rfl (by omega) foc1 rarea rfl rfl Try.isAgg39) rfl <| oO <| O_buildSlice rfl (bs_29_1_0 _) rfl fun b15 => ?_
    obtain ⟨hg6, h⟩ := grd_Le h
    refine oO <| O_append (t := tyU) (bytes := 8) rfl rfl del1 foc0 (Reads.lit (t := tyU) (ys := [(area.getD ((((2 : Int) + (((start + ((x13 : Nat) : Int))).tmod r2))).toNat) 0)]) rfl rfl (by decide) (by decide) rfl) Try.underlying29 ok_tyU (apl (m := 1) (b := 8) hg6 (by decide)).1 (apl (m := 1) (b := 8) hg6 (by decide)).2 rfl fun p17 c18 => oA rfl rfl <| RJ_nil <| QJ_block_normal <| QJ_then <| CJ_region <| oM rfl rfl ?_
    obtain ⟨hg7, h⟩ := grd_Ne h
    exact oP (PJ_eq (P_add (a := ((x13 : Nat) : Int)) (b := (1 : Int)) rfl rfl (nat_in hg7)) rfl) rfl <| oA rfl rfl <| RJ_nil <| nR ⟨n, (x11 ++ [(area.getD ((((2 : Int) + (((start + ((x13 : Nat) : Int))).tmod r2))).toNat) 0)]), (x13 + 1), ⟨p17, (x11 ++ [(area.getD ((((2 : Int) + (((start + ((x13 : Nat) : Int))).tmod r2))).toNat) 0)]).length, c18⟩⟩ h ⟨rfl, rfl, True.intro⟩ (t0_ (t1_ (eD eR)))
   ·
    replace h := ite_f hg1 h
    exact CJ_exit <| QJ_then_exit <| QJ_round_exit <| QJ_block_here <| cR ⟨x11, hd12⟩ (Option.some.inj h).symm ⟨rfl, True.intro⟩ eR
 ·
  rintro ⟨a10, hd9⟩ hy19
  replace h := bindK_at hK6 hy19
  show CJ _ _ _ _ _ (([(8, hd9.v)] : Slots) ++ forget _ _) (sl tyU hd9.v a10 :: _)
  refine lC del0 fun hlen20 => sR <| oM rfl rfl <| oA rfl rfl <| nT <| CJ_ret ?_
  cases h
  exact fE (res1 Try.results89 rfl) hd9 (t1_ eR)
def volumegroupref12_Sum (d : volumegroupref12_Descriptor) (words : List UInt64) : Option (UInt16) :=
  grd (inLen (([(to_u64 d.Seq), (to_u64 d.Start), (to_u64 d.Length)]).length + words.length)) <|
  Option.bind (volumegroupref01_Words (([(to_u64 d.Seq), (to_u64 d.Start), (to_u64 d.Length)] ++ words))) fun r7 =>
  Option.bind (volumegroupref01_Short r7) fun r9 =>
  some r9
theorem L_volumegroupref12_Sum {W : World} {Awords : HP} {vwords : Value} {d : volumegroupref12_Descriptor} {words : List UInt64} {r : UInt16} (rwords : Reads Awords tyU vwords words) (h : volumegroupref12_Sum d words = some r) :
    CSpec Try.prog W 68 [.agg #[.int .i64 d.Seq, .int .i64 d.Start, .int .i64 d.Length, .int .u16 (d.Sum.toNat : Int)], vwords] [Awords] (fun x : Unit => .int .u16 (r.toNat : Int)) (fun _ => True) (fun x F => Awords :: F) := by
 refine CSpec.of_body Try.func68 rfl Try.ntmps68 rfl fun F => ?_
 show CJ _ _ _ _ _ _ (_ :: F)
 unfold volumegroupref12_Sum at h
 refine CJ_pure (len_of rwords del0) fun hlen1 => sR <| oO <| O_box rfl rfl rfl fun b2 => oA rfl rfl <| nT <| sR <| oP (P_fieldAddr rfl ⟨_, _, _, Try.runUnderlying73, rfl, rfl, Try.sizeOf3, rfl⟩) rfl <| oV (V_load rfl foc0 rfl Try.isAgg3) rfl <| oP (P_conv_u64 (a := d.Seq) rfl Try.runUnderlying3 Try.runUnderlying39) rfl <| oP (P_fieldAddr rfl ⟨_, _, _, Try.runUnderlying73, rfl, rfl, Try.sizeOf3, rfl⟩) rfl <| oV (V_load rfl foc0 rfl Try.isAgg3) rfl <| oP (P_conv_u64 (a := d.Start) rfl Try.runUnderlying3 Try.runUnderlying39) rfl <| oP (P_fieldAddr rfl ⟨_, _, _, Try.runUnderlying73, rfl, rfl, Try.sizeOf3, rfl⟩) rfl <| oV (V_load rfl foc0 rfl Try.isAgg3) rfl <| oP (P_conv_u64 (a := d.Length) rfl Try.runUnderlying3 Try.runUnderlying39) rfl <| oO <| O_buildSlice rfl (bs_29_3_0_1_2 _ _ _) rfl fun b3 => RJ_ent (Ent.trans (t0_ eR) (sl_of_lit (t := tyU) (m := 3) [(to_u64 d.Seq), (to_u64 d.Start), (to_u64 d.Length)] rfl rfl rfl (by decide))) <| oM rfl rfl ?_
 obtain ⟨hg1, h⟩ := grd_Le h
 refine oO <| O_append (t := tyU) (bytes := 8) rfl rfl del0 foc1 rwords Try.underlying29 ok_tyU (apl (m := words.length) (b := 8) hg1 (by decide)).1 (apl (m := words.length) (b := 8) hg1 (by decide)).2 rfl fun p5 c6 => oA rfl rfl <| nT <| sR <| oM rfl rfl ?_
 obtain ⟨r7, hr8, h⟩ := bind_e h
 refine oO <| O_call (L_volumegroupref01_Words (Reads.sl _ _ _) hr8) rfl Try.call93 (Dels.cons del0 Dels.nil) rfl fun _ _ => ?_
 obtain ⟨r9, hr10, h⟩ := bind_e h
 refine oO <| O_call (L_volumegroupref01_Short hr10) rfl Try.call92 Dels.nil rfl fun _ _ => oA rfl rfl <| nT <| CJ_ret ?_
 cases h
 exact fE (res1 Try.results68 rfl) () (t2_ (eD (eD eR)))
def volumegroupref12_Whole (area : List UInt64) (w : UInt64) : Option (ByteArray × Bool) :=
  Option.bind (volumegroupref12_Split w) fun r2 =>
  Option.bind (volumegroupref12_Ring (((area.length : Nat) : Int))) fun r5 =>
  if ((((r2.Seq = (0 : Int)) ∨ (r2.Length = (0 : Int))) ∨ (r5 ≤ r2.Start)) ∨ (r5 < r2.Length)) then
    some (((ByteArray.mk #[]), false))
  else
    Option.bind (volumegroupref12_Words area r2.Start r2.Length) fun r29 =>
    Option.bind (volumegroupref02_FromText r29) fun r33 =>
    if (r33.2 = (0 : Int)) then
      Option.bind (volumegroupref12_Sum r2 r29) fun r35 =>
      some ((r33.1, (decide (r2.Sum = r35))))
    else
      some (r33.1, false)
theorem L_volumegroupref12_Whole {W : World} {Aarea : HP} {varea : Value} {area : List UInt64} {w : UInt64} {r : ByteArray × Bool} (rarea : Reads Aarea tyU varea area) (h : volumegroupref12_Whole area w = some r) :
    CSpec Try.prog W 64 [varea, .int .u64 (w.toNat : Int)] [Aarea] (fun x : Unit => .tuple #[.string r.1, .bool r.2]) (fun _ => True) (fun x F => Aarea :: F) := by
 refine CSpec.of_body Try.func64 rfl Try.ntmps64 rfl fun F => ?_
 show CJ _ _ _ _ _ _ (_ :: F)
 unfold volumegroupref12_Whole at h
 refine CJ_pure (len_of rarea del0) fun hlen1 => sR <| oA rfl rfl <| oA rfl rfl <| nT <| sR <| oM rfl rfl ?_
 obtain ⟨r2, hr3, h⟩ := bind_e h
 refine oO <| O_call (L_volumegroupref12_Split hr3) rfl Try.call40 Dels.nil rfl fun _ _ => oO <| O_alloc Try.zeroValue73 rfl rfl fun b4 => oO <| O_storeN rfl rfl foc0 Try.sizeOf73 rfl rfl rfl <| nT <| CJ_seq <| sR <| oM rfl rfl <| oV (V_len rfl foc1 rarea Try.runUnderlying29) rfl ?_
 obtain ⟨r5, hr6, h⟩ := bind_e h
 refine oO <| O_call (L_volumegroupref12_Ring hr6) rfl Try.call67 Dels.nil rfl fun _ _ => oA rfl rfl <| nT <| sR <| oP (P_fieldAddr rfl ⟨_, _, _, Try.runUnderlying73, rfl, rfl, Try.sizeOf3, rfl⟩) rfl <| oV (V_load rfl foc0 rfl Try.isAgg3) rfl <| oP (P_eql (a := r2.Seq) (b := (0 : Int)) rfl rfl) rfl <| oM rfl rfl <| RJ_mbF rfl rfl rfl (fun hG7 => have hP8 : ¬ (r2.Seq = (0 : Int)) := nP (bT_dec) hG7; VJ_P (P_fieldAddr rfl ⟨_, _, _, Try.runUnderlying73, rfl, rfl, Try.sizeOf3, rfl⟩)) <| RJ_mbF rfl rfl rfl (fun hG9 => have hP10 : ¬ (r2.Seq = (0 : Int)) := nP (bT_dec) hG9; V_load (mbx hG9 rfl) foc0 rfl Try.isAgg3) <| RJ_mbF rfl rfl rfl (fun hG11 => have hP12 : ¬ (r2.Seq = (0 : Int)) := nP (bT_dec) hG11; VJ_P (P_eql (a := r2.Length) (b := (0 : Int)) (mbx hG11 rfl) rfl)) <| oP (P_pickOr rfl rfl (fun hh => mbx (not_f hh) rfl)) rfl <| oM rfl rfl <| RJ_mbF rfl rfl rfl (fun hG13 => have hP14 : ¬ ((r2.Seq = (0 : Int)) ∨ (r2.Length = (0 : Int))) := nP ((bT_or bT_dec bT_dec)) hG13; VJ_P (P_fieldAddr rfl ⟨_, _, _, Try.runUnderlying73, rfl, rfl, Try.sizeOf3, rfl⟩)) <| RJ_mbF rfl rfl rfl (fun hG15 => have hP16 : ¬ ((r2.Seq = (0 : Int)) ∨ (r2.Length = (0 : Int))) := nP ((bT_or bT_dec bT_dec)) hG15; V_load (mbx hG15 rfl) foc0 rfl Try.isAgg3) <| RJ_mbF rfl rfl rfl (fun hG17 => have hP18 : ¬ ((r2.Seq = (0 : Int)) ∨ (r2.Length = (0 : Int))) := nP ((bT_or bT_dec bT_dec)) hG17; VJ_P (P_move rfl)) ?_
 refine RJ_mbF rfl rfl rfl (fun hG19 => have hP20 : ¬ ((r2.Seq = (0 : Int)) ∨ (r2.Length = (0 : Int))) := nP ((bT_or bT_dec bT_dec)) hG19; VJ_P (P_geq (a := r2.Start) (b := r5) (mbx hG19 rfl) (mbx hG19 rfl))) <| oP (P_pickOr rfl rfl (fun hh => mbx (not_f hh) rfl)) rfl <| oM rfl rfl <| RJ_mbF rfl rfl rfl (fun hG21 => have hP22 : ¬ (((r2.Seq = (0 : Int)) ∨ (r2.Length = (0 : Int))) ∨ (r5 ≤ r2.Start)) := nP ((bT_or (bT_or bT_dec bT_dec) bT_dec)) hG21; VJ_P (P_fieldAddr rfl ⟨_, _, _, Try.runUnderlying73, rfl, rfl, Try.sizeOf3, rfl⟩)) <| RJ_mbF rfl rfl rfl (fun hG23 => have hP24 : ¬ (((r2.Seq = (0 : Int)) ∨ (r2.Length = (0 : Int))) ∨ (r5 ≤ r2.Start)) := nP ((bT_or (bT_or bT_dec bT_dec) bT_dec)) hG23; V_load (mbx hG23 rfl) foc0 rfl Try.isAgg3) <| RJ_mbF rfl rfl rfl (fun hG25 => have hP26 : ¬ (((r2.Seq = (0 : Int)) ∨ (r2.Length = (0 : Int))) ∨ (r5 ≤ r2.Start)) := nP ((bT_or (bT_or bT_dec bT_dec) bT_dec)) hG25; VJ_P (P_move rfl)) <| RJ_mbF rfl rfl rfl (fun hG27 => have hP28 : ¬ (((r2.Seq = (0 : Int)) ∨ (r2.Length = (0 : Int))) ∨ (r5 ≤ r2.Start)) := nP ((bT_or (bT_or bT_dec bT_dec) bT_dec)) hG27; VJ_P (P_gtr (a := r2.Length) (b := r5) (mbx hG27 rfl) (mbx hG27 rfl))) <| oP (P_pickOr rfl rfl (fun hh => mbx (not_f hh) rfl)) rfl <| nT <| CJ_condP rfl (bT_or (bT_or (bT_or bT_dec bT_dec) bT_dec) bT_dec) (fun hg1 => ?_) (fun hg1 => ?_)
 ·
  replace h := ite_t hg1 h
  refine sR <| oA rfl rfl <| oA rfl rfl <| nT <| CJ_ret <| QJ_then_ret ?_
  cases h
  exact fE (res2 Try.results64 rfl rfl) () (t1_ (eD eR))
 ·
  replace h := ite_f hg1 h
  refine kT <| sR <| oM rfl rfl <| oP (P_fieldAddr rfl ⟨_, _, _, Try.runUnderlying73, rfl, rfl, Try.sizeOf3, rfl⟩) rfl <| oV (V_load rfl foc0 rfl Try.isAgg3) rfl <| oP (P_fieldAddr rfl ⟨_, _, _, Try.runUnderlying73, rfl, rfl, Try.sizeOf3, rfl⟩) rfl <| oV (V_load rfl foc0 rfl Try.isAgg3) rfl ?_
  obtain ⟨r29, hr30, h⟩ := bind_e h
  refine oO <| O_call (L_volumegroupref12_Words rarea hr30) rfl Try.call89 (Dels.cons del1 Dels.nil) rfl fun X31 _ => oA rfl rfl <| nT <| sR <| oM rfl rfl ?_
  obtain ⟨r33, hr34, h⟩ := bind_e h
  refine oO <| O_call (L_volumegroupref02_FromText (Reads.sl _ _ _) hr34) rfl Try.call90 (Dels.cons del1 Dels.nil) rfl fun _ _ => oM rfl rfl <| oP (P_extract rfl rfl) rfl <| oP (P_extract rfl rfl) rfl <| oA rfl rfl <| oA rfl rfl <| nT <| CJ_seq <| AJ_startH 0 (by kernel_rfl) rfl <| aN 0 1 rfl rfl (P_move rfl) rfl <| aN 1 3 rfl rfl (P_move rfl) rfl <| aN 2 7 rfl rfl (P_eql (a := r33.2) (b := (0 : Int)) rfl rfl) rfl <| aN 3 15 rfl rfl (P_move rfl) rfl <| AJ_splitP 50 rfl bT_dec (fun hg2B hg2 => ?_) (fun hg2B hg2 => ?_)
  ·
   replace h := ite_t hg2 h
   refine aP 4 31 rfl rfl (GY_yes rfl rfl rfl hg2B) (P_fieldAddr rfl ⟨_, _, _, Try.runUnderlying73, rfl, rfl, Try.sizeOf71, rfl⟩) rfl <| aV 5 63 rfl rfl (GY_yes rfl rfl rfl hg2B) eR (V_load rfl foc2 rfl Try.isAgg71) rfl <| aV 6 127 rfl rfl (GY_yes rfl rfl rfl hg2B) eR (V_loadN rfl foc2 Try.isAgg73 Try.sizeOf73 rfl rfl) rfl <| aP 7 255 rfl rfl (GY_yes rfl rfl rfl hg2B) (P_move rfl) rfl ?_
   obtain ⟨r35, hr36, h⟩ := bind_e h
   refine AJ_op 8 511 rfl (by kernel_rfl) rfl (GY_yes rfl rfl rfl hg2B) <| O_call (L_volumegroupref12_Sum (Reads.sl _ _ _) hr36) rfl Try.call68 (Dels.cons del0 Dels.nil) rfl fun _ _ => ⟨fun _ => eR, ?_⟩
   refine aP 9 1023 rfl rfl (GY_yes rfl rfl rfl hg2B) (P_eq_u16 (a := r2.Sum) (b := r35) rfl rfl) rfl <| aN 10 2047 rfl rfl (P_pickT rfl hg2B rfl) rfl <| aN 11 4095 rfl rfl (P_assign rfl) rfl <| aN 12 8191 rfl rfl (P_assign rfl) rfl <| aD <| CJ_ret ?_
   cases h
   exact fE (res2 Try.results64 rfl rfl) () (t1_ (eD (eD eR)))
  ·
   replace h := ite_f hg2 h
   refine aS 4 31 rfl rfl (GY_no rfl rfl rfl hg2B) rfl <| aS 5 63 rfl rfl (GY_no rfl rfl rfl hg2B) rfl <| aS 6 127 rfl rfl (GY_no rfl rfl rfl hg2B) rfl <| aS 7 255 rfl rfl (GY_no rfl rfl rfl hg2B) rfl <| aS 8 511 rfl rfl (GY_no rfl rfl rfl hg2B) rfl <| aS 9 1023 rfl rfl (GY_no rfl rfl rfl hg2B) rfl <| aN 10 2047 rfl rfl (P_pickF rfl hg2B rfl) rfl <| aN 11 4095 rfl rfl (P_assign rfl) rfl <| aN 12 8191 rfl rfl (P_assign rfl) rfl <| aD <| CJ_ret ?_
   cases h
   exact fE (res2 Try.results64 rfl rfl) () (t1_ (eD (eD eR)))
def volumegroupref12_Read (area : List UInt64) : Option (api_Copy × Int) :=
  if (((area.length : Nat) : Int) < (4 : Int)) then
    some (((⟨false, (0 : Int), ByteArray.empty⟩ : api_Copy), (3 : Int)))
  else
    if ((area.getD 0 0) = (0 : UInt64)) then
      some (((⟨false, (0 : Int), ByteArray.empty⟩ : api_Copy), (12 : Int)))
    else
      Option.bind (volumegroupref12_Whole area (area.getD 0 0)) fun r3 =>
      if (¬ r3.2 = true) then
        Option.bind (volumegroupref12_Split (area.getD 0 0)) fun r5 =>
        some (((⟨false, r5.Seq, ByteArray.empty⟩ : api_Copy), (11 : Int)))
      else
        Option.bind (volumegroupref12_Split (area.getD 0 0)) fun r7 =>
        some (((⟨true, r7.Seq, r3.1⟩ : api_Copy), (0 : Int)))
theorem L_volumegroupref12_Read {W : World} {Aarea : HP} {varea : Value} {area : List UInt64} {r : api_Copy × Int} (rarea : Reads Aarea tyU varea area) (h : volumegroupref12_Read area = some r) :
    CSpec Try.prog W 38 [varea] [Aarea] (fun x : Unit => .tuple #[.agg #[.bool r.1.Valid, .int .i64 r.1.Seq, .string r.1.Text], .int .i64 r.2]) (fun _ => True) (fun x F => Aarea :: F) := by
 refine CSpec.of_body Try.func38 rfl Try.ntmps38 rfl fun F => ?_
 show CJ _ _ _ _ _ _ (_ :: F)
 unfold volumegroupref12_Read at h
 refine CJ_pure (len_of rarea del0) fun hlen1 => sR <| oO <| O_alloc Try.zeroValue34 rfl rfl fun b2 => oA rfl rfl <| nT <| CJ_seq <| sR <| oM rfl rfl <| oV (V_len rfl foc1 rarea Try.runUnderlying29) rfl <| oP (P_lss (a := ((area.length : Nat) : Int)) (b := (4 : Int)) rfl rfl) rfl <| nT <| CJ_condP rfl bT_dec (fun hg1 => ?_) (fun hg1 => ?_)
 ·
  replace h := ite_t hg1 h
  refine sR <| oP (P_build rfl (bld_34)) rfl <| oO <| O_storeN rfl rfl foc0 Try.sizeOf34 rfl rfl rfl <| oA rfl rfl <| nT <| CJ_ret <| QJ_then_ret ?_
  cases h
  exact fE (resA2 Try.results38 (RV_cellN rfl foc0 Try.isAgg34 Try.sizeOf34 rfl rfl) (RV_tmp rfl)) () (t1_ (eD eR))
 ·
  replace h := ite_f hg1 h
  refine kT <| CJ_seq <| sR <| oM rfl rfl <| oV (V_index (i := 0) rfl rfl rfl (by omega) foc1 rarea Try.runUnderlying29 Try.sizeOf39) rfl <| oV (V_loadE rfl rfl (by omega) foc1 rarea rfl rfl Try.isAgg39) rfl <| oP (P_eq_u64 (a := (area.getD 0 0)) (b := (0 : UInt64)) rfl rfl) rfl <| nT <| CJ_condP rfl bT_dec (fun hg2 => ?_) (fun hg2 => ?_)
  ·
   replace h := ite_t hg2 h
   refine sR <| oP (P_build rfl (bld_34)) rfl <| oO <| O_storeN rfl rfl foc0 Try.sizeOf34 rfl rfl rfl <| oA rfl rfl <| nT <| CJ_ret <| QJ_then_ret ?_
   cases h
   exact fE (resA2 Try.results38 (RV_cellN rfl foc0 Try.isAgg34 Try.sizeOf34 rfl rfl) (RV_tmp rfl)) () (t1_ (eD eR))
  ·
   replace h := ite_f hg2 h
   refine kT <| sR <| oM rfl rfl <| oM rfl rfl <| oV (V_index (i := 0) rfl rfl rfl (by omega) foc1 rarea Try.runUnderlying29 Try.sizeOf39) rfl <| oV (V_loadE rfl rfl (by omega) foc1 rarea rfl rfl Try.isAgg39) rfl ?_
   obtain ⟨r3, hr4, h⟩ := bind_e h
   refine oO <| O_call (L_volumegroupref12_Whole rarea hr4) rfl Try.call64 (Dels.cons del1 Dels.nil) rfl fun _ _ => oM rfl rfl <| oP (P_extract rfl rfl) rfl <| oP (P_extract rfl rfl) rfl <| oA rfl rfl <| oA rfl rfl <| nT <| CJ_seq <| sR <| oM rfl rfl <| oP (P_not rfl) rfl <| nT <| CJ_condP rfl (bT_not Iff.rfl) (fun hg3 => ?_) (fun hg3 => ?_)
   ·
    replace h := ite_t hg3 h
    refine sR <| oM rfl rfl <| oV (V_index (i := 0) rfl rfl rfl (by omega) foc0 rarea Try.runUnderlying29 Try.sizeOf39) rfl <| oV (V_loadE rfl rfl (by omega) foc0 rarea rfl rfl Try.isAgg39) rfl ?_
    obtain ⟨r5, hr6, h⟩ := bind_e h
    refine oO <| O_call (L_volumegroupref12_Split hr6) rfl Try.call40 Dels.nil rfl fun _ _ => oP (P_field rfl (fld_73_0 _ _ _ _)) rfl <| oP (P_build rfl (bld_34_1 _)) rfl <| oO <| O_storeN rfl rfl foc1 Try.sizeOf34 rfl rfl rfl <| oA rfl rfl <| nT <| CJ_ret <| QJ_then_ret ?_
    cases h
    exact fE (resA2 Try.results38 (RV_cellN rfl foc1 Try.isAgg34 Try.sizeOf34 rfl rfl) (RV_tmp rfl)) () (t0_ (eD eR))
   ·
    replace h := ite_f hg3 h
    refine kT <| sR <| oM rfl rfl <| oV (V_index (i := 0) rfl rfl rfl (by omega) foc0 rarea Try.runUnderlying29 Try.sizeOf39) rfl <| oV (V_loadE rfl rfl (by omega) foc0 rarea rfl rfl Try.isAgg39) rfl ?_
    obtain ⟨r7, hr8, h⟩ := bind_e h
    refine oO <| O_call (L_volumegroupref12_Split hr8) rfl Try.call40 Dels.nil rfl fun _ _ => oP (P_field rfl (fld_73_0 _ _ _ _)) rfl <| oM rfl rfl <| oP (P_build rfl (bld_34_0_1_2 _ _ _)) rfl <| oO <| O_storeN rfl rfl foc1 Try.sizeOf34 rfl rfl rfl <| oA rfl rfl <| nT <| CJ_ret ?_
    cases h
    exact fE (resA2 Try.results38 (RV_cellN rfl foc1 Try.isAgg34 Try.sizeOf34 rfl rfl) (RV_tmp rfl)) () (t0_ (eD eR))
def volumegroupref12_Prepared_l2_b (r8 : (List UInt64) × Int) (a21 : Int × Int × Int × UInt16) (r28 : Int) (rec : (List UInt64) → Nat → Option ((List UInt64))) (x41 : List UInt64) (x42 : Nat) : Option ((List UInt64)) :=
  if (((x42 : Nat) : Int) < ((r8.1.length : Nat) : Int)) then
    grd (inI64 ((((a21.2.1 + a21.2.2.1).tmod r28) + ((x42 : Nat) : Int)))) <|
    grd (decide (¬ r28 = 0)) <|
    grd (inI64 (((2 : Int) + (((((a21.2.1 + a21.2.2.1).tmod r28) + ((x42 : Nat) : Int))).tmod r28)))) <|
    lt (((2 : Int) + (((((a21.2.1 + a21.2.2.1).tmod r28) + ((x42 : Nat) : Int))).tmod r28))) fun w44 =>
    grd (decide (0 ≤ w44 ∧ w44 < (x41.length : Int))) <|
    grd (inN64 (x42 + 1)) <|
    rec ((x41.set ((w44).toNat) (r8.1.getD x42 0))) (x42 + 1)
  else
    some x41
def volumegroupref12_Prepared_l2 (r8 : (List UInt64) × Int) (a21 : Int × Int × Int × UInt16) (r28 : Int) : Nat → (List UInt64) → Nat → Option ((List UInt64))
  | 0, _, _ => none
  | n + 1, x41, x42 => volumegroupref12_Prepared_l2_b r8 a21 r28 (volumegroupref12_Prepared_l2 r8 a21 r28 n) x41 x42
def volumegroupref12_Prepared (area : List UInt64) (seq : Int) (text : ByteArray) : Option ((List UInt64) × Int) :=
  if (((area.length : Nat) : Int) < (4 : Int)) then
    some (([], (3 : Int)))
  else
    if ((seq < (1 : Int)) ∨ ((1048575 : Int) < seq)) then
      some (([], (1 : Int)))
    else
      Option.bind (volumegroupref02_Text text) fun r8 =>
      if (r8.2 ≠ (0 : Int)) then
        some ([], r8.2)
      else
        seqO ((
          if ((area.getD 0 0) ≠ (0 : UInt64)) then
            Option.bind (volumegroupref12_Whole area (area.getD 0 0)) fun r22 =>
            if (¬ r22.2 = true) then
              some (.inr (([], (11 : Int))))
            else
              Option.bind (volumegroupref12_Split (area.getD 0 0)) fun r25 =>
              some (.inl (r25.Seq, r25.Start, r25.Length, r25.Sum))
          else
            some (.inl ((0 : Int), (0 : Int), (0 : Int), (0 : UInt16))) : Option ((Int × Int × Int × UInt16) ⊕ ((List UInt64) × Int)))) fun a21 =>
        Option.bind (volumegroupref12_Ring (((area.length : Nat) : Int))) fun r28 =>
        grd (inI64 ((((r8.1.length : Nat) : Int) + a21.2.2.1))) <|
        if (r28 < (((r8.1.length : Nat) : Int) + a21.2.2.1)) then
          some (([], (14 : Int)))
        else
          grd (inLen (0 + area.length)) <|
          grd (inI64 (a21.2.1 + a21.2.2.1)) <|
          grd (decide (¬ r28 = 0)) <|
          Option.bind (volumegroupref12_Prepared_l2 r8 a21 r28 FUEL ([] ++ area) 0) fun a40 =>
          lt ((((to_u64 seq) ||| (shl_u64 ((to_u64 (((a21.2.1 + a21.2.2.1).tmod r28)))) 20)) ||| (shl_u64 ((to_u64 (((r8.1.length : Nat) : Int)))) 36))) fun w47 =>
          Option.bind (volumegroupref12_Sum ((⟨seq, ((a21.2.1 + a21.2.2.1).tmod r28), ((r8.1.length : Nat) : Int), (0 : UInt16)⟩ : volumegroupref12_Descriptor)) r8.1) fun r48 =>
          grd (decide (1 < a40.length)) <|
          some (((a40.set 1 ((w47 ||| (shl_u64 ((to_u64 (r48.toNat : Int))) 48)))), (0 : Int)))
theorem L_volumegroupref12_Prepared {W : World} {Aarea : HP} {varea : Value} {area : List UInt64} {seq : Int} {text : ByteArray} {r : (List UInt64) × Int} (rarea : Reads Aarea tyU varea area) (h : volumegroupref12_Prepared area seq text = some r) :
    CSpec Try.prog W 35 [varea, .int .i64 seq, .string text] [Aarea] (fun x : Sl3 => .tuple #[x.v, .int .i64 r.2]) (fun _ => True) (fun x F => Aarea :: sl tyU x.v r.1 :: F) := by
 refine CSpec.of_body Try.func35 rfl Try.ntmps35 rfl fun F => ?_
 show CJ _ _ _ _ _ _ (_ :: F)
 unfold volumegroupref12_Prepared at h
 refine CJ_pure (len_of rarea del0) fun hlen1 => sR <| oA rfl rfl <| oA rfl rfl <| nT <| CJ_seq <| sR <| oM rfl rfl <| oV (V_len rfl foc0 rarea Try.runUnderlying29) rfl <| oP (P_lss (a := ((area.length : Nat) : Int)) (b := (4 : Int)) rfl rfl) rfl <| nT <| CJ_condP rfl bT_dec (fun hg1 => ?_) (fun hg1 => ?_)
 ·
  replace h := ite_t hg1 h
  refine sR <| oA rfl rfl <| oA rfl rfl <| nT <| CJ_ret <| QJ_then_ret <| QJ_ent (fun h hh => sl_nil (t := tyU) h hh) ?_
  cases h
  exact fE (res2 Try.results35 rfl rfl) ⟨none, 0, 0⟩ (t1_ eR)
 ·
  replace h := ite_f hg1 h
  refine kT <| CJ_seq <| sR <| oM rfl rfl <| oP (P_lss (a := seq) (b := (1 : Int)) rfl rfl) rfl <| oM rfl rfl <| RJ_mbF rfl rfl rfl (fun hG3 => have hP4 : ¬ (seq < (1 : Int)) := nP (bT_dec) hG3; VJ_P (P_move rfl)) <| RJ_mbF rfl rfl rfl (fun hG5 => have hP6 : ¬ (seq < (1 : Int)) := nP (bT_dec) hG5; VJ_P (P_gtr (a := seq) (b := (1048575 : Int)) (mbx hG5 rfl) rfl)) <| oP (P_pickOr rfl rfl (fun hh => mbx (not_f hh) rfl)) rfl <| nT <| CJ_condP rfl (bT_or bT_dec bT_dec) (fun hg2 => ?_) (fun hg2 => ?_)
  ·
   replace h := ite_t hg2 h
   refine sR <| oA rfl rfl <| oA rfl rfl <| nT <| CJ_ret <| QJ_then_ret <| QJ_ent (fun h hh => sl_nil (t := tyU) h hh) ?_
   cases h
   exact fE (res2 Try.results35 rfl rfl) ⟨none, 0, 0⟩ (t1_ eR)
  ·
   replace h := ite_f hg2 h
   refine kT <| sR <| oM rfl rfl ?_
   obtain ⟨r8, hr9, h⟩ := bind_e h
   refine oO <| O_call (L_volumegroupref02_Text hr9) rfl Try.call66 Dels.nil rfl fun X10 _ => oM rfl rfl <| oP (P_extract (v := X10.v) rfl rfl) rfl <| oP (P_extract rfl rfl) rfl <| oA rfl rfl <| oA rfl rfl <| nT <| CJ_seq <| sR <| oM rfl rfl <| oP (P_neq (a := r8.2) (b := (0 : Int)) rfl rfl) rfl <| nT <| CJ_condP rfl bT_dec (fun hg3 => ?_) (fun hg3 => ?_)
   ·
    replace h := ite_t hg3 h
    refine sR <| oM rfl rfl <| oA rfl rfl <| oA rfl rfl <| nT <| CJ_ret <| QJ_then_ret <| QJ_ent (fun h hh => sl_nil (t := tyU) h hh) ?_
    cases h
    exact fE (res2 Try.results35 rfl rfl) ⟨none, 0, 0⟩ (t2_ (t0_ (eD eR)))
   ·
    replace h := ite_f hg3 h
    refine kT <| sR <| oP (P_build rfl (bld_73)) rfl <| oO <| O_alloc Try.zeroValue73 rfl rfl fun b13 => oO <| O_storeN rfl rfl foc0 Try.sizeOf73 rfl rfl rfl <| nT <| CJ_seq <| sR <| oM rfl rfl <| oV (V_index (i := 0) rfl rfl rfl (by omega) foc2 rarea Try.runUnderlying29 Try.sizeOf39) rfl <| oV (V_loadE rfl rfl (by omega) foc2 rarea rfl rfl Try.isAgg39) rfl <| oP (P_ne_u64 (a := (area.getD 0 0)) (b := (0 : UInt64)) rfl rfl) rfl <| nT ?_
    obtain ⟨y16, hl14, hK15⟩ := seq_e h
    refine CJ_cutT (X := Int × Int × Int × UInt16) [6, 7, 11, 12, 39, 40, 41, 42, 43, 44, 45, 46, 47, 48, 49, 50, 51, 52] (fun a21 => ([] : Slots)) (fun a21 R => blk b13 73 [.int .i64 a21.1, .int .i64 a21.2.1, .int .i64 a21.2.2.1, .int .u16 (a21.2.2.2.toNat : Int)] :: R) (fun a21 => y16 = .inl a21) (Dels.cons del0 Dels.nil) ?_ ?_
    ·
     have h := hl14
     refine CJ_condP rfl bT_dec (fun hg4 => ?_) (fun hg4 => ?_)
     ·
      replace h := ite_t hg4 h
      refine CJ_seq <| sR <| oM rfl rfl <| oM rfl rfl <| oV (V_index (i := 0) rfl rfl rfl (by omega) foc2 rarea Try.runUnderlying29 Try.sizeOf39) rfl <| oV (V_loadE rfl rfl (by omega) foc2 rarea rfl rfl Try.isAgg39) rfl ?_
      obtain ⟨r22, hr23, h⟩ := bind_e h
      refine oO <| O_call (L_volumegroupref12_Whole rarea hr23) rfl Try.call64 (Dels.cons del2 Dels.nil) rfl fun _ _ => oM rfl rfl <| oP (P_extract rfl rfl) rfl <| oP (P_extract rfl rfl) rfl <| oA rfl rfl <| oA rfl rfl <| nT <| sR <| oM rfl rfl <| oP (P_not rfl) rfl <| nT <| CJ_condP rfl (bT_not Iff.rfl) (fun hg5 => ?_) (fun hg5 => ?_)
      ·
       replace h := ite_t hg5 h
       refine sR <| oA rfl rfl <| oA rfl rfl <| nT <| CJ_ret <| QJ_then_ret <| QJ_then_ret <| QJ_ent (fun h hh => sl_nil (t := tyU) h hh) ?_
       have hE := Option.some.inj h
       replace hE := seq_inr hK15 hE.symm
       subst hE
       exact fE (res2 Try.results35 rfl rfl) ⟨none, 0, 0⟩ (t1_ (t0_ (eD (eD eR))))
      ·
       replace h := ite_f hg5 h
       refine kT <| CJ_region <| oM rfl rfl <| oV (V_index (i := 0) rfl rfl rfl (by omega) foc0 rarea Try.runUnderlying29 Try.sizeOf39) rfl <| oV (V_loadE rfl rfl (by omega) foc0 rarea rfl rfl Try.isAgg39) rfl ?_
       obtain ⟨r25, hr26, h⟩ := bind_e h
       exact oO <| O_call (L_volumegroupref12_Split hr26) rfl Try.call40 Dels.nil rfl fun _ _ => oO <| O_storeN rfl rfl foc1 Try.sizeOf73 rfl rfl rfl <| RJ_nil <| cR (r25.Seq, r25.Start, r25.Length, r25.Sum) (Option.some.inj h).symm True.intro (t1_ (t1_ eR))
     ·
      replace h := ite_f hg4 h
      exact CJ_skip <| cR ((0 : Int), (0 : Int), (0 : Int), (0 : UInt16)) (Option.some.inj h).symm True.intro eR
    ·
     rintro a21 hy27
     replace h := seq_inl hK15 hy27
     show CJ _ _ _ _ _ (([] : Slots) ++ forget _ _) (blk b13 73 [.int .i64 a21.1, .int .i64 a21.2.1, .int .i64 a21.2.2.1, .int .u16 (a21.2.2.2.toNat : Int)] :: _)
     refine sR <| oM rfl rfl <| oV (V_len rfl foc2 rarea Try.runUnderlying29) rfl ?_
     obtain ⟨r28, hr29, h⟩ := bind_e h
     refine oO <| O_call (L_volumegroupref12_Ring hr29) rfl Try.call67 Dels.nil rfl fun _ _ => oA rfl rfl <| nT <| CJ_seq <| sR <| oM rfl rfl <| oV (V_len rfl foc1 (Reads.sl _ _ _) Try.runUnderlying29) rfl <| oP (P_fieldAddr rfl ⟨_, _, _, Try.runUnderlying73, rfl, rfl, Try.sizeOf3, rfl⟩) rfl <| oV (V_load rfl foc0 rfl Try.isAgg3) rfl ?_
     obtain ⟨hg6, h⟩ := grd_Ie h
     refine oP (P_add (a := ((r8.1.length : Nat) : Int)) (b := a21.2.2.1) rfl rfl hg6) rfl <| oM rfl rfl <| oP (P_gtr (a := (((r8.1.length : Nat) : Int) + a21.2.2.1)) (b := r28) rfl rfl) rfl <| nT <| CJ_condP rfl bT_dec (fun hg7 => ?_) (fun hg7 => ?_)
     ·
      replace h := ite_t hg7 h
      refine sR <| oA rfl rfl <| oA rfl rfl <| nT <| CJ_ret <| QJ_then_ret <| QJ_ent (fun h hh => sl_nil (t := tyU) h hh) ?_
      cases h
      exact fE (res2 Try.results35 rfl rfl) ⟨none, 0, 0⟩ (t3_ (t0_ (eD (eD eR))))
     ·
      replace h := ite_f hg7 h
      refine kT <| sR <| oM rfl rfl ?_
      obtain ⟨hg8, h⟩ := grd_Le h
      refine RJ_ent (fun h hh => sl_nil (t := tyU) h hh) <| oO <| O_append (t := tyU) (bytes := 8) rfl rfl del0 foc2 rarea Try.underlying29 ok_tyU (apl (m := area.length) (b := 8) hg8 (by decide)).1 (apl (m := area.length) (b := 8) hg8 (by decide)).2 rfl fun p33 c34 => oA rfl rfl <| nT <| sR <| oM rfl rfl <| oP (P_fieldAddr rfl ⟨_, _, _, Try.runUnderlying73, rfl, rfl, Try.sizeOf3, rfl⟩) rfl <| oV (V_load rfl foc1 rfl Try.isAgg3) rfl <| oP (P_fieldAddr rfl ⟨_, _, _, Try.runUnderlying73, rfl, rfl, Try.sizeOf3, rfl⟩) rfl <| oV (V_load rfl foc1 rfl Try.isAgg3) rfl ?_
      obtain ⟨hg9, h⟩ := grd_Ie h
      refine oP (P_add (a := a21.2.1) (b := a21.2.2.1) rfl rfl hg9) rfl <| oM rfl rfl ?_
      obtain ⟨hg10, h⟩ := grd_de h
      refine oP (P_remT (a := (a21.2.1 + a21.2.2.1)) (b := r28) rfl rfl hg10) rfl <| oM rfl rfl <| oV (V_len rfl foc2 (Reads.sl _ _ _) Try.runUnderlying29) rfl <| oP (P_build rfl (bld_73_0_1_2 _ _ _)) rfl <| oO <| O_alloc Try.zeroValue73 rfl rfl fun b35 => oO <| O_storeN rfl rfl foc0 Try.sizeOf73 rfl rfl rfl <| nT <| CJ_seq <| sR <| oA rfl rfl <| nT ?_
      obtain ⟨y38, hl36, hK37⟩ := bind_c h
      refine CJ_cutT (X := (List UInt64)) [16, 76, 77, 78, 79, 80, 81, 82, 83, 84, 85, 86, 87, 88, 89, 90, 91, 92, 93, 94] (fun a40 => ([] : Slots)) (fun a40 R => sl tyU (.slice p33 ([] ++ area).length c34) a40 :: R) (fun a40 => y38 = a40) (Dels.cons del1 Dels.nil) ?_ ?_
      ·
       refine CJ_block <| CJ_loopR (X := Nat × (List UInt64) × Nat) [16, 76, 77, 78, 79, 80, 81, 82, 83, 84, 85, 86, 87, 88, 89, 90, 91, 92, 93, 94] (fun ⟨n, x41, x42⟩ => ([(16, .int .i64 (((x42 : Nat) : Int)))] : Slots)) (fun ⟨n, x41, x42⟩ R => sl tyU (.slice p33 ([] ++ area).length c34) x41 :: R) (fun ⟨n, x41, x42⟩ => volumegroupref12_Prepared_l2 r8 a21 r28 n x41 x42 = some y38) (fun ⟨n, x41, x42⟩ => n) ⟨FUEL, ([] ++ area), 0⟩ ?_ ?_ (t1_ eR) ?_
       · exact hl36
       · exact ⟨rfl, True.intro⟩
       ·
        rintro ⟨n, x41, x42⟩ h
        cases n with
        | zero => exact none_e h
        | succ n => ?_
        replace h : volumegroupref12_Prepared_l2_b r8 a21 r28 (volumegroupref12_Prepared_l2 r8 a21 r28 n) x41 x42 = some y38 := h
        unfold volumegroupref12_Prepared_l2_b at h
        show CJ _ _ _ _ _ (([(16, .int .i64 (((x42 : Nat) : Int)))] : Slots) ++ forget _ _) (sl tyU (.slice p33 ([] ++ area).length c34) x41 :: _)
        refine lC del0 fun hlen43 => CJ_seq <| sR <| oM rfl rfl <| oM rfl rfl <| oV (V_len rfl foc3 (Reads.sl _ _ _) Try.runUnderlying29) rfl <| oP (P_lss (a := ((x42 : Nat) : Int)) (b := ((r8.1.length : Nat) : Int)) rfl rfl) rfl <| nT <| CJ_condP rfl bT_dec (fun hg11 => ?_) (fun hg11 => ?_)
        ·
         replace h := ite_t hg11 h
         refine kT <| CJ_seq <| CJ_block <| AJ_startH 8192 (by kernel_rfl) rfl <| aN 0 1 rfl rfl (P_move rfl) rfl <| aN 1 3 rfl rfl (P_fieldAddr rfl ⟨_, _, _, Try.runUnderlying73, rfl, rfl, Try.sizeOf3, rfl⟩) rfl <| aV 2 7 rfl rfl (GY_none rfl) eR (V_load rfl foc1 rfl Try.isAgg3) rfl <| aN 3 15 rfl rfl (P_move rfl) rfl ?_
         obtain ⟨hg12, h⟩ := grd_Ie h
         refine aN 4 31 rfl rfl (P_add (a := ((a21.2.1 + a21.2.2.1).tmod r28)) (b := ((x42 : Nat) : Int)) rfl rfl hg12) rfl <| aN 5 63 rfl rfl (P_move rfl) rfl ?_
         obtain ⟨hg13, h⟩ := grd_de h
         refine aN 6 127 rfl rfl (P_remT (a := (((a21.2.1 + a21.2.2.1).tmod r28) + ((x42 : Nat) : Int))) (b := r28) rfl rfl hg13) rfl ?_
         obtain ⟨hg14, h⟩ := grd_Ie h
         refine aN 7 255 rfl rfl (P_add (a := (2 : Int)) (b := (((((a21.2.1 + a21.2.2.1).tmod r28) + ((x42 : Nat) : Int))).tmod r28)) rfl rfl hg14) rfl ?_
         obtain ⟨w44, hw44, h⟩ := lt_e h
         rw [← hw44]
         refine aN 8 511 rfl rfl (P_move rfl) rfl <| aN 9 1023 rfl rfl (P_move rfl) rfl <| aV 10 2047 rfl rfl (GY_none rfl) eR (V_index (i := x42) rfl rfl rfl (by omega) foc3 (Reads.sl _ _ _) Try.runUnderlying29 Try.sizeOf39) rfl <| aV 11 4095 rfl rfl (GY_none rfl) eR (V_loadE rfl rfl (by omega) foc3 (Reads.sl _ _ _) rfl rfl Try.isAgg39) rfl ?_
         obtain ⟨hg15, h⟩ := grd_de h
         refine aV 12 8191 rfl rfl (GY_none rfl) eR (V_index (i := (w44).toNat) rfl rfl (Int.toNat_of_nonneg (hg15.1)).symm (by omega) foc0 (Reads.sl _ _ _) Try.runUnderlying29 Try.sizeOf39) rfl <| AJ_op 13 16383 rfl (by kernel_rfl) rfl (GY_none rfl) <| O_storeE (x' := (r8.1.getD x42 0)) rfl rfl rfl (by omega) foc0 rfl rfl rfl Try.sizeOf39 <| ⟨fun h => absurd h (by decide), ?_⟩
         refine AJ_done (by kernel_rfl) <| QJ_block_normal <| QJ_then <| CJ_region <| oM rfl rfl ?_
         obtain ⟨hg16, h⟩ := grd_Ne h
         exact oP (PJ_eq (P_add (a := ((x42 : Nat) : Int)) (b := (1 : Int)) rfl rfl (nat_in hg16)) rfl) rfl <| oA rfl rfl <| RJ_nil <| nR ⟨n, (x41.set ((w44).toNat) (r8.1.getD x42 0)), (x42 + 1)⟩ h ⟨rfl, True.intro⟩ eR
        ·
         replace h := ite_f hg11 h
         exact CJ_exit <| QJ_then_exit <| QJ_round_exit <| QJ_block_here <| cR x41 (Option.some.inj h).symm True.intro eR
      ·
       rintro a40 hy45
       replace h := bindK_at hK37 hy45
       show CJ _ _ _ _ _ (([] : Slots) ++ forget _ _) (sl tyU (.slice p33 ([] ++ area).length c34) a40 :: _)
       refine lC del0 fun hlen46 => CJ_seq <| AJ_startH 2097152 (by kernel_rfl) rfl <| aN 0 1 rfl rfl (P_move rfl) rfl <| aN 1 3 rfl rfl (P_fieldAddr rfl ⟨_, _, _, Try.runUnderlying73, rfl, rfl, Try.sizeOf3, rfl⟩) rfl <| aV 2 7 rfl rfl (GY_none rfl) eR (V_load rfl foc1 rfl Try.isAgg3) rfl <| aN 3 15 rfl rfl (P_conv_u64 (a := seq) rfl Try.runUnderlying3 Try.runUnderlying39) rfl <| aN 4 31 rfl rfl (P_fieldAddr rfl ⟨_, _, _, Try.runUnderlying73, rfl, rfl, Try.sizeOf3, rfl⟩) rfl <| aV 5 63 rfl rfl (GY_none rfl) eR (V_load rfl foc1 rfl Try.isAgg3) rfl <| aN 6 127 rfl rfl (P_conv_u64 (a := ((a21.2.1 + a21.2.2.1).tmod r28)) rfl Try.runUnderlying3 Try.runUnderlying39) rfl <| aN 7 255 rfl rfl (P_shl_u64 (a := (to_u64 (((a21.2.1 + a21.2.2.1).tmod r28)))) (m := 20) rfl rfl rfl) rfl <| aN 8 511 rfl rfl (P_or_u64 (a := (to_u64 seq)) (b := (shl_u64 ((to_u64 (((a21.2.1 + a21.2.2.1).tmod r28)))) 20)) rfl rfl) rfl <| aN 9 1023 rfl rfl (P_fieldAddr rfl ⟨_, _, _, Try.runUnderlying73, rfl, rfl, Try.sizeOf3, rfl⟩) rfl <| aV 10 2047 rfl rfl (GY_none rfl) eR (V_load rfl foc1 rfl Try.isAgg3) rfl <| aN 11 4095 rfl rfl (P_conv_u64 (a := ((r8.1.length : Nat) : Int)) rfl Try.runUnderlying3 Try.runUnderlying39) rfl <| aN 12 8191 rfl rfl (P_shl_u64 (a := (to_u64 (((r8.1.length : Nat) : Int)))) (m := 36) rfl rfl rfl) rfl ?_
       refine aN 13 16383 rfl rfl (P_or_u64 (a := ((to_u64 seq) ||| (shl_u64 ((to_u64 (((a21.2.1 + a21.2.2.1).tmod r28)))) 20))) (b := (shl_u64 ((to_u64 (((r8.1.length : Nat) : Int)))) 36)) rfl rfl) rfl ?_
       obtain ⟨w47, hw47, h⟩ := lt_e h
       rw [← hw47]
       refine aV 14 32767 rfl rfl (GY_none rfl) eR (V_loadN rfl foc1 Try.isAgg73 Try.sizeOf73 rfl rfl) rfl <| aN 15 65535 rfl rfl (P_move rfl) rfl ?_
       obtain ⟨r48, hr49, h⟩ := bind_e h
       refine AJ_op 16 131071 rfl (by kernel_rfl) rfl (GY_none rfl) <| O_call (L_volumegroupref12_Sum (Reads.sl _ _ _) hr49) rfl Try.call68 (Dels.cons del3 Dels.nil) rfl fun _ _ => ⟨fun _ => (t1_ (t1_ (t1_ eR))), ?_⟩
       refine aN 17 262143 rfl rfl (P_conv_u64 (a := (r48.toNat : Int)) rfl Try.runUnderlying71 Try.runUnderlying39) rfl <| aN 18 524287 rfl rfl (P_shl_u64 (a := (to_u64 (r48.toNat : Int))) (m := 48) rfl rfl rfl) rfl <| aN 19 1048575 rfl rfl (P_or_u64 (a := w47) (b := (shl_u64 ((to_u64 (r48.toNat : Int))) 48)) rfl rfl) rfl ?_
       obtain ⟨hg17, h⟩ := grd_de h
       refine aV 20 2097151 rfl rfl (GY_none rfl) (t1_ (t1_ (t1_ eR))) (V_index (i := 1) rfl rfl rfl hg17 foc0 (Reads.sl _ _ _) Try.runUnderlying29 Try.sizeOf39) rfl <| AJ_op 21 4194303 rfl (by kernel_rfl) rfl (GY_none rfl) <| O_storeE (x' := (w47 ||| (shl_u64 ((to_u64 (r48.toNat : Int))) 48))) rfl rfl rfl hg17 foc1 rfl rfl rfl Try.sizeOf39 <| ⟨fun h => absurd h (by decide), ?_⟩
       refine aD <| sR <| oM rfl rfl <| oA rfl rfl <| oA rfl rfl <| nT <| CJ_ret ?_
       cases h
       exact fE (res2 Try.results35 rfl rfl) ⟨p33, ([] ++ area).length, c34⟩ (t4_ (t1_ (eD (eD (eD eR)))))
end Go.Proofs
