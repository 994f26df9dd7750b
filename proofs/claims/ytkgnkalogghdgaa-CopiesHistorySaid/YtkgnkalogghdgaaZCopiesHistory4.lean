/- CopiesHistory, part 4 of the proof: LPack, PPack, LCopy, LRef12, LRing, PRing2, PGood, PGood2, PArr, PMapD. -/
import Derived.WalkKit
import Derived.Orders
import Derived.RangeFuncLeaves
import Derived.RangeFuncCalls
import Derived.TacticsIn
import Derived.Handy
import Derived.OrdersHeld
import Derived.OrdersIn
import Derived.Below
import Derived.OpenShut
import Derived.Deep.Slices
import Derived.Scope
import Derived.KernelRfl
import Derived.RangeFuncRecord
import Derived.ChangeKeysEq
import Derived.Laws.BytesArg
import Derived.ProofKit
import Derived.ShutString
import Derived.ChangeOld
import Derived.Test.YtkgnkalogghdgaaChecked
import Derived.Test.YtkgnkalogghdgaaRows
import Derived.Test.YtkgnkalogghdgaaZCopiesHistory3
set_option linter.unusedSimpArgs false
set_option linter.unusedVariables false
set_option maxRecDepth 20000
set_option maxHeartbeats 4000000
namespace Go.Proofs
open Go.VG
theorem bs_29_1_0 (v0 : Int) : BuildsSlice Try.prog 29 1 [(0, .int .u64 v0)] 39 [.int .u64 v0] := fun w => by kernel_rfl
def pack_Length (n_0 : Int) : Option (Int) :=
  if (n_0 < (0 : Int)) then
    some (0 : Int)
  else
    grd (inI64 (((1 : Int) + (IntKind.i64.wrap (n_0.tdiv (8 : Int)))))) <|
    if ((0 : Int) < (n_0 % (8 : Int))) then
      grd (inI64 ((((1 : Int) + (IntKind.i64.wrap (n_0.tdiv (8 : Int)))) + (1 : Int)))) <|
      some ((((1 : Int) + (IntKind.i64.wrap (n_0.tdiv (8 : Int)))) + (1 : Int)))
    else
      some (((1 : Int) + (IntKind.i64.wrap (n_0.tdiv (8 : Int)))))
theorem L_pack_Length {W : World} {n_0 : Int} {r : Int} (h : pack_Length n_0 = some r) :
    CSpec Try.prog W 80 [.int .i64 n_0] [] (fun x : Unit => .int .i64 r) (fun _ => True) (fun x F => F) := by
 refine CSpec.of_body Try.func80 rfl Try.ntmps80 rfl fun F => ?_
 show CJ _ _ _ _ _ _ (F)
 unfold pack_Length at h
 refine sR <| oA rfl rfl <| nT <| CJ_seq <| sR <| oM rfl rfl <| oP (P_lss (a := n_0) (b := (0 : Int)) rfl rfl) rfl <| nT <| CJ_condP rfl bT_dec (fun hg1 => ?_) (fun hg1 => ?_)
 ·
  replace h := ite_t hg1 h
  refine sR <| oA rfl rfl <| nT <| CJ_ret <| QJ_then_ret ?_
  cases h
  exact fE (res1 Try.results80 rfl) () eR
 ·
  replace h := ite_f hg1 h
  refine kT <| sR <| oM rfl rfl <| oP (P_quoT (a := n_0) (b := (8 : Int)) rfl rfl (by decide)) rfl ?_
  obtain ⟨hg2, h⟩ := grd_Ie h
  refine oP (P_add (a := (1 : Int)) (b := (IntKind.i64.wrap (n_0.tdiv (8 : Int)))) rfl rfl hg2) rfl <| oA rfl rfl <| nT <| CJ_seq <| sR <| oM rfl rfl <| oP (P_rem (a := n_0) (b := (8 : Int)) rfl rfl (by omega)) rfl <| oP (P_gtr (a := (n_0 % (8 : Int))) (b := (0 : Int)) rfl rfl) rfl <| nT <| CJ_condP rfl bT_dec (fun hg3 => ?_) (fun hg3 => ?_)
  ·
   replace h := ite_t hg3 h
   refine CJ_region <| oM rfl rfl ?_
   obtain ⟨hg4, h⟩ := grd_Ie h
   refine oP (P_add (a := ((1 : Int) + (IntKind.i64.wrap (n_0.tdiv (8 : Int))))) (b := (1 : Int)) rfl rfl hg4) rfl <| oA rfl rfl <| nT <| sR <| oM rfl rfl <| oA rfl rfl <| nT <| CJ_ret ?_
   cases h
   exact fE (res1 Try.results80 rfl) () eR
  ·
   replace h := ite_f hg3 h
   refine kT <| sR <| oM rfl rfl <| oA rfl rfl <| nT <| CJ_ret ?_
   cases h
   exact fE (res1 Try.results80 rfl) () eR
def pack_Text_l1_b (s_0 : ByteArray) (rec : (List UInt64) → Nat → Option ((List UInt64))) (x10 : List UInt64) (x11 : Nat) : Option ((List UInt64)) :=
  if (((x11 : Nat) : Int) < ((s_0.size : Nat) : Int)) then
    grd (decide ((1 + (x11 / 8)) < x10.length)) <|
    lt ((shl_u64 ((to_u64 (((strAt s_0 x11).toNat : Int)))) ((((((x11 % 8) : Nat) : Int) * (8 : Int))).toNat))) fun w13 =>
    grd (decide ((1 + (x11 / 8)) < x10.length)) <|
    rec ((x10.set ((1 + (x11 / 8))) (((x10.getD ((1 + (x11 / 8))) 0) ||| w13)))) (x11 + 1)
  else
    some x10
def pack_Text_l1 (s_0 : ByteArray) : Nat → (List UInt64) → Nat → Option ((List UInt64))
  | 0, _, _ => none
  | n + 1, x10, x11 => pack_Text_l1_b s_0 (pack_Text_l1 s_0 n) x10 x11
def pack_Text (s_0 : ByteArray) : Option ((List UInt64) × Int) :=
  if ((8192 : Int) < ((s_0.size : Nat) : Int)) then
    some (([], (4 : Int)))
  else
    Option.bind (pack_Length (((s_0.size : Nat) : Int))) fun r2 =>
    grd (decide (0 ≤ r2 ∧ r2 ≤ 1000000000)) <|
    grd (decide (0 < ((List.replicate ((r2).toNat) (0 : UInt64))).length)) <|
    Option.bind (pack_Text_l1 s_0 FUEL ((((List.replicate ((r2).toNat) (0 : UInt64))).set 0 ((to_u64 (((s_0.size : Nat) : Int)))))) 0) fun a9 =>
    some ((a9, (0 : Int)))
theorem L_pack_Text {W : World} {s_0 : ByteArray} {r : (List UInt64) × Int} (h : pack_Text s_0 = some r) :
    CSpec Try.prog W 55 [.string s_0] [] (fun x : Sl3 => .tuple #[x.v, .int .i64 r.2]) (fun _ => True) (fun x F => sl tyU x.v r.1 :: F) := by
 refine CSpec.of_body Try.func55 rfl Try.ntmps55 rfl fun F => ?_
 show CJ _ _ _ _ _ _ (F)
 unfold pack_Text at h
 refine sR <| oA rfl rfl <| oA rfl rfl <| nT <| CJ_seq <| sR <| oM rfl rfl <| oP (P_lenS (b := s_0) rfl Try.runUnderlying9) rfl <| oP (P_gtr (a := ((s_0.size : Nat) : Int)) (b := (8192 : Int)) rfl rfl) rfl <| nT <| CJ_condP rfl bT_dec (fun hg1 => ?_) (fun hg1 => ?_)
 ·
  replace h := ite_t hg1 h
  refine sR <| oA rfl rfl <| oA rfl rfl <| nT <| CJ_ret <| QJ_then_ret <| QJ_ent (fun h hh => sl_nil (t := tyU) h hh) ?_
  cases h
  exact fE (res2 Try.results55 rfl rfl) ⟨none, 0, 0⟩ eR
 ·
  replace h := ite_f hg1 h
  refine kT <| sR <| oM rfl rfl <| oP (P_lenS (b := s_0) rfl Try.runUnderlying9) rfl ?_
  obtain ⟨r2, hr3, h⟩ := bind_e h
  refine oO <| O_call (L_pack_Length hr3) rfl Try.call80 Dels.nil rfl fun _ _ => ?_
  obtain ⟨hg2, h⟩ := grd_de h
  refine oO <| O_make (t := tyU) (m := (r2).toNat) (x0 := 0) (z := _) (bytes := _) rfl rfl (Int.toNat_of_nonneg (hg2.1)).symm (Int.toNat_of_nonneg (hg2.1)).symm Try.underlying29 ⟨Try.t39, by kernel_rfl, rfl, rfl, rfl⟩ rfl (by omega) (by decide) rfl fun b4 => oA rfl rfl <| nT <| sR <| oM rfl rfl <| oM rfl rfl <| oP (P_lenS (b := s_0) rfl Try.runUnderlying9) rfl <| oP (P_conv_u64 (a := ((s_0.size : Nat) : Int)) rfl Try.runUnderlying3 Try.runUnderlying39) rfl ?_
  obtain ⟨hg3, h⟩ := grd_de h
  refine oV (V_index (i := 0) rfl rfl rfl hg3 foc0 (Reads.sl _ _ _) Try.runUnderlying29 Try.sizeOf39) rfl <| oO <| O_storeE (x' := (to_u64 (((s_0.size : Nat) : Int)))) rfl rfl rfl hg3 foc0 rfl rfl rfl Try.sizeOf39 <| nT <| CJ_seq <| sR <| oM rfl rfl <| oP (P_lenS (b := s_0) rfl Try.runUnderlying9) rfl <| oM rfl rfl <| nT ?_
  obtain ⟨y7, hl5, hK6⟩ := bind_c h
  refine CJ_cutT (X := (List UInt64)) [5, 20, 21, 22, 23, 24, 25, 26, 27, 28, 29, 30, 31, 32, 33, 34, 35, 36, 37, 38, 39] (fun a9 => ([] : Slots)) (fun a9 R => sl tyU (.slice (some ⟨b4, 0, none⟩) ((r2).toNat) ((r2).toNat)) a9 :: R) (fun a9 => y7 = a9) (Dels.cons del0 Dels.nil) ?_ ?_
  ·
   refine CJ_block <| CJ_loopR (X := Nat × (List UInt64) × Nat) [5, 20, 21, 22, 23, 24, 25, 26, 27, 28, 29, 30, 31, 32, 33, 34, 35, 36, 37, 38, 39] (fun ⟨n, x10, x11⟩ => ([(20, .int .i64 (((x11 : Nat) : Int)))] : Slots)) (fun ⟨n, x10, x11⟩ R => sl tyU (.slice (some ⟨b4, 0, none⟩) ((r2).toNat) ((r2).toNat)) x10 :: R) (fun ⟨n, x10, x11⟩ => pack_Text_l1 s_0 n x10 x11 = some y7) (fun ⟨n, x10, x11⟩ => n) ⟨FUEL, (((List.replicate ((r2).toNat) (0 : UInt64))).set 0 ((to_u64 (((s_0.size : Nat) : Int))))), 0⟩ ?_ ?_ eR ?_
   · exact hl5
   · exact ⟨rfl, True.intro⟩
   ·
    rintro ⟨n, x10, x11⟩ h
    cases n with
    | zero => exact none_e h
    | succ n => ?_
    replace h : pack_Text_l1_b s_0 (pack_Text_l1 s_0 n) x10 x11 = some y7 := h
    unfold pack_Text_l1_b at h
    show CJ _ _ _ _ _ (([(20, .int .i64 (((x11 : Nat) : Int)))] : Slots) ++ forget _ _) (sl tyU (.slice (some ⟨b4, 0, none⟩) ((r2).toNat) ((r2).toNat)) x10 :: _)
    refine lC del0 fun hlen12 => sR <| oP (P_lss (a := ((x11 : Nat) : Int)) (b := ((s_0.size : Nat) : Int)) rfl rfl) rfl <| nT <| CJ_seq <| CJ_condP rfl bT_dec (fun hg4 => ?_) (fun hg4 => ?_)
    ·
     replace h := ite_t hg4 h
     refine kT <| CJ_seq <| CJ_block <| sR <| oM rfl rfl <| oA rfl rfl <| nT <| AJ_startH 65536 (by kernel_rfl) rfl <| aN 0 1 rfl rfl (P_move rfl) rfl <| aN 1 3 rfl rfl (P_move rfl) rfl <| aN 2 7 rfl rfl (PJ_eq (P_quo (a := ((x11 : Nat) : Int)) (b := (8 : Int)) rfl rfl (by omega)) rfl) rfl <| aN 3 15 rfl rfl (PJ_eq (P_add (a := (1 : Int)) (b := (((x11 / 8) : Nat) : Int)) rfl rfl (by omega)) rfl) rfl ?_
     obtain ⟨hg5, h⟩ := grd_de h
     refine aV 4 31 rfl rfl (GY_none rfl) eR (V_index (i := (1 + (x11 / 8))) rfl rfl rfl hg5 foc0 (Reads.sl _ _ _) Try.runUnderlying29 Try.sizeOf39) rfl <| aV 5 63 rfl rfl (GY_none rfl) eR (V_loadE rfl rfl hg5 foc0 (Reads.sl _ _ _) rfl rfl Try.isAgg39) rfl <| aN 6 127 rfl rfl (P_move rfl) rfl <| aN 7 255 rfl rfl (P_move rfl) rfl <| aN 8 511 rfl rfl (P_indexS (b := s_0) (i := x11) rfl rfl rfl (by omega) Try.runUnderlying9) rfl <| aN 9 1023 rfl rfl (P_conv_u64 (a := ((strAt s_0 x11).toNat : Int)) rfl Try.runUnderlying5 Try.runUnderlying39) rfl <| aN 10 2047 rfl rfl (P_move rfl) rfl <| aN 11 4095 rfl rfl (PJ_eq (P_rem (a := ((x11 : Nat) : Int)) (b := (8 : Int)) rfl rfl (by omega)) rfl) rfl <| aN 12 8191 rfl rfl (P_mul (a := (((x11 % 8) : Nat) : Int)) (b := (8 : Int)) rfl rfl (by omega)) rfl <| aN 13 16383 rfl rfl (P_shl_u64 (a := (to_u64 (((strAt s_0 x11).toNat : Int)))) (m := (((((x11 % 8) : Nat) : Int) * (8 : Int))).toNat) rfl rfl (Int.toNat_of_nonneg (by omega)).symm) rfl ?_
     obtain ⟨w13, hw13, h⟩ := lt_e h
     rw [← hw13]
     refine aN 14 32767 rfl rfl (P_or_u64 (a := (x10.getD ((1 + (x11 / 8))) 0)) (b := w13) rfl rfl) rfl ?_
     obtain ⟨hg6, h⟩ := grd_de h
     refine aV 15 65535 rfl rfl (GY_none rfl) eR (V_index (i := (1 + (x11 / 8))) rfl rfl rfl hg6 foc0 (Reads.sl _ _ _) Try.runUnderlying29 Try.sizeOf39) rfl <| AJ_op 16 131071 rfl (by kernel_rfl) rfl (GY_none rfl) <| O_storeE (x' := ((x10.getD ((1 + (x11 / 8))) 0) ||| w13)) rfl rfl rfl hg6 foc0 rfl rfl rfl Try.sizeOf39 <| ⟨fun h => absurd h (by decide), ?_⟩
     exact AJ_done (by kernel_rfl) <| QJ_block_normal <| QJ_then <| CJ_region <| oP (PJ_eq (P_add (a := ((x11 : Nat) : Int)) (b := (1 : Int)) rfl rfl (by omega)) rfl) rfl <| oM rfl rfl <| RJ_nil <| nR ⟨n, (x10.set ((1 + (x11 / 8))) (((x10.getD ((1 + (x11 / 8))) 0) ||| w13))), (x11 + 1)⟩ h ⟨rfl, True.intro⟩ eR
    ·
     replace h := ite_f hg4 h
     exact CJ_exit <| QJ_then_exit <| QJ_round_exit <| QJ_block_here <| cR x10 (Option.some.inj h).symm True.intro eR
  ·
   rintro a9 hy14
   replace h := bindK_at hK6 hy14
   show CJ _ _ _ _ _ (([] : Slots) ++ forget _ _) (sl tyU (.slice (some ⟨b4, 0, none⟩) ((r2).toNat) ((r2).toNat)) a9 :: _)
   refine lC del0 fun hlen15 => sR <| oM rfl rfl <| oA rfl rfl <| oA rfl rfl <| nT <| CJ_ret ?_
   cases h
   exact fE (res2 Try.results55 rfl rfl) ⟨some ⟨b4, 0, none⟩, (r2).toNat, (r2).toNat⟩ eR
def slices_Equal_uint64_l1_b (p0 : List UInt64) (p1 : List UInt64) (rec : Nat → Option ((Unit) ⊕ Bool)) (x7 : Nat) : Option ((Unit) ⊕ Bool) :=
  if (((x7 : Nat) : Int) < ((p0.length : Nat) : Int)) then
    if ((p0.getD x7 0) ≠ (p1.getD x7 0)) then
      some (.inr false)
    else
      rec (x7 + 1)
  else
    some (.inl ())
def slices_Equal_uint64_l1 (p0 : List UInt64) (p1 : List UInt64) : Nat → Nat → Option ((Unit) ⊕ Bool)
  | 0, _ => none
  | n + 1, x7 => slices_Equal_uint64_l1_b p0 p1 (slices_Equal_uint64_l1 p0 p1 n) x7
def slices_Equal_uint64 (p0 : List UInt64) (p1 : List UInt64) : Option (Bool) :=
  if (((p0.length : Nat) : Int) ≠ ((p1.length : Nat) : Int)) then
    some false
  else
    seqO (slices_Equal_uint64_l1 p0 p1 FUEL 0) fun a6 =>
    some true
theorem L_slices_Equal_uint64 {W : World} {Ap0 : HP} {vp0 : Value} {Ap1 : HP} {vp1 : Value} {p0 : List UInt64} {p1 : List UInt64} {r : Bool} (rp0 : Reads Ap0 tyU vp0 p0) (rp1 : Reads Ap1 tyU vp1 p1) (h : slices_Equal_uint64 p0 p1 = some r) :
    CSpec Try.prog W 95 [vp0, vp1] [Ap0, Ap1] (fun x : Unit => .bool r) (fun _ => True) (fun x F => Ap0 :: Ap1 :: F) := by
 refine CSpec.of_body Try.func95 rfl Try.ntmps95 rfl fun F => ?_
 show CJ _ _ _ _ _ _ (_ :: _ :: F)
 unfold slices_Equal_uint64 at h
 refine CJ_pure (len_of rp0 del0) fun hlen1 => CJ_pure (len_of rp1 del1) fun hlen2 => sR <| oA rfl rfl <| nT <| CJ_seq <| sR <| oM rfl rfl <| oV (V_len rfl foc0 rp0 Try.runUnderlying29) rfl <| oM rfl rfl <| oV (V_len rfl foc1 rp1 Try.runUnderlying29) rfl <| oP (P_neq (a := ((p0.length : Nat) : Int)) (b := ((p1.length : Nat) : Int)) rfl rfl) rfl <| nT <| CJ_condP rfl bT_dec (fun hg1 => ?_) (fun hg1 => ?_)
 ·
  replace h := ite_t hg1 h
  refine sR <| oA rfl rfl <| nT <| CJ_ret <| QJ_then_ret ?_
  cases h
  exact fE (res1 Try.results95 rfl) () eR
 ·
  replace h := ite_f hg1 h
  refine kT <| CJ_seq <| sR <| oM rfl rfl <| oV (V_len rfl foc0 rp0 Try.runUnderlying29) rfl <| oM rfl rfl <| nT ?_
  obtain ⟨y5, hl3, hK4⟩ := seq_e h
  refine CJ_cutT (X := Unit) [4, 5, 13, 14, 15, 16, 17, 18, 19, 20, 21, 22, 23, 24, 25] (fun _ => ([] : Slots)) (fun _ R => R) (fun _ => y5 = .inl ()) Dels.nil ?_ ?_
  ·
   refine CJ_block <| CJ_loopR (X := Nat × Nat) [4, 5, 13, 14, 15, 16, 17, 18, 19, 20, 21, 22, 23, 24, 25] (fun ⟨n, x7⟩ => ([(13, .int .i64 (((x7 : Nat) : Int)))] : Slots)) (fun ⟨n, x7⟩ R => R) (fun ⟨n, x7⟩ => slices_Equal_uint64_l1 p0 p1 n x7 = some y5) (fun ⟨n, x7⟩ => n) ⟨FUEL, 0⟩ ?_ ?_ eR ?_
   · exact hl3
   · exact ⟨rfl, True.intro⟩
   ·
    rintro ⟨n, x7⟩ h
    cases n with
    | zero => exact none_e h
    | succ n => ?_
    replace h : slices_Equal_uint64_l1_b p0 p1 (slices_Equal_uint64_l1 p0 p1 n) x7 = some y5 := h
    unfold slices_Equal_uint64_l1_b at h
    show CJ _ _ _ _ _ (([(13, .int .i64 (((x7 : Nat) : Int)))] : Slots) ++ forget _ _) (_)
    refine sR <| oP (P_lss (a := ((x7 : Nat) : Int)) (b := ((p0.length : Nat) : Int)) rfl rfl) rfl <| nT <| CJ_seq <| CJ_condP rfl bT_dec (fun hg2 => ?_) (fun hg2 => ?_)
    ·
     replace h := ite_t hg2 h
     refine kT <| CJ_seq <| CJ_block <| sR <| oM rfl rfl <| oA rfl rfl <| nT <| CJ_seq <| AJ_startH 0 (by kernel_rfl) rfl <| aN 0 1 rfl rfl (P_move rfl) rfl <| aN 1 3 rfl rfl (P_move rfl) rfl <| aV 2 7 rfl rfl (GY_none rfl) eR (V_index (i := x7) rfl rfl rfl (by omega) foc0 rp0 Try.runUnderlying29 Try.sizeOf39) rfl <| aV 3 15 rfl rfl (GY_none rfl) eR (V_loadE rfl rfl (by omega) foc0 rp0 rfl rfl Try.isAgg39) rfl <| aN 4 31 rfl rfl (P_move rfl) rfl <| aN 5 63 rfl rfl (P_move rfl) rfl <| aV 6 127 rfl rfl (GY_none rfl) eR (V_index (i := x7) rfl rfl rfl (by omega) foc1 rp1 Try.runUnderlying29 Try.sizeOf39) rfl <| aV 7 255 rfl rfl (GY_none rfl) eR (V_loadE rfl rfl (by omega) foc1 rp1 rfl rfl Try.isAgg39) rfl <| aN 8 511 rfl rfl (P_ne_u64 (a := (p0.getD x7 0)) (b := (p1.getD x7 0)) rfl rfl) rfl <| aD <| CJ_condP rfl bT_dec (fun hg3 => ?_) (fun hg3 => ?_)
     ·
      replace h := ite_t hg3 h
      refine sR <| oA rfl rfl <| nT <| CJ_ret <| QJ_block_ret <| QJ_then_ret <| QJ_round_ret <| QJ_block_ret <| QJ_then_ret ?_
      have hE := Option.some.inj h
      replace hE := seq_inr hK4 hE.symm
      subst hE
      exact fE (res1 Try.results95 rfl) () eR
     ·
      replace h := ite_f hg3 h
      exact CJ_skip <| QJ_block_normal <| QJ_then <| CJ_region <| oP (PJ_eq (P_add (a := ((x7 : Nat) : Int)) (b := (1 : Int)) rfl rfl (by omega)) rfl) rfl <| oM rfl rfl <| RJ_nil <| nR ⟨n, (x7 + 1)⟩ h ⟨rfl, True.intro⟩ eR
    ·
     replace h := ite_f hg2 h
     exact CJ_exit <| QJ_then_exit <| QJ_round_exit <| QJ_block_here <| cR () (Option.some.inj h).symm True.intro eR
  ·
   rintro _ hy8
   replace h := seq_inl hK4 hy8
   show CJ _ _ _ _ _ (([] : Slots) ++ forget _ _) (_)
   refine sR <| oA rfl rfl <| nT <| CJ_ret ?_
   cases h
   exact fE (res1 Try.results95 rfl) () eR
def pack_FromText_l1_b (l : List UInt64) (rec : (List UInt8) → Nat → Option ((List UInt8))) (x18 : List UInt8) (x19 : Nat) : Option ((List UInt8)) :=
  if (((x19 : Nat) : Int) < ((((List.replicate ((l.getD 0 0).toNat) (0 : UInt8))).length : Nat) : Int)) then
    grd (inI64 (((1 : Int) + (IntKind.i64.wrap ((((x19 : Nat) : Int)).tdiv (8 : Int)))))) <|
    grd (decide (0 ≤ ((1 : Int) + (IntKind.i64.wrap ((((x19 : Nat) : Int)).tdiv (8 : Int)))) ∧ ((1 : Int) + (IntKind.i64.wrap ((((x19 : Nat) : Int)).tdiv (8 : Int)))) < (l.length : Int))) <|
    lt ((l.getD ((((1 : Int) + (IntKind.i64.wrap ((((x19 : Nat) : Int)).tdiv (8 : Int))))).toNat) 0)) fun w21 =>
    lt ((to_u8 (((shr_u64 w21 ((((((x19 % 8) : Nat) : Int) * (8 : Int))).toNat)).toNat : Int)))) fun w22 =>
    grd (decide (x19 < x18.length)) <|
    grd (inN64 (x19 + 1)) <|
    rec (x18.set x19 w22) (x19 + 1)
  else
    some x18
def pack_FromText_l1 (l : List UInt64) : Nat → (List UInt8) → Nat → Option ((List UInt8))
  | 0, _, _ => none
  | n + 1, x18, x19 => pack_FromText_l1_b l (pack_FromText_l1 l n) x18 x19
def pack_FromText (l : List UInt64) : Option (ByteArray × Int) :=
  if ((((l.length : Nat) : Int) = (0 : Int)) ∨ (((8192 : UInt64).toNat : Int) < ((l.getD 0 0).toNat : Int))) then
    some (((ByteArray.mk #[]), (2 : Int)))
  else
    Option.bind (pack_Length ((IntKind.i64.wrap ((l.getD 0 0).toNat : Int)))) fun r10 =>
    if (((l.length : Nat) : Int) ≠ r10) then
      some (((ByteArray.mk #[]), (2 : Int)))
    else
      grd (inLen ((l.getD 0 0).toNat)) <|
      Option.bind (pack_FromText_l1 l FUEL ((List.replicate ((l.getD 0 0).toNat) (0 : UInt8))) 0) fun a17 =>
      Option.bind (pack_Text (strOf a17)) fun r25 =>
      if (r25.2 ≠ (0 : Int)) then
        some (((ByteArray.mk #[]), (2 : Int)))
      else
        Option.bind (slices_Equal_uint64 r25.1 l) fun r29 =>
        if (¬ r29 = true) then
          some (((ByteArray.mk #[]), (2 : Int)))
        else
          some (((strOf a17), (0 : Int)))
theorem L_pack_FromText {W : World} {Al : HP} {vl : Value} {l : List UInt64} {r : ByteArray × Int} (rl : Reads Al tyU vl l) (h : pack_FromText l = some r) :
    CSpec Try.prog W 81 [vl] [Al] (fun x : Unit => .tuple #[.string r.1, .int .i64 r.2]) (fun _ => True) (fun x F => Al :: F) := by
 refine CSpec.of_body Try.func81 rfl Try.ntmps81 rfl fun F => ?_
 show CJ _ _ _ _ _ _ (_ :: F)
 unfold pack_FromText at h
 refine CJ_pure (len_of rl del0) fun hlen1 => sR <| oA rfl rfl <| oA rfl rfl <| nT <| CJ_seq <| sR <| oM rfl rfl <| oV (V_len rfl foc0 rl Try.runUnderlying29) rfl <| oP (P_eql (a := ((l.length : Nat) : Int)) (b := (0 : Int)) rfl rfl) rfl <| oM rfl rfl <| RJ_mbF rfl rfl rfl (fun hG2 => have hP3 : ¬ (((l.length : Nat) : Int) = (0 : Int)) := nP (bT_dec) hG2; VJ_P (P_move rfl)) <| RJ_mbF rfl rfl rfl (fun hG4 => have hP5 : ¬ (((l.length : Nat) : Int) = (0 : Int)) := nP (bT_dec) hG4; V_index (i := 0) (mbx hG4 rfl) rfl rfl (by omega) foc0 rl Try.runUnderlying29 Try.sizeOf39) <| RJ_mbF rfl rfl rfl (fun hG6 => have hP7 : ¬ (((l.length : Nat) : Int) = (0 : Int)) := nP (bT_dec) hG6; V_loadE (mbx hG6 rfl) rfl (by omega) foc0 rl rfl rfl Try.isAgg39) <| RJ_mbF rfl rfl rfl (fun hG8 => have hP9 : ¬ (((l.length : Nat) : Int) = (0 : Int)) := nP (bT_dec) hG8; VJ_P (P_gtr (a := ((l.getD 0 0).toNat : Int)) (b := ((8192 : UInt64).toNat : Int)) (mbx hG8 rfl) rfl)) <| oP (P_pickOr rfl rfl (fun hh => mbx (not_f hh) rfl)) rfl <| oM rfl rfl <| RJ_splitP 17 rfl (bT_or bT_dec bT_dec) (fun hg1B hg1 => ?_) (fun hg1B hg1 => ?_)
 ·
  replace h := ite_t hg1 h
  refine RJ_gn (GY_no rfl rfl rfl hg1B) rfl rfl <| RJ_gn (GY_no rfl rfl rfl hg1B) rfl rfl <| RJ_gn (GY_no rfl rfl rfl hg1B) rfl rfl <| RJ_gn (GY_no rfl rfl rfl hg1B) rfl rfl <| RJ_gn (GY_no rfl rfl rfl hg1B) rfl rfl <| RJ_gn (GY_no rfl rfl rfl hg1B) rfl rfl <| RJ_gn (GY_no rfl rfl rfl hg1B) rfl rfl <| RJ_gn (GY_no rfl rfl rfl hg1B) rfl rfl <| oP (P_pickT rfl hg1B rfl) rfl <| nT <| CJ_condT rfl rfl <| sR <| oA rfl rfl <| oA rfl rfl <| nT <| CJ_ret <| QJ_then_ret ?_
  cases h
  exact fE (res2 Try.results81 rfl rfl) () eR
 ·
  replace h := ite_f hg1 h
  refine gP (GY_yes rfl rfl rfl hg1B) (P_move rfl) rfl <| gV (GY_yes rfl rfl rfl hg1B) (V_len rfl foc0 rl Try.runUnderlying29) rfl <| gP (GY_yes rfl rfl rfl hg1B) (P_move rfl) rfl <| gV (GY_yes rfl rfl rfl hg1B) (V_index (i := 0) rfl rfl rfl (by omega) foc0 rl Try.runUnderlying29 Try.sizeOf39) rfl <| gV (GY_yes rfl rfl rfl hg1B) (V_loadE rfl rfl (by omega) foc0 rl rfl rfl Try.isAgg39) rfl <| gP (GY_yes rfl rfl rfl hg1B) (P_conv rfl Try.runUnderlying39 Try.runUnderlying3) rfl ?_
  obtain ⟨r10, hr11, h⟩ := bind_e h
  refine RJ_gy (GY_yes rfl rfl rfl hg1B) <| O_call (L_pack_Length hr11) rfl Try.call80 Dels.nil rfl fun _ _ => gP (GY_yes rfl rfl rfl hg1B) (P_neq (a := ((l.length : Nat) : Int)) (b := r10) rfl rfl) rfl <| oP (P_pickF rfl hg1B rfl) rfl <| nT <| CJ_condP rfl bT_dec (fun hg2 => ?_) (fun hg2 => ?_)
  ·
   replace h := ite_t hg2 h
   refine sR <| oA rfl rfl <| oA rfl rfl <| nT <| CJ_ret <| QJ_then_ret ?_
   cases h
   exact fE (res2 Try.results81 rfl rfl) () eR
  ·
   replace h := ite_f hg2 h
   refine kT <| sR <| oM rfl rfl <| oV (V_index (i := 0) rfl rfl rfl (by omega) foc0 rl Try.runUnderlying29 Try.sizeOf39) rfl <| oV (V_loadE rfl rfl (by omega) foc0 rl rfl rfl Try.isAgg39) rfl ?_
   obtain ⟨hg3, h⟩ := grd_Le h
   refine oO <| O_make (t := tyU8) (m := (l.getD 0 0).toNat) (x0 := 0) (z := _) (bytes := _) rfl rfl rfl rfl Try.underlying22 ⟨Try.t5, by kernel_rfl, rfl, rfl, rfl⟩ rfl hg3 (by decide) rfl fun b12 => oA rfl rfl <| nT <| CJ_seq <| sR <| oM rfl rfl <| oV (V_len rfl foc0 (Reads.sl _ _ _) Try.runUnderlying22) rfl <| oM rfl rfl <| nT ?_
   obtain ⟨y15, hl13, hK14⟩ := bind_c h
   refine CJ_cutT (X := (List UInt8)) [5, 33, 34, 35, 36, 37, 38, 39, 40, 41, 42, 43, 44, 45, 46, 47, 48, 49, 50] (fun a17 => ([] : Slots)) (fun a17 R => sl tyU8 (.slice (some ⟨b12, 0, none⟩) ((l.getD 0 0).toNat) ((l.getD 0 0).toNat)) a17 :: R) (fun a17 => y15 = a17) (Dels.cons del0 Dels.nil) ?_ ?_
   ·
    refine CJ_block <| CJ_loopR (X := Nat × (List UInt8) × Nat) [5, 33, 34, 35, 36, 37, 38, 39, 40, 41, 42, 43, 44, 45, 46, 47, 48, 49, 50] (fun ⟨n, x18, x19⟩ => ([(33, .int .i64 (((x19 : Nat) : Int)))] : Slots)) (fun ⟨n, x18, x19⟩ R => sl tyU8 (.slice (some ⟨b12, 0, none⟩) ((l.getD 0 0).toNat) ((l.getD 0 0).toNat)) x18 :: R) (fun ⟨n, x18, x19⟩ => pack_FromText_l1 l n x18 x19 = some y15) (fun ⟨n, x18, x19⟩ => n) ⟨FUEL, (List.replicate ((l.getD 0 0).toNat) (0 : UInt8)), 0⟩ ?_ ?_ eR ?_
    · exact hl13
    · exact ⟨rfl, True.intro⟩
    ·
     rintro ⟨n, x18, x19⟩ h
     cases n with
     | zero => exact none_e h
     | succ n => ?_
     replace h : pack_FromText_l1_b l (pack_FromText_l1 l n) x18 x19 = some y15 := h
     unfold pack_FromText_l1_b at h
     show CJ _ _ _ _ _ (([(33, .int .i64 (((x19 : Nat) : Int)))] : Slots) ++ forget _ _) (sl tyU8 (.slice (some ⟨b12, 0, none⟩) ((l.getD 0 0).toNat) ((l.getD 0 0).toNat)) x18 :: _)
     refine lC del0 fun hlen20 => sR <| oP (P_lss (a := ((x19 : Nat) : Int)) (b := ((((List.replicate ((l.getD 0 0).toNat) (0 : UInt8))).length : Nat) : Int)) rfl rfl) rfl <| nT <| CJ_seq <| CJ_condP rfl bT_dec (fun hg4 => ?_) (fun hg4 => ?_)
     ·
      replace h := ite_t hg4 h
      refine kT <| CJ_seq <| CJ_block <| sR <| oM rfl rfl <| oA rfl rfl <| nT <| CJ_region <| oM rfl rfl <| oM rfl rfl <| oM rfl rfl <| oM rfl rfl <| oP (P_quoT (a := ((x19 : Nat) : Int)) (b := (8 : Int)) rfl rfl (by decide)) rfl ?_
      obtain ⟨hg5, h⟩ := grd_Ie h
      refine oP (P_add (a := (1 : Int)) (b := (IntKind.i64.wrap ((((x19 : Nat) : Int)).tdiv (8 : Int)))) rfl rfl hg5) rfl ?_
      obtain ⟨hg6, h⟩ := grd_de h
      refine oV (V_index (i := (((1 : Int) + (IntKind.i64.wrap ((((x19 : Nat) : Int)).tdiv (8 : Int))))).toNat) rfl rfl (Int.toNat_of_nonneg (hg6.1)).symm (by omega) foc1 rl Try.runUnderlying29 Try.sizeOf39) rfl <| oV (V_loadE rfl rfl (by omega) foc1 rl rfl rfl Try.isAgg39) rfl ?_
      obtain ⟨w21, hw21, h⟩ := lt_e h
      rw [← hw21]
      refine oM rfl rfl <| oP (PJ_eq (P_rem (a := ((x19 : Nat) : Int)) (b := (8 : Int)) rfl rfl (by omega)) rfl) rfl <| oP (P_mul (a := (((x19 % 8) : Nat) : Int)) (b := (8 : Int)) rfl rfl (by omega)) rfl <| oP (P_shr_u64 (a := w21) (m := (((((x19 % 8) : Nat) : Int) * (8 : Int))).toNat) rfl rfl (Int.toNat_of_nonneg (by omega)).symm) rfl <| oP (P_conv_u8 (a := ((shr_u64 w21 ((((((x19 % 8) : Nat) : Int) * (8 : Int))).toNat)).toNat : Int)) rfl Try.runUnderlying39 Try.runUnderlying5) rfl ?_
      obtain ⟨w22, hw22, h⟩ := lt_e h
      rw [← hw22]
      obtain ⟨hg7, h⟩ := grd_de h
      refine oV (V_index (i := x19) rfl rfl rfl hg7 foc0 (Reads.sl _ _ _) Try.runUnderlying22 Try.sizeOf5) rfl <| oO <| O_storeE (x' := w22) rfl rfl rfl hg7 foc0 rfl rfl rfl Try.sizeOf5 <| RJ_nil <| QJ_block_normal <| QJ_then <| CJ_region ?_
      obtain ⟨hg8, h⟩ := grd_Ne h
      exact oP (PJ_eq (P_add (a := ((x19 : Nat) : Int)) (b := (1 : Int)) rfl rfl (nat_in hg8)) rfl) rfl <| oM rfl rfl <| RJ_nil <| nR ⟨n, (x18.set x19 w22), (x19 + 1)⟩ h ⟨rfl, True.intro⟩ eR
     ·
      replace h := ite_f hg4 h
      exact CJ_exit <| QJ_then_exit <| QJ_round_exit <| QJ_block_here <| cR x18 (Option.some.inj h).symm True.intro eR
   ·
    rintro a17 hy23
    replace h := bindK_at hK14 hy23
    show CJ _ _ _ _ _ (([] : Slots) ++ forget _ _) (sl tyU8 (.slice (some ⟨b12, 0, none⟩) ((l.getD 0 0).toNat) ((l.getD 0 0).toNat)) a17 :: _)
    refine lC del0 fun hlen24 => CJ_seq <| sR <| oM rfl rfl <| oV (V_convBS (t := tyU8) rfl rfl (fun _ => rfl) foc0 (Reads.sl _ _ _) Try.underlying22 Try.underlying5 Try.underlying9) rfl ?_
    obtain ⟨r25, hr26, h⟩ := bind_e h
    refine oO <| O_call (L_pack_Text hr26) rfl Try.call55 Dels.nil rfl fun X27 _ => oM rfl rfl <| oP (P_extract (v := X27.v) rfl rfl) rfl <| oP (P_extract rfl rfl) rfl <| oA rfl rfl <| oA rfl rfl <| nT <| sR <| oM rfl rfl <| oP (P_neq (a := r25.2) (b := (0 : Int)) rfl rfl) rfl <| oM rfl rfl <| RJ_splitP 59 rfl bT_dec (fun hg9B hg9 => ?_) (fun hg9B hg9 => ?_)
    ·
     replace h := ite_t hg9 h
     refine RJ_gn (GY_no rfl rfl rfl hg9B) rfl rfl <| RJ_gn (GY_no rfl rfl rfl hg9B) rfl rfl <| RJ_gn (GY_no rfl rfl rfl hg9B) rfl rfl <| RJ_gn (GY_no rfl rfl rfl hg9B) rfl rfl <| oP (P_pickT rfl hg9B rfl) rfl <| nT <| CJ_condT rfl rfl <| sR <| oA rfl rfl <| oA rfl rfl <| nT <| CJ_ret <| QJ_then_ret ?_
     cases h
     exact fE (res2 Try.results81 rfl rfl) () (t2_ (eD (eD eR)))
    ·
     replace h := ite_f hg9 h
     refine gP (GY_yes rfl rfl rfl hg9B) (P_move rfl) rfl <| gP (GY_yes rfl rfl rfl hg9B) (P_move rfl) rfl ?_
     obtain ⟨r29, hr30, h⟩ := bind_e h
     refine RJ_gy (GY_yes rfl rfl rfl hg9B) <| O_call (L_slices_Equal_uint64 (Reads.sl _ _ _) rl hr30) rfl Try.call95 (Dels.cons del0 (Dels.cons del1 Dels.nil)) rfl fun _ _ => gP (GY_yes rfl rfl rfl hg9B) (P_not rfl) rfl <| oP (P_pickF rfl hg9B rfl) rfl <| nT <| CJ_condP rfl (bT_not Iff.rfl) (fun hg10 => ?_) (fun hg10 => ?_)
     ·
      replace h := ite_t hg10 h
      refine sR <| oA rfl rfl <| oA rfl rfl <| nT <| CJ_ret <| QJ_then_ret ?_
      cases h
      exact fE (res2 Try.results81 rfl rfl) () (t1_ (eD (eD eR)))
     ·
      replace h := ite_f hg10 h
      refine kT <| sR <| oM rfl rfl <| oV (V_convBS (t := tyU8) rfl rfl (fun _ => rfl) foc2 (Reads.sl _ _ _) Try.underlying22 Try.underlying5 Try.underlying9) rfl <| oA rfl rfl <| oA rfl rfl <| nT <| CJ_ret ?_
      cases h
      exact fE (res2 Try.results81 rfl rfl) () (t1_ (eD (eD eR)))
def pack_divided_l1_b (widths : List Int) (rec : Int → Nat → Option ((Unit) ⊕ Bool)) (x6 : Int) (x7 : Nat) : Option ((Unit) ⊕ Bool) :=
  if (((x7 : Nat) : Int) < ((widths.length : Nat) : Int)) then
    if (((widths.getD x7 0) < (1 : Int)) ∨ ((64 : Int) < (widths.getD x7 0))) then
      some (.inr false)
    else
      grd (inI64 ((x6 + (widths.getD x7 0)))) <|
      if ((64 : Int) < (x6 + (widths.getD x7 0))) then
        some (.inr false)
      else
        rec ((x6 + (widths.getD x7 0))) (x7 + 1)
  else
    some (.inl ())
def pack_divided_l1 (widths : List Int) : Nat → Int → Nat → Option ((Unit) ⊕ Bool)
  | 0, _, _ => none
  | n + 1, x6, x7 => pack_divided_l1_b widths (pack_divided_l1 widths n) x6 x7
def pack_divided (widths : List Int) : Option (Bool) :=
  seqO (pack_divided_l1 widths FUEL (0 : Int) 0) fun a5 =>
  some true
theorem L_pack_divided {W : World} {Awidths : HP} {vwidths : Value} {widths : List Int} {r : Bool} (rwidths : Reads Awidths tyI vwidths widths) (h : pack_divided widths = some r) :
    CSpec Try.prog W 96 [vwidths] [Awidths] (fun x : Unit => .bool r) (fun _ => True) (fun x F => Awidths :: F) := by
 refine CSpec.of_body Try.func96 rfl Try.ntmps96 rfl fun F => ?_
 show CJ _ _ _ _ _ _ (_ :: F)
 unfold pack_divided at h
 refine CJ_pure (len_of rwidths del0) fun hlen1 => sR <| oA rfl rfl <| nT <| sR <| oA rfl rfl <| nT <| CJ_seq <| sR <| oM rfl rfl <| oV (V_len rfl foc0 rwidths Try.runUnderlying38) rfl <| oM rfl rfl <| nT ?_
 obtain ⟨y4, hl2, hK3⟩ := seq_e h
 refine CJ_cutT (X := Unit) [2, 3, 5, 8, 9, 10, 11, 12, 13, 14, 15, 16, 17, 18, 19, 20, 21, 22, 23] (fun _ => ([] : Slots)) (fun _ R => R) (fun _ => y4 = .inl ()) Dels.nil ?_ ?_
 ·
  refine CJ_block <| CJ_loopR (X := Nat × Int × Nat) [2, 3, 5, 8, 9, 10, 11, 12, 13, 14, 15, 16, 17, 18, 19, 20, 21, 22, 23] (fun ⟨n, x6, x7⟩ => ([(3, .int .i64 x6), (8, .int .i64 (((x7 : Nat) : Int)))] : Slots)) (fun ⟨n, x6, x7⟩ R => R) (fun ⟨n, x6, x7⟩ => pack_divided_l1 widths n x6 x7 = some y4) (fun ⟨n, x6, x7⟩ => n) ⟨FUEL, (0 : Int), 0⟩ ?_ ?_ eR ?_
  · exact hl2
  · exact ⟨rfl, rfl, True.intro⟩
  ·
   rintro ⟨n, x6, x7⟩ h
   cases n with
   | zero => exact none_e h
   | succ n => ?_
   replace h : pack_divided_l1_b widths (pack_divided_l1 widths n) x6 x7 = some y4 := h
   unfold pack_divided_l1_b at h
   show CJ _ _ _ _ _ (([(3, .int .i64 x6), (8, .int .i64 (((x7 : Nat) : Int)))] : Slots) ++ forget _ _) (_)
   refine sR <| oP (P_lss (a := ((x7 : Nat) : Int)) (b := ((widths.length : Nat) : Int)) rfl rfl) rfl <| nT <| CJ_seq <| CJ_condP rfl bT_dec (fun hg1 => ?_) (fun hg1 => ?_)
   ·
    replace h := ite_t hg1 h
    refine kT <| CJ_seq <| CJ_block <| sR <| oV (V_index (i := x7) rfl rfl rfl (by omega) foc0 rwidths Try.runUnderlying38 Try.sizeOf3) rfl <| oV (V_loadE rfl rfl (by omega) foc0 rwidths rfl rfl Try.isAgg3) rfl <| oA rfl rfl <| nT <| CJ_seq <| sR <| oM rfl rfl <| oP (P_lss (a := (widths.getD x7 0)) (b := (1 : Int)) rfl rfl) rfl <| oM rfl rfl <| RJ_mbF rfl rfl rfl (fun hG8 => have hP9 : ¬ ((widths.getD x7 0) < (1 : Int)) := nP (bT_dec) hG8; VJ_P (P_move rfl)) <| RJ_mbF rfl rfl rfl (fun hG10 => have hP11 : ¬ ((widths.getD x7 0) < (1 : Int)) := nP (bT_dec) hG10; VJ_P (P_gtr (a := (widths.getD x7 0)) (b := (64 : Int)) (mbx hG10 rfl) rfl)) <| oP (P_pickOr rfl rfl (fun hh => mbx (not_f hh) rfl)) rfl <| nT <| CJ_condP rfl (bT_or bT_dec bT_dec) (fun hg2 => ?_) (fun hg2 => ?_)
    ·
     replace h := ite_t hg2 h
     refine sR <| oA rfl rfl <| nT <| CJ_ret <| QJ_then_ret <| QJ_block_ret <| QJ_then_ret <| QJ_round_ret <| QJ_block_ret <| QJ_then_ret ?_
     have hE := Option.some.inj h
     replace hE := seq_inr hK3 hE.symm
     subst hE
     exact fE (res1 Try.results96 rfl) () eR
    ·
     replace h := ite_f hg2 h
     refine kT <| sR <| oM rfl rfl <| oM rfl rfl ?_
     obtain ⟨hg3, h⟩ := grd_Ie h
     refine oP (P_add (a := x6) (b := (widths.getD x7 0)) rfl rfl hg3) rfl <| oA rfl rfl <| nT <| sR <| oM rfl rfl <| oP (P_gtr (a := (x6 + (widths.getD x7 0))) (b := (64 : Int)) rfl rfl) rfl <| nT <| CJ_condP rfl bT_dec (fun hg4 => ?_) (fun hg4 => ?_)
     ·
      replace h := ite_t hg4 h
      refine sR <| oA rfl rfl <| nT <| CJ_ret <| QJ_block_ret <| QJ_then_ret <| QJ_round_ret <| QJ_block_ret <| QJ_then_ret ?_
      have hE := Option.some.inj h
      replace hE := seq_inr hK3 hE.symm
      subst hE
      exact fE (res1 Try.results96 rfl) () eR
     ·
      replace h := ite_f hg4 h
      exact CJ_skip <| QJ_block_normal <| QJ_then <| CJ_region <| oP (PJ_eq (P_add (a := ((x7 : Nat) : Int)) (b := (1 : Int)) rfl rfl (by omega)) rfl) rfl <| oM rfl rfl <| RJ_nil <| nR ⟨n, (x6 + (widths.getD x7 0)), (x7 + 1)⟩ h ⟨rfl, rfl, True.intro⟩ eR
   ·
    replace h := ite_f hg1 h
    exact CJ_exit <| QJ_then_exit <| QJ_round_exit <| QJ_block_here <| cR () (Option.some.inj h).symm True.intro eR
 ·
  rintro _ hy12
  replace h := seq_inl hK3 hy12
  show CJ _ _ _ _ _ (([] : Slots) ++ forget _ _) (_)
  refine sR <| oA rfl rfl <| nT <| CJ_ret ?_
  cases h
  exact fE (res1 Try.results96 rfl) () eR
def pack_fields (widths : List Int) : Option (Unit) :=
  some ()
theorem L_pack_fields {W : World} {Awidths : HP} {vwidths : Value} {widths : List Int} {r : Unit} (rwidths : Reads Awidths tyI vwidths widths) (h : pack_fields widths = some r) :
    CSpec Try.prog W 97 [vwidths] [Awidths] (fun x : Nat => .func (.func 101) #[] #[ptr x 0]) (fun _ => True) (fun x F => Awidths :: blk x 38 [vwidths] :: F) := by
 refine CSpec.of_body Try.func97 rfl Try.ntmps97 rfl fun F => ?_
 show CJ _ _ _ _ _ _ (_ :: F)
 unfold pack_fields at h
 refine CJ_pure (len_of rwidths del0) fun hlen1 => sR <| RJ_pure (reads_sl3 rwidths del0) fun hsv3 => ?_
 obtain ⟨sv2, hsv3⟩ := hsv3
 subst hsv3
 refine oO <| O_box rfl rfl rfl fun b4 => oA rfl rfl <| nT <| sR <| oP (P_makeFunc rfl rfl) rfl <| oA rfl rfl <| nT <| CJ_ret ?_
 cases h
 exact fE (res1 Try.results97 rfl) b4 (t1_ eR)
def pack_Fields_l1_b (values : List UInt64) (rec : (UInt64 × Nat) → Option ((UInt64 × Nat) ⊕ (Nat × UInt64 × Nat))) (e16 : (Int × UInt64)) (a21 : UInt64 × Nat) : Option ((UInt64 × Nat) ⊕ (Nat × UInt64 × Nat)) :=
  grd (decide (a21.2 < values.length)) <|
  if ((e16.2.toNat : Int) < ((values.getD a21.2 0).toNat : Int)) then
    some (.inr (a21.2, a21.1, 1))
  else
    grd (decide (a21.2 < values.length)) <|
    grd (decide (0 ≤ e16.1)) <|
    grd (inN64 (a21.2 + 1)) <|
    rec (((a21.1 ||| (shl_u64 (values.getD a21.2 0) ((e16.1).toNat))), (a21.2 + 1)))
def pack_Fields_l1 (values : List UInt64) : List (Int × UInt64) → (UInt64 × Nat) → Option ((UInt64 × Nat) ⊕ (Nat × UInt64 × Nat))
  | [], a21 => some (.inl a21)
  | e16 :: bs28, a21 => pack_Fields_l1_b values (pack_Fields_l1 values bs28) e16 a21
def pack_Fields (widths : List Int) (values : List UInt64) : Option (UInt64 × Int) :=
  if (((widths.length : Nat) : Int) ≠ ((values.length : Nat) : Int)) then
    some (((0 : UInt64), (3 : Int)))
  else
    Option.bind (pack_divided widths) fun r8 =>
    if (¬ r8 = true) then
      some (((0 : UInt64), (1 : Int)))
    else
      Option.bind (pack_fields widths) fun r12 =>
      grd (decide ((∀ w ∈ widths, 0 ≤ w ∧ w ≤ 64) ∧ widths.length ≤ 1000000)) <|
      Option.bind (pack_Fields_l1 values (fieldsL widths 0) (((0 : UInt64), 0))) fun y20 =>
      selO y20 (fun a21 =>
        some ((a21.1, (0 : Int)))) (fun z22 =>
        some (((0 : UInt64), ((z22.2.2 : Nat) : Int))))
theorem L_pack_Fields {W : World} {Awidths : HP} {vwidths : Value} {Avalues : HP} {vvalues : Value} {widths : List Int} {values : List UInt64} {r : UInt64 × Int} (rwidths : Reads Awidths tyI vwidths widths) (rvalues : Reads Avalues tyU vvalues values) (h : pack_Fields widths values = some r) :
    CSpec Try.prog W 87 [vwidths, vvalues] [Awidths, Avalues] (fun x : Unit => .tuple #[.int .u64 (r.1.toNat : Int), .int .i64 r.2]) (fun _ => True) (fun x F => Awidths :: Avalues :: F) := by
  refine CSpec.of_bodyM Try.func87 rfl Try.ntmps87 rfl (fun F => ?_)
  show CJ _ _ _ _ _ _ (_ :: _ :: F)
  unfold pack_Fields at h
  refine CJ_pure (len_of rwidths del0) (fun hlen1 => ?_)
  refine CJ_pure (len_of rvalues del1) (fun hlen2 => ?_)
  refine CJ_seq ?_
  refine CJ_region ?_
  refine RJ_pure (reads_sl3 rvalues del1) (fun hsv4 => ?_)
  obtain ⟨sv3, hsv4⟩ := hsv4
  subst hsv4
  refine RJ_op rfl (O_box rfl rfl rfl (fun b5 => ?_))
  refine RJ_op rfl (O_alloc Try.zeroValue39 rfl rfl (fun b6 => ?_))
  refine RJ_op rfl (O_alloc Try.zeroValue30 rfl rfl (fun b7 => ?_))
  refine RJ_nil ?_
  refine QJ_then ?_
  refine CJ_seq ?_
  refine CJ_seq ?_
  refine CJ_region ?_
  refine RJ_op rfl (OJ_P (P_move rfl) rfl ?_)
  refine RJ_op rfl (OJ_V (V_len rfl foc3 rwidths Try.runUnderlying38) rfl ?_)
  refine RJ_op rfl (OJ_V (V_load rfl foc2 rfl Try.isAgg29) rfl ?_)
  refine RJ_op rfl (OJ_V (V_len rfl foc4 rvalues Try.runUnderlying29) rfl ?_)
  refine RJ_op rfl (OJ_P (P_neq (a := ((widths.length : Nat) : Int)) (b := ((values.length : Nat) : Int)) rfl rfl) rfl ?_)
  refine RJ_nil ?_
  refine QJ_then ?_
  refine CJ_condP rfl bT_dec (fun hg1 => ?_) (fun hg1 => ?_)
  ·
    replace h := ite_t hg1 h
    refine CJ_seq ?_
    refine CJ_region ?_
    refine RJ_op rfl (O_store rfl rfl foc1 rfl rfl Try.sizeOf39 ?_)
    refine RJ_op rfl (O_store rfl rfl foc0 rfl rfl Try.sizeOf30 ?_)
    refine RJ_nil ?_
    refine QJ_then ?_
    refine CJ_ret ?_
    refine QJ_then_ret ?_
    have hE := Option.some.inj h
    subst hE
    refine QJ_endM0 (.inl rfl) (resA2 Try.results87 (RV_cell rfl foc1 rfl Try.isAgg39) (RV_cell rfl foc0 rfl Try.isAgg30)) ?_
    refine CSpec.close () ?_ ?_ (Ent.take del3 (Ent.take del3 (Ent.drop (Ent.drop (Ent.drop Ent.refl)))))
    · rfl
    · trivial
  ·
    replace h := ite_f hg1 h
    refine CJ_skip ?_
    refine QJ_then ?_
    refine CJ_seq ?_
    refine CJ_seq ?_
    refine CJ_region ?_
    refine RJ_op rfl (OJ_P (P_move rfl) rfl ?_)
    obtain ⟨r8, hr9, h⟩ := bind_e h
    refine RJ_op rfl (O_call (L_pack_divided rwidths hr9) rfl Try.call96 (Dels.cons del3 Dels.nil) rfl (fun _ _ => ?_))
    refine RJ_op rfl (OJ_P (P_not rfl) rfl ?_)
    refine RJ_nil ?_
    refine QJ_then ?_
    refine CJ_condP rfl (bT_not Iff.rfl) (fun hg2 => ?_) (fun hg2 => ?_)
    ·
      replace h := ite_t hg2 h
      refine CJ_seq ?_
      refine CJ_region ?_
      refine RJ_op rfl (O_store rfl rfl foc2 rfl rfl Try.sizeOf39 ?_)
      refine RJ_op rfl (O_store rfl rfl foc1 rfl rfl Try.sizeOf30 ?_)
      refine RJ_nil ?_
      refine QJ_then ?_
      refine CJ_ret ?_
      refine QJ_then_ret ?_
      have hE := Option.some.inj h
      subst hE
      refine QJ_endM0 (.inl rfl) (resA2 Try.results87 (RV_cell rfl foc2 rfl Try.isAgg39) (RV_cell rfl foc1 rfl Try.isAgg30)) ?_
      refine CSpec.close () ?_ ?_ (Ent.take del0 (Ent.take del3 (Ent.drop (Ent.drop (Ent.drop Ent.refl)))))
      · rfl
      · trivial
    ·
      replace h := ite_f hg2 h
      refine CJ_skip ?_
      refine QJ_then ?_
      refine CJ_seq ?_
      refine CJ_region ?_
      refine RJ_op rfl (O_alloc Try.zeroValue39 rfl rfl (fun b10 => ?_))
      refine RJ_nil ?_
      refine QJ_then ?_
      refine CJ_seq ?_
      refine CJ_region ?_
      refine RJ_op rfl (O_alloc Try.zeroValue3 rfl rfl (fun b11 => ?_))
      refine RJ_op rfl (O_store rfl rfl foc0 rfl rfl Try.sizeOf3 ?_)
      refine RJ_nil ?_
      refine QJ_then ?_
      refine CJ_seq ?_
      refine CJ_seq ?_
      refine CJ_region ?_
      refine RJ_op rfl (OJ_P (P_move rfl) rfl ?_)
      obtain ⟨r12, hr13, h⟩ := bind_e h
      refine RJ_op rfl (O_call (L_pack_fields rwidths hr13) rfl Try.call97 (Dels.cons del2 Dels.nil) rfl (fun X14 _ => ?_))
      refine RJ_nil ?_
      refine QJ_then ?_
      refine CJ_block ?_
      obtain ⟨hg17, h⟩ := grd_de h
      obtain ⟨y20, hl18, hK19⟩ := bind_c h
      refine CJ_range (ps := [20, 21]) (C := UInt64 × Nat) (Z := Nat × UInt64 × Nat) (ispec_fields rwidths hg17) rfl Try.call101 rfl (fun _ => rfl) (fun a21 R => blk b10 39 [.int .u64 (a21.1.toNat : Int)] :: blk b11 3 [.int .i64 (((a21.2 : Nat) : Int))] :: blk b7 30 [.int .i64 (0 : Int)] :: R) (fun bs28 a21 => pack_Fields_l1 values bs28 a21 = some y20) (fun z22 R => blk b11 3 [.int .i64 (((z22.1 : Nat) : Int))] :: blk b10 39 [.int .u64 (z22.2.1.toNat : Int)] :: blk b7 30 [.int .i64 (((z22.2.2 : Nat) : Int))] :: R) (fun z22 => y20 = .inr z22) ((0 : UInt64), 0) hl18 (Dels.cons del1 (Dels.cons del0 Dels.nil)) (Ent.take del1 Ent.refl) ?_ ?_ ?_
      ·
        rintro l29 Zz bs28 e16 a21 hpre30 h
        replace h : pack_Fields_l1_b values (pack_Fields_l1 values bs28) e16 a21 = some y20 := h
        unfold pack_Fields_l1_b at h
        show CJ _ _ _ _ _ (([(21, .int .u64 (e16.2.toNat : Int)), (20, .int .i64 e16.1)] : Slots) ++ _) (Zz :: blk b10 39 [.int .u64 (a21.1.toNat : Int)] :: blk b11 3 [.int .i64 (((a21.2 : Nat) : Int))] :: blk b7 30 [.int .i64 (0 : Int)] :: _)
        refine CJ_seq ?_
        refine CJ_region ?_
        refine RJ_op rfl (OJ_P (P_assign rfl) rfl ?_)
        refine RJ_nil ?_
        refine QJ_then ?_
        refine CJ_region ?_
        refine RJ_op rfl (OJ_P (P_assign rfl) rfl ?_)
        refine RJ_nil ?_
        refine QJ_begin (fun Zz31 => ?_)
        refine CJ_block ?_
        refine CJ_seq ?_
        refine CJ_seq ?_
        refine CJ_region ?_
        refine RJ_op rfl (OJ_V (V_load rfl foc5 rfl Try.isAgg29) rfl ?_)
        refine RJ_op rfl (OJ_V (V_load rfl foc2 rfl Try.isAgg3) rfl ?_)
        obtain ⟨hg3, h⟩ := grd_de h
        refine RJ_op rfl (OJ_V (V_index (i := a21.2) rfl rfl rfl hg3 foc6 rvalues Try.runUnderlying29 Try.sizeOf39) rfl ?_)
        refine RJ_op rfl (OJ_V (V_loadE rfl rfl hg3 foc6 rvalues rfl rfl Try.isAgg39) rfl ?_)
        refine RJ_op rfl (OJ_P (P_move rfl) rfl ?_)
        refine RJ_op rfl (OJ_P (P_gtr (a := ((values.getD a21.2 0).toNat : Int)) (b := (e16.2.toNat : Int)) rfl rfl) rfl ?_)
        refine RJ_nil ?_
        refine QJ_then ?_
        refine CJ_condP rfl bT_dec (fun hg4 => ?_) (fun hg4 => ?_)
        ·
          replace h := ite_t hg4 h
          refine CJ_seq ?_
          refine CJ_region ?_
          refine RJ_op rfl (O_store rfl rfl foc4 rfl rfl Try.sizeOf39 ?_)
          refine RJ_op rfl (O_store rfl rfl foc3 rfl rfl Try.sizeOf30 ?_)
          refine RJ_nil ?_
          refine QJ_then ?_
          refine CJ_ret ?_
          refine QJ_then_ret ?_
          refine QJ_block_ret ?_
          refine QJ_rngR (a21.2, a21.1, 1) ?_ (Ent.take del0 (Ent.take del1 Ent.refl))
          exact (Option.some.inj h).symm
        ·
          replace h := ite_f hg4 h
          refine CJ_skip ?_
          refine QJ_then ?_
          refine CJ_seq ?_
          refine AJ_startH 256 (by kernel_rfl) rfl ?_
          refine AJ_takeV 0 1 rfl (by kernel_rfl) rfl (by kernel_rfl) (by kernel_rfl) (GY_none rfl) Ent.refl (V_load rfl foc1 rfl Try.isAgg39) rfl (fun _ _ _ _ h => h) ?_
          refine AJ_takeV 1 3 rfl (by kernel_rfl) rfl (by kernel_rfl) (by kernel_rfl) (GY_none rfl) Ent.refl (V_load rfl foc5 rfl Try.isAgg29) rfl (fun _ _ _ _ h => h) ?_
          refine AJ_takeV 2 7 rfl (by kernel_rfl) rfl (by kernel_rfl) (by kernel_rfl) (GY_none rfl) Ent.refl (V_load rfl foc2 rfl Try.isAgg3) rfl (fun _ _ _ _ h => h) ?_
          obtain ⟨hg5, h⟩ := grd_de h
          refine AJ_takeV 3 15 rfl (by kernel_rfl) rfl (by kernel_rfl) (by kernel_rfl) (GY_none rfl) Ent.refl (V_index (i := a21.2) rfl rfl rfl hg5 foc6 rvalues Try.runUnderlying29 Try.sizeOf39) rfl (fun _ _ _ _ h => h) ?_
          refine AJ_takeV 4 31 rfl (by kernel_rfl) rfl (by kernel_rfl) (by kernel_rfl) (GY_none rfl) Ent.refl (V_loadE rfl rfl hg5 foc6 rvalues rfl rfl Try.isAgg39) rfl (fun _ _ _ _ h => h) ?_
          refine AJ_takeP 5 63 rfl (by kernel_rfl) rfl (GY_none rfl) (P_move rfl) rfl (fun _ _ _ _ h => h) ?_
          obtain ⟨hg6, h⟩ := grd_de h
          refine AJ_takeP 6 127 rfl (by kernel_rfl) rfl (GY_none rfl) (P_shl_u64 (a := (values.getD a21.2 0)) (m := (e16.1).toNat) rfl rfl (Int.toNat_of_nonneg hg6).symm) rfl (fun _ _ _ _ h => h) ?_
          refine AJ_takeP 7 255 rfl (by kernel_rfl) rfl (GY_none rfl) (P_or_u64 (a := a21.1) (b := (shl_u64 (values.getD a21.2 0) ((e16.1).toNat))) rfl rfl) rfl (fun _ _ _ _ h => h) ?_
          refine AJ_op 8 511 rfl (by kernel_rfl) rfl (GY_none rfl) (O_store rfl rfl foc1 rfl rfl Try.sizeOf39 ?_)
          refine ⟨fun h => absurd h (by decide), ?_⟩
          refine AJ_done (by kernel_rfl) ?_
          refine QJ_then ?_
          refine CJ_region ?_
          refine RJ_op rfl (OJ_V (V_load rfl foc2 rfl Try.isAgg3) rfl ?_)
          obtain ⟨hg7, h⟩ := grd_Ne h
          refine RJ_op rfl (OJ_P (PJ_eq (P_add (a := ((a21.2 : Nat) : Int)) (b := (1 : Int)) rfl rfl (nat_in hg7)) rfl) rfl ?_)
          refine RJ_op rfl (O_store rfl rfl foc2 rfl rfl Try.sizeOf3 ?_)
          refine RJ_nil ?_
          refine QJ_block_normal ?_
          refine QJ_rng ((a21.1 ||| (shl_u64 (values.getD a21.2 0) ((e16.1).toNat))), (a21.2 + 1)) ?_ Ent.refl
          exact h
      ·
        rintro D32 a21 hy33
        replace h := sel_inl hK19 (show some (.inl a21) = some y20 from hy33)
        show QJ _ _ _ _ _ (dblk D32 :: blk X14 38 [vwidths] :: Awidths :: blk b10 39 [.int .u64 (a21.1.toNat : Int)] :: blk b11 3 [.int .i64 (((a21.2 : Nat) : Int))] :: blk b7 30 [.int .i64 (0 : Int)] :: _)
        refine QJ_block_normal ?_
        refine QJ_ent (Ent.take del0 (Ent.take del1 (Ent.take del1 (Ent.take del2 (Ent.take del2 (Ent.take del3 (Ent.drop (Ent.drop (Ent.drop Ent.refl))))))))) ?_
        refine QJ_then ?_
        refine CJ_seq ?_
        refine CJ_region ?_
        refine RJ_op rfl (OJ_V (V_load rfl foc2 rfl Try.isAgg39) rfl ?_)
        refine RJ_op rfl (O_store rfl rfl foc4 rfl rfl Try.sizeOf39 ?_)
        refine RJ_op rfl (O_store rfl rfl foc3 rfl rfl Try.sizeOf30 ?_)
        refine RJ_nil ?_
        refine QJ_then ?_
        refine CJ_ret ?_
        have hE := Option.some.inj h
        subst hE
        refine QJ_endM1 (.inl rfl) del0 (resA2 Try.results87 (RV_cell rfl foc4 rfl Try.isAgg39) (RV_cell rfl foc3 rfl Try.isAgg30)) rfl ?_
        refine CSpec.close () ?_ ?_ (Ent.take del0 (Ent.take del3 (Ent.drop (Ent.drop (Ent.drop Ent.refl)))))
        · rfl
        · trivial
      ·
        rintro D34 z22 hy35
        replace h := sel_inr hK19 hy35
        show QJ _ _ _ _ _ (dblk D34 :: blk X14 38 [vwidths] :: Awidths :: blk b11 3 [.int .i64 (((z22.1 : Nat) : Int))] :: blk b10 39 [.int .u64 (z22.2.1.toNat : Int)] :: blk b7 30 [.int .i64 (((z22.2.2 : Nat) : Int))] :: _)
        refine QJ_block_ret ?_
        refine QJ_then_ret ?_
        have hE := Option.some.inj h
        subst hE
        refine QJ_endM1 (.inl rfl) del0 (resA2 Try.results87 (RV_cell rfl foc6 rfl Try.isAgg39) (RV_cell rfl foc5 rfl Try.isAgg30)) rfl ?_
        refine CSpec.close () ?_ ?_ (Ent.take del1 (Ent.take del6 (Ent.drop (Ent.drop (Ent.drop (Ent.drop (Ent.drop (Ent.drop Ent.refl))))))))
        · rfl
        · trivial
def pack_Split_l1_b (w : UInt64) (rec : (List UInt64) → Option ((List UInt64))) (e11 : (Int × UInt64)) (a17 : (List UInt64)) : Option ((List UInt64)) :=
  grd (decide (0 ≤ e11.1)) <|
  grd (inLen (a17.length + 1)) <|
  rec ((a17 ++ [((shr_u64 w ((e11.1).toNat)) &&& e11.2)]))
def pack_Split_l1 (w : UInt64) : List (Int × UInt64) → (List UInt64) → Option ((List UInt64))
  | [], a17 => some a17
  | e11 :: bs21, a17 => pack_Split_l1_b w (pack_Split_l1 w bs21) e11 a17
def pack_Split (w : UInt64) (widths : List Int) : Option ((List UInt64) × Int) :=
  Option.bind (pack_divided widths) fun r3 =>
  if (¬ r3 = true) then
    some (([], (1 : Int)))
  else
    Option.bind (pack_fields widths) fun r7 =>
    grd (decide ((∀ w ∈ widths, 0 ≤ w ∧ w ≤ 64) ∧ widths.length ≤ 1000000)) <|
    Option.bind (pack_Split_l1 w (fieldsL widths 0) ([])) fun a17 =>
    some ((a17, (0 : Int)))
theorem L_pack_Split {W : World} {Awidths : HP} {vwidths : Value} {w : UInt64} {widths : List Int} {r : (List UInt64) × Int} (rwidths : Reads Awidths tyI vwidths widths) (h : pack_Split w widths = some r) :
    CSpec Try.prog W 82 [.int .u64 (w.toNat : Int), vwidths] [Awidths] (fun x : Sl3 => .tuple #[x.v, .int .i64 r.2]) (fun _ => True) (fun x F => Awidths :: sl tyU x.v r.1 :: F) := by
  refine CSpec.of_bodyM Try.func82 rfl Try.ntmps82 rfl (fun F => ?_)
  show CJ _ _ _ _ _ _ (_ :: F)
  unfold pack_Split at h
  refine CJ_pure (len_of rwidths del0) (fun hlen1 => ?_)
  refine CJ_seq ?_
  refine CJ_region ?_
  refine RJ_op rfl (O_box rfl rfl rfl (fun b2 => ?_))
  refine RJ_op rfl (OJ_P (P_assign rfl) rfl ?_)
  refine RJ_op rfl (OJ_P (P_assign rfl) rfl ?_)
  refine RJ_nil ?_
  refine QJ_then ?_
  refine CJ_seq ?_
  refine CJ_seq ?_
  refine CJ_region ?_
  refine RJ_op rfl (OJ_P (P_move rfl) rfl ?_)
  obtain ⟨r3, hr4, h⟩ := bind_e h
  refine RJ_op rfl (O_call (L_pack_divided rwidths hr4) rfl Try.call96 (Dels.cons del1 Dels.nil) rfl (fun _ _ => ?_))
  refine RJ_op rfl (OJ_P (P_not rfl) rfl ?_)
  refine RJ_nil ?_
  refine QJ_then ?_
  refine CJ_condP rfl (bT_not Iff.rfl) (fun hg1 => ?_) (fun hg1 => ?_)
  ·
    replace h := ite_t hg1 h
    refine CJ_seq ?_
    refine CJ_region ?_
    refine RJ_op rfl (OJ_P (P_assign rfl) rfl ?_)
    refine RJ_op rfl (OJ_P (P_assign rfl) rfl ?_)
    refine RJ_nil ?_
    refine QJ_then ?_
    refine CJ_ret ?_
    refine QJ_then_ret ?_
    refine QJ_ent (fun h hh => sl_nil (t := tyU) h hh) ?_
    have hE := Option.some.inj h
    subst hE
    refine QJ_endM0 (.inl rfl) (res2 Try.results82 rfl rfl) ?_
    refine CSpec.close ⟨none, 0, 0⟩ ?_ ?_ (Ent.take del1 (Ent.take del0 (Ent.drop Ent.refl)))
    · rfl
    · trivial
  ·
    replace h := ite_f hg1 h
    refine CJ_skip ?_
    refine QJ_then ?_
    refine CJ_seq ?_
    refine CJ_region ?_
    refine RJ_op rfl (O_alloc Try.zeroValue29 rfl rfl (fun b6 => ?_))
    refine RJ_nil ?_
    refine QJ_then ?_
    refine CJ_seq ?_
    refine CJ_seq ?_
    refine CJ_region ?_
    refine RJ_op rfl (OJ_P (P_move rfl) rfl ?_)
    obtain ⟨r7, hr8, h⟩ := bind_e h
    refine RJ_op rfl (O_call (L_pack_fields rwidths hr8) rfl Try.call97 (Dels.cons del1 Dels.nil) rfl (fun X9 _ => ?_))
    refine RJ_nil ?_
    refine QJ_then ?_
    refine CJ_block ?_
    obtain ⟨hg12, h⟩ := grd_de h
    refine CJ_ent (fun h hh => sl_nil (t := tyU) h hh) ?_
    obtain ⟨y16, hl14, hK15⟩ := bind_c h
    refine CJ_range (ps := [14, 15]) (C := (List UInt64) × Sl3) (Z := Unit) (ispec_fields rwidths hg12) rfl Try.call101 rfl (fun _ => rfl) (fun ⟨a17, hd20⟩ R => sl tyU hd20.v a17 :: blk b6 29 [hd20.v] :: R) (fun bs21 ⟨a17, hd20⟩ => pack_Split_l1 w bs21 a17 = some y16) (fun _ R => R) (fun _ => False) ⟨[], ⟨none, 0, 0⟩⟩ hl14 (Dels.cons del2 (Dels.cons del1 Dels.nil)) Ent.refl ?_ ?_ ?_
    ·
      rintro l22 Zz bs21 e11 ⟨a17, hd20⟩ hpre23 h
      replace h : pack_Split_l1_b w (pack_Split_l1 w bs21) e11 a17 = some y16 := h
      unfold pack_Split_l1_b at h
      show CJ _ _ _ _ _ (([(15, .int .u64 (e11.2.toNat : Int)), (14, .int .i64 e11.1)] : Slots) ++ _) (Zz :: sl tyU hd20.v a17 :: blk b6 29 [hd20.v] :: _)
      refine CJ_pure (len_of (Reads.sl _ _ _) del1) (fun hlen24 => ?_)
      refine CJ_seq ?_
      refine CJ_region ?_
      refine RJ_op rfl (OJ_P (P_assign rfl) rfl ?_)
      refine RJ_nil ?_
      refine QJ_then ?_
      refine CJ_region ?_
      refine RJ_op rfl (OJ_P (P_assign rfl) rfl ?_)
      refine RJ_nil ?_
      refine QJ_begin (fun Zz25 => ?_)
      refine CJ_block ?_
      refine AJ_startH 384 (by kernel_rfl) rfl ?_
      refine AJ_takeV 0 1 rfl (by kernel_rfl) rfl (by kernel_rfl) (by kernel_rfl) (GY_none rfl) Ent.refl (V_load rfl foc2 rfl Try.isAgg29) rfl (fun _ _ _ _ h => h) ?_
      refine AJ_takeV 1 3 rfl (by kernel_rfl) rfl (by kernel_rfl) (by kernel_rfl) (GY_none rfl) Ent.refl (V_load rfl foc3 rfl Try.isAgg39) rfl (fun _ _ _ _ h => h) ?_
      refine AJ_takeP 2 7 rfl (by kernel_rfl) rfl (GY_none rfl) (P_move rfl) rfl (fun _ _ _ _ h => h) ?_
      obtain ⟨hg2, h⟩ := grd_de h
      refine AJ_takeP 3 15 rfl (by kernel_rfl) rfl (GY_none rfl) (P_shr_u64 (a := w) (m := (e11.1).toNat) rfl rfl (Int.toNat_of_nonneg hg2).symm) rfl (fun _ _ _ _ h => h) ?_
      refine AJ_takeP 4 31 rfl (by kernel_rfl) rfl (GY_none rfl) (P_move rfl) rfl (fun _ _ _ _ h => h) ?_
      refine AJ_takeP 5 63 rfl (by kernel_rfl) rfl (GY_none rfl) (P_and_u64 (a := (shr_u64 w ((e11.1).toNat))) (b := e11.2) rfl rfl) rfl (fun _ _ _ _ h => h) ?_
      refine AJ_op 6 127 rfl (by kernel_rfl) rfl (GY_none rfl) (O_buildSlice rfl (bs_29_1_0 _) rfl (fun b26 => ?_))
      refine ⟨fun _ => (Ent.take del1 (Ent.take del1 (Ent.take del1 (Ent.take del1 (Ent.drop Ent.refl))))), ?_⟩
      obtain ⟨hg3, h⟩ := grd_Le h
      refine AJ_op 7 255 rfl (by kernel_rfl) rfl (GY_none rfl) (O_append (t := tyU) (bytes := 8) rfl rfl del2 foc0 (Reads.lit (t := tyU) (ys := [((shr_u64 w ((e11.1).toNat)) &&& e11.2)]) rfl rfl (by decide) (by decide) rfl) Try.underlying29 ok_tyU (apl (m := 1) (b := 8) hg3 (by decide)).1 (apl (m := 1) (b := 8) hg3 (by decide)).2 rfl (fun p28 c29 => ?_))
      refine ⟨fun h => absurd h (by decide), ?_⟩
      refine AJ_op 8 511 rfl (by kernel_rfl) rfl (GY_none rfl) (O_store rfl rfl foc3 rfl rfl Try.sizeOf29 ?_)
      refine ⟨fun h => absurd h (by decide), ?_⟩
      refine AJ_done (by kernel_rfl) ?_
      refine QJ_block_normal ?_
      refine QJ_rng ⟨(a17 ++ [((shr_u64 w ((e11.1).toNat)) &&& e11.2)]), ⟨p28, (a17 ++ [((shr_u64 w ((e11.1).toNat)) &&& e11.2)]).length, c29⟩⟩ ?_ (Ent.take del2 (Ent.take del0 (Ent.take del1 (Ent.take del1 (Ent.drop Ent.refl)))))
      exact h
    ·
      rintro D30 ⟨a17, hd20⟩ hy31
      replace h := bindK_sm hK15 (show some a17 = some y16 from hy31)
      show QJ _ _ _ _ _ (dblk D30 :: blk X9 38 [vwidths] :: Awidths :: sl tyU hd20.v a17 :: blk b6 29 [hd20.v] :: _)
      refine QJ_block_normal ?_
      refine QJ_then ?_
      refine CJ_seq ?_
      refine CJ_region ?_
      refine RJ_op rfl (OJ_V (V_load rfl foc4 rfl Try.isAgg29) rfl ?_)
      refine RJ_op rfl (OJ_P (P_assign rfl) rfl ?_)
      refine RJ_op rfl (OJ_P (P_assign rfl) rfl ?_)
      refine RJ_nil ?_
      refine QJ_then ?_
      refine CJ_ret ?_
      have hE := Option.some.inj h
      subst hE
      refine QJ_endM1 (.inl rfl) del0 (res2 Try.results82 rfl rfl) rfl ?_
      refine CSpec.close hd20 ?_ ?_ (Ent.take del1 (Ent.take del1 (Ent.drop (Ent.drop (Ent.drop Ent.refl)))))
      · rfl
      · trivial
    ·
      exact fun _ _ h9 => h9.elim
end Go.Proofs
namespace Go.Proofs
open Go.VG
theorem tdiv8 {n : Nat} (h : n ≤ 1000000000) : IntKind.i64.wrap (((n : Nat) : Int).tdiv (8 : Int)) = ((n / 8 : Nat) : Int) := by
  have e : ((n : Nat) : Int).tdiv (8 : Int) = ((n / 8 : Nat) : Int) := by
    rw [Int.tdiv_eq_ediv_of_nonneg (by omega)]; omega
  rw [e]; exact wrap64_in (by omega) (by omega)
theorem length_eq {n : Nat} (h : n ≤ 100000000) : pack_Length (n : Int) = some ((1 + bytesN n : Nat) : Int) := by
  unfold pack_Length
  rw [tdiv8 (by omega), if_neg (by omega), grd_pos (inI64_of (by omega))]
  unfold bytesN
  by_cases h8 : (0 : Int) < ((n : Int) % (8 : Int))
  · rw [if_pos h8, grd_pos (inI64_of (by omega))]; congr 1; omega
  · rw [if_neg h8]; congr 1; omega
def textP (b : Nat → UInt8) (n i : Nat) : List UInt64 := to_u64 (n : Int) :: (List.range (bytesN n)).map fun k => wordB fun j => if 8 * k + j < i then b (8 * k + j) else 0
theorem textP_len {b : Nat → UInt8} {n i : Nat} : (textP b n i).length = 1 + bytesN n := by simp [textP]; omega
theorem textP_get {b : Nat → UInt8} {n i k : Nat} (h : k < bytesN n) : (textP b n i).getD (1 + k) 0 = wordB fun j => if 8 * k + j < i then b (8 * k + j) else 0 := by
  rw [Nat.add_comm]
  simp [textP, List.getD_eq_getElem?_getD, h]
theorem wordB_zero : (wordB fun _ => 0) = 0 := by
  refine tb_ext fun i hi => ?_
  rw [tb_wordB _ hi, tb_zero]
  exact Nat.zero_testBit _
theorem textP_zero {b : Nat → UInt8} {n : Nat} : (List.replicate (1 + bytesN n) (0 : UInt64)).set 0 (to_u64 (n : Int)) = textP b n 0 := by
  refine List.ext_getElem (by rw [List.length_set, List.length_replicate, textP_len]) fun i h1 h2 => ?_
  cases i with
  | zero => simp [textP]
  | succ k =>
    have e := getD_get (l := textP b n 0) h2
    rw [textP_len] at h2
    have e3 : (textP b n 0).getD (k + 1) 0 = wordB fun j => if 8 * k + j < 0 then b (8 * k + j) else 0 := by
      rw [show k + 1 = 1 + k by omega]; exact textP_get (by omega)
    rw [← e, e3]
    simp [wordB_zero]
theorem textP_step {b : Nat → UInt8} {n i : Nat} (h : i < n) : (textP b n i).set (1 + i / 8) ((textP b n i).getD (1 + i / 8) 0 ||| shl_u64 (to_u64 ((b i).toNat : Int)) (8 * (i % 8))) = textP b n (i + 1) := by
  have hk : i / 8 < bytesN n := by unfold bytesN; omega
  rw [textP_get hk, wordB_put (by omega) (if_neg (by omega))]
  refine List.ext_getElem (by rw [List.length_set, textP_len, textP_len]) fun q h1 h2 => ?_
  rw [List.getElem_set, ← getD_get h2]
  rw [textP_len] at h2
  split
  · rename_i e
    rw [← e, textP_get hk]
    refine wordB_inj.2 fun j hj => ?_
    by_cases e2 : j = i % 8
    · rw [if_pos e2, if_pos (by omega)]; congr 1; omega
    · rw [if_neg e2]
      by_cases e3 : 8 * (i / 8) + j < i
      · rw [if_pos e3, if_pos (by omega)]
      · rw [if_neg e3, if_neg (by omega)]
  · rename_i e
    rw [List.length_set] at h1
    rw [← getD_get h1]
    rcases Nat.eq_zero_or_pos q with h0 | h0
    · rw [h0]; simp [textP]
    · obtain ⟨k, rfl⟩ : ∃ k, q = 1 + k := ⟨q - 1, by omega⟩
      rw [textP_get (b := b) (i := i) (show k < bytesN n by omega), textP_get (b := b) (i := i + 1) (show k < bytesN n by omega)]
      refine wordB_inj.2 fun j hj => ?_
      by_cases e3 : 8 * k + j < i
      · rw [if_pos e3, if_pos (by omega)]
      · rw [if_neg e3, if_neg (by omega)]
theorem text_l1 {s : ByteArray} (hs : s.size ≤ 8192) : ∀ (N i : Nat), s.size - i < N → i ≤ s.size → pack_Text_l1 s N (textP (strAt s) s.size i) i = some (encT s)
  | 0, _, h, _ => absurd h (by omega)
  | N + 1, i, h, hi => by
    show pack_Text_l1_b _ _ _ _ = _
    unfold pack_Text_l1_b
    simp only [lt]
    by_cases hlt : i < s.size
    · have hb : 1 + i / 8 < (textP (strAt s) s.size i).length := by rw [textP_len]; unfold bytesN; omega
      rw [if_pos (by omega), grd_pos (decide_eq_true hb), grd_pos (decide_eq_true hb), show ((((i % 8 : Nat) : Int)) * (8 : Int)).toNat = 8 * (i % 8) by omega, textP_step hlt]
      exact text_l1 hs N (i + 1) (by omega) (by omega)
    · rw [if_neg (by omega), show i = s.size by omega]; rfl
theorem text_eq (s : ByteArray) : pack_Text s = some (if 8192 < s.size then ([], 4) else (encT s, 0)) := by
  unfold pack_Text
  by_cases h : 8192 < s.size
  · rw [if_pos (by omega), if_pos h]
  · rw [if_neg (by omega), if_neg h, length_eq (by omega)]; simp only [Option.bind_some]
    have hb : bytesN s.size ≤ 100000 := by unfold bytesN; omega
    rw [grd_pos (decide_eq_true (by omega)), show (((1 + bytesN s.size : Nat) : Int)).toNat = 1 + bytesN s.size by omega, grd_pos (decide_eq_true (by rw [List.length_replicate]; omega)), textP_zero (b := strAt s)]
    have hF := fuel_big
    generalize FUEL = N at hF ⊢
    rw [text_l1 (by omega) N 0 (by omega) (by omega)]; rfl
theorem slicesEq_l1 {a b : List UInt64} (hl : a.length = b.length) : ∀ (N i : Nat), a.length - i < N → i ≤ a.length → (∀ j, j < i → a.getD j 0 = b.getD j 0) →
    slices_Equal_uint64_l1 a b N i = some (if a = b then .inl () else .inr false)
  | 0, _, h, _, _ => absurd h (by omega)
  | N + 1, i, h, hi, he => by
    show slices_Equal_uint64_l1_b _ _ _ _ = _
    unfold slices_Equal_uint64_l1_b
    by_cases hlt : i < a.length
    · rw [if_pos (by omega)]
      by_cases hab : a.getD i 0 = b.getD i 0
      · rw [if_neg (by simpa using hab)]
        refine slicesEq_l1 hl N (i + 1) (by omega) (by omega) fun j hj => ?_
        rcases Nat.lt_or_ge j i with h2 | h2
        · exact he j h2
        · have : j = i := by omega
          rw [this]; exact hab
      · rw [if_pos (by simpa using hab), if_neg (fun e => hab (by rw [e]))]
    · rw [if_neg (by omega), if_pos]
      refine List.ext_getElem hl fun j h1 h2 => ?_
      have := he j (by omega)
      simpa [List.getD, h1, h2] using this
theorem slicesEq {a b : List UInt64} (hl : a.length ≤ 1000000000) : slices_Equal_uint64 a b = some (decide (a = b)) := by
  unfold slices_Equal_uint64
  have hF := fuel_big
  generalize FUEL = N at hF ⊢
  by_cases h : a.length = b.length
  · rw [if_neg (by omega), slicesEq_l1 h N 0 (by omega) (by omega) (fun j h => absurd h (by omega))]
    by_cases e : a = b
    · rw [if_pos e]; show some true = _; rw [decide_eq_true e]
    · rw [if_neg e]; show some false = _; rw [decide_eq_false e]
  · rw [if_pos (by omega), decide_eq_false (fun e => h (congrArg List.length e))]
def bytesP (l : List UInt64) (n i : Nat) : List UInt8 := (List.range n).map fun k => if k < i then byteOf (l.getD (1 + k / 8) 0) (k % 8) else 0
theorem bytesP_zero {l : List UInt64} {n : Nat} : List.replicate n (0 : UInt8) = bytesP l n 0 := by
  refine List.ext_getElem (by simp [bytesP]) fun i h1 h2 => by simp [bytesP]
theorem bytesP_len {l : List UInt64} {n i : Nat} : (bytesP l n i).length = n := by simp [bytesP]
theorem bytesP_step {l : List UInt64} {n i : Nat} : (bytesP l n i).set i (byteOf (l.getD (1 + i / 8) 0) (i % 8)) = bytesP l n (i + 1) := by
  refine List.ext_getElem (by simp [bytesP]) fun k h1 h2 => ?_
  rw [List.getElem_set]
  split
  · rename_i e; subst e; simp [bytesP]
  · rename_i e
    simp only [bytesP, List.getElem_map, List.getElem_range]
    by_cases h3 : k < i
    · rw [if_pos h3, if_pos (by omega)]
    · rw [if_neg h3, if_neg (by omega)]
theorem bytesP_full {l : List UInt64} : bytesP l (l.getD 0 0).toNat (l.getD 0 0).toNat = bytesT l :=
  List.map_congr_left fun i hi => if_pos (List.mem_range.1 hi)
section
variable {l : List UInt64}
theorem fromT_l1 (h0 : (l.getD 0 0).toNat ≤ 8192) (hl : l.length = 1 + bytesN (l.getD 0 0).toNat) : ∀ (N i : Nat), (l.getD 0 0).toNat - i < N → i ≤ (l.getD 0 0).toNat → pack_FromText_l1 l N (bytesP l (l.getD 0 0).toNat i) i = some (bytesT l)
  | 0, _, h, _ => absurd h (by omega)
  | N + 1, i, h, hi => by
    show pack_FromText_l1_b _ _ _ _ = _
    unfold pack_FromText_l1_b
    simp only [lt, List.length_replicate]
    by_cases hlt : i < (l.getD 0 0).toNat
    · have hb : 1 + i / 8 < l.length := by rw [hl]; unfold bytesN; omega
      rw [if_pos (by omega), tdiv8 (by omega), grd_pos (inI64_of (by omega)), grd_pos (decide_eq_true (by omega)), show ((1 : Int) + ((i / 8 : Nat) : Int)).toNat = 1 + i / 8 by omega, grd_pos (decide_eq_true (by rw [bytesP_len]; exact hlt)), grd_pos (inN64_of (by omega)),
        show ((((i % 8 : Nat) : Int)) * (8 : Int)).toNat = 8 * (i % 8) by omega]
      show pack_FromText_l1 l N ((bytesP l (l.getD 0 0).toNat i).set i (byteOf (l.getD (1 + i / 8) 0) (i % 8))) (i + 1) = _
      rw [bytesP_step]
      exact fromT_l1 h0 hl N (i + 1) (by omega) (by omega)
    · rw [if_neg (by omega), show i = (l.getD 0 0).toNat by omega, bytesP_full]
theorem fromText_eq (hL : l.length ≤ 1000000) : pack_FromText l = some (decT l) := by
  unfold pack_FromText decT
  by_cases h1 : l.length = 0 ∨ 8192 < (l.getD 0 0).toNat
  · rw [if_pos (by have : ((8192 : UInt64).toNat : Int) = 8192 := rfl
                   rw [this]; omega), if_pos (by omega)]
  · rw [if_neg (by have : ((8192 : UInt64).toNat : Int) = 8192 := rfl
                   rw [this]; omega), wrap64_u _ (by omega), length_eq (by omega)]
    simp only [Option.bind_some]
    by_cases h2 : l.length = 1 + bytesN (l.getD 0 0).toNat
    · rw [if_neg (by omega), if_neg (by omega), grd_pos (inLen_of (by omega)), bytesP_zero (l := l)]
      have hF := fuel_big
      generalize FUEL = N at hF ⊢
      rw [fromT_l1 (by omega) h2 N 0 (by omega) (by omega)]; simp only [Option.bind_some]
      rw [text_eq, if_neg (by rw [strSize_of, bytesT_len]; omega)]; simp only [Option.bind_some]
      rw [if_neg (by simp), slicesEq (by rw [encT_len]; unfold bytesN; rw [strSize_of, bytesT_len]; omega)]
      simp only [Option.bind_some]
      by_cases h3 : encT (strOf (bytesT l)) = l
      · rw [if_neg (by simpa using h3), if_pos h3]
      · rw [if_pos (by simpa using h3), if_neg h3]
    · rw [if_pos (by omega), if_pos (by omega)]
end
end Go.Proofs
set_option linter.unusedSimpArgs false
set_option linter.unusedVariables false
set_option maxRecDepth 20000
set_option maxHeartbeats 4000000
namespace Go.Proofs
open Go.VG
def block_ReadAll_l1_b (x_0 : Dvc) (at_1 : Int) (n_2 : Int) (s : ArrS) (rec : Nat → (List UInt64) → Option (((List UInt64)) ⊕ ((List UInt64) × Int))) (x14 : Nat) (x15 : List UInt64) : Option (((List UInt64)) ⊕ ((List UInt64) × Int)) :=
  if (((x14 : Nat) : Int) < n_2) then
    grd (inI64 ((at_1 + ((x14 : Nat) : Int)))) <|
    Option.bind (Dvc.rd x_0 s ((at_1 + ((x14 : Nat) : Int)))) fun r19 =>
    if (r19.2 ≠ (0 : Int)) then
      some (.inr ([], r19.2))
    else
      grd (inLen (x15.length + 1)) <|
      grd (inN64 (x14 + 1)) <|
      rec (x14 + 1) (x15 ++ [r19.1])
  else
    some (.inl x15)
def block_ReadAll_l1 (x_0 : Dvc) (at_1 : Int) (n_2 : Int) (s : ArrS) : Nat → Nat → (List UInt64) → Option (((List UInt64)) ⊕ ((List UInt64) × Int))
  | 0, _, _ => none
  | n + 1, x14, x15 => block_ReadAll_l1_b x_0 at_1 n_2 s (block_ReadAll_l1 x_0 at_1 n_2 s n) x14 x15
def block_ReadAll (x_0 : Dvc) (at_1 : Int) (n_2 : Int) (s : ArrS) : Option ((List UInt64) × Int) :=
  Option.bind (Dvc.size x_0 s) fun r2 =>
  Option.bind (block_inside r2 at_1 n_2) fun r4 =>
  if (¬ r4 = true) then
    some (([], (1 : Int)))
  else
    seqO (block_ReadAll_l1 x_0 at_1 n_2 s FUEL 0 ([])) fun a13 =>
    some ((a13, (0 : Int)))
theorem L_block_ReadAll {W : World} {vx_0 : IfH} {bs : Nat} {x_0 : Dvc} {at_1 : Int} {n_2 : Int} {s : ArrS} {r : (List UInt64) × Int} (h : block_ReadAll x_0 at_1 n_2 s = some r) :
    CSpec Try.prog W 62 [IfH.v vx_0, .int .i64 at_1, .int .i64 n_2] [DevP bs x_0 vx_0, Arr bs s] (fun x : Sl3 => .tuple #[x.v, .int .i64 r.2]) (fun _ => True) (fun x F => DevP bs x_0 vx_0 :: Arr bs s :: sl tyU x.v r.1 :: F) := by
 refine CSpec.of_body Try.func62 rfl Try.ntmps62 rfl fun F => ?_
 show CJ _ _ _ _ _ _ (_ :: _ :: F)
 unfold block_ReadAll at h
 refine sR <| oA rfl rfl <| oA rfl rfl <| nT <| CJ_seq <| sR <| oM rfl rfl <| RJ_pure (fun h hh => DevP_dep h (stars_perm (del0 (A := DevP bs x_0 vx_0)).out h hh)) fun hdp1 => ?_
 obtain ⟨r2, hr3, h⟩ := bind_e h
 refine oO <| O_callI rfl (dev_Size hr3 hdp1) rfl (Dels.cons del0 (Dels.cons del0 Dels.nil)) rfl fun _ _ => oM rfl rfl <| oM rfl rfl ?_
 obtain ⟨r4, hr5, h⟩ := bind_e h
 refine oO <| O_call (L_block_inside hr5) rfl Try.call88 Dels.nil rfl fun _ _ => oP (P_not rfl) rfl <| nT <| CJ_condP rfl (bT_not Iff.rfl) (fun hg1 => ?_) (fun hg1 => ?_)
 ·
  replace h := ite_t hg1 h
  refine sR <| oA rfl rfl <| oA rfl rfl <| nT <| CJ_ret <| QJ_then_ret <| QJ_ent (fun h hh => sl_nil (t := tyU) h hh) ?_
  cases h
  exact fE (res2 Try.results62 rfl rfl) ⟨none, 0, 0⟩ (t1_ (t1_ eR))
 ·
  replace h := ite_f hg1 h
  refine kT <| sR <| oA rfl rfl <| nT <| CJ_seq <| sR <| oM rfl rfl <| oM rfl rfl <| nT <| CJ_ent (fun h hh => sl_nil (t := tyU) h hh) ?_
  obtain ⟨y10, hl8, hK9⟩ := seq_e h
  refine CJ_cutT (X := (List UInt64) × Sl3) [6, 7, 8, 9, 10, 11, 19, 20, 21, 22, 23, 24, 25, 26, 27, 28, 29, 30, 31, 32, 33, 34, 35, 36, 37] (fun ⟨a13, hd12⟩ => ([(8, hd12.v)] : Slots)) (fun ⟨a13, hd12⟩ R => sl tyU hd12.v a13 :: R) (fun ⟨a13, hd12⟩ => y10 = .inl a13) (Dels.cons del0 Dels.nil) ?_ ?_
  ·
   refine CJ_block <| CJ_loopR (X := Nat × Nat × (List UInt64) × Sl3) [6, 7, 8, 9, 10, 11, 19, 20, 21, 22, 23, 24, 25, 26, 27, 28, 29, 30, 31, 32, 33, 34, 35, 36, 37] (fun ⟨n, x14, x15, hd16⟩ => ([(8, hd16.v), (19, .int .i64 (((x14 : Nat) : Int)))] : Slots)) (fun ⟨n, x14, x15, hd16⟩ R => sl tyU hd16.v x15 :: R) (fun ⟨n, x14, x15, hd16⟩ => block_ReadAll_l1 x_0 at_1 n_2 s n x14 x15 = some y10) (fun ⟨n, x14, x15, hd16⟩ => n) ⟨FUEL, 0, [], ⟨none, 0, 0⟩⟩ ?_ ?_ eR ?_
   · exact hl8
   · exact ⟨rfl, rfl, True.intro⟩
   ·
    rintro ⟨n, x14, x15, hd16⟩ h
    cases n with
    | zero => exact none_e h
    | succ n => ?_
    replace h : block_ReadAll_l1_b x_0 at_1 n_2 s (block_ReadAll_l1 x_0 at_1 n_2 s n) x14 x15 = some y10 := h
    unfold block_ReadAll_l1_b at h
    show CJ _ _ _ _ _ (([(8, hd16.v), (19, .int .i64 (((x14 : Nat) : Int)))] : Slots) ++ forget _ _) (sl tyU hd16.v x15 :: _)
    refine lC del0 fun hlen17 => sR <| oP (P_lss (a := ((x14 : Nat) : Int)) (b := n_2) rfl rfl) rfl <| nT <| CJ_seq <| CJ_condP rfl bT_dec (fun hg2 => ?_) (fun hg2 => ?_)
    ·
     replace h := ite_t hg2 h
     refine kT <| CJ_seq <| CJ_block <| sR <| oM rfl rfl <| oA rfl rfl <| nT <| sR <| oM rfl rfl <| oM rfl rfl <| oM rfl rfl ?_
     obtain ⟨hg3, h⟩ := grd_Ie h
     refine oP (P_add (a := at_1) (b := ((x14 : Nat) : Int)) rfl rfl hg3) rfl <| RJ_pure (fun h hh => DevP_dep h (stars_perm (del1 (A := DevP bs x_0 vx_0)).out h hh)) fun hdp18 => ?_
     obtain ⟨r19, hr20, h⟩ := bind_e h
     refine oO <| O_callI rfl (dev_Read hr20 hdp18) rfl (Dels.cons del1 (Dels.cons del1 Dels.nil)) rfl fun _ _ => oM rfl rfl <| oP (P_extract rfl rfl) rfl <| oP (P_extract rfl rfl) rfl <| oA rfl rfl <| oA rfl rfl <| nT <| CJ_seq <| sR <| oM rfl rfl <| oP (P_neq (a := r19.2) (b := (0 : Int)) rfl rfl) rfl <| nT <| CJ_condP rfl bT_dec (fun hg4 => ?_) (fun hg4 => ?_)
     ·
      replace h := ite_t hg4 h
      refine sR <| oM rfl rfl <| oA rfl rfl <| oA rfl rfl <| nT <| CJ_ret <| QJ_then_ret <| QJ_block_ret <| QJ_then_ret <| QJ_round_ret <| QJ_block_ret <| QJ_then_ret <| QJ_ent (fun h hh => sl_nil (t := tyU) h hh) ?_
      have hE := Option.some.inj h
      replace hE := seq_inr hK9 hE.symm
      subst hE
      exact fE (res2 Try.results62 rfl rfl) ⟨none, 0, 0⟩ (t1_ (t1_ (t0_ (eD eR))))
     ·
      replace h := ite_f hg4 h
      refine kT <| CJ_region <| oM rfl rfl <| oM rfl rfl <| oO <| O_buildSlice rfl (bs_29_1_0 _) rfl fun b22 => ?_
      obtain ⟨hg5, h⟩ := grd_Le h
      refine oO <| O_append (t := tyU) (bytes := 8) rfl rfl del3 foc0 (Reads.lit (t := tyU) (ys := [r19.1]) rfl rfl (by decide) (by decide) rfl) Try.underlying29 ok_tyU (apl (m := 1) (b := 8) hg5 (by decide)).1 (apl (m := 1) (b := 8) hg5 (by decide)).2 rfl fun p24 c25 => oA rfl rfl <| RJ_nil <| QJ_block_normal <| QJ_then <| CJ_region ?_
      obtain ⟨hg6, h⟩ := grd_Ne h
      exact oP (PJ_eq (P_add (a := ((x14 : Nat) : Int)) (b := (1 : Int)) rfl rfl (nat_in hg6)) rfl) rfl <| oM rfl rfl <| RJ_nil <| nR ⟨n, (x14 + 1), (x15 ++ [r19.1]), ⟨p24, (x15 ++ [r19.1]).length, c25⟩⟩ h ⟨rfl, rfl, True.intro⟩ (t0_ (t1_ (t1_ (eD eR))))
    ·
     replace h := ite_f hg2 h
     exact CJ_exit <| QJ_then_exit <| QJ_round_exit <| QJ_block_here <| cR ⟨x15, hd16⟩ (Option.some.inj h).symm ⟨rfl, True.intro⟩ eR
  ·
   rintro ⟨a13, hd12⟩ hy26
   replace h := seq_inl hK9 hy26
   show CJ _ _ _ _ _ (([(8, hd12.v)] : Slots) ++ forget _ _) (sl tyU hd12.v a13 :: _)
   refine lC del0 fun hlen27 => sR <| oM rfl rfl <| oA rfl rfl <| oA rfl rfl <| nT <| CJ_ret ?_
   cases h
   exact fE (res2 Try.results62 rfl rfl) hd12 (t1_ (t1_ eR))
end Go.Proofs
set_option linter.unusedSimpArgs false
set_option linter.unusedVariables false
set_option maxRecDepth 20000
set_option maxHeartbeats 4000000
namespace Go.Proofs
open Go.VG
@[ext] structure api_Copy where
  Valid : Bool
  Seq : Int
  Text : ByteArray
  deriving DecidableEq
abbrev tyapi_Copy : Ty api_Copy := { T := 34, sz := 3, enc := fun x => [.bool x.Valid, .int .i64 x.Seq, .string x.Text], dflt := ⟨false, 0, ByteArray.empty⟩, len := fun _ => rfl, one := fun _ => rfl, pos := by decide }
theorem ok_tyapi_Copy : ElemOk Try.prog tyapi_Copy 32 := ⟨Try.t34, .agg #[.bool false, .int .i64 0, .string ByteArray.empty], by kernel_rfl, rfl, rfl, rfl, rfl⟩
theorem bs_29_3_0_1_2 (v0 : Int) (v1 : Int) (v2 : Int) : BuildsSlice Try.prog 29 3 [(0, .int .u64 v0), (1, .int .u64 v1), (2, .int .u64 v2)] 39 [.int .u64 v0, .int .u64 v1, .int .u64 v2] := fun w => by kernel_rfl
theorem bld_34 : ∀ w, (Instr.build 34 (#[] : Array (Nat × Value))).run Try.prog w = .ok (.agg #[.bool false, .int .i64 (0 : Int), .string ByteArray.empty]) w := fun w => by kernel_rfl
theorem bld_34_1 (v0 : Int) : ∀ w, (Instr.build 34 (#[(1, .int .i64 v0)] : Array (Nat × Value))).run Try.prog w = .ok (.agg #[.bool false, .int .i64 v0, .string ByteArray.empty]) w := fun w => by kernel_rfl
theorem bld_34_0_1_2 (v0 : Bool) (v1 : Int) (v2 : ByteArray) : ∀ w, (Instr.build 34 (#[(0, .bool v0), (1, .int .i64 v1), (2, .string v2)] : Array (Nat × Value))).run Try.prog w = .ok (.agg #[.bool v0, .int .i64 v1, .string v2]) w := fun w => by kernel_rfl
end Go.Proofs
set_option linter.unusedSimpArgs false
set_option linter.unusedVariables false
set_option maxRecDepth 20000
set_option maxHeartbeats 4000000
namespace Go.Proofs
open Go.VG
@[ext] structure ring_parts where
  seq : Int
  start : Int
  length : Int
  sum : Int
  deriving DecidableEq
theorem bld_96 : ∀ w, (Instr.build 96 (#[] : Array (Nat × Value))).run Try.prog w = .ok (.agg #[.nilIface, .int .i64 (0 : Int)]) w := fun w => by kernel_rfl
theorem bld_96_0_1 (v0 : TypeId) (v1 : Value) (v2 : Int) : ∀ w, (Instr.build 96 (#[(0, .iface v0 v1), (1, .int .i64 v2)] : Array (Nat × Value))).run Try.prog w = .ok (.agg #[.iface v0 v1, .int .i64 v2]) w := fun w => by kernel_rfl
theorem bs_38_4_0_1_2_3 (v0 : Int) (v1 : Int) (v2 : Int) (v3 : Int) : BuildsSlice Try.prog 38 4 [(0, .int .i64 v0), (1, .int .i64 v1), (2, .int .i64 v2), (3, .int .i64 v3)] 3 [.int .i64 v0, .int .i64 v1, .int .i64 v2, .int .i64 v3] := fun w => by kernel_rfl
theorem bld_103_0_1_2_3 (v0 : Int) (v1 : Int) (v2 : Int) (v3 : Int) : ∀ w, (Instr.build 103 (#[(0, .int .i64 v0), (1, .int .i64 v1), (2, .int .i64 v2), (3, .int .i64 v3)] : Array (Nat × Value))).run Try.prog w = .ok (.agg #[.int .i64 v0, .int .i64 v1, .int .i64 v2, .int .i64 v3]) w := fun w => by kernel_rfl
theorem fld_103_0 (v0 : Int) (v1 : Int) (v2 : Int) (v3 : Int) : ∀ w, (Instr.field 103 (.agg #[.int .i64 v0, .int .i64 v1, .int .i64 v2, .int .i64 v3]) 0).run Try.prog w = .ok (.int .i64 v0) w := fun w => by kernel_rfl
theorem bld_103_0_1_2 (v0 : Int) (v1 : Int) (v2 : Int) : ∀ w, (Instr.build 103 (#[(0, .int .i64 v0), (1, .int .i64 v1), (2, .int .i64 v2)] : Array (Nat × Value))).run Try.prog w = .ok (.agg #[.int .i64 v0, .int .i64 v1, .int .i64 v2, .int .i64 (0 : Int)]) w := fun w => by kernel_rfl
theorem bs_29_4_0_1_2_3 (v0 : Int) (v1 : Int) (v2 : Int) (v3 : Int) : BuildsSlice Try.prog 29 4 [(0, .int .u64 v0), (1, .int .u64 v1), (2, .int .u64 v2), (3, .int .u64 v3)] 39 [.int .u64 v0, .int .u64 v1, .int .u64 v2, .int .u64 v3] := fun w => by kernel_rfl
def ring_open (x_0 : Dvc) (s : ArrS) : Option ((Option Dvc) × Int × Nat) :=
  Option.bind (Dvc.size x_0 s) fun r3 =>
  if (r3 < (4 : Int)) then
    some ((none, (0 : Int), 3))
  else
    Option.bind (Dvc.size x_0 s) fun r7 =>
    grd (inI64 ((r7 - (2 : Int)))) <|
    some (((some x_0), (min ((r7 - (2 : Int))) (65535 : Int)), 0))
theorem L_ring_open {W : World} {vx_0 : IfH} {bs : Nat} {x_0 : Dvc} {s : ArrS} {r : (Option Dvc) × Int × Nat} (h : ring_open x_0 s = some r) :
    CSpec Try.prog W 54 [IfH.v vx_0] [DevP bs x_0 vx_0, Arr bs s] (fun x : IfH => .tuple #[.agg #[oif r.1 x, .int .i64 r.2.1], .int .i64 (((r.2.2 : Nat) : Int))]) (fun _ => True) (fun x F => DevP bs x_0 vx_0 :: Arr bs s :: optP (DevP bs · x) r.1 :: F) := by
 refine CSpec.of_body Try.func54 rfl Try.ntmps54 rfl fun F => ?_
 show CJ _ _ _ _ _ _ (_ :: _ :: F)
 unfold ring_open at h
 refine sR <| oO <| O_alloc Try.zeroValue96 rfl rfl fun b1 => oA rfl rfl <| nT <| CJ_seq <| sR <| oM rfl rfl <| RJ_pure (fun h hh => DevP_dep h (stars_perm (del1 (A := DevP bs x_0 vx_0)).out h hh)) fun hdp2 => ?_
 obtain ⟨r3, hr4, h⟩ := bind_e h
 refine oO <| O_callI rfl (dev_Size hr4 hdp2) rfl (Dels.cons del1 (Dels.cons del1 Dels.nil)) rfl fun _ _ => oP (P_lss (a := r3) (b := (4 : Int)) rfl rfl) rfl <| nT <| CJ_condP rfl bT_dec (fun hg1 => ?_) (fun hg1 => ?_)
 ·
  replace h := ite_t hg1 h
  refine sR <| oP (P_build rfl (bld_96)) rfl <| oO <| O_storeN rfl rfl foc2 Try.sizeOf96 rfl rfl rfl <| oA rfl rfl <| nT <| CJ_ret <| QJ_then_ret <| QJ_ent (fun h hh => optP_none (f := (DevP bs · ⟨0, .bool false⟩)) h hh) ?_
  cases h
  exact fE (resA2 Try.results54 (RV_cellN rfl foc3 Try.isAgg96 Try.sizeOf96 rfl rfl) (RV_tmp rfl)) ⟨0, .bool false⟩ (t1_ (t1_ (t0_ (eD eR))))
 ·
  replace h := ite_f hg1 h
  refine kT <| sR <| oM rfl rfl <| oM rfl rfl <| RJ_pure (fun h hh => DevP_dep h (stars_perm (del0 (A := DevP bs x_0 vx_0)).out h hh)) fun hdp6 => ?_
  obtain ⟨r7, hr8, h⟩ := bind_e h
  refine oO <| O_callI rfl (dev_Size hr8 hdp6) rfl (Dels.cons del0 (Dels.cons del0 Dels.nil)) rfl fun _ _ => ?_
  obtain ⟨hg2, h⟩ := grd_Ie h
  refine oP (P_sub (a := r7) (b := (2 : Int)) rfl rfl hg2) rfl <| oP (P_min (a := (r7 - (2 : Int))) (b := (65535 : Int)) rfl rfl) rfl <| oP (P_build rfl (bld_96_0_1 _ _ _)) rfl <| oO <| O_storeN rfl rfl foc2 Try.sizeOf96 rfl rfl rfl <| oA rfl rfl <| nT <| CJ_ret <| QJ_ent (Ent.trans (t0_ eR) (fun h hh => stars_dup Dup_DevP hh)) <| QJ_ent (Ent.takeC (A' := optP (DevP bs · vx_0) (some x_0)) del0 rfl eR) ?_
  cases h
  exact fE (resA2 Try.results54 (RV_cellN rfl foc3 Try.isAgg96 Try.sizeOf96 rfl rfl) (RV_tmp rfl)) vx_0 (t1_ (t1_ (t0_ (eD eR))))
def ring_area_put (a_Device : Dvc) (a_places : Int) (sector : Int) (d : UInt64) (s : ArrS) : Option (Int × ArrS) :=
  Option.bind (Dvc.wr a_Device s sector d) fun r3 =>
  if (r3.1 ≠ (0 : Int)) then
    some (r3.1, r3.2)
  else
    Option.bind (Dvc.fl a_Device r3.2) fun r6 =>
    some (r6.1, r6.2)
theorem L_ring_area_put {W : World} {va_Device : IfH} {bs : Nat} {a_Device : Dvc} {a_places : Int} {sector : Int} {d : UInt64} {s : ArrS} {r : Int × ArrS} (h : ring_area_put a_Device a_places sector d s = some r) :
    CSpec Try.prog W 60 [.agg #[IfH.v va_Device, .int .i64 a_places], .int .i64 sector, .int .u64 (d.toNat : Int)] [DevP bs a_Device va_Device, Arr bs s] (fun x : Unit => .int .i64 r.1) (fun _ => True) (fun x F => DevP bs a_Device va_Device :: Arr bs r.2 :: F) := by
 refine CSpec.of_body Try.func60 rfl Try.ntmps60 rfl fun F => ?_
 show CJ _ _ _ _ _ _ (_ :: _ :: F)
 unfold ring_area_put at h
 refine sR <| oO <| O_box rfl rfl rfl fun b1 => oA rfl rfl <| nT <| CJ_seq <| sR <| oP (P_fieldAddr rfl ⟨_, _, _, Try.runUnderlying96, rfl, rfl, Try.sizeOf26, rfl⟩) rfl <| oV (V_load rfl foc0 rfl Try.isAgg26) rfl <| oM rfl rfl <| oM rfl rfl <| RJ_pure (fun h hh => DevP_dep h (stars_perm (del1 (A := DevP bs a_Device va_Device)).out h hh)) fun hdp2 => ?_
 obtain ⟨r3, hr4, h⟩ := bind_e h
 refine oO <| O_callI rfl (dev_Write hr4 hdp2) rfl (Dels.cons del1 (Dels.cons del1 Dels.nil)) rfl fun _ _ => oA rfl rfl <| nT <| sR <| oM rfl rfl <| oP (P_neq (a := r3.1) (b := (0 : Int)) rfl rfl) rfl <| nT <| CJ_condP rfl bT_dec (fun hg1 => ?_) (fun hg1 => ?_)
 ·
  replace h := ite_t hg1 h
  refine sR <| oM rfl rfl <| oA rfl rfl <| nT <| CJ_ret <| QJ_then_ret ?_
  cases h
  exact fE (res1 Try.results60 rfl) () (t0_ (t0_ (eD eR)))
 ·
  replace h := ite_f hg1 h
  refine kT <| sR <| oP (P_fieldAddr rfl ⟨_, _, _, Try.runUnderlying96, rfl, rfl, Try.sizeOf26, rfl⟩) rfl <| oV (V_load rfl foc2 rfl Try.isAgg26) rfl <| RJ_pure (fun h hh => DevP_dep h (stars_perm (del0 (A := DevP bs a_Device va_Device)).out h hh)) fun hdp5 => ?_
  obtain ⟨r6, hr7, h⟩ := bind_e h
  refine oO <| O_callI rfl (dev_Flush hr7 hdp5) rfl (Dels.cons del0 (Dels.cons del0 Dels.nil)) rfl fun _ _ => oA rfl rfl <| nT <| CJ_ret ?_
  cases h
  exact fE (res1 Try.results60 rfl) () (t0_ (t0_ (eD eR)))
def ring_Clear (x_0 : Dvc) (s : ArrS) : Option (Int × ArrS) :=
  Option.bind (ring_open x_0 s) fun r1 =>
  if (((r1.2.2 : Nat) : Int) ≠ (0 : Int)) then
    some ((((r1.2.2 : Nat) : Int), s))
  else
    Option.elim r1.1 (
      none) fun o7 =>
    Option.bind (ring_area_put o7 r1.2.1 (0 : Int) (0 : UInt64) s) fun r8 =>
    some (r8.1, r8.2)
theorem L_ring_Clear {W : World} {vx_0 : IfH} {bs : Nat} {x_0 : Dvc} {s : ArrS} {r : Int × ArrS} (h : ring_Clear x_0 s = some r) :
    CSpec Try.prog W 29 [IfH.v vx_0] [DevP bs x_0 vx_0, Arr bs s] (fun x : Unit => .int .i64 r.1) (fun _ => True) (fun x F => DevP bs x_0 vx_0 :: Arr bs r.2 :: F) := by
 refine CSpec.of_body Try.func29 rfl Try.ntmps29 rfl fun F => ?_
 show CJ _ _ _ _ _ _ (_ :: _ :: F)
 unfold ring_Clear at h
 refine sR <| oA rfl rfl <| nT <| sR <| oM rfl rfl ?_
 obtain ⟨r1, hr2, h⟩ := bind_e h
 refine oO <| O_call (L_ring_open hr2) rfl Try.call54 (Dels.cons del0 (Dels.cons del0 Dels.nil)) rfl fun X3 _ => oM rfl rfl <| oP (P_extract rfl rfl) rfl <| oP (P_extract rfl rfl) rfl <| oO <| O_alloc Try.zeroValue96 rfl rfl fun b5 => oO <| O_storeN rfl rfl foc0 Try.sizeOf96 rfl rfl (by simp only [allOne, oneCell_oval, oneCell_oif, oneCell_oifc, Bool.true_and]; rfl) <| oA rfl rfl <| nT <| CJ_seq <| sR <| oM rfl rfl <| oP (P_neq (a := ((r1.2.2 : Nat) : Int)) (b := (0 : Int)) rfl rfl) rfl <| nT <| CJ_condP rfl bT_dec (fun hg1 => ?_) (fun hg1 => ?_)
 ·
  replace h := ite_t hg1 h
  refine sR <| oM rfl rfl <| oA rfl rfl <| nT <| CJ_ret <| QJ_then_ret ?_
  cases h
  exact fE (res1 Try.results29 rfl) () (t1_ (t1_ (eD (eD eR))))
 ·
  replace h := ite_f hg1 h
  refine kT <| sR <| oV (V_loadN rfl foc0 Try.isAgg96 Try.sizeOf96 rfl rfl) rfl ?_
  rcases opt_e h with ⟨ht6, h⟩ | ⟨o7, ht6, h⟩
  ·
   rw [ht6]
   exact RJ_ent (t0_ (t0_ (t0_ (eD eR)))) <| none_e h
  ·
   rw [ht6]
   refine RJ_ent (Ent.takeC (A' := DevP bs o7 X3) del3 rfl eR) ?_
   obtain ⟨r8, hr9, h⟩ := bind_e h
   refine oO <| O_call (L_ring_area_put hr9) rfl Try.call60 (Dels.cons del0 (Dels.cons del2 Dels.nil)) rfl fun _ _ => oA rfl rfl <| nT <| CJ_ret ?_
   cases h
   exact fE (res1 Try.results29 rfl) () (t3_ (t1_ (eD (eD eR))))
def ring_widths : Option ((List Int)) :=
  some ([(20 : Int), (16 : Int), (12 : Int), (16 : Int)])
theorem L_ring_widths {W : World} {r : (List Int)} (h : ring_widths = some r) :
    CSpec Try.prog W 83 [] [] (fun x : Sl3 => x.v) (fun _ => True) (fun x F => sl tyI x.v r :: F) := by
 refine CSpec.of_body Try.func83 rfl Try.ntmps83 rfl fun F => ?_
 show CJ _ _ _ _ _ _ (F)
 unfold ring_widths at h
 refine sR <| oA rfl rfl <| nT <| sR <| oO <| O_buildSlice rfl (bs_38_4_0_1_2_3 _ _ _ _) rfl fun b1 => RJ_ent (Ent.trans (t0_ eR) (sl_of_lit (t := tyI) (m := 4) [(20 : Int), (16 : Int), (12 : Int), (16 : Int)] rfl rfl rfl (by decide))) <| oA rfl rfl <| nT <| CJ_ret ?_
 cases h
 exact fE (res1 Try.results83 rfl) ⟨some ⟨b1, 0, none⟩, 4, 4⟩ eR
def ring_descriptor_parts (d : UInt64) : Option (ring_parts) :=
  Option.bind (ring_widths) fun r2 =>
  Option.bind (pack_Split d r2) fun r6 =>
  grd (decide (0 < r6.1.length)) <|
  grd (decide (1 < r6.1.length)) <|
  grd (decide (2 < r6.1.length)) <|
  grd (decide (3 < r6.1.length)) <|
  some ((⟨(IntKind.i64.wrap ((r6.1.getD 0 0).toNat : Int)), (IntKind.i64.wrap ((r6.1.getD 1 0).toNat : Int)), (IntKind.i64.wrap ((r6.1.getD 2 0).toNat : Int)), (IntKind.i64.wrap ((r6.1.getD 3 0).toNat : Int))⟩ : ring_parts))
theorem L_ring_descriptor_parts {W : World} {d : UInt64} {r : ring_parts} (h : ring_descriptor_parts d = some r) :
    CSpec Try.prog W 57 [.int .u64 (d.toNat : Int)] [] (fun x : Unit => .agg #[.int .i64 r.seq, .int .i64 r.start, .int .i64 r.length, .int .i64 r.sum]) (fun _ => True) (fun x F => F) := by
 refine CSpec.of_body Try.func57 rfl Try.ntmps57 rfl fun F => ?_
 show CJ _ _ _ _ _ _ (F)
 unfold ring_descriptor_parts at h
 refine sR <| oO <| O_alloc Try.zeroValue103 rfl rfl fun b1 => nT <| sR <| oM rfl rfl ?_
 obtain ⟨r2, hr3, h⟩ := bind_e h
 refine oO <| O_call (L_ring_widths hr3) rfl Try.call83 Dels.nil rfl fun X4 _ => ?_
 obtain ⟨r6, hr7, h⟩ := bind_e h
 refine oO <| O_call (L_pack_Split (Reads.sl _ _ _) hr7) rfl Try.call82 (Dels.cons del0 Dels.nil) rfl fun X8 _ => oM rfl rfl <| oP (P_extract (v := X8.v) rfl rfl) rfl <| oP (P_extract rfl rfl) rfl <| oA rfl rfl <| oA rfl rfl <| nT <| CJ_seq <| AJ_startH 131072 (by kernel_rfl) rfl <| aN 0 1 rfl rfl (P_move rfl) rfl ?_
 obtain ⟨hg1, h⟩ := grd_de h
 refine aV 1 3 rfl rfl (GY_none rfl) eR (V_index (i := 0) rfl rfl rfl hg1 foc1 (Reads.sl _ _ _) Try.runUnderlying29 Try.sizeOf39) rfl <| aV 2 7 rfl rfl (GY_none rfl) eR (V_loadE rfl rfl hg1 foc1 (Reads.sl _ _ _) rfl rfl Try.isAgg39) rfl <| aN 3 15 rfl rfl (P_conv rfl Try.runUnderlying39 Try.runUnderlying3) rfl <| aN 4 31 rfl rfl (P_move rfl) rfl ?_
 obtain ⟨hg2, h⟩ := grd_de h
 refine aV 5 63 rfl rfl (GY_none rfl) eR (V_index (i := 1) rfl rfl rfl hg2 foc1 (Reads.sl _ _ _) Try.runUnderlying29 Try.sizeOf39) rfl <| aV 6 127 rfl rfl (GY_none rfl) eR (V_loadE rfl rfl hg2 foc1 (Reads.sl _ _ _) rfl rfl Try.isAgg39) rfl <| aN 7 255 rfl rfl (P_conv rfl Try.runUnderlying39 Try.runUnderlying3) rfl <| aN 8 511 rfl rfl (P_move rfl) rfl ?_
 obtain ⟨hg3, h⟩ := grd_de h
 refine aV 9 1023 rfl rfl (GY_none rfl) eR (V_index (i := 2) rfl rfl rfl hg3 foc1 (Reads.sl _ _ _) Try.runUnderlying29 Try.sizeOf39) rfl <| aV 10 2047 rfl rfl (GY_none rfl) eR (V_loadE rfl rfl hg3 foc1 (Reads.sl _ _ _) rfl rfl Try.isAgg39) rfl <| aN 11 4095 rfl rfl (P_conv rfl Try.runUnderlying39 Try.runUnderlying3) rfl <| aN 12 8191 rfl rfl (P_move rfl) rfl ?_
 obtain ⟨hg4, h⟩ := grd_de h
 refine aV 13 16383 rfl rfl (GY_none rfl) eR (V_index (i := 3) rfl rfl rfl hg4 foc1 (Reads.sl _ _ _) Try.runUnderlying29 Try.sizeOf39) rfl <| aV 14 32767 rfl rfl (GY_none rfl) eR (V_loadE rfl rfl hg4 foc1 (Reads.sl _ _ _) rfl rfl Try.isAgg39) rfl <| aN 15 65535 rfl rfl (P_conv rfl Try.runUnderlying39 Try.runUnderlying3) rfl <| aN 16 131071 rfl rfl (P_build rfl (bld_103_0_1_2_3 _ _ _ _)) rfl <| AJ_op 17 262143 rfl (by kernel_rfl) rfl (GY_none rfl) <| O_storeN rfl rfl foc2 Try.sizeOf103 rfl rfl rfl <| ⟨fun h => absurd h (by decide), ?_⟩
 refine aD <| CJ_ret ?_
 cases h
 exact fE (resA1 Try.results57 (RV_cellN rfl foc2 Try.isAgg103 Try.sizeOf103 rfl rfl)) () (eD (eD (eD eR)))
def ring_area_sectors (a_Device : Dvc) (a_places : Int) (start : Int) (n_2 : Int) (s : ArrS) : Option (Int × Int × Dvc × Int) :=
  some (n_2, start, a_Device, a_places)
theorem L_ring_area_sectors {W : World} {va_Device : IfH} {bs : Nat} {a_Device : Dvc} {a_places : Int} {start : Int} {n_2 : Int} {s : ArrS} {r : Int × Int × Dvc × Int} (h : ring_area_sectors a_Device a_places start n_2 s = some r) :
    CSpec Try.prog W 59 [.agg #[IfH.v va_Device, .int .i64 a_places], .int .i64 start, .int .i64 n_2] [DevP bs a_Device va_Device, Arr bs s] (fun x : Nat × Nat × Nat × IfH => .func (.func 86) #[] #[ptr x.1 0, ptr x.2.1 0, ptr x.2.2.1 0]) (fun _ => True) (fun x F => DevP bs a_Device va_Device :: Arr bs s :: blk x.1 3 [.int .i64 r.1] :: blk x.2.1 3 [.int .i64 r.2.1] :: blk x.2.2.1 96 [IfH.v x.2.2.2, .int .i64 r.2.2.2] :: DevP bs r.2.2.1 x.2.2.2 :: F) := by
 refine CSpec.of_body Try.func59 rfl Try.ntmps59 rfl fun F => ?_
 show CJ _ _ _ _ _ _ (_ :: _ :: F)
 unfold ring_area_sectors at h
 refine sR <| oO <| O_box rfl rfl rfl fun b1 => oO <| O_box rfl rfl rfl fun b2 => oO <| O_box rfl rfl rfl fun b3 => oA rfl rfl <| nT <| sR <| oP (P_makeFunc rfl rfl) rfl <| oA rfl rfl <| nT <| CJ_ret <| QJ_ent (Ent.trans (t3_ eR) (fun h hh => stars_dup Dup_DevP hh)) ?_
 cases h
 exact fE (res1 Try.results59 rfl) ⟨b3, b2, b1, va_Device⟩ (t1_ (t4_ (t1_ (t1_ (t1_ eR)))))
def ring_parts_check (p : ring_parts) (words : List UInt64) : Option (Int) :=
  grd (inLen (([(to_u64 p.seq), (to_u64 p.start), (to_u64 p.length)]).length + words.length)) <|
  Option.bind (checksum_Words (([(to_u64 p.seq), (to_u64 p.start), (to_u64 p.length)] ++ words))) fun r7 =>
  Option.bind (checksum_Short r7) fun r9 =>
  some (((r9.toNat : Nat) : Int))
theorem L_ring_parts_check {W : World} {Awords : HP} {vwords : Value} {p : ring_parts} {words : List UInt64} {r : Int} (rwords : Reads Awords tyU vwords words) (h : ring_parts_check p words = some r) :
    CSpec Try.prog W 58 [.agg #[.int .i64 p.seq, .int .i64 p.start, .int .i64 p.length, .int .i64 p.sum], vwords] [Awords] (fun x : Unit => .int .i64 r) (fun _ => True) (fun x F => Awords :: F) := by
 refine CSpec.of_body Try.func58 rfl Try.ntmps58 rfl fun F => ?_
 show CJ _ _ _ _ _ _ (_ :: F)
 unfold ring_parts_check at h
 refine CJ_pure (len_of rwords del0) fun hlen1 => sR <| oO <| O_box rfl rfl rfl fun b2 => oA rfl rfl <| nT <| sR <| oP (P_fieldAddr rfl ⟨_, _, _, Try.runUnderlying103, rfl, rfl, Try.sizeOf3, rfl⟩) rfl <| oV (V_load rfl foc0 rfl Try.isAgg3) rfl <| oP (P_conv_u64 (a := p.seq) rfl Try.runUnderlying3 Try.runUnderlying39) rfl <| oP (P_fieldAddr rfl ⟨_, _, _, Try.runUnderlying103, rfl, rfl, Try.sizeOf3, rfl⟩) rfl <| oV (V_load rfl foc0 rfl Try.isAgg3) rfl <| oP (P_conv_u64 (a := p.start) rfl Try.runUnderlying3 Try.runUnderlying39) rfl <| oP (P_fieldAddr rfl ⟨_, _, _, Try.runUnderlying103, rfl, rfl, Try.sizeOf3, rfl⟩) rfl <| oV (V_load rfl foc0 rfl Try.isAgg3) rfl <| oP (P_conv_u64 (a := p.length) rfl Try.runUnderlying3 Try.runUnderlying39) rfl <| oO <| O_buildSlice rfl (bs_29_3_0_1_2 _ _ _) rfl fun b3 => RJ_ent (Ent.trans (t0_ eR) (sl_of_lit (t := tyU) (m := 3) [(to_u64 p.seq), (to_u64 p.start), (to_u64 p.length)] rfl rfl rfl (by decide))) <| oM rfl rfl ?_
 obtain ⟨hg1, h⟩ := grd_Le h
 refine oO <| O_append (t := tyU) (bytes := 8) rfl rfl del0 foc1 rwords Try.underlying29 ok_tyU (apl (m := words.length) (b := 8) hg1 (by decide)).1 (apl (m := words.length) (b := 8) hg1 (by decide)).2 rfl fun p5 c6 => oA rfl rfl <| nT <| sR <| oM rfl rfl ?_
 obtain ⟨r7, hr8, h⟩ := bind_e h
 refine oO <| O_call (L_checksum_Words (Reads.sl _ _ _) hr8) rfl Try.call85 (Dels.cons del0 Dels.nil) rfl fun _ _ => ?_
 obtain ⟨r9, hr10, h⟩ := bind_e h
 refine oO <| O_call (L_checksum_Short hr10) rfl Try.call84 Dels.nil rfl fun _ _ => oP (P_convSame rfl Try.runUnderlying71 Try.runUnderlying3 (wrap64_u _ (by have h9 := r9.toNat_lt; exact (by omega : r9.toNat < 9223372036854775808)))) rfl <| oA rfl rfl <| nT <| CJ_ret ?_
 cases h
 exact fE (res1 Try.results58 rfl) () (t2_ (eD (eD eR)))
def ring_area_text_l1_b (a_Device : Dvc) (s : ArrS) (rec : (List UInt64) → Option (((List UInt64)) ⊕ (Int × ByteArray × (List UInt64)))) (e43 : (Int × Int)) (a48 : (List UInt64)) : Option (((List UInt64)) ⊕ (Int × ByteArray × (List UInt64))) :=
  Option.bind (Dvc.rd a_Device s e43.2) fun r60 =>
  if (r60.2 ≠ (0 : Int)) then
    some (.inr ((r60.2, (ByteArray.mk #[]), a48)))
  else
    grd (decide (0 ≤ e43.1 ∧ e43.1 < (a48.length : Int))) <|
    rec ((a48.set ((e43.1).toNat) r60.1))
def ring_area_text_l1 (a_Device : Dvc) (s : ArrS) : List (Int × Int) → (List UInt64) → Option (((List UInt64)) ⊕ (Int × ByteArray × (List UInt64)))
  | [], a48 => some (.inl a48)
  | e43 :: bs54, a48 => ring_area_text_l1_b a_Device s (ring_area_text_l1 a_Device s bs54) e43 a48
def ring_area_text (a_Device : Dvc) (a_places : Int) (d : UInt64) (s : ArrS) : Option (ByteArray × Bool × Int) :=
  Option.bind (ring_descriptor_parts d) fun r5 =>
  if ((((r5.seq = (0 : Int)) ∨ (r5.length = (0 : Int))) ∨ (a_places ≤ r5.start)) ∨ (a_places < r5.length)) then
    some (((ByteArray.mk #[]), false, (0 : Int)))
  else
    grd (decide (0 ≤ r5.length ∧ r5.length ≤ 1000000000)) <|
    Option.bind (ring_area_sectors a_Device a_places r5.start r5.length s) fun r36 =>
    grd (decide (0 ≤ r36.2.1 ∧ 0 < r36.2.2.2 ∧ r36.2.1 + r36.1 ≤ 4611686018427387904 ∧ r36.2.2.2 ≤ 4611686018427387904)) <|
    Option.bind (ring_area_text_l1 a_Device s (sectorsL r36.1 r36.2.1 r36.2.2.2) ((List.replicate ((r5.length).toNat) (0 : UInt64)))) fun y47 =>
    selO y47 (fun a48 =>
      Option.bind (pack_FromText a48) fun r64 =>
      if (r64.2 = (0 : Int)) then
        Option.bind (ring_parts_check r5 a48) fun r66 =>
        some ((r64.1, (decide (r66 = r5.sum)), (0 : Int)))
      else
        some ((r64.1, false, (0 : Int)))) (fun z49 =>
      some (z49.2.1, false, z49.1))
theorem L_ring_area_text {W : World} {va_Device : IfH} {bs : Nat} {a_Device : Dvc} {a_places : Int} {d : UInt64} {s : ArrS} {r : ByteArray × Bool × Int} (h : ring_area_text a_Device a_places d s = some r) :
    CSpec Try.prog W 56 [.agg #[IfH.v va_Device, .int .i64 a_places], .int .u64 (d.toNat : Int)] [DevP bs a_Device va_Device, Arr bs s] (fun x : Unit => .tuple #[.string r.1, .bool r.2.1, .int .i64 r.2.2]) (fun _ => True) (fun x F => DevP bs a_Device va_Device :: Arr bs s :: F) := by
  refine CSpec.of_bodyM Try.func56 rfl Try.ntmps56 rfl (fun F => ?_)
  show CJ _ _ _ _ _ _ (_ :: _ :: F)
  unfold ring_area_text at h
  refine CJ_seq ?_
  refine CJ_region ?_
  refine RJ_op rfl (O_box rfl rfl rfl (fun b1 => ?_))
  refine RJ_op rfl (O_alloc Try.zeroValue9 rfl rfl (fun b2 => ?_))
  refine RJ_op rfl (O_alloc Try.zeroValue4 rfl rfl (fun b3 => ?_))
  refine RJ_op rfl (O_alloc Try.zeroValue30 rfl rfl (fun b4 => ?_))
  refine RJ_nil ?_
  refine QJ_then ?_
  refine CJ_seq ?_
  refine CJ_region ?_
  refine RJ_op rfl (OJ_P (P_move rfl) rfl ?_)
  obtain ⟨r5, hr6, h⟩ := bind_e h
  refine RJ_op rfl (O_call (L_ring_descriptor_parts hr6) rfl Try.call57 Dels.nil rfl (fun _ _ => ?_))
  refine RJ_op rfl (O_alloc Try.zeroValue103 rfl rfl (fun b7 => ?_))
  refine RJ_op rfl (O_storeN rfl rfl foc0 Try.sizeOf103 rfl rfl rfl ?_)
  refine RJ_nil ?_
  refine QJ_then ?_
  refine CJ_seq ?_
  refine CJ_seq ?_
  refine CJ_region ?_
  refine RJ_op rfl (OJ_P (P_fieldAddr rfl ⟨_, _, _, Try.runUnderlying103, rfl, rfl, Try.sizeOf3, rfl⟩) rfl ?_)
  refine RJ_op rfl (OJ_V (V_load rfl foc0 rfl Try.isAgg3) rfl ?_)
  refine RJ_op rfl (OJ_P (P_eql (a := r5.seq) (b := (0 : Int)) rfl rfl) rfl ?_)
  refine RJ_op rfl (OJ_P (P_move rfl) rfl ?_)
  refine RJ_mbF rfl rfl rfl (fun hG8 => have hP9 : ¬ (r5.seq = (0 : Int)) := nP (bT_dec) hG8; VJ_P (P_fieldAddr rfl ⟨_, _, _, Try.runUnderlying103, rfl, rfl, Try.sizeOf3, rfl⟩)) ?_
  refine RJ_mbF rfl rfl rfl (fun hG10 => have hP11 : ¬ (r5.seq = (0 : Int)) := nP (bT_dec) hG10; V_load (mbx hG10 rfl) foc0 rfl Try.isAgg3) ?_
  refine RJ_mbF rfl rfl rfl (fun hG12 => have hP13 : ¬ (r5.seq = (0 : Int)) := nP (bT_dec) hG12; VJ_P (P_eql (a := r5.length) (b := (0 : Int)) (mbx hG12 rfl) rfl)) ?_
  refine RJ_op rfl (OJ_P (P_pickOr rfl rfl (fun hh => mbx (not_f hh) rfl)) rfl ?_)
  refine RJ_op rfl (OJ_P (P_move rfl) rfl ?_)
  refine RJ_mbF rfl rfl rfl (fun hG14 => have hP15 : ¬ ((r5.seq = (0 : Int)) ∨ (r5.length = (0 : Int))) := nP ((bT_or bT_dec bT_dec)) hG14; VJ_P (P_fieldAddr rfl ⟨_, _, _, Try.runUnderlying103, rfl, rfl, Try.sizeOf3, rfl⟩)) ?_
  refine RJ_mbF rfl rfl rfl (fun hG16 => have hP17 : ¬ ((r5.seq = (0 : Int)) ∨ (r5.length = (0 : Int))) := nP ((bT_or bT_dec bT_dec)) hG16; V_load (mbx hG16 rfl) foc0 rfl Try.isAgg3) ?_
  refine RJ_mbF rfl rfl rfl (fun hG18 => have hP19 : ¬ ((r5.seq = (0 : Int)) ∨ (r5.length = (0 : Int))) := nP ((bT_or bT_dec bT_dec)) hG18; VJ_P (P_fieldAddr rfl ⟨_, _, _, Try.runUnderlying96, rfl, rfl, Try.sizeOf3, rfl⟩)) ?_
  refine RJ_mbF rfl rfl rfl (fun hG20 => have hP21 : ¬ ((r5.seq = (0 : Int)) ∨ (r5.length = (0 : Int))) := nP ((bT_or bT_dec bT_dec)) hG20; V_load (mbx hG20 rfl) foc4 rfl Try.isAgg3) ?_
  refine RJ_mbF rfl rfl rfl (fun hG22 => have hP23 : ¬ ((r5.seq = (0 : Int)) ∨ (r5.length = (0 : Int))) := nP ((bT_or bT_dec bT_dec)) hG22; VJ_P (P_geq (a := r5.start) (b := a_places) (mbx hG22 rfl) (mbx hG22 rfl))) ?_
  refine RJ_op rfl (OJ_P (P_pickOr rfl rfl (fun hh => mbx (not_f hh) rfl)) rfl ?_)
  refine RJ_op rfl (OJ_P (P_move rfl) rfl ?_)
  refine RJ_mbF rfl rfl rfl (fun hG24 => have hP25 : ¬ (((r5.seq = (0 : Int)) ∨ (r5.length = (0 : Int))) ∨ (a_places ≤ r5.start)) := nP ((bT_or (bT_or bT_dec bT_dec) bT_dec)) hG24; VJ_P (P_fieldAddr rfl ⟨_, _, _, Try.runUnderlying103, rfl, rfl, Try.sizeOf3, rfl⟩)) ?_
  refine RJ_mbF rfl rfl rfl (fun hG26 => have hP27 : ¬ (((r5.seq = (0 : Int)) ∨ (r5.length = (0 : Int))) ∨ (a_places ≤ r5.start)) := nP ((bT_or (bT_or bT_dec bT_dec) bT_dec)) hG26; V_load (mbx hG26 rfl) foc0 rfl Try.isAgg3) ?_
  refine RJ_mbF rfl rfl rfl (fun hG28 => have hP29 : ¬ (((r5.seq = (0 : Int)) ∨ (r5.length = (0 : Int))) ∨ (a_places ≤ r5.start)) := nP ((bT_or (bT_or bT_dec bT_dec) bT_dec)) hG28; VJ_P (P_fieldAddr rfl ⟨_, _, _, Try.runUnderlying96, rfl, rfl, Try.sizeOf3, rfl⟩)) ?_
  refine RJ_mbF rfl rfl rfl (fun hG30 => have hP31 : ¬ (((r5.seq = (0 : Int)) ∨ (r5.length = (0 : Int))) ∨ (a_places ≤ r5.start)) := nP ((bT_or (bT_or bT_dec bT_dec) bT_dec)) hG30; V_load (mbx hG30 rfl) foc4 rfl Try.isAgg3) ?_
  refine RJ_mbF rfl rfl rfl (fun hG32 => have hP33 : ¬ (((r5.seq = (0 : Int)) ∨ (r5.length = (0 : Int))) ∨ (a_places ≤ r5.start)) := nP ((bT_or (bT_or bT_dec bT_dec) bT_dec)) hG32; VJ_P (P_gtr (a := r5.length) (b := a_places) (mbx hG32 rfl) (mbx hG32 rfl))) ?_
  refine RJ_op rfl (OJ_P (P_pickOr rfl rfl (fun hh => mbx (not_f hh) rfl)) rfl ?_)
  refine RJ_nil ?_
  refine QJ_then ?_
  refine CJ_condP rfl (bT_or (bT_or (bT_or bT_dec bT_dec) bT_dec) bT_dec) (fun hg1 => ?_) (fun hg1 => ?_)
  ·
    replace h := ite_t hg1 h
    refine CJ_seq ?_
    refine CJ_region ?_
    refine RJ_op rfl (O_store rfl rfl foc3 rfl rfl Try.sizeOf9 ?_)
    refine RJ_op rfl (O_store rfl rfl foc2 rfl rfl Try.sizeOf4 ?_)
    refine RJ_op rfl (O_store rfl rfl foc1 rfl rfl Try.sizeOf30 ?_)
    refine RJ_nil ?_
    refine QJ_ent (Ent.take del1 (Ent.take del1 (Ent.take del1 (Ent.take del2 (Ent.take del2 (Ent.drop (Ent.drop Ent.refl))))))) ?_
    refine QJ_then ?_
    refine CJ_ret ?_
    refine QJ_then_ret ?_
    have hE := Option.some.inj h
    subst hE
    refine QJ_endM0 (.inl rfl) (resA3 Try.results56 (RV_cell rfl foc2 rfl Try.isAgg9) (RV_cell rfl foc1 rfl Try.isAgg4) (RV_cell rfl foc0 rfl Try.isAgg30)) ?_
    refine CSpec.close () ?_ ?_ (Ent.take del3 (Ent.take del3 (Ent.drop (Ent.drop (Ent.drop Ent.refl)))))
    · rfl
    · trivial
  ·
    replace h := ite_f hg1 h
    refine CJ_skip ?_
    refine QJ_then ?_
    refine CJ_seq ?_
    refine CJ_region ?_
    refine RJ_op rfl (OJ_P (P_fieldAddr rfl ⟨_, _, _, Try.runUnderlying103, rfl, rfl, Try.sizeOf3, rfl⟩) rfl ?_)
    refine RJ_op rfl (OJ_V (V_load rfl foc0 rfl Try.isAgg3) rfl ?_)
    obtain ⟨hg2, h⟩ := grd_de h
    refine RJ_op rfl (O_make (t := tyU) (m := (r5.length).toNat) (x0 := 0) (z := _) (bytes := _) rfl rfl (Int.toNat_of_nonneg (hg2.1)).symm (Int.toNat_of_nonneg (hg2.1)).symm Try.underlying29 ⟨Try.t39, by kernel_rfl, rfl, rfl, rfl⟩ rfl (by omega) (by decide) rfl (fun b34 => ?_))
    refine RJ_op rfl (O_alloc Try.zeroValue29 rfl rfl (fun b35 => ?_))
    refine RJ_op rfl (O_store rfl rfl foc0 rfl rfl Try.sizeOf29 ?_)
    refine RJ_nil ?_
    refine QJ_then ?_
    refine CJ_seq ?_
    refine CJ_seq ?_
    refine CJ_region ?_
    refine RJ_op rfl (OJ_V (V_loadN rfl foc6 Try.isAgg96 Try.sizeOf96 rfl rfl) rfl ?_)
    refine RJ_op rfl (OJ_P (P_fieldAddr rfl ⟨_, _, _, Try.runUnderlying103, rfl, rfl, Try.sizeOf3, rfl⟩) rfl ?_)
    refine RJ_op rfl (OJ_V (V_load rfl foc2 rfl Try.isAgg3) rfl ?_)
    refine RJ_op rfl (OJ_P (P_fieldAddr rfl ⟨_, _, _, Try.runUnderlying103, rfl, rfl, Try.sizeOf3, rfl⟩) rfl ?_)
    refine RJ_op rfl (OJ_V (V_load rfl foc2 rfl Try.isAgg3) rfl ?_)
    obtain ⟨r36, hr37, h⟩ := bind_e h
    refine RJ_op rfl (O_call (L_ring_area_sectors hr37) rfl Try.call59 (Dels.cons del7 (Dels.cons del7 Dels.nil)) rfl (fun X38 _ => ?_))
    refine RJ_nil ?_
    refine QJ_then ?_
    refine CJ_block ?_
    obtain ⟨hg44, h⟩ := grd_de h
    obtain ⟨y47, hl45, hK46⟩ := bind_c h
    refine CJ_range (ps := [48, 49]) (C := (List UInt64)) (Z := Int × ByteArray × (List UInt64)) (ispec_sectors hg44) rfl Try.call86 rfl (fun _ => rfl) (fun a48 R => sl tyU (.slice (some ⟨b34, 0, none⟩) ((r5.length).toNat) ((r5.length).toNat)) a48 :: blk b4 30 [.int .i64 (0 : Int)] :: blk b2 9 [.string ByteArray.empty] :: R) (fun bs54 a48 => ring_area_text_l1 a_Device s bs54 a48 = some y47) (fun z49 R => blk b4 30 [.int .i64 z49.1] :: blk b2 9 [.string z49.2.1] :: sl tyU (.slice (some ⟨b34, 0, none⟩) ((r5.length).toNat) ((r5.length).toNat)) z49.2.2 :: R) (fun z49 => y47 = .inr z49) (List.replicate ((r5.length).toNat) (0 : UInt64)) hl45 (Dels.cons del2 (Dels.cons del2 (Dels.cons del2 Dels.nil))) (Ent.take del4 (Ent.take del5 (Ent.take del6 Ent.refl))) ?_ ?_ ?_
    ·
      rintro l55 Zz bs54 e43 a48 hpre56 h
      replace h : ring_area_text_l1_b a_Device s (ring_area_text_l1 a_Device s bs54) e43 a48 = some y47 := h
      unfold ring_area_text_l1_b at h
      show CJ _ _ _ _ _ (([(49, .int .i64 e43.2), (48, .int .i64 e43.1)] : Slots) ++ _) (Zz :: sl tyU (.slice (some ⟨b34, 0, none⟩) ((r5.length).toNat) ((r5.length).toNat)) a48 :: blk b4 30 [.int .i64 (0 : Int)] :: blk b2 9 [.string ByteArray.empty] :: _)
      refine CJ_pure (len_of (Reads.sl _ _ _) del1) (fun hlen57 => ?_)
      refine CJ_seq ?_
      refine CJ_region ?_
      refine RJ_op rfl (OJ_P (P_assign rfl) rfl ?_)
      refine RJ_nil ?_
      refine QJ_then ?_
      refine CJ_region ?_
      refine RJ_op rfl (OJ_P (P_assign rfl) rfl ?_)
      refine RJ_nil ?_
      refine QJ_begin (fun Zz58 => ?_)
      refine CJ_block ?_
      refine CJ_seq ?_
      refine CJ_region ?_
      refine RJ_op rfl (OJ_P (P_fieldAddr rfl ⟨_, _, _, Try.runUnderlying96, rfl, rfl, Try.sizeOf26, rfl⟩) rfl ?_)
      refine RJ_op rfl (OJ_V (V_load rfl foc10 rfl Try.isAgg26) rfl ?_)
      refine RJ_op rfl (OJ_P (P_move rfl) rfl ?_)
      refine RJ_pure (fun h hh => DevP_dep h (stars_perm (del4 (A := DevP bs a_Device va_Device)).out h hh)) (fun hdp59 => ?_)
      obtain ⟨r60, hr61, h⟩ := bind_e h
      refine RJ_op rfl (O_callI rfl (dev_Read hr61 hdp59) rfl (Dels.cons del4 (Dels.cons del4 Dels.nil)) rfl (fun _ _ => ?_))
      refine RJ_op rfl (OJ_P (P_move rfl) rfl ?_)
      refine RJ_op rfl (OJ_P (P_extract rfl rfl) rfl ?_)
      refine RJ_op rfl (OJ_P (P_extract rfl rfl) rfl ?_)
      refine RJ_op rfl (OJ_P (P_assign rfl) rfl ?_)
      refine RJ_op rfl (OJ_P (P_assign rfl) rfl ?_)
      refine RJ_nil ?_
      refine QJ_then ?_
      refine CJ_seq ?_
      refine CJ_seq ?_
      refine CJ_region ?_
      refine RJ_op rfl (OJ_P (P_move rfl) rfl ?_)
      refine RJ_op rfl (OJ_P (P_neq (a := r60.2) (b := (0 : Int)) rfl rfl) rfl ?_)
      refine RJ_nil ?_
      refine QJ_then ?_
      refine CJ_condP rfl bT_dec (fun hg3 => ?_) (fun hg3 => ?_)
      ·
        replace h := ite_t hg3 h
        refine CJ_seq ?_
        refine CJ_region ?_
        refine RJ_op rfl (OJ_P (P_move rfl) rfl ?_)
        refine RJ_op rfl (O_store rfl rfl foc5 rfl rfl Try.sizeOf9 ?_)
        refine RJ_op rfl (O_store rfl rfl foc9 rfl rfl Try.sizeOf4 ?_)
        refine RJ_op rfl (O_store rfl rfl foc4 rfl rfl Try.sizeOf30 ?_)
        refine RJ_nil ?_
        refine QJ_then ?_
        refine CJ_ret ?_
        refine QJ_then_ret ?_
        refine QJ_block_ret ?_
        refine QJ_rngR (r60.2, (ByteArray.mk #[]), a48) ?_ (Ent.take del2 (Ent.take del3 (Ent.take del3 (Ent.take del2 Ent.refl))))
        exact (Option.some.inj h).symm
      ·
        replace h := ite_f hg3 h
        refine CJ_skip ?_
        refine QJ_then ?_
        refine CJ_region ?_
        refine RJ_op rfl (OJ_V (V_load rfl foc7 rfl Try.isAgg29) rfl ?_)
        refine RJ_op rfl (OJ_P (P_move rfl) rfl ?_)
        refine RJ_op rfl (OJ_P (P_move rfl) rfl ?_)
        obtain ⟨hg4, h⟩ := grd_de h
        refine RJ_op rfl (OJ_V (V_index (i := (e43.1).toNat) rfl rfl (Int.toNat_of_nonneg (hg4.1)).symm (by omega) foc3 (Reads.sl _ _ _) Try.runUnderlying29 Try.sizeOf39) rfl ?_)
        refine RJ_op rfl (O_storeE (x' := r60.1) rfl rfl rfl (by omega) foc3 rfl rfl rfl Try.sizeOf39 ?_)
        refine RJ_nil ?_
        refine QJ_block_normal ?_
        refine QJ_rng (a48.set ((e43.1).toNat) r60.1) ?_ (Ent.take del2 (Ent.take del2 (Ent.take del2 (Ent.take del2 Ent.refl))))
        exact h
    ·
      rintro D62 a48 hy63
      replace h := sel_inl hK46 (show some (.inl a48) = some y47 from hy63)
      show QJ _ _ _ _ _ (dblk D62 :: blk X38.1 3 [.int .i64 r36.1] :: blk X38.2.1 3 [.int .i64 r36.2.1] :: blk X38.2.2.1 96 [IfH.v X38.2.2.2, .int .i64 r36.2.2.2] :: sl tyU (.slice (some ⟨b34, 0, none⟩) ((r5.length).toNat) ((r5.length).toNat)) a48 :: blk b4 30 [.int .i64 (0 : Int)] :: blk b2 9 [.string ByteArray.empty] :: _)
      refine QJ_block_normal ?_
      refine QJ_ent (Ent.take del0 (Ent.take del3 (Ent.take del3 (Ent.take del3 (Ent.take del3 (Ent.take del3 (Ent.take del4 (Ent.take del4 (Ent.take del4 (Ent.drop (Ent.drop (Ent.drop (Ent.drop (Ent.drop Ent.refl)))))))))))))) ?_
      refine QJ_then ?_
      refine CJ_seq ?_
      refine CJ_region ?_
      refine RJ_op rfl (OJ_V (V_load rfl foc6 rfl Try.isAgg29) rfl ?_)
      obtain ⟨r64, hr65, h⟩ := bind_e h
      refine RJ_op rfl (O_call (L_pack_FromText (Reads.sl _ _ _) hr65) rfl Try.call81 (Dels.cons del1 Dels.nil) rfl (fun _ _ => ?_))
      refine RJ_op rfl (OJ_P (P_move rfl) rfl ?_)
      refine RJ_op rfl (OJ_P (P_extract rfl rfl) rfl ?_)
      refine RJ_op rfl (OJ_P (P_extract rfl rfl) rfl ?_)
      refine RJ_op rfl (OJ_P (P_assign rfl) rfl ?_)
      refine RJ_op rfl (OJ_P (P_assign rfl) rfl ?_)
      refine RJ_nil ?_
      refine QJ_then ?_
      refine CJ_seq ?_
      refine AJ_start [sl tyU (.slice (some ⟨b34, 0, none⟩) ((r5.length).toNat) ((r5.length).toNat)) a48, dblk D62, blk b4 30 [.int .i64 (0 : Int)], DevP bs a_Device va_Device, Arr bs s, blk b35 29 [.slice (some ⟨b34, 0, none⟩) ((r5.length).toNat) ((r5.length).toNat)], blk b7 103 [.int .i64 r5.seq, .int .i64 r5.start, .int .i64 r5.length, .int .i64 r5.sum], blk b3 4 [.bool false]] 12288 (by kernel_rfl) rfl ?_
      refine AJ_takeP 0 1 rfl (by kernel_rfl) rfl (GY_none rfl) (P_move rfl) rfl (fun _ _ _ _ h => h) ?_
      refine AJ_takeP 1 3 rfl (by kernel_rfl) rfl (GY_none rfl) (P_move rfl) rfl (fun _ _ _ _ h => h) ?_
      refine AJ_takeP 2 7 rfl (by kernel_rfl) rfl (GY_none rfl) (P_eql (a := r64.2) (b := (0 : Int)) rfl rfl) rfl (fun _ _ _ _ h => h) ?_
      refine AJ_takeP 3 15 rfl (by kernel_rfl) rfl (GY_none rfl) (P_move rfl) rfl (fun _ _ _ _ h => h) ?_
      refine AJ_splitP 72 rfl bT_dec (fun hg5B hg5 => ?_) (fun hg5B hg5 => ?_)
      ·
        replace h := ite_t hg5 h
        refine AJ_takeV 4 31 rfl (by kernel_rfl) rfl (by kernel_rfl) (by kernel_rfl) (GY_yes rfl rfl rfl hg5B) (Ent.take del0 (Ent.take del0 (Ent.take del0 (Ent.take del1 (Ent.take del1 (Ent.take del1 (Ent.take del1 (Ent.take del1 Ent.done)))))))) (V_loadN rfl foc6 Try.isAgg103 Try.sizeOf103 rfl rfl) rfl (fun _ _ _ _ h => h) ?_
        refine AJ_takeV 5 63 rfl (by kernel_rfl) rfl (by kernel_rfl) (by kernel_rfl) (GY_yes rfl rfl rfl hg5B) (Ent.take del0 (Ent.take del0 (Ent.take del0 (Ent.take del1 (Ent.take del1 (Ent.take del1 (Ent.take del1 (Ent.take del1 Ent.done)))))))) (V_load rfl foc5 rfl Try.isAgg29) rfl (fun _ _ _ _ h => h) ?_
        refine AJ_takeP 7 191 rfl (by kernel_rfl) rfl (GY_yes rfl rfl rfl hg5B) (P_fieldAddr rfl ⟨_, _, _, Try.runUnderlying103, rfl, rfl, Try.sizeOf3, rfl⟩) rfl (fun _ _ _ _ h => h) ?_
        refine AJ_takeV 8 447 rfl (by kernel_rfl) rfl (by kernel_rfl) (by kernel_rfl) (GY_yes rfl rfl rfl hg5B) (Ent.take del0 (Ent.take del0 (Ent.take del0 (Ent.take del1 (Ent.take del1 (Ent.take del1 (Ent.take del1 (Ent.take del1 Ent.done)))))))) (V_load rfl foc6 rfl Try.isAgg3) rfl (fun _ _ _ _ h => h) ?_
        obtain ⟨r66, hr67, h⟩ := bind_e h
        refine AJ_op 6 511 rfl (by kernel_rfl) rfl (GY_yes rfl rfl rfl hg5B) (O_call (L_ring_parts_check (Reads.sl _ _ _) hr67) rfl Try.call58 (Dels.cons del0 Dels.nil) rfl (fun _ _ => ?_))
        refine ⟨fun _ => (Ent.take del0 (Ent.take del0 (Ent.take del0 (Ent.take del1 (Ent.take del1 (Ent.take del1 (Ent.take del1 (Ent.take del1 Ent.done)))))))), ?_⟩
        refine AJ_takeP 9 1023 rfl (by kernel_rfl) rfl (GY_yes rfl rfl rfl hg5B) (P_eql (a := r66) (b := r5.sum) rfl rfl) rfl (fun _ _ _ _ h => h) ?_
        refine AJ_takeP 10 2047 rfl (by kernel_rfl) rfl (GY_none rfl) (P_pickT rfl hg5B rfl) rfl (fun _ _ _ _ h => h) ?_
        refine AJ_op 11 4095 rfl (by kernel_rfl) rfl (GY_none rfl) (O_store rfl rfl foc3 rfl rfl Try.sizeOf9 ?_)
        refine ⟨fun _ => (Ent.take del0 (Ent.take del0 (Ent.take del0 (Ent.take del1 (Ent.take del1 (Ent.take del1 (Ent.take del1 (Ent.take del1 Ent.done)))))))), ?_⟩
        refine AJ_op 12 8191 rfl (by kernel_rfl) rfl (GY_none rfl) (O_store rfl rfl foc8 rfl rfl Try.sizeOf4 ?_)
        refine ⟨fun h => absurd h (by decide), ?_⟩
        refine AJ_op 13 16383 rfl (by kernel_rfl) rfl (GY_none rfl) (O_store rfl rfl foc2 rfl rfl Try.sizeOf30 ?_)
        refine ⟨fun h => absurd h (by decide), ?_⟩
        refine AJ_done (by kernel_rfl) ?_
        refine QJ_ent (Ent.take del1 (Ent.take del1 (Ent.take del1 (Ent.take del1 (Ent.take del1 (Ent.take del3 (Ent.drop (Ent.drop (Ent.drop Ent.refl))))))))) ?_
        refine QJ_then ?_
        refine CJ_ret ?_
        have hE := Option.some.inj h
        subst hE
        refine QJ_endM1 (.inl rfl) del0 (resA3 Try.results56 (RV_cell rfl foc2 rfl Try.isAgg9) (RV_cell rfl foc5 rfl Try.isAgg4) (RV_cell rfl foc1 rfl Try.isAgg30)) rfl ?_
        refine CSpec.close () ?_ ?_ (Ent.take del2 (Ent.take del2 (Ent.drop (Ent.drop (Ent.drop Ent.refl)))))
        · rfl
        · trivial
      ·
        replace h := ite_f hg5 h
        refine AJ_skip 4 31 rfl (by kernel_rfl) rfl (GY_no rfl rfl rfl hg5B) rfl (fun _ _ _ _ h => h) ?_
        refine AJ_skip 5 63 rfl (by kernel_rfl) rfl (GY_no rfl rfl rfl hg5B) rfl (fun _ _ _ _ h => h) ?_
        refine AJ_skip 7 191 rfl (by kernel_rfl) rfl (GY_no rfl rfl rfl hg5B) rfl (fun _ _ _ _ h => h) ?_
        refine AJ_skip 8 447 rfl (by kernel_rfl) rfl (GY_no rfl rfl rfl hg5B) rfl (fun _ _ _ _ h => h) ?_
        refine AJ_skip 6 511 rfl (by kernel_rfl) rfl (GY_no rfl rfl rfl hg5B) rfl (fun _ _ _ _ h => h) ?_
        refine AJ_skip 9 1023 rfl (by kernel_rfl) rfl (GY_no rfl rfl rfl hg5B) rfl (fun _ _ _ _ h => h) ?_
        refine AJ_takeP 10 2047 rfl (by kernel_rfl) rfl (GY_none rfl) (P_pickF rfl hg5B rfl) rfl (fun _ _ _ _ h => h) ?_
        refine AJ_op 11 4095 rfl (by kernel_rfl) rfl (GY_none rfl) (O_store rfl rfl foc3 rfl rfl Try.sizeOf9 ?_)
        refine ⟨fun _ => (Ent.take del0 (Ent.take del0 (Ent.take del0 (Ent.take del1 (Ent.take del1 (Ent.take del1 (Ent.take del1 (Ent.take del1 Ent.done)))))))), ?_⟩
        refine AJ_op 12 8191 rfl (by kernel_rfl) rfl (GY_none rfl) (O_store rfl rfl foc8 rfl rfl Try.sizeOf4 ?_)
        refine ⟨fun h => absurd h (by decide), ?_⟩
        refine AJ_op 13 16383 rfl (by kernel_rfl) rfl (GY_none rfl) (O_store rfl rfl foc2 rfl rfl Try.sizeOf30 ?_)
        refine ⟨fun h => absurd h (by decide), ?_⟩
        refine AJ_done (by kernel_rfl) ?_
        refine QJ_ent (Ent.take del1 (Ent.take del1 (Ent.take del1 (Ent.take del1 (Ent.take del1 (Ent.take del3 (Ent.drop (Ent.drop (Ent.drop Ent.refl))))))))) ?_
        refine QJ_then ?_
        refine CJ_ret ?_
        have hE := Option.some.inj h
        subst hE
        refine QJ_endM1 (.inl rfl) del0 (resA3 Try.results56 (RV_cell rfl foc2 rfl Try.isAgg9) (RV_cell rfl foc5 rfl Try.isAgg4) (RV_cell rfl foc1 rfl Try.isAgg30)) rfl ?_
        refine CSpec.close () ?_ ?_ (Ent.take del2 (Ent.take del2 (Ent.drop (Ent.drop (Ent.drop Ent.refl)))))
        · rfl
        · trivial
    ·
      rintro D68 z49 hy69
      replace h := sel_inr hK46 hy69
      show QJ _ _ _ _ _ (dblk D68 :: blk X38.1 3 [.int .i64 r36.1] :: blk X38.2.1 3 [.int .i64 r36.2.1] :: blk X38.2.2.1 96 [IfH.v X38.2.2.2, .int .i64 r36.2.2.2] :: blk b4 30 [.int .i64 z49.1] :: blk b2 9 [.string z49.2.1] :: sl tyU (.slice (some ⟨b34, 0, none⟩) ((r5.length).toNat) ((r5.length).toNat)) z49.2.2 :: _)
      refine QJ_block_ret ?_
      refine QJ_then_ret ?_
      have hE := Option.some.inj h
      subst hE
      refine QJ_endM1 (.inl rfl) del0 (resA3 Try.results56 (RV_cell rfl foc5 rfl Try.isAgg9) (RV_cell rfl foc12 rfl Try.isAgg4) (RV_cell rfl foc4 rfl Try.isAgg30)) rfl ?_
      refine CSpec.close () ?_ ?_ (Ent.take del6 (Ent.take del6 (Ent.drop (Ent.drop (Ent.drop (Ent.drop (Ent.drop (Ent.drop (Ent.drop (Ent.drop (Ent.drop (Ent.drop (Ent.drop Ent.refl)))))))))))))
      · rfl
      · trivial
def ring_Read (x_0 : Dvc) (s : ArrS) : Option (api_Copy × Int) :=
  Option.bind (ring_open x_0 s) fun r2 =>
  if (((r2.2.2 : Nat) : Int) ≠ (0 : Int)) then
    some (((⟨false, (0 : Int), ByteArray.empty⟩ : api_Copy), ((r2.2.2 : Nat) : Int)))
  else
    Option.elim r2.1 (
      none) fun o8 =>
    Option.bind (Dvc.rd o8 s (0 : Int)) fun r10 =>
    if (r10.2 ≠ (0 : Int)) then
      some (((⟨false, (0 : Int), ByteArray.empty⟩ : api_Copy), r10.2))
    else
      if (r10.1 = (0 : UInt64)) then
        some (((⟨false, (0 : Int), ByteArray.empty⟩ : api_Copy), (12 : Int)))
      else
        Option.bind (ring_area_text o8 r2.2.1 r10.1 s) fun r12 =>
        if (r12.2.2 ≠ (0 : Int)) then
          some (((⟨false, (0 : Int), ByteArray.empty⟩ : api_Copy), r12.2.2))
        else
          if (¬ r12.2.1 = true) then
            Option.bind (ring_descriptor_parts r10.1) fun r14 =>
            some (((⟨false, r14.seq, ByteArray.empty⟩ : api_Copy), (11 : Int)))
          else
            Option.bind (ring_descriptor_parts r10.1) fun r16 =>
            some (((⟨true, r16.seq, r12.1⟩ : api_Copy), (0 : Int)))
theorem L_ring_Read {W : World} {vx_0 : IfH} {bs : Nat} {x_0 : Dvc} {s : ArrS} {r : api_Copy × Int} (h : ring_Read x_0 s = some r) :
    CSpec Try.prog W 18 [IfH.v vx_0] [DevP bs x_0 vx_0, Arr bs s] (fun x : Unit => .tuple #[.agg #[.bool r.1.Valid, .int .i64 r.1.Seq, .string r.1.Text], .int .i64 r.2]) (fun _ => True) (fun x F => DevP bs x_0 vx_0 :: Arr bs s :: F) := by
 refine CSpec.of_body Try.func18 rfl Try.ntmps18 rfl fun F => ?_
 show CJ _ _ _ _ _ _ (_ :: _ :: F)
 unfold ring_Read at h
 refine sR <| oO <| O_alloc Try.zeroValue34 rfl rfl fun b1 => oA rfl rfl <| nT <| sR <| oM rfl rfl ?_
 obtain ⟨r2, hr3, h⟩ := bind_e h
 refine oO <| O_call (L_ring_open hr3) rfl Try.call54 (Dels.cons del1 (Dels.cons del1 Dels.nil)) rfl fun X4 _ => oM rfl rfl <| oP (P_extract rfl rfl) rfl <| oP (P_extract rfl rfl) rfl <| oO <| O_alloc Try.zeroValue96 rfl rfl fun b6 => oO <| O_storeN rfl rfl foc0 Try.sizeOf96 rfl rfl (by simp only [allOne, oneCell_oval, oneCell_oif, oneCell_oifc, Bool.true_and]; rfl) <| oA rfl rfl <| nT <| CJ_seq <| sR <| oM rfl rfl <| oP (P_neq (a := ((r2.2.2 : Nat) : Int)) (b := (0 : Int)) rfl rfl) rfl <| nT <| CJ_condP rfl bT_dec (fun hg1 => ?_) (fun hg1 => ?_)
 ·
  replace h := ite_t hg1 h
  refine sR <| oP (P_build rfl (bld_34)) rfl <| oM rfl rfl <| oO <| O_storeN rfl rfl foc4 Try.sizeOf34 rfl rfl rfl <| oA rfl rfl <| nT <| CJ_ret <| QJ_then_ret ?_
  cases h
  exact fE (resA2 Try.results18 (RV_cellN rfl foc4 Try.isAgg34 Try.sizeOf34 rfl rfl) (RV_tmp rfl)) () (t1_ (t1_ (eD (eD (eD eR)))))
 ·
  replace h := ite_f hg1 h
  refine kT <| sR <| oP (P_fieldAddr rfl ⟨_, _, _, Try.runUnderlying96, rfl, rfl, Try.sizeOf26, rfl⟩) rfl <| oV (V_load rfl foc0 rfl Try.isAgg26) rfl ?_
  rcases opt_e h with ⟨ht7, h⟩ | ⟨o8, ht7, h⟩
  ·
   rw [ht7]
   exact RJ_ent (t0_ (t0_ (t0_ (t1_ (eD eR))))) <| none_e h
  ·
   rw [ht7]
   refine RJ_ent (Ent.takeC (A' := DevP bs o8 X4) del3 rfl eR) <| RJ_pure (fun h hh => DevP_dep h (stars_perm (del0 (A := DevP bs o8 X4)).out h hh)) fun hdp9 => ?_
   obtain ⟨r10, hr11, h⟩ := bind_e h
   refine oO <| O_callI rfl (dev_Read hr11 hdp9) rfl (Dels.cons del0 (Dels.cons del2 Dels.nil)) rfl fun _ _ => oM rfl rfl <| oP (P_extract rfl rfl) rfl <| oP (P_extract rfl rfl) rfl <| oA rfl rfl <| oA rfl rfl <| nT <| CJ_seq <| sR <| oM rfl rfl <| oP (P_neq (a := r10.2) (b := (0 : Int)) rfl rfl) rfl <| nT <| CJ_condP rfl bT_dec (fun hg2 => ?_) (fun hg2 => ?_)
   ·
    replace h := ite_t hg2 h
    refine sR <| oP (P_build rfl (bld_34)) rfl <| oM rfl rfl <| oO <| O_storeN rfl rfl foc4 Try.sizeOf34 rfl rfl rfl <| oA rfl rfl <| nT <| CJ_ret <| QJ_then_ret ?_
    cases h
    exact fE (resA2 Try.results18 (RV_cellN rfl foc4 Try.isAgg34 Try.sizeOf34 rfl rfl) (RV_tmp rfl)) () (t3_ (t1_ (eD (eD (eD eR)))))
   ·
    replace h := ite_f hg2 h
    refine kT <| CJ_seq <| sR <| oM rfl rfl <| oP (P_eq_u64 (a := r10.1) (b := (0 : UInt64)) rfl rfl) rfl <| nT <| CJ_condP rfl bT_dec (fun hg3 => ?_) (fun hg3 => ?_)
    ·
     replace h := ite_t hg3 h
     refine sR <| oP (P_build rfl (bld_34)) rfl <| oO <| O_storeN rfl rfl foc4 Try.sizeOf34 rfl rfl rfl <| oA rfl rfl <| nT <| CJ_ret <| QJ_then_ret ?_
     cases h
     exact fE (resA2 Try.results18 (RV_cellN rfl foc4 Try.isAgg34 Try.sizeOf34 rfl rfl) (RV_tmp rfl)) () (t3_ (t1_ (eD (eD (eD eR)))))
    ·
     replace h := ite_f hg3 h
     refine kT <| sR <| oM rfl rfl <| oA rfl rfl <| nT <| sR <| oV (V_loadN rfl foc2 Try.isAgg96 Try.sizeOf96 rfl rfl) rfl <| oM rfl rfl ?_
     obtain ⟨r12, hr13, h⟩ := bind_e h
     refine oO <| O_call (L_ring_area_text hr13) rfl Try.call56 (Dels.cons del0 (Dels.cons del0 Dels.nil)) rfl fun _ _ => oM rfl rfl <| oP (P_extract rfl rfl) rfl <| oP (P_extract rfl rfl) rfl <| oP (P_extract rfl rfl) rfl <| oA rfl rfl <| oA rfl rfl <| oA rfl rfl <| nT <| CJ_seq <| CJ_block <| sR <| oM rfl rfl <| oP (P_neq (a := r12.2.2) (b := (0 : Int)) rfl rfl) rfl <| oA rfl rfl <| nT <| CJ_condP rfl bT_dec (fun hg4 => ?_) (fun hg4 => ?_)
     ·
      replace h := ite_t hg4 h
      refine sR <| oP (P_build rfl (bld_34)) rfl <| oM rfl rfl <| oO <| O_storeN rfl rfl foc4 Try.sizeOf34 rfl rfl rfl <| oA rfl rfl <| nT <| CJ_ret <| QJ_block_ret <| QJ_then_ret ?_
      cases h
      exact fE (resA2 Try.results18 (RV_cellN rfl foc4 Try.isAgg34 Try.sizeOf34 rfl rfl) (RV_tmp rfl)) () (t3_ (t1_ (eD (eD (eD eR)))))
     ·
      replace h := ite_f hg4 h
      refine sR <| oM rfl rfl <| oP (P_not rfl) rfl <| oA rfl rfl <| nT <| CJ_condP rfl (bT_not Iff.rfl) (fun hg5 => ?_) (fun hg5 => ?_)
      ·
       replace h := ite_t hg5 h
       refine sR <| oM rfl rfl ?_
       obtain ⟨r14, hr15, h⟩ := bind_e h
       refine oO <| O_call (L_ring_descriptor_parts hr15) rfl Try.call57 Dels.nil rfl fun _ _ => oP (P_field rfl (fld_103_0 _ _ _ _)) rfl <| oP (P_build rfl (bld_34_1 _)) rfl <| oO <| O_storeN rfl rfl foc4 Try.sizeOf34 rfl rfl rfl <| oA rfl rfl <| nT <| CJ_ret <| QJ_block_ret <| QJ_then_ret ?_
       cases h
       exact fE (resA2 Try.results18 (RV_cellN rfl foc4 Try.isAgg34 Try.sizeOf34 rfl rfl) (RV_tmp rfl)) () (t3_ (t1_ (eD (eD (eD eR)))))
      ·
       replace h := ite_f hg5 h
       refine CJ_skip <| QJ_block_normal <| QJ_then <| sR <| oM rfl rfl ?_
       obtain ⟨r16, hr17, h⟩ := bind_e h
       refine oO <| O_call (L_ring_descriptor_parts hr17) rfl Try.call57 Dels.nil rfl fun _ _ => oP (P_field rfl (fld_103_0 _ _ _ _)) rfl <| oM rfl rfl <| oP (P_build rfl (bld_34_0_1_2 _ _ _)) rfl <| oO <| O_storeN rfl rfl foc4 Try.sizeOf34 rfl rfl rfl <| oA rfl rfl <| nT <| CJ_ret ?_
       cases h
       exact fE (resA2 Try.results18 (RV_cellN rfl foc4 Try.isAgg34 Try.sizeOf34 rfl rfl) (RV_tmp rfl)) () (t3_ (t1_ (eD (eD (eD eR)))))
def ring_Seqs (x_0 : Dvc) (s : ArrS) : Option (Int × Int × Int) :=
  Option.bind (ring_open x_0 s) fun r1 =>
  if (((r1.2.2 : Nat) : Int) ≠ (0 : Int)) then
    some (((0 : Int), (0 : Int), ((r1.2.2 : Nat) : Int)))
  else
    Option.elim r1.1 (
      none) fun o7 =>
    Option.bind (block_ReadAll o7 (0 : Int) (2 : Int) s) fun r8 =>
    if (r8.2 ≠ (0 : Int)) then
      some (((0 : Int), (0 : Int), r8.2))
    else
      grd (decide (0 < r8.1.length)) <|
      grd (decide (1 < r8.1.length)) <|
      Option.bind (ring_descriptor_parts (r8.1.getD 0 0)) fun r12 =>
      Option.bind (ring_descriptor_parts (r8.1.getD 1 0)) fun r14 =>
      some ((r12.seq, r14.seq, (0 : Int)))
theorem L_ring_Seqs {W : World} {vx_0 : IfH} {bs : Nat} {x_0 : Dvc} {s : ArrS} {r : Int × Int × Int} (h : ring_Seqs x_0 s = some r) :
    CSpec Try.prog W 25 [IfH.v vx_0] [DevP bs x_0 vx_0, Arr bs s] (fun x : Unit => .tuple #[.int .i64 r.1, .int .i64 r.2.1, .int .i64 r.2.2]) (fun _ => True) (fun x F => DevP bs x_0 vx_0 :: Arr bs s :: F) := by
 refine CSpec.of_body Try.func25 rfl Try.ntmps25 rfl fun F => ?_
 show CJ _ _ _ _ _ _ (_ :: _ :: F)
 unfold ring_Seqs at h
 refine sR <| oA rfl rfl <| oA rfl rfl <| oA rfl rfl <| nT <| sR <| oM rfl rfl ?_
 obtain ⟨r1, hr2, h⟩ := bind_e h
 refine oO <| O_call (L_ring_open hr2) rfl Try.call54 (Dels.cons del0 (Dels.cons del0 Dels.nil)) rfl fun X3 _ => oM rfl rfl <| oP (P_extract rfl rfl) rfl <| oP (P_extract rfl rfl) rfl <| oO <| O_alloc Try.zeroValue96 rfl rfl fun b5 => oO <| O_storeN rfl rfl foc0 Try.sizeOf96 rfl rfl (by simp only [allOne, oneCell_oval, oneCell_oif, oneCell_oifc, Bool.true_and]; rfl) <| oA rfl rfl <| nT <| CJ_seq <| sR <| oM rfl rfl <| oP (P_neq (a := ((r1.2.2 : Nat) : Int)) (b := (0 : Int)) rfl rfl) rfl <| nT <| CJ_condP rfl bT_dec (fun hg1 => ?_) (fun hg1 => ?_)
 ·
  replace h := ite_t hg1 h
  refine sR <| oM rfl rfl <| oA rfl rfl <| oA rfl rfl <| oA rfl rfl <| nT <| CJ_ret <| QJ_then_ret ?_
  cases h
  exact fE (res3 Try.results25 rfl rfl rfl) () (t1_ (t1_ (eD (eD eR))))
 ·
  replace h := ite_f hg1 h
  refine kT <| sR <| oP (P_fieldAddr rfl ⟨_, _, _, Try.runUnderlying96, rfl, rfl, Try.sizeOf26, rfl⟩) rfl <| oV (V_load rfl foc0 rfl Try.isAgg26) rfl ?_
  rcases opt_e h with ⟨ht6, h⟩ | ⟨o7, ht6, h⟩
  ·
   rw [ht6]
   exact RJ_ent (t0_ (t0_ (t0_ (eD eR)))) <| none_e h
  ·
   rw [ht6]
   refine RJ_ent (Ent.takeC (A' := DevP bs o7 X3) del3 rfl eR) ?_
   obtain ⟨r8, hr9, h⟩ := bind_e h
   refine oO <| O_call (L_block_ReadAll hr9) rfl Try.call62 (Dels.cons del0 (Dels.cons del2 Dels.nil)) rfl fun X10 _ => oM rfl rfl <| oP (P_extract (v := X10.v) rfl rfl) rfl <| oP (P_extract rfl rfl) rfl <| oA rfl rfl <| oA rfl rfl <| nT <| CJ_seq <| sR <| oM rfl rfl <| oP (P_neq (a := r8.2) (b := (0 : Int)) rfl rfl) rfl <| nT <| CJ_condP rfl bT_dec (fun hg2 => ?_) (fun hg2 => ?_)
   ·
    replace h := ite_t hg2 h
    refine sR <| oM rfl rfl <| oA rfl rfl <| oA rfl rfl <| oA rfl rfl <| nT <| CJ_ret <| QJ_then_ret ?_
    cases h
    exact fE (res3 Try.results25 rfl rfl rfl) () (t4_ (t1_ (eD (eD (eD eR)))))
   ·
    replace h := ite_f hg2 h
    refine kT <| CJ_seq <| AJ_startH 256 (by kernel_rfl) rfl <| aN 0 1 rfl rfl (P_move rfl) rfl ?_
    obtain ⟨hg3, h⟩ := grd_de h
    refine aV 1 3 rfl rfl (GY_none rfl) eR (V_index (i := 0) rfl rfl rfl hg3 foc2 (Reads.sl _ _ _) Try.runUnderlying29 Try.sizeOf39) rfl <| aV 2 7 rfl rfl (GY_none rfl) eR (V_loadE rfl rfl hg3 foc2 (Reads.sl _ _ _) rfl rfl Try.isAgg39) rfl <| aN 5 39 rfl rfl (P_move rfl) rfl ?_
    obtain ⟨hg4, h⟩ := grd_de h
    refine aV 6 103 rfl rfl (GY_none rfl) eR (V_index (i := 1) rfl rfl rfl hg4 foc2 (Reads.sl _ _ _) Try.runUnderlying29 Try.sizeOf39) rfl <| aV 7 231 rfl rfl (GY_none rfl) eR (V_loadE rfl rfl hg4 foc2 (Reads.sl _ _ _) rfl rfl Try.isAgg39) rfl ?_
    obtain ⟨r12, hr13, h⟩ := bind_e h
    refine AJ_op 3 239 rfl (by kernel_rfl) rfl (GY_none rfl) <| O_call (L_ring_descriptor_parts hr13) rfl Try.call57 Dels.nil rfl fun _ _ => ⟨fun _ => eR, ?_⟩
    refine aN 4 255 rfl rfl (P_field rfl (fld_103_0 _ _ _ _)) rfl ?_
    obtain ⟨r14, hr15, h⟩ := bind_e h
    refine AJ_op 8 511 rfl (by kernel_rfl) rfl (GY_none rfl) <| O_call (L_ring_descriptor_parts hr15) rfl Try.call57 Dels.nil rfl fun _ _ => ⟨fun h => absurd h (by decide), ?_⟩
    refine aN 9 1023 rfl rfl (P_field rfl (fld_103_0 _ _ _ _)) rfl <| aN 10 2047 rfl rfl (P_assign rfl) rfl <| aN 11 4095 rfl rfl (P_assign rfl) rfl <| aN 12 8191 rfl rfl (P_assign rfl) rfl <| aD <| CJ_ret ?_
    cases h
    exact fE (res3 Try.results25 rfl rfl rfl) () (t4_ (t1_ (eD (eD (eD eR)))))
def ring_parts_word (p : ring_parts) : Option (UInt64) :=
  Option.bind (ring_widths) fun r2 =>
  Option.bind (pack_Fields r2 ([(to_u64 p.seq), (to_u64 p.start), (to_u64 p.length), (to_u64 p.sum)])) fun r562 =>
  some r562.1
theorem L_ring_parts_word {W : World} {p : ring_parts} {r : UInt64} (h : ring_parts_word p = some r) :
    CSpec Try.prog W 61 [.agg #[.int .i64 p.seq, .int .i64 p.start, .int .i64 p.length, .int .i64 p.sum]] [] (fun x : Unit => .int .u64 (r.toNat : Int)) (fun _ => True) (fun x F => F) := by
 refine CSpec.of_body Try.func61 rfl Try.ntmps61 rfl fun F => ?_
 show CJ _ _ _ _ _ _ (F)
 unfold ring_parts_word at h
 refine sR <| oO <| O_box rfl rfl rfl fun b1 => oA rfl rfl <| nT <| CJ_seq <| AJ_startH 24576 (by kernel_rfl) rfl <| aN 1 2 rfl rfl (P_fieldAddr rfl ⟨_, _, _, Try.runUnderlying103, rfl, rfl, Try.sizeOf3, rfl⟩) rfl <| aV 2 6 rfl rfl (GY_none rfl) eR (V_load rfl foc0 rfl Try.isAgg3) rfl <| aN 3 14 rfl rfl (P_conv_u64 (a := p.seq) rfl Try.runUnderlying3 Try.runUnderlying39) rfl <| aN 4 30 rfl rfl (P_fieldAddr rfl ⟨_, _, _, Try.runUnderlying103, rfl, rfl, Try.sizeOf3, rfl⟩) rfl <| aV 5 62 rfl rfl (GY_none rfl) eR (V_load rfl foc0 rfl Try.isAgg3) rfl <| aN 6 126 rfl rfl (P_conv_u64 (a := p.start) rfl Try.runUnderlying3 Try.runUnderlying39) rfl <| aN 7 254 rfl rfl (P_fieldAddr rfl ⟨_, _, _, Try.runUnderlying103, rfl, rfl, Try.sizeOf3, rfl⟩) rfl <| aV 8 510 rfl rfl (GY_none rfl) eR (V_load rfl foc0 rfl Try.isAgg3) rfl <| aN 9 1022 rfl rfl (P_conv_u64 (a := p.length) rfl Try.runUnderlying3 Try.runUnderlying39) rfl <| aN 10 2046 rfl rfl (P_fieldAddr rfl ⟨_, _, _, Try.runUnderlying103, rfl, rfl, Try.sizeOf3, rfl⟩) rfl <| aV 11 4094 rfl rfl (GY_none rfl) eR (V_load rfl foc0 rfl Try.isAgg3) rfl <| aN 12 8190 rfl rfl (P_conv_u64 (a := p.sum) rfl Try.runUnderlying3 Try.runUnderlying39) rfl <| AJ_two 0 13 8191 16382 rfl rfl (by kernel_rfl) rfl rfl (GY_none rfl) (GY_none rfl) ?_ ?_
 ·
  obtain ⟨r2, hr3, h⟩ := bind_e h
  refine O_call (L_ring_widths hr3) rfl Try.call83 Dels.nil rfl fun X4 _ => ⟨fun _ => (t1_ (eD eR)), ?_⟩
  refine AJ_op 13 16383 rfl (by kernel_rfl) rfl (GY_none rfl) <| O_buildSlice rfl (bs_29_4_0_1_2_3 _ _ _ _) rfl fun b522 => ⟨fun h => absurd h (by decide), ?_⟩
  refine AJ_ent (Ent.trans (t0_ eR) (sl_of_lit (t := tyU) (m := 4) [(to_u64 p.seq), (to_u64 p.start), (to_u64 p.length), (to_u64 p.sum)] rfl rfl rfl (by decide))) ?_
  obtain ⟨r562, hr563, h⟩ := bind_e h
  refine AJ_op 14 32767 rfl (by kernel_rfl) rfl (GY_none rfl) <| O_call (L_pack_Fields (Reads.sl _ _ _) (Reads.sl _ _ _) hr563) rfl Try.call87 (Dels.cons del1 (Dels.cons del0 Dels.nil)) rfl fun _ _ => ⟨fun h => absurd h (by decide), ?_⟩
  refine aN 15 65535 rfl rfl (P_move rfl) rfl <| aN 16 131071 rfl rfl (P_extract rfl rfl) rfl <| aN 17 262143 rfl rfl (P_extract rfl rfl) rfl <| aN 18 524287 rfl rfl (P_assign rfl) rfl <| aN 19 1048575 rfl rfl (P_assign rfl) rfl <| aD <| sR <| oM rfl rfl <| oA rfl rfl <| nT <| CJ_ret ?_
  cases h
  exact fE (res1 Try.results61 rfl) () (eD (eD (eD eR)))
 ·
  refine O_buildSlice rfl (bs_29_4_0_1_2_3 _ _ _ _) rfl fun b522 => ⟨fun h => absurd h (by decide), ?_⟩
  obtain ⟨r2, hr3, h⟩ := bind_e h
  refine AJ_op 0 16383 rfl (by kernel_rfl) rfl (GY_none rfl) <| O_call (L_ring_widths hr3) rfl Try.call83 Dels.nil rfl fun X4 _ => ⟨fun _ => (t2_ (eD (eD eR))), ?_⟩
  refine AJ_ent (Ent.trans (t1_ eR) (sl_of_lit (t := tyU) (m := 4) [(to_u64 p.seq), (to_u64 p.start), (to_u64 p.length), (to_u64 p.sum)] rfl rfl rfl (by decide))) ?_
  obtain ⟨r562, hr563, h⟩ := bind_e h
  refine AJ_op 14 32767 rfl (by kernel_rfl) rfl (GY_none rfl) <| O_call (L_pack_Fields (Reads.sl _ _ _) (Reads.sl _ _ _) hr563) rfl Try.call87 (Dels.cons del1 (Dels.cons del0 Dels.nil)) rfl fun _ _ => ⟨fun h => absurd h (by decide), ?_⟩
  refine aN 15 65535 rfl rfl (P_move rfl) rfl <| aN 16 131071 rfl rfl (P_extract rfl rfl) rfl <| aN 17 262143 rfl rfl (P_extract rfl rfl) rfl <| aN 18 524287 rfl rfl (P_assign rfl) rfl <| aN 19 1048575 rfl rfl (P_assign rfl) rfl <| aD <| sR <| oM rfl rfl <| oA rfl rfl <| nT <| CJ_ret ?_
  cases h
  exact fE (res1 Try.results61 rfl) () (eD (eD (eD eR)))
def ring_Prepare_l2_b (r11 : (List UInt64) × Int) (o17 : Dvc) (rec : ArrS → Option ((ArrS) ⊕ (Int × ArrS))) (e45 : (Int × Int)) (a50 : ArrS) : Option ((ArrS) ⊕ (Int × ArrS)) :=
  grd (decide (0 ≤ e45.1 ∧ e45.1 < (r11.1.length : Int))) <|
  Option.bind (Dvc.wr o17 a50 e45.2 ((r11.1.getD ((e45.1).toNat) 0))) fun r60 =>
  if (r60.1 ≠ (0 : Int)) then
    some (.inr (r60.1, r60.2))
  else
    rec r60.2
def ring_Prepare_l2 (r11 : (List UInt64) × Int) (o17 : Dvc) : List (Int × Int) → ArrS → Option ((ArrS) ⊕ (Int × ArrS))
  | [], a50 => some (.inl a50)
  | e45 :: bs55, a50 => ring_Prepare_l2_b r11 o17 (ring_Prepare_l2 r11 o17 bs55) e45 a50
def ring_Prepare (x_0 : Dvc) (seq : Int) (text : ByteArray) (s : ArrS) : Option (Int × ArrS) :=
  Option.bind (ring_open x_0 s) fun r2 =>
  if (((r2.2.2 : Nat) : Int) ≠ (0 : Int)) then
    some ((((r2.2.2 : Nat) : Int), s))
  else
    if ((seq < (1 : Int)) ∨ ((1048575 : Int) < seq)) then
      some (((1 : Int), s))
    else
      Option.bind (pack_Text text) fun r11 =>
      if (r11.2 ≠ (0 : Int)) then
        some (r11.2, s)
      else
        Option.elim r2.1 (
          none) fun o17 =>
        Option.bind (Dvc.rd o17 s (0 : Int)) fun r19 =>
        if (r19.2 ≠ (0 : Int)) then
          some (r19.2, s)
        else
          seqO ((
            if (r19.1 ≠ (0 : UInt64)) then
              Option.bind (ring_area_text o17 r2.2.1 r19.1 s) fun r30 =>
              if (r30.2.2 ≠ (0 : Int)) then
                some (.inr (r30.2.2, s))
              else
                if (¬ r30.2.1 = true) then
                  some (.inr (((11 : Int), s)))
                else
                  Option.bind (ring_descriptor_parts r19.1) fun r32 =>
                  some (.inl (r32.seq, r32.start, r32.length, r32.sum))
            else
              some (.inl ((0 : Int), (0 : Int), (0 : Int), (0 : Int))) : Option ((Int × Int × Int × Int) ⊕ (Int × ArrS)))) fun a29 =>
          grd (inI64 ((((r11.1.length : Nat) : Int) + a29.2.2.1))) <|
          if (r2.2.1 < (((r11.1.length : Nat) : Int) + a29.2.2.1)) then
            some (((14 : Int), s))
          else
            grd (inI64 (a29.2.1 + a29.2.2.1)) <|
            grd (decide (¬ r2.2.1 = 0)) <|
            Option.bind (ring_parts_check ((⟨seq, ((a29.2.1 + a29.2.2.1).tmod r2.2.1), ((r11.1.length : Nat) : Int), (0 : Int)⟩ : ring_parts)) r11.1) fun r36 =>
            Option.bind (ring_area_sectors o17 r2.2.1 (((a29.2.1 + a29.2.2.1).tmod r2.2.1)) (((r11.1.length : Nat) : Int)) s) fun r38 =>
            grd (decide (0 ≤ r38.2.1 ∧ 0 < r38.2.2.2 ∧ r38.2.1 + r38.1 ≤ 4611686018427387904 ∧ r38.2.2.2 ≤ 4611686018427387904)) <|
            Option.bind (ring_Prepare_l2 r11 o17 (sectorsL r38.1 r38.2.1 r38.2.2.2) s) fun y49 =>
            selO y49 (fun a50 =>
              Option.bind (Dvc.fl o17 a50) fun r65 =>
              if (r65.1 ≠ (0 : Int)) then
                some (r65.1, r65.2)
              else
                Option.bind (ring_parts_word ((⟨seq, ((a29.2.1 + a29.2.2.1).tmod r2.2.1), ((r11.1.length : Nat) : Int), r36⟩ : ring_parts))) fun r67 =>
                Option.bind (ring_area_put o17 r2.2.1 (1 : Int) r67 r65.2) fun r69 =>
                some (r69.1, r69.2)) (fun z51 =>
              some (z51.1, z51.2))
theorem L_ring_Prepare {W : World} {vx_0 : IfH} {bs : Nat} {x_0 : Dvc} {seq : Int} {text : ByteArray} {s : ArrS} {r : Int × ArrS} (h : ring_Prepare x_0 seq text s = some r) :
    CSpec Try.prog W 16 [IfH.v vx_0, .int .i64 seq, .string text] [DevP bs x_0 vx_0, Arr bs s] (fun x : Unit => .int .i64 r.1) (fun _ => True) (fun x F => DevP bs x_0 vx_0 :: Arr bs r.2 :: F) := by
  refine CSpec.of_bodyM Try.func16 rfl Try.ntmps16 rfl (fun F => ?_)
  show CJ _ _ _ _ _ _ (_ :: _ :: F)
  unfold ring_Prepare at h
  refine CJ_seq ?_
  refine CJ_region ?_
  refine RJ_op rfl (O_alloc Try.zeroValue30 rfl rfl (fun b1 => ?_))
  refine RJ_nil ?_
  refine QJ_then ?_
  refine CJ_seq ?_
  refine CJ_region ?_
  refine RJ_op rfl (OJ_P (P_move rfl) rfl ?_)
  obtain ⟨r2, hr3, h⟩ := bind_e h
  refine RJ_op rfl (O_call (L_ring_open hr3) rfl Try.call54 (Dels.cons del1 (Dels.cons del1 Dels.nil)) rfl (fun X4 _ => ?_))
  refine RJ_op rfl (OJ_P (P_move rfl) rfl ?_)
  refine RJ_op rfl (OJ_P (P_extract rfl rfl) rfl ?_)
  refine RJ_op rfl (OJ_P (P_extract rfl rfl) rfl ?_)
  refine RJ_op rfl (O_alloc Try.zeroValue96 rfl rfl (fun b6 => ?_))
  refine RJ_op rfl (O_storeN rfl rfl foc0 Try.sizeOf96 rfl rfl (by simp only [allOne, oneCell_oval, oneCell_oif, oneCell_oifc, Bool.true_and]; rfl) ?_)
  refine RJ_op rfl (OJ_P (P_assign rfl) rfl ?_)
  refine RJ_nil ?_
  refine QJ_then ?_
  refine CJ_seq ?_
  refine CJ_seq ?_
  refine CJ_region ?_
  refine RJ_op rfl (OJ_P (P_move rfl) rfl ?_)
  refine RJ_op rfl (OJ_P (P_neq (a := ((r2.2.2 : Nat) : Int)) (b := (0 : Int)) rfl rfl) rfl ?_)
  refine RJ_nil ?_
  refine QJ_then ?_
  refine CJ_condP rfl bT_dec (fun hg1 => ?_) (fun hg1 => ?_)
  ·
    replace h := ite_t hg1 h
    refine CJ_seq ?_
    refine CJ_region ?_
    refine RJ_op rfl (OJ_P (P_move rfl) rfl ?_)
    refine RJ_op rfl (O_store rfl rfl foc4 rfl rfl Try.sizeOf30 ?_)
    refine RJ_nil ?_
    refine QJ_then ?_
    refine CJ_ret ?_
    refine QJ_then_ret ?_
    have hE := Option.some.inj h
    subst hE
    refine QJ_endM0 (.inl rfl) (resA1 Try.results16 (RV_cell rfl foc4 rfl Try.isAgg30)) ?_
    refine CSpec.close () ?_ ?_ (Ent.take del1 (Ent.take del1 (Ent.drop (Ent.drop (Ent.drop Ent.refl)))))
    · rfl
    · trivial
  ·
    replace h := ite_f hg1 h
    refine CJ_skip ?_
    refine QJ_then ?_
    refine CJ_seq ?_
    refine CJ_seq ?_
    refine CJ_region ?_
    refine RJ_op rfl (OJ_P (P_move rfl) rfl ?_)
    refine RJ_op rfl (OJ_P (P_lss (a := seq) (b := (1 : Int)) rfl rfl) rfl ?_)
    refine RJ_op rfl (OJ_P (P_move rfl) rfl ?_)
    refine RJ_mbF rfl rfl rfl (fun hG7 => have hP8 : ¬ (seq < (1 : Int)) := nP (bT_dec) hG7; VJ_P (P_move rfl)) ?_
    refine RJ_mbF rfl rfl rfl (fun hG9 => have hP10 : ¬ (seq < (1 : Int)) := nP (bT_dec) hG9; VJ_P (P_gtr (a := seq) (b := (1048575 : Int)) (mbx hG9 rfl) rfl)) ?_
    refine RJ_op rfl (OJ_P (P_pickOr rfl rfl (fun hh => mbx (not_f hh) rfl)) rfl ?_)
    refine RJ_nil ?_
    refine QJ_then ?_
    refine CJ_condP rfl (bT_or bT_dec bT_dec) (fun hg2 => ?_) (fun hg2 => ?_)
    ·
      replace h := ite_t hg2 h
      refine CJ_seq ?_
      refine CJ_region ?_
      refine RJ_op rfl (O_store rfl rfl foc4 rfl rfl Try.sizeOf30 ?_)
      refine RJ_nil ?_
      refine QJ_then ?_
      refine CJ_ret ?_
      refine QJ_then_ret ?_
      have hE := Option.some.inj h
      subst hE
      refine QJ_endM0 (.inl rfl) (resA1 Try.results16 (RV_cell rfl foc4 rfl Try.isAgg30)) ?_
      refine CSpec.close () ?_ ?_ (Ent.take del1 (Ent.take del1 (Ent.drop (Ent.drop (Ent.drop Ent.refl)))))
      · rfl
      · trivial
    ·
      replace h := ite_f hg2 h
      refine CJ_skip ?_
      refine QJ_then ?_
      refine CJ_seq ?_
      refine CJ_region ?_
      refine RJ_op rfl (OJ_P (P_move rfl) rfl ?_)
      obtain ⟨r11, hr12, h⟩ := bind_e h
      refine RJ_op rfl (O_call (L_pack_Text hr12) rfl Try.call55 Dels.nil rfl (fun X13 _ => ?_))
      refine RJ_op rfl (OJ_P (P_move rfl) rfl ?_)
      refine RJ_op rfl (OJ_P (P_extract (v := X13.v) rfl rfl) rfl ?_)
      refine RJ_op rfl (OJ_P (P_extract rfl rfl) rfl ?_)
      refine RJ_op rfl (O_alloc Try.zeroValue29 rfl rfl (fun b15 => ?_))
      refine RJ_op rfl (O_store rfl rfl foc0 rfl rfl Try.sizeOf29 ?_)
      refine RJ_op rfl (OJ_P (P_assign rfl) rfl ?_)
      refine RJ_nil ?_
      refine QJ_then ?_
      refine CJ_seq ?_
      refine CJ_seq ?_
      refine CJ_region ?_
      refine RJ_op rfl (OJ_P (P_move rfl) rfl ?_)
      refine RJ_op rfl (OJ_P (P_neq (a := r11.2) (b := (0 : Int)) rfl rfl) rfl ?_)
      refine RJ_nil ?_
      refine QJ_then ?_
      refine CJ_condP rfl bT_dec (fun hg3 => ?_) (fun hg3 => ?_)
      ·
        replace h := ite_t hg3 h
        refine CJ_seq ?_
        refine CJ_region ?_
        refine RJ_op rfl (OJ_P (P_move rfl) rfl ?_)
        refine RJ_op rfl (O_store rfl rfl foc6 rfl rfl Try.sizeOf30 ?_)
        refine RJ_nil ?_
        refine QJ_ent (Ent.take del3 (Ent.take del3 (Ent.take del4 (Ent.drop (Ent.drop (Ent.drop (Ent.drop Ent.refl))))))) ?_
        refine QJ_then ?_
        refine CJ_ret ?_
        refine QJ_then_ret ?_
        have hE := Option.some.inj h
        subst hE
        refine QJ_endM0 (.inl rfl) (resA1 Try.results16 (RV_cell rfl foc2 rfl Try.isAgg30)) ?_
        refine CSpec.close () ?_ ?_ (Ent.take del0 (Ent.take del0 (Ent.drop Ent.refl)))
        · rfl
        · trivial
      ·
        replace h := ite_f hg3 h
        refine CJ_skip ?_
        refine QJ_then ?_
        refine CJ_seq ?_
        refine CJ_region ?_
        refine RJ_op rfl (OJ_P (P_fieldAddr rfl ⟨_, _, _, Try.runUnderlying96, rfl, rfl, Try.sizeOf26, rfl⟩) rfl ?_)
        refine RJ_op rfl (OJ_V (V_load rfl foc2 rfl Try.isAgg26) rfl ?_)
        rcases opt_e h with ⟨ht16, h⟩ | ⟨o17, ht16, h⟩
        ·
          rw [ht16]
          refine RJ_ent (Ent.take del0 (Ent.take del0 (Ent.take del0 (Ent.take del0 (Ent.take del0 (Ent.take del1 (Ent.drop Ent.refl))))))) ?_
          exact none_e h
        ·
          rw [ht16]
          refine RJ_ent (Ent.takeC (A' := DevP bs o17 X4) del5 rfl Ent.refl) ?_
          refine RJ_pure (fun h hh => DevP_dep h (stars_perm (del0 (A := DevP bs o17 X4)).out h hh)) (fun hdp18 => ?_)
          obtain ⟨r19, hr20, h⟩ := bind_e h
          refine RJ_op rfl (O_callI rfl (dev_Read hr20 hdp18) rfl (Dels.cons del0 (Dels.cons del4 Dels.nil)) rfl (fun _ _ => ?_))
          refine RJ_op rfl (OJ_P (P_move rfl) rfl ?_)
          refine RJ_op rfl (OJ_P (P_extract rfl rfl) rfl ?_)
          refine RJ_op rfl (OJ_P (P_extract rfl rfl) rfl ?_)
          refine RJ_op rfl (OJ_P (P_assign rfl) rfl ?_)
          refine RJ_op rfl (OJ_P (P_assign rfl) rfl ?_)
          refine RJ_nil ?_
          refine QJ_then ?_
          refine CJ_seq ?_
          refine CJ_seq ?_
          refine CJ_region ?_
          refine RJ_op rfl (OJ_P (P_move rfl) rfl ?_)
          refine RJ_op rfl (OJ_P (P_neq (a := r19.2) (b := (0 : Int)) rfl rfl) rfl ?_)
          refine RJ_nil ?_
          refine QJ_then ?_
          refine CJ_condP rfl bT_dec (fun hg4 => ?_) (fun hg4 => ?_)
          ·
            replace h := ite_t hg4 h
            refine CJ_seq ?_
            refine CJ_region ?_
            refine RJ_op rfl (OJ_P (P_move rfl) rfl ?_)
            refine RJ_op rfl (O_store rfl rfl foc6 rfl rfl Try.sizeOf30 ?_)
            refine RJ_nil ?_
            refine QJ_ent (Ent.take del1 (Ent.take del4 (Ent.take del4 (Ent.drop (Ent.drop (Ent.drop (Ent.drop Ent.refl))))))) ?_
            refine QJ_then ?_
            refine CJ_ret ?_
            refine QJ_then_ret ?_
            have hE := Option.some.inj h
            subst hE
            refine QJ_endM0 (.inl rfl) (resA1 Try.results16 (RV_cell rfl foc2 rfl Try.isAgg30)) ?_
            refine CSpec.close () ?_ ?_ (Ent.take del1 (Ent.take del0 (Ent.drop Ent.refl)))
            · rfl
            · trivial
          ·
            replace h := ite_f hg4 h
            refine CJ_skip ?_
            refine QJ_then ?_
            refine CJ_seq ?_
            refine CJ_region ?_
            refine RJ_op rfl (O_alloc Try.zeroValue103 rfl rfl (fun b21 => ?_))
            refine RJ_nil ?_
            refine QJ_then ?_
            refine CJ_seq ?_
            refine CJ_seq ?_
            refine CJ_region ?_
            refine RJ_op rfl (OJ_P (P_move rfl) rfl ?_)
            refine RJ_op rfl (OJ_P (P_ne_u64 (a := r19.1) (b := (0 : UInt64)) rfl rfl) rfl ?_)
            refine RJ_nil ?_
            refine QJ_then ?_
            obtain ⟨y24, hl22, hK23⟩ := seq_e h
            refine CJ_cutT (X := Int × Int × Int × Int) [12, 13, 14, 53, 54, 55, 56, 57, 58, 59, 60, 61, 62, 63, 64, 65, 66] (fun a29 => ([] : Slots)) (fun a29 R => blk b21 103 [.int .i64 a29.1, .int .i64 a29.2.1, .int .i64 a29.2.2.1, .int .i64 a29.2.2.2] :: R) (fun a29 => y24 = .inl a29) (Dels.cons del0 Dels.nil) ?_ ?_
            ·
              have h := hl22
              refine CJ_condP rfl bT_dec (fun hg5 => ?_) (fun hg5 => ?_)
              ·
                replace h := ite_t hg5 h
                refine CJ_seq ?_
                refine CJ_region ?_
                refine RJ_op rfl (OJ_V (V_loadN rfl foc5 Try.isAgg96 Try.sizeOf96 rfl rfl) rfl ?_)
                refine RJ_op rfl (OJ_P (P_move rfl) rfl ?_)
                obtain ⟨r30, hr31, h⟩ := bind_e h
                refine RJ_op rfl (O_call (L_ring_area_text hr31) rfl Try.call56 (Dels.cons del1 (Dels.cons del1 Dels.nil)) rfl (fun _ _ => ?_))
                refine RJ_op rfl (OJ_P (P_move rfl) rfl ?_)
                refine RJ_op rfl (OJ_P (P_extract rfl rfl) rfl ?_)
                refine RJ_op rfl (OJ_P (P_extract rfl rfl) rfl ?_)
                refine RJ_op rfl (OJ_P (P_extract rfl rfl) rfl ?_)
                refine RJ_op rfl (OJ_P (P_assign rfl) rfl ?_)
                refine RJ_op rfl (OJ_P (P_assign rfl) rfl ?_)
                refine RJ_op rfl (OJ_P (P_assign rfl) rfl ?_)
                refine RJ_nil ?_
                refine QJ_then ?_
                refine CJ_seq ?_
                refine CJ_seq ?_
                refine CJ_region ?_
                refine RJ_op rfl (OJ_P (P_move rfl) rfl ?_)
                refine RJ_op rfl (OJ_P (P_neq (a := r30.2.2) (b := (0 : Int)) rfl rfl) rfl ?_)
                refine RJ_nil ?_
                refine QJ_then ?_
                refine CJ_condP rfl bT_dec (fun hg6 => ?_) (fun hg6 => ?_)
                ·
                  replace h := ite_t hg6 h
                  refine CJ_seq ?_
                  refine CJ_region ?_
                  refine RJ_op rfl (OJ_P (P_move rfl) rfl ?_)
                  refine RJ_op rfl (O_store rfl rfl foc7 rfl rfl Try.sizeOf30 ?_)
                  refine RJ_nil ?_
                  refine QJ_then ?_
                  refine CJ_ret ?_
                  refine QJ_then_ret ?_
                  refine QJ_then_ret ?_
                  have hE := Option.some.inj h
                  replace hE := seq_inr hK23 hE.symm
                  subst hE
                  refine QJ_endM0 (.inl rfl) (resA1 Try.results16 (RV_cell rfl foc7 rfl Try.isAgg30)) ?_
                  refine CSpec.close () ?_ ?_ (Ent.take del6 (Ent.take del1 (Ent.drop (Ent.drop (Ent.drop (Ent.drop (Ent.drop (Ent.drop Ent.refl))))))))
                  · rfl
                  · trivial
                ·
                  replace h := ite_f hg6 h
                  refine CJ_skip ?_
                  refine QJ_then ?_
                  refine CJ_seq ?_
                  refine CJ_seq ?_
                  refine CJ_region ?_
                  refine RJ_op rfl (OJ_P (P_move rfl) rfl ?_)
                  refine RJ_op rfl (OJ_P (P_not rfl) rfl ?_)
                  refine RJ_nil ?_
                  refine QJ_then ?_
                  refine CJ_condP rfl (bT_not Iff.rfl) (fun hg7 => ?_) (fun hg7 => ?_)
                  ·
                    replace h := ite_t hg7 h
                    refine CJ_seq ?_
                    refine CJ_region ?_
                    refine RJ_op rfl (O_store rfl rfl foc7 rfl rfl Try.sizeOf30 ?_)
                    refine RJ_nil ?_
                    refine QJ_then ?_
                    refine CJ_ret ?_
                    refine QJ_then_ret ?_
                    refine QJ_then_ret ?_
                    have hE := Option.some.inj h
                    replace hE := seq_inr hK23 hE.symm
                    subst hE
                    refine QJ_endM0 (.inl rfl) (resA1 Try.results16 (RV_cell rfl foc7 rfl Try.isAgg30)) ?_
                    refine CSpec.close () ?_ ?_ (Ent.take del6 (Ent.take del1 (Ent.drop (Ent.drop (Ent.drop (Ent.drop (Ent.drop (Ent.drop Ent.refl))))))))
                    · rfl
                    · trivial
                  ·
                    replace h := ite_f hg7 h
                    refine CJ_skip ?_
                    refine QJ_then ?_
                    refine CJ_region ?_
                    refine RJ_op rfl (OJ_P (P_move rfl) rfl ?_)
                    obtain ⟨r32, hr33, h⟩ := bind_e h
                    refine RJ_op rfl (O_call (L_ring_descriptor_parts hr33) rfl Try.call57 Dels.nil rfl (fun _ _ => ?_))
                    refine RJ_op rfl (O_storeN rfl rfl foc2 Try.sizeOf103 rfl rfl rfl ?_)
                    refine RJ_nil ?_
                    refine QJ_cutR (r32.seq, r32.start, r32.length, r32.sum) ?_ (by repeat (first | exact Kp.base | exact Kp.self | refine Kp.cons rfl ?_ | refine Kp.forget rfl ?_)) ?_ (Ent.take del2 Ent.refl)
                    · exact (Option.some.inj h).symm
                    · exact True.intro
              ·
                replace h := ite_f hg5 h
                refine CJ_skip ?_
                refine QJ_cutR ((0 : Int), (0 : Int), (0 : Int), (0 : Int)) ?_ (by repeat (first | exact Kp.base | exact Kp.self | refine Kp.cons rfl ?_ | refine Kp.forget rfl ?_)) ?_ Ent.refl
                · exact (Option.some.inj h).symm
                · exact True.intro
            ·
              rintro a29 hy34
              replace h := seq_inl hK23 hy34
              show CJ _ _ _ _ _ (([] : Slots) ++ forget _ _) (blk b21 103 [.int .i64 a29.1, .int .i64 a29.2.1, .int .i64 a29.2.2.1, .int .i64 a29.2.2.2] :: _)
              refine CJ_seq ?_
              refine CJ_seq ?_
              refine CJ_region ?_
              refine RJ_op rfl (OJ_V (V_load rfl foc3 rfl Try.isAgg29) rfl ?_)
              refine RJ_op rfl (OJ_V (V_len rfl foc4 (Reads.sl _ _ _) Try.runUnderlying29) rfl ?_)
              refine RJ_op rfl (OJ_P (P_fieldAddr rfl ⟨_, _, _, Try.runUnderlying103, rfl, rfl, Try.sizeOf3, rfl⟩) rfl ?_)
              refine RJ_op rfl (OJ_V (V_load rfl foc0 rfl Try.isAgg3) rfl ?_)
              obtain ⟨hg8, h⟩ := grd_Ie h
              refine RJ_op rfl (OJ_P (P_add (a := ((r11.1.length : Nat) : Int)) (b := a29.2.2.1) rfl rfl hg8) rfl ?_)
              refine RJ_op rfl (OJ_P (P_fieldAddr rfl ⟨_, _, _, Try.runUnderlying96, rfl, rfl, Try.sizeOf3, rfl⟩) rfl ?_)
              refine RJ_op rfl (OJ_V (V_load rfl foc5 rfl Try.isAgg3) rfl ?_)
              refine RJ_op rfl (OJ_P (P_gtr (a := (((r11.1.length : Nat) : Int) + a29.2.2.1)) (b := r2.2.1) rfl rfl) rfl ?_)
              refine RJ_nil ?_
              refine QJ_then ?_
              refine CJ_condP rfl bT_dec (fun hg9 => ?_) (fun hg9 => ?_)
              ·
                replace h := ite_t hg9 h
                refine CJ_seq ?_
                refine CJ_region ?_
                refine RJ_op rfl (O_store rfl rfl foc7 rfl rfl Try.sizeOf30 ?_)
                refine RJ_nil ?_
                refine QJ_ent (Ent.take del2 (Ent.take del5 (Ent.take del5 (Ent.drop (Ent.drop (Ent.drop (Ent.drop (Ent.drop Ent.refl)))))))) ?_
                refine QJ_then ?_
                refine CJ_ret ?_
                refine QJ_then_ret ?_
                have hE := Option.some.inj h
                subst hE
                refine QJ_endM0 (.inl rfl) (resA1 Try.results16 (RV_cell rfl foc2 rfl Try.isAgg30)) ?_
                refine CSpec.close () ?_ ?_ (Ent.take del1 (Ent.take del0 (Ent.drop Ent.refl)))
                · rfl
                · trivial
              ·
                replace h := ite_f hg9 h
                refine CJ_skip ?_
                refine QJ_then ?_
                refine CJ_seq ?_
                refine AJ_startH 8192 (by kernel_rfl) rfl ?_
                refine AJ_takeP 0 1 rfl (by kernel_rfl) rfl (GY_none rfl) (P_move rfl) rfl (fun _ _ _ _ h => h) ?_
                refine AJ_takeP 1 3 rfl (by kernel_rfl) rfl (GY_none rfl) (P_fieldAddr rfl ⟨_, _, _, Try.runUnderlying103, rfl, rfl, Try.sizeOf3, rfl⟩) rfl (fun _ _ _ _ h => h) ?_
                refine AJ_takeV 2 7 rfl (by kernel_rfl) rfl (by kernel_rfl) (by kernel_rfl) (GY_none rfl) Ent.refl (V_load rfl foc0 rfl Try.isAgg3) rfl (fun _ _ _ _ h => h) ?_
                refine AJ_takeP 3 15 rfl (by kernel_rfl) rfl (GY_none rfl) (P_fieldAddr rfl ⟨_, _, _, Try.runUnderlying103, rfl, rfl, Try.sizeOf3, rfl⟩) rfl (fun _ _ _ _ h => h) ?_
                refine AJ_takeV 4 31 rfl (by kernel_rfl) rfl (by kernel_rfl) (by kernel_rfl) (GY_none rfl) Ent.refl (V_load rfl foc0 rfl Try.isAgg3) rfl (fun _ _ _ _ h => h) ?_
                obtain ⟨hg10, h⟩ := grd_Ie h
                refine AJ_takeP 5 63 rfl (by kernel_rfl) rfl (GY_none rfl) (P_add (a := a29.2.1) (b := a29.2.2.1) rfl rfl hg10) rfl (fun _ _ _ _ h => h) ?_
                refine AJ_takeP 6 127 rfl (by kernel_rfl) rfl (GY_none rfl) (P_fieldAddr rfl ⟨_, _, _, Try.runUnderlying96, rfl, rfl, Try.sizeOf3, rfl⟩) rfl (fun _ _ _ _ h => h) ?_
                refine AJ_takeV 7 255 rfl (by kernel_rfl) rfl (by kernel_rfl) (by kernel_rfl) (GY_none rfl) Ent.refl (V_load rfl foc5 rfl Try.isAgg3) rfl (fun _ _ _ _ h => h) ?_
                obtain ⟨hg11, h⟩ := grd_de h
                refine AJ_takeP 8 511 rfl (by kernel_rfl) rfl (GY_none rfl) (P_remT (a := (a29.2.1 + a29.2.2.1)) (b := r2.2.1) rfl rfl hg11) rfl (fun _ _ _ _ h => h) ?_
                refine AJ_takeV 9 1023 rfl (by kernel_rfl) rfl (by kernel_rfl) (by kernel_rfl) (GY_none rfl) Ent.refl (V_load rfl foc3 rfl Try.isAgg29) rfl (fun _ _ _ _ h => h) ?_
                refine AJ_takeV 10 2047 rfl (by kernel_rfl) rfl (by kernel_rfl) (by kernel_rfl) (GY_none rfl) Ent.refl (V_len rfl foc4 (Reads.sl _ _ _) Try.runUnderlying29) rfl (fun _ _ _ _ h => h) ?_
                refine AJ_takeP 11 4095 rfl (by kernel_rfl) rfl (GY_none rfl) (P_build rfl (bld_103_0_1_2 _ _ _)) rfl (fun _ _ _ _ h => h) ?_
                refine AJ_op 12 8191 rfl (by kernel_rfl) rfl (GY_none rfl) (O_alloc Try.zeroValue103 rfl rfl (fun b35 => ?_))
                refine ⟨fun _ => (Ent.take del1 (Ent.take del1 (Ent.take del1 (Ent.take del1 (Ent.take del1 (Ent.take del1 (Ent.take del1 (Ent.take del1 (Ent.drop Ent.refl))))))))), ?_⟩
                refine AJ_op 13 16383 rfl (by kernel_rfl) rfl (GY_none rfl) (O_storeN rfl rfl foc0 Try.sizeOf103 rfl rfl rfl ?_)
                refine ⟨fun h => absurd h (by decide), ?_⟩
                refine AJ_done (by kernel_rfl) ?_
                refine QJ_ent (Ent.take del0 (Ent.take del1 (Ent.take del1 (Ent.take del1 (Ent.take del1 (Ent.take del1 (Ent.take del1 (Ent.take del1 (Ent.drop Ent.refl))))))))) ?_
                refine QJ_then ?_
                refine CJ_seq ?_
                refine CJ_region ?_
                refine RJ_op rfl (OJ_V (V_loadN rfl foc0 Try.isAgg103 Try.sizeOf103 rfl rfl) rfl ?_)
                refine RJ_op rfl (OJ_V (V_load rfl foc3 rfl Try.isAgg29) rfl ?_)
                obtain ⟨r36, hr37, h⟩ := bind_e h
                refine RJ_op rfl (O_call (L_ring_parts_check (Reads.sl _ _ _) hr37) rfl Try.call58 (Dels.cons del4 Dels.nil) rfl (fun _ _ => ?_))
                refine RJ_op rfl (OJ_P (P_fieldAddr rfl ⟨_, _, _, Try.runUnderlying103, rfl, rfl, Try.sizeOf3, rfl⟩) rfl ?_)
                refine RJ_op rfl (O_store rfl rfl foc1 rfl rfl Try.sizeOf3 ?_)
                refine RJ_nil ?_
                refine QJ_then ?_
                refine CJ_seq ?_
                refine CJ_seq ?_
                refine CJ_region ?_
                refine RJ_op rfl (OJ_V (V_loadN rfl foc5 Try.isAgg96 Try.sizeOf96 rfl rfl) rfl ?_)
                refine RJ_op rfl (OJ_P (P_fieldAddr rfl ⟨_, _, _, Try.runUnderlying103, rfl, rfl, Try.sizeOf3, rfl⟩) rfl ?_)
                refine RJ_op rfl (OJ_V (V_load rfl foc1 rfl Try.isAgg3) rfl ?_)
                refine RJ_op rfl (OJ_P (P_fieldAddr rfl ⟨_, _, _, Try.runUnderlying103, rfl, rfl, Try.sizeOf3, rfl⟩) rfl ?_)
                refine RJ_op rfl (OJ_V (V_load rfl foc1 rfl Try.isAgg3) rfl ?_)
                obtain ⟨r38, hr39, h⟩ := bind_e h
                refine RJ_op rfl (O_call (L_ring_area_sectors hr39) rfl Try.call59 (Dels.cons del2 (Dels.cons del2 Dels.nil)) rfl (fun X40 _ => ?_))
                refine RJ_nil ?_
                refine QJ_then ?_
                refine CJ_block ?_
                obtain ⟨hg46, h⟩ := grd_de h
                obtain ⟨y49, hl47, hK48⟩ := bind_c h
                refine CJ_range (ps := [97, 98]) (C := ArrS) (Z := Int × ArrS) (ispec_sectors hg46) rfl Try.call86 rfl (fun _ => rfl) (fun a50 R => Arr bs a50 :: blk b1 30 [.int .i64 (0 : Int)] :: R) (fun bs55 a50 => ring_Prepare_l2 r11 o17 bs55 a50 = some y49) (fun z51 R => blk b1 30 [.int .i64 z51.1] :: Arr bs z51.2 :: R) (fun z51 => y49 = .inr z51) s hl47 (Dels.cons del2 (Dels.cons del2 (Dels.cons del2 Dels.nil))) (Ent.take del1 (Ent.take del7 Ent.refl)) ?_ ?_ ?_
                ·
                  rintro l56 Zz bs55 e45 a50 hpre57 h
                  replace h : ring_Prepare_l2_b r11 o17 (ring_Prepare_l2 r11 o17 bs55) e45 a50 = some y49 := h
                  unfold ring_Prepare_l2_b at h
                  show CJ _ _ _ _ _ (([(98, .int .i64 e45.2), (97, .int .i64 e45.1)] : Slots) ++ _) (Zz :: Arr bs a50 :: blk b1 30 [.int .i64 (0 : Int)] :: _)
                  refine CJ_seq ?_
                  refine CJ_region ?_
                  refine RJ_op rfl (OJ_P (P_assign rfl) rfl ?_)
                  refine RJ_nil ?_
                  refine QJ_then ?_
                  refine CJ_region ?_
                  refine RJ_op rfl (OJ_P (P_assign rfl) rfl ?_)
                  refine RJ_nil ?_
                  refine QJ_begin (fun Zz58 => ?_)
                  refine CJ_block ?_
                  refine CJ_seq ?_
                  refine AJ_startH 512 (by kernel_rfl) rfl ?_
                  refine AJ_takeP 0 1 rfl (by kernel_rfl) rfl (GY_none rfl) (P_fieldAddr rfl ⟨_, _, _, Try.runUnderlying96, rfl, rfl, Try.sizeOf26, rfl⟩) rfl (fun _ _ _ _ h => h) ?_
                  refine AJ_takeV 1 3 rfl (by kernel_rfl) rfl (by kernel_rfl) (by kernel_rfl) (GY_none rfl) Ent.refl (V_load rfl foc8 rfl Try.isAgg26) rfl (fun _ _ _ _ h => h) ?_
                  refine AJ_takeP 2 7 rfl (by kernel_rfl) rfl (GY_none rfl) (P_move rfl) rfl (fun _ _ _ _ h => h) ?_
                  refine AJ_takeV 3 15 rfl (by kernel_rfl) rfl (by kernel_rfl) (by kernel_rfl) (GY_none rfl) Ent.refl (V_load rfl foc7 rfl Try.isAgg29) rfl (fun _ _ _ _ h => h) ?_
                  refine AJ_takeP 4 31 rfl (by kernel_rfl) rfl (GY_none rfl) (P_move rfl) rfl (fun _ _ _ _ h => h) ?_
                  obtain ⟨hg12, h⟩ := grd_de h
                  refine AJ_takeV 5 63 rfl (by kernel_rfl) rfl (by kernel_rfl) (by kernel_rfl) (GY_none rfl) Ent.refl (V_index (i := (e45.1).toNat) rfl rfl (Int.toNat_of_nonneg (hg12.1)).symm (by omega) foc5 (Reads.sl _ _ _) Try.runUnderlying29 Try.sizeOf39) rfl (fun _ _ _ _ h => h) ?_
                  refine AJ_takeV 6 127 rfl (by kernel_rfl) rfl (by kernel_rfl) (by kernel_rfl) (GY_none rfl) Ent.refl (V_loadE rfl rfl (by omega) foc5 (Reads.sl _ _ _) rfl rfl Try.isAgg39) rfl (fun _ _ _ _ h => h) ?_
                  refine AJ_takeP 7 255 rfl (by kernel_rfl) rfl (GY_none rfl) (P_nilCheckI rfl) rfl (fun _ _ _ _ h => h) ?_
                  refine AJ_takeP 8 511 rfl (by kernel_rfl) rfl (GY_none rfl) (P_move rfl) rfl (fun _ _ _ _ h => h) ?_
                  refine AJ_pure (fun h hh => DevP_dep h (stars_perm (del3 (A := DevP bs o17 X4)).out h hh)) (fun hdp59 => ?_)
                  obtain ⟨r60, hr61, h⟩ := bind_e h
                  refine AJ_op 9 1023 rfl (by kernel_rfl) rfl (GY_none rfl) (O_callI rfl (dev_Write hr61 hdp59) rfl (Dels.cons del3 (Dels.cons del1 Dels.nil)) rfl (fun _ _ => ?_))
                  refine ⟨fun h => absurd h (by decide), ?_⟩
                  refine AJ_takeP 10 2047 rfl (by kernel_rfl) rfl (GY_none rfl) (P_assign rfl) rfl (fun _ _ _ _ h => h) ?_
                  refine AJ_done (by kernel_rfl) ?_
                  refine QJ_then ?_
                  refine CJ_seq ?_
                  refine CJ_region ?_
                  refine RJ_op rfl (OJ_P (P_move rfl) rfl ?_)
                  refine RJ_op rfl (OJ_P (P_neq (a := r60.1) (b := (0 : Int)) rfl rfl) rfl ?_)
                  refine RJ_nil ?_
                  refine QJ_then ?_
                  refine CJ_condP rfl bT_dec (fun hg13 => ?_) (fun hg13 => ?_)
                  ·
                    replace h := ite_t hg13 h
                    refine CJ_seq ?_
                    refine CJ_region ?_
                    refine RJ_op rfl (OJ_P (P_move rfl) rfl ?_)
                    refine RJ_op rfl (O_store rfl rfl foc3 rfl rfl Try.sizeOf30 ?_)
                    refine RJ_nil ?_
                    refine QJ_then ?_
                    refine CJ_ret ?_
                    refine QJ_block_ret ?_
                    refine QJ_rngR (r60.1, r60.2) ?_ (Ent.take del2 (Ent.take del2 (Ent.take del1 Ent.refl)))
                    exact (Option.some.inj h).symm
                  ·
                    replace h := ite_f hg13 h
                    refine CJ_skip ?_
                    refine QJ_block_normal ?_
                    refine QJ_rng r60.2 ?_ (Ent.take del2 (Ent.take del1 (Ent.take del1 Ent.refl)))
                    exact h
                ·
                  rintro D62 a50 hy63
                  replace h := sel_inl hK48 (show some (.inl a50) = some y49 from hy63)
                  show QJ _ _ _ _ _ (dblk D62 :: blk X40.1 3 [.int .i64 r38.1] :: blk X40.2.1 3 [.int .i64 r38.2.1] :: blk X40.2.2.1 96 [IfH.v X40.2.2.2, .int .i64 r38.2.2.2] :: Arr bs a50 :: blk b1 30 [.int .i64 (0 : Int)] :: _)
                  refine QJ_block_normal ?_
                  refine QJ_ent (Ent.take del0 (Ent.take del3 (Ent.take del3 (Ent.take del3 (Ent.take del5 (Ent.take del6 (Ent.take del6 (Ent.drop (Ent.drop (Ent.drop (Ent.drop (Ent.drop (Ent.drop Ent.refl))))))))))))) ?_
                  refine QJ_then ?_
                  refine CJ_seq ?_
                  refine CJ_seq ?_
                  refine CJ_region ?_
                  refine RJ_op rfl (OJ_P (P_fieldAddr rfl ⟨_, _, _, Try.runUnderlying96, rfl, rfl, Try.sizeOf26, rfl⟩) rfl ?_)
                  refine RJ_op rfl (OJ_V (V_load rfl foc5 rfl Try.isAgg26) rfl ?_)
                  refine RJ_pure (fun h hh => DevP_dep h (stars_perm (del3 (A := DevP bs o17 X4)).out h hh)) (fun hdp64 => ?_)
                  obtain ⟨r65, hr66, h⟩ := bind_e h
                  refine RJ_op rfl (O_callI rfl (dev_Flush hr66 hdp64) rfl (Dels.cons del3 (Dels.cons del1 Dels.nil)) rfl (fun _ _ => ?_))
                  refine RJ_op rfl (OJ_P (P_assign rfl) rfl ?_)
                  refine RJ_nil ?_
                  refine QJ_then ?_
                  refine CJ_seq ?_
                  refine CJ_region ?_
                  refine RJ_op rfl (OJ_P (P_move rfl) rfl ?_)
                  refine RJ_op rfl (OJ_P (P_neq (a := r65.1) (b := (0 : Int)) rfl rfl) rfl ?_)
                  refine RJ_nil ?_
                  refine QJ_then ?_
                  refine CJ_condP rfl bT_dec (fun hg14 => ?_) (fun hg14 => ?_)
                  ·
                    replace h := ite_t hg14 h
                    refine CJ_seq ?_
                    refine CJ_region ?_
                    refine RJ_op rfl (OJ_P (P_move rfl) rfl ?_)
                    refine RJ_op rfl (O_store rfl rfl foc3 rfl rfl Try.sizeOf30 ?_)
                    refine RJ_nil ?_
                    refine QJ_ent (Ent.take del1 (Ent.take del1 (Ent.take del1 (Ent.take del3 (Ent.drop (Ent.drop (Ent.drop Ent.refl))))))) ?_
                    refine QJ_then ?_
                    refine CJ_ret ?_
                    refine QJ_then_ret ?_
                    have hE := Option.some.inj h
                    subst hE
                    refine QJ_endM1 (.inl rfl) del1 (resA1 Try.results16 (RV_cell rfl foc2 rfl Try.isAgg30)) rfl ?_
                    refine CSpec.close () ?_ ?_ (Ent.take del2 (Ent.take del0 (Ent.drop Ent.refl)))
                    · rfl
                    · trivial
                  ·
                    replace h := ite_f hg14 h
                    refine CJ_skip ?_
                    refine QJ_then ?_
                    refine CJ_seq ?_
                    refine AJ_startH 24 (by kernel_rfl) rfl ?_
                    refine AJ_takeV 0 1 rfl (by kernel_rfl) rfl (by kernel_rfl) (by kernel_rfl) (GY_none rfl) Ent.refl (V_loadN rfl foc5 Try.isAgg96 Try.sizeOf96 rfl rfl) rfl (fun _ _ _ _ h => h) ?_
                    refine AJ_takeV 1 3 rfl (by kernel_rfl) rfl (by kernel_rfl) (by kernel_rfl) (GY_none rfl) Ent.refl (V_loadN rfl foc4 Try.isAgg103 Try.sizeOf103 rfl rfl) rfl (fun _ _ _ _ h => h) ?_
                    obtain ⟨r67, hr68, h⟩ := bind_e h
                    refine AJ_op 2 7 rfl (by kernel_rfl) rfl (GY_none rfl) (O_call (L_ring_parts_word hr68) rfl Try.call61 Dels.nil rfl (fun _ _ => ?_))
                    refine ⟨fun _ => Ent.refl, ?_⟩
                    obtain ⟨r69, hr70, h⟩ := bind_e h
                    refine AJ_op 3 15 rfl (by kernel_rfl) rfl (GY_none rfl) (O_call (L_ring_area_put hr70) rfl Try.call60 (Dels.cons del0 (Dels.cons del0 Dels.nil)) rfl (fun _ _ => ?_))
                    refine ⟨fun h => absurd h (by decide), ?_⟩
                    refine AJ_op 4 31 rfl (by kernel_rfl) rfl (GY_none rfl) (O_store rfl rfl foc3 rfl rfl Try.sizeOf30 ?_)
                    refine ⟨fun h => absurd h (by decide), ?_⟩
                    refine AJ_done (by kernel_rfl) ?_
                    refine QJ_ent (Ent.take del1 (Ent.take del1 (Ent.take del1 (Ent.take del3 (Ent.drop (Ent.drop (Ent.drop Ent.refl))))))) ?_
                    refine QJ_then ?_
                    refine CJ_ret ?_
                    have hE := Option.some.inj h
                    subst hE
                    refine QJ_endM1 (.inl rfl) del1 (resA1 Try.results16 (RV_cell rfl foc2 rfl Try.isAgg30)) rfl ?_
                    refine CSpec.close () ?_ ?_ (Ent.take del2 (Ent.take del0 (Ent.drop Ent.refl)))
                    · rfl
                    · trivial
                ·
                  rintro D71 z51 hy72
                  replace h := sel_inr hK48 hy72
                  show QJ _ _ _ _ _ (dblk D71 :: blk X40.1 3 [.int .i64 r38.1] :: blk X40.2.1 3 [.int .i64 r38.2.1] :: blk X40.2.2.1 96 [IfH.v X40.2.2.2, .int .i64 r38.2.2.2] :: blk b1 30 [.int .i64 z51.1] :: Arr bs z51.2 :: _)
                  refine QJ_block_ret ?_
                  refine QJ_then_ret ?_
                  have hE := Option.some.inj h
                  subst hE
                  refine QJ_endM1 (.inl rfl) del0 (resA1 Try.results16 (RV_cell rfl foc4 rfl Try.isAgg30)) rfl ?_
                  refine CSpec.close () ?_ ?_ (Ent.take del11 (Ent.take del4 (Ent.drop (Ent.drop (Ent.drop (Ent.drop (Ent.drop (Ent.drop (Ent.drop (Ent.drop (Ent.drop (Ent.drop Ent.refl))))))))))))
                  · rfl
                  · trivial
def ring_Switch (x_0 : Dvc) (s : ArrS) : Option (Int × ArrS) :=
  Option.bind (ring_open x_0 s) fun r1 =>
  if (((r1.2.2 : Nat) : Int) ≠ (0 : Int)) then
    some ((((r1.2.2 : Nat) : Int), s))
  else
    Option.elim r1.1 (
      none) fun o7 =>
    Option.bind (Dvc.rd o7 s (1 : Int)) fun r9 =>
    if (r9.2 ≠ (0 : Int)) then
      some (r9.2, s)
    else
      if (r9.1 = (0 : UInt64)) then
        some (((12 : Int), s))
      else
        Option.bind (ring_area_text o7 r1.2.1 r9.1 s) fun r11 =>
        if (r11.2.2 ≠ (0 : Int)) then
          some (r11.2.2, s)
        else
          if (¬ r11.2.1 = true) then
            some (((11 : Int), s))
          else
            Option.bind (ring_area_put o7 r1.2.1 (0 : Int) r9.1 s) fun r13 =>
            some (r13.1, r13.2)
theorem L_ring_Switch {W : World} {vx_0 : IfH} {bs : Nat} {x_0 : Dvc} {s : ArrS} {r : Int × ArrS} (h : ring_Switch x_0 s = some r) :
    CSpec Try.prog W 17 [IfH.v vx_0] [DevP bs x_0 vx_0, Arr bs s] (fun x : Unit => .int .i64 r.1) (fun _ => True) (fun x F => DevP bs x_0 vx_0 :: Arr bs r.2 :: F) := by
 refine CSpec.of_body Try.func17 rfl Try.ntmps17 rfl fun F => ?_
 show CJ _ _ _ _ _ _ (_ :: _ :: F)
 unfold ring_Switch at h
 refine sR <| oA rfl rfl <| nT <| sR <| oM rfl rfl ?_
 obtain ⟨r1, hr2, h⟩ := bind_e h
 refine oO <| O_call (L_ring_open hr2) rfl Try.call54 (Dels.cons del0 (Dels.cons del0 Dels.nil)) rfl fun X3 _ => oM rfl rfl <| oP (P_extract rfl rfl) rfl <| oP (P_extract rfl rfl) rfl <| oO <| O_alloc Try.zeroValue96 rfl rfl fun b5 => oO <| O_storeN rfl rfl foc0 Try.sizeOf96 rfl rfl (by simp only [allOne, oneCell_oval, oneCell_oif, oneCell_oifc, Bool.true_and]; rfl) <| oA rfl rfl <| nT <| CJ_seq <| sR <| oM rfl rfl <| oP (P_neq (a := ((r1.2.2 : Nat) : Int)) (b := (0 : Int)) rfl rfl) rfl <| nT <| CJ_condP rfl bT_dec (fun hg1 => ?_) (fun hg1 => ?_)
 ·
  replace h := ite_t hg1 h
  refine sR <| oM rfl rfl <| oA rfl rfl <| nT <| CJ_ret <| QJ_then_ret ?_
  cases h
  exact fE (res1 Try.results17 rfl) () (t1_ (t1_ (eD (eD eR))))
 ·
  replace h := ite_f hg1 h
  refine kT <| sR <| oP (P_fieldAddr rfl ⟨_, _, _, Try.runUnderlying96, rfl, rfl, Try.sizeOf26, rfl⟩) rfl <| oV (V_load rfl foc0 rfl Try.isAgg26) rfl ?_
  rcases opt_e h with ⟨ht6, h⟩ | ⟨o7, ht6, h⟩
  ·
   rw [ht6]
   exact RJ_ent (t0_ (t0_ (t0_ (eD eR)))) <| none_e h
  ·
   rw [ht6]
   refine RJ_ent (Ent.takeC (A' := DevP bs o7 X3) del3 rfl eR) <| RJ_pure (fun h hh => DevP_dep h (stars_perm (del0 (A := DevP bs o7 X3)).out h hh)) fun hdp8 => ?_
   obtain ⟨r9, hr10, h⟩ := bind_e h
   refine oO <| O_callI rfl (dev_Read hr10 hdp8) rfl (Dels.cons del0 (Dels.cons del2 Dels.nil)) rfl fun _ _ => oM rfl rfl <| oP (P_extract rfl rfl) rfl <| oP (P_extract rfl rfl) rfl <| oA rfl rfl <| oA rfl rfl <| nT <| CJ_seq <| sR <| oM rfl rfl <| oP (P_neq (a := r9.2) (b := (0 : Int)) rfl rfl) rfl <| nT <| CJ_condP rfl bT_dec (fun hg2 => ?_) (fun hg2 => ?_)
   ·
    replace h := ite_t hg2 h
    refine sR <| oM rfl rfl <| oA rfl rfl <| nT <| CJ_ret <| QJ_then_ret ?_
    cases h
    exact fE (res1 Try.results17 rfl) () (t3_ (t1_ (eD (eD eR))))
   ·
    replace h := ite_f hg2 h
    refine kT <| CJ_seq <| sR <| oM rfl rfl <| oP (P_eq_u64 (a := r9.1) (b := (0 : UInt64)) rfl rfl) rfl <| nT <| CJ_condP rfl bT_dec (fun hg3 => ?_) (fun hg3 => ?_)
    ·
     replace h := ite_t hg3 h
     refine sR <| oA rfl rfl <| nT <| CJ_ret <| QJ_then_ret ?_
     cases h
     exact fE (res1 Try.results17 rfl) () (t3_ (t1_ (eD (eD eR))))
    ·
     replace h := ite_f hg3 h
     refine kT <| sR <| oV (V_loadN rfl foc2 Try.isAgg96 Try.sizeOf96 rfl rfl) rfl <| oM rfl rfl ?_
     obtain ⟨r11, hr12, h⟩ := bind_e h
     refine oO <| O_call (L_ring_area_text hr12) rfl Try.call56 (Dels.cons del0 (Dels.cons del0 Dels.nil)) rfl fun _ _ => oM rfl rfl <| oP (P_extract rfl rfl) rfl <| oP (P_extract rfl rfl) rfl <| oP (P_extract rfl rfl) rfl <| oA rfl rfl <| oA rfl rfl <| oA rfl rfl <| nT <| CJ_seq <| sR <| oM rfl rfl <| oP (P_neq (a := r11.2.2) (b := (0 : Int)) rfl rfl) rfl <| nT <| CJ_condP rfl bT_dec (fun hg4 => ?_) (fun hg4 => ?_)
     ·
      replace h := ite_t hg4 h
      refine sR <| oM rfl rfl <| oA rfl rfl <| nT <| CJ_ret <| QJ_then_ret ?_
      cases h
      exact fE (res1 Try.results17 rfl) () (t3_ (t1_ (eD (eD eR))))
     ·
      replace h := ite_f hg4 h
      refine kT <| CJ_seq <| sR <| oM rfl rfl <| oP (P_not rfl) rfl <| nT <| CJ_condP rfl (bT_not Iff.rfl) (fun hg5 => ?_) (fun hg5 => ?_)
      ·
       replace h := ite_t hg5 h
       refine sR <| oA rfl rfl <| nT <| CJ_ret <| QJ_then_ret ?_
       cases h
       exact fE (res1 Try.results17 rfl) () (t3_ (t1_ (eD (eD eR))))
      ·
       replace h := ite_f hg5 h
       refine kT <| sR <| oV (V_loadN rfl foc2 Try.isAgg96 Try.sizeOf96 rfl rfl) rfl <| oM rfl rfl ?_
       obtain ⟨r13, hr14, h⟩ := bind_e h
       refine oO <| O_call (L_ring_area_put hr14) rfl Try.call60 (Dels.cons del0 (Dels.cons del0 Dels.nil)) rfl fun _ _ => oA rfl rfl <| nT <| CJ_ret ?_
       cases h
       exact fE (res1 Try.results17 rfl) () (t3_ (t1_ (eD (eD eR))))
end Go.Proofs
namespace Go.Proofs
open Go.VG
theorem wU {x : UInt64} (h : x.toNat < 2 ^ 20) : IntKind.i64.wrap (x.toNat : Int) = (x.toNat : Int) := wrap64_u _ (by omega)
theorem fU_lt (w : UInt64) (p : Nat) {k : Nat} (h : k ≤ 20) : (fieldU w p k).toNat < 2 ^ 20 := Nat.lt_of_lt_of_le (fieldU_lt w p k) (Nat.pow_le_pow_right (by omega) h)
theorem to_u64_self (x : UInt64) : to_u64 ((x.toNat : Nat) : Int) = x := by
  have h1 := to_u64_toNat (x.toNat : Int)
  have h2 := x.toNat_lt
  exact UInt64.toNat_inj.1 (by omega)
abbrev wid4 : List Int := [20, 16, 12, 16]
theorem divided4 : pack_divided wid4 = some true := by
  unfold pack_divided
  have hF := fuel_big
  generalize FUEL = N at hF ⊢
  obtain ⟨M, rfl⟩ : ∃ M, N = M + 5 := ⟨N - 5, by omega⟩
  have e : pack_divided_l1 wid4 (M + 5) 0 0 = some (.inl ()) := by
    show pack_divided_l1_b _ _ _ _ = _
    unfold pack_divided_l1_b
    rw [if_pos (by simp), if_neg (by simp), grd_pos (inI64_of (by simp)), if_neg (by simp)]
    show pack_divided_l1_b _ _ _ _ = _
    unfold pack_divided_l1_b
    rw [if_pos (by simp), if_neg (by simp), grd_pos (inI64_of (by simp)), if_neg (by simp)]
    show pack_divided_l1_b _ _ _ _ = _
    unfold pack_divided_l1_b
    rw [if_pos (by simp), if_neg (by simp), grd_pos (inI64_of (by simp)), if_neg (by simp)]
    show pack_divided_l1_b _ _ _ _ = _
    unfold pack_divided_l1_b
    rw [if_pos (by simp), if_neg (by simp), grd_pos (inI64_of (by simp)), if_neg (by simp)]
    show pack_divided_l1_b _ _ _ _ = _
    unfold pack_divided_l1_b
    rw [if_neg (by simp)]
  rw [e]; rfl
abbrev maskK (k : Nat) : UInt64 := shr_u64 18446744073709551615 (64 - k)
theorem fields4 : fieldsL wid4 0 = [(0, maskK 20), (20, maskK 16), (36, maskK 12), (48, maskK 16)] := rfl
theorem okW4 : (∀ w ∈ wid4, 0 ≤ w ∧ w ≤ 64) ∧ wid4.length ≤ 1000000 := by
  refine ⟨fun w hw => ?_, by decide⟩
  simp only [List.mem_cons, List.not_mem_nil, or_false] at hw
  omega
theorem field_and (w : UInt64) (p : Nat) {k : Nat} (hk : k ≤ 64) : shr_u64 w p &&& maskK k = fieldU w p k := and_mask (shr_max hk)
theorem split4 (d : UInt64) : pack_Split d wid4 = some ([dQ d, dS d, dN d, dC d], 0) := by
  unfold pack_Split
  rw [divided4]; simp only [Option.bind_some]
  rw [if_neg (by simp), show pack_fields wid4 = some () from rfl]; simp only [Option.bind_some]
  rw [grd_pos (decide_eq_true okW4), fields4]
  simp only [pack_Split_l1, pack_Split_l1_b]
  rw [grd_pos (by rfl), grd_pos (inLen_of (by simp)), grd_pos (by rfl), grd_pos (inLen_of (by simp)), grd_pos (by rfl), grd_pos (inLen_of (by simp)), grd_pos (by rfl), grd_pos (inLen_of (by simp))]
  simp only [Option.bind_some, List.nil_append, List.cons_append]
  rw [field_and _ _ (by omega), field_and _ _ (by omega), field_and _ _ (by omega), field_and _ _ (by omega)]
  rfl
abbrev partsD (d : UInt64) : ring_parts := ⟨((dQ d).toNat : Int), ((dS d).toNat : Int), ((dN d).toNat : Int), ((dC d).toNat : Int)⟩
theorem parts_eq (d : UInt64) : ring_descriptor_parts d = some (partsD d) := by
  unfold ring_descriptor_parts
  rw [show ring_widths = some wid4 from rfl]; simp only [Option.bind_some]
  rw [split4]; simp only [Option.bind_some]
  rw [grd_pos (by rfl), grd_pos (by rfl), grd_pos (by rfl), grd_pos (by rfl)]
  show some (⟨IntKind.i64.wrap ((dQ d).toNat : Int), IntKind.i64.wrap ((dS d).toNat : Int), IntKind.i64.wrap ((dN d).toNat : Int), IntKind.i64.wrap ((dC d).toNat : Int)⟩ : ring_parts) = _
  rw [wU (fU_lt _ _ (by omega)), wU (fU_lt _ _ (by omega)), wU (fU_lt _ _ (by omega)), wU (fU_lt _ _ (by omega))]
theorem sumW_int {q st n : UInt64} {ws : List UInt64} : ((shortU (crcU (q :: st :: n :: ws))).toNat : Int) = ((sumW q st n ws).toNat : Int) := by
  have h := (shortU (crcU (q :: st :: n :: ws))).toNat_lt
  have h2 := to_u64_toNat ((shortU (crcU (q :: st :: n :: ws))).toNat : Int)
  unfold sumW
  omega
theorem check_eq (p : ring_parts) {ws : List UInt64} (hw : ws.length ≤ 100000) : ring_parts_check p ws = some ((sumW (to_u64 p.seq) (to_u64 p.start) (to_u64 p.length) ws).toNat : Int) := by
  unfold ring_parts_check
  rw [grd_pos (inLen_of (by simp; omega)), Words_eq]; simp only [Option.bind_some]
  rw [show checksum_Short (crcU ([to_u64 p.seq, to_u64 p.start, to_u64 p.length] ++ ws)) = some (shortU (crcU (to_u64 p.seq :: to_u64 p.start :: to_u64 p.length :: ws))) from rfl]
  simp only [Option.bind_some]
  rw [sumW_int]
theorem shl_zero (a : UInt64) : shl_u64 a 0 = a := by
  refine tb_ext fun i hi => ?_
  rw [tb_shl _ (by omega)]; simp [hi]
theorem or_zero (a : UInt64) : 0 ||| a = a := by
  refine tb_ext fun i _ => ?_
  rw [tb_or, tb_zero]; rfl
theorem maskK_toNat {k : Nat} (hk : k ≤ 64) : (maskK k).toNat = 2 ^ k - 1 := shr_max hk
theorem word_eq4 {a b c d : UInt64} (ha : a.toNat < 2 ^ 20) (hb : b.toNat < 2 ^ 16) (hc : c.toNat < 2 ^ 12) (hd : d.toNat < 2 ^ 16) : pack_Fields wid4 [a, b, c, d] = some (descW a b c d, 0) := by
  unfold pack_Fields
  rw [if_neg (by simp), divided4]; simp only [Option.bind_some]
  rw [if_neg (by simp), show pack_fields wid4 = some () from rfl]; simp only [Option.bind_some]
  rw [grd_pos (decide_eq_true okW4), fields4]
  have m20 := maskK_toNat (k := 20) (by omega); have m16 := maskK_toNat (k := 16) (by omega); have m12 := maskK_toNat (k := 12) (by omega)
  simp only [pack_Fields_l1, pack_Fields_l1_b]
  show Option.bind (grd _ <| if ((maskK 20).toNat : Int) < (a.toNat : Int) then _ else _) _ = _
  rw [grd_pos (by rfl), if_neg (by omega), grd_pos (by rfl), grd_pos (by rfl), grd_pos (inN64_of (by omega))]
  show Option.bind (grd _ <| if ((maskK 16).toNat : Int) < (b.toNat : Int) then _ else _) _ = _
  rw [grd_pos (by rfl), if_neg (by omega), grd_pos (by rfl), grd_pos (by rfl), grd_pos (inN64_of (by omega))]
  show Option.bind (grd _ <| if ((maskK 12).toNat : Int) < (c.toNat : Int) then _ else _) _ = _
  rw [grd_pos (by rfl), if_neg (by omega), grd_pos (by rfl), grd_pos (by rfl), grd_pos (inN64_of (by omega))]
  show Option.bind (grd _ <| if ((maskK 16).toNat : Int) < (d.toNat : Int) then _ else _) _ = _
  rw [grd_pos (by rfl), if_neg (by omega), grd_pos (by rfl), grd_pos (by rfl), grd_pos (inN64_of (by omega))]
  show some ((((0 ||| shl_u64 a 0) ||| shl_u64 b 20) ||| shl_u64 c 36) ||| shl_u64 d 48, (0 : Int)) = _
  rw [shl_zero, or_zero]; rfl
theorem partsWord_eq {p : ring_parts} (ha : (to_u64 p.seq).toNat < 2 ^ 20) (hb : (to_u64 p.start).toNat < 2 ^ 16) (hc : (to_u64 p.length).toNat < 2 ^ 12) (hd : (to_u64 p.sum).toNat < 2 ^ 16) :
    ring_parts_word p = some (descW (to_u64 p.seq) (to_u64 p.start) (to_u64 p.length) (to_u64 p.sum)) := by
  unfold ring_parts_word
  rw [show ring_widths = some wid4 from rfl]; simp only [Option.bind_some]
  rw [word_eq4 ha hb hc hd]; rfl
abbrev rgR (n : Nat) : Nat := min (n - 2) 65535
theorem tmodN {a b : Nat} : ((a : Nat) : Int).tmod (b : Int) = ((a % b : Nat) : Int) := by
  rw [Int.tmod_eq_emod_of_nonneg (by omega)]; omega
theorem nz_iff (x : UInt64) : ((x.toNat : Nat) : Int) = 0 ↔ x = 0 := by
  constructor
  · intro h
    refine UInt64.toNat_inj.1 ?_
    have e : (0 : UInt64).toNat = 0 := rfl
    omega
  · rintro rfl; rfl
end Go.Proofs
namespace Go.Proofs
open Go.VG
def nowL (s : ArrS) (d : Nat) : List UInt64 := (s.drv.getD d d0).now
theorem size_nowL {s : ArrS} {d : Nat} : s.size d = (nowL s d).length := rfl
structure Good (s : ArrS) : Prop where
  down : s.down = false
  fuse : s.fuse = 0
  bad : s.bad = []
  miss : ∀ d, (s.drv.getD d d0).miss = false
theorem good_mkS {ims : List (List UInt64)} : Good (mkS ims) where
  down := rfl
  fuse := rfl
  bad := rfl
  miss d := by
    simp only [mkS, List.getD, List.getElem?_map]
    cases ims[d]? <;> rfl
theorem nowL_mkS {ims : List (List UInt64)} {d : Nat} : nowL (mkS ims) d = ims.getD d [] := by
  simp only [nowL, mkS, List.getD, List.getElem?_map]
  cases ims[d]? <;> rfl
@[simp] theorem drv_mkS {ims : List (List UInt64)} : (mkS ims).drv.length = ims.length := by simp [mkS]
theorem Good.chk {s : ArrS} (hg : Good s) {d a : Nat} (hd : d < s.drv.length) (ha : a < s.size d) : cPow s = 0 ∧ cLoc s d = 0 ∧ cPla s d a = 0 ∧ cPre s d = 0 ∧ cWho s d a = 0 := by
  refine ⟨by simp [cPow, hg.down], ?_, ?_, by simp only [cPre, missI, Int.toNat_natCast, hg.miss d]; rfl, by simp [cWho, isBad, hg.bad, lookM]⟩
  · rw [cLoc, if_pos (show inR s (d : Int) from ⟨by omega, by omega⟩)]
  · rw [cPla, sizeI_of hd, if_pos (by omega)]
theorem Good.rdC {s : ArrS} (hg : Good s) {d a : Nat} (hd : d < s.drv.length) (ha : a < s.size d) : rdC s d a = 0 := by
  obtain ⟨h1, h2, h3, h4, h5⟩ := hg.chk hd ha
  simp [Go.Proofs.rdC, fz, h1, h2, h3, h4, h5]
theorem Good.rdV {s : ArrS} (hg : Good s) {d a : Nat} (hd : d < s.drv.length) (ha : a < s.size d) : rdV s d a = (nowL s d).getD a 0 := by
  rw [Go.Proofs.rdV, if_pos (hg.rdC hd ha)]; rfl
def wr1 (s : ArrS) (d a : Nat) (v : UInt64) : ArrS := { s with drv := setNow s d a v, log := s.log ++ [⟨d, a, v⟩], writes := s.writes + 1 }
theorem Good.wr {s : ArrS} (hg : Good s) {d a : Nat} {v : UInt64} (hd : d < s.drv.length) (ha : a < s.size d) : wrR s d a = 0 ∧ wrS s d a v = wr1 s d a v := by
  obtain ⟨h1, h2, h3, h4, h5⟩ := hg.chk hd ha
  have hc : wrC s d a = 0 := by simp [wrC, fz, h1, h2, h3, h4]
  refine ⟨by rw [wrR, if_neg (by simp [hc]), if_neg (by rw [hg.fuse]; decide)], ?_⟩
  rw [wrS, if_neg (by simp [hc]), if_neg (by rw [hg.fuse]; decide)]
  have hdel : delM ([] : List ((Int × Int) × Unit)) ((d : Int), (a : Int)) = [] := rfl
  simp only [wr1, Int.toNat_natCast, hg.bad, hg.fuse, hdel]
theorem nowL_wr1 {s : ArrS} {d a e : Nat} {v : UInt64} (hd : d < s.drv.length) : nowL (wr1 s d a v) e = if e = d then (nowL s d).set a v else nowL s e := by
  unfold nowL wr1 setNow
  simp only [List.getD, List.getElem?_set]
  by_cases h : d = e
  · subst h; simp [hd]
  · rw [if_neg h, if_neg (fun x => h x.symm)]
@[simp] theorem drv_wr1 {s : ArrS} {d a : Nat} {v : UInt64} : (wr1 s d a v).drv.length = s.drv.length := by simp [wr1, setNow]
@[simp] theorem writes_wr1 {s : ArrS} {d a : Nat} {v : UInt64} : (wr1 s d a v).writes = s.writes + 1 := rfl
theorem size_wr1 {s : ArrS} {d a e : Nat} {v : UInt64} (hd : d < s.drv.length) : (wr1 s d a v).size e = s.size e := by
  rw [size_nowL, size_nowL, nowL_wr1 hd]; split
  · rename_i h; rw [List.length_set, h]
  · rfl
theorem Good.wr1 {s : ArrS} (hg : Good s) {d a : Nat} {v : UInt64} : Good (wr1 s d a v) where
  down := hg.down
  fuse := hg.fuse
  bad := hg.bad
  miss e := by
    have h0 := hg.miss e
    simp only [Go.Proofs.wr1, setNow, List.getD, List.getElem?_set] at h0 ⊢
    by_cases h : d = e
    · subst h
      by_cases hl : d < s.drv.length
      · have h1 := hg.miss d
        simp [hl, List.getD] at h1 ⊢
        exact h1
      · simp [hl]
    · rw [if_neg h]; exact h0
end Go.Proofs
namespace Go.Proofs
open Go.VG
theorem Good.span_rd {s : ArrS} (hg : Good s) {d st n k : Nat} (hd : d < s.drv.length) (hk : k < n) (hn : st + n ≤ s.size d) (hb : s.size d ≤ 1000000000) : (Dvc.span (d : Int) (st : Int) (n : Int)).rd s (k : Int) = some ((nowL s d).getD (st + k) 0, 0) := by
  rw [Go.Proofs.span_rd (by omega) (by omega), if_pos (by omega)]
  have e : (st : Int) + (k : Int) = ((st + k : Nat) : Int) := by omega
  rw [e, hg.rdC hd (by omega), hg.rdV hd (by omega)]
theorem Good.span_wr {s : ArrS} (hg : Good s) {d st n k : Nat} {v : UInt64} (hd : d < s.drv.length) (hk : k < n) (hn : st + n ≤ s.size d) (hb : s.size d ≤ 1000000000) (hw : s.writes ≤ 1000000000) : (Dvc.span (d : Int) (st : Int) (n : Int)).wr s (k : Int) v = some (0, Go.Proofs.wr1 s d (st + k) v) := by
  rw [Go.Proofs.span_wr (by omega) (by omega) hw, if_pos (by omega)]
  have e : (st : Int) + (k : Int) = ((st + k : Nat) : Int) := by omega
  rw [e, (hg.wr (v := v) hd (by omega)).1, (hg.wr hd (by omega)).2]
def wrN (s : ArrS) (d a : Nat) (f : Nat → UInt64) : Nat → ArrS
  | 0 => s
  | n + 1 => wr1 (wrN s d a f n) d (a + n) (f n)
theorem Good.wrN {s : ArrS} (hg : Good s) {d a : Nat} {f : Nat → UInt64} : ∀ n, Good (wrN s d a f n)
  | 0 => hg
  | n + 1 => (Good.wrN hg n).wr1
@[simp] theorem drv_wrN {s : ArrS} {d a : Nat} {f : Nat → UInt64} : ∀ {n}, (wrN s d a f n).drv.length = s.drv.length
  | 0 => rfl
  | n + 1 => by rw [wrN, drv_wr1, drv_wrN]
@[simp] theorem writes_wrN {s : ArrS} {d a : Nat} {f : Nat → UInt64} : ∀ {n}, (wrN s d a f n).writes = s.writes + n
  | 0 => rfl
  | n + 1 => by rw [wrN, writes_wr1, writes_wrN]; omega
theorem getD_set_ne {l : List UInt64} {i j : Nat} {v : UInt64} (h : i ≠ j) : (l.set i v).getD j 0 = l.getD j 0 := by
  simp [List.getD, List.getElem?_set, h]
theorem getD_set_eq {l : List UInt64} {i : Nat} {v : UInt64} (h : i < l.length) : (l.set i v).getD i 0 = v := by
  simp [List.getD, List.getElem?_set, h]
end Go.Proofs
namespace Go.Proofs
open Go.VG
def durL (s : ArrS) (d : Nat) : List UInt64 := (s.drv.getD d d0).dur
def pendR (log : List Rec) (d a : Nat) : List UInt64 := (log.filter fun r => decide (r.d = d ∧ r.a = a)).map Rec.v
abbrev pend (s : ArrS) (d a : Nat) : List UInt64 := pendR s.log d a
def now (s : ArrS) (d a : Nat) : UInt64 := (nowL s d).getD a 0
def dur (s : ArrS) (d a : Nat) : UInt64 := (durL s d).getD a 0
abbrev cand (s : ArrS) (d a : Nat) : List UInt64 := dur s d a :: pend s d a
theorem pendR_nil {d a : Nat} : pendR [] d a = [] := rfl
theorem pendR_append {l l' : List Rec} {d a : Nat} : pendR (l ++ l') d a = pendR l d a ++ pendR l' d a := by simp [pendR]
theorem pendR_one {r : Rec} {d a : Nat} : pendR [r] d a = if r.d = d ∧ r.a = a then [r.v] else [] := by
  by_cases h : r.d = d ∧ r.a = a
  · simp [pendR, h]
  · simp [pendR, h]
theorem pendR_cons {r : Rec} {l : List Rec} {d a : Nat} : pendR (r :: l) d a = if r.d = d ∧ r.a = a then r.v :: pendR l d a else pendR l d a := by
  rw [show r :: l = [r] ++ l from rfl, pendR_append, pendR_one]; split <;> rfl
theorem pendR_others {l : List Rec} {d e a : Nat} : pendR (others e l) d a = if d = e then [] else pendR l d a := by
  unfold pendR others
  rw [List.filter_filter]
  by_cases h : d = e
  · subst h
    rw [if_pos rfl, List.filter_eq_nil_iff.2]; · rfl
    intro r _ hr; simp at hr; exact hr.2 hr.1.1
  · rw [if_neg h]
    congr 1; apply List.filter_congr; intro r _
    by_cases h2 : r.d = d ∧ r.a = a
    · simp [h2, h]
    · simp [h2]
def lastD : UInt64 → List UInt64 → UInt64
  | d, [] => d
  | _, x :: l => lastD x l
theorem lastD_snoc {v : UInt64} : ∀ {l : List UInt64} {d : UInt64}, lastD d (l ++ [v]) = v
  | [], _ => rfl
  | x :: l, _ => lastD_snoc (l := l) (d := x)
structure Coh (s : ArrS) : Prop where
  len : ∀ d, (durL s d).length = (nowL s d).length
  last : ∀ d a, a < s.size d → lastD (dur s d a) (pend s d a) = now s d a
  log : ∀ r ∈ s.log, r.d < s.drv.length ∧ r.a < s.size r.d
theorem coh_mkS {ims : List (List UInt64)} : Coh (mkS ims) where
  len d := by simp only [durL, nowL, mkS, List.getD, List.getElem?_map]; cases ims[d]? <;> rfl
  last d a _ := by
    show dur (mkS ims) d a = _
    simp only [dur, now, durL, nowL, mkS, List.getD, List.getElem?_map]
    cases ims[d]? <;> rfl
  log r h := by cases h
theorem getD_set {l : List UInt64} {i j : Nat} {v : UInt64} (h : i < l.length) : (l.set i v).getD j 0 = if j = i then v else l.getD j 0 := by
  by_cases e : j = i
  · subst e; rw [if_pos rfl, getD_set_eq h]
  · rw [if_neg e, getD_set_ne (fun x => e x.symm)]
theorem drv_set {l : List Drive} {i j : Nat} {x : Drive} (h : i < l.length) : (l.set i x).getD j d0 = if j = i then x else l.getD j d0 := by
  simp only [List.getD, List.getElem?_set]
  by_cases e : i = j
  · subst e; simp [h]
  · rw [if_neg e, if_neg (fun x => e x.symm)]
section
variable {s : ArrS} {d a : Nat} {v : UInt64}
theorem durL_wr1 {e : Nat} (hd : d < s.drv.length) : durL (wr1 s d a v) e = durL s e := by
  unfold durL wr1 setNow
  rw [drv_set hd]; split
  · rename_i h; subst h; rfl
  · rfl
theorem pend_wr1 {e b : Nat} : pend (wr1 s d a v) e b = if d = e ∧ a = b then pend s e b ++ [v] else pend s e b := by
  show pendR (s.log ++ [⟨d, a, v⟩]) e b = _
  rw [pendR_append, pendR_one]; split <;> simp_all
theorem now_wr1 {e b : Nat} (hd : d < s.drv.length) (ha : a < s.size d) : now (wr1 s d a v) e b = if d = e ∧ a = b then v else now s e b := by
  unfold now
  rw [nowL_wr1 hd]
  by_cases h : e = d
  · subst h; rw [if_pos rfl, getD_set (show a < (nowL s e).length from ha)]
    by_cases h2 : b = a
    · subst h2; simp
    · rw [if_neg h2, if_neg (fun x => h2 x.2.symm)]
  · rw [if_neg h, if_neg (fun x => h x.1.symm)]
theorem dur_wr1 {e b : Nat} (hd : d < s.drv.length) : dur (wr1 s d a v) e b = dur s e b := by unfold dur; rw [durL_wr1 hd]
theorem Coh.wr1 (hc : Coh s) (hd : d < s.drv.length) (ha : a < s.size d) : Coh (wr1 s d a v) where
  len e := by rw [durL_wr1 hd, nowL_wr1 hd]; split
              · rename_i h; subst h; rw [List.length_set]; exact hc.len _
              · exact hc.len e
  last e b hb := by
    rw [size_wr1 hd] at hb
    have h1 := hc.last e b hb
    rw [dur_wr1 hd, pend_wr1, now_wr1 hd ha]
    by_cases h : d = e ∧ a = b
    · rw [if_pos h, if_pos h, lastD_snoc]
    · rw [if_neg h, if_neg h]; exact h1
  log r hr := by
    rw [drv_wr1, size_wr1 hd]
    rcases List.mem_append.1 (show r ∈ s.log ++ [⟨d, a, v⟩] from hr) with h | h
    · exact hc.log r h
    · rw [List.mem_singleton.1 h]; exact ⟨hd, ha⟩
end
def fl1 (s : ArrS) (d : Nat) : ArrS := { s with drv := s.drv.set d { s.drv.getD d d0 with dur := flDur (s.drv.getD d d0).now d s.log (s.drv.getD d d0).dur }, log := others d s.log }
theorem flDur_at {nw : List UInt64} {i a : Nat} : ∀ {log : List Rec} {du : List UInt64}, a < du.length → (flDur nw i log du).getD a 0 = if pendR log i a = [] then du.getD a 0 else nw.getD a 0
  | [], du, _ => by rw [pendR_nil, if_pos rfl]; rfl
  | r :: log, du, h => by
    show (flDur nw i log (if r.d = i then du.set r.a (nw.getD r.a 0) else du)).getD a 0 = _
    rw [flDur_at (by split <;> simpa using h), pendR_cons]
    by_cases hr : r.d = i
    · rw [if_pos hr]
      by_cases ha : r.a = a
      · rw [show (if r.d = i ∧ r.a = a then r.v :: pendR log i a else pendR log i a) = r.v :: pendR log i a from if_pos ⟨hr, ha⟩, if_neg (show ¬ r.v :: pendR log i a = [] by simp)]
        subst ha
        split
        · rw [getD_set_eq h]
        · rfl
      · rw [show (if r.d = i ∧ r.a = a then r.v :: pendR log i a else pendR log i a) = pendR log i a from if_neg (fun x => ha x.2), getD_set_ne ha]
    · rw [if_neg hr, show (if r.d = i ∧ r.a = a then r.v :: pendR log i a else pendR log i a) = pendR log i a from if_neg (fun x => hr x.1)]
section
variable {s : ArrS} {d : Nat}
@[simp] theorem drv_fl1 : (fl1 s d).drv.length = s.drv.length := by simp [fl1]
theorem nowL_fl1 {e : Nat} (hd : d < s.drv.length) : nowL (fl1 s d) e = nowL s e := by
  unfold nowL fl1
  rw [drv_set hd]; split
  · rename_i h; subst h; rfl
  · rfl
theorem size_fl1 {e : Nat} (hd : d < s.drv.length) : (fl1 s d).size e = s.size e := by rw [size_nowL, size_nowL, nowL_fl1 hd]
theorem pend_fl1 {e b : Nat} : pend (fl1 s d) e b = if e = d then [] else pend s e b := pendR_others
theorem dur_fl1 {e b : Nat} (hc : Coh s) (hd : d < s.drv.length) (hb : b < s.size e) : dur (fl1 s d) e b = if e = d then now s e b else dur s e b := by
  unfold dur durL fl1
  rw [drv_set hd]
  by_cases h : e = d
  · subst h
    rw [if_pos rfl, if_pos rfl]
    have hl := hc.last e b hb
    rw [flDur_at (by have := hc.len e; unfold durL at this; rw [this]; exact hb)]
    by_cases hp : pendR s.log e b = []
    · rw [if_pos hp]
      have : pend s e b = [] := hp
      rw [this] at hl
      exact hl
    · rw [if_neg hp]; rfl
  · rw [if_neg h, if_neg h]
theorem now_fl1 {e b : Nat} (hd : d < s.drv.length) : now (fl1 s d) e b = now s e b := by unfold now; rw [nowL_fl1 hd]
theorem Coh.fl1 (hc : Coh s) (hd : d < s.drv.length) : Coh (fl1 s d) where
  len e := by
    rw [nowL_fl1 hd]
    unfold durL Go.Proofs.fl1
    rw [drv_set hd]; split
    · rename_i h; subst h; rw [flDur_len]; exact hc.len _
    · exact hc.len e
  last e b hb := by
    rw [size_fl1 hd] at hb
    have h1 := hc.last e b hb
    rw [dur_fl1 hc hd hb, pend_fl1, now_fl1 hd]
    by_cases h : e = d
    · rw [if_pos h, if_pos h]; rfl
    · rw [if_neg h, if_neg h]; exact h1
  log r hr := by
    rw [drv_fl1, size_fl1 hd]
    exact hc.log r (List.mem_filter.1 (show r ∈ others d s.log from hr)).1
theorem miss_fl1 {e : Nat} (hd : d < s.drv.length) : ((fl1 s d).drv.getD e d0).miss = (s.drv.getD e d0).miss := by
  unfold fl1
  rw [drv_set hd]; split
  · rename_i h; subst h; rfl
  · rfl
theorem Good.fl1 (hg : Good s) (hd : d < s.drv.length) : Good (fl1 s d) where
  down := hg.down
  fuse := hg.fuse
  bad := hg.bad
  miss e := by rw [miss_fl1 hd]; exact hg.miss e
theorem flC_of (hdn : s.down = false) (hd : d < s.drv.length) : flC s d = if (s.drv.getD d d0).miss then 6 else 0 := by
  have h1 : cPow s = 0 := by simp [cPow, hdn]
  have h2 : cLoc s d = 0 := by rw [cLoc, if_pos (show inR s (d : Int) from ⟨by omega, by omega⟩)]
  simp only [flC, fz, h1, h2, cPre, missI, Int.toNat_natCast]
  by_cases hm : (s.drv.getD d d0).miss = true
  · simp [hm]
  · simp [hm]
theorem flS_of (h : flC s d = 0) : flS s d = fl1 s d := flS_ok h
end
theorem rsGo_dur {ks : List Bool} {d a : Nat} : ∀ {log : List Rec} {n : Nat} {ds : List Drive}, d < ds.length → a < (ds.getD d d0).dur.length →
    (((rsGo ks n log ds).getD d d0).dur.getD a 0) ∈ ((ds.getD d d0).dur.getD a 0) :: pendR log d a
  | [], _, _, _, _ => List.mem_cons_self
  | r :: log, n, ds, hd, ha => by
    show ((rsGo ks (n + 1) log (if ks.getD n false = true then putD ds r else ds)).getD d d0).dur.getD a 0 ∈ _
    have hk := putD_keep ds r d
    by_cases h : ks.getD n false = true
    · rw [if_pos h]
      have := rsGo_dur (ks := ks) (d := d) (a := a) (log := log) (n := n + 1) (ds := putD ds r) (by rw [hk.1]; exact hd) (by rw [hk.2.2.1]; exact ha)
      rw [pendR_cons]
      by_cases hr : r.d = d
      · have e1 : (putD ds r).getD d d0 = { ds.getD d d0 with dur := (ds.getD d d0).dur.set r.a r.v } := by
          unfold putD; rw [drv_set (by omega), if_pos hr.symm, hr]
        rw [e1] at this
        by_cases hra : r.a = a
        · rw [if_pos ⟨hr, hra⟩]
          rw [hra, getD_set_eq ha] at this
          exact List.mem_cons_of_mem _ this
        · rw [if_neg (fun x => hra x.2)]
          rw [getD_set_ne hra] at this
          exact this
      · have e1 : (putD ds r).getD d d0 = ds.getD d d0 := by
          unfold putD
          by_cases hl : r.d < ds.length
          · rw [drv_set hl, if_neg (fun x => hr x.symm)]
          · rw [List.set_eq_of_length_le (by omega)]
        rw [e1] at this
        rw [if_neg (fun x => hr x.1)]; exact this
    · rw [if_neg h, pendR_cons]
      have := rsGo_dur (ks := ks) (d := d) (a := a) (log := log) (n := n + 1) (ds := ds) hd ha
      split
      · rcases List.mem_cons.1 this with e | e
        · rw [e]; exact List.mem_cons_self
        · exact List.mem_cons_of_mem _ (List.mem_cons_of_mem _ e)
      · exact this
section
variable {s : ArrS} {ks : List Bool}
@[simp] theorem drv_rs : (rsS s ks).drv.length = s.drv.length := by simp [rsS, (rsGo_keep ks s.log 0 s.drv 0).1]
theorem nowL_rs {d : Nat} : nowL (rsS s ks) d = durL (rsS s ks) d := by unfold nowL durL; rw [rs_at]; rfl
theorem durL_rs_len {d : Nat} : (durL (rsS s ks) d).length = (durL s d).length := by
  unfold durL; rw [rs_at]; exact (rsGo_keep ks s.log 0 s.drv d).2.2.1
theorem size_rs {d : Nat} (hc : Coh s) : (rsS s ks).size d = s.size d := by rw [size_nowL, nowL_rs, durL_rs_len, hc.len]; rfl
theorem now_rs {d a : Nat} : now (rsS s ks) d a = dur (rsS s ks) d a := by unfold now dur; rw [nowL_rs]
theorem dur_rs {d a : Nat} (hc : Coh s) (hd : d < s.drv.length) (ha : a < s.size d) : dur (rsS s ks) d a ∈ cand s d a := by
  unfold dur durL; rw [rs_at]
  exact rsGo_dur hd (by have := hc.len d; unfold durL at this; rw [this]; exact ha)
theorem Coh.rs (hc : Coh s) : Coh (rsS s ks) where
  len d := by rw [nowL_rs]
  last d a _ := by show dur (rsS s ks) d a = _; rw [now_rs]
  log r h := by cases h
theorem miss_rs {d : Nat} : ((rsS s ks).drv.getD d d0).miss = (s.drv.getD d d0).miss := by rw [rs_at]; exact (rsGo_keep ks s.log 0 s.drv d).2.2.2
end
end Go.Proofs
namespace Go.Proofs
open Go.VG
structure InSz (ns : List Nat) (s : ArrS) : Prop where
  cnt : s.drv.length = ns.length
  size : ∀ d, d < ns.length → s.size d = ns.getD d 0
  wr : s.writes ≤ 1000000000
theorem flS_drv {s : ArrS} {d : Nat} : (flS s d).drv.length = s.drv.length := by unfold flS; split <;> simp
theorem flS_writes {s : ArrS} {d : Int} : (flS s d).writes = s.writes := by unfold flS; split <;> rfl
theorem flS_size {s : ArrS} {d e : Nat} : (flS s d).size e = s.size e := by
  unfold flS; split
  · rfl
  · rename_i h
    have hd : d < s.drv.length := by
      rcases Nat.lt_or_ge d s.drv.length with h' | h'
      · exact h'
      · exfalso; apply h
        have : cLoc s (d : Int) = 1 := by rw [cLoc, if_neg (fun x : inR s (d : Int) => by have := x.2; omega)]
        intro h0
        have h1 := h0
        unfold flC fz at h1
        by_cases hp : cPow s = 0
        · simp [hp, fz, this] at h1
        · simp [hp] at h1
    exact size_fl1 (s := s) hd
theorem InSz.flS {ns : List Nat} {s : ArrS} (h : InSz ns s) (d : Nat) : InSz ns (flS s d) := ⟨by rw [flS_drv]; exact h.cnt, fun e he => by rw [flS_size]; exact h.size e he, by rw [flS_writes]; exact h.wr⟩
def flsS : ArrS → List Nat → ArrS
  | s, [] => s
  | s, d :: ds => flsS (flS s d) ds
def flsC : ArrS → List Nat → Int
  | _, [] => 0
  | s, d :: ds => if flC s d = 0 then flsC (flS s d) ds else flC s d
theorem InSz.flsS {ns : List Nat} : ∀ {ds : List Nat} {s : ArrS}, InSz ns s → InSz ns (flsS s ds)
  | [], _, h => h
  | d :: ds, s, h => show InSz ns (Go.Proofs.flsS (Go.Proofs.flS s d) ds) from InSz.flsS (h.flS d)
structure MapD (ns : List Nat) (x : Dvc) (n : Nat) (f : Nat → Nat × Nat) (ds : List Nat) : Prop where
  small : n ≤ 1000000000
  at_ : ∀ k, k < n → (f k).1 < ns.length ∧ (f k).2 < ns.getD (f k).1 0 ∧ (f k).1 ∈ ds
  size : ∀ s, InSz ns s → x.size s = some (n : Int)
  rd : ∀ s (k : Nat), InSz ns s → k < n → x.rd s (k : Int) = some (rdV s (f k).1 (f k).2, rdC s (f k).1 (f k).2)
  rdo : ∀ s (k : Int), InSz ns s → ¬ (0 ≤ k ∧ k < n) → x.rd s k = some (0, 1)
  wr : ∀ s (k : Nat) v, InSz ns s → k < n → x.wr s (k : Int) v = some (wrR s (f k).1 (f k).2, wrS s (f k).1 (f k).2 v)
  wro : ∀ s (k : Int) v, InSz ns s → ¬ (0 ≤ k ∧ k < n) → x.wr s k v = some (1, s)
  fl : ∀ s, InSz ns s → x.fl s = some (flsC s ds, flsS s ds)
theorem MapD.span {ns : List Nat} {d st n : Nat} (hd : d < ns.length) (hn : st + n ≤ ns.getD d 0) (hb : ns.getD d 0 ≤ 1000000000) : MapD ns (Dvc.span (d : Int) (st : Int) (n : Int)) n (fun k => (d, st + k)) [d] where
  small := by omega
  at_ k hk := ⟨hd, by show st + k < ns.getD d 0; omega, List.mem_singleton.2 rfl⟩
  size s h := rfl
  rd s k h hk := by
    rw [span_rd (by omega) (by omega), if_pos (by omega)]
    have e : (st : Int) + (k : Int) = ((st + k : Nat) : Int) := by omega
    rw [e]
  rdo s k h hk := by rw [span_rd (by omega) (by omega), if_neg hk]
  wr s k v h hk := by
    rw [span_wr (by omega) (by omega) h.wr, if_pos (by omega)]
    have e : (st : Int) + (k : Int) = ((st + k : Nat) : Int) := by omega
    rw [e]
  wro s k v h hk := by rw [span_wr (by omega) (by omega) h.wr, if_neg hk]
  fl s h := by
    rw [span_fl h.wr]
    show _ = some ((if flC s d = 0 then (0 : Int) else flC s d), flS s d)
    by_cases e : flC s d = 0
    · rw [if_pos e, e]
    · rw [if_neg e]
end Go.Proofs
