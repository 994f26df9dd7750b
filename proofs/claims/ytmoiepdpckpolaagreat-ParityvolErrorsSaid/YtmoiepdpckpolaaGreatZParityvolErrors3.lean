/- ParityvolErrors, part 3 of the proof: LCopy, PAll, PFlat0, LPar, LPvC, LPv1. -/
import Derived.WalkKit
import Derived.Orders
import Derived.RangeFuncLeaves
import Derived.RangeFuncCalls
import Derived.TacticsIn
import Derived.Handy
import Derived.OrdersHeld
import Derived.OrdersIn
import Derived.Below
import Derived.OpenShut
import Derived.Deep.Slices
import Derived.Scope
import Derived.KernelRfl
import Derived.RangeFuncRecord
import Derived.ChangeKeysEq
import Derived.ProofKit
import Derived.ShutString
import Derived.ChangeOld
import Derived.Test.YtmoiepdpckpolaaGreatChecked
import Derived.Test.YtmoiepdpckpolaaGreatRows
import Derived.Test.YtmoiepdpckpolaaGreatZParityvolErrors2
set_option linter.unusedSimpArgs false
set_option linter.unusedVariables false
set_option maxRecDepth 20000
set_option maxHeartbeats 4000000
namespace Go.Proofs
open Go.VG
def block_ReadAll_l1_b (x_0 : Dvc) (at_1 : Int) (n_2 : Int) (s : ArrS) (rec : Nat → (List UInt64) → Option (((List UInt64)) ⊕ ((List UInt64) × Int))) (x14 : Nat) (x15 : List UInt64) : Option (((List UInt64)) ⊕ ((List UInt64) × Int)) :=
  if (((x14 : Nat) : Int) < n_2) then
    grd (inI64 ((at_1 + ((x14 : Nat) : Int)))) <|
    Option.bind (Dvc.rd x_0 s ((at_1 + ((x14 : Nat) : Int)))) fun r19 =>
    if (r19.2 ≠ (0 : Int)) then
      some (.inr ([], r19.2))
    else
      grd (inLen (x15.length + 1)) <|
      grd (inN64 (x14 + 1)) <|
      rec (x14 + 1) (x15 ++ [r19.1])
  else
    some (.inl x15)
def block_ReadAll_l1 (x_0 : Dvc) (at_1 : Int) (n_2 : Int) (s : ArrS) : Nat → Nat → (List UInt64) → Option (((List UInt64)) ⊕ ((List UInt64) × Int))
  | 0, _, _ => none
  | n + 1, x14, x15 => block_ReadAll_l1_b x_0 at_1 n_2 s (block_ReadAll_l1 x_0 at_1 n_2 s n) x14 x15
def block_ReadAll (x_0 : Dvc) (at_1 : Int) (n_2 : Int) (s : ArrS) : Option ((List UInt64) × Int) :=
  Option.bind (Dvc.size x_0 s) fun r2 =>
  Option.bind (block_inside r2 at_1 n_2) fun r4 =>
  if (¬ r4 = true) then
    some (([], (1 : Int)))
  else
    seqO (block_ReadAll_l1 x_0 at_1 n_2 s FUEL 0 ([])) fun a13 =>
    some ((a13, (0 : Int)))
theorem L_block_ReadAll {W : World} {vx_0 : IfH} {bs : Nat} {x_0 : Dvc} {at_1 : Int} {n_2 : Int} {s : ArrS} {r : (List UInt64) × Int} (h : block_ReadAll x_0 at_1 n_2 s = some r) :
    CSpec Tryz.prog W 105 [IfH.v vx_0, .int .i64 at_1, .int .i64 n_2] [DevP bs x_0 vx_0, Arr bs s] (fun x : Sl3 => .tuple #[x.v, .int .i64 r.2]) (fun _ => True) (fun x F => DevP bs x_0 vx_0 :: Arr bs s :: sl tyU x.v r.1 :: F) := by
 refine CSpec.of_body Tryz.func105 rfl Tryz.ntmps105 rfl fun F => ?_
 show CJ _ _ _ _ _ _ (_ :: _ :: F)
 unfold block_ReadAll at h
 refine sR <| oA rfl rfl <| oA rfl rfl <| nT <| CJ_seq <| sR <| oM rfl rfl <| RJ_pure (fun h hh => DevP_dep h (stars_perm (del0 (A := DevP bs x_0 vx_0)).out h hh)) fun hdp1 => ?_
 obtain ⟨r2, hr3, h⟩ := bind_e h
 refine oO <| O_callI rfl (dev_Size hr3 hdp1) rfl (Dels.cons del0 (Dels.cons del0 Dels.nil)) rfl fun _ _ => oM rfl rfl <| oM rfl rfl ?_
 obtain ⟨r4, hr5, h⟩ := bind_e h
 refine oO <| O_call (L_block_inside hr5) rfl Tryz.call101 Dels.nil rfl fun _ _ => oP (P_not rfl) rfl <| nT <| CJ_condP rfl (bT_not Iff.rfl) (fun hg1 => ?_) (fun hg1 => ?_)
 ·
  replace h := ite_t hg1 h
  refine sR <| oA rfl rfl <| oA rfl rfl <| nT <| CJ_ret <| QJ_then_ret <| QJ_ent (fun h hh => sl_nil (t := tyU) h hh) ?_
  cases h
  exact fE (res2 Tryz.results105 rfl rfl) ⟨none, 0, 0⟩ (t1_ (t1_ eR))
 ·
  replace h := ite_f hg1 h
  refine kT <| sR <| oA rfl rfl <| nT <| CJ_seq <| sR <| oM rfl rfl <| oM rfl rfl <| nT <| CJ_ent (fun h hh => sl_nil (t := tyU) h hh) ?_
  obtain ⟨y10, hl8, hK9⟩ := seq_e h
  refine CJ_cutT (X := (List UInt64) × Sl3) [6, 7, 8, 9, 10, 11, 19, 20, 21, 22, 23, 24, 25, 26, 27, 28, 29, 30, 31, 32, 33, 34, 35, 36, 37] (fun ⟨a13, hd12⟩ => ([(8, hd12.v)] : Slots)) (fun ⟨a13, hd12⟩ R => sl tyU hd12.v a13 :: R) (fun ⟨a13, hd12⟩ => y10 = .inl a13) (Dels.cons del0 Dels.nil) ?_ ?_
  ·
   refine CJ_block <| CJ_loopR (X := Nat × Nat × (List UInt64) × Sl3) [6, 7, 8, 9, 10, 11, 19, 20, 21, 22, 23, 24, 25, 26, 27, 28, 29, 30, 31, 32, 33, 34, 35, 36, 37] (fun ⟨n, x14, x15, hd16⟩ => ([(8, hd16.v), (19, .int .i64 (((x14 : Nat) : Int)))] : Slots)) (fun ⟨n, x14, x15, hd16⟩ R => sl tyU hd16.v x15 :: R) (fun ⟨n, x14, x15, hd16⟩ => block_ReadAll_l1 x_0 at_1 n_2 s n x14 x15 = some y10) (fun ⟨n, x14, x15, hd16⟩ => n) ⟨FUEL, 0, [], ⟨none, 0, 0⟩⟩ ?_ ?_ eR ?_
   · exact hl8
   · exact ⟨rfl, rfl, True.intro⟩
   ·
    rintro ⟨n, x14, x15, hd16⟩ h
    cases n with
    | zero => exact none_e h
    | succ n => ?_
    replace h : block_ReadAll_l1_b x_0 at_1 n_2 s (block_ReadAll_l1 x_0 at_1 n_2 s n) x14 x15 = some y10 := h
    unfold block_ReadAll_l1_b at h
    show CJ _ _ _ _ _ (([(8, hd16.v), (19, .int .i64 (((x14 : Nat) : Int)))] : Slots) ++ forget _ _) (sl tyU hd16.v x15 :: _)
    refine lC del0 fun hlen17 => sR <| oP (P_lss (a := ((x14 : Nat) : Int)) (b := n_2) rfl rfl) rfl <| nT <| CJ_seq <| CJ_condP rfl bT_dec (fun hg2 => ?_) (fun hg2 => ?_)
    ·
     replace h := ite_t hg2 h
     refine kT <| CJ_seq <| CJ_block <| sR <| oM rfl rfl <| oA rfl rfl <| nT <| sR <| oM rfl rfl <| oM rfl rfl <| oM rfl rfl ?_
     obtain ⟨hg3, h⟩ := grd_Ie h
     refine oP (P_add (a := at_1) (b := ((x14 : Nat) : Int)) rfl rfl hg3) rfl <| RJ_pure (fun h hh => DevP_dep h (stars_perm (del1 (A := DevP bs x_0 vx_0)).out h hh)) fun hdp18 => ?_
     obtain ⟨r19, hr20, h⟩ := bind_e h
     refine oO <| O_callI rfl (dev_Read hr20 hdp18) rfl (Dels.cons del1 (Dels.cons del1 Dels.nil)) rfl fun _ _ => oM rfl rfl <| oP (P_extract rfl rfl) rfl <| oP (P_extract rfl rfl) rfl <| oA rfl rfl <| oA rfl rfl <| nT <| CJ_seq <| sR <| oM rfl rfl <| oP (P_neq (a := r19.2) (b := (0 : Int)) rfl rfl) rfl <| nT <| CJ_condP rfl bT_dec (fun hg4 => ?_) (fun hg4 => ?_)
     ·
      replace h := ite_t hg4 h
      refine sR <| oM rfl rfl <| oA rfl rfl <| oA rfl rfl <| nT <| CJ_ret <| QJ_then_ret <| QJ_block_ret <| QJ_then_ret <| QJ_round_ret <| QJ_block_ret <| QJ_then_ret <| QJ_ent (fun h hh => sl_nil (t := tyU) h hh) ?_
      have hE := Option.some.inj h
      replace hE := seq_inr hK9 hE.symm
      subst hE
      exact fE (res2 Tryz.results105 rfl rfl) ⟨none, 0, 0⟩ (t1_ (t1_ (t0_ (eD eR))))
     ·
      replace h := ite_f hg4 h
      refine kT <| CJ_region <| oM rfl rfl <| oM rfl rfl <| oO <| O_buildSlice rfl (bs_43_1_0 _) rfl fun b22 => ?_
      obtain ⟨hg5, h⟩ := grd_Le h
      refine oO <| O_append (t := tyU) (bytes := 8) rfl rfl del3 foc0 (Reads.lit (t := tyU) (ys := [r19.1]) rfl rfl (by decide) (by decide) rfl) Tryz.underlying43 ok_tyU (apl (m := 1) (b := 8) hg5 (by decide)).1 (apl (m := 1) (b := 8) hg5 (by decide)).2 rfl fun p24 c25 => oA rfl rfl <| RJ_nil <| QJ_block_normal <| QJ_then <| CJ_region ?_
      obtain ⟨hg6, h⟩ := grd_Ne h
      exact oP (PJ_eq (P_add (a := ((x14 : Nat) : Int)) (b := (1 : Int)) rfl rfl (nat_in hg6)) rfl) rfl <| oM rfl rfl <| RJ_nil <| nR ⟨n, (x14 + 1), (x15 ++ [r19.1]), ⟨p24, (x15 ++ [r19.1]).length, c25⟩⟩ h ⟨rfl, rfl, True.intro⟩ (t0_ (t1_ (t1_ (eD eR))))
    ·
     replace h := ite_f hg2 h
     exact CJ_exit <| QJ_then_exit <| QJ_round_exit <| QJ_block_here <| cR ⟨x15, hd16⟩ (Option.some.inj h).symm ⟨rfl, True.intro⟩ eR
  ·
   rintro ⟨a13, hd12⟩ hy26
   replace h := seq_inl hK9 hy26
   show CJ _ _ _ _ _ (([(8, hd12.v)] : Slots) ++ forget _ _) (sl tyU hd12.v a13 :: _)
   refine lC del0 fun hlen27 => sR <| oM rfl rfl <| oA rfl rfl <| oA rfl rfl <| nT <| CJ_ret ?_
   cases h
   exact fE (res2 Tryz.results105 rfl rfl) hd12 (t1_ (t1_ eR))
def block_WriteAll_l1_b (x_0 : Dvc) (at_1 : Int) (l : List UInt64) (rec : ArrS → Nat → Option ((ArrS) ⊕ (Int × ArrS))) (x12 : ArrS) (x13 : Nat) : Option ((ArrS) ⊕ (Int × ArrS)) :=
  if (((x13 : Nat) : Int) < ((l.length : Nat) : Int)) then
    grd (inI64 ((at_1 + ((x13 : Nat) : Int)))) <|
    Option.bind (Dvc.wr x_0 x12 ((at_1 + ((x13 : Nat) : Int))) (l.getD x13 0)) fun r15 =>
    if (r15.1 ≠ (0 : Int)) then
      some (.inr (r15.1, r15.2))
    else
      rec r15.2 (x13 + 1)
  else
    some (.inl x12)
def block_WriteAll_l1 (x_0 : Dvc) (at_1 : Int) (l : List UInt64) : Nat → ArrS → Nat → Option ((ArrS) ⊕ (Int × ArrS))
  | 0, _, _ => none
  | n + 1, x12, x13 => block_WriteAll_l1_b x_0 at_1 l (block_WriteAll_l1 x_0 at_1 l n) x12 x13
def block_WriteAll (x_0 : Dvc) (at_1 : Int) (l : List UInt64) (s : ArrS) : Option (Int × ArrS) :=
  Option.bind (Dvc.size x_0 s) fun r3 =>
  Option.bind (block_inside r3 at_1 (((l.length : Nat) : Int))) fun r5 =>
  if (¬ r5 = true) then
    some (((1 : Int), s))
  else
    seqO (block_WriteAll_l1 x_0 at_1 l FUEL s 0) fun a11 =>
    some (((0 : Int), a11))
theorem L_block_WriteAll {W : World} {vx_0 : IfH} {Al : HP} {vl : Value} {bs : Nat} {x_0 : Dvc} {at_1 : Int} {l : List UInt64} {s : ArrS} {r : Int × ArrS} (rl : Reads Al tyU vl l) (h : block_WriteAll x_0 at_1 l s = some r) :
    CSpec Tryz.prog W 66 [IfH.v vx_0, .int .i64 at_1, vl] [DevP bs x_0 vx_0, Al, Arr bs s] (fun x : Unit => .int .i64 r.1) (fun _ => True) (fun x F => DevP bs x_0 vx_0 :: Al :: Arr bs r.2 :: F) := by
 refine CSpec.of_body Tryz.func66 rfl Tryz.ntmps66 rfl fun F => ?_
 show CJ _ _ _ _ _ _ (_ :: _ :: _ :: F)
 unfold block_WriteAll at h
 refine CJ_pure (len_of rl del1) fun hlen1 => sR <| oA rfl rfl <| nT <| CJ_seq <| sR <| oM rfl rfl <| RJ_pure (fun h hh => DevP_dep h (stars_perm (del0 (A := DevP bs x_0 vx_0)).out h hh)) fun hdp2 => ?_
 obtain ⟨r3, hr4, h⟩ := bind_e h
 refine oO <| O_callI rfl (dev_Size hr4 hdp2) rfl (Dels.cons del0 (Dels.cons del1 Dels.nil)) rfl fun _ _ => oM rfl rfl <| oM rfl rfl <| oV (V_len rfl foc2 rl Tryz.runUnderlying43) rfl ?_
 obtain ⟨r5, hr6, h⟩ := bind_e h
 refine oO <| O_call (L_block_inside hr6) rfl Tryz.call101 Dels.nil rfl fun _ _ => oP (P_not rfl) rfl <| nT <| CJ_condP rfl (bT_not Iff.rfl) (fun hg1 => ?_) (fun hg1 => ?_)
 ·
  replace h := ite_t hg1 h
  refine sR <| oA rfl rfl <| nT <| CJ_ret <| QJ_then_ret ?_
  cases h
  exact fE (res1 Tryz.results66 rfl) () (t0_ (t1_ eR))
 ·
  replace h := ite_f hg1 h
  refine kT <| CJ_seq <| sR <| oM rfl rfl <| oV (V_len rfl foc2 rl Tryz.runUnderlying43) rfl <| oM rfl rfl <| nT ?_
  obtain ⟨y9, hl7, hK8⟩ := seq_e h
  refine CJ_cutT (X := ArrS) [6, 7, 8, 9, 19, 20, 21, 22, 23, 24, 25, 26, 27, 28, 29, 30, 31, 32, 33] (fun a11 => ([] : Slots)) (fun a11 R => Arr bs a11 :: R) (fun a11 => y9 = .inl a11) (Dels.cons del1 Dels.nil) ?_ ?_
  ·
   refine CJ_block <| CJ_loopR (X := Nat × ArrS × Nat) [6, 7, 8, 9, 19, 20, 21, 22, 23, 24, 25, 26, 27, 28, 29, 30, 31, 32, 33] (fun ⟨n, x12, x13⟩ => ([(19, .int .i64 (((x13 : Nat) : Int)))] : Slots)) (fun ⟨n, x12, x13⟩ R => Arr bs x12 :: R) (fun ⟨n, x12, x13⟩ => block_WriteAll_l1 x_0 at_1 l n x12 x13 = some y9) (fun ⟨n, x12, x13⟩ => n) ⟨FUEL, s, 0⟩ ?_ ?_ (t1_ eR) ?_
   · exact hl7
   · exact ⟨rfl, True.intro⟩
   ·
    rintro ⟨n, x12, x13⟩ h
    cases n with
    | zero => exact none_e h
    | succ n => ?_
    replace h : block_WriteAll_l1_b x_0 at_1 l (block_WriteAll_l1 x_0 at_1 l n) x12 x13 = some y9 := h
    unfold block_WriteAll_l1_b at h
    show CJ _ _ _ _ _ (([(19, .int .i64 (((x13 : Nat) : Int)))] : Slots) ++ forget _ _) (Arr bs x12 :: _)
    refine sR <| oP (P_lss (a := ((x13 : Nat) : Int)) (b := ((l.length : Nat) : Int)) rfl rfl) rfl <| nT <| CJ_seq <| CJ_condP rfl bT_dec (fun hg2 => ?_) (fun hg2 => ?_)
    ·
     replace h := ite_t hg2 h
     refine kT <| CJ_seq <| CJ_block <| sR <| oM rfl rfl <| oV (V_index (i := x13) rfl rfl rfl (by omega) foc2 rl Tryz.runUnderlying43 Tryz.sizeOf44) rfl <| oV (V_loadE rfl rfl (by omega) foc2 rl rfl rfl Tryz.isAgg44) rfl <| oA rfl rfl <| oA rfl rfl <| nT <| sR <| oM rfl rfl <| oM rfl rfl <| oM rfl rfl ?_
     obtain ⟨hg3, h⟩ := grd_Ie h
     refine oP (P_add (a := at_1) (b := ((x13 : Nat) : Int)) rfl rfl hg3) rfl <| oM rfl rfl <| RJ_pure (fun h hh => DevP_dep h (stars_perm (del1 (A := DevP bs x_0 vx_0)).out h hh)) fun hdp14 => ?_
     obtain ⟨r15, hr16, h⟩ := bind_e h
     refine oO <| O_callI rfl (dev_Write hr16 hdp14) rfl (Dels.cons del1 (Dels.cons del0 Dels.nil)) rfl fun _ _ => oA rfl rfl <| nT <| sR <| oM rfl rfl <| oP (P_neq (a := r15.1) (b := (0 : Int)) rfl rfl) rfl <| nT <| CJ_condP rfl bT_dec (fun hg4 => ?_) (fun hg4 => ?_)
     ·
      replace h := ite_t hg4 h
      refine sR <| oM rfl rfl <| oA rfl rfl <| nT <| CJ_ret <| QJ_block_ret <| QJ_then_ret <| QJ_round_ret <| QJ_block_ret <| QJ_then_ret ?_
      have hE := Option.some.inj h
      replace hE := seq_inr hK8 hE.symm
      subst hE
      exact fE (res1 Tryz.results66 rfl) () (t0_ (t1_ eR))
     ·
      replace h := ite_f hg4 h
      exact CJ_skip <| QJ_block_normal <| QJ_then <| CJ_region <| oP (PJ_eq (P_add (a := ((x13 : Nat) : Int)) (b := (1 : Int)) rfl rfl (by omega)) rfl) rfl <| oM rfl rfl <| RJ_nil <| nR ⟨n, r15.2, (x13 + 1)⟩ h ⟨rfl, True.intro⟩ (t1_ eR)
    ·
     replace h := ite_f hg2 h
     exact CJ_exit <| QJ_then_exit <| QJ_round_exit <| QJ_block_here <| cR x12 (Option.some.inj h).symm True.intro eR
  ·
   rintro a11 hy17
   replace h := seq_inl hK8 hy17
   show CJ _ _ _ _ _ (([] : Slots) ++ forget _ _) (Arr bs a11 :: _)
   refine sR <| oA rfl rfl <| nT <| CJ_ret ?_
   cases h
   exact fE (res1 Tryz.results66 rfl) () (t1_ (t1_ eR))
end Go.Proofs
namespace Go.Proofs
open Go.VG
end Go.Proofs
namespace Go.Proofs
open Go.VG
def lensN (ims : List (List UInt64)) : List Nat := ims.map List.length
theorem lensN_getD {ims : List (List UInt64)} {i : Nat} : (lensN ims).getD i 0 = (ims.getD i []).length := by
  simp only [lensN, List.getD, List.getElem?_map]; cases ims[i]? <;> rfl
@[simp] theorem lensN_length {ims : List (List UInt64)} : (lensN ims).length = ims.length := by simp [lensN]
theorem inSz_mkS {ims : List (List UInt64)} : InSz (lensN ims) (mkS ims) := ⟨by simp, fun d _ => by rw [size_nowL, nowL_mkS, lensN_getD], Nat.zero_le _⟩
end Go.Proofs
set_option linter.unusedSimpArgs false
set_option linter.unusedVariables false
set_option maxRecDepth 20000
set_option maxHeartbeats 4000000
namespace Go.Proofs
open Go.VG
@[ext] structure parity_rows where
  n : Int
  deriving DecidableEq
@[ext] structure parity_layout where
  rows : parity_rows
  chunk : Int
  deriving DecidableEq
theorem bld_172_0 (v0 : Int) : ∀ w, (Instr.build 172 (#[(0, .int .i64 v0)] : Array (Nat × Value))).run Tryz.prog w = .ok (.agg #[.int .i64 v0]) w := fun w => by kernel_rfl
theorem bld_174_0_1 (v0 : Int) (v1 : Int) : ∀ w, (Instr.build 174 (#[(0, .agg #[.int .i64 v0]), (1, .int .i64 v1)] : Array (Nat × Value))).run Tryz.prog w = .ok (.agg #[.int .i64 v0, .int .i64 v1]) w := fun w => by kernel_rfl
def parity_newLayout (chunk : Int) (n_1 : Int) : Option (parity_layout × Bool) :=
  some (((⟨(⟨n_1⟩ : parity_rows), chunk⟩ : parity_layout), ((((decide ((1 : Int) ≤ chunk)) && (decide (chunk ≤ (65536 : Int)))) && (decide ((3 : Int) ≤ n_1))) && (decide (n_1 ≤ (6 : Int))))))
theorem L_parity_newLayout {W : World} {chunk : Int} {n_1 : Int} {r : parity_layout × Bool} (h : parity_newLayout chunk n_1 = some r) :
    CSpec Tryz.prog W 123 [.int .i64 chunk, .int .i64 n_1] [] (fun x : Unit => .tuple #[.agg #[.int .i64 r.1.rows.n, .int .i64 r.1.chunk], .bool r.2]) (fun _ => True) (fun x F => F) := by
 refine CSpec.of_body Tryz.func123 rfl Tryz.ntmps123 rfl fun F => ?_
 show CJ _ _ _ _ _ _ (F)
 unfold parity_newLayout at h
 refine sR <| oO <| O_alloc Tryz.zeroValue174 rfl rfl fun b1 => oA rfl rfl <| nT <| sR <| oM rfl rfl <| oP (P_geq (a := chunk) (b := (1 : Int)) rfl rfl) rfl <| oM rfl rfl <| RJ_mbT rfl rfl rfl (fun hG2 => have hP3 : ((1 : Int) ≤ chunk) := (bT_dec).1 hG2; VJ_P (P_move rfl)) <| RJ_mbT rfl rfl rfl (fun hG4 => have hP5 : ((1 : Int) ≤ chunk) := (bT_dec).1 hG4; VJ_P (P_leq (a := chunk) (b := (65536 : Int)) (mbx hG4 rfl) rfl)) <| oP (P_pickAnd rfl (fun hh => mbx hh rfl) rfl) rfl <| oM rfl rfl <| RJ_mbT rfl rfl rfl (fun hG6 => have hP7 : (((1 : Int) ≤ chunk) ∧ (chunk ≤ (65536 : Int))) := ((bT_and bT_dec bT_dec)).1 hG6; VJ_P (P_move rfl)) <| RJ_mbT rfl rfl rfl (fun hG8 => have hP9 : (((1 : Int) ≤ chunk) ∧ (chunk ≤ (65536 : Int))) := ((bT_and bT_dec bT_dec)).1 hG8; VJ_P (P_geq (a := n_1) (b := (3 : Int)) (mbx hG8 rfl) rfl)) <| oP (P_pickAnd rfl (fun hh => mbx hh rfl) rfl) rfl <| oM rfl rfl <| RJ_mbT rfl rfl rfl (fun hG10 => have hP11 : ((((1 : Int) ≤ chunk) ∧ (chunk ≤ (65536 : Int))) ∧ ((3 : Int) ≤ n_1)) := ((bT_and (bT_and bT_dec bT_dec) bT_dec)).1 hG10; VJ_P (P_move rfl)) <| RJ_mbT rfl rfl rfl (fun hG12 => have hP13 : ((((1 : Int) ≤ chunk) ∧ (chunk ≤ (65536 : Int))) ∧ ((3 : Int) ≤ n_1)) := ((bT_and (bT_and bT_dec bT_dec) bT_dec)).1 hG12; VJ_P (P_leq (a := n_1) (b := (6 : Int)) (mbx hG12 rfl) rfl)) <| oP (P_pickAnd rfl (fun hh => mbx hh rfl) rfl) rfl <| oA rfl rfl <| nT <| sR <| oM rfl rfl <| oP (P_build rfl (bld_172_0 _)) rfl <| oM rfl rfl <| oP (P_build rfl (bld_174_0_1 _ _)) rfl ?_
 refine oM rfl rfl <| oO <| O_storeN rfl rfl foc0 Tryz.sizeOf174 rfl rfl rfl <| oA rfl rfl <| nT <| CJ_ret ?_
 cases h
 exact fE (resA2 Tryz.results123 (RV_cellN rfl foc0 Tryz.isAgg174 Tryz.sizeOf174 rfl rfl) (RV_tmp rfl)) () (eD eR)
def parity_sector (at_0 : Int) : Option (Bool) :=
  some (((decide ((0 : Int) ≤ at_0)) && (decide (at_0 ≤ (1073741824 : Int)))))
theorem L_parity_sector {W : World} {at_0 : Int} {r : Bool} (h : parity_sector at_0 = some r) :
    CSpec Tryz.prog W 124 [.int .i64 at_0] [] (fun x : Unit => .bool r) (fun _ => True) (fun x F => F) := by
 refine CSpec.of_body Tryz.func124 rfl Tryz.ntmps124 rfl fun F => ?_
 show CJ _ _ _ _ _ _ (F)
 unfold parity_sector at h
 refine sR <| oA rfl rfl <| nT <| sR <| oM rfl rfl <| oP (P_geq (a := at_0) (b := (0 : Int)) rfl rfl) rfl <| oM rfl rfl <| RJ_mbT rfl rfl rfl (fun hG1 => have hP2 : ((0 : Int) ≤ at_0) := (bT_dec).1 hG1; VJ_P (P_move rfl)) <| RJ_mbT rfl rfl rfl (fun hG3 => have hP4 : ((0 : Int) ≤ at_0) := (bT_dec).1 hG3; VJ_P (P_leq (a := at_0) (b := (1073741824 : Int)) (mbx hG3 rfl) rfl)) <| oP (P_pickAnd rfl (fun hh => mbx hh rfl) rfl) rfl <| oA rfl rfl <| nT <| CJ_ret ?_
 cases h
 exact fE (res1 Tryz.results124 rfl) () eR
def parity_rows_parity (x_0 : parity_rows) (row : Int) : Option (Int) :=
  grd (inI64 ((x_0.n - (1 : Int)))) <|
  grd (decide (¬ x_0.n = 0)) <|
  grd (inI64 (((x_0.n - (1 : Int)) - (row.tmod x_0.n)))) <|
  some (((x_0.n - (1 : Int)) - (row.tmod x_0.n)))
theorem L_parity_rows_parity {W : World} {x_0 : parity_rows} {row : Int} {r : Int} (h : parity_rows_parity x_0 row = some r) :
    CSpec Tryz.prog W 125 [.agg #[.int .i64 x_0.n], .int .i64 row] [] (fun x : Unit => .int .i64 r) (fun _ => True) (fun x F => F) := by
 refine CSpec.of_body Tryz.func125 rfl Tryz.ntmps125 rfl fun F => ?_
 show CJ _ _ _ _ _ _ (F)
 unfold parity_rows_parity at h
 refine sR <| oO <| O_box rfl rfl rfl fun b1 => oA rfl rfl <| nT <| CJ_seq <| AJ_startH 0 (by kernel_rfl) rfl <| aN 0 1 rfl rfl (P_fieldAddr rfl ⟨_, _, _, Tryz.runUnderlying172, rfl, rfl, Tryz.sizeOf3, rfl⟩) rfl <| aV 1 3 rfl rfl (GY_none rfl) eR (V_load rfl foc0 rfl Tryz.isAgg3) rfl ?_
 obtain ⟨hg1, h⟩ := grd_Ie h
 refine aN 2 7 rfl rfl (P_sub (a := x_0.n) (b := (1 : Int)) rfl rfl hg1) rfl <| aN 3 15 rfl rfl (P_move rfl) rfl <| aN 4 31 rfl rfl (P_fieldAddr rfl ⟨_, _, _, Tryz.runUnderlying172, rfl, rfl, Tryz.sizeOf3, rfl⟩) rfl <| aV 5 63 rfl rfl (GY_none rfl) eR (V_load rfl foc0 rfl Tryz.isAgg3) rfl ?_
 obtain ⟨hg2, h⟩ := grd_de h
 refine aN 6 127 rfl rfl (P_remT (a := row) (b := x_0.n) rfl rfl hg2) rfl ?_
 obtain ⟨hg3, h⟩ := grd_Ie h
 refine aN 7 255 rfl rfl (P_sub (a := (x_0.n - (1 : Int))) (b := (row.tmod x_0.n)) rfl rfl hg3) rfl <| aN 8 511 rfl rfl (P_assign rfl) rfl <| aD <| CJ_ret ?_
 cases h
 exact fE (res1 Tryz.results125 rfl) () (eD eR)
def parity_Place (chunk : Int) (n_1 : Int) (at_2 : Int) : Option (Int × Int × Int × Int) :=
  Option.bind (parity_newLayout chunk n_1) fun r1 =>
  if (¬ r1.2 = true) then
    some (((0 : Int), (0 : Int), (0 : Int), (1 : Int)))
  else
    Option.bind (parity_sector at_2) fun r4 =>
    if (¬ r4 = true) then
      some (((0 : Int), (0 : Int), (0 : Int), (1 : Int)))
    else
      grd (decide (¬ chunk = 0)) <|
      grd (inI64 ((n_1 - (1 : Int)))) <|
      grd (decide (¬ (n_1 - (1 : Int)) = 0)) <|
      lt ((IntKind.i64.wrap (((IntKind.i64.wrap (at_2.tdiv chunk))).tdiv ((n_1 - (1 : Int)))))) fun w6 =>
      Option.bind (parity_rows_parity (⟨r1.1.rows.n⟩ : parity_rows) w6) fun r7 =>
      grd (inI64 ((r7 + (1 : Int)))) <|
      grd (inI64 ((n_1 - (1 : Int)))) <|
      grd (decide (¬ (n_1 - (1 : Int)) = 0)) <|
      grd (inI64 (((r7 + (1 : Int)) + (((IntKind.i64.wrap (at_2.tdiv chunk))).tmod ((n_1 - (1 : Int))))))) <|
      lt (((r7 + (1 : Int)) + (((IntKind.i64.wrap (at_2.tdiv chunk))).tmod ((n_1 - (1 : Int)))))) fun w9 =>
      grd (decide (¬ n_1 = 0)) <|
      grd (inI64 (w6 * chunk)) <|
      grd (decide (¬ chunk = 0)) <|
      grd (inI64 (((w6 * chunk) + (at_2.tmod chunk)))) <|
      some (((w9.tmod n_1), ((w6 * chunk) + (at_2.tmod chunk)), r7, (0 : Int)))
theorem L_parity_Place {W : World} {chunk : Int} {n_1 : Int} {at_2 : Int} {r : Int × Int × Int × Int} (h : parity_Place chunk n_1 at_2 = some r) :
    CSpec Tryz.prog W 108 [.int .i64 chunk, .int .i64 n_1, .int .i64 at_2] [] (fun x : Unit => .tuple #[.int .i64 r.1, .int .i64 r.2.1, .int .i64 r.2.2.1, .int .i64 r.2.2.2]) (fun _ => True) (fun x F => F) := by
 refine CSpec.of_body Tryz.func108 rfl Tryz.ntmps108 rfl fun F => ?_
 show CJ _ _ _ _ _ _ (F)
 unfold parity_Place at h
 refine sR <| oA rfl rfl <| oA rfl rfl <| oA rfl rfl <| oA rfl rfl <| nT <| sR <| oM rfl rfl <| oM rfl rfl ?_
 obtain ⟨r1, hr2, h⟩ := bind_e h
 refine oO <| O_call (L_parity_newLayout hr2) rfl Tryz.call123 Dels.nil rfl fun _ _ => oM rfl rfl <| oP (P_extract rfl rfl) rfl <| oP (P_extract rfl rfl) rfl <| oO <| O_alloc Tryz.zeroValue174 rfl rfl fun b3 => oO <| O_storeN rfl rfl foc0 Tryz.sizeOf174 rfl rfl rfl <| oA rfl rfl <| nT <| CJ_seq <| sR <| oM rfl rfl <| oP (P_not rfl) rfl <| oM rfl rfl <| RJ_splitP 22 rfl (bT_not Iff.rfl) (fun hg1B hg1 => ?_) (fun hg1B hg1 => ?_)
 ·
  replace h := ite_t hg1 h
  refine RJ_gn (GY_no rfl rfl rfl hg1B) rfl rfl <| RJ_gn (GY_no rfl rfl rfl hg1B) rfl rfl <| RJ_gn (GY_no rfl rfl rfl hg1B) rfl rfl <| oP (P_pickT rfl hg1B rfl) rfl <| nT <| CJ_condT rfl rfl <| sR <| oA rfl rfl <| oA rfl rfl <| oA rfl rfl <| oA rfl rfl <| nT <| CJ_ret <| QJ_then_ret ?_
  cases h
  exact fE (res4 Tryz.results108 rfl rfl rfl rfl) () (eD eR)
 ·
  replace h := ite_f hg1 h
  refine gP (GY_yes rfl rfl rfl hg1B) (P_move rfl) rfl ?_
  obtain ⟨r4, hr5, h⟩ := bind_e h
  refine RJ_gy (GY_yes rfl rfl rfl hg1B) <| O_call (L_parity_sector hr5) rfl Tryz.call124 Dels.nil rfl fun _ _ => gP (GY_yes rfl rfl rfl hg1B) (P_not rfl) rfl <| oP (P_pickF rfl hg1B rfl) rfl <| nT <| CJ_condP rfl (bT_not Iff.rfl) (fun hg2 => ?_) (fun hg2 => ?_)
  ·
   replace h := ite_t hg2 h
   refine sR <| oA rfl rfl <| oA rfl rfl <| oA rfl rfl <| oA rfl rfl <| nT <| CJ_ret <| QJ_then_ret ?_
   cases h
   exact fE (res4 Tryz.results108 rfl rfl rfl rfl) () (eD eR)
  ·
   replace h := ite_f hg2 h
   refine kT <| sR <| oM rfl rfl <| oM rfl rfl ?_
   obtain ⟨hg3, h⟩ := grd_de h
   refine oP (P_quoT (a := at_2) (b := chunk) rfl rfl hg3) rfl <| oA rfl rfl <| nT <| sR <| oM rfl rfl <| oM rfl rfl ?_
   obtain ⟨hg4, h⟩ := grd_Ie h
   refine oP (P_sub (a := n_1) (b := (1 : Int)) rfl rfl hg4) rfl ?_
   obtain ⟨hg5, h⟩ := grd_de h
   refine oP (P_quoT (a := (IntKind.i64.wrap (at_2.tdiv chunk))) (b := (n_1 - (1 : Int))) rfl rfl hg5) rfl ?_
   obtain ⟨w6, hw6, h⟩ := lt_e h
   rw [← hw6]
   refine oA rfl rfl <| nT <| sR <| oP (P_fieldAddr rfl ⟨_, _, _, Tryz.runUnderlying174, rfl, rfl, Tryz.sizeOf172, rfl⟩) rfl <| oV (V_loadN rfl foc0 Tryz.isAgg172 Tryz.sizeOf172 rfl rfl) rfl <| oM rfl rfl ?_
   obtain ⟨r7, hr8, h⟩ := bind_e h
   refine oO <| O_call (L_parity_rows_parity hr8) rfl Tryz.call125 Dels.nil rfl fun _ _ => oA rfl rfl <| nT <| CJ_seq <| AJ_startH 0 (by kernel_rfl) rfl <| aN 0 1 rfl rfl (P_move rfl) rfl ?_
   obtain ⟨hg6, h⟩ := grd_Ie h
   refine aN 1 3 rfl rfl (P_add (a := r7) (b := (1 : Int)) rfl rfl hg6) rfl <| aN 2 7 rfl rfl (P_move rfl) rfl <| aN 3 15 rfl rfl (P_move rfl) rfl ?_
   obtain ⟨hg7, h⟩ := grd_Ie h
   refine aN 4 31 rfl rfl (P_sub (a := n_1) (b := (1 : Int)) rfl rfl hg7) rfl ?_
   obtain ⟨hg8, h⟩ := grd_de h
   refine aN 5 63 rfl rfl (P_remT (a := (IntKind.i64.wrap (at_2.tdiv chunk))) (b := (n_1 - (1 : Int))) rfl rfl hg8) rfl ?_
   obtain ⟨hg9, h⟩ := grd_Ie h
   refine aN 6 127 rfl rfl (P_add (a := (r7 + (1 : Int))) (b := (((IntKind.i64.wrap (at_2.tdiv chunk))).tmod ((n_1 - (1 : Int))))) rfl rfl hg9) rfl ?_
   obtain ⟨w9, hw9, h⟩ := lt_e h
   rw [← hw9]
   refine aN 7 255 rfl rfl (P_move rfl) rfl ?_
   obtain ⟨hg10, h⟩ := grd_de h
   refine aN 8 511 rfl rfl (P_remT (a := w9) (b := n_1) rfl rfl hg10) rfl <| aN 9 1023 rfl rfl (P_move rfl) rfl <| aN 10 2047 rfl rfl (P_move rfl) rfl ?_
   obtain ⟨hg11, h⟩ := grd_Ie h
   refine aN 11 4095 rfl rfl (P_mul (a := w6) (b := chunk) rfl rfl hg11) rfl <| aN 12 8191 rfl rfl (P_move rfl) rfl <| aN 13 16383 rfl rfl (P_move rfl) rfl ?_
   obtain ⟨hg12, h⟩ := grd_de h
   refine aN 14 32767 rfl rfl (P_remT (a := at_2) (b := chunk) rfl rfl hg12) rfl ?_
   obtain ⟨hg13, h⟩ := grd_Ie h
   refine aN 15 65535 rfl rfl (P_add (a := (w6 * chunk)) (b := (at_2.tmod chunk)) rfl rfl hg13) rfl <| aN 16 131071 rfl rfl (P_move rfl) rfl <| aN 17 262143 rfl rfl (P_assign rfl) rfl <| aN 18 524287 rfl rfl (P_assign rfl) rfl <| aN 19 1048575 rfl rfl (P_assign rfl) rfl <| aN 20 2097151 rfl rfl (P_assign rfl) rfl <| aD <| CJ_ret ?_
   cases h
   exact fE (res4 Tryz.results108 rfl rfl rfl rfl) () (eD eR)
def parity_Xor_1 (sum : UInt64) (w : UInt64) : Option (UInt64) :=
  some (sum ^^^ w)
theorem L_parity_Xor_1 {W : World} {sum : UInt64} {w : UInt64} {r : UInt64} (h : parity_Xor_1 sum w = some r) :
    CSpec Tryz.prog W 127 [.int .u64 (sum.toNat : Int), .int .u64 (w.toNat : Int)] [] (fun x : Unit => .int .u64 (r.toNat : Int)) (fun _ => True) (fun x F => F) := by
 refine CSpec.of_body Tryz.func127 rfl Tryz.ntmps127 rfl fun F => ?_
 show CJ _ _ _ _ _ _ (F)
 unfold parity_Xor_1 at h
 refine sR <| oA rfl rfl <| nT <| sR <| oM rfl rfl <| oM rfl rfl <| oP (P_xor_u64 (a := sum) (b := w) rfl rfl) rfl <| oA rfl rfl <| nT <| CJ_ret ?_
 cases h
 exact fE (res1 Tryz.results127 rfl) () eR
def parity_fold__parity_Xor_1_l1_b (l : List UInt64) (rec : Nat → UInt64 → Option (UInt64)) (x7 : Nat) (x8 : UInt64) : Option (UInt64) :=
  if (((x7 : Nat) : Int) < ((l.length : Nat) : Int)) then
    Option.bind (parity_Xor_1 x8 (l.getD x7 0)) fun r9 =>
    rec (x7 + 1) r9
  else
    some x8
def parity_fold__parity_Xor_1_l1 (l : List UInt64) : Nat → Nat → UInt64 → Option (UInt64)
  | 0, _, _ => none
  | n + 1, x7, x8 => parity_fold__parity_Xor_1_l1_b l (parity_fold__parity_Xor_1_l1 l n) x7 x8
def parity_fold__parity_Xor_1 (l : List UInt64) : Option (UInt64) :=
  Option.bind (parity_fold__parity_Xor_1_l1 l FUEL 0 (0 : UInt64)) fun a6 =>
  some a6
theorem L_parity_fold__parity_Xor_1 {W : World} {Al : HP} {vl : Value} {l : List UInt64} {r : UInt64} (rl : Reads Al tyU vl l) (h : parity_fold__parity_Xor_1 l = some r) :
    CSpec Tryz.prog W 126 [vl, .func (.func 127) #[] #[]] [Al] (fun x : Unit => .int .u64 (r.toNat : Int)) (fun _ => True) (fun x F => Al :: F) := by
 refine CSpec.of_body Tryz.func126 rfl Tryz.ntmps126 rfl fun F => ?_
 show CJ _ _ _ _ _ _ (_ :: F)
 unfold parity_fold__parity_Xor_1 at h
 refine CJ_pure (len_of rl del0) fun hlen1 => sR <| oA rfl rfl <| nT <| sR <| oA rfl rfl <| nT <| CJ_seq <| sR <| oM rfl rfl <| oV (V_len rfl foc0 rl Tryz.runUnderlying43) rfl <| oM rfl rfl <| nT ?_
 obtain ⟨y4, hl2, hK3⟩ := bind_c h
 refine CJ_cutT (X := UInt64) [5, 7, 10, 11, 12, 13, 14, 15, 16, 17, 18] (fun a6 => ([(5, .int .u64 (a6.toNat : Int))] : Slots)) (fun a6 R => R) (fun a6 => y4 = a6) Dels.nil ?_ ?_
 ·
  refine CJ_block <| CJ_loopR (X := Nat × Nat × UInt64) [5, 7, 10, 11, 12, 13, 14, 15, 16, 17, 18] (fun ⟨n, x7, x8⟩ => ([(5, .int .u64 (x8.toNat : Int)), (10, .int .i64 (((x7 : Nat) : Int)))] : Slots)) (fun ⟨n, x7, x8⟩ R => R) (fun ⟨n, x7, x8⟩ => parity_fold__parity_Xor_1_l1 l n x7 x8 = some y4) (fun ⟨n, x7, x8⟩ => n) ⟨FUEL, 0, (0 : UInt64)⟩ ?_ ?_ eR ?_
  · exact hl2
  · exact ⟨rfl, rfl, True.intro⟩
  ·
   rintro ⟨n, x7, x8⟩ h
   cases n with
   | zero => exact none_e h
   | succ n => ?_
   replace h : parity_fold__parity_Xor_1_l1_b l (parity_fold__parity_Xor_1_l1 l n) x7 x8 = some y4 := h
   unfold parity_fold__parity_Xor_1_l1_b at h
   show CJ _ _ _ _ _ (([(5, .int .u64 (x8.toNat : Int)), (10, .int .i64 (((x7 : Nat) : Int)))] : Slots) ++ forget _ _) (_)
   refine sR <| oP (P_lss (a := ((x7 : Nat) : Int)) (b := ((l.length : Nat) : Int)) rfl rfl) rfl <| nT <| CJ_seq <| CJ_condP rfl bT_dec (fun hg1 => ?_) (fun hg1 => ?_)
   ·
    replace h := ite_t hg1 h
    refine kT <| CJ_seq <| CJ_block <| sR <| oV (V_index (i := x7) rfl rfl rfl (by omega) foc0 rl Tryz.runUnderlying43 Tryz.sizeOf44) rfl <| oV (V_loadE rfl rfl (by omega) foc0 rl rfl rfl Tryz.isAgg44) rfl <| oA rfl rfl <| nT <| CJ_region <| oM rfl rfl <| oM rfl rfl <| oM rfl rfl ?_
    obtain ⟨r9, hr10, h⟩ := bind_e h
    exact oO <| O_callV rfl rfl (L_parity_Xor_1 hr10) Tryz.call127 Dels.nil rfl fun _ _ => oA rfl rfl <| RJ_nil <| QJ_block_normal <| QJ_then <| CJ_region <| oP (PJ_eq (P_add (a := ((x7 : Nat) : Int)) (b := (1 : Int)) rfl rfl (by omega)) rfl) rfl <| oM rfl rfl <| RJ_nil <| nR ⟨n, (x7 + 1), r9⟩ h ⟨rfl, rfl, True.intro⟩ eR
   ·
    replace h := ite_f hg1 h
    exact CJ_exit <| QJ_then_exit <| QJ_round_exit <| QJ_block_here <| cR x8 (Option.some.inj h).symm ⟨rfl, True.intro⟩ eR
 ·
  rintro a6 hy11
  replace h := bindK_at hK3 hy11
  show CJ _ _ _ _ _ (([(5, .int .u64 (a6.toNat : Int))] : Slots) ++ forget _ _) (_)
  refine sR <| oM rfl rfl <| oA rfl rfl <| nT <| CJ_ret ?_
  cases h
  exact fE (res1 Tryz.results126 rfl) () eR
def parity_Xor (l : List UInt64) : Option (UInt64) :=
  Option.bind (parity_fold__parity_Xor_1 l) fun r2 =>
  some r2
theorem L_parity_Xor {W : World} {Al : HP} {vl : Value} {l : List UInt64} {r : UInt64} (rl : Reads Al tyU vl l) (h : parity_Xor l = some r) :
    CSpec Tryz.prog W 113 [vl] [Al] (fun x : Unit => .int .u64 (r.toNat : Int)) (fun _ => True) (fun x F => Al :: F) := by
 refine CSpec.of_body Tryz.func113 rfl Tryz.ntmps113 rfl fun F => ?_
 show CJ _ _ _ _ _ _ (_ :: F)
 unfold parity_Xor at h
 refine CJ_pure (len_of rl del0) fun hlen1 => sR <| oA rfl rfl <| nT <| sR <| oM rfl rfl ?_
 obtain ⟨r2, hr3, h⟩ := bind_e h
 refine oO <| O_call (L_parity_fold__parity_Xor_1 rl hr3) rfl Tryz.call126 (Dels.cons del0 Dels.nil) rfl fun _ _ => oA rfl rfl <| nT <| CJ_ret ?_
 cases h
 exact fE (res1 Tryz.results113 rfl) () eR
def parity_Rebuild (row : List UInt64) (missing : Int) : Option (UInt64 × Int) :=
  if ((missing < (0 : Int)) ∨ (((row.length : Nat) : Int) ≤ missing)) then
    some (((0 : UInt64), (1 : Int)))
  else
    Option.bind (parity_Xor row) fun r10 =>
    some (((r10 ^^^ (row.getD ((missing).toNat) 0)), (0 : Int)))
theorem L_parity_Rebuild {W : World} {Arow : HP} {vrow : Value} {row : List UInt64} {missing : Int} {r : UInt64 × Int} (rrow : Reads Arow tyU vrow row) (h : parity_Rebuild row missing = some r) :
    CSpec Tryz.prog W 116 [vrow, .int .i64 missing] [Arow] (fun x : Unit => .tuple #[.int .u64 (r.1.toNat : Int), .int .i64 r.2]) (fun _ => True) (fun x F => Arow :: F) := by
 refine CSpec.of_body Tryz.func116 rfl Tryz.ntmps116 rfl fun F => ?_
 show CJ _ _ _ _ _ _ (_ :: F)
 unfold parity_Rebuild at h
 refine CJ_pure (len_of rrow del0) fun hlen1 => sR <| oA rfl rfl <| oA rfl rfl <| nT <| CJ_seq <| sR <| oM rfl rfl <| oP (P_lss (a := missing) (b := (0 : Int)) rfl rfl) rfl <| oM rfl rfl <| RJ_mbF rfl rfl rfl (fun hG2 => have hP3 : ¬ (missing < (0 : Int)) := nP (bT_dec) hG2; VJ_P (P_move rfl)) <| RJ_mbF rfl rfl rfl (fun hG4 => have hP5 : ¬ (missing < (0 : Int)) := nP (bT_dec) hG4; VJ_P (P_move rfl)) <| RJ_mbF rfl rfl rfl (fun hG6 => have hP7 : ¬ (missing < (0 : Int)) := nP (bT_dec) hG6; V_len (mbx hG6 rfl) foc0 rrow Tryz.runUnderlying43) <| RJ_mbF rfl rfl rfl (fun hG8 => have hP9 : ¬ (missing < (0 : Int)) := nP (bT_dec) hG8; VJ_P (P_geq (a := missing) (b := ((row.length : Nat) : Int)) (mbx hG8 rfl) (mbx hG8 rfl))) <| oP (P_pickOr rfl rfl (fun hh => mbx (not_f hh) rfl)) rfl <| nT <| CJ_condP rfl (bT_or bT_dec bT_dec) (fun hg1 => ?_) (fun hg1 => ?_)
 ·
  replace h := ite_t hg1 h
  refine sR <| oA rfl rfl <| oA rfl rfl <| nT <| CJ_ret <| QJ_then_ret ?_
  cases h
  exact fE (res2 Tryz.results116 rfl rfl) () eR
 ·
  replace h := ite_f hg1 h
  refine kT <| CJ_seq <| AJ_startH 0 (by kernel_rfl) rfl <| aN 0 1 rfl rfl (P_move rfl) rfl <| aN 2 5 rfl rfl (P_move rfl) rfl <| aN 3 13 rfl rfl (P_move rfl) rfl <| aV 4 29 rfl rfl (GY_none rfl) eR (V_index (i := (missing).toNat) rfl rfl (Int.toNat_of_nonneg (by omega)).symm (by omega) foc0 rrow Tryz.runUnderlying43 Tryz.sizeOf44) rfl <| aV 5 61 rfl rfl (GY_none rfl) eR (V_loadE rfl rfl (by omega) foc0 rrow rfl rfl Tryz.isAgg44) rfl ?_
  obtain ⟨r10, hr11, h⟩ := bind_e h
  refine AJ_op 1 63 rfl (by kernel_rfl) rfl (GY_none rfl) <| O_call (L_parity_Xor rrow hr11) rfl Tryz.call113 (Dels.cons del0 Dels.nil) rfl fun _ _ => ⟨fun _ => eR, ?_⟩
  refine aN 6 127 rfl rfl (P_xor_u64 (a := r10) (b := (row.getD ((missing).toNat) 0)) rfl rfl) rfl <| aN 7 255 rfl rfl (P_assign rfl) rfl <| aN 8 511 rfl rfl (P_assign rfl) rfl <| aD <| CJ_ret ?_
  cases h
  exact fE (res2 Tryz.results116 rfl rfl) () eR
def parity_Update (old : UInt64) (now : UInt64) (parity : UInt64) : Option (UInt64) :=
  some (((old ^^^ now) ^^^ parity))
theorem L_parity_Update {W : World} {old : UInt64} {now : UInt64} {parity : UInt64} {r : UInt64} (h : parity_Update old now parity = some r) :
    CSpec Tryz.prog W 82 [.int .u64 (old.toNat : Int), .int .u64 (now.toNat : Int), .int .u64 (parity.toNat : Int)] [] (fun x : Unit => .int .u64 (r.toNat : Int)) (fun _ => True) (fun x F => F) := by
 refine CSpec.of_body Tryz.func82 rfl Tryz.ntmps82 rfl fun F => ?_
 show CJ _ _ _ _ _ _ (F)
 unfold parity_Update at h
 refine sR <| oA rfl rfl <| nT <| sR <| oM rfl rfl <| oM rfl rfl <| oP (P_xor_u64 (a := old) (b := now) rfl rfl) rfl <| oM rfl rfl <| oP (P_xor_u64 (a := (old ^^^ now)) (b := parity) rfl rfl) rfl <| oA rfl rfl <| nT <| CJ_ret ?_
 cases h
 exact fE (res1 Tryz.results82 rfl) () eR
end Go.Proofs
set_option linter.unusedSimpArgs false
set_option linter.unusedVariables false
set_option maxRecDepth 20000
set_option maxHeartbeats 4000000
namespace Go.Proofs
open Go.VG
structure prtS where
  dev : Dvc
  stale : Bool
  failed : Bool
structure prtH where
  dev : IfH
  stale : Bool
  failed : Bool
abbrev prt_x0 : prtS := ⟨dv0, false, false⟩
abbrev prt_h0 : prtH := ⟨tyDev.dflt, false, false⟩
abbrev typrtH : Ty prtH := { T := 126, sz := 3, enc := fun x => [x.dev.v, .bool x.stale, .bool x.failed], dflt := prt_h0, len := fun _ => rfl, one := fun _ => rfl, pos := by decide }
theorem ok_typrtH : ElemOk Tryz.prog typrtH 24 := ⟨Tryz.t126, .agg #[.nilIface, .bool false, .bool false], by kernel_rfl, rfl, rfl, rfl, rfl⟩
def mk_prt (l : List prtS) (hs : List IfH) : List prtH := List.zipWith (fun x h => ⟨h, x.stale, x.failed⟩) l hs
theorem mk_prt_len {l : List prtS} {hs : List IfH} (hl : hs.length = l.length) : (mk_prt l hs).length = l.length := by simp [mk_prt, hl]
theorem mk_prt_at {l : List prtS} {hs : List IfH} (hl : hs.length = l.length) (i : Nat) : (mk_prt l hs).getD i prt_h0 = ⟨hs.getD i tyDev.dflt, (l.getD i prt_x0).stale, (l.getD i prt_x0).failed⟩ := by
  by_cases h : i < l.length
  · have h2 : i < hs.length := by omega
    have h4 : i < (mk_prt l hs).length := by rw [mk_prt_len hl]; exact h
    simp only [List.getD, List.getElem?_eq_getElem h, List.getElem?_eq_getElem h2, List.getElem?_eq_getElem h4, Option.getD_some]
    simp [mk_prt]
  · have h2 : ¬ i < hs.length := by omega
    have h3 : (mk_prt l hs).length = l.length := mk_prt_len hl
    simp only [List.getD]
    rw [List.getElem?_eq_none (by omega), List.getElem?_eq_none (by omega), List.getElem?_eq_none (by omega)]; rfl
theorem mk_prt_set {l : List prtS} {hs : List IfH} (hl : hs.length = l.length) {i : Nat} (hi : i < l.length) (y : prtS) : (mk_prt l hs).set i ⟨hs.getD i tyDev.dflt, y.stale, y.failed⟩ = mk_prt (l.set i y) hs := by
  apply List.ext_getElem (by simp [mk_prt])
  intro j h1 h2
  rw [List.getElem_set]
  simp only [mk_prt, List.getElem_zipWith, List.getElem_set]
  by_cases e : i = j
  · subst e; simp [List.getD, show i < hs.length by omega]
  · simp [e]
theorem mk_prt_set_stale {l : List prtS} {hs : List IfH} (hl : hs.length = l.length) {i : Nat} (hi : i < l.length) (v : Bool) : (mk_prt l hs).set i { (mk_prt l hs).getD i prt_h0 with stale := v } = mk_prt (l.set i { l.getD i prt_x0 with stale := v }) hs := by
  rw [mk_prt_at hl, ← mk_prt_set hl hi]
theorem mk_prt_dev_stale {l : List prtS} {i : Nat} (v : Bool) : (l.set i { l.getD i prt_x0 with stale := v }).map prtS.dev = l.map prtS.dev := by
  apply List.ext_getElem (by simp)
  intro j h1 h2
  simp only [List.getElem_map, List.getElem_set]
  split
  · rename_i e; subst e; simp at h2; simp [List.getD, h2]
  · rfl
theorem mk_prt_set_failed {l : List prtS} {hs : List IfH} (hl : hs.length = l.length) {i : Nat} (hi : i < l.length) (v : Bool) : (mk_prt l hs).set i { (mk_prt l hs).getD i prt_h0 with failed := v } = mk_prt (l.set i { l.getD i prt_x0 with failed := v }) hs := by
  rw [mk_prt_at hl, ← mk_prt_set hl hi]
theorem mk_prt_dev_failed {l : List prtS} {i : Nat} (v : Bool) : (l.set i { l.getD i prt_x0 with failed := v }).map prtS.dev = l.map prtS.dev := by
  apply List.ext_getElem (by simp)
  intro j h1 h2
  simp only [List.getElem_map, List.getElem_set]
  split
  · rename_i e; subst e; simp at h2; simp [List.getD, h2]
  · rfl
theorem mk_prt_snoc {l : List prtS} {hs : List IfH} (hl : hs.length = l.length) (x : prtS) (h : IfH) : mk_prt l hs ++ [⟨h, x.stale, x.failed⟩] = mk_prt (l ++ [x]) (hs ++ [h]) := by
  simp only [mk_prt]; rw [List.zipWith_append hl.symm]; rfl
theorem mk_prt_rs {a : Nat} {l : List prtS} {hs : List IfH} {i : Nat} {R : List HP} (hi : i < l.length) : Ent (Rs (DevP a) (l.map prtS.dev) hs :: R) (DevP a (l.getD i prt_x0).dev (hs.getD i tyDev.dflt) :: Rs (DevP a) (l.map prtS.dev) hs :: R) := by
  have h := Rs_at (RP := DevP a) (fun _ _ => Dup_DevP) (dx := dv0) (dh := tyDev.dflt) (l := l.map prtS.dev) (hs := hs) (i := i) (R := R) (by simpa using hi)
  have e : (l.map prtS.dev).getD i dv0 = (l.getD i prt_x0).dev := by simp [List.getD, hi]
  rwa [e] at h
structure VolS where
  layout_n : Int
  layout_chunk : Int
  layout_rows : Int
  legs : List prtS
  last_seq : UInt64
  last_offset : Int
  last_leg : Int
  last_word : UInt64
  last_parity : UInt64
  pending : Bool
  filled : Int
def VolP (a b : Nat) (l : VolS) : HP := ex fun h : Sl3 × (List IfH) => star [blk b 123 [.int .i64 l.layout_n, .int .i64 l.layout_chunk, .int .i64 l.layout_rows, (Sl3.v h.1), .int .u64 (l.last_seq.toNat : Int), .int .i64 l.last_offset, .int .i64 l.last_leg, .int .u64 (l.last_word.toNat : Int), .int .u64 (l.last_parity.toNat : Int), .bool l.pending, .int .i64 l.filled], sl typrtH (Sl3.v h.1) (mk_prt l.legs h.2), Rs (DevP a) (l.legs.map prtS.dev) h.2]
theorem VolP_open {a b : Nat} {l : VolS} {R : List HP} : EntX (VolP a b l :: R) fun h : Sl3 × (List IfH) => blk b 123 [.int .i64 l.layout_n, .int .i64 l.layout_chunk, .int .i64 l.layout_rows, (Sl3.v h.1), .int .u64 (l.last_seq.toNat : Int), .int .i64 l.last_offset, .int .i64 l.last_leg, .int .u64 (l.last_word.toNat : Int), .int .u64 (l.last_parity.toNat : Int), .bool l.pending, .int .i64 l.filled] :: sl typrtH (Sl3.v h.1) (mk_prt l.legs h.2) :: Rs (DevP a) (l.legs.map prtS.dev) h.2 :: R :=
  fun _ hh => let ⟨c, hc⟩ := stars_ex.1 hh; ⟨c, stars_star.1 hc⟩
theorem VolP_mk {a b : Nat} {v0 : Int} {v1 : Int} {v2 : Int} {v3 : List prtS} {v4 : UInt64} {v5 : Int} {v6 : Int} {v7 : UInt64} {v8 : UInt64} {v9 : Bool} {v10 : Int} {h0 : Sl3} {h1 : List IfH} {R : List HP} : Ent (blk b 123 [.int .i64 v0, .int .i64 v1, .int .i64 v2, (Sl3.v h0), .int .u64 (v4.toNat : Int), .int .i64 v5, .int .i64 v6, .int .u64 (v7.toNat : Int), .int .u64 (v8.toNat : Int), .bool v9, .int .i64 v10] :: sl typrtH (Sl3.v h0) (mk_prt v3 h1) :: Rs (DevP a) (v3.map prtS.dev) h1 :: R) (VolP a b ⟨v0, v1, v2, v3, v4, v5, v6, v7, v8, v9, v10⟩ :: R) :=
  fun _ hh => stars_ex.2 ⟨(h0, h1), stars_star.2 hh⟩
end Go.Proofs
set_option linter.unusedSimpArgs false
set_option linter.unusedVariables false
set_option maxRecDepth 20000
set_option maxHeartbeats 4000000
namespace Go.Proofs
open Go.VG
@[ext] structure parityvol_layout where
  n : Int
  chunk : Int
  rows : Int
  deriving DecidableEq
theorem bld_112 : ∀ w, (Instr.build 112 (#[] : Array (Nat × Value))).run Tryz.prog w = .ok (.agg #[.int .i64 (0 : Int), .int .i64 (0 : Int), .int .i64 (0 : Int)]) w := fun w => by kernel_rfl
theorem bld_112_0_1_2 (v0 : Int) (v1 : Int) (v2 : Int) : ∀ w, (Instr.build 112 (#[(0, .int .i64 v0), (1, .int .i64 v1), (2, .int .i64 v2)] : Array (Nat × Value))).run Tryz.prog w = .ok (.agg #[.int .i64 v0, .int .i64 v1, .int .i64 v2]) w := fun w => by kernel_rfl
theorem bs_35_1_0 (v0 : Int) : BuildsSlice Tryz.prog 35 1 [(0, .int .i64 v0)] 3 [.int .i64 v0] := fun w => by kernel_rfl
def parityvol_newLayout_l1_b (legs : List Dvc) (s : ArrS) (rec : Nat → Int → Option (Int)) (x27 : Nat) (x28 : Int) : Option (Int) :=
  if (((x27 : Nat) : Int) < ((legs.length : Nat) : Int)) then
    Option.bind (Dvc.size (legs.getD x27 dv0) s) fun r31 =>
    rec (x27 + 1) (min x28 r31)
  else
    some x28
def parityvol_newLayout_l1 (legs : List Dvc) (s : ArrS) : Nat → Nat → Int → Option (Int)
  | 0, _, _ => none
  | n + 1, x27, x28 => parityvol_newLayout_l1_b legs s (parityvol_newLayout_l1 legs s n) x27 x28
def parityvol_newLayout (legs : List Dvc) (chunk : Int) (s : ArrS) : Option (parityvol_layout × Int) :=
  if ((((((legs.length : Nat) : Int) < (3 : Int)) ∨ ((6 : Int) < ((legs.length : Nat) : Int))) ∨ (chunk < (1 : Int))) ∨ ((65536 : Int) < chunk)) then
    some (((⟨(0 : Int), (0 : Int), (0 : Int)⟩ : parityvol_layout), (1 : Int)))
  else
    Option.bind (Dvc.size (legs.getD 0 dv0) s) fun r20 =>
    Option.bind (parityvol_newLayout_l1 legs s FUEL 0 r20) fun a26 =>
    if (a26 < ((16 : Int) + chunk)) then
      some (((⟨(0 : Int), (0 : Int), (0 : Int)⟩ : parityvol_layout), (3 : Int)))
    else
      grd (inI64 ((a26 - (16 : Int)))) <|
      some (((⟨((legs.length : Nat) : Int), chunk, (IntKind.i64.wrap (((a26 - (16 : Int))).tdiv chunk))⟩ : parityvol_layout), (0 : Int)))
theorem L_parityvol_newLayout {W : World} {Alegs : HP} {vlegs : Value} {hslegs : List IfH} {bs : Nat} {legs : List Dvc} {chunk : Int} {s : ArrS} {r : parityvol_layout × Int} (rlegs : Reads Alegs tyDev vlegs hslegs) (h : parityvol_newLayout legs chunk s = some r) :
    CSpec Tryz.prog W 65 [vlegs, .int .i64 chunk] [Alegs, Rs (DevP bs) legs hslegs, Arr bs s] (fun x : Unit => .tuple #[.agg #[.int .i64 r.1.n, .int .i64 r.1.chunk, .int .i64 r.1.rows], .int .i64 r.2]) (fun _ => True) (fun x F => Alegs :: Rs (DevP bs) legs hslegs :: Arr bs s :: F) := by
 refine CSpec.of_body Tryz.func65 rfl Tryz.ntmps65 rfl fun F => ?_
 show CJ _ _ _ _ _ _ (_ :: _ :: _ :: F)
 unfold parityvol_newLayout at h
 refine CJ_pure (len_of rlegs del0) fun hlen1 => CJ_pure (fun h hh => Rs_len (stars_perm (del1 (A := Rs (DevP bs) legs hslegs)).out h hh)) fun hdl2 => sR <| oO <| O_alloc Tryz.zeroValue112 rfl rfl fun b3 => oA rfl rfl <| nT <| CJ_seq <| sR <| oM rfl rfl <| oV (VJ_eq (V_len rfl foc1 rlegs Tryz.runUnderlying62) (congrArg (fun z : Nat => Value.int .i64 (z : Int)) (hdl2).symm)) rfl <| oP (P_lss (a := ((legs.length : Nat) : Int)) (b := (3 : Int)) rfl rfl) rfl <| oM rfl rfl <| RJ_mbF rfl rfl rfl (fun hG4 => have hP5 : ¬ (((legs.length : Nat) : Int) < (3 : Int)) := nP (bT_dec) hG4; VJ_P (P_move rfl)) <| RJ_mbF rfl rfl rfl (fun hG6 => have hP7 : ¬ (((legs.length : Nat) : Int) < (3 : Int)) := nP (bT_dec) hG6; VJ_eq (V_len (mbx hG6 rfl) foc1 rlegs Tryz.runUnderlying62) (congrArg (fun z : Nat => Value.int .i64 (z : Int)) (hdl2).symm)) <| RJ_mbF rfl rfl rfl (fun hG8 => have hP9 : ¬ (((legs.length : Nat) : Int) < (3 : Int)) := nP (bT_dec) hG8; VJ_P (P_gtr (a := ((legs.length : Nat) : Int)) (b := (6 : Int)) (mbx hG8 rfl) rfl)) <| oP (P_pickOr rfl rfl (fun hh => mbx (not_f hh) rfl)) rfl <| oM rfl rfl <| RJ_mbF rfl rfl rfl (fun hG10 => have hP11 : ¬ ((((legs.length : Nat) : Int) < (3 : Int)) ∨ ((6 : Int) < ((legs.length : Nat) : Int))) := nP ((bT_or bT_dec bT_dec)) hG10; VJ_P (P_move rfl)) ?_
 refine RJ_mbF rfl rfl rfl (fun hG12 => have hP13 : ¬ ((((legs.length : Nat) : Int) < (3 : Int)) ∨ ((6 : Int) < ((legs.length : Nat) : Int))) := nP ((bT_or bT_dec bT_dec)) hG12; VJ_P (P_lss (a := chunk) (b := (1 : Int)) (mbx hG12 rfl) rfl)) <| oP (P_pickOr rfl rfl (fun hh => mbx (not_f hh) rfl)) rfl <| oM rfl rfl <| RJ_mbF rfl rfl rfl (fun hG14 => have hP15 : ¬ (((((legs.length : Nat) : Int) < (3 : Int)) ∨ ((6 : Int) < ((legs.length : Nat) : Int))) ∨ (chunk < (1 : Int))) := nP ((bT_or (bT_or bT_dec bT_dec) bT_dec)) hG14; VJ_P (P_move rfl)) <| RJ_mbF rfl rfl rfl (fun hG16 => have hP17 : ¬ (((((legs.length : Nat) : Int) < (3 : Int)) ∨ ((6 : Int) < ((legs.length : Nat) : Int))) ∨ (chunk < (1 : Int))) := nP ((bT_or (bT_or bT_dec bT_dec) bT_dec)) hG16; VJ_P (P_gtr (a := chunk) (b := (65536 : Int)) (mbx hG16 rfl) rfl)) <| oP (P_pickOr rfl rfl (fun hh => mbx (not_f hh) rfl)) rfl <| nT <| CJ_condP rfl (bT_or (bT_or (bT_or bT_dec bT_dec) bT_dec) bT_dec) (fun hg1 => ?_) (fun hg1 => ?_)
 ·
  replace h := ite_t hg1 h
  refine sR <| oP (P_build rfl (bld_112)) rfl <| oO <| O_storeN rfl rfl foc0 Tryz.sizeOf112 rfl rfl rfl <| oA rfl rfl <| nT <| CJ_ret <| QJ_then_ret ?_
  cases h
  exact fE (resA2 Tryz.results65 (RV_cellN rfl foc0 Tryz.isAgg112 Tryz.sizeOf112 rfl rfl) (RV_tmp rfl)) () (t1_ (t1_ (t1_ (eD eR))))
 ·
  replace h := ite_f hg1 h
  refine kT <| sR <| oM rfl rfl <| oV (V_index (i := 0) rfl rfl rfl (by have hz : 0 < legs.length := (by omega); have hy := hdl2; omega) foc1 rlegs Tryz.runUnderlying62 Tryz.sizeOf79) rfl <| RJ_ent (Ent.trans (t2_ eR) (Rs_at (fun _ _ => Dup_DevP) (dx := dv0) (dh := tyDev.dflt) (i := 0) (by omega))) <| oV (V_loadE rfl rfl (by have hz : 0 < legs.length := (by omega); have hy := hdl2; omega) foc3 rlegs rfl rfl Tryz.isAgg79) rfl <| RJ_pure (fun h hh => DevP_dep h (stars_perm (del0 (A := DevP bs (legs.getD 0 dv0) (hslegs.getD 0 tyDev.dflt))).out h hh)) fun hdp19 => ?_
  obtain ⟨r20, hr21, h⟩ := bind_e h
  refine oO <| O_callI rfl (dev_Size hr21 hdp19) rfl (Dels.cons del0 (Dels.cons del3 Dels.nil)) rfl fun _ _ => oA rfl rfl <| nT <| CJ_seq <| sR <| oM rfl rfl <| oV (VJ_eq (V_len rfl foc4 rlegs Tryz.runUnderlying62) (congrArg (fun z : Nat => Value.int .i64 (z : Int)) (hdl2).symm)) rfl <| oM rfl rfl <| nT ?_
  obtain ⟨y24, hl22, hK23⟩ := bind_c h
  refine CJ_cutT (X := Int) [6, 8, 32, 33, 34, 35, 36, 37, 38, 39, 40] (fun a26 => ([(6, .int .i64 a26)] : Slots)) (fun a26 R => R) (fun a26 => y24 = a26) Dels.nil ?_ ?_
  ·
   refine CJ_block <| CJ_loopR (X := Nat × Nat × Int) [6, 8, 32, 33, 34, 35, 36, 37, 38, 39, 40] (fun ⟨n, x27, x28⟩ => ([(6, .int .i64 x28), (32, .int .i64 (((x27 : Nat) : Int)))] : Slots)) (fun ⟨n, x27, x28⟩ R => R) (fun ⟨n, x27, x28⟩ => parityvol_newLayout_l1 legs s n x27 x28 = some y24) (fun ⟨n, x27, x28⟩ => n) ⟨FUEL, 0, r20⟩ ?_ ?_ eR ?_
   · exact hl22
   · exact ⟨rfl, rfl, True.intro⟩
   ·
    rintro ⟨n, x27, x28⟩ h
    cases n with
    | zero => exact none_e h
    | succ n => ?_
    replace h : parityvol_newLayout_l1_b legs s (parityvol_newLayout_l1 legs s n) x27 x28 = some y24 := h
    unfold parityvol_newLayout_l1_b at h
    show CJ _ _ _ _ _ (([(6, .int .i64 x28), (32, .int .i64 (((x27 : Nat) : Int)))] : Slots) ++ forget _ _) (_)
    refine sR <| oP (P_lss (a := ((x27 : Nat) : Int)) (b := ((legs.length : Nat) : Int)) rfl rfl) rfl <| nT <| CJ_seq <| CJ_condP rfl bT_dec (fun hg2 => ?_) (fun hg2 => ?_)
    ·
     replace h := ite_t hg2 h
     refine kT <| CJ_seq <| CJ_block <| sR <| oV (V_index (i := x27) rfl rfl rfl (by have hz : x27 < legs.length := (by omega); have hy := hdl2; omega) foc4 rlegs Tryz.runUnderlying62 Tryz.sizeOf79) rfl <| RJ_ent (Ent.trans (t2_ eR) (Rs_at (fun _ _ => Dup_DevP) (dx := dv0) (dh := tyDev.dflt) (i := x27) (by omega))) <| oV (V_loadE rfl rfl (by have hz : x27 < legs.length := (by omega); have hy := hdl2; omega) foc5 rlegs rfl rfl Tryz.isAgg79) rfl <| oA rfl rfl <| nT <| CJ_region <| oM rfl rfl <| oM rfl rfl <| RJ_pure (fun h hh => DevP_dep h (stars_perm (del0 (A := DevP bs (legs.getD x27 dv0) (hslegs.getD x27 tyDev.dflt))).out h hh)) fun hdp30 => ?_
     obtain ⟨r31, hr32, h⟩ := bind_e h
     exact oO <| O_callI rfl (dev_Size hr32 hdp30) rfl (Dels.cons del0 (Dels.cons del2 Dels.nil)) rfl fun _ _ => oP (P_min (a := x28) (b := r31) rfl rfl) rfl <| oA rfl rfl <| RJ_nil <| QJ_block_normal <| QJ_then <| CJ_region <| oP (PJ_eq (P_add (a := ((x27 : Nat) : Int)) (b := (1 : Int)) rfl rfl (by omega)) rfl) rfl <| oM rfl rfl <| RJ_nil <| nR ⟨n, (x27 + 1), (min x28 r31)⟩ h ⟨rfl, rfl, True.intro⟩ (t3_ (t1_ (t1_ (t1_ (t1_ (eD eR))))))
    ·
     replace h := ite_f hg2 h
     exact CJ_exit <| QJ_then_exit <| QJ_round_exit <| QJ_block_here <| cR x28 (Option.some.inj h).symm ⟨rfl, True.intro⟩ eR
  ·
   rintro a26 hy33
   replace h := bindK_at hK23 hy33
   show CJ _ _ _ _ _ (([(6, .int .i64 a26)] : Slots) ++ forget _ _) (_)
   refine CJ_seq <| sR <| oM rfl rfl <| oM rfl rfl <| oP (P_add (a := (16 : Int)) (b := chunk) rfl rfl (by omega)) rfl <| oP (P_lss (a := a26) (b := ((16 : Int) + chunk)) rfl rfl) rfl <| nT <| CJ_condP rfl bT_dec (fun hg3 => ?_) (fun hg3 => ?_)
   ·
    replace h := ite_t hg3 h
    refine sR <| oP (P_build rfl (bld_112)) rfl <| oO <| O_storeN rfl rfl foc3 Tryz.sizeOf112 rfl rfl rfl <| oA rfl rfl <| nT <| CJ_ret <| QJ_then_ret ?_
    cases h
    exact fE (resA2 Tryz.results65 (RV_cellN rfl foc3 Tryz.isAgg112 Tryz.sizeOf112 rfl rfl) (RV_tmp rfl)) () (t4_ (t2_ (t1_ (eD (eD eR)))))
   ·
    replace h := ite_f hg3 h
    refine kT <| sR <| oM rfl rfl <| oV (VJ_eq (V_len rfl foc4 rlegs Tryz.runUnderlying62) (congrArg (fun z : Nat => Value.int .i64 (z : Int)) (hdl2).symm)) rfl <| oM rfl rfl <| oM rfl rfl ?_
    obtain ⟨hg4, h⟩ := grd_Ie h
    refine oP (P_sub (a := a26) (b := (16 : Int)) rfl rfl hg4) rfl <| oM rfl rfl <| oP (P_quoT (a := (a26 - (16 : Int))) (b := chunk) rfl rfl (by omega)) rfl <| oP (P_build rfl (bld_112_0_1_2 _ _ _)) rfl <| oO <| O_storeN rfl rfl foc3 Tryz.sizeOf112 rfl rfl rfl <| oA rfl rfl <| nT <| CJ_ret ?_
    cases h
    exact fE (resA2 Tryz.results65 (RV_cellN rfl foc3 Tryz.isAgg112 Tryz.sizeOf112 rfl rfl) (RV_tmp rfl)) () (t4_ (t2_ (t1_ (eD (eD eR)))))
def parityvol_Format_l1_b (legs : List Dvc) (chunk : Int) (r3 : parityvol_layout × Int) (rec : ArrS → Nat → Option ((ArrS) ⊕ (Int × ArrS))) (x12 : ArrS) (x13 : Nat) : Option ((ArrS) ⊕ (Int × ArrS)) :=
  if (((x13 : Nat) : Int) < ((legs.length : Nat) : Int)) then
    Option.bind (block_WriteAll (legs.getD x13 dv0) (0 : Int) ((List.replicate ((((16 : Int) + (r3.1.rows * chunk))).toNat) (0 : UInt64))) x12) fun r15 =>
    if (r15.1 ≠ (0 : Int)) then
      some (.inr (r15.1, r15.2))
    else
      rec r15.2 (x13 + 1)
  else
    some (.inl x12)
def parityvol_Format_l1 (legs : List Dvc) (chunk : Int) (r3 : parityvol_layout × Int) : Nat → ArrS → Nat → Option ((ArrS) ⊕ (Int × ArrS))
  | 0, _, _ => none
  | n + 1, x12, x13 => parityvol_Format_l1_b legs chunk r3 (parityvol_Format_l1 legs chunk r3 n) x12 x13
def parityvol_Format_l2_b (legs : List Dvc) (rec : ArrS → Nat → Option ((ArrS) ⊕ (Int × ArrS))) (x23 : ArrS) (x24 : Nat) : Option ((ArrS) ⊕ (Int × ArrS)) :=
  if (((x24 : Nat) : Int) < ((legs.length : Nat) : Int)) then
    Option.bind (Dvc.fl (legs.getD x24 dv0) x23) fun r27 =>
    if (r27.1 ≠ (0 : Int)) then
      some (.inr (r27.1, r27.2))
    else
      rec r27.2 (x24 + 1)
  else
    some (.inl x23)
def parityvol_Format_l2 (legs : List Dvc) : Nat → ArrS → Nat → Option ((ArrS) ⊕ (Int × ArrS))
  | 0, _, _ => none
  | n + 1, x23, x24 => parityvol_Format_l2_b legs (parityvol_Format_l2 legs n) x23 x24
def parityvol_Format (legs : List Dvc) (chunk : Int) (s : ArrS) : Option (Int × ArrS) :=
  Option.bind (parityvol_newLayout legs chunk s) fun r3 =>
  if (r3.2 ≠ (0 : Int)) then
    some (r3.2, s)
  else
    grd (inI64 (r3.1.rows * chunk)) <|
    grd (inI64 (((16 : Int) + (r3.1.rows * chunk)))) <|
    grd (decide (0 ≤ ((16 : Int) + (r3.1.rows * chunk)) ∧ ((16 : Int) + (r3.1.rows * chunk)) ≤ 1000000000)) <|
    seqO (parityvol_Format_l1 legs chunk r3 FUEL s 0) fun a11 =>
    seqO (parityvol_Format_l2 legs FUEL a11 0) fun a22 =>
    some (((0 : Int), a22))
theorem L_parityvol_Format {W : World} {Alegs : HP} {vlegs : Value} {hslegs : List IfH} {bs : Nat} {legs : List Dvc} {chunk : Int} {s : ArrS} {r : Int × ArrS} (rlegs : Reads Alegs tyDev vlegs hslegs) (h : parityvol_Format legs chunk s = some r) :
    CSpec Tryz.prog W 25 [vlegs, .int .i64 chunk] [Alegs, Rs (DevP bs) legs hslegs, Arr bs s] (fun x : Unit => .int .i64 r.1) (fun _ => True) (fun x F => Alegs :: Rs (DevP bs) legs hslegs :: Arr bs r.2 :: F) := by
 refine CSpec.of_body Tryz.func25 rfl Tryz.ntmps25 rfl fun F => ?_
 show CJ _ _ _ _ _ _ (_ :: _ :: _ :: F)
 unfold parityvol_Format at h
 refine CJ_pure (len_of rlegs del0) fun hlen1 => CJ_pure (fun h hh => Rs_len (stars_perm (del1 (A := Rs (DevP bs) legs hslegs)).out h hh)) fun hdl2 => sR <| oA rfl rfl <| nT <| sR <| oM rfl rfl <| oM rfl rfl ?_
 obtain ⟨r3, hr4, h⟩ := bind_e h
 refine oO <| O_call (L_parityvol_newLayout rlegs hr4) rfl Tryz.call65 (Dels.cons del0 (Dels.cons del0 (Dels.cons del0 Dels.nil))) rfl fun _ _ => oM rfl rfl <| oP (P_extract rfl rfl) rfl <| oP (P_extract rfl rfl) rfl <| oO <| O_alloc Tryz.zeroValue112 rfl rfl fun b5 => oO <| O_storeN rfl rfl foc0 Tryz.sizeOf112 rfl rfl rfl <| oA rfl rfl <| nT <| CJ_seq <| sR <| oM rfl rfl <| oP (P_neq (a := r3.2) (b := (0 : Int)) rfl rfl) rfl <| nT <| CJ_condP rfl bT_dec (fun hg1 => ?_) (fun hg1 => ?_)
 ·
  replace h := ite_t hg1 h
  refine sR <| oM rfl rfl <| oA rfl rfl <| nT <| CJ_ret <| QJ_then_ret ?_
  cases h
  exact fE (res1 Tryz.results25 rfl) () (t1_ (t1_ (t1_ (eD eR))))
 ·
  replace h := ite_f hg1 h
  refine kT <| sR <| oP (P_fieldAddr rfl ⟨_, _, _, Tryz.runUnderlying112, rfl, rfl, Tryz.sizeOf3, rfl⟩) rfl <| oV (V_load rfl foc0 rfl Tryz.isAgg3) rfl <| oM rfl rfl ?_
  obtain ⟨hg2, h⟩ := grd_Ie h
  refine oP (P_mul (a := r3.1.rows) (b := chunk) rfl rfl hg2) rfl ?_
  obtain ⟨hg3, h⟩ := grd_Ie h
  refine oP (P_add (a := (16 : Int)) (b := (r3.1.rows * chunk)) rfl rfl hg3) rfl ?_
  obtain ⟨hg4, h⟩ := grd_de h
  refine oO <| O_make (t := tyU) (m := (((16 : Int) + (r3.1.rows * chunk))).toNat) (x0 := 0) (z := _) (bytes := _) rfl rfl (Int.toNat_of_nonneg (hg4.1)).symm (Int.toNat_of_nonneg (hg4.1)).symm Tryz.underlying43 ⟨Tryz.t44, by kernel_rfl, rfl, rfl, rfl⟩ rfl (by omega) (by decide) rfl fun b6 => oA rfl rfl <| nT <| CJ_seq <| sR <| oM rfl rfl <| oV (VJ_eq (V_len rfl foc2 rlegs Tryz.runUnderlying62) (congrArg (fun z : Nat => Value.int .i64 (z : Int)) (hdl2).symm)) rfl <| oM rfl rfl <| nT ?_
  obtain ⟨y9, hl7, hK8⟩ := seq_e h
  refine CJ_cutT (X := ArrS) [4, 9, 10, 31, 32, 33, 34, 35, 36, 37, 38, 39, 40, 41] (fun a11 => ([] : Slots)) (fun a11 R => Arr bs a11 :: R) (fun a11 => y9 = .inl a11) (Dels.cons del4 Dels.nil) ?_ ?_
  ·
   refine CJ_block <| CJ_loopR (X := Nat × ArrS × Nat) [4, 9, 10, 31, 32, 33, 34, 35, 36, 37, 38, 39, 40, 41] (fun ⟨n, x12, x13⟩ => ([(31, .int .i64 (((x13 : Nat) : Int)))] : Slots)) (fun ⟨n, x12, x13⟩ R => Arr bs x12 :: R) (fun ⟨n, x12, x13⟩ => parityvol_Format_l1 legs chunk r3 n x12 x13 = some y9) (fun ⟨n, x12, x13⟩ => n) ⟨FUEL, s, 0⟩ ?_ ?_ (t4_ eR) ?_
   · exact hl7
   · exact ⟨rfl, True.intro⟩
   ·
    rintro ⟨n, x12, x13⟩ h
    cases n with
    | zero => exact none_e h
    | succ n => ?_
    replace h : parityvol_Format_l1_b legs chunk r3 (parityvol_Format_l1 legs chunk r3 n) x12 x13 = some y9 := h
    unfold parityvol_Format_l1_b at h
    show CJ _ _ _ _ _ (([(31, .int .i64 (((x13 : Nat) : Int)))] : Slots) ++ forget _ _) (Arr bs x12 :: _)
    refine sR <| oP (P_lss (a := ((x13 : Nat) : Int)) (b := ((legs.length : Nat) : Int)) rfl rfl) rfl <| nT <| CJ_seq <| CJ_condP rfl bT_dec (fun hg5 => ?_) (fun hg5 => ?_)
    ·
     replace h := ite_t hg5 h
     refine kT <| CJ_seq <| CJ_block <| sR <| oV (V_index (i := x13) rfl rfl rfl (by have hz : x13 < legs.length := (by omega); have hy := hdl2; omega) foc3 rlegs Tryz.runUnderlying62 Tryz.sizeOf79) rfl <| RJ_ent (Ent.trans (t4_ eR) (Rs_at (fun _ _ => Dup_DevP) (dx := dv0) (dh := tyDev.dflt) (i := x13) (by omega))) <| oV (V_loadE rfl rfl (by have hz : x13 < legs.length := (by omega); have hy := hdl2; omega) foc5 rlegs rfl rfl Tryz.isAgg79) rfl <| oA rfl rfl <| nT <| sR <| oM rfl rfl <| oM rfl rfl ?_
     obtain ⟨r15, hr16, h⟩ := bind_e h
     refine oO <| O_call (L_block_WriteAll (Reads.sl _ _ _) hr16) rfl Tryz.call66 (Dels.cons del0 (Dels.cons del2 (Dels.cons del1 Dels.nil))) rfl fun _ _ => oA rfl rfl <| nT <| sR <| oM rfl rfl <| oP (P_neq (a := r15.1) (b := (0 : Int)) rfl rfl) rfl <| nT <| CJ_condP rfl bT_dec (fun hg6 => ?_) (fun hg6 => ?_)
     ·
      replace h := ite_t hg6 h
      refine sR <| oM rfl rfl <| oA rfl rfl <| nT <| CJ_ret <| QJ_block_ret <| QJ_then_ret <| QJ_round_ret <| QJ_block_ret <| QJ_then_ret ?_
      have hE := Option.some.inj h
      replace hE := seq_inr hK8 hE.symm
      subst hE
      exact fE (res1 Tryz.results25 rfl) () (t5_ (t3_ (t2_ (eD (eD (eD eR))))))
     ·
      replace h := ite_f hg6 h
      exact CJ_skip <| QJ_block_normal <| QJ_then <| CJ_region <| oP (PJ_eq (P_add (a := ((x13 : Nat) : Int)) (b := (1 : Int)) rfl rfl (by omega)) rfl) rfl <| oM rfl rfl <| RJ_nil <| nR ⟨n, r15.2, (x13 + 1)⟩ h ⟨rfl, True.intro⟩ (t2_ (t1_ (t2_ (t2_ (t1_ (eD eR))))))
    ·
     replace h := ite_f hg5 h
     exact CJ_exit <| QJ_then_exit <| QJ_round_exit <| QJ_block_here <| cR x12 (Option.some.inj h).symm True.intro eR
  ·
   rintro a11 hy17
   replace h := seq_inl hK8 hy17
   show CJ _ _ _ _ _ (([] : Slots) ++ forget _ _) (Arr bs a11 :: _)
   refine CJ_seq <| sR <| oM rfl rfl <| oV (VJ_eq (V_len rfl foc3 rlegs Tryz.runUnderlying62) (congrArg (fun z : Nat => Value.int .i64 (z : Int)) (hdl2).symm)) rfl <| oM rfl rfl <| nT ?_
   obtain ⟨y20, hl18, hK19⟩ := seq_e h
   refine CJ_cutT (X := ArrS) [4, 12, 13, 44, 45, 46, 47, 48, 49, 50, 51, 52, 53] (fun a22 => ([] : Slots)) (fun a22 R => Arr bs a22 :: R) (fun a22 => y20 = .inl a22) (Dels.cons del0 Dels.nil) ?_ ?_
   ·
    refine CJ_block <| CJ_loopR (X := Nat × ArrS × Nat) [4, 12, 13, 44, 45, 46, 47, 48, 49, 50, 51, 52, 53] (fun ⟨n, x23, x24⟩ => ([(44, .int .i64 (((x24 : Nat) : Int)))] : Slots)) (fun ⟨n, x23, x24⟩ R => Arr bs x23 :: R) (fun ⟨n, x23, x24⟩ => parityvol_Format_l2 legs n x23 x24 = some y20) (fun ⟨n, x23, x24⟩ => n) ⟨FUEL, a11, 0⟩ ?_ ?_ eR ?_
    · exact hl18
    · exact ⟨rfl, True.intro⟩
    ·
     rintro ⟨n, x23, x24⟩ h
     cases n with
     | zero => exact none_e h
     | succ n => ?_
     replace h : parityvol_Format_l2_b legs (parityvol_Format_l2 legs n) x23 x24 = some y20 := h
     unfold parityvol_Format_l2_b at h
     show CJ _ _ _ _ _ (([(44, .int .i64 (((x24 : Nat) : Int)))] : Slots) ++ forget _ _) (Arr bs x23 :: _)
     refine sR <| oP (P_lss (a := ((x24 : Nat) : Int)) (b := ((legs.length : Nat) : Int)) rfl rfl) rfl <| nT <| CJ_seq <| CJ_condP rfl bT_dec (fun hg7 => ?_) (fun hg7 => ?_)
     ·
      replace h := ite_t hg7 h
      refine kT <| CJ_seq <| CJ_block <| sR <| oV (V_index (i := x24) rfl rfl rfl (by have hz : x24 < legs.length := (by omega); have hy := hdl2; omega) foc3 rlegs Tryz.runUnderlying62 Tryz.sizeOf79) rfl <| RJ_ent (Ent.trans (t4_ eR) (Rs_at (fun _ _ => Dup_DevP) (dx := dv0) (dh := tyDev.dflt) (i := x24) (by omega))) <| oV (V_loadE rfl rfl (by have hz : x24 < legs.length := (by omega); have hy := hdl2; omega) foc5 rlegs rfl rfl Tryz.isAgg79) rfl <| oA rfl rfl <| nT <| sR <| oM rfl rfl <| RJ_pure (fun h hh => DevP_dep h (stars_perm (del0 (A := DevP bs (legs.getD x24 dv0) (hslegs.getD x24 tyDev.dflt))).out h hh)) fun hdp26 => ?_
      obtain ⟨r27, hr28, h⟩ := bind_e h
      refine oO <| O_callI rfl (dev_Flush hr28 hdp26) rfl (Dels.cons del0 (Dels.cons del1 Dels.nil)) rfl fun _ _ => oA rfl rfl <| nT <| sR <| oM rfl rfl <| oP (P_neq (a := r27.1) (b := (0 : Int)) rfl rfl) rfl <| nT <| CJ_condP rfl bT_dec (fun hg8 => ?_) (fun hg8 => ?_)
      ·
       replace h := ite_t hg8 h
       refine sR <| oM rfl rfl <| oA rfl rfl <| nT <| CJ_ret <| QJ_block_ret <| QJ_then_ret <| QJ_round_ret <| QJ_block_ret <| QJ_then_ret ?_
       have hE := Option.some.inj h
       replace hE := seq_inr hK19 hE.symm
       subst hE
       exact fE (res1 Tryz.results25 rfl) () (t5_ (t2_ (t1_ (eD (eD (eD eR))))))
      ·
       replace h := ite_f hg8 h
       exact CJ_skip <| QJ_block_normal <| QJ_then <| CJ_region <| oP (PJ_eq (P_add (a := ((x24 : Nat) : Int)) (b := (1 : Int)) rfl rfl (by omega)) rfl) rfl <| oM rfl rfl <| RJ_nil <| nR ⟨n, r27.2, (x24 + 1)⟩ h ⟨rfl, True.intro⟩ (t1_ (t2_ (t2_ (t2_ (t1_ (eD eR))))))
     ·
      replace h := ite_f hg7 h
      exact CJ_exit <| QJ_then_exit <| QJ_round_exit <| QJ_block_here <| cR x23 (Option.some.inj h).symm True.intro eR
   ·
    rintro a22 hy29
    replace h := seq_inl hK19 hy29
    show CJ _ _ _ _ _ (([] : Slots) ++ forget _ _) (Arr bs a22 :: _)
    refine sR <| oA rfl rfl <| nT <| CJ_ret ?_
    cases h
    exact fE (res1 Tryz.results25 rfl) () (t3_ (t3_ (t0_ (eD (eD eR)))))
def parityvol_layout_place (x_0 : parityvol_layout) (at_1 : Int) : Option (Int × Int × Int) :=
  Option.bind (parity_Place x_0.chunk x_0.n at_1) fun r2 =>
  some (r2.1, r2.2.1, r2.2.2.1)
theorem L_parityvol_layout_place {W : World} {x_0 : parityvol_layout} {at_1 : Int} {r : Int × Int × Int} (h : parityvol_layout_place x_0 at_1 = some r) :
    CSpec Tryz.prog W 74 [.agg #[.int .i64 x_0.n, .int .i64 x_0.chunk, .int .i64 x_0.rows], .int .i64 at_1] [] (fun x : Unit => .tuple #[.int .i64 r.1, .int .i64 r.2.1, .int .i64 r.2.2]) (fun _ => True) (fun x F => F) := by
 refine CSpec.of_body Tryz.func74 rfl Tryz.ntmps74 rfl fun F => ?_
 show CJ _ _ _ _ _ _ (F)
 unfold parityvol_layout_place at h
 refine sR <| oO <| O_box rfl rfl rfl fun b1 => oA rfl rfl <| oA rfl rfl <| oA rfl rfl <| nT <| sR <| oP (P_fieldAddr rfl ⟨_, _, _, Tryz.runUnderlying112, rfl, rfl, Tryz.sizeOf3, rfl⟩) rfl <| oV (V_load rfl foc0 rfl Tryz.isAgg3) rfl <| oP (P_fieldAddr rfl ⟨_, _, _, Tryz.runUnderlying112, rfl, rfl, Tryz.sizeOf3, rfl⟩) rfl <| oV (V_load rfl foc0 rfl Tryz.isAgg3) rfl <| oM rfl rfl ?_
 obtain ⟨r2, hr3, h⟩ := bind_e h
 refine oO <| O_call (L_parity_Place hr3) rfl Tryz.call108 Dels.nil rfl fun _ _ => oM rfl rfl <| oP (P_extract rfl rfl) rfl <| oP (P_extract rfl rfl) rfl <| oP (P_extract rfl rfl) rfl <| oP (P_extract rfl rfl) rfl <| oA rfl rfl <| oA rfl rfl <| oA rfl rfl <| nT <| sR <| oM rfl rfl <| oM rfl rfl <| oM rfl rfl <| oA rfl rfl <| oA rfl rfl <| oA rfl rfl <| nT <| CJ_ret ?_
 cases h
 exact fE (res3 Tryz.results74 rfl rfl rfl) () (eD eR)
def parityvol_layout_parityOf (x_0 : parityvol_layout) (offset : Int) : Option (Int × Int) :=
  grd (inI64 ((x_0.n - (1 : Int)))) <|
  grd (decide (¬ x_0.chunk = 0)) <|
  grd (decide (¬ x_0.n = 0)) <|
  grd (inI64 (((x_0.n - (1 : Int)) - (((IntKind.i64.wrap (offset.tdiv x_0.chunk))).tmod x_0.n)))) <|
  lt (((x_0.n - (1 : Int)) - (((IntKind.i64.wrap (offset.tdiv x_0.chunk))).tmod x_0.n))) fun w2 =>
  grd (inI64 ((w2 + (1 : Int)))) <|
  grd (decide (¬ x_0.n = 0)) <|
  some ((w2, (((w2 + (1 : Int))).tmod x_0.n)))
theorem L_parityvol_layout_parityOf {W : World} {x_0 : parityvol_layout} {offset : Int} {r : Int × Int} (h : parityvol_layout_parityOf x_0 offset = some r) :
    CSpec Tryz.prog W 115 [.agg #[.int .i64 x_0.n, .int .i64 x_0.chunk, .int .i64 x_0.rows], .int .i64 offset] [] (fun x : Unit => .tuple #[.int .i64 r.1, .int .i64 r.2]) (fun _ => True) (fun x F => F) := by
 refine CSpec.of_body Tryz.func115 rfl Tryz.ntmps115 rfl fun F => ?_
 show CJ _ _ _ _ _ _ (F)
 unfold parityvol_layout_parityOf at h
 refine sR <| oO <| O_box rfl rfl rfl fun b1 => oA rfl rfl <| oA rfl rfl <| nT <| CJ_seq <| AJ_startH 0 (by kernel_rfl) rfl <| aN 0 1 rfl rfl (P_fieldAddr rfl ⟨_, _, _, Tryz.runUnderlying112, rfl, rfl, Tryz.sizeOf3, rfl⟩) rfl <| aV 1 3 rfl rfl (GY_none rfl) eR (V_load rfl foc0 rfl Tryz.isAgg3) rfl ?_
 obtain ⟨hg1, h⟩ := grd_Ie h
 refine aN 2 7 rfl rfl (P_sub (a := x_0.n) (b := (1 : Int)) rfl rfl hg1) rfl <| aN 3 15 rfl rfl (P_move rfl) rfl <| aN 4 31 rfl rfl (P_fieldAddr rfl ⟨_, _, _, Tryz.runUnderlying112, rfl, rfl, Tryz.sizeOf3, rfl⟩) rfl <| aV 5 63 rfl rfl (GY_none rfl) eR (V_load rfl foc0 rfl Tryz.isAgg3) rfl ?_
 obtain ⟨hg2, h⟩ := grd_de h
 refine aN 6 127 rfl rfl (P_quoT (a := offset) (b := x_0.chunk) rfl rfl hg2) rfl <| aN 7 255 rfl rfl (P_fieldAddr rfl ⟨_, _, _, Tryz.runUnderlying112, rfl, rfl, Tryz.sizeOf3, rfl⟩) rfl <| aV 8 511 rfl rfl (GY_none rfl) eR (V_load rfl foc0 rfl Tryz.isAgg3) rfl ?_
 obtain ⟨hg3, h⟩ := grd_de h
 refine aN 9 1023 rfl rfl (P_remT (a := (IntKind.i64.wrap (offset.tdiv x_0.chunk))) (b := x_0.n) rfl rfl hg3) rfl ?_
 obtain ⟨hg4, h⟩ := grd_Ie h
 refine aN 10 2047 rfl rfl (P_sub (a := (x_0.n - (1 : Int))) (b := (((IntKind.i64.wrap (offset.tdiv x_0.chunk))).tmod x_0.n)) rfl rfl hg4) rfl ?_
 obtain ⟨w2, hw2, h⟩ := lt_e h
 rw [← hw2]
 refine aN 11 4095 rfl rfl (P_assign rfl) rfl <| aD <| CJ_seq <| AJ_startH 0 (by kernel_rfl) rfl <| aN 0 1 rfl rfl (P_move rfl) rfl <| aN 1 3 rfl rfl (P_move rfl) rfl ?_
 obtain ⟨hg5, h⟩ := grd_Ie h
 refine aN 2 7 rfl rfl (P_add (a := w2) (b := (1 : Int)) rfl rfl hg5) rfl <| aN 3 15 rfl rfl (P_fieldAddr rfl ⟨_, _, _, Tryz.runUnderlying112, rfl, rfl, Tryz.sizeOf3, rfl⟩) rfl <| aV 4 31 rfl rfl (GY_none rfl) eR (V_load rfl foc0 rfl Tryz.isAgg3) rfl ?_
 obtain ⟨hg6, h⟩ := grd_de h
 refine aN 5 63 rfl rfl (P_remT (a := (w2 + (1 : Int))) (b := x_0.n) rfl rfl hg6) rfl <| aN 6 127 rfl rfl (P_assign rfl) rfl <| aN 7 255 rfl rfl (P_assign rfl) rfl <| aD <| CJ_ret ?_
 cases h
 exact fE (res2 Tryz.results115 rfl rfl) () (eD eR)
def parityvol_slot (seq : UInt64) : Option (Int) :=
  grd (inI64 (((3 : Int) * (IntKind.i64.wrap (((seq % (2 : UInt64))).toNat : Int))))) <|
  grd (inI64 (((1 : Int) + ((3 : Int) * (IntKind.i64.wrap (((seq % (2 : UInt64))).toNat : Int)))))) <|
  lt (((1 : Int) + ((3 : Int) * (IntKind.i64.wrap (((seq % (2 : UInt64))).toNat : Int))))) fun w1 =>
  some w1
theorem L_parityvol_slot {W : World} {seq : UInt64} {r : Int} (h : parityvol_slot seq = some r) :
    CSpec Tryz.prog W 85 [.int .u64 (seq.toNat : Int)] [] (fun x : Unit => .int .i64 r) (fun _ => True) (fun x F => F) := by
 refine CSpec.of_body Tryz.func85 rfl Tryz.ntmps85 rfl fun F => ?_
 show CJ _ _ _ _ _ _ (F)
 unfold parityvol_slot at h
 refine sR <| oA rfl rfl <| nT <| sR <| oM rfl rfl <| oP (P_rem_u64 (a := seq) (b := (2 : UInt64)) rfl rfl (by decide)) rfl <| oP (P_conv rfl Tryz.runUnderlying44 Tryz.runUnderlying3) rfl ?_
 obtain ⟨hg1, h⟩ := grd_Ie h
 refine oP (P_mul (a := (3 : Int)) (b := (IntKind.i64.wrap (((seq % (2 : UInt64))).toNat : Int))) rfl rfl hg1) rfl ?_
 obtain ⟨hg2, h⟩ := grd_Ie h
 refine oP (P_add (a := (1 : Int)) (b := ((3 : Int) * (IntKind.i64.wrap (((seq % (2 : UInt64))).toNat : Int)))) rfl rfl hg2) rfl ?_
 obtain ⟨w1, hw1, h⟩ := lt_e h
 rw [← hw1]
 refine oA rfl rfl <| nT <| CJ_ret ?_
 cases h
 exact fE (res1 Tryz.results85 rfl) () eR
def parityvol_Volume_Failed_l1_b (v : VolS) (rec : Nat → (List Int) → Option ((List Int))) (x12 : Nat) (x13 : List Int) : Option ((List Int)) :=
  if (((x12 : Nat) : Int) < ((v.legs.length : Nat) : Int)) then
    if (v.legs.getD x12 prt_x0).failed = true then
      grd (inLen (x13.length + 1)) <|
      rec (x12 + 1) ((x13 ++ [((x12 : Nat) : Int)]))
    else
      rec (x12 + 1) x13
  else
    some x13
def parityvol_Volume_Failed_l1 (v : VolS) : Nat → Nat → (List Int) → Option ((List Int))
  | 0, _, _ => none
  | n + 1, x12, x13 => parityvol_Volume_Failed_l1_b v (parityvol_Volume_Failed_l1 v n) x12 x13
def parityvol_Volume_Failed (v : VolS) (s : ArrS) : Option ((List Int)) :=
  Option.bind (parityvol_Volume_Failed_l1 v FUEL 0 ([])) fun a11 =>
  some a11
theorem L_parityvol_Volume_Failed {W : World} {bv : Nat} {bs : Nat} {v : VolS} {s : ArrS} {r : (List Int)} (h : parityvol_Volume_Failed v s = some r) :
    CSpec Tryz.prog W 34 [ptr bv 0] [VolP bs bv v, Arr bs s] (fun x : Sl3 => x.v) (fun _ => True) (fun x F => VolP bs bv v :: Arr bs s :: sl tyI x.v r :: F) := by
 refine CSpec.of_body Tryz.func34 rfl Tryz.ntmps34 rfl fun F => ?_
 show CJ _ _ _ _ _ _ (_ :: _ :: F)
 unfold parityvol_Volume_Failed at h
 refine sR <| oA rfl rfl <| nT <| sR <| oA rfl rfl <| nT <| CJ_seq <| CJ_seq <| CJ_entX (Ent.transX (t0_ eR) (VolP_open (l := v))) fun oc1 => CJ_pure (fun h hh => Rs_len (stars_perm (del2 (A := Rs (DevP bs) (v.legs.map prtS.dev) oc1.2)).out h hh)) fun hdl3 => lC del1 fun hlen4 => ?_
 rw [mk_prt_len (by have := hdl3; simpa using this)] at hlen4
 refine CJ_region <| oM rfl rfl <| oP (P_nilCheck rfl) rfl <| oP (P_fieldAddr rfl ⟨_, _, _, Tryz.runUnderlying123, rfl, rfl, Tryz.sizeOf119, rfl⟩) rfl <| oV (V_load rfl foc0 rfl Tryz.isAgg119) rfl <| oV (VJ_eq (V_len rfl foc1 (Reads.sl _ _ _) Tryz.runUnderlying119) (congrArg (fun z : Nat => Value.int .i64 (z : Int)) (mk_prt_len (by have := hdl3; simpa using this)).symm)) rfl <| oM rfl rfl <| nT <| CJ_ent (fun h hh => sl_nil (t := tyI) h hh) ?_
 obtain ⟨y8, hl6, hK7⟩ := bind_c h
 refine CJ_cutT (X := (List Int) × Sl3) [3, 4, 5, 11, 12, 13, 14, 15, 16, 17, 18, 19, 20, 21, 22] (fun ⟨a11, hd10⟩ => ([(3, hd10.v)] : Slots)) (fun ⟨a11, hd10⟩ R => sl tyI hd10.v a11 :: R) (fun ⟨a11, hd10⟩ => y8 = a11) (Dels.cons del0 Dels.nil) ?_ ?_
 ·
  refine CJ_block <| CJ_loopR (X := Nat × Nat × (List Int) × Sl3) [3, 4, 5, 11, 12, 13, 14, 15, 16, 17, 18, 19, 20, 21, 22] (fun ⟨n, x12, x13, hd14⟩ => ([(3, hd14.v), (11, .int .i64 (((x12 : Nat) : Int)))] : Slots)) (fun ⟨n, x12, x13, hd14⟩ R => sl tyI hd14.v x13 :: R) (fun ⟨n, x12, x13, hd14⟩ => parityvol_Volume_Failed_l1 v n x12 x13 = some y8) (fun ⟨n, x12, x13, hd14⟩ => n) ⟨FUEL, 0, [], ⟨none, 0, 0⟩⟩ ?_ ?_ eR ?_
  · exact hl6
  · exact ⟨rfl, rfl, True.intro⟩
  ·
   rintro ⟨n, x12, x13, hd14⟩ h
   cases n with
   | zero => exact none_e h
   | succ n => ?_
   replace h : parityvol_Volume_Failed_l1_b v (parityvol_Volume_Failed_l1 v n) x12 x13 = some y8 := h
   unfold parityvol_Volume_Failed_l1_b at h
   show CJ _ _ _ _ _ (([(3, hd14.v), (11, .int .i64 (((x12 : Nat) : Int)))] : Slots) ++ forget _ _) (sl tyI hd14.v x13 :: _)
   refine lC del0 fun hlen15 => sR <| oP (P_lss (a := ((x12 : Nat) : Int)) (b := ((v.legs.length : Nat) : Int)) rfl rfl) rfl <| nT <| CJ_seq <| CJ_condP rfl bT_dec (fun hg1 => ?_) (fun hg1 => ?_)
   ·
    replace h := ite_t hg1 h
    refine kT <| CJ_seq <| CJ_block <| sR <| oM rfl rfl <| oV (V_index (i := x12) rfl rfl rfl (show x12 < (mk_prt v.legs oc1.2).length by rw [mk_prt_len (by have := hdl3; simpa using this)]; exact (by omega)) foc2 (Reads.sl _ _ _) Tryz.runUnderlying119 Tryz.sizeOf126) rfl <| RJ_ent (Ent.trans (t3_ eR) (mk_prt_rs (i := x12) (by omega))) <| oV (VJ_eq (V_loadEN rfl rfl (show x12 < (mk_prt v.legs oc1.2).length by rw [mk_prt_len (by have := hdl3; simpa using this)]; exact (by omega)) foc4 (Reads.sl _ _ _) rfl rfl Tryz.isAgg126 Tryz.sizeOf126) (show Value.agg #[IfH.v (oc1.2.getD x12 tyDev.dflt), .bool ((v.legs.getD x12 prt_x0).stale), .bool ((v.legs.getD x12 prt_x0).failed)] = Value.agg #[IfH.v ((mk_prt v.legs oc1.2).getD x12 prt_h0).dev, .bool ((mk_prt v.legs oc1.2).getD x12 prt_h0).stale, .bool ((mk_prt v.legs oc1.2).getD x12 prt_h0).failed] from by rw [mk_prt_at (by have := hdl3; simpa using this)])) rfl <| oO <| O_alloc Tryz.zeroValue126 rfl rfl fun b17 => oA rfl rfl <| oO <| O_storeN rfl rfl foc0 Tryz.sizeOf126 rfl rfl rfl <| nT <| sR <| oP (P_fieldAddr rfl ⟨_, _, _, Tryz.runUnderlying126, rfl, rfl, Tryz.sizeOf4, rfl⟩) rfl <| oV (V_load rfl foc0 rfl Tryz.isAgg4) rfl <| RJ_nil <| QJ_ent (t2_ (t2_ (t2_ (t2_ (t2_ (eD (eD eR))))))) <| QJ_then <| CJ_condP rfl Iff.rfl (fun hg2 => ?_) (fun hg2 => ?_)
    ·
     replace h := ite_t hg2 h
     refine CJ_region <| oM rfl rfl <| oM rfl rfl <| oO <| O_buildSlice rfl (bs_35_1_0 _) rfl fun b18 => ?_
     obtain ⟨hg3, h⟩ := grd_Le h
     exact oO <| O_append (t := tyI) (bytes := 8) rfl rfl del2 foc0 (Reads.lit (t := tyI) (ys := [((x12 : Nat) : Int)]) rfl rfl (by decide) (by decide) rfl) Tryz.underlying35 ok_tyI (apl (m := 1) (b := 8) hg3 (by decide)).1 (apl (m := 1) (b := 8) hg3 (by decide)).2 rfl fun p20 c21 => oA rfl rfl <| RJ_nil <| QJ_block_normal <| QJ_then <| CJ_region <| oP (PJ_eq (P_add (a := ((x12 : Nat) : Int)) (b := (1 : Int)) rfl rfl (by omega)) rfl) rfl <| oM rfl rfl <| RJ_nil <| nR ⟨n, (x12 + 1), (x13 ++ [((x12 : Nat) : Int)]), ⟨p20, (x13 ++ [((x12 : Nat) : Int)]).length, c21⟩⟩ h ⟨rfl, rfl, True.intro⟩ (t0_ (t2_ (t2_ (t1_ (t1_ (eD eR))))))
    ·
     replace h := ite_f hg2 h
     exact CJ_skip <| QJ_block_normal <| QJ_then <| CJ_region <| oP (PJ_eq (P_add (a := ((x12 : Nat) : Int)) (b := (1 : Int)) rfl rfl (by omega)) rfl) rfl <| oM rfl rfl <| RJ_nil <| nR ⟨n, (x12 + 1), x13, hd14⟩ h ⟨rfl, rfl, True.intro⟩ (t1_ (t1_ (t1_ eR)))
   ·
    replace h := ite_f hg1 h
    exact CJ_exit <| QJ_then_exit <| QJ_round_exit <| QJ_block_here <| cR ⟨x13, hd14⟩ (Option.some.inj h).symm ⟨rfl, True.intro⟩ eR
 ·
  rintro ⟨a11, hd10⟩ hy22
  replace h := bindK_at hK7 hy22
  show CJ _ _ _ _ _ (([(3, hd10.v)] : Slots) ++ forget _ _) (sl tyI hd10.v a11 :: _)
  refine lC del0 fun hlen23 => sR <| oM rfl rfl <| oA rfl rfl <| nT <| CJ_ret <| QJ_ent (Ent.trans (t1_ (t1_ (t1_ eR))) (VolP_mk (v0 := v.layout_n) (v1 := v.layout_chunk) (v2 := v.layout_rows) (v3 := v.legs) (v4 := v.last_seq) (v5 := v.last_offset) (v6 := v.last_leg) (v7 := v.last_word) (v8 := v.last_parity) (v9 := v.pending) (v10 := v.filled) (h0 := oc1.1) (h1 := oc1.2))) ?_
  cases h
  exact fE (res1 Tryz.results34 rfl) hd10 (t0_ (t1_ eR))
def parityvol_Volume_staleLeg_1 (p_Device : Dvc) (p_stale : Bool) (p_failed : Bool) (s : ArrS) : Option (Bool) :=
  some p_stale
theorem L_parityvol_Volume_staleLeg_1 {W : World} {vp_Device : IfH} {bs : Nat} {p_Device : Dvc} {p_stale : Bool} {p_failed : Bool} {s : ArrS} {r : Bool} (h : parityvol_Volume_staleLeg_1 p_Device p_stale p_failed s = some r) :
    CSpec Tryz.prog W 111 [.agg #[IfH.v vp_Device, .bool p_stale, .bool p_failed]] [DevP bs p_Device vp_Device, Arr bs s] (fun x : Unit => .bool r) (fun _ => True) (fun x F => DevP bs p_Device vp_Device :: Arr bs s :: F) := by
 refine CSpec.of_body Tryz.func111 rfl Tryz.ntmps111 rfl fun F => ?_
 show CJ _ _ _ _ _ _ (_ :: _ :: F)
 unfold parityvol_Volume_staleLeg_1 at h
 refine sR <| oO <| O_box rfl rfl rfl fun b1 => oA rfl rfl <| nT <| sR <| oP (P_fieldAddr rfl ⟨_, _, _, Tryz.runUnderlying126, rfl, rfl, Tryz.sizeOf4, rfl⟩) rfl <| oV (V_load rfl foc0 rfl Tryz.isAgg4) rfl <| oA rfl rfl <| nT <| CJ_ret ?_
 cases h
 exact fE (res1 Tryz.results111 rfl) () (t1_ (t1_ (eD eR)))
def slices_IndexFunc_part__parityvol_Volume_staleLeg_1_l1_b (p0 : List prtS) (s : ArrS) (rec : Nat → Option ((Unit) ⊕ Int)) (x7 : Nat) : Option ((Unit) ⊕ Int) :=
  if (((x7 : Nat) : Int) < ((p0.length : Nat) : Int)) then
    Option.bind (parityvol_Volume_staleLeg_1 ((p0.getD x7 prt_x0).dev) ((p0.getD x7 prt_x0).stale) ((p0.getD x7 prt_x0).failed) s) fun r9 =>
    if r9 = true then
      some (.inr (((x7 : Nat) : Int)))
    else
      grd (inN64 (x7 + 1)) <|
      rec (x7 + 1)
  else
    some (.inl ())
def slices_IndexFunc_part__parityvol_Volume_staleLeg_1_l1 (p0 : List prtS) (s : ArrS) : Nat → Nat → Option ((Unit) ⊕ Int)
  | 0, _ => none
  | n + 1, x7 => slices_IndexFunc_part__parityvol_Volume_staleLeg_1_l1_b p0 s (slices_IndexFunc_part__parityvol_Volume_staleLeg_1_l1 p0 s n) x7
def slices_IndexFunc_part__parityvol_Volume_staleLeg_1 (p0 : List prtS) (s : ArrS) : Option (Int) :=
  seqO (slices_IndexFunc_part__parityvol_Volume_staleLeg_1_l1 p0 s FUEL 0) fun a6 =>
  some (-1 : Int)
theorem L_slices_IndexFunc_part__parityvol_Volume_staleLeg_1 {W : World} {Ap0 : HP} {vp0 : Value} {hsp0 : List IfH} {bs : Nat} {p0 : List prtS} {s : ArrS} {r : Int} (rp0 : Reads Ap0 typrtH vp0 (mk_prt p0 hsp0)) (h : slices_IndexFunc_part__parityvol_Volume_staleLeg_1 p0 s = some r) :
    CSpec Tryz.prog W 110 [vp0, .func (.func 111) #[] #[]] [Ap0, Rs (DevP bs) (p0.map prtS.dev) hsp0, Arr bs s] (fun x : Unit => .int .i64 r) (fun _ => True) (fun x F => Ap0 :: Rs (DevP bs) (p0.map prtS.dev) hsp0 :: Arr bs s :: F) := by
 refine CSpec.of_body Tryz.func110 rfl Tryz.ntmps110 rfl fun F => ?_
 show CJ _ _ _ _ _ _ (_ :: _ :: _ :: F)
 unfold slices_IndexFunc_part__parityvol_Volume_staleLeg_1 at h
 refine CJ_pure (len_of rp0 del0) fun hlen1 => CJ_pure (fun h hh => Rs_len (stars_perm (del1 (A := Rs (DevP bs) (p0.map prtS.dev) hsp0)).out h hh)) fun hdl2 => sR <| oA rfl rfl <| nT <| CJ_seq <| sR <| oM rfl rfl <| oV (VJ_eq (V_len rfl foc0 rp0 Tryz.runUnderlying119) (congrArg (fun z : Nat => Value.int .i64 (z : Int)) (mk_prt_len (by have := hdl2; simpa using this)).symm)) rfl <| oM rfl rfl <| nT ?_
 obtain ⟨y5, hl3, hK4⟩ := seq_e h
 refine CJ_cutT (X := Unit) [4, 5, 8, 9, 10, 11, 12, 13, 14, 15, 16, 17, 18] (fun _ => ([] : Slots)) (fun _ R => R) (fun _ => y5 = .inl ()) Dels.nil ?_ ?_
 ·
  refine CJ_block <| CJ_loopR (X := Nat × Nat) [4, 5, 8, 9, 10, 11, 12, 13, 14, 15, 16, 17, 18] (fun ⟨n, x7⟩ => ([(8, .int .i64 (((x7 : Nat) : Int)))] : Slots)) (fun ⟨n, x7⟩ R => R) (fun ⟨n, x7⟩ => slices_IndexFunc_part__parityvol_Volume_staleLeg_1_l1 p0 s n x7 = some y5) (fun ⟨n, x7⟩ => n) ⟨FUEL, 0⟩ ?_ ?_ eR ?_
  · exact hl3
  · exact ⟨rfl, True.intro⟩
  ·
   rintro ⟨n, x7⟩ h
   cases n with
   | zero => exact none_e h
   | succ n => ?_
   replace h : slices_IndexFunc_part__parityvol_Volume_staleLeg_1_l1_b p0 s (slices_IndexFunc_part__parityvol_Volume_staleLeg_1_l1 p0 s n) x7 = some y5 := h
   unfold slices_IndexFunc_part__parityvol_Volume_staleLeg_1_l1_b at h
   show CJ _ _ _ _ _ (([(8, .int .i64 (((x7 : Nat) : Int)))] : Slots) ++ forget _ _) (_)
   refine sR <| oP (P_lss (a := ((x7 : Nat) : Int)) (b := ((p0.length : Nat) : Int)) rfl rfl) rfl <| nT <| CJ_seq <| CJ_condP rfl bT_dec (fun hg1 => ?_) (fun hg1 => ?_)
   ·
    replace h := ite_t hg1 h
    refine kT <| CJ_seq <| CJ_block <| sR <| oM rfl rfl <| oA rfl rfl <| nT <| sR <| oM rfl rfl <| oM rfl rfl <| oM rfl rfl <| oV (V_index (i := x7) rfl rfl rfl (show x7 < (mk_prt p0 hsp0).length by rw [mk_prt_len (by have := hdl2; simpa using this)]; exact (by omega)) foc0 rp0 Tryz.runUnderlying119 Tryz.sizeOf126) rfl <| RJ_ent (Ent.trans (t1_ eR) (mk_prt_rs (i := x7) (by omega))) <| oV (VJ_eq (V_loadEN rfl rfl (show x7 < (mk_prt p0 hsp0).length by rw [mk_prt_len (by have := hdl2; simpa using this)]; exact (by omega)) foc2 rp0 rfl rfl Tryz.isAgg126 Tryz.sizeOf126) (show Value.agg #[IfH.v (hsp0.getD x7 tyDev.dflt), .bool ((p0.getD x7 prt_x0).stale), .bool ((p0.getD x7 prt_x0).failed)] = Value.agg #[IfH.v ((mk_prt p0 hsp0).getD x7 prt_h0).dev, .bool ((mk_prt p0 hsp0).getD x7 prt_h0).stale, .bool ((mk_prt p0 hsp0).getD x7 prt_h0).failed] from by rw [mk_prt_at (by have := hdl2; simpa using this)])) rfl ?_
    obtain ⟨r9, hr10, h⟩ := bind_e h
    refine oO <| O_callV rfl rfl (L_parityvol_Volume_staleLeg_1 hr10) Tryz.call111 (Dels.cons del0 (Dels.cons del2 Dels.nil)) rfl fun _ _ => nT <| CJ_condP rfl Iff.rfl (fun hg2 => ?_) (fun hg2 => ?_)
    ·
     replace h := ite_t hg2 h
     refine sR <| oM rfl rfl <| oA rfl rfl <| nT <| CJ_ret <| QJ_block_ret <| QJ_then_ret <| QJ_round_ret <| QJ_block_ret <| QJ_then_ret ?_
     have hE := Option.some.inj h
     replace hE := seq_inr hK4 hE.symm
     subst hE
     exact fE (res1 Tryz.results110 rfl) () (t3_ (t2_ (t1_ (eD eR))))
    ·
     replace h := ite_f hg2 h
     refine CJ_skip <| QJ_block_normal <| QJ_then <| CJ_region ?_
     obtain ⟨hg3, h⟩ := grd_Ne h
     exact oP (PJ_eq (P_add (a := ((x7 : Nat) : Int)) (b := (1 : Int)) rfl rfl (nat_in hg3)) rfl) rfl <| oM rfl rfl <| RJ_nil <| nR ⟨n, (x7 + 1)⟩ h ⟨rfl, True.intro⟩ (t3_ (t2_ (t1_ (eD eR))))
   ·
    replace h := ite_f hg1 h
    exact CJ_exit <| QJ_then_exit <| QJ_round_exit <| QJ_block_here <| cR () (Option.some.inj h).symm True.intro eR
 ·
  rintro _ hy11
  replace h := seq_inl hK4 hy11
  show CJ _ _ _ _ _ (([] : Slots) ++ forget _ _) (_)
  refine sR <| oA rfl rfl <| nT <| CJ_ret ?_
  cases h
  exact fE (res1 Tryz.results110 rfl) () eR
def parityvol_Volume_staleLeg (v : VolS) (s : ArrS) : Option (Int) :=
  Option.bind (slices_IndexFunc_part__parityvol_Volume_staleLeg_1 v.legs s) fun r5 =>
  some r5
theorem L_parityvol_Volume_staleLeg {W : World} {bv : Nat} {bs : Nat} {v : VolS} {s : ArrS} {r : Int} (h : parityvol_Volume_staleLeg v s = some r) :
    CSpec Tryz.prog W 76 [ptr bv 0] [VolP bs bv v, Arr bs s] (fun x : Unit => .int .i64 r) (fun _ => True) (fun x F => VolP bs bv v :: Arr bs s :: F) := by
 refine CSpec.of_body Tryz.func76 rfl Tryz.ntmps76 rfl fun F => ?_
 show CJ _ _ _ _ _ _ (_ :: _ :: F)
 unfold parityvol_Volume_staleLeg at h
 refine sR <| oA rfl rfl <| nT <| CJ_seq <| CJ_entX (Ent.transX (t0_ eR) (VolP_open (l := v))) fun oc1 => CJ_pure (fun h hh => Rs_len (stars_perm (del2 (A := Rs (DevP bs) (v.legs.map prtS.dev) oc1.2)).out h hh)) fun hdl3 => lC del1 fun hlen4 => ?_
 rw [mk_prt_len (by have := hdl3; simpa using this)] at hlen4
 refine CJ_region <| oM rfl rfl <| oP (P_nilCheck rfl) rfl <| oP (P_fieldAddr rfl ⟨_, _, _, Tryz.runUnderlying123, rfl, rfl, Tryz.sizeOf119, rfl⟩) rfl <| oV (V_load rfl foc0 rfl Tryz.isAgg119) rfl ?_
 obtain ⟨r5, hr6, h⟩ := bind_e h
 refine oO <| O_call (L_slices_IndexFunc_part__parityvol_Volume_staleLeg_1 (Reads.sl _ _ _) hr6) rfl Tryz.call110 (Dels.cons del1 (Dels.cons del1 (Dels.cons del1 Dels.nil))) rfl fun _ _ => oA rfl rfl <| RJ_nil <| QJ_ent (Ent.trans (t3_ eR) (VolP_mk (v0 := v.layout_n) (v1 := v.layout_chunk) (v2 := v.layout_rows) (v3 := v.legs) (v4 := v.last_seq) (v5 := v.last_offset) (v6 := v.last_leg) (v7 := v.last_word) (v8 := v.last_parity) (v9 := v.pending) (v10 := v.filled) (h0 := oc1.1) (h1 := oc1.2))) <| QJ_then <| CJ_ret ?_
 cases h
 exact fE (res1 Tryz.results76 rfl) () eR
def parityvol_Volume_Stale (v : VolS) (s : ArrS) : Option ((List Int)) :=
  Option.bind (parityvol_Volume_staleLeg v s) fun r1 =>
  if ((0 : Int) ≤ r1) then
    some ([r1])
  else
    some ([])
theorem L_parityvol_Volume_Stale {W : World} {bv : Nat} {bs : Nat} {v : VolS} {s : ArrS} {r : (List Int)} (h : parityvol_Volume_Stale v s = some r) :
    CSpec Tryz.prog W 39 [ptr bv 0] [VolP bs bv v, Arr bs s] (fun x : Sl3 => x.v) (fun _ => True) (fun x F => VolP bs bv v :: Arr bs s :: sl tyI x.v r :: F) := by
 refine CSpec.of_body Tryz.func39 rfl Tryz.ntmps39 rfl fun F => ?_
 show CJ _ _ _ _ _ _ (_ :: _ :: F)
 unfold parityvol_Volume_Stale at h
 refine sR <| oA rfl rfl <| nT <| CJ_seq <| sR <| oM rfl rfl ?_
 obtain ⟨r1, hr2, h⟩ := bind_e h
 refine oO <| O_call (L_parityvol_Volume_staleLeg hr2) rfl Tryz.call76 (Dels.cons del0 (Dels.cons del0 Dels.nil)) rfl fun _ _ => oA rfl rfl <| nT <| sR <| oM rfl rfl <| oP (P_geq (a := r1) (b := (0 : Int)) rfl rfl) rfl <| nT <| CJ_condP rfl bT_dec (fun hg1 => ?_) (fun hg1 => ?_)
 ·
  replace h := ite_t hg1 h
  refine sR <| oM rfl rfl <| oO <| O_buildSlice rfl (bs_35_1_0 _) rfl fun b3 => RJ_ent (Ent.trans (t0_ eR) (sl_of_lit (t := tyI) (m := 1) [r1] rfl rfl rfl (by decide))) <| oA rfl rfl <| nT <| CJ_ret <| QJ_then_ret ?_
  cases h
  exact fE (res1 Tryz.results39 rfl) ⟨some ⟨b3, 0, none⟩, 1, 1⟩ (t1_ (t1_ eR))
 ·
  replace h := ite_f hg1 h
  refine kT <| sR <| oA rfl rfl <| nT <| CJ_ret <| QJ_ent (fun h hh => sl_nil (t := tyI) h hh) ?_
  cases h
  exact fE (res1 Tryz.results39 rfl) ⟨none, 0, 0⟩ (t1_ (t1_ eR))
def parityvol_Volume_Size (v : VolS) (s : ArrS) : Option (Int) :=
  grd (inI64 ((v.layout_n - (1 : Int)))) <|
  grd (inI64 (((v.layout_n - (1 : Int)) * v.layout_rows))) <|
  grd (inI64 ((((v.layout_n - (1 : Int)) * v.layout_rows) * v.layout_chunk))) <|
  some ((((v.layout_n - (1 : Int)) * v.layout_rows) * v.layout_chunk))
theorem L_parityvol_Volume_Size {W : World} {bv : Nat} {bs : Nat} {v : VolS} {s : ArrS} {r : Int} (h : parityvol_Volume_Size v s = some r) :
    CSpec Tryz.prog W 31 [ptr bv 0] [VolP bs bv v, Arr bs s] (fun x : Unit => .int .i64 r) (fun _ => True) (fun x F => VolP bs bv v :: Arr bs s :: F) := by
 refine CSpec.of_body Tryz.func31 rfl Tryz.ntmps31 rfl fun F => ?_
 show CJ _ _ _ _ _ _ (_ :: _ :: F)
 unfold parityvol_Volume_Size at h
 refine sR <| oA rfl rfl <| nT <| CJ_seq <| AJ_startH 0 (by kernel_rfl) rfl <| aN 0 1 rfl rfl (P_move rfl) rfl <| aN 1 3 rfl rfl (P_nilCheck rfl) rfl <| aN 2 7 rfl rfl (P_fieldAddr rfl ⟨_, _, _, Tryz.runUnderlying123, rfl, rfl, Tryz.sizeOf112, rfl⟩) rfl <| aN 3 15 rfl rfl (P_fieldAddr rfl ⟨_, _, _, Tryz.runUnderlying112, rfl, rfl, Tryz.sizeOf3, rfl⟩) rfl <| aV 4 31 rfl rfl (GY_none rfl) eR (VJ_entX (Ent.transX (t0_ eR) (VolP_open (l := v))) (fun _ => V_load rfl foc0 rfl Tryz.isAgg3)) rfl ?_
 obtain ⟨hg1, h⟩ := grd_Ie h
 refine aN 5 63 rfl rfl (P_sub (a := v.layout_n) (b := (1 : Int)) rfl rfl hg1) rfl <| aN 6 127 rfl rfl (P_move rfl) rfl <| aN 7 255 rfl rfl (P_nilCheck rfl) rfl <| aN 8 511 rfl rfl (P_fieldAddr rfl ⟨_, _, _, Tryz.runUnderlying123, rfl, rfl, Tryz.sizeOf112, rfl⟩) rfl <| aN 9 1023 rfl rfl (P_fieldAddr rfl ⟨_, _, _, Tryz.runUnderlying112, rfl, rfl, Tryz.sizeOf3, rfl⟩) rfl <| aV 10 2047 rfl rfl (GY_none rfl) eR (VJ_entX (Ent.transX (t0_ eR) (VolP_open (l := v))) (fun _ => V_load rfl foc0 rfl Tryz.isAgg3)) rfl ?_
 obtain ⟨hg2, h⟩ := grd_Ie h
 refine aN 11 4095 rfl rfl (P_mul (a := (v.layout_n - (1 : Int))) (b := v.layout_rows) rfl rfl hg2) rfl <| aN 12 8191 rfl rfl (P_move rfl) rfl <| aN 13 16383 rfl rfl (P_nilCheck rfl) rfl <| aN 14 32767 rfl rfl (P_fieldAddr rfl ⟨_, _, _, Tryz.runUnderlying123, rfl, rfl, Tryz.sizeOf112, rfl⟩) rfl <| aN 15 65535 rfl rfl (P_fieldAddr rfl ⟨_, _, _, Tryz.runUnderlying112, rfl, rfl, Tryz.sizeOf3, rfl⟩) rfl <| aV 16 131071 rfl rfl (GY_none rfl) eR (VJ_entX (Ent.transX (t0_ eR) (VolP_open (l := v))) (fun _ => V_load rfl foc0 rfl Tryz.isAgg3)) rfl ?_
 obtain ⟨hg3, h⟩ := grd_Ie h
 refine aN 17 262143 rfl rfl (P_mul (a := ((v.layout_n - (1 : Int)) * v.layout_rows)) (b := v.layout_chunk) rfl rfl hg3) rfl <| aN 18 524287 rfl rfl (P_assign rfl) rfl <| aD <| CJ_ret ?_
 cases h
 exact fE (res1 Tryz.results31 rfl) () eR
def parityvol_Volume_Drop (v : VolS) (leg : Int) (s : ArrS) : Option (Int × VolS) :=
  if ((leg < (0 : Int)) ∨ (v.layout_n ≤ leg)) then
    some (((1 : Int), v))
  else
    Option.bind (parityvol_Volume_staleLeg v s) fun r15 =>
    if (((0 : Int) ≤ r15) ∧ (r15 ≠ leg)) then
      some (((19 : Int), v))
    else
      grd (decide (0 ≤ leg ∧ leg < (v.legs.length : Int))) <|
      grd (decide (0 ≤ leg ∧ leg < (((v.legs.set ((leg).toNat) { v.legs.getD ((leg).toNat) prt_x0 with stale := true })).length : Int))) <|
      some (((0 : Int), { v with legs := (((v.legs.set ((leg).toNat) { v.legs.getD ((leg).toNat) prt_x0 with stale := true })).set ((leg).toNat) { ((v.legs.set ((leg).toNat) { v.legs.getD ((leg).toNat) prt_x0 with stale := true })).getD ((leg).toNat) prt_x0 with failed := false }), filled := (0 : Int) }))
theorem L_parityvol_Volume_Drop {W : World} {bv : Nat} {bs : Nat} {v : VolS} {leg : Int} {s : ArrS} {r : Int × VolS} (h : parityvol_Volume_Drop v leg s = some r) :
    CSpec Tryz.prog W 33 [ptr bv 0, .int .i64 leg] [VolP bs bv v, Arr bs s] (fun x : Unit => .int .i64 r.1) (fun _ => True) (fun x F => VolP bs bv r.2 :: Arr bs s :: F) := by
 refine CSpec.of_body Tryz.func33 rfl Tryz.ntmps33 rfl fun F => ?_
 show CJ _ _ _ _ _ _ (_ :: _ :: F)
 unfold parityvol_Volume_Drop at h
 refine sR <| oA rfl rfl <| nT <| CJ_seq <| sR <| oM rfl rfl <| oP (P_lss (a := leg) (b := (0 : Int)) rfl rfl) rfl <| oM rfl rfl <| RJ_mbF rfl rfl rfl (fun hG1 => have hP2 : ¬ (leg < (0 : Int)) := nP (bT_dec) hG1; VJ_P (P_move rfl)) <| RJ_mbF rfl rfl rfl (fun hG3 => have hP4 : ¬ (leg < (0 : Int)) := nP (bT_dec) hG3; VJ_P (P_move rfl)) <| RJ_mbF rfl rfl rfl (fun hG5 => have hP6 : ¬ (leg < (0 : Int)) := nP (bT_dec) hG5; VJ_P (P_nilCheck (mbx hG5 rfl))) <| RJ_mbF rfl rfl rfl (fun hG7 => have hP8 : ¬ (leg < (0 : Int)) := nP (bT_dec) hG7; VJ_P (P_fieldAddr (mbx hG7 rfl) ⟨_, _, _, Tryz.runUnderlying123, rfl, rfl, Tryz.sizeOf112, rfl⟩)) <| RJ_mbF rfl rfl rfl (fun hG9 => have hP10 : ¬ (leg < (0 : Int)) := nP (bT_dec) hG9; VJ_P (P_fieldAddr (mbx hG9 rfl) ⟨_, _, _, Tryz.runUnderlying112, rfl, rfl, Tryz.sizeOf3, rfl⟩)) <| RJ_mbF rfl rfl rfl (fun hG11 => have hP12 : ¬ (leg < (0 : Int)) := nP (bT_dec) hG11; VJ_entX (Ent.transX (t0_ eR) (VolP_open (l := v))) (fun _ => V_load (mbx hG11 rfl) foc0 rfl Tryz.isAgg3)) <| RJ_mbF rfl rfl rfl (fun hG13 => have hP14 : ¬ (leg < (0 : Int)) := nP (bT_dec) hG13; VJ_P (P_geq (a := leg) (b := v.layout_n) (mbx hG13 rfl) (mbx hG13 rfl))) <| oP (P_pickOr rfl rfl (fun hh => mbx (not_f hh) rfl)) rfl <| nT <| CJ_condP rfl (bT_or bT_dec bT_dec) (fun hg1 => ?_) (fun hg1 => ?_)
 ·
  replace h := ite_t hg1 h
  refine sR <| oA rfl rfl <| nT <| CJ_ret <| QJ_then_ret ?_
  cases h
  exact fE (res1 Tryz.results33 rfl) () eR
 ·
  replace h := ite_f hg1 h
  refine kT <| CJ_seq <| sR <| oM rfl rfl ?_
  obtain ⟨r15, hr16, h⟩ := bind_e h
  refine oO <| O_call (L_parityvol_Volume_staleLeg hr16) rfl Tryz.call76 (Dels.cons del0 (Dels.cons del0 Dels.nil)) rfl fun _ _ => oA rfl rfl <| nT <| sR <| oM rfl rfl <| oP (P_geq (a := r15) (b := (0 : Int)) rfl rfl) rfl <| oM rfl rfl <| RJ_mbT rfl rfl rfl (fun hG17 => have hP18 : ((0 : Int) ≤ r15) := (bT_dec).1 hG17; VJ_P (P_move rfl)) <| RJ_mbT rfl rfl rfl (fun hG19 => have hP20 : ((0 : Int) ≤ r15) := (bT_dec).1 hG19; VJ_P (P_move rfl)) <| RJ_mbT rfl rfl rfl (fun hG21 => have hP22 : ((0 : Int) ≤ r15) := (bT_dec).1 hG21; VJ_P (P_neq (a := r15) (b := leg) (mbx hG21 rfl) (mbx hG21 rfl))) <| oP (P_pickAnd rfl (fun hh => mbx hh rfl) rfl) rfl <| nT <| CJ_condP rfl (bT_and bT_dec bT_dec) (fun hg2 => ?_) (fun hg2 => ?_)
  ·
   replace h := ite_t hg2 h
   refine sR <| oA rfl rfl <| nT <| CJ_ret <| QJ_then_ret ?_
   cases h
   exact fE (res1 Tryz.results33 rfl) () eR
  ·
   replace h := ite_f hg2 h
   refine kT <| CJ_seq <| CJ_entX (Ent.transX (t0_ eR) (VolP_open (l := v))) fun oc23 => CJ_pure (fun h hh => Rs_len (stars_perm (del2 (A := Rs (DevP bs) (v.legs.map prtS.dev) oc23.2)).out h hh)) fun hdl25 => lC del1 fun hlen26 => ?_
   rw [mk_prt_len (by have := hdl25; simpa using this)] at hlen26
   refine AJ_start [blk bv 123 [.int .i64 v.layout_n, .int .i64 v.layout_chunk, .int .i64 v.layout_rows, (Sl3.v oc23.1), .int .u64 (v.last_seq.toNat : Int), .int .i64 v.last_offset, .int .i64 v.last_leg, .int .u64 (v.last_word.toNat : Int), .int .u64 (v.last_parity.toNat : Int), .bool v.pending, .int .i64 v.filled], Arr bs s] 589824 (by kernel_rfl) rfl <| aN 0 1 rfl rfl (P_move rfl) rfl <| aN 1 3 rfl rfl (P_nilCheck rfl) rfl <| aN 2 7 rfl rfl (P_fieldAddr rfl ⟨_, _, _, Tryz.runUnderlying123, rfl, rfl, Tryz.sizeOf119, rfl⟩) rfl <| aV 3 15 rfl rfl (GY_none rfl) (t0_ (t2_ Ent.done)) (V_load rfl foc0 rfl Tryz.isAgg119) rfl <| aN 4 31 rfl rfl (P_move rfl) rfl <| aN 5 63 rfl rfl (P_move rfl) rfl <| aN 6 127 rfl rfl (P_nilCheck rfl) rfl <| aN 7 255 rfl rfl (P_fieldAddr rfl ⟨_, _, _, Tryz.runUnderlying123, rfl, rfl, Tryz.sizeOf119, rfl⟩) rfl <| aV 8 511 rfl rfl (GY_none rfl) (t0_ (t2_ Ent.done)) (V_load rfl foc0 rfl Tryz.isAgg119) rfl <| aN 9 1023 rfl rfl (P_move rfl) rfl <| aN 10 2047 rfl rfl (P_move rfl) rfl ?_
   obtain ⟨hg3, h⟩ := grd_de h
   refine AJ_op 11 4095 rfl (by kernel_rfl) rfl (GY_none rfl) <| OJ_V (V_index (i := (leg).toNat) rfl rfl (Int.toNat_of_nonneg (hg3.1)).symm (show (leg).toNat < (mk_prt v.legs oc23.2).length by rw [mk_prt_len (by have := hdl25; simpa using this)]; exact (by omega)) foc1 (Reads.sl _ _ _) Tryz.runUnderlying119 Tryz.sizeOf126) rfl <| ⟨fun _ => (t0_ (t2_ Ent.done)), ?_⟩
   refine aN 12 8191 rfl rfl (P_fieldE rfl ⟨_, _, _, Tryz.runUnderlying126, rfl, rfl, Tryz.sizeOf4, rfl⟩) rfl <| AJ_op 13 16383 rfl (by kernel_rfl) rfl (GY_none rfl) <| O_storeE (x' := { (mk_prt v.legs oc23.2).getD ((leg).toNat) prt_h0 with stale := true }) rfl rfl rfl (show (leg).toNat < (mk_prt v.legs oc23.2).length by rw [mk_prt_len (by have := hdl25; simpa using this)]; exact (by omega)) foc1 rfl rfl rfl Tryz.sizeOf4 <| ⟨fun _ => (t0_ (t2_ Ent.done)), ?_⟩
   refine AJ_ent (Ent.takeC (A' := sl typrtH (Sl3.v oc23.1) (mk_prt (v.legs.set ((leg).toNat) { v.legs.getD ((leg).toNat) prt_x0 with stale := true }) oc23.2)) del1 (congrArg (sl typrtH (Sl3.v oc23.1)) (mk_prt_set_stale (by have := hdl25; simpa using this) (by omega) true)) (Ent.takeC (A' := Rs (DevP bs) (((v.legs.set ((leg).toNat) { v.legs.getD ((leg).toNat) prt_x0 with stale := true })).map prtS.dev) oc23.2) del1 (congrArg (fun z => Rs (DevP bs) z oc23.2) (mk_prt_dev_stale (l := v.legs) (i := ((leg).toNat)) true).symm) eR)) <| AJ_pure (fun h hh => Rs_len (stars_perm (del1 (A := Rs (DevP bs) ((((v.legs.set ((leg).toNat) { v.legs.getD ((leg).toNat) prt_x0 with stale := true })).map prtS.dev)) oc23.2)).out h hh)) fun hdl27 => ?_
   obtain ⟨hg4, h⟩ := grd_de h
   refine AJ_op 14 32767 rfl (by kernel_rfl) rfl (GY_none rfl) <| OJ_V (V_index (i := (leg).toNat) rfl rfl (Int.toNat_of_nonneg (hg4.1)).symm (show (leg).toNat < (mk_prt ((v.legs.set ((leg).toNat) { v.legs.getD ((leg).toNat) prt_x0 with stale := true })) oc23.2).length by rw [mk_prt_len (by have := hdl27; simpa using this)]; exact (by omega)) foc0 (Reads.sl _ _ _) Tryz.runUnderlying119 Tryz.sizeOf126) rfl <| ⟨fun _ => (t2_ (t2_ Ent.done)), ?_⟩
   refine aN 15 65535 rfl rfl (P_fieldE rfl ⟨_, _, _, Tryz.runUnderlying126, rfl, rfl, Tryz.sizeOf4, rfl⟩) rfl <| AJ_op 16 131071 rfl (by kernel_rfl) rfl (GY_none rfl) <| O_storeE (x' := { (mk_prt ((v.legs.set ((leg).toNat) { v.legs.getD ((leg).toNat) prt_x0 with stale := true })) oc23.2).getD ((leg).toNat) prt_h0 with failed := false }) rfl rfl rfl (show (leg).toNat < (mk_prt ((v.legs.set ((leg).toNat) { v.legs.getD ((leg).toNat) prt_x0 with stale := true })) oc23.2).length by rw [mk_prt_len (by have := hdl27; simpa using this)]; exact (by omega)) foc0 rfl rfl rfl Tryz.sizeOf4 <| ⟨fun h => absurd h (by decide), ?_⟩
   refine AJ_ent (Ent.takeC (A' := sl typrtH (Sl3.v oc23.1) (mk_prt (((v.legs.set ((leg).toNat) { v.legs.getD ((leg).toNat) prt_x0 with stale := true })).set ((leg).toNat) { ((v.legs.set ((leg).toNat) { v.legs.getD ((leg).toNat) prt_x0 with stale := true })).getD ((leg).toNat) prt_x0 with failed := false }) oc23.2)) del0 (congrArg (sl typrtH (Sl3.v oc23.1)) (mk_prt_set_failed (by have := hdl27; simpa using this) (by omega) false)) (Ent.takeC (A' := Rs (DevP bs) (((((v.legs.set ((leg).toNat) { v.legs.getD ((leg).toNat) prt_x0 with stale := true })).set ((leg).toNat) { ((v.legs.set ((leg).toNat) { v.legs.getD ((leg).toNat) prt_x0 with stale := true })).getD ((leg).toNat) prt_x0 with failed := false })).map prtS.dev) oc23.2) del0 (congrArg (fun z => Rs (DevP bs) z oc23.2) (mk_prt_dev_failed (l := ((v.legs.set ((leg).toNat) { v.legs.getD ((leg).toNat) prt_x0 with stale := true }))) (i := ((leg).toNat)) false).symm) eR)) <| AJ_pure (fun h hh => Rs_len (stars_perm (del1 (A := Rs (DevP bs) ((((((v.legs.set ((leg).toNat) { v.legs.getD ((leg).toNat) prt_x0 with stale := true })).set ((leg).toNat) { ((v.legs.set ((leg).toNat) { v.legs.getD ((leg).toNat) prt_x0 with stale := true })).getD ((leg).toNat) prt_x0 with failed := false })).map prtS.dev)) oc23.2)).out h hh)) fun hdl28 => aN 17 262143 rfl rfl (P_nilCheck rfl) rfl <| aN 18 524287 rfl rfl (P_fieldAddr rfl ⟨_, _, _, Tryz.runUnderlying123, rfl, rfl, Tryz.sizeOf3, rfl⟩) rfl ?_
   refine AJ_op 19 1048575 rfl (by kernel_rfl) rfl (GY_none rfl) <| O_store rfl rfl foc2 rfl rfl Tryz.sizeOf3 <| ⟨fun h => absurd h (by decide), ?_⟩
   refine AJ_done (by kernel_rfl) <| QJ_ent (Ent.trans (t2_ eR) (VolP_mk (v0 := v.layout_n) (v1 := v.layout_chunk) (v2 := v.layout_rows) (v3 := (((v.legs.set ((leg).toNat) { v.legs.getD ((leg).toNat) prt_x0 with stale := true })).set ((leg).toNat) { ((v.legs.set ((leg).toNat) { v.legs.getD ((leg).toNat) prt_x0 with stale := true })).getD ((leg).toNat) prt_x0 with failed := false })) (v4 := v.last_seq) (v5 := v.last_offset) (v6 := v.last_leg) (v7 := v.last_word) (v8 := v.last_parity) (v9 := v.pending) (v10 := (0 : Int)) (h0 := oc23.1) (h1 := oc23.2))) <| QJ_then <| sR <| oA rfl rfl <| nT <| CJ_ret ?_
   cases h
   exact fE (res1 Tryz.results33 rfl) () eR
def parityvol_Volume_Filled (v : VolS) (s : ArrS) : Option (Bool) :=
  Option.bind (parityvol_Volume_staleLeg v s) fun r1 =>
  if ((0 : Int) ≤ r1) then
    some ((decide (v.filled = v.layout_rows)))
  else
    some false
theorem L_parityvol_Volume_Filled {W : World} {bv : Nat} {bs : Nat} {v : VolS} {s : ArrS} {r : Bool} (h : parityvol_Volume_Filled v s = some r) :
    CSpec Tryz.prog W 36 [ptr bv 0] [VolP bs bv v, Arr bs s] (fun x : Unit => .bool r) (fun _ => True) (fun x F => VolP bs bv v :: Arr bs s :: F) := by
 refine CSpec.of_body Tryz.func36 rfl Tryz.ntmps36 rfl fun F => ?_
 show CJ _ _ _ _ _ _ (_ :: _ :: F)
 unfold parityvol_Volume_Filled at h
 refine sR <| oA rfl rfl <| nT <| CJ_seq <| AJ_startH 0 (by kernel_rfl) rfl <| aN 0 1 rfl rfl (P_move rfl) rfl ?_
 obtain ⟨r1, hr2, h⟩ := bind_e h
 refine AJ_op 1 3 rfl (by kernel_rfl) rfl (GY_none rfl) <| O_call (L_parityvol_Volume_staleLeg hr2) rfl Tryz.call76 (Dels.cons del0 (Dels.cons del0 Dels.nil)) rfl fun _ _ => ⟨fun _ => eR, ?_⟩
 refine aN 2 7 rfl rfl (P_geq (a := r1) (b := (0 : Int)) rfl rfl) rfl <| aN 3 15 rfl rfl (P_move rfl) rfl <| AJ_splitP 6 rfl bT_dec (fun hg1B hg1 => ?_) (fun hg1B hg1 => ?_)
 ·
  replace h := ite_t hg1 h
  refine aP 4 31 rfl rfl (GY_yes rfl rfl rfl hg1B) (P_move rfl) rfl <| aP 5 63 rfl rfl (GY_yes rfl rfl rfl hg1B) (P_nilCheck rfl) rfl <| aP 6 127 rfl rfl (GY_yes rfl rfl rfl hg1B) (P_fieldAddr rfl ⟨_, _, _, Tryz.runUnderlying123, rfl, rfl, Tryz.sizeOf3, rfl⟩) rfl <| aV 7 255 rfl rfl (GY_yes rfl rfl rfl hg1B) eR (VJ_entX (Ent.transX (t0_ eR) (VolP_open (l := v))) (fun _ => V_load rfl foc0 rfl Tryz.isAgg3)) rfl <| aP 8 511 rfl rfl (GY_yes rfl rfl rfl hg1B) (P_move rfl) rfl <| aP 9 1023 rfl rfl (GY_yes rfl rfl rfl hg1B) (P_nilCheck rfl) rfl <| aP 10 2047 rfl rfl (GY_yes rfl rfl rfl hg1B) (P_fieldAddr rfl ⟨_, _, _, Tryz.runUnderlying123, rfl, rfl, Tryz.sizeOf112, rfl⟩) rfl <| aP 11 4095 rfl rfl (GY_yes rfl rfl rfl hg1B) (P_fieldAddr rfl ⟨_, _, _, Tryz.runUnderlying112, rfl, rfl, Tryz.sizeOf3, rfl⟩) rfl <| aV 12 8191 rfl rfl (GY_yes rfl rfl rfl hg1B) eR (VJ_entX (Ent.transX (t0_ eR) (VolP_open (l := v))) (fun _ => V_load rfl foc0 rfl Tryz.isAgg3)) rfl <| aP 13 16383 rfl rfl (GY_yes rfl rfl rfl hg1B) (P_eql (a := v.filled) (b := v.layout_rows) rfl rfl) rfl <| aN 14 32767 rfl rfl (P_pickT rfl hg1B rfl) rfl <| aN 15 65535 rfl rfl (P_assign rfl) rfl <| aD <| CJ_ret ?_
  cases h
  exact fE (res1 Tryz.results36 rfl) () eR
 ·
  replace h := ite_f hg1 h
  refine aS 4 31 rfl rfl (GY_no rfl rfl rfl hg1B) rfl <| aS 5 63 rfl rfl (GY_no rfl rfl rfl hg1B) rfl <| aS 6 127 rfl rfl (GY_no rfl rfl rfl hg1B) rfl <| aS 7 255 rfl rfl (GY_no rfl rfl rfl hg1B) rfl <| aS 8 511 rfl rfl (GY_no rfl rfl rfl hg1B) rfl <| aS 9 1023 rfl rfl (GY_no rfl rfl rfl hg1B) rfl <| aS 10 2047 rfl rfl (GY_no rfl rfl rfl hg1B) rfl <| aS 11 4095 rfl rfl (GY_no rfl rfl rfl hg1B) rfl <| aS 12 8191 rfl rfl (GY_no rfl rfl rfl hg1B) rfl <| aS 13 16383 rfl rfl (GY_no rfl rfl rfl hg1B) rfl <| aN 14 32767 rfl rfl (P_pickF rfl hg1B rfl) rfl <| aN 15 65535 rfl rfl (P_assign rfl) rfl <| aD <| CJ_ret ?_
  cases h
  exact fE (res1 Tryz.results36 rfl) () eR
end Go.Proofs
