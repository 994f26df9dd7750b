/- MirrorErrors, part 4 of the proof: LMir1. -/
import Derived.WalkKit
import Derived.Orders
import Derived.RangeFuncLeaves
import Derived.RangeFuncCalls
import Derived.TacticsIn
import Derived.Handy
import Derived.OrdersHeld
import Derived.OrdersIn
import Derived.Below
import Derived.OpenShut
import Derived.Deep.Slices
import Derived.Scope
import Derived.KernelRfl
import Derived.RangeFuncRecord
import Derived.ChangeKeysEq
import Derived.ProofKit
import Derived.ShutString
import Derived.ChangeOld
import Derived.Test.YtdogahpihjefgaaChecked
import Derived.Test.YtdogahpihjefgaaRows
import Derived.Test.YtdogahpihjefgaaZMirrorErrors3
set_option linter.unusedSimpArgs false
set_option linter.unusedVariables false
set_option maxRecDepth 20000
set_option maxHeartbeats 4000000
namespace Go.Proofs
open Go.VG
theorem bld_74_4_5_2 (v0 : Int) (v1 : Int) (v2 : Bool) : ∀ w, (Instr.build 74 (#[(4, .int .i64 v0), (5, .int .i64 v1), (2, .bool v2)] : Array (Nat × Value))).run Try.prog w = .ok (.agg #[.slice none 0 0, .pointer none, .bool v2, .int .i64 (0 : Int), .int .i64 v0, .int .i64 v1, .slice none 0 0, .int .i64 (0 : Int)]) w := fun w => by kernel_rfl
theorem bld_83_0 (v0 : TypeId) (v1 : Value) : ∀ w, (Instr.build 83 (#[(0, .iface v0 v1)] : Array (Nat × Value))).run Try.prog w = .ok (.agg #[.iface v0 v1, .int .i64 (0 : Int), .int .i64 (0 : Int)]) w := fun w => by kernel_rfl
theorem bs_70_1_0 (v0 : TypeId) (v1 : Value) (v2 : Int) (v3 : Int) : BuildsSlice Try.prog 70 1 [(0, .agg #[.iface v0 v1, .int .i64 v2, .int .i64 v3])] 83 [.iface v0 v1, .int .i64 v2, .int .i64 v3] := fun w => by kernel_rfl
def mirror_Regions (size : Int) (region : Int) : Option (Int) :=
  if ((size < (1 : Int)) ∨ (region < (1 : Int))) then
    some (0 : Int)
  else
    grd (inI64 ((size - (1 : Int)))) <|
    grd (inI64 (((IntKind.i64.wrap (((size - (1 : Int))).tdiv region)) + (1 : Int)))) <|
    some (((IntKind.i64.wrap (((size - (1 : Int))).tdiv region)) + (1 : Int)))
theorem L_mirror_Regions {W : World} {size : Int} {region : Int} {r : Int} (h : mirror_Regions size region = some r) :
    CSpec Try.prog W 11 [.int .i64 size, .int .i64 region] [] (fun x : Unit => .int .i64 r) (fun _ => True) (fun x F => F) := by
 refine CSpec.of_body Try.func11 rfl Try.ntmps11 rfl fun F => ?_
 show CJ _ _ _ _ _ _ (F)
 unfold mirror_Regions at h
 refine sR <| oA rfl rfl <| nT <| CJ_seq <| sR <| oM rfl rfl <| oP (P_lss (a := size) (b := (1 : Int)) rfl rfl) rfl <| oM rfl rfl <| RJ_mbF rfl rfl rfl (fun hG1 => have hP2 : ¬ (size < (1 : Int)) := nP (bT_dec) hG1; VJ_P (P_move rfl)) <| RJ_mbF rfl rfl rfl (fun hG3 => have hP4 : ¬ (size < (1 : Int)) := nP (bT_dec) hG3; VJ_P (P_lss (a := region) (b := (1 : Int)) (mbx hG3 rfl) rfl)) <| oP (P_pickOr rfl rfl (fun hh => mbx (not_f hh) rfl)) rfl <| nT <| CJ_condP rfl (bT_or bT_dec bT_dec) (fun hg1 => ?_) (fun hg1 => ?_)
 ·
  replace h := ite_t hg1 h
  refine sR <| oA rfl rfl <| nT <| CJ_ret <| QJ_then_ret ?_
  cases h
  exact fE (res1 Try.results11 rfl) () eR
 ·
  replace h := ite_f hg1 h
  refine kT <| sR <| oM rfl rfl ?_
  obtain ⟨hg2, h⟩ := grd_Ie h
  refine oP (P_sub (a := size) (b := (1 : Int)) rfl rfl hg2) rfl <| oM rfl rfl <| oP (P_quoT (a := (size - (1 : Int))) (b := region) rfl rfl (by omega)) rfl ?_
  obtain ⟨hg3, h⟩ := grd_Ie h
  refine oP (P_add (a := (IntKind.i64.wrap (((size - (1 : Int))).tdiv region))) (b := (1 : Int)) rfl rfl hg3) rfl <| oA rfl rfl <| nT <| CJ_ret ?_
  cases h
  exact fE (res1 Try.results11 rfl) () eR
def mirror_Open_1 (k : Int) (p1 : Int) : Option (Bool) :=
  some (((decide (k < (0 : Int))) || (decide (p1 < k))))
theorem L_mirror_Open_1 {W : World} {bp1 : Nat} {k : Int} {p1 : Int} {r : Bool} (h : mirror_Open_1 k p1 = some r) :
    CSpec Try.prog W 59 [.int .i64 k, ptr bp1 0] [blk bp1 3 [.int .i64 p1]] (fun x : Unit => .bool r) (fun _ => True) (fun x F => blk bp1 3 [.int .i64 p1] :: F) := by
 refine CSpec.of_body Try.func59 rfl Try.ntmps59 rfl fun F => ?_
 show CJ _ _ _ _ _ _ (_ :: F)
 unfold mirror_Open_1 at h
 refine sR <| oA rfl rfl <| nT <| sR <| oM rfl rfl <| oP (P_lss (a := k) (b := (0 : Int)) rfl rfl) rfl <| oM rfl rfl <| RJ_mbF rfl rfl rfl (fun hG1 => have hP2 : ¬ (k < (0 : Int)) := nP (bT_dec) hG1; VJ_P (P_move rfl)) <| RJ_mbF rfl rfl rfl (fun hG3 => have hP4 : ¬ (k < (0 : Int)) := nP (bT_dec) hG3; V_load rfl foc0 rfl Try.isAgg3) <| RJ_mbF rfl rfl rfl (fun hG5 => have hP6 : ¬ (k < (0 : Int)) := nP (bT_dec) hG5; VJ_P (P_gtr (a := k) (b := p1) (mbx hG5 rfl) (mbx hG5 rfl))) <| oP (P_pickOr rfl rfl (fun hh => mbx (not_f hh) rfl)) rfl <| oA rfl rfl <| nT <| CJ_ret ?_
 cases h
 exact fE (res1 Try.results59 rfl) () eR
def slices_IndexFunc_int__mirror_Open_1_l1_b (p0 : List Int) (p1_c0 : Int) (rec : Nat → Option ((Unit) ⊕ Int)) (x6 : Nat) : Option ((Unit) ⊕ Int) :=
  if (((x6 : Nat) : Int) < ((p0.length : Nat) : Int)) then
    Option.bind (mirror_Open_1 (p0.getD x6 0) p1_c0) fun r7 =>
    if r7 = true then
      some (.inr (((x6 : Nat) : Int)))
    else
      rec (x6 + 1)
  else
    some (.inl ())
def slices_IndexFunc_int__mirror_Open_1_l1 (p0 : List Int) (p1_c0 : Int) : Nat → Nat → Option ((Unit) ⊕ Int)
  | 0, _ => none
  | n + 1, x6 => slices_IndexFunc_int__mirror_Open_1_l1_b p0 p1_c0 (slices_IndexFunc_int__mirror_Open_1_l1 p0 p1_c0 n) x6
def slices_IndexFunc_int__mirror_Open_1 (p0 : List Int) (p1_c0 : Int) : Option (Int) :=
  seqO (slices_IndexFunc_int__mirror_Open_1_l1 p0 p1_c0 FUEL 0) fun a5 =>
  some (-1 : Int)
theorem L_slices_IndexFunc_int__mirror_Open_1 {W : World} {Ap0 : HP} {vp0 : Value} {bp1_c0 : Nat} {p0 : List Int} {p1_c0 : Int} {r : Int} (rp0 : Reads Ap0 tyI vp0 p0) (h : slices_IndexFunc_int__mirror_Open_1 p0 p1_c0 = some r) :
    CSpec Try.prog W 76 [vp0, .func (.func 59) #[] #[ptr bp1_c0 0]] [Ap0, blk bp1_c0 3 [.int .i64 p1_c0]] (fun x : Unit => .int .i64 r) (fun _ => True) (fun x F => Ap0 :: blk bp1_c0 3 [.int .i64 p1_c0] :: F) := by
 refine CSpec.of_body Try.func76 rfl Try.ntmps76 rfl fun F => ?_
 show CJ _ _ _ _ _ _ (_ :: _ :: F)
 unfold slices_IndexFunc_int__mirror_Open_1 at h
 refine CJ_pure (len_of rp0 del0) fun hlen1 => sR <| oA rfl rfl <| nT <| CJ_seq <| sR <| oM rfl rfl <| oV (V_len rfl foc0 rp0 Try.runUnderlying22) rfl <| oM rfl rfl <| nT ?_
 obtain ⟨y4, hl2, hK3⟩ := seq_e h
 refine CJ_cutT (X := Unit) [4, 5, 8, 9, 10, 11, 12, 13, 14, 15, 16, 17, 18] (fun _ => ([] : Slots)) (fun _ R => R) (fun _ => y4 = .inl ()) Dels.nil ?_ ?_
 ·
  refine CJ_block <| CJ_loopR (X := Nat × Nat) [4, 5, 8, 9, 10, 11, 12, 13, 14, 15, 16, 17, 18] (fun ⟨n, x6⟩ => ([(8, .int .i64 (((x6 : Nat) : Int)))] : Slots)) (fun ⟨n, x6⟩ R => R) (fun ⟨n, x6⟩ => slices_IndexFunc_int__mirror_Open_1_l1 p0 p1_c0 n x6 = some y4) (fun ⟨n, x6⟩ => n) ⟨FUEL, 0⟩ ?_ ?_ eR ?_
  · exact hl2
  · exact ⟨rfl, True.intro⟩
  ·
   rintro ⟨n, x6⟩ h
   cases n with
   | zero => exact none_e h
   | succ n => ?_
   replace h : slices_IndexFunc_int__mirror_Open_1_l1_b p0 p1_c0 (slices_IndexFunc_int__mirror_Open_1_l1 p0 p1_c0 n) x6 = some y4 := h
   unfold slices_IndexFunc_int__mirror_Open_1_l1_b at h
   show CJ _ _ _ _ _ (([(8, .int .i64 (((x6 : Nat) : Int)))] : Slots) ++ forget _ _) (_)
   refine sR <| oP (P_lss (a := ((x6 : Nat) : Int)) (b := ((p0.length : Nat) : Int)) rfl rfl) rfl <| nT <| CJ_seq <| CJ_condP rfl bT_dec (fun hg1 => ?_) (fun hg1 => ?_)
   ·
    replace h := ite_t hg1 h
    refine kT <| CJ_seq <| CJ_block <| sR <| oM rfl rfl <| oA rfl rfl <| nT <| sR <| oM rfl rfl <| oM rfl rfl <| oM rfl rfl <| oV (V_index (i := x6) rfl rfl rfl (by omega) foc0 rp0 Try.runUnderlying22 Try.sizeOf3) rfl <| oV (V_loadE rfl rfl (by omega) foc0 rp0 rfl rfl Try.isAgg3) rfl ?_
    obtain ⟨r7, hr8, h⟩ := bind_e h
    refine oO <| O_callV rfl rfl (L_mirror_Open_1 hr8) Try.call59 (Dels.cons del1 Dels.nil) rfl fun _ _ => nT <| CJ_condP rfl Iff.rfl (fun hg2 => ?_) (fun hg2 => ?_)
    ·
     replace h := ite_t hg2 h
     refine sR <| oM rfl rfl <| oA rfl rfl <| nT <| CJ_ret <| QJ_block_ret <| QJ_then_ret <| QJ_round_ret <| QJ_block_ret <| QJ_then_ret ?_
     have hE := Option.some.inj h
     replace hE := seq_inr hK3 hE.symm
     subst hE
     exact fE (res1 Try.results76 rfl) () (t1_ eR)
    ·
     replace h := ite_f hg2 h
     exact CJ_skip <| QJ_block_normal <| QJ_then <| CJ_region <| oP (PJ_eq (P_add (a := ((x6 : Nat) : Int)) (b := (1 : Int)) rfl rfl (by omega)) rfl) rfl <| oM rfl rfl <| RJ_nil <| nR ⟨n, (x6 + 1)⟩ h ⟨rfl, True.intro⟩ (t1_ eR)
   ·
    replace h := ite_f hg1 h
    exact CJ_exit <| QJ_then_exit <| QJ_round_exit <| QJ_block_here <| cR () (Option.some.inj h).symm True.intro eR
 ·
  rintro _ hy9
  replace h := seq_inl hK3 hy9
  show CJ _ _ _ _ _ (([] : Slots) ++ forget _ _) (_)
  refine sR <| oA rfl rfl <| nT <| CJ_ret ?_
  cases h
  exact fE (res1 Try.results76 rfl) () eR
def slices_ContainsFunc_int__mirror_Open_1 (p0 : List Int) (p1_c0 : Int) : Option (Bool) :=
  Option.bind (slices_IndexFunc_int__mirror_Open_1 p0 p1_c0) fun r2 =>
  some ((decide ((0 : Int) ≤ r2)))
theorem L_slices_ContainsFunc_int__mirror_Open_1 {W : World} {Ap0 : HP} {vp0 : Value} {bp1_c0 : Nat} {p0 : List Int} {p1_c0 : Int} {r : Bool} (rp0 : Reads Ap0 tyI vp0 p0) (h : slices_ContainsFunc_int__mirror_Open_1 p0 p1_c0 = some r) :
    CSpec Try.prog W 60 [vp0, .func (.func 59) #[] #[ptr bp1_c0 0]] [Ap0, blk bp1_c0 3 [.int .i64 p1_c0]] (fun x : Unit => .bool r) (fun _ => True) (fun x F => Ap0 :: blk bp1_c0 3 [.int .i64 p1_c0] :: F) := by
 refine CSpec.of_body Try.func60 rfl Try.ntmps60 rfl fun F => ?_
 show CJ _ _ _ _ _ _ (_ :: _ :: F)
 unfold slices_ContainsFunc_int__mirror_Open_1 at h
 refine CJ_pure (len_of rp0 del0) fun hlen1 => sR <| oA rfl rfl <| nT <| sR <| oM rfl rfl <| oM rfl rfl ?_
 obtain ⟨r2, hr3, h⟩ := bind_e h
 refine oO <| O_call (L_slices_IndexFunc_int__mirror_Open_1 rp0 hr3) rfl Try.call76 (Dels.cons del0 (Dels.cons del0 Dels.nil)) rfl fun _ _ => oP (P_geq (a := r2) (b := (0 : Int)) rfl rfl) rfl <| oA rfl rfl <| nT <| CJ_ret ?_
 cases h
 exact fE (res1 Try.results60 rfl) () eR
def slices_Index_int_l1_b (p0 : List Int) (p1 : Int) (rec : Nat → Option ((Unit) ⊕ Int)) (x6 : Nat) : Option ((Unit) ⊕ Int) :=
  if (((x6 : Nat) : Int) < ((p0.length : Nat) : Int)) then
    if (p1 = (p0.getD x6 0)) then
      some (.inr (((x6 : Nat) : Int)))
    else
      rec (x6 + 1)
  else
    some (.inl ())
def slices_Index_int_l1 (p0 : List Int) (p1 : Int) : Nat → Nat → Option ((Unit) ⊕ Int)
  | 0, _ => none
  | n + 1, x6 => slices_Index_int_l1_b p0 p1 (slices_Index_int_l1 p0 p1 n) x6
def slices_Index_int (p0 : List Int) (p1 : Int) : Option (Int) :=
  seqO (slices_Index_int_l1 p0 p1 FUEL 0) fun a5 =>
  some (-1 : Int)
theorem L_slices_Index_int {W : World} {Ap0 : HP} {vp0 : Value} {p0 : List Int} {p1 : Int} {r : Int} (rp0 : Reads Ap0 tyI vp0 p0) (h : slices_Index_int p0 p1 = some r) :
    CSpec Try.prog W 66 [vp0, .int .i64 p1] [Ap0] (fun x : Unit => .int .i64 r) (fun _ => True) (fun x F => Ap0 :: F) := by
 refine CSpec.of_body Try.func66 rfl Try.ntmps66 rfl fun F => ?_
 show CJ _ _ _ _ _ _ (_ :: F)
 unfold slices_Index_int at h
 refine CJ_pure (len_of rp0 del0) fun hlen1 => sR <| oA rfl rfl <| nT <| CJ_seq <| sR <| oM rfl rfl <| oV (V_len rfl foc0 rp0 Try.runUnderlying22) rfl <| oM rfl rfl <| nT ?_
 obtain ⟨y4, hl2, hK3⟩ := seq_e h
 refine CJ_cutT (X := Unit) [4, 5, 8, 9, 10, 11, 12, 13, 14, 15, 16, 17, 18] (fun _ => ([] : Slots)) (fun _ R => R) (fun _ => y4 = .inl ()) Dels.nil ?_ ?_
 ·
  refine CJ_block <| CJ_loopR (X := Nat × Nat) [4, 5, 8, 9, 10, 11, 12, 13, 14, 15, 16, 17, 18] (fun ⟨n, x6⟩ => ([(8, .int .i64 (((x6 : Nat) : Int)))] : Slots)) (fun ⟨n, x6⟩ R => R) (fun ⟨n, x6⟩ => slices_Index_int_l1 p0 p1 n x6 = some y4) (fun ⟨n, x6⟩ => n) ⟨FUEL, 0⟩ ?_ ?_ eR ?_
  · exact hl2
  · exact ⟨rfl, True.intro⟩
  ·
   rintro ⟨n, x6⟩ h
   cases n with
   | zero => exact none_e h
   | succ n => ?_
   replace h : slices_Index_int_l1_b p0 p1 (slices_Index_int_l1 p0 p1 n) x6 = some y4 := h
   unfold slices_Index_int_l1_b at h
   show CJ _ _ _ _ _ (([(8, .int .i64 (((x6 : Nat) : Int)))] : Slots) ++ forget _ _) (_)
   refine sR <| oP (P_lss (a := ((x6 : Nat) : Int)) (b := ((p0.length : Nat) : Int)) rfl rfl) rfl <| nT <| CJ_seq <| CJ_condP rfl bT_dec (fun hg1 => ?_) (fun hg1 => ?_)
   ·
    replace h := ite_t hg1 h
    refine kT <| CJ_seq <| CJ_block <| sR <| oM rfl rfl <| oA rfl rfl <| nT <| sR <| oM rfl rfl <| oM rfl rfl <| oM rfl rfl <| oV (V_index (i := x6) rfl rfl rfl (by omega) foc0 rp0 Try.runUnderlying22 Try.sizeOf3) rfl <| oV (V_loadE rfl rfl (by omega) foc0 rp0 rfl rfl Try.isAgg3) rfl <| oP (P_eql (a := p1) (b := (p0.getD x6 0)) rfl rfl) rfl <| nT <| CJ_condP rfl bT_dec (fun hg2 => ?_) (fun hg2 => ?_)
    ·
     replace h := ite_t hg2 h
     refine sR <| oM rfl rfl <| oA rfl rfl <| nT <| CJ_ret <| QJ_block_ret <| QJ_then_ret <| QJ_round_ret <| QJ_block_ret <| QJ_then_ret ?_
     have hE := Option.some.inj h
     replace hE := seq_inr hK3 hE.symm
     subst hE
     exact fE (res1 Try.results66 rfl) () eR
    ·
     replace h := ite_f hg2 h
     exact CJ_skip <| QJ_block_normal <| QJ_then <| CJ_region <| oP (PJ_eq (P_add (a := ((x6 : Nat) : Int)) (b := (1 : Int)) rfl rfl (by omega)) rfl) rfl <| oM rfl rfl <| RJ_nil <| nR ⟨n, (x6 + 1)⟩ h ⟨rfl, True.intro⟩ eR
   ·
    replace h := ite_f hg1 h
    exact CJ_exit <| QJ_then_exit <| QJ_round_exit <| QJ_block_here <| cR () (Option.some.inj h).symm True.intro eR
 ·
  rintro _ hy7
  replace h := seq_inl hK3 hy7
  show CJ _ _ _ _ _ (([] : Slots) ++ forget _ _) (_)
  refine sR <| oA rfl rfl <| nT <| CJ_ret ?_
  cases h
  exact fE (res1 Try.results66 rfl) () eR
def slices_Contains_int (p0 : List Int) (p1 : Int) : Option (Bool) :=
  Option.bind (slices_Index_int p0 p1) fun r2 =>
  some ((decide ((0 : Int) ≤ r2)))
theorem L_slices_Contains_int {W : World} {Ap0 : HP} {vp0 : Value} {p0 : List Int} {p1 : Int} {r : Bool} (rp0 : Reads Ap0 tyI vp0 p0) (h : slices_Contains_int p0 p1 = some r) :
    CSpec Try.prog W 36 [vp0, .int .i64 p1] [Ap0] (fun x : Unit => .bool r) (fun _ => True) (fun x F => Ap0 :: F) := by
 refine CSpec.of_body Try.func36 rfl Try.ntmps36 rfl fun F => ?_
 show CJ _ _ _ _ _ _ (_ :: F)
 unfold slices_Contains_int at h
 refine CJ_pure (len_of rp0 del0) fun hlen1 => sR <| oA rfl rfl <| nT <| sR <| oM rfl rfl <| oM rfl rfl ?_
 obtain ⟨r2, hr3, h⟩ := bind_e h
 refine oO <| O_call (L_slices_Index_int rp0 hr3) rfl Try.call66 (Dels.cons del0 Dels.nil) rfl fun _ _ => oP (P_geq (a := r2) (b := (0 : Int)) rfl rfl) rfl <| oA rfl rfl <| nT <| CJ_ret ?_
 cases h
 exact fE (res1 Try.results36 rfl) () eR
def mirror_Open_l1_b (legs : List Dvc) (staleLegs : List Int) (log : Dvc) (region : Int) (s : ArrS) (rec : MirS → Nat → Nat → Option (Nat × MirS)) (x33 : MirS) (x34 : Nat) (x35 : Nat) : Option (Nat × MirS) :=
  if (((x35 : Nat) : Int) < ((legs.length : Nat) : Int)) then
    Option.bind (slices_Contains_int staleLegs (((x35 : Nat) : Int))) fun r38 =>
    Option.bind ((
      if r38 = true then
        some (x34, 2)
      else
        grd (inN64 (x34 + 1)) <|
        some (((x34 + 1), 0)) : Option (Nat × Nat))) fun a45 =>
    grd (inLen (x33.legs.length + 1)) <|
    Option.bind (Dvc.size (legs.getD x35 dv0) s) fun r63 =>
    rec ((⟨(x33.legs ++ [(⟨(legs.getD x35 dv0), ((a45.2 : Nat) : Int), (0 : Int)⟩ : mlegS)]), x33.log, x33.hasLog, x33.logState, (min x33.size r63), x33.region, x33.dirty, x33.copied⟩ : MirS)) a45.1 (x35 + 1)
  else
    some (x34, x33)
def mirror_Open_l1 (legs : List Dvc) (staleLegs : List Int) (log : Dvc) (region : Int) (s : ArrS) : Nat → MirS → Nat → Nat → Option (Nat × MirS)
  | 0, _, _, _ => none
  | n + 1, x33, x34, x35 => mirror_Open_l1_b legs staleLegs log region s (mirror_Open_l1 legs staleLegs log region s n) x33 x34 x35
def mirror_Open_l3_b (r71 : Int) (rec : MirS → Nat → Option (MirS)) (x101 : MirS) (x102 : Nat) : Option (MirS) :=
  if (((x102 : Nat) : Int) < ((((List.replicate ((r71).toNat) false)).length : Nat) : Int)) then
    grd (decide (x102 < x101.dirty.length)) <|
    grd (inN64 (x102 + 1)) <|
    rec ({ x101 with dirty := (x101.dirty.set x102 true) }) (x102 + 1)
  else
    some x101
def mirror_Open_l3 (r71 : Int) : Nat → MirS → Nat → Option (MirS)
  | 0, _, _ => none
  | n + 1, x101, x102 => mirror_Open_l3_b r71 (mirror_Open_l3 r71 n) x101 x102
def mirror_Open_l4_b (r129 : (List Int)) (rec : MirS → Nat → Option (MirS)) (x138 : MirS) (x139 : Nat) : Option (MirS) :=
  if (((x139 : Nat) : Int) < ((r129.length : Nat) : Int)) then
    grd (decide (0 ≤ (r129.getD x139 0) ∧ (r129.getD x139 0) < (x138.dirty.length : Int))) <|
    grd (inN64 (x139 + 1)) <|
    rec ({ x138 with dirty := (x138.dirty.set (((r129.getD x139 0)).toNat) true) }) (x139 + 1)
  else
    some x138
def mirror_Open_l4 (r129 : (List Int)) : Nat → MirS → Nat → Option (MirS)
  | 0, _, _ => none
  | n + 1, x138, x139 => mirror_Open_l4_b r129 (mirror_Open_l4 r129 n) x138 x139
def mirror_Open (legs : List Dvc) (staleLegs : List Int) (log : Dvc) (region : Int) (s : ArrS) : Option ((Option MirS) × Int) :=
  if ((((((legs.length : Nat) : Int) < (2 : Int)) ∨ ((6 : Int) < ((legs.length : Nat) : Int))) ∨ (region < (1 : Int))) ∨ ((65536 : Int) < region)) then
    some ((none, (1 : Int)))
  else
    Option.bind (slices_ContainsFunc_int__mirror_Open_1 staleLegs (((legs.length : Nat) : Int))) fun r17 =>
    if r17 = true then
      some ((none, (1 : Int)))
    else
      Option.bind (Dvc.size (legs.getD 0 dv0) s) fun r21 =>
      Option.bind (mirror_Open_l1 legs staleLegs log region s FUEL ((⟨([] : List mlegS), none, true, (0 : Int), r21, region, [], (0 : Int)⟩ : MirS)) 0 0) fun a32 =>
      if (((a32.1 : Nat) : Int) = (0 : Int)) then
        some ((none, (19 : Int)))
      else
        Option.bind (mirror_Regions a32.2.size region) fun r71 =>
        grd (decide (0 ≤ r71 ∧ r71 ≤ 1000000000)) <|
        Option.bind (slices_Contains_int staleLegs (((legs.length : Nat) : Int))) fun r74 =>
        if (r74 = true ∨ (¬ a32.2.hasLog = true)) then
          Option.bind (mirror_Open_l3 r71 FUEL ((⟨a32.2.legs, a32.2.log, a32.2.hasLog, (2 : Int), a32.2.size, a32.2.region, (List.replicate ((r71).toNat) false), a32.2.copied⟩ : MirS)) 0) fun a100 =>
          some (((some a100), (0 : Int)))
        else
          Option.bind (regionlog_Open log (((((List.replicate ((r71).toNat) false)).length : Nat) : Int)) s) fun r114 =>
          if ((r114.2 ≠ (0 : Int)) ∧ (r114.2 ≠ (5 : Int))) then
            some ((none, (18 : Int)))
          else
            if (r114.2 ≠ (0 : Int)) then
              some (none, r114.2)
            else
              Option.elim r114.1 (
                none) fun o128 =>
              Option.bind (regionlog_Log_Dirty o128 s) fun r129 =>
              Option.bind (mirror_Open_l4 r129 FUEL ((⟨a32.2.legs, (some o128), a32.2.hasLog, a32.2.logState, a32.2.size, a32.2.region, (List.replicate ((r71).toNat) false), a32.2.copied⟩ : MirS)) 0) fun a137 =>
              some (((some a137), (0 : Int)))
theorem L_mirror_Open {W : World} {Alegs : HP} {vlegs : Value} {hslegs : List IfH} {AstaleLegs : HP} {vstaleLegs : Value} {vlog : IfH} {bs : Nat} {legs : List Dvc} {staleLegs : List Int} {log : Dvc} {region : Int} {s : ArrS} {r : (Option MirS) × Int} (rlegs : Reads Alegs tyDev vlegs hslegs) (rstaleLegs : Reads AstaleLegs tyI vstaleLegs staleLegs) (h : mirror_Open legs staleLegs log region s = some r) :
    CSpec Try.prog W 30 [vlegs, vstaleLegs, IfH.v vlog, .int .i64 region] [Alegs, Rs (DevP bs) legs hslegs, AstaleLegs, DevP bs log vlog, Arr bs s] (fun x : Nat => .tuple #[oval r.1 x, .int .i64 r.2]) (fun _ => True) (fun x F => Alegs :: Rs (DevP bs) legs hslegs :: AstaleLegs :: DevP bs log vlog :: Arr bs s :: optP (MirP bs x) r.1 :: F) := by
 refine CSpec.of_body Try.func30 rfl Try.ntmps30 rfl fun F => ?_
 show CJ _ _ _ _ _ _ (_ :: _ :: _ :: _ :: _ :: F)
 unfold mirror_Open at h
 refine CJ_pure (len_of rlegs del0) fun hlen1 => CJ_pure (fun h hh => Rs_len (stars_perm (del1 (A := Rs (DevP bs) legs hslegs)).out h hh)) fun hdl2 => CJ_pure (len_of rstaleLegs del2) fun hlen3 => sR <| oA rfl rfl <| oA rfl rfl <| nT <| sR <| oM rfl rfl <| oV (VJ_eq (V_len rfl foc0 rlegs Try.runUnderlying53) (congrArg (fun z : Nat => Value.int .i64 (z : Int)) (hdl2).symm)) rfl <| oO <| O_alloc Try.zeroValue3 rfl rfl fun b4 => oO <| O_store rfl rfl foc0 rfl rfl Try.sizeOf3 <| nT <| sR <| oP (P_makeFunc rfl rfl) rfl <| oA rfl rfl <| nT <| CJ_seq <| sR <| oV (V_load rfl foc0 rfl Try.isAgg3) rfl <| oP (P_lss (a := ((legs.length : Nat) : Int)) (b := (2 : Int)) rfl rfl) rfl <| oM rfl rfl <| RJ_mbF rfl rfl rfl (fun hG5 => have hP6 : ¬ (((legs.length : Nat) : Int) < (2 : Int)) := nP (bT_dec) hG5; V_load rfl foc0 rfl Try.isAgg3) <| RJ_mbF rfl rfl rfl (fun hG7 => have hP8 : ¬ (((legs.length : Nat) : Int) < (2 : Int)) := nP (bT_dec) hG7; VJ_P (P_gtr (a := ((legs.length : Nat) : Int)) (b := (6 : Int)) (mbx hG7 rfl) rfl)) <| oP (P_pickOr rfl rfl (fun hh => mbx (not_f hh) rfl)) rfl <| oM rfl rfl <| RJ_mbF rfl rfl rfl (fun hG9 => have hP10 : ¬ ((((legs.length : Nat) : Int) < (2 : Int)) ∨ ((6 : Int) < ((legs.length : Nat) : Int))) := nP ((bT_or bT_dec bT_dec)) hG9; VJ_P (P_move rfl)) ?_
 refine RJ_mbF rfl rfl rfl (fun hG11 => have hP12 : ¬ ((((legs.length : Nat) : Int) < (2 : Int)) ∨ ((6 : Int) < ((legs.length : Nat) : Int))) := nP ((bT_or bT_dec bT_dec)) hG11; VJ_P (P_lss (a := region) (b := (1 : Int)) (mbx hG11 rfl) rfl)) <| oP (P_pickOr rfl rfl (fun hh => mbx (not_f hh) rfl)) rfl <| oM rfl rfl <| RJ_mbF rfl rfl rfl (fun hG13 => have hP14 : ¬ (((((legs.length : Nat) : Int) < (2 : Int)) ∨ ((6 : Int) < ((legs.length : Nat) : Int))) ∨ (region < (1 : Int))) := nP ((bT_or (bT_or bT_dec bT_dec) bT_dec)) hG13; VJ_P (P_move rfl)) <| RJ_mbF rfl rfl rfl (fun hG15 => have hP16 : ¬ (((((legs.length : Nat) : Int) < (2 : Int)) ∨ ((6 : Int) < ((legs.length : Nat) : Int))) ∨ (region < (1 : Int))) := nP ((bT_or (bT_or bT_dec bT_dec) bT_dec)) hG15; VJ_P (P_gtr (a := region) (b := (65536 : Int)) (mbx hG15 rfl) rfl)) <| oP (P_pickOr rfl rfl (fun hh => mbx (not_f hh) rfl)) rfl <| oM rfl rfl <| RJ_splitP 39 rfl (bT_or (bT_or (bT_or bT_dec bT_dec) bT_dec) bT_dec) (fun hg1B hg1 => ?_) (fun hg1B hg1 => ?_)
 ·
  replace h := ite_t hg1 h
  refine RJ_gn (GY_no rfl rfl rfl hg1B) rfl rfl <| RJ_gn (GY_no rfl rfl rfl hg1B) rfl rfl <| RJ_gn (GY_no rfl rfl rfl hg1B) rfl rfl <| oP (P_pickT rfl hg1B rfl) rfl <| nT <| CJ_condT rfl rfl <| sR <| oA rfl rfl <| oA rfl rfl <| nT <| CJ_ret <| QJ_then_ret ?_
  cases h
  exact fE (res2 Try.results30 rfl rfl) 0 (t1_ (t1_ (t1_ (t1_ (t1_ (Ent.trans (fun h hh => optP_none h hh) <| t0_ (eD eR)))))))
 ·
  replace h := ite_f hg1 h
  refine gP (GY_yes rfl rfl rfl hg1B) (P_move rfl) rfl <| gP (GY_yes rfl rfl rfl hg1B) (P_move rfl) rfl ?_
  obtain ⟨r17, hr18, h⟩ := bind_e h
  refine RJ_gy (GY_yes rfl rfl rfl hg1B) <| O_call (L_slices_ContainsFunc_int__mirror_Open_1 rstaleLegs hr18) rfl Try.call60 (Dels.cons del3 (Dels.cons del0 Dels.nil)) rfl fun _ _ => oP (P_pickF rfl hg1B rfl) rfl <| nT <| CJ_condP rfl Iff.rfl (fun hg2 => ?_) (fun hg2 => ?_)
  ·
   replace h := ite_t hg2 h
   refine sR <| oA rfl rfl <| oA rfl rfl <| nT <| CJ_ret <| QJ_then_ret ?_
   cases h
   exact fE (res2 Try.results30 rfl rfl) 0 (t2_ (t2_ (t0_ (t1_ (t1_ (Ent.trans (fun h hh => optP_none h hh) <| t0_ (eD eR)))))))
  ·
   replace h := ite_f hg2 h
   refine kT <| CJ_seq <| AJ_startH 264 (by kernel_rfl) rfl <| aN 0 1 rfl rfl (P_move rfl) rfl <| aV 1 3 rfl rfl (GY_none rfl) eR (V_index (i := 0) rfl rfl rfl (by have hz : 0 < legs.length := (by omega); have hy := hdl2; omega) foc2 rlegs Try.runUnderlying53 Try.sizeOf57) rfl <| AJ_ent (Ent.trans (t3_ eR) (Rs_at (fun _ _ => Dup_DevP) (dx := dv0) (dh := tyDev.dflt) (i := 0) (by omega))) <| aV 2 7 rfl rfl (GY_none rfl) (t2_ (t2_ (t2_ (t1_ (t1_ (t1_ (eD eR))))))) (V_loadE rfl rfl (by have hz : 0 < legs.length := (by omega); have hy := hdl2; omega) foc2 rlegs rfl rfl Try.isAgg57) rfl <| aN 4 23 rfl rfl (P_move rfl) rfl <| aN 5 55 rfl rfl (P_move rfl) rfl <| aN 6 119 rfl rfl (P_neqIfN rfl rfl Try.underlying57) rfl <| AJ_pure (fun h hh => DevP_dep h (stars_perm (del0 (A := DevP bs (legs.getD 0 dv0) (hslegs.getD 0 tyDev.dflt))).out h hh)) fun hdp20 => ?_
   obtain ⟨r21, hr22, h⟩ := bind_e h
   refine AJ_op 3 127 rfl (by kernel_rfl) rfl (GY_none rfl) <| O_callI rfl (dev_Size hr22 hdp20) rfl (Dels.cons del0 (Dels.cons del5 Dels.nil)) rfl fun _ _ => ⟨fun h => absurd h (by decide), ?_⟩
   refine aN 7 255 rfl rfl (P_build rfl (bld_74_4_5_2 _ _ _)) rfl <| AJ_op 8 511 rfl (by kernel_rfl) rfl (GY_none rfl) <| O_box rfl rfl rfl fun b23 => ⟨fun h => absurd h (by decide), ?_⟩
   refine aN 9 1023 rfl rfl (P_assign rfl) rfl <| AJ_done (by kernel_rfl) <| QJ_ent (t0_ (t1_ (t1_ (t1_ (t1_ (t1_ (t1_ (eD eR)))))))) <| QJ_then <| sR <| oA rfl rfl <| nT <| CJ_seq <| sR <| oM rfl rfl <| oV (VJ_eq (V_len rfl foc5 rlegs Try.runUnderlying53) (congrArg (fun z : Nat => Value.int .i64 (z : Int)) (hdl2).symm)) rfl <| oM rfl rfl <| nT <| CJ_ent (fun h hh => sl_nil (t := tymlegH) h (rs_nil (RP := DevP bs) h hh)) <| CJ_ent (fun h hh => sl_nil (t := tyB) h hh) <| CJ_ent (Ent.trans (t3_ (t1_ (t1_ (Ent.trans (fun h hh => optP_none h hh) <| t0_ eR)))) (MirP_mk (v0 := ([] : List mlegS)) (v1 := none) (v2 := true) (v3 := (0 : Int)) (v4 := r21) (v5 := region) (v6 := []) (v7 := (0 : Int)) (h0 := ⟨none, 0, 0⟩) (h1 := ([] : List IfH)) (h2 := 0) (h3 := ⟨none, 0, 0⟩))) ?_
   obtain ⟨y29, hl27, hK28⟩ := bind_c h
   refine CJ_cutT (X := Nat × MirS) [13, 14, 15, 16, 55, 56, 57, 58, 59, 60, 61, 62, 63, 64, 65, 66, 67, 68, 69, 70, 71, 72, 73, 74, 75, 76, 77, 78, 79, 80, 81, 82, 83, 84, 85, 86, 87, 88] (fun a32 => ([(13, .int .i64 (((a32.1 : Nat) : Int)))] : Slots)) (fun a32 R => MirP bs b23 a32.2 :: R) (fun a32 => y29 = a32) (Dels.cons del0 Dels.nil) ?_ ?_
   ·
    refine CJ_block <| CJ_loopR (X := Nat × MirS × Nat × Nat) [13, 14, 15, 16, 55, 56, 57, 58, 59, 60, 61, 62, 63, 64, 65, 66, 67, 68, 69, 70, 71, 72, 73, 74, 75, 76, 77, 78, 79, 80, 81, 82, 83, 84, 85, 86, 87, 88] (fun ⟨n, x33, x34, x35⟩ => ([(13, .int .i64 (((x34 : Nat) : Int))), (55, .int .i64 (((x35 : Nat) : Int)))] : Slots)) (fun ⟨n, x33, x34, x35⟩ R => MirP bs b23 x33 :: R) (fun ⟨n, x33, x34, x35⟩ => mirror_Open_l1 legs staleLegs log region s n x33 x34 x35 = some y29) (fun ⟨n, x33, x34, x35⟩ => n) ⟨FUEL, (⟨([] : List mlegS), none, true, (0 : Int), r21, region, [], (0 : Int)⟩ : MirS), 0, 0⟩ ?_ ?_ eR ?_
    · exact hl27
    · exact ⟨rfl, rfl, True.intro⟩
    ·
     rintro ⟨n, x33, x34, x35⟩ h
     cases n with
     | zero => exact none_e h
     | succ n => ?_
     replace h : mirror_Open_l1_b legs staleLegs log region s (mirror_Open_l1 legs staleLegs log region s n) x33 x34 x35 = some y29 := h
     unfold mirror_Open_l1_b at h
     show CJ _ _ _ _ _ (([(13, .int .i64 (((x34 : Nat) : Int))), (55, .int .i64 (((x35 : Nat) : Int)))] : Slots) ++ forget _ _) (MirP bs b23 x33 :: _)
     refine sR <| oP (P_lss (a := ((x35 : Nat) : Int)) (b := ((legs.length : Nat) : Int)) rfl rfl) rfl <| nT <| CJ_seq <| CJ_condP rfl bT_dec (fun hg3 => ?_) (fun hg3 => ?_)
     ·
      replace h := ite_t hg3 h
      refine kT <| CJ_seq <| CJ_block <| sR <| oM rfl rfl <| oV (V_index (i := x35) rfl rfl rfl (by have hz : x35 < legs.length := (by omega); have hy := hdl2; omega) foc5 rlegs Try.runUnderlying53 Try.sizeOf57) rfl <| RJ_ent (Ent.trans (t2_ eR) (Rs_at (fun _ _ => Dup_DevP) (dx := dv0) (dh := tyDev.dflt) (i := x35) (by omega))) <| oV (V_loadE rfl rfl (by have hz : x35 < legs.length := (by omega); have hy := hdl2; omega) foc6 rlegs rfl rfl Try.isAgg57) rfl <| oA rfl rfl <| oA rfl rfl <| nT <| sR <| oM rfl rfl <| oP (P_build rfl (bld_83_0 _ _)) rfl <| oO <| O_alloc Try.zeroValue83 rfl rfl fun b37 => oO <| O_storeN rfl rfl foc0 Try.sizeOf83 rfl rfl rfl <| nT <| CJ_seq <| sR <| oM rfl rfl <| oM rfl rfl ?_
      obtain ⟨r38, hr39, h⟩ := bind_e h
      refine oO <| O_call (L_slices_Contains_int rstaleLegs hr39) rfl Try.call36 (Dels.cons del5 Dels.nil) rfl fun _ _ => nT ?_
      obtain ⟨y42, hl40, hK41⟩ := bind_c h
      refine CJ_cutT (X := Nat × Nat) [13, 65, 66, 67] (fun a45 => ([(13, .int .i64 (((a45.1 : Nat) : Int)))] : Slots)) (fun a45 R => blk b37 83 [IfH.v (hslegs.getD x35 tyDev.dflt), .int .i64 (((a45.2 : Nat) : Int)), .int .i64 (0 : Int)] :: R) (fun a45 => y42 = a45) (Dels.cons del1 Dels.nil) ?_ ?_
      ·
       have h := hl40
       refine CJ_condP rfl Iff.rfl (fun hg4 => ?_) (fun hg4 => ?_)
       ·
        replace h := ite_t hg4 h
        exact CJ_region <| oP (P_fieldAddr rfl ⟨_, _, _, Try.runUnderlying83, rfl, rfl, Try.sizeOf72, rfl⟩) rfl <| oO <| O_store rfl rfl foc1 rfl rfl Try.sizeOf72 <| RJ_nil <| cR (x34, 2) (Option.some.inj h).symm ⟨rfl, True.intro⟩ (t1_ eR)
       ·
        replace h := ite_f hg4 h
        refine CJ_region <| oM rfl rfl ?_
        obtain ⟨hg5, h⟩ := grd_Ne h
        exact oP (PJ_eq (P_add (a := ((x34 : Nat) : Int)) (b := (1 : Int)) rfl rfl (nat_in hg5)) rfl) rfl <| oA rfl rfl <| RJ_nil <| cR ((x34 + 1), 0) (Option.some.inj h).symm ⟨rfl, True.intro⟩ (t1_ eR)
      ·
       rintro a45 hy46
       replace h := bindK_at hK41 hy46
       show CJ _ _ _ _ _ (([(13, .int .i64 (((a45.1 : Nat) : Int)))] : Slots) ++ forget _ _) (blk b37 83 [IfH.v (hslegs.getD x35 tyDev.dflt), .int .i64 (((a45.2 : Nat) : Int)), .int .i64 (0 : Int)] :: _)
       refine CJ_seq <| CJ_entX (Ent.transX (t4_ eR) (MirP_open (l := x33))) fun oc47 => CJ_pure (fun h hh => Rs_len (stars_perm (del2 (A := Rs (DevP bs) (x33.legs.map mlegS.dev) oc47.2.1)).out h hh)) fun hdl49 => lC del1 fun hlen50 => ?_
       rw [mk_mleg_len (by have := hdl49; simpa using this)] at hlen50
       refine lC del4 fun hlen51 => AJ_startH 1152 (by kernel_rfl) rfl <| aN 0 1 rfl rfl (P_move rfl) rfl <| aN 1 3 rfl rfl (P_move rfl) rfl <| aN 2 7 rfl rfl (P_nilCheck rfl) rfl <| aN 3 15 rfl rfl (P_fieldAddr rfl ⟨_, _, _, Try.runUnderlying74, rfl, rfl, Try.sizeOf70, rfl⟩) rfl <| aV 4 31 rfl rfl (GY_none rfl) eR (V_load rfl foc0 rfl Try.isAgg70) rfl <| aV 5 63 rfl rfl (GY_none rfl) eR (V_loadN rfl foc5 Try.isAgg83 Try.sizeOf83 rfl rfl) rfl <| AJ_op 6 127 rfl (by kernel_rfl) rfl (GY_none rfl) <| O_buildSlice rfl (bs_70_1_0 _ _ _ _) rfl fun b52 => ⟨fun _ => (t1_ (t1_ (t1_ (t1_ (t1_ (t1_ (t1_ (t1_ (t1_ (t1_ (t1_ (t1_ (t1_ (eD eR)))))))))))))), ?_⟩
       obtain ⟨hg6, h⟩ := grd_Le h
       refine AJ_op 7 255 rfl (by kernel_rfl) rfl (GY_none rfl) <| O_append (t := tymlegH) (bytes := 32) rfl rfl del2 foc0 (Reads.lit (t := tymlegH) (ys := [(⟨((hslegs.getD x35 tyDev.dflt) : IfH), ((a45.2 : Nat) : Int), (0 : Int)⟩ : mlegH)]) rfl rfl (by decide) (by decide) rfl) Try.underlying70 ok_tymlegH (apl (m := 1) (b := 32) (show (mk_mleg x33.legs oc47.2.1).length + 1 ≤ 1000000000 by rw [mk_mleg_len (by have := hdl49; simpa using this)]; exact hg6) (by decide)).1 (apl (m := 1) (b := 32) (show (mk_mleg x33.legs oc47.2.1).length + 1 ≤ 1000000000 by rw [mk_mleg_len (by have := hdl49; simpa using this)]; exact hg6) (by decide)).2 rfl fun p54 c55 => ⟨fun h => absurd h (by decide), ?_⟩
       refine AJ_ent (Ent.takeC (A' := sl tymlegH (.slice p54 (mk_mleg x33.legs oc47.2.1 ++ [(⟨((hslegs.getD x35 tyDev.dflt) : IfH), ((a45.2 : Nat) : Int), (0 : Int)⟩ : mlegH)]).length c55) (mk_mleg (x33.legs ++ [(⟨(legs.getD x35 dv0), ((a45.2 : Nat) : Int), (0 : Int)⟩ : mlegS)]) (oc47.2.1 ++ [((hslegs.getD x35 tyDev.dflt) : IfH)]))) del0 (congrArg (sl tymlegH _) (mk_mleg_snoc (by have := hdl49; simpa using this) (⟨(legs.getD x35 dv0), ((a45.2 : Nat) : Int), (0 : Int)⟩ : mlegS) ((hslegs.getD x35 tyDev.dflt) : IfH))) eR) <| AJ_ent (Ent.trans (t3_ (t7_ eR)) (Rs_push (x := (legs.getD x35 dv0)) (g := ((hslegs.getD x35 tyDev.dflt) : IfH)) (fun _ _ => Dup_DevP))) <| AJ_ent (Ent.takeC (A' := Rs (DevP bs) (((x33.legs ++ [(⟨(legs.getD x35 dv0), ((a45.2 : Nat) : Int), (0 : Int)⟩ : mlegS)])).map mlegS.dev) (oc47.2.1 ++ [((hslegs.getD x35 tyDev.dflt) : IfH)])) del0 (congrArg (fun z => Rs (DevP bs) z (oc47.2.1 ++ [((hslegs.getD x35 tyDev.dflt) : IfH)])) (by simp)) eR) <| AJ_pure (fun h hh => Rs_len (stars_perm (del0 (A := Rs (DevP bs) ((((x33.legs ++ [(⟨(legs.getD x35 dv0), ((a45.2 : Nat) : Int), (0 : Int)⟩ : mlegS)])).map mlegS.dev)) ((oc47.2.1 ++ [((hslegs.getD x35 tyDev.dflt) : IfH)])))).out h hh)) fun hdl56 => aN 8 511 rfl rfl (P_nilCheck rfl) rfl <| aN 9 1023 rfl rfl (P_fieldAddr rfl ⟨_, _, _, Try.runUnderlying74, rfl, rfl, Try.sizeOf70, rfl⟩) rfl <| AJ_op 10 2047 rfl (by kernel_rfl) rfl (GY_none rfl) <| O_store rfl rfl foc4 rfl rfl Try.sizeOf70 ?_
       refine ⟨fun h => absurd h (by decide), ?_⟩
       refine AJ_done (by kernel_rfl) <| QJ_ent (Ent.trans (t4_ (t2_ (t0_ (t2_ (t2_ eR))))) (MirP_mk (v0 := (x33.legs ++ [(⟨(legs.getD x35 dv0), ((a45.2 : Nat) : Int), (0 : Int)⟩ : mlegS)])) (v1 := x33.log) (v2 := x33.hasLog) (v3 := x33.logState) (v4 := x33.size) (v5 := x33.region) (v6 := x33.dirty) (v7 := x33.copied) (h0 := ⟨p54, (mk_mleg x33.legs oc47.2.1 ++ [(⟨((hslegs.getD x35 tyDev.dflt) : IfH), ((a45.2 : Nat) : Int), (0 : Int)⟩ : mlegH)]).length, c55⟩) (h1 := (oc47.2.1 ++ [((hslegs.getD x35 tyDev.dflt) : IfH)])) (h2 := oc47.2.2.1) (h3 := oc47.2.2.2))) <| QJ_ent (t0_ (t0_ (t2_ (t2_ (t2_ (t2_ (t2_ (t2_ (eD (eD eR)))))))))) <| QJ_then <| CJ_entX (Ent.transX (t0_ eR) (MirP_open (l := { x33 with legs := (x33.legs ++ [(⟨(legs.getD x35 dv0), ((a45.2 : Nat) : Int), (0 : Int)⟩ : mlegS)]) }))) fun oc57 => CJ_pure (fun h hh => Rs_len (stars_perm (del2 (A := Rs (DevP bs) ((((x33.legs ++ [(⟨(legs.getD x35 dv0), ((a45.2 : Nat) : Int), (0 : Int)⟩ : mlegS)])).map mlegS.dev)) oc57.2.1)).out h hh)) fun hdl59 => lC del1 fun hlen60 => ?_
       rw [mk_mleg_len (by have := hdl59; simpa using this)] at hlen60
       refine lC del4 fun hlen61 => AJ_startH 1024 (by kernel_rfl) rfl <| aN 0 1 rfl rfl (P_move rfl) rfl <| aN 1 3 rfl rfl (P_move rfl) rfl <| aN 2 7 rfl rfl (P_nilCheck rfl) rfl <| aN 3 15 rfl rfl (P_fieldAddr rfl ⟨_, _, _, Try.runUnderlying74, rfl, rfl, Try.sizeOf3, rfl⟩) rfl <| aV 4 31 rfl rfl (GY_none rfl) eR (V_load rfl foc0 rfl Try.isAgg3) rfl <| aN 5 63 rfl rfl (P_move rfl) rfl <| AJ_pure (fun h hh => DevP_dep h (stars_perm (del5 (A := DevP bs (legs.getD x35 dv0) (hslegs.getD x35 tyDev.dflt))).out h hh)) fun hdp62 => ?_
       obtain ⟨r63, hr64, h⟩ := bind_e h
       refine AJ_op 6 127 rfl (by kernel_rfl) rfl (GY_none rfl) <| O_callI rfl (dev_Size hr64 hdp62) rfl (Dels.cons del5 (Dels.cons del7 Dels.nil)) rfl fun _ _ => ⟨fun _ => (t2_ (t2_ (t2_ (t2_ (t2_ (t0_ (t1_ (t1_ eR)))))))), ?_⟩
       refine aN 7 255 rfl rfl (P_min (a := x33.size) (b := r63) rfl rfl) rfl <| aN 8 511 rfl rfl (P_nilCheck rfl) rfl <| aN 9 1023 rfl rfl (P_fieldAddr rfl ⟨_, _, _, Try.runUnderlying74, rfl, rfl, Try.sizeOf3, rfl⟩) rfl <| AJ_op 10 2047 rfl (by kernel_rfl) rfl (GY_none rfl) <| O_store rfl rfl foc2 rfl rfl Try.sizeOf3 <| ⟨fun h => absurd h (by decide), ?_⟩
       exact AJ_done (by kernel_rfl) <| QJ_ent (Ent.trans (t2_ (t2_ (t2_ (t2_ (t2_ eR))))) (MirP_mk (v0 := (x33.legs ++ [(⟨(legs.getD x35 dv0), ((a45.2 : Nat) : Int), (0 : Int)⟩ : mlegS)])) (v1 := x33.log) (v2 := x33.hasLog) (v3 := x33.logState) (v4 := (min x33.size r63)) (v5 := x33.region) (v6 := x33.dirty) (v7 := x33.copied) (h0 := oc57.1) (h1 := oc57.2.1) (h2 := oc57.2.2.1) (h3 := oc57.2.2.2))) <| QJ_block_normal <| QJ_ent (t0_ (t1_ (t1_ (t1_ (t1_ (t1_ (t1_ (eD eR)))))))) <| QJ_then <| CJ_region <| oP (PJ_eq (P_add (a := ((x35 : Nat) : Int)) (b := (1 : Int)) rfl rfl (by omega)) rfl) rfl <| oM rfl rfl <| RJ_nil <| nR ⟨n, (⟨(x33.legs ++ [(⟨(legs.getD x35 dv0), ((a45.2 : Nat) : Int), (0 : Int)⟩ : mlegS)]), x33.log, x33.hasLog, x33.logState, (min x33.size r63), x33.region, x33.dirty, x33.copied⟩ : MirS), a45.1, (x35 + 1)⟩ h ⟨rfl, rfl, True.intro⟩ (t0_ (t0_ (t1_ eR)))
     ·
      replace h := ite_f hg3 h
      exact CJ_exit <| QJ_then_exit <| QJ_round_exit <| QJ_block_here <| cR (x34, x33) (Option.some.inj h).symm ⟨rfl, True.intro⟩ eR
   ·
    rintro a32 hy65
    replace h := bindK_at hK28 hy65
    show CJ _ _ _ _ _ (([(13, .int .i64 (((a32.1 : Nat) : Int)))] : Slots) ++ forget _ _) (MirP bs b23 a32.2 :: _)
    refine CJ_seq <| sR <| oM rfl rfl <| oP (P_eql (a := ((a32.1 : Nat) : Int)) (b := (0 : Int)) rfl rfl) rfl <| nT <| CJ_condP rfl bT_dec (fun hg7 => ?_) (fun hg7 => ?_)
    ·
     replace h := ite_t hg7 h
     refine sR <| oA rfl rfl <| oA rfl rfl <| RJ_nil <| QJ_ent (t1_ (t1_ (t1_ (t2_ (t2_ (eD (eD eR))))))) <| QJ_then <| CJ_ret <| QJ_then_ret ?_
     cases h
     exact fE (res2 Try.results30 rfl rfl) 0 (t3_ (t1_ (t1_ (t1_ (t0_ (Ent.trans (fun h hh => optP_none h hh) <| t0_ eR))))))
    ·
     replace h := ite_f hg7 h
     refine kT <| CJ_seq <| CJ_entX (Ent.transX (t0_ eR) (MirP_open (l := a32.2))) fun oc66 => CJ_pure (fun h hh => Rs_len (stars_perm (del2 (A := Rs (DevP bs) (a32.2.legs.map mlegS.dev) oc66.2.1)).out h hh)) fun hdl68 => lC del1 fun hlen69 => ?_
     rw [mk_mleg_len (by have := hdl68; simpa using this)] at hlen69
     refine lC del4 fun hlen70 => CJ_region <| oM rfl rfl <| oM rfl rfl <| oP (P_nilCheck rfl) rfl <| oP (P_fieldAddr rfl ⟨_, _, _, Try.runUnderlying74, rfl, rfl, Try.sizeOf3, rfl⟩) rfl <| oV (V_load rfl foc0 rfl Try.isAgg3) rfl <| oM rfl rfl ?_
     obtain ⟨r71, hr72, h⟩ := bind_e h
     refine oO <| O_call (L_mirror_Regions hr72) rfl Try.call11 Dels.nil rfl fun _ _ => ?_
     obtain ⟨hg8, h⟩ := grd_de h
     refine oO <| O_make (t := tyB) (m := (r71).toNat) (x0 := false) (z := _) (bytes := _) rfl rfl (Int.toNat_of_nonneg (hg8.1)).symm (Int.toNat_of_nonneg (hg8.1)).symm Try.underlying31 ⟨Try.t4, by kernel_rfl, rfl, rfl, rfl⟩ rfl (by omega) (by decide) rfl fun b73 => oP (P_nilCheck rfl) rfl <| oP (P_fieldAddr rfl ⟨_, _, _, Try.runUnderlying74, rfl, rfl, Try.sizeOf31, rfl⟩) rfl <| oO <| O_store rfl rfl foc1 rfl rfl Try.sizeOf31 <| RJ_nil <| QJ_ent (Ent.trans (t1_ (t1_ (t1_ (t1_ eR)))) (MirP_mk (v0 := a32.2.legs) (v1 := a32.2.log) (v2 := a32.2.hasLog) (v3 := a32.2.logState) (v4 := a32.2.size) (v5 := a32.2.region) (v6 := (List.replicate ((r71).toNat) false)) (v7 := a32.2.copied) (h0 := oc66.1) (h1 := oc66.2.1) (h2 := oc66.2.2.1) (h3 := ⟨some ⟨b73, 0, none⟩, (r71).toNat, (r71).toNat⟩))) <| QJ_ent (t0_ (t1_ (t1_ (t1_ (t1_ (t1_ (t1_ (eD eR)))))))) <| QJ_then <| CJ_seq <| sR <| oM rfl rfl <| oV (V_load rfl foc4 rfl Try.isAgg3) rfl ?_
     obtain ⟨r74, hr75, h⟩ := bind_e h
     refine oO <| O_call (L_slices_Contains_int rstaleLegs hr75) rfl Try.call36 (Dels.cons del3 Dels.nil) rfl fun _ _ => oM rfl rfl <| RJ_mbF rfl rfl rfl (fun hG76 => have hP77 : ¬ r74 = true := nP (Iff.rfl) hG76; VJ_P (P_move rfl)) <| RJ_mbF rfl rfl rfl (fun hG78 => have hP79 : ¬ r74 = true := nP (Iff.rfl) hG78; VJ_P (P_nilCheck (mbx hG78 rfl))) <| RJ_mbF rfl rfl rfl (fun hG80 => have hP81 : ¬ r74 = true := nP (Iff.rfl) hG80; VJ_P (P_fieldAddr (mbx hG80 rfl) ⟨_, _, _, Try.runUnderlying74, rfl, rfl, Try.sizeOf4, rfl⟩)) <| RJ_mbF rfl rfl rfl (fun hG82 => have hP83 : ¬ r74 = true := nP (Iff.rfl) hG82; VJ_entX (Ent.transX (t1_ eR) (MirP_open (l := { a32.2 with dirty := (List.replicate ((r71).toNat) false) }))) (fun _ => V_load (mbx hG82 rfl) foc0 rfl Try.isAgg4)) <| RJ_mbF rfl rfl rfl (fun hG84 => have hP85 : ¬ r74 = true := nP (Iff.rfl) hG84; VJ_P (P_not (mbx hG84 rfl))) <| oP (P_pickOr rfl rfl (fun hh => mbx (not_f hh) rfl)) rfl <| RJ_nil <| QJ_ent (t0_ (t0_ (t0_ (t0_ (t1_ (t1_ (eD eR))))))) <| QJ_then <| CJ_condP rfl (bT_or Iff.rfl (bT_not Iff.rfl)) (fun hg9 => ?_) (fun hg9 => ?_)
     ·
      replace h := ite_t hg9 h
      refine CJ_seq <| CJ_entX (Ent.transX (t1_ eR) (MirP_open (l := { a32.2 with dirty := (List.replicate ((r71).toNat) false) }))) fun oc86 => CJ_pure (fun h hh => Rs_len (stars_perm (del2 (A := Rs (DevP bs) (a32.2.legs.map mlegS.dev) oc86.2.1)).out h hh)) fun hdl88 => lC del1 fun hlen89 => ?_
      rw [mk_mleg_len (by have := hdl88; simpa using this)] at hlen89
      refine lC del4 fun hlen90 => CJ_region <| oM rfl rfl <| oP (P_nilCheck rfl) rfl <| oP (P_fieldAddr rfl ⟨_, _, _, Try.runUnderlying74, rfl, rfl, Try.sizeOf72, rfl⟩) rfl <| oO <| O_store rfl rfl foc0 rfl rfl Try.sizeOf72 <| RJ_nil <| QJ_ent (Ent.trans eR (MirP_mk (v0 := a32.2.legs) (v1 := a32.2.log) (v2 := a32.2.hasLog) (v3 := (2 : Int)) (v4 := a32.2.size) (v5 := a32.2.region) (v6 := (List.replicate ((r71).toNat) false)) (v7 := a32.2.copied) (h0 := oc86.1) (h1 := oc86.2.1) (h2 := oc86.2.2.1) (h3 := oc86.2.2.2))) <| QJ_then <| CJ_seq <| CJ_seq <| CJ_entX (Ent.transX (t0_ eR) (MirP_open (l := (⟨a32.2.legs, a32.2.log, a32.2.hasLog, (2 : Int), a32.2.size, a32.2.region, (List.replicate ((r71).toNat) false), a32.2.copied⟩ : MirS)))) fun oc91 => CJ_pure (fun h hh => Rs_len (stars_perm (del2 (A := Rs (DevP bs) (a32.2.legs.map mlegS.dev) oc91.2.1)).out h hh)) fun hdl93 => lC del1 fun hlen94 => ?_
      rw [mk_mleg_len (by have := hdl93; simpa using this)] at hlen94
      refine lC del4 fun hlen95 => CJ_region <| oM rfl rfl <| oP (P_nilCheck rfl) rfl <| oP (P_fieldAddr rfl ⟨_, _, _, Try.runUnderlying74, rfl, rfl, Try.sizeOf31, rfl⟩) rfl <| oV (V_load rfl foc0 rfl Try.isAgg31) rfl <| oV (V_len rfl foc4 (Reads.sl _ _ _) Try.runUnderlying31) rfl <| oM rfl rfl <| RJ_nil <| QJ_ent (Ent.trans eR (MirP_mk (v0 := a32.2.legs) (v1 := a32.2.log) (v2 := a32.2.hasLog) (v3 := (2 : Int)) (v4 := a32.2.size) (v5 := a32.2.region) (v6 := (List.replicate ((r71).toNat) false)) (v7 := a32.2.copied) (h0 := oc91.1) (h1 := oc91.2.1) (h2 := oc91.2.2.1) (h3 := oc91.2.2.2))) <| QJ_then ?_
      obtain ⟨y98, hl96, hK97⟩ := bind_c h
      refine CJ_cutT (X := MirS) [17, 119, 120, 121, 122, 123, 124, 125, 126, 127, 128] (fun a100 => ([] : Slots)) (fun a100 R => MirP bs b23 a100 :: R) (fun a100 => y98 = a100) (Dels.cons del0 Dels.nil) ?_ ?_
      ·
       refine CJ_block <| CJ_loopR (X := Nat × MirS × Nat) [17, 119, 120, 121, 122, 123, 124, 125, 126, 127, 128] (fun ⟨n, x101, x102⟩ => ([(119, .int .i64 (((x102 : Nat) : Int)))] : Slots)) (fun ⟨n, x101, x102⟩ R => MirP bs b23 x101 :: R) (fun ⟨n, x101, x102⟩ => mirror_Open_l3 r71 n x101 x102 = some y98) (fun ⟨n, x101, x102⟩ => n) ⟨FUEL, (⟨a32.2.legs, a32.2.log, a32.2.hasLog, (2 : Int), a32.2.size, a32.2.region, (List.replicate ((r71).toNat) false), a32.2.copied⟩ : MirS), 0⟩ ?_ ?_ eR ?_
       · exact hl96
       · exact ⟨rfl, True.intro⟩
       ·
        rintro ⟨n, x101, x102⟩ h
        cases n with
        | zero => exact none_e h
        | succ n => ?_
        replace h : mirror_Open_l3_b r71 (mirror_Open_l3 r71 n) x101 x102 = some y98 := h
        unfold mirror_Open_l3_b at h
        show CJ _ _ _ _ _ (([(119, .int .i64 (((x102 : Nat) : Int)))] : Slots) ++ forget _ _) (MirP bs b23 x101 :: _)
        refine sR <| oP (P_lss (a := ((x102 : Nat) : Int)) (b := ((((List.replicate ((r71).toNat) false)).length : Nat) : Int)) rfl rfl) rfl <| nT <| CJ_seq <| CJ_condP rfl bT_dec (fun hg10 => ?_) (fun hg10 => ?_)
        ·
         replace h := ite_t hg10 h
         refine kT <| CJ_seq <| CJ_block <| sR <| oM rfl rfl <| oA rfl rfl <| nT <| CJ_entX (Ent.transX (t0_ eR) (MirP_open (l := x101))) fun oc103 => CJ_pure (fun h hh => Rs_len (stars_perm (del2 (A := Rs (DevP bs) (x101.legs.map mlegS.dev) oc103.2.1)).out h hh)) fun hdl105 => lC del1 fun hlen106 => ?_
         rw [mk_mleg_len (by have := hdl105; simpa using this)] at hlen106
         refine lC del4 fun hlen107 => CJ_region <| oM rfl rfl <| oP (P_nilCheck rfl) rfl <| oP (P_fieldAddr rfl ⟨_, _, _, Try.runUnderlying74, rfl, rfl, Try.sizeOf31, rfl⟩) rfl <| oV (V_load rfl foc0 rfl Try.isAgg31) rfl <| oM rfl rfl ?_
         obtain ⟨hg11, h⟩ := grd_de h
         refine oV (V_index (i := x102) rfl rfl rfl hg11 foc4 (Reads.sl _ _ _) Try.runUnderlying31 Try.sizeOf4) rfl <| oO <| O_storeE (x' := true) rfl rfl rfl hg11 foc4 rfl rfl rfl Try.sizeOf4 <| RJ_nil <| QJ_ent (Ent.trans eR (MirP_mk (v0 := x101.legs) (v1 := x101.log) (v2 := x101.hasLog) (v3 := x101.logState) (v4 := x101.size) (v5 := x101.region) (v6 := (x101.dirty.set x102 true)) (v7 := x101.copied) (h0 := oc103.1) (h1 := oc103.2.1) (h2 := oc103.2.2.1) (h3 := oc103.2.2.2))) <| QJ_block_normal <| QJ_then <| CJ_region ?_
         obtain ⟨hg12, h⟩ := grd_Ne h
         exact oP (PJ_eq (P_add (a := ((x102 : Nat) : Int)) (b := (1 : Int)) rfl rfl (nat_in hg12)) rfl) rfl <| oM rfl rfl <| RJ_nil <| nR ⟨n, { x101 with dirty := (x101.dirty.set x102 true) }, (x102 + 1)⟩ h ⟨rfl, True.intro⟩ eR
        ·
         replace h := ite_f hg10 h
         exact CJ_exit <| QJ_then_exit <| QJ_round_exit <| QJ_block_here <| cR x101 (Option.some.inj h).symm True.intro eR
      ·
       rintro a100 hy108
       replace h := bindK_at hK97 hy108
       show CJ _ _ _ _ _ (([] : Slots) ++ forget _ _) (MirP bs b23 a100 :: _)
       refine sR <| oM rfl rfl <| oA rfl rfl <| oA rfl rfl <| nT <| CJ_ret <| QJ_then_ret ?_
       cases h
       exact fE (res2 Try.results30 rfl rfl) b23 (t4_ (t3_ (t1_ (t2_ (t1_ eR)))))
     ·
      replace h := ite_f hg9 h
      refine kT <| CJ_seq <| CJ_entX (Ent.transX (t1_ eR) (MirP_open (l := { a32.2 with dirty := (List.replicate ((r71).toNat) false) }))) fun oc109 => CJ_pure (fun h hh => Rs_len (stars_perm (del2 (A := Rs (DevP bs) (a32.2.legs.map mlegS.dev) oc109.2.1)).out h hh)) fun hdl111 => lC del1 fun hlen112 => ?_
      rw [mk_mleg_len (by have := hdl111; simpa using this)] at hlen112
      refine lC del4 fun hlen113 => CJ_region <| oM rfl rfl <| oM rfl rfl <| oP (P_nilCheck rfl) rfl <| oP (P_fieldAddr rfl ⟨_, _, _, Try.runUnderlying74, rfl, rfl, Try.sizeOf31, rfl⟩) rfl <| oV (V_load rfl foc0 rfl Try.isAgg31) rfl <| oV (V_len rfl foc4 (Reads.sl _ _ _) Try.runUnderlying31) rfl ?_
      obtain ⟨r114, hr115, h⟩ := bind_e h
      refine oO <| O_call (L_regionlog_Open hr115) rfl Try.call61 (Dels.cons del9 (Dels.cons del6 Dels.nil)) rfl fun X116 _ => oM rfl rfl <| oP (P_extract rfl rfl) rfl <| oP (P_extract rfl rfl) rfl <| oA rfl rfl <| oA rfl rfl <| RJ_nil <| QJ_ent (Ent.trans (t3_ (t3_ (t3_ (t3_ (t3_ eR))))) (MirP_mk (v0 := a32.2.legs) (v1 := a32.2.log) (v2 := a32.2.hasLog) (v3 := a32.2.logState) (v4 := a32.2.size) (v5 := a32.2.region) (v6 := (List.replicate ((r71).toNat) false)) (v7 := a32.2.copied) (h0 := oc109.1) (h1 := oc109.2.1) (h2 := oc109.2.2.1) (h3 := oc109.2.2.2))) <| QJ_then <| CJ_seq <| sR <| oM rfl rfl <| oP (P_neq (a := r114.2) (b := (0 : Int)) rfl rfl) rfl <| oM rfl rfl <| RJ_mbT rfl rfl rfl (fun hG118 => have hP119 : (r114.2 ≠ (0 : Int)) := (bT_dec).1 hG118; VJ_P (P_move rfl)) <| RJ_mbT rfl rfl rfl (fun hG120 => have hP121 : (r114.2 ≠ (0 : Int)) := (bT_dec).1 hG120; VJ_P (P_neq (a := r114.2) (b := (5 : Int)) (mbx hG120 rfl) rfl)) <| oP (P_pickAnd rfl (fun hh => mbx hh rfl) rfl) rfl <| nT <| CJ_condP rfl (bT_and bT_dec bT_dec) (fun hg13 => ?_) (fun hg13 => ?_)
      ·
       replace h := ite_t hg13 h
       refine sR <| oA rfl rfl <| oA rfl rfl <| RJ_nil <| QJ_ent (t1_ (t1_ (t2_ (t2_ (t2_ (eD (eD eR))))))) <| QJ_then <| CJ_ret <| QJ_then_ret ?_
       cases h
       exact fE (res2 Try.results30 rfl rfl) 0 (t4_ (t3_ (t2_ (t0_ (t0_ (Ent.trans (fun h hh => optP_none h hh) <| t0_ eR))))))
      ·
       replace h := ite_f hg13 h
       refine kT <| CJ_seq <| sR <| oM rfl rfl <| oP (P_neq (a := r114.2) (b := (0 : Int)) rfl rfl) rfl <| nT <| CJ_condP rfl bT_dec (fun hg14 => ?_) (fun hg14 => ?_)
       ·
        replace h := ite_t hg14 h
        refine sR <| oM rfl rfl <| oA rfl rfl <| oA rfl rfl <| RJ_nil <| QJ_ent (t1_ (t1_ (t2_ (t2_ (t2_ (eD (eD eR))))))) <| QJ_then <| CJ_ret <| QJ_then_ret ?_
        cases h
        exact fE (res2 Try.results30 rfl rfl) 0 (t4_ (t3_ (t2_ (t0_ (t0_ (Ent.trans (fun h hh => optP_none h hh) <| t0_ eR))))))
       ·
        replace h := ite_f hg14 h
        refine kT <| CJ_seq <| CJ_entX (Ent.transX (t0_ eR) (MirP_open (l := { a32.2 with dirty := (List.replicate ((r71).toNat) false) }))) fun oc122 => CJ_pure (fun h hh => Rs_len (stars_perm (del2 (A := Rs (DevP bs) (a32.2.legs.map mlegS.dev) oc122.2.1)).out h hh)) fun hdl124 => lC del1 fun hlen125 => ?_
        rw [mk_mleg_len (by have := hdl124; simpa using this)] at hlen125
        refine lC del4 fun hlen126 => CJ_region <| oM rfl rfl <| oM rfl rfl <| oP (P_nilCheck rfl) rfl <| oP (P_fieldAddr rfl ⟨_, _, _, Try.runUnderlying74, rfl, rfl, Try.sizeOf71, rfl⟩) rfl <| oO <| O_store rfl rfl foc0 rfl oneCell_oval Try.sizeOf71 <| RJ_nil <| QJ_ent (t0_ (t0_ (t0_ (t1_ (t1_ (t1_ (t1_ (t1_ (t1_ (t1_ (eD eR))))))))))) <| QJ_then <| CJ_seq <| sR <| oM rfl rfl ?_
        rcases opt_e h with ⟨ht127, h⟩ | ⟨o128, ht127, h⟩
        ·
         rw [ht127]
         exact RJ_ent (t0_ (t0_ (t0_ (t0_ (t0_ (t0_ (t1_ (t1_ (t1_ (eD eR)))))))))) <| none_e h
        ·
         rw [ht127]
         refine RJ_ent (Ent.takeC (A' := LogP bs X116 o128) del6 rfl eR) ?_
         obtain ⟨r129, hr130, h⟩ := bind_e h
         refine oO <| O_call (L_regionlog_Log_Dirty hr130) rfl Try.call62 (Dels.cons del0 (Dels.cons del5 Dels.nil)) rfl fun X131 _ => oV (V_len rfl foc2 (Reads.sl _ _ _) Try.runUnderlying22) rfl <| oM rfl rfl <| nT <| CJ_ent (Ent.trans (t3_ (t3_ (t3_ (t0_ (t2_ eR))))) (MirP_mk (v0 := a32.2.legs) (v1 := (some o128)) (v2 := a32.2.hasLog) (v3 := a32.2.logState) (v4 := a32.2.size) (v5 := a32.2.region) (v6 := (List.replicate ((r71).toNat) false)) (v7 := a32.2.copied) (h0 := oc122.1) (h1 := oc122.2.1) (h2 := X116) (h3 := oc122.2.2.2))) ?_
         obtain ⟨y135, hl133, hK134⟩ := bind_c h
         refine CJ_cutT (X := MirS) [21, 156, 157, 158, 159, 160, 161, 162, 163, 164, 165, 166] (fun a137 => ([] : Slots)) (fun a137 R => MirP bs b23 a137 :: R) (fun a137 => y135 = a137) (Dels.cons del0 Dels.nil) ?_ ?_
         ·
          refine CJ_block <| CJ_loopR (X := Nat × MirS × Nat) [21, 156, 157, 158, 159, 160, 161, 162, 163, 164, 165, 166] (fun ⟨n, x138, x139⟩ => ([(156, .int .i64 (((x139 : Nat) : Int)))] : Slots)) (fun ⟨n, x138, x139⟩ R => MirP bs b23 x138 :: R) (fun ⟨n, x138, x139⟩ => mirror_Open_l4 r129 n x138 x139 = some y135) (fun ⟨n, x138, x139⟩ => n) ⟨FUEL, (⟨a32.2.legs, (some o128), a32.2.hasLog, a32.2.logState, a32.2.size, a32.2.region, (List.replicate ((r71).toNat) false), a32.2.copied⟩ : MirS), 0⟩ ?_ ?_ eR ?_
          · exact hl133
          · exact ⟨rfl, True.intro⟩
          ·
           rintro ⟨n, x138, x139⟩ h
           cases n with
           | zero => exact none_e h
           | succ n => ?_
           replace h : mirror_Open_l4_b r129 (mirror_Open_l4 r129 n) x138 x139 = some y135 := h
           unfold mirror_Open_l4_b at h
           show CJ _ _ _ _ _ (([(156, .int .i64 (((x139 : Nat) : Int)))] : Slots) ++ forget _ _) (MirP bs b23 x138 :: _)
           refine sR <| oP (P_lss (a := ((x139 : Nat) : Int)) (b := ((r129.length : Nat) : Int)) rfl rfl) rfl <| nT <| CJ_seq <| CJ_condP rfl bT_dec (fun hg15 => ?_) (fun hg15 => ?_)
           ·
            replace h := ite_t hg15 h
            refine kT <| CJ_seq <| CJ_block <| sR <| oV (V_index (i := x139) rfl rfl rfl (by omega) foc2 (Reads.sl _ _ _) Try.runUnderlying22 Try.sizeOf3) rfl <| oV (V_loadE rfl rfl (by omega) foc2 (Reads.sl _ _ _) rfl rfl Try.isAgg3) rfl <| oA rfl rfl <| nT <| CJ_entX (Ent.transX (t0_ eR) (MirP_open (l := x138))) fun oc140 => CJ_pure (fun h hh => Rs_len (stars_perm (del2 (A := Rs (DevP bs) (x138.legs.map mlegS.dev) oc140.2.1)).out h hh)) fun hdl142 => lC del1 fun hlen143 => ?_
            rw [mk_mleg_len (by have := hdl142; simpa using this)] at hlen143
            refine lC del4 fun hlen144 => CJ_region <| oM rfl rfl <| oP (P_nilCheck rfl) rfl <| oP (P_fieldAddr rfl ⟨_, _, _, Try.runUnderlying74, rfl, rfl, Try.sizeOf31, rfl⟩) rfl <| oV (V_load rfl foc0 rfl Try.isAgg31) rfl <| oM rfl rfl ?_
            obtain ⟨hg16, h⟩ := grd_de h
            refine oV (V_index (i := ((r129.getD x139 0)).toNat) rfl rfl (Int.toNat_of_nonneg (hg16.1)).symm (by omega) foc4 (Reads.sl _ _ _) Try.runUnderlying31 Try.sizeOf4) rfl <| oO <| O_storeE (x' := true) rfl rfl rfl (by omega) foc4 rfl rfl rfl Try.sizeOf4 <| RJ_nil <| QJ_ent (Ent.trans eR (MirP_mk (v0 := x138.legs) (v1 := x138.log) (v2 := x138.hasLog) (v3 := x138.logState) (v4 := x138.size) (v5 := x138.region) (v6 := (x138.dirty.set (((r129.getD x139 0)).toNat) true)) (v7 := x138.copied) (h0 := oc140.1) (h1 := oc140.2.1) (h2 := oc140.2.2.1) (h3 := oc140.2.2.2))) <| QJ_block_normal <| QJ_then <| CJ_region ?_
            obtain ⟨hg17, h⟩ := grd_Ne h
            exact oP (PJ_eq (P_add (a := ((x139 : Nat) : Int)) (b := (1 : Int)) rfl rfl (nat_in hg17)) rfl) rfl <| oM rfl rfl <| RJ_nil <| nR ⟨n, { x138 with dirty := (x138.dirty.set (((r129.getD x139 0)).toNat) true) }, (x139 + 1)⟩ h ⟨rfl, True.intro⟩ eR
           ·
            replace h := ite_f hg15 h
            exact CJ_exit <| QJ_then_exit <| QJ_round_exit <| QJ_block_here <| cR x138 (Option.some.inj h).symm True.intro eR
         ·
          rintro a137 hy145
          replace h := bindK_at hK134 hy145
          show CJ _ _ _ _ _ (([] : Slots) ++ forget _ _) (MirP bs b23 a137 :: _)
          refine sR <| oM rfl rfl <| oA rfl rfl <| oA rfl rfl <| RJ_nil <| QJ_ent (t0_ (t0_ (t1_ (t1_ (t1_ (t1_ (eD eR))))))) <| QJ_then <| CJ_ret ?_
          cases h
          exact fE (res2 Try.results30 rfl rfl) b23 (t5_ (t4_ (t3_ (t2_ (t1_ eR)))))
def mirror_Mirror_Size (m : MirS) (s : ArrS) : Option (Int) :=
  some m.size
theorem L_mirror_Mirror_Size {W : World} {bm : Nat} {bs : Nat} {m : MirS} {s : ArrS} {r : Int} (h : mirror_Mirror_Size m s = some r) :
    CSpec Try.prog W 15 [ptr bm 0] [MirP bs bm m, Arr bs s] (fun x : Unit => .int .i64 r) (fun _ => True) (fun x F => MirP bs bm m :: Arr bs s :: F) := by
 refine CSpec.of_body Try.func15 rfl Try.ntmps15 rfl fun F => ?_
 show CJ _ _ _ _ _ _ (_ :: _ :: F)
 unfold mirror_Mirror_Size at h
 refine sR <| oA rfl rfl <| nT <| sR <| oM rfl rfl <| oP (P_nilCheck rfl) rfl <| oP (P_fieldAddr rfl ⟨_, _, _, Try.runUnderlying74, rfl, rfl, Try.sizeOf3, rfl⟩) rfl <| oV (VJ_entX (Ent.transX (t0_ eR) (MirP_open (l := m))) (fun _ => V_load rfl foc0 rfl Try.isAgg3)) rfl <| oA rfl rfl <| nT <| CJ_ret ?_
 cases h
 exact fE (res1 Try.results15 rfl) () eR
def mirror_Mirror_Failed_l1_b (m : MirS) (rec : Nat → (List Int) → Option ((List Int))) (x13 : Nat) (x14 : List Int) : Option ((List Int)) :=
  if (((x13 : Nat) : Int) < ((m.legs.length : Nat) : Int)) then
    if ((m.legs.getD x13 mleg_x0).state = (1 : Int)) then
      grd (inLen (x14.length + 1)) <|
      rec (x13 + 1) ((x14 ++ [((x13 : Nat) : Int)]))
    else
      rec (x13 + 1) x14
  else
    some x14
def mirror_Mirror_Failed_l1 (m : MirS) : Nat → Nat → (List Int) → Option ((List Int))
  | 0, _, _ => none
  | n + 1, x13, x14 => mirror_Mirror_Failed_l1_b m (mirror_Mirror_Failed_l1 m n) x13 x14
def mirror_Mirror_Failed (m : MirS) (s : ArrS) : Option ((List Int)) :=
  Option.bind (mirror_Mirror_Failed_l1 m FUEL 0 ([])) fun a12 =>
  if (m.hasLog = true ∧ (m.logState = (1 : Int))) then
    grd (inLen (a12.length + 1)) <|
    some ((a12 ++ [((m.legs.length : Nat) : Int)]))
  else
    some a12
theorem L_mirror_Mirror_Failed {W : World} {bm : Nat} {bs : Nat} {m : MirS} {s : ArrS} {r : (List Int)} (h : mirror_Mirror_Failed m s = some r) :
    CSpec Try.prog W 63 [ptr bm 0] [MirP bs bm m, Arr bs s] (fun x : Sl3 => x.v) (fun _ => True) (fun x F => MirP bs bm m :: Arr bs s :: sl tyI x.v r :: F) := by
 refine CSpec.of_body Try.func63 rfl Try.ntmps63 rfl fun F => ?_
 show CJ _ _ _ _ _ _ (_ :: _ :: F)
 unfold mirror_Mirror_Failed at h
 refine sR <| oA rfl rfl <| nT <| sR <| oA rfl rfl <| nT <| CJ_seq <| CJ_seq <| CJ_entX (Ent.transX (t0_ eR) (MirP_open (l := m))) fun oc1 => CJ_pure (fun h hh => Rs_len (stars_perm (del2 (A := Rs (DevP bs) (m.legs.map mlegS.dev) oc1.2.1)).out h hh)) fun hdl3 => lC del1 fun hlen4 => ?_
 rw [mk_mleg_len (by have := hdl3; simpa using this)] at hlen4
 refine lC del4 fun hlen5 => CJ_region <| oM rfl rfl <| oP (P_nilCheck rfl) rfl <| oP (P_fieldAddr rfl ⟨_, _, _, Try.runUnderlying74, rfl, rfl, Try.sizeOf70, rfl⟩) rfl <| oV (V_load rfl foc0 rfl Try.isAgg70) rfl <| oV (VJ_eq (V_len rfl foc1 (Reads.sl _ _ _) Try.runUnderlying70) (congrArg (fun z : Nat => Value.int .i64 (z : Int)) (mk_mleg_len (by have := hdl3; simpa using this)).symm)) rfl <| oM rfl rfl <| nT <| CJ_ent (fun h hh => sl_nil (t := tyI) h hh) ?_
 obtain ⟨y9, hl7, hK8⟩ := bind_c h
 refine CJ_cutT (X := (List Int) × Sl3) [3, 4, 5, 11, 12, 13, 14, 15, 16, 17, 18, 19, 20, 21, 22, 23] (fun ⟨a12, hd11⟩ => ([(3, hd11.v)] : Slots)) (fun ⟨a12, hd11⟩ R => sl tyI hd11.v a12 :: R) (fun ⟨a12, hd11⟩ => y9 = a12) (Dels.cons del0 Dels.nil) ?_ ?_
 ·
  refine CJ_block <| CJ_loopR (X := Nat × Nat × (List Int) × Sl3) [3, 4, 5, 11, 12, 13, 14, 15, 16, 17, 18, 19, 20, 21, 22, 23] (fun ⟨n, x13, x14, hd15⟩ => ([(3, hd15.v), (11, .int .i64 (((x13 : Nat) : Int)))] : Slots)) (fun ⟨n, x13, x14, hd15⟩ R => sl tyI hd15.v x14 :: R) (fun ⟨n, x13, x14, hd15⟩ => mirror_Mirror_Failed_l1 m n x13 x14 = some y9) (fun ⟨n, x13, x14, hd15⟩ => n) ⟨FUEL, 0, [], ⟨none, 0, 0⟩⟩ ?_ ?_ eR ?_
  · exact hl7
  · exact ⟨rfl, rfl, True.intro⟩
  ·
   rintro ⟨n, x13, x14, hd15⟩ h
   cases n with
   | zero => exact none_e h
   | succ n => ?_
   replace h : mirror_Mirror_Failed_l1_b m (mirror_Mirror_Failed_l1 m n) x13 x14 = some y9 := h
   unfold mirror_Mirror_Failed_l1_b at h
   show CJ _ _ _ _ _ (([(3, hd15.v), (11, .int .i64 (((x13 : Nat) : Int)))] : Slots) ++ forget _ _) (sl tyI hd15.v x14 :: _)
   refine lC del0 fun hlen16 => sR <| oP (P_lss (a := ((x13 : Nat) : Int)) (b := ((m.legs.length : Nat) : Int)) rfl rfl) rfl <| nT <| CJ_seq <| CJ_condP rfl bT_dec (fun hg1 => ?_) (fun hg1 => ?_)
   ·
    replace h := ite_t hg1 h
    refine kT <| CJ_seq <| CJ_block <| sR <| oM rfl rfl <| oV (V_index (i := x13) rfl rfl rfl (show x13 < (mk_mleg m.legs oc1.2.1).length by rw [mk_mleg_len (by have := hdl3; simpa using this)]; exact (by omega)) foc2 (Reads.sl _ _ _) Try.runUnderlying70 Try.sizeOf83) rfl <| RJ_ent (Ent.trans (t3_ eR) (mk_mleg_rs (i := x13) (by omega))) <| oV (VJ_eq (V_loadEN rfl rfl (show x13 < (mk_mleg m.legs oc1.2.1).length by rw [mk_mleg_len (by have := hdl3; simpa using this)]; exact (by omega)) foc4 (Reads.sl _ _ _) rfl rfl Try.isAgg83 Try.sizeOf83) (show Value.agg #[IfH.v (oc1.2.1.getD x13 tyDev.dflt), .int .i64 ((m.legs.getD x13 mleg_x0).state), .int .i64 ((m.legs.getD x13 mleg_x0).copied)] = Value.agg #[IfH.v ((mk_mleg m.legs oc1.2.1).getD x13 mleg_h0).dev, .int .i64 ((mk_mleg m.legs oc1.2.1).getD x13 mleg_h0).state, .int .i64 ((mk_mleg m.legs oc1.2.1).getD x13 mleg_h0).copied] from by rw [mk_mleg_at (by have := hdl3; simpa using this)])) rfl <| oO <| O_alloc Try.zeroValue83 rfl rfl fun b18 => oA rfl rfl <| oO <| O_storeN rfl rfl foc0 Try.sizeOf83 rfl rfl rfl <| nT <| sR <| oP (P_fieldAddr rfl ⟨_, _, _, Try.runUnderlying83, rfl, rfl, Try.sizeOf72, rfl⟩) rfl <| oV (V_load rfl foc0 rfl Try.isAgg72) rfl <| oP (P_eql (a := (m.legs.getD x13 mleg_x0).state) (b := (1 : Int)) rfl rfl) rfl <| RJ_nil <| QJ_ent (t2_ (t2_ (t2_ (t2_ (t2_ (t2_ (t2_ (eD (eD eR))))))))) <| QJ_then ?_
    refine CJ_condP rfl bT_dec (fun hg2 => ?_) (fun hg2 => ?_)
    ·
     replace h := ite_t hg2 h
     refine CJ_region <| oM rfl rfl <| oM rfl rfl <| oO <| O_buildSlice rfl (bs_22_1_0 _) rfl fun b19 => ?_
     obtain ⟨hg3, h⟩ := grd_Le h
     exact oO <| O_append (t := tyI) (bytes := 8) rfl rfl del2 foc0 (Reads.lit (t := tyI) (ys := [((x13 : Nat) : Int)]) rfl rfl (by decide) (by decide) rfl) Try.underlying22 ok_tyI (apl (m := 1) (b := 8) hg3 (by decide)).1 (apl (m := 1) (b := 8) hg3 (by decide)).2 rfl fun p21 c22 => oA rfl rfl <| RJ_nil <| QJ_block_normal <| QJ_ent (t0_ (t1_ (t1_ (t1_ (t1_ (t1_ (t1_ (eD eR)))))))) <| QJ_then <| CJ_region <| oP (PJ_eq (P_add (a := ((x13 : Nat) : Int)) (b := (1 : Int)) rfl rfl (by omega)) rfl) rfl <| oM rfl rfl <| RJ_nil <| nR ⟨n, (x13 + 1), (x14 ++ [((x13 : Nat) : Int)]), ⟨p21, (x14 ++ [((x13 : Nat) : Int)]).length, c22⟩⟩ h ⟨rfl, rfl, True.intro⟩ (t0_ (t1_ (t1_ eR)))
    ·
     replace h := ite_f hg2 h
     exact CJ_skip <| QJ_block_normal <| QJ_then <| CJ_region <| oP (PJ_eq (P_add (a := ((x13 : Nat) : Int)) (b := (1 : Int)) rfl rfl (by omega)) rfl) rfl <| oM rfl rfl <| RJ_nil <| nR ⟨n, (x13 + 1), x14, hd15⟩ h ⟨rfl, rfl, True.intro⟩ (t1_ (t1_ (t1_ eR)))
   ·
    replace h := ite_f hg1 h
    exact CJ_exit <| QJ_then_exit <| QJ_round_exit <| QJ_block_here <| cR ⟨x14, hd15⟩ (Option.some.inj h).symm ⟨rfl, True.intro⟩ eR
 ·
  rintro ⟨a12, hd11⟩ hy23
  replace h := bindK_at hK8 hy23
  show CJ _ _ _ _ _ (([(3, hd11.v)] : Slots) ++ forget _ _) (sl tyI hd11.v a12 :: _)
  refine lC del0 fun hlen24 => CJ_seq <| sR <| oM rfl rfl <| oP (P_nilCheck rfl) rfl <| oP (P_fieldAddr rfl ⟨_, _, _, Try.runUnderlying74, rfl, rfl, Try.sizeOf4, rfl⟩) rfl <| oV (V_load rfl foc1 rfl Try.isAgg4) rfl <| oM rfl rfl <| RJ_mbT rfl rfl rfl (fun hG25 => have hP26 : m.hasLog = true := (Iff.rfl).1 hG25; VJ_P (P_move rfl)) <| RJ_mbT rfl rfl rfl (fun hG27 => have hP28 : m.hasLog = true := (Iff.rfl).1 hG27; VJ_P (P_nilCheck (mbx hG27 rfl))) <| RJ_mbT rfl rfl rfl (fun hG29 => have hP30 : m.hasLog = true := (Iff.rfl).1 hG29; VJ_P (P_fieldAddr (mbx hG29 rfl) ⟨_, _, _, Try.runUnderlying74, rfl, rfl, Try.sizeOf72, rfl⟩)) <| RJ_mbT rfl rfl rfl (fun hG31 => have hP32 : m.hasLog = true := (Iff.rfl).1 hG31; V_load (mbx hG31 rfl) foc1 rfl Try.isAgg72) <| RJ_mbT rfl rfl rfl (fun hG33 => have hP34 : m.hasLog = true := (Iff.rfl).1 hG33; VJ_P (P_eql (a := m.logState) (b := (1 : Int)) (mbx hG33 rfl) rfl)) <| oP (P_pickAnd rfl (fun hh => mbx hh rfl) rfl) rfl <| nT <| CJ_condP rfl (bT_and Iff.rfl bT_dec) (fun hg4 => ?_) (fun hg4 => ?_)
  ·
   replace h := ite_t hg4 h
   refine CJ_region <| oM rfl rfl <| oM rfl rfl <| oP (P_nilCheck rfl) rfl <| oP (P_fieldAddr rfl ⟨_, _, _, Try.runUnderlying74, rfl, rfl, Try.sizeOf70, rfl⟩) rfl <| oV (V_load rfl foc1 rfl Try.isAgg70) rfl <| oV (VJ_eq (V_len rfl foc2 (Reads.sl _ _ _) Try.runUnderlying70) (congrArg (fun z : Nat => Value.int .i64 (z : Int)) (mk_mleg_len (by have := hdl3; simpa using this)).symm)) rfl <| oO <| O_buildSlice rfl (bs_22_1_0 _) rfl fun b35 => ?_
   obtain ⟨hg5, h⟩ := grd_Le h
   refine oO <| O_append (t := tyI) (bytes := 8) rfl rfl del1 foc0 (Reads.lit (t := tyI) (ys := [((m.legs.length : Nat) : Int)]) rfl rfl (by decide) (by decide) rfl) Try.underlying22 ok_tyI (apl (m := 1) (b := 8) hg5 (by decide)).1 (apl (m := 1) (b := 8) hg5 (by decide)).2 rfl fun p37 c38 => oA rfl rfl <| RJ_nil <| QJ_ent (t0_ (t1_ (t1_ (t1_ (t1_ (t1_ (t1_ (eD eR)))))))) <| QJ_then <| sR <| oM rfl rfl <| oA rfl rfl <| nT <| CJ_ret <| QJ_ent (Ent.trans (t1_ (t1_ (t1_ (t1_ (t1_ eR))))) (MirP_mk (v0 := m.legs) (v1 := m.log) (v2 := m.hasLog) (v3 := m.logState) (v4 := m.size) (v5 := m.region) (v6 := m.dirty) (v7 := m.copied) (h0 := oc1.1) (h1 := oc1.2.1) (h2 := oc1.2.2.1) (h3 := oc1.2.2.2))) ?_
   cases h
   exact fE (res1 Try.results63 rfl) ⟨p37, (a12 ++ [((m.legs.length : Nat) : Int)]).length, c38⟩ (t0_ (t1_ eR))
  ·
   replace h := ite_f hg4 h
   refine kT <| sR <| oM rfl rfl <| oA rfl rfl <| nT <| CJ_ret <| QJ_ent (Ent.trans (t1_ (t1_ (t1_ (t1_ (t1_ eR))))) (MirP_mk (v0 := m.legs) (v1 := m.log) (v2 := m.hasLog) (v3 := m.logState) (v4 := m.size) (v5 := m.region) (v6 := m.dirty) (v7 := m.copied) (h0 := oc1.1) (h1 := oc1.2.1) (h2 := oc1.2.2.1) (h3 := oc1.2.2.2))) ?_
   cases h
   exact fE (res1 Try.results63 rfl) hd11 (t0_ (t1_ eR))
def mirror_Mirror_result (m : MirS) (s : ArrS) : Option (Int) :=
  Option.bind (mirror_Mirror_Failed m s) fun r1 =>
  if ((0 : Int) < ((r1.length : Nat) : Int)) then
    some (18 : Int)
  else
    some (0 : Int)
theorem L_mirror_Mirror_result {W : World} {bm : Nat} {bs : Nat} {m : MirS} {s : ArrS} {r : Int} (h : mirror_Mirror_result m s = some r) :
    CSpec Try.prog W 31 [ptr bm 0] [MirP bs bm m, Arr bs s] (fun x : Unit => .int .i64 r) (fun _ => True) (fun x F => MirP bs bm m :: Arr bs s :: F) := by
 refine CSpec.of_body Try.func31 rfl Try.ntmps31 rfl fun F => ?_
 show CJ _ _ _ _ _ _ (_ :: _ :: F)
 unfold mirror_Mirror_result at h
 refine sR <| oA rfl rfl <| nT <| CJ_seq <| sR <| oM rfl rfl ?_
 obtain ⟨r1, hr2, h⟩ := bind_e h
 refine oO <| O_call (L_mirror_Mirror_Failed hr2) rfl Try.call63 (Dels.cons del0 (Dels.cons del0 Dels.nil)) rfl fun X3 _ => oV (V_len rfl foc2 (Reads.sl _ _ _) Try.runUnderlying22) rfl <| oP (P_gtr (a := ((r1.length : Nat) : Int)) (b := (0 : Int)) rfl rfl) rfl <| nT <| CJ_condP rfl bT_dec (fun hg1 => ?_) (fun hg1 => ?_)
 ·
  replace h := ite_t hg1 h
  refine sR <| oA rfl rfl <| nT <| CJ_ret <| QJ_then_ret ?_
  cases h
  exact fE (res1 Try.results31 rfl) () (t0_ (t0_ (eD eR)))
 ·
  replace h := ite_f hg1 h
  refine kT <| sR <| oA rfl rfl <| nT <| CJ_ret ?_
  cases h
  exact fE (res1 Try.results31 rfl) () (t0_ (t0_ (eD eR)))
def mirror_Mirror_note (m : MirS) (i : Int) (e_2 : Int) (s : ArrS) : Option (Int × MirS) :=
  if ((e_2 = (0 : Int)) ∨ (e_2 = (5 : Int))) then
    some (e_2, m)
  else
    if (i = ((m.legs.length : Nat) : Int)) then
      some (((0 : Int), { m with logState := (1 : Int) }))
    else
      grd (decide (0 ≤ i ∧ i < (m.legs.length : Int))) <|
      if ((m.legs.getD ((i).toNat) mleg_x0).state = (2 : Int)) then
        grd (decide (0 ≤ i ∧ i < (m.legs.length : Int))) <|
        some (((0 : Int), { m with legs := (m.legs.set ((i).toNat) { m.legs.getD ((i).toNat) mleg_x0 with copied := (0 : Int) }) }))
      else
        grd (decide (0 ≤ i ∧ i < (m.legs.length : Int))) <|
        some (((0 : Int), { m with legs := (m.legs.set ((i).toNat) { m.legs.getD ((i).toNat) mleg_x0 with state := (1 : Int) }) }))
theorem L_mirror_Mirror_note {W : World} {bm : Nat} {bs : Nat} {m : MirS} {i : Int} {e_2 : Int} {s : ArrS} {r : Int × MirS} (h : mirror_Mirror_note m i e_2 s = some r) :
    CSpec Try.prog W 44 [ptr bm 0, .int .i64 i, .int .i64 e_2] [MirP bs bm m, Arr bs s] (fun x : Unit => .int .i64 r.1) (fun _ => True) (fun x F => MirP bs bm r.2 :: Arr bs s :: F) := by
 refine CSpec.of_body Try.func44 rfl Try.ntmps44 rfl fun F => ?_
 show CJ _ _ _ _ _ _ (_ :: _ :: F)
 unfold mirror_Mirror_note at h
 refine sR <| oA rfl rfl <| nT <| CJ_seq <| CJ_block <| sR <| oM rfl rfl <| oP (P_eql (a := e_2) (b := (0 : Int)) rfl rfl) rfl <| oM rfl rfl <| RJ_mbF rfl rfl rfl (fun hG1 => have hP2 : ¬ (e_2 = (0 : Int)) := nP (bT_dec) hG1; VJ_P (P_move rfl)) <| RJ_mbF rfl rfl rfl (fun hG3 => have hP4 : ¬ (e_2 = (0 : Int)) := nP (bT_dec) hG3; VJ_P (P_eql (a := e_2) (b := (5 : Int)) (mbx hG3 rfl) rfl)) <| oP (P_pickOr rfl rfl (fun hh => mbx (not_f hh) rfl)) rfl <| oA rfl rfl <| nT <| CJ_condP rfl (bT_or bT_dec bT_dec) (fun hg1 => ?_) (fun hg1 => ?_)
 ·
  replace h := ite_t hg1 h
  refine sR <| oM rfl rfl <| oA rfl rfl <| nT <| CJ_ret <| QJ_block_ret <| QJ_then_ret ?_
  cases h
  exact fE (res1 Try.results44 rfl) () eR
 ·
  replace h := ite_f hg1 h
  refine CJ_seq <| CJ_entX (Ent.transX (t0_ eR) (MirP_open (l := m))) fun oc5 => CJ_pure (fun h hh => Rs_len (stars_perm (del2 (A := Rs (DevP bs) (m.legs.map mlegS.dev) oc5.2.1)).out h hh)) fun hdl7 => lC del1 fun hlen8 => ?_
  rw [mk_mleg_len (by have := hdl7; simpa using this)] at hlen8
  refine lC del4 fun hlen9 => CJ_region <| oM rfl rfl <| oM rfl rfl <| oP (P_nilCheck rfl) rfl <| oP (P_fieldAddr rfl ⟨_, _, _, Try.runUnderlying74, rfl, rfl, Try.sizeOf70, rfl⟩) rfl <| oV (V_load rfl foc0 rfl Try.isAgg70) rfl <| oV (VJ_eq (V_len rfl foc1 (Reads.sl _ _ _) Try.runUnderlying70) (congrArg (fun z : Nat => Value.int .i64 (z : Int)) (mk_mleg_len (by have := hdl7; simpa using this)).symm)) rfl <| oP (P_eql (a := i) (b := ((m.legs.length : Nat) : Int)) rfl rfl) rfl <| oA rfl rfl <| RJ_nil <| QJ_ent (Ent.trans eR (MirP_mk (v0 := m.legs) (v1 := m.log) (v2 := m.hasLog) (v3 := m.logState) (v4 := m.size) (v5 := m.region) (v6 := m.dirty) (v7 := m.copied) (h0 := oc5.1) (h1 := oc5.2.1) (h2 := oc5.2.2.1) (h3 := oc5.2.2.2))) <| QJ_then <| CJ_condP rfl bT_dec (fun hg2 => ?_) (fun hg2 => ?_)
  ·
   replace h := ite_t hg2 h
   refine CJ_entX (Ent.transX (t0_ eR) (MirP_open (l := m))) fun oc10 => CJ_pure (fun h hh => Rs_len (stars_perm (del2 (A := Rs (DevP bs) (m.legs.map mlegS.dev) oc10.2.1)).out h hh)) fun hdl12 => lC del1 fun hlen13 => ?_
   rw [mk_mleg_len (by have := hdl12; simpa using this)] at hlen13
   refine lC del4 fun hlen14 => CJ_region <| oM rfl rfl <| oP (P_nilCheck rfl) rfl <| oP (P_fieldAddr rfl ⟨_, _, _, Try.runUnderlying74, rfl, rfl, Try.sizeOf72, rfl⟩) rfl <| oO <| O_store rfl rfl foc0 rfl rfl Try.sizeOf72 <| RJ_nil <| QJ_ent (Ent.trans eR (MirP_mk (v0 := m.legs) (v1 := m.log) (v2 := m.hasLog) (v3 := (1 : Int)) (v4 := m.size) (v5 := m.region) (v6 := m.dirty) (v7 := m.copied) (h0 := oc10.1) (h1 := oc10.2.1) (h2 := oc10.2.2.1) (h3 := oc10.2.2.2))) <| QJ_block_normal <| QJ_then <| sR <| oA rfl rfl <| nT <| CJ_ret ?_
   cases h
   exact fE (res1 Try.results44 rfl) () eR
  ·
   replace h := ite_f hg2 h
   refine CJ_seq <| CJ_entX (Ent.transX (t0_ eR) (MirP_open (l := m))) fun oc15 => CJ_pure (fun h hh => Rs_len (stars_perm (del2 (A := Rs (DevP bs) (m.legs.map mlegS.dev) oc15.2.1)).out h hh)) fun hdl17 => lC del1 fun hlen18 => ?_
   rw [mk_mleg_len (by have := hdl17; simpa using this)] at hlen18
   refine lC del4 fun hlen19 => CJ_region <| oM rfl rfl <| oP (P_nilCheck rfl) rfl <| oP (P_fieldAddr rfl ⟨_, _, _, Try.runUnderlying74, rfl, rfl, Try.sizeOf70, rfl⟩) rfl <| oV (V_load rfl foc0 rfl Try.isAgg70) rfl <| oM rfl rfl ?_
   obtain ⟨hg3, h⟩ := grd_de h
   refine oV (V_index (i := (i).toNat) rfl rfl (Int.toNat_of_nonneg (hg3.1)).symm (show (i).toNat < (mk_mleg m.legs oc15.2.1).length by rw [mk_mleg_len (by have := hdl17; simpa using this)]; exact (by omega)) foc1 (Reads.sl _ _ _) Try.runUnderlying70 Try.sizeOf83) rfl <| oP (P_fieldE rfl ⟨_, _, _, Try.runUnderlying83, rfl, rfl, Try.sizeOf72, rfl⟩) rfl <| oV (VJ_eq (V_loadE rfl rfl (show (i).toNat < (mk_mleg m.legs oc15.2.1).length by rw [mk_mleg_len (by have := hdl17; simpa using this)]; exact (by omega)) foc1 (Reads.sl _ _ _) rfl rfl Try.isAgg72) (show (.int .i64 ((m.legs.getD ((i).toNat) mleg_x0).state) : Value) = .int .i64 ((mk_mleg m.legs oc15.2.1).getD ((i).toNat) mleg_h0).state from by rw [mk_mleg_at (by have := hdl17; simpa using this)])) rfl <| oP (P_eql (a := (m.legs.getD ((i).toNat) mleg_x0).state) (b := (2 : Int)) rfl rfl) rfl <| oA rfl rfl <| RJ_nil <| QJ_ent (Ent.trans eR (MirP_mk (v0 := m.legs) (v1 := m.log) (v2 := m.hasLog) (v3 := m.logState) (v4 := m.size) (v5 := m.region) (v6 := m.dirty) (v7 := m.copied) (h0 := oc15.1) (h1 := oc15.2.1) (h2 := oc15.2.2.1) (h3 := oc15.2.2.2))) <| QJ_then <| CJ_condP rfl bT_dec (fun hg4 => ?_) (fun hg4 => ?_)
   ·
    replace h := ite_t hg4 h
    refine CJ_entX (Ent.transX (t0_ eR) (MirP_open (l := m))) fun oc20 => CJ_pure (fun h hh => Rs_len (stars_perm (del2 (A := Rs (DevP bs) (m.legs.map mlegS.dev) oc20.2.1)).out h hh)) fun hdl22 => lC del1 fun hlen23 => ?_
    rw [mk_mleg_len (by have := hdl22; simpa using this)] at hlen23
    refine lC del4 fun hlen24 => CJ_region <| oM rfl rfl <| oP (P_nilCheck rfl) rfl <| oP (P_fieldAddr rfl ⟨_, _, _, Try.runUnderlying74, rfl, rfl, Try.sizeOf70, rfl⟩) rfl <| oV (V_load rfl foc0 rfl Try.isAgg70) rfl <| oM rfl rfl ?_
    obtain ⟨hg5, h⟩ := grd_de h
    refine oV (V_index (i := (i).toNat) rfl rfl (Int.toNat_of_nonneg (hg5.1)).symm (show (i).toNat < (mk_mleg m.legs oc20.2.1).length by rw [mk_mleg_len (by have := hdl22; simpa using this)]; exact (by omega)) foc1 (Reads.sl _ _ _) Try.runUnderlying70 Try.sizeOf83) rfl <| oP (P_fieldE rfl ⟨_, _, _, Try.runUnderlying83, rfl, rfl, Try.sizeOf3, rfl⟩) rfl <| oO <| O_storeE (x' := { (mk_mleg m.legs oc20.2.1).getD ((i).toNat) mleg_h0 with copied := (0 : Int) }) rfl rfl rfl (show (i).toNat < (mk_mleg m.legs oc20.2.1).length by rw [mk_mleg_len (by have := hdl22; simpa using this)]; exact (by omega)) foc1 rfl rfl rfl Try.sizeOf3 <| RJ_ent (Ent.takeC (A' := sl tymlegH (Sl3.v oc20.1) (mk_mleg (m.legs.set ((i).toNat) { m.legs.getD ((i).toNat) mleg_x0 with copied := (0 : Int) }) oc20.2.1)) del1 (congrArg (sl tymlegH (Sl3.v oc20.1)) (mk_mleg_set_copied (by have := hdl22; simpa using this) (by omega) (0 : Int))) (Ent.takeC (A' := Rs (DevP bs) (((m.legs.set ((i).toNat) { m.legs.getD ((i).toNat) mleg_x0 with copied := (0 : Int) })).map mlegS.dev) oc20.2.1) del1 (congrArg (fun z => Rs (DevP bs) z oc20.2.1) (mk_mleg_dev_copied (l := m.legs) (i := ((i).toNat)) (0 : Int)).symm) eR)) <| RJ_pure (fun h hh => Rs_len (stars_perm (del1 (A := Rs (DevP bs) ((((m.legs.set ((i).toNat) { m.legs.getD ((i).toNat) mleg_x0 with copied := (0 : Int) })).map mlegS.dev)) oc20.2.1)).out h hh)) fun hdl25 => RJ_nil ?_
    refine QJ_ent (Ent.trans (t2_ eR) (MirP_mk (v0 := (m.legs.set ((i).toNat) { m.legs.getD ((i).toNat) mleg_x0 with copied := (0 : Int) })) (v1 := m.log) (v2 := m.hasLog) (v3 := m.logState) (v4 := m.size) (v5 := m.region) (v6 := m.dirty) (v7 := m.copied) (h0 := oc20.1) (h1 := oc20.2.1) (h2 := oc20.2.2.1) (h3 := oc20.2.2.2))) <| QJ_block_normal <| QJ_then <| sR <| oA rfl rfl <| nT <| CJ_ret ?_
    cases h
    exact fE (res1 Try.results44 rfl) () eR
   ·
    replace h := ite_f hg4 h
    refine CJ_entX (Ent.transX (t0_ eR) (MirP_open (l := m))) fun oc26 => CJ_pure (fun h hh => Rs_len (stars_perm (del2 (A := Rs (DevP bs) (m.legs.map mlegS.dev) oc26.2.1)).out h hh)) fun hdl28 => lC del1 fun hlen29 => ?_
    rw [mk_mleg_len (by have := hdl28; simpa using this)] at hlen29
    refine lC del4 fun hlen30 => CJ_region <| oM rfl rfl <| oP (P_nilCheck rfl) rfl <| oP (P_fieldAddr rfl ⟨_, _, _, Try.runUnderlying74, rfl, rfl, Try.sizeOf70, rfl⟩) rfl <| oV (V_load rfl foc0 rfl Try.isAgg70) rfl <| oM rfl rfl ?_
    obtain ⟨hg6, h⟩ := grd_de h
    refine oV (V_index (i := (i).toNat) rfl rfl (Int.toNat_of_nonneg (hg6.1)).symm (show (i).toNat < (mk_mleg m.legs oc26.2.1).length by rw [mk_mleg_len (by have := hdl28; simpa using this)]; exact (by omega)) foc1 (Reads.sl _ _ _) Try.runUnderlying70 Try.sizeOf83) rfl <| oP (P_fieldE rfl ⟨_, _, _, Try.runUnderlying83, rfl, rfl, Try.sizeOf72, rfl⟩) rfl <| oO <| O_storeE (x' := { (mk_mleg m.legs oc26.2.1).getD ((i).toNat) mleg_h0 with state := (1 : Int) }) rfl rfl rfl (show (i).toNat < (mk_mleg m.legs oc26.2.1).length by rw [mk_mleg_len (by have := hdl28; simpa using this)]; exact (by omega)) foc1 rfl rfl rfl Try.sizeOf72 <| RJ_ent (Ent.takeC (A' := sl tymlegH (Sl3.v oc26.1) (mk_mleg (m.legs.set ((i).toNat) { m.legs.getD ((i).toNat) mleg_x0 with state := (1 : Int) }) oc26.2.1)) del1 (congrArg (sl tymlegH (Sl3.v oc26.1)) (mk_mleg_set_state (by have := hdl28; simpa using this) (by omega) (1 : Int))) (Ent.takeC (A' := Rs (DevP bs) (((m.legs.set ((i).toNat) { m.legs.getD ((i).toNat) mleg_x0 with state := (1 : Int) })).map mlegS.dev) oc26.2.1) del1 (congrArg (fun z => Rs (DevP bs) z oc26.2.1) (mk_mleg_dev_state (l := m.legs) (i := ((i).toNat)) (1 : Int)).symm) eR)) <| RJ_pure (fun h hh => Rs_len (stars_perm (del1 (A := Rs (DevP bs) ((((m.legs.set ((i).toNat) { m.legs.getD ((i).toNat) mleg_x0 with state := (1 : Int) })).map mlegS.dev)) oc26.2.1)).out h hh)) fun hdl31 => RJ_nil ?_
    refine QJ_ent (Ent.trans (t2_ eR) (MirP_mk (v0 := (m.legs.set ((i).toNat) { m.legs.getD ((i).toNat) mleg_x0 with state := (1 : Int) })) (v1 := m.log) (v2 := m.hasLog) (v3 := m.logState) (v4 := m.size) (v5 := m.region) (v6 := m.dirty) (v7 := m.copied) (h0 := oc26.1) (h1 := oc26.2.1) (h2 := oc26.2.2.1) (h3 := oc26.2.2.2))) <| QJ_block_normal <| QJ_then <| sR <| oA rfl rfl <| nT <| CJ_ret ?_
    cases h
    exact fE (res1 Try.results44 rfl) () eR
def mirror_Mirror_Dirty_l1_b (m : MirS) (rec : Nat → (List Int) → Option ((List Int))) (x13 : Nat) (x14 : List Int) : Option ((List Int)) :=
  if (((x13 : Nat) : Int) < ((m.dirty.length : Nat) : Int)) then
    if (m.dirty.getD x13 false) = true then
      grd (inLen (x14.length + 1)) <|
      rec (x13 + 1) ((x14 ++ [((x13 : Nat) : Int)]))
    else
      rec (x13 + 1) x14
  else
    some x14
def mirror_Mirror_Dirty_l1 (m : MirS) : Nat → Nat → (List Int) → Option ((List Int))
  | 0, _, _ => none
  | n + 1, x13, x14 => mirror_Mirror_Dirty_l1_b m (mirror_Mirror_Dirty_l1 m n) x13 x14
def mirror_Mirror_Dirty (m : MirS) (s : ArrS) : Option ((List Int)) :=
  Option.bind (mirror_Mirror_Dirty_l1 m FUEL 0 ([])) fun a12 =>
  some a12
theorem L_mirror_Mirror_Dirty {W : World} {bm : Nat} {bs : Nat} {m : MirS} {s : ArrS} {r : (List Int)} (h : mirror_Mirror_Dirty m s = some r) :
    CSpec Try.prog W 19 [ptr bm 0] [MirP bs bm m, Arr bs s] (fun x : Sl3 => x.v) (fun _ => True) (fun x F => MirP bs bm m :: Arr bs s :: sl tyI x.v r :: F) := by
 refine CSpec.of_body Try.func19 rfl Try.ntmps19 rfl fun F => ?_
 show CJ _ _ _ _ _ _ (_ :: _ :: F)
 unfold mirror_Mirror_Dirty at h
 refine sR <| oA rfl rfl <| nT <| sR <| oA rfl rfl <| nT <| CJ_seq <| CJ_seq <| CJ_entX (Ent.transX (t0_ eR) (MirP_open (l := m))) fun oc1 => CJ_pure (fun h hh => Rs_len (stars_perm (del2 (A := Rs (DevP bs) (m.legs.map mlegS.dev) oc1.2.1)).out h hh)) fun hdl3 => lC del1 fun hlen4 => ?_
 rw [mk_mleg_len (by have := hdl3; simpa using this)] at hlen4
 refine lC del4 fun hlen5 => CJ_region <| oM rfl rfl <| oP (P_nilCheck rfl) rfl <| oP (P_fieldAddr rfl ⟨_, _, _, Try.runUnderlying74, rfl, rfl, Try.sizeOf31, rfl⟩) rfl <| oV (V_load rfl foc0 rfl Try.isAgg31) rfl <| oV (V_len rfl foc4 (Reads.sl _ _ _) Try.runUnderlying31) rfl <| oM rfl rfl <| nT <| CJ_ent (fun h hh => sl_nil (t := tyI) h hh) ?_
 obtain ⟨y9, hl7, hK8⟩ := bind_c h
 refine CJ_cutT (X := (List Int) × Sl3) [3, 4, 5, 11, 12, 13, 14, 15, 16, 17, 18, 19, 20, 21] (fun ⟨a12, hd11⟩ => ([(3, hd11.v)] : Slots)) (fun ⟨a12, hd11⟩ R => sl tyI hd11.v a12 :: R) (fun ⟨a12, hd11⟩ => y9 = a12) (Dels.cons del0 Dels.nil) ?_ ?_
 ·
  refine CJ_block <| CJ_loopR (X := Nat × Nat × (List Int) × Sl3) [3, 4, 5, 11, 12, 13, 14, 15, 16, 17, 18, 19, 20, 21] (fun ⟨n, x13, x14, hd15⟩ => ([(3, hd15.v), (11, .int .i64 (((x13 : Nat) : Int)))] : Slots)) (fun ⟨n, x13, x14, hd15⟩ R => sl tyI hd15.v x14 :: R) (fun ⟨n, x13, x14, hd15⟩ => mirror_Mirror_Dirty_l1 m n x13 x14 = some y9) (fun ⟨n, x13, x14, hd15⟩ => n) ⟨FUEL, 0, [], ⟨none, 0, 0⟩⟩ ?_ ?_ eR ?_
  · exact hl7
  · exact ⟨rfl, rfl, True.intro⟩
  ·
   rintro ⟨n, x13, x14, hd15⟩ h
   cases n with
   | zero => exact none_e h
   | succ n => ?_
   replace h : mirror_Mirror_Dirty_l1_b m (mirror_Mirror_Dirty_l1 m n) x13 x14 = some y9 := h
   unfold mirror_Mirror_Dirty_l1_b at h
   show CJ _ _ _ _ _ (([(3, hd15.v), (11, .int .i64 (((x13 : Nat) : Int)))] : Slots) ++ forget _ _) (sl tyI hd15.v x14 :: _)
   refine lC del0 fun hlen16 => sR <| oP (P_lss (a := ((x13 : Nat) : Int)) (b := ((m.dirty.length : Nat) : Int)) rfl rfl) rfl <| nT <| CJ_seq <| CJ_condP rfl bT_dec (fun hg1 => ?_) (fun hg1 => ?_)
   ·
    replace h := ite_t hg1 h
    refine kT <| CJ_seq <| CJ_block <| sR <| oM rfl rfl <| oV (V_index (i := x13) rfl rfl rfl (by omega) foc5 (Reads.sl _ _ _) Try.runUnderlying31 Try.sizeOf4) rfl <| oV (V_loadE rfl rfl (by omega) foc5 (Reads.sl _ _ _) rfl rfl Try.isAgg4) rfl <| oA rfl rfl <| oA rfl rfl <| nT <| sR <| oM rfl rfl <| nT <| CJ_condP rfl Iff.rfl (fun hg2 => ?_) (fun hg2 => ?_)
    ·
     replace h := ite_t hg2 h
     refine CJ_region <| oM rfl rfl <| oM rfl rfl <| oO <| O_buildSlice rfl (bs_22_1_0 _) rfl fun b17 => ?_
     obtain ⟨hg3, h⟩ := grd_Le h
     exact oO <| O_append (t := tyI) (bytes := 8) rfl rfl del1 foc0 (Reads.lit (t := tyI) (ys := [((x13 : Nat) : Int)]) rfl rfl (by decide) (by decide) rfl) Try.underlying22 ok_tyI (apl (m := 1) (b := 8) hg3 (by decide)).1 (apl (m := 1) (b := 8) hg3 (by decide)).2 rfl fun p19 c20 => oA rfl rfl <| RJ_nil <| QJ_block_normal <| QJ_ent (t0_ (t1_ (t1_ (t1_ (t1_ (t1_ (t1_ (eD eR)))))))) <| QJ_then <| CJ_region <| oP (PJ_eq (P_add (a := ((x13 : Nat) : Int)) (b := (1 : Int)) rfl rfl (by omega)) rfl) rfl <| oM rfl rfl <| RJ_nil <| nR ⟨n, (x13 + 1), (x14 ++ [((x13 : Nat) : Int)]), ⟨p19, (x14 ++ [((x13 : Nat) : Int)]).length, c20⟩⟩ h ⟨rfl, rfl, True.intro⟩ eR
    ·
     replace h := ite_f hg2 h
     exact CJ_skip <| QJ_block_normal <| QJ_then <| CJ_region <| oP (PJ_eq (P_add (a := ((x13 : Nat) : Int)) (b := (1 : Int)) rfl rfl (by omega)) rfl) rfl <| oM rfl rfl <| RJ_nil <| nR ⟨n, (x13 + 1), x14, hd15⟩ h ⟨rfl, rfl, True.intro⟩ eR
   ·
    replace h := ite_f hg1 h
    exact CJ_exit <| QJ_then_exit <| QJ_round_exit <| QJ_block_here <| cR ⟨x14, hd15⟩ (Option.some.inj h).symm ⟨rfl, True.intro⟩ eR
 ·
  rintro ⟨a12, hd11⟩ hy21
  replace h := bindK_at hK8 hy21
  show CJ _ _ _ _ _ (([(3, hd11.v)] : Slots) ++ forget _ _) (sl tyI hd11.v a12 :: _)
  refine lC del0 fun hlen22 => sR <| oM rfl rfl <| oA rfl rfl <| nT <| CJ_ret <| QJ_ent (Ent.trans (t1_ (t1_ (t1_ (t1_ (t1_ eR))))) (MirP_mk (v0 := m.legs) (v1 := m.log) (v2 := m.hasLog) (v3 := m.logState) (v4 := m.size) (v5 := m.region) (v6 := m.dirty) (v7 := m.copied) (h0 := oc1.1) (h1 := oc1.2.1) (h2 := oc1.2.2.1) (h3 := oc1.2.2.2))) ?_
  cases h
  exact fE (res1 Try.results19 rfl) hd11 (t0_ (t1_ eR))
def mirror_Mirror_end (m : MirS) (r_1 : Int) (s : ArrS) : Option (Int) :=
  grd (inI64 ((r_1 + (1 : Int)))) <|
  grd (inI64 (((r_1 + (1 : Int)) * m.region))) <|
  some ((min (((r_1 + (1 : Int)) * m.region)) m.size))
theorem L_mirror_Mirror_end {W : World} {bm : Nat} {bs : Nat} {m : MirS} {r_1 : Int} {s : ArrS} {r : Int} (h : mirror_Mirror_end m r_1 s = some r) :
    CSpec Try.prog W 38 [ptr bm 0, .int .i64 r_1] [MirP bs bm m, Arr bs s] (fun x : Unit => .int .i64 r) (fun _ => True) (fun x F => MirP bs bm m :: Arr bs s :: F) := by
 refine CSpec.of_body Try.func38 rfl Try.ntmps38 rfl fun F => ?_
 show CJ _ _ _ _ _ _ (_ :: _ :: F)
 unfold mirror_Mirror_end at h
 refine sR <| oA rfl rfl <| nT <| CJ_seq <| AJ_startH 0 (by kernel_rfl) rfl <| aN 0 1 rfl rfl (P_move rfl) rfl ?_
 obtain ⟨hg1, h⟩ := grd_Ie h
 refine aN 1 3 rfl rfl (P_add (a := r_1) (b := (1 : Int)) rfl rfl hg1) rfl <| aN 2 7 rfl rfl (P_move rfl) rfl <| aN 3 15 rfl rfl (P_nilCheck rfl) rfl <| aN 4 31 rfl rfl (P_fieldAddr rfl ⟨_, _, _, Try.runUnderlying74, rfl, rfl, Try.sizeOf3, rfl⟩) rfl <| aV 5 63 rfl rfl (GY_none rfl) eR (VJ_entX (Ent.transX (t0_ eR) (MirP_open (l := m))) (fun _ => V_load rfl foc0 rfl Try.isAgg3)) rfl ?_
 obtain ⟨hg2, h⟩ := grd_Ie h
 refine aN 6 127 rfl rfl (P_mul (a := (r_1 + (1 : Int))) (b := m.region) rfl rfl hg2) rfl <| aN 7 255 rfl rfl (P_move rfl) rfl <| aN 8 511 rfl rfl (P_nilCheck rfl) rfl <| aN 9 1023 rfl rfl (P_fieldAddr rfl ⟨_, _, _, Try.runUnderlying74, rfl, rfl, Try.sizeOf3, rfl⟩) rfl <| aV 10 2047 rfl rfl (GY_none rfl) eR (VJ_entX (Ent.transX (t0_ eR) (MirP_open (l := m))) (fun _ => V_load rfl foc0 rfl Try.isAgg3)) rfl <| aN 11 4095 rfl rfl (P_min (a := ((r_1 + (1 : Int)) * m.region)) (b := m.size) rfl rfl) rfl <| aN 12 8191 rfl rfl (P_assign rfl) rfl <| aD <| CJ_ret ?_
 cases h
 exact fE (res1 Try.results38 rfl) () eR
def mirror_Mirror_rest_l1_b (m : MirS) (s : ArrS) (r1 : (List Int)) (rec : Nat → Int → Option (Int)) (x10 : Nat) (x11 : Int) : Option (Int) :=
  if (((x10 : Nat) : Int) < ((r1.length : Nat) : Int)) then
    grd (inI64 (((r1.getD x10 0) * m.region))) <|
    Option.bind (mirror_Mirror_end m (r1.getD x10 0) s) fun r12 =>
    grd (inI64 ((r12 - ((r1.getD x10 0) * m.region)))) <|
    grd (inI64 ((x11 + (r12 - ((r1.getD x10 0) * m.region))))) <|
    grd (inN64 (x10 + 1)) <|
    rec (x10 + 1) ((x11 + (r12 - ((r1.getD x10 0) * m.region))))
  else
    some x11
def mirror_Mirror_rest_l1 (m : MirS) (s : ArrS) (r1 : (List Int)) : Nat → Nat → Int → Option (Int)
  | 0, _, _ => none
  | n + 1, x10, x11 => mirror_Mirror_rest_l1_b m s r1 (mirror_Mirror_rest_l1 m s r1 n) x10 x11
def mirror_Mirror_rest (m : MirS) (s : ArrS) : Option (Int) :=
  grd (inI64 (0 - m.copied)) <|
  Option.bind (mirror_Mirror_Dirty m s) fun r1 =>
  Option.bind (mirror_Mirror_rest_l1 m s r1 FUEL 0 (0 - m.copied)) fun a9 =>
  some a9
theorem L_mirror_Mirror_rest {W : World} {bm : Nat} {bs : Nat} {m : MirS} {s : ArrS} {r : Int} (h : mirror_Mirror_rest m s = some r) :
    CSpec Try.prog W 42 [ptr bm 0] [MirP bs bm m, Arr bs s] (fun x : Unit => .int .i64 r) (fun _ => True) (fun x F => MirP bs bm m :: Arr bs s :: F) := by
 refine CSpec.of_body Try.func42 rfl Try.ntmps42 rfl fun F => ?_
 show CJ _ _ _ _ _ _ (_ :: _ :: F)
 unfold mirror_Mirror_rest at h
 refine sR <| oA rfl rfl <| nT <| sR <| oM rfl rfl <| oP (P_nilCheck rfl) rfl <| oP (P_fieldAddr rfl ⟨_, _, _, Try.runUnderlying74, rfl, rfl, Try.sizeOf3, rfl⟩) rfl <| oV (VJ_entX (Ent.transX (t0_ eR) (MirP_open (l := m))) (fun _ => V_load rfl foc0 rfl Try.isAgg3)) rfl ?_
 obtain ⟨hg1, h⟩ := grd_Ie h
 refine oP (P_neg rfl hg1) rfl <| oA rfl rfl <| nT <| CJ_seq <| sR <| oM rfl rfl ?_
 obtain ⟨r1, hr2, h⟩ := bind_e h
 refine oO <| O_call (L_mirror_Mirror_Dirty hr2) rfl Try.call19 (Dels.cons del0 (Dels.cons del0 Dels.nil)) rfl fun X3 _ => oV (V_len rfl foc2 (Reads.sl _ _ _) Try.runUnderlying22) rfl <| oM rfl rfl <| nT ?_
 obtain ⟨y7, hl5, hK6⟩ := bind_c h
 refine CJ_cutT (X := Int) [3, 5, 14, 15, 16, 17, 18, 19, 20, 21, 22, 23, 24, 25, 26, 27, 28, 29, 30] (fun a9 => ([(3, .int .i64 a9)] : Slots)) (fun a9 R => R) (fun a9 => y7 = a9) Dels.nil ?_ ?_
 ·
  refine CJ_block <| CJ_loopR (X := Nat × Nat × Int) [3, 5, 14, 15, 16, 17, 18, 19, 20, 21, 22, 23, 24, 25, 26, 27, 28, 29, 30] (fun ⟨n, x10, x11⟩ => ([(3, .int .i64 x11), (14, .int .i64 (((x10 : Nat) : Int)))] : Slots)) (fun ⟨n, x10, x11⟩ R => R) (fun ⟨n, x10, x11⟩ => mirror_Mirror_rest_l1 m s r1 n x10 x11 = some y7) (fun ⟨n, x10, x11⟩ => n) ⟨FUEL, 0, (0 - m.copied)⟩ ?_ ?_ eR ?_
  · exact hl5
  · exact ⟨rfl, rfl, True.intro⟩
  ·
   rintro ⟨n, x10, x11⟩ h
   cases n with
   | zero => exact none_e h
   | succ n => ?_
   replace h : mirror_Mirror_rest_l1_b m s r1 (mirror_Mirror_rest_l1 m s r1 n) x10 x11 = some y7 := h
   unfold mirror_Mirror_rest_l1_b at h
   show CJ _ _ _ _ _ (([(3, .int .i64 x11), (14, .int .i64 (((x10 : Nat) : Int)))] : Slots) ++ forget _ _) (_)
   refine sR <| oP (P_lss (a := ((x10 : Nat) : Int)) (b := ((r1.length : Nat) : Int)) rfl rfl) rfl <| nT <| CJ_seq <| CJ_condP rfl bT_dec (fun hg2 => ?_) (fun hg2 => ?_)
   ·
    replace h := ite_t hg2 h
    refine kT <| CJ_seq <| CJ_block <| sR <| oV (V_index (i := x10) rfl rfl rfl (by omega) foc2 (Reads.sl _ _ _) Try.runUnderlying22 Try.sizeOf3) rfl <| oV (V_loadE rfl rfl (by omega) foc2 (Reads.sl _ _ _) rfl rfl Try.isAgg3) rfl <| oA rfl rfl <| nT <| AJ_startH 0 (by kernel_rfl) rfl <| aN 0 1 rfl rfl (P_move rfl) rfl <| aN 1 3 rfl rfl (P_move rfl) rfl <| aN 2 7 rfl rfl (P_move rfl) rfl <| aN 4 23 rfl rfl (P_move rfl) rfl <| aN 5 55 rfl rfl (P_move rfl) rfl <| aN 6 119 rfl rfl (P_nilCheck rfl) rfl <| aN 7 247 rfl rfl (P_fieldAddr rfl ⟨_, _, _, Try.runUnderlying74, rfl, rfl, Try.sizeOf3, rfl⟩) rfl <| aV 8 503 rfl rfl (GY_none rfl) eR (VJ_entX (Ent.transX (t0_ eR) (MirP_open (l := m))) (fun _ => V_load rfl foc0 rfl Try.isAgg3)) rfl ?_
    obtain ⟨hg3, h⟩ := grd_Ie h
    refine aN 9 1015 rfl rfl (P_mul (a := (r1.getD x10 0)) (b := m.region) rfl rfl hg3) rfl ?_
    obtain ⟨r12, hr13, h⟩ := bind_e h
    refine AJ_op 3 1023 rfl (by kernel_rfl) rfl (GY_none rfl) <| O_call (L_mirror_Mirror_end hr13) rfl Try.call38 (Dels.cons del0 (Dels.cons del0 Dels.nil)) rfl fun _ _ => ⟨fun _ => eR, ?_⟩
    obtain ⟨hg4, h⟩ := grd_Ie h
    refine aN 10 2047 rfl rfl (P_sub (a := r12) (b := ((r1.getD x10 0) * m.region)) rfl rfl hg4) rfl ?_
    obtain ⟨hg5, h⟩ := grd_Ie h
    refine aN 11 4095 rfl rfl (P_add (a := x11) (b := (r12 - ((r1.getD x10 0) * m.region))) rfl rfl hg5) rfl <| aN 12 8191 rfl rfl (P_assign rfl) rfl <| AJ_done (by kernel_rfl) <| QJ_block_normal <| QJ_then <| CJ_region ?_
    obtain ⟨hg6, h⟩ := grd_Ne h
    exact oP (PJ_eq (P_add (a := ((x10 : Nat) : Int)) (b := (1 : Int)) rfl rfl (nat_in hg6)) rfl) rfl <| oM rfl rfl <| RJ_nil <| nR ⟨n, (x10 + 1), (x11 + (r12 - ((r1.getD x10 0) * m.region)))⟩ h ⟨rfl, rfl, True.intro⟩ eR
   ·
    replace h := ite_f hg2 h
    exact CJ_exit <| QJ_then_exit <| QJ_round_exit <| QJ_block_here <| cR x11 (Option.some.inj h).symm ⟨rfl, True.intro⟩ eR
 ·
  rintro a9 hy14
  replace h := bindK_at hK6 hy14
  show CJ _ _ _ _ _ (([(3, .int .i64 a9)] : Slots) ++ forget _ _) (_)
  refine sR <| oM rfl rfl <| oA rfl rfl <| nT <| CJ_ret ?_
  cases h
  exact fE (res1 Try.results42 rfl) () (t0_ (t0_ (eD eR)))
def mirror_Mirror_Drop_l1_b (m : MirS) (k : Int) (rec : Nat → Nat → Option (Nat)) (x48 : Nat) (x49 : Nat) : Option (Nat) :=
  if (((x48 : Nat) : Int) < ((m.legs.length : Nat) : Int)) then
    if ((((x48 : Nat) : Int) ≠ k) ∧ ((m.legs.getD x48 mleg_x0).state ≠ (2 : Int))) then
      grd (inN64 (x49 + 1)) <|
      rec (x48 + 1) (x49 + 1)
    else
      rec (x48 + 1) x49
  else
    some x49
def mirror_Mirror_Drop_l1 (m : MirS) (k : Int) : Nat → Nat → Nat → Option (Nat)
  | 0, _, _ => none
  | n + 1, x48, x49 => mirror_Mirror_Drop_l1_b m k (mirror_Mirror_Drop_l1 m k n) x48 x49
def mirror_Mirror_Drop (m : MirS) (k : Int) (s : ArrS) : Option (Int × MirS) :=
  if ((k = ((m.legs.length : Nat) : Int)) ∧ m.hasLog = true) then
    some (((0 : Int), { m with log := none, logState := (2 : Int) }))
  else
    if ((k < (0 : Int)) ∨ (((m.legs.length : Nat) : Int) ≤ k)) then
      some (((1 : Int), m))
    else
      Option.bind (mirror_Mirror_Drop_l1 m k FUEL 0 0) fun a47 =>
      if (((a47 : Nat) : Int) = (0 : Int)) then
        some (((19 : Int), m))
      else
        grd (decide (0 ≤ k ∧ k < (((m.legs.set ((k).toNat) { m.legs.getD ((k).toNat) mleg_x0 with state := (2 : Int) })).length : Int))) <|
        some (((0 : Int), { m with legs := (((m.legs.set ((k).toNat) { m.legs.getD ((k).toNat) mleg_x0 with state := (2 : Int) })).set ((k).toNat) { ((m.legs.set ((k).toNat) { m.legs.getD ((k).toNat) mleg_x0 with state := (2 : Int) })).getD ((k).toNat) mleg_x0 with copied := (0 : Int) }) }))
theorem L_mirror_Mirror_Drop {W : World} {bm : Nat} {bs : Nat} {m : MirS} {k : Int} {s : ArrS} {r : Int × MirS} (h : mirror_Mirror_Drop m k s = some r) :
    CSpec Try.prog W 17 [ptr bm 0, .int .i64 k] [MirP bs bm m, Arr bs s] (fun x : Unit => .int .i64 r.1) (fun _ => True) (fun x F => MirP bs bm r.2 :: Arr bs s :: F) := by
 refine CSpec.of_body Try.func17 rfl Try.ntmps17 rfl fun F => ?_
 show CJ _ _ _ _ _ _ (_ :: _ :: F)
 unfold mirror_Mirror_Drop at h
 refine sR <| oA rfl rfl <| nT <| CJ_seq <| CJ_seq <| CJ_entX (Ent.transX (t0_ eR) (MirP_open (l := m))) fun oc1 => CJ_pure (fun h hh => Rs_len (stars_perm (del2 (A := Rs (DevP bs) (m.legs.map mlegS.dev) oc1.2.1)).out h hh)) fun hdl3 => lC del1 fun hlen4 => ?_
 rw [mk_mleg_len (by have := hdl3; simpa using this)] at hlen4
 refine lC del4 fun hlen5 => CJ_region <| oM rfl rfl <| oM rfl rfl <| oP (P_nilCheck rfl) rfl <| oP (P_fieldAddr rfl ⟨_, _, _, Try.runUnderlying74, rfl, rfl, Try.sizeOf70, rfl⟩) rfl <| oV (V_load rfl foc0 rfl Try.isAgg70) rfl <| oV (VJ_eq (V_len rfl foc1 (Reads.sl _ _ _) Try.runUnderlying70) (congrArg (fun z : Nat => Value.int .i64 (z : Int)) (mk_mleg_len (by have := hdl3; simpa using this)).symm)) rfl <| oP (P_eql (a := k) (b := ((m.legs.length : Nat) : Int)) rfl rfl) rfl <| oM rfl rfl <| RJ_mbT rfl rfl rfl (fun hG6 => have hP7 : (k = ((m.legs.length : Nat) : Int)) := (bT_dec).1 hG6; VJ_P (P_move rfl)) <| RJ_mbT rfl rfl rfl (fun hG8 => have hP9 : (k = ((m.legs.length : Nat) : Int)) := (bT_dec).1 hG8; VJ_P (P_nilCheck (mbx hG8 rfl))) <| RJ_mbT rfl rfl rfl (fun hG10 => have hP11 : (k = ((m.legs.length : Nat) : Int)) := (bT_dec).1 hG10; VJ_P (P_fieldAddr (mbx hG10 rfl) ⟨_, _, _, Try.runUnderlying74, rfl, rfl, Try.sizeOf4, rfl⟩)) <| RJ_mbT rfl rfl rfl (fun hG12 => have hP13 : (k = ((m.legs.length : Nat) : Int)) := (bT_dec).1 hG12; V_load (mbx hG12 rfl) foc0 rfl Try.isAgg4) <| oP (P_pickAnd rfl (fun hh => mbx hh rfl) rfl) rfl <| RJ_nil <| QJ_ent (Ent.trans eR (MirP_mk (v0 := m.legs) (v1 := m.log) (v2 := m.hasLog) (v3 := m.logState) (v4 := m.size) (v5 := m.region) (v6 := m.dirty) (v7 := m.copied) (h0 := oc1.1) (h1 := oc1.2.1) (h2 := oc1.2.2.1) (h3 := oc1.2.2.2))) <| QJ_then <| CJ_condP rfl (bT_and bT_dec Iff.rfl) (fun hg1 => ?_) (fun hg1 => ?_)
 ·
  replace h := ite_t hg1 h
  refine CJ_seq <| CJ_entX (Ent.transX (t0_ eR) (MirP_open (l := m))) fun oc14 => CJ_pure (fun h hh => Rs_len (stars_perm (del2 (A := Rs (DevP bs) (m.legs.map mlegS.dev) oc14.2.1)).out h hh)) fun hdl16 => lC del1 fun hlen17 => ?_
  rw [mk_mleg_len (by have := hdl16; simpa using this)] at hlen17
  refine lC del4 fun hlen18 => CJ_region <| oM rfl rfl <| oM rfl rfl <| oP (P_nilCheck rfl) rfl <| oP (P_fieldAddr rfl ⟨_, _, _, Try.runUnderlying74, rfl, rfl, Try.sizeOf71, rfl⟩) rfl <| oO <| O_store rfl rfl foc0 rfl rfl Try.sizeOf71 <| oP (P_nilCheck rfl) rfl <| oP (P_fieldAddr rfl ⟨_, _, _, Try.runUnderlying74, rfl, rfl, Try.sizeOf72, rfl⟩) rfl <| oO <| O_store rfl rfl foc0 rfl rfl Try.sizeOf72 <| RJ_nil <| QJ_ent (Ent.trans (t0_ (t0_ (t0_ (Ent.trans (fun h hh => optP_none h hh) <| t0_ (t1_ eR))))) (MirP_mk (v0 := m.legs) (v1 := none) (v2 := m.hasLog) (v3 := (2 : Int)) (v4 := m.size) (v5 := m.region) (v6 := m.dirty) (v7 := m.copied) (h0 := oc14.1) (h1 := oc14.2.1) (h2 := 0) (h3 := oc14.2.2.2))) <| QJ_then <| sR <| oA rfl rfl <| nT <| CJ_ret <| QJ_then_ret ?_
  cases h
  exact fE (res1 Try.results17 rfl) () (t0_ (t1_ (eD eR)))
 ·
  replace h := ite_f hg1 h
  refine kT <| CJ_seq <| CJ_seq <| CJ_entX (Ent.transX (t0_ eR) (MirP_open (l := m))) fun oc19 => CJ_pure (fun h hh => Rs_len (stars_perm (del2 (A := Rs (DevP bs) (m.legs.map mlegS.dev) oc19.2.1)).out h hh)) fun hdl21 => lC del1 fun hlen22 => ?_
  rw [mk_mleg_len (by have := hdl21; simpa using this)] at hlen22
  refine lC del4 fun hlen23 => CJ_region <| oM rfl rfl <| oP (P_lss (a := k) (b := (0 : Int)) rfl rfl) rfl <| oM rfl rfl <| RJ_mbF rfl rfl rfl (fun hG24 => have hP25 : ¬ (k < (0 : Int)) := nP (bT_dec) hG24; VJ_P (P_move rfl)) <| RJ_mbF rfl rfl rfl (fun hG26 => have hP27 : ¬ (k < (0 : Int)) := nP (bT_dec) hG26; VJ_P (P_move rfl)) <| RJ_mbF rfl rfl rfl (fun hG28 => have hP29 : ¬ (k < (0 : Int)) := nP (bT_dec) hG28; VJ_P (P_nilCheck (mbx hG28 rfl))) <| RJ_mbF rfl rfl rfl (fun hG30 => have hP31 : ¬ (k < (0 : Int)) := nP (bT_dec) hG30; VJ_P (P_fieldAddr (mbx hG30 rfl) ⟨_, _, _, Try.runUnderlying74, rfl, rfl, Try.sizeOf70, rfl⟩)) <| RJ_mbF rfl rfl rfl (fun hG32 => have hP33 : ¬ (k < (0 : Int)) := nP (bT_dec) hG32; V_load (mbx hG32 rfl) foc0 rfl Try.isAgg70) <| RJ_mbF rfl rfl rfl (fun hG34 => have hP35 : ¬ (k < (0 : Int)) := nP (bT_dec) hG34; VJ_eq (V_len (mbx hG34 rfl) foc1 (Reads.sl _ _ _) Try.runUnderlying70) (congrArg (fun z : Nat => Value.int .i64 (z : Int)) (mk_mleg_len (by have := hdl21; simpa using this)).symm)) <| RJ_mbF rfl rfl rfl (fun hG36 => have hP37 : ¬ (k < (0 : Int)) := nP (bT_dec) hG36; VJ_P (P_geq (a := k) (b := ((m.legs.length : Nat) : Int)) (mbx hG36 rfl) (mbx hG36 rfl))) <| oP (P_pickOr rfl rfl (fun hh => mbx (not_f hh) rfl)) rfl <| RJ_nil ?_
  refine QJ_ent (Ent.trans eR (MirP_mk (v0 := m.legs) (v1 := m.log) (v2 := m.hasLog) (v3 := m.logState) (v4 := m.size) (v5 := m.region) (v6 := m.dirty) (v7 := m.copied) (h0 := oc19.1) (h1 := oc19.2.1) (h2 := oc19.2.2.1) (h3 := oc19.2.2.2))) <| QJ_then <| CJ_condP rfl (bT_or bT_dec bT_dec) (fun hg2 => ?_) (fun hg2 => ?_)
  ·
   replace h := ite_t hg2 h
   refine sR <| oA rfl rfl <| nT <| CJ_ret <| QJ_then_ret ?_
   cases h
   exact fE (res1 Try.results17 rfl) () eR
  ·
   replace h := ite_f hg2 h
   refine kT <| sR <| oA rfl rfl <| nT <| CJ_seq <| CJ_seq <| CJ_entX (Ent.transX (t0_ eR) (MirP_open (l := m))) fun oc38 => CJ_pure (fun h hh => Rs_len (stars_perm (del2 (A := Rs (DevP bs) (m.legs.map mlegS.dev) oc38.2.1)).out h hh)) fun hdl40 => lC del1 fun hlen41 => ?_
   rw [mk_mleg_len (by have := hdl40; simpa using this)] at hlen41
   refine lC del4 fun hlen42 => CJ_region <| oM rfl rfl <| oP (P_nilCheck rfl) rfl <| oP (P_fieldAddr rfl ⟨_, _, _, Try.runUnderlying74, rfl, rfl, Try.sizeOf70, rfl⟩) rfl <| oV (V_load rfl foc0 rfl Try.isAgg70) rfl <| oV (VJ_eq (V_len rfl foc1 (Reads.sl _ _ _) Try.runUnderlying70) (congrArg (fun z : Nat => Value.int .i64 (z : Int)) (mk_mleg_len (by have := hdl40; simpa using this)).symm)) rfl <| oM rfl rfl <| nT ?_
   obtain ⟨y45, hl43, hK44⟩ := bind_c h
   refine CJ_cutT (X := Nat) [5, 6, 7, 43, 44, 45, 46, 47, 48, 49, 50, 51, 52, 53, 54, 55, 56, 57, 58] (fun a47 => ([(5, .int .i64 (((a47 : Nat) : Int)))] : Slots)) (fun a47 R => R) (fun a47 => y45 = a47) Dels.nil ?_ ?_
   ·
    refine CJ_block <| CJ_loopR (X := Nat × Nat × Nat) [5, 6, 7, 43, 44, 45, 46, 47, 48, 49, 50, 51, 52, 53, 54, 55, 56, 57, 58] (fun ⟨n, x48, x49⟩ => ([(5, .int .i64 (((x49 : Nat) : Int))), (43, .int .i64 (((x48 : Nat) : Int)))] : Slots)) (fun ⟨n, x48, x49⟩ R => R) (fun ⟨n, x48, x49⟩ => mirror_Mirror_Drop_l1 m k n x48 x49 = some y45) (fun ⟨n, x48, x49⟩ => n) ⟨FUEL, 0, 0⟩ ?_ ?_ eR ?_
    · exact hl43
    · exact ⟨rfl, rfl, True.intro⟩
    ·
     rintro ⟨n, x48, x49⟩ h
     cases n with
     | zero => exact none_e h
     | succ n => ?_
     replace h : mirror_Mirror_Drop_l1_b m k (mirror_Mirror_Drop_l1 m k n) x48 x49 = some y45 := h
     unfold mirror_Mirror_Drop_l1_b at h
     show CJ _ _ _ _ _ (([(5, .int .i64 (((x49 : Nat) : Int))), (43, .int .i64 (((x48 : Nat) : Int)))] : Slots) ++ forget _ _) (_)
     refine sR <| oP (P_lss (a := ((x48 : Nat) : Int)) (b := ((m.legs.length : Nat) : Int)) rfl rfl) rfl <| nT <| CJ_seq <| CJ_condP rfl bT_dec (fun hg3 => ?_) (fun hg3 => ?_)
     ·
      replace h := ite_t hg3 h
      refine kT <| CJ_seq <| CJ_block <| sR <| oM rfl rfl <| oV (V_index (i := x48) rfl rfl rfl (show x48 < (mk_mleg m.legs oc38.2.1).length by rw [mk_mleg_len (by have := hdl40; simpa using this)]; exact (by omega)) foc1 (Reads.sl _ _ _) Try.runUnderlying70 Try.sizeOf83) rfl <| RJ_ent (Ent.trans (t2_ eR) (mk_mleg_rs (i := x48) (by omega))) <| oV (VJ_eq (V_loadEN rfl rfl (show x48 < (mk_mleg m.legs oc38.2.1).length by rw [mk_mleg_len (by have := hdl40; simpa using this)]; exact (by omega)) foc3 (Reads.sl _ _ _) rfl rfl Try.isAgg83 Try.sizeOf83) (show Value.agg #[IfH.v (oc38.2.1.getD x48 tyDev.dflt), .int .i64 ((m.legs.getD x48 mleg_x0).state), .int .i64 ((m.legs.getD x48 mleg_x0).copied)] = Value.agg #[IfH.v ((mk_mleg m.legs oc38.2.1).getD x48 mleg_h0).dev, .int .i64 ((mk_mleg m.legs oc38.2.1).getD x48 mleg_h0).state, .int .i64 ((mk_mleg m.legs oc38.2.1).getD x48 mleg_h0).copied] from by rw [mk_mleg_at (by have := hdl40; simpa using this)])) rfl <| oO <| O_alloc Try.zeroValue83 rfl rfl fun b51 => oA rfl rfl <| oO <| O_storeN rfl rfl foc0 Try.sizeOf83 rfl rfl rfl <| nT <| sR <| oM rfl rfl <| oM rfl rfl <| oP (P_neq (a := ((x48 : Nat) : Int)) (b := k) rfl rfl) rfl <| oM rfl rfl <| RJ_mbT rfl rfl rfl (fun hG52 => have hP53 : (((x48 : Nat) : Int) ≠ k) := (bT_dec).1 hG52; VJ_P (P_fieldAddr rfl ⟨_, _, _, Try.runUnderlying83, rfl, rfl, Try.sizeOf72, rfl⟩)) ?_
      refine RJ_mbT rfl rfl rfl (fun hG54 => have hP55 : (((x48 : Nat) : Int) ≠ k) := (bT_dec).1 hG54; V_load (mbx hG54 rfl) foc0 rfl Try.isAgg72) <| RJ_mbT rfl rfl rfl (fun hG56 => have hP57 : (((x48 : Nat) : Int) ≠ k) := (bT_dec).1 hG56; VJ_P (P_neq (a := (m.legs.getD x48 mleg_x0).state) (b := (2 : Int)) (mbx hG56 rfl) rfl)) <| oP (P_pickAnd rfl (fun hh => mbx hh rfl) rfl) rfl <| RJ_nil <| QJ_ent (t2_ (t2_ (t2_ (t2_ (t2_ (t2_ (eD (eD eR)))))))) <| QJ_then <| CJ_condP rfl (bT_and bT_dec bT_dec) (fun hg4 => ?_) (fun hg4 => ?_)
      ·
       replace h := ite_t hg4 h
       refine CJ_region <| oM rfl rfl ?_
       obtain ⟨hg5, h⟩ := grd_Ne h
       exact oP (PJ_eq (P_add (a := ((x49 : Nat) : Int)) (b := (1 : Int)) rfl rfl (nat_in hg5)) rfl) rfl <| oA rfl rfl <| RJ_nil <| QJ_block_normal <| QJ_then <| CJ_region <| oP (PJ_eq (P_add (a := ((x48 : Nat) : Int)) (b := (1 : Int)) rfl rfl (by omega)) rfl) rfl <| oM rfl rfl <| RJ_nil <| nR ⟨n, (x48 + 1), (x49 + 1)⟩ h ⟨rfl, rfl, True.intro⟩ (t1_ (t1_ eR))
      ·
       replace h := ite_f hg4 h
       exact CJ_skip <| QJ_block_normal <| QJ_then <| CJ_region <| oP (PJ_eq (P_add (a := ((x48 : Nat) : Int)) (b := (1 : Int)) rfl rfl (by omega)) rfl) rfl <| oM rfl rfl <| RJ_nil <| nR ⟨n, (x48 + 1), x49⟩ h ⟨rfl, rfl, True.intro⟩ (t1_ (t1_ eR))
     ·
      replace h := ite_f hg3 h
      exact CJ_exit <| QJ_then_exit <| QJ_round_exit <| QJ_block_here <| cR x49 (Option.some.inj h).symm ⟨rfl, True.intro⟩ eR
   ·
    rintro a47 hy58
    replace h := bindK_at hK44 hy58
    show CJ _ _ _ _ _ (([(5, .int .i64 (((a47 : Nat) : Int)))] : Slots) ++ forget _ _) (_)
    refine CJ_seq <| sR <| oM rfl rfl <| oP (P_eql (a := ((a47 : Nat) : Int)) (b := (0 : Int)) rfl rfl) rfl <| nT <| CJ_condP rfl bT_dec (fun hg6 => ?_) (fun hg6 => ?_)
    ·
     replace h := ite_t hg6 h
     refine sR <| oA rfl rfl <| nT <| CJ_ret <| QJ_then_ret <| QJ_ent (Ent.trans eR (MirP_mk (v0 := m.legs) (v1 := m.log) (v2 := m.hasLog) (v3 := m.logState) (v4 := m.size) (v5 := m.region) (v6 := m.dirty) (v7 := m.copied) (h0 := oc38.1) (h1 := oc38.2.1) (h2 := oc38.2.2.1) (h3 := oc38.2.2.2))) ?_
     cases h
     exact fE (res1 Try.results17 rfl) () eR
    ·
     replace h := ite_f hg6 h
     refine kT <| CJ_seq <| AJ_start [blk bm 74 [(Sl3.v oc38.1), oval m.log oc38.2.2.1, .bool m.hasLog, .int .i64 m.logState, .int .i64 m.size, .int .i64 m.region, (Sl3.v oc38.2.2.2), .int .i64 m.copied], optP (LogP bs oc38.2.2.1) m.log, sl tyB (Sl3.v oc38.2.2.2) m.dirty, Arr bs s] 32768 (by kernel_rfl) rfl <| aN 0 1 rfl rfl (P_move rfl) rfl <| aN 1 3 rfl rfl (P_nilCheck rfl) rfl <| aN 2 7 rfl rfl (P_fieldAddr rfl ⟨_, _, _, Try.runUnderlying74, rfl, rfl, Try.sizeOf70, rfl⟩) rfl <| aV 3 15 rfl rfl (GY_none rfl) (t0_ (t2_ (t2_ (t2_ Ent.done)))) (V_load rfl foc0 rfl Try.isAgg70) rfl <| aN 4 31 rfl rfl (P_move rfl) rfl <| aN 5 63 rfl rfl (P_move rfl) rfl <| aN 6 127 rfl rfl (P_nilCheck rfl) rfl <| aN 7 255 rfl rfl (P_fieldAddr rfl ⟨_, _, _, Try.runUnderlying74, rfl, rfl, Try.sizeOf70, rfl⟩) rfl <| aV 8 511 rfl rfl (GY_none rfl) (t0_ (t2_ (t2_ (t2_ Ent.done)))) (V_load rfl foc0 rfl Try.isAgg70) rfl <| aN 9 1023 rfl rfl (P_move rfl) rfl <| AJ_op 10 2047 rfl (by kernel_rfl) rfl (GY_none rfl) <| OJ_V (V_index (i := (k).toNat) rfl rfl (Int.toNat_of_nonneg (by omega)).symm (show (k).toNat < (mk_mleg m.legs oc38.2.1).length by rw [mk_mleg_len (by have := hdl40; simpa using this)]; exact (by omega)) foc1 (Reads.sl _ _ _) Try.runUnderlying70 Try.sizeOf83) rfl <| ⟨fun _ => (t0_ (t2_ (t2_ (t2_ Ent.done)))), ?_⟩
     refine aN 11 4095 rfl rfl (P_fieldE rfl ⟨_, _, _, Try.runUnderlying83, rfl, rfl, Try.sizeOf72, rfl⟩) rfl <| AJ_op 12 8191 rfl (by kernel_rfl) rfl (GY_none rfl) <| O_storeE (x' := { (mk_mleg m.legs oc38.2.1).getD ((k).toNat) mleg_h0 with state := (2 : Int) }) rfl rfl rfl (show (k).toNat < (mk_mleg m.legs oc38.2.1).length by rw [mk_mleg_len (by have := hdl40; simpa using this)]; exact (by omega)) foc1 rfl rfl rfl Try.sizeOf72 <| ⟨fun _ => (t0_ (t2_ (t2_ (t2_ Ent.done)))), ?_⟩
     refine AJ_ent (Ent.takeC (A' := sl tymlegH (Sl3.v oc38.1) (mk_mleg (m.legs.set ((k).toNat) { m.legs.getD ((k).toNat) mleg_x0 with state := (2 : Int) }) oc38.2.1)) del1 (congrArg (sl tymlegH (Sl3.v oc38.1)) (mk_mleg_set_state (by have := hdl40; simpa using this) (by omega) (2 : Int))) (Ent.takeC (A' := Rs (DevP bs) (((m.legs.set ((k).toNat) { m.legs.getD ((k).toNat) mleg_x0 with state := (2 : Int) })).map mlegS.dev) oc38.2.1) del1 (congrArg (fun z => Rs (DevP bs) z oc38.2.1) (mk_mleg_dev_state (l := m.legs) (i := ((k).toNat)) (2 : Int)).symm) eR)) <| AJ_pure (fun h hh => Rs_len (stars_perm (del1 (A := Rs (DevP bs) ((((m.legs.set ((k).toNat) { m.legs.getD ((k).toNat) mleg_x0 with state := (2 : Int) })).map mlegS.dev)) oc38.2.1)).out h hh)) fun hdl59 => ?_
     obtain ⟨hg7, h⟩ := grd_de h
     refine AJ_op 13 16383 rfl (by kernel_rfl) rfl (GY_none rfl) <| OJ_V (V_index (i := (k).toNat) rfl rfl (Int.toNat_of_nonneg (hg7.1)).symm (show (k).toNat < (mk_mleg ((m.legs.set ((k).toNat) { m.legs.getD ((k).toNat) mleg_x0 with state := (2 : Int) })) oc38.2.1).length by rw [mk_mleg_len (by have := hdl59; simpa using this)]; exact (by omega)) foc0 (Reads.sl _ _ _) Try.runUnderlying70 Try.sizeOf83) rfl <| ⟨fun _ => (t2_ (t2_ (t2_ (t2_ Ent.done)))), ?_⟩
     refine aN 14 32767 rfl rfl (P_fieldE rfl ⟨_, _, _, Try.runUnderlying83, rfl, rfl, Try.sizeOf3, rfl⟩) rfl <| AJ_op 15 65535 rfl (by kernel_rfl) rfl (GY_none rfl) <| O_storeE (x' := { (mk_mleg ((m.legs.set ((k).toNat) { m.legs.getD ((k).toNat) mleg_x0 with state := (2 : Int) })) oc38.2.1).getD ((k).toNat) mleg_h0 with copied := (0 : Int) }) rfl rfl rfl (show (k).toNat < (mk_mleg ((m.legs.set ((k).toNat) { m.legs.getD ((k).toNat) mleg_x0 with state := (2 : Int) })) oc38.2.1).length by rw [mk_mleg_len (by have := hdl59; simpa using this)]; exact (by omega)) foc0 rfl rfl rfl Try.sizeOf3 <| ⟨fun h => absurd h (by decide), ?_⟩
     refine AJ_ent (Ent.takeC (A' := sl tymlegH (Sl3.v oc38.1) (mk_mleg (((m.legs.set ((k).toNat) { m.legs.getD ((k).toNat) mleg_x0 with state := (2 : Int) })).set ((k).toNat) { ((m.legs.set ((k).toNat) { m.legs.getD ((k).toNat) mleg_x0 with state := (2 : Int) })).getD ((k).toNat) mleg_x0 with copied := (0 : Int) }) oc38.2.1)) del0 (congrArg (sl tymlegH (Sl3.v oc38.1)) (mk_mleg_set_copied (by have := hdl59; simpa using this) (by omega) (0 : Int))) (Ent.takeC (A' := Rs (DevP bs) (((((m.legs.set ((k).toNat) { m.legs.getD ((k).toNat) mleg_x0 with state := (2 : Int) })).set ((k).toNat) { ((m.legs.set ((k).toNat) { m.legs.getD ((k).toNat) mleg_x0 with state := (2 : Int) })).getD ((k).toNat) mleg_x0 with copied := (0 : Int) })).map mlegS.dev) oc38.2.1) del0 (congrArg (fun z => Rs (DevP bs) z oc38.2.1) (mk_mleg_dev_copied (l := ((m.legs.set ((k).toNat) { m.legs.getD ((k).toNat) mleg_x0 with state := (2 : Int) }))) (i := ((k).toNat)) (0 : Int)).symm) eR)) <| AJ_pure (fun h hh => Rs_len (stars_perm (del1 (A := Rs (DevP bs) ((((((m.legs.set ((k).toNat) { m.legs.getD ((k).toNat) mleg_x0 with state := (2 : Int) })).set ((k).toNat) { ((m.legs.set ((k).toNat) { m.legs.getD ((k).toNat) mleg_x0 with state := (2 : Int) })).getD ((k).toNat) mleg_x0 with copied := (0 : Int) })).map mlegS.dev)) oc38.2.1)).out h hh)) fun hdl60 => aD <| sR <| oA rfl rfl <| nT <| CJ_ret ?_
     refine QJ_ent (Ent.trans (t2_ eR) (MirP_mk (v0 := (((m.legs.set ((k).toNat) { m.legs.getD ((k).toNat) mleg_x0 with state := (2 : Int) })).set ((k).toNat) { ((m.legs.set ((k).toNat) { m.legs.getD ((k).toNat) mleg_x0 with state := (2 : Int) })).getD ((k).toNat) mleg_x0 with copied := (0 : Int) })) (v1 := m.log) (v2 := m.hasLog) (v3 := m.logState) (v4 := m.size) (v5 := m.region) (v6 := m.dirty) (v7 := m.copied) (h0 := oc38.1) (h1 := oc38.2.1) (h2 := oc38.2.2.1) (h3 := oc38.2.2.2))) ?_
     cases h
     exact fE (res1 Try.results17 rfl) () eR
end Go.Proofs
