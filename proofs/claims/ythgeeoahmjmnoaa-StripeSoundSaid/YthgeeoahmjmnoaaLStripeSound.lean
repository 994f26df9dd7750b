/- YthgeeoahmjmnoaaLStripeSound: lifted functions of the program; printed by lift.py. -/
import Derived.Test.YthgeeoahmjmnoaaLCls3
set_option linter.unusedSimpArgs false
set_option linter.unusedVariables false
set_option maxRecDepth 20000
set_option maxHeartbeats 4000000
namespace Go.Proofs
open Go.VG

theorem bld_155_0_1 (v0 : Int) (v1 : Int) : ∀ w, (Instr.build 155 (#[(0, .int .i64 v0), (1, .int .i64 v1)] : Array (Nat × Value))).run Try.prog w = .ok (.agg #[.int .i64 v0, .int .i64 v1]) w := fun w => by kernel_rfl
theorem bs_58_2_0_1 (v0 : Int) (v1 : Int) : BuildsSlice Try.prog 58 2 [(0, .int .i64 v0), (1, .int .i64 v1)] 3 [.int .i64 v0, .int .i64 v1] := fun w => by kernel_rfl
theorem bs_27_1_0 (v0 : (Option Addr)) (v1 : Nat) (v2 : Nat) : BuildsSlice Try.prog 27 1 [(0, .slice v0 v1 v2)] 25 [.slice v0 v1 v2] := fun w => by kernel_rfl
theorem bld_157_0_1_2 (v0 : Int) (v1 : Int) (v2 : (Option Addr)) (v3 : Nat) (v4 : Nat) (v5 : Int) : ∀ w, (Instr.build 157 (#[(0, .agg #[.int .i64 v0, .int .i64 v1]), (1, .slice v2 v3 v4), (2, .int .i64 v5)] : Array (Nat × Value))).run Try.prog w = .ok (.agg #[.int .i64 v0, .int .i64 v1, .slice v2 v3 v4, .int .i64 v5]) w := fun w => by kernel_rfl
def stripe_layout_valid (x_0 : stripe_layout) (at_1 : Int) : Option (Bool) :=
  some (((((((decide ((1 : Int) ≤ x_0.chunk)) && (decide (x_0.chunk ≤ (65536 : Int)))) && (decide ((1 : Int) ≤ x_0.n))) && (decide (x_0.n ≤ (6 : Int)))) && (decide ((0 : Int) ≤ at_1))) && (decide (at_1 ≤ (1073741824 : Int)))))

theorem L_stripe_layout_valid {W : World} {x_0 : stripe_layout} {at_1 : Int} {r : Bool} (h : stripe_layout_valid x_0 at_1 = some r) :
    CSpec Try.prog W 98 [.agg #[.int .i64 x_0.chunk, .int .i64 x_0.n], .int .i64 at_1] [] (fun x : Unit => .bool r) (fun _ => True) (fun x F => F) := by
  refine CSpec.of_body Try.func98 rfl Try.ntmps98 rfl (fun F => ?_)
  show CJ _ _ _ _ _ _ (F)
  unfold stripe_layout_valid at h
  refine CJ_seq ?_
  refine CJ_region ?_
  refine RJ_op rfl (O_box rfl rfl rfl (fun b1 => ?_))
  refine RJ_op rfl (OJ_P (P_assign rfl) rfl ?_)
  refine RJ_nil ?_
  refine QJ_then ?_
  refine CJ_seq ?_
  refine CJ_region ?_
  refine RJ_op rfl (OJ_P (P_fieldAddr rfl ⟨_, _, _, Try.runUnderlying155, rfl, rfl, Try.sizeOf3, rfl⟩) rfl ?_)
  refine RJ_op rfl (OJ_V (V_load rfl foc0 rfl Try.isAgg3) rfl ?_)
  refine RJ_op rfl (OJ_P (P_geq (a := x_0.chunk) (b := (1 : Int)) rfl rfl) rfl ?_)
  refine RJ_op rfl (OJ_P (P_move rfl) rfl ?_)
  refine RJ_mbT rfl rfl rfl (fun hG2 => have hP3 : ((1 : Int) ≤ x_0.chunk) := (bT_dec).1 hG2; VJ_P (P_fieldAddr rfl ⟨_, _, _, Try.runUnderlying155, rfl, rfl, Try.sizeOf3, rfl⟩)) ?_
  refine RJ_mbT rfl rfl rfl (fun hG4 => have hP5 : ((1 : Int) ≤ x_0.chunk) := (bT_dec).1 hG4; V_load (mbx hG4 rfl) foc0 rfl Try.isAgg3) ?_
  refine RJ_mbT rfl rfl rfl (fun hG6 => have hP7 : ((1 : Int) ≤ x_0.chunk) := (bT_dec).1 hG6; VJ_P (P_leq (a := x_0.chunk) (b := (65536 : Int)) (mbx hG6 rfl) rfl)) ?_
  refine RJ_op rfl (OJ_P (P_pickAnd rfl (fun hh => mbx hh rfl) rfl) rfl ?_)
  refine RJ_op rfl (OJ_P (P_move rfl) rfl ?_)
  refine RJ_mbT rfl rfl rfl (fun hG8 => have hP9 : (((1 : Int) ≤ x_0.chunk) ∧ (x_0.chunk ≤ (65536 : Int))) := ((bT_and bT_dec bT_dec)).1 hG8; VJ_P (P_fieldAddr rfl ⟨_, _, _, Try.runUnderlying155, rfl, rfl, Try.sizeOf3, rfl⟩)) ?_
  refine RJ_mbT rfl rfl rfl (fun hG10 => have hP11 : (((1 : Int) ≤ x_0.chunk) ∧ (x_0.chunk ≤ (65536 : Int))) := ((bT_and bT_dec bT_dec)).1 hG10; V_load (mbx hG10 rfl) foc0 rfl Try.isAgg3) ?_
  refine RJ_mbT rfl rfl rfl (fun hG12 => have hP13 : (((1 : Int) ≤ x_0.chunk) ∧ (x_0.chunk ≤ (65536 : Int))) := ((bT_and bT_dec bT_dec)).1 hG12; VJ_P (P_geq (a := x_0.n) (b := (1 : Int)) (mbx hG12 rfl) rfl)) ?_
  refine RJ_op rfl (OJ_P (P_pickAnd rfl (fun hh => mbx hh rfl) rfl) rfl ?_)
  refine RJ_op rfl (OJ_P (P_move rfl) rfl ?_)
  refine RJ_mbT rfl rfl rfl (fun hG14 => have hP15 : ((((1 : Int) ≤ x_0.chunk) ∧ (x_0.chunk ≤ (65536 : Int))) ∧ ((1 : Int) ≤ x_0.n)) := ((bT_and (bT_and bT_dec bT_dec) bT_dec)).1 hG14; VJ_P (P_fieldAddr rfl ⟨_, _, _, Try.runUnderlying155, rfl, rfl, Try.sizeOf3, rfl⟩)) ?_
  refine RJ_mbT rfl rfl rfl (fun hG16 => have hP17 : ((((1 : Int) ≤ x_0.chunk) ∧ (x_0.chunk ≤ (65536 : Int))) ∧ ((1 : Int) ≤ x_0.n)) := ((bT_and (bT_and bT_dec bT_dec) bT_dec)).1 hG16; V_load (mbx hG16 rfl) foc0 rfl Try.isAgg3) ?_
  refine RJ_mbT rfl rfl rfl (fun hG18 => have hP19 : ((((1 : Int) ≤ x_0.chunk) ∧ (x_0.chunk ≤ (65536 : Int))) ∧ ((1 : Int) ≤ x_0.n)) := ((bT_and (bT_and bT_dec bT_dec) bT_dec)).1 hG18; VJ_P (P_leq (a := x_0.n) (b := (6 : Int)) (mbx hG18 rfl) rfl)) ?_
  refine RJ_op rfl (OJ_P (P_pickAnd rfl (fun hh => mbx hh rfl) rfl) rfl ?_)
  refine RJ_op rfl (OJ_P (P_move rfl) rfl ?_)
  refine RJ_mbT rfl rfl rfl (fun hG20 => have hP21 : (((((1 : Int) ≤ x_0.chunk) ∧ (x_0.chunk ≤ (65536 : Int))) ∧ ((1 : Int) ≤ x_0.n)) ∧ (x_0.n ≤ (6 : Int))) := ((bT_and (bT_and (bT_and bT_dec bT_dec) bT_dec) bT_dec)).1 hG20; VJ_P (P_move rfl)) ?_
  refine RJ_mbT rfl rfl rfl (fun hG22 => have hP23 : (((((1 : Int) ≤ x_0.chunk) ∧ (x_0.chunk ≤ (65536 : Int))) ∧ ((1 : Int) ≤ x_0.n)) ∧ (x_0.n ≤ (6 : Int))) := ((bT_and (bT_and (bT_and bT_dec bT_dec) bT_dec) bT_dec)).1 hG22; VJ_P (P_geq (a := at_1) (b := (0 : Int)) (mbx hG22 rfl) rfl)) ?_
  refine RJ_op rfl (OJ_P (P_pickAnd rfl (fun hh => mbx hh rfl) rfl) rfl ?_)
  refine RJ_op rfl (OJ_P (P_move rfl) rfl ?_)
  refine RJ_mbT rfl rfl rfl (fun hG24 => have hP25 : ((((((1 : Int) ≤ x_0.chunk) ∧ (x_0.chunk ≤ (65536 : Int))) ∧ ((1 : Int) ≤ x_0.n)) ∧ (x_0.n ≤ (6 : Int))) ∧ ((0 : Int) ≤ at_1)) := ((bT_and (bT_and (bT_and (bT_and bT_dec bT_dec) bT_dec) bT_dec) bT_dec)).1 hG24; VJ_P (P_move rfl)) ?_
  refine RJ_mbT rfl rfl rfl (fun hG26 => have hP27 : ((((((1 : Int) ≤ x_0.chunk) ∧ (x_0.chunk ≤ (65536 : Int))) ∧ ((1 : Int) ≤ x_0.n)) ∧ (x_0.n ≤ (6 : Int))) ∧ ((0 : Int) ≤ at_1)) := ((bT_and (bT_and (bT_and (bT_and bT_dec bT_dec) bT_dec) bT_dec) bT_dec)).1 hG26; VJ_P (P_leq (a := at_1) (b := (1073741824 : Int)) (mbx hG26 rfl) rfl)) ?_
  refine RJ_op rfl (OJ_P (P_pickAnd rfl (fun hh => mbx hh rfl) rfl) rfl ?_)
  refine RJ_op rfl (OJ_P (P_assign rfl) rfl ?_)
  refine RJ_nil ?_
  refine QJ_then ?_
  refine CJ_ret ?_
  have hE := Option.some.inj h
  subst hE
  refine QJ_end (res1 Try.results98 rfl) ?_
  refine CSpec.close () ?_ ?_ (Ent.drop Ent.refl)
  · rfl
  · trivial

def stripe_Place (chunk : Int) (n_1 : Int) (at_2 : Int) : Option (Int × Int × Int) :=
  Option.bind (stripe_layout_valid (⟨chunk, n_1⟩ : stripe_layout) at_2) fun r2 =>
  if (¬ r2 = true) then
    some (((0 : Int), (0 : Int), (1 : Int)))
  else
    Option.bind (stripe_layout_place (⟨chunk, n_1⟩ : stripe_layout) at_2) fun r4 =>
    some ((r4.1, r4.2, (0 : Int)))

theorem L_stripe_Place {W : World} {chunk : Int} {n_1 : Int} {at_2 : Int} {r : Int × Int × Int} (h : stripe_Place chunk n_1 at_2 = some r) :
    CSpec Try.prog W 85 [.int .i64 chunk, .int .i64 n_1, .int .i64 at_2] [] (fun x : Unit => .tuple #[.int .i64 r.1, .int .i64 r.2.1, .int .i64 r.2.2]) (fun _ => True) (fun x F => F) := by
  refine CSpec.of_body Try.func85 rfl Try.ntmps85 rfl (fun F => ?_)
  show CJ _ _ _ _ _ _ (F)
  unfold stripe_Place at h
  refine CJ_seq ?_
  refine CJ_region ?_
  refine RJ_op rfl (OJ_P (P_assign rfl) rfl ?_)
  refine RJ_op rfl (OJ_P (P_assign rfl) rfl ?_)
  refine RJ_op rfl (OJ_P (P_assign rfl) rfl ?_)
  refine RJ_nil ?_
  refine QJ_then ?_
  refine CJ_seq ?_
  refine CJ_region ?_
  refine RJ_op rfl (OJ_P (P_move rfl) rfl ?_)
  refine RJ_op rfl (OJ_P (P_move rfl) rfl ?_)
  refine RJ_op rfl (OJ_P (P_build rfl (bld_155_0_1 _ _)) rfl ?_)
  refine RJ_op rfl (O_alloc Try.zeroValue155 rfl rfl (fun b1 => ?_))
  refine RJ_op rfl (O_storeN rfl rfl foc0 Try.sizeOf155 rfl rfl rfl ?_)
  refine RJ_nil ?_
  refine QJ_then ?_
  refine CJ_seq ?_
  refine CJ_seq ?_
  refine CJ_region ?_
  refine RJ_op rfl (OJ_V (V_loadN rfl foc0 Try.isAgg155 Try.sizeOf155 rfl rfl) rfl ?_)
  refine RJ_op rfl (OJ_P (P_move rfl) rfl ?_)
  obtain ⟨r2, hr3, h⟩ := bind_e h
  refine RJ_op rfl (O_call (L_stripe_layout_valid hr3) rfl Try.call98 Dels.nil rfl (fun _ _ => ?_))
  refine RJ_op rfl (OJ_P (P_not rfl) rfl ?_)
  refine RJ_nil ?_
  refine QJ_then ?_
  refine CJ_condP rfl (bT_not Iff.rfl) (fun hg1 => ?_) (fun hg1 => ?_)
  ·
    replace h := ite_t hg1 h
    refine CJ_seq ?_
    refine CJ_region ?_
    refine RJ_op rfl (OJ_P (P_assign rfl) rfl ?_)
    refine RJ_op rfl (OJ_P (P_assign rfl) rfl ?_)
    refine RJ_op rfl (OJ_P (P_assign rfl) rfl ?_)
    refine RJ_nil ?_
    refine QJ_then ?_
    refine CJ_ret ?_
    refine QJ_then_ret ?_
    have hE := Option.some.inj h
    subst hE
    refine QJ_end (res3 Try.results85 rfl rfl rfl) ?_
    refine CSpec.close () ?_ ?_ (Ent.drop Ent.refl)
    · rfl
    · trivial
  ·
    replace h := ite_f hg1 h
    refine CJ_skip ?_
    refine QJ_then ?_
    refine CJ_seq ?_
    refine CJ_region ?_
    refine RJ_op rfl (OJ_V (V_loadN rfl foc0 Try.isAgg155 Try.sizeOf155 rfl rfl) rfl ?_)
    refine RJ_op rfl (OJ_P (P_move rfl) rfl ?_)
    obtain ⟨r4, hr5, h⟩ := bind_e h
    refine RJ_op rfl (O_call (L_stripe_layout_place hr5) rfl Try.call99 Dels.nil rfl (fun _ _ => ?_))
    refine RJ_op rfl (OJ_P (P_move rfl) rfl ?_)
    refine RJ_op rfl (OJ_P (P_extract rfl rfl) rfl ?_)
    refine RJ_op rfl (OJ_P (P_extract rfl rfl) rfl ?_)
    refine RJ_op rfl (OJ_P (P_assign rfl) rfl ?_)
    refine RJ_op rfl (OJ_P (P_assign rfl) rfl ?_)
    refine RJ_nil ?_
    refine QJ_then ?_
    refine CJ_seq ?_
    refine CJ_region ?_
    refine RJ_op rfl (OJ_P (P_move rfl) rfl ?_)
    refine RJ_op rfl (OJ_P (P_move rfl) rfl ?_)
    refine RJ_op rfl (OJ_P (P_assign rfl) rfl ?_)
    refine RJ_op rfl (OJ_P (P_assign rfl) rfl ?_)
    refine RJ_op rfl (OJ_P (P_assign rfl) rfl ?_)
    refine RJ_nil ?_
    refine QJ_then ?_
    refine CJ_ret ?_
    have hE := Option.some.inj h
    subst hE
    refine QJ_end (res3 Try.results85 rfl rfl rfl) ?_
    refine CSpec.close () ?_ ?_ (Ent.drop Ent.refl)
    · rfl
    · trivial

def stripe_Size_1 (n_0 : Int) : Option (Bool) :=
  some (((decide (n_0 < (0 : Int))) || (decide ((1073741824 : Int) < n_0))))

theorem L_stripe_Size_1 {W : World} {n_0 : Int} {r : Bool} (h : stripe_Size_1 n_0 = some r) :
    CSpec Try.prog W 101 [.int .i64 n_0] [] (fun x : Unit => .bool r) (fun _ => True) (fun x F => F) := by
  refine CSpec.of_body Try.func101 rfl Try.ntmps101 rfl (fun F => ?_)
  show CJ _ _ _ _ _ _ (F)
  unfold stripe_Size_1 at h
  refine CJ_seq ?_
  refine CJ_region ?_
  refine RJ_op rfl (OJ_P (P_assign rfl) rfl ?_)
  refine RJ_nil ?_
  refine QJ_then ?_
  refine CJ_seq ?_
  refine CJ_region ?_
  refine RJ_op rfl (OJ_P (P_move rfl) rfl ?_)
  refine RJ_op rfl (OJ_P (P_lss (a := n_0) (b := (0 : Int)) rfl rfl) rfl ?_)
  refine RJ_op rfl (OJ_P (P_move rfl) rfl ?_)
  refine RJ_mbF rfl rfl rfl (fun hG1 => have hP2 : ¬ (n_0 < (0 : Int)) := nP (bT_dec) hG1; VJ_P (P_move rfl)) ?_
  refine RJ_mbF rfl rfl rfl (fun hG3 => have hP4 : ¬ (n_0 < (0 : Int)) := nP (bT_dec) hG3; VJ_P (P_gtr (a := n_0) (b := (1073741824 : Int)) (mbx hG3 rfl) rfl)) ?_
  refine RJ_op rfl (OJ_P (P_pickOr rfl rfl (fun hh => mbx (not_f hh) rfl)) rfl ?_)
  refine RJ_op rfl (OJ_P (P_assign rfl) rfl ?_)
  refine RJ_nil ?_
  refine QJ_then ?_
  refine CJ_ret ?_
  have hE := Option.some.inj h
  subst hE
  refine QJ_end (res1 Try.results101 rfl) ?_
  refine CSpec.close () ?_ ?_ Ent.refl
  · rfl
  · trivial

def slices_IndexFunc_int__stripe_Size_1_l1_b (p0 : List Int) (rec : Nat → Option ((Unit) ⊕ Int)) (x6 : Nat) : Option ((Unit) ⊕ Int) :=
  if (((x6 : Nat) : Int) < ((p0.length : Nat) : Int)) then
    Option.bind (stripe_Size_1 (p0.getD x6 0)) fun r7 =>
    if r7 = true then
      some (.inr (((x6 : Nat) : Int)))
    else
      rec (x6 + 1)
  else
    some (.inl ())

def slices_IndexFunc_int__stripe_Size_1_l1 (p0 : List Int) : Nat → Nat → Option ((Unit) ⊕ Int)
  | 0, _ => none
  | n + 1, x6 => slices_IndexFunc_int__stripe_Size_1_l1_b p0 (slices_IndexFunc_int__stripe_Size_1_l1 p0 n) x6

def slices_IndexFunc_int__stripe_Size_1 (p0 : List Int) : Option (Int) :=
  seqO (slices_IndexFunc_int__stripe_Size_1_l1 p0 FUEL 0) fun a5 =>
  some (-1 : Int)

theorem L_slices_IndexFunc_int__stripe_Size_1 {W : World} {Ap0 : HP} {vp0 : Value} {p0 : List Int} {r : Int} (rp0 : Reads Ap0 tyI vp0 p0) (h : slices_IndexFunc_int__stripe_Size_1 p0 = some r) :
    CSpec Try.prog W 106 [vp0, .func (.func 101) #[] #[]] [Ap0] (fun x : Unit => .int .i64 r) (fun _ => True) (fun x F => Ap0 :: F) := by
  refine CSpec.of_body Try.func106 rfl Try.ntmps106 rfl (fun F => ?_)
  show CJ _ _ _ _ _ _ (_ :: F)
  unfold slices_IndexFunc_int__stripe_Size_1 at h
  refine CJ_pure (len_of rp0 del0) (fun hlen1 => ?_)
  refine CJ_seq ?_
  refine CJ_region ?_
  refine RJ_op rfl (OJ_P (P_assign rfl) rfl ?_)
  refine RJ_nil ?_
  refine QJ_then ?_
  refine CJ_seq ?_
  refine CJ_seq ?_
  refine CJ_region ?_
  refine RJ_op rfl (OJ_P (P_move rfl) rfl ?_)
  refine RJ_op rfl (OJ_V (V_len rfl foc0 rp0 Try.runUnderlying58) rfl ?_)
  refine RJ_op rfl (OJ_P (P_move rfl) rfl ?_)
  refine RJ_nil ?_
  refine QJ_then ?_
  obtain ⟨y4, hl2, hK3⟩ := seq_e h
  refine CJ_cutT (X := Unit) [4, 5, 8, 9, 10, 11, 12, 13, 14, 15, 16, 17, 18] (fun _ => ([] : Slots)) (fun _ R => R) (fun _ => y4 = .inl ()) Dels.nil ?_ ?_
  ·
    refine CJ_block ?_
    refine CJ_loopR (X := Nat × Nat) [4, 5, 8, 9, 10, 11, 12, 13, 14, 15, 16, 17, 18] (fun ⟨n, x6⟩ => ([(8, .int .i64 (((x6 : Nat) : Int)))] : Slots)) (fun ⟨n, x6⟩ R => R) (fun ⟨n, x6⟩ => slices_IndexFunc_int__stripe_Size_1_l1 p0 n x6 = some y4) (fun ⟨n, x6⟩ => n) ⟨FUEL, 0⟩ ?_ ?_ Ent.refl ?_
    · exact hl2
    · exact ⟨rfl, True.intro⟩
    ·
      rintro ⟨n, x6⟩ h
      cases n with
      | zero => exact none_e h
      | succ n => ?_
      replace h : slices_IndexFunc_int__stripe_Size_1_l1_b p0 (slices_IndexFunc_int__stripe_Size_1_l1 p0 n) x6 = some y4 := h
      unfold slices_IndexFunc_int__stripe_Size_1_l1_b at h
      show CJ _ _ _ _ _ (([(8, .int .i64 (((x6 : Nat) : Int)))] : Slots) ++ forget _ _) (_)
      refine CJ_seq ?_
      refine CJ_region ?_
      refine RJ_op rfl (OJ_P (P_lss (a := ((x6 : Nat) : Int)) (b := ((p0.length : Nat) : Int)) rfl rfl) rfl ?_)
      refine RJ_nil ?_
      refine QJ_then ?_
      refine CJ_seq ?_
      refine CJ_condP rfl bT_dec (fun hg1 => ?_) (fun hg1 => ?_)
      ·
        replace h := ite_t hg1 h
        refine CJ_skip ?_
        refine QJ_then ?_
        refine CJ_seq ?_
        refine CJ_block ?_
        refine CJ_seq ?_
        refine CJ_region ?_
        refine RJ_op rfl (OJ_P (P_move rfl) rfl ?_)
        refine RJ_op rfl (OJ_P (P_assign rfl) rfl ?_)
        refine RJ_nil ?_
        refine QJ_then ?_
        refine CJ_seq ?_
        refine CJ_region ?_
        refine RJ_op rfl (OJ_P (P_move rfl) rfl ?_)
        refine RJ_op rfl (OJ_P (P_move rfl) rfl ?_)
        refine RJ_op rfl (OJ_P (P_move rfl) rfl ?_)
        refine RJ_op rfl (OJ_V (V_index (i := x6) rfl rfl rfl (by omega) foc0 rp0 Try.runUnderlying58 Try.sizeOf3) rfl ?_)
        refine RJ_op rfl (OJ_V (V_loadE rfl rfl (by omega) foc0 rp0 rfl rfl Try.isAgg3) rfl ?_)
        obtain ⟨r7, hr8, h⟩ := bind_e h
        refine RJ_op rfl (O_callV rfl rfl (L_stripe_Size_1 hr8) Try.call101 Dels.nil rfl (fun _ _ => ?_))
        refine RJ_nil ?_
        refine QJ_then ?_
        refine CJ_condP rfl Iff.rfl (fun hg2 => ?_) (fun hg2 => ?_)
        ·
          replace h := ite_t hg2 h
          refine CJ_seq ?_
          refine CJ_region ?_
          refine RJ_op rfl (OJ_P (P_move rfl) rfl ?_)
          refine RJ_op rfl (OJ_P (P_assign rfl) rfl ?_)
          refine RJ_nil ?_
          refine QJ_then ?_
          refine CJ_ret ?_
          refine QJ_block_ret ?_
          refine QJ_then_ret ?_
          refine QJ_round_ret ?_
          refine QJ_block_ret ?_
          refine QJ_then_ret ?_
          have hE := Option.some.inj h
          replace hE := seq_inr hK3 hE.symm
          subst hE
          refine QJ_end (res1 Try.results106 rfl) ?_
          refine CSpec.close () ?_ ?_ Ent.refl
          · rfl
          · trivial
        ·
          replace h := ite_f hg2 h
          refine CJ_skip ?_
          refine QJ_block_normal ?_
          refine QJ_then ?_
          refine CJ_region ?_
          refine RJ_op rfl (OJ_P (PJ_eq (P_add (a := ((x6 : Nat) : Int)) (b := (1 : Int)) rfl rfl (by omega)) rfl) rfl ?_)
          refine RJ_op rfl (OJ_P (P_move rfl) rfl ?_)
          refine RJ_nil ?_
          refine QJ_nextR ⟨n, (x6 + 1)⟩ (Nat.lt_succ_self _) ?_ (by repeat (first | exact Kp.base | exact Kp.self | refine Kp.cons rfl ?_ | refine Kp.forget rfl ?_)) ?_ Ent.refl
          · exact h
          · exact ⟨rfl, True.intro⟩
      ·
        replace h := ite_f hg1 h
        refine CJ_exit ?_
        refine QJ_then_exit ?_
        refine QJ_round_exit ?_
        refine QJ_block_here ?_
        refine QJ_cutR () ?_ (by repeat (first | exact Kp.base | exact Kp.self | refine Kp.cons rfl ?_ | refine Kp.forget rfl ?_)) ?_ Ent.refl
        · exact (Option.some.inj h).symm
        · exact True.intro
  ·
    rintro _ hy9
    replace h := seq_inl hK3 hy9
    show CJ _ _ _ _ _ (([] : Slots) ++ forget _ _) (_)
    refine CJ_seq ?_
    refine CJ_region ?_
    refine RJ_op rfl (OJ_P (P_assign rfl) rfl ?_)
    refine RJ_nil ?_
    refine QJ_then ?_
    refine CJ_ret ?_
    have hE := Option.some.inj h
    subst hE
    refine QJ_end (res1 Try.results106 rfl) ?_
    refine CSpec.close () ?_ ?_ Ent.refl
    · rfl
    · trivial

def slices_ContainsFunc_int__stripe_Size_1 (p0 : List Int) : Option (Bool) :=
  Option.bind (slices_IndexFunc_int__stripe_Size_1 p0) fun r2 =>
  some ((decide ((0 : Int) ≤ r2)))

theorem L_slices_ContainsFunc_int__stripe_Size_1 {W : World} {Ap0 : HP} {vp0 : Value} {p0 : List Int} {r : Bool} (rp0 : Reads Ap0 tyI vp0 p0) (h : slices_ContainsFunc_int__stripe_Size_1 p0 = some r) :
    CSpec Try.prog W 100 [vp0, .func (.func 101) #[] #[]] [Ap0] (fun x : Unit => .bool r) (fun _ => True) (fun x F => Ap0 :: F) := by
  refine CSpec.of_body Try.func100 rfl Try.ntmps100 rfl (fun F => ?_)
  show CJ _ _ _ _ _ _ (_ :: F)
  unfold slices_ContainsFunc_int__stripe_Size_1 at h
  refine CJ_pure (len_of rp0 del0) (fun hlen1 => ?_)
  refine CJ_seq ?_
  refine CJ_region ?_
  refine RJ_op rfl (OJ_P (P_assign rfl) rfl ?_)
  refine RJ_nil ?_
  refine QJ_then ?_
  refine CJ_seq ?_
  refine CJ_region ?_
  refine RJ_op rfl (OJ_P (P_move rfl) rfl ?_)
  refine RJ_op rfl (OJ_P (P_move rfl) rfl ?_)
  obtain ⟨r2, hr3, h⟩ := bind_e h
  refine RJ_op rfl (O_call (L_slices_IndexFunc_int__stripe_Size_1 rp0 hr3) rfl Try.call106 (Dels.cons del0 Dels.nil) rfl (fun _ _ => ?_))
  refine RJ_op rfl (OJ_P (P_geq (a := r2) (b := (0 : Int)) rfl rfl) rfl ?_)
  refine RJ_op rfl (OJ_P (P_assign rfl) rfl ?_)
  refine RJ_nil ?_
  refine QJ_then ?_
  refine CJ_ret ?_
  have hE := Option.some.inj h
  subst hE
  refine QJ_end (res1 Try.results100 rfl) ?_
  refine CSpec.close () ?_ ?_ Ent.refl
  · rfl
  · trivial

def slices_Min_int_l2_b (p0 : List Int) (rec : Int → Nat → Option (Int)) (x12 : Int) (x13 : Nat) : Option (Int) :=
  if (((x13 : Nat) : Int) < ((p0.length : Nat) : Int)) then
    rec ((min x12 (p0.getD x13 0))) (x13 + 1)
  else
    some x12

def slices_Min_int_l2 (p0 : List Int) : Nat → Int → Nat → Option (Int)
  | 0, _, _ => none
  | n + 1, x12, x13 => slices_Min_int_l2_b p0 (slices_Min_int_l2 p0 n) x12 x13

def slices_Min_int (p0 : List Int) : Option (Int) :=
  Option.bind ((
    if (((p0.length : Nat) : Int) < (1 : Int)) then
      none
    else
      some () : Option (Unit))) fun a5 =>
  grd (decide (0 < p0.length)) <|
  Option.bind (slices_Min_int_l2 p0 FUEL (p0.getD 0 0) 1) fun a11 =>
  some a11

theorem L_slices_Min_int {W : World} {Ap0 : HP} {vp0 : Value} {p0 : List Int} {r : Int} (rp0 : Reads Ap0 tyI vp0 p0) (h : slices_Min_int p0 = some r) :
    CSpec Try.prog W 102 [vp0] [Ap0] (fun x : Unit => .int .i64 r) (fun _ => True) (fun x F => Ap0 :: F) := by
  refine CSpec.of_body Try.func102 rfl Try.ntmps102 rfl (fun F => ?_)
  show CJ _ _ _ _ _ _ (_ :: F)
  unfold slices_Min_int at h
  refine CJ_pure (len_of rp0 del0) (fun hlen1 => ?_)
  refine CJ_seq ?_
  refine CJ_region ?_
  refine RJ_op rfl (OJ_P (P_assign rfl) rfl ?_)
  refine RJ_nil ?_
  refine QJ_then ?_
  refine CJ_seq ?_
  refine CJ_seq ?_
  refine CJ_region ?_
  refine RJ_op rfl (OJ_P (P_move rfl) rfl ?_)
  refine RJ_op rfl (OJ_V (V_len rfl foc0 rp0 Try.runUnderlying58) rfl ?_)
  refine RJ_op rfl (OJ_P (P_lss (a := ((p0.length : Nat) : Int)) (b := (1 : Int)) rfl rfl) rfl ?_)
  refine RJ_nil ?_
  refine QJ_then ?_
  obtain ⟨y4, hl2, hK3⟩ := bind_c h
  refine CJ_cutT (X := Unit) [8] (fun _ => ([] : Slots)) (fun _ R => R) (fun _ => True) Dels.nil ?_ ?_
  ·
    have h := hl2
    refine CJ_condP rfl bT_dec (fun hg1 => ?_) (fun hg1 => ?_)
    ·
      replace h := ite_t hg1 h
      refine CJ_region ?_
      refine RJ_op rfl (OJ_P (P_makeIface rfl Try.runUnderlying9 (by intro ms h; cases h)) rfl ?_)
      exact none_e h
    ·
      replace h := ite_f hg1 h
      refine CJ_skip ?_
      refine QJ_cutR () ?_ (by repeat (first | exact Kp.base | exact Kp.self | refine Kp.cons rfl ?_ | refine Kp.forget rfl ?_)) ?_ Ent.refl
      · exact trivial
      · exact True.intro
  ·
    rintro _ hy6
    have h := hK3
    show CJ _ _ _ _ _ (([] : Slots) ++ forget _ _) (_)
    refine CJ_seq ?_
    refine CJ_region ?_
    refine RJ_op rfl (OJ_P (P_move rfl) rfl ?_)
    obtain ⟨hg2, h⟩ := grd_de h
    refine RJ_op rfl (OJ_V (V_index (i := 0) rfl rfl rfl hg2 foc0 rp0 Try.runUnderlying58 Try.sizeOf3) rfl ?_)
    refine RJ_op rfl (OJ_V (V_loadE rfl rfl hg2 foc0 rp0 rfl rfl Try.isAgg3) rfl ?_)
    refine RJ_op rfl (OJ_P (P_assign rfl) rfl ?_)
    refine RJ_nil ?_
    refine QJ_then ?_
    refine CJ_seq ?_
    refine CJ_seq ?_
    refine CJ_region ?_
    refine RJ_op rfl (OJ_P (P_assign rfl) rfl ?_)
    refine RJ_nil ?_
    refine QJ_then ?_
    obtain ⟨y9, hl7, hK8⟩ := bind_c h
    refine CJ_cutT (X := Int) [3, 4, 12, 13, 14, 15, 16, 17, 18, 19, 20, 21, 22, 23] (fun a11 => ([(3, .int .i64 a11)] : Slots)) (fun a11 R => R) (fun a11 => y9 = a11) Dels.nil ?_ ?_
    ·
      refine CJ_block ?_
      refine CJ_loopR (X := Nat × Int × Nat) [3, 4, 12, 13, 14, 15, 16, 17, 18, 19, 20, 21, 22, 23] (fun ⟨n, x12, x13⟩ => ([(3, .int .i64 x12), (4, .int .i64 (((x13 : Nat) : Int)))] : Slots)) (fun ⟨n, x12, x13⟩ R => R) (fun ⟨n, x12, x13⟩ => slices_Min_int_l2 p0 n x12 x13 = some y9) (fun ⟨n, x12, x13⟩ => n) ⟨FUEL, (p0.getD 0 0), 1⟩ ?_ ?_ Ent.refl ?_
      · exact hl7
      · exact ⟨rfl, rfl, True.intro⟩
      ·
        rintro ⟨n, x12, x13⟩ h
        cases n with
        | zero => exact none_e h
        | succ n => ?_
        replace h : slices_Min_int_l2_b p0 (slices_Min_int_l2 p0 n) x12 x13 = some y9 := h
        unfold slices_Min_int_l2_b at h
        show CJ _ _ _ _ _ (([(3, .int .i64 x12), (4, .int .i64 (((x13 : Nat) : Int)))] : Slots) ++ forget _ _) (_)
        refine CJ_seq ?_
        refine CJ_seq ?_
        refine CJ_region ?_
        refine RJ_op rfl (OJ_P (P_move rfl) rfl ?_)
        refine RJ_op rfl (OJ_P (P_move rfl) rfl ?_)
        refine RJ_op rfl (OJ_V (V_len rfl foc0 rp0 Try.runUnderlying58) rfl ?_)
        refine RJ_op rfl (OJ_P (P_lss (a := ((x13 : Nat) : Int)) (b := ((p0.length : Nat) : Int)) rfl rfl) rfl ?_)
        refine RJ_nil ?_
        refine QJ_then ?_
        refine CJ_condP rfl bT_dec (fun hg3 => ?_) (fun hg3 => ?_)
        ·
          replace h := ite_t hg3 h
          refine CJ_skip ?_
          refine QJ_then ?_
          refine CJ_seq ?_
          refine CJ_block ?_
          refine CJ_region ?_
          refine RJ_op rfl (OJ_P (P_move rfl) rfl ?_)
          refine RJ_op rfl (OJ_P (P_move rfl) rfl ?_)
          refine RJ_op rfl (OJ_P (P_move rfl) rfl ?_)
          refine RJ_op rfl (OJ_V (V_index (i := x13) rfl rfl rfl (by omega) foc0 rp0 Try.runUnderlying58 Try.sizeOf3) rfl ?_)
          refine RJ_op rfl (OJ_V (V_loadE rfl rfl (by omega) foc0 rp0 rfl rfl Try.isAgg3) rfl ?_)
          refine RJ_op rfl (OJ_P (P_min (a := x12) (b := (p0.getD x13 0)) rfl rfl) rfl ?_)
          refine RJ_op rfl (OJ_P (P_assign rfl) rfl ?_)
          refine RJ_nil ?_
          refine QJ_block_normal ?_
          refine QJ_then ?_
          refine CJ_region ?_
          refine RJ_op rfl (OJ_P (P_move rfl) rfl ?_)
          refine RJ_op rfl (OJ_P (PJ_eq (P_add (a := ((x13 : Nat) : Int)) (b := (1 : Int)) rfl rfl (by omega)) rfl) rfl ?_)
          refine RJ_op rfl (OJ_P (P_assign rfl) rfl ?_)
          refine RJ_nil ?_
          refine QJ_nextR ⟨n, (min x12 (p0.getD x13 0)), (x13 + 1)⟩ (Nat.lt_succ_self _) ?_ (by repeat (first | exact Kp.base | exact Kp.self | refine Kp.cons rfl ?_ | refine Kp.forget rfl ?_)) ?_ Ent.refl
          · exact h
          · exact ⟨rfl, rfl, True.intro⟩
        ·
          replace h := ite_f hg3 h
          refine CJ_exit ?_
          refine QJ_then_exit ?_
          refine QJ_round_exit ?_
          refine QJ_block_here ?_
          refine QJ_cutR x12 ?_ (by repeat (first | exact Kp.base | exact Kp.self | refine Kp.cons rfl ?_ | refine Kp.forget rfl ?_)) ?_ Ent.refl
          · exact (Option.some.inj h).symm
          · exact ⟨rfl, True.intro⟩
    ·
      rintro a11 hy14
      replace h := bindK_at hK8 hy14
      show CJ _ _ _ _ _ (([(3, .int .i64 a11)] : Slots) ++ forget _ _) (_)
      refine CJ_seq ?_
      refine CJ_region ?_
      refine RJ_op rfl (OJ_P (P_move rfl) rfl ?_)
      refine RJ_op rfl (OJ_P (P_assign rfl) rfl ?_)
      refine RJ_nil ?_
      refine QJ_then ?_
      refine CJ_ret ?_
      have hE := Option.some.inj h
      subst hE
      refine QJ_end (res1 Try.results102 rfl) ?_
      refine CSpec.close () ?_ ?_ Ent.refl
      · rfl
      · trivial

def stripe_Size (chunk : Int) (sizes : List Int) : Option (Int × Int) :=
  Option.bind (stripe_layout_valid ((⟨chunk, ((sizes.length : Nat) : Int)⟩ : stripe_layout)) (0 : Int)) fun r3 =>
  if (¬ r3 = true) then
    some (((0 : Int), (1 : Int)))
  else
    Option.bind (slices_ContainsFunc_int__stripe_Size_1 sizes) fun r5 =>
    if r5 = true then
      some (((0 : Int), (1 : Int)))
    else
      Option.bind (slices_Min_int sizes) fun r7 =>
      grd (decide (¬ chunk = 0)) <|
      grd (inI64 (((IntKind.i64.wrap (r7.tdiv chunk)) * chunk))) <|
      grd (inI64 ((((sizes.length : Nat) : Int) * ((IntKind.i64.wrap (r7.tdiv chunk)) * chunk)))) <|
      some (((((sizes.length : Nat) : Int) * ((IntKind.i64.wrap (r7.tdiv chunk)) * chunk)), (0 : Int)))

theorem L_stripe_Size {W : World} {Asizes : HP} {vsizes : Value} {chunk : Int} {sizes : List Int} {r : Int × Int} (rsizes : Reads Asizes tyI vsizes sizes) (h : stripe_Size chunk sizes = some r) :
    CSpec Try.prog W 86 [.int .i64 chunk, vsizes] [Asizes] (fun x : Unit => .tuple #[.int .i64 r.1, .int .i64 r.2]) (fun _ => True) (fun x F => Asizes :: F) := by
  refine CSpec.of_body Try.func86 rfl Try.ntmps86 rfl (fun F => ?_)
  show CJ _ _ _ _ _ _ (_ :: F)
  unfold stripe_Size at h
  refine CJ_pure (len_of rsizes del0) (fun hlen1 => ?_)
  refine CJ_seq ?_
  refine CJ_region ?_
  refine RJ_op rfl (OJ_P (P_assign rfl) rfl ?_)
  refine RJ_op rfl (OJ_P (P_assign rfl) rfl ?_)
  refine RJ_nil ?_
  refine QJ_then ?_
  refine CJ_seq ?_
  refine CJ_region ?_
  refine RJ_op rfl (OJ_P (P_move rfl) rfl ?_)
  refine RJ_op rfl (OJ_P (P_move rfl) rfl ?_)
  refine RJ_op rfl (OJ_V (V_len rfl foc0 rsizes Try.runUnderlying58) rfl ?_)
  refine RJ_op rfl (OJ_P (P_build rfl (bld_155_0_1 _ _)) rfl ?_)
  refine RJ_op rfl (O_alloc Try.zeroValue155 rfl rfl (fun b2 => ?_))
  refine RJ_op rfl (O_storeN rfl rfl foc0 Try.sizeOf155 rfl rfl rfl ?_)
  refine RJ_nil ?_
  refine QJ_then ?_
  refine CJ_seq ?_
  refine CJ_seq ?_
  refine CJ_region ?_
  refine RJ_op rfl (OJ_V (V_loadN rfl foc0 Try.isAgg155 Try.sizeOf155 rfl rfl) rfl ?_)
  obtain ⟨r3, hr4, h⟩ := bind_e h
  refine RJ_op rfl (O_call (L_stripe_layout_valid hr4) rfl Try.call98 Dels.nil rfl (fun _ _ => ?_))
  refine RJ_op rfl (OJ_P (P_not rfl) rfl ?_)
  refine RJ_op rfl (OJ_P (P_move rfl) rfl ?_)
  refine RJ_splitP 14 rfl (bT_not Iff.rfl) (fun hg1B hg1 => ?_) (fun hg1B hg1 => ?_)
  ·
    replace h := ite_t hg1 h
    refine RJ_gn (GY_no rfl rfl rfl hg1B) rfl rfl ?_
    refine RJ_gn (GY_no rfl rfl rfl hg1B) rfl rfl ?_
    refine RJ_op rfl (OJ_P (P_pickT rfl hg1B rfl) rfl ?_)
    refine RJ_nil ?_
    refine QJ_then ?_
    refine CJ_condT rfl rfl ?_
    refine CJ_seq ?_
    refine CJ_region ?_
    refine RJ_op rfl (OJ_P (P_assign rfl) rfl ?_)
    refine RJ_op rfl (OJ_P (P_assign rfl) rfl ?_)
    refine RJ_nil ?_
    refine QJ_then ?_
    refine CJ_ret ?_
    refine QJ_then_ret ?_
    have hE := Option.some.inj h
    subst hE
    refine QJ_end (res2 Try.results86 rfl rfl) ?_
    refine CSpec.close () ?_ ?_ (Ent.take del1 (Ent.drop Ent.refl))
    · rfl
    · trivial
  ·
    replace h := ite_f hg1 h
    refine RJ_gy (GY_yes rfl rfl rfl hg1B) (OJ_P (P_move rfl) rfl ?_)
    obtain ⟨r5, hr6, h⟩ := bind_e h
    refine RJ_gy (GY_yes rfl rfl rfl hg1B) (O_call (L_slices_ContainsFunc_int__stripe_Size_1 rsizes hr6) rfl Try.call100 (Dels.cons del1 Dels.nil) rfl (fun _ _ => ?_))
    refine RJ_op rfl (OJ_P (P_pickF rfl hg1B rfl) rfl ?_)
    refine RJ_nil ?_
    refine QJ_then ?_
    refine CJ_condP rfl Iff.rfl (fun hg2 => ?_) (fun hg2 => ?_)
    ·
      replace h := ite_t hg2 h
      refine CJ_seq ?_
      refine CJ_region ?_
      refine RJ_op rfl (OJ_P (P_assign rfl) rfl ?_)
      refine RJ_op rfl (OJ_P (P_assign rfl) rfl ?_)
      refine RJ_nil ?_
      refine QJ_then ?_
      refine CJ_ret ?_
      refine QJ_then_ret ?_
      have hE := Option.some.inj h
      subst hE
      refine QJ_end (res2 Try.results86 rfl rfl) ?_
      refine CSpec.close () ?_ ?_ (Ent.take del0 (Ent.drop Ent.refl))
      · rfl
      · trivial
    ·
      replace h := ite_f hg2 h
      refine CJ_skip ?_
      refine QJ_then ?_
      refine CJ_seq ?_
      refine AJ_startH 0 (by kernel_rfl) rfl ?_
      refine AJ_takeP 0 1 rfl (by kernel_rfl) rfl (GY_none rfl) (P_fieldAddr rfl ⟨_, _, _, Try.runUnderlying155, rfl, rfl, Try.sizeOf3, rfl⟩) rfl (fun _ _ _ _ h => h) ?_
      refine AJ_takeV 1 3 rfl (by kernel_rfl) rfl (by kernel_rfl) (by kernel_rfl) (GY_none rfl) Ent.refl (V_load rfl foc1 rfl Try.isAgg3) rfl (fun _ _ _ _ h => h) ?_
      refine AJ_takeP 2 7 rfl (by kernel_rfl) rfl (GY_none rfl) (P_move rfl) rfl (fun _ _ _ _ h => h) ?_
      refine AJ_takeP 4 23 rfl (by kernel_rfl) rfl (GY_none rfl) (P_move rfl) rfl (fun _ _ _ _ h => h) ?_
      refine AJ_takeP 6 87 rfl (by kernel_rfl) rfl (GY_none rfl) (P_move rfl) rfl (fun _ _ _ _ h => h) ?_
      obtain ⟨r7, hr8, h⟩ := bind_e h
      refine AJ_op 3 95 rfl (by kernel_rfl) rfl (GY_none rfl) (O_call (L_slices_Min_int rsizes hr8) rfl Try.call102 (Dels.cons del0 Dels.nil) rfl (fun _ _ => ?_))
      refine ⟨fun _ => Ent.refl, ?_⟩
      obtain ⟨hg3, h⟩ := grd_de h
      refine AJ_takeP 5 127 rfl (by kernel_rfl) rfl (GY_none rfl) (P_quoT (a := r7) (b := chunk) rfl rfl hg3) rfl (fun _ _ _ _ h => h) ?_
      obtain ⟨hg4, h⟩ := grd_Ie h
      refine AJ_takeP 7 255 rfl (by kernel_rfl) rfl (GY_none rfl) (P_mul (a := (IntKind.i64.wrap (r7.tdiv chunk))) (b := chunk) rfl rfl hg4) rfl (fun _ _ _ _ h => h) ?_
      obtain ⟨hg5, h⟩ := grd_Ie h
      refine AJ_takeP 8 511 rfl (by kernel_rfl) rfl (GY_none rfl) (P_mul (a := ((sizes.length : Nat) : Int)) (b := ((IntKind.i64.wrap (r7.tdiv chunk)) * chunk)) rfl rfl hg5) rfl (fun _ _ _ _ h => h) ?_
      refine AJ_takeP 9 1023 rfl (by kernel_rfl) rfl (GY_none rfl) (P_assign rfl) rfl (fun _ _ _ _ h => h) ?_
      refine AJ_takeP 10 2047 rfl (by kernel_rfl) rfl (GY_none rfl) (P_assign rfl) rfl (fun _ _ _ _ h => h) ?_
      refine AJ_done (by kernel_rfl) ?_
      refine QJ_then ?_
      refine CJ_ret ?_
      have hE := Option.some.inj h
      subst hE
      refine QJ_end (res2 Try.results86 rfl rfl) ?_
      refine CSpec.close () ?_ ?_ (Ent.take del0 (Ent.drop Ent.refl))
      · rfl
      · trivial

def volumegrouplaw17_awake : Option (Bool) :=
  Option.bind (stripe_Place (4 : Int) (2 : Int) (9 : Int)) fun r1 =>
  Option.bind (stripe_Size (4 : Int) ([(10 : Int), (8 : Int)])) fun r4 =>
  some ((((((decide (r1.2.2 = (0 : Int))) && (decide (r1.1 = (0 : Int)))) && (decide (r1.2.1 = (5 : Int)))) && (decide (r4.2 = (0 : Int)))) && (decide (r4.1 = (16 : Int)))))

theorem L_volumegrouplaw17_awake {W : World} {r : Bool} (h : volumegrouplaw17_awake = some r) :
    CSpec Try.prog W 40 [] [] (fun x : Unit => .bool r) (fun _ => True) (fun x F => F) := by
  refine CSpec.of_body Try.func40 rfl Try.ntmps40 rfl (fun F => ?_)
  show CJ _ _ _ _ _ _ (F)
  unfold volumegrouplaw17_awake at h
  refine CJ_seq ?_
  refine CJ_region ?_
  refine RJ_op rfl (OJ_P (P_assign rfl) rfl ?_)
  refine RJ_nil ?_
  refine QJ_then ?_
  refine CJ_seq ?_
  refine CJ_region ?_
  obtain ⟨r1, hr2, h⟩ := bind_e h
  refine RJ_op rfl (O_call (L_stripe_Place hr2) rfl Try.call85 Dels.nil rfl (fun _ _ => ?_))
  refine RJ_op rfl (OJ_P (P_move rfl) rfl ?_)
  refine RJ_op rfl (OJ_P (P_extract rfl rfl) rfl ?_)
  refine RJ_op rfl (OJ_P (P_extract rfl rfl) rfl ?_)
  refine RJ_op rfl (OJ_P (P_extract rfl rfl) rfl ?_)
  refine RJ_op rfl (OJ_P (P_assign rfl) rfl ?_)
  refine RJ_op rfl (OJ_P (P_assign rfl) rfl ?_)
  refine RJ_op rfl (OJ_P (P_assign rfl) rfl ?_)
  refine RJ_nil ?_
  refine QJ_then ?_
  refine CJ_seq ?_
  refine CJ_region ?_
  refine RJ_op rfl (O_buildSlice rfl (bs_58_2_0_1 _ _) rfl (fun b3 => ?_))
  refine RJ_ent (Ent.trans (Ent.take del0 Ent.refl) (sl_of_lit (t := tyI) (m := 2) [(10 : Int), (8 : Int)] rfl rfl rfl (by decide))) ?_
  obtain ⟨r4, hr5, h⟩ := bind_e h
  refine RJ_op rfl (O_call (L_stripe_Size (Reads.sl _ _ _) hr5) rfl Try.call86 (Dels.cons del0 Dels.nil) rfl (fun _ _ => ?_))
  refine RJ_op rfl (OJ_P (P_move rfl) rfl ?_)
  refine RJ_op rfl (OJ_P (P_extract rfl rfl) rfl ?_)
  refine RJ_op rfl (OJ_P (P_extract rfl rfl) rfl ?_)
  refine RJ_op rfl (OJ_P (P_assign rfl) rfl ?_)
  refine RJ_op rfl (OJ_P (P_assign rfl) rfl ?_)
  refine RJ_nil ?_
  refine QJ_then ?_
  refine CJ_seq ?_
  refine CJ_region ?_
  refine RJ_op rfl (OJ_P (P_move rfl) rfl ?_)
  refine RJ_op rfl (OJ_P (P_eql (a := r1.2.2) (b := (0 : Int)) rfl rfl) rfl ?_)
  refine RJ_op rfl (OJ_P (P_move rfl) rfl ?_)
  refine RJ_mbT rfl rfl rfl (fun hG6 => have hP7 : (r1.2.2 = (0 : Int)) := (bT_dec).1 hG6; VJ_P (P_move rfl)) ?_
  refine RJ_mbT rfl rfl rfl (fun hG8 => have hP9 : (r1.2.2 = (0 : Int)) := (bT_dec).1 hG8; VJ_P (P_eql (a := r1.1) (b := (0 : Int)) (mbx hG8 rfl) rfl)) ?_
  refine RJ_op rfl (OJ_P (P_pickAnd rfl (fun hh => mbx hh rfl) rfl) rfl ?_)
  refine RJ_op rfl (OJ_P (P_move rfl) rfl ?_)
  refine RJ_mbT rfl rfl rfl (fun hG10 => have hP11 : ((r1.2.2 = (0 : Int)) ∧ (r1.1 = (0 : Int))) := ((bT_and bT_dec bT_dec)).1 hG10; VJ_P (P_move rfl)) ?_
  refine RJ_mbT rfl rfl rfl (fun hG12 => have hP13 : ((r1.2.2 = (0 : Int)) ∧ (r1.1 = (0 : Int))) := ((bT_and bT_dec bT_dec)).1 hG12; VJ_P (P_eql (a := r1.2.1) (b := (5 : Int)) (mbx hG12 rfl) rfl)) ?_
  refine RJ_op rfl (OJ_P (P_pickAnd rfl (fun hh => mbx hh rfl) rfl) rfl ?_)
  refine RJ_op rfl (OJ_P (P_move rfl) rfl ?_)
  refine RJ_mbT rfl rfl rfl (fun hG14 => have hP15 : (((r1.2.2 = (0 : Int)) ∧ (r1.1 = (0 : Int))) ∧ (r1.2.1 = (5 : Int))) := ((bT_and (bT_and bT_dec bT_dec) bT_dec)).1 hG14; VJ_P (P_move rfl)) ?_
  refine RJ_mbT rfl rfl rfl (fun hG16 => have hP17 : (((r1.2.2 = (0 : Int)) ∧ (r1.1 = (0 : Int))) ∧ (r1.2.1 = (5 : Int))) := ((bT_and (bT_and bT_dec bT_dec) bT_dec)).1 hG16; VJ_P (P_eql (a := r4.2) (b := (0 : Int)) (mbx hG16 rfl) rfl)) ?_
  refine RJ_op rfl (OJ_P (P_pickAnd rfl (fun hh => mbx hh rfl) rfl) rfl ?_)
  refine RJ_op rfl (OJ_P (P_move rfl) rfl ?_)
  refine RJ_mbT rfl rfl rfl (fun hG18 => have hP19 : ((((r1.2.2 = (0 : Int)) ∧ (r1.1 = (0 : Int))) ∧ (r1.2.1 = (5 : Int))) ∧ (r4.2 = (0 : Int))) := ((bT_and (bT_and (bT_and bT_dec bT_dec) bT_dec) bT_dec)).1 hG18; VJ_P (P_move rfl)) ?_
  refine RJ_mbT rfl rfl rfl (fun hG20 => have hP21 : ((((r1.2.2 = (0 : Int)) ∧ (r1.1 = (0 : Int))) ∧ (r1.2.1 = (5 : Int))) ∧ (r4.2 = (0 : Int))) := ((bT_and (bT_and (bT_and bT_dec bT_dec) bT_dec) bT_dec)).1 hG20; VJ_P (P_eql (a := r4.1) (b := (16 : Int)) (mbx hG20 rfl) rfl)) ?_
  refine RJ_op rfl (OJ_P (P_pickAnd rfl (fun hh => mbx hh rfl) rfl) rfl ?_)
  refine RJ_op rfl (OJ_P (P_assign rfl) rfl ?_)
  refine RJ_nil ?_
  refine QJ_then ?_
  refine CJ_ret ?_
  have hE := Option.some.inj h
  subst hE
  refine QJ_end (res1 Try.results40 rfl) ?_
  refine CSpec.close () ?_ ?_ (Ent.drop Ent.refl)
  · rfl
  · trivial

def stripe_New_l1_b (legs : List Dvc) (s : ArrS) (rec : Nat → (List Int) → Option ((List Int))) (x10 : Nat) (x11 : List Int) : Option ((List Int)) :=
  if (((x10 : Nat) : Int) < ((legs.length : Nat) : Int)) then
    Option.bind (Dvc.size (legs.getD x10 dv0) s) fun r16 =>
    grd (inLen (x11.length + 1)) <|
    rec (x10 + 1) (x11 ++ [r16])
  else
    some x11

def stripe_New_l1 (legs : List Dvc) (s : ArrS) : Nat → Nat → (List Int) → Option ((List Int))
  | 0, _, _ => none
  | n + 1, x10, x11 => stripe_New_l1_b legs s (stripe_New_l1 legs s n) x10 x11

def stripe_New (legs : List Dvc) (chunk : Int) (s : ArrS) : Option ((Option Dvc) × Int) :=
  Option.bind (stripe_New_l1 legs s FUEL 0 ([])) fun a9 =>
  Option.bind (stripe_Size chunk a9) fun r24 =>
  if (r24.2 ≠ (0 : Int)) then
    some (none, r24.2)
  else
    grd (inLen legs.length) <|
    some (((some ((Dvc.stripe chunk (((legs.length : Nat) : Int)) legs r24.1))), (0 : Int)))

theorem L_stripe_New {W : World} {Alegs : HP} {vlegs : Value} {hslegs : List IfH} {bs : Nat} {legs : List Dvc} {chunk : Int} {s : ArrS} {r : (Option Dvc) × Int} (rlegs : Reads Alegs tyDev vlegs hslegs) (h : stripe_New legs chunk s = some r) :
    CSpec Try.prog W 41 [vlegs, .int .i64 chunk] [Alegs, Rs (DevP bs) legs hslegs, Arr bs s] (fun x : IfH => .tuple #[oif r.1 x, .int .i64 r.2]) (fun _ => True) (fun x F => Alegs :: Rs (DevP bs) legs hslegs :: Arr bs s :: optP (DevP bs · x) r.1 :: F) := by
  refine CSpec.of_body Try.func41 rfl Try.ntmps41 rfl (fun F => ?_)
  show CJ _ _ _ _ _ _ (_ :: _ :: _ :: F)
  unfold stripe_New at h
  refine CJ_pure (len_of rlegs del0) (fun hlen1 => ?_)
  refine CJ_pure (fun h hh => Rs_len (stars_perm (del1 (A := Rs (DevP bs) legs hslegs)).out h hh)) (fun hdl2 => ?_)
  refine CJ_seq ?_
  refine CJ_region ?_
  refine RJ_op rfl (OJ_P (P_assign rfl) rfl ?_)
  refine RJ_op rfl (OJ_P (P_assign rfl) rfl ?_)
  refine RJ_nil ?_
  refine QJ_then ?_
  refine CJ_seq ?_
  refine CJ_region ?_
  refine RJ_op rfl (OJ_P (P_assign rfl) rfl ?_)
  refine RJ_nil ?_
  refine QJ_then ?_
  refine CJ_seq ?_
  refine CJ_seq ?_
  refine CJ_region ?_
  refine RJ_op rfl (OJ_P (P_move rfl) rfl ?_)
  refine RJ_op rfl (OJ_V (VJ_eq (V_len rfl foc0 rlegs Try.runUnderlying28) (congrArg (fun z : Nat => Value.int .i64 (z : Int)) (hdl2).symm)) rfl ?_)
  refine RJ_op rfl (OJ_P (P_move rfl) rfl ?_)
  refine RJ_nil ?_
  refine QJ_then ?_
  refine CJ_ent (fun h hh => sl_nil (t := tyI) h hh) ?_
  obtain ⟨y6, hl4, hK5⟩ := bind_c h
  refine CJ_cutT (X := (List Int) × Sl3) [6, 8, 13, 14, 15, 16, 17, 18, 19, 20, 21, 22] (fun ⟨a9, hd8⟩ => ([(6, hd8.v)] : Slots)) (fun ⟨a9, hd8⟩ R => sl tyI hd8.v a9 :: R) (fun ⟨a9, hd8⟩ => y6 = a9) (Dels.cons del0 Dels.nil) ?_ ?_
  ·
    refine CJ_block ?_
    refine CJ_loopR (X := Nat × Nat × (List Int) × Sl3) [6, 8, 13, 14, 15, 16, 17, 18, 19, 20, 21, 22] (fun ⟨n, x10, x11, hd12⟩ => ([(6, hd12.v), (13, .int .i64 (((x10 : Nat) : Int)))] : Slots)) (fun ⟨n, x10, x11, hd12⟩ R => sl tyI hd12.v x11 :: R) (fun ⟨n, x10, x11, hd12⟩ => stripe_New_l1 legs s n x10 x11 = some y6) (fun ⟨n, x10, x11, hd12⟩ => n) ⟨FUEL, 0, [], ⟨none, 0, 0⟩⟩ ?_ ?_ Ent.refl ?_
    · exact hl4
    · exact ⟨rfl, rfl, True.intro⟩
    ·
      rintro ⟨n, x10, x11, hd12⟩ h
      cases n with
      | zero => exact none_e h
      | succ n => ?_
      replace h : stripe_New_l1_b legs s (stripe_New_l1 legs s n) x10 x11 = some y6 := h
      unfold stripe_New_l1_b at h
      show CJ _ _ _ _ _ (([(6, hd12.v), (13, .int .i64 (((x10 : Nat) : Int)))] : Slots) ++ forget _ _) (sl tyI hd12.v x11 :: _)
      refine CJ_pure (len_of (Reads.sl _ _ _) del0) (fun hlen13 => ?_)
      refine CJ_seq ?_
      refine CJ_region ?_
      refine RJ_op rfl (OJ_P (P_lss (a := ((x10 : Nat) : Int)) (b := ((legs.length : Nat) : Int)) rfl rfl) rfl ?_)
      refine RJ_nil ?_
      refine QJ_then ?_
      refine CJ_seq ?_
      refine CJ_condP rfl bT_dec (fun hg1 => ?_) (fun hg1 => ?_)
      ·
        replace h := ite_t hg1 h
        refine CJ_skip ?_
        refine QJ_then ?_
        refine CJ_seq ?_
        refine CJ_block ?_
        refine CJ_seq ?_
        refine CJ_region ?_
        refine RJ_op rfl (OJ_V (V_index (i := x10) rfl rfl rfl (by have hz : x10 < legs.length := (by omega); have hy := hdl2; omega) foc1 rlegs Try.runUnderlying28 Try.sizeOf31) rfl ?_)
        refine RJ_ent (Ent.trans (Ent.take del2 Ent.refl) (Rs_at (fun _ _ => Dup_DevP) (dx := dv0) (dh := tyDev.dflt) (i := x10) (by omega))) ?_
        refine RJ_op rfl (OJ_V (V_loadE rfl rfl (by have hz : x10 < legs.length := (by omega); have hy := hdl2; omega) foc3 rlegs rfl rfl Try.isAgg31) rfl ?_)
        refine RJ_op rfl (OJ_P (P_assign rfl) rfl ?_)
        refine RJ_nil ?_
        refine QJ_then ?_
        refine CJ_region ?_
        refine RJ_op rfl (OJ_P (P_move rfl) rfl ?_)
        refine RJ_op rfl (OJ_P (P_move rfl) rfl ?_)
        refine RJ_pure (fun h hh => DevP_dep h (stars_perm (del0 (A := DevP bs (legs.getD x10 dv0) (hslegs.getD x10 tyDev.dflt))).out h hh)) (fun hdp15 => ?_)
        obtain ⟨r16, hr17, h⟩ := bind_e h
        refine RJ_op rfl (O_callI rfl (dev_Size hr17 hdp15) rfl (Dels.cons del0 (Dels.cons del3 Dels.nil)) rfl (fun _ _ => ?_))
        refine RJ_op rfl (O_buildSlice rfl (bs_58_1_0 _) rfl (fun b18 => ?_))
        obtain ⟨hg2, h⟩ := grd_Le h
        refine RJ_op rfl (O_append (t := tyI) (bytes := 8) rfl rfl del4 foc0 (Reads.lit (t := tyI) (ys := [r16]) rfl rfl (by decide) (by decide) rfl) Try.underlying58 ok_tyI (apl (m := 1) (b := 8) hg2 (by decide)).1 (apl (m := 1) (b := 8) hg2 (by decide)).2 rfl (fun p20 c21 => ?_))
        refine RJ_op rfl (OJ_P (P_assign rfl) rfl ?_)
        refine RJ_nil ?_
        refine QJ_block_normal ?_
        refine QJ_then ?_
        refine CJ_region ?_
        refine RJ_op rfl (OJ_P (PJ_eq (P_add (a := ((x10 : Nat) : Int)) (b := (1 : Int)) rfl rfl (by omega)) rfl) rfl ?_)
        refine RJ_op rfl (OJ_P (P_move rfl) rfl ?_)
        refine RJ_nil ?_
        refine QJ_nextR ⟨n, (x10 + 1), (x11 ++ [r16]), ⟨p20, (x11 ++ [r16]).length, c21⟩⟩ (Nat.lt_succ_self _) ?_ (by repeat (first | exact Kp.base | exact Kp.self | refine Kp.cons rfl ?_ | refine Kp.forget rfl ?_)) ?_ (Ent.take del0 (Ent.take del4 (Ent.take del3 (Ent.take del2 (Ent.drop (Ent.drop Ent.refl))))))
        · exact h
        · exact ⟨rfl, rfl, True.intro⟩
      ·
        replace h := ite_f hg1 h
        refine CJ_exit ?_
        refine QJ_then_exit ?_
        refine QJ_round_exit ?_
        refine QJ_block_here ?_
        refine QJ_cutR ⟨x11, hd12⟩ ?_ (by repeat (first | exact Kp.base | exact Kp.self | refine Kp.cons rfl ?_ | refine Kp.forget rfl ?_)) ?_ Ent.refl
        · exact (Option.some.inj h).symm
        · exact ⟨rfl, True.intro⟩
  ·
    rintro ⟨a9, hd8⟩ hy22
    replace h := bindK_at hK5 hy22
    show CJ _ _ _ _ _ (([(6, hd8.v)] : Slots) ++ forget _ _) (sl tyI hd8.v a9 :: _)
    refine CJ_pure (len_of (Reads.sl _ _ _) del0) (fun hlen23 => ?_)
    refine CJ_seq ?_
    refine CJ_region ?_
    refine RJ_op rfl (OJ_P (P_move rfl) rfl ?_)
    refine RJ_op rfl (OJ_P (P_move rfl) rfl ?_)
    obtain ⟨r24, hr25, h⟩ := bind_e h
    refine RJ_op rfl (O_call (L_stripe_Size (Reads.sl _ _ _) hr25) rfl Try.call86 (Dels.cons del0 Dels.nil) rfl (fun _ _ => ?_))
    refine RJ_op rfl (OJ_P (P_move rfl) rfl ?_)
    refine RJ_op rfl (OJ_P (P_extract rfl rfl) rfl ?_)
    refine RJ_op rfl (OJ_P (P_extract rfl rfl) rfl ?_)
    refine RJ_op rfl (OJ_P (P_assign rfl) rfl ?_)
    refine RJ_op rfl (OJ_P (P_assign rfl) rfl ?_)
    refine RJ_nil ?_
    refine QJ_then ?_
    refine CJ_seq ?_
    refine CJ_seq ?_
    refine CJ_region ?_
    refine RJ_op rfl (OJ_P (P_move rfl) rfl ?_)
    refine RJ_op rfl (OJ_P (P_neq (a := r24.2) (b := (0 : Int)) rfl rfl) rfl ?_)
    refine RJ_nil ?_
    refine QJ_then ?_
    refine CJ_condP rfl bT_dec (fun hg3 => ?_) (fun hg3 => ?_)
    ·
      replace h := ite_t hg3 h
      refine CJ_seq ?_
      refine CJ_region ?_
      refine RJ_op rfl (OJ_P (P_move rfl) rfl ?_)
      refine RJ_op rfl (OJ_P (P_assign rfl) rfl ?_)
      refine RJ_op rfl (OJ_P (P_assign rfl) rfl ?_)
      refine RJ_nil ?_
      refine QJ_then ?_
      refine CJ_ret ?_
      refine QJ_then_ret ?_
      have hE := Option.some.inj h
      subst hE
      refine QJ_end (res2 Try.results41 rfl rfl) ?_
      refine CSpec.close ⟨0, .bool false⟩ ?_ ?_ (Ent.take del1 (Ent.take del1 (Ent.take del1 (Ent.trans (fun h hh => optP_none h hh) <| Ent.take del0 (Ent.drop Ent.refl)))))
      · rfl
      · trivial
    ·
      replace h := ite_f hg3 h
      refine CJ_skip ?_
      refine QJ_then ?_
      refine CJ_seq ?_
      refine CJ_region ?_
      refine RJ_op rfl (OJ_P (P_move rfl) rfl ?_)
      refine RJ_op rfl (OJ_P (P_move rfl) rfl ?_)
      refine RJ_op rfl (OJ_V (VJ_eq (V_len rfl foc1 rlegs Try.runUnderlying28) (congrArg (fun z : Nat => Value.int .i64 (z : Int)) (hdl2).symm)) rfl ?_)
      refine RJ_op rfl (OJ_P (P_build rfl (bld_155_0_1 _ _)) rfl ?_)
      refine RJ_op rfl (OJ_P (P_move rfl) rfl ?_)
      obtain ⟨hg4, h⟩ := grd_Le h
      refine RJ_ent (Ent.trans (Ent.take del2 Ent.refl) (fun h hh => stars_dup (Dup_Rs (fun _ _ => Dup_DevP)) hh)) ?_
      refine RJ_op rfl (O_call (c_Clone_84 rlegs ((hdl2).symm ▸ hg4)) rfl Try.call84 (Dels.cons del3 Dels.nil) rfl (fun X26 _ => ?_))
      refine RJ_op rfl (OJ_P (P_move rfl) rfl ?_)
      refine RJ_op rfl (OJ_P (P_build rfl (bld_157_0_1_2 _ _ _ _ _ _)) rfl ?_)
      refine RJ_op rfl (O_box rfl rfl rfl (fun b29 => ?_))
      refine RJ_share del0 ?_
      refine RJ_shareS del1 ?_
      refine RJ_ent (Ent.trans (Ent.take del3 Ent.refl) (fun h hh => stars_dup (Dup_Rs (fun _ _ => Dup_DevP)) hh)) ?_
      refine RJ_op rfl (OJ_P (P_makeIface rfl Try.runUnderlying153 (by intro ms h; cases h)) rfl ?_)
      refine RJ_ent (Ent.trans (Ent.take del3 (Ent.take del2 (Ent.take del0 Ent.refl))) (DevP_mk (a := bs) (x := (Dvc.stripe chunk (((legs.length : Nat) : Int)) legs r24.1)) (h := (⟨153, ptr b29 0⟩ : IfH)) (ok_Dvc_stripe))) ?_
      refine RJ_op rfl (OJ_P (P_assign rfl) rfl ?_)
      refine RJ_op rfl (OJ_P (P_assign rfl) rfl ?_)
      refine RJ_nil ?_
      refine QJ_then ?_
      refine CJ_ret ?_
      have hE := Option.some.inj h
      subst hE
      refine QJ_end (res2 Try.results41 rfl rfl) ?_
      refine CSpec.close ((⟨153, ptr b29 0⟩ : IfH)) ?_ ?_ (Ent.take del2 (Ent.take del2 (Ent.take del3 (Ent.take del0 (Ent.drop (Ent.drop Ent.refl))))))
      · rfl
      · trivial

def volumegroupref17_Size_l1_b (sizes : List Int) (rec : Int → Nat → Option ((Int) ⊕ (Int × Int))) (x23 : Int) (x24 : Nat) : Option ((Int) ⊕ (Int × Int)) :=
  if (((x24 : Nat) : Int) < ((sizes.length : Nat) : Int)) then
    if (((sizes.getD x24 0) < (0 : Int)) ∨ ((1073741824 : Int) < (sizes.getD x24 0))) then
      some (.inr (((0 : Int), (1 : Int))))
    else
      rec ((min x23 (sizes.getD x24 0))) (x24 + 1)
  else
    some (.inl x23)

def volumegroupref17_Size_l1 (sizes : List Int) : Nat → Int → Nat → Option ((Int) ⊕ (Int × Int))
  | 0, _, _ => none
  | n + 1, x23, x24 => volumegroupref17_Size_l1_b sizes (volumegroupref17_Size_l1 sizes n) x23 x24

def volumegroupref17_Size (chunk : Int) (sizes : List Int) : Option (Int × Int) :=
  if ((((chunk < (1 : Int)) ∨ ((65536 : Int) < chunk)) ∨ (((sizes.length : Nat) : Int) < (1 : Int))) ∨ ((6 : Int) < ((sizes.length : Nat) : Int))) then
    some (((0 : Int), (1 : Int)))
  else
    seqO (volumegroupref17_Size_l1 sizes FUEL (1073741824 : Int) 0) fun a22 =>
    grd (inI64 (((IntKind.i64.wrap (a22.tdiv chunk)) * chunk))) <|
    grd (inI64 ((((sizes.length : Nat) : Int) * ((IntKind.i64.wrap (a22.tdiv chunk)) * chunk)))) <|
    some (((((sizes.length : Nat) : Int) * ((IntKind.i64.wrap (a22.tdiv chunk)) * chunk)), (0 : Int)))

theorem L_volumegroupref17_Size {W : World} {Asizes : HP} {vsizes : Value} {chunk : Int} {sizes : List Int} {r : Int × Int} (rsizes : Reads Asizes tyI vsizes sizes) (h : volumegroupref17_Size chunk sizes = some r) :
    CSpec Try.prog W 42 [.int .i64 chunk, vsizes] [Asizes] (fun x : Unit => .tuple #[.int .i64 r.1, .int .i64 r.2]) (fun _ => True) (fun x F => Asizes :: F) := by
  refine CSpec.of_body Try.func42 rfl Try.ntmps42 rfl (fun F => ?_)
  show CJ _ _ _ _ _ _ (_ :: F)
  unfold volumegroupref17_Size at h
  refine CJ_pure (len_of rsizes del0) (fun hlen1 => ?_)
  refine CJ_seq ?_
  refine CJ_region ?_
  refine RJ_op rfl (OJ_P (P_assign rfl) rfl ?_)
  refine RJ_op rfl (OJ_P (P_assign rfl) rfl ?_)
  refine RJ_nil ?_
  refine QJ_then ?_
  refine CJ_seq ?_
  refine CJ_seq ?_
  refine CJ_region ?_
  refine RJ_op rfl (OJ_P (P_move rfl) rfl ?_)
  refine RJ_op rfl (OJ_P (P_lss (a := chunk) (b := (1 : Int)) rfl rfl) rfl ?_)
  refine RJ_op rfl (OJ_P (P_move rfl) rfl ?_)
  refine RJ_mbF rfl rfl rfl (fun hG2 => have hP3 : ¬ (chunk < (1 : Int)) := nP (bT_dec) hG2; VJ_P (P_move rfl)) ?_
  refine RJ_mbF rfl rfl rfl (fun hG4 => have hP5 : ¬ (chunk < (1 : Int)) := nP (bT_dec) hG4; VJ_P (P_gtr (a := chunk) (b := (65536 : Int)) (mbx hG4 rfl) rfl)) ?_
  refine RJ_op rfl (OJ_P (P_pickOr rfl rfl (fun hh => mbx (not_f hh) rfl)) rfl ?_)
  refine RJ_op rfl (OJ_P (P_move rfl) rfl ?_)
  refine RJ_mbF rfl rfl rfl (fun hG6 => have hP7 : ¬ ((chunk < (1 : Int)) ∨ ((65536 : Int) < chunk)) := nP ((bT_or bT_dec bT_dec)) hG6; VJ_P (P_move rfl)) ?_
  refine RJ_mbF rfl rfl rfl (fun hG8 => have hP9 : ¬ ((chunk < (1 : Int)) ∨ ((65536 : Int) < chunk)) := nP ((bT_or bT_dec bT_dec)) hG8; V_len (mbx hG8 rfl) foc0 rsizes Try.runUnderlying58) ?_
  refine RJ_mbF rfl rfl rfl (fun hG10 => have hP11 : ¬ ((chunk < (1 : Int)) ∨ ((65536 : Int) < chunk)) := nP ((bT_or bT_dec bT_dec)) hG10; VJ_P (P_lss (a := ((sizes.length : Nat) : Int)) (b := (1 : Int)) (mbx hG10 rfl) rfl)) ?_
  refine RJ_op rfl (OJ_P (P_pickOr rfl rfl (fun hh => mbx (not_f hh) rfl)) rfl ?_)
  refine RJ_op rfl (OJ_P (P_move rfl) rfl ?_)
  refine RJ_mbF rfl rfl rfl (fun hG12 => have hP13 : ¬ (((chunk < (1 : Int)) ∨ ((65536 : Int) < chunk)) ∨ (((sizes.length : Nat) : Int) < (1 : Int))) := nP ((bT_or (bT_or bT_dec bT_dec) bT_dec)) hG12; VJ_P (P_move rfl)) ?_
  refine RJ_mbF rfl rfl rfl (fun hG14 => have hP15 : ¬ (((chunk < (1 : Int)) ∨ ((65536 : Int) < chunk)) ∨ (((sizes.length : Nat) : Int) < (1 : Int))) := nP ((bT_or (bT_or bT_dec bT_dec) bT_dec)) hG14; V_len (mbx hG14 rfl) foc0 rsizes Try.runUnderlying58) ?_
  refine RJ_mbF rfl rfl rfl (fun hG16 => have hP17 : ¬ (((chunk < (1 : Int)) ∨ ((65536 : Int) < chunk)) ∨ (((sizes.length : Nat) : Int) < (1 : Int))) := nP ((bT_or (bT_or bT_dec bT_dec) bT_dec)) hG16; VJ_P (P_gtr (a := ((sizes.length : Nat) : Int)) (b := (6 : Int)) (mbx hG16 rfl) rfl)) ?_
  refine RJ_op rfl (OJ_P (P_pickOr rfl rfl (fun hh => mbx (not_f hh) rfl)) rfl ?_)
  refine RJ_nil ?_
  refine QJ_then ?_
  refine CJ_condP rfl (bT_or (bT_or (bT_or bT_dec bT_dec) bT_dec) bT_dec) (fun hg1 => ?_) (fun hg1 => ?_)
  ·
    replace h := ite_t hg1 h
    refine CJ_seq ?_
    refine CJ_region ?_
    refine RJ_op rfl (OJ_P (P_assign rfl) rfl ?_)
    refine RJ_op rfl (OJ_P (P_assign rfl) rfl ?_)
    refine RJ_nil ?_
    refine QJ_then ?_
    refine CJ_ret ?_
    refine QJ_then_ret ?_
    have hE := Option.some.inj h
    subst hE
    refine QJ_end (res2 Try.results42 rfl rfl) ?_
    refine CSpec.close () ?_ ?_ Ent.refl
    · rfl
    · trivial
  ·
    replace h := ite_f hg1 h
    refine CJ_skip ?_
    refine QJ_then ?_
    refine CJ_seq ?_
    refine CJ_region ?_
    refine RJ_op rfl (OJ_P (P_assign rfl) rfl ?_)
    refine RJ_nil ?_
    refine QJ_then ?_
    refine CJ_seq ?_
    refine CJ_seq ?_
    refine CJ_region ?_
    refine RJ_op rfl (OJ_P (P_assign rfl) rfl ?_)
    refine RJ_nil ?_
    refine QJ_then ?_
    obtain ⟨y20, hl18, hK19⟩ := seq_e h
    refine CJ_cutT (X := Int) [4, 5, 6, 7, 24, 25, 26, 27, 28, 29, 30, 31, 32, 33, 34, 35, 36, 37, 38, 39, 40, 41, 42, 43, 44, 45, 46, 47] (fun a22 => ([(6, .int .i64 a22)] : Slots)) (fun a22 R => R) (fun a22 => y20 = .inl a22) Dels.nil ?_ ?_
    ·
      refine CJ_block ?_
      refine CJ_loopR (X := Nat × Int × Nat) [4, 5, 6, 7, 24, 25, 26, 27, 28, 29, 30, 31, 32, 33, 34, 35, 36, 37, 38, 39, 40, 41, 42, 43, 44, 45, 46, 47] (fun ⟨n, x23, x24⟩ => ([(6, .int .i64 x23), (7, .int .i64 (((x24 : Nat) : Int)))] : Slots)) (fun ⟨n, x23, x24⟩ R => R) (fun ⟨n, x23, x24⟩ => volumegroupref17_Size_l1 sizes n x23 x24 = some y20) (fun ⟨n, x23, x24⟩ => n) ⟨FUEL, (1073741824 : Int), 0⟩ ?_ ?_ Ent.refl ?_
      · exact hl18
      · exact ⟨rfl, rfl, True.intro⟩
      ·
        rintro ⟨n, x23, x24⟩ h
        cases n with
        | zero => exact none_e h
        | succ n => ?_
        replace h : volumegroupref17_Size_l1_b sizes (volumegroupref17_Size_l1 sizes n) x23 x24 = some y20 := h
        unfold volumegroupref17_Size_l1_b at h
        show CJ _ _ _ _ _ (([(6, .int .i64 x23), (7, .int .i64 (((x24 : Nat) : Int)))] : Slots) ++ forget _ _) (_)
        refine CJ_seq ?_
        refine CJ_seq ?_
        refine CJ_region ?_
        refine RJ_op rfl (OJ_P (P_move rfl) rfl ?_)
        refine RJ_op rfl (OJ_P (P_move rfl) rfl ?_)
        refine RJ_op rfl (OJ_V (V_len rfl foc0 rsizes Try.runUnderlying58) rfl ?_)
        refine RJ_op rfl (OJ_P (P_lss (a := ((x24 : Nat) : Int)) (b := ((sizes.length : Nat) : Int)) rfl rfl) rfl ?_)
        refine RJ_nil ?_
        refine QJ_then ?_
        refine CJ_condP rfl bT_dec (fun hg2 => ?_) (fun hg2 => ?_)
        ·
          replace h := ite_t hg2 h
          refine CJ_skip ?_
          refine QJ_then ?_
          refine CJ_seq ?_
          refine CJ_block ?_
          refine CJ_seq ?_
          refine CJ_seq ?_
          refine CJ_region ?_
          refine RJ_op rfl (OJ_P (P_move rfl) rfl ?_)
          refine RJ_op rfl (OJ_P (P_move rfl) rfl ?_)
          refine RJ_op rfl (OJ_V (V_index (i := x24) rfl rfl rfl (by omega) foc0 rsizes Try.runUnderlying58 Try.sizeOf3) rfl ?_)
          refine RJ_op rfl (OJ_V (V_loadE rfl rfl (by omega) foc0 rsizes rfl rfl Try.isAgg3) rfl ?_)
          refine RJ_op rfl (OJ_P (P_lss (a := (sizes.getD x24 0)) (b := (0 : Int)) rfl rfl) rfl ?_)
          refine RJ_op rfl (OJ_P (P_move rfl) rfl ?_)
          refine RJ_mbF rfl rfl rfl (fun hG25 => have hP26 : ¬ ((sizes.getD x24 0) < (0 : Int)) := nP (bT_dec) hG25; VJ_P (P_move rfl)) ?_
          refine RJ_mbF rfl rfl rfl (fun hG27 => have hP28 : ¬ ((sizes.getD x24 0) < (0 : Int)) := nP (bT_dec) hG27; VJ_P (P_move rfl)) ?_
          refine RJ_mbF rfl rfl rfl (fun hG29 => have hP30 : ¬ ((sizes.getD x24 0) < (0 : Int)) := nP (bT_dec) hG29; V_index (i := x24) (mbx hG29 rfl) (mbx hG29 rfl) rfl (by omega) foc0 rsizes Try.runUnderlying58 Try.sizeOf3) ?_
          refine RJ_mbF rfl rfl rfl (fun hG31 => have hP32 : ¬ ((sizes.getD x24 0) < (0 : Int)) := nP (bT_dec) hG31; V_loadE (mbx hG31 rfl) rfl (by omega) foc0 rsizes rfl rfl Try.isAgg3) ?_
          refine RJ_mbF rfl rfl rfl (fun hG33 => have hP34 : ¬ ((sizes.getD x24 0) < (0 : Int)) := nP (bT_dec) hG33; VJ_P (P_gtr (a := (sizes.getD x24 0)) (b := (1073741824 : Int)) (mbx hG33 rfl) rfl)) ?_
          refine RJ_op rfl (OJ_P (P_pickOr rfl rfl (fun hh => mbx (not_f hh) rfl)) rfl ?_)
          refine RJ_nil ?_
          refine QJ_then ?_
          refine CJ_condP rfl (bT_or bT_dec bT_dec) (fun hg3 => ?_) (fun hg3 => ?_)
          ·
            replace h := ite_t hg3 h
            refine CJ_seq ?_
            refine CJ_region ?_
            refine RJ_op rfl (OJ_P (P_assign rfl) rfl ?_)
            refine RJ_op rfl (OJ_P (P_assign rfl) rfl ?_)
            refine RJ_nil ?_
            refine QJ_then ?_
            refine CJ_ret ?_
            refine QJ_then_ret ?_
            refine QJ_block_ret ?_
            refine QJ_then_ret ?_
            refine QJ_round_ret ?_
            refine QJ_block_ret ?_
            refine QJ_then_ret ?_
            have hE := Option.some.inj h
            replace hE := seq_inr hK19 hE.symm
            subst hE
            refine QJ_end (res2 Try.results42 rfl rfl) ?_
            refine CSpec.close () ?_ ?_ Ent.refl
            · rfl
            · trivial
          ·
            replace h := ite_f hg3 h
            refine CJ_skip ?_
            refine QJ_then ?_
            refine CJ_region ?_
            refine RJ_op rfl (OJ_P (P_move rfl) rfl ?_)
            refine RJ_op rfl (OJ_P (P_move rfl) rfl ?_)
            refine RJ_op rfl (OJ_P (P_move rfl) rfl ?_)
            refine RJ_op rfl (OJ_V (V_index (i := x24) rfl rfl rfl (by omega) foc0 rsizes Try.runUnderlying58 Try.sizeOf3) rfl ?_)
            refine RJ_op rfl (OJ_V (V_loadE rfl rfl (by omega) foc0 rsizes rfl rfl Try.isAgg3) rfl ?_)
            refine RJ_op rfl (OJ_P (P_min (a := x23) (b := (sizes.getD x24 0)) rfl rfl) rfl ?_)
            refine RJ_op rfl (OJ_P (P_assign rfl) rfl ?_)
            refine RJ_nil ?_
            refine QJ_block_normal ?_
            refine QJ_then ?_
            refine CJ_region ?_
            refine RJ_op rfl (OJ_P (P_move rfl) rfl ?_)
            refine RJ_op rfl (OJ_P (PJ_eq (P_add (a := ((x24 : Nat) : Int)) (b := (1 : Int)) rfl rfl (by omega)) rfl) rfl ?_)
            refine RJ_op rfl (OJ_P (P_assign rfl) rfl ?_)
            refine RJ_nil ?_
            refine QJ_nextR ⟨n, (min x23 (sizes.getD x24 0)), (x24 + 1)⟩ (Nat.lt_succ_self _) ?_ (by repeat (first | exact Kp.base | exact Kp.self | refine Kp.cons rfl ?_ | refine Kp.forget rfl ?_)) ?_ Ent.refl
            · exact h
            · exact ⟨rfl, rfl, True.intro⟩
        ·
          replace h := ite_f hg2 h
          refine CJ_exit ?_
          refine QJ_then_exit ?_
          refine QJ_round_exit ?_
          refine QJ_block_here ?_
          refine QJ_cutR x23 ?_ (by repeat (first | exact Kp.base | exact Kp.self | refine Kp.cons rfl ?_ | refine Kp.forget rfl ?_)) ?_ Ent.refl
          · exact (Option.some.inj h).symm
          · exact ⟨rfl, True.intro⟩
    ·
      rintro a22 hy35
      replace h := seq_inl hK19 hy35
      show CJ _ _ _ _ _ (([(6, .int .i64 a22)] : Slots) ++ forget _ _) (_)
      refine CJ_seq ?_
      refine CJ_region ?_
      refine RJ_op rfl (OJ_P (P_move rfl) rfl ?_)
      refine RJ_op rfl (OJ_V (V_len rfl foc0 rsizes Try.runUnderlying58) rfl ?_)
      refine RJ_op rfl (OJ_P (P_move rfl) rfl ?_)
      refine RJ_op rfl (OJ_P (P_move rfl) rfl ?_)
      refine RJ_op rfl (OJ_P (P_quoT (a := a22) (b := chunk) rfl rfl (by omega)) rfl ?_)
      refine RJ_op rfl (OJ_P (P_move rfl) rfl ?_)
      obtain ⟨hg4, h⟩ := grd_Ie h
      refine RJ_op rfl (OJ_P (P_mul (a := (IntKind.i64.wrap (a22.tdiv chunk))) (b := chunk) rfl rfl hg4) rfl ?_)
      obtain ⟨hg5, h⟩ := grd_Ie h
      refine RJ_op rfl (OJ_P (P_mul (a := ((sizes.length : Nat) : Int)) (b := ((IntKind.i64.wrap (a22.tdiv chunk)) * chunk)) rfl rfl hg5) rfl ?_)
      refine RJ_op rfl (OJ_P (P_assign rfl) rfl ?_)
      refine RJ_op rfl (OJ_P (P_assign rfl) rfl ?_)
      refine RJ_nil ?_
      refine QJ_then ?_
      refine CJ_ret ?_
      have hE := Option.some.inj h
      subst hE
      refine QJ_end (res2 Try.results42 rfl rfl) ?_
      refine CSpec.close () ?_ ?_ Ent.refl
      · rfl
      · trivial

def volumegroupref17_Place (chunk : Int) (n_1 : Int) (at_2 : Int) : Option (Int × Int × Int) :=
  if ((((((chunk < (1 : Int)) ∨ ((65536 : Int) < chunk)) ∨ (n_1 < (1 : Int))) ∨ ((6 : Int) < n_1)) ∨ (at_2 < (0 : Int))) ∨ ((1073741824 : Int) < at_2)) then
    some (((0 : Int), (0 : Int), (1 : Int)))
  else
    grd (inI64 (((IntKind.i64.wrap ((at_2 / chunk).tdiv n_1)) * chunk))) <|
    grd (inI64 ((((IntKind.i64.wrap ((at_2 / chunk).tdiv n_1)) * chunk) + (at_2 % chunk)))) <|
    some ((((at_2 / chunk).tmod n_1), (((IntKind.i64.wrap ((at_2 / chunk).tdiv n_1)) * chunk) + (at_2 % chunk)), (0 : Int)))

theorem L_volumegroupref17_Place {W : World} {chunk : Int} {n_1 : Int} {at_2 : Int} {r : Int × Int × Int} (h : volumegroupref17_Place chunk n_1 at_2 = some r) :
    CSpec Try.prog W 43 [.int .i64 chunk, .int .i64 n_1, .int .i64 at_2] [] (fun x : Unit => .tuple #[.int .i64 r.1, .int .i64 r.2.1, .int .i64 r.2.2]) (fun _ => True) (fun x F => F) := by
  refine CSpec.of_body Try.func43 rfl Try.ntmps43 rfl (fun F => ?_)
  show CJ _ _ _ _ _ _ (F)
  unfold volumegroupref17_Place at h
  refine CJ_seq ?_
  refine CJ_region ?_
  refine RJ_op rfl (OJ_P (P_assign rfl) rfl ?_)
  refine RJ_op rfl (OJ_P (P_assign rfl) rfl ?_)
  refine RJ_op rfl (OJ_P (P_assign rfl) rfl ?_)
  refine RJ_nil ?_
  refine QJ_then ?_
  refine CJ_seq ?_
  refine CJ_seq ?_
  refine CJ_region ?_
  refine RJ_op rfl (OJ_P (P_move rfl) rfl ?_)
  refine RJ_op rfl (OJ_P (P_lss (a := chunk) (b := (1 : Int)) rfl rfl) rfl ?_)
  refine RJ_op rfl (OJ_P (P_move rfl) rfl ?_)
  refine RJ_mbF rfl rfl rfl (fun hG1 => have hP2 : ¬ (chunk < (1 : Int)) := nP (bT_dec) hG1; VJ_P (P_move rfl)) ?_
  refine RJ_mbF rfl rfl rfl (fun hG3 => have hP4 : ¬ (chunk < (1 : Int)) := nP (bT_dec) hG3; VJ_P (P_gtr (a := chunk) (b := (65536 : Int)) (mbx hG3 rfl) rfl)) ?_
  refine RJ_op rfl (OJ_P (P_pickOr rfl rfl (fun hh => mbx (not_f hh) rfl)) rfl ?_)
  refine RJ_op rfl (OJ_P (P_move rfl) rfl ?_)
  refine RJ_mbF rfl rfl rfl (fun hG5 => have hP6 : ¬ ((chunk < (1 : Int)) ∨ ((65536 : Int) < chunk)) := nP ((bT_or bT_dec bT_dec)) hG5; VJ_P (P_move rfl)) ?_
  refine RJ_mbF rfl rfl rfl (fun hG7 => have hP8 : ¬ ((chunk < (1 : Int)) ∨ ((65536 : Int) < chunk)) := nP ((bT_or bT_dec bT_dec)) hG7; VJ_P (P_lss (a := n_1) (b := (1 : Int)) (mbx hG7 rfl) rfl)) ?_
  refine RJ_op rfl (OJ_P (P_pickOr rfl rfl (fun hh => mbx (not_f hh) rfl)) rfl ?_)
  refine RJ_op rfl (OJ_P (P_move rfl) rfl ?_)
  refine RJ_mbF rfl rfl rfl (fun hG9 => have hP10 : ¬ (((chunk < (1 : Int)) ∨ ((65536 : Int) < chunk)) ∨ (n_1 < (1 : Int))) := nP ((bT_or (bT_or bT_dec bT_dec) bT_dec)) hG9; VJ_P (P_move rfl)) ?_
  refine RJ_mbF rfl rfl rfl (fun hG11 => have hP12 : ¬ (((chunk < (1 : Int)) ∨ ((65536 : Int) < chunk)) ∨ (n_1 < (1 : Int))) := nP ((bT_or (bT_or bT_dec bT_dec) bT_dec)) hG11; VJ_P (P_gtr (a := n_1) (b := (6 : Int)) (mbx hG11 rfl) rfl)) ?_
  refine RJ_op rfl (OJ_P (P_pickOr rfl rfl (fun hh => mbx (not_f hh) rfl)) rfl ?_)
  refine RJ_op rfl (OJ_P (P_move rfl) rfl ?_)
  refine RJ_mbF rfl rfl rfl (fun hG13 => have hP14 : ¬ ((((chunk < (1 : Int)) ∨ ((65536 : Int) < chunk)) ∨ (n_1 < (1 : Int))) ∨ ((6 : Int) < n_1)) := nP ((bT_or (bT_or (bT_or bT_dec bT_dec) bT_dec) bT_dec)) hG13; VJ_P (P_move rfl)) ?_
  refine RJ_mbF rfl rfl rfl (fun hG15 => have hP16 : ¬ ((((chunk < (1 : Int)) ∨ ((65536 : Int) < chunk)) ∨ (n_1 < (1 : Int))) ∨ ((6 : Int) < n_1)) := nP ((bT_or (bT_or (bT_or bT_dec bT_dec) bT_dec) bT_dec)) hG15; VJ_P (P_lss (a := at_2) (b := (0 : Int)) (mbx hG15 rfl) rfl)) ?_
  refine RJ_op rfl (OJ_P (P_pickOr rfl rfl (fun hh => mbx (not_f hh) rfl)) rfl ?_)
  refine RJ_op rfl (OJ_P (P_move rfl) rfl ?_)
  refine RJ_mbF rfl rfl rfl (fun hG17 => have hP18 : ¬ (((((chunk < (1 : Int)) ∨ ((65536 : Int) < chunk)) ∨ (n_1 < (1 : Int))) ∨ ((6 : Int) < n_1)) ∨ (at_2 < (0 : Int))) := nP ((bT_or (bT_or (bT_or (bT_or bT_dec bT_dec) bT_dec) bT_dec) bT_dec)) hG17; VJ_P (P_move rfl)) ?_
  refine RJ_mbF rfl rfl rfl (fun hG19 => have hP20 : ¬ (((((chunk < (1 : Int)) ∨ ((65536 : Int) < chunk)) ∨ (n_1 < (1 : Int))) ∨ ((6 : Int) < n_1)) ∨ (at_2 < (0 : Int))) := nP ((bT_or (bT_or (bT_or (bT_or bT_dec bT_dec) bT_dec) bT_dec) bT_dec)) hG19; VJ_P (P_gtr (a := at_2) (b := (1073741824 : Int)) (mbx hG19 rfl) rfl)) ?_
  refine RJ_op rfl (OJ_P (P_pickOr rfl rfl (fun hh => mbx (not_f hh) rfl)) rfl ?_)
  refine RJ_nil ?_
  refine QJ_then ?_
  refine CJ_condP rfl (bT_or (bT_or (bT_or (bT_or (bT_or bT_dec bT_dec) bT_dec) bT_dec) bT_dec) bT_dec) (fun hg1 => ?_) (fun hg1 => ?_)
  ·
    replace h := ite_t hg1 h
    refine CJ_seq ?_
    refine CJ_region ?_
    refine RJ_op rfl (OJ_P (P_assign rfl) rfl ?_)
    refine RJ_op rfl (OJ_P (P_assign rfl) rfl ?_)
    refine RJ_op rfl (OJ_P (P_assign rfl) rfl ?_)
    refine RJ_nil ?_
    refine QJ_then ?_
    refine CJ_ret ?_
    refine QJ_then_ret ?_
    have hE := Option.some.inj h
    subst hE
    refine QJ_end (res3 Try.results43 rfl rfl rfl) ?_
    refine CSpec.close () ?_ ?_ Ent.refl
    · rfl
    · trivial
  ·
    replace h := ite_f hg1 h
    refine CJ_skip ?_
    refine QJ_then ?_
    refine CJ_seq ?_
    refine CJ_region ?_
    refine RJ_op rfl (OJ_P (P_move rfl) rfl ?_)
    refine RJ_op rfl (OJ_P (P_move rfl) rfl ?_)
    refine RJ_op rfl (OJ_P (P_quo (a := at_2) (b := chunk) rfl rfl (by omega)) rfl ?_)
    refine RJ_op rfl (OJ_P (P_assign rfl) rfl ?_)
    refine RJ_nil ?_
    refine QJ_then ?_
    refine CJ_seq ?_
    refine AJ_startH 0 (by kernel_rfl) rfl ?_
    refine AJ_takeP 0 1 rfl (by kernel_rfl) rfl (GY_none rfl) (P_move rfl) rfl (fun _ _ _ _ h => h) ?_
    refine AJ_takeP 1 3 rfl (by kernel_rfl) rfl (GY_none rfl) (P_move rfl) rfl (fun _ _ _ _ h => h) ?_
    refine AJ_takeP 2 7 rfl (by kernel_rfl) rfl (GY_none rfl) (P_remT (a := (at_2 / chunk)) (b := n_1) rfl rfl (by omega)) rfl (fun _ _ _ _ h => h) ?_
    refine AJ_takeP 3 15 rfl (by kernel_rfl) rfl (GY_none rfl) (P_move rfl) rfl (fun _ _ _ _ h => h) ?_
    refine AJ_takeP 4 31 rfl (by kernel_rfl) rfl (GY_none rfl) (P_move rfl) rfl (fun _ _ _ _ h => h) ?_
    refine AJ_takeP 5 63 rfl (by kernel_rfl) rfl (GY_none rfl) (P_quoT (a := (at_2 / chunk)) (b := n_1) rfl rfl (by omega)) rfl (fun _ _ _ _ h => h) ?_
    refine AJ_takeP 6 127 rfl (by kernel_rfl) rfl (GY_none rfl) (P_move rfl) rfl (fun _ _ _ _ h => h) ?_
    obtain ⟨hg2, h⟩ := grd_Ie h
    refine AJ_takeP 7 255 rfl (by kernel_rfl) rfl (GY_none rfl) (P_mul (a := (IntKind.i64.wrap ((at_2 / chunk).tdiv n_1))) (b := chunk) rfl rfl hg2) rfl (fun _ _ _ _ h => h) ?_
    refine AJ_takeP 8 511 rfl (by kernel_rfl) rfl (GY_none rfl) (P_move rfl) rfl (fun _ _ _ _ h => h) ?_
    refine AJ_takeP 9 1023 rfl (by kernel_rfl) rfl (GY_none rfl) (P_move rfl) rfl (fun _ _ _ _ h => h) ?_
    refine AJ_takeP 10 2047 rfl (by kernel_rfl) rfl (GY_none rfl) (P_rem (a := at_2) (b := chunk) rfl rfl (by omega)) rfl (fun _ _ _ _ h => h) ?_
    obtain ⟨hg3, h⟩ := grd_Ie h
    refine AJ_takeP 11 4095 rfl (by kernel_rfl) rfl (GY_none rfl) (P_add (a := ((IntKind.i64.wrap ((at_2 / chunk).tdiv n_1)) * chunk)) (b := (at_2 % chunk)) rfl rfl hg3) rfl (fun _ _ _ _ h => h) ?_
    refine AJ_takeP 12 8191 rfl (by kernel_rfl) rfl (GY_none rfl) (P_assign rfl) rfl (fun _ _ _ _ h => h) ?_
    refine AJ_takeP 13 16383 rfl (by kernel_rfl) rfl (GY_none rfl) (P_assign rfl) rfl (fun _ _ _ _ h => h) ?_
    refine AJ_takeP 14 32767 rfl (by kernel_rfl) rfl (GY_none rfl) (P_assign rfl) rfl (fun _ _ _ _ h => h) ?_
    refine AJ_done (by kernel_rfl) ?_
    refine QJ_then ?_
    refine CJ_ret ?_
    have hE := Option.some.inj h
    subst hE
    refine QJ_end (res3 Try.results43 rfl rfl rfl) ?_
    refine CSpec.close () ?_ ?_ Ent.refl
    · rfl
    · trivial

def volumegrouplaw17_StripeSound_1 (p0_v : ArrS) (p1 : Int) : Option ((Option Dvc) × Bool) :=
  Option.bind (volumegroupmake_Spans p0_v) fun r1 =>
  Option.bind (stripe_New r1 p1 p0_v) fun r7 =>
  some ((r7.1, (decide (r7.2 = (0 : Int)))))

theorem L_volumegrouplaw17_StripeSound_1 {W : World} {bp0 : Nat} {bp0_v : Nat} {bp1 : Nat} {p0_v : ArrS} {p1 : Int} {r : (Option Dvc) × Bool} (h : volumegrouplaw17_StripeSound_1 p0_v p1 = some r) :
    CSpec Try.prog W 44 [ptr bp0 0, ptr bp1 0] [blk bp0 23 [ptr bp0_v 0], Arr bp0_v p0_v, blk bp1 3 [.int .i64 p1]] (fun x : IfH => .tuple #[oif r.1 x, .bool r.2]) (fun _ => True) (fun x F => blk bp0 23 [ptr bp0_v 0] :: Arr bp0_v p0_v :: blk bp1 3 [.int .i64 p1] :: optP (DevP bp0_v · x) r.1 :: F) := by
  refine CSpec.of_body Try.func44 rfl Try.ntmps44 rfl (fun F => ?_)
  show CJ _ _ _ _ _ _ (_ :: _ :: _ :: F)
  unfold volumegrouplaw17_StripeSound_1 at h
  refine CJ_seq ?_
  refine CJ_region ?_
  refine RJ_op rfl (OJ_P (P_assign rfl) rfl ?_)
  refine RJ_op rfl (OJ_P (P_assign rfl) rfl ?_)
  refine RJ_nil ?_
  refine QJ_then ?_
  refine CJ_seq ?_
  refine AJ_startH 8 (by kernel_rfl) rfl ?_
  refine AJ_takeV 0 1 rfl (by kernel_rfl) rfl (by kernel_rfl) (by kernel_rfl) (GY_none rfl) Ent.refl (V_load rfl foc0 rfl Try.isAgg23) rfl (fun _ _ _ _ h => h) ?_
  refine AJ_takeV 2 5 rfl (by kernel_rfl) rfl (by kernel_rfl) (by kernel_rfl) (GY_none rfl) Ent.refl (V_load rfl foc2 rfl Try.isAgg3) rfl (fun _ _ _ _ h => h) ?_
  obtain ⟨r1, hr2, h⟩ := bind_e h
  refine AJ_op 1 7 rfl (by kernel_rfl) rfl (GY_none rfl) (O_call (L_volumegroupmake_Spans hr2) rfl Try.call17 (Dels.cons del1 Dels.nil) rfl (fun X3 _ => ?_))
  refine ⟨fun _ => (Ent.take del3 (Ent.take del0 (Ent.take del2 (Ent.drop (Ent.drop Ent.refl))))), ?_⟩
  refine AJ_pure (fun h hh => Rs_len (stars_perm (del2 (A := Rs (DevP bp0_v) r1 X3.2)).out h hh)) (fun hdl6 => ?_)
  obtain ⟨r7, hr8, h⟩ := bind_e h
  refine AJ_op 3 15 rfl (by kernel_rfl) rfl (GY_none rfl) (O_call (L_stripe_New (Reads.sl _ _ _) hr8) rfl Try.call41 (Dels.cons del1 (Dels.cons del1 (Dels.cons del0 Dels.nil))) rfl (fun X9 _ => ?_))
  refine ⟨fun h => absurd h (by decide), ?_⟩
  refine AJ_takeP 4 31 rfl (by kernel_rfl) rfl (GY_none rfl) (P_move rfl) rfl (fun _ _ _ _ h => h) ?_
  refine AJ_takeP 5 63 rfl (by kernel_rfl) rfl (GY_none rfl) (P_extract rfl rfl) rfl (fun _ _ _ _ h => h) ?_
  refine AJ_takeP 6 127 rfl (by kernel_rfl) rfl (GY_none rfl) (P_extract rfl rfl) rfl (fun _ _ _ _ h => h) ?_
  refine AJ_takeP 7 255 rfl (by kernel_rfl) rfl (GY_none rfl) (P_assign rfl) rfl (fun _ _ _ _ h => h) ?_
  refine AJ_takeP 8 511 rfl (by kernel_rfl) rfl (GY_none rfl) (P_assign rfl) rfl (fun _ _ _ _ h => h) ?_
  refine AJ_done (by kernel_rfl) ?_
  refine QJ_then ?_
  refine CJ_seq ?_
  refine CJ_region ?_
  refine RJ_op rfl (OJ_P (P_move rfl) rfl ?_)
  refine RJ_op rfl (OJ_P (P_move rfl) rfl ?_)
  refine RJ_op rfl (OJ_P (P_eql (a := r7.2) (b := (0 : Int)) rfl rfl) rfl ?_)
  refine RJ_op rfl (OJ_P (P_assign rfl) rfl ?_)
  refine RJ_op rfl (OJ_P (P_assign rfl) rfl ?_)
  refine RJ_nil ?_
  refine QJ_then ?_
  refine CJ_ret ?_
  have hE := Option.some.inj h
  subst hE
  refine QJ_end (res2 Try.results44 rfl rfl) ?_
  refine CSpec.close X9 ?_ ?_ (Ent.take del4 (Ent.take del2 (Ent.take del3 (Ent.take del2 (Ent.drop (Ent.drop Ent.refl))))))
  · rfl
  · trivial

def volumegroupmake_Track_Again__volumegrouplaw17_StripeSound_1 (t : List Sec) (a : ArrS) (open_2_c1 : Int) (keep : UInt64) : Option ((Option Dvc) × Bool × (List Sec) × ArrS) :=
  Option.bind (volumegroupmake_Keep keep) fun r1 =>
  grd (inLen a.writes) <|
  Option.bind (volumegrouplaw17_StripeSound_1 (rsS a r1) open_2_c1) fun r5 =>
  if (¬ r5.2 = true) then
    if true = true then
      some ((none, false, (failedT t), (rsS a r1)))
    else
      Option.elim r5.1 (
        none) fun o12 =>
      Option.bind (Dvc.size o12 (rsS a r1)) fun r14 =>
      if (r14 ≠ (((failedT t).length : Nat) : Int)) then
        some ((none, false, (failedT t), (rsS a r1)))
      else
        Option.bind (volumegroupmake_Track_All (failedT t) o12 true (rsS a r1)) fun r16 =>
        some (((some o12), r16.1, r16.2, (rsS a r1)))
  else
    Option.elim r5.1 (
      if true = true then
        some ((none, false, (failedT t), (rsS a r1)))
      else
        none) fun o19 =>
    if false = true then
      some ((none, false, (failedT t), (rsS a r1)))
    else
      Option.bind (Dvc.size o19 (rsS a r1)) fun r21 =>
      if (r21 ≠ (((failedT t).length : Nat) : Int)) then
        some ((none, false, (failedT t), (rsS a r1)))
      else
        Option.bind (volumegroupmake_Track_All (failedT t) o19 true (rsS a r1)) fun r23 =>
        some (((some o19), r23.1, r23.2, (rsS a r1)))

theorem L_volumegroupmake_Track_Again__volumegrouplaw17_StripeSound_1 {W : World} {bt : Nat} {ba : Nat} {bopen_2_c0 : Nat} {bopen_2_c1 : Nat} {t : List Sec} {a : ArrS} {open_2_c1 : Int} {keep : UInt64} {r : (Option Dvc) × Bool × (List Sec) × ArrS} (h : volumegroupmake_Track_Again__volumegrouplaw17_StripeSound_1 t a open_2_c1 keep = some r) :
    CSpec Try.prog W 82 [ptr bt 0, ptr ba 0, .func (.func 44) #[] #[ptr bopen_2_c0 0, ptr bopen_2_c1 0], .int .u64 (keep.toNat : Int)] [Trk bt t, Arr ba a, blk bopen_2_c0 23 [ptr ba 0], blk bopen_2_c1 3 [.int .i64 open_2_c1]] (fun x : IfH => .tuple #[oif r.1 x, .bool r.2.1]) (fun _ => True) (fun x F => Trk bt r.2.2.1 :: Arr ba r.2.2.2 :: blk bopen_2_c0 23 [ptr ba 0] :: blk bopen_2_c1 3 [.int .i64 open_2_c1] :: optP (DevP ba · x) r.1 :: F) := by
  refine CSpec.of_body Try.func82 rfl Try.ntmps82 rfl (fun F => ?_)
  show CJ _ _ _ _ _ _ (_ :: _ :: _ :: _ :: F)
  unfold volumegroupmake_Track_Again__volumegrouplaw17_StripeSound_1 at h
  refine CJ_seq ?_
  refine CJ_region ?_
  refine RJ_op rfl (OJ_P (P_assign rfl) rfl ?_)
  refine RJ_op rfl (OJ_P (P_assign rfl) rfl ?_)
  refine RJ_nil ?_
  refine QJ_then ?_
  refine CJ_seq ?_
  refine CJ_region ?_
  refine RJ_op rfl (OJ_P (P_move rfl) rfl ?_)
  refine RJ_op rfl (O_call (c_Failed) rfl Try.call97 (Dels.cons del0 Dels.nil) rfl (fun _ _ => ?_))
  refine RJ_nil ?_
  refine QJ_then ?_
  refine CJ_seq ?_
  refine CJ_region ?_
  refine RJ_op rfl (OJ_P (P_move rfl) rfl ?_)
  refine RJ_op rfl (OJ_P (P_move rfl) rfl ?_)
  obtain ⟨r1, hr2, h⟩ := bind_e h
  refine RJ_op rfl (O_call (L_volumegroupmake_Keep hr2) rfl Try.call58 Dels.nil rfl (fun X3 _ => ?_))
  obtain ⟨hg1, h⟩ := grd_Le h
  refine RJ_op rfl (O_call (c_Restart (Reads.sl _ _ _) hg1) rfl Try.call35 (Dels.cons del2 (Dels.cons del0 Dels.nil)) rfl (fun _ _ => ?_))
  refine RJ_nil ?_
  refine QJ_then ?_
  refine CJ_seq ?_
  refine CJ_region ?_
  refine RJ_op rfl (OJ_P (P_move rfl) rfl ?_)
  obtain ⟨r5, hr6, h⟩ := bind_e h
  refine RJ_op rfl (O_callV rfl rfl (L_volumegrouplaw17_StripeSound_1 hr6) Try.call44 (Dels.cons del3 (Dels.cons del0 (Dels.cons del2 Dels.nil))) rfl (fun X7 _ => ?_))
  refine RJ_op rfl (OJ_P (P_move rfl) rfl ?_)
  refine RJ_op rfl (OJ_P (P_extract rfl rfl) rfl ?_)
  refine RJ_op rfl (OJ_P (P_extract rfl rfl) rfl ?_)
  refine RJ_op rfl (OJ_P (P_assign rfl) rfl ?_)
  refine RJ_op rfl (OJ_P (P_assign rfl) rfl ?_)
  refine RJ_nil ?_
  refine QJ_then ?_
  refine CJ_seq ?_
  refine CJ_seq ?_
  refine CJ_entX (Ent.transX (Ent.take del5 Ent.refl) Trk_open) (fun tc9 => ?_)
  refine CJ_pur (fun hS10 => ?_)
  refine AJ_start [blk bt 172 [(Sl3.v tc9.1)], sl tySec (Sl3.v tc9.1) (SL.hs tc9.2), Own ownS tc9.2, blk bopen_2_c0 23 [ptr ba 0], Arr ba (rsS a r1), blk bopen_2_c1 3 [.int .i64 open_2_c1], sl tyB X3.v r1] 0 (by kernel_rfl) rfl ?_
  refine AJ_takeP 0 1 rfl (by kernel_rfl) rfl (GY_none rfl) (P_move rfl) rfl (fun _ _ _ _ h => h) ?_
  refine AJ_takeP 1 3 rfl (by kernel_rfl) rfl (GY_none rfl) (P_not rfl) rfl (fun _ _ _ _ h => h) ?_
  refine AJ_takeP 2 7 rfl (by kernel_rfl) rfl (GY_none rfl) (P_move rfl) rfl (fun _ _ _ _ h => h) ?_
  refine AJ_splitP 25 rfl (bT_not Iff.rfl) (fun hg2B hg2 => ?_) (fun hg2B hg2 => ?_)
  ·
    replace h := ite_t hg2 h
    refine AJ_skip 3 15 rfl (by kernel_rfl) rfl (GY_no rfl rfl rfl hg2B) rfl (fun _ _ _ _ h => h) ?_
    refine AJ_skip 4 31 rfl (by kernel_rfl) rfl (GY_no rfl rfl rfl hg2B) rfl (fun _ _ _ _ h => h) ?_
    refine AJ_takeP 5 63 rfl (by kernel_rfl) rfl (GY_none rfl) (P_pickT rfl hg2B rfl) rfl (fun _ _ _ _ h => h) ?_
    refine AJ_takeP 6 127 rfl (by kernel_rfl) rfl (GY_none rfl) (P_move rfl) rfl (fun _ _ _ _ h => h) ?_
    refine AJ_splitP 29 rfl Iff.rfl (fun hg3B hg3 => ?_) (fun hg3B hg3 => ?_)
    ·
      replace h := ite_t hg3 h
      refine AJ_skip 7 255 rfl (by kernel_rfl) rfl (GY_no rfl rfl rfl hg3B) rfl (fun _ _ _ _ h => h) ?_
      refine AJ_skip 9 767 rfl (by kernel_rfl) rfl (GY_no rfl rfl rfl hg3B) rfl (fun _ _ _ _ h => h) ?_
      refine AJ_skip 10 1791 rfl (by kernel_rfl) rfl (GY_no rfl rfl rfl hg3B) rfl (fun _ _ _ _ h => h) ?_
      refine AJ_skip 11 3839 rfl (by kernel_rfl) rfl (GY_no rfl rfl rfl hg3B) rfl (fun _ _ _ _ h => h) ?_
      refine AJ_skip 12 7935 rfl (by kernel_rfl) rfl (GY_no rfl rfl rfl hg3B) rfl (fun _ _ _ _ h => h) ?_
      refine AJ_skip 13 16127 rfl (by kernel_rfl) rfl (GY_no rfl rfl rfl hg3B) rfl (fun _ _ _ _ h => h) ?_
      refine AJ_skip 8 16383 rfl (by kernel_rfl) rfl (GY_no rfl rfl rfl hg3B) rfl (fun _ _ _ _ h => h) ?_
      refine AJ_skip 14 32767 rfl (by kernel_rfl) rfl (GY_no rfl rfl rfl hg3B) rfl (fun _ _ _ _ h => h) ?_
      refine AJ_takeP 15 65535 rfl (by kernel_rfl) rfl (GY_none rfl) (P_pickT rfl hg3B rfl) rfl (fun _ _ _ _ h => h) ?_
      refine AJ_done (by kernel_rfl) ?_
      refine QJ_ent (Ent.trans (Ent.take del0 (Ent.take del0 (Ent.take del0 Ent.refl))) (Trk_close hS10)) ?_
      refine QJ_then ?_
      refine CJ_condT rfl rfl ?_
      refine CJ_seq ?_
      refine CJ_region ?_
      refine RJ_op rfl (OJ_P (P_assign rfl) rfl ?_)
      refine RJ_op rfl (OJ_P (P_assign rfl) rfl ?_)
      refine RJ_nil ?_
      refine QJ_then ?_
      refine CJ_ret ?_
      refine QJ_then_ret ?_
      have hE := Option.some.inj h
      subst hE
      refine QJ_end (res2 Try.results82 rfl rfl) ?_
      refine CSpec.close ⟨0, .bool false⟩ ?_ ?_ (Ent.take del0 (Ent.take del1 (Ent.take del0 (Ent.take del0 (Ent.trans (fun h hh => optP_none h hh) <| Ent.take del0 (Ent.drop (Ent.drop Ent.refl)))))))
      · rfl
      · trivial
    ·
      replace h := ite_f hg3 h
      refine AJ_takeP 7 255 rfl (by kernel_rfl) rfl (GY_yes rfl rfl rfl hg3B) (P_move rfl) rfl (fun _ _ _ _ h => h) ?_
      refine AJ_takeP 9 767 rfl (by kernel_rfl) rfl (GY_yes rfl rfl rfl hg3B) (P_move rfl) rfl (fun _ _ _ _ h => h) ?_
      refine AJ_takeP 10 1791 rfl (by kernel_rfl) rfl (GY_yes rfl rfl rfl hg3B) (P_nilCheck rfl) rfl (fun _ _ _ _ h => h) ?_
      refine AJ_takeP 11 3839 rfl (by kernel_rfl) rfl (GY_yes rfl rfl rfl hg3B) (P_fieldAddr rfl ⟨_, _, _, Try.runUnderlying172, rfl, rfl, Try.sizeOf170, rfl⟩) rfl (fun _ _ _ _ h => h) ?_
      refine AJ_takeV 12 7935 rfl (by kernel_rfl) rfl (by kernel_rfl) (by kernel_rfl) (GY_yes rfl rfl rfl hg3B) (Ent.take del0 (Ent.take del0 (Ent.take del0 (Ent.take del0 (Ent.take del0 (Ent.take del0 (Ent.take del1 Ent.done))))))) (V_load rfl foc0 rfl Try.isAgg170) rfl (fun _ _ _ _ h => h) ?_
      refine AJ_takeV 13 16127 rfl (by kernel_rfl) rfl (by kernel_rfl) (by kernel_rfl) (GY_yes rfl rfl rfl hg3B) (Ent.take del0 (Ent.take del0 (Ent.take del0 (Ent.take del0 (Ent.take del0 (Ent.take del0 (Ent.take del1 Ent.done))))))) (VJ_eq (V_len rfl foc1 (Reads.sl _ _ _) Try.runUnderlying170) (congrArg (fun z : Nat => Value.int .i64 (z : Int)) hS10.len.symm)) rfl (fun _ _ _ _ h => h) ?_
      rcases opt_e h with ⟨ht11, h⟩ | ⟨o12, ht11, h⟩
      ·
        rw [ht11]
        exact none_e h
      ·
        rw [ht11]
        refine AJ_ent (Ent.takeC (A' := DevP ba o12 X7) del6 rfl Ent.refl) ?_
        refine AJ_pure (fun h hh => DevP_dep h (stars_perm (del0 (A := DevP ba o12 X7)).out h hh)) (fun hdp13 => ?_)
        obtain ⟨r14, hr15, h⟩ := bind_e h
        refine AJ_op 8 16383 rfl (by kernel_rfl) rfl (GY_yes rfl rfl rfl hg3B) (O_callI rfl (dev_Size hr15 hdp13) rfl (Dels.cons del0 (Dels.cons del4 Dels.nil)) rfl (fun _ _ => ?_))
        refine ⟨fun _ => (Ent.take del2 (Ent.take del2 (Ent.take del2 (Ent.take del2 (Ent.take del1 (Ent.take del1 (Ent.take del1 Ent.done))))))), ?_⟩
        refine AJ_takeP 14 32767 rfl (by kernel_rfl) rfl (GY_yes rfl rfl rfl hg3B) (P_neq (a := r14) (b := (((failedT t).length : Nat) : Int)) rfl rfl) rfl (fun _ _ _ _ h => h) ?_
        refine AJ_takeP 15 65535 rfl (by kernel_rfl) rfl (GY_none rfl) (P_pickF rfl hg3B rfl) rfl (fun _ _ _ _ h => h) ?_
        refine AJ_done (by kernel_rfl) ?_
        refine QJ_ent (Ent.trans (Ent.take del2 (Ent.take del2 (Ent.take del2 Ent.refl))) (Trk_close hS10)) ?_
        refine QJ_then ?_
        refine CJ_condP rfl bT_dec (fun hg4 => ?_) (fun hg4 => ?_)
        ·
          replace h := ite_t hg4 h
          refine CJ_seq ?_
          refine CJ_region ?_
          refine RJ_op rfl (OJ_P (P_assign rfl) rfl ?_)
          refine RJ_op rfl (OJ_P (P_assign rfl) rfl ?_)
          refine RJ_nil ?_
          refine QJ_then ?_
          refine CJ_ret ?_
          refine QJ_then_ret ?_
          have hE := Option.some.inj h
          subst hE
          refine QJ_end (res2 Try.results82 rfl rfl) ?_
          refine CSpec.close ⟨0, .bool false⟩ ?_ ?_ (Ent.take del0 (Ent.take del1 (Ent.take del1 (Ent.take del1 (Ent.trans (fun h hh => optP_none h hh) <| Ent.take del0 (Ent.drop (Ent.drop Ent.refl)))))))
          · rfl
          · trivial
        ·
          replace h := ite_f hg4 h
          refine CJ_skip ?_
          refine QJ_then ?_
          refine CJ_seq ?_
          refine CJ_region ?_
          refine RJ_op rfl (OJ_P (P_move rfl) rfl ?_)
          refine RJ_op rfl (OJ_P (P_move rfl) rfl ?_)
          refine RJ_op rfl (OJ_P (P_move rfl) rfl ?_)
          obtain ⟨r16, hr17, h⟩ := bind_e h
          refine RJ_op rfl (O_call (L_volumegroupmake_Track_All hr17) rfl Try.call83 (Dels.cons del0 (Dels.cons del0 (Dels.cons del0 Dels.nil))) rfl (fun _ _ => ?_))
          refine RJ_op rfl (OJ_P (P_assign rfl) rfl ?_)
          refine RJ_op rfl (OJ_P (P_assign rfl) rfl ?_)
          refine RJ_nil ?_
          refine QJ_then ?_
          refine CJ_ret ?_
          have hE := Option.some.inj h
          subst hE
          refine QJ_end (res2 Try.results82 rfl rfl) ?_
          refine CSpec.close X7 ?_ ?_ (Ent.take del0 (Ent.take del1 (Ent.take del1 (Ent.take del1 (Ent.take del0 (Ent.drop Ent.refl))))))
          · rfl
          · trivial
  ·
    replace h := ite_f hg2 h
    refine AJ_takeP 3 15 rfl (by kernel_rfl) rfl (GY_yes rfl rfl rfl hg2B) (P_move rfl) rfl (fun _ _ _ _ h => h) ?_
    rcases opt_e h with ⟨ht18, h⟩ | ⟨o19, ht18, h⟩
    ·
      rw [ht18]
      refine AJ_takeP 4 31 rfl (by kernel_rfl) rfl (GY_yes rfl rfl rfl hg2B) (P_eqlIN rfl Try.underlying31) rfl (fun _ _ _ _ h => h) ?_
      refine AJ_takeP 5 63 rfl (by kernel_rfl) rfl (GY_none rfl) (P_pickF rfl hg2B rfl) rfl (fun _ _ _ _ h => h) ?_
      refine AJ_takeP 6 127 rfl (by kernel_rfl) rfl (GY_none rfl) (P_move rfl) rfl (fun _ _ _ _ h => h) ?_
      refine AJ_splitP 29 rfl Iff.rfl (fun hg5B hg5 => ?_) (fun hg5B hg5 => ?_)
      ·
        replace h := ite_t hg5 h
        refine AJ_skip 7 255 rfl (by kernel_rfl) rfl (GY_no rfl rfl rfl hg5B) rfl (fun _ _ _ _ h => h) ?_
        refine AJ_skip 9 767 rfl (by kernel_rfl) rfl (GY_no rfl rfl rfl hg5B) rfl (fun _ _ _ _ h => h) ?_
        refine AJ_skip 10 1791 rfl (by kernel_rfl) rfl (GY_no rfl rfl rfl hg5B) rfl (fun _ _ _ _ h => h) ?_
        refine AJ_skip 11 3839 rfl (by kernel_rfl) rfl (GY_no rfl rfl rfl hg5B) rfl (fun _ _ _ _ h => h) ?_
        refine AJ_skip 12 7935 rfl (by kernel_rfl) rfl (GY_no rfl rfl rfl hg5B) rfl (fun _ _ _ _ h => h) ?_
        refine AJ_skip 13 16127 rfl (by kernel_rfl) rfl (GY_no rfl rfl rfl hg5B) rfl (fun _ _ _ _ h => h) ?_
        refine AJ_skip 8 16383 rfl (by kernel_rfl) rfl (GY_no rfl rfl rfl hg5B) rfl (fun _ _ _ _ h => h) ?_
        refine AJ_skip 14 32767 rfl (by kernel_rfl) rfl (GY_no rfl rfl rfl hg5B) rfl (fun _ _ _ _ h => h) ?_
        refine AJ_takeP 15 65535 rfl (by kernel_rfl) rfl (GY_none rfl) (P_pickT rfl hg5B rfl) rfl (fun _ _ _ _ h => h) ?_
        refine AJ_done (by kernel_rfl) ?_
        refine QJ_ent (Ent.trans (Ent.take del0 (Ent.take del0 (Ent.take del0 Ent.refl))) (Trk_close hS10)) ?_
        refine QJ_then ?_
        refine CJ_condT rfl rfl ?_
        refine CJ_seq ?_
        refine CJ_region ?_
        refine RJ_op rfl (OJ_P (P_assign rfl) rfl ?_)
        refine RJ_op rfl (OJ_P (P_assign rfl) rfl ?_)
        refine RJ_nil ?_
        refine QJ_then ?_
        refine CJ_ret ?_
        refine QJ_then_ret ?_
        have hE := Option.some.inj h
        subst hE
        refine QJ_end (res2 Try.results82 rfl rfl) ?_
        refine CSpec.close ⟨0, .bool false⟩ ?_ ?_ (Ent.take del0 (Ent.take del1 (Ent.take del0 (Ent.take del0 (Ent.trans (fun h hh => optP_none h hh) <| Ent.take del0 (Ent.drop (Ent.drop Ent.refl)))))))
        · rfl
        · trivial
      ·
        replace h := ite_f hg5 h
        refine AJ_takeP 7 255 rfl (by kernel_rfl) rfl (GY_yes rfl rfl rfl hg5B) (P_move rfl) rfl (fun _ _ _ _ h => h) ?_
        refine AJ_takeP 9 767 rfl (by kernel_rfl) rfl (GY_yes rfl rfl rfl hg5B) (P_move rfl) rfl (fun _ _ _ _ h => h) ?_
        refine AJ_takeP 10 1791 rfl (by kernel_rfl) rfl (GY_yes rfl rfl rfl hg5B) (P_nilCheck rfl) rfl (fun _ _ _ _ h => h) ?_
        refine AJ_takeP 11 3839 rfl (by kernel_rfl) rfl (GY_yes rfl rfl rfl hg5B) (P_fieldAddr rfl ⟨_, _, _, Try.runUnderlying172, rfl, rfl, Try.sizeOf170, rfl⟩) rfl (fun _ _ _ _ h => h) ?_
        refine AJ_takeV 12 7935 rfl (by kernel_rfl) rfl (by kernel_rfl) (by kernel_rfl) (GY_yes rfl rfl rfl hg5B) (Ent.take del0 (Ent.take del0 (Ent.take del0 (Ent.take del0 (Ent.take del0 (Ent.take del0 (Ent.take del1 Ent.done))))))) (V_load rfl foc0 rfl Try.isAgg170) rfl (fun _ _ _ _ h => h) ?_
        refine AJ_takeV 13 16127 rfl (by kernel_rfl) rfl (by kernel_rfl) (by kernel_rfl) (GY_yes rfl rfl rfl hg5B) (Ent.take del0 (Ent.take del0 (Ent.take del0 (Ent.take del0 (Ent.take del0 (Ent.take del0 (Ent.take del1 Ent.done))))))) (VJ_eq (V_len rfl foc1 (Reads.sl _ _ _) Try.runUnderlying170) (congrArg (fun z : Nat => Value.int .i64 (z : Int)) hS10.len.symm)) rfl (fun _ _ _ _ h => h) ?_
        exact none_e h
    ·
      rw [ht18]
      refine AJ_ent (Ent.takeC (A' := DevP ba o19 X7) del6 rfl Ent.refl) ?_
      refine AJ_takeP 4 31 rfl (by kernel_rfl) rfl (GY_yes rfl rfl rfl hg2B) (P_eqlIfN rfl rfl Try.underlying31) rfl (fun _ _ _ _ h => h) ?_
      refine AJ_takeP 5 63 rfl (by kernel_rfl) rfl (GY_none rfl) (P_pickF rfl hg2B rfl) rfl (fun _ _ _ _ h => h) ?_
      refine AJ_takeP 6 127 rfl (by kernel_rfl) rfl (GY_none rfl) (P_move rfl) rfl (fun _ _ _ _ h => h) ?_
      refine AJ_splitP 29 rfl Iff.rfl (fun hg6B hg6 => ?_) (fun hg6B hg6 => ?_)
      ·
        replace h := ite_t hg6 h
        refine AJ_skip 7 255 rfl (by kernel_rfl) rfl (GY_no rfl rfl rfl hg6B) rfl (fun _ _ _ _ h => h) ?_
        refine AJ_skip 9 767 rfl (by kernel_rfl) rfl (GY_no rfl rfl rfl hg6B) rfl (fun _ _ _ _ h => h) ?_
        refine AJ_skip 10 1791 rfl (by kernel_rfl) rfl (GY_no rfl rfl rfl hg6B) rfl (fun _ _ _ _ h => h) ?_
        refine AJ_skip 11 3839 rfl (by kernel_rfl) rfl (GY_no rfl rfl rfl hg6B) rfl (fun _ _ _ _ h => h) ?_
        refine AJ_skip 12 7935 rfl (by kernel_rfl) rfl (GY_no rfl rfl rfl hg6B) rfl (fun _ _ _ _ h => h) ?_
        refine AJ_skip 13 16127 rfl (by kernel_rfl) rfl (GY_no rfl rfl rfl hg6B) rfl (fun _ _ _ _ h => h) ?_
        refine AJ_skip 8 16383 rfl (by kernel_rfl) rfl (GY_no rfl rfl rfl hg6B) rfl (fun _ _ _ _ h => h) ?_
        refine AJ_skip 14 32767 rfl (by kernel_rfl) rfl (GY_no rfl rfl rfl hg6B) rfl (fun _ _ _ _ h => h) ?_
        refine AJ_takeP 15 65535 rfl (by kernel_rfl) rfl (GY_none rfl) (P_pickT rfl hg6B rfl) rfl (fun _ _ _ _ h => h) ?_
        refine AJ_done (by kernel_rfl) ?_
        refine QJ_ent (Ent.trans (Ent.take del1 (Ent.take del1 (Ent.take del1 Ent.refl))) (Trk_close hS10)) ?_
        refine QJ_then ?_
        refine CJ_condT rfl rfl ?_
        refine CJ_seq ?_
        refine CJ_region ?_
        refine RJ_op rfl (OJ_P (P_assign rfl) rfl ?_)
        refine RJ_op rfl (OJ_P (P_assign rfl) rfl ?_)
        refine RJ_nil ?_
        refine QJ_then ?_
        refine CJ_ret ?_
        refine QJ_then_ret ?_
        have hE := Option.some.inj h
        subst hE
        refine QJ_end (res2 Try.results82 rfl rfl) ?_
        refine CSpec.close ⟨0, .bool false⟩ ?_ ?_ (Ent.take del0 (Ent.take del2 (Ent.take del1 (Ent.take del1 (Ent.trans (fun h hh => optP_none h hh) <| Ent.take del0 (Ent.drop (Ent.drop Ent.refl)))))))
        · rfl
        · trivial
      ·
        replace h := ite_f hg6 h
        refine AJ_takeP 7 255 rfl (by kernel_rfl) rfl (GY_yes rfl rfl rfl hg6B) (P_move rfl) rfl (fun _ _ _ _ h => h) ?_
        refine AJ_takeP 9 767 rfl (by kernel_rfl) rfl (GY_yes rfl rfl rfl hg6B) (P_move rfl) rfl (fun _ _ _ _ h => h) ?_
        refine AJ_takeP 10 1791 rfl (by kernel_rfl) rfl (GY_yes rfl rfl rfl hg6B) (P_nilCheck rfl) rfl (fun _ _ _ _ h => h) ?_
        refine AJ_takeP 11 3839 rfl (by kernel_rfl) rfl (GY_yes rfl rfl rfl hg6B) (P_fieldAddr rfl ⟨_, _, _, Try.runUnderlying172, rfl, rfl, Try.sizeOf170, rfl⟩) rfl (fun _ _ _ _ h => h) ?_
        refine AJ_takeV 12 7935 rfl (by kernel_rfl) rfl (by kernel_rfl) (by kernel_rfl) (GY_yes rfl rfl rfl hg6B) (Ent.take del1 (Ent.take del1 (Ent.take del1 (Ent.take del1 (Ent.take del1 (Ent.take del1 (Ent.take del1 Ent.done))))))) (V_load rfl foc0 rfl Try.isAgg170) rfl (fun _ _ _ _ h => h) ?_
        refine AJ_takeV 13 16127 rfl (by kernel_rfl) rfl (by kernel_rfl) (by kernel_rfl) (GY_yes rfl rfl rfl hg6B) (Ent.take del1 (Ent.take del1 (Ent.take del1 (Ent.take del1 (Ent.take del1 (Ent.take del1 (Ent.take del1 Ent.done))))))) (VJ_eq (V_len rfl foc1 (Reads.sl _ _ _) Try.runUnderlying170) (congrArg (fun z : Nat => Value.int .i64 (z : Int)) hS10.len.symm)) rfl (fun _ _ _ _ h => h) ?_
        refine AJ_pure (fun h hh => DevP_dep h (stars_perm (del0 (A := DevP ba o19 X7)).out h hh)) (fun hdp20 => ?_)
        obtain ⟨r21, hr22, h⟩ := bind_e h
        refine AJ_op 8 16383 rfl (by kernel_rfl) rfl (GY_yes rfl rfl rfl hg6B) (O_callI rfl (dev_Size hr22 hdp20) rfl (Dels.cons del0 (Dels.cons del4 Dels.nil)) rfl (fun _ _ => ?_))
        refine ⟨fun _ => (Ent.take del2 (Ent.take del2 (Ent.take del2 (Ent.take del2 (Ent.take del1 (Ent.take del1 (Ent.take del1 Ent.done))))))), ?_⟩
        refine AJ_takeP 14 32767 rfl (by kernel_rfl) rfl (GY_yes rfl rfl rfl hg6B) (P_neq (a := r21) (b := (((failedT t).length : Nat) : Int)) rfl rfl) rfl (fun _ _ _ _ h => h) ?_
        refine AJ_takeP 15 65535 rfl (by kernel_rfl) rfl (GY_none rfl) (P_pickF rfl hg6B rfl) rfl (fun _ _ _ _ h => h) ?_
        refine AJ_done (by kernel_rfl) ?_
        refine QJ_ent (Ent.trans (Ent.take del2 (Ent.take del2 (Ent.take del2 Ent.refl))) (Trk_close hS10)) ?_
        refine QJ_then ?_
        refine CJ_condP rfl bT_dec (fun hg7 => ?_) (fun hg7 => ?_)
        ·
          replace h := ite_t hg7 h
          refine CJ_seq ?_
          refine CJ_region ?_
          refine RJ_op rfl (OJ_P (P_assign rfl) rfl ?_)
          refine RJ_op rfl (OJ_P (P_assign rfl) rfl ?_)
          refine RJ_nil ?_
          refine QJ_then ?_
          refine CJ_ret ?_
          refine QJ_then_ret ?_
          have hE := Option.some.inj h
          subst hE
          refine QJ_end (res2 Try.results82 rfl rfl) ?_
          refine CSpec.close ⟨0, .bool false⟩ ?_ ?_ (Ent.take del0 (Ent.take del1 (Ent.take del1 (Ent.take del1 (Ent.trans (fun h hh => optP_none h hh) <| Ent.take del0 (Ent.drop (Ent.drop Ent.refl)))))))
          · rfl
          · trivial
        ·
          replace h := ite_f hg7 h
          refine CJ_skip ?_
          refine QJ_then ?_
          refine CJ_seq ?_
          refine CJ_region ?_
          refine RJ_op rfl (OJ_P (P_move rfl) rfl ?_)
          refine RJ_op rfl (OJ_P (P_move rfl) rfl ?_)
          refine RJ_op rfl (OJ_P (P_move rfl) rfl ?_)
          obtain ⟨r23, hr24, h⟩ := bind_e h
          refine RJ_op rfl (O_call (L_volumegroupmake_Track_All hr24) rfl Try.call83 (Dels.cons del0 (Dels.cons del0 (Dels.cons del0 Dels.nil))) rfl (fun _ _ => ?_))
          refine RJ_op rfl (OJ_P (P_assign rfl) rfl ?_)
          refine RJ_op rfl (OJ_P (P_assign rfl) rfl ?_)
          refine RJ_nil ?_
          refine QJ_then ?_
          refine CJ_ret ?_
          have hE := Option.some.inj h
          subst hE
          refine QJ_end (res2 Try.results82 rfl rfl) ?_
          refine CSpec.close X7 ?_ ?_ (Ent.take del0 (Ent.take del1 (Ent.take del1 (Ent.take del1 (Ent.take del0 (Ent.drop Ent.refl))))))
          · rfl
          · trivial

def volumegroupmake_Track_All_2_l1_b (t : List Sec) (rec : Option (Unit)) : Option (Unit) :=
  if ((0 : Int) < ((t.length : Nat) : Int)) then
    none
  else
    some ()

def volumegroupmake_Track_All_2_l1 (t : List Sec) : Nat → Option (Unit)
  | 0 => none
  | n + 1 => volumegroupmake_Track_All_2_l1_b t (volumegroupmake_Track_All_2_l1 t n)

def volumegroupmake_Track_All_2 (t : List Sec) (settled : Bool) : Option (Bool) :=
  Option.bind (volumegroupmake_Track_All_2_l1 t FUEL) fun a4 =>
  some true

theorem L_volumegroupmake_Track_All_2 {W : World} {bt : Nat} {t : List Sec} {settled : Bool} {r : Bool} (h : volumegroupmake_Track_All_2 t settled = some r) :
    CSpec Try.prog W 83 [ptr bt 0, .nilIface, .bool settled] [Trk bt t] (fun x : Unit => .bool r) (fun _ => True) (fun x F => Trk bt t :: F) := by
  refine CSpec.of_body Try.func83 rfl Try.ntmps83 rfl (fun F => ?_)
  show CJ _ _ _ _ _ _ (_ :: F)
  unfold volumegroupmake_Track_All_2 at h
  refine CJ_seq ?_
  refine CJ_region ?_
  refine RJ_op rfl (OJ_P (P_assign rfl) rfl ?_)
  refine RJ_nil ?_
  refine QJ_then ?_
  refine CJ_seq ?_
  refine CJ_seq ?_
  refine CJ_region ?_
  refine RJ_op rfl (OJ_P (P_assign rfl) rfl ?_)
  refine RJ_nil ?_
  refine QJ_then ?_
  obtain ⟨y3, hl1, hK2⟩ := bind_c h
  refine CJ_cutT (X := Unit) [6, 7, 8, 9, 10, 11, 12, 13, 14, 15, 16, 17, 18, 19, 20, 21, 22, 23, 24, 25, 26, 27, 28, 29, 30, 31, 32, 33, 34] (fun _ => ([] : Slots)) (fun _ R => R) (fun _ => True) Dels.nil ?_ ?_
  ·
    refine CJ_block ?_
    refine CJ_loopR (X := Nat) [6, 7, 8, 9, 10, 11, 12, 13, 14, 15, 16, 17, 18, 19, 20, 21, 22, 23, 24, 25, 26, 27, 28, 29, 30, 31, 32, 33, 34] (fun n => ([(7, .int .i64 (0 : Int))] : Slots)) (fun n R => R) (fun n => volumegroupmake_Track_All_2_l1 t n = some y3) (fun n => n) FUEL ?_ ?_ Ent.refl ?_
    · exact hl1
    · exact ⟨rfl, True.intro⟩
    ·
      intro n h
      cases n with
      | zero => exact none_e h
      | succ n => ?_
      replace h : volumegroupmake_Track_All_2_l1_b t (volumegroupmake_Track_All_2_l1 t n) = some y3 := h
      unfold volumegroupmake_Track_All_2_l1_b at h
      show CJ _ _ _ _ _ (([(7, .int .i64 (0 : Int))] : Slots) ++ forget _ _) (_)
      refine CJ_seq ?_
      refine CJ_seq ?_
      refine CJ_entX (Ent.transX (Ent.take del0 Ent.refl) Trk_open) (fun tc5 => ?_)
      refine CJ_pur (fun hS6 => ?_)
      refine CJ_region ?_
      refine RJ_op rfl (OJ_P (P_move rfl) rfl ?_)
      refine RJ_op rfl (OJ_P (P_move rfl) rfl ?_)
      refine RJ_op rfl (OJ_P (P_nilCheck rfl) rfl ?_)
      refine RJ_op rfl (OJ_P (P_fieldAddr rfl ⟨_, _, _, Try.runUnderlying172, rfl, rfl, Try.sizeOf170, rfl⟩) rfl ?_)
      refine RJ_op rfl (OJ_V (V_load rfl foc0 rfl Try.isAgg170) rfl ?_)
      refine RJ_op rfl (OJ_V (VJ_eq (V_len rfl foc1 (Reads.sl _ _ _) Try.runUnderlying170) (congrArg (fun z : Nat => Value.int .i64 (z : Int)) hS6.len.symm)) rfl ?_)
      refine RJ_op rfl (OJ_P (P_lss (a := (0 : Int)) (b := ((t.length : Nat) : Int)) rfl rfl) rfl ?_)
      refine RJ_nil ?_
      refine QJ_ent (Ent.trans (Ent.take del0 (Ent.take del0 (Ent.take del0 Ent.refl))) (Trk_close hS6)) ?_
      refine QJ_then ?_
      refine CJ_condP rfl bT_dec (fun hg1 => ?_) (fun hg1 => ?_)
      ·
        replace h := ite_t hg1 h
        refine CJ_skip ?_
        refine QJ_then ?_
        refine CJ_seq ?_
        refine CJ_block ?_
        refine CJ_seq ?_
        refine CJ_region ?_
        refine RJ_op rfl (OJ_P (P_move rfl) rfl ?_)
        refine RJ_op rfl (OJ_P (P_move rfl) rfl ?_)
        exact none_e h
      ·
        replace h := ite_f hg1 h
        refine CJ_exit ?_
        refine QJ_then_exit ?_
        refine QJ_round_exit ?_
        refine QJ_block_here ?_
        refine QJ_cutR () ?_ (by repeat (first | exact Kp.base | exact Kp.self | refine Kp.cons rfl ?_ | refine Kp.forget rfl ?_)) ?_ Ent.refl
        · exact trivial
        · exact True.intro
  ·
    rintro _ hy7
    have h := hK2
    show CJ _ _ _ _ _ (([] : Slots) ++ forget _ _) (_)
    refine CJ_seq ?_
    refine CJ_region ?_
    refine RJ_op rfl (OJ_P (P_assign rfl) rfl ?_)
    refine RJ_nil ?_
    refine QJ_then ?_
    refine CJ_ret ?_
    have hE := Option.some.inj h
    subst hE
    refine QJ_end (res1 Try.results83 rfl) ?_
    refine CSpec.close () ?_ ?_ Ent.refl
    · rfl
    · trivial

def volumegroupmake_Sound__volumegrouplaw17_StripeSound_1_l1_b (open_1_c1 : Int) (initial : List UInt64) (l : List volumegroupmake_Step) (rec : ArrS → (List Sec) → (Option Dvc) → Nat → Option ((ArrS × (List Sec)) ⊕ (Bool × ArrS))) (x25 : ArrS) (x26 : List Sec) (x27 : Option Dvc) (x29 : Nat) : Option ((ArrS × (List Sec)) ⊕ (Bool × ArrS)) :=
  if (((x29 : Nat) : Int) < ((l.length : Nat) : Int)) then
    lt (((((l.getD x29 (⟨0, 0, 0, 0⟩ : volumegroupmake_Step))).At).tmod (((initial.length : Nat) : Int)))) fun w30 =>
    grd (inI64 ((w30 + ((initial.length : Nat) : Int)))) <|
    if (((l.getD x29 (⟨0, 0, 0, 0⟩ : volumegroupmake_Step))).Kind = (0 : Int)) then
      Option.elim x27 (
        none) fun o32 =>
      Option.bind (Dvc.wr o32 x25 ((((w30 + ((initial.length : Nat) : Int))).tmod (((initial.length : Nat) : Int)))) (((l.getD x29 (⟨0, 0, 0, 0⟩ : volumegroupmake_Step))).Value)) fun r35 =>
      grd (decide (smallT x26 = true)) <|
      if (r35.1 = (5 : Int)) then
        Option.bind (volumegroupmake_Track_Again__volumegrouplaw17_StripeSound_1 ((wroteT x26 ((((w30 + ((initial.length : Nat) : Int))).tmod (((initial.length : Nat) : Int)))) (((l.getD x29 (⟨0, 0, 0, 0⟩ : volumegroupmake_Step))).Value) ((decide (r35.1 = (0 : Int)))))) r35.2 open_1_c1 (((l.getD x29 (⟨0, 0, 0, 0⟩ : volumegroupmake_Step))).Keep)) fun r37 =>
        if (¬ r37.2.1 = true) then
          some (.inr (false, r37.2.2.2))
        else
          rec r37.2.2.2 r37.2.2.1 r37.1 (x29 + 1)
      else
        if (r35.1 ≠ (0 : Int)) then
          some (.inr (false, r35.2))
        else
          rec r35.2 ((wroteT x26 ((((w30 + ((initial.length : Nat) : Int))).tmod (((initial.length : Nat) : Int)))) (((l.getD x29 (⟨0, 0, 0, 0⟩ : volumegroupmake_Step))).Value) ((decide (r35.1 = (0 : Int)))))) (some o32) (x29 + 1)
    else
      if (((l.getD x29 (⟨0, 0, 0, 0⟩ : volumegroupmake_Step))).Kind = (1 : Int)) then
        Option.elim x27 (
          none) fun o43 =>
        Option.bind (Dvc.rd o43 x25 ((((w30 + ((initial.length : Nat) : Int))).tmod (((initial.length : Nat) : Int))))) fun r45 =>
        if (r45.2 = (0 : Int)) then
          grd (decide (smallT x26 = true)) <|
          if (¬ (rdTR x26 ((((w30 + ((initial.length : Nat) : Int))).tmod (((initial.length : Nat) : Int)))) r45.1) = true) then
            some (.inr (false, x25))
          else
            if (r45.2 = (5 : Int)) then
              Option.bind (volumegroupmake_Track_Again__volumegrouplaw17_StripeSound_1 ((rdTS x26 ((((w30 + ((initial.length : Nat) : Int))).tmod (((initial.length : Nat) : Int)))) r45.1 false)) x25 open_1_c1 (((l.getD x29 (⟨0, 0, 0, 0⟩ : volumegroupmake_Step))).Keep)) fun r47 =>
              if (¬ r47.2.1 = true) then
                some (.inr (false, r47.2.2.2))
              else
                rec r47.2.2.2 r47.2.2.1 r47.1 (x29 + 1)
            else
              if (r45.2 ≠ (0 : Int)) then
                some (.inr (false, x25))
              else
                rec x25 ((rdTS x26 ((((w30 + ((initial.length : Nat) : Int))).tmod (((initial.length : Nat) : Int)))) r45.1 false)) (some o43) (x29 + 1)
        else
          if (r45.2 = (5 : Int)) then
            Option.bind (volumegroupmake_Track_Again__volumegrouplaw17_StripeSound_1 x26 x25 open_1_c1 (((l.getD x29 (⟨0, 0, 0, 0⟩ : volumegroupmake_Step))).Keep)) fun r52 =>
            if (¬ r52.2.1 = true) then
              some (.inr (false, r52.2.2.2))
            else
              rec r52.2.2.2 r52.2.2.1 r52.1 (x29 + 1)
          else
            if (r45.2 ≠ (0 : Int)) then
              some (.inr (false, x25))
            else
              rec x25 x26 (some o43) (x29 + 1)
      else
        if (((l.getD x29 (⟨0, 0, 0, 0⟩ : volumegroupmake_Step))).Kind = (2 : Int)) then
          Option.elim x27 (
            none) fun o58 =>
          Option.bind (Dvc.fl o58 x25) fun r60 =>
          if (r60.1 = (0 : Int)) then
            if (r60.1 = (5 : Int)) then
              Option.bind (volumegroupmake_Track_Again__volumegrouplaw17_StripeSound_1 (flushedT x26) r60.2 open_1_c1 (((l.getD x29 (⟨0, 0, 0, 0⟩ : volumegroupmake_Step))).Keep)) fun r62 =>
              if (¬ r62.2.1 = true) then
                some (.inr (false, r62.2.2.2))
              else
                rec r62.2.2.2 r62.2.2.1 r62.1 (x29 + 1)
            else
              if (r60.1 ≠ (0 : Int)) then
                some (.inr (false, r60.2))
              else
                rec r60.2 (flushedT x26) (some o58) (x29 + 1)
          else
            if (r60.1 = (5 : Int)) then
              Option.bind (volumegroupmake_Track_Again__volumegrouplaw17_StripeSound_1 x26 r60.2 open_1_c1 (((l.getD x29 (⟨0, 0, 0, 0⟩ : volumegroupmake_Step))).Keep)) fun r67 =>
              if (¬ r67.2.1 = true) then
                some (.inr (false, r67.2.2.2))
              else
                rec r67.2.2.2 r67.2.2.1 r67.1 (x29 + 1)
            else
              if (r60.1 ≠ (0 : Int)) then
                some (.inr (false, r60.2))
              else
                rec r60.2 x26 (some o58) (x29 + 1)
        else
          if (((l.getD x29 (⟨0, 0, 0, 0⟩ : volumegroupmake_Step))).Kind = (3 : Int)) then
            if ((5 : Int) = (5 : Int)) then
              Option.bind (volumegroupmake_Track_Again__volumegrouplaw17_StripeSound_1 x26 x25 open_1_c1 (((l.getD x29 (⟨0, 0, 0, 0⟩ : volumegroupmake_Step))).Keep)) fun r72 =>
              if (¬ r72.2.1 = true) then
                some (.inr (false, r72.2.2.2))
              else
                rec r72.2.2.2 r72.2.2.1 r72.1 (x29 + 1)
            else
              if ((5 : Int) ≠ (0 : Int)) then
                some (.inr (false, x25))
              else
                rec x25 x26 x27 (x29 + 1)
          else
            if (((l.getD x29 (⟨0, 0, 0, 0⟩ : volumegroupmake_Step))).Kind = (4 : Int)) then
              grd (inI64 (((1 : Int) + (((w30 + ((initial.length : Nat) : Int))).tmod (((initial.length : Nat) : Int)))))) <|
              lt (((1 : Int) + (((w30 + ((initial.length : Nat) : Int))).tmod (((initial.length : Nat) : Int))))) fun w76 =>
              grd (inI64 w76) <|
              if ((0 : Int) = (5 : Int)) then
                Option.bind (volumegroupmake_Track_Again__volumegrouplaw17_StripeSound_1 x26 ({ x25 with fuse := (w76).toNat }) open_1_c1 (((l.getD x29 (⟨0, 0, 0, 0⟩ : volumegroupmake_Step))).Keep)) fun r77 =>
                if (¬ r77.2.1 = true) then
                  some (.inr (false, r77.2.2.2))
                else
                  rec r77.2.2.2 r77.2.2.1 r77.1 (x29 + 1)
              else
                if ((0 : Int) ≠ (0 : Int)) then
                  some (.inr ((false, { x25 with fuse := (w76).toNat })))
                else
                  rec ({ x25 with fuse := (w76).toNat }) x26 x27 (x29 + 1)
            else
              if ((0 : Int) = (5 : Int)) then
                Option.bind (volumegroupmake_Track_Again__volumegrouplaw17_StripeSound_1 x26 x25 open_1_c1 (((l.getD x29 (⟨0, 0, 0, 0⟩ : volumegroupmake_Step))).Keep)) fun r81 =>
                if (¬ r81.2.1 = true) then
                  some (.inr (false, r81.2.2.2))
                else
                  rec r81.2.2.2 r81.2.2.1 r81.1 (x29 + 1)
              else
                if ((0 : Int) ≠ (0 : Int)) then
                  some (.inr (false, x25))
                else
                  rec x25 x26 x27 (x29 + 1)
  else
    some (.inl (x25, x26))

def volumegroupmake_Sound__volumegrouplaw17_StripeSound_1_l1 (open_1_c1 : Int) (initial : List UInt64) (l : List volumegroupmake_Step) : Nat → ArrS → (List Sec) → (Option Dvc) → Nat → Option ((ArrS × (List Sec)) ⊕ (Bool × ArrS))
  | 0, _, _, _, _ => none
  | n + 1, x25, x26, x27, x29 => volumegroupmake_Sound__volumegrouplaw17_StripeSound_1_l1_b open_1_c1 initial l (volumegroupmake_Sound__volumegrouplaw17_StripeSound_1_l1 open_1_c1 initial l n) x25 x26 x27 x29

def volumegroupmake_Sound__volumegrouplaw17_StripeSound_1 (a : ArrS) (open_1_c1 : Int) (initial : List UInt64) (l : List volumegroupmake_Step) : Option (Bool × ArrS) :=
  grd (decide (initial.length ≤ 65536)) <|
  Option.bind (volumegrouplaw17_StripeSound_1 a open_1_c1) fun r5 =>
  if (¬ r5.2 = true) then
    some (false, a)
  else
    Option.elim r5.1 (
      some (false, a)) fun o14 =>
    Option.bind (Dvc.size o14 a) fun r16 =>
    if (r16 ≠ ((initial.length : Nat) : Int)) then
      some (false, a)
    else
      if (((initial.length : Nat) : Int) = (0 : Int)) then
        some (true, a)
      else
        seqO (volumegroupmake_Sound__volumegrouplaw17_StripeSound_1_l1 open_1_c1 initial l FUEL a (trkT initial) (some o14) 0) fun a24 =>
        Option.bind (volumegroupmake_Track_Again__volumegrouplaw17_StripeSound_1 a24.2 a24.1 open_1_c1 (0 : UInt64)) fun r86 =>
        if (¬ r86.2.1 = true) then
          some (false, r86.2.2.2)
        else
          Option.elim r86.1 (
            Option.bind (volumegroupmake_Track_All_2 r86.2.2.1 true) fun r92 =>
            some (r92, r86.2.2.2)) fun o91 =>
          Option.bind (volumegroupmake_Track_All r86.2.2.1 o91 true r86.2.2.2) fun r94 =>
          some (r94.1, r86.2.2.2)

theorem L_volumegroupmake_Sound__volumegrouplaw17_StripeSound_1 {W : World} {ba : Nat} {bopen_1_c0 : Nat} {bopen_1_c1 : Nat} {Ainitial : HP} {vinitial : Value} {Al : HP} {vl : Value} {a : ArrS} {open_1_c1 : Int} {initial : List UInt64} {l : List volumegroupmake_Step} {r : Bool × ArrS} (rinitial : Reads Ainitial tyU vinitial initial) (rl : Reads Al tyvolumegroupmake_Step vl l) (h : volumegroupmake_Sound__volumegrouplaw17_StripeSound_1 a open_1_c1 initial l = some r) :
    CSpec Try.prog W 32 [ptr ba 0, .func (.func 44) #[] #[ptr bopen_1_c0 0, ptr bopen_1_c1 0], vinitial, vl] [Arr ba a, blk bopen_1_c0 23 [ptr ba 0], blk bopen_1_c1 3 [.int .i64 open_1_c1], Ainitial, Al] (fun x : Unit => .bool r.1) (fun _ => True) (fun x F => Arr ba r.2 :: blk bopen_1_c0 23 [ptr ba 0] :: blk bopen_1_c1 3 [.int .i64 open_1_c1] :: Ainitial :: Al :: F) := by
  refine CSpec.of_body Try.func32 rfl Try.ntmps32 rfl (fun F => ?_)
  show CJ _ _ _ _ _ _ (_ :: _ :: _ :: _ :: _ :: F)
  unfold volumegroupmake_Sound__volumegrouplaw17_StripeSound_1 at h
  refine CJ_pure (len_of rinitial del3) (fun hlen1 => ?_)
  refine CJ_pure (len_of rl del4) (fun hlen2 => ?_)
  refine CJ_seq ?_
  refine CJ_region ?_
  refine RJ_op rfl (OJ_P (P_assign rfl) rfl ?_)
  refine RJ_nil ?_
  refine QJ_then ?_
  refine CJ_seq ?_
  refine CJ_region ?_
  refine RJ_op rfl (OJ_P (P_move rfl) rfl ?_)
  obtain ⟨hg1, h⟩ := grd_de h
  refine RJ_op rfl (O_call (c_Tracked rinitial hg1) rfl Try.call78 (Dels.cons del3 Dels.nil) rfl (fun X3 _ => ?_))
  refine RJ_op rfl (OJ_P (P_assign rfl) rfl ?_)
  refine RJ_nil ?_
  refine QJ_then ?_
  refine CJ_seq ?_
  refine CJ_region ?_
  refine RJ_op rfl (OJ_P (P_move rfl) rfl ?_)
  obtain ⟨r5, hr6, h⟩ := bind_e h
  refine RJ_op rfl (O_callV rfl rfl (L_volumegrouplaw17_StripeSound_1 hr6) Try.call44 (Dels.cons del3 (Dels.cons del2 (Dels.cons del2 Dels.nil))) rfl (fun X7 _ => ?_))
  refine RJ_op rfl (OJ_P (P_move rfl) rfl ?_)
  refine RJ_op rfl (OJ_P (P_extract rfl rfl) rfl ?_)
  refine RJ_op rfl (OJ_P (P_extract rfl rfl) rfl ?_)
  refine RJ_op rfl (OJ_P (P_assign rfl) rfl ?_)
  refine RJ_op rfl (OJ_P (P_assign rfl) rfl ?_)
  refine RJ_nil ?_
  refine QJ_then ?_
  refine CJ_seq ?_
  refine CJ_seq ?_
  refine CJ_region ?_
  refine RJ_op rfl (OJ_P (P_move rfl) rfl ?_)
  refine RJ_op rfl (OJ_P (P_not rfl) rfl ?_)
  refine RJ_op rfl (OJ_P (P_move rfl) rfl ?_)
  refine RJ_mbF rfl rfl rfl (fun hG9 => have hP10 : ¬ (¬ r5.2 = true) := nP ((bT_not Iff.rfl)) hG9; VJ_P (P_move rfl)) ?_
  refine RJ_splitP 25 rfl (bT_not Iff.rfl) (fun hg2B hg2 => ?_) (fun hg2B hg2 => ?_)
  ·
    replace h := ite_t hg2 h
    refine RJ_gn (GY_no rfl rfl rfl hg2B) rfl rfl ?_
    refine RJ_op rfl (OJ_P (P_pickT rfl hg2B rfl) rfl ?_)
    refine RJ_op rfl (OJ_P (P_move rfl) rfl ?_)
    refine RJ_gn (GY_no rfl rfl rfl rfl) rfl rfl ?_
    refine RJ_gn (GY_no rfl rfl rfl rfl) rfl rfl ?_
    refine RJ_gn (GY_no rfl rfl rfl rfl) rfl rfl ?_
    refine RJ_gn (GY_no rfl rfl rfl rfl) rfl rfl ?_
    refine RJ_gn (GY_no rfl rfl rfl rfl) rfl rfl ?_
    refine RJ_op rfl (OJ_P (P_pickT rfl rfl rfl) rfl ?_)
    refine RJ_nil ?_
    refine QJ_then ?_
    refine CJ_condT rfl rfl ?_
    refine CJ_seq ?_
    refine CJ_region ?_
    refine RJ_op rfl (OJ_P (P_assign rfl) rfl ?_)
    refine RJ_nil ?_
    refine QJ_ent (Ent.take del0 (Ent.take del0 (Ent.take del0 (Ent.take del2 (Ent.take del2 (Ent.drop (Ent.drop Ent.refl))))))) ?_
    refine QJ_then ?_
    refine CJ_ret ?_
    refine QJ_then_ret ?_
    have hE := Option.some.inj h
    subst hE
    refine QJ_end (res1 Try.results32 rfl) ?_
    refine CSpec.close () ?_ ?_ (Ent.take del1 Ent.refl)
    · rfl
    · trivial
  ·
    replace h := ite_f hg2 h
    rcases opt_e h with ⟨ht13, h⟩ | ⟨o14, ht13, h⟩
    ·
      rw [ht13]
      refine RJ_ent (Ent.take del0 (Ent.take del0 (Ent.take del0 (Ent.take del1 (Ent.take del1 (Ent.take del1 (Ent.drop Ent.refl))))))) ?_
      refine RJ_gy (GY_yes rfl rfl rfl hg2B) (OJ_P (P_eqlIN (mbx (not_f hg2B) rfl) Try.underlying31) rfl ?_)
      refine RJ_op rfl (OJ_P (P_pickF rfl hg2B rfl) rfl ?_)
      refine RJ_op rfl (OJ_P (P_move rfl) rfl ?_)
      refine RJ_gn (GY_no rfl rfl rfl rfl) rfl rfl ?_
      refine RJ_gn (GY_no rfl rfl rfl rfl) rfl rfl ?_
      refine RJ_gn (GY_no rfl rfl rfl rfl) rfl rfl ?_
      refine RJ_gn (GY_no rfl rfl rfl rfl) rfl rfl ?_
      refine RJ_gn (GY_no rfl rfl rfl rfl) rfl rfl ?_
      refine RJ_op rfl (OJ_P (P_pickT rfl rfl rfl) rfl ?_)
      refine RJ_nil ?_
      refine QJ_then ?_
      refine CJ_condT rfl rfl ?_
      refine CJ_seq ?_
      refine CJ_region ?_
      refine RJ_op rfl (OJ_P (P_assign rfl) rfl ?_)
      refine RJ_nil ?_
      refine QJ_then ?_
      refine CJ_ret ?_
      refine QJ_then_ret ?_
      have hE := Option.some.inj h
      subst hE
      refine QJ_end (res1 Try.results32 rfl) ?_
      refine CSpec.close () ?_ ?_ (Ent.take del1 (Ent.take del0 (Ent.take del0 (Ent.take del1 (Ent.take del1 (Ent.drop Ent.refl))))))
      · rfl
      · trivial
    ·
      rw [ht13]
      refine RJ_ent (Ent.takeC (A' := DevP ba o14 X7) del3 rfl Ent.refl) ?_
      refine RJ_gy (GY_yes rfl rfl rfl hg2B) (OJ_P (P_eqlIfN (mbx (not_f hg2B) rfl) rfl Try.underlying31) rfl ?_)
      refine RJ_op rfl (OJ_P (P_pickF rfl hg2B rfl) rfl ?_)
      refine RJ_op rfl (OJ_P (P_move rfl) rfl ?_)
      refine RJ_gy (GY_yes rfl rfl rfl rfl) (OJ_P (P_move rfl) rfl ?_)
      refine RJ_pure (fun h hh => DevP_dep h (stars_perm (del0 (A := DevP ba o14 X7)).out h hh)) (fun hdp15 => ?_)
      obtain ⟨r16, hr17, h⟩ := bind_e h
      refine RJ_gy (GY_yes rfl rfl rfl rfl) (O_callI rfl (dev_Size hr17 hdp15) rfl (Dels.cons del0 (Dels.cons del1 Dels.nil)) rfl (fun _ _ => ?_))
      refine RJ_gy (GY_yes rfl rfl rfl rfl) (OJ_P (P_move rfl) rfl ?_)
      refine RJ_gy (GY_yes rfl rfl rfl rfl) (OJ_V (V_len rfl foc5 rinitial Try.runUnderlying25) rfl ?_)
      refine RJ_gy (GY_yes rfl rfl rfl rfl) (OJ_P (P_neq (a := r16) (b := ((initial.length : Nat) : Int)) rfl rfl) rfl ?_)
      refine RJ_op rfl (OJ_P (P_pickF rfl rfl rfl) rfl ?_)
      refine RJ_nil ?_
      refine QJ_then ?_
      refine CJ_condP rfl bT_dec (fun hg3 => ?_) (fun hg3 => ?_)
      ·
        replace h := ite_t hg3 h
        refine CJ_seq ?_
        refine CJ_region ?_
        refine RJ_op rfl (OJ_P (P_assign rfl) rfl ?_)
        refine RJ_nil ?_
        refine QJ_ent (Ent.take del1 (Ent.take del1 (Ent.take del1 (Ent.take del2 (Ent.take del2 (Ent.drop (Ent.drop Ent.refl))))))) ?_
        refine QJ_then ?_
        refine CJ_ret ?_
        refine QJ_then_ret ?_
        have hE := Option.some.inj h
        subst hE
        refine QJ_end (res1 Try.results32 rfl) ?_
        refine CSpec.close () ?_ ?_ Ent.refl
        · rfl
        · trivial
      ·
        replace h := ite_f hg3 h
        refine CJ_skip ?_
        refine QJ_then ?_
        refine CJ_seq ?_
        refine CJ_seq ?_
        refine CJ_region ?_
        refine RJ_op rfl (OJ_P (P_move rfl) rfl ?_)
        refine RJ_op rfl (OJ_V (V_len rfl foc5 rinitial Try.runUnderlying25) rfl ?_)
        refine RJ_op rfl (OJ_P (P_eql (a := ((initial.length : Nat) : Int)) (b := (0 : Int)) rfl rfl) rfl ?_)
        refine RJ_nil ?_
        refine QJ_then ?_
        refine CJ_condP rfl bT_dec (fun hg4 => ?_) (fun hg4 => ?_)
        ·
          replace h := ite_t hg4 h
          refine CJ_seq ?_
          refine CJ_region ?_
          refine RJ_op rfl (OJ_P (P_assign rfl) rfl ?_)
          refine RJ_nil ?_
          refine QJ_ent (Ent.take del1 (Ent.take del1 (Ent.take del1 (Ent.take del2 (Ent.take del2 (Ent.drop (Ent.drop Ent.refl))))))) ?_
          refine QJ_then ?_
          refine CJ_ret ?_
          refine QJ_then_ret ?_
          have hE := Option.some.inj h
          subst hE
          refine QJ_end (res1 Try.results32 rfl) ?_
          refine CSpec.close () ?_ ?_ Ent.refl
          · rfl
          · trivial
        ·
          replace h := ite_f hg4 h
          refine CJ_skip ?_
          refine QJ_then ?_
          refine CJ_seq ?_
          refine CJ_seq ?_
          refine CJ_region ?_
          refine RJ_op rfl (OJ_P (P_assign rfl) rfl ?_)
          refine RJ_nil ?_
          refine QJ_then ?_
          refine CJ_ent (Ent.trans (Ent.take del0 Ent.refl) (fun h hh => stars_dup Dup_DevP hh)) ?_
          refine CJ_ent (Ent.takeC (A' := optP (DevP ba · X7) (some o14)) del0 rfl Ent.refl) ?_
          obtain ⟨y21, hl19, hK20⟩ := seq_e h
          refine CJ_cutT (X := ArrS × (List Sec)) [8, 10, 11, 12, 13, 14, 15, 39, 40, 41, 42, 43, 44, 45, 46, 47, 48, 49, 50, 51, 52, 53, 54, 55, 56, 57, 58, 59, 60, 61, 62, 63, 64, 65, 66, 67, 68, 69, 70, 71, 72, 73, 74, 75, 76, 77, 78, 79, 80, 81, 82, 83, 84, 85, 86, 87, 88, 89, 90, 91, 92, 93, 94, 95, 96, 97, 98, 99, 100, 101, 102, 103, 104, 105, 106, 107, 108, 109, 110, 111, 112, 113, 114, 115, 116, 117, 118, 119, 120, 121, 122, 123, 124, 125, 126, 127, 128, 129, 130, 131, 132, 133, 134, 135, 136, 137] (fun a24 => ([] : Slots)) (fun a24 R => Arr ba a24.1 :: Trk X3 a24.2 :: R) (fun a24 => y21 = .inl a24) (Dels.cons del2 (Dels.cons del4 (Dels.cons del0 (Dels.cons del0 Dels.nil)))) ?_ ?_
          ·
            refine CJ_block ?_
            refine CJ_loopR (X := Nat × ArrS × (List Sec) × (Option Dvc) × Nat × IfH) [8, 10, 11, 12, 13, 14, 15, 39, 40, 41, 42, 43, 44, 45, 46, 47, 48, 49, 50, 51, 52, 53, 54, 55, 56, 57, 58, 59, 60, 61, 62, 63, 64, 65, 66, 67, 68, 69, 70, 71, 72, 73, 74, 75, 76, 77, 78, 79, 80, 81, 82, 83, 84, 85, 86, 87, 88, 89, 90, 91, 92, 93, 94, 95, 96, 97, 98, 99, 100, 101, 102, 103, 104, 105, 106, 107, 108, 109, 110, 111, 112, 113, 114, 115, 116, 117, 118, 119, 120, 121, 122, 123, 124, 125, 126, 127, 128, 129, 130, 131, 132, 133, 134, 135, 136, 137] (fun ⟨n, x25, x26, x27, x29, dv28⟩ => ([(10, oif x27 dv28), (12, .int .i64 (((x29 : Nat) : Int)))] : Slots)) (fun ⟨n, x25, x26, x27, x29, dv28⟩ R => Arr ba x25 :: Trk X3 x26 :: optP (DevP ba · dv28) x27 :: R) (fun ⟨n, x25, x26, x27, x29, dv28⟩ => volumegroupmake_Sound__volumegrouplaw17_StripeSound_1_l1 open_1_c1 initial l n x25 x26 x27 x29 = some y21) (fun ⟨n, x25, x26, x27, x29, dv28⟩ => n) ⟨FUEL, a, (trkT initial), (some o14), 0, X7⟩ ?_ ?_ (Ent.take del2 (Ent.take del4 (Ent.take del0 (Ent.take del1 (Ent.take del1 (Ent.take del1 (Ent.take del1 (Ent.drop Ent.refl)))))))) ?_
            · exact hl19
            · exact ⟨rfl, rfl, True.intro⟩
            ·
              rintro ⟨n, x25, x26, x27, x29, dv28⟩ h
              cases n with
              | zero => exact none_e h
              | succ n => ?_
              replace h : volumegroupmake_Sound__volumegrouplaw17_StripeSound_1_l1_b open_1_c1 initial l (volumegroupmake_Sound__volumegrouplaw17_StripeSound_1_l1 open_1_c1 initial l n) x25 x26 x27 x29 = some y21 := h
              unfold volumegroupmake_Sound__volumegrouplaw17_StripeSound_1_l1_b at h
              show CJ _ _ _ _ _ (([(10, oif x27 dv28), (12, .int .i64 (((x29 : Nat) : Int)))] : Slots) ++ forget _ _) (Arr ba x25 :: Trk X3 x26 :: optP (DevP ba · dv28) x27 :: _)
              refine CJ_seq ?_
              refine CJ_seq ?_
              refine CJ_region ?_
              refine RJ_op rfl (OJ_P (P_move rfl) rfl ?_)
              refine RJ_op rfl (OJ_P (P_move rfl) rfl ?_)
              refine RJ_op rfl (OJ_V (V_len rfl foc6 rl Try.runUnderlying59) rfl ?_)
              refine RJ_op rfl (OJ_P (P_lss (a := ((x29 : Nat) : Int)) (b := ((l.length : Nat) : Int)) rfl rfl) rfl ?_)
              refine RJ_nil ?_
              refine QJ_then ?_
              refine CJ_condP rfl bT_dec (fun hg5 => ?_) (fun hg5 => ?_)
              ·
                replace h := ite_t hg5 h
                refine CJ_skip ?_
                refine QJ_then ?_
                refine CJ_seq ?_
                refine CJ_block ?_
                refine CJ_seq ?_
                refine CJ_region ?_
                refine RJ_op rfl (OJ_P (P_move rfl) rfl ?_)
                refine RJ_op rfl (OJ_P (P_move rfl) rfl ?_)
                refine RJ_op rfl (OJ_V (V_index (i := x29) rfl rfl rfl (by omega) foc6 rl Try.runUnderlying59 Try.sizeOf142) rfl ?_)
                refine RJ_op rfl (OJ_P (P_fieldE rfl ⟨_, _, _, Try.runUnderlying142, rfl, rfl, Try.sizeOf3, rfl⟩) rfl ?_)
                refine RJ_op rfl (OJ_V (V_loadE rfl rfl (by omega) foc6 rl rfl rfl Try.isAgg3) rfl ?_)
                refine RJ_op rfl (OJ_P (P_move rfl) rfl ?_)
                refine RJ_op rfl (OJ_V (V_len rfl foc5 rinitial Try.runUnderlying25) rfl ?_)
                refine RJ_op rfl (OJ_P (P_remT (a := ((l.getD x29 (⟨0, 0, 0, 0⟩ : volumegroupmake_Step))).At) (b := ((initial.length : Nat) : Int)) rfl rfl (by omega)) rfl ?_)
                obtain ⟨w30, hw30, h⟩ := lt_e h
                rw [← hw30]
                refine RJ_op rfl (OJ_P (P_move rfl) rfl ?_)
                refine RJ_op rfl (OJ_V (V_len rfl foc5 rinitial Try.runUnderlying25) rfl ?_)
                obtain ⟨hg6, h⟩ := grd_Ie h
                refine RJ_op rfl (OJ_P (P_add (a := w30) (b := ((initial.length : Nat) : Int)) rfl rfl hg6) rfl ?_)
                refine RJ_op rfl (OJ_P (P_move rfl) rfl ?_)
                refine RJ_op rfl (OJ_V (V_len rfl foc5 rinitial Try.runUnderlying25) rfl ?_)
                refine RJ_op rfl (OJ_P (P_remT (a := (w30 + ((initial.length : Nat) : Int))) (b := ((initial.length : Nat) : Int)) rfl rfl (by omega)) rfl ?_)
                refine RJ_op rfl (OJ_P (P_assign rfl) rfl ?_)
                refine RJ_nil ?_
                refine QJ_then ?_
                refine CJ_seq ?_
                refine CJ_region ?_
                refine RJ_op rfl (OJ_P (P_assign rfl) rfl ?_)
                refine RJ_nil ?_
                refine QJ_then ?_
                refine CJ_seq ?_
                refine CJ_seq ?_
                refine CJ_region ?_
                refine RJ_op rfl (OJ_P (P_move rfl) rfl ?_)
                refine RJ_op rfl (OJ_P (P_move rfl) rfl ?_)
                refine RJ_op rfl (OJ_V (V_index (i := x29) rfl rfl rfl (by omega) foc6 rl Try.runUnderlying59 Try.sizeOf142) rfl ?_)
                refine RJ_op rfl (OJ_P (P_fieldE rfl ⟨_, _, _, Try.runUnderlying142, rfl, rfl, Try.sizeOf3, rfl⟩) rfl ?_)
                refine RJ_op rfl (OJ_V (V_loadE rfl rfl (by omega) foc6 rl rfl rfl Try.isAgg3) rfl ?_)
                refine RJ_nil ?_
                refine QJ_then ?_
                refine CJ_block ?_
                refine CJ_seq ?_
                refine CJ_region ?_
                refine RJ_op rfl (OJ_P (P_eql (a := ((l.getD x29 (⟨0, 0, 0, 0⟩ : volumegroupmake_Step))).Kind) (b := (0 : Int)) rfl rfl) rfl ?_)
                refine RJ_op rfl (OJ_P (P_assign rfl) rfl ?_)
                refine RJ_nil ?_
                refine QJ_then ?_
                refine CJ_condP rfl bT_dec (fun hg7 => ?_) (fun hg7 => ?_)
                ·
                  replace h := ite_t hg7 h
                  refine CJ_seq ?_
                  refine AJ_startH 1024 (by kernel_rfl) rfl ?_
                  refine AJ_takeP 0 1 rfl (by kernel_rfl) rfl (GY_none rfl) (P_move rfl) rfl (fun _ _ _ _ h => h) ?_
                  refine AJ_takeP 1 3 rfl (by kernel_rfl) rfl (GY_none rfl) (P_move rfl) rfl (fun _ _ _ _ h => h) ?_
                  refine AJ_takeP 2 7 rfl (by kernel_rfl) rfl (GY_none rfl) (P_move rfl) rfl (fun _ _ _ _ h => h) ?_
                  refine AJ_takeP 3 15 rfl (by kernel_rfl) rfl (GY_none rfl) (P_move rfl) rfl (fun _ _ _ _ h => h) ?_
                  refine AJ_takeV 4 31 rfl (by kernel_rfl) rfl (by kernel_rfl) (by kernel_rfl) (GY_none rfl) Ent.refl (V_index (i := x29) rfl rfl rfl (by omega) foc6 rl Try.runUnderlying59 Try.sizeOf142) rfl (fun _ _ _ _ h => h) ?_
                  refine AJ_takeP 5 63 rfl (by kernel_rfl) rfl (GY_none rfl) (P_fieldE rfl ⟨_, _, _, Try.runUnderlying142, rfl, rfl, Try.sizeOf22, rfl⟩) rfl (fun _ _ _ _ h => h) ?_
                  refine AJ_takeV 6 127 rfl (by kernel_rfl) rfl (by kernel_rfl) (by kernel_rfl) (GY_none rfl) Ent.refl (V_loadE rfl rfl (by omega) foc6 rl rfl rfl Try.isAgg22) rfl (fun _ _ _ _ h => h) ?_
                  refine AJ_takeP 7 255 rfl (by kernel_rfl) rfl (GY_none rfl) (P_makeFunc rfl rfl) rfl (fun _ _ _ _ h => h) ?_
                  rcases opt_e h with ⟨ht31, h⟩ | ⟨o32, ht31, h⟩
                  ·
                    rw [ht31]
                    exact none_e h
                  ·
                    rw [ht31]
                    refine AJ_ent (Ent.takeC (A' := DevP ba o32 dv28) del2 rfl Ent.refl) ?_
                    refine AJ_pure (fun h hh => DevP_nil h (stars_perm (del0 (A := DevP ba o32 dv28)).out h hh)) (fun hnil33 => ?_)
                    refine AJ_takeP 8 511 rfl (by kernel_rfl) rfl (GY_none rfl) (P_nilCheckM hnil33 rfl) rfl (fun _ _ _ _ h => h) ?_
                    refine AJ_takeP 9 1023 rfl (by kernel_rfl) rfl (GY_none rfl) (P_move rfl) rfl (fun _ _ _ _ h => h) ?_
                    refine AJ_pure (fun h hh => DevP_dep h (stars_perm (del0 (A := DevP ba o32 dv28)).out h hh)) (fun hdp34 => ?_)
                    obtain ⟨r35, hr36, h⟩ := bind_e h
                    refine AJ_op 10 2047 rfl (by kernel_rfl) rfl (GY_none rfl) (O_callI rfl (dev_Write hr36 hdp34) rfl (Dels.cons del0 (Dels.cons del0 Dels.nil)) rfl (fun _ _ => ?_))
                    refine ⟨fun h => absurd h (by decide), ?_⟩
                    refine AJ_takeP 11 4095 rfl (by kernel_rfl) rfl (GY_none rfl) (P_assign rfl) rfl (fun _ _ _ _ h => h) ?_
                    refine AJ_done (by kernel_rfl) ?_
                    refine QJ_then ?_
                    refine CJ_region ?_
                    refine RJ_op rfl (OJ_P (P_move rfl) rfl ?_)
                    refine RJ_op rfl (OJ_P (P_move rfl) rfl ?_)
                    refine RJ_op rfl (OJ_P (P_move rfl) rfl ?_)
                    refine RJ_op rfl (OJ_P (P_move rfl) rfl ?_)
                    refine RJ_op rfl (OJ_V (V_index (i := x29) rfl rfl rfl (by omega) foc6 rl Try.runUnderlying59 Try.sizeOf142) rfl ?_)
                    refine RJ_op rfl (OJ_P (P_fieldE rfl ⟨_, _, _, Try.runUnderlying142, rfl, rfl, Try.sizeOf22, rfl⟩) rfl ?_)
                    refine RJ_op rfl (OJ_V (V_loadE rfl rfl (by omega) foc6 rl rfl rfl Try.isAgg22) rfl ?_)
                    refine RJ_op rfl (OJ_P (P_move rfl) rfl ?_)
                    refine RJ_op rfl (OJ_P (P_eql (a := r35.1) (b := (0 : Int)) rfl rfl) rfl ?_)
                    obtain ⟨hg8, h⟩ := grd_de h
                    refine RJ_op rfl (O_call (c_Wrote (smallT_at hg8) (v := ((l.getD x29 (⟨0, 0, 0, 0⟩ : volumegroupmake_Step))).Value)) rfl Try.call79 (Dels.cons del2 Dels.nil) rfl (fun _ _ => ?_))
                    refine RJ_nil ?_
                    refine QJ_block_normal ?_
                    refine QJ_then ?_
                    refine CJ_seq ?_
                    refine CJ_region ?_
                    refine RJ_op rfl (OJ_P (P_move rfl) rfl ?_)
                    refine RJ_op rfl (OJ_P (P_eql (a := r35.1) (b := (5 : Int)) rfl rfl) rfl ?_)
                    refine RJ_nil ?_
                    refine QJ_then ?_
                    refine CJ_condP rfl bT_dec (fun hg9 => ?_) (fun hg9 => ?_)
                    ·
                      replace h := ite_t hg9 h
                      refine CJ_seq ?_
                      refine CJ_region ?_
                      refine RJ_op rfl (OJ_P (P_move rfl) rfl ?_)
                      refine RJ_op rfl (OJ_P (P_move rfl) rfl ?_)
                      refine RJ_op rfl (OJ_P (P_move rfl) rfl ?_)
                      refine RJ_op rfl (OJ_P (P_move rfl) rfl ?_)
                      refine RJ_op rfl (OJ_P (P_move rfl) rfl ?_)
                      refine RJ_op rfl (OJ_V (V_index (i := x29) rfl rfl rfl (by omega) foc6 rl Try.runUnderlying59 Try.sizeOf142) rfl ?_)
                      refine RJ_op rfl (OJ_P (P_fieldE rfl ⟨_, _, _, Try.runUnderlying142, rfl, rfl, Try.sizeOf22, rfl⟩) rfl ?_)
                      refine RJ_op rfl (OJ_V (V_loadE rfl rfl (by omega) foc6 rl rfl rfl Try.isAgg22) rfl ?_)
                      obtain ⟨r37, hr38, h⟩ := bind_e h
                      refine RJ_op rfl (O_call (L_volumegroupmake_Track_Again__volumegrouplaw17_StripeSound_1 hr38) rfl Try.call82 (Dels.cons del0 (Dels.cons del1 (Dels.cons del1 (Dels.cons del1 Dels.nil)))) rfl (fun X39 _ => ?_))
                      refine RJ_op rfl (OJ_P (P_move rfl) rfl ?_)
                      refine RJ_op rfl (OJ_P (P_extract rfl rfl) rfl ?_)
                      refine RJ_op rfl (OJ_P (P_extract rfl rfl) rfl ?_)
                      refine RJ_op rfl (OJ_P (P_assign rfl) rfl ?_)
                      refine RJ_op rfl (OJ_P (P_assign rfl) rfl ?_)
                      refine RJ_nil ?_
                      refine QJ_then ?_
                      refine CJ_seq ?_
                      refine CJ_region ?_
                      refine RJ_op rfl (OJ_P (P_move rfl) rfl ?_)
                      refine RJ_op rfl (OJ_P (P_not rfl) rfl ?_)
                      refine RJ_nil ?_
                      refine QJ_then ?_
                      refine CJ_condP rfl (bT_not Iff.rfl) (fun hg10 => ?_) (fun hg10 => ?_)
                      ·
                        replace h := ite_t hg10 h
                        refine CJ_seq ?_
                        refine CJ_region ?_
                        refine RJ_op rfl (OJ_P (P_assign rfl) rfl ?_)
                        refine RJ_nil ?_
                        refine QJ_ent (Ent.take del0 (Ent.take del0 (Ent.take del0 (Ent.take del0 (Ent.take del1 (Ent.take del1 (Ent.take del1 (Ent.drop Ent.refl)))))))) ?_
                        refine QJ_then ?_
                        refine CJ_ret ?_
                        refine QJ_block_ret ?_
                        refine QJ_then_ret ?_
                        refine QJ_round_ret ?_
                        refine QJ_block_ret ?_
                        refine QJ_then_ret ?_
                        have hE := Option.some.inj h
                        replace hE := seq_inr hK20 hE.symm
                        subst hE
                        refine QJ_end (res1 Try.results32 rfl) ?_
                        refine CSpec.close () ?_ ?_ (Ent.take del1 (Ent.take del1 (Ent.take del1 (Ent.take del2 (Ent.take del2 (Ent.drop (Ent.drop Ent.refl)))))))
                        · rfl
                        · trivial
                      ·
                        replace h := ite_f hg10 h
                        refine CJ_skip ?_
                        refine QJ_block_normal ?_
                        refine QJ_then ?_
                        refine CJ_region ?_
                        refine RJ_op rfl (OJ_P (P_move rfl) rfl ?_)
                        refine RJ_op rfl (OJ_P (PJ_eq (P_add (a := ((x29 : Nat) : Int)) (b := (1 : Int)) rfl rfl (by omega)) rfl) rfl ?_)
                        refine RJ_op rfl (OJ_P (P_assign rfl) rfl ?_)
                        refine RJ_nil ?_
                        refine QJ_nextR ⟨n, r37.2.2.2, r37.2.2.1, r37.1, (x29 + 1), X39⟩ (Nat.lt_succ_self _) ?_ (by repeat (first | exact Kp.base | exact Kp.self | refine Kp.cons rfl ?_ | refine Kp.forget rfl ?_)) ?_ (Ent.take del1 (Ent.take del0 (Ent.take del2 (Ent.take del0 (Ent.take del0 (Ent.take del1 (Ent.take del1 (Ent.drop Ent.refl))))))))
                        · exact h
                        · exact ⟨rfl, rfl, True.intro⟩
                    ·
                      replace h := ite_f hg9 h
                      refine CJ_seq ?_
                      refine CJ_region ?_
                      refine RJ_op rfl (OJ_P (P_move rfl) rfl ?_)
                      refine RJ_op rfl (OJ_P (P_neq (a := r35.1) (b := (0 : Int)) rfl rfl) rfl ?_)
                      refine RJ_nil ?_
                      refine QJ_then ?_
                      refine CJ_condP rfl bT_dec (fun hg11 => ?_) (fun hg11 => ?_)
                      ·
                        replace h := ite_t hg11 h
                        refine CJ_seq ?_
                        refine CJ_region ?_
                        refine RJ_op rfl (OJ_P (P_assign rfl) rfl ?_)
                        refine RJ_nil ?_
                        refine QJ_then ?_
                        refine CJ_ret ?_
                        refine QJ_block_ret ?_
                        refine QJ_then_ret ?_
                        refine QJ_round_ret ?_
                        refine QJ_block_ret ?_
                        refine QJ_then_ret ?_
                        have hE := Option.some.inj h
                        replace hE := seq_inr hK20 hE.symm
                        subst hE
                        refine QJ_end (res1 Try.results32 rfl) ?_
                        refine CSpec.close () ?_ ?_ (Ent.take del2 (Ent.take del2 (Ent.take del2 (Ent.take del2 (Ent.take del2 (Ent.drop (Ent.drop Ent.refl)))))))
                        · rfl
                        · trivial
                      ·
                        replace h := ite_f hg11 h
                        refine CJ_skip ?_
                        refine QJ_block_normal ?_
                        refine QJ_then ?_
                        refine CJ_region ?_
                        refine RJ_op rfl (OJ_P (P_move rfl) rfl ?_)
                        refine RJ_op rfl (OJ_P (PJ_eq (P_add (a := ((x29 : Nat) : Int)) (b := (1 : Int)) rfl rfl (by omega)) rfl) rfl ?_)
                        refine RJ_op rfl (OJ_P (P_assign rfl) rfl ?_)
                        refine RJ_nil ?_
                        refine QJ_ent (Ent.trans (Ent.take del1 Ent.refl) (fun h hh => stars_dup Dup_DevP hh)) ?_
                        refine QJ_ent (Ent.takeC (A' := optP (DevP ba · dv28) (some o32)) del0 rfl Ent.refl) ?_
                        refine QJ_nextR ⟨n, r35.2, (wroteT x26 ((((w30 + ((initial.length : Nat) : Int))).tmod (((initial.length : Nat) : Int)))) (((l.getD x29 (⟨0, 0, 0, 0⟩ : volumegroupmake_Step))).Value) ((decide (r35.1 = (0 : Int))))), (some o32), (x29 + 1), dv28⟩ (Nat.lt_succ_self _) ?_ (by repeat (first | exact Kp.base | exact Kp.self | refine Kp.cons rfl ?_ | refine Kp.forget rfl ?_)) ?_ (Ent.take del3 (Ent.take del2 (Ent.take del0 (Ent.take del1 (Ent.take del1 (Ent.take del1 (Ent.take del1 (Ent.drop Ent.refl))))))))
                        · exact h
                        · exact ⟨rfl, rfl, True.intro⟩
                ·
                  replace h := ite_f hg7 h
                  refine CJ_seq ?_
                  refine CJ_region ?_
                  refine RJ_op rfl (OJ_P (P_eql (a := ((l.getD x29 (⟨0, 0, 0, 0⟩ : volumegroupmake_Step))).Kind) (b := (1 : Int)) rfl rfl) rfl ?_)
                  refine RJ_op rfl (OJ_P (P_assign rfl) rfl ?_)
                  refine RJ_nil ?_
                  refine QJ_then ?_
                  refine CJ_condP rfl bT_dec (fun hg12 => ?_) (fun hg12 => ?_)
                  ·
                    replace h := ite_t hg12 h
                    refine CJ_seq ?_
                    refine CJ_region ?_
                    refine RJ_op rfl (OJ_P (P_assign rfl) rfl ?_)
                    refine RJ_nil ?_
                    refine QJ_then ?_
                    refine CJ_seq ?_
                    refine CJ_region ?_
                    refine RJ_op rfl (OJ_P (P_move rfl) rfl ?_)
                    refine RJ_op rfl (OJ_P (P_move rfl) rfl ?_)
                    rcases opt_e h with ⟨ht42, h⟩ | ⟨o43, ht42, h⟩
                    ·
                      rw [ht42]
                      refine RJ_ent (Ent.take del0 (Ent.take del0 (Ent.take del1 (Ent.take del1 (Ent.take del1 (Ent.take del1 (Ent.drop Ent.refl))))))) ?_
                      exact none_e h
                    ·
                      rw [ht42]
                      refine RJ_ent (Ent.takeC (A' := DevP ba o43 dv28) del2 rfl Ent.refl) ?_
                      refine RJ_pure (fun h hh => DevP_dep h (stars_perm (del0 (A := DevP ba o43 dv28)).out h hh)) (fun hdp44 => ?_)
                      obtain ⟨r45, hr46, h⟩ := bind_e h
                      refine RJ_op rfl (O_callI rfl (dev_Read hr46 hdp44) rfl (Dels.cons del0 (Dels.cons del0 Dels.nil)) rfl (fun _ _ => ?_))
                      refine RJ_op rfl (OJ_P (P_move rfl) rfl ?_)
                      refine RJ_op rfl (OJ_P (P_extract rfl rfl) rfl ?_)
                      refine RJ_op rfl (OJ_P (P_extract rfl rfl) rfl ?_)
                      refine RJ_op rfl (OJ_P (P_assign rfl) rfl ?_)
                      refine RJ_op rfl (OJ_P (P_assign rfl) rfl ?_)
                      refine RJ_nil ?_
                      refine QJ_then ?_
                      refine CJ_seq ?_
                      refine CJ_region ?_
                      refine RJ_op rfl (OJ_P (P_move rfl) rfl ?_)
                      refine RJ_op rfl (OJ_P (P_eql (a := r45.2) (b := (0 : Int)) rfl rfl) rfl ?_)
                      refine RJ_op rfl (OJ_P (P_move rfl) rfl ?_)
                      refine RJ_splitP 97 rfl bT_dec (fun hg13B hg13 => ?_) (fun hg13B hg13 => ?_)
                      ·
                        replace h := ite_t hg13 h
                        refine RJ_gy (GY_yes rfl rfl rfl hg13B) (OJ_P (P_move rfl) rfl ?_)
                        refine RJ_gy (GY_yes rfl rfl rfl hg13B) (OJ_P (P_move rfl) rfl ?_)
                        refine RJ_gy (GY_yes rfl rfl rfl hg13B) (OJ_P (P_move rfl) rfl ?_)
                        obtain ⟨hg14, h⟩ := grd_de h
                        refine RJ_gy (GY_yes rfl rfl rfl hg13B) (O_call (c_Reads (smallT_at hg14) (v := r45.1)) rfl Try.call80 (Dels.cons del2 Dels.nil) rfl (fun _ _ => ?_))
                        refine RJ_gy (GY_yes rfl rfl rfl hg13B) (OJ_P (P_not rfl) rfl ?_)
                        refine RJ_op rfl (OJ_P (P_pickT rfl hg13B rfl) rfl ?_)
                        refine RJ_nil ?_
                        refine QJ_then ?_
                        refine CJ_condP rfl (bT_not Iff.rfl) (fun hg15 => ?_) (fun hg15 => ?_)
                        ·
                          replace h := ite_t hg15 h
                          refine CJ_seq ?_
                          refine CJ_region ?_
                          refine RJ_op rfl (OJ_P (P_assign rfl) rfl ?_)
                          refine RJ_nil ?_
                          refine QJ_then ?_
                          refine CJ_ret ?_
                          refine QJ_block_ret ?_
                          refine QJ_then_ret ?_
                          refine QJ_block_ret ?_
                          refine QJ_then_ret ?_
                          refine QJ_round_ret ?_
                          refine QJ_block_ret ?_
                          refine QJ_then_ret ?_
                          have hE := Option.some.inj h
                          replace hE := seq_inr hK20 hE.symm
                          subst hE
                          refine QJ_end (res1 Try.results32 rfl) ?_
                          refine CSpec.close () ?_ ?_ (Ent.take del2 (Ent.take del2 (Ent.take del2 (Ent.take del2 (Ent.take del2 (Ent.drop (Ent.drop Ent.refl)))))))
                          · rfl
                          · trivial
                        ·
                          replace h := ite_f hg15 h
                          refine CJ_skip ?_
                          refine QJ_block_normal ?_
                          refine QJ_then ?_
                          refine CJ_seq ?_
                          refine CJ_region ?_
                          refine RJ_op rfl (OJ_P (P_move rfl) rfl ?_)
                          refine RJ_op rfl (OJ_P (P_eql (a := r45.2) (b := (5 : Int)) rfl rfl) rfl ?_)
                          refine RJ_nil ?_
                          refine QJ_then ?_
                          refine CJ_condP rfl bT_dec (fun hg16 => ?_) (fun hg16 => ?_)
                          ·
                            replace h := ite_t hg16 h
                            refine CJ_seq ?_
                            refine CJ_region ?_
                            refine RJ_op rfl (OJ_P (P_move rfl) rfl ?_)
                            refine RJ_op rfl (OJ_P (P_move rfl) rfl ?_)
                            refine RJ_op rfl (OJ_P (P_move rfl) rfl ?_)
                            refine RJ_op rfl (OJ_P (P_move rfl) rfl ?_)
                            refine RJ_op rfl (OJ_P (P_move rfl) rfl ?_)
                            refine RJ_op rfl (OJ_V (V_index (i := x29) rfl rfl rfl (by omega) foc6 rl Try.runUnderlying59 Try.sizeOf142) rfl ?_)
                            refine RJ_op rfl (OJ_P (P_fieldE rfl ⟨_, _, _, Try.runUnderlying142, rfl, rfl, Try.sizeOf22, rfl⟩) rfl ?_)
                            refine RJ_op rfl (OJ_V (V_loadE rfl rfl (by omega) foc6 rl rfl rfl Try.isAgg22) rfl ?_)
                            obtain ⟨r47, hr48, h⟩ := bind_e h
                            refine RJ_op rfl (O_call (L_volumegroupmake_Track_Again__volumegrouplaw17_StripeSound_1 hr48) rfl Try.call82 (Dels.cons del0 (Dels.cons del1 (Dels.cons del1 (Dels.cons del1 Dels.nil)))) rfl (fun X49 _ => ?_))
                            refine RJ_op rfl (OJ_P (P_move rfl) rfl ?_)
                            refine RJ_op rfl (OJ_P (P_extract rfl rfl) rfl ?_)
                            refine RJ_op rfl (OJ_P (P_extract rfl rfl) rfl ?_)
                            refine RJ_op rfl (OJ_P (P_assign rfl) rfl ?_)
                            refine RJ_op rfl (OJ_P (P_assign rfl) rfl ?_)
                            refine RJ_nil ?_
                            refine QJ_then ?_
                            refine CJ_seq ?_
                            refine CJ_region ?_
                            refine RJ_op rfl (OJ_P (P_move rfl) rfl ?_)
                            refine RJ_op rfl (OJ_P (P_not rfl) rfl ?_)
                            refine RJ_nil ?_
                            refine QJ_then ?_
                            refine CJ_condP rfl (bT_not Iff.rfl) (fun hg17 => ?_) (fun hg17 => ?_)
                            ·
                              replace h := ite_t hg17 h
                              refine CJ_seq ?_
                              refine CJ_region ?_
                              refine RJ_op rfl (OJ_P (P_assign rfl) rfl ?_)
                              refine RJ_nil ?_
                              refine QJ_ent (Ent.take del0 (Ent.take del0 (Ent.take del0 (Ent.take del0 (Ent.take del1 (Ent.take del1 (Ent.take del1 (Ent.drop Ent.refl)))))))) ?_
                              refine QJ_then ?_
                              refine CJ_ret ?_
                              refine QJ_block_ret ?_
                              refine QJ_then_ret ?_
                              refine QJ_round_ret ?_
                              refine QJ_block_ret ?_
                              refine QJ_then_ret ?_
                              have hE := Option.some.inj h
                              replace hE := seq_inr hK20 hE.symm
                              subst hE
                              refine QJ_end (res1 Try.results32 rfl) ?_
                              refine CSpec.close () ?_ ?_ (Ent.take del1 (Ent.take del1 (Ent.take del1 (Ent.take del2 (Ent.take del2 (Ent.drop (Ent.drop Ent.refl)))))))
                              · rfl
                              · trivial
                            ·
                              replace h := ite_f hg17 h
                              refine CJ_skip ?_
                              refine QJ_block_normal ?_
                              refine QJ_then ?_
                              refine CJ_region ?_
                              refine RJ_op rfl (OJ_P (P_move rfl) rfl ?_)
                              refine RJ_op rfl (OJ_P (PJ_eq (P_add (a := ((x29 : Nat) : Int)) (b := (1 : Int)) rfl rfl (by omega)) rfl) rfl ?_)
                              refine RJ_op rfl (OJ_P (P_assign rfl) rfl ?_)
                              refine RJ_nil ?_
                              refine QJ_nextR ⟨n, r47.2.2.2, r47.2.2.1, r47.1, (x29 + 1), X49⟩ (Nat.lt_succ_self _) ?_ (by repeat (first | exact Kp.base | exact Kp.self | refine Kp.cons rfl ?_ | refine Kp.forget rfl ?_)) ?_ (Ent.take del1 (Ent.take del0 (Ent.take del2 (Ent.take del0 (Ent.take del0 (Ent.take del1 (Ent.take del1 (Ent.drop Ent.refl))))))))
                              · exact h
                              · exact ⟨rfl, rfl, True.intro⟩
                          ·
                            replace h := ite_f hg16 h
                            refine CJ_seq ?_
                            refine CJ_region ?_
                            refine RJ_op rfl (OJ_P (P_move rfl) rfl ?_)
                            refine RJ_op rfl (OJ_P (P_neq (a := r45.2) (b := (0 : Int)) rfl rfl) rfl ?_)
                            refine RJ_nil ?_
                            refine QJ_then ?_
                            refine CJ_condP rfl bT_dec (fun hg18 => ?_) (fun hg18 => ?_)
                            ·
                              replace h := ite_t hg18 h
                              refine CJ_seq ?_
                              refine CJ_region ?_
                              refine RJ_op rfl (OJ_P (P_assign rfl) rfl ?_)
                              refine RJ_nil ?_
                              refine QJ_then ?_
                              refine CJ_ret ?_
                              refine QJ_block_ret ?_
                              refine QJ_then_ret ?_
                              refine QJ_round_ret ?_
                              refine QJ_block_ret ?_
                              refine QJ_then_ret ?_
                              have hE := Option.some.inj h
                              replace hE := seq_inr hK20 hE.symm
                              subst hE
                              refine QJ_end (res1 Try.results32 rfl) ?_
                              refine CSpec.close () ?_ ?_ (Ent.take del2 (Ent.take del2 (Ent.take del2 (Ent.take del2 (Ent.take del2 (Ent.drop (Ent.drop Ent.refl)))))))
                              · rfl
                              · trivial
                            ·
                              replace h := ite_f hg18 h
                              refine CJ_skip ?_
                              refine QJ_block_normal ?_
                              refine QJ_then ?_
                              refine CJ_region ?_
                              refine RJ_op rfl (OJ_P (P_move rfl) rfl ?_)
                              refine RJ_op rfl (OJ_P (PJ_eq (P_add (a := ((x29 : Nat) : Int)) (b := (1 : Int)) rfl rfl (by omega)) rfl) rfl ?_)
                              refine RJ_op rfl (OJ_P (P_assign rfl) rfl ?_)
                              refine RJ_nil ?_
                              refine QJ_ent (Ent.trans (Ent.take del1 Ent.refl) (fun h hh => stars_dup Dup_DevP hh)) ?_
                              refine QJ_ent (Ent.takeC (A' := optP (DevP ba · dv28) (some o43)) del0 rfl Ent.refl) ?_
                              refine QJ_nextR ⟨n, x25, (rdTS x26 ((((w30 + ((initial.length : Nat) : Int))).tmod (((initial.length : Nat) : Int)))) r45.1 false), (some o43), (x29 + 1), dv28⟩ (Nat.lt_succ_self _) ?_ (by repeat (first | exact Kp.base | exact Kp.self | refine Kp.cons rfl ?_ | refine Kp.forget rfl ?_)) ?_ (Ent.take del3 (Ent.take del2 (Ent.take del0 (Ent.take del1 (Ent.take del1 (Ent.take del1 (Ent.take del1 (Ent.drop Ent.refl))))))))
                              · exact h
                              · exact ⟨rfl, rfl, True.intro⟩
                      ·
                        replace h := ite_f hg13 h
                        refine RJ_gn (GY_no rfl rfl rfl hg13B) rfl rfl ?_
                        refine RJ_gn (GY_no rfl rfl rfl hg13B) rfl rfl ?_
                        refine RJ_gn (GY_no rfl rfl rfl hg13B) rfl rfl ?_
                        refine RJ_gn (GY_no rfl rfl rfl hg13B) rfl rfl ?_
                        refine RJ_gn (GY_no rfl rfl rfl hg13B) rfl rfl ?_
                        refine RJ_op rfl (OJ_P (P_pickF rfl hg13B rfl) rfl ?_)
                        refine RJ_nil ?_
                        refine QJ_then ?_
                        refine CJ_condF rfl rfl ?_
                        refine CJ_skip ?_
                        refine QJ_block_normal ?_
                        refine QJ_then ?_
                        refine CJ_seq ?_
                        refine CJ_region ?_
                        refine RJ_op rfl (OJ_P (P_move rfl) rfl ?_)
                        refine RJ_op rfl (OJ_P (P_eql (a := r45.2) (b := (5 : Int)) rfl rfl) rfl ?_)
                        refine RJ_nil ?_
                        refine QJ_then ?_
                        refine CJ_condP rfl bT_dec (fun hg19 => ?_) (fun hg19 => ?_)
                        ·
                          replace h := ite_t hg19 h
                          refine CJ_seq ?_
                          refine CJ_region ?_
                          refine RJ_op rfl (OJ_P (P_move rfl) rfl ?_)
                          refine RJ_op rfl (OJ_P (P_move rfl) rfl ?_)
                          refine RJ_op rfl (OJ_P (P_move rfl) rfl ?_)
                          refine RJ_op rfl (OJ_P (P_move rfl) rfl ?_)
                          refine RJ_op rfl (OJ_P (P_move rfl) rfl ?_)
                          refine RJ_op rfl (OJ_V (V_index (i := x29) rfl rfl rfl (by omega) foc6 rl Try.runUnderlying59 Try.sizeOf142) rfl ?_)
                          refine RJ_op rfl (OJ_P (P_fieldE rfl ⟨_, _, _, Try.runUnderlying142, rfl, rfl, Try.sizeOf22, rfl⟩) rfl ?_)
                          refine RJ_op rfl (OJ_V (V_loadE rfl rfl (by omega) foc6 rl rfl rfl Try.isAgg22) rfl ?_)
                          obtain ⟨r52, hr53, h⟩ := bind_e h
                          refine RJ_op rfl (O_call (L_volumegroupmake_Track_Again__volumegrouplaw17_StripeSound_1 hr53) rfl Try.call82 (Dels.cons del2 (Dels.cons del1 (Dels.cons del1 (Dels.cons del1 Dels.nil)))) rfl (fun X54 _ => ?_))
                          refine RJ_op rfl (OJ_P (P_move rfl) rfl ?_)
                          refine RJ_op rfl (OJ_P (P_extract rfl rfl) rfl ?_)
                          refine RJ_op rfl (OJ_P (P_extract rfl rfl) rfl ?_)
                          refine RJ_op rfl (OJ_P (P_assign rfl) rfl ?_)
                          refine RJ_op rfl (OJ_P (P_assign rfl) rfl ?_)
                          refine RJ_nil ?_
                          refine QJ_then ?_
                          refine CJ_seq ?_
                          refine CJ_region ?_
                          refine RJ_op rfl (OJ_P (P_move rfl) rfl ?_)
                          refine RJ_op rfl (OJ_P (P_not rfl) rfl ?_)
                          refine RJ_nil ?_
                          refine QJ_then ?_
                          refine CJ_condP rfl (bT_not Iff.rfl) (fun hg20 => ?_) (fun hg20 => ?_)
                          ·
                            replace h := ite_t hg20 h
                            refine CJ_seq ?_
                            refine CJ_region ?_
                            refine RJ_op rfl (OJ_P (P_assign rfl) rfl ?_)
                            refine RJ_nil ?_
                            refine QJ_ent (Ent.take del0 (Ent.take del0 (Ent.take del0 (Ent.take del0 (Ent.take del1 (Ent.take del1 (Ent.take del1 (Ent.drop Ent.refl)))))))) ?_
                            refine QJ_then ?_
                            refine CJ_ret ?_
                            refine QJ_block_ret ?_
                            refine QJ_then_ret ?_
                            refine QJ_round_ret ?_
                            refine QJ_block_ret ?_
                            refine QJ_then_ret ?_
                            have hE := Option.some.inj h
                            replace hE := seq_inr hK20 hE.symm
                            subst hE
                            refine QJ_end (res1 Try.results32 rfl) ?_
                            refine CSpec.close () ?_ ?_ (Ent.take del1 (Ent.take del1 (Ent.take del1 (Ent.take del2 (Ent.take del2 (Ent.drop (Ent.drop Ent.refl)))))))
                            · rfl
                            · trivial
                          ·
                            replace h := ite_f hg20 h
                            refine CJ_skip ?_
                            refine QJ_block_normal ?_
                            refine QJ_then ?_
                            refine CJ_region ?_
                            refine RJ_op rfl (OJ_P (P_move rfl) rfl ?_)
                            refine RJ_op rfl (OJ_P (PJ_eq (P_add (a := ((x29 : Nat) : Int)) (b := (1 : Int)) rfl rfl (by omega)) rfl) rfl ?_)
                            refine RJ_op rfl (OJ_P (P_assign rfl) rfl ?_)
                            refine RJ_nil ?_
                            refine QJ_nextR ⟨n, r52.2.2.2, r52.2.2.1, r52.1, (x29 + 1), X54⟩ (Nat.lt_succ_self _) ?_ (by repeat (first | exact Kp.base | exact Kp.self | refine Kp.cons rfl ?_ | refine Kp.forget rfl ?_)) ?_ (Ent.take del1 (Ent.take del0 (Ent.take del2 (Ent.take del0 (Ent.take del0 (Ent.take del1 (Ent.take del1 (Ent.drop Ent.refl))))))))
                            · exact h
                            · exact ⟨rfl, rfl, True.intro⟩
                        ·
                          replace h := ite_f hg19 h
                          refine CJ_seq ?_
                          refine CJ_region ?_
                          refine RJ_op rfl (OJ_P (P_move rfl) rfl ?_)
                          refine RJ_op rfl (OJ_P (P_neq (a := r45.2) (b := (0 : Int)) rfl rfl) rfl ?_)
                          refine RJ_nil ?_
                          refine QJ_then ?_
                          refine CJ_condP rfl bT_dec (fun hg21 => ?_) (fun hg21 => ?_)
                          ·
                            replace h := ite_t hg21 h
                            refine CJ_seq ?_
                            refine CJ_region ?_
                            refine RJ_op rfl (OJ_P (P_assign rfl) rfl ?_)
                            refine RJ_nil ?_
                            refine QJ_then ?_
                            refine CJ_ret ?_
                            refine QJ_block_ret ?_
                            refine QJ_then_ret ?_
                            refine QJ_round_ret ?_
                            refine QJ_block_ret ?_
                            refine QJ_then_ret ?_
                            have hE := Option.some.inj h
                            replace hE := seq_inr hK20 hE.symm
                            subst hE
                            refine QJ_end (res1 Try.results32 rfl) ?_
                            refine CSpec.close () ?_ ?_ (Ent.take del1 (Ent.take del2 (Ent.take del2 (Ent.take del2 (Ent.take del2 (Ent.drop (Ent.drop Ent.refl)))))))
                            · rfl
                            · trivial
                          ·
                            replace h := ite_f hg21 h
                            refine CJ_skip ?_
                            refine QJ_block_normal ?_
                            refine QJ_then ?_
                            refine CJ_region ?_
                            refine RJ_op rfl (OJ_P (P_move rfl) rfl ?_)
                            refine RJ_op rfl (OJ_P (PJ_eq (P_add (a := ((x29 : Nat) : Int)) (b := (1 : Int)) rfl rfl (by omega)) rfl) rfl ?_)
                            refine RJ_op rfl (OJ_P (P_assign rfl) rfl ?_)
                            refine RJ_nil ?_
                            refine QJ_ent (Ent.trans (Ent.take del0 Ent.refl) (fun h hh => stars_dup Dup_DevP hh)) ?_
                            refine QJ_ent (Ent.takeC (A' := optP (DevP ba · dv28) (some o43)) del0 rfl Ent.refl) ?_
                            refine QJ_nextR ⟨n, x25, x26, (some o43), (x29 + 1), dv28⟩ (Nat.lt_succ_self _) ?_ (by repeat (first | exact Kp.base | exact Kp.self | refine Kp.cons rfl ?_ | refine Kp.forget rfl ?_)) ?_ (Ent.take del2 (Ent.take del2 (Ent.take del0 (Ent.take del1 (Ent.take del1 (Ent.take del1 (Ent.take del1 (Ent.drop Ent.refl))))))))
                            · exact h
                            · exact ⟨rfl, rfl, True.intro⟩
                  ·
                    replace h := ite_f hg12 h
                    refine CJ_seq ?_
                    refine CJ_region ?_
                    refine RJ_op rfl (OJ_P (P_eql (a := ((l.getD x29 (⟨0, 0, 0, 0⟩ : volumegroupmake_Step))).Kind) (b := (2 : Int)) rfl rfl) rfl ?_)
                    refine RJ_op rfl (OJ_P (P_assign rfl) rfl ?_)
                    refine RJ_nil ?_
                    refine QJ_then ?_
                    refine CJ_condP rfl bT_dec (fun hg22 => ?_) (fun hg22 => ?_)
                    ·
                      replace h := ite_t hg22 h
                      refine CJ_seq ?_
                      refine CJ_region ?_
                      refine RJ_op rfl (OJ_P (P_move rfl) rfl ?_)
                      rcases opt_e h with ⟨ht57, h⟩ | ⟨o58, ht57, h⟩
                      ·
                        rw [ht57]
                        refine RJ_ent (Ent.take del0 (Ent.take del0 (Ent.take del1 (Ent.take del1 (Ent.take del1 (Ent.take del1 (Ent.drop Ent.refl))))))) ?_
                        exact none_e h
                      ·
                        rw [ht57]
                        refine RJ_ent (Ent.takeC (A' := DevP ba o58 dv28) del2 rfl Ent.refl) ?_
                        refine RJ_pure (fun h hh => DevP_dep h (stars_perm (del0 (A := DevP ba o58 dv28)).out h hh)) (fun hdp59 => ?_)
                        obtain ⟨r60, hr61, h⟩ := bind_e h
                        refine RJ_op rfl (O_callI rfl (dev_Flush hr61 hdp59) rfl (Dels.cons del0 (Dels.cons del0 Dels.nil)) rfl (fun _ _ => ?_))
                        refine RJ_op rfl (OJ_P (P_assign rfl) rfl ?_)
                        refine RJ_nil ?_
                        refine QJ_then ?_
                        refine CJ_seq ?_
                        refine CJ_region ?_
                        refine RJ_op rfl (OJ_P (P_move rfl) rfl ?_)
                        refine RJ_op rfl (OJ_P (P_eql (a := r60.1) (b := (0 : Int)) rfl rfl) rfl ?_)
                        refine RJ_nil ?_
                        refine QJ_then ?_
                        refine CJ_condP rfl bT_dec (fun hg23 => ?_) (fun hg23 => ?_)
                        ·
                          replace h := ite_t hg23 h
                          refine CJ_region ?_
                          refine RJ_op rfl (OJ_P (P_move rfl) rfl ?_)
                          refine RJ_op rfl (O_call (c_Flushed) rfl Try.call81 (Dels.cons del2 Dels.nil) rfl (fun _ _ => ?_))
                          refine RJ_nil ?_
                          refine QJ_block_normal ?_
                          refine QJ_then ?_
                          refine CJ_seq ?_
                          refine CJ_region ?_
                          refine RJ_op rfl (OJ_P (P_move rfl) rfl ?_)
                          refine RJ_op rfl (OJ_P (P_eql (a := r60.1) (b := (5 : Int)) rfl rfl) rfl ?_)
                          refine RJ_nil ?_
                          refine QJ_then ?_
                          refine CJ_condP rfl bT_dec (fun hg24 => ?_) (fun hg24 => ?_)
                          ·
                            replace h := ite_t hg24 h
                            refine CJ_seq ?_
                            refine CJ_region ?_
                            refine RJ_op rfl (OJ_P (P_move rfl) rfl ?_)
                            refine RJ_op rfl (OJ_P (P_move rfl) rfl ?_)
                            refine RJ_op rfl (OJ_P (P_move rfl) rfl ?_)
                            refine RJ_op rfl (OJ_P (P_move rfl) rfl ?_)
                            refine RJ_op rfl (OJ_P (P_move rfl) rfl ?_)
                            refine RJ_op rfl (OJ_V (V_index (i := x29) rfl rfl rfl (by omega) foc6 rl Try.runUnderlying59 Try.sizeOf142) rfl ?_)
                            refine RJ_op rfl (OJ_P (P_fieldE rfl ⟨_, _, _, Try.runUnderlying142, rfl, rfl, Try.sizeOf22, rfl⟩) rfl ?_)
                            refine RJ_op rfl (OJ_V (V_loadE rfl rfl (by omega) foc6 rl rfl rfl Try.isAgg22) rfl ?_)
                            obtain ⟨r62, hr63, h⟩ := bind_e h
                            refine RJ_op rfl (O_call (L_volumegroupmake_Track_Again__volumegrouplaw17_StripeSound_1 hr63) rfl Try.call82 (Dels.cons del0 (Dels.cons del1 (Dels.cons del1 (Dels.cons del1 Dels.nil)))) rfl (fun X64 _ => ?_))
                            refine RJ_op rfl (OJ_P (P_move rfl) rfl ?_)
                            refine RJ_op rfl (OJ_P (P_extract rfl rfl) rfl ?_)
                            refine RJ_op rfl (OJ_P (P_extract rfl rfl) rfl ?_)
                            refine RJ_op rfl (OJ_P (P_assign rfl) rfl ?_)
                            refine RJ_op rfl (OJ_P (P_assign rfl) rfl ?_)
                            refine RJ_nil ?_
                            refine QJ_then ?_
                            refine CJ_seq ?_
                            refine CJ_region ?_
                            refine RJ_op rfl (OJ_P (P_move rfl) rfl ?_)
                            refine RJ_op rfl (OJ_P (P_not rfl) rfl ?_)
                            refine RJ_nil ?_
                            refine QJ_then ?_
                            refine CJ_condP rfl (bT_not Iff.rfl) (fun hg25 => ?_) (fun hg25 => ?_)
                            ·
                              replace h := ite_t hg25 h
                              refine CJ_seq ?_
                              refine CJ_region ?_
                              refine RJ_op rfl (OJ_P (P_assign rfl) rfl ?_)
                              refine RJ_nil ?_
                              refine QJ_ent (Ent.take del0 (Ent.take del0 (Ent.take del0 (Ent.take del0 (Ent.take del1 (Ent.take del1 (Ent.take del1 (Ent.drop Ent.refl)))))))) ?_
                              refine QJ_then ?_
                              refine CJ_ret ?_
                              refine QJ_block_ret ?_
                              refine QJ_then_ret ?_
                              refine QJ_round_ret ?_
                              refine QJ_block_ret ?_
                              refine QJ_then_ret ?_
                              have hE := Option.some.inj h
                              replace hE := seq_inr hK20 hE.symm
                              subst hE
                              refine QJ_end (res1 Try.results32 rfl) ?_
                              refine CSpec.close () ?_ ?_ (Ent.take del1 (Ent.take del1 (Ent.take del1 (Ent.take del2 (Ent.take del2 (Ent.drop (Ent.drop Ent.refl)))))))
                              · rfl
                              · trivial
                            ·
                              replace h := ite_f hg25 h
                              refine CJ_skip ?_
                              refine QJ_block_normal ?_
                              refine QJ_then ?_
                              refine CJ_region ?_
                              refine RJ_op rfl (OJ_P (P_move rfl) rfl ?_)
                              refine RJ_op rfl (OJ_P (PJ_eq (P_add (a := ((x29 : Nat) : Int)) (b := (1 : Int)) rfl rfl (by omega)) rfl) rfl ?_)
                              refine RJ_op rfl (OJ_P (P_assign rfl) rfl ?_)
                              refine RJ_nil ?_
                              refine QJ_nextR ⟨n, r62.2.2.2, r62.2.2.1, r62.1, (x29 + 1), X64⟩ (Nat.lt_succ_self _) ?_ (by repeat (first | exact Kp.base | exact Kp.self | refine Kp.cons rfl ?_ | refine Kp.forget rfl ?_)) ?_ (Ent.take del1 (Ent.take del0 (Ent.take del2 (Ent.take del0 (Ent.take del0 (Ent.take del1 (Ent.take del1 (Ent.drop Ent.refl))))))))
                              · exact h
                              · exact ⟨rfl, rfl, True.intro⟩
                          ·
                            replace h := ite_f hg24 h
                            refine CJ_seq ?_
                            refine CJ_region ?_
                            refine RJ_op rfl (OJ_P (P_move rfl) rfl ?_)
                            refine RJ_op rfl (OJ_P (P_neq (a := r60.1) (b := (0 : Int)) rfl rfl) rfl ?_)
                            refine RJ_nil ?_
                            refine QJ_then ?_
                            refine CJ_condP rfl bT_dec (fun hg26 => ?_) (fun hg26 => ?_)
                            ·
                              replace h := ite_t hg26 h
                              refine CJ_seq ?_
                              refine CJ_region ?_
                              refine RJ_op rfl (OJ_P (P_assign rfl) rfl ?_)
                              refine RJ_nil ?_
                              refine QJ_then ?_
                              refine CJ_ret ?_
                              refine QJ_block_ret ?_
                              refine QJ_then_ret ?_
                              refine QJ_round_ret ?_
                              refine QJ_block_ret ?_
                              refine QJ_then_ret ?_
                              have hE := Option.some.inj h
                              replace hE := seq_inr hK20 hE.symm
                              subst hE
                              refine QJ_end (res1 Try.results32 rfl) ?_
                              refine CSpec.close () ?_ ?_ (Ent.take del2 (Ent.take del2 (Ent.take del2 (Ent.take del2 (Ent.take del2 (Ent.drop (Ent.drop Ent.refl)))))))
                              · rfl
                              · trivial
                            ·
                              replace h := ite_f hg26 h
                              refine CJ_skip ?_
                              refine QJ_block_normal ?_
                              refine QJ_then ?_
                              refine CJ_region ?_
                              refine RJ_op rfl (OJ_P (P_move rfl) rfl ?_)
                              refine RJ_op rfl (OJ_P (PJ_eq (P_add (a := ((x29 : Nat) : Int)) (b := (1 : Int)) rfl rfl (by omega)) rfl) rfl ?_)
                              refine RJ_op rfl (OJ_P (P_assign rfl) rfl ?_)
                              refine RJ_nil ?_
                              refine QJ_ent (Ent.trans (Ent.take del1 Ent.refl) (fun h hh => stars_dup Dup_DevP hh)) ?_
                              refine QJ_ent (Ent.takeC (A' := optP (DevP ba · dv28) (some o58)) del0 rfl Ent.refl) ?_
                              refine QJ_nextR ⟨n, r60.2, (flushedT x26), (some o58), (x29 + 1), dv28⟩ (Nat.lt_succ_self _) ?_ (by repeat (first | exact Kp.base | exact Kp.self | refine Kp.cons rfl ?_ | refine Kp.forget rfl ?_)) ?_ (Ent.take del3 (Ent.take del2 (Ent.take del0 (Ent.take del1 (Ent.take del1 (Ent.take del1 (Ent.take del1 (Ent.drop Ent.refl))))))))
                              · exact h
                              · exact ⟨rfl, rfl, True.intro⟩
                        ·
                          replace h := ite_f hg23 h
                          refine CJ_skip ?_
                          refine QJ_block_normal ?_
                          refine QJ_then ?_
                          refine CJ_seq ?_
                          refine CJ_region ?_
                          refine RJ_op rfl (OJ_P (P_move rfl) rfl ?_)
                          refine RJ_op rfl (OJ_P (P_eql (a := r60.1) (b := (5 : Int)) rfl rfl) rfl ?_)
                          refine RJ_nil ?_
                          refine QJ_then ?_
                          refine CJ_condP rfl bT_dec (fun hg27 => ?_) (fun hg27 => ?_)
                          ·
                            replace h := ite_t hg27 h
                            refine CJ_seq ?_
                            refine CJ_region ?_
                            refine RJ_op rfl (OJ_P (P_move rfl) rfl ?_)
                            refine RJ_op rfl (OJ_P (P_move rfl) rfl ?_)
                            refine RJ_op rfl (OJ_P (P_move rfl) rfl ?_)
                            refine RJ_op rfl (OJ_P (P_move rfl) rfl ?_)
                            refine RJ_op rfl (OJ_P (P_move rfl) rfl ?_)
                            refine RJ_op rfl (OJ_V (V_index (i := x29) rfl rfl rfl (by omega) foc6 rl Try.runUnderlying59 Try.sizeOf142) rfl ?_)
                            refine RJ_op rfl (OJ_P (P_fieldE rfl ⟨_, _, _, Try.runUnderlying142, rfl, rfl, Try.sizeOf22, rfl⟩) rfl ?_)
                            refine RJ_op rfl (OJ_V (V_loadE rfl rfl (by omega) foc6 rl rfl rfl Try.isAgg22) rfl ?_)
                            obtain ⟨r67, hr68, h⟩ := bind_e h
                            refine RJ_op rfl (O_call (L_volumegroupmake_Track_Again__volumegrouplaw17_StripeSound_1 hr68) rfl Try.call82 (Dels.cons del2 (Dels.cons del1 (Dels.cons del1 (Dels.cons del1 Dels.nil)))) rfl (fun X69 _ => ?_))
                            refine RJ_op rfl (OJ_P (P_move rfl) rfl ?_)
                            refine RJ_op rfl (OJ_P (P_extract rfl rfl) rfl ?_)
                            refine RJ_op rfl (OJ_P (P_extract rfl rfl) rfl ?_)
                            refine RJ_op rfl (OJ_P (P_assign rfl) rfl ?_)
                            refine RJ_op rfl (OJ_P (P_assign rfl) rfl ?_)
                            refine RJ_nil ?_
                            refine QJ_then ?_
                            refine CJ_seq ?_
                            refine CJ_region ?_
                            refine RJ_op rfl (OJ_P (P_move rfl) rfl ?_)
                            refine RJ_op rfl (OJ_P (P_not rfl) rfl ?_)
                            refine RJ_nil ?_
                            refine QJ_then ?_
                            refine CJ_condP rfl (bT_not Iff.rfl) (fun hg28 => ?_) (fun hg28 => ?_)
                            ·
                              replace h := ite_t hg28 h
                              refine CJ_seq ?_
                              refine CJ_region ?_
                              refine RJ_op rfl (OJ_P (P_assign rfl) rfl ?_)
                              refine RJ_nil ?_
                              refine QJ_ent (Ent.take del0 (Ent.take del0 (Ent.take del0 (Ent.take del0 (Ent.take del1 (Ent.take del1 (Ent.take del1 (Ent.drop Ent.refl)))))))) ?_
                              refine QJ_then ?_
                              refine CJ_ret ?_
                              refine QJ_block_ret ?_
                              refine QJ_then_ret ?_
                              refine QJ_round_ret ?_
                              refine QJ_block_ret ?_
                              refine QJ_then_ret ?_
                              have hE := Option.some.inj h
                              replace hE := seq_inr hK20 hE.symm
                              subst hE
                              refine QJ_end (res1 Try.results32 rfl) ?_
                              refine CSpec.close () ?_ ?_ (Ent.take del1 (Ent.take del1 (Ent.take del1 (Ent.take del2 (Ent.take del2 (Ent.drop (Ent.drop Ent.refl)))))))
                              · rfl
                              · trivial
                            ·
                              replace h := ite_f hg28 h
                              refine CJ_skip ?_
                              refine QJ_block_normal ?_
                              refine QJ_then ?_
                              refine CJ_region ?_
                              refine RJ_op rfl (OJ_P (P_move rfl) rfl ?_)
                              refine RJ_op rfl (OJ_P (PJ_eq (P_add (a := ((x29 : Nat) : Int)) (b := (1 : Int)) rfl rfl (by omega)) rfl) rfl ?_)
                              refine RJ_op rfl (OJ_P (P_assign rfl) rfl ?_)
                              refine RJ_nil ?_
                              refine QJ_nextR ⟨n, r67.2.2.2, r67.2.2.1, r67.1, (x29 + 1), X69⟩ (Nat.lt_succ_self _) ?_ (by repeat (first | exact Kp.base | exact Kp.self | refine Kp.cons rfl ?_ | refine Kp.forget rfl ?_)) ?_ (Ent.take del1 (Ent.take del0 (Ent.take del2 (Ent.take del0 (Ent.take del0 (Ent.take del1 (Ent.take del1 (Ent.drop Ent.refl))))))))
                              · exact h
                              · exact ⟨rfl, rfl, True.intro⟩
                          ·
                            replace h := ite_f hg27 h
                            refine CJ_seq ?_
                            refine CJ_region ?_
                            refine RJ_op rfl (OJ_P (P_move rfl) rfl ?_)
                            refine RJ_op rfl (OJ_P (P_neq (a := r60.1) (b := (0 : Int)) rfl rfl) rfl ?_)
                            refine RJ_nil ?_
                            refine QJ_then ?_
                            refine CJ_condP rfl bT_dec (fun hg29 => ?_) (fun hg29 => ?_)
                            ·
                              replace h := ite_t hg29 h
                              refine CJ_seq ?_
                              refine CJ_region ?_
                              refine RJ_op rfl (OJ_P (P_assign rfl) rfl ?_)
                              refine RJ_nil ?_
                              refine QJ_then ?_
                              refine CJ_ret ?_
                              refine QJ_block_ret ?_
                              refine QJ_then_ret ?_
                              refine QJ_round_ret ?_
                              refine QJ_block_ret ?_
                              refine QJ_then_ret ?_
                              have hE := Option.some.inj h
                              replace hE := seq_inr hK20 hE.symm
                              subst hE
                              refine QJ_end (res1 Try.results32 rfl) ?_
                              refine CSpec.close () ?_ ?_ (Ent.take del1 (Ent.take del2 (Ent.take del2 (Ent.take del2 (Ent.take del2 (Ent.drop (Ent.drop Ent.refl)))))))
                              · rfl
                              · trivial
                            ·
                              replace h := ite_f hg29 h
                              refine CJ_skip ?_
                              refine QJ_block_normal ?_
                              refine QJ_then ?_
                              refine CJ_region ?_
                              refine RJ_op rfl (OJ_P (P_move rfl) rfl ?_)
                              refine RJ_op rfl (OJ_P (PJ_eq (P_add (a := ((x29 : Nat) : Int)) (b := (1 : Int)) rfl rfl (by omega)) rfl) rfl ?_)
                              refine RJ_op rfl (OJ_P (P_assign rfl) rfl ?_)
                              refine RJ_nil ?_
                              refine QJ_ent (Ent.trans (Ent.take del0 Ent.refl) (fun h hh => stars_dup Dup_DevP hh)) ?_
                              refine QJ_ent (Ent.takeC (A' := optP (DevP ba · dv28) (some o58)) del0 rfl Ent.refl) ?_
                              refine QJ_nextR ⟨n, r60.2, x26, (some o58), (x29 + 1), dv28⟩ (Nat.lt_succ_self _) ?_ (by repeat (first | exact Kp.base | exact Kp.self | refine Kp.cons rfl ?_ | refine Kp.forget rfl ?_)) ?_ (Ent.take del2 (Ent.take del2 (Ent.take del0 (Ent.take del1 (Ent.take del1 (Ent.take del1 (Ent.take del1 (Ent.drop Ent.refl))))))))
                              · exact h
                              · exact ⟨rfl, rfl, True.intro⟩
                    ·
                      replace h := ite_f hg22 h
                      refine CJ_seq ?_
                      refine CJ_region ?_
                      refine RJ_op rfl (OJ_P (P_eql (a := ((l.getD x29 (⟨0, 0, 0, 0⟩ : volumegroupmake_Step))).Kind) (b := (3 : Int)) rfl rfl) rfl ?_)
                      refine RJ_op rfl (OJ_P (P_assign rfl) rfl ?_)
                      refine RJ_nil ?_
                      refine QJ_then ?_
                      refine CJ_condP rfl bT_dec (fun hg30 => ?_) (fun hg30 => ?_)
                      ·
                        replace h := ite_t hg30 h
                        refine CJ_region ?_
                        refine RJ_op rfl (OJ_P (P_assign rfl) rfl ?_)
                        refine RJ_nil ?_
                        refine QJ_block_normal ?_
                        refine QJ_then ?_
                        refine CJ_seq ?_
                        refine CJ_region ?_
                        refine RJ_op rfl (OJ_P (P_move rfl) rfl ?_)
                        refine RJ_op rfl (OJ_P (P_eql (a := (5 : Int)) (b := (5 : Int)) rfl rfl) rfl ?_)
                        refine RJ_nil ?_
                        refine QJ_then ?_
                        refine CJ_condP rfl bT_dec (fun hg31 => ?_) (fun hg31 => ?_)
                        ·
                          replace h := ite_t hg31 h
                          refine CJ_seq ?_
                          refine CJ_region ?_
                          refine RJ_op rfl (OJ_P (P_move rfl) rfl ?_)
                          refine RJ_op rfl (OJ_P (P_move rfl) rfl ?_)
                          refine RJ_op rfl (OJ_P (P_move rfl) rfl ?_)
                          refine RJ_op rfl (OJ_P (P_move rfl) rfl ?_)
                          refine RJ_op rfl (OJ_P (P_move rfl) rfl ?_)
                          refine RJ_op rfl (OJ_V (V_index (i := x29) rfl rfl rfl (by omega) foc6 rl Try.runUnderlying59 Try.sizeOf142) rfl ?_)
                          refine RJ_op rfl (OJ_P (P_fieldE rfl ⟨_, _, _, Try.runUnderlying142, rfl, rfl, Try.sizeOf22, rfl⟩) rfl ?_)
                          refine RJ_op rfl (OJ_V (V_loadE rfl rfl (by omega) foc6 rl rfl rfl Try.isAgg22) rfl ?_)
                          obtain ⟨r72, hr73, h⟩ := bind_e h
                          refine RJ_op rfl (O_call (L_volumegroupmake_Track_Again__volumegrouplaw17_StripeSound_1 hr73) rfl Try.call82 (Dels.cons del1 (Dels.cons del0 (Dels.cons del1 (Dels.cons del1 Dels.nil)))) rfl (fun X74 _ => ?_))
                          refine RJ_op rfl (OJ_P (P_move rfl) rfl ?_)
                          refine RJ_op rfl (OJ_P (P_extract rfl rfl) rfl ?_)
                          refine RJ_op rfl (OJ_P (P_extract rfl rfl) rfl ?_)
                          refine RJ_op rfl (OJ_P (P_assign rfl) rfl ?_)
                          refine RJ_op rfl (OJ_P (P_assign rfl) rfl ?_)
                          refine RJ_nil ?_
                          refine QJ_then ?_
                          refine CJ_seq ?_
                          refine CJ_region ?_
                          refine RJ_op rfl (OJ_P (P_move rfl) rfl ?_)
                          refine RJ_op rfl (OJ_P (P_not rfl) rfl ?_)
                          refine RJ_nil ?_
                          refine QJ_then ?_
                          refine CJ_condP rfl (bT_not Iff.rfl) (fun hg32 => ?_) (fun hg32 => ?_)
                          ·
                            replace h := ite_t hg32 h
                            refine CJ_seq ?_
                            refine CJ_region ?_
                            refine RJ_op rfl (OJ_P (P_assign rfl) rfl ?_)
                            refine RJ_nil ?_
                            refine QJ_ent (Ent.take del0 (Ent.take del0 (Ent.take del0 (Ent.take del0 (Ent.take del1 (Ent.take del1 (Ent.take del1 (Ent.drop Ent.refl)))))))) ?_
                            refine QJ_then ?_
                            refine CJ_ret ?_
                            refine QJ_block_ret ?_
                            refine QJ_then_ret ?_
                            refine QJ_round_ret ?_
                            refine QJ_block_ret ?_
                            refine QJ_then_ret ?_
                            have hE := Option.some.inj h
                            replace hE := seq_inr hK20 hE.symm
                            subst hE
                            refine QJ_end (res1 Try.results32 rfl) ?_
                            refine CSpec.close () ?_ ?_ (Ent.take del1 (Ent.take del1 (Ent.take del1 (Ent.take del2 (Ent.take del2 (Ent.drop (Ent.drop Ent.refl)))))))
                            · rfl
                            · trivial
                          ·
                            replace h := ite_f hg32 h
                            refine CJ_skip ?_
                            refine QJ_block_normal ?_
                            refine QJ_then ?_
                            refine CJ_region ?_
                            refine RJ_op rfl (OJ_P (P_move rfl) rfl ?_)
                            refine RJ_op rfl (OJ_P (PJ_eq (P_add (a := ((x29 : Nat) : Int)) (b := (1 : Int)) rfl rfl (by omega)) rfl) rfl ?_)
                            refine RJ_op rfl (OJ_P (P_assign rfl) rfl ?_)
                            refine RJ_nil ?_
                            refine QJ_nextR ⟨n, r72.2.2.2, r72.2.2.1, r72.1, (x29 + 1), X74⟩ (Nat.lt_succ_self _) ?_ (by repeat (first | exact Kp.base | exact Kp.self | refine Kp.cons rfl ?_ | refine Kp.forget rfl ?_)) ?_ (Ent.take del1 (Ent.take del0 (Ent.take del2 (Ent.take del0 (Ent.take del0 (Ent.take del1 (Ent.take del1 (Ent.drop Ent.refl))))))))
                            · exact h
                            · exact ⟨rfl, rfl, True.intro⟩
                        ·
                          replace h := ite_f hg31 h
                          refine CJ_seq ?_
                          refine CJ_region ?_
                          refine RJ_op rfl (OJ_P (P_move rfl) rfl ?_)
                          refine RJ_op rfl (OJ_P (P_neq (a := (5 : Int)) (b := (0 : Int)) rfl rfl) rfl ?_)
                          refine RJ_nil ?_
                          refine QJ_then ?_
                          refine CJ_condP rfl bT_dec (fun hg33 => ?_) (fun hg33 => ?_)
                          ·
                            replace h := ite_t hg33 h
                            refine CJ_seq ?_
                            refine CJ_region ?_
                            refine RJ_op rfl (OJ_P (P_assign rfl) rfl ?_)
                            refine RJ_nil ?_
                            refine QJ_then ?_
                            refine CJ_ret ?_
                            refine QJ_block_ret ?_
                            refine QJ_then_ret ?_
                            refine QJ_round_ret ?_
                            refine QJ_block_ret ?_
                            refine QJ_then_ret ?_
                            have hE := Option.some.inj h
                            replace hE := seq_inr hK20 hE.symm
                            subst hE
                            refine QJ_end (res1 Try.results32 rfl) ?_
                            refine CSpec.close () ?_ ?_ (Ent.take del0 (Ent.take del2 (Ent.take del2 (Ent.take del2 (Ent.take del2 (Ent.drop (Ent.drop Ent.refl)))))))
                            · rfl
                            · trivial
                          ·
                            replace h := ite_f hg33 h
                            refine CJ_skip ?_
                            refine QJ_block_normal ?_
                            refine QJ_then ?_
                            refine CJ_region ?_
                            refine RJ_op rfl (OJ_P (P_move rfl) rfl ?_)
                            refine RJ_op rfl (OJ_P (PJ_eq (P_add (a := ((x29 : Nat) : Int)) (b := (1 : Int)) rfl rfl (by omega)) rfl) rfl ?_)
                            refine RJ_op rfl (OJ_P (P_assign rfl) rfl ?_)
                            refine RJ_nil ?_
                            refine QJ_nextR ⟨n, x25, x26, x27, (x29 + 1), dv28⟩ (Nat.lt_succ_self _) ?_ (by repeat (first | exact Kp.base | exact Kp.self | refine Kp.cons rfl ?_ | refine Kp.forget rfl ?_)) ?_ Ent.refl
                            · exact h
                            · exact ⟨rfl, rfl, True.intro⟩
                      ·
                        replace h := ite_f hg30 h
                        refine CJ_seq ?_
                        refine CJ_region ?_
                        refine RJ_op rfl (OJ_P (P_eql (a := ((l.getD x29 (⟨0, 0, 0, 0⟩ : volumegroupmake_Step))).Kind) (b := (4 : Int)) rfl rfl) rfl ?_)
                        refine RJ_op rfl (OJ_P (P_assign rfl) rfl ?_)
                        refine RJ_nil ?_
                        refine QJ_then ?_
                        refine CJ_condP rfl bT_dec (fun hg34 => ?_) (fun hg34 => ?_)
                        ·
                          replace h := ite_t hg34 h
                          refine CJ_region ?_
                          refine RJ_op rfl (OJ_P (P_move rfl) rfl ?_)
                          refine RJ_op rfl (OJ_P (P_move rfl) rfl ?_)
                          obtain ⟨hg35, h⟩ := grd_Ie h
                          refine RJ_op rfl (OJ_P (P_add (a := (1 : Int)) (b := (((w30 + ((initial.length : Nat) : Int))).tmod (((initial.length : Nat) : Int)))) rfl rfl hg35) rfl ?_)
                          obtain ⟨w76, hw76, h⟩ := lt_e h
                          rw [← hw76]
                          obtain ⟨hg36, h⟩ := grd_Ie h
                          refine RJ_op rfl (O_call (c_FuseD hg36.2) rfl Try.call55 (Dels.cons del0 Dels.nil) rfl (fun _ _ => ?_))
                          refine RJ_nil ?_
                          refine QJ_block_normal ?_
                          refine QJ_then ?_
                          refine CJ_seq ?_
                          refine CJ_region ?_
                          refine RJ_op rfl (OJ_P (P_move rfl) rfl ?_)
                          refine RJ_op rfl (OJ_P (P_eql (a := (0 : Int)) (b := (5 : Int)) rfl rfl) rfl ?_)
                          refine RJ_nil ?_
                          refine QJ_then ?_
                          refine CJ_condP rfl bT_dec (fun hg37 => ?_) (fun hg37 => ?_)
                          ·
                            replace h := ite_t hg37 h
                            refine CJ_seq ?_
                            refine CJ_region ?_
                            refine RJ_op rfl (OJ_P (P_move rfl) rfl ?_)
                            refine RJ_op rfl (OJ_P (P_move rfl) rfl ?_)
                            refine RJ_op rfl (OJ_P (P_move rfl) rfl ?_)
                            refine RJ_op rfl (OJ_P (P_move rfl) rfl ?_)
                            refine RJ_op rfl (OJ_P (P_move rfl) rfl ?_)
                            refine RJ_op rfl (OJ_V (V_index (i := x29) rfl rfl rfl (by omega) foc6 rl Try.runUnderlying59 Try.sizeOf142) rfl ?_)
                            refine RJ_op rfl (OJ_P (P_fieldE rfl ⟨_, _, _, Try.runUnderlying142, rfl, rfl, Try.sizeOf22, rfl⟩) rfl ?_)
                            refine RJ_op rfl (OJ_V (V_loadE rfl rfl (by omega) foc6 rl rfl rfl Try.isAgg22) rfl ?_)
                            obtain ⟨r77, hr78, h⟩ := bind_e h
                            refine RJ_op rfl (O_call (L_volumegroupmake_Track_Again__volumegrouplaw17_StripeSound_1 hr78) rfl Try.call82 (Dels.cons del1 (Dels.cons del0 (Dels.cons del1 (Dels.cons del1 Dels.nil)))) rfl (fun X79 _ => ?_))
                            refine RJ_op rfl (OJ_P (P_move rfl) rfl ?_)
                            refine RJ_op rfl (OJ_P (P_extract rfl rfl) rfl ?_)
                            refine RJ_op rfl (OJ_P (P_extract rfl rfl) rfl ?_)
                            refine RJ_op rfl (OJ_P (P_assign rfl) rfl ?_)
                            refine RJ_op rfl (OJ_P (P_assign rfl) rfl ?_)
                            refine RJ_nil ?_
                            refine QJ_then ?_
                            refine CJ_seq ?_
                            refine CJ_region ?_
                            refine RJ_op rfl (OJ_P (P_move rfl) rfl ?_)
                            refine RJ_op rfl (OJ_P (P_not rfl) rfl ?_)
                            refine RJ_nil ?_
                            refine QJ_then ?_
                            refine CJ_condP rfl (bT_not Iff.rfl) (fun hg38 => ?_) (fun hg38 => ?_)
                            ·
                              replace h := ite_t hg38 h
                              refine CJ_seq ?_
                              refine CJ_region ?_
                              refine RJ_op rfl (OJ_P (P_assign rfl) rfl ?_)
                              refine RJ_nil ?_
                              refine QJ_ent (Ent.take del0 (Ent.take del0 (Ent.take del0 (Ent.take del0 (Ent.take del1 (Ent.take del1 (Ent.take del1 (Ent.drop Ent.refl)))))))) ?_
                              refine QJ_then ?_
                              refine CJ_ret ?_
                              refine QJ_block_ret ?_
                              refine QJ_then_ret ?_
                              refine QJ_round_ret ?_
                              refine QJ_block_ret ?_
                              refine QJ_then_ret ?_
                              have hE := Option.some.inj h
                              replace hE := seq_inr hK20 hE.symm
                              subst hE
                              refine QJ_end (res1 Try.results32 rfl) ?_
                              refine CSpec.close () ?_ ?_ (Ent.take del1 (Ent.take del1 (Ent.take del1 (Ent.take del2 (Ent.take del2 (Ent.drop (Ent.drop Ent.refl)))))))
                              · rfl
                              · trivial
                            ·
                              replace h := ite_f hg38 h
                              refine CJ_skip ?_
                              refine QJ_block_normal ?_
                              refine QJ_then ?_
                              refine CJ_region ?_
                              refine RJ_op rfl (OJ_P (P_move rfl) rfl ?_)
                              refine RJ_op rfl (OJ_P (PJ_eq (P_add (a := ((x29 : Nat) : Int)) (b := (1 : Int)) rfl rfl (by omega)) rfl) rfl ?_)
                              refine RJ_op rfl (OJ_P (P_assign rfl) rfl ?_)
                              refine RJ_nil ?_
                              refine QJ_nextR ⟨n, r77.2.2.2, r77.2.2.1, r77.1, (x29 + 1), X79⟩ (Nat.lt_succ_self _) ?_ (by repeat (first | exact Kp.base | exact Kp.self | refine Kp.cons rfl ?_ | refine Kp.forget rfl ?_)) ?_ (Ent.take del1 (Ent.take del0 (Ent.take del2 (Ent.take del0 (Ent.take del0 (Ent.take del1 (Ent.take del1 (Ent.drop Ent.refl))))))))
                              · exact h
                              · exact ⟨rfl, rfl, True.intro⟩
                          ·
                            replace h := ite_f hg37 h
                            refine CJ_seq ?_
                            refine CJ_region ?_
                            refine RJ_op rfl (OJ_P (P_move rfl) rfl ?_)
                            refine RJ_op rfl (OJ_P (P_neq (a := (0 : Int)) (b := (0 : Int)) rfl rfl) rfl ?_)
                            refine RJ_nil ?_
                            refine QJ_then ?_
                            refine CJ_condP rfl bT_dec (fun hg39 => ?_) (fun hg39 => ?_)
                            ·
                              replace h := ite_t hg39 h
                              refine CJ_seq ?_
                              refine CJ_region ?_
                              refine RJ_op rfl (OJ_P (P_assign rfl) rfl ?_)
                              refine RJ_nil ?_
                              refine QJ_then ?_
                              refine CJ_ret ?_
                              refine QJ_block_ret ?_
                              refine QJ_then_ret ?_
                              refine QJ_round_ret ?_
                              refine QJ_block_ret ?_
                              refine QJ_then_ret ?_
                              have hE := Option.some.inj h
                              replace hE := seq_inr hK20 hE.symm
                              subst hE
                              refine QJ_end (res1 Try.results32 rfl) ?_
                              refine CSpec.close () ?_ ?_ (Ent.take del0 (Ent.take del2 (Ent.take del2 (Ent.take del2 (Ent.take del2 (Ent.drop (Ent.drop Ent.refl)))))))
                              · rfl
                              · trivial
                            ·
                              replace h := ite_f hg39 h
                              refine CJ_skip ?_
                              refine QJ_block_normal ?_
                              refine QJ_then ?_
                              refine CJ_region ?_
                              refine RJ_op rfl (OJ_P (P_move rfl) rfl ?_)
                              refine RJ_op rfl (OJ_P (PJ_eq (P_add (a := ((x29 : Nat) : Int)) (b := (1 : Int)) rfl rfl (by omega)) rfl) rfl ?_)
                              refine RJ_op rfl (OJ_P (P_assign rfl) rfl ?_)
                              refine RJ_nil ?_
                              refine QJ_nextR ⟨n, { x25 with fuse := (w76).toNat }, x26, x27, (x29 + 1), dv28⟩ (Nat.lt_succ_self _) ?_ (by repeat (first | exact Kp.base | exact Kp.self | refine Kp.cons rfl ?_ | refine Kp.forget rfl ?_)) ?_ Ent.refl
                              · exact h
                              · exact ⟨rfl, rfl, True.intro⟩
                        ·
                          replace h := ite_f hg34 h
                          refine CJ_skip ?_
                          refine QJ_block_normal ?_
                          refine QJ_then ?_
                          refine CJ_seq ?_
                          refine CJ_region ?_
                          refine RJ_op rfl (OJ_P (P_move rfl) rfl ?_)
                          refine RJ_op rfl (OJ_P (P_eql (a := (0 : Int)) (b := (5 : Int)) rfl rfl) rfl ?_)
                          refine RJ_nil ?_
                          refine QJ_then ?_
                          refine CJ_condP rfl bT_dec (fun hg40 => ?_) (fun hg40 => ?_)
                          ·
                            replace h := ite_t hg40 h
                            refine CJ_seq ?_
                            refine CJ_region ?_
                            refine RJ_op rfl (OJ_P (P_move rfl) rfl ?_)
                            refine RJ_op rfl (OJ_P (P_move rfl) rfl ?_)
                            refine RJ_op rfl (OJ_P (P_move rfl) rfl ?_)
                            refine RJ_op rfl (OJ_P (P_move rfl) rfl ?_)
                            refine RJ_op rfl (OJ_P (P_move rfl) rfl ?_)
                            refine RJ_op rfl (OJ_V (V_index (i := x29) rfl rfl rfl (by omega) foc6 rl Try.runUnderlying59 Try.sizeOf142) rfl ?_)
                            refine RJ_op rfl (OJ_P (P_fieldE rfl ⟨_, _, _, Try.runUnderlying142, rfl, rfl, Try.sizeOf22, rfl⟩) rfl ?_)
                            refine RJ_op rfl (OJ_V (V_loadE rfl rfl (by omega) foc6 rl rfl rfl Try.isAgg22) rfl ?_)
                            obtain ⟨r81, hr82, h⟩ := bind_e h
                            refine RJ_op rfl (O_call (L_volumegroupmake_Track_Again__volumegrouplaw17_StripeSound_1 hr82) rfl Try.call82 (Dels.cons del1 (Dels.cons del0 (Dels.cons del1 (Dels.cons del1 Dels.nil)))) rfl (fun X83 _ => ?_))
                            refine RJ_op rfl (OJ_P (P_move rfl) rfl ?_)
                            refine RJ_op rfl (OJ_P (P_extract rfl rfl) rfl ?_)
                            refine RJ_op rfl (OJ_P (P_extract rfl rfl) rfl ?_)
                            refine RJ_op rfl (OJ_P (P_assign rfl) rfl ?_)
                            refine RJ_op rfl (OJ_P (P_assign rfl) rfl ?_)
                            refine RJ_nil ?_
                            refine QJ_then ?_
                            refine CJ_seq ?_
                            refine CJ_region ?_
                            refine RJ_op rfl (OJ_P (P_move rfl) rfl ?_)
                            refine RJ_op rfl (OJ_P (P_not rfl) rfl ?_)
                            refine RJ_nil ?_
                            refine QJ_then ?_
                            refine CJ_condP rfl (bT_not Iff.rfl) (fun hg41 => ?_) (fun hg41 => ?_)
                            ·
                              replace h := ite_t hg41 h
                              refine CJ_seq ?_
                              refine CJ_region ?_
                              refine RJ_op rfl (OJ_P (P_assign rfl) rfl ?_)
                              refine RJ_nil ?_
                              refine QJ_ent (Ent.take del0 (Ent.take del0 (Ent.take del0 (Ent.take del0 (Ent.take del1 (Ent.take del1 (Ent.take del1 (Ent.drop Ent.refl)))))))) ?_
                              refine QJ_then ?_
                              refine CJ_ret ?_
                              refine QJ_block_ret ?_
                              refine QJ_then_ret ?_
                              refine QJ_round_ret ?_
                              refine QJ_block_ret ?_
                              refine QJ_then_ret ?_
                              have hE := Option.some.inj h
                              replace hE := seq_inr hK20 hE.symm
                              subst hE
                              refine QJ_end (res1 Try.results32 rfl) ?_
                              refine CSpec.close () ?_ ?_ (Ent.take del1 (Ent.take del1 (Ent.take del1 (Ent.take del2 (Ent.take del2 (Ent.drop (Ent.drop Ent.refl)))))))
                              · rfl
                              · trivial
                            ·
                              replace h := ite_f hg41 h
                              refine CJ_skip ?_
                              refine QJ_block_normal ?_
                              refine QJ_then ?_
                              refine CJ_region ?_
                              refine RJ_op rfl (OJ_P (P_move rfl) rfl ?_)
                              refine RJ_op rfl (OJ_P (PJ_eq (P_add (a := ((x29 : Nat) : Int)) (b := (1 : Int)) rfl rfl (by omega)) rfl) rfl ?_)
                              refine RJ_op rfl (OJ_P (P_assign rfl) rfl ?_)
                              refine RJ_nil ?_
                              refine QJ_nextR ⟨n, r81.2.2.2, r81.2.2.1, r81.1, (x29 + 1), X83⟩ (Nat.lt_succ_self _) ?_ (by repeat (first | exact Kp.base | exact Kp.self | refine Kp.cons rfl ?_ | refine Kp.forget rfl ?_)) ?_ (Ent.take del1 (Ent.take del0 (Ent.take del2 (Ent.take del0 (Ent.take del0 (Ent.take del1 (Ent.take del1 (Ent.drop Ent.refl))))))))
                              · exact h
                              · exact ⟨rfl, rfl, True.intro⟩
                          ·
                            replace h := ite_f hg40 h
                            refine CJ_seq ?_
                            refine CJ_region ?_
                            refine RJ_op rfl (OJ_P (P_move rfl) rfl ?_)
                            refine RJ_op rfl (OJ_P (P_neq (a := (0 : Int)) (b := (0 : Int)) rfl rfl) rfl ?_)
                            refine RJ_nil ?_
                            refine QJ_then ?_
                            refine CJ_condP rfl bT_dec (fun hg42 => ?_) (fun hg42 => ?_)
                            ·
                              replace h := ite_t hg42 h
                              refine CJ_seq ?_
                              refine CJ_region ?_
                              refine RJ_op rfl (OJ_P (P_assign rfl) rfl ?_)
                              refine RJ_nil ?_
                              refine QJ_then ?_
                              refine CJ_ret ?_
                              refine QJ_block_ret ?_
                              refine QJ_then_ret ?_
                              refine QJ_round_ret ?_
                              refine QJ_block_ret ?_
                              refine QJ_then_ret ?_
                              have hE := Option.some.inj h
                              replace hE := seq_inr hK20 hE.symm
                              subst hE
                              refine QJ_end (res1 Try.results32 rfl) ?_
                              refine CSpec.close () ?_ ?_ (Ent.take del0 (Ent.take del2 (Ent.take del2 (Ent.take del2 (Ent.take del2 (Ent.drop (Ent.drop Ent.refl)))))))
                              · rfl
                              · trivial
                            ·
                              replace h := ite_f hg42 h
                              refine CJ_skip ?_
                              refine QJ_block_normal ?_
                              refine QJ_then ?_
                              refine CJ_region ?_
                              refine RJ_op rfl (OJ_P (P_move rfl) rfl ?_)
                              refine RJ_op rfl (OJ_P (PJ_eq (P_add (a := ((x29 : Nat) : Int)) (b := (1 : Int)) rfl rfl (by omega)) rfl) rfl ?_)
                              refine RJ_op rfl (OJ_P (P_assign rfl) rfl ?_)
                              refine RJ_nil ?_
                              refine QJ_nextR ⟨n, x25, x26, x27, (x29 + 1), dv28⟩ (Nat.lt_succ_self _) ?_ (by repeat (first | exact Kp.base | exact Kp.self | refine Kp.cons rfl ?_ | refine Kp.forget rfl ?_)) ?_ Ent.refl
                              · exact h
                              · exact ⟨rfl, rfl, True.intro⟩
              ·
                replace h := ite_f hg5 h
                refine CJ_exit ?_
                refine QJ_then_exit ?_
                refine QJ_round_exit ?_
                refine QJ_block_here ?_
                refine QJ_cutR (x25, x26) ?_ (by repeat (first | exact Kp.base | exact Kp.self | refine Kp.cons rfl ?_ | refine Kp.forget rfl ?_)) ?_ (Ent.take del0 (Ent.take del0 (Ent.take del1 (Ent.take del1 (Ent.take del1 (Ent.take del1 (Ent.drop Ent.refl)))))))
                · exact (Option.some.inj h).symm
                · exact True.intro
          ·
            rintro a24 hy85
            replace h := seq_inl hK20 hy85
            show CJ _ _ _ _ _ (([] : Slots) ++ forget _ _) (Arr ba a24.1 :: Trk X3 a24.2 :: _)
            refine CJ_seq ?_
            refine CJ_seq ?_
            refine CJ_region ?_
            refine RJ_op rfl (OJ_P (P_move rfl) rfl ?_)
            refine RJ_op rfl (OJ_P (P_move rfl) rfl ?_)
            refine RJ_op rfl (OJ_P (P_move rfl) rfl ?_)
            obtain ⟨r86, hr87, h⟩ := bind_e h
            refine RJ_op rfl (O_call (L_volumegroupmake_Track_Again__volumegrouplaw17_StripeSound_1 hr87) rfl Try.call82 (Dels.cons del1 (Dels.cons del0 (Dels.cons del0 (Dels.cons del0 Dels.nil)))) rfl (fun X88 _ => ?_))
            refine RJ_op rfl (OJ_P (P_move rfl) rfl ?_)
            refine RJ_op rfl (OJ_P (P_extract rfl rfl) rfl ?_)
            refine RJ_op rfl (OJ_P (P_extract rfl rfl) rfl ?_)
            refine RJ_op rfl (OJ_P (P_assign rfl) rfl ?_)
            refine RJ_op rfl (OJ_P (P_assign rfl) rfl ?_)
            refine RJ_nil ?_
            refine QJ_then ?_
            refine CJ_seq ?_
            refine CJ_region ?_
            refine RJ_op rfl (OJ_P (P_move rfl) rfl ?_)
            refine RJ_op rfl (OJ_P (P_not rfl) rfl ?_)
            refine RJ_nil ?_
            refine QJ_then ?_
            refine CJ_condP rfl (bT_not Iff.rfl) (fun hg43 => ?_) (fun hg43 => ?_)
            ·
              replace h := ite_t hg43 h
              refine CJ_seq ?_
              refine CJ_region ?_
              refine RJ_op rfl (OJ_P (P_assign rfl) rfl ?_)
              refine RJ_nil ?_
              refine QJ_ent (Ent.take del1 (Ent.take del1 (Ent.take del1 (Ent.take del2 (Ent.take del2 (Ent.drop (Ent.drop Ent.refl))))))) ?_
              refine QJ_then ?_
              refine CJ_ret ?_
              refine QJ_then_ret ?_
              have hE := Option.some.inj h
              subst hE
              refine QJ_end (res1 Try.results32 rfl) ?_
              refine CSpec.close () ?_ ?_ Ent.refl
              · rfl
              · trivial
            ·
              replace h := ite_f hg43 h
              refine CJ_skip ?_
              refine QJ_then ?_
              refine CJ_seq ?_
              refine CJ_region ?_
              refine RJ_op rfl (OJ_P (P_move rfl) rfl ?_)
              refine RJ_op rfl (OJ_P (P_move rfl) rfl ?_)
              rcases opt_e h with ⟨ht90, h⟩ | ⟨o91, ht90, h⟩
              ·
                rw [ht90]
                refine RJ_ent (Ent.take del0 (Ent.take del0 (Ent.take del0 (Ent.take del0 (Ent.take del1 (Ent.take del1 (Ent.drop Ent.refl))))))) ?_
                obtain ⟨r92, hr93, h⟩ := bind_e h
                refine RJ_op rfl (O_call (L_volumegroupmake_Track_All_2 hr93) rfl Try.call83 (Dels.cons del0 Dels.nil) rfl (fun _ _ => ?_))
                refine RJ_op rfl (OJ_P (P_assign rfl) rfl ?_)
                refine RJ_nil ?_
                refine QJ_then ?_
                refine CJ_ret ?_
                have hE := Option.some.inj h
                subst hE
                refine QJ_end (res1 Try.results32 rfl) ?_
                refine CSpec.close () ?_ ?_ (Ent.take del1 (Ent.take del1 (Ent.take del1 (Ent.take del1 (Ent.take del1 (Ent.drop Ent.refl))))))
                · rfl
                · trivial
              ·
                rw [ht90]
                refine RJ_ent (Ent.takeC (A' := DevP ba o91 X88) del4 rfl Ent.refl) ?_
                obtain ⟨r94, hr95, h⟩ := bind_e h
                refine RJ_op rfl (O_call (L_volumegroupmake_Track_All hr95) rfl Try.call83 (Dels.cons del1 (Dels.cons del0 (Dels.cons del0 Dels.nil))) rfl (fun _ _ => ?_))
                refine RJ_op rfl (OJ_P (P_assign rfl) rfl ?_)
                refine RJ_nil ?_
                refine QJ_ent (Ent.take del2 (Ent.take del2 (Ent.take del2 (Ent.take del2 (Ent.take del2 (Ent.drop (Ent.drop Ent.refl))))))) ?_
                refine QJ_then ?_
                refine CJ_ret ?_
                have hE := Option.some.inj h
                subst hE
                refine QJ_end (res1 Try.results32 rfl) ?_
                refine CSpec.close () ?_ ?_ Ent.refl
                · rfl
                · trivial

def volumegrouplaw17_StripeSound_l1_b (sizes : List UInt8) (rec : (List (List UInt64)) → (List Int) → Nat → Option ((List (List UInt64)) × (List Int))) (x21 : List (List UInt64)) (x24 : List Int) (x26 : Nat) : Option ((List (List UInt64)) × (List Int)) :=
  if (((x26 : Nat) : Int) < ((sizes.length : Nat) : Int)) then
    grd (inN64 ((1 + (((sizes.getD x26 0) % (9 : UInt8))).toNat))) <|
    grd (inLen (x24.length + 1)) <|
    grd (decide (x26 < ((x24 ++ [(((1 + (((sizes.getD x26 0) % (9 : UInt8))).toNat) : Nat) : Int)])).length)) <|
    lt ((((x24 ++ [(((1 + (((sizes.getD x26 0) % (9 : UInt8))).toNat) : Nat) : Int)])).getD x26 0)) fun w34 =>
    Option.bind (volumegroupmake_Words w34 (((to_u64 (((x26 : Nat) : Int))) * (1000 : UInt64)))) fun r35 =>
    grd (inLen (x21.length + 1)) <|
    rec (x21 ++ [r35]) ((x24 ++ [(((1 + (((sizes.getD x26 0) % (9 : UInt8))).toNat) : Nat) : Int)])) (x26 + 1)
  else
    some (x21, x24)

def volumegrouplaw17_StripeSound_l1 (sizes : List UInt8) : Nat → (List (List UInt64)) → (List Int) → Nat → Option ((List (List UInt64)) × (List Int))
  | 0, _, _, _ => none
  | n + 1, x21, x24, x26 => volumegrouplaw17_StripeSound_l1_b sizes (volumegrouplaw17_StripeSound_l1 sizes n) x21 x24 x26

def volumegrouplaw17_StripeSound_l2_b (chunk : UInt8) (a20 : (List (List UInt64)) × (List Int)) (r66 : Int × Int) (rec : (List UInt64) → Nat → Option ((List UInt64))) (x83 : List UInt64) (x85 : Nat) : Option ((List UInt64)) :=
  if (((x85 : Nat) : Int) < r66.1) then
    Option.bind (volumegroupref17_Place ((((1 + ((chunk % (4 : UInt8))).toNat) : Nat) : Int)) (((a20.2.length : Nat) : Int)) (((x85 : Nat) : Int))) fun r87 =>
    grd (decide (0 ≤ r87.1 ∧ r87.1 < (a20.1.length : Int))) <|
    grd (decide (0 ≤ r87.2.1 ∧ r87.2.1 < (((a20.1.getD ((r87.1).toNat) [])).length : Int))) <|
    grd (inLen (x83.length + 1)) <|
    grd (inN64 (x85 + 1)) <|
    rec ((x83 ++ [(((a20.1.getD ((r87.1).toNat) [])).getD ((r87.2.1).toNat) 0)])) (x85 + 1)
  else
    some x83

def volumegrouplaw17_StripeSound_l2 (chunk : UInt8) (a20 : (List (List UInt64)) × (List Int)) (r66 : Int × Int) : Nat → (List UInt64) → Nat → Option ((List UInt64))
  | 0, _, _ => none
  | n + 1, x83, x85 => volumegrouplaw17_StripeSound_l2_b chunk a20 r66 (volumegrouplaw17_StripeSound_l2 chunk a20 r66 n) x83 x85

def volumegrouplaw17_StripeSound_l3_b (chunk : UInt8) (a20 : (List (List UInt64)) × (List Int)) (r66 : Int × Int) (rec : (List UInt64) → Nat → Option ((List UInt64))) (x104 : List UInt64) (x106 : Nat) : Option ((List UInt64)) :=
  if (((x106 : Nat) : Int) < r66.1) then
    Option.bind (volumegroupref17_Place ((((1 + ((chunk % (4 : UInt8))).toNat) : Nat) : Int)) (((a20.2.length : Nat) : Int)) (((x106 : Nat) : Int))) fun r108 =>
    grd (decide (0 ≤ r108.1 ∧ r108.1 < (a20.1.length : Int))) <|
    grd (decide (0 ≤ r108.2.1 ∧ r108.2.1 < (((a20.1.getD ((r108.1).toNat) [])).length : Int))) <|
    grd (inLen (x104.length + 1)) <|
    grd (inN64 (x106 + 1)) <|
    rec ((x104 ++ [(((a20.1.getD ((r108.1).toNat) [])).getD ((r108.2.1).toNat) 0)])) (x106 + 1)
  else
    some x104

def volumegrouplaw17_StripeSound_l3 (chunk : UInt8) (a20 : (List (List UInt64)) × (List Int)) (r66 : Int × Int) : Nat → (List UInt64) → Nat → Option ((List UInt64))
  | 0, _, _ => none
  | n + 1, x104, x106 => volumegrouplaw17_StripeSound_l3_b chunk a20 r66 (volumegrouplaw17_StripeSound_l3 chunk a20 r66 n) x104 x106

def volumegrouplaw17_StripeSound (sizes : List UInt8) (chunk : UInt8) (steps : List volumegroupmake_Step) : Option (Bool) :=
  if ((4 : Int) < ((sizes.length : Nat) : Int)) then
    Option.bind (volumegrouplaw17_awake) fun r3 =>
    some r3
  else
    Option.bind (volumegroupmake_Few steps) fun r5 =>
    if (¬ r5 = true) then
      Option.bind (volumegrouplaw17_awake) fun r7 =>
      some r7
    else
      Option.bind (volumegrouplaw17_StripeSound_l1 sizes FUEL (([] : List (List UInt64))) ([]) 0) fun a20 =>
      Option.bind (volumegroupmake_Loaded a20.1) fun r48 =>
      Option.elim r48 (
        some false) fun o54 =>
      grd (inN64 ((1 + ((chunk % (4 : UInt8))).toNat))) <|
      Option.bind (volumegroupmake_Spans o54) fun r56 =>
      Option.bind (stripe_New r56 ((((1 + ((chunk % (4 : UInt8))).toNat) : Nat) : Int)) o54) fun r62 =>
      Option.bind (volumegroupref17_Size ((((1 + ((chunk % (4 : UInt8))).toNat) : Nat) : Int)) a20.2) fun r66 =>
      if (r62.2 ≠ r66.2) then
        some false
      else
        Option.elim r62.1 (
          if (¬ (true = true ↔ (r62.2 ≠ (0 : Int)))) then
            some false
          else
            if (r62.2 ≠ (0 : Int)) then
              Option.bind (volumegrouplaw17_awake) fun r74 =>
              some r74
            else
              Option.bind (volumegrouplaw17_StripeSound_l2 chunk a20 r66 FUEL ([]) 0) fun a82 =>
              none) fun o73 =>
        if (¬ (false = true ↔ (r62.2 ≠ (0 : Int)))) then
          some false
        else
          if (r62.2 ≠ (0 : Int)) then
            Option.bind (volumegrouplaw17_awake) fun r95 =>
            some r95
          else
            Option.bind (volumegrouplaw17_StripeSound_l3 chunk a20 r66 FUEL ([]) 0) fun a103 =>
            Option.bind (Dvc.rd o73 o54 r66.1) fun r117 =>
            if (r117.2 ≠ (1 : Int)) then
              some false
            else
              Option.bind (Dvc.wr o73 o54 (-1 : Int) (5 : UInt64)) fun r120 =>
              if (r120.1 ≠ (1 : Int)) then
                some false
              else
                Option.bind (volumegroupmake_Sound__volumegrouplaw17_StripeSound_1 r120.2 ((((1 + ((chunk % (4 : UInt8))).toNat) : Nat) : Int)) a103 steps) fun r122 =>
                if r122.1 = true then
                  Option.bind (volumegrouplaw17_awake) fun r124 =>
                  some r124
                else
                  some false

theorem L_volumegrouplaw17_StripeSound {W : World} {Asizes : HP} {vsizes : Value} {Asteps : HP} {vsteps : Value} {sizes : List UInt8} {chunk : UInt8} {steps : List volumegroupmake_Step} {r : Bool} (rsizes : Reads Asizes tyU8 vsizes sizes) (rsteps : Reads Asteps tyvolumegroupmake_Step vsteps steps) (h : volumegrouplaw17_StripeSound sizes chunk steps = some r) :
    CSpec Try.prog W 10 [vsizes, .int .u8 (chunk.toNat : Int), vsteps] [Asizes, Asteps] (fun x : Unit => .bool r) (fun _ => True) (fun x F => Asizes :: Asteps :: F) := by
  refine CSpec.of_body Try.func10 rfl Try.ntmps10 rfl (fun F => ?_)
  show CJ _ _ _ _ _ _ (_ :: _ :: F)
  unfold volumegrouplaw17_StripeSound at h
  refine CJ_pure (len_of rsizes del0) (fun hlen1 => ?_)
  refine CJ_pure (len_of rsteps del1) (fun hlen2 => ?_)
  refine CJ_seq ?_
  refine CJ_region ?_
  refine RJ_op rfl (OJ_P (P_assign rfl) rfl ?_)
  refine RJ_nil ?_
  refine QJ_then ?_
  refine CJ_seq ?_
  refine CJ_seq ?_
  refine CJ_region ?_
  refine RJ_op rfl (OJ_P (P_move rfl) rfl ?_)
  refine RJ_op rfl (OJ_V (V_len rfl foc0 rsizes Try.runUnderlying67) rfl ?_)
  refine RJ_op rfl (OJ_P (P_gtr (a := ((sizes.length : Nat) : Int)) (b := (4 : Int)) rfl rfl) rfl ?_)
  refine RJ_op rfl (OJ_P (P_move rfl) rfl ?_)
  refine RJ_splitP 27 rfl bT_dec (fun hg1B hg1 => ?_) (fun hg1B hg1 => ?_)
  ·
    replace h := ite_t hg1 h
    refine RJ_gn (GY_no rfl rfl rfl hg1B) rfl rfl ?_
    refine RJ_gn (GY_no rfl rfl rfl hg1B) rfl rfl ?_
    refine RJ_gn (GY_no rfl rfl rfl hg1B) rfl rfl ?_
    refine RJ_op rfl (OJ_P (P_pickT rfl hg1B rfl) rfl ?_)
    refine RJ_nil ?_
    refine QJ_then ?_
    refine CJ_condT rfl rfl ?_
    refine CJ_seq ?_
    refine CJ_region ?_
    obtain ⟨r3, hr4, h⟩ := bind_e h
    refine RJ_op rfl (O_call (L_volumegrouplaw17_awake hr4) rfl Try.call40 Dels.nil rfl (fun _ _ => ?_))
    refine RJ_op rfl (OJ_P (P_assign rfl) rfl ?_)
    refine RJ_nil ?_
    refine QJ_then ?_
    refine CJ_ret ?_
    refine QJ_then_ret ?_
    have hE := Option.some.inj h
    subst hE
    refine QJ_end (res1 Try.results10 rfl) ?_
    refine CSpec.close () ?_ ?_ Ent.refl
    · rfl
    · trivial
  ·
    replace h := ite_f hg1 h
    refine RJ_gy (GY_yes rfl rfl rfl hg1B) (OJ_P (P_move rfl) rfl ?_)
    obtain ⟨r5, hr6, h⟩ := bind_e h
    refine RJ_gy (GY_yes rfl rfl rfl hg1B) (O_call (L_volumegroupmake_Few rsteps hr6) rfl Try.call30 (Dels.cons del1 Dels.nil) rfl (fun _ _ => ?_))
    refine RJ_gy (GY_yes rfl rfl rfl hg1B) (OJ_P (P_not rfl) rfl ?_)
    refine RJ_op rfl (OJ_P (P_pickF rfl hg1B rfl) rfl ?_)
    refine RJ_nil ?_
    refine QJ_then ?_
    refine CJ_condP rfl (bT_not Iff.rfl) (fun hg2 => ?_) (fun hg2 => ?_)
    ·
      replace h := ite_t hg2 h
      refine CJ_seq ?_
      refine CJ_region ?_
      obtain ⟨r7, hr8, h⟩ := bind_e h
      refine RJ_op rfl (O_call (L_volumegrouplaw17_awake hr8) rfl Try.call40 Dels.nil rfl (fun _ _ => ?_))
      refine RJ_op rfl (OJ_P (P_assign rfl) rfl ?_)
      refine RJ_nil ?_
      refine QJ_then ?_
      refine CJ_ret ?_
      refine QJ_then_ret ?_
      have hE := Option.some.inj h
      subst hE
      refine QJ_end (res1 Try.results10 rfl) ?_
      refine CSpec.close () ?_ ?_ (Ent.take del1 Ent.refl)
      · rfl
      · trivial
    ·
      replace h := ite_f hg2 h
      refine CJ_skip ?_
      refine QJ_then ?_
      refine CJ_seq ?_
      refine CJ_region ?_
      refine RJ_op rfl (OJ_P (P_assign rfl) rfl ?_)
      refine RJ_nil ?_
      refine QJ_then ?_
      refine CJ_seq ?_
      refine CJ_region ?_
      refine RJ_op rfl (OJ_P (P_assign rfl) rfl ?_)
      refine RJ_nil ?_
      refine QJ_then ?_
      refine CJ_seq ?_
      refine CJ_seq ?_
      refine CJ_region ?_
      refine RJ_op rfl (OJ_P (P_assign rfl) rfl ?_)
      refine RJ_nil ?_
      refine QJ_then ?_
      refine CJ_ent (fun h hh => sl_nil (t := tyRow) h (rs_nil (RP := RowP) h hh)) ?_
      refine CJ_ent (fun h hh => sl_nil (t := tyI) h hh) ?_
      obtain ⟨y14, hl12, hK13⟩ := bind_c h
      refine CJ_cutT (X := ((List (List UInt64)) × (List Int)) × Sl3 × (List Sl3) × Sl3) [7, 8, 9, 33, 34, 35, 36, 37, 38, 39, 40, 41, 42, 43, 44, 45, 46, 47, 48, 49, 50, 51, 52, 53, 54, 55, 56, 57, 58, 59] (fun ⟨a20, hd16, hs17, hd19⟩ => ([(7, hd16.v), (8, hd19.v)] : Slots)) (fun ⟨a20, hd16, hs17, hd19⟩ R => sl tyRow hd16.v hs17 :: Rs RowP a20.1 hs17 :: sl tyI hd19.v a20.2 :: R) (fun ⟨a20, hd16, hs17, hd19⟩ => y14 = a20) (Dels.cons del1 (Dels.cons del1 (Dels.cons del0 Dels.nil))) ?_ ?_
      ·
        refine CJ_block ?_
        refine CJ_loopR (X := Nat × (List (List UInt64)) × (List Int) × Nat × Sl3 × (List Sl3) × Sl3) [7, 8, 9, 33, 34, 35, 36, 37, 38, 39, 40, 41, 42, 43, 44, 45, 46, 47, 48, 49, 50, 51, 52, 53, 54, 55, 56, 57, 58, 59] (fun ⟨n, x21, x24, x26, hd22, hs23, hd25⟩ => ([(7, hd22.v), (8, hd25.v), (9, .int .i64 (((x26 : Nat) : Int)))] : Slots)) (fun ⟨n, x21, x24, x26, hd22, hs23, hd25⟩ R => sl tyRow hd22.v hs23 :: Rs RowP x21 hs23 :: sl tyI hd25.v x24 :: R) (fun ⟨n, x21, x24, x26, hd22, hs23, hd25⟩ => volumegrouplaw17_StripeSound_l1 sizes n x21 x24 x26 = some y14) (fun ⟨n, x21, x24, x26, hd22, hs23, hd25⟩ => n) ⟨FUEL, ([] : List (List UInt64)), [], 0, ⟨none, 0, 0⟩, ([] : List Sl3), ⟨none, 0, 0⟩⟩ ?_ ?_ (Ent.take del1 (Ent.take del1 Ent.refl)) ?_
        · exact hl12
        · exact ⟨rfl, rfl, rfl, True.intro⟩
        ·
          rintro ⟨n, x21, x24, x26, hd22, hs23, hd25⟩ h
          cases n with
          | zero => exact none_e h
          | succ n => ?_
          replace h : volumegrouplaw17_StripeSound_l1_b sizes (volumegrouplaw17_StripeSound_l1 sizes n) x21 x24 x26 = some y14 := h
          unfold volumegrouplaw17_StripeSound_l1_b at h
          show CJ _ _ _ _ _ (([(7, hd22.v), (8, hd25.v), (9, .int .i64 (((x26 : Nat) : Int)))] : Slots) ++ forget _ _) (sl tyRow hd22.v hs23 :: Rs RowP x21 hs23 :: sl tyI hd25.v x24 :: _)
          refine CJ_pure (len_of (Reads.sl _ _ _) del0) (fun hlen27 => ?_)
          refine CJ_pure (fun h hh => Rs_len (stars_perm (del1 (A := Rs RowP x21 hs23)).out h hh)) (fun hdl28 => ?_)
          refine CJ_pure (len_of (Reads.sl _ _ _) del2) (fun hlen29 => ?_)
          refine CJ_seq ?_
          refine CJ_seq ?_
          refine CJ_region ?_
          refine RJ_op rfl (OJ_P (P_move rfl) rfl ?_)
          refine RJ_op rfl (OJ_P (P_move rfl) rfl ?_)
          refine RJ_op rfl (OJ_V (V_len rfl foc4 rsizes Try.runUnderlying67) rfl ?_)
          refine RJ_op rfl (OJ_P (P_lss (a := ((x26 : Nat) : Int)) (b := ((sizes.length : Nat) : Int)) rfl rfl) rfl ?_)
          refine RJ_nil ?_
          refine QJ_then ?_
          refine CJ_condP rfl bT_dec (fun hg3 => ?_) (fun hg3 => ?_)
          ·
            replace h := ite_t hg3 h
            refine CJ_skip ?_
            refine QJ_then ?_
            refine CJ_seq ?_
            refine CJ_block ?_
            refine CJ_seq ?_
            refine CJ_region ?_
            refine RJ_op rfl (OJ_P (P_move rfl) rfl ?_)
            refine RJ_op rfl (OJ_P (P_move rfl) rfl ?_)
            refine RJ_op rfl (OJ_P (P_move rfl) rfl ?_)
            refine RJ_op rfl (OJ_V (V_index (i := x26) rfl rfl rfl (by omega) foc4 rsizes Try.runUnderlying67 Try.sizeOf5) rfl ?_)
            refine RJ_op rfl (OJ_V (V_loadE rfl rfl (by omega) foc4 rsizes rfl rfl Try.isAgg5) rfl ?_)
            refine RJ_op rfl (OJ_P (P_rem_u8 (a := (sizes.getD x26 0)) (b := (9 : UInt8)) rfl rfl (by decide)) rfl ?_)
            refine RJ_op rfl (OJ_P (P_convSame rfl Try.runUnderlying5 Try.runUnderlying3 (wrap64_u _ (by have := (((sizes.getD x26 0) % (9 : UInt8))).toNat_lt; omega))) rfl ?_)
            obtain ⟨hg4, h⟩ := grd_Ne h
            refine RJ_op rfl (OJ_P (PJ_eq (P_add (a := (1 : Int)) (b := (((((sizes.getD x26 0) % (9 : UInt8))).toNat : Nat) : Int)) rfl rfl (nat_in hg4)) rfl) rfl ?_)
            refine RJ_op rfl (O_buildSlice rfl (bs_58_1_0 _) rfl (fun b30 => ?_))
            obtain ⟨hg5, h⟩ := grd_Le h
            refine RJ_op rfl (O_append (t := tyI) (bytes := 8) rfl rfl del3 foc0 (Reads.lit (t := tyI) (ys := [(((1 + (((sizes.getD x26 0) % (9 : UInt8))).toNat) : Nat) : Int)]) rfl rfl (by decide) (by decide) rfl) Try.underlying58 ok_tyI (apl (m := 1) (b := 8) hg5 (by decide)).1 (apl (m := 1) (b := 8) hg5 (by decide)).2 rfl (fun p32 c33 => ?_))
            refine RJ_op rfl (OJ_P (P_assign rfl) rfl ?_)
            refine RJ_nil ?_
            refine QJ_then ?_
            refine CJ_region ?_
            refine RJ_op rfl (OJ_P (P_move rfl) rfl ?_)
            refine RJ_op rfl (OJ_P (P_move rfl) rfl ?_)
            refine RJ_op rfl (OJ_P (P_move rfl) rfl ?_)
            obtain ⟨hg6, h⟩ := grd_de h
            refine RJ_op rfl (OJ_V (V_index (i := x26) rfl rfl rfl hg6 foc0 (Reads.sl _ _ _) Try.runUnderlying58 Try.sizeOf3) rfl ?_)
            refine RJ_op rfl (OJ_V (V_loadE rfl rfl hg6 foc0 (Reads.sl _ _ _) rfl rfl Try.isAgg3) rfl ?_)
            obtain ⟨w34, hw34, h⟩ := lt_e h
            rw [← hw34]
            refine RJ_op rfl (OJ_P (P_move rfl) rfl ?_)
            refine RJ_op rfl (OJ_P (P_conv_u64 (a := ((x26 : Nat) : Int)) rfl Try.runUnderlying3 Try.runUnderlying22) rfl ?_)
            refine RJ_op rfl (OJ_P (P_mul_u64 (a := (to_u64 (((x26 : Nat) : Int)))) (b := (1000 : UInt64)) rfl rfl) rfl ?_)
            obtain ⟨r35, hr36, h⟩ := bind_e h
            refine RJ_op rfl (O_call (L_volumegroupmake_Words hr36) rfl Try.call16 Dels.nil rfl (fun X37 _ => ?_))
            refine RJ_op rfl (O_buildSlice rfl (bs_27_1_0 _ _ _) rfl (fun b39 => ?_))
            refine RJ_shareS del1 ?_
            obtain ⟨hg7, h⟩ := grd_Le h
            refine RJ_op rfl (O_append (t := tyRow) (bytes := 24) rfl rfl del4 foc1 (Reads.lit (t := tyRow) (ys := [(X37 : Sl3)]) rfl rfl (by decide) (by decide) rfl) Try.underlying27 ok_tyRow (apl (m := 1) (b := 24) (by have hz : _ ≤ 1000000000 := hg7; have := hdl28; omega) (by decide)).1 (apl (m := 1) (b := 24) (by have hz : _ ≤ 1000000000 := hg7; have := hdl28; omega) (by decide)).2 rfl (fun p41 c42 => ?_))
            refine RJ_ent (Ent.trans (Ent.take del5 (Ent.take del1 Ent.refl)) (Rs_push (x := r35) (g := (X37 : Sl3)) Dup_RowP)) ?_
            refine RJ_pure (fun h hh => Rs_len (stars_perm (del0 (A := Rs RowP (x21 ++ [r35]) ((hs23 ++ [(X37 : Sl3)])))).out h hh)) (fun hdl43 => ?_)
            refine RJ_op rfl (OJ_P (P_assign rfl) rfl ?_)
            refine RJ_nil ?_
            refine QJ_block_normal ?_
            refine QJ_ent (Ent.take del0 (Ent.take del1 (Ent.take del2 (Ent.take del3 (Ent.take del3 (Ent.drop (Ent.drop (Ent.drop Ent.refl)))))))) ?_
            refine QJ_then ?_
            refine CJ_region ?_
            refine RJ_op rfl (OJ_P (P_move rfl) rfl ?_)
            refine RJ_op rfl (OJ_P (PJ_eq (P_add (a := ((x26 : Nat) : Int)) (b := (1 : Int)) rfl rfl (by omega)) rfl) rfl ?_)
            refine RJ_op rfl (OJ_P (P_assign rfl) rfl ?_)
            refine RJ_nil ?_
            refine QJ_nextR ⟨n, (x21 ++ [r35]), (x24 ++ [(((1 + (((sizes.getD x26 0) % (9 : UInt8))).toNat) : Nat) : Int)]), (x26 + 1), ⟨p41, (hs23 ++ [(X37 : Sl3)]).length, c42⟩, (hs23 ++ [(X37 : Sl3)]), ⟨p32, (x24 ++ [(((1 + (((sizes.getD x26 0) % (9 : UInt8))).toNat) : Nat) : Int)]).length, c33⟩⟩ (Nat.lt_succ_self _) ?_ (by repeat (first | exact Kp.base | exact Kp.self | refine Kp.cons rfl ?_ | refine Kp.forget rfl ?_)) ?_ (Ent.take del1 Ent.refl)
            · exact h
            · exact ⟨rfl, rfl, rfl, True.intro⟩
          ·
            replace h := ite_f hg3 h
            refine CJ_exit ?_
            refine QJ_then_exit ?_
            refine QJ_round_exit ?_
            refine QJ_block_here ?_
            refine QJ_cutR ⟨(x21, x24), hd22, hs23, hd25⟩ ?_ (by repeat (first | exact Kp.base | exact Kp.self | refine Kp.cons rfl ?_ | refine Kp.forget rfl ?_)) ?_ Ent.refl
            · exact (Option.some.inj h).symm
            · exact ⟨rfl, rfl, True.intro⟩
      ·
        rintro ⟨a20, hd16, hs17, hd19⟩ hy44
        replace h := bindK_at hK13 hy44
        show CJ _ _ _ _ _ (([(7, hd16.v), (8, hd19.v)] : Slots) ++ forget _ _) (sl tyRow hd16.v hs17 :: Rs RowP a20.1 hs17 :: sl tyI hd19.v a20.2 :: _)
        refine CJ_pure (len_of (Reads.sl _ _ _) del0) (fun hlen45 => ?_)
        refine CJ_pure (fun h hh => Rs_len (stars_perm (del1 (A := Rs RowP a20.1 hs17)).out h hh)) (fun hdl46 => ?_)
        refine CJ_pure (len_of (Reads.sl _ _ _) del2) (fun hlen47 => ?_)
        refine CJ_seq ?_
        refine CJ_region ?_
        refine RJ_op rfl (OJ_P (P_move rfl) rfl ?_)
        obtain ⟨r48, hr49, h⟩ := bind_e h
        refine RJ_op rfl (O_call (L_volumegroupmake_Loaded (Reads.sl _ _ _) (RowsR.rs hdl46) hr49) rfl Try.call15 (Dels.cons del0 (Dels.cons del0 Dels.nil)) rfl (fun X50 _ => ?_))
        refine RJ_op rfl (O_alloc Try.zeroValue23 rfl rfl (fun b52 => ?_))
        refine RJ_op rfl (O_store rfl rfl foc0 rfl oneCell_oval Try.sizeOf23 ?_)
        refine RJ_nil ?_
        refine QJ_then ?_
        refine CJ_seq ?_
        refine CJ_seq ?_
        refine CJ_region ?_
        refine RJ_op rfl (OJ_V (V_load rfl foc0 rfl Try.isAgg23) rfl ?_)
        rcases opt_e h with ⟨ht53, h⟩ | ⟨o54, ht53, h⟩
        ·
          rw [ht53]
          refine RJ_ent (Ent.take del0 (Ent.take del0 (Ent.take del0 (Ent.take del1 (Ent.take del1 (Ent.take del1 (Ent.drop Ent.refl))))))) ?_
          refine RJ_op rfl (OJ_P (P_eqlNN rfl rfl Try.underlying23) rfl ?_)
          refine RJ_nil ?_
          refine QJ_then ?_
          refine CJ_condT rfl rfl ?_
          refine CJ_seq ?_
          refine CJ_region ?_
          refine RJ_op rfl (OJ_P (P_assign rfl) rfl ?_)
          refine RJ_nil ?_
          refine QJ_then ?_
          refine CJ_ret ?_
          refine QJ_then_ret ?_
          have hE := Option.some.inj h
          subst hE
          refine QJ_end (res1 Try.results10 rfl) ?_
          refine CSpec.close () ?_ ?_ (Ent.take del5 (Ent.take del4 (Ent.drop (Ent.drop (Ent.drop (Ent.drop Ent.refl))))))
          · rfl
          · trivial
        ·
          rw [ht53]
          refine RJ_ent (Ent.takeC (A' := Arr X50 o54) del3 rfl Ent.refl) ?_
          refine RJ_op rfl (OJ_P (P_eqlPN rfl rfl Try.underlying23) rfl ?_)
          refine RJ_nil ?_
          refine QJ_then ?_
          refine CJ_condF rfl rfl ?_
          refine CJ_skip ?_
          refine QJ_then ?_
          refine CJ_seq ?_
          refine CJ_region ?_
          refine RJ_op rfl (OJ_P (P_move rfl) rfl ?_)
          refine RJ_op rfl (OJ_P (P_rem_u8 (a := chunk) (b := (4 : UInt8)) rfl rfl (by decide)) rfl ?_)
          refine RJ_op rfl (OJ_P (P_convSame rfl Try.runUnderlying5 Try.runUnderlying3 (wrap64_u _ (by have := ((chunk % (4 : UInt8))).toNat_lt; omega))) rfl ?_)
          obtain ⟨hg8, h⟩ := grd_Ne h
          refine RJ_op rfl (OJ_P (PJ_eq (P_add (a := (1 : Int)) (b := ((((chunk % (4 : UInt8))).toNat : Nat) : Int)) rfl rfl (nat_in hg8)) rfl) rfl ?_)
          refine RJ_op rfl (O_alloc Try.zeroValue3 rfl rfl (fun b55 => ?_))
          refine RJ_op rfl (O_store rfl rfl foc0 rfl rfl Try.sizeOf3 ?_)
          refine RJ_nil ?_
          refine QJ_then ?_
          refine CJ_seq ?_
          refine AJ_startH 8 (by kernel_rfl) rfl ?_
          refine AJ_takeV 0 1 rfl (by kernel_rfl) rfl (by kernel_rfl) (by kernel_rfl) (GY_none rfl) Ent.refl (V_load rfl foc2 rfl Try.isAgg23) rfl (fun _ _ _ _ h => h) ?_
          refine AJ_takeV 2 5 rfl (by kernel_rfl) rfl (by kernel_rfl) (by kernel_rfl) (GY_none rfl) Ent.refl (V_load rfl foc0 rfl Try.isAgg3) rfl (fun _ _ _ _ h => h) ?_
          obtain ⟨r56, hr57, h⟩ := bind_e h
          refine AJ_op 1 7 rfl (by kernel_rfl) rfl (GY_none rfl) (O_call (L_volumegroupmake_Spans hr57) rfl Try.call17 (Dels.cons del1 Dels.nil) rfl (fun X58 _ => ?_))
          refine ⟨fun _ => (Ent.take del3 (Ent.take del0 (Ent.take del2 (Ent.take del2 (Ent.take del2 (Ent.take del2 (Ent.take del2 (Ent.take del2 (Ent.drop (Ent.drop Ent.refl)))))))))), ?_⟩
          refine AJ_pure (fun h hh => Rs_len (stars_perm (del2 (A := Rs (DevP X50) r56 X58.2)).out h hh)) (fun hdl61 => ?_)
          obtain ⟨r62, hr63, h⟩ := bind_e h
          refine AJ_op 3 15 rfl (by kernel_rfl) rfl (GY_none rfl) (O_call (L_stripe_New (Reads.sl _ _ _) hr63) rfl Try.call41 (Dels.cons del1 (Dels.cons del1 (Dels.cons del0 Dels.nil))) rfl (fun X64 _ => ?_))
          refine ⟨fun h => absurd h (by decide), ?_⟩
          refine AJ_takeP 4 31 rfl (by kernel_rfl) rfl (GY_none rfl) (P_move rfl) rfl (fun _ _ _ _ h => h) ?_
          refine AJ_takeP 5 63 rfl (by kernel_rfl) rfl (GY_none rfl) (P_extract rfl rfl) rfl (fun _ _ _ _ h => h) ?_
          refine AJ_takeP 6 127 rfl (by kernel_rfl) rfl (GY_none rfl) (P_extract rfl rfl) rfl (fun _ _ _ _ h => h) ?_
          refine AJ_takeP 7 255 rfl (by kernel_rfl) rfl (GY_none rfl) (P_assign rfl) rfl (fun _ _ _ _ h => h) ?_
          refine AJ_takeP 8 511 rfl (by kernel_rfl) rfl (GY_none rfl) (P_assign rfl) rfl (fun _ _ _ _ h => h) ?_
          refine AJ_done (by kernel_rfl) ?_
          refine QJ_ent (Ent.take del2 (Ent.take del2 (Ent.take del2 (Ent.take del2 (Ent.take del2 (Ent.take del2 (Ent.take del2 (Ent.take del2 (Ent.take del2 (Ent.drop (Ent.drop Ent.refl))))))))))) ?_
          refine QJ_then ?_
          refine CJ_seq ?_
          refine CJ_region ?_
          refine RJ_op rfl (OJ_V (V_load rfl foc2 rfl Try.isAgg3) rfl ?_)
          refine RJ_op rfl (OJ_P (P_move rfl) rfl ?_)
          obtain ⟨r66, hr67, h⟩ := bind_e h
          refine RJ_op rfl (O_call (L_volumegroupref17_Size (Reads.sl _ _ _) hr67) rfl Try.call42 (Dels.cons del6 Dels.nil) rfl (fun _ _ => ?_))
          refine RJ_op rfl (OJ_P (P_move rfl) rfl ?_)
          refine RJ_op rfl (OJ_P (P_extract rfl rfl) rfl ?_)
          refine RJ_op rfl (OJ_P (P_extract rfl rfl) rfl ?_)
          refine RJ_op rfl (OJ_P (P_assign rfl) rfl ?_)
          refine RJ_op rfl (OJ_P (P_assign rfl) rfl ?_)
          refine RJ_nil ?_
          refine QJ_then ?_
          refine CJ_seq ?_
          refine CJ_seq ?_
          refine CJ_region ?_
          refine RJ_op rfl (OJ_P (P_move rfl) rfl ?_)
          refine RJ_op rfl (OJ_P (P_move rfl) rfl ?_)
          refine RJ_op rfl (OJ_P (P_neq (a := r62.2) (b := r66.2) rfl rfl) rfl ?_)
          refine RJ_op rfl (OJ_P (P_move rfl) rfl ?_)
          refine RJ_mbF rfl rfl rfl (fun hG68 => have hP69 : ¬ (r62.2 ≠ r66.2) := nP (bT_dec) hG68; VJ_P (P_move rfl)) ?_
          refine RJ_splitP 84 rfl bT_dec (fun hg9B hg9 => ?_) (fun hg9B hg9 => ?_)
          ·
            replace h := ite_t hg9 h
            refine RJ_gn (GY_no rfl rfl rfl hg9B) rfl rfl ?_
            refine RJ_gn (GY_no rfl rfl rfl hg9B) rfl rfl ?_
            refine RJ_gn (GY_no rfl rfl rfl hg9B) rfl rfl ?_
            refine RJ_gn (GY_no rfl rfl rfl hg9B) rfl rfl ?_
            refine RJ_op rfl (OJ_P (P_pickT rfl hg9B rfl) rfl ?_)
            refine RJ_nil ?_
            refine QJ_then ?_
            refine CJ_condT rfl rfl ?_
            refine CJ_seq ?_
            refine CJ_region ?_
            refine RJ_op rfl (OJ_P (P_assign rfl) rfl ?_)
            refine RJ_nil ?_
            refine QJ_ent (Ent.take del1 (Ent.take del6 (Ent.take del6 (Ent.drop (Ent.drop (Ent.drop (Ent.drop (Ent.drop (Ent.drop Ent.refl))))))))) ?_
            refine QJ_then ?_
            refine CJ_ret ?_
            refine QJ_then_ret ?_
            have hE := Option.some.inj h
            subst hE
            refine QJ_end (res1 Try.results10 rfl) ?_
            refine CSpec.close () ?_ ?_ (Ent.take del2 (Ent.take del1 (Ent.drop Ent.refl)))
            · rfl
            · trivial
          ·
            replace h := ite_f hg9 h
            rcases opt_e h with ⟨ht72, h⟩ | ⟨o73, ht72, h⟩
            ·
              rw [ht72]
              refine RJ_ent (Ent.take del0 (Ent.take del0 (Ent.take del1 (Ent.take del1 (Ent.take del1 (Ent.take del1 (Ent.take del1 (Ent.take del1 (Ent.drop Ent.refl))))))))) ?_
              refine RJ_gy (GY_yes rfl rfl rfl hg9B) (OJ_P (P_eqlIN (mbx (not_f hg9B) rfl) Try.underlying31) rfl ?_)
              refine RJ_gy (GY_yes rfl rfl rfl hg9B) (OJ_P (P_move rfl) rfl ?_)
              refine RJ_gy (GY_yes rfl rfl rfl hg9B) (OJ_P (P_neq (a := r62.2) (b := (0 : Int)) rfl rfl) rfl ?_)
              refine RJ_gy (GY_yes rfl rfl rfl hg9B) (OJ_P (P_neqB rfl rfl Try.underlying4) rfl ?_)
              refine RJ_op rfl (OJ_P (P_pickF rfl hg9B rfl) rfl ?_)
              refine RJ_nil ?_
              refine QJ_then ?_
              refine CJ_condP rfl (bT_not (bT_beq Iff.rfl bT_dec)) (fun hg10 => ?_) (fun hg10 => ?_)
              ·
                replace h := ite_t hg10 h
                refine CJ_seq ?_
                refine CJ_region ?_
                refine RJ_op rfl (OJ_P (P_assign rfl) rfl ?_)
                refine RJ_nil ?_
                refine QJ_ent (Ent.take del1 (Ent.take del5 (Ent.take del5 (Ent.drop (Ent.drop (Ent.drop (Ent.drop (Ent.drop Ent.refl)))))))) ?_
                refine QJ_then ?_
                refine CJ_ret ?_
                refine QJ_then_ret ?_
                have hE := Option.some.inj h
                subst hE
                refine QJ_end (res1 Try.results10 rfl) ?_
                refine CSpec.close () ?_ ?_ (Ent.take del2 (Ent.take del1 (Ent.drop Ent.refl)))
                · rfl
                · trivial
              ·
                replace h := ite_f hg10 h
                refine CJ_skip ?_
                refine QJ_then ?_
                refine CJ_seq ?_
                refine CJ_seq ?_
                refine CJ_region ?_
                refine RJ_op rfl (OJ_P (P_move rfl) rfl ?_)
                refine RJ_op rfl (OJ_P (P_neq (a := r62.2) (b := (0 : Int)) rfl rfl) rfl ?_)
                refine RJ_nil ?_
                refine QJ_then ?_
                refine CJ_condP rfl bT_dec (fun hg11 => ?_) (fun hg11 => ?_)
                ·
                  replace h := ite_t hg11 h
                  refine CJ_seq ?_
                  refine CJ_region ?_
                  obtain ⟨r74, hr75, h⟩ := bind_e h
                  refine RJ_op rfl (O_call (L_volumegrouplaw17_awake hr75) rfl Try.call40 Dels.nil rfl (fun _ _ => ?_))
                  refine RJ_op rfl (OJ_P (P_assign rfl) rfl ?_)
                  refine RJ_nil ?_
                  refine QJ_ent (Ent.take del1 (Ent.take del5 (Ent.take del5 (Ent.drop (Ent.drop (Ent.drop (Ent.drop (Ent.drop Ent.refl)))))))) ?_
                  refine QJ_then ?_
                  refine CJ_ret ?_
                  refine QJ_then_ret ?_
                  have hE := Option.some.inj h
                  subst hE
                  refine QJ_end (res1 Try.results10 rfl) ?_
                  refine CSpec.close () ?_ ?_ (Ent.take del2 (Ent.take del1 (Ent.drop Ent.refl)))
                  · rfl
                  · trivial
                ·
                  replace h := ite_f hg11 h
                  refine CJ_skip ?_
                  refine QJ_then ?_
                  refine CJ_seq ?_
                  refine CJ_region ?_
                  refine RJ_op rfl (OJ_P (P_assign rfl) rfl ?_)
                  refine RJ_nil ?_
                  refine QJ_then ?_
                  refine CJ_seq ?_
                  refine CJ_seq ?_
                  refine CJ_region ?_
                  refine RJ_op rfl (OJ_P (P_assign rfl) rfl ?_)
                  refine RJ_nil ?_
                  refine QJ_then ?_
                  refine CJ_ent (fun h hh => sl_nil (t := tyU) h hh) ?_
                  obtain ⟨y79, hl77, hK78⟩ := bind_c h
                  refine CJ_cutT (X := (List UInt64) × Sl3) [16, 17, 18, 19, 20, 94, 95, 96, 97, 98, 99, 100, 101, 102, 103, 104, 105, 106, 107, 108, 109, 110, 111, 112, 113, 114, 115, 116, 117] (fun ⟨a82, hd81⟩ => ([(16, hd81.v)] : Slots)) (fun ⟨a82, hd81⟩ R => sl tyU hd81.v a82 :: R) (fun ⟨a82, hd81⟩ => y79 = a82) (Dels.cons del0 Dels.nil) ?_ ?_
                  ·
                    refine CJ_block ?_
                    refine CJ_loopR (X := Nat × (List UInt64) × Nat × Sl3) [16, 17, 18, 19, 20, 94, 95, 96, 97, 98, 99, 100, 101, 102, 103, 104, 105, 106, 107, 108, 109, 110, 111, 112, 113, 114, 115, 116, 117] (fun ⟨n, x83, x85, hd84⟩ => ([(16, hd84.v), (17, .int .i64 (((x85 : Nat) : Int)))] : Slots)) (fun ⟨n, x83, x85, hd84⟩ R => sl tyU hd84.v x83 :: R) (fun ⟨n, x83, x85, hd84⟩ => volumegrouplaw17_StripeSound_l2 chunk a20 r66 n x83 x85 = some y79) (fun ⟨n, x83, x85, hd84⟩ => n) ⟨FUEL, [], 0, ⟨none, 0, 0⟩⟩ ?_ ?_ Ent.refl ?_
                    · exact hl77
                    · exact ⟨rfl, rfl, True.intro⟩
                    ·
                      rintro ⟨n, x83, x85, hd84⟩ h
                      cases n with
                      | zero => exact none_e h
                      | succ n => ?_
                      replace h : volumegrouplaw17_StripeSound_l2_b chunk a20 r66 (volumegrouplaw17_StripeSound_l2 chunk a20 r66 n) x83 x85 = some y79 := h
                      unfold volumegrouplaw17_StripeSound_l2_b at h
                      show CJ _ _ _ _ _ (([(16, hd84.v), (17, .int .i64 (((x85 : Nat) : Int)))] : Slots) ++ forget _ _) (sl tyU hd84.v x83 :: _)
                      refine CJ_pure (len_of (Reads.sl _ _ _) del0) (fun hlen86 => ?_)
                      refine CJ_seq ?_
                      refine CJ_seq ?_
                      refine CJ_region ?_
                      refine RJ_op rfl (OJ_P (P_move rfl) rfl ?_)
                      refine RJ_op rfl (OJ_P (P_move rfl) rfl ?_)
                      refine RJ_op rfl (OJ_P (P_lss (a := ((x85 : Nat) : Int)) (b := r66.1) rfl rfl) rfl ?_)
                      refine RJ_nil ?_
                      refine QJ_then ?_
                      refine CJ_condP rfl bT_dec (fun hg12 => ?_) (fun hg12 => ?_)
                      ·
                        replace h := ite_t hg12 h
                        refine CJ_skip ?_
                        refine QJ_then ?_
                        refine CJ_seq ?_
                        refine CJ_block ?_
                        refine CJ_seq ?_
                        refine CJ_region ?_
                        refine RJ_op rfl (OJ_V (V_load rfl foc3 rfl Try.isAgg3) rfl ?_)
                        refine RJ_op rfl (OJ_P (P_move rfl) rfl ?_)
                        refine RJ_op rfl (OJ_V (V_len rfl foc1 (Reads.sl _ _ _) Try.runUnderlying58) rfl ?_)
                        refine RJ_op rfl (OJ_P (P_move rfl) rfl ?_)
                        obtain ⟨r87, hr88, h⟩ := bind_e h
                        refine RJ_op rfl (O_call (L_volumegroupref17_Place hr88) rfl Try.call43 Dels.nil rfl (fun _ _ => ?_))
                        refine RJ_op rfl (OJ_P (P_move rfl) rfl ?_)
                        refine RJ_op rfl (OJ_P (P_extract rfl rfl) rfl ?_)
                        refine RJ_op rfl (OJ_P (P_extract rfl rfl) rfl ?_)
                        refine RJ_op rfl (OJ_P (P_extract rfl rfl) rfl ?_)
                        refine RJ_op rfl (OJ_P (P_assign rfl) rfl ?_)
                        refine RJ_op rfl (OJ_P (P_assign rfl) rfl ?_)
                        refine RJ_op rfl (OJ_P (P_assign rfl) rfl ?_)
                        refine RJ_nil ?_
                        refine QJ_then ?_
                        refine CJ_region ?_
                        refine RJ_op rfl (OJ_P (P_move rfl) rfl ?_)
                        refine RJ_op rfl (OJ_P (P_move rfl) rfl ?_)
                        refine RJ_op rfl (OJ_P (P_move rfl) rfl ?_)
                        obtain ⟨hg13, h⟩ := grd_de h
                        refine RJ_op rfl (OJ_V (V_index (i := (r87.1).toNat) rfl rfl (Int.toNat_of_nonneg (hg13.1)).symm (by have hz : (r87.1).toNat < a20.1.length := (by omega); have hy := hdl46; omega) foc5 (Reads.sl _ _ _) Try.runUnderlying27 Try.sizeOf25) rfl ?_)
                        refine RJ_op rfl (OJ_V (V_loadE rfl rfl (by have hz : (r87.1).toNat < a20.1.length := (by omega); have hy := hdl46; omega) foc5 (Reads.sl _ _ _) rfl rfl Try.isAgg25) rfl ?_)
                        refine RJ_op rfl (OJ_P (P_move rfl) rfl ?_)
                        obtain ⟨hg14, h⟩ := grd_de h
                        refine RJ_op rfl (OJ_V (V_index (i := (r87.2.1).toNat) rfl rfl (Int.toNat_of_nonneg (hg14.1)).symm (by omega) foc6 ((RowsR.rs hdl46).2 _ (by omega)) Try.runUnderlying25 Try.sizeOf22) rfl ?_)
                        refine RJ_op rfl (OJ_V (V_loadE rfl rfl (by omega) foc6 ((RowsR.rs hdl46).2 _ (by omega)) rfl rfl Try.isAgg22) rfl ?_)
                        refine RJ_op rfl (O_buildSlice rfl (bs_25_1_0 _) rfl (fun b89 => ?_))
                        obtain ⟨hg15, h⟩ := grd_Le h
                        refine RJ_op rfl (O_append (t := tyU) (bytes := 8) rfl rfl del1 foc0 (Reads.lit (t := tyU) (ys := [(((a20.1.getD ((r87.1).toNat) [])).getD ((r87.2.1).toNat) 0)]) rfl rfl (by decide) (by decide) rfl) Try.underlying25 ok_tyU (apl (m := 1) (b := 8) hg15 (by decide)).1 (apl (m := 1) (b := 8) hg15 (by decide)).2 rfl (fun p91 c92 => ?_))
                        refine RJ_op rfl (OJ_P (P_assign rfl) rfl ?_)
                        refine RJ_nil ?_
                        refine QJ_block_normal ?_
                        refine QJ_ent (Ent.take del0 (Ent.take del1 (Ent.take del1 (Ent.take del1 (Ent.take del1 (Ent.take del1 (Ent.take del1 (Ent.take del1 (Ent.take del1 (Ent.drop Ent.refl)))))))))) ?_
                        refine QJ_then ?_
                        refine CJ_region ?_
                        refine RJ_op rfl (OJ_P (P_move rfl) rfl ?_)
                        obtain ⟨hg16, h⟩ := grd_Ne h
                        refine RJ_op rfl (OJ_P (PJ_eq (P_add (a := ((x85 : Nat) : Int)) (b := (1 : Int)) rfl rfl (nat_in hg16)) rfl) rfl ?_)
                        refine RJ_op rfl (OJ_P (P_assign rfl) rfl ?_)
                        refine RJ_nil ?_
                        refine QJ_nextR ⟨n, (x83 ++ [(((a20.1.getD ((r87.1).toNat) [])).getD ((r87.2.1).toNat) 0)]), (x85 + 1), ⟨p91, (x83 ++ [(((a20.1.getD ((r87.1).toNat) [])).getD ((r87.2.1).toNat) 0)]).length, c92⟩⟩ (Nat.lt_succ_self _) ?_ (by repeat (first | exact Kp.base | exact Kp.self | refine Kp.cons rfl ?_ | refine Kp.forget rfl ?_)) ?_ Ent.refl
                        · exact h
                        · exact ⟨rfl, rfl, True.intro⟩
                      ·
                        replace h := ite_f hg12 h
                        refine CJ_exit ?_
                        refine QJ_then_exit ?_
                        refine QJ_round_exit ?_
                        refine QJ_block_here ?_
                        refine QJ_cutR ⟨x83, hd84⟩ ?_ (by repeat (first | exact Kp.base | exact Kp.self | refine Kp.cons rfl ?_ | refine Kp.forget rfl ?_)) ?_ Ent.refl
                        · exact (Option.some.inj h).symm
                        · exact ⟨rfl, True.intro⟩
                  ·
                    rintro ⟨a82, hd81⟩ hy93
                    replace h := bindK_at hK78 hy93
                    show CJ _ _ _ _ _ (([(16, hd81.v)] : Slots) ++ forget _ _) (sl tyU hd81.v a82 :: _)
                    refine CJ_pure (len_of (Reads.sl _ _ _) del0) (fun hlen94 => ?_)
                    refine CJ_seq ?_
                    refine CJ_seq ?_
                    refine CJ_region ?_
                    refine RJ_op rfl (OJ_P (P_move rfl) rfl ?_)
                    refine RJ_op rfl (OJ_P (P_move rfl) rfl ?_)
                    exact none_e h
            ·
              rw [ht72]
              refine RJ_ent (Ent.takeC (A' := DevP X50 o73 X64) del2 rfl Ent.refl) ?_
              refine RJ_gy (GY_yes rfl rfl rfl hg9B) (OJ_P (P_eqlIfN (mbx (not_f hg9B) rfl) rfl Try.underlying31) rfl ?_)
              refine RJ_gy (GY_yes rfl rfl rfl hg9B) (OJ_P (P_move rfl) rfl ?_)
              refine RJ_gy (GY_yes rfl rfl rfl hg9B) (OJ_P (P_neq (a := r62.2) (b := (0 : Int)) rfl rfl) rfl ?_)
              refine RJ_gy (GY_yes rfl rfl rfl hg9B) (OJ_P (P_neqB rfl rfl Try.underlying4) rfl ?_)
              refine RJ_op rfl (OJ_P (P_pickF rfl hg9B rfl) rfl ?_)
              refine RJ_nil ?_
              refine QJ_then ?_
              refine CJ_condP rfl (bT_not (bT_beq Iff.rfl bT_dec)) (fun hg17 => ?_) (fun hg17 => ?_)
              ·
                replace h := ite_t hg17 h
                refine CJ_seq ?_
                refine CJ_region ?_
                refine RJ_op rfl (OJ_P (P_assign rfl) rfl ?_)
                refine RJ_nil ?_
                refine QJ_ent (Ent.take del2 (Ent.take del6 (Ent.take del6 (Ent.drop (Ent.drop (Ent.drop (Ent.drop (Ent.drop (Ent.drop Ent.refl))))))))) ?_
                refine QJ_then ?_
                refine CJ_ret ?_
                refine QJ_then_ret ?_
                have hE := Option.some.inj h
                subst hE
                refine QJ_end (res1 Try.results10 rfl) ?_
                refine CSpec.close () ?_ ?_ (Ent.take del2 (Ent.take del1 (Ent.drop Ent.refl)))
                · rfl
                · trivial
              ·
                replace h := ite_f hg17 h
                refine CJ_skip ?_
                refine QJ_then ?_
                refine CJ_seq ?_
                refine CJ_seq ?_
                refine CJ_region ?_
                refine RJ_op rfl (OJ_P (P_move rfl) rfl ?_)
                refine RJ_op rfl (OJ_P (P_neq (a := r62.2) (b := (0 : Int)) rfl rfl) rfl ?_)
                refine RJ_nil ?_
                refine QJ_then ?_
                refine CJ_condP rfl bT_dec (fun hg18 => ?_) (fun hg18 => ?_)
                ·
                  replace h := ite_t hg18 h
                  refine CJ_seq ?_
                  refine CJ_region ?_
                  obtain ⟨r95, hr96, h⟩ := bind_e h
                  refine RJ_op rfl (O_call (L_volumegrouplaw17_awake hr96) rfl Try.call40 Dels.nil rfl (fun _ _ => ?_))
                  refine RJ_op rfl (OJ_P (P_assign rfl) rfl ?_)
                  refine RJ_nil ?_
                  refine QJ_ent (Ent.take del2 (Ent.take del6 (Ent.take del6 (Ent.drop (Ent.drop (Ent.drop (Ent.drop (Ent.drop (Ent.drop Ent.refl))))))))) ?_
                  refine QJ_then ?_
                  refine CJ_ret ?_
                  refine QJ_then_ret ?_
                  have hE := Option.some.inj h
                  subst hE
                  refine QJ_end (res1 Try.results10 rfl) ?_
                  refine CSpec.close () ?_ ?_ (Ent.take del2 (Ent.take del1 (Ent.drop Ent.refl)))
                  · rfl
                  · trivial
                ·
                  replace h := ite_f hg18 h
                  refine CJ_skip ?_
                  refine QJ_then ?_
                  refine CJ_seq ?_
                  refine CJ_region ?_
                  refine RJ_op rfl (OJ_P (P_assign rfl) rfl ?_)
                  refine RJ_nil ?_
                  refine QJ_then ?_
                  refine CJ_seq ?_
                  refine CJ_seq ?_
                  refine CJ_region ?_
                  refine RJ_op rfl (OJ_P (P_assign rfl) rfl ?_)
                  refine RJ_nil ?_
                  refine QJ_then ?_
                  refine CJ_ent (fun h hh => sl_nil (t := tyU) h hh) ?_
                  obtain ⟨y100, hl98, hK99⟩ := bind_c h
                  refine CJ_cutT (X := (List UInt64) × Sl3) [16, 17, 18, 19, 20, 94, 95, 96, 97, 98, 99, 100, 101, 102, 103, 104, 105, 106, 107, 108, 109, 110, 111, 112, 113, 114, 115, 116, 117] (fun ⟨a103, hd102⟩ => ([(16, hd102.v)] : Slots)) (fun ⟨a103, hd102⟩ R => sl tyU hd102.v a103 :: R) (fun ⟨a103, hd102⟩ => y100 = a103) (Dels.cons del0 Dels.nil) ?_ ?_
                  ·
                    refine CJ_block ?_
                    refine CJ_loopR (X := Nat × (List UInt64) × Nat × Sl3) [16, 17, 18, 19, 20, 94, 95, 96, 97, 98, 99, 100, 101, 102, 103, 104, 105, 106, 107, 108, 109, 110, 111, 112, 113, 114, 115, 116, 117] (fun ⟨n, x104, x106, hd105⟩ => ([(16, hd105.v), (17, .int .i64 (((x106 : Nat) : Int)))] : Slots)) (fun ⟨n, x104, x106, hd105⟩ R => sl tyU hd105.v x104 :: R) (fun ⟨n, x104, x106, hd105⟩ => volumegrouplaw17_StripeSound_l3 chunk a20 r66 n x104 x106 = some y100) (fun ⟨n, x104, x106, hd105⟩ => n) ⟨FUEL, [], 0, ⟨none, 0, 0⟩⟩ ?_ ?_ Ent.refl ?_
                    · exact hl98
                    · exact ⟨rfl, rfl, True.intro⟩
                    ·
                      rintro ⟨n, x104, x106, hd105⟩ h
                      cases n with
                      | zero => exact none_e h
                      | succ n => ?_
                      replace h : volumegrouplaw17_StripeSound_l3_b chunk a20 r66 (volumegrouplaw17_StripeSound_l3 chunk a20 r66 n) x104 x106 = some y100 := h
                      unfold volumegrouplaw17_StripeSound_l3_b at h
                      show CJ _ _ _ _ _ (([(16, hd105.v), (17, .int .i64 (((x106 : Nat) : Int)))] : Slots) ++ forget _ _) (sl tyU hd105.v x104 :: _)
                      refine CJ_pure (len_of (Reads.sl _ _ _) del0) (fun hlen107 => ?_)
                      refine CJ_seq ?_
                      refine CJ_seq ?_
                      refine CJ_region ?_
                      refine RJ_op rfl (OJ_P (P_move rfl) rfl ?_)
                      refine RJ_op rfl (OJ_P (P_move rfl) rfl ?_)
                      refine RJ_op rfl (OJ_P (P_lss (a := ((x106 : Nat) : Int)) (b := r66.1) rfl rfl) rfl ?_)
                      refine RJ_nil ?_
                      refine QJ_then ?_
                      refine CJ_condP rfl bT_dec (fun hg19 => ?_) (fun hg19 => ?_)
                      ·
                        replace h := ite_t hg19 h
                        refine CJ_skip ?_
                        refine QJ_then ?_
                        refine CJ_seq ?_
                        refine CJ_block ?_
                        refine CJ_seq ?_
                        refine CJ_region ?_
                        refine RJ_op rfl (OJ_V (V_load rfl foc4 rfl Try.isAgg3) rfl ?_)
                        refine RJ_op rfl (OJ_P (P_move rfl) rfl ?_)
                        refine RJ_op rfl (OJ_V (V_len rfl foc2 (Reads.sl _ _ _) Try.runUnderlying58) rfl ?_)
                        refine RJ_op rfl (OJ_P (P_move rfl) rfl ?_)
                        obtain ⟨r108, hr109, h⟩ := bind_e h
                        refine RJ_op rfl (O_call (L_volumegroupref17_Place hr109) rfl Try.call43 Dels.nil rfl (fun _ _ => ?_))
                        refine RJ_op rfl (OJ_P (P_move rfl) rfl ?_)
                        refine RJ_op rfl (OJ_P (P_extract rfl rfl) rfl ?_)
                        refine RJ_op rfl (OJ_P (P_extract rfl rfl) rfl ?_)
                        refine RJ_op rfl (OJ_P (P_extract rfl rfl) rfl ?_)
                        refine RJ_op rfl (OJ_P (P_assign rfl) rfl ?_)
                        refine RJ_op rfl (OJ_P (P_assign rfl) rfl ?_)
                        refine RJ_op rfl (OJ_P (P_assign rfl) rfl ?_)
                        refine RJ_nil ?_
                        refine QJ_then ?_
                        refine CJ_region ?_
                        refine RJ_op rfl (OJ_P (P_move rfl) rfl ?_)
                        refine RJ_op rfl (OJ_P (P_move rfl) rfl ?_)
                        refine RJ_op rfl (OJ_P (P_move rfl) rfl ?_)
                        obtain ⟨hg20, h⟩ := grd_de h
                        refine RJ_op rfl (OJ_V (V_index (i := (r108.1).toNat) rfl rfl (Int.toNat_of_nonneg (hg20.1)).symm (by have hz : (r108.1).toNat < a20.1.length := (by omega); have hy := hdl46; omega) foc6 (Reads.sl _ _ _) Try.runUnderlying27 Try.sizeOf25) rfl ?_)
                        refine RJ_op rfl (OJ_V (V_loadE rfl rfl (by have hz : (r108.1).toNat < a20.1.length := (by omega); have hy := hdl46; omega) foc6 (Reads.sl _ _ _) rfl rfl Try.isAgg25) rfl ?_)
                        refine RJ_op rfl (OJ_P (P_move rfl) rfl ?_)
                        obtain ⟨hg21, h⟩ := grd_de h
                        refine RJ_op rfl (OJ_V (V_index (i := (r108.2.1).toNat) rfl rfl (Int.toNat_of_nonneg (hg21.1)).symm (by omega) foc7 ((RowsR.rs hdl46).2 _ (by omega)) Try.runUnderlying25 Try.sizeOf22) rfl ?_)
                        refine RJ_op rfl (OJ_V (V_loadE rfl rfl (by omega) foc7 ((RowsR.rs hdl46).2 _ (by omega)) rfl rfl Try.isAgg22) rfl ?_)
                        refine RJ_op rfl (O_buildSlice rfl (bs_25_1_0 _) rfl (fun b110 => ?_))
                        obtain ⟨hg22, h⟩ := grd_Le h
                        refine RJ_op rfl (O_append (t := tyU) (bytes := 8) rfl rfl del1 foc0 (Reads.lit (t := tyU) (ys := [(((a20.1.getD ((r108.1).toNat) [])).getD ((r108.2.1).toNat) 0)]) rfl rfl (by decide) (by decide) rfl) Try.underlying25 ok_tyU (apl (m := 1) (b := 8) hg22 (by decide)).1 (apl (m := 1) (b := 8) hg22 (by decide)).2 rfl (fun p112 c113 => ?_))
                        refine RJ_op rfl (OJ_P (P_assign rfl) rfl ?_)
                        refine RJ_nil ?_
                        refine QJ_block_normal ?_
                        refine QJ_ent (Ent.take del0 (Ent.take del1 (Ent.take del1 (Ent.take del1 (Ent.take del1 (Ent.take del1 (Ent.take del1 (Ent.take del1 (Ent.take del1 (Ent.take del1 (Ent.drop Ent.refl))))))))))) ?_
                        refine QJ_then ?_
                        refine CJ_region ?_
                        refine RJ_op rfl (OJ_P (P_move rfl) rfl ?_)
                        obtain ⟨hg23, h⟩ := grd_Ne h
                        refine RJ_op rfl (OJ_P (PJ_eq (P_add (a := ((x106 : Nat) : Int)) (b := (1 : Int)) rfl rfl (nat_in hg23)) rfl) rfl ?_)
                        refine RJ_op rfl (OJ_P (P_assign rfl) rfl ?_)
                        refine RJ_nil ?_
                        refine QJ_nextR ⟨n, (x104 ++ [(((a20.1.getD ((r108.1).toNat) [])).getD ((r108.2.1).toNat) 0)]), (x106 + 1), ⟨p112, (x104 ++ [(((a20.1.getD ((r108.1).toNat) [])).getD ((r108.2.1).toNat) 0)]).length, c113⟩⟩ (Nat.lt_succ_self _) ?_ (by repeat (first | exact Kp.base | exact Kp.self | refine Kp.cons rfl ?_ | refine Kp.forget rfl ?_)) ?_ Ent.refl
                        · exact h
                        · exact ⟨rfl, rfl, True.intro⟩
                      ·
                        replace h := ite_f hg19 h
                        refine CJ_exit ?_
                        refine QJ_then_exit ?_
                        refine QJ_round_exit ?_
                        refine QJ_block_here ?_
                        refine QJ_cutR ⟨x104, hd105⟩ ?_ (by repeat (first | exact Kp.base | exact Kp.self | refine Kp.cons rfl ?_ | refine Kp.forget rfl ?_)) ?_ Ent.refl
                        · exact (Option.some.inj h).symm
                        · exact ⟨rfl, True.intro⟩
                  ·
                    rintro ⟨a103, hd102⟩ hy114
                    replace h := bindK_at hK99 hy114
                    show CJ _ _ _ _ _ (([(16, hd102.v)] : Slots) ++ forget _ _) (sl tyU hd102.v a103 :: _)
                    refine CJ_pure (len_of (Reads.sl _ _ _) del0) (fun hlen115 => ?_)
                    refine CJ_seq ?_
                    refine CJ_seq ?_
                    refine CJ_region ?_
                    refine RJ_op rfl (OJ_P (P_move rfl) rfl ?_)
                    refine RJ_op rfl (OJ_P (P_move rfl) rfl ?_)
                    refine RJ_pure (fun h hh => DevP_dep h (stars_perm (del1 (A := DevP X50 o73 X64)).out h hh)) (fun hdp116 => ?_)
                    obtain ⟨r117, hr118, h⟩ := bind_e h
                    refine RJ_op rfl (O_callI rfl (dev_Read hr118 hdp116) rfl (Dels.cons del1 (Dels.cons del2 Dels.nil)) rfl (fun _ _ => ?_))
                    refine RJ_op rfl (OJ_P (P_move rfl) rfl ?_)
                    refine RJ_op rfl (OJ_P (P_extract rfl rfl) rfl ?_)
                    refine RJ_op rfl (OJ_P (P_extract rfl rfl) rfl ?_)
                    refine RJ_op rfl (OJ_P (P_assign rfl) rfl ?_)
                    refine RJ_op rfl (OJ_P (P_assign rfl) rfl ?_)
                    refine RJ_nil ?_
                    refine QJ_ent (Ent.take del0 (Ent.take del0 (Ent.take del0 (Ent.take del1 (Ent.take del1 (Ent.take del3 (Ent.take del3 (Ent.drop (Ent.drop (Ent.drop Ent.refl)))))))))) ?_
                    refine QJ_then ?_
                    refine CJ_seq ?_
                    refine CJ_region ?_
                    refine RJ_op rfl (OJ_P (P_move rfl) rfl ?_)
                    refine RJ_op rfl (OJ_P (P_neq (a := r117.2) (b := (1 : Int)) rfl rfl) rfl ?_)
                    refine RJ_op rfl (OJ_P (P_move rfl) rfl ?_)
                    refine RJ_splitP 126 rfl bT_dec (fun hg24B hg24 => ?_) (fun hg24B hg24 => ?_)
                    ·
                      replace h := ite_t hg24 h
                      refine RJ_gn (GY_no rfl rfl rfl hg24B) rfl rfl ?_
                      refine RJ_gn (GY_no rfl rfl rfl hg24B) rfl rfl ?_
                      refine RJ_gn (GY_no rfl rfl rfl hg24B) rfl rfl ?_
                      refine RJ_op rfl (OJ_P (P_pickT rfl hg24B rfl) rfl ?_)
                      refine RJ_nil ?_
                      refine QJ_ent (Ent.take del1 (Ent.take del1 (Ent.take del1 (Ent.take del1 (Ent.take del1 (Ent.take del1 (Ent.drop Ent.refl))))))) ?_
                      refine QJ_then ?_
                      refine CJ_condT rfl rfl ?_
                      refine CJ_seq ?_
                      refine CJ_region ?_
                      refine RJ_op rfl (OJ_P (P_assign rfl) rfl ?_)
                      refine RJ_nil ?_
                      refine QJ_then ?_
                      refine CJ_ret ?_
                      refine QJ_then_ret ?_
                      have hE := Option.some.inj h
                      subst hE
                      refine QJ_end (res1 Try.results10 rfl) ?_
                      refine CSpec.close () ?_ ?_ (Ent.take del5 (Ent.take del4 (Ent.drop (Ent.drop (Ent.drop (Ent.drop Ent.refl))))))
                      · rfl
                      · trivial
                    ·
                      replace h := ite_f hg24 h
                      refine RJ_gy (GY_yes rfl rfl rfl hg24B) (OJ_P (P_move rfl) rfl ?_)
                      refine RJ_pure (fun h hh => DevP_dep h (stars_perm (del0 (A := DevP X50 o73 X64)).out h hh)) (fun hdp119 => ?_)
                      obtain ⟨r120, hr121, h⟩ := bind_e h
                      refine RJ_gy (GY_yes rfl rfl rfl hg24B) (O_callI rfl (dev_Write hr121 hdp119) rfl (Dels.cons del0 (Dels.cons del0 Dels.nil)) rfl (fun _ _ => ?_))
                      refine RJ_gy (GY_yes rfl rfl rfl hg24B) (OJ_P (P_neq (a := r120.1) (b := (1 : Int)) rfl rfl) rfl ?_)
                      refine RJ_op rfl (OJ_P (P_pickF rfl hg24B rfl) rfl ?_)
                      refine RJ_nil ?_
                      refine QJ_ent (Ent.take del1 (Ent.take del1 (Ent.take del1 (Ent.take del1 (Ent.take del1 (Ent.take del1 (Ent.drop Ent.refl))))))) ?_
                      refine QJ_then ?_
                      refine CJ_condP rfl bT_dec (fun hg25 => ?_) (fun hg25 => ?_)
                      ·
                        replace h := ite_t hg25 h
                        refine CJ_seq ?_
                        refine CJ_region ?_
                        refine RJ_op rfl (OJ_P (P_assign rfl) rfl ?_)
                        refine RJ_nil ?_
                        refine QJ_then ?_
                        refine CJ_ret ?_
                        refine QJ_then_ret ?_
                        have hE := Option.some.inj h
                        subst hE
                        refine QJ_end (res1 Try.results10 rfl) ?_
                        refine CSpec.close () ?_ ?_ (Ent.take del5 (Ent.take del4 (Ent.drop (Ent.drop (Ent.drop (Ent.drop Ent.refl))))))
                        · rfl
                        · trivial
                      ·
                        replace h := ite_f hg25 h
                        refine CJ_skip ?_
                        refine QJ_then ?_
                        refine CJ_seq ?_
                        refine CJ_region ?_
                        refine RJ_op rfl (OJ_P (P_makeFunc rfl rfl) rfl ?_)
                        refine RJ_op rfl (OJ_P (P_assign rfl) rfl ?_)
                        refine RJ_nil ?_
                        refine QJ_then ?_
                        refine CJ_seq ?_
                        refine CJ_region ?_
                        refine RJ_op rfl (OJ_V (V_load rfl foc3 rfl Try.isAgg23) rfl ?_)
                        refine RJ_op rfl (OJ_P (P_move rfl) rfl ?_)
                        refine RJ_op rfl (OJ_P (P_move rfl) rfl ?_)
                        refine RJ_op rfl (OJ_P (P_move rfl) rfl ?_)
                        obtain ⟨r122, hr123, h⟩ := bind_e h
                        refine RJ_op rfl (O_call (L_volumegroupmake_Sound__volumegrouplaw17_StripeSound_1 (Reads.sl _ _ _) rsteps hr123) rfl Try.call32 (Dels.cons del0 (Dels.cons del2 (Dels.cons del1 (Dels.cons del0 (Dels.cons del0 Dels.nil))))) rfl (fun _ _ => ?_))
                        refine RJ_op rfl (OJ_P (P_move rfl) rfl ?_)
                        refine RJ_splitP 137 rfl Iff.rfl (fun hg26B hg26 => ?_) (fun hg26B hg26 => ?_)
                        ·
                          replace h := ite_t hg26 h
                          obtain ⟨r124, hr125, h⟩ := bind_e h
                          refine RJ_gy (GY_yes rfl rfl rfl hg26B) (O_call (L_volumegrouplaw17_awake hr125) rfl Try.call40 Dels.nil rfl (fun _ _ => ?_))
                          refine RJ_op rfl (OJ_P (P_pickT rfl hg26B rfl) rfl ?_)
                          refine RJ_op rfl (OJ_P (P_assign rfl) rfl ?_)
                          refine RJ_nil ?_
                          refine QJ_then ?_
                          refine CJ_ret ?_
                          have hE := Option.some.inj h
                          subst hE
                          refine QJ_end (res1 Try.results10 rfl) ?_
                          refine CSpec.close () ?_ ?_ (Ent.take del5 (Ent.take del4 (Ent.drop (Ent.drop (Ent.drop (Ent.drop Ent.refl))))))
                          · rfl
                          · trivial
                        ·
                          replace h := ite_f hg26 h
                          refine RJ_gn (GY_no rfl rfl rfl hg26B) rfl rfl ?_
                          refine RJ_op rfl (OJ_P (P_pickF rfl hg26B rfl) rfl ?_)
                          refine RJ_op rfl (OJ_P (P_assign rfl) rfl ?_)
                          refine RJ_nil ?_
                          refine QJ_then ?_
                          refine CJ_ret ?_
                          have hE := Option.some.inj h
                          subst hE
                          refine QJ_end (res1 Try.results10 rfl) ?_
                          refine CSpec.close () ?_ ?_ (Ent.take del5 (Ent.take del4 (Ent.drop (Ent.drop (Ent.drop (Ent.drop Ent.refl))))))
                          · rfl
                          · trivial

end Go.Proofs
