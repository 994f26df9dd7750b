/- RingKeeps, part 5 of the proof: LRingKeeps, PRingKeeps. -/
import Derived.WalkKit
import Derived.Orders
import Derived.RangeFuncLeaves
import Derived.RangeFuncCalls
import Derived.TacticsIn
import Derived.Handy
import Derived.OrdersHeld
import Derived.OrdersIn
import Derived.Below
import Derived.OpenShut
import Derived.Deep.Slices
import Derived.Scope
import Derived.KernelRfl
import Derived.RangeFuncRecord
import Derived.ChangeKeysEq
import Derived.Laws.BytesArg
import Derived.ProofKit
import Derived.ShutString
import Derived.ChangeOld
import Derived.Test.YtkgnkalogghdgaaChecked
import Derived.Test.YtkgnkalogghdgaaRows
import Derived.Test.YtkgnkalogghdgaaZRingKeeps4
set_option linter.unusedSimpArgs false
set_option linter.unusedVariables false
set_option maxRecDepth 20000
set_option maxHeartbeats 4000000
namespace Go.Proofs
open Go.VG
def volumegrouplaw12_RingKeeps_l1_b (texts : List ByteArray) (o11 : Dvc) (rec : ArrS → ByteArray → Nat → Nat → Option ((ByteArray × Nat × ArrS) ⊕ Bool)) (x25 : ArrS) (x26 : ByteArray) (x27 : Nat) (x28 : Nat) : Option ((ByteArray × Nat × ArrS) ⊕ Bool) :=
  if (((x28 : Nat) : Int) < ((texts.length : Nat) : Int)) then
    Option.bind ((
      if ((100 : Int) < (((texts.getD x28 ByteArray.empty).size : Nat) : Int)) then
        grd (decide (0 ≤ 100 ∧ 100 ≤ (texts.getD x28 ByteArray.empty).size)) <|
        some ((strSub (texts.getD x28 ByteArray.empty) 0 100))
      else
        some (texts.getD x28 ByteArray.empty) : Option (ByteArray))) fun a33 =>
    Option.bind (ring_Prepare o11 ((((x28 + 2) : Nat) : Int)) a33 x25) fun r35 =>
    if (r35.1 ≠ (0 : Int)) then
      some (.inr false)
    else
      Option.bind (ring_Read o11 r35.2) fun r37 =>
      Option.bind (ring_Seqs o11 r35.2) fun r40 =>
      if (r37.2 ≠ (0 : Int)) then
        some (.inr false)
      else
        if ((((r37.1 ≠ (⟨true, (1 : Int), (ByteArray.mk #[107, 101, 112, 116])⟩ : api_Copy)) ∨ (r40.2.2 ≠ (0 : Int))) ∨ (r40.1 ≠ (1 : Int))) ∨ (r40.2.1 ≠ (((x28 + 2) : Nat) : Int))) then
          some (.inr false)
        else
          rec r35.2 a33 (x28 + 2) (x28 + 1)
  else
    some (.inl (x26, x27, x25))
def volumegrouplaw12_RingKeeps_l1 (texts : List ByteArray) (o11 : Dvc) : Nat → ArrS → ByteArray → Nat → Nat → Option ((ByteArray × Nat × ArrS) ⊕ Bool)
  | 0, _, _, _, _ => none
  | n + 1, x25, x26, x27, x28 => volumegrouplaw12_RingKeeps_l1_b texts o11 (volumegrouplaw12_RingKeeps_l1 texts o11 n) x25 x26 x27 x28
def volumegrouplaw12_RingKeeps (texts : List ByteArray) : Option (Bool) :=
  if ((12 : Int) < ((texts.length : Nat) : Int)) then
    Option.bind (volumegrouplaw12_awake) fun r2 =>
    some r2
  else
    Option.bind (volumegrouplaw12_area ((List.replicate 30 (0 : UInt64)))) fun r5 =>
    Option.elim r5.2 (
      some false) fun o11 =>
    Option.elim r5.1 (
      none) fun o13 =>
    Option.bind (ring_Prepare o11 (1 : Int) (ByteArray.mk #[107, 101, 112, 116]) o13) fun r14 =>
    if (r14.1 ≠ (0 : Int)) then
      some false
    else
      Option.bind (ring_Switch o11 r14.2) fun r16 =>
      if (r16.1 ≠ (0 : Int)) then
        some false
      else
        seqO (volumegrouplaw12_RingKeeps_l1 texts o11 FUEL r16.2 (ByteArray.mk #[107, 101, 112, 116]) 1 0) fun a24 =>
        Option.bind (ring_Switch o11 a24.2.2) fun r57 =>
        if (r57.1 ≠ (0 : Int)) then
          some false
        else
          Option.bind (ring_Read o11 r57.2) fun r59 =>
          if (r59.2 = (0 : Int)) then
            if (r59.1 = (⟨true, ((a24.2.1 : Nat) : Int), a24.1⟩ : api_Copy)) then
              Option.bind (volumegrouplaw12_awake) fun r62 =>
              some r62
            else
              some false
          else
            some false
theorem L_volumegrouplaw12_RingKeeps {W : World} {Atexts : HP} {vtexts : Value} {texts : List ByteArray} {r : Bool} (rtexts : Reads Atexts tyS vtexts texts) (h : volumegrouplaw12_RingKeeps texts = some r) :
    CSpec Try.prog W 5 [vtexts] [Atexts] (fun x : Unit => .bool r) (fun _ => True) (fun x F => Atexts :: F) := by
 refine CSpec.of_body Try.func5 rfl Try.ntmps5 rfl fun F => ?_
 show CJ _ _ _ _ _ _ (_ :: F)
 unfold volumegrouplaw12_RingKeeps at h
 refine CJ_pure (len_of rtexts del0) fun hlen1 => sR <| oA rfl rfl <| nT <| CJ_seq <| sR <| oM rfl rfl <| oV (V_len rfl foc0 rtexts Try.runUnderlying43) rfl <| oP (P_gtr (a := ((texts.length : Nat) : Int)) (b := (12 : Int)) rfl rfl) rfl <| nT <| CJ_condP rfl bT_dec (fun hg1 => ?_) (fun hg1 => ?_)
 ·
  replace h := ite_t hg1 h
  refine sR ?_
  obtain ⟨r2, hr3, h⟩ := bind_e h
  refine oO <| O_call (L_volumegrouplaw12_awake hr3) rfl Try.call14 Dels.nil rfl fun _ _ => oA rfl rfl <| nT <| CJ_ret <| QJ_then_ret ?_
  cases h
  exact fE (res1 Try.results5 rfl) () eR
 ·
  replace h := ite_f hg1 h
  refine kT <| sR <| oO <| O_make (t := tyU) (m := 30) (x0 := 0) (z := _) (bytes := _) rfl rfl rfl rfl Try.underlying29 ⟨Try.t39, by kernel_rfl, rfl, rfl, rfl⟩ rfl (by omega) (by decide) rfl fun b4 => ?_
  obtain ⟨r5, hr6, h⟩ := bind_e h
  refine oO <| O_call (L_volumegrouplaw12_area (Reads.sl _ _ _) hr6) rfl Try.call15 (Dels.cons del0 Dels.nil) rfl fun X7 _ => oM rfl rfl <| oP (P_extract rfl rfl) rfl <| oP (P_extract rfl rfl) rfl <| oA rfl rfl <| oA rfl rfl <| nT <| CJ_seq <| sR <| oM rfl rfl ?_
  rcases opt_e h with ⟨ht10, h⟩ | ⟨o11, ht10, h⟩
  ·
   rw [ht10]
   refine RJ_ent (t0_ (t0_ (t1_ (eD eR)))) <| oP (P_eqlIN rfl Try.underlying26) rfl <| oM rfl rfl <| RJ_gn (GY_no rfl rfl rfl rfl) rfl rfl <| RJ_gn (GY_no rfl rfl rfl rfl) rfl rfl <| RJ_gn (GY_no rfl rfl rfl rfl) rfl rfl <| oP (P_pickT rfl rfl rfl) rfl <| oM rfl rfl <| RJ_gn (GY_no rfl rfl rfl rfl) rfl rfl <| RJ_gn (GY_no rfl rfl rfl rfl) rfl rfl <| RJ_gn (GY_no rfl rfl rfl rfl) rfl rfl <| oP (P_pickT rfl rfl rfl) rfl <| nT <| CJ_condT rfl rfl <| sR <| oA rfl rfl <| nT <| CJ_ret <| QJ_then_ret ?_
   cases h
   exact fE (res1 Try.results5 rfl) () (t2_ (eD (eD eR)))
  ·
   rw [ht10]
   refine RJ_ent (Ent.takeC (A' := DevP X7.1 o11 X7.2) del2 rfl eR) <| oP (P_eqlIfN rfl rfl Try.underlying26) rfl <| oM rfl rfl <| gP (GY_yes rfl rfl rfl rfl) (P_move rfl) rfl ?_
   rcases opt_e h with ⟨ht12, h⟩ | ⟨o13, ht12, h⟩
   ·
    rw [ht12]
    exact RJ_ent (t0_ (t0_ (t1_ (eD eR)))) <| none_e h
   ·
    rw [ht12]
    refine RJ_ent (Ent.takeC (A' := Arr X7.1 o13) del2 rfl eR) ?_
    obtain ⟨r14, hr15, h⟩ := bind_e h
    refine RJ_gy (GY_yes rfl rfl rfl rfl) <| O_call (L_ring_Prepare hr15) rfl Try.call16 (Dels.cons del1 (Dels.cons del0 Dels.nil)) rfl fun _ _ => gP (GY_yes rfl rfl rfl rfl) (P_neq (a := r14.1) (b := (0 : Int)) rfl rfl) rfl <| oP (P_pickF rfl rfl rfl) rfl <| oM rfl rfl <| RJ_splitP 32 rfl bT_dec (fun hg2B hg2 => ?_) (fun hg2B hg2 => ?_)
    ·
     replace h := ite_t hg2 h
     refine RJ_gn (GY_no rfl rfl rfl hg2B) rfl rfl <| RJ_gn (GY_no rfl rfl rfl hg2B) rfl rfl <| RJ_gn (GY_no rfl rfl rfl hg2B) rfl rfl <| oP (P_pickT rfl hg2B rfl) rfl <| nT <| CJ_condT rfl rfl <| sR <| oA rfl rfl <| nT <| CJ_ret <| QJ_then_ret ?_
     cases h
     exact fE (res1 Try.results5 rfl) () (t3_ (eD (eD (eD eR))))
    ·
     replace h := ite_f hg2 h
     refine gP (GY_yes rfl rfl rfl hg2B) (P_move rfl) rfl ?_
     obtain ⟨r16, hr17, h⟩ := bind_e h
     refine RJ_gy (GY_yes rfl rfl rfl hg2B) <| O_call (L_ring_Switch hr17) rfl Try.call17 (Dels.cons del0 (Dels.cons del0 Dels.nil)) rfl fun _ _ => gP (GY_yes rfl rfl rfl hg2B) (P_neq (a := r16.1) (b := (0 : Int)) rfl rfl) rfl <| oP (P_pickF rfl hg2B rfl) rfl <| nT <| CJ_condP rfl bT_dec (fun hg3 => ?_) (fun hg3 => ?_)
     ·
      replace h := ite_t hg3 h
      refine sR <| oA rfl rfl <| nT <| CJ_ret <| QJ_then_ret ?_
      cases h
      exact fE (res1 Try.results5 rfl) () (t3_ (eD (eD (eD eR))))
     ·
      replace h := ite_f hg3 h
      refine kT <| sR <| oA rfl rfl <| oA rfl rfl <| nT <| CJ_seq <| sR <| oA rfl rfl <| nT ?_
      obtain ⟨y20, hl18, hK19⟩ := seq_e h
      refine CJ_cutT (X := ByteArray × Nat × ArrS) [2, 5, 6, 7, 8, 9, 10, 11, 12, 13, 37, 38, 39, 40, 41, 42, 43, 44, 45, 46, 47, 48, 49, 50, 51, 52, 53, 54, 55, 56, 57, 58, 59, 60, 61, 62, 63, 64, 65, 66, 67, 68, 69, 70, 71, 72, 73, 74, 75, 76, 77, 78, 79, 80, 81, 82, 83, 84, 85, 86, 87, 88, 89, 90, 91] (fun a24 => ([(5, .string a24.1), (6, .int .i64 (((a24.2.1 : Nat) : Int)))] : Slots)) (fun a24 R => Arr X7.1 a24.2.2 :: R) (fun a24 => y20 = .inl a24) (Dels.cons del1 Dels.nil) ?_ ?_
      ·
       refine CJ_block <| CJ_loopR (X := Nat × ArrS × ByteArray × Nat × Nat) [2, 5, 6, 7, 8, 9, 10, 11, 12, 13, 37, 38, 39, 40, 41, 42, 43, 44, 45, 46, 47, 48, 49, 50, 51, 52, 53, 54, 55, 56, 57, 58, 59, 60, 61, 62, 63, 64, 65, 66, 67, 68, 69, 70, 71, 72, 73, 74, 75, 76, 77, 78, 79, 80, 81, 82, 83, 84, 85, 86, 87, 88, 89, 90, 91] (fun ⟨n, x25, x26, x27, x28⟩ => ([(5, .string x26), (6, .int .i64 (((x27 : Nat) : Int))), (7, .int .i64 (((x28 : Nat) : Int)))] : Slots)) (fun ⟨n, x25, x26, x27, x28⟩ R => Arr X7.1 x25 :: R) (fun ⟨n, x25, x26, x27, x28⟩ => volumegrouplaw12_RingKeeps_l1 texts o11 n x25 x26 x27 x28 = some y20) (fun ⟨n, x25, x26, x27, x28⟩ => n) ⟨FUEL, r16.2, (ByteArray.mk #[107, 101, 112, 116]), 1, 0⟩ ?_ ?_ (t1_ eR) ?_
       · exact hl18
       · exact ⟨rfl, rfl, rfl, True.intro⟩
       ·
        rintro ⟨n, x25, x26, x27, x28⟩ h
        cases n with
        | zero => exact none_e h
        | succ n => ?_
        replace h : volumegrouplaw12_RingKeeps_l1_b texts o11 (volumegrouplaw12_RingKeeps_l1 texts o11 n) x25 x26 x27 x28 = some y20 := h
        unfold volumegrouplaw12_RingKeeps_l1_b at h
        show CJ _ _ _ _ _ (([(5, .string x26), (6, .int .i64 (((x27 : Nat) : Int))), (7, .int .i64 (((x28 : Nat) : Int)))] : Slots) ++ forget _ _) (Arr X7.1 x25 :: _)
        refine CJ_seq <| sR <| oM rfl rfl <| oM rfl rfl <| oV (V_len rfl foc3 rtexts Try.runUnderlying43) rfl <| oP (P_lss (a := ((x28 : Nat) : Int)) (b := ((texts.length : Nat) : Int)) rfl rfl) rfl <| nT <| CJ_condP rfl bT_dec (fun hg4 => ?_) (fun hg4 => ?_)
        ·
         replace h := ite_t hg4 h
         refine kT <| CJ_seq <| CJ_block <| sR <| oM rfl rfl <| oM rfl rfl <| oV (V_index (i := x28) rfl rfl rfl (by omega) foc3 rtexts Try.runUnderlying43 Try.sizeOf9) rfl <| oV (V_loadE rfl rfl (by omega) foc3 rtexts rfl rfl Try.isAgg9) rfl <| oA rfl rfl <| nT <| CJ_seq <| sR <| oM rfl rfl <| oP (P_lenS (b := (texts.getD x28 ByteArray.empty)) rfl Try.runUnderlying9) rfl <| oP (P_gtr (a := (((texts.getD x28 ByteArray.empty).size : Nat) : Int)) (b := (100 : Int)) rfl rfl) rfl <| nT ?_
         obtain ⟨y31, hl29, hK30⟩ := bind_c h
         refine CJ_cutT (X := ByteArray) [8, 50, 51] (fun a33 => ([(8, .string a33)] : Slots)) (fun a33 R => R) (fun a33 => y31 = a33) Dels.nil ?_ ?_
         ·
          have h := hl29
          refine CJ_condP rfl bT_dec (fun hg5 => ?_) (fun hg5 => ?_)
          ·
           replace h := ite_t hg5 h
           refine CJ_region <| oM rfl rfl ?_
           obtain ⟨hg6, h⟩ := grd_de h
           exact oP (P_sliceS (b := (texts.getD x28 ByteArray.empty)) (l := 0) (h := 100) rfl rfl ⟨_, rfl⟩ (by omega) (by omega) Try.runUnderlying9) rfl <| oA rfl rfl <| RJ_nil <| cR (strSub (texts.getD x28 ByteArray.empty) 0 100) (Option.some.inj h).symm ⟨rfl, True.intro⟩ eR
          ·
           replace h := ite_f hg5 h
           exact CJ_skip <| cR (texts.getD x28 ByteArray.empty) (Option.some.inj h).symm ⟨rfl, True.intro⟩ eR
         ·
          rintro a33 hy34
          replace h := bindK_at hK30 hy34
          show CJ _ _ _ _ _ (([(8, .string a33)] : Slots) ++ forget _ _) (_)
          refine CJ_seq <| sR <| oM rfl rfl <| oM rfl rfl <| oP (PJ_eq (P_add (a := ((x28 : Nat) : Int)) (b := (2 : Int)) rfl rfl (by omega)) rfl) rfl <| oM rfl rfl ?_
          obtain ⟨r35, hr36, h⟩ := bind_e h
          refine oO <| O_call (L_ring_Prepare hr36) rfl Try.call16 (Dels.cons del1 (Dels.cons del0 Dels.nil)) rfl fun _ _ => oP (P_neq (a := r35.1) (b := (0 : Int)) rfl rfl) rfl <| nT <| CJ_condP rfl bT_dec (fun hg7 => ?_) (fun hg7 => ?_)
          ·
           replace h := ite_t hg7 h
           refine sR <| oA rfl rfl <| nT <| CJ_ret <| QJ_then_ret <| QJ_block_ret <| QJ_then_ret <| QJ_round_ret <| QJ_block_ret <| QJ_then_ret ?_
           have hE := Option.some.inj h
           replace hE := seq_inr hK19 hE.symm
           subst hE
           exact fE (res1 Try.results5 rfl) () (t3_ (eD (eD (eD eR))))
          ·
           replace h := ite_f hg7 h
           refine kT <| sR <| oM rfl rfl <| oM rfl rfl <| oP (PJ_eq (P_add (a := ((x28 : Nat) : Int)) (b := (2 : Int)) rfl rfl (by omega)) rfl) rfl <| oA rfl rfl <| oA rfl rfl <| nT <| sR <| oM rfl rfl ?_
           obtain ⟨r37, hr38, h⟩ := bind_e h
           refine oO <| O_call (L_ring_Read hr38) rfl Try.call18 (Dels.cons del0 (Dels.cons del0 Dels.nil)) rfl fun _ _ => oM rfl rfl <| oP (P_extract rfl rfl) rfl <| oP (P_extract rfl rfl) rfl <| oO <| O_alloc Try.zeroValue34 rfl rfl fun b39 => oO <| O_storeN rfl rfl foc0 Try.sizeOf34 rfl rfl rfl <| oA rfl rfl <| nT <| sR <| oM rfl rfl ?_
           obtain ⟨r40, hr41, h⟩ := bind_e h
           refine oO <| O_call (L_ring_Seqs hr41) rfl Try.call25 (Dels.cons del1 (Dels.cons del1 Dels.nil)) rfl fun _ _ => oM rfl rfl <| oP (P_extract rfl rfl) rfl <| oP (P_extract rfl rfl) rfl <| oP (P_extract rfl rfl) rfl <| oA rfl rfl <| oA rfl rfl <| oA rfl rfl <| nT <| sR <| oM rfl rfl <| oP (P_neq (a := r37.2) (b := (0 : Int)) rfl rfl) rfl <| oM rfl rfl <| RJ_splitP 74 rfl bT_dec (fun hg8B hg8 => ?_) (fun hg8B hg8 => ?_)
           ·
            replace h := ite_t hg8 h
            refine RJ_gn (GY_no rfl rfl rfl hg8B) rfl rfl <| RJ_gn (GY_no rfl rfl rfl hg8B) rfl rfl <| RJ_gn (GY_no rfl rfl rfl hg8B) rfl rfl <| oP (P_pickT rfl hg8B rfl) rfl <| oM rfl rfl <| RJ_gn (GY_no rfl rfl rfl rfl) rfl rfl <| RJ_gn (GY_no rfl rfl rfl rfl) rfl rfl <| oP (P_pickT rfl rfl rfl) rfl <| oM rfl rfl <| RJ_gn (GY_no rfl rfl rfl rfl) rfl rfl <| RJ_gn (GY_no rfl rfl rfl rfl) rfl rfl <| oP (P_pickT rfl rfl rfl) rfl <| oM rfl rfl <| RJ_gn (GY_no rfl rfl rfl rfl) rfl rfl <| RJ_gn (GY_no rfl rfl rfl rfl) rfl rfl <| RJ_gn (GY_no rfl rfl rfl rfl) rfl rfl <| oP (P_pickT rfl rfl rfl) rfl <| nT <| CJ_condT rfl rfl <| sR <| oA rfl rfl <| nT <| CJ_ret <| QJ_block_ret <| QJ_then_ret <| QJ_round_ret <| QJ_block_ret <| QJ_then_ret ?_
            have hE := Option.some.inj h
            replace hE := seq_inr hK19 hE.symm
            subst hE
            exact fE (res1 Try.results5 rfl) () (t4_ (eD (eD (eD (eD eR)))))
           ·
            replace h := ite_f hg8 h
            refine gV (GY_yes rfl rfl rfl hg8B) (V_loadN rfl foc2 Try.isAgg34 Try.sizeOf34 rfl rfl) rfl <| gP (GY_yes rfl rfl rfl hg8B) (P_build rfl (bld_34_0_1_2 _ _ _)) rfl <| gP (GY_yes rfl rfl rfl hg8B) (P_neqS (enc := (tyapi_Copy).enc) (r37.1) ((⟨true, (1 : Int), (ByteArray.mk #[107, 101, 112, 116])⟩ : api_Copy)) rfl rfl eqs_34 (by kernel_rfl)) rfl <| oP (P_pickF rfl hg8B rfl) rfl <| oM rfl rfl <| RJ_mbF rfl rfl rfl (fun hG42 => have hP43 : ¬ (r37.1 ≠ (⟨true, (1 : Int), (ByteArray.mk #[107, 101, 112, 116])⟩ : api_Copy)) := nP (bT_dec) hG42; VJ_P (P_move rfl)) <| RJ_mbF rfl rfl rfl (fun hG44 => have hP45 : ¬ (r37.1 ≠ (⟨true, (1 : Int), (ByteArray.mk #[107, 101, 112, 116])⟩ : api_Copy)) := nP (bT_dec) hG44; VJ_P (P_neq (a := r40.2.2) (b := (0 : Int)) (mbx hG44 rfl) rfl)) <| oP (P_pickOr rfl rfl (fun hh => mbx (not_f hh) rfl)) rfl <| oM rfl rfl <| RJ_mbF rfl rfl rfl (fun hG46 => have hP47 : ¬ ((r37.1 ≠ (⟨true, (1 : Int), (ByteArray.mk #[107, 101, 112, 116])⟩ : api_Copy)) ∨ (r40.2.2 ≠ (0 : Int))) := nP ((bT_or bT_dec bT_dec)) hG46; VJ_P (P_move rfl)) <| RJ_mbF rfl rfl rfl (fun hG48 => have hP49 : ¬ ((r37.1 ≠ (⟨true, (1 : Int), (ByteArray.mk #[107, 101, 112, 116])⟩ : api_Copy)) ∨ (r40.2.2 ≠ (0 : Int))) := nP ((bT_or bT_dec bT_dec)) hG48; VJ_P (P_neq (a := r40.1) (b := (1 : Int)) (mbx hG48 rfl) rfl)) <| oP (P_pickOr rfl rfl (fun hh => mbx (not_f hh) rfl)) rfl <| oM rfl rfl ?_
            refine RJ_mbF rfl rfl rfl (fun hG50 => have hP51 : ¬ (((r37.1 ≠ (⟨true, (1 : Int), (ByteArray.mk #[107, 101, 112, 116])⟩ : api_Copy)) ∨ (r40.2.2 ≠ (0 : Int))) ∨ (r40.1 ≠ (1 : Int))) := nP ((bT_or (bT_or bT_dec bT_dec) bT_dec)) hG50; VJ_P (P_move rfl)) <| RJ_mbF rfl rfl rfl (fun hG52 => have hP53 : ¬ (((r37.1 ≠ (⟨true, (1 : Int), (ByteArray.mk #[107, 101, 112, 116])⟩ : api_Copy)) ∨ (r40.2.2 ≠ (0 : Int))) ∨ (r40.1 ≠ (1 : Int))) := nP ((bT_or (bT_or bT_dec bT_dec) bT_dec)) hG52; VJ_P (P_move rfl)) <| RJ_mbF rfl rfl rfl (fun hG54 => have hP55 : ¬ (((r37.1 ≠ (⟨true, (1 : Int), (ByteArray.mk #[107, 101, 112, 116])⟩ : api_Copy)) ∨ (r40.2.2 ≠ (0 : Int))) ∨ (r40.1 ≠ (1 : Int))) := nP ((bT_or (bT_or bT_dec bT_dec) bT_dec)) hG54; VJ_P (P_neq (a := r40.2.1) (b := (((x28 + 2) : Nat) : Int)) (mbx hG54 rfl) (mbx hG54 rfl))) <| oP (P_pickOr rfl rfl (fun hh => mbx (not_f hh) rfl)) rfl <| nT <| CJ_condP rfl (bT_or (bT_or (bT_or bT_dec bT_dec) bT_dec) bT_dec) (fun hg9 => ?_) (fun hg9 => ?_)
            ·
             replace h := ite_t hg9 h
             refine sR <| oA rfl rfl <| nT <| CJ_ret <| QJ_block_ret <| QJ_then_ret <| QJ_round_ret <| QJ_block_ret <| QJ_then_ret ?_
             have hE := Option.some.inj h
             replace hE := seq_inr hK19 hE.symm
             subst hE
             exact fE (res1 Try.results5 rfl) () (t4_ (eD (eD (eD (eD eR)))))
            ·
             replace h := ite_f hg9 h
             exact CJ_skip <| QJ_block_normal <| QJ_then <| CJ_region <| oM rfl rfl <| oP (PJ_eq (P_add (a := ((x28 : Nat) : Int)) (b := (1 : Int)) rfl rfl (by omega)) rfl) rfl <| oA rfl rfl <| RJ_nil <| nR ⟨n, r35.2, a33, (x28 + 2), (x28 + 1)⟩ h ⟨rfl, rfl, rfl, True.intro⟩ (t1_ (t0_ (t1_ (t1_ (eD eR)))))
        ·
         replace h := ite_f hg4 h
         exact CJ_exit <| QJ_then_exit <| QJ_round_exit <| QJ_block_here <| cR (x26, x27, x25) (Option.some.inj h).symm ⟨rfl, rfl, True.intro⟩ eR
      ·
       rintro a24 hy56
       replace h := seq_inl hK19 hy56
       show CJ _ _ _ _ _ (([(5, .string a24.1), (6, .int .i64 (((a24.2.1 : Nat) : Int)))] : Slots) ++ forget _ _) (Arr X7.1 a24.2.2 :: _)
       refine CJ_seq <| sR <| oM rfl rfl ?_
       obtain ⟨r57, hr58, h⟩ := bind_e h
       refine oO <| O_call (L_ring_Switch hr58) rfl Try.call17 (Dels.cons del1 (Dels.cons del0 Dels.nil)) rfl fun _ _ => oP (P_neq (a := r57.1) (b := (0 : Int)) rfl rfl) rfl <| nT <| CJ_condP rfl bT_dec (fun hg10 => ?_) (fun hg10 => ?_)
       ·
        replace h := ite_t hg10 h
        refine sR <| oA rfl rfl <| nT <| CJ_ret <| QJ_then_ret ?_
        cases h
        exact fE (res1 Try.results5 rfl) () (t3_ (eD (eD (eD eR))))
       ·
        replace h := ite_f hg10 h
        refine kT <| sR <| oM rfl rfl ?_
        obtain ⟨r59, hr60, h⟩ := bind_e h
        refine oO <| O_call (L_ring_Read hr60) rfl Try.call18 (Dels.cons del0 (Dels.cons del0 Dels.nil)) rfl fun _ _ => oM rfl rfl <| oP (P_extract rfl rfl) rfl <| oP (P_extract rfl rfl) rfl <| oO <| O_alloc Try.zeroValue34 rfl rfl fun b61 => oO <| O_storeN rfl rfl foc0 Try.sizeOf34 rfl rfl rfl <| oA rfl rfl <| nT <| sR <| oM rfl rfl <| oP (P_eql (a := r59.2) (b := (0 : Int)) rfl rfl) rfl <| oM rfl rfl <| RJ_splitP 102 rfl bT_dec (fun hg11B hg11 => ?_) (fun hg11B hg11 => ?_)
        ·
         replace h := ite_t hg11 h
         refine gV (GY_yes rfl rfl rfl hg11B) (V_loadN rfl foc0 Try.isAgg34 Try.sizeOf34 rfl rfl) rfl <| gP (GY_yes rfl rfl rfl hg11B) (P_move rfl) rfl <| gP (GY_yes rfl rfl rfl hg11B) (P_move rfl) rfl <| gP (GY_yes rfl rfl rfl hg11B) (P_build rfl (bld_34_0_1_2 _ _ _)) rfl <| gP (GY_yes rfl rfl rfl hg11B) (P_eqlS (enc := (tyapi_Copy).enc) (r59.1) ((⟨true, ((a24.2.1 : Nat) : Int), a24.1⟩ : api_Copy)) rfl rfl eqs_34 (by kernel_rfl)) rfl <| oP (P_pickT rfl hg11B rfl) rfl <| oM rfl rfl <| RJ_splitP 109 rfl bT_dec (fun hg12B hg12 => ?_) (fun hg12B hg12 => ?_)
         ·
          replace h := ite_t hg12 h
          obtain ⟨r62, hr63, h⟩ := bind_e h
          refine RJ_gy (GY_yes rfl rfl rfl hg12B) <| O_call (L_volumegrouplaw12_awake hr63) rfl Try.call14 Dels.nil rfl fun _ _ => oP (P_pickT rfl hg12B rfl) rfl <| oA rfl rfl <| nT <| CJ_ret ?_
          cases h
          exact fE (res1 Try.results5 rfl) () (t4_ (eD (eD (eD (eD eR)))))
         ·
          replace h := ite_f hg12 h
          refine RJ_gn (GY_no rfl rfl rfl hg12B) rfl rfl <| oP (P_pickF rfl hg12B rfl) rfl <| oA rfl rfl <| nT <| CJ_ret ?_
          cases h
          exact fE (res1 Try.results5 rfl) () (t4_ (eD (eD (eD (eD eR)))))
        ·
         replace h := ite_f hg11 h
         refine RJ_gn (GY_no rfl rfl rfl hg11B) rfl rfl <| RJ_gn (GY_no rfl rfl rfl hg11B) rfl rfl <| RJ_gn (GY_no rfl rfl rfl hg11B) rfl rfl <| RJ_gn (GY_no rfl rfl rfl hg11B) rfl rfl <| RJ_gn (GY_no rfl rfl rfl hg11B) rfl rfl <| oP (P_pickF rfl hg11B rfl) rfl <| oM rfl rfl <| RJ_gn (GY_no rfl rfl rfl rfl) rfl rfl <| oP (P_pickF rfl rfl rfl) rfl <| oA rfl rfl <| nT <| CJ_ret ?_
         cases h
         exact fE (res1 Try.results5 rfl) () (t4_ (eD (eD (eD (eD eR)))))
end Go.Proofs
namespace Go.Proofs
open Go.VG
abbrev keptS : ByteArray := ByteArray.mk #[107, 101, 112, 116]
theorem kept_len : (encT keptS).length = 2 := by rw [encT_len]; rfl
theorem strSub_size {b : ByteArray} {h : Nat} (hh : h ≤ b.size) : (strSub b 0 h).size = h := by
  unfold strSub
  rw [ByteArray.size_extract]; omega
theorem keeps_l1 {texts : List ByteArray} (hT : texts.length ≤ 12) {c : Txt} (hc1 : c.q = 1) (hc2 : c.s = keptS) : ∀ (N i K : Nat) (s : ArrS) (last : ByteArray) (seq : Nat), texts.length - i < N → i ≤ texts.length → Lv [30] K 0 30 s → s.fuse = 0 → K ≤ 20 + 20 * i →
    Hold (now s 0) (rgR 30) 0 (some c) → (∃ st, Hold (now s 0) (rgR 30) 1 (some ⟨seq, st, last⟩)) →
    ∃ last' seq' t K', volumegrouplaw12_RingKeeps_l1 texts (Dk 0 30) N s last seq i = some (.inl (last', seq', t)) ∧ Lv [30] K' 0 30 t ∧ t.fuse = 0 ∧ K' ≤ 300 ∧ ∃ st, Hold (now t 0) (rgR 30) 1 (some ⟨seq', st, last'⟩)
  | 0, _, _, _, _, _, h, _, _, _, _, _, _ => absurd h (by omega)
  | N + 1, i, K, s, last, seq, h, hi, hL, hf, hK, h0, h1 => by
    have e : volumegrouplaw12_RingKeeps_l1 texts (Dk 0 30) (N + 1) s last seq i = volumegrouplaw12_RingKeeps_l1_b texts (Dk 0 30) (volumegrouplaw12_RingKeeps_l1 texts (Dk 0 30) N) s last seq i := rfl
    rw [e]
    unfold volumegrouplaw12_RingKeeps_l1_b
    by_cases hlt : i < texts.length
    · rw [if_pos (by omega)]
      have hx : ∃ x, (if ((100 : Int) < (((texts.getD i ByteArray.empty).size : Nat) : Int)) then
          grd (decide (0 ≤ 100 ∧ 100 ≤ (texts.getD i ByteArray.empty).size)) <|
          some ((strSub (texts.getD i ByteArray.empty) 0 100))
        else
          some (texts.getD i ByteArray.empty) : Option (ByteArray)) = some x ∧ x.size ≤ 100 := by
        by_cases hs : 100 < (texts.getD i ByteArray.empty).size
        · rw [if_pos (by omega), grd_pos (decide_eq_true (by omega))]
          exact ⟨_, rfl, by rw [strSub_size (by omega)]; omega⟩
        · rw [if_neg (by omega)]
          exact ⟨_, rfl, by omega⟩
      obtain ⟨x, hx1, hx2⟩ := hx
      rw [hx1]; simp only [Option.bind_some]
      have hl : (encT x).length ≤ 14 := by rw [encT_len]; unfold bytesN; omega
      have hcl : oLen (some c) = 2 := by show (encT c.s).length = 2; rw [hc2, kept_len]
      have hr : rgR 30 = 28 := rfl
      rcases prep_hold hL (by omega) h0 (q := i + 2) (x := x) (by omega) (by omega) with ⟨h2, _⟩ | ⟨_, ⟨t, h2, h3, h4, h5, h6⟩ | ⟨h2, _⟩⟩
      · rw [hcl] at h2; omega
      · rw [h2]; simp only [Option.bind_some]
        rw [if_neg (by simp), read_hold h4 h5]; simp only [Option.bind_some]
        rw [seqs_hold h4 h5 h6]; simp only [Option.bind_some]
        rw [if_neg (by simp), if_neg (by rw [hc1, hc2]; simp)]
        exact keeps_l1 hT hc1 hc2 N (i + 1) _ t x (i + 2) (by omega) (by omega) h4 (by rw [h3.fuse, hf]; omega) (by omega) h5 ⟨_, h6⟩
      · exact absurd hf h2
    · rw [if_neg (by omega)]
      exact ⟨last, seq, s, K, rfl, hL, hf, by omega, h1⟩
theorem PRingKeeps (texts : List ByteArray) : volumegrouplaw12_RingKeeps texts = some true := by
  unfold volumegrouplaw12_RingKeeps
  by_cases hT : 12 < texts.length
  · rw [if_pos (by omega), awake12]; rfl
  · rw [if_neg (by omega), area_eq (by simp)]; simp only [Option.bind_some, Option.elim, List.length_replicate]
    have hL := lv_mkS (w := List.replicate 30 0) (by simp) (by simp)
    rw [List.length_replicate] at hL
    have hH : Hold (now (mkS [List.replicate 30 0]) 0) (rgR 30) 0 none := by rw [now_mkS]; exact hold_zeros
    have hr : rgR 30 = 28 := rfl
    have hf0 : (mkS [List.replicate 30 0]).fuse = 0 := rfl
    rcases prep_hold hL (by omega) hH (q := 1) (x := keptS) (by omega) (by decide) with ⟨h1, _⟩ | ⟨_, ⟨t, h2, h3, h4, h5, h6⟩ | ⟨h2, _⟩⟩
    · rw [kept_len] at h1; exact absurd h1 (by decide)
    · have h2' : ring_Prepare (Dk 0 30) (1 : Int) keptS (mkS [List.replicate 30 0]) = some (0, t) := h2
      rw [h2']; simp only [Option.bind_some]
      rw [if_neg (by simp)]
      have hf : t.fuse = 0 := by rw [h3.fuse, hf0]; omega
      rw [kept_len] at h4
      rcases switch_hold h4 (by omega) h6 with ⟨_, u, k1, k2, k3, k4⟩ | ⟨k1, _⟩
      · rw [k1]; simp only [Option.bind_some]
        rw [if_neg (by simp)]
        have hu1 : Hold (now u 0) (rgR 30) 1 (some ⟨1, nextSt (rgR 30) none, keptS⟩) := by
          refine h6.congr (by rw [k2.nowD]; rfl) fun i _ => ?_
          rw [k2.nowD]
          unfold upd
          rw [if_neg (by have := plc_ge (r := rgR 30) (st := oSt (some ⟨1, nextSt (rgR 30) none, keptS⟩)) (i := i); omega)]
        have hF := fuel_big
        generalize FUEL = N at hF ⊢
        obtain ⟨last, seq, v, K', m1, m2, m3, m4, st, m5⟩ := keeps_l1 (texts := texts) (by omega) (c := ⟨1, nextSt (rgR 30) none, keptS⟩) rfl rfl N 0 _ u keptS 1 (by omega) (by omega) k3 (by rw [k2.fuse, hf]) (by omega) k4 ⟨_, hu1⟩
        rw [m1]
        simp only [seqO, Option.bind_some, Sum.elim_inl]
        rcases switch_hold m2 (by omega) m5 with ⟨_, z, z1, z2, z3, z4⟩ | ⟨z1, _⟩
        · rw [z1]; simp only [Option.bind_some]
          rw [if_neg (by simp), read_hold z3 z4]; simp only [Option.bind_some]
          rw [if_pos (by simp), if_pos (by simp), awake12]; rfl
        · omega
      · omega
    · exact absurd hf0 h2
end Go.Proofs
