/- YteboelcolfoddaaLPack: lifted functions of the program; printed by lift.py. -/
import Derived.Test.YteboelcolfoddaaLCopy
set_option linter.unusedSimpArgs false
set_option linter.unusedVariables false
set_option maxRecDepth 20000
set_option maxHeartbeats 4000000
namespace Go.Proofs
open Go.VG

theorem bs_22_0 : BuildsSlice Try.prog 22 0 [] 27 [] := fun w => by kernel_rfl
theorem c_Clone_40_0 {W : World} {A : HP} {v : Sl3} {xs : List (UInt64)} (hA : Reads A tyU v.v xs) (hl : xs.length ≤ 1000000000) :
    CSpec Try.prog W 40 [v.v] [A] (fun x : Sl3 => x.v) (fun _ => True) (fun x F => sl tyU x.v xs :: A :: F) := by
  refine CSpec.of_body Try.func40 rfl Try.ntmps40 rfl (fun F => ?_)
  show CJ _ _ _ _ _ _ (_ :: F)
  have hll := hl
  refine CJ_seq (CJ_region (RJ_op rfl (OJ_P (P_assign rfl) rfl (RJ_nil (QJ_then (CJ_seq (CJ_seq (CJ_region (RJ_op rfl (OJ_P (P_move rfl) rfl (RJ_op rfl (OJ_P (P_eqlSN rfl rfl Try.underlying22) rfl (RJ_nil (QJ_then ?_))))))))))))))
  first | (refine CJ_condD rfl (fun hg1 => ?_) (fun hg1 => ?_)) | (refine CJ_condN rfl (fun hg1 => ?_) (fun hg1 => ?_)) | (refine CJ_cond rfl (fun hg1 => ?_) (fun hg1 => ?_))
  ·
    refine CJ_seq (CJ_region (RJ_op rfl (OJ_P (P_assign rfl) rfl (RJ_nil (QJ_then (CJ_ret (QJ_then_ret (QJ_end (res1 Try.results40 rfl) ?_))))))))
    obtain ⟨vp, vn, vc⟩ := v
    obtain rfl : vp = none := by simpa using hg1
    refine fun w hs => ?_
    obtain rfl := reads_none hA _ hs.heap.choose_spec
    revert w hs
    show ∀ w, St W w _ → _
    refine CSpec.close ⟨none, 0, 0⟩ ?_ ?_ (Ent.trans (fun h hh => sl_nil (t := tyU) h hh) Ent.refl)
    · rfl
    · trivial
  ·
    refine CJ_skip (QJ_then (CJ_seq (CJ_region (RJ_op rfl (O_buildSlice rfl (bs_22_0) rfl (fun b1 => ?_))))))
    refine RJ_ent (Ent.trans (Ent.take del0 Ent.refl) (sl_of_lit (t := tyU) (m := 0) [] rfl rfl rfl (by decide))) ?_
    refine RJ_op rfl (OJ_P (P_move rfl) rfl ?_)
    refine RJ_op rfl (O_append (t := tyU) (bytes := 8) rfl rfl del0 foc0 hA Try.underlying22 ok_tyU (apl (m := xs.length) (b := 8) (by simpa using hll) (by decide)).1 (apl (m := xs.length) (b := 8) (by simpa using hll) (by decide)).2 rfl (fun p2 c3 => ?_))
    refine RJ_op rfl (OJ_P (P_assign rfl) rfl (RJ_nil (QJ_then (CJ_ret (QJ_end (res1 Try.results40 rfl) ?_)))))
    refine CSpec.close ⟨p2, _, c3⟩ ?_ ?_ (Ent.take del0 (Ent.take del0 Ent.refl))
    · rfl
    · trivial
theorem c_Clone_40 {W : World} {A : HP} {v : Value} {xs : List (UInt64)} (hA : Reads A tyU v xs) (hl : xs.length ≤ 1000000000) :
    CSpec Try.prog W 40 [v] [A] (fun x : Sl3 => x.v) (fun _ => True) (fun x F => sl tyU x.v xs :: A :: F) := by
  intro F w hs
  obtain ⟨h, hh⟩ := hs.heap
  obtain ⟨h1, h2, _, _, hh1, _⟩ := hh
  obtain ⟨x, rfl⟩ := reads_slice hA hh1
  exact c_Clone_40_0 hA hl F w hs

def pack_Bit (l : List UInt64) (n_1 : Int) : Option (Bool × Int) :=
  if ((n_1 < (0 : Int)) ∨ (((l.length : Nat) : Int) ≤ (IntKind.i64.wrap (n_1.tdiv (64 : Int))))) then
    some ((false, (1 : Int)))
  else
    grd (decide (0 ≤ (IntKind.i64.wrap (n_1.tdiv (64 : Int))) ∧ (IntKind.i64.wrap (n_1.tdiv (64 : Int))) < (l.length : Int))) <|
    lt ((shr_u64 ((l.getD (((IntKind.i64.wrap (n_1.tdiv (64 : Int)))).toNat) 0)) (((n_1 % (64 : Int))).toNat))) fun w12 =>
    some (((decide ((w12 &&& (1 : UInt64)) = (1 : UInt64))), (0 : Int)))

theorem L_pack_Bit {W : World} {Al : HP} {vl : Value} {l : List UInt64} {n_1 : Int} {r : Bool × Int} (rl : Reads Al tyU vl l) (h : pack_Bit l n_1 = some r) :
    CSpec Try.prog W 32 [vl, .int .i64 n_1] [Al] (fun x : Unit => .tuple #[.bool r.1, .int .i64 r.2]) (fun _ => True) (fun x F => Al :: F) := by
  refine CSpec.of_body Try.func32 rfl Try.ntmps32 rfl (fun F => ?_)
  show CJ _ _ _ _ _ _ (_ :: F)
  unfold pack_Bit at h
  refine CJ_pure (len_of rl del0) (fun hlen1 => ?_)
  refine CJ_seq ?_
  refine CJ_region ?_
  refine RJ_op rfl (OJ_P (P_assign rfl) rfl ?_)
  refine RJ_op rfl (OJ_P (P_assign rfl) rfl ?_)
  refine RJ_nil ?_
  refine QJ_then ?_
  refine CJ_seq ?_
  refine CJ_seq ?_
  refine CJ_region ?_
  refine RJ_op rfl (OJ_P (P_move rfl) rfl ?_)
  refine RJ_op rfl (OJ_P (P_lss (a := n_1) (b := (0 : Int)) rfl rfl) rfl ?_)
  refine RJ_op rfl (OJ_P (P_move rfl) rfl ?_)
  refine RJ_mbF rfl rfl rfl (fun hG2 => have hP3 : ¬ (n_1 < (0 : Int)) := nP (bT_dec) hG2; VJ_P (P_move rfl)) ?_
  refine RJ_mbF rfl rfl rfl (fun hG4 => have hP5 : ¬ (n_1 < (0 : Int)) := nP (bT_dec) hG4; VJ_P (P_quoT (a := n_1) (b := (64 : Int)) (mbx hG4 rfl) rfl (by decide))) ?_
  refine RJ_mbF rfl rfl rfl (fun hG6 => have hP7 : ¬ (n_1 < (0 : Int)) := nP (bT_dec) hG6; VJ_P (P_move rfl)) ?_
  refine RJ_mbF rfl rfl rfl (fun hG8 => have hP9 : ¬ (n_1 < (0 : Int)) := nP (bT_dec) hG8; V_len (mbx hG8 rfl) foc0 rl Try.runUnderlying22) ?_
  refine RJ_mbF rfl rfl rfl (fun hG10 => have hP11 : ¬ (n_1 < (0 : Int)) := nP (bT_dec) hG10; VJ_P (P_geq (a := (IntKind.i64.wrap (n_1.tdiv (64 : Int)))) (b := ((l.length : Nat) : Int)) (mbx hG10 rfl) (mbx hG10 rfl))) ?_
  refine RJ_op rfl (OJ_P (P_pickOr rfl rfl (fun hh => mbx (not_f hh) rfl)) rfl ?_)
  refine RJ_nil ?_
  refine QJ_then ?_
  refine CJ_condP rfl (bT_or bT_dec bT_dec) (fun hg1 => ?_) (fun hg1 => ?_)
  ·
    replace h := ite_t hg1 h
    refine CJ_seq ?_
    refine CJ_region ?_
    refine RJ_op rfl (OJ_P (P_assign rfl) rfl ?_)
    refine RJ_op rfl (OJ_P (P_assign rfl) rfl ?_)
    refine RJ_nil ?_
    refine QJ_then ?_
    refine CJ_ret ?_
    refine QJ_then_ret ?_
    have hE := Option.some.inj h
    subst hE
    refine QJ_end (res2 Try.results32 rfl rfl) ?_
    refine CSpec.close () ?_ ?_ Ent.refl
    · rfl
    · trivial
  ·
    replace h := ite_f hg1 h
    refine CJ_skip ?_
    refine QJ_then ?_
    refine CJ_seq ?_
    refine CJ_region ?_
    refine RJ_op rfl (OJ_P (P_move rfl) rfl ?_)
    refine RJ_op rfl (OJ_P (P_move rfl) rfl ?_)
    refine RJ_op rfl (OJ_P (P_quoT (a := n_1) (b := (64 : Int)) rfl rfl (by decide)) rfl ?_)
    obtain ⟨hg2, h⟩ := grd_de h
    refine RJ_op rfl (OJ_V (V_index (i := ((IntKind.i64.wrap (n_1.tdiv (64 : Int)))).toNat) rfl rfl (Int.toNat_of_nonneg (hg2.1)).symm (by omega) foc0 rl Try.runUnderlying22 Try.sizeOf27) rfl ?_)
    refine RJ_op rfl (OJ_V (V_loadE rfl rfl (by omega) foc0 rl rfl rfl Try.isAgg27) rfl ?_)
    refine RJ_op rfl (OJ_P (P_move rfl) rfl ?_)
    refine RJ_op rfl (OJ_P (P_rem (a := n_1) (b := (64 : Int)) rfl rfl (by omega)) rfl ?_)
    refine RJ_op rfl (OJ_P (P_shr_u64 (a := (l.getD (((IntKind.i64.wrap (n_1.tdiv (64 : Int)))).toNat) 0)) (m := ((n_1 % (64 : Int))).toNat) rfl rfl (Int.toNat_of_nonneg (by omega)).symm) rfl ?_)
    obtain ⟨w12, hw12, h⟩ := lt_e h
    rw [← hw12]
    refine RJ_op rfl (OJ_P (P_and_u64 (a := w12) (b := (1 : UInt64)) rfl rfl) rfl ?_)
    refine RJ_op rfl (OJ_P (P_eq_u64 (a := (w12 &&& (1 : UInt64))) (b := (1 : UInt64)) rfl rfl) rfl ?_)
    refine RJ_op rfl (OJ_P (P_assign rfl) rfl ?_)
    refine RJ_op rfl (OJ_P (P_assign rfl) rfl ?_)
    refine RJ_nil ?_
    refine QJ_then ?_
    refine CJ_ret ?_
    have hE := Option.some.inj h
    subst hE
    refine QJ_end (res2 Try.results32 rfl rfl) ?_
    refine CSpec.close () ?_ ?_ Ent.refl
    · rfl
    · trivial

def pack_SetBit (l : List UInt64) (n_1 : Int) (is : Bool) : Option ((List UInt64) × Int) :=
  if ((n_1 < (0 : Int)) ∨ (((l.length : Nat) : Int) ≤ (IntKind.i64.wrap (n_1.tdiv (64 : Int))))) then
    some (([], (1 : Int)))
  else
    grd (inLen l.length) <|
    if is = true then
      grd (decide (0 ≤ (IntKind.i64.wrap (n_1.tdiv (64 : Int))) ∧ (IntKind.i64.wrap (n_1.tdiv (64 : Int))) < (l.length : Int))) <|
      lt (((l.getD (((IntKind.i64.wrap (n_1.tdiv (64 : Int)))).toNat) 0) ||| (shl_u64 (1 : UInt64) (((n_1 % (64 : Int))).toNat)))) fun w16 =>
      grd (decide (0 ≤ (IntKind.i64.wrap (n_1.tdiv (64 : Int))) ∧ (IntKind.i64.wrap (n_1.tdiv (64 : Int))) < (l.length : Int))) <|
      some (((l.set (((IntKind.i64.wrap (n_1.tdiv (64 : Int)))).toNat) w16), (0 : Int)))
    else
      grd (decide (0 ≤ (IntKind.i64.wrap (n_1.tdiv (64 : Int))) ∧ (IntKind.i64.wrap (n_1.tdiv (64 : Int))) < (l.length : Int))) <|
      lt (((l.getD (((IntKind.i64.wrap (n_1.tdiv (64 : Int)))).toNat) 0) &&& ~~~(shl_u64 (1 : UInt64) (((n_1 % (64 : Int))).toNat)))) fun w17 =>
      grd (decide (0 ≤ (IntKind.i64.wrap (n_1.tdiv (64 : Int))) ∧ (IntKind.i64.wrap (n_1.tdiv (64 : Int))) < (l.length : Int))) <|
      some (((l.set (((IntKind.i64.wrap (n_1.tdiv (64 : Int)))).toNat) w17), (0 : Int)))

theorem L_pack_SetBit {W : World} {Al : HP} {vl : Value} {l : List UInt64} {n_1 : Int} {is : Bool} {r : (List UInt64) × Int} (rl : Reads Al tyU vl l) (h : pack_SetBit l n_1 is = some r) :
    CSpec Try.prog W 38 [vl, .int .i64 n_1, .bool is] [Al] (fun x : Sl3 => .tuple #[x.v, .int .i64 r.2]) (fun _ => True) (fun x F => Al :: sl tyU x.v r.1 :: F) := by
  refine CSpec.of_body Try.func38 rfl Try.ntmps38 rfl (fun F => ?_)
  show CJ _ _ _ _ _ _ (_ :: F)
  unfold pack_SetBit at h
  refine CJ_pure (len_of rl del0) (fun hlen1 => ?_)
  refine CJ_seq ?_
  refine CJ_region ?_
  refine RJ_op rfl (OJ_P (P_assign rfl) rfl ?_)
  refine RJ_op rfl (OJ_P (P_assign rfl) rfl ?_)
  refine RJ_nil ?_
  refine QJ_then ?_
  refine CJ_seq ?_
  refine CJ_seq ?_
  refine CJ_region ?_
  refine RJ_op rfl (OJ_P (P_move rfl) rfl ?_)
  refine RJ_op rfl (OJ_P (P_lss (a := n_1) (b := (0 : Int)) rfl rfl) rfl ?_)
  refine RJ_op rfl (OJ_P (P_move rfl) rfl ?_)
  refine RJ_mbF rfl rfl rfl (fun hG2 => have hP3 : ¬ (n_1 < (0 : Int)) := nP (bT_dec) hG2; VJ_P (P_move rfl)) ?_
  refine RJ_mbF rfl rfl rfl (fun hG4 => have hP5 : ¬ (n_1 < (0 : Int)) := nP (bT_dec) hG4; VJ_P (P_quoT (a := n_1) (b := (64 : Int)) (mbx hG4 rfl) rfl (by decide))) ?_
  refine RJ_mbF rfl rfl rfl (fun hG6 => have hP7 : ¬ (n_1 < (0 : Int)) := nP (bT_dec) hG6; VJ_P (P_move rfl)) ?_
  refine RJ_mbF rfl rfl rfl (fun hG8 => have hP9 : ¬ (n_1 < (0 : Int)) := nP (bT_dec) hG8; V_len (mbx hG8 rfl) foc0 rl Try.runUnderlying22) ?_
  refine RJ_mbF rfl rfl rfl (fun hG10 => have hP11 : ¬ (n_1 < (0 : Int)) := nP (bT_dec) hG10; VJ_P (P_geq (a := (IntKind.i64.wrap (n_1.tdiv (64 : Int)))) (b := ((l.length : Nat) : Int)) (mbx hG10 rfl) (mbx hG10 rfl))) ?_
  refine RJ_op rfl (OJ_P (P_pickOr rfl rfl (fun hh => mbx (not_f hh) rfl)) rfl ?_)
  refine RJ_nil ?_
  refine QJ_then ?_
  refine CJ_condP rfl (bT_or bT_dec bT_dec) (fun hg1 => ?_) (fun hg1 => ?_)
  ·
    replace h := ite_t hg1 h
    refine CJ_seq ?_
    refine CJ_region ?_
    refine RJ_op rfl (OJ_P (P_assign rfl) rfl ?_)
    refine RJ_op rfl (OJ_P (P_assign rfl) rfl ?_)
    refine RJ_nil ?_
    refine QJ_then ?_
    refine CJ_ret ?_
    refine QJ_then_ret ?_
    refine QJ_ent (fun h hh => sl_nil (t := tyU) h hh) ?_
    have hE := Option.some.inj h
    subst hE
    refine QJ_end (res2 Try.results38 rfl rfl) ?_
    refine CSpec.close ⟨none, 0, 0⟩ ?_ ?_ (Ent.take del1 Ent.refl)
    · rfl
    · trivial
  ·
    replace h := ite_f hg1 h
    refine CJ_skip ?_
    refine QJ_then ?_
    refine CJ_seq ?_
    refine CJ_region ?_
    refine RJ_op rfl (OJ_P (P_move rfl) rfl ?_)
    obtain ⟨hg2, h⟩ := grd_Le h
    refine RJ_op rfl (O_call (c_Clone_40 rl hg2) rfl Try.call40 (Dels.cons del0 Dels.nil) rfl (fun X13 _ => ?_))
    refine RJ_pure (len_of (Reads.sl _ _ _) del0) (fun hlen15 => ?_)
    refine RJ_op rfl (OJ_P (P_assign rfl) rfl ?_)
    refine RJ_nil ?_
    refine QJ_then ?_
    refine CJ_seq ?_
    refine CJ_seq ?_
    refine CJ_region ?_
    refine RJ_op rfl (OJ_P (P_move rfl) rfl ?_)
    refine RJ_nil ?_
    refine QJ_then ?_
    refine CJ_condP rfl Iff.rfl (fun hg3 => ?_) (fun hg3 => ?_)
    ·
      replace h := ite_t hg3 h
      refine AJ_startH 1024 (by kernel_rfl) rfl ?_
      refine AJ_takeP 0 1 rfl (by kernel_rfl) rfl (GY_none rfl) (P_move rfl) rfl (fun _ _ _ _ h => h) ?_
      refine AJ_takeP 1 3 rfl (by kernel_rfl) rfl (GY_none rfl) (P_move rfl) rfl (fun _ _ _ _ h => h) ?_
      refine AJ_takeP 2 7 rfl (by kernel_rfl) rfl (GY_none rfl) (P_quoT (a := n_1) (b := (64 : Int)) rfl rfl (by decide)) rfl (fun _ _ _ _ h => h) ?_
      obtain ⟨hg4, h⟩ := grd_de h
      refine AJ_takeV 3 15 rfl (by kernel_rfl) rfl (by kernel_rfl) (by kernel_rfl) (GY_none rfl) Ent.refl (V_index (i := ((IntKind.i64.wrap (n_1.tdiv (64 : Int)))).toNat) rfl rfl (Int.toNat_of_nonneg (hg4.1)).symm (by omega) foc0 (Reads.sl _ _ _) Try.runUnderlying22 Try.sizeOf27) rfl (fun _ _ _ _ h => h) ?_
      refine AJ_takeV 4 31 rfl (by kernel_rfl) rfl (by kernel_rfl) (by kernel_rfl) (GY_none rfl) Ent.refl (V_loadE rfl rfl (by omega) foc0 (Reads.sl _ _ _) rfl rfl Try.isAgg27) rfl (fun _ _ _ _ h => h) ?_
      refine AJ_takeP 5 63 rfl (by kernel_rfl) rfl (GY_none rfl) (P_move rfl) rfl (fun _ _ _ _ h => h) ?_
      refine AJ_takeP 6 127 rfl (by kernel_rfl) rfl (GY_none rfl) (P_rem (a := n_1) (b := (64 : Int)) rfl rfl (by omega)) rfl (fun _ _ _ _ h => h) ?_
      refine AJ_takeP 7 255 rfl (by kernel_rfl) rfl (GY_none rfl) (P_shl_u64 (a := (1 : UInt64)) (m := ((n_1 % (64 : Int))).toNat) rfl rfl (Int.toNat_of_nonneg (by omega)).symm) rfl (fun _ _ _ _ h => h) ?_
      refine AJ_takeP 8 511 rfl (by kernel_rfl) rfl (GY_none rfl) (P_or_u64 (a := (l.getD (((IntKind.i64.wrap (n_1.tdiv (64 : Int)))).toNat) 0)) (b := (shl_u64 (1 : UInt64) (((n_1 % (64 : Int))).toNat))) rfl rfl) rfl (fun _ _ _ _ h => h) ?_
      obtain ⟨w16, hw16, h⟩ := lt_e h
      rw [← hw16]
      obtain ⟨hg5, h⟩ := grd_de h
      refine AJ_takeV 9 1023 rfl (by kernel_rfl) rfl (by kernel_rfl) (by kernel_rfl) (GY_none rfl) Ent.refl (V_index (i := ((IntKind.i64.wrap (n_1.tdiv (64 : Int)))).toNat) rfl rfl (Int.toNat_of_nonneg (hg5.1)).symm (by omega) foc0 (Reads.sl _ _ _) Try.runUnderlying22 Try.sizeOf27) rfl (fun _ _ _ _ h => h) ?_
      refine AJ_op 10 2047 rfl (by kernel_rfl) rfl (GY_none rfl) (O_storeE (x' := w16) rfl rfl rfl (by omega) foc0 rfl rfl rfl Try.sizeOf27 ?_)
      refine ⟨fun h => absurd h (by decide), ?_⟩
      refine AJ_done (by kernel_rfl) ?_
      refine QJ_then ?_
      refine CJ_seq ?_
      refine CJ_region ?_
      refine RJ_op rfl (OJ_P (P_move rfl) rfl ?_)
      refine RJ_op rfl (OJ_P (P_assign rfl) rfl ?_)
      refine RJ_op rfl (OJ_P (P_assign rfl) rfl ?_)
      refine RJ_nil ?_
      refine QJ_then ?_
      refine CJ_ret ?_
      have hE := Option.some.inj h
      subst hE
      refine QJ_end (res2 Try.results38 rfl rfl) ?_
      refine CSpec.close X13 ?_ ?_ (Ent.take del1 Ent.refl)
      · rfl
      · trivial
    ·
      replace h := ite_f hg3 h
      refine AJ_startH 1024 (by kernel_rfl) rfl ?_
      refine AJ_takeP 0 1 rfl (by kernel_rfl) rfl (GY_none rfl) (P_move rfl) rfl (fun _ _ _ _ h => h) ?_
      refine AJ_takeP 1 3 rfl (by kernel_rfl) rfl (GY_none rfl) (P_move rfl) rfl (fun _ _ _ _ h => h) ?_
      refine AJ_takeP 2 7 rfl (by kernel_rfl) rfl (GY_none rfl) (P_quoT (a := n_1) (b := (64 : Int)) rfl rfl (by decide)) rfl (fun _ _ _ _ h => h) ?_
      obtain ⟨hg6, h⟩ := grd_de h
      refine AJ_takeV 3 15 rfl (by kernel_rfl) rfl (by kernel_rfl) (by kernel_rfl) (GY_none rfl) Ent.refl (V_index (i := ((IntKind.i64.wrap (n_1.tdiv (64 : Int)))).toNat) rfl rfl (Int.toNat_of_nonneg (hg6.1)).symm (by omega) foc0 (Reads.sl _ _ _) Try.runUnderlying22 Try.sizeOf27) rfl (fun _ _ _ _ h => h) ?_
      refine AJ_takeV 4 31 rfl (by kernel_rfl) rfl (by kernel_rfl) (by kernel_rfl) (GY_none rfl) Ent.refl (V_loadE rfl rfl (by omega) foc0 (Reads.sl _ _ _) rfl rfl Try.isAgg27) rfl (fun _ _ _ _ h => h) ?_
      refine AJ_takeP 5 63 rfl (by kernel_rfl) rfl (GY_none rfl) (P_move rfl) rfl (fun _ _ _ _ h => h) ?_
      refine AJ_takeP 6 127 rfl (by kernel_rfl) rfl (GY_none rfl) (P_rem (a := n_1) (b := (64 : Int)) rfl rfl (by omega)) rfl (fun _ _ _ _ h => h) ?_
      refine AJ_takeP 7 255 rfl (by kernel_rfl) rfl (GY_none rfl) (P_shl_u64 (a := (1 : UInt64)) (m := ((n_1 % (64 : Int))).toNat) rfl rfl (Int.toNat_of_nonneg (by omega)).symm) rfl (fun _ _ _ _ h => h) ?_
      refine AJ_takeP 8 511 rfl (by kernel_rfl) rfl (GY_none rfl) (P_andNot_u64 (a := (l.getD (((IntKind.i64.wrap (n_1.tdiv (64 : Int)))).toNat) 0)) (b := (shl_u64 (1 : UInt64) (((n_1 % (64 : Int))).toNat))) rfl rfl) rfl (fun _ _ _ _ h => h) ?_
      obtain ⟨w17, hw17, h⟩ := lt_e h
      rw [← hw17]
      obtain ⟨hg7, h⟩ := grd_de h
      refine AJ_takeV 9 1023 rfl (by kernel_rfl) rfl (by kernel_rfl) (by kernel_rfl) (GY_none rfl) Ent.refl (V_index (i := ((IntKind.i64.wrap (n_1.tdiv (64 : Int)))).toNat) rfl rfl (Int.toNat_of_nonneg (hg7.1)).symm (by omega) foc0 (Reads.sl _ _ _) Try.runUnderlying22 Try.sizeOf27) rfl (fun _ _ _ _ h => h) ?_
      refine AJ_op 10 2047 rfl (by kernel_rfl) rfl (GY_none rfl) (O_storeE (x' := w17) rfl rfl rfl (by omega) foc0 rfl rfl rfl Try.sizeOf27 ?_)
      refine ⟨fun h => absurd h (by decide), ?_⟩
      refine AJ_done (by kernel_rfl) ?_
      refine QJ_then ?_
      refine CJ_seq ?_
      refine CJ_region ?_
      refine RJ_op rfl (OJ_P (P_move rfl) rfl ?_)
      refine RJ_op rfl (OJ_P (P_assign rfl) rfl ?_)
      refine RJ_op rfl (OJ_P (P_assign rfl) rfl ?_)
      refine RJ_nil ?_
      refine QJ_then ?_
      refine CJ_ret ?_
      have hE := Option.some.inj h
      subst hE
      refine QJ_end (res2 Try.results38 rfl rfl) ?_
      refine CSpec.close X13 ?_ ?_ (Ent.take del1 Ent.refl)
      · rfl
      · trivial

end Go.Proofs
