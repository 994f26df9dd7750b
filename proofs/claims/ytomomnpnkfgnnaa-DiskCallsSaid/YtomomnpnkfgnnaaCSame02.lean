/- YtomomnpnkfgnnaaCSame02: contracts of functions of the program, walked rule by rule; printed by vg.py. -/
import Derived.Test.YtomomnpnkfgnnaaCDiskI
set_option linter.unusedSimpArgs false
set_option maxRecDepth 20000
namespace Go.Proofs
open Go.VG

theorem c_Same {W : World} {A B : HP} {v u : Value} {xs ys : List UInt64} (hA : Reads A tyU v xs) (hB : Reads B tyU u ys) (hl : xs.length ≤ 4611686018427387904) (hl2 : ys.length ≤ 4611686018427387904) :
    CSpec Try.prog W 37 [v, u] [A, B] (fun _ : Unit => .bool (decide (xs = ys))) (fun _ => True) (fun _ F => A :: B :: F) := by
  refine CSpec.of_body Try.func37 rfl Try.ntmps37 rfl (fun F => ?_)
  show CJ _ _ _ _ _ _ (_ :: _ :: F)
  refine CJ_seq ?_
  refine CJ_region ?_
  refine RJ_op rfl (OJ_P (P_assign rfl) rfl ?_)
  refine RJ_nil ?_
  refine QJ_then ?_
  refine CJ_seq ?_
  refine CJ_seq ?_
  refine CJ_region ?_
  refine RJ_op rfl (OJ_P (P_move rfl) rfl ?_)
  refine RJ_op rfl (OJ_V (V_len rfl foc0 hA Try.runUnderlying56) rfl ?_)
  refine RJ_op rfl (OJ_P (P_move rfl) rfl ?_)
  refine RJ_op rfl (OJ_V (V_len rfl foc1 hB Try.runUnderlying56) rfl ?_)
  refine RJ_op rfl (OJ_P (P_neq rfl rfl) rfl ?_)
  refine RJ_nil ?_
  refine QJ_then ?_
  first | (refine CJ_condD rfl (fun hg1 => ?_) (fun hg1 => ?_)) | (refine CJ_condN rfl (fun hg1 => ?_) (fun hg1 => ?_)) | (refine CJ_cond rfl (fun hg1 => ?_) (fun hg1 => ?_))
  ·
    refine CJ_seq ?_
    refine CJ_region ?_
    refine RJ_op rfl (OJ_P (P_assign rfl) rfl ?_)
    refine RJ_nil ?_
    refine QJ_then ?_
    refine CJ_ret ?_
    refine QJ_then_ret ?_
    refine QJ_end (res1 Try.results37 rfl) ?_
    refine CSpec.close () ?_ ?_ (Ent.take del0 (Ent.take del0 Ent.refl))
    · exact bv (decide_eq_false (fun e => by subst e; omega)).symm
    · trivial
  ·
    refine CJ_skip ?_
    refine QJ_then ?_
    refine CJ_seq ?_
    refine CJ_seq ?_
    refine CJ_region ?_
    refine RJ_op rfl (OJ_P (P_assign rfl) rfl ?_)
    refine RJ_nil ?_
    refine QJ_then ?_
    refine CJ_block ?_
    refine CJ_loopR (X := Nat) [4, 5, 11, 12, 13, 14, 15, 16, 17, 18, 19, 20, 21, 22, 23, 24, 25] (fun k  => ([(5, .int .i64 (k : Nat))] : Slots)) (fun k R => R) (fun k  => k ≤ xs.length ∧ ∀ j, j < k → ((xs.getD j 0).toNat : Int) = ((ys.getD j 0).toNat : Int)) (fun k  => xs.length - k) (0) ?_ ?_ (Ent.take del0 (Ent.take del0 Ent.refl)) ?_
    · exact ⟨Nat.zero_le _, fun j hj => by omega⟩
    · exact ⟨rfl, True.intro⟩
    ·
      intro k hpf
      obtain ⟨hk, hn⟩ := hpf
      show CJ _ _ _ _ _ (([(5, .int .i64 (k : Nat))] : Slots) ++ forget _ _) (_)
      refine CJ_seq ?_
      refine CJ_seq ?_
      refine CJ_region ?_
      refine RJ_op rfl (OJ_P (P_move rfl) rfl ?_)
      refine RJ_op rfl (OJ_P (P_move rfl) rfl ?_)
      refine RJ_op rfl (OJ_V (V_len rfl foc0 hA Try.runUnderlying56) rfl ?_)
      refine RJ_op rfl (OJ_P (P_lss rfl rfl) rfl ?_)
      refine RJ_nil ?_
      refine QJ_then ?_
      first | (refine CJ_condD rfl (fun hg2 => ?_) (fun hg2 => ?_)) | (refine CJ_condN rfl (fun hg2 => ?_) (fun hg2 => ?_)) | (refine CJ_cond rfl (fun hg2 => ?_) (fun hg2 => ?_))
      ·
        refine CJ_skip ?_
        refine QJ_then ?_
        refine CJ_seq ?_
        refine CJ_block ?_
        refine CJ_seq ?_
        refine AJ_startH 0 (by kernel_rfl) rfl ?_
        refine AJ_takeP 0 1 rfl (by kernel_rfl) rfl (GY_none rfl) (P_move rfl) rfl (fun _ _ _ _ h => h) ?_
        refine AJ_takeP 1 3 rfl (by kernel_rfl) rfl (GY_none rfl) (P_move rfl) rfl (fun _ _ _ _ h => h) ?_
        first | (refine AJ_takeV 2 7 rfl (by kernel_rfl) rfl (by kernel_rfl) (by kernel_rfl) (GY_none rfl) (Ent.take del0 (Ent.take del0 Ent.refl)) (V_index rfl rfl rfl (by omega) foc0 hA Try.runUnderlying56 Try.sizeOf26) rfl (fun _ _ _ _ h => h) ?_) | (refine AJ_takeV 2 7 rfl (by kernel_rfl) rfl (by kernel_rfl) (by kernel_rfl) (GY_none rfl) (Ent.take del0 (Ent.take del0 Ent.refl)) (V_index rfl rfl (Int.toNat_of_nonneg (by omega)).symm (by omega) foc0 hA Try.runUnderlying56 Try.sizeOf26) rfl (fun _ _ _ _ h => h) ?_)
        refine AJ_takeV 3 15 rfl (by kernel_rfl) rfl (by kernel_rfl) (by kernel_rfl) (GY_none rfl) (Ent.take del0 (Ent.take del0 Ent.refl)) (V_loadE rfl rfl (by omega) foc0 hA rfl rfl Try.isAgg26) rfl (fun _ _ _ _ h => h) ?_
        refine AJ_takeP 4 31 rfl (by kernel_rfl) rfl (GY_none rfl) (P_move rfl) rfl (fun _ _ _ _ h => h) ?_
        refine AJ_takeP 5 63 rfl (by kernel_rfl) rfl (GY_none rfl) (P_move rfl) rfl (fun _ _ _ _ h => h) ?_
        first | (refine AJ_takeV 6 127 rfl (by kernel_rfl) rfl (by kernel_rfl) (by kernel_rfl) (GY_none rfl) (Ent.take del0 (Ent.take del0 Ent.refl)) (V_index rfl rfl rfl (by omega) foc1 hB Try.runUnderlying56 Try.sizeOf26) rfl (fun _ _ _ _ h => h) ?_) | (refine AJ_takeV 6 127 rfl (by kernel_rfl) rfl (by kernel_rfl) (by kernel_rfl) (GY_none rfl) (Ent.take del0 (Ent.take del0 Ent.refl)) (V_index rfl rfl (Int.toNat_of_nonneg (by omega)).symm (by omega) foc1 hB Try.runUnderlying56 Try.sizeOf26) rfl (fun _ _ _ _ h => h) ?_)
        refine AJ_takeV 7 255 rfl (by kernel_rfl) rfl (by kernel_rfl) (by kernel_rfl) (GY_none rfl) (Ent.take del0 (Ent.take del0 Ent.refl)) (V_loadE rfl rfl (by omega) foc1 hB rfl rfl Try.isAgg26) rfl (fun _ _ _ _ h => h) ?_
        refine AJ_takeP 8 511 rfl (by kernel_rfl) rfl (GY_none rfl) (P_neq rfl rfl) rfl (fun _ _ _ _ h => h) ?_
        refine AJ_done (by kernel_rfl) ?_
        refine QJ_then ?_
        first | (refine CJ_condD rfl (fun hg3 => ?_) (fun hg3 => ?_)) | (refine CJ_condN rfl (fun hg3 => ?_) (fun hg3 => ?_)) | (refine CJ_cond rfl (fun hg3 => ?_) (fun hg3 => ?_))
        ·
          refine CJ_seq ?_
          refine CJ_region ?_
          refine RJ_op rfl (OJ_P (P_assign rfl) rfl ?_)
          refine RJ_nil ?_
          refine QJ_then ?_
          refine CJ_ret ?_
          refine QJ_block_ret ?_
          refine QJ_then_ret ?_
          refine QJ_round_ret ?_
          refine QJ_block_ret ?_
          refine QJ_then_ret ?_
          refine QJ_end (res1 Try.results37 rfl) ?_
          refine CSpec.close () ?_ ?_ (Ent.take del0 (Ent.take del0 Ent.refl))
          · exact bv (eqB hg3).symm
          · trivial
        ·
          refine CJ_skip ?_
          refine QJ_block_normal ?_
          refine QJ_then ?_
          refine CJ_region ?_
          refine RJ_op rfl (OJ_P (P_move rfl) rfl ?_)
          refine RJ_op rfl (OJ_P (P_add rfl rfl (by omega)) rfl ?_)
          refine RJ_op rfl (OJ_P (P_assign rfl) rfl ?_)
          refine RJ_nil ?_
          refine QJ_nextR (k + 1) (by first | omega | (simp only []; omega)) ?_ (by repeat (first | exact Kp.base | exact Kp.self | refine Kp.cons rfl ?_ | refine Kp.forget rfl ?_)) ?_ (Ent.take del0 (Ent.take del0 Ent.refl))
          ·
            refine ⟨by omega, fun j hj => ?_⟩
            rcases Nat.lt_or_ge j k with h | h
            · exact hn j h
            · obtain rfl : j = k := by omega
              exact Decidable.not_not.1 hg3
          · exact ⟨rfl, True.intro⟩
      ·
        refine CJ_exit ?_
        refine QJ_then_exit ?_
        refine QJ_round_exit ?_
        refine QJ_block_here ?_
        refine QJ_then ?_
        refine CJ_seq ?_
        refine CJ_region ?_
        refine RJ_op rfl (OJ_P (P_assign rfl) rfl ?_)
        refine RJ_nil ?_
        refine QJ_then ?_
        refine CJ_ret ?_
        refine QJ_end (res1 Try.results37 rfl) ?_
        refine CSpec.close () ?_ ?_ (Ent.take del0 (Ent.take del0 Ent.refl))
        ·
          obtain rfl : k = xs.length := by omega
          exact bv (eqA (by omega) hn).symm
        · trivial

end Go.Proofs
