/- YtomomnpnkfgnnaaCKeep04: contracts of functions of the program, walked rule by rule; printed by vg.py. -/
import Derived.Test.YtomomnpnkfgnnaaCDisk1
set_option linter.unusedSimpArgs false
set_option maxRecDepth 20000
namespace Go.Proofs
open Go.VG
theorem CKeep04_bs_37_1_0 (v0 : Bool) : BuildsSlice Try.prog 37 1 [(0, .bool v0)] 4 [.bool v0] := fun w => by kernel_rfl
theorem CKeep04_bs_22_1_0 (v0 : Int) : BuildsSlice Try.prog 22 1 [(0, .int .i64 v0)] 3 [.int .i64 v0] := fun w => by kernel_rfl

/-- What survives: bit i mod 64. -/
def keepB (u : UInt64) (i : Nat) : Bool := decide ((((shrU u (i % 64)) &&& 1).toNat : Int) = 1)
def keepL (u : UInt64) : List Bool := (List.range 192).map (keepB u)
theorem keepL_step (u : UInt64) (k : Nat) : (List.range k).map (keepB u) ++ [keepB u k] = (List.range (k + 1)).map (keepB u) := by
  rw [List.range_succ, List.map_append]; rfl

theorem c_Keep {W : World} {u : UInt64} :
    CSpec Try.prog W 26 [.int .u64 (u.toNat : Int)] [] (fun x : Sl3 => x.v) (fun _ => True) (fun x F => sl tyB x.v (keepL u) :: F) := by
  refine CSpec.of_body Try.func26 rfl Try.ntmps26 rfl (fun F => ?_)
  show CJ _ _ _ _ _ _ (F)
  refine CJ_seq ?_
  refine CJ_region ?_
  refine RJ_op rfl (OJ_P (P_assign rfl) rfl ?_)
  refine RJ_nil ?_
  refine QJ_then ?_
  refine CJ_seq ?_
  refine CJ_region ?_
  refine RJ_op rfl (OJ_P (P_assign rfl) rfl ?_)
  refine RJ_nil ?_
  refine QJ_then ?_
  refine CJ_seq ?_
  refine CJ_seq ?_
  refine CJ_region ?_
  refine RJ_op rfl (OJ_P (P_assign rfl) rfl ?_)
  refine RJ_nil ?_
  refine QJ_then ?_
  refine CJ_block ?_
  refine CJ_ent (fun h hh => sl_nil (t := tyB) h hh) ?_
  refine CJ_loopR (X := Nat × Sl3) [3, 4, 5, 6, 7, 8, 9, 10, 11, 12, 13, 14, 15, 16, 17] (fun ⟨k, rv⟩  => ([(4, .int .i64 (k : Nat)), (3, rv.v)] : Slots)) (fun ⟨k, rv⟩ R => sl tyB rv.v ((List.range k).map (keepB u)) :: R) (fun ⟨k, rv⟩  => k ≤ 192) (fun ⟨k, rv⟩  => 192 - k) ⟨0, ⟨none, 0, 0⟩⟩ ?_ ?_ (Ent.take del0 Ent.refl) ?_
  · omega
  · exact ⟨rfl, rfl, True.intro⟩
  ·
    rintro ⟨k, rv⟩ hk
    show CJ _ _ _ _ _ (([(4, .int .i64 (k : Nat)), (3, rv.v)] : Slots) ++ forget _ _) (sl tyB rv.v ((List.range k).map (keepB u)) :: _)
    have hlen : ((List.range k).map (keepB u)).length = k := by simp
    refine CJ_seq ?_
    refine CJ_seq ?_
    refine CJ_region ?_
    refine RJ_op rfl (OJ_P (P_move rfl) rfl ?_)
    refine RJ_op rfl (OJ_P (P_lss rfl rfl) rfl ?_)
    refine RJ_nil ?_
    refine QJ_then ?_
    first | (refine CJ_condD rfl (fun hg1 => ?_) (fun hg1 => ?_)) | (refine CJ_condN rfl (fun hg1 => ?_) (fun hg1 => ?_)) | (refine CJ_cond rfl (fun hg1 => ?_) (fun hg1 => ?_))
    ·
      refine CJ_skip ?_
      refine QJ_then ?_
      refine CJ_seq ?_
      refine CJ_block ?_
      refine CJ_region ?_
      refine RJ_op rfl (OJ_P (P_move rfl) rfl ?_)
      refine RJ_op rfl (OJ_P (P_move rfl) rfl ?_)
      refine RJ_op rfl (OJ_P (P_move rfl) rfl ?_)
      refine RJ_op rfl (OJ_P (P_rem rfl rfl (by omega)) rfl ?_)
      refine RJ_op rfl (OJ_P (P_shrU (a := u) (m := k % 64) rfl rfl (by omega) (by omega)) rfl ?_)
      refine RJ_op rfl (OJ_P (P_andU (a := shrU u (k % 64)) (b := 1) rfl rfl) rfl ?_)
      refine RJ_op rfl (OJ_P (P_eql rfl rfl) rfl ?_)
      refine RJ_op rfl (O_buildSlice rfl (CKeep04_bs_37_1_0 _) rfl (fun b1 => ?_))
      refine RJ_op rfl (O_append (t := tyB) (bytes := 1) rfl rfl del1 foc0 (Reads.lit (t := tyB) (ys := [keepB u k]) rfl rfl (by decide) (by decide) rfl) Try.underlying37 ok_tyB (by simp only [List.length_append, List.length_cons, List.length_nil, maxLen] at *; omega) (by simp only [List.length_append, List.length_cons, List.length_nil, maxLen] at *; omega) rfl (fun p2 c3 => ?_))
      refine RJ_op rfl (OJ_P (P_assign rfl) rfl ?_)
      refine RJ_nil ?_
      refine QJ_block_normal ?_
      refine QJ_then ?_
      refine CJ_region ?_
      refine RJ_op rfl (OJ_P (P_move rfl) rfl ?_)
      refine RJ_op rfl (OJ_P (P_add rfl rfl (by omega)) rfl ?_)
      refine RJ_op rfl (OJ_P (P_assign rfl) rfl ?_)
      refine RJ_nil ?_
      refine QJ_nextR ⟨k + 1, ⟨p2, _, c3⟩⟩ (by first | omega | (simp only []; omega)) ?_ (by repeat (first | exact Kp.base | exact Kp.self | refine Kp.cons rfl ?_ | refine Kp.forget rfl ?_)) ?_ (Ent.takeC del0 (congrArg (sl tyB _) (keepL_step u k)) (Ent.drop Ent.refl))
      · omega
      · exact ⟨rfl, rfl, True.intro⟩
    ·
      refine CJ_exit ?_
      refine QJ_then_exit ?_
      refine QJ_round_exit ?_
      refine QJ_block_here ?_
      refine QJ_then ?_
      refine CJ_seq ?_
      refine CJ_region ?_
      refine RJ_op rfl (OJ_P (P_move rfl) rfl ?_)
      refine RJ_op rfl (OJ_P (P_assign rfl) rfl ?_)
      refine RJ_nil ?_
      refine QJ_then ?_
      refine CJ_ret ?_
      refine QJ_end (res1 Try.results26 rfl) ?_
      obtain rfl : k = 192 := by omega
      refine CSpec.close rv ?_ ?_ (Ent.take del0 Ent.refl)
      · rfl
      · trivial

theorem c_awake04 {W : World}  :
    CSpec Try.prog W 5 [] [] (fun _ : Unit => .bool true) (fun _ => True) (fun _ F => F) := by
  refine CSpec.of_body Try.func5 rfl Try.ntmps5 rfl (fun F => ?_)
  show CJ _ _ _ _ _ _ (F)
  refine CJ_seq ?_
  refine CJ_region ?_
  refine RJ_op rfl (OJ_P (P_assign rfl) rfl ?_)
  refine RJ_nil ?_
  refine QJ_then ?_
  refine CJ_seq ?_
  refine CJ_region ?_
  refine RJ_op rfl (O_buildSlice rfl (CKeep04_bs_22_1_0 _) rfl (fun b1 => ?_))
  refine RJ_ent (Ent.trans (Ent.take del0 Ent.refl) (sl_of_lit (t := tyI) (m := 1) [2] rfl rfl rfl (by decide))) ?_
  refine RJ_op rfl (O_call (c_New (Reads.sl _ _ _) (by first | assumption | exact newOk_of (by decide) (by decide))) rfl Try.call7 (Dels.cons del0 Dels.nil) rfl (fun bA2 hc4 => ?_))
  refine RJ_op rfl (OJ_P (P_move rfl) rfl ?_)
  refine RJ_op rfl (OJ_P (P_extract rfl rfl) rfl ?_)
  refine RJ_op rfl (OJ_P (P_extract rfl rfl) rfl ?_)
  refine RJ_op rfl (OJ_P (P_assign rfl) rfl ?_)
  refine RJ_op rfl (OJ_P (P_assign rfl) rfl ?_)
  refine RJ_nil ?_
  refine QJ_then ?_
  refine CJ_seq ?_
  refine CJ_seq ?_
  refine CJ_region ?_
  refine RJ_op rfl (OJ_P (P_move rfl) rfl ?_)
  refine RJ_op rfl (OJ_P (P_neq rfl rfl) rfl ?_)
  refine RJ_op rfl (OJ_P (P_move rfl) rfl ?_)
  first | (refine RJ_know 12 false rfl (decide_eq_false (by decide)) (fun hg1B => ?_)) | (refine RJ_know 12 false rfl (by decide) (fun hg1B => ?_))
  refine RJ_gy (GY_yes rfl rfl rfl hg1B) (OJ_P (P_move rfl) rfl ?_)
  refine RJ_gy (GY_yes rfl rfl rfl hg1B) (OJ_P (P_eqlPN rfl rfl Try.underlying30) rfl ?_)
  refine RJ_op rfl (OJ_P (P_pickF rfl hg1B rfl) rfl ?_)
  refine RJ_op rfl (OJ_P (P_move rfl) rfl ?_)
  refine RJ_gy (GY_yes rfl rfl rfl rfl) (OJ_P (P_move rfl) rfl ?_)
  refine RJ_gy (GY_yes rfl rfl rfl rfl) (O_call (c_Write (v := 5) (by first | assumption | decide)) rfl Try.call8 (Dels.cons del0 Dels.nil) rfl (fun _ hc5 => ?_))
  refine RJ_gy (GY_yes rfl rfl rfl rfl) (OJ_P (P_neq rfl rfl) rfl ?_)
  refine RJ_op rfl (OJ_P (P_pickF rfl rfl rfl) rfl ?_)
  refine RJ_op rfl (OJ_P (P_move rfl) rfl ?_)
  first | (refine RJ_know 21 false rfl (decide_eq_false (by decide +kernel)) (fun hg2B => ?_)) | (refine RJ_know 21 false rfl (by decide +kernel) (fun hg2B => ?_))
  refine RJ_gy (GY_yes rfl rfl rfl hg2B) (OJ_P (P_move rfl) rfl ?_)
  refine RJ_gy (GY_yes rfl rfl rfl hg2B) (O_call (c_FlushD (by first | assumption | decide)) rfl Try.call9 (Dels.cons del0 Dels.nil) rfl (fun _ hc6 => ?_))
  refine RJ_gy (GY_yes rfl rfl rfl hg2B) (OJ_P (P_neq rfl rfl) rfl ?_)
  refine RJ_op rfl (OJ_P (P_pickF rfl hg2B rfl) rfl ?_)
  refine RJ_op rfl (OJ_P (P_move rfl) rfl ?_)
  first | (refine RJ_know 26 false rfl (decide_eq_false (by decide +kernel)) (fun hg3B => ?_)) | (refine RJ_know 26 false rfl (by decide +kernel) (fun hg3B => ?_))
  refine RJ_gy (GY_yes rfl rfl rfl hg3B) (OJ_P (P_move rfl) rfl ?_)
  refine RJ_gy (GY_yes rfl rfl rfl hg3B) (O_call (c_Write (v := 6) (by first | assumption | decide)) rfl Try.call8 (Dels.cons del0 Dels.nil) rfl (fun _ hc7 => ?_))
  refine RJ_gy (GY_yes rfl rfl rfl hg3B) (OJ_P (P_neq rfl rfl) rfl ?_)
  refine RJ_op rfl (OJ_P (P_pickF rfl hg3B rfl) rfl ?_)
  refine RJ_nil ?_
  refine QJ_then ?_
  first | (refine CJ_condF rfl (decide_eq_false (by decide +kernel)) ?_) | (refine CJ_condF rfl (by decide +kernel) ?_)
  refine CJ_skip ?_
  refine QJ_then ?_
  refine CJ_seq ?_
  refine CJ_region ?_
  refine RJ_op rfl (OJ_P (P_move rfl) rfl ?_)
  refine RJ_op rfl (O_buildSlice rfl (CKeep04_bs_37_1_0 _) rfl (fun b8 => ?_))
  refine RJ_ent (Ent.trans (Ent.take del0 Ent.refl) (sl_of_lit (t := tyB) (m := 1) [false] rfl rfl rfl (by decide))) ?_
  refine RJ_op rfl (O_call (c_Restart (Reads.sl _ _ _) (by first | assumption | decide)) rfl Try.call10 (Dels.cons del1 (Dels.cons del0 Dels.nil)) rfl (fun _ hc9 => ?_))
  refine RJ_nil ?_
  refine QJ_then ?_
  refine CJ_seq ?_
  refine CJ_region ?_
  refine RJ_op rfl (OJ_P (P_move rfl) rfl ?_)
  refine RJ_op rfl (O_call (c_Read) rfl Try.call11 (Dels.cons del0 Dels.nil) rfl (fun _ hc10 => ?_))
  refine RJ_op rfl (OJ_P (P_move rfl) rfl ?_)
  refine RJ_op rfl (OJ_P (P_extract rfl rfl) rfl ?_)
  refine RJ_op rfl (OJ_P (P_extract rfl rfl) rfl ?_)
  refine RJ_op rfl (OJ_P (P_assign rfl) rfl ?_)
  refine RJ_op rfl (OJ_P (P_assign rfl) rfl ?_)
  refine RJ_nil ?_
  refine QJ_then ?_
  refine CJ_seq ?_
  refine CJ_region ?_
  refine RJ_op rfl (OJ_P (P_move rfl) rfl ?_)
  refine RJ_op rfl (OJ_P (P_eql rfl rfl) rfl ?_)
  refine RJ_op rfl (OJ_P (P_move rfl) rfl ?_)
  first | (refine RJ_know 41 true rfl (decide_eq_true (by decide +kernel)) (fun hg5B => ?_)) | (refine RJ_know 41 true rfl (by decide +kernel) (fun hg5B => ?_))
  refine RJ_gy (GY_yes rfl rfl rfl hg5B) (OJ_P (P_move rfl) rfl ?_)
  refine RJ_gy (GY_yes rfl rfl rfl hg5B) (OJ_P (P_eql rfl rfl) rfl ?_)
  refine RJ_op rfl (OJ_P (P_pickT rfl hg5B rfl) rfl ?_)
  refine RJ_op rfl (OJ_P (P_assign rfl) rfl ?_)
  refine RJ_nil ?_
  refine QJ_then ?_
  refine CJ_ret ?_
  refine QJ_end (res1 Try.results5 rfl) ?_
  refine CSpec.close () ?_ ?_ (Ent.drop (Ent.drop (Ent.drop Ent.refl)))
  · rfl
  · trivial

end Go.Proofs
