/- YtomomnpnkfgnnaaCRaw2: contracts of functions of the program, walked rule by rule; printed by vg.py. -/
import Derived.Test.YtomomnpnkfgnnaaCRaw1
set_option linter.unusedSimpArgs false
set_option maxRecDepth 20000
namespace Go.Proofs
open Go.VG
theorem CRaw2_bs_22_3_0_1_2 (v0 : Int) (v1 : Int) (v2 : Int) : BuildsSlice Try.prog 22 3 [(0, .int .i64 v0), (1, .int .i64 v1), (2, .int .i64 v2)] 3 [.int .i64 v0, .int .i64 v1, .int .i64 v2] := fun w => by kernel_rfl
theorem c_plays {W : World} {A B : HP} {v u : Value} {zs : List Int} {ls : List CallJV} (hA : Reads A tyI v zs) (hB : Reads B tyCallJ u ls) (hL : ls.length ≤ 100000) (h63 : zs.length ≤ 4611686018427387904) :
    CSpec Try.prog W 6 [v, u] [A, B] (fun _ : Unit => .bool true) (fun _ => True) (fun _ F => A :: B :: F) := by
  by_cases hN : NewOk zs
  · exact c_playsN hA hB hL hN
  · exact c_playsB hA hB h63 hN
def m4 (x : I64) : I64 := ⟨(x.1.tmod 4 + 4).tmod 4, by have := tm (m := 4) (by omega) x.1; omega⟩
def m8 (x : I64) : I64 := ⟨(x.1.tmod 8 + 8).tmod 8, by have := tm (m := 8) (by omega) x.1; omega⟩
theorem P_quoE {P : Program} {n : Env} {s : Slots} {dst : Option Tmp} {ty : TypeId} {pos : String} {after : Array Edge} {g : Option (Nat × Bool)} {x y : Operand} {t t' : TypeId} {k : IntKind} {a b : Int} (hx : ev s x = some (.int k a)) (hy : ev s y = some (.int k b)) (hr : 0 ≤ a ∧ 0 < b) (hw : k.wrap (a / b) = a / b) : PJ P n ⟨dst, .binOp .quo t x y t', ty, pos, after, g⟩ s (.int k (a / b)) := by
  have h := P_quoT (P := P) (n := n) (dst := dst) (ty := ty) (pos := pos) (after := after) (g := g) (t := t) (t' := t') hx hy (by omega)
  rw [Int.tdiv_eq_ediv_of_nonneg hr.1, hw] at h
  exact h
theorem ok_tyCallJ : ElemOk Try.prog tyCallJ 40 := ⟨Try.t28, .agg #[.int .i64 0, .int .i64 0, .int .i64 0, .int .u64 0, .bool false], by kernel_rfl, rfl, rfl, rfl, rfl⟩

theorem c_DiskRaw {W : World} {A B : HP} {v u : Value} {zs : List Int} {ls : List CallJV} (hA : Reads A tyI v zs) (hB : Reads B tyCallJ u ls) :
    CSpec Try.prog W 3 [v, u] [A, B] (fun _ : Unit => .bool true) (fun _ => True) (fun _ F => A :: B :: F) := by
  refine CSpec.of_body Try.func3 rfl Try.ntmps3 rfl (fun F => ?_)
  show CJ _ _ _ _ _ _ (_ :: _ :: F)
  refine CJ_seq ?_
  refine CJ_region ?_
  refine RJ_op rfl (OJ_P (P_assign rfl) rfl ?_)
  refine RJ_nil ?_
  refine QJ_then ?_
  refine CJ_seq ?_
  refine CJ_seq ?_
  refine CJ_region ?_
  refine RJ_op rfl (OJ_P (P_move rfl) rfl ?_)
  refine RJ_op rfl (OJ_V (V_len rfl foc1 hB Try.runUnderlying23) rfl ?_)
  refine RJ_op rfl (OJ_P (P_gtr rfl rfl) rfl ?_)
  refine RJ_op rfl (OJ_P (P_move rfl) rfl ?_)
  first | (refine RJ_splitD 9 rfl (fun hg1B hg1 => ?_) (fun hg1B hg1 => ?_)) | (refine RJ_splitN 9 rfl (fun hg1B hg1 => ?_) (fun hg1B hg1 => ?_)) | (refine RJ_split 9 rfl (fun hg1B => ?_) (fun hg1B => ?_))
  ·
    refine RJ_gn (GY_no rfl rfl rfl hg1B) rfl rfl ?_
    refine RJ_gn (GY_no rfl rfl rfl hg1B) rfl rfl ?_
    refine RJ_gn (GY_no rfl rfl rfl hg1B) rfl rfl ?_
    refine RJ_op rfl (OJ_P (P_pickT rfl hg1B rfl) rfl ?_)
    refine RJ_nil ?_
    refine QJ_then ?_
    refine CJ_condT rfl rfl ?_
    refine CJ_seq ?_
    refine CJ_region ?_
    refine RJ_op rfl (O_call (c_awake04) rfl Try.call5 Dels.nil rfl (fun _ hc1 => ?_))
    refine RJ_op rfl (OJ_P (P_assign rfl) rfl ?_)
    refine RJ_nil ?_
    refine QJ_then ?_
    refine CJ_ret ?_
    refine QJ_then_ret ?_
    refine QJ_end (res1 Try.results3 rfl) ?_
    refine CSpec.close () ?_ ?_ (Ent.take del0 (Ent.take del0 Ent.refl))
    · rfl
    · trivial
  ·
    refine RJ_gy (GY_yes rfl rfl rfl hg1B) (OJ_P (P_move rfl) rfl ?_)
    refine RJ_gy (GY_yes rfl rfl rfl hg1B) (OJ_V (V_len rfl foc0 hA Try.runUnderlying22) rfl ?_)
    refine RJ_gy (GY_yes rfl rfl rfl hg1B) (OJ_P (P_gtr rfl rfl) rfl ?_)
    refine RJ_op rfl (OJ_P (P_pickF rfl hg1B rfl) rfl ?_)
    refine RJ_nil ?_
    refine QJ_then ?_
    first | (refine CJ_condD rfl (fun hg2 => ?_) (fun hg2 => ?_)) | (refine CJ_condN rfl (fun hg2 => ?_) (fun hg2 => ?_)) | (refine CJ_cond rfl (fun hg2 => ?_) (fun hg2 => ?_))
    ·
      refine CJ_seq ?_
      refine CJ_region ?_
      refine RJ_op rfl (O_call (c_awake04) rfl Try.call5 Dels.nil rfl (fun _ hc2 => ?_))
      refine RJ_op rfl (OJ_P (P_assign rfl) rfl ?_)
      refine RJ_nil ?_
      refine QJ_then ?_
      refine CJ_ret ?_
      refine QJ_then_ret ?_
      refine QJ_end (res1 Try.results3 rfl) ?_
      refine CSpec.close () ?_ ?_ (Ent.take del0 (Ent.take del0 Ent.refl))
      · rfl
      · trivial
    ·
      refine CJ_skip ?_
      refine QJ_then ?_
      refine CJ_seq ?_
      refine CJ_seq ?_
      refine CJ_region ?_
      refine RJ_op rfl (OJ_P (P_assign rfl) rfl ?_)
      refine RJ_nil ?_
      refine QJ_then ?_
      refine CJ_block ?_
      refine CJ_loopR (X := Nat) [4, 5, 15, 16, 17, 18, 19, 20, 21, 22, 23, 24, 25, 26, 27, 28, 29, 30, 31, 32, 33] (fun i  => ([(5, .int .i64 (i : Nat))] : Slots)) (fun i R => R) (fun i  => i ≤ zs.length) (fun i  => zs.length - i) (0) ?_ ?_ (Ent.take del0 (Ent.take del0 Ent.refl)) ?_
      · exact Nat.zero_le _
      · exact ⟨rfl, True.intro⟩
      ·
        intro i hi
        show CJ _ _ _ _ _ (([(5, .int .i64 (i : Nat))] : Slots) ++ forget _ _) (_)
        refine CJ_seq ?_
        refine CJ_seq ?_
        refine CJ_region ?_
        refine RJ_op rfl (OJ_P (P_move rfl) rfl ?_)
        refine RJ_op rfl (OJ_P (P_move rfl) rfl ?_)
        refine RJ_op rfl (OJ_V (V_len rfl foc0 hA Try.runUnderlying22) rfl ?_)
        refine RJ_op rfl (OJ_P (P_lss rfl rfl) rfl ?_)
        refine RJ_nil ?_
        refine QJ_then ?_
        first | (refine CJ_condD rfl (fun hg3 => ?_) (fun hg3 => ?_)) | (refine CJ_condN rfl (fun hg3 => ?_) (fun hg3 => ?_)) | (refine CJ_cond rfl (fun hg3 => ?_) (fun hg3 => ?_))
        ·
          refine CJ_skip ?_
          refine QJ_then ?_
          refine CJ_seq ?_
          refine CJ_block ?_
          refine CJ_seq ?_
          refine CJ_region ?_
          refine RJ_op rfl (OJ_P (P_move rfl) rfl ?_)
          refine RJ_op rfl (OJ_P (P_move rfl) rfl ?_)
          first | (refine RJ_op rfl (OJ_V (V_index rfl rfl rfl (by omega) foc0 hA Try.runUnderlying22 Try.sizeOf3) rfl ?_)) | (refine RJ_op rfl (OJ_V (V_index rfl rfl (Int.toNat_of_nonneg (by omega)).symm (by omega) foc0 hA Try.runUnderlying22 Try.sizeOf3) rfl ?_))
          refine RJ_op rfl (OJ_V (V_loadE rfl rfl (by omega) foc0 hA rfl rfl Try.isAgg3) rfl ?_)
          refine RJ_op rfl (OJ_P (P_gtr rfl rfl) rfl ?_)
          refine RJ_op rfl (OJ_P (P_move rfl) rfl ?_)
          first | (refine RJ_splitD 26 rfl (fun hg4B hg4 => ?_) (fun hg4B hg4 => ?_)) | (refine RJ_splitN 26 rfl (fun hg4B hg4 => ?_) (fun hg4B hg4 => ?_)) | (refine RJ_split 26 rfl (fun hg4B => ?_) (fun hg4B => ?_))
          ·
            refine RJ_gy (GY_yes rfl rfl rfl hg4B) (OJ_P (P_move rfl) rfl ?_)
            refine RJ_gy (GY_yes rfl rfl rfl hg4B) (OJ_P (P_move rfl) rfl ?_)
            first | (refine RJ_gy (GY_yes rfl rfl rfl hg4B) (OJ_V (V_index rfl rfl rfl (by omega) foc0 hA Try.runUnderlying22 Try.sizeOf3) rfl ?_)) | (refine RJ_gy (GY_yes rfl rfl rfl hg4B) (OJ_V (V_index rfl rfl (Int.toNat_of_nonneg (by omega)).symm (by omega) foc0 hA Try.runUnderlying22 Try.sizeOf3) rfl ?_))
            refine RJ_gy (GY_yes rfl rfl rfl hg4B) (OJ_V (V_loadE rfl rfl (by omega) foc0 hA rfl rfl Try.isAgg3) rfl ?_)
            refine RJ_gy (GY_yes rfl rfl rfl hg4B) (OJ_P (P_leq rfl rfl) rfl ?_)
            refine RJ_op rfl (OJ_P (P_pickT rfl hg4B rfl) rfl ?_)
            refine RJ_nil ?_
            refine QJ_then ?_
            first | (refine CJ_condD rfl (fun hg5 => ?_) (fun hg5 => ?_)) | (refine CJ_condN rfl (fun hg5 => ?_) (fun hg5 => ?_)) | (refine CJ_cond rfl (fun hg5 => ?_) (fun hg5 => ?_))
            ·
              refine CJ_seq ?_
              refine CJ_region ?_
              refine RJ_op rfl (O_call (c_awake04) rfl Try.call5 Dels.nil rfl (fun _ hc3 => ?_))
              refine RJ_op rfl (OJ_P (P_assign rfl) rfl ?_)
              refine RJ_nil ?_
              refine QJ_then ?_
              refine CJ_ret ?_
              refine QJ_block_ret ?_
              refine QJ_then_ret ?_
              refine QJ_round_ret ?_
              refine QJ_block_ret ?_
              refine QJ_then_ret ?_
              refine QJ_end (res1 Try.results3 rfl) ?_
              refine CSpec.close () ?_ ?_ (Ent.take del0 (Ent.take del0 Ent.refl))
              · rfl
              · trivial
            ·
              refine CJ_skip ?_
              refine QJ_block_normal ?_
              refine QJ_then ?_
              refine CJ_region ?_
              refine RJ_op rfl (OJ_P (P_move rfl) rfl ?_)
              refine RJ_op rfl (OJ_P (P_add rfl rfl (by omega)) rfl ?_)
              refine RJ_op rfl (OJ_P (P_assign rfl) rfl ?_)
              refine RJ_nil ?_
              refine QJ_nextR (i + 1) (by first | omega | (simp only []; omega)) ?_ (by repeat (first | exact Kp.base | exact Kp.self | refine Kp.cons rfl ?_ | refine Kp.forget rfl ?_)) ?_ (Ent.take del0 (Ent.take del0 Ent.refl))
              · omega
              · exact ⟨rfl, True.intro⟩
          ·
            refine RJ_gn (GY_no rfl rfl rfl hg4B) rfl rfl ?_
            refine RJ_gn (GY_no rfl rfl rfl hg4B) rfl rfl ?_
            refine RJ_gn (GY_no rfl rfl rfl hg4B) rfl rfl ?_
            refine RJ_gn (GY_no rfl rfl rfl hg4B) rfl rfl ?_
            refine RJ_gn (GY_no rfl rfl rfl hg4B) rfl rfl ?_
            refine RJ_op rfl (OJ_P (P_pickF rfl hg4B rfl) rfl ?_)
            refine RJ_nil ?_
            refine QJ_then ?_
            refine CJ_condF rfl rfl ?_
            refine CJ_skip ?_
            refine QJ_block_normal ?_
            refine QJ_then ?_
            refine CJ_region ?_
            refine RJ_op rfl (OJ_P (P_move rfl) rfl ?_)
            refine RJ_op rfl (OJ_P (P_add rfl rfl (by omega)) rfl ?_)
            refine RJ_op rfl (OJ_P (P_assign rfl) rfl ?_)
            refine RJ_nil ?_
            refine QJ_nextR (i + 1) (by first | omega | (simp only []; omega)) ?_ (by repeat (first | exact Kp.base | exact Kp.self | refine Kp.cons rfl ?_ | refine Kp.forget rfl ?_)) ?_ (Ent.take del0 (Ent.take del0 Ent.refl))
            · omega
            · exact ⟨rfl, True.intro⟩
        ·
          refine CJ_exit ?_
          refine QJ_then_exit ?_
          refine QJ_round_exit ?_
          refine QJ_block_here ?_
          refine QJ_then ?_
          refine CJ_seq ?_
          refine CJ_region ?_
          refine RJ_op rfl (OJ_P (P_move rfl) rfl ?_)
          refine RJ_op rfl (OJ_P (P_move rfl) rfl ?_)
          refine RJ_op rfl (O_call (c_plays hA hB (by first | assumption | omega | (simp only [List.length_set, List.length_append, List.length_nil, List.length_cons]; omega)) (by first | assumption | omega | (simp only [List.length_set, List.length_append, List.length_nil, List.length_cons]; omega))) rfl Try.call6 (Dels.cons del0 (Dels.cons del0 Dels.nil)) rfl (fun _ hc4 => ?_))
          refine RJ_op rfl (OJ_P (P_move rfl) rfl ?_)
          refine RJ_gy (GY_yes rfl rfl rfl rfl) (O_call (c_awake04) rfl Try.call5 Dels.nil rfl (fun _ hc5 => ?_))
          refine RJ_op rfl (OJ_P (P_pickT rfl rfl rfl) rfl ?_)
          refine RJ_op rfl (OJ_P (P_assign rfl) rfl ?_)
          refine RJ_nil ?_
          refine QJ_then ?_
          refine CJ_ret ?_
          refine QJ_end (res1 Try.results3 rfl) ?_
          refine CSpec.close () ?_ ?_ (Ent.take del0 (Ent.take del0 Ent.refl))
          · rfl
          · trivial

theorem c_DiskCalls {W : World} {B : HP} {u : Value} {ls : List CallJV} {h : Int} (hB : Reads B tyCallJ u ls) (hh : 0 ≤ h ∧ h ≤ 255) :
    CSpec Try.prog W 4 [u, .int .u8 h] [B] (fun _ : Unit => .bool true) (fun _ => True) (fun _ F => B :: F) := by
  refine CSpec.of_body Try.func4 rfl Try.ntmps4 rfl (fun F => ?_)
  show CJ _ _ _ _ _ _ (_ :: F)
  refine CJ_seq ?_
  refine CJ_region ?_
  refine RJ_op rfl (OJ_P (P_assign rfl) rfl ?_)
  refine RJ_nil ?_
  refine QJ_then ?_
  refine CJ_seq ?_
  refine CJ_seq ?_
  refine CJ_region ?_
  refine RJ_op rfl (OJ_P (P_move rfl) rfl ?_)
  refine RJ_op rfl (OJ_V (V_len rfl foc0 hB Try.runUnderlying23) rfl ?_)
  refine RJ_op rfl (OJ_P (P_gtr rfl rfl) rfl ?_)
  refine RJ_nil ?_
  refine QJ_then ?_
  first | (refine CJ_condD rfl (fun hg1 => ?_) (fun hg1 => ?_)) | (refine CJ_condN rfl (fun hg1 => ?_) (fun hg1 => ?_)) | (refine CJ_cond rfl (fun hg1 => ?_) (fun hg1 => ?_))
  ·
    refine CJ_seq ?_
    refine CJ_region ?_
    refine RJ_op rfl (O_call (c_awake04) rfl Try.call5 Dels.nil rfl (fun _ hc1 => ?_))
    refine RJ_op rfl (OJ_P (P_assign rfl) rfl ?_)
    refine RJ_nil ?_
    refine QJ_then ?_
    refine CJ_ret ?_
    refine QJ_then_ret ?_
    refine QJ_end (res1 Try.results4 rfl) ?_
    refine CSpec.close () ?_ ?_ (Ent.take del0 Ent.refl)
    · rfl
    · trivial
  ·
    refine CJ_skip ?_
    refine QJ_then ?_
    refine CJ_seq ?_
    refine CJ_region ?_
    refine RJ_op rfl (OJ_P (P_move rfl) rfl ?_)
    refine RJ_op rfl (OJ_P (P_rem rfl rfl (by first | omega | (simp only [List.length_set, List.length_append, List.length_nil, List.length_cons]; omega))) rfl ?_)
    refine RJ_op rfl (OJ_P (P_convSame rfl Try.runUnderlying5 Try.runUnderlying3 (by first | rfl | exact wrap64_in (by omega) (by omega))) rfl ?_)
    refine RJ_op rfl (OJ_P (P_add rfl rfl (by first | omega | (simp only [List.length_set, List.length_append, List.length_nil, List.length_cons]; omega))) rfl ?_)
    refine RJ_op rfl (OJ_P (P_move rfl) rfl ?_)
    refine RJ_op rfl (OJ_P (P_quoE rfl rfl (by omega) (by simp [IntKind.wrap, IntKind.signed, IntKind.bits]; omega)) rfl ?_)
    refine RJ_op rfl (OJ_P (P_rem rfl rfl (by first | omega | (simp only [List.length_set, List.length_append, List.length_nil, List.length_cons]; omega))) rfl ?_)
    refine RJ_op rfl (OJ_P (P_convSame rfl Try.runUnderlying5 Try.runUnderlying3 (by first | rfl | exact wrap64_in (by omega) (by omega))) rfl ?_)
    refine RJ_op rfl (OJ_P (P_add rfl rfl (by first | omega | (simp only [List.length_set, List.length_append, List.length_nil, List.length_cons]; omega))) rfl ?_)
    refine RJ_op rfl (O_buildSlice rfl (CRaw2_bs_22_3_0_1_2 _ _ _) rfl (fun b2 => ?_))
    refine RJ_ent (Ent.trans (Ent.take del0 Ent.refl) (sl_of_lit (t := tyI) (m := 3) [1 + h % 4, 1 + h / 4 % 8, 5] rfl rfl rfl (by decide))) ?_
    refine RJ_op rfl (OJ_P (P_assign rfl) rfl ?_)
    refine RJ_nil ?_
    refine QJ_then ?_
    refine CJ_seq ?_
    refine CJ_region ?_
    refine RJ_op rfl (OJ_P (P_move rfl) rfl ?_)
    refine RJ_ent (fun h hh => sl_nil (t := tyCallJ) h hh) ?_
    refine RJ_op rfl (O_append (t := tyCallJ) (bytes := 40) rfl rfl del0 foc1 hB Try.underlying23 ok_tyCallJ (by simp only [List.length_append, List.length_cons, List.length_nil, maxLen] at *; omega) (by simp only [List.length_append, List.length_cons, List.length_nil, maxLen] at *; omega) rfl (fun p5 c6 => ?_))
    refine RJ_op rfl (OJ_P (P_assign rfl) rfl ?_)
    refine RJ_nil ?_
    refine QJ_then ?_
    refine CJ_seq ?_
    refine CJ_seq ?_
    refine CJ_region ?_
    refine RJ_op rfl (OJ_P (P_assign rfl) rfl ?_)
    refine RJ_nil ?_
    refine QJ_then ?_
    refine CJ_block ?_
    refine CJ_loopR (X := Nat × List CallJV) [7, 24, 25, 26, 27, 28, 29, 30, 31, 32, 33, 34, 35, 36, 37, 38, 39, 40, 41, 42, 43, 44, 45, 46, 47, 48, 49, 50, 51, 52, 53, 54, 55, 56, 57, 58, 59, 60, 61, 62, 63, 64] (fun ⟨i, ys⟩  => ([(7, .int .i64 (i : Nat))] : Slots)) (fun ⟨i, ys⟩ R => sl tyCallJ (.slice p5 _ c6) ys :: R) (fun ⟨i, ys⟩  => i ≤ ls.length ∧ ys.length = ls.length) (fun ⟨i, ys⟩  => ls.length - i) ⟨0, [] ++ ls⟩ ?_ ?_ (Ent.take del0 (Ent.take del0 (Ent.take del0 Ent.refl))) ?_
    · exact ⟨Nat.zero_le _, rfl⟩
    · exact ⟨rfl, True.intro⟩
    ·
      rintro ⟨i, ys⟩ ⟨hi, hy⟩
      show CJ _ _ _ _ _ (([(7, .int .i64 (i : Nat))] : Slots) ++ forget _ _) (sl tyCallJ (.slice p5 _ c6) ys :: _)
      refine CJ_seq ?_
      refine CJ_seq ?_
      refine CJ_region ?_
      refine RJ_op rfl (OJ_P (P_move rfl) rfl ?_)
      refine RJ_op rfl (OJ_P (P_move rfl) rfl ?_)
      refine RJ_op rfl (OJ_V (V_len rfl foc0 (Reads.sl _ _ _) Try.runUnderlying23) rfl ?_)
      refine RJ_op rfl (OJ_P (P_lss rfl rfl) rfl ?_)
      refine RJ_nil ?_
      refine QJ_then ?_
      first | (refine CJ_condD rfl (fun hg2 => ?_) (fun hg2 => ?_)) | (refine CJ_condN rfl (fun hg2 => ?_) (fun hg2 => ?_)) | (refine CJ_cond rfl (fun hg2 => ?_) (fun hg2 => ?_))
      ·
        refine CJ_skip ?_
        refine QJ_then ?_
        refine CJ_seq ?_
        refine CJ_block ?_
        refine CJ_seq ?_
        have t1 := tm (m := 4) (by omega) (ys.getD i tyCallJ.dflt).f1.1
        have t2 := tm (m := 8) (by omega) (ys.getD i tyCallJ.dflt).f2.1
        refine AJ_startH 46137344 (by kernel_rfl) rfl ?_
        refine AJ_takeP 0 1 rfl (by kernel_rfl) rfl (GY_none rfl) (P_move rfl) rfl (fun _ _ _ _ h => h) ?_
        refine AJ_takeP 1 3 rfl (by kernel_rfl) rfl (GY_none rfl) (P_move rfl) rfl (fun _ _ _ _ h => h) ?_
        refine AJ_takeP 2 7 rfl (by kernel_rfl) rfl (GY_none rfl) (P_move rfl) rfl (fun _ _ _ _ h => h) ?_
        refine AJ_takeP 3 15 rfl (by kernel_rfl) rfl (GY_none rfl) (P_move rfl) rfl (fun _ _ _ _ h => h) ?_
        refine AJ_takeP 4 31 rfl (by kernel_rfl) rfl (GY_none rfl) (P_move rfl) rfl (fun _ _ _ _ h => h) ?_
        refine AJ_takeP 5 63 rfl (by kernel_rfl) rfl (GY_none rfl) (P_move rfl) rfl (fun _ _ _ _ h => h) ?_
        first | (refine AJ_takeV 6 127 rfl (by kernel_rfl) rfl (by kernel_rfl) (by kernel_rfl) (GY_none rfl) (Ent.take del0 (Ent.take del0 (Ent.take del0 Ent.refl))) (V_index rfl rfl rfl (by first | omega | (simp only [List.length_set, List.length_append, List.length_nil, List.length_cons]; omega)) foc0 (Reads.sl _ _ _) Try.runUnderlying23 Try.sizeOf28) rfl (fun _ _ _ _ h => h) ?_) | (refine AJ_takeV 6 127 rfl (by kernel_rfl) rfl (by kernel_rfl) (by kernel_rfl) (GY_none rfl) (Ent.take del0 (Ent.take del0 (Ent.take del0 Ent.refl))) (V_index rfl rfl (Int.toNat_of_nonneg (by first | omega | (simp only [List.length_set, List.length_append, List.length_nil, List.length_cons]; omega))).symm (by first | omega | (simp only [List.length_set, List.length_append, List.length_nil, List.length_cons]; omega)) foc0 (Reads.sl _ _ _) Try.runUnderlying23 Try.sizeOf28) rfl (fun _ _ _ _ h => h) ?_)
        refine AJ_takeP 7 255 rfl (by kernel_rfl) rfl (GY_none rfl) (P_fieldE rfl ⟨_, _, _, Try.runUnderlying28, rfl, rfl, Try.sizeOf3, rfl⟩) rfl (fun _ _ _ _ h => h) ?_
        refine AJ_takeV 8 511 rfl (by kernel_rfl) rfl (by kernel_rfl) (by kernel_rfl) (GY_none rfl) (Ent.take del0 (Ent.take del0 (Ent.take del0 Ent.refl))) (V_loadE rfl rfl (by first | omega | (simp only [List.length_set, List.length_append, List.length_nil, List.length_cons]; omega)) foc0 (Reads.sl _ _ _) rfl rfl Try.isAgg3) rfl (fun _ _ _ _ h => h) ?_
        refine AJ_takeP 9 1023 rfl (by kernel_rfl) rfl (GY_none rfl) (P_remT rfl rfl (by first | omega | (simp only [List.length_set, List.length_append, List.length_nil, List.length_cons]; omega))) rfl (fun _ _ _ _ h => h) ?_
        refine AJ_takeP 10 2047 rfl (by kernel_rfl) rfl (GY_none rfl) (P_add rfl rfl (by first | omega | (simp only [List.length_set, List.length_append, List.length_nil, List.length_cons]; omega))) rfl (fun _ _ _ _ h => h) ?_
        refine AJ_takeP 11 4095 rfl (by kernel_rfl) rfl (GY_none rfl) (P_remT rfl rfl (by first | omega | (simp only [List.length_set, List.length_append, List.length_nil, List.length_cons]; omega))) rfl (fun _ _ _ _ h => h) ?_
        refine AJ_takeP 12 8191 rfl (by kernel_rfl) rfl (GY_none rfl) (P_move rfl) rfl (fun _ _ _ _ h => h) ?_
        refine AJ_takeP 13 16383 rfl (by kernel_rfl) rfl (GY_none rfl) (P_move rfl) rfl (fun _ _ _ _ h => h) ?_
        first | (refine AJ_takeV 14 32767 rfl (by kernel_rfl) rfl (by kernel_rfl) (by kernel_rfl) (GY_none rfl) (Ent.take del0 (Ent.take del0 (Ent.take del0 Ent.refl))) (V_index rfl rfl rfl (by first | omega | (simp only [List.length_set, List.length_append, List.length_nil, List.length_cons]; omega)) foc0 (Reads.sl _ _ _) Try.runUnderlying23 Try.sizeOf28) rfl (fun _ _ _ _ h => h) ?_) | (refine AJ_takeV 14 32767 rfl (by kernel_rfl) rfl (by kernel_rfl) (by kernel_rfl) (GY_none rfl) (Ent.take del0 (Ent.take del0 (Ent.take del0 Ent.refl))) (V_index rfl rfl (Int.toNat_of_nonneg (by first | omega | (simp only [List.length_set, List.length_append, List.length_nil, List.length_cons]; omega))).symm (by first | omega | (simp only [List.length_set, List.length_append, List.length_nil, List.length_cons]; omega)) foc0 (Reads.sl _ _ _) Try.runUnderlying23 Try.sizeOf28) rfl (fun _ _ _ _ h => h) ?_)
        refine AJ_takeP 15 65535 rfl (by kernel_rfl) rfl (GY_none rfl) (P_fieldE rfl ⟨_, _, _, Try.runUnderlying28, rfl, rfl, Try.sizeOf3, rfl⟩) rfl (fun _ _ _ _ h => h) ?_
        refine AJ_takeV 16 131071 rfl (by kernel_rfl) rfl (by kernel_rfl) (by kernel_rfl) (GY_none rfl) (Ent.take del0 (Ent.take del0 (Ent.take del0 Ent.refl))) (V_loadE rfl rfl (by first | omega | (simp only [List.length_set, List.length_append, List.length_nil, List.length_cons]; omega)) foc0 (Reads.sl _ _ _) rfl rfl Try.isAgg3) rfl (fun _ _ _ _ h => h) ?_
        refine AJ_takeP 17 262143 rfl (by kernel_rfl) rfl (GY_none rfl) (P_remT rfl rfl (by first | omega | (simp only [List.length_set, List.length_append, List.length_nil, List.length_cons]; omega))) rfl (fun _ _ _ _ h => h) ?_
        refine AJ_takeP 18 524287 rfl (by kernel_rfl) rfl (GY_none rfl) (P_add rfl rfl (by first | omega | (simp only [List.length_set, List.length_append, List.length_nil, List.length_cons]; omega))) rfl (fun _ _ _ _ h => h) ?_
        refine AJ_takeP 19 1048575 rfl (by kernel_rfl) rfl (GY_none rfl) (P_remT rfl rfl (by first | omega | (simp only [List.length_set, List.length_append, List.length_nil, List.length_cons]; omega))) rfl (fun _ _ _ _ h => h) ?_
        first | (refine AJ_takeV 20 2097151 rfl (by kernel_rfl) rfl (by kernel_rfl) (by kernel_rfl) (GY_none rfl) (Ent.take del0 (Ent.take del0 (Ent.take del0 Ent.refl))) (V_index rfl rfl rfl (by first | omega | (simp only [List.length_set, List.length_append, List.length_nil, List.length_cons]; omega)) foc0 (Reads.sl _ _ _) Try.runUnderlying23 Try.sizeOf28) rfl (fun _ _ _ _ h => h) ?_) | (refine AJ_takeV 20 2097151 rfl (by kernel_rfl) rfl (by kernel_rfl) (by kernel_rfl) (GY_none rfl) (Ent.take del0 (Ent.take del0 (Ent.take del0 Ent.refl))) (V_index rfl rfl (Int.toNat_of_nonneg (by first | omega | (simp only [List.length_set, List.length_append, List.length_nil, List.length_cons]; omega))).symm (by first | omega | (simp only [List.length_set, List.length_append, List.length_nil, List.length_cons]; omega)) foc0 (Reads.sl _ _ _) Try.runUnderlying23 Try.sizeOf28) rfl (fun _ _ _ _ h => h) ?_)
        refine AJ_takeP 21 4194303 rfl (by kernel_rfl) rfl (GY_none rfl) (P_fieldE rfl ⟨_, _, _, Try.runUnderlying28, rfl, rfl, Try.sizeOf3, rfl⟩) rfl (fun _ _ _ _ h => h) ?_
        refine AJ_op 22 8388607 rfl (by kernel_rfl) rfl (GY_none rfl) (O_storeE (x' := { ys.getD i tyCallJ.dflt with f1 := m4 (ys.getD i tyCallJ.dflt).f1 }) rfl rfl rfl (by first | omega | (simp only [List.length_set, List.length_append, List.length_nil, List.length_cons]; omega)) foc0 rfl rfl rfl Try.sizeOf3 ?_)
        refine ⟨fun h => absurd h (by decide), ?_⟩
        first | (refine AJ_op 23 16777215 rfl (by kernel_rfl) rfl (GY_none rfl) (OJ_V (V_index rfl rfl rfl (by first | omega | (simp only [List.length_set, List.length_append, List.length_nil, List.length_cons]; omega)) foc0 (Reads.sl _ _ _) Try.runUnderlying23 Try.sizeOf28) rfl ?_)) | (refine AJ_op 23 16777215 rfl (by kernel_rfl) rfl (GY_none rfl) (OJ_V (V_index rfl rfl (Int.toNat_of_nonneg (by first | omega | (simp only [List.length_set, List.length_append, List.length_nil, List.length_cons]; omega))).symm (by first | omega | (simp only [List.length_set, List.length_append, List.length_nil, List.length_cons]; omega)) foc0 (Reads.sl _ _ _) Try.runUnderlying23 Try.sizeOf28) rfl ?_))
        refine ⟨fun h => absurd h (by decide), ?_⟩
        refine AJ_takeP 24 33554431 rfl (by kernel_rfl) rfl (GY_none rfl) (P_fieldE rfl ⟨_, _, _, Try.runUnderlying28, rfl, rfl, Try.sizeOf3, rfl⟩) rfl (fun _ _ _ _ h => h) ?_
        refine AJ_op 25 67108863 rfl (by kernel_rfl) rfl (GY_none rfl) (O_storeE (x' := { (ys.set i ({ ys.getD i tyCallJ.dflt with f1 := m4 (ys.getD i tyCallJ.dflt).f1 })).getD i tyCallJ.dflt with f2 := m8 (ys.getD i tyCallJ.dflt).f2 }) rfl rfl rfl (by first | omega | (simp only [List.length_set, List.length_append, List.length_nil, List.length_cons]; omega)) foc0 rfl rfl rfl Try.sizeOf3 ?_)
        refine ⟨fun h => absurd h (by decide), ?_⟩
        refine AJ_done (by kernel_rfl) ?_
        refine QJ_then ?_
        refine CJ_seq ?_
        refine CJ_region ?_
        refine RJ_op rfl (OJ_P (P_move rfl) rfl ?_)
        refine RJ_op rfl (OJ_P (P_move rfl) rfl ?_)
        first | (refine RJ_op rfl (OJ_V (V_index rfl rfl rfl (by first | omega | (simp only [List.length_set, List.length_append, List.length_nil, List.length_cons]; omega)) foc0 (Reads.sl _ _ _) Try.runUnderlying23 Try.sizeOf28) rfl ?_)) | (refine RJ_op rfl (OJ_V (V_index rfl rfl (Int.toNat_of_nonneg (by first | omega | (simp only [List.length_set, List.length_append, List.length_nil, List.length_cons]; omega))).symm (by first | omega | (simp only [List.length_set, List.length_append, List.length_nil, List.length_cons]; omega)) foc0 (Reads.sl _ _ _) Try.runUnderlying23 Try.sizeOf28) rfl ?_))
        refine RJ_op rfl (OJ_P (P_fieldE rfl ⟨_, _, _, Try.runUnderlying28, rfl, rfl, Try.sizeOf3, rfl⟩) rfl ?_)
        refine RJ_op rfl (OJ_V (V_loadE rfl rfl (by first | omega | (simp only [List.length_set, List.length_append, List.length_nil, List.length_cons]; omega)) foc0 (Reads.sl _ _ _) rfl rfl Try.isAgg3) rfl ?_)
        refine RJ_op rfl (OJ_P (P_remT rfl rfl (by first | omega | (simp only [List.length_set, List.length_append, List.length_nil, List.length_cons]; omega))) rfl ?_)
        refine RJ_op rfl (OJ_P (P_eql rfl rfl) rfl ?_)
        refine RJ_nil ?_
        refine QJ_then ?_
        first | (refine CJ_condD rfl (fun hg3 => ?_) (fun hg3 => ?_)) | (refine CJ_condN rfl (fun hg3 => ?_) (fun hg3 => ?_)) | (refine CJ_cond rfl (fun hg3 => ?_) (fun hg3 => ?_))
        ·
          refine CJ_region ?_
          refine RJ_op rfl (OJ_P (P_move rfl) rfl ?_)
          refine RJ_op rfl (OJ_P (P_move rfl) rfl ?_)
          first | (refine RJ_op rfl (OJ_V (V_index rfl rfl rfl (by first | omega | (simp only [List.length_set, List.length_append, List.length_nil, List.length_cons]; omega)) foc0 (Reads.sl _ _ _) Try.runUnderlying23 Try.sizeOf28) rfl ?_)) | (refine RJ_op rfl (OJ_V (V_index rfl rfl (Int.toNat_of_nonneg (by first | omega | (simp only [List.length_set, List.length_append, List.length_nil, List.length_cons]; omega))).symm (by first | omega | (simp only [List.length_set, List.length_append, List.length_nil, List.length_cons]; omega)) foc0 (Reads.sl _ _ _) Try.runUnderlying23 Try.sizeOf28) rfl ?_))
          refine RJ_op rfl (OJ_P (P_fieldE rfl ⟨_, _, _, Try.runUnderlying28, rfl, rfl, Try.sizeOf3, rfl⟩) rfl ?_)
          refine RJ_op rfl (O_storeE (x' := { ((ys.set i ({ ys.getD i tyCallJ.dflt with f1 := m4 (ys.getD i tyCallJ.dflt).f1 })).set i ({ (ys.set i ({ ys.getD i tyCallJ.dflt with f1 := m4 (ys.getD i tyCallJ.dflt).f1 })).getD i tyCallJ.dflt with f2 := m8 (ys.getD i tyCallJ.dflt).f2 })).getD i tyCallJ.dflt with f0 := ⟨1, by decide⟩ }) rfl rfl rfl (by first | omega | (simp only [List.length_set, List.length_append, List.length_nil, List.length_cons]; omega)) foc0 rfl rfl rfl Try.sizeOf3 ?_)
          refine RJ_nil ?_
          refine QJ_block_normal ?_
          refine QJ_then ?_
          refine CJ_region ?_
          refine RJ_op rfl (OJ_P (P_move rfl) rfl ?_)
          refine RJ_op rfl (OJ_P (P_add rfl rfl (by first | omega | (simp only [List.length_set, List.length_append, List.length_nil, List.length_cons]; omega))) rfl ?_)
          refine RJ_op rfl (OJ_P (P_assign rfl) rfl ?_)
          refine RJ_nil ?_
          refine QJ_nextR ⟨i + 1, _⟩ (by first | omega | (simp only []; omega)) ?_ (by repeat (first | exact Kp.base | exact Kp.self | refine Kp.cons rfl ?_ | refine Kp.forget rfl ?_)) ?_ (Ent.take del0 (Ent.take del0 (Ent.take del0 Ent.refl)))
          · simp only [List.length_set]; exact ⟨by omega, by omega⟩
          · exact ⟨rfl, True.intro⟩
        ·
          refine CJ_skip ?_
          refine QJ_block_normal ?_
          refine QJ_then ?_
          refine CJ_region ?_
          refine RJ_op rfl (OJ_P (P_move rfl) rfl ?_)
          refine RJ_op rfl (OJ_P (P_add rfl rfl (by first | omega | (simp only [List.length_set, List.length_append, List.length_nil, List.length_cons]; omega))) rfl ?_)
          refine RJ_op rfl (OJ_P (P_assign rfl) rfl ?_)
          refine RJ_nil ?_
          refine QJ_nextR ⟨i + 1, _⟩ (by first | omega | (simp only []; omega)) ?_ (by repeat (first | exact Kp.base | exact Kp.self | refine Kp.cons rfl ?_ | refine Kp.forget rfl ?_)) ?_ (Ent.take del0 (Ent.take del0 (Ent.take del0 Ent.refl)))
          · simp only [List.length_set]; exact ⟨by omega, by omega⟩
          · exact ⟨rfl, True.intro⟩
      ·
        refine CJ_exit ?_
        refine QJ_then_exit ?_
        refine QJ_round_exit ?_
        refine QJ_block_here ?_
        refine QJ_then ?_
        refine CJ_seq ?_
        refine CJ_region ?_
        refine RJ_op rfl (OJ_P (P_move rfl) rfl ?_)
        refine RJ_op rfl (OJ_P (P_move rfl) rfl ?_)
        refine RJ_op rfl (O_call (c_plays (Reads.sl _ _ _) (Reads.sl _ _ _) (by first | assumption | omega | (simp only [List.length_set, List.length_append, List.length_nil, List.length_cons]; omega)) (by first | assumption | omega | (simp only [List.length_set, List.length_append, List.length_nil, List.length_cons]; omega))) rfl Try.call6 (Dels.cons del1 (Dels.cons del0 Dels.nil)) rfl (fun _ hc7 => ?_))
        refine RJ_op rfl (OJ_P (P_move rfl) rfl ?_)
        refine RJ_gy (GY_yes rfl rfl rfl rfl) (O_call (c_awake04) rfl Try.call5 Dels.nil rfl (fun _ hc8 => ?_))
        refine RJ_op rfl (OJ_P (P_pickT rfl rfl rfl) rfl ?_)
        refine RJ_op rfl (OJ_P (P_assign rfl) rfl ?_)
        refine RJ_nil ?_
        refine QJ_then ?_
        refine CJ_ret ?_
        refine QJ_end (res1 Try.results4 rfl) ?_
        refine CSpec.close () ?_ ?_ (Ent.take del2 (Ent.drop (Ent.drop Ent.refl)))
        · rfl
        · trivial

end Go.Proofs
