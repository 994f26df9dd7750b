/- YtomomnpnkfgnnaaCRaw0: contracts of functions of the program, walked rule by rule; printed by vg.py. -/
import Derived.Test.YtomomnpnkfgnnaaCCopyD
import Derived.Test.YtomomnpnkfgnnaaCRef0
import Derived.Test.YtomomnpnkfgnnaaPRel2
import Derived.Test.YtomomnpnkfgnnaaCSame02
import Derived.Test.YtomomnpnkfgnnaaCKeep04
set_option linter.unusedSimpArgs false
set_option maxRecDepth 20000
namespace Go.Proofs
open Go.VG
theorem CRaw0_bs_56_1_0 (v0 : Int) : BuildsSlice Try.prog 56 1 [(0, .int .u64 v0)] 26 [.int .u64 v0] := fun w => by kernel_rfl
/-- A word of a sequence that a number begins. -/
def wordZ (u : UInt64) (k : Nat) : UInt64 := uOf ((u.toNat : Int) + IntKind.u64.wrap (((uOf (k : Int)).toNat : Int) * 11400714819323198485))
theorem wordZ_step (u : UInt64) (k : Nat) : (List.range k).map (wordZ u) ++ [wordZ u k] = (List.range (k + 1)).map (wordZ u) := by
  rw [List.range_succ, List.map_append]; rfl
theorem tm {m : Int} (hm : 0 < m) (x : Int) : -m < x.tmod m ∧ x.tmod m < m ∧ 0 ≤ (x.tmod m + m).tmod m ∧ (x.tmod m + m).tmod m < m := by
  have h1 : x.tmod m < m := Int.tmod_lt_of_pos x hm
  have h2 : -m < x.tmod m := by
    have := Int.tmod_lt_of_pos (-x) hm
    rw [Int.neg_tmod] at this; omega
  exact ⟨h2, h1, Int.tmod_nonneg m (by omega), Int.tmod_lt_of_pos _ hm⟩

theorem ct_wr {m : ModS} {d a : Int} {v : UInt64} : (mWrS m d a v).ct ≤ m.ct + 1 := by
  unfold mWrS
  split
  · exact Nat.le_succ _
  · split
    · exact Nat.le_succ _
    · exact Nat.le_refl _
theorem imCm {s : ArrS} {m : ModS} {d : Int} (h : Rel s m) : imC s d = mSmC m d := by rw [h.smC]; rfl
theorem mImLen {m : ModS} {d : Int} (hw : ∀ i, i < m.st.length → m.size i ≤ 65536) : (mImL m d).length ≤ 65536 := by
  unfold mImL; split
  · rename_i h; rw [setAll_len]; exact hw _ (by have := h.2; have := h.1; omega)
  · exact Nat.zero_le _
theorem ModR_wf {H : List HP} {C : HP → List HP} {c : MH} {m : ModS} (hf : Foc H (ModR c m) C) : ∀ h, stars H h → ModWF m := fun h hh => by
  obtain ⟨F, hp, _⟩ := hf.focus
  exact (stars_pur.1 (stars_star.1 (stars_perm hp _ hh))).1.2.2
theorem ct_fl {m : ModS} {d : Int} : (mFlS m d).ct ≤ m.ct + 1 := by unfold mFlS; split <;> exact Nat.le_succ _
theorem ct_sm {m : ModS} {d : Int} {t : Bool} : (mSmS m d t).ct ≤ m.ct + 1 := by unfold mSmS; split <;> exact Nat.le_succ _
theorem ct_sb {m : ModS} {d a : Int} {t : Bool} : (mSbS m d a t).ct ≤ m.ct + 1 := by unfold mSbS; split <;> exact Nat.le_succ _
theorem ct_ld {m : ModS} {d : Int} {im : List UInt64} : (mLdS m d im).ct ≤ m.ct + 1 := by unfold mLdS; split <;> exact Nat.le_succ _

theorem c_same {W : World} {b b2 : Nat} {s : ArrS} {m : ModS} (hW : s.writes ≤ 1000000000) (hr : Rel s m) :
    CSpec Try.prog W 14 [ptr b 0, ptr b2 0] [Arr b s, Mod b2 m] (fun _ : Unit => .bool true) (fun _ => True) (fun _ F => Arr b s :: Mod b2 m :: F) := by
  refine CSpec.of_body Try.func14 rfl Try.ntmps14 rfl (fun F => ?_)
  show CJ _ _ _ _ _ _ (_ :: _ :: F)
  refine CJ_entX (Ent.transX (Ent.take del1 Ent.refl) Mod_open) (fun c => ?_)
  show CJ _ _ _ _ _ _ (blk b2 44 [c.sv.v, c.wv.v, c.mv.v, c.bv.v, _, _, _] :: ModR c m :: _)
  refine CJ_ent (Ent.trans (Ent.take del1 Ent.refl) ModR_open) ?_
  refine CJ_pur (fun hX => ?_)
  obtain ⟨hl, hk, hw⟩ := hX
  have hnU := (rowsL hl).2
  have hnB := (rowsL hk).2
  have hnM := hw.mi
  have hnb := hw.ba
  have hwF := hw.fu
  have hwL := hw.len
  have hwC := hw.cnt
  have z1 : sizeI s (-1) = 0 := if_neg (by unfold inR; omega)
  have z2 : sizeI s (m.st.length : Int) = 0 := if_neg (by unfold inR; have := hr.cnt; omega)
  have hct := hr.ct
  have z3 : missR s (-1) = false := if_neg (by unfold inR; omega)
  refine CJ_seq ?_
  refine CJ_region ?_
  refine RJ_op rfl (OJ_P (P_assign rfl) rfl ?_)
  refine RJ_nil ?_
  refine QJ_then ?_
  refine CJ_seq ?_
  refine CJ_seq ?_
  refine AJ_startH 0 (by kernel_rfl) rfl ?_
  refine AJ_takeP 0 1 rfl (by kernel_rfl) rfl (GY_none rfl) (P_move rfl) rfl (fun _ _ _ _ h => h) ?_
  refine AJ_takeP 2 5 rfl (by kernel_rfl) rfl (GY_none rfl) (P_move rfl) rfl (fun _ _ _ _ h => h) ?_
  refine AJ_takeP 3 13 rfl (by kernel_rfl) rfl (GY_none rfl) (P_nilCheck rfl) rfl (fun _ _ _ _ h => h) ?_
  refine AJ_takeP 4 29 rfl (by kernel_rfl) rfl (GY_none rfl) (P_fieldAddr rfl ⟨_, _, _, Try.runUnderlying44, rfl, rfl, Try.sizeOf40, rfl⟩) rfl (fun _ _ _ _ h => h) ?_
  refine AJ_takeV 5 61 rfl (by kernel_rfl) rfl (by kernel_rfl) (by kernel_rfl) (GY_none rfl) (Ent.take del0 (Ent.take del0 (Ent.take del0 (Ent.take del0 (Ent.take del0 (Ent.take del0 (Ent.take del0 (Ent.take del0 Ent.refl)))))))) (V_load rfl foc6 rfl Try.isAgg40) rfl (fun _ _ _ _ h => h) ?_
  refine AJ_takeV 6 125 rfl (by kernel_rfl) rfl (by kernel_rfl) (by kernel_rfl) (GY_none rfl) (Ent.take del0 (Ent.take del0 (Ent.take del0 (Ent.take del0 (Ent.take del0 (Ent.take del0 (Ent.take del0 (Ent.take del0 Ent.refl)))))))) (V_len rfl foc0 (Reads.sl _ _ _) Try.runUnderlying40) rfl (fun _ _ _ _ h => h) ?_
  refine AJ_op 1 127 rfl (by kernel_rfl) rfl (GY_none rfl) (O_call (c_CountD) rfl Try.call39 (Dels.cons del7 Dels.nil) rfl (fun _ hc1 => ?_))
  refine ⟨fun _ => (Ent.take del1 (Ent.take del1 (Ent.take del1 (Ent.take del1 (Ent.take del1 (Ent.take del1 (Ent.take del1 (Ent.take del0 Ent.refl)))))))), ?_⟩
  refine AJ_takeP 7 255 rfl (by kernel_rfl) rfl (GY_none rfl) (P_neq rfl rfl) rfl (fun _ _ _ _ h => h) ?_
  refine AJ_takeP 8 511 rfl (by kernel_rfl) rfl (GY_none rfl) (P_move rfl) rfl (fun _ _ _ _ h => h) ?_
  first | (refine AJ_know 18 false rfl (decide_eq_false (by have k1 := hr.cnt; omega)) (fun hg1B => ?_)) | (refine AJ_know 18 false rfl (by have k1 := hr.cnt; omega) (fun hg1B => ?_))
  refine AJ_takeP 9 1023 rfl (by kernel_rfl) rfl (GY_yes rfl rfl rfl hg1B) (P_move rfl) rfl (fun _ _ _ _ h => h) ?_
  refine AJ_takeP 11 3071 rfl (by kernel_rfl) rfl (GY_yes rfl rfl rfl hg1B) (P_move rfl) rfl (fun _ _ _ _ h => h) ?_
  refine AJ_takeP 12 7167 rfl (by kernel_rfl) rfl (GY_yes rfl rfl rfl hg1B) (P_nilCheck rfl) rfl (fun _ _ _ _ h => h) ?_
  refine AJ_takeP 13 15359 rfl (by kernel_rfl) rfl (GY_yes rfl rfl rfl hg1B) (P_fieldAddr rfl ⟨_, _, _, Try.runUnderlying44, rfl, rfl, Try.sizeOf4, rfl⟩) rfl (fun _ _ _ _ h => h) ?_
  refine AJ_takeV 14 31743 rfl (by kernel_rfl) rfl (by kernel_rfl) (by kernel_rfl) (GY_yes rfl rfl rfl hg1B) (Ent.take del1 (Ent.take del1 (Ent.take del1 (Ent.take del1 (Ent.take del1 (Ent.take del1 (Ent.take del1 (Ent.take del0 Ent.refl)))))))) (V_load rfl foc6 rfl Try.isAgg4) rfl (fun _ _ _ _ h => h) ?_
  refine AJ_op 10 32767 rfl (by kernel_rfl) rfl (GY_yes rfl rfl rfl hg1B) (O_call (c_Down) rfl Try.call40 (Dels.cons del0 Dels.nil) rfl (fun _ hc2 => ?_))
  refine ⟨fun _ => (Ent.take del1 (Ent.take del1 (Ent.take del1 (Ent.take del1 (Ent.take del1 (Ent.take del1 (Ent.take del1 (Ent.take del0 Ent.refl)))))))), ?_⟩
  refine AJ_takeP 15 65535 rfl (by kernel_rfl) rfl (GY_yes rfl rfl rfl hg1B) (P_neqB rfl rfl Try.underlying4) rfl (fun _ _ _ _ h => h) ?_
  refine AJ_takeP 16 131071 rfl (by kernel_rfl) rfl (GY_none rfl) (P_pickF rfl hg1B rfl) rfl (fun _ _ _ _ h => h) ?_
  refine AJ_takeP 17 262143 rfl (by kernel_rfl) rfl (GY_none rfl) (P_move rfl) rfl (fun _ _ _ _ h => h) ?_
  first | (refine AJ_know 27 false rfl (decide_eq_false (by rw [hr.dn]; simp)) (fun hg2B => ?_)) | (refine AJ_know 27 false rfl (by rw [hr.dn]; simp) (fun hg2B => ?_))
  refine AJ_takeP 18 524287 rfl (by kernel_rfl) rfl (GY_yes rfl rfl rfl hg2B) (P_move rfl) rfl (fun _ _ _ _ h => h) ?_
  refine AJ_takeP 20 1572863 rfl (by kernel_rfl) rfl (GY_yes rfl rfl rfl hg2B) (P_move rfl) rfl (fun _ _ _ _ h => h) ?_
  refine AJ_takeP 21 3670015 rfl (by kernel_rfl) rfl (GY_yes rfl rfl rfl hg2B) (P_nilCheck rfl) rfl (fun _ _ _ _ h => h) ?_
  refine AJ_takeP 22 7864319 rfl (by kernel_rfl) rfl (GY_yes rfl rfl rfl hg2B) (P_fieldAddr rfl ⟨_, _, _, Try.runUnderlying44, rfl, rfl, Try.sizeOf3, rfl⟩) rfl (fun _ _ _ _ h => h) ?_
  refine AJ_takeV 23 16252927 rfl (by kernel_rfl) rfl (by kernel_rfl) (by kernel_rfl) (GY_yes rfl rfl rfl hg2B) (Ent.take del1 (Ent.take del1 (Ent.take del1 (Ent.take del1 (Ent.take del1 (Ent.take del1 (Ent.take del1 (Ent.take del0 Ent.refl)))))))) (V_load rfl foc6 rfl Try.isAgg3) rfl (fun _ _ _ _ h => h) ?_
  refine AJ_op 19 16777215 rfl (by kernel_rfl) rfl (GY_yes rfl rfl rfl hg2B) (O_call (c_Writes) rfl Try.call41 (Dels.cons del0 Dels.nil) rfl (fun _ hc3 => ?_))
  refine ⟨fun _ => (Ent.take del1 (Ent.take del1 (Ent.take del1 (Ent.take del1 (Ent.take del1 (Ent.take del1 (Ent.take del1 (Ent.take del0 Ent.refl)))))))), ?_⟩
  refine AJ_takeP 24 33554431 rfl (by kernel_rfl) rfl (GY_yes rfl rfl rfl hg2B) (P_neq rfl rfl) rfl (fun _ _ _ _ h => h) ?_
  refine AJ_takeP 25 67108863 rfl (by kernel_rfl) rfl (GY_none rfl) (P_pickF rfl hg2B rfl) rfl (fun _ _ _ _ h => h) ?_
  refine AJ_takeP 26 134217727 rfl (by kernel_rfl) rfl (GY_none rfl) (P_move rfl) rfl (fun _ _ _ _ h => h) ?_
  first | (refine AJ_know 36 false rfl (decide_eq_false (by have k2 := hr.ct; omega)) (fun hg3B => ?_)) | (refine AJ_know 36 false rfl (by have k2 := hr.ct; omega) (fun hg3B => ?_))
  refine AJ_takeP 27 268435455 rfl (by kernel_rfl) rfl (GY_yes rfl rfl rfl hg3B) (P_move rfl) rfl (fun _ _ _ _ h => h) ?_
  refine AJ_takeP 29 805306367 rfl (by kernel_rfl) rfl (GY_yes rfl rfl rfl hg3B) (P_move rfl) rfl (fun _ _ _ _ h => h) ?_
  refine AJ_takeP 30 1879048191 rfl (by kernel_rfl) rfl (GY_yes rfl rfl rfl hg3B) (P_nilCheck rfl) rfl (fun _ _ _ _ h => h) ?_
  refine AJ_takeP 31 4026531839 rfl (by kernel_rfl) rfl (GY_yes rfl rfl rfl hg3B) (P_fieldAddr rfl ⟨_, _, _, Try.runUnderlying44, rfl, rfl, Try.sizeOf41, rfl⟩) rfl (fun _ _ _ _ h => h) ?_
  refine AJ_takeV 32 8321499135 rfl (by kernel_rfl) rfl (by kernel_rfl) (by kernel_rfl) (GY_yes rfl rfl rfl hg3B) (Ent.take del1 (Ent.take del1 (Ent.take del1 (Ent.take del1 (Ent.take del1 (Ent.take del1 (Ent.take del1 (Ent.take del0 Ent.refl)))))))) (V_load rfl foc6 rfl Try.isAgg41) rfl (fun _ _ _ _ h => h) ?_
  refine AJ_takeV 33 16911433727 rfl (by kernel_rfl) rfl (by kernel_rfl) (by kernel_rfl) (GY_yes rfl rfl rfl hg3B) (Ent.take del1 (Ent.take del1 (Ent.take del1 (Ent.take del1 (Ent.take del1 (Ent.take del1 (Ent.take del1 (Ent.take del0 Ent.refl)))))))) (V_len rfl foc2 (Reads.sl _ _ _) Try.runUnderlying41) rfl (fun _ _ _ _ h => h) ?_
  refine AJ_op 28 17179869183 rfl (by kernel_rfl) rfl (GY_yes rfl rfl rfl hg3B) (O_call (c_Unflushed) rfl Try.call42 (Dels.cons del0 Dels.nil) rfl (fun _ hc4 => ?_))
  refine ⟨fun _ => (Ent.take del1 (Ent.take del1 (Ent.take del1 (Ent.take del1 (Ent.take del1 (Ent.take del1 (Ent.take del1 (Ent.take del0 Ent.refl)))))))), ?_⟩
  refine AJ_takeP 34 34359738367 rfl (by kernel_rfl) rfl (GY_yes rfl rfl rfl hg3B) (P_neq rfl rfl) rfl (fun _ _ _ _ h => h) ?_
  refine AJ_takeP 35 68719476735 rfl (by kernel_rfl) rfl (GY_none rfl) (P_pickF rfl hg3B rfl) rfl (fun _ _ _ _ h => h) ?_
  refine AJ_takeP 36 137438953471 rfl (by kernel_rfl) rfl (GY_none rfl) (P_move rfl) rfl (fun _ _ _ _ h => h) ?_
  first | (refine AJ_know 46 false rfl (decide_eq_false (by have k3 := congrArg List.length hr.wr; omega)) (fun hg4B => ?_)) | (refine AJ_know 46 false rfl (by have k3 := congrArg List.length hr.wr; omega) (fun hg4B => ?_))
  refine AJ_takeP 37 274877906943 rfl (by kernel_rfl) rfl (GY_yes rfl rfl rfl hg4B) (P_move rfl) rfl (fun _ _ _ _ h => h) ?_
  refine AJ_op 38 549755813887 rfl (by kernel_rfl) rfl (GY_yes rfl rfl rfl hg4B) (O_call (c_SizeD) rfl Try.call43 (Dels.cons del0 Dels.nil) rfl (fun _ hc5 => ?_))
  refine ⟨fun _ => (Ent.take del1 (Ent.take del1 (Ent.take del1 (Ent.take del1 (Ent.take del1 (Ent.take del1 (Ent.take del1 (Ent.take del0 Ent.refl)))))))), ?_⟩
  refine AJ_takeP 39 1099511627775 rfl (by kernel_rfl) rfl (GY_yes rfl rfl rfl hg4B) (P_neq rfl rfl) rfl (fun _ _ _ _ h => h) ?_
  refine AJ_takeP 40 2199023255551 rfl (by kernel_rfl) rfl (GY_none rfl) (P_pickF rfl hg4B rfl) rfl (fun _ _ _ _ h => h) ?_
  refine AJ_takeP 41 4398046511103 rfl (by kernel_rfl) rfl (GY_none rfl) (P_move rfl) rfl (fun _ _ _ _ h => h) ?_
  first | (refine AJ_know 51 false rfl (decide_eq_false (by exact fun y => y z1)) (fun hg5B => ?_)) | (refine AJ_know 51 false rfl (by exact fun y => y z1) (fun hg5B => ?_))
  refine AJ_takeP 42 8796093022207 rfl (by kernel_rfl) rfl (GY_yes rfl rfl rfl hg5B) (P_move rfl) rfl (fun _ _ _ _ h => h) ?_
  refine AJ_takeP 43 17592186044415 rfl (by kernel_rfl) rfl (GY_yes rfl rfl rfl hg5B) (P_move rfl) rfl (fun _ _ _ _ h => h) ?_
  refine AJ_takeP 44 35184372088831 rfl (by kernel_rfl) rfl (GY_yes rfl rfl rfl hg5B) (P_nilCheck rfl) rfl (fun _ _ _ _ h => h) ?_
  refine AJ_takeP 45 70368744177663 rfl (by kernel_rfl) rfl (GY_yes rfl rfl rfl hg5B) (P_fieldAddr rfl ⟨_, _, _, Try.runUnderlying44, rfl, rfl, Try.sizeOf40, rfl⟩) rfl (fun _ _ _ _ h => h) ?_
  refine AJ_takeV 46 140737488355327 rfl (by kernel_rfl) rfl (by kernel_rfl) (by kernel_rfl) (GY_yes rfl rfl rfl hg5B) (Ent.take del1 (Ent.take del1 (Ent.take del1 (Ent.take del1 (Ent.take del1 (Ent.take del1 (Ent.take del1 (Ent.take del0 Ent.refl)))))))) (V_load rfl foc6 rfl Try.isAgg40) rfl (fun _ _ _ _ h => h) ?_
  refine AJ_takeV 47 281474976710655 rfl (by kernel_rfl) rfl (by kernel_rfl) (by kernel_rfl) (GY_yes rfl rfl rfl hg5B) (Ent.take del1 (Ent.take del1 (Ent.take del1 (Ent.take del1 (Ent.take del1 (Ent.take del1 (Ent.take del1 (Ent.take del0 Ent.refl)))))))) (V_len rfl foc0 (Reads.sl _ _ _) Try.runUnderlying40) rfl (fun _ _ _ _ h => h) ?_
  refine AJ_op 48 562949953421311 rfl (by kernel_rfl) rfl (GY_yes rfl rfl rfl hg5B) (O_call (c_SizeD) rfl Try.call43 (Dels.cons del0 Dels.nil) rfl (fun _ hc6 => ?_))
  refine ⟨fun _ => (Ent.take del1 (Ent.take del1 (Ent.take del1 (Ent.take del1 (Ent.take del1 (Ent.take del1 (Ent.take del1 (Ent.take del0 Ent.refl)))))))), ?_⟩
  refine AJ_takeP 49 1125899906842623 rfl (by kernel_rfl) rfl (GY_yes rfl rfl rfl hg5B) (P_neq rfl rfl) rfl (fun _ _ _ _ h => h) ?_
  refine AJ_takeP 50 2251799813685247 rfl (by kernel_rfl) rfl (GY_none rfl) (P_pickF rfl hg5B rfl) rfl (fun _ _ _ _ h => h) ?_
  refine AJ_takeP 51 4503599627370495 rfl (by kernel_rfl) rfl (GY_none rfl) (P_move rfl) rfl (fun _ _ _ _ h => h) ?_
  first | (refine AJ_know 61 false rfl (decide_eq_false (by exact fun y => y (by rw [hnU]; exact z2))) (fun hg6B => ?_)) | (refine AJ_know 61 false rfl (by exact fun y => y (by rw [hnU]; exact z2)) (fun hg6B => ?_))
  refine AJ_takeP 52 9007199254740991 rfl (by kernel_rfl) rfl (GY_yes rfl rfl rfl hg6B) (P_move rfl) rfl (fun _ _ _ _ h => h) ?_
  refine AJ_op 53 18014398509481983 rfl (by kernel_rfl) rfl (GY_yes rfl rfl rfl hg6B) (O_call (c_MissingD) rfl Try.call44 (Dels.cons del0 Dels.nil) rfl (fun _ hc7 => ?_))
  refine ⟨fun _ => (Ent.take del1 (Ent.take del1 (Ent.take del1 (Ent.take del1 (Ent.take del1 (Ent.take del1 (Ent.take del1 (Ent.take del0 Ent.refl)))))))), ?_⟩
  refine AJ_takeP 54 36028797018963967 rfl (by kernel_rfl) rfl (GY_none rfl) (P_pickF rfl hg6B rfl) rfl (fun _ _ _ _ h => h) ?_
  refine AJ_done (by kernel_rfl) ?_
  refine QJ_then ?_
  first | (refine CJ_condF rfl (decide_eq_false (by exact z3)) ?_) | (refine CJ_condF rfl (by exact z3) ?_)
  refine CJ_skip ?_
  refine QJ_then ?_
  refine CJ_seq ?_
  refine CJ_seq ?_
  refine CJ_region ?_
  refine RJ_op rfl (OJ_P (P_assign rfl) rfl ?_)
  refine RJ_nil ?_
  refine QJ_then ?_
  refine CJ_block ?_
  refine CJ_loopR (X := Nat) [4, 5, 6, 7, 8, 9, 65, 66, 67, 68, 69, 70, 71, 72, 73, 74, 75, 76, 77, 78, 79, 80, 81, 82, 83, 84, 85, 86, 87, 88, 89, 90, 91, 92, 93, 94, 95, 96, 97, 98, 99, 100, 101, 102, 103, 104, 105, 106, 107, 108, 109, 110, 111, 112, 113, 114, 115, 116, 117, 118, 119, 120, 121, 122, 123] (fun i  => ([(5, .int .i64 (i : Nat))] : Slots)) (fun i R => R) (fun i  => i ≤ s.drv.length) (fun i  => s.drv.length - i) (0) ?_ ?_ (Ent.take del0 (Ent.take del0 (Ent.take del0 (Ent.take del0 (Ent.take del0 (Ent.take del0 (Ent.take del0 (Ent.take del0 Ent.refl)))))))) ?_
  · exact Nat.zero_le _
  · exact ⟨rfl, True.intro⟩
  ·
    intro i hi
    show CJ _ _ _ _ _ (([(5, .int .i64 (i : Nat))] : Slots) ++ forget _ _) (_)
    refine CJ_seq ?_
    refine CJ_seq ?_
    refine CJ_region ?_
    refine RJ_op rfl (OJ_P (P_move rfl) rfl ?_)
    refine RJ_op rfl (OJ_P (P_move rfl) rfl ?_)
    refine RJ_op rfl (OJ_P (P_nilCheck rfl) rfl ?_)
    refine RJ_op rfl (OJ_P (P_fieldAddr rfl ⟨_, _, _, Try.runUnderlying44, rfl, rfl, Try.sizeOf40, rfl⟩) rfl ?_)
    refine RJ_op rfl (OJ_V (V_load rfl foc7 rfl Try.isAgg40) rfl ?_)
    refine RJ_op rfl (OJ_V (V_len rfl foc1 (Reads.sl _ _ _) Try.runUnderlying40) rfl ?_)
    refine RJ_op rfl (OJ_P (P_lss rfl rfl) rfl ?_)
    refine RJ_nil ?_
    refine QJ_then ?_
    first | (refine CJ_condD rfl (fun hg8 => ?_) (fun hg8 => ?_)) | (refine CJ_condN rfl (fun hg8 => ?_) (fun hg8 => ?_)) | (refine CJ_cond rfl (fun hg8 => ?_) (fun hg8 => ?_))
    ·
      refine CJ_skip ?_
      refine QJ_then ?_
      refine CJ_seq ?_
      refine CJ_block ?_
      refine CJ_seq ?_
      refine CJ_region ?_
      refine RJ_op rfl (OJ_P (P_move rfl) rfl ?_)
      refine RJ_op rfl (OJ_P (P_move rfl) rfl ?_)
      refine RJ_op rfl (O_call (c_ImageD) rfl Try.call35 (Dels.cons del0 Dels.nil) rfl (fun _ hc9 => ?_))
      refine RJ_op rfl (OJ_P (P_move rfl) rfl ?_)
      refine RJ_op rfl (OJ_P (P_extract rfl rfl) rfl ?_)
      refine RJ_op rfl (OJ_P (P_extract rfl rfl) rfl ?_)
      refine RJ_op rfl (OJ_P (P_assign rfl) rfl ?_)
      refine RJ_op rfl (OJ_P (P_assign rfl) rfl ?_)
      refine RJ_nil ?_
      refine QJ_then ?_
      refine CJ_seq ?_
      have hci := hr.cnt
      have z7 : (mImL m (i : Int)).length ≤ 65536 := by rw [mImL, if_pos ⟨by omega, by omega⟩, setAll_len]; exact (hw.row i (by omega)).2
      have z8 : (imL s (i : Int)).length ≤ 65536 := by rw [← hr.imL]; exact z7
      have hR : inR s (i : Int) := ⟨by omega, by omega⟩
      have z4 : imC s (i : Int) = mSmC m (i : Int) := by rw [imC, if_pos hR, mSmC, if_pos (hr.in_.2 hR)]
      have z5 : sizeI s (i : Int) = (s.size i : Int) := if_pos hR
      have z6 : missR s (i : Int) = missI s (i : Int) := if_pos hR
      refine CJ_ent (Ent.trans (Ent.take del2 (Ent.take del2 (Ent.take del2 (Ent.take del2 (Ent.take del2 (Ent.take del2 Ent.refl)))))) (ModR_close hl hk hw)) ?_
      refine CJ_region ?_
      refine RJ_op rfl (OJ_P (P_move rfl) rfl ?_)
      refine RJ_op rfl (OJ_P (P_nilCheck rfl) rfl ?_)
      refine RJ_op rfl (OJ_V (V_loadN rfl foc3 Try.isAgg44 Try.sizeOf44 rfl rfl) rfl ?_)
      refine RJ_op rfl (OJ_P (P_move rfl) rfl ?_)
      refine RJ_op rfl (O_call (c_mImage (by omega)) rfl Try.call36 (Dels.cons del0 Dels.nil) rfl (fun _ hc11 => ?_))
      refine RJ_op rfl (OJ_P (P_move rfl) rfl ?_)
      refine RJ_op rfl (OJ_P (P_extract rfl rfl) rfl ?_)
      refine RJ_op rfl (OJ_P (P_extract rfl rfl) rfl ?_)
      refine RJ_op rfl (OJ_P (P_assign rfl) rfl ?_)
      refine RJ_op rfl (OJ_P (P_assign rfl) rfl ?_)
      refine RJ_nil ?_
      refine QJ_then ?_
      refine CJ_seq ?_
      refine CJ_ent (Ent.trans (Ent.take del1 Ent.refl) ModR_open) ?_
      refine CJ_pur (fun hX => ?_)
      obtain ⟨hl, hk, hw⟩ := hX
      have hnU := (rowsL hl).2
      have hnB := (rowsL hk).2
      have hnM := hw.mi
      have hnb := hw.ba
      have hwF := hw.fu
      have hwL := hw.len
      have hwC := hw.cnt
      refine CJ_ent (Ent.trans (Ent.take del1 Ent.refl) (OwnU_open i hl (by omega))) ?_
      refine AJ_startH 0 (by kernel_rfl) rfl ?_
      refine AJ_takeP 0 1 rfl (by kernel_rfl) rfl (GY_none rfl) (P_move rfl) rfl (fun _ _ _ _ h => h) ?_
      refine AJ_takeP 1 3 rfl (by kernel_rfl) rfl (GY_none rfl) (P_move rfl) rfl (fun _ _ _ _ h => h) ?_
      refine AJ_takeP 2 7 rfl (by kernel_rfl) rfl (GY_none rfl) (P_neq rfl rfl) rfl (fun _ _ _ _ h => h) ?_
      refine AJ_takeP 3 15 rfl (by kernel_rfl) rfl (GY_none rfl) (P_move rfl) rfl (fun _ _ _ _ h => h) ?_
      first | (refine AJ_know 91 false rfl (decide_eq_false (by exact fun y => y z4)) (fun hg9B => ?_)) | (refine AJ_know 91 false rfl (by exact fun y => y z4) (fun hg9B => ?_))
      refine AJ_takeP 4 31 rfl (by kernel_rfl) rfl (GY_yes rfl rfl rfl hg9B) (P_move rfl) rfl (fun _ _ _ _ h => h) ?_
      refine AJ_takeP 5 63 rfl (by kernel_rfl) rfl (GY_yes rfl rfl rfl hg9B) (P_move rfl) rfl (fun _ _ _ _ h => h) ?_
      refine AJ_op 6 127 rfl (by kernel_rfl) rfl (GY_yes rfl rfl rfl hg9B) (O_call (c_Same (Reads.sl _ _ _) (Reads.sl _ _ _) (by first | assumption | omega) (by first | assumption | omega)) rfl Try.call37 (Dels.cons del8 (Dels.cons del7 Dels.nil)) rfl (fun _ hc12 => ?_))
      refine ⟨fun _ => (Ent.take del2 (Ent.take del2 (Ent.take del2 (Ent.take del2 (Ent.take del2 (Ent.take del2 (Ent.take del2 (Ent.take del1 (Ent.take del0 (Ent.take del0 (Ent.take del0 Ent.refl))))))))))), ?_⟩
      refine AJ_takeP 7 255 rfl (by kernel_rfl) rfl (GY_yes rfl rfl rfl hg9B) (P_not rfl) rfl (fun _ _ _ _ h => h) ?_
      refine AJ_takeP 8 511 rfl (by kernel_rfl) rfl (GY_none rfl) (P_pickF rfl hg9B rfl) rfl (fun _ _ _ _ h => h) ?_
      refine AJ_takeP 9 1023 rfl (by kernel_rfl) rfl (GY_none rfl) (P_move rfl) rfl (fun _ _ _ _ h => h) ?_
      first | (refine AJ_know 97 false rfl (decide_eq_false (by rw [hr.imL]; simp)) (fun hg10B => ?_)) | (refine AJ_know 97 false rfl (by rw [hr.imL]; simp) (fun hg10B => ?_))
      refine AJ_takeP 10 2047 rfl (by kernel_rfl) rfl (GY_yes rfl rfl rfl hg10B) (P_move rfl) rfl (fun _ _ _ _ h => h) ?_
      refine AJ_takeP 11 4095 rfl (by kernel_rfl) rfl (GY_yes rfl rfl rfl hg10B) (P_move rfl) rfl (fun _ _ _ _ h => h) ?_
      refine AJ_takeP 13 12287 rfl (by kernel_rfl) rfl (GY_yes rfl rfl rfl hg10B) (P_move rfl) rfl (fun _ _ _ _ h => h) ?_
      refine AJ_takeP 14 28671 rfl (by kernel_rfl) rfl (GY_yes rfl rfl rfl hg10B) (P_nilCheck rfl) rfl (fun _ _ _ _ h => h) ?_
      refine AJ_takeP 15 61439 rfl (by kernel_rfl) rfl (GY_yes rfl rfl rfl hg10B) (P_fieldAddr rfl ⟨_, _, _, Try.runUnderlying44, rfl, rfl, Try.sizeOf40, rfl⟩) rfl (fun _ _ _ _ h => h) ?_
      refine AJ_takeV 16 126975 rfl (by kernel_rfl) rfl (by kernel_rfl) (by kernel_rfl) (GY_yes rfl rfl rfl hg10B) (Ent.take del2 (Ent.take del2 (Ent.take del2 (Ent.take del2 (Ent.take del2 (Ent.take del2 (Ent.take del2 (Ent.take del1 (Ent.take del0 (Ent.take del0 (Ent.take del0 Ent.refl))))))))))) (V_load rfl foc10 rfl Try.isAgg40) rfl (fun _ _ _ _ h => h) ?_
      refine AJ_takeP 17 258047 rfl (by kernel_rfl) rfl (GY_yes rfl rfl rfl hg10B) (P_move rfl) rfl (fun _ _ _ _ h => h) ?_
      first | (refine AJ_takeV 18 520191 rfl (by kernel_rfl) rfl (by kernel_rfl) (by kernel_rfl) (GY_yes rfl rfl rfl hg10B) (Ent.take del2 (Ent.take del2 (Ent.take del2 (Ent.take del2 (Ent.take del2 (Ent.take del2 (Ent.take del2 (Ent.take del1 (Ent.take del0 (Ent.take del0 (Ent.take del0 Ent.refl))))))))))) (V_index rfl rfl rfl (by omega) foc2 (Reads.sl _ _ _) Try.runUnderlying40 Try.sizeOf56) rfl (fun _ _ _ _ h => h) ?_) | (refine AJ_takeV 18 520191 rfl (by kernel_rfl) rfl (by kernel_rfl) (by kernel_rfl) (GY_yes rfl rfl rfl hg10B) (Ent.take del2 (Ent.take del2 (Ent.take del2 (Ent.take del2 (Ent.take del2 (Ent.take del2 (Ent.take del2 (Ent.take del1 (Ent.take del0 (Ent.take del0 (Ent.take del0 Ent.refl))))))))))) (V_index rfl rfl (Int.toNat_of_nonneg (by omega)).symm (by omega) foc2 (Reads.sl _ _ _) Try.runUnderlying40 Try.sizeOf56) rfl (fun _ _ _ _ h => h) ?_)
      refine AJ_takeV 19 1044479 rfl (by kernel_rfl) rfl (by kernel_rfl) (by kernel_rfl) (GY_yes rfl rfl rfl hg10B) (Ent.take del2 (Ent.take del2 (Ent.take del2 (Ent.take del2 (Ent.take del2 (Ent.take del2 (Ent.take del2 (Ent.take del1 (Ent.take del0 (Ent.take del0 (Ent.take del0 Ent.refl))))))))))) (V_loadE rfl rfl (by omega) foc2 (Reads.sl _ _ _) rfl rfl Try.isAgg56) rfl (fun _ _ _ _ h => h) ?_
      refine AJ_takeV 20 2093055 rfl (by kernel_rfl) rfl (by kernel_rfl) (by kernel_rfl) (GY_yes rfl rfl rfl hg10B) (Ent.take del2 (Ent.take del2 (Ent.take del2 (Ent.take del2 (Ent.take del2 (Ent.take del2 (Ent.take del2 (Ent.take del1 (Ent.take del0 (Ent.take del0 (Ent.take del0 Ent.refl))))))))))) (V_len rfl foc0 (Reads.sl _ _ _) Try.runUnderlying56) rfl (fun _ _ _ _ h => h) ?_
      refine AJ_op 12 2097151 rfl (by kernel_rfl) rfl (GY_yes rfl rfl rfl hg10B) (O_call (c_SizeD) rfl Try.call43 (Dels.cons del9 Dels.nil) rfl (fun _ hc13 => ?_))
      refine ⟨fun _ => (Ent.take del3 (Ent.take del3 (Ent.take del3 (Ent.take del3 (Ent.take del3 (Ent.take del3 (Ent.take del3 (Ent.take del2 (Ent.take del1 (Ent.take del0 (Ent.take del0 Ent.refl))))))))))), ?_⟩
      refine AJ_takeP 21 4194303 rfl (by kernel_rfl) rfl (GY_yes rfl rfl rfl hg10B) (P_neq rfl rfl) rfl (fun _ _ _ _ h => h) ?_
      refine AJ_takeP 22 8388607 rfl (by kernel_rfl) rfl (GY_none rfl) (P_pickF rfl hg10B rfl) rfl (fun _ _ _ _ h => h) ?_
      refine AJ_takeP 23 16777215 rfl (by kernel_rfl) rfl (GY_none rfl) (P_move rfl) rfl (fun _ _ _ _ h => h) ?_
      first | (refine AJ_know 111 false rfl (decide_eq_false (by exact fun y => y (by rw [z5]; have k4 := hr.size (i := i); unfold ModS.size at k4; omega))) (fun hg11B => ?_)) | (refine AJ_know 111 false rfl (by exact fun y => y (by rw [z5]; have k4 := hr.size (i := i); unfold ModS.size at k4; omega)) (fun hg11B => ?_))
      refine AJ_takeP 24 33554431 rfl (by kernel_rfl) rfl (GY_yes rfl rfl rfl hg11B) (P_move rfl) rfl (fun _ _ _ _ h => h) ?_
      refine AJ_takeP 25 67108863 rfl (by kernel_rfl) rfl (GY_yes rfl rfl rfl hg11B) (P_move rfl) rfl (fun _ _ _ _ h => h) ?_
      refine AJ_takeP 27 201326591 rfl (by kernel_rfl) rfl (GY_yes rfl rfl rfl hg11B) (P_move rfl) rfl (fun _ _ _ _ h => h) ?_
      refine AJ_takeP 28 469762047 rfl (by kernel_rfl) rfl (GY_yes rfl rfl rfl hg11B) (P_nilCheck rfl) rfl (fun _ _ _ _ h => h) ?_
      refine AJ_takeP 29 1006632959 rfl (by kernel_rfl) rfl (GY_yes rfl rfl rfl hg11B) (P_fieldAddr rfl ⟨_, _, _, Try.runUnderlying44, rfl, rfl, Try.sizeOf37, rfl⟩) rfl (fun _ _ _ _ h => h) ?_
      refine AJ_takeV 30 2080374783 rfl (by kernel_rfl) rfl (by kernel_rfl) (by kernel_rfl) (GY_yes rfl rfl rfl hg11B) (Ent.take del3 (Ent.take del3 (Ent.take del3 (Ent.take del3 (Ent.take del3 (Ent.take del3 (Ent.take del3 (Ent.take del2 (Ent.take del1 (Ent.take del0 (Ent.take del0 Ent.refl))))))))))) (V_load rfl foc10 rfl Try.isAgg37) rfl (fun _ _ _ _ h => h) ?_
      refine AJ_takeP 31 4227858431 rfl (by kernel_rfl) rfl (GY_yes rfl rfl rfl hg11B) (P_move rfl) rfl (fun _ _ _ _ h => h) ?_
      first | (refine AJ_takeV 32 8522825727 rfl (by kernel_rfl) rfl (by kernel_rfl) (by kernel_rfl) (GY_yes rfl rfl rfl hg11B) (Ent.take del3 (Ent.take del3 (Ent.take del3 (Ent.take del3 (Ent.take del3 (Ent.take del3 (Ent.take del3 (Ent.take del2 (Ent.take del1 (Ent.take del0 (Ent.take del0 Ent.refl))))))))))) (V_index rfl rfl rfl (by omega) foc4 (Reads.sl _ _ _) Try.runUnderlying37 Try.sizeOf4) rfl (fun _ _ _ _ h => h) ?_) | (refine AJ_takeV 32 8522825727 rfl (by kernel_rfl) rfl (by kernel_rfl) (by kernel_rfl) (GY_yes rfl rfl rfl hg11B) (Ent.take del3 (Ent.take del3 (Ent.take del3 (Ent.take del3 (Ent.take del3 (Ent.take del3 (Ent.take del3 (Ent.take del2 (Ent.take del1 (Ent.take del0 (Ent.take del0 Ent.refl))))))))))) (V_index rfl rfl (Int.toNat_of_nonneg (by omega)).symm (by omega) foc4 (Reads.sl _ _ _) Try.runUnderlying37 Try.sizeOf4) rfl (fun _ _ _ _ h => h) ?_)
      refine AJ_takeV 33 17112760319 rfl (by kernel_rfl) rfl (by kernel_rfl) (by kernel_rfl) (GY_yes rfl rfl rfl hg11B) (Ent.take del3 (Ent.take del3 (Ent.take del3 (Ent.take del3 (Ent.take del3 (Ent.take del3 (Ent.take del3 (Ent.take del2 (Ent.take del1 (Ent.take del0 (Ent.take del0 Ent.refl))))))))))) (V_loadE rfl rfl (by omega) foc4 (Reads.sl _ _ _) rfl rfl Try.isAgg4) rfl (fun _ _ _ _ h => h) ?_
      refine AJ_op 26 17179869183 rfl (by kernel_rfl) rfl (GY_yes rfl rfl rfl hg11B) (O_call (c_MissingD) rfl Try.call44 (Dels.cons del0 Dels.nil) rfl (fun _ hc14 => ?_))
      refine ⟨fun _ => (Ent.take del3 (Ent.take del3 (Ent.take del3 (Ent.take del3 (Ent.take del3 (Ent.take del3 (Ent.take del3 (Ent.take del2 (Ent.take del1 (Ent.take del0 (Ent.take del0 Ent.refl))))))))))), ?_⟩
      refine AJ_takeP 34 34359738367 rfl (by kernel_rfl) rfl (GY_yes rfl rfl rfl hg11B) (P_neqB rfl rfl Try.underlying4) rfl (fun _ _ _ _ h => h) ?_
      refine AJ_takeP 35 68719476735 rfl (by kernel_rfl) rfl (GY_none rfl) (P_pickF rfl hg11B rfl) rfl (fun _ _ _ _ h => h) ?_
      refine AJ_done (by kernel_rfl) ?_
      refine QJ_then ?_
      first | (refine CJ_condF rfl (decide_eq_false (by rw [hr.mis, z6]; simp)) ?_) | (refine CJ_condF rfl (by rw [hr.mis, z6]; simp) ?_)
      refine CJ_skip ?_
      refine QJ_block_normal ?_
      refine QJ_then ?_
      refine CJ_region ?_
      refine RJ_op rfl (OJ_P (P_move rfl) rfl ?_)
      refine RJ_op rfl (OJ_P (P_add rfl rfl (by omega)) rfl ?_)
      refine RJ_op rfl (OJ_P (P_assign rfl) rfl ?_)
      refine RJ_nil ?_
      refine QJ_nextR (i + 1) (by first | omega | (simp only []; omega)) ?_ (by repeat (first | exact Kp.base | exact Kp.self | refine Kp.cons rfl ?_ | refine Kp.forget rfl ?_)) ?_ (Ent.trans (Ent.trans (Ent.take del3 (Ent.take del3 Ent.refl)) (OwnU_back hl (by omega))) (Ent.take del1 (Ent.take del3 (Ent.take del0 (Ent.take del2 (Ent.take del2 (Ent.take del2 (Ent.take del2 (Ent.take del2 (Ent.drop (Ent.drop Ent.refl)))))))))))
      · omega
      · exact ⟨rfl, True.intro⟩
    ·
      refine CJ_exit ?_
      refine QJ_then_exit ?_
      refine QJ_round_exit ?_
      refine QJ_block_here ?_
      refine QJ_then ?_
      refine CJ_seq ?_
      refine CJ_region ?_
      refine RJ_op rfl (OJ_P (P_assign rfl) rfl ?_)
      refine RJ_nil ?_
      refine QJ_then ?_
      refine CJ_ret ?_
      refine QJ_end (res1 Try.results14 rfl) ?_
      refine CSpec.close () ?_ ?_ (Ent.trans (Ent.trans (Ent.take del1 (Ent.take del1 (Ent.take del1 (Ent.take del1 (Ent.take del1 (Ent.take del1 Ent.refl)))))) (ModR_close hl hk hw)) (Ent.trans (Ent.trans (Ent.take del2 (Ent.take del0 Ent.refl)) (Mod_close)) (Ent.take del1 (Ent.take del0 Ent.refl))))
      · rfl
      · trivial

theorem c_WordsW {W : World} {n : Nat} {a : Int} {u : UInt64} (ha : a = (n : Int)) (hn : n ≤ 1000) :
    CSpec Try.prog W 32 [.int .i64 a, .int .u64 (u.toNat : Int)] [] (fun x : Sl3 => x.v) (fun _ => True) (fun x F => sl tyU x.v ((List.range n).map (wordZ u)) :: F) := by
  subst ha
  refine CSpec.of_body Try.func32 rfl Try.ntmps32 rfl (fun F => ?_)
  show CJ _ _ _ _ _ _ (F)
  refine CJ_seq ?_
  refine CJ_region ?_
  refine RJ_op rfl (OJ_P (P_assign rfl) rfl ?_)
  refine RJ_nil ?_
  refine QJ_then ?_
  refine CJ_seq ?_
  refine CJ_region ?_
  refine RJ_op rfl (OJ_P (P_assign rfl) rfl ?_)
  refine RJ_nil ?_
  refine QJ_then ?_
  refine CJ_seq ?_
  refine CJ_seq ?_
  refine CJ_region ?_
  refine RJ_op rfl (OJ_P (P_assign rfl) rfl ?_)
  refine RJ_nil ?_
  refine QJ_then ?_
  refine CJ_block ?_
  refine CJ_ent (fun h hh => sl_nil (t := tyU) h hh) ?_
  refine CJ_loopR (X := Nat × Sl3) [5, 6, 7, 8, 9, 10, 11, 12, 13, 14, 15, 16, 17, 18, 19] (fun ⟨k, rv⟩  => ([(6, .int .i64 (k : Nat)), (5, rv.v)] : Slots)) (fun ⟨k, rv⟩ R => sl tyU rv.v ((List.range k).map (wordZ u)) :: R) (fun ⟨k, rv⟩  => k ≤ n) (fun ⟨k, rv⟩  => n - k) ⟨0, ⟨none, 0, 0⟩⟩ ?_ ?_ (Ent.take del0 Ent.refl) ?_
  · exact Nat.zero_le _
  · exact ⟨rfl, rfl, True.intro⟩
  ·
    rintro ⟨k, rv⟩ hk
    show CJ _ _ _ _ _ (([(6, .int .i64 (k : Nat)), (5, rv.v)] : Slots) ++ forget _ _) (sl tyU rv.v ((List.range k).map (wordZ u)) :: _)
    have hlen : ((List.range k).map (wordZ u)).length = k := by simp
    refine CJ_seq ?_
    refine CJ_seq ?_
    refine CJ_region ?_
    refine RJ_op rfl (OJ_P (P_move rfl) rfl ?_)
    refine RJ_op rfl (OJ_P (P_move rfl) rfl ?_)
    refine RJ_op rfl (OJ_P (P_lss rfl rfl) rfl ?_)
    refine RJ_nil ?_
    refine QJ_then ?_
    first | (refine CJ_condD rfl (fun hg1 => ?_) (fun hg1 => ?_)) | (refine CJ_condN rfl (fun hg1 => ?_) (fun hg1 => ?_)) | (refine CJ_cond rfl (fun hg1 => ?_) (fun hg1 => ?_))
    ·
      refine CJ_skip ?_
      refine QJ_then ?_
      refine CJ_seq ?_
      refine CJ_block ?_
      refine CJ_region ?_
      refine RJ_op rfl (OJ_P (P_move rfl) rfl ?_)
      refine RJ_op rfl (OJ_P (P_move rfl) rfl ?_)
      refine RJ_op rfl (OJ_P (P_move rfl) rfl ?_)
      refine RJ_op rfl (OJ_P (P_convU rfl Try.runUnderlying3 Try.runUnderlying26) rfl ?_)
      refine RJ_op rfl (OJ_P (P_mulW rfl rfl) rfl ?_)
      refine RJ_op rfl (OJ_P (P_addW rfl rfl) rfl ?_)
      refine RJ_op rfl (O_buildSlice rfl (CRaw0_bs_56_1_0 _) rfl (fun b1 => ?_))
      refine RJ_op rfl (O_append (t := tyU) (bytes := 8) rfl rfl del1 foc0 (Reads.lit (t := tyU) (ys := [wordZ u k]) rfl rfl (by decide) (by decide) (congrArg (fun z => [Value.int .u64 z]) (wrap_uOf _).symm)) Try.underlying56 ok_tyU (by simp only [List.length_append, List.length_cons, List.length_nil, maxLen] at *; omega) (by simp only [List.length_append, List.length_cons, List.length_nil, maxLen] at *; omega) rfl (fun p2 c3 => ?_))
      refine RJ_op rfl (OJ_P (P_assign rfl) rfl ?_)
      refine RJ_nil ?_
      refine QJ_block_normal ?_
      refine QJ_then ?_
      refine CJ_region ?_
      refine RJ_op rfl (OJ_P (P_move rfl) rfl ?_)
      refine RJ_op rfl (OJ_P (P_add rfl rfl (by omega)) rfl ?_)
      refine RJ_op rfl (OJ_P (P_assign rfl) rfl ?_)
      refine RJ_nil ?_
      refine QJ_nextR ⟨k + 1, ⟨p2, _, c3⟩⟩ (by first | omega | (simp only []; omega)) ?_ (by repeat (first | exact Kp.base | exact Kp.self | refine Kp.cons rfl ?_ | refine Kp.forget rfl ?_)) ?_ (Ent.takeC del0 (congrArg (sl tyU _) (wordZ_step u k)) (Ent.drop Ent.refl))
      · omega
      · exact ⟨rfl, rfl, True.intro⟩
    ·
      refine CJ_exit ?_
      refine QJ_then_exit ?_
      refine QJ_round_exit ?_
      refine QJ_block_here ?_
      refine QJ_then ?_
      refine CJ_seq ?_
      refine CJ_region ?_
      refine RJ_op rfl (OJ_P (P_move rfl) rfl ?_)
      refine RJ_op rfl (OJ_P (P_assign rfl) rfl ?_)
      refine RJ_nil ?_
      refine QJ_then ?_
      refine CJ_ret ?_
      refine QJ_end (res1 Try.results32 rfl) ?_
      obtain rfl : k = n := by omega
      refine CSpec.close rv ?_ ?_ (Ent.take del0 Ent.refl)
      · rfl
      · trivial

theorem c_step {W : World} {b b2 : Nat} {s : ArrS} {m : ModS} {kd dk at_ : Int} {v : UInt64} {t : Bool} (hW : s.writes ≤ 1000000) (hr : Rel s m) (hat : at_ ≤ 9223372036854775807) :
    CSpec Try.prog W 13 [ptr b 0, ptr b2 0, .agg #[.int .i64 kd, .int .i64 dk, .int .i64 at_, .int .u64 (v.toNat : Int), .bool t]] [Arr b s, Mod b2 m] (fun x : Nat × ArrS × ModS => .tuple #[ptr x.1 0, .bool true]) (fun x => Rel x.2.1 x.2.2 ∧ x.2.2.ct ≤ m.ct + 1) (fun x F => Arr x.1 x.2.1 :: Mod b2 x.2.2 :: F) := by
  refine CSpec.of_body Try.func13 rfl Try.ntmps13 rfl (fun F => ?_)
  show CJ _ _ _ _ _ _ (_ :: _ :: F)
  have hWa : s.writes ≤ 1000000000 := by omega
  have hct : m.ct ≤ 1000000000 := by have := hr.ct; omega
  have t1 := tm (m := 100) (by omega) at_
  have t2 := tm (m := 9) (by omega) at_
  refine CJ_seq ?_
  refine CJ_region ?_
  refine RJ_op rfl (O_box rfl rfl rfl (fun b1 => ?_))
  refine RJ_op rfl (OJ_P (P_assign rfl) rfl ?_)
  refine RJ_op rfl (OJ_P (P_assign rfl) rfl ?_)
  refine RJ_nil ?_
  refine QJ_then ?_
  refine CJ_seq ?_
  refine CJ_seq ?_
  refine CJ_region ?_
  refine RJ_op rfl (OJ_P (P_fieldAddr rfl ⟨_, _, _, Try.runUnderlying28, rfl, rfl, Try.sizeOf3, rfl⟩) rfl ?_)
  refine RJ_op rfl (OJ_V (V_load rfl foc0 rfl Try.isAgg3) rfl ?_)
  refine RJ_nil ?_
  refine QJ_then ?_
  refine CJ_block ?_
  refine CJ_seq ?_
  refine CJ_region ?_
  refine RJ_op rfl (OJ_P (P_eql rfl rfl) rfl ?_)
  refine RJ_op rfl (OJ_P (P_assign rfl) rfl ?_)
  refine RJ_nil ?_
  refine QJ_then ?_
  first | (refine CJ_condD rfl (fun hg1 => ?_) (fun hg1 => ?_)) | (refine CJ_condN rfl (fun hg1 => ?_) (fun hg1 => ?_)) | (refine CJ_cond rfl (fun hg1 => ?_) (fun hg1 => ?_))
  ·
    refine CJ_seq ?_
    refine CJ_region ?_
    refine RJ_op rfl (OJ_P (P_move rfl) rfl ?_)
    refine RJ_op rfl (OJ_P (P_fieldAddr rfl ⟨_, _, _, Try.runUnderlying28, rfl, rfl, Try.sizeOf3, rfl⟩) rfl ?_)
    refine RJ_op rfl (OJ_V (V_load rfl foc0 rfl Try.isAgg3) rfl ?_)
    refine RJ_op rfl (OJ_P (P_fieldAddr rfl ⟨_, _, _, Try.runUnderlying28, rfl, rfl, Try.sizeOf3, rfl⟩) rfl ?_)
    refine RJ_op rfl (OJ_V (V_load rfl foc0 rfl Try.isAgg3) rfl ?_)
    refine RJ_op rfl (O_call (c_Read) rfl Try.call11 (Dels.cons del1 Dels.nil) rfl (fun _ hc2 => ?_))
    refine RJ_op rfl (OJ_P (P_move rfl) rfl ?_)
    refine RJ_op rfl (OJ_P (P_extract rfl rfl) rfl ?_)
    refine RJ_op rfl (OJ_P (P_extract rfl rfl) rfl ?_)
    refine RJ_op rfl (OJ_P (P_assign rfl) rfl ?_)
    refine RJ_op rfl (OJ_P (P_assign rfl) rfl ?_)
    refine RJ_nil ?_
    refine QJ_then ?_
    refine CJ_seq ?_
    refine CJ_entX (Ent.transX (Ent.take del2 Ent.refl) Mod_open) (fun c => ?_)
    show CJ _ _ _ _ _ _ (blk b2 44 [c.sv.v, c.wv.v, c.mv.v, c.bv.v, _, _, _] :: ModR c m :: _)
    refine AJ_startH 128 (by kernel_rfl) rfl ?_
    refine AJ_takeP 0 1 rfl (by kernel_rfl) rfl (GY_none rfl) (P_move rfl) rfl (fun _ _ _ _ h => h) ?_
    refine AJ_takeP 1 3 rfl (by kernel_rfl) rfl (GY_none rfl) (P_nilCheck rfl) rfl (fun _ _ _ _ h => h) ?_
    refine AJ_takeV 2 7 rfl (by kernel_rfl) rfl (by kernel_rfl) (by kernel_rfl) (GY_none rfl) (Ent.take del0 (Ent.take del0 (Ent.take del0 (Ent.take del0 Ent.refl)))) (V_loadN rfl foc0 Try.isAgg44 Try.sizeOf44 rfl rfl) rfl (fun _ _ _ _ h => h) ?_
    refine AJ_takeP 3 15 rfl (by kernel_rfl) rfl (GY_none rfl) (P_fieldAddr rfl ⟨_, _, _, Try.runUnderlying28, rfl, rfl, Try.sizeOf3, rfl⟩) rfl (fun _ _ _ _ h => h) ?_
    refine AJ_takeV 4 31 rfl (by kernel_rfl) rfl (by kernel_rfl) (by kernel_rfl) (GY_none rfl) (Ent.take del0 (Ent.take del0 (Ent.take del0 (Ent.take del0 Ent.refl)))) (V_load rfl foc3 rfl Try.isAgg3) rfl (fun _ _ _ _ h => h) ?_
    refine AJ_takeP 5 63 rfl (by kernel_rfl) rfl (GY_none rfl) (P_fieldAddr rfl ⟨_, _, _, Try.runUnderlying28, rfl, rfl, Try.sizeOf3, rfl⟩) rfl (fun _ _ _ _ h => h) ?_
    refine AJ_takeV 6 127 rfl (by kernel_rfl) rfl (by kernel_rfl) (by kernel_rfl) (GY_none rfl) (Ent.take del0 (Ent.take del0 (Ent.take del0 (Ent.take del0 Ent.refl)))) (V_load rfl foc3 rfl Try.isAgg3) rfl (fun _ _ _ _ h => h) ?_
    refine AJ_op 7 255 rfl (by kernel_rfl) rfl (GY_none rfl) (O_call (c_mRead (by omega)) rfl Try.call21 (Dels.cons del1 Dels.nil) rfl (fun _ hc3 => ?_))
    refine ⟨fun h => absurd h (by decide), ?_⟩
    refine AJ_takeP 8 511 rfl (by kernel_rfl) rfl (GY_none rfl) (P_move rfl) rfl (fun _ _ _ _ h => h) ?_
    refine AJ_takeP 9 1023 rfl (by kernel_rfl) rfl (GY_none rfl) (P_extract rfl rfl) rfl (fun _ _ _ _ h => h) ?_
    refine AJ_takeP 10 2047 rfl (by kernel_rfl) rfl (GY_none rfl) (P_extract rfl rfl) rfl (fun _ _ _ _ h => h) ?_
    refine AJ_takeP 11 4095 rfl (by kernel_rfl) rfl (GY_none rfl) (P_assign rfl) rfl (fun _ _ _ _ h => h) ?_
    refine AJ_takeP 12 8191 rfl (by kernel_rfl) rfl (GY_none rfl) (P_assign rfl) rfl (fun _ _ _ _ h => h) ?_
    refine AJ_done (by kernel_rfl) ?_
    refine QJ_then ?_
    refine CJ_seq ?_
    refine CJ_region ?_
    refine RJ_op rfl (OJ_P (P_move rfl) rfl ?_)
    refine RJ_op rfl (OJ_P (P_move rfl) rfl ?_)
    refine RJ_op rfl (OJ_P (P_move rfl) rfl ?_)
    refine RJ_op rfl (OJ_P (P_eql rfl rfl) rfl ?_)
    refine RJ_op rfl (OJ_P (P_move rfl) rfl ?_)
    first | (refine RJ_know 59 true rfl (decide_eq_true (by exact hr.rdE.symm)) (fun hg2B => ?_)) | (refine RJ_know 59 true rfl (by exact hr.rdE.symm) (fun hg2B => ?_))
    refine RJ_gy (GY_yes rfl rfl rfl hg2B) (OJ_P (P_move rfl) rfl ?_)
    refine RJ_gy (GY_yes rfl rfl rfl hg2B) (OJ_P (P_move rfl) rfl ?_)
    refine RJ_gy (GY_yes rfl rfl rfl hg2B) (OJ_P (P_eql rfl rfl) rfl ?_)
    refine RJ_op rfl (OJ_P (P_pickT rfl hg2B rfl) rfl ?_)
    refine RJ_op rfl (OJ_P (P_assign rfl) rfl ?_)
    refine RJ_op rfl (OJ_P (P_assign rfl) rfl ?_)
    refine RJ_nil ?_
    refine QJ_then ?_
    refine CJ_ret ?_
    refine QJ_block_ret ?_
    refine QJ_then_ret ?_
    refine QJ_end (res2 Try.results13 rfl rfl) ?_
    refine CSpec.close ⟨b, s, m⟩ ?_ ?_ (Ent.trans (Ent.trans (Ent.take del1 (Ent.take del0 Ent.refl)) (Mod_close)) (Ent.take del1 (Ent.take del0 (Ent.drop Ent.refl))))
    · first | rfl | (simp only [hr.rdE, hr.rdV, hr.wrE, hr.flC, hr.smC, hr.sbC, hr.ldC, hr.imL, decide_true]; done) | skip
    · exact ⟨hr, Nat.le_succ _⟩
  ·
    refine CJ_seq ?_
    refine CJ_region ?_
    refine RJ_op rfl (OJ_P (P_eql rfl rfl) rfl ?_)
    refine RJ_op rfl (OJ_P (P_assign rfl) rfl ?_)
    refine RJ_nil ?_
    refine QJ_then ?_
    first | (refine CJ_condD rfl (fun hg3 => ?_) (fun hg3 => ?_)) | (refine CJ_condN rfl (fun hg3 => ?_) (fun hg3 => ?_)) | (refine CJ_cond rfl (fun hg3 => ?_) (fun hg3 => ?_))
    ·
      refine CJ_seq ?_
      refine AJ_start [blk b1 28 [.int .i64 kd, .int .i64 dk, .int .i64 at_, .int .u64 (v.toNat : Int), .bool t]] 65536 (by kernel_rfl) rfl ?_
      refine AJ_takeP 0 1 rfl (by kernel_rfl) rfl (GY_none rfl) (P_move rfl) rfl (fun _ _ _ _ h => h) ?_
      refine AJ_takeP 1 3 rfl (by kernel_rfl) rfl (GY_none rfl) (P_move rfl) rfl (fun _ _ _ _ h => h) ?_
      refine AJ_takeP 2 7 rfl (by kernel_rfl) rfl (GY_none rfl) (P_fieldAddr rfl ⟨_, _, _, Try.runUnderlying28, rfl, rfl, Try.sizeOf3, rfl⟩) rfl (fun _ _ _ _ h => h) ?_
      refine AJ_takeV 3 15 rfl (by kernel_rfl) rfl (by kernel_rfl) (by kernel_rfl) (GY_none rfl) (Ent.take del0 (Ent.drop (Ent.drop (fun _ _ => trivial)))) (V_load rfl foc0 rfl Try.isAgg3) rfl (fun _ _ _ _ h => h) ?_
      refine AJ_takeP 4 31 rfl (by kernel_rfl) rfl (GY_none rfl) (P_fieldAddr rfl ⟨_, _, _, Try.runUnderlying28, rfl, rfl, Try.sizeOf3, rfl⟩) rfl (fun _ _ _ _ h => h) ?_
      refine AJ_takeV 5 63 rfl (by kernel_rfl) rfl (by kernel_rfl) (by kernel_rfl) (GY_none rfl) (Ent.take del0 (Ent.drop (Ent.drop (fun _ _ => trivial)))) (V_load rfl foc0 rfl Try.isAgg3) rfl (fun _ _ _ _ h => h) ?_
      refine AJ_takeP 6 127 rfl (by kernel_rfl) rfl (GY_none rfl) (P_fieldAddr rfl ⟨_, _, _, Try.runUnderlying28, rfl, rfl, Try.sizeOf26, rfl⟩) rfl (fun _ _ _ _ h => h) ?_
      refine AJ_takeV 7 255 rfl (by kernel_rfl) rfl (by kernel_rfl) (by kernel_rfl) (GY_none rfl) (Ent.take del0 (Ent.drop (Ent.drop (fun _ _ => trivial)))) (V_load rfl foc0 rfl Try.isAgg26) rfl (fun _ _ _ _ h => h) ?_
      refine AJ_takeP 9 767 rfl (by kernel_rfl) rfl (GY_none rfl) (P_move rfl) rfl (fun _ _ _ _ h => h) ?_
      refine AJ_takeP 10 1791 rfl (by kernel_rfl) rfl (GY_none rfl) (P_fieldAddr rfl ⟨_, _, _, Try.runUnderlying28, rfl, rfl, Try.sizeOf3, rfl⟩) rfl (fun _ _ _ _ h => h) ?_
      refine AJ_takeV 11 3839 rfl (by kernel_rfl) rfl (by kernel_rfl) (by kernel_rfl) (GY_none rfl) (Ent.take del0 (Ent.drop (Ent.drop (fun _ _ => trivial)))) (V_load rfl foc0 rfl Try.isAgg3) rfl (fun _ _ _ _ h => h) ?_
      refine AJ_takeP 12 7935 rfl (by kernel_rfl) rfl (GY_none rfl) (P_fieldAddr rfl ⟨_, _, _, Try.runUnderlying28, rfl, rfl, Try.sizeOf3, rfl⟩) rfl (fun _ _ _ _ h => h) ?_
      refine AJ_takeV 13 16127 rfl (by kernel_rfl) rfl (by kernel_rfl) (by kernel_rfl) (GY_none rfl) (Ent.take del0 (Ent.drop (Ent.drop (fun _ _ => trivial)))) (V_load rfl foc0 rfl Try.isAgg3) rfl (fun _ _ _ _ h => h) ?_
      refine AJ_takeP 14 32511 rfl (by kernel_rfl) rfl (GY_none rfl) (P_fieldAddr rfl ⟨_, _, _, Try.runUnderlying28, rfl, rfl, Try.sizeOf26, rfl⟩) rfl (fun _ _ _ _ h => h) ?_
      refine AJ_takeV 15 65279 rfl (by kernel_rfl) rfl (by kernel_rfl) (by kernel_rfl) (GY_none rfl) (Ent.take del0 (Ent.drop (Ent.drop (fun _ _ => trivial)))) (V_load rfl foc0 rfl Try.isAgg26) rfl (fun _ _ _ _ h => h) ?_
      refine AJ_op 8 65535 rfl (by kernel_rfl) rfl (GY_none rfl) (O_call (c_Write (by first | assumption | decide)) rfl Try.call8 (Dels.cons del1 Dels.nil) rfl (fun _ hc4 => ?_))
      refine ⟨fun _ => (Ent.take del1 (Ent.drop (Ent.drop (fun _ _ => trivial)))), ?_⟩
      refine AJ_op 16 131071 rfl (by kernel_rfl) rfl (GY_none rfl) (O_call (c_mWrite (by first | assumption | decide)) rfl Try.call22 (Dels.cons del2 Dels.nil) rfl (fun _ hc5 => ?_))
      refine ⟨fun h => absurd h (by decide), ?_⟩
      refine AJ_takeP 17 262143 rfl (by kernel_rfl) rfl (GY_none rfl) (P_eql rfl rfl) rfl (fun _ _ _ _ h => h) ?_
      refine AJ_takeP 18 524287 rfl (by kernel_rfl) rfl (GY_none rfl) (P_assign rfl) rfl (fun _ _ _ _ h => h) ?_
      refine AJ_takeP 19 1048575 rfl (by kernel_rfl) rfl (GY_none rfl) (P_assign rfl) rfl (fun _ _ _ _ h => h) ?_
      refine AJ_done (by kernel_rfl) ?_
      refine QJ_then ?_
      refine CJ_ret ?_
      refine QJ_block_ret ?_
      refine QJ_then_ret ?_
      refine QJ_end (res2 Try.results13 rfl rfl) ?_
      refine CSpec.close ⟨b, wrS s dk at_ v, mWrS m dk at_ v⟩ ?_ ?_ (Ent.take del1 (Ent.take del0 (Ent.drop Ent.refl)))
      · first | rfl | (simp only [hr.rdE, hr.rdV, hr.wrE, hr.flC, hr.smC, hr.sbC, hr.ldC, hr.imL, decide_true]; done) | skip
      · exact ⟨hr.wrS, ct_wr⟩
    ·
      refine CJ_seq ?_
      refine CJ_region ?_
      refine RJ_op rfl (OJ_P (P_eql rfl rfl) rfl ?_)
      refine RJ_op rfl (OJ_P (P_assign rfl) rfl ?_)
      refine RJ_nil ?_
      refine QJ_then ?_
      first | (refine CJ_condD rfl (fun hg4 => ?_) (fun hg4 => ?_)) | (refine CJ_condN rfl (fun hg4 => ?_) (fun hg4 => ?_)) | (refine CJ_cond rfl (fun hg4 => ?_) (fun hg4 => ?_))
      ·
        refine CJ_seq ?_
        refine AJ_start [blk b1 28 [.int .i64 kd, .int .i64 dk, .int .i64 at_, .int .u64 (v.toNat : Int), .bool t]] 256 (by kernel_rfl) rfl ?_
        refine AJ_takeP 0 1 rfl (by kernel_rfl) rfl (GY_none rfl) (P_move rfl) rfl (fun _ _ _ _ h => h) ?_
        refine AJ_takeP 1 3 rfl (by kernel_rfl) rfl (GY_none rfl) (P_move rfl) rfl (fun _ _ _ _ h => h) ?_
        refine AJ_takeP 2 7 rfl (by kernel_rfl) rfl (GY_none rfl) (P_fieldAddr rfl ⟨_, _, _, Try.runUnderlying28, rfl, rfl, Try.sizeOf3, rfl⟩) rfl (fun _ _ _ _ h => h) ?_
        refine AJ_takeV 3 15 rfl (by kernel_rfl) rfl (by kernel_rfl) (by kernel_rfl) (GY_none rfl) (Ent.take del0 (Ent.drop (Ent.drop (fun _ _ => trivial)))) (V_load rfl foc0 rfl Try.isAgg3) rfl (fun _ _ _ _ h => h) ?_
        refine AJ_takeP 5 47 rfl (by kernel_rfl) rfl (GY_none rfl) (P_move rfl) rfl (fun _ _ _ _ h => h) ?_
        refine AJ_takeP 6 111 rfl (by kernel_rfl) rfl (GY_none rfl) (P_fieldAddr rfl ⟨_, _, _, Try.runUnderlying28, rfl, rfl, Try.sizeOf3, rfl⟩) rfl (fun _ _ _ _ h => h) ?_
        refine AJ_takeV 7 239 rfl (by kernel_rfl) rfl (by kernel_rfl) (by kernel_rfl) (GY_none rfl) (Ent.take del0 (Ent.drop (Ent.drop (fun _ _ => trivial)))) (V_load rfl foc0 rfl Try.isAgg3) rfl (fun _ _ _ _ h => h) ?_
        refine AJ_op 4 255 rfl (by kernel_rfl) rfl (GY_none rfl) (O_call (c_FlushD (by first | assumption | decide)) rfl Try.call9 (Dels.cons del1 Dels.nil) rfl (fun _ hc6 => ?_))
        refine ⟨fun _ => (Ent.take del1 (Ent.drop (Ent.drop (fun _ _ => trivial)))), ?_⟩
        refine AJ_op 8 511 rfl (by kernel_rfl) rfl (GY_none rfl) (O_call (c_mFlush (by first | assumption | decide)) rfl Try.call23 (Dels.cons del2 Dels.nil) rfl (fun _ hc7 => ?_))
        refine ⟨fun h => absurd h (by decide), ?_⟩
        refine AJ_takeP 9 1023 rfl (by kernel_rfl) rfl (GY_none rfl) (P_eql rfl rfl) rfl (fun _ _ _ _ h => h) ?_
        refine AJ_takeP 10 2047 rfl (by kernel_rfl) rfl (GY_none rfl) (P_assign rfl) rfl (fun _ _ _ _ h => h) ?_
        refine AJ_takeP 11 4095 rfl (by kernel_rfl) rfl (GY_none rfl) (P_assign rfl) rfl (fun _ _ _ _ h => h) ?_
        refine AJ_done (by kernel_rfl) ?_
        refine QJ_then ?_
        refine CJ_ret ?_
        refine QJ_block_ret ?_
        refine QJ_then_ret ?_
        refine QJ_end (res2 Try.results13 rfl rfl) ?_
        refine CSpec.close ⟨b, flS s dk, mFlS m dk⟩ ?_ ?_ (Ent.take del1 (Ent.take del0 (Ent.drop Ent.refl)))
        · first | rfl | (simp only [hr.rdE, hr.rdV, hr.wrE, hr.flC, hr.smC, hr.sbC, hr.ldC, hr.imL, decide_true]; done) | skip
        · exact ⟨hr.flS, ct_fl⟩
      ·
        refine CJ_seq ?_
        refine CJ_region ?_
        refine RJ_op rfl (OJ_P (P_eql rfl rfl) rfl ?_)
        refine RJ_op rfl (OJ_P (P_assign rfl) rfl ?_)
        refine RJ_nil ?_
        refine QJ_then ?_
        first | (refine CJ_condD rfl (fun hg5 => ?_) (fun hg5 => ?_)) | (refine CJ_condN rfl (fun hg5 => ?_) (fun hg5 => ?_)) | (refine CJ_cond rfl (fun hg5 => ?_) (fun hg5 => ?_))
        ·
          refine CJ_seq ?_
          refine CJ_region ?_
          refine RJ_op rfl (OJ_P (P_move rfl) rfl ?_)
          refine RJ_op rfl (OJ_P (P_fieldAddr rfl ⟨_, _, _, Try.runUnderlying28, rfl, rfl, Try.sizeOf3, rfl⟩) rfl ?_)
          refine RJ_op rfl (OJ_V (V_load rfl foc0 rfl Try.isAgg3) rfl ?_)
          refine RJ_op rfl (O_call (c_FuseD (by omega)) rfl Try.call24 (Dels.cons del1 Dels.nil) rfl (fun _ hc8 => ?_))
          refine RJ_nil ?_
          refine QJ_then ?_
          refine CJ_region ?_
          refine RJ_op rfl (OJ_P (P_move rfl) rfl ?_)
          refine RJ_op rfl (OJ_P (P_fieldAddr rfl ⟨_, _, _, Try.runUnderlying28, rfl, rfl, Try.sizeOf3, rfl⟩) rfl ?_)
          refine RJ_op rfl (OJ_V (V_load rfl foc1 rfl Try.isAgg3) rfl ?_)
          refine RJ_op rfl (O_call (c_mSetFuse (by omega)) rfl Try.call25 (Dels.cons del2 Dels.nil) rfl (fun _ hc9 => ?_))
          refine RJ_nil ?_
          refine QJ_block_normal ?_
          refine QJ_then ?_
          refine CJ_seq ?_
          refine CJ_region ?_
          refine RJ_op rfl (OJ_P (P_move rfl) rfl ?_)
          refine RJ_op rfl (OJ_P (P_assign rfl) rfl ?_)
          refine RJ_op rfl (OJ_P (P_assign rfl) rfl ?_)
          refine RJ_nil ?_
          refine QJ_then ?_
          refine CJ_ret ?_
          refine QJ_end (res2 Try.results13 rfl rfl) ?_
          refine CSpec.close ⟨b, { s with fuse := at_.toNat }, mFuS m at_⟩ ?_ ?_ (Ent.take del1 (Ent.take del0 (Ent.drop Ent.refl)))
          · first | rfl | (simp only [hr.rdE, hr.rdV, hr.wrE, hr.flC, hr.smC, hr.sbC, hr.ldC, hr.imL, decide_true]; done) | skip
          · exact ⟨hr.fuS, Nat.le_succ _⟩
        ·
          refine CJ_seq ?_
          refine CJ_region ?_
          refine RJ_op rfl (OJ_P (P_eql rfl rfl) rfl ?_)
          refine RJ_op rfl (OJ_P (P_assign rfl) rfl ?_)
          refine RJ_nil ?_
          refine QJ_then ?_
          first | (refine CJ_condD rfl (fun hg6 => ?_) (fun hg6 => ?_)) | (refine CJ_condN rfl (fun hg6 => ?_) (fun hg6 => ?_)) | (refine CJ_cond rfl (fun hg6 => ?_) (fun hg6 => ?_))
          ·
            refine CJ_seq ?_
            obtain ⟨q, hq⟩ := Int.eq_ofNat_of_zero_le t1.2.2.1
            have hq1 : q ≤ (keepL v).length := by rw [keepL, List.length_map, List.length_range]; omega
            refine AJ_start [blk b1 28 [.int .i64 kd, .int .i64 dk, .int .i64 at_, .int .u64 (v.toNat : Int), .bool t]] 0 (by kernel_rfl) rfl ?_
            refine AJ_takeP 0 1 rfl (by kernel_rfl) rfl (GY_none rfl) (P_fieldAddr rfl ⟨_, _, _, Try.runUnderlying28, rfl, rfl, Try.sizeOf26, rfl⟩) rfl (fun _ _ _ _ h => h) ?_
            refine AJ_takeV 1 3 rfl (by kernel_rfl) rfl (by kernel_rfl) (by kernel_rfl) (GY_none rfl) (Ent.take del0 (Ent.drop (Ent.drop (fun _ _ => trivial)))) (V_load rfl foc0 rfl Try.isAgg26) rfl (fun _ _ _ _ h => h) ?_
            refine AJ_takeP 3 11 rfl (by kernel_rfl) rfl (GY_none rfl) (P_fieldAddr rfl ⟨_, _, _, Try.runUnderlying28, rfl, rfl, Try.sizeOf3, rfl⟩) rfl (fun _ _ _ _ h => h) ?_
            refine AJ_takeV 4 27 rfl (by kernel_rfl) rfl (by kernel_rfl) (by kernel_rfl) (GY_none rfl) (Ent.take del0 (Ent.drop (Ent.drop (fun _ _ => trivial)))) (V_load rfl foc0 rfl Try.isAgg3) rfl (fun _ _ _ _ h => h) ?_
            refine AJ_takeP 5 59 rfl (by kernel_rfl) rfl (GY_none rfl) (P_remT rfl rfl (by omega)) rfl (fun _ _ _ _ h => h) ?_
            refine AJ_takeP 6 123 rfl (by kernel_rfl) rfl (GY_none rfl) (P_add rfl rfl (by omega)) rfl (fun _ _ _ _ h => h) ?_
            refine AJ_takeP 7 251 rfl (by kernel_rfl) rfl (GY_none rfl) (P_remT rfl rfl (by omega)) rfl (fun _ _ _ _ h => h) ?_
            refine AJ_op 2 255 rfl (by kernel_rfl) rfl (GY_none rfl) (O_call (c_Keep) rfl Try.call26 Dels.nil rfl (fun _ hc11 => ?_))
            refine ⟨fun _ => (Ent.take del1 (Ent.drop (Ent.drop (Ent.drop (fun _ _ => trivial))))), ?_⟩
            refine AJ_op 8 511 rfl (by kernel_rfl) rfl (GY_none rfl) (OJ_V (V_slice (l := 0) (h := q) rfl foc0 (Reads.sl _ _ _) rfl ⟨_, congrArg (fun z => some (Value.int .i64 z)) hq⟩ (by exact Nat.zero_le _) (by exact hq1) Try.underlying37 Try.sizeOf4) rfl ?_)
            refine ⟨fun _ => (Ent.take del1 (Ent.drop (Ent.drop (Ent.drop (fun _ _ => trivial))))), ?_⟩
            refine AJ_takeP 9 1023 rfl (by kernel_rfl) rfl (GY_none rfl) (P_assign rfl) rfl (fun _ _ _ _ h => h) ?_
            refine AJ_done (by kernel_rfl) ?_
            refine QJ_then ?_
            refine CJ_seq ?_
            refine CJ_region ?_
            refine RJ_op rfl (OJ_P (P_move rfl) rfl ?_)
            refine RJ_op rfl (OJ_P (P_move rfl) rfl ?_)
            refine RJ_op rfl (O_call (c_Restart (Reads.sliceV (Reads.sl _ _ _) (Nat.zero_le _) hq1) (by first | assumption | decide)) rfl Try.call10 (Dels.cons del2 (Dels.cons del0 Dels.nil)) rfl (fun _ hc12 => ?_))
            refine RJ_nil ?_
            refine QJ_then ?_
            refine CJ_region ?_
            refine RJ_op rfl (OJ_P (P_move rfl) rfl ?_)
            refine RJ_op rfl (OJ_P (P_move rfl) rfl ?_)
            refine RJ_op rfl (O_call (c_mRestart (Reads.sliceV (Reads.sl _ _ _) (Nat.zero_le _) hq1) (by first | assumption | decide)) rfl Try.call27 (Dels.cons del3 (Dels.cons del1 Dels.nil)) rfl (fun _ hc13 => ?_))
            refine RJ_nil ?_
            refine QJ_block_normal ?_
            refine QJ_then ?_
            refine CJ_seq ?_
            refine CJ_region ?_
            refine RJ_op rfl (OJ_P (P_move rfl) rfl ?_)
            refine RJ_op rfl (OJ_P (P_assign rfl) rfl ?_)
            refine RJ_op rfl (OJ_P (P_assign rfl) rfl ?_)
            refine RJ_nil ?_
            refine QJ_then ?_
            refine CJ_ret ?_
            refine QJ_end (res2 Try.results13 rfl rfl) ?_
            refine CSpec.close ⟨b, rsS s (((keepL v).take q).drop 0), mRsS m (((keepL v).take q).drop 0)⟩ ?_ ?_ (Ent.take del2 (Ent.take del0 (Ent.drop (Ent.drop Ent.refl))))
            · first | rfl | (simp only [hr.rdE, hr.rdV, hr.wrE, hr.flC, hr.smC, hr.sbC, hr.ldC, hr.imL, decide_true]; done) | skip
            · exact ⟨hr.rsS, Nat.le_succ _⟩
          ·
            refine CJ_seq ?_
            refine CJ_region ?_
            refine RJ_op rfl (OJ_P (P_eql rfl rfl) rfl ?_)
            refine RJ_op rfl (OJ_P (P_assign rfl) rfl ?_)
            refine RJ_nil ?_
            refine QJ_then ?_
            first | (refine CJ_condD rfl (fun hg7 => ?_) (fun hg7 => ?_)) | (refine CJ_condN rfl (fun hg7 => ?_) (fun hg7 => ?_)) | (refine CJ_cond rfl (fun hg7 => ?_) (fun hg7 => ?_))
            ·
              refine CJ_seq ?_
              refine AJ_start [blk b1 28 [.int .i64 kd, .int .i64 dk, .int .i64 at_, .int .u64 (v.toNat : Int), .bool t]] 4096 (by kernel_rfl) rfl ?_
              refine AJ_takeP 0 1 rfl (by kernel_rfl) rfl (GY_none rfl) (P_move rfl) rfl (fun _ _ _ _ h => h) ?_
              refine AJ_takeP 1 3 rfl (by kernel_rfl) rfl (GY_none rfl) (P_move rfl) rfl (fun _ _ _ _ h => h) ?_
              refine AJ_takeP 2 7 rfl (by kernel_rfl) rfl (GY_none rfl) (P_fieldAddr rfl ⟨_, _, _, Try.runUnderlying28, rfl, rfl, Try.sizeOf3, rfl⟩) rfl (fun _ _ _ _ h => h) ?_
              refine AJ_takeV 3 15 rfl (by kernel_rfl) rfl (by kernel_rfl) (by kernel_rfl) (GY_none rfl) (Ent.take del0 (Ent.drop (Ent.drop (fun _ _ => trivial)))) (V_load rfl foc0 rfl Try.isAgg3) rfl (fun _ _ _ _ h => h) ?_
              refine AJ_takeP 4 31 rfl (by kernel_rfl) rfl (GY_none rfl) (P_fieldAddr rfl ⟨_, _, _, Try.runUnderlying28, rfl, rfl, Try.sizeOf4, rfl⟩) rfl (fun _ _ _ _ h => h) ?_
              refine AJ_takeV 5 63 rfl (by kernel_rfl) rfl (by kernel_rfl) (by kernel_rfl) (GY_none rfl) (Ent.take del0 (Ent.drop (Ent.drop (fun _ _ => trivial)))) (V_load rfl foc0 rfl Try.isAgg4) rfl (fun _ _ _ _ h => h) ?_
              refine AJ_takeP 7 191 rfl (by kernel_rfl) rfl (GY_none rfl) (P_move rfl) rfl (fun _ _ _ _ h => h) ?_
              refine AJ_takeP 8 447 rfl (by kernel_rfl) rfl (GY_none rfl) (P_fieldAddr rfl ⟨_, _, _, Try.runUnderlying28, rfl, rfl, Try.sizeOf3, rfl⟩) rfl (fun _ _ _ _ h => h) ?_
              refine AJ_takeV 9 959 rfl (by kernel_rfl) rfl (by kernel_rfl) (by kernel_rfl) (GY_none rfl) (Ent.take del0 (Ent.drop (Ent.drop (fun _ _ => trivial)))) (V_load rfl foc0 rfl Try.isAgg3) rfl (fun _ _ _ _ h => h) ?_
              refine AJ_takeP 10 1983 rfl (by kernel_rfl) rfl (GY_none rfl) (P_fieldAddr rfl ⟨_, _, _, Try.runUnderlying28, rfl, rfl, Try.sizeOf4, rfl⟩) rfl (fun _ _ _ _ h => h) ?_
              refine AJ_takeV 11 4031 rfl (by kernel_rfl) rfl (by kernel_rfl) (by kernel_rfl) (GY_none rfl) (Ent.take del0 (Ent.drop (Ent.drop (fun _ _ => trivial)))) (V_load rfl foc0 rfl Try.isAgg4) rfl (fun _ _ _ _ h => h) ?_
              refine AJ_op 6 4095 rfl (by kernel_rfl) rfl (GY_none rfl) (O_call (c_SetMissing) rfl Try.call28 (Dels.cons del1 Dels.nil) rfl (fun _ hc14 => ?_))
              refine ⟨fun _ => (Ent.take del1 (Ent.drop (Ent.drop (fun _ _ => trivial)))), ?_⟩
              refine AJ_op 12 8191 rfl (by kernel_rfl) rfl (GY_none rfl) (O_call (c_mSetMissing) rfl Try.call29 (Dels.cons del2 Dels.nil) rfl (fun _ hc15 => ?_))
              refine ⟨fun h => absurd h (by decide), ?_⟩
              refine AJ_takeP 13 16383 rfl (by kernel_rfl) rfl (GY_none rfl) (P_eql rfl rfl) rfl (fun _ _ _ _ h => h) ?_
              refine AJ_takeP 14 32767 rfl (by kernel_rfl) rfl (GY_none rfl) (P_assign rfl) rfl (fun _ _ _ _ h => h) ?_
              refine AJ_takeP 15 65535 rfl (by kernel_rfl) rfl (GY_none rfl) (P_assign rfl) rfl (fun _ _ _ _ h => h) ?_
              refine AJ_done (by kernel_rfl) ?_
              refine QJ_then ?_
              refine CJ_ret ?_
              refine QJ_block_ret ?_
              refine QJ_then_ret ?_
              refine QJ_end (res2 Try.results13 rfl rfl) ?_
              refine CSpec.close ⟨b, smS s dk t, mSmS m dk t⟩ ?_ ?_ (Ent.take del1 (Ent.take del0 (Ent.drop Ent.refl)))
              · first | rfl | (simp only [hr.rdE, hr.rdV, hr.wrE, hr.flC, hr.smC, hr.sbC, hr.ldC, hr.imL, decide_true]; done) | skip
              · exact ⟨hr.smS, ct_sm⟩
            ·
              refine CJ_seq ?_
              refine CJ_region ?_
              refine RJ_op rfl (OJ_P (P_eql rfl rfl) rfl ?_)
              refine RJ_op rfl (OJ_P (P_assign rfl) rfl ?_)
              refine RJ_nil ?_
              refine QJ_then ?_
              first | (refine CJ_condD rfl (fun hg8 => ?_) (fun hg8 => ?_)) | (refine CJ_condN rfl (fun hg8 => ?_) (fun hg8 => ?_)) | (refine CJ_cond rfl (fun hg8 => ?_) (fun hg8 => ?_))
              ·
                refine CJ_seq ?_
                refine AJ_start [blk b1 28 [.int .i64 kd, .int .i64 dk, .int .i64 at_, .int .u64 (v.toNat : Int), .bool t]] 65536 (by kernel_rfl) rfl ?_
                refine AJ_takeP 0 1 rfl (by kernel_rfl) rfl (GY_none rfl) (P_move rfl) rfl (fun _ _ _ _ h => h) ?_
                refine AJ_takeP 1 3 rfl (by kernel_rfl) rfl (GY_none rfl) (P_move rfl) rfl (fun _ _ _ _ h => h) ?_
                refine AJ_takeP 2 7 rfl (by kernel_rfl) rfl (GY_none rfl) (P_fieldAddr rfl ⟨_, _, _, Try.runUnderlying28, rfl, rfl, Try.sizeOf3, rfl⟩) rfl (fun _ _ _ _ h => h) ?_
                refine AJ_takeV 3 15 rfl (by kernel_rfl) rfl (by kernel_rfl) (by kernel_rfl) (GY_none rfl) (Ent.take del0 (Ent.drop (Ent.drop (fun _ _ => trivial)))) (V_load rfl foc0 rfl Try.isAgg3) rfl (fun _ _ _ _ h => h) ?_
                refine AJ_takeP 4 31 rfl (by kernel_rfl) rfl (GY_none rfl) (P_fieldAddr rfl ⟨_, _, _, Try.runUnderlying28, rfl, rfl, Try.sizeOf3, rfl⟩) rfl (fun _ _ _ _ h => h) ?_
                refine AJ_takeV 5 63 rfl (by kernel_rfl) rfl (by kernel_rfl) (by kernel_rfl) (GY_none rfl) (Ent.take del0 (Ent.drop (Ent.drop (fun _ _ => trivial)))) (V_load rfl foc0 rfl Try.isAgg3) rfl (fun _ _ _ _ h => h) ?_
                refine AJ_takeP 6 127 rfl (by kernel_rfl) rfl (GY_none rfl) (P_fieldAddr rfl ⟨_, _, _, Try.runUnderlying28, rfl, rfl, Try.sizeOf4, rfl⟩) rfl (fun _ _ _ _ h => h) ?_
                refine AJ_takeV 7 255 rfl (by kernel_rfl) rfl (by kernel_rfl) (by kernel_rfl) (GY_none rfl) (Ent.take del0 (Ent.drop (Ent.drop (fun _ _ => trivial)))) (V_load rfl foc0 rfl Try.isAgg4) rfl (fun _ _ _ _ h => h) ?_
                refine AJ_takeP 9 767 rfl (by kernel_rfl) rfl (GY_none rfl) (P_move rfl) rfl (fun _ _ _ _ h => h) ?_
                refine AJ_takeP 10 1791 rfl (by kernel_rfl) rfl (GY_none rfl) (P_fieldAddr rfl ⟨_, _, _, Try.runUnderlying28, rfl, rfl, Try.sizeOf3, rfl⟩) rfl (fun _ _ _ _ h => h) ?_
                refine AJ_takeV 11 3839 rfl (by kernel_rfl) rfl (by kernel_rfl) (by kernel_rfl) (GY_none rfl) (Ent.take del0 (Ent.drop (Ent.drop (fun _ _ => trivial)))) (V_load rfl foc0 rfl Try.isAgg3) rfl (fun _ _ _ _ h => h) ?_
                refine AJ_takeP 12 7935 rfl (by kernel_rfl) rfl (GY_none rfl) (P_fieldAddr rfl ⟨_, _, _, Try.runUnderlying28, rfl, rfl, Try.sizeOf3, rfl⟩) rfl (fun _ _ _ _ h => h) ?_
                refine AJ_takeV 13 16127 rfl (by kernel_rfl) rfl (by kernel_rfl) (by kernel_rfl) (GY_none rfl) (Ent.take del0 (Ent.drop (Ent.drop (fun _ _ => trivial)))) (V_load rfl foc0 rfl Try.isAgg3) rfl (fun _ _ _ _ h => h) ?_
                refine AJ_takeP 14 32511 rfl (by kernel_rfl) rfl (GY_none rfl) (P_fieldAddr rfl ⟨_, _, _, Try.runUnderlying28, rfl, rfl, Try.sizeOf4, rfl⟩) rfl (fun _ _ _ _ h => h) ?_
                refine AJ_takeV 15 65279 rfl (by kernel_rfl) rfl (by kernel_rfl) (by kernel_rfl) (GY_none rfl) (Ent.take del0 (Ent.drop (Ent.drop (fun _ _ => trivial)))) (V_load rfl foc0 rfl Try.isAgg4) rfl (fun _ _ _ _ h => h) ?_
                refine AJ_op 8 65535 rfl (by kernel_rfl) rfl (GY_none rfl) (O_call (c_SetBad) rfl Try.call30 (Dels.cons del1 Dels.nil) rfl (fun _ hc16 => ?_))
                refine ⟨fun _ => (Ent.take del1 (Ent.drop (Ent.drop (fun _ _ => trivial)))), ?_⟩
                refine AJ_op 16 131071 rfl (by kernel_rfl) rfl (GY_none rfl) (O_call (c_mSetBad) rfl Try.call31 (Dels.cons del2 Dels.nil) rfl (fun _ hc17 => ?_))
                refine ⟨fun h => absurd h (by decide), ?_⟩
                refine AJ_takeP 17 262143 rfl (by kernel_rfl) rfl (GY_none rfl) (P_eql rfl rfl) rfl (fun _ _ _ _ h => h) ?_
                refine AJ_takeP 18 524287 rfl (by kernel_rfl) rfl (GY_none rfl) (P_assign rfl) rfl (fun _ _ _ _ h => h) ?_
                refine AJ_takeP 19 1048575 rfl (by kernel_rfl) rfl (GY_none rfl) (P_assign rfl) rfl (fun _ _ _ _ h => h) ?_
                refine AJ_done (by kernel_rfl) ?_
                refine QJ_then ?_
                refine CJ_ret ?_
                refine QJ_block_ret ?_
                refine QJ_then_ret ?_
                refine QJ_end (res2 Try.results13 rfl rfl) ?_
                refine CSpec.close ⟨b, sbS s dk at_ t, mSbS m dk at_ t⟩ ?_ ?_ (Ent.take del1 (Ent.take del0 (Ent.drop Ent.refl)))
                · first | rfl | (simp only [hr.rdE, hr.rdV, hr.wrE, hr.flC, hr.smC, hr.sbC, hr.ldC, hr.imL, decide_true]; done) | skip
                · exact ⟨hr.sbS, ct_sb⟩
              ·
                refine CJ_seq ?_
                refine CJ_region ?_
                refine RJ_op rfl (OJ_P (P_eql rfl rfl) rfl ?_)
                refine RJ_op rfl (OJ_P (P_assign rfl) rfl ?_)
                refine RJ_nil ?_
                refine QJ_then ?_
                first | (refine CJ_condD rfl (fun hg9 => ?_) (fun hg9 => ?_)) | (refine CJ_condN rfl (fun hg9 => ?_) (fun hg9 => ?_)) | (refine CJ_cond rfl (fun hg9 => ?_) (fun hg9 => ?_))
                ·
                  refine CJ_seq ?_
                  obtain ⟨q, hq⟩ := Int.eq_ofNat_of_zero_le t2.2.2.1
                  have hlen : ((List.range q).map (wordZ v)).length ≤ 65536 := by rw [List.length_map, List.length_range]; omega
                  refine CJ_region ?_
                  refine RJ_op rfl (OJ_P (P_fieldAddr rfl ⟨_, _, _, Try.runUnderlying28, rfl, rfl, Try.sizeOf3, rfl⟩) rfl ?_)
                  refine RJ_op rfl (OJ_V (V_load rfl foc0 rfl Try.isAgg3) rfl ?_)
                  refine RJ_op rfl (OJ_P (P_remT rfl rfl (by omega)) rfl ?_)
                  refine RJ_op rfl (OJ_P (P_add rfl rfl (by omega)) rfl ?_)
                  refine RJ_op rfl (OJ_P (P_remT rfl rfl (by omega)) rfl ?_)
                  refine RJ_op rfl (OJ_P (P_fieldAddr rfl ⟨_, _, _, Try.runUnderlying28, rfl, rfl, Try.sizeOf26, rfl⟩) rfl ?_)
                  refine RJ_op rfl (OJ_V (V_load rfl foc0 rfl Try.isAgg26) rfl ?_)
                  refine RJ_op rfl (O_call (c_WordsW hq (by omega)) rfl Try.call32 Dels.nil rfl (fun _ hc19 => ?_))
                  refine RJ_op rfl (OJ_P (P_assign rfl) rfl ?_)
                  refine RJ_nil ?_
                  refine QJ_then ?_
                  refine CJ_seq ?_
                  refine AJ_start [blk b1 28 [.int .i64 kd, .int .i64 dk, .int .i64 at_, .int .u64 (v.toNat : Int), .bool t]] 1024 (by kernel_rfl) rfl ?_
                  refine AJ_takeP 0 1 rfl (by kernel_rfl) rfl (GY_none rfl) (P_move rfl) rfl (fun _ _ _ _ h => h) ?_
                  refine AJ_takeP 1 3 rfl (by kernel_rfl) rfl (GY_none rfl) (P_move rfl) rfl (fun _ _ _ _ h => h) ?_
                  refine AJ_takeP 2 7 rfl (by kernel_rfl) rfl (GY_none rfl) (P_fieldAddr rfl ⟨_, _, _, Try.runUnderlying28, rfl, rfl, Try.sizeOf3, rfl⟩) rfl (fun _ _ _ _ h => h) ?_
                  refine AJ_takeV 3 15 rfl (by kernel_rfl) rfl (by kernel_rfl) (by kernel_rfl) (GY_none rfl) (Ent.take del1 (Ent.drop (Ent.drop (Ent.drop (fun _ _ => trivial))))) (V_load rfl foc0 rfl Try.isAgg3) rfl (fun _ _ _ _ h => h) ?_
                  refine AJ_takeP 4 31 rfl (by kernel_rfl) rfl (GY_none rfl) (P_move rfl) rfl (fun _ _ _ _ h => h) ?_
                  refine AJ_takeP 6 95 rfl (by kernel_rfl) rfl (GY_none rfl) (P_move rfl) rfl (fun _ _ _ _ h => h) ?_
                  refine AJ_takeP 7 223 rfl (by kernel_rfl) rfl (GY_none rfl) (P_fieldAddr rfl ⟨_, _, _, Try.runUnderlying28, rfl, rfl, Try.sizeOf3, rfl⟩) rfl (fun _ _ _ _ h => h) ?_
                  refine AJ_takeV 8 479 rfl (by kernel_rfl) rfl (by kernel_rfl) (by kernel_rfl) (GY_none rfl) (Ent.take del1 (Ent.drop (Ent.drop (Ent.drop (fun _ _ => trivial))))) (V_load rfl foc0 rfl Try.isAgg3) rfl (fun _ _ _ _ h => h) ?_
                  refine AJ_takeP 9 991 rfl (by kernel_rfl) rfl (GY_none rfl) (P_move rfl) rfl (fun _ _ _ _ h => h) ?_
                  refine AJ_op 5 1023 rfl (by kernel_rfl) rfl (GY_none rfl) (O_call (c_LoadD (Reads.sl _ _ _) (by first | assumption | omega)) rfl Try.call33 (Dels.cons del2 (Dels.cons del0 Dels.nil)) rfl (fun _ hc20 => ?_))
                  refine ⟨fun _ => (Ent.take del2 (Ent.drop (Ent.drop (Ent.drop (fun _ _ => trivial))))), ?_⟩
                  refine AJ_op 10 2047 rfl (by kernel_rfl) rfl (GY_none rfl) (O_call (c_mLoad (Reads.sl _ _ _) (by first | assumption | decide) (by first | assumption | omega)) rfl Try.call34 (Dels.cons del3 (Dels.cons del1 Dels.nil)) rfl (fun _ hc21 => ?_))
                  refine ⟨fun h => absurd h (by decide), ?_⟩
                  refine AJ_takeP 11 4095 rfl (by kernel_rfl) rfl (GY_none rfl) (P_eql rfl rfl) rfl (fun _ _ _ _ h => h) ?_
                  refine AJ_takeP 12 8191 rfl (by kernel_rfl) rfl (GY_none rfl) (P_assign rfl) rfl (fun _ _ _ _ h => h) ?_
                  refine AJ_takeP 13 16383 rfl (by kernel_rfl) rfl (GY_none rfl) (P_assign rfl) rfl (fun _ _ _ _ h => h) ?_
                  refine AJ_done (by kernel_rfl) ?_
                  refine QJ_then ?_
                  refine CJ_ret ?_
                  refine QJ_block_ret ?_
                  refine QJ_then_ret ?_
                  refine QJ_end (res2 Try.results13 rfl rfl) ?_
                  refine CSpec.close ⟨b, ldS s dk ((List.range q).map (wordZ v)), mLdS m dk ((List.range q).map (wordZ v))⟩ ?_ ?_ (Ent.take del2 (Ent.take del0 (Ent.drop (Ent.drop Ent.refl))))
                  · first | rfl | (simp only [hr.rdE, hr.rdV, hr.wrE, hr.flC, hr.smC, hr.sbC, hr.ldC, hr.imL, decide_true]; done) | skip
                  · exact ⟨hr.ldS, ct_ld⟩
                ·
                  refine CJ_seq ?_
                  refine CJ_region ?_
                  refine RJ_op rfl (OJ_P (P_eql rfl rfl) rfl ?_)
                  refine RJ_op rfl (OJ_P (P_assign rfl) rfl ?_)
                  refine RJ_nil ?_
                  refine QJ_then ?_
                  first | (refine CJ_condD rfl (fun hg10 => ?_) (fun hg10 => ?_)) | (refine CJ_condN rfl (fun hg10 => ?_) (fun hg10 => ?_)) | (refine CJ_cond rfl (fun hg10 => ?_) (fun hg10 => ?_))
                  ·
                    refine CJ_seq ?_
                    refine CJ_region ?_
                    refine RJ_op rfl (OJ_P (P_move rfl) rfl ?_)
                    refine RJ_op rfl (OJ_P (P_fieldAddr rfl ⟨_, _, _, Try.runUnderlying28, rfl, rfl, Try.sizeOf3, rfl⟩) rfl ?_)
                    refine RJ_op rfl (OJ_V (V_load rfl foc0 rfl Try.isAgg3) rfl ?_)
                    refine RJ_op rfl (O_call (c_ImageD) rfl Try.call35 (Dels.cons del1 Dels.nil) rfl (fun _ hc23 => ?_))
                    refine RJ_op rfl (OJ_P (P_move rfl) rfl ?_)
                    refine RJ_op rfl (OJ_P (P_extract rfl rfl) rfl ?_)
                    refine RJ_op rfl (OJ_P (P_extract rfl rfl) rfl ?_)
                    refine RJ_op rfl (OJ_P (P_assign rfl) rfl ?_)
                    refine RJ_op rfl (OJ_P (P_assign rfl) rfl ?_)
                    refine RJ_nil ?_
                    refine QJ_then ?_
                    refine CJ_seq ?_
                    refine CJ_entX (Ent.transX (Ent.take del3 Ent.refl) Mod_open) (fun c => ?_)
                    show CJ _ _ _ _ _ _ (blk b2 44 [c.sv.v, c.wv.v, c.mv.v, c.bv.v, _, _, _] :: ModR c m :: _)
                    refine CJ_pure (ModR_wf foc1) (fun hwf => ?_)
                    have hl1 : (mImL m dk).length ≤ 4611686018427387904 := Nat.le_trans (mImLen fun i hi => (hwf.row i hi).2) (by decide)
                    have hl2 : (imL s dk).length ≤ 4611686018427387904 := by rw [← hr.imL]; exact hl1
                    refine AJ_startH 32 (by kernel_rfl) rfl ?_
                    refine AJ_takeP 0 1 rfl (by kernel_rfl) rfl (GY_none rfl) (P_move rfl) rfl (fun _ _ _ _ h => h) ?_
                    refine AJ_takeP 1 3 rfl (by kernel_rfl) rfl (GY_none rfl) (P_nilCheck rfl) rfl (fun _ _ _ _ h => h) ?_
                    refine AJ_takeV 2 7 rfl (by kernel_rfl) rfl (by kernel_rfl) (by kernel_rfl) (GY_none rfl) (Ent.take del0 (Ent.take del0 (Ent.take del0 (Ent.take del0 (Ent.take del0 Ent.refl))))) (V_loadN rfl foc0 Try.isAgg44 Try.sizeOf44 rfl rfl) rfl (fun _ _ _ _ h => h) ?_
                    refine AJ_takeP 3 15 rfl (by kernel_rfl) rfl (GY_none rfl) (P_fieldAddr rfl ⟨_, _, _, Try.runUnderlying28, rfl, rfl, Try.sizeOf3, rfl⟩) rfl (fun _ _ _ _ h => h) ?_
                    refine AJ_takeV 4 31 rfl (by kernel_rfl) rfl (by kernel_rfl) (by kernel_rfl) (GY_none rfl) (Ent.take del0 (Ent.take del0 (Ent.take del0 (Ent.take del0 (Ent.take del0 Ent.refl))))) (V_load rfl foc4 rfl Try.isAgg3) rfl (fun _ _ _ _ h => h) ?_
                    refine AJ_op 5 63 rfl (by kernel_rfl) rfl (GY_none rfl) (O_call (c_mImage (by omega)) rfl Try.call36 (Dels.cons del1 Dels.nil) rfl (fun _ hc25 => ?_))
                    refine ⟨fun h => absurd h (by decide), ?_⟩
                    refine AJ_takeP 6 127 rfl (by kernel_rfl) rfl (GY_none rfl) (P_move rfl) rfl (fun _ _ _ _ h => h) ?_
                    refine AJ_takeP 7 255 rfl (by kernel_rfl) rfl (GY_none rfl) (P_extract rfl rfl) rfl (fun _ _ _ _ h => h) ?_
                    refine AJ_takeP 8 511 rfl (by kernel_rfl) rfl (GY_none rfl) (P_extract rfl rfl) rfl (fun _ _ _ _ h => h) ?_
                    refine AJ_takeP 9 1023 rfl (by kernel_rfl) rfl (GY_none rfl) (P_assign rfl) rfl (fun _ _ _ _ h => h) ?_
                    refine AJ_takeP 10 2047 rfl (by kernel_rfl) rfl (GY_none rfl) (P_assign rfl) rfl (fun _ _ _ _ h => h) ?_
                    refine AJ_done (by kernel_rfl) ?_
                    refine QJ_then ?_
                    refine CJ_seq ?_
                    refine CJ_region ?_
                    refine RJ_op rfl (OJ_P (P_move rfl) rfl ?_)
                    refine RJ_op rfl (OJ_P (P_move rfl) rfl ?_)
                    refine RJ_op rfl (OJ_P (P_move rfl) rfl ?_)
                    refine RJ_op rfl (OJ_P (P_eql rfl rfl) rfl ?_)
                    refine RJ_op rfl (OJ_P (P_move rfl) rfl ?_)
                    first | (refine RJ_know 203 true rfl (decide_eq_true (by exact imCm hr)) (fun hg11B => ?_)) | (refine RJ_know 203 true rfl (by exact imCm hr) (fun hg11B => ?_))
                    refine RJ_gy (GY_yes rfl rfl rfl hg11B) (OJ_P (P_move rfl) rfl ?_)
                    refine RJ_gy (GY_yes rfl rfl rfl hg11B) (OJ_P (P_move rfl) rfl ?_)
                    refine RJ_gy (GY_yes rfl rfl rfl hg11B) (O_call (c_Same (Reads.sl _ _ _) (Reads.sl _ _ _) (by first | assumption | omega) (by first | assumption | omega)) rfl Try.call37 (Dels.cons del3 (Dels.cons del0 Dels.nil)) rfl (fun _ hc26 => ?_))
                    refine RJ_op rfl (OJ_P (P_pickT rfl hg11B rfl) rfl ?_)
                    refine RJ_op rfl (OJ_P (P_assign rfl) rfl ?_)
                    refine RJ_op rfl (OJ_P (P_assign rfl) rfl ?_)
                    refine RJ_nil ?_
                    refine QJ_then ?_
                    refine CJ_ret ?_
                    refine QJ_block_ret ?_
                    refine QJ_then_ret ?_
                    refine QJ_end (res2 Try.results13 rfl rfl) ?_
                    refine CSpec.close ⟨b, s, m⟩ ?_ ?_ (Ent.trans (Ent.trans (Ent.take del3 (Ent.take del2 Ent.refl)) (Mod_close)) (Ent.take del3 (Ent.take del0 (Ent.drop (Ent.drop (Ent.drop Ent.refl))))))
                    · first | rfl | (simp only [hr.rdE, hr.rdV, hr.wrE, hr.flC, hr.smC, hr.sbC, hr.ldC, hr.imL, decide_true]; done) | skip
                    · exact ⟨hr, Nat.le_succ _⟩
                  ·
                    refine CJ_seq ?_
                    refine CJ_region ?_
                    refine RJ_op rfl (OJ_P (P_move rfl) rfl ?_)
                    refine RJ_op rfl (O_call (c_Copy hWa) rfl Try.call38 (Dels.cons del1 Dels.nil) rfl (fun cpx hcp => ?_))
                    refine RJ_op rfl (OJ_P (P_assign rfl) rfl ?_)
                    refine RJ_nil ?_
                    refine QJ_then ?_
                    refine CJ_seq ?_
                    refine CJ_seq ?_
                    refine CJ_region ?_
                    refine RJ_op rfl (OJ_P (P_move rfl) rfl ?_)
                    refine RJ_op rfl (OJ_P (P_eqlPN rfl rfl Try.underlying30) rfl ?_)
                    refine RJ_nil ?_
                    refine QJ_then ?_
                    refine CJ_condF rfl rfl ?_
                    refine CJ_skip ?_
                    refine QJ_then ?_
                    refine CJ_seq ?_
                    refine CJ_region ?_
                    refine RJ_op rfl (OJ_P (P_move rfl) rfl ?_)
                    refine RJ_ent (fun h hh => sl_nil (t := tyB) h hh) ?_
                    refine RJ_op rfl (O_call (c_Restart (Reads.sl _ _ _) (by first | assumption | decide)) rfl Try.call10 (Dels.cons del2 (Dels.cons del0 Dels.nil)) rfl (fun _ hc30 => ?_))
                    refine RJ_nil ?_
                    refine QJ_then ?_
                    refine CJ_seq ?_
                    refine CJ_region ?_
                    refine RJ_op rfl (OJ_P (P_move rfl) rfl ?_)
                    refine RJ_op rfl (OJ_P (P_fieldAddr rfl ⟨_, _, _, Try.runUnderlying28, rfl, rfl, Try.sizeOf26, rfl⟩) rfl ?_)
                    refine RJ_op rfl (OJ_V (V_load rfl foc3 rfl Try.isAgg26) rfl ?_)
                    refine RJ_op rfl (O_call (c_Write (by first | assumption | decide)) rfl Try.call8 (Dels.cons del0 Dels.nil) rfl (fun _ hc31 => ?_))
                    refine RJ_nil ?_
                    refine QJ_then ?_
                    refine CJ_seq ?_
                    refine CJ_region ?_
                    refine RJ_op rfl (OJ_P (P_move rfl) rfl ?_)
                    refine RJ_op rfl (OJ_P (P_assign rfl) rfl ?_)
                    refine RJ_op rfl (OJ_P (P_assign rfl) rfl ?_)
                    refine RJ_nil ?_
                    refine QJ_then ?_
                    refine CJ_ret ?_
                    refine QJ_block_ret ?_
                    refine QJ_then_ret ?_
                    refine QJ_end (res2 Try.results13 rfl rfl) ?_
                    refine CSpec.close ⟨cpx.1, { s with bad := cpx.2 }, m⟩ ?_ ?_ (Ent.take del2 (Ent.take del3 (Ent.drop (Ent.drop (Ent.drop Ent.refl)))))
                    · first | rfl | (simp only [hr.rdE, hr.rdV, hr.wrE, hr.flC, hr.smC, hr.sbC, hr.ldC, hr.imL, decide_true]; done) | skip
                    · exact ⟨hr.perm hcp, Nat.le_succ _⟩

end Go.Proofs
