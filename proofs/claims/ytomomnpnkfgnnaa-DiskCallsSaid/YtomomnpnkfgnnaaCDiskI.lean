/- YtomomnpnkfgnnaaCDiskI: contracts of functions of the program, walked rule by rule; printed by vg.py. -/
import Derived.Test.YtomomnpnkfgnnaaCDisk1
import Derived.Test.YtomomnpnkfgnnaaVgS
set_option linter.unusedSimpArgs false
set_option maxRecDepth 20000
namespace Go.Proofs
open Go.VG
theorem CDiskI_bs_56_0_ : BuildsSlice Try.prog 56 0 [] 26 [] := fun w => by kernel_rfl

theorem reads_none {α : Type} {t : Ty α} {A : HP} {n c : Nat} {xs : List α} (hr : Reads A t (.slice none n c) xs) {R : List HP} (h : PH) (hh : stars (A :: R) h) : xs = [] := by
  obtain ⟨h1, h2, _, _, ha, _⟩ := hh
  rcases hr h1 ha with ⟨_, rfl⟩ | ⟨a, cap, he, _⟩
  · rfl
  · cases he
/-- What an image is. -/
def imC (s : ArrS) (d : Int) : Int := if inR s d then 0 else 1
def imL (s : ArrS) (d : Int) : List UInt64 := if inR s d then (s.drv.getD d.toNat d0).now else []
theorem eqB {xs ys : List UInt64} {k : Nat} (hn : ((xs.getD k 0).toNat : Int) ≠ ((ys.getD k 0).toNat : Int)) : decide (xs = ys) = false := by
  refine decide_eq_false fun e => ?_
  subst e; exact hn rfl
theorem eqA {xs ys : List UInt64} (hl : xs.length = ys.length) (h : ∀ j, j < xs.length → ((xs.getD j 0).toNat : Int) = ((ys.getD j 0).toNat : Int)) : decide (xs = ys) = true := by
  refine decide_eq_true (List.ext_getElem hl fun j h1 h2 => ?_)
  have := h j h1
  rw [show xs.getD j 0 = xs[j] by simp [List.getD, h1], show ys.getD j 0 = ys[j] by simp [List.getD, h2]] at this
  exact UInt64.toNat_inj.1 (by omega)

theorem c_CloneU {W : World} {A : HP} {v : Sl3} {xs : List UInt64} (hA : Reads A tyU v.v xs) (hl : xs.length ≤ 1048576) :
    CSpec Try.prog W 51 [v.v] [A] (fun x : Sl3 => x.v) (fun _ => True) (fun x F => sl tyU x.v xs :: A :: F) := by
  refine CSpec.of_body Try.func51 rfl Try.ntmps51 rfl (fun F => ?_)
  show CJ _ _ _ _ _ _ (_ :: F)
  refine CJ_seq ?_
  refine CJ_region ?_
  refine RJ_op rfl (OJ_P (P_assign rfl) rfl ?_)
  refine RJ_nil ?_
  refine QJ_then ?_
  refine CJ_seq ?_
  refine CJ_seq ?_
  refine CJ_region ?_
  refine RJ_op rfl (OJ_P (P_move rfl) rfl ?_)
  refine RJ_op rfl (OJ_P (P_eqlSN rfl rfl Try.underlying56) rfl ?_)
  refine RJ_nil ?_
  refine QJ_then ?_
  first | (refine CJ_condD rfl (fun hg1 => ?_) (fun hg1 => ?_)) | (refine CJ_condN rfl (fun hg1 => ?_) (fun hg1 => ?_)) | (refine CJ_cond rfl (fun hg1 => ?_) (fun hg1 => ?_))
  ·
    refine CJ_seq ?_
    refine CJ_region ?_
    refine RJ_op rfl (OJ_P (P_assign rfl) rfl ?_)
    refine RJ_nil ?_
    refine QJ_then ?_
    refine CJ_ret ?_
    refine QJ_then_ret ?_
    refine QJ_end (res1 Try.results51 rfl) ?_
    obtain ⟨vp, vn, vc⟩ := v
    obtain rfl : vp = none := by simpa using hg1
    refine fun w hs => ?_
    obtain rfl := reads_none hA _ hs.heap.choose_spec
    revert w hs
    show ∀ w, St W w _ → _
    refine CSpec.close ⟨none, 0, 0⟩ ?_ ?_ (Ent.trans (fun h hh => sl_nil (t := tyU) h hh) Ent.refl)
    · rfl
    · trivial
  ·
    refine CJ_skip ?_
    refine QJ_then ?_
    refine CJ_seq ?_
    refine CJ_region ?_
    refine RJ_op rfl (O_buildSlice rfl (CDiskI_bs_56_0_) rfl (fun b1 => ?_))
    refine RJ_ent (Ent.trans (Ent.take del0 Ent.refl) (sl_of_lit (t := tyU) (m := 0) [] rfl rfl rfl (by decide))) ?_
    refine RJ_op rfl (OJ_P (P_move rfl) rfl ?_)
    refine RJ_op rfl (O_append (t := tyU) (bytes := 8) rfl rfl del0 foc0 hA Try.underlying56 ok_tyU (by simp only [List.length_append, List.length_cons, List.length_nil, maxLen] at *; omega) (by simp only [List.length_append, List.length_cons, List.length_nil, maxLen] at *; omega) rfl (fun p2 c3 => ?_))
    refine RJ_op rfl (OJ_P (P_assign rfl) rfl ?_)
    refine RJ_nil ?_
    refine QJ_then ?_
    refine CJ_ret ?_
    refine QJ_end (res1 Try.results51 rfl) ?_
    refine CSpec.close ⟨p2, _, c3⟩ ?_ ?_ (Ent.take del0 (Ent.take del0 Ent.refl))
    · rfl
    · trivial

theorem c_ImageD {W : World} {b : Nat} {s : ArrS} {d : Int} :
    CSpec Try.prog W 35 [ptr b 0, .int .i64 d] [Arr b s] (fun x : Sl3 => .tuple #[x.v, .int .i64 (imC s d)]) (fun _ => True) (fun x F => sl tyU x.v (imL s d) :: Arr b s :: F) := by
  refine CSpec.of_body Try.func35 rfl Try.ntmps35 rfl (fun F => ?_)
  show CJ _ _ _ _ _ _ (_ :: F)
  refine CJ_entX (Ent.transX (Ent.take del0 Ent.refl) Arr_open) (fun ⟨dv, lv, mr, l⟩ => ?_)
  refine CJ_pur (fun hX => ?_)
  obtain ⟨hl, hm, hw⟩ : l.map Prod.snd = (s).drv ∧ (∀ p ∈ l, p.1.miss = p.2.miss) ∧ ArrWF (s) := hX
  show CJ _ _ _ _ _ _ (blk b 55 [Sl3.v dv, .map (some mr), Sl3.v lv, _, _, _] :: sl tyDrv (Sl3.v dv) (DL.hs l) :: DOwn l :: sl tyRec (Sl3.v lv) _ :: mpc mBad mr _ :: _)
  have hn := hs_len hl
  have hwF := hw.fuse
  have hwL := hw.len
  have hwC := hw.cnt
  refine CJ_seq ?_
  refine CJ_region ?_
  refine RJ_op rfl (OJ_P (P_assign rfl) rfl ?_)
  refine RJ_op rfl (OJ_P (P_assign rfl) rfl ?_)
  refine RJ_nil ?_
  refine QJ_then ?_
  refine CJ_seq ?_
  refine CJ_seq ?_
  refine CJ_region ?_
  refine RJ_op rfl (OJ_P (P_move rfl) rfl ?_)
  refine RJ_op rfl (OJ_P (P_lss rfl rfl) rfl ?_)
  refine RJ_op rfl (OJ_P (P_move rfl) rfl ?_)
  first | (refine RJ_splitD 8 rfl (fun hg1B hg1 => ?_) (fun hg1B hg1 => ?_)) | (refine RJ_splitN 8 rfl (fun hg1B hg1 => ?_) (fun hg1B hg1 => ?_)) | (refine RJ_split 8 rfl (fun hg1B => ?_) (fun hg1B => ?_))
  ·
    refine RJ_gn (GY_no rfl rfl rfl hg1B) rfl rfl ?_
    refine RJ_gn (GY_no rfl rfl rfl hg1B) rfl rfl ?_
    refine RJ_gn (GY_no rfl rfl rfl hg1B) rfl rfl ?_
    refine RJ_gn (GY_no rfl rfl rfl hg1B) rfl rfl ?_
    refine RJ_gn (GY_no rfl rfl rfl hg1B) rfl rfl ?_
    refine RJ_gn (GY_no rfl rfl rfl hg1B) rfl rfl ?_
    refine RJ_gn (GY_no rfl rfl rfl hg1B) rfl rfl ?_
    refine RJ_op rfl (OJ_P (P_pickT rfl hg1B rfl) rfl ?_)
    refine RJ_nil ?_
    refine QJ_then ?_
    refine CJ_condT rfl rfl ?_
    refine CJ_seq ?_
    refine CJ_region ?_
    refine RJ_op rfl (OJ_P (P_assign rfl) rfl ?_)
    refine RJ_op rfl (OJ_P (P_assign rfl) rfl ?_)
    refine RJ_nil ?_
    refine QJ_then ?_
    refine CJ_ret ?_
    refine QJ_then_ret ?_
    refine QJ_end (res2 Try.results35 rfl rfl) ?_
    have hR : ¬ inR s d := fun h => by unfold inR at h; omega
    rw [imL, if_neg hR]
    refine CSpec.close ⟨none, 0, 0⟩ ?_ ?_ (Ent.trans (fun h hh => sl_nil (t := tyU) h hh) (Ent.take del0 (Ent.trans (Ent.trans (Ent.take del0 (Ent.take del0 (Ent.take del0 (Ent.take del0 (Ent.take del0 Ent.refl))))) (Arr_close hl hm hw)) (Ent.take del0 Ent.refl))))
    · exact tup2p (if_neg hR).symm
    · trivial
  ·
    refine RJ_gy (GY_yes rfl rfl rfl hg1B) (OJ_P (P_move rfl) rfl ?_)
    refine RJ_gy (GY_yes rfl rfl rfl hg1B) (OJ_P (P_move rfl) rfl ?_)
    refine RJ_gy (GY_yes rfl rfl rfl hg1B) (OJ_P (P_nilCheck rfl) rfl ?_)
    refine RJ_gy (GY_yes rfl rfl rfl hg1B) (OJ_P (P_fieldAddr rfl ⟨_, _, _, Try.runUnderlying55, rfl, rfl, Try.sizeOf52, rfl⟩) rfl ?_)
    refine RJ_gy (GY_yes rfl rfl rfl hg1B) (OJ_V (V_load rfl foc0 rfl Try.isAgg52) rfl ?_)
    refine RJ_gy (GY_yes rfl rfl rfl hg1B) (OJ_V (V_len rfl foc1 (Reads.sl _ _ _) Try.runUnderlying52) rfl ?_)
    refine RJ_gy (GY_yes rfl rfl rfl hg1B) (OJ_P (P_geq rfl rfl) rfl ?_)
    refine RJ_op rfl (OJ_P (P_pickF rfl hg1B rfl) rfl ?_)
    refine RJ_nil ?_
    refine QJ_then ?_
    first | (refine CJ_condD rfl (fun hg2 => ?_) (fun hg2 => ?_)) | (refine CJ_condN rfl (fun hg2 => ?_) (fun hg2 => ?_)) | (refine CJ_cond rfl (fun hg2 => ?_) (fun hg2 => ?_))
    ·
      refine CJ_seq ?_
      refine CJ_region ?_
      refine RJ_op rfl (OJ_P (P_assign rfl) rfl ?_)
      refine RJ_op rfl (OJ_P (P_assign rfl) rfl ?_)
      refine RJ_nil ?_
      refine QJ_then ?_
      refine CJ_ret ?_
      refine QJ_then_ret ?_
      refine QJ_end (res2 Try.results35 rfl rfl) ?_
      have hR : ¬ inR s d := fun h => by unfold inR at h; omega
      rw [imL, if_neg hR]
      refine CSpec.close ⟨none, 0, 0⟩ ?_ ?_ (Ent.trans (fun h hh => sl_nil (t := tyU) h hh) (Ent.take del0 (Ent.trans (Ent.trans (Ent.take del0 (Ent.take del0 (Ent.take del0 (Ent.take del0 (Ent.take del0 Ent.refl))))) (Arr_close hl hm hw)) (Ent.take del0 Ent.refl))))
      · exact tup2p (if_neg hR).symm
      · trivial
    ·
      refine CJ_skip ?_
      refine QJ_then ?_
      refine CJ_seq ?_
      have hR : inR s d := ⟨by omega, by omega⟩
      obtain ⟨i, rfl⟩ := Int.eq_ofNat_of_zero_le hR.1
      have hsm := hw.same i (by omega)
      refine CJ_ent (Ent.trans (Ent.take del2 Ent.refl) (DOwn_open i hl (by omega))) ?_
      refine CJ_region ?_
      refine RJ_op rfl (OJ_P (P_move rfl) rfl ?_)
      refine RJ_op rfl (OJ_P (P_nilCheck rfl) rfl ?_)
      refine RJ_op rfl (OJ_P (P_fieldAddr rfl ⟨_, _, _, Try.runUnderlying55, rfl, rfl, Try.sizeOf52, rfl⟩) rfl ?_)
      refine RJ_op rfl (OJ_V (V_load rfl foc3 rfl Try.isAgg52) rfl ?_)
      refine RJ_op rfl (OJ_P (P_move rfl) rfl ?_)
      first | (refine RJ_op rfl (OJ_V (V_index rfl rfl rfl (by omega) foc4 (Reads.sl _ _ _) Try.runUnderlying52 Try.sizeOf58) rfl ?_)) | (refine RJ_op rfl (OJ_V (V_index rfl rfl (Int.toNat_of_nonneg (by omega)).symm (by omega) foc4 (Reads.sl _ _ _) Try.runUnderlying52 Try.sizeOf58) rfl ?_))
      refine RJ_op rfl (OJ_P (P_fieldE rfl ⟨_, _, _, Try.runUnderlying58, rfl, rfl, Try.sizeOf56, rfl⟩) rfl ?_)
      refine RJ_op rfl (OJ_V (V_loadE rfl rfl (by omega) foc4 (Reads.sl _ _ _) rfl rfl Try.isAgg56) rfl ?_)
      refine RJ_op rfl (O_call (c_CloneU (Reads.sl _ _ _) (by omega)) rfl Try.call51 (Dels.cons del0 Dels.nil) rfl (fun cx1 hc3 => ?_))
      refine RJ_op rfl (OJ_P (P_assign rfl) rfl ?_)
      refine RJ_op rfl (OJ_P (P_assign rfl) rfl ?_)
      refine RJ_nil ?_
      refine QJ_then ?_
      refine CJ_ret ?_
      refine QJ_end (res2 Try.results35 rfl rfl) ?_
      rw [imL, if_pos hR]
      refine CSpec.close cx1 ?_ ?_ (Ent.trans (Ent.trans (Ent.take del1 (Ent.take del1 (Ent.take del1 Ent.refl))) (DOwn_back hl (by omega))) (Ent.trans (Ent.trans (Ent.take del2 (Ent.take del2 (Ent.take del0 (Ent.take del1 (Ent.take del1 Ent.refl))))) (Arr_close hl hm hw)) (Ent.take del1 (Ent.take del0 Ent.refl))))
      · exact tup2p (if_pos hR).symm
      · trivial

end Go.Proofs
