/- YtomomnpnkfgnnaaCLoad: contracts of functions of the program, walked rule by rule; printed by vg.py. -/
import Derived.Test.YtomomnpnkfgnnaaLDel
set_option linter.unusedSimpArgs false
set_option maxRecDepth 20000
namespace Go.Proofs
open Go.VG
theorem CLoad_bld_60_0_1 (v0 : Int) (v1 : Int) : ∀ w, (Instr.build 60 (#[(0, .int .i64 v0), (1, .int .i64 v1)] : Array (Nat × Value))).run Try.prog w = .ok (.agg #[.int .i64 v0, .int .i64 v1]) w := fun w => by kernel_rfl

/-- What a load leaves. -/
def ldC (s : ArrS) (d : Int) (im : List UInt64) : Int := if inR s d then (if im.length = (s.drv.getD d.toNat d0).now.length then 0 else 3) else 1
def delUpTo (m : List ((Int × Int) × Unit)) (d : Int) (k : Nat) : List ((Int × Int) × Unit) := (List.range k).foldl (fun m (j : Nat) => delM m (d, (j : Int))) m
theorem delUpTo_step (m : List ((Int × Int) × Unit)) (d : Int) (k : Nat) : delM (delUpTo m d k) (d, (k : Int)) = delUpTo m d (k + 1) := by
  simp [delUpTo, List.range_succ, List.foldl_append]
def ldS (s : ArrS) (d : Int) (im : List UInt64) : ArrS :=
  if ldC s d im = 0 then { s with drv := s.drv.set d.toNat ⟨im, im, (s.drv.getD d.toNat d0).miss⟩, bad := delUpTo s.bad d im.length, log := s.log.filter fun r => !decide ((r.d : Int) = d) } else s
theorem copied_all {xs ys : List UInt64} (h : ys.length = xs.length) : copied xs ys = ys := by
  unfold copied; rw [h, Nat.min_self, ← h, List.take_length, List.drop_of_length_le (by omega), List.append_nil]
theorem wf_load {s : ArrS} {i : Nat} {im : List UInt64} {m : List ((Int × Int) × Unit)} (hw : ArrWF s) (hi : i < s.drv.length) (hl : im.length = (s.drv.getD i d0).now.length) :
    ArrWF { s with drv := s.drv.set i ⟨im, im, (s.drv.getD i d0).miss⟩, bad := m, log := s.log.filter fun r => !decide ((r.d : Int) = (i : Int)) } := by
  have hsz : ∀ x, ArrS.size { s with drv := s.drv.set i ⟨im, im, (s.drv.getD i d0).miss⟩, bad := m, log := s.log.filter fun r => !decide ((r.d : Int) = (i : Int)) } x = s.size x := fun x => by
    show ((s.drv.set i _).getD x d0).now.length = (s.drv.getD x d0).now.length
    simp only [List.getD, List.getElem?_set]
    by_cases hx : i = x
    · subst hx; simp [hi, List.getD] at hl ⊢; exact hl
    · simp [hx]
  have hsub : ∀ r ∈ s.log.filter (fun r => !decide ((r.d : Int) = (i : Int))), r.d < s.drv.length ∧ r.a < s.size r.d := fun r hr => by
    obtain ⟨j, hj, rfl⟩ := List.getElem_of_mem (List.mem_filter.1 hr).1
    have := hw.log j hj
    simpa [List.getD, hj] using this
  refine { cnt := by simpa using hw.cnt, same := fun j hj => ?_, log := fun j hj => ?_, len := Nat.le_trans (List.length_filter_le _ _) hw.len, fuse := hw.fuse }
  · have hj' : j < s.drv.length := by simpa using hj
    have := hw.same j hj'
    show ((s.drv.set i _).getD j d0).now.length = ((s.drv.set i _).getD j d0).dur.length ∧ ((s.drv.set i _).getD j d0).now.length ≤ 65536
    simp only [List.getD, List.getElem?_set] at this hl ⊢
    by_cases hx : i = j
    · subst hx; simp [hi] at this hl ⊢; omega
    · simpa [hx] using this
  · rw [hsz]
    have := hsub _ (List.getElem_mem hj)
    have e : ∀ (l : List Rec) (h : j < l.length), l.getD j r0 = l[j] := fun l h => by simp [List.getD, h]
    rw [e _ hj]
    exact ⟨by simpa using this.1, this.2⟩

theorem c_LoadD {W : World} {b : Nat} {s : ArrS} {d : Int} {A : HP} {v : Value} {im : List UInt64} (hA : Reads A tyU v im) (hW : s.writes ≤ 1000000000) :
    CSpec Try.prog W 33 [ptr b 0, .int .i64 d, v] [Arr b s, A] (fun _ : Unit => .int .i64 (ldC s d im)) (fun _ => True) (fun _ F => Arr b (ldS s d im) :: A :: F) := by
  refine CSpec.of_body Try.func33 rfl Try.ntmps33 rfl (fun F => ?_)
  show CJ _ _ _ _ _ _ (_ :: _ :: F)
  refine CJ_entX (Ent.transX (Ent.take del0 Ent.refl) Arr_open) (fun ⟨dv, lv, mr, l⟩ => ?_)
  refine CJ_pur (fun hX => ?_)
  obtain ⟨hl, hm, hw⟩ : l.map Prod.snd = (s).drv ∧ (∀ p ∈ l, p.1.miss = p.2.miss) ∧ ArrWF (s) := hX
  show CJ _ _ _ _ _ _ (blk b 55 [Sl3.v dv, .map (some mr), Sl3.v lv, _, _, _] :: sl tyDrv (Sl3.v dv) (DL.hs l) :: DOwn l :: sl tyRec (Sl3.v lv) _ :: mpc mBad mr _ :: _)
  have hn := hs_len hl
  have hwF := hw.fuse
  have hwL := hw.len
  have hwC := hw.cnt
  refine CJ_seq ?_
  refine CJ_region ?_
  refine RJ_op rfl (O_box rfl rfl rfl (fun b1 => ?_))
  refine RJ_op rfl (OJ_P (P_assign rfl) rfl ?_)
  refine RJ_nil ?_
  refine QJ_then ?_
  refine CJ_seq ?_
  refine CJ_seq ?_
  refine AJ_startH 0 (by kernel_rfl) rfl ?_
  refine AJ_takeV 0 1 rfl (by kernel_rfl) rfl (by kernel_rfl) (by kernel_rfl) (GY_none rfl) (Ent.take del0 (Ent.take del0 (Ent.take del0 (Ent.take del0 (Ent.take del0 (Ent.take del0 (Ent.take del0 Ent.refl))))))) (V_load rfl foc0 rfl Try.isAgg3) rfl (fun _ _ _ _ h => h) ?_
  refine AJ_takeP 1 3 rfl (by kernel_rfl) rfl (GY_none rfl) (P_lss rfl rfl) rfl (fun _ _ _ _ h => h) ?_
  refine AJ_takeP 2 7 rfl (by kernel_rfl) rfl (GY_none rfl) (P_move rfl) rfl (fun _ _ _ _ h => h) ?_
  first | (refine AJ_splitD 11 rfl (fun hg1B hg1 => ?_) (fun hg1B hg1 => ?_)) | (refine AJ_splitN 11 rfl (fun hg1B hg1 => ?_) (fun hg1B hg1 => ?_)) | (refine AJ_split 11 rfl (fun hg1B => ?_) (fun hg1B => ?_))
  ·
    refine AJ_skip 3 15 rfl (by kernel_rfl) rfl (GY_no rfl rfl rfl hg1B) rfl (fun _ _ _ _ h => h) ?_
    refine AJ_skip 4 31 rfl (by kernel_rfl) rfl (GY_no rfl rfl rfl hg1B) rfl (fun _ _ _ _ h => h) ?_
    refine AJ_skip 5 63 rfl (by kernel_rfl) rfl (GY_no rfl rfl rfl hg1B) rfl (fun _ _ _ _ h => h) ?_
    refine AJ_skip 6 127 rfl (by kernel_rfl) rfl (GY_no rfl rfl rfl hg1B) rfl (fun _ _ _ _ h => h) ?_
    refine AJ_skip 7 255 rfl (by kernel_rfl) rfl (GY_no rfl rfl rfl hg1B) rfl (fun _ _ _ _ h => h) ?_
    refine AJ_skip 8 511 rfl (by kernel_rfl) rfl (GY_no rfl rfl rfl hg1B) rfl (fun _ _ _ _ h => h) ?_
    refine AJ_skip 9 1023 rfl (by kernel_rfl) rfl (GY_no rfl rfl rfl hg1B) rfl (fun _ _ _ _ h => h) ?_
    refine AJ_takeP 10 2047 rfl (by kernel_rfl) rfl (GY_none rfl) (P_pickT rfl hg1B rfl) rfl (fun _ _ _ _ h => h) ?_
    refine AJ_done (by kernel_rfl) ?_
    refine QJ_then ?_
    refine CJ_condT rfl rfl ?_
    refine CJ_seq ?_
    refine CJ_region ?_
    refine RJ_op rfl (OJ_P (P_assign rfl) rfl ?_)
    refine RJ_nil ?_
    refine QJ_then ?_
    refine CJ_ret ?_
    refine QJ_then_ret ?_
    refine QJ_end (res1 Try.results33 rfl) ?_
    have hR : ¬ inR s d := fun h => by unfold inR at h; omega
    have hC : ldC s d im = 1 := if_neg hR
    rw [show ldS s d im = s from if_neg (by rw [hC]; decide)]
    refine CSpec.close () ?_ ?_ (Ent.trans (Ent.trans (Ent.take del1 (Ent.take del1 (Ent.take del1 (Ent.take del1 (Ent.take del1 Ent.refl))))) (Arr_close hl hm hw)) (Ent.take del0 (Ent.take del1 (Ent.drop Ent.refl))))
    · exact iv hC.symm
    · trivial
  ·
    refine AJ_takeV 3 15 rfl (by kernel_rfl) rfl (by kernel_rfl) (by kernel_rfl) (GY_yes rfl rfl rfl hg1B) (Ent.take del0 (Ent.take del0 (Ent.take del0 (Ent.take del0 (Ent.take del0 (Ent.take del0 (Ent.take del0 Ent.refl))))))) (V_load rfl foc0 rfl Try.isAgg3) rfl (fun _ _ _ _ h => h) ?_
    refine AJ_takeP 4 31 rfl (by kernel_rfl) rfl (GY_yes rfl rfl rfl hg1B) (P_move rfl) rfl (fun _ _ _ _ h => h) ?_
    refine AJ_takeP 5 63 rfl (by kernel_rfl) rfl (GY_yes rfl rfl rfl hg1B) (P_nilCheck rfl) rfl (fun _ _ _ _ h => h) ?_
    refine AJ_takeP 6 127 rfl (by kernel_rfl) rfl (GY_yes rfl rfl rfl hg1B) (P_fieldAddr rfl ⟨_, _, _, Try.runUnderlying55, rfl, rfl, Try.sizeOf52, rfl⟩) rfl (fun _ _ _ _ h => h) ?_
    refine AJ_takeV 7 255 rfl (by kernel_rfl) rfl (by kernel_rfl) (by kernel_rfl) (GY_yes rfl rfl rfl hg1B) (Ent.take del0 (Ent.take del0 (Ent.take del0 (Ent.take del0 (Ent.take del0 (Ent.take del0 (Ent.take del0 Ent.refl))))))) (V_load rfl foc1 rfl Try.isAgg52) rfl (fun _ _ _ _ h => h) ?_
    refine AJ_takeV 8 511 rfl (by kernel_rfl) rfl (by kernel_rfl) (by kernel_rfl) (GY_yes rfl rfl rfl hg1B) (Ent.take del0 (Ent.take del0 (Ent.take del0 (Ent.take del0 (Ent.take del0 (Ent.take del0 (Ent.take del0 Ent.refl))))))) (V_len rfl foc2 (Reads.sl _ _ _) Try.runUnderlying52) rfl (fun _ _ _ _ h => h) ?_
    refine AJ_takeP 9 1023 rfl (by kernel_rfl) rfl (GY_yes rfl rfl rfl hg1B) (P_geq rfl rfl) rfl (fun _ _ _ _ h => h) ?_
    refine AJ_takeP 10 2047 rfl (by kernel_rfl) rfl (GY_none rfl) (P_pickF rfl hg1B rfl) rfl (fun _ _ _ _ h => h) ?_
    refine AJ_done (by kernel_rfl) ?_
    refine QJ_then ?_
    first | (refine CJ_condD rfl (fun hg2 => ?_) (fun hg2 => ?_)) | (refine CJ_condN rfl (fun hg2 => ?_) (fun hg2 => ?_)) | (refine CJ_cond rfl (fun hg2 => ?_) (fun hg2 => ?_))
    ·
      refine CJ_seq ?_
      refine CJ_region ?_
      refine RJ_op rfl (OJ_P (P_assign rfl) rfl ?_)
      refine RJ_nil ?_
      refine QJ_then ?_
      refine CJ_ret ?_
      refine QJ_then_ret ?_
      refine QJ_end (res1 Try.results33 rfl) ?_
      have hR : ¬ inR s d := fun h => by unfold inR at h; omega
      have hC : ldC s d im = 1 := if_neg hR
      rw [show ldS s d im = s from if_neg (by rw [hC]; decide)]
      refine CSpec.close () ?_ ?_ (Ent.trans (Ent.trans (Ent.take del1 (Ent.take del1 (Ent.take del1 (Ent.take del1 (Ent.take del1 Ent.refl))))) (Arr_close hl hm hw)) (Ent.take del0 (Ent.take del1 (Ent.drop Ent.refl))))
      · exact iv hC.symm
      · trivial
    ·
      have hR : inR s d := ⟨by omega, by omega⟩
      obtain ⟨i, rfl⟩ := Int.eq_ofNat_of_zero_le hR.1
      have hsm := hw.same i (by omega)
      refine CJ_skip ?_
      refine QJ_then ?_
      refine CJ_seq ?_
      refine CJ_ent (Ent.trans (Ent.take del3 Ent.refl) (DOwn_open i hl (by omega))) ?_
      refine AJ_startH 256 (by kernel_rfl) rfl ?_
      refine AJ_takeP 0 1 rfl (by kernel_rfl) rfl (GY_none rfl) (P_move rfl) rfl (fun _ _ _ _ h => h) ?_
      refine AJ_takeP 1 3 rfl (by kernel_rfl) rfl (GY_none rfl) (P_nilCheck rfl) rfl (fun _ _ _ _ h => h) ?_
      refine AJ_takeP 2 7 rfl (by kernel_rfl) rfl (GY_none rfl) (P_fieldAddr rfl ⟨_, _, _, Try.runUnderlying55, rfl, rfl, Try.sizeOf52, rfl⟩) rfl (fun _ _ _ _ h => h) ?_
      refine AJ_takeV 3 15 rfl (by kernel_rfl) rfl (by kernel_rfl) (by kernel_rfl) (GY_none rfl) (Ent.take del0 (Ent.take del0 (Ent.take del0 (Ent.take del0 (Ent.take del0 (Ent.take del0 (Ent.take del0 (Ent.take del0 (Ent.take del0 Ent.refl))))))))) (V_load rfl foc4 rfl Try.isAgg52) rfl (fun _ _ _ _ h => h) ?_
      refine AJ_takeV 4 31 rfl (by kernel_rfl) rfl (by kernel_rfl) (by kernel_rfl) (GY_none rfl) (Ent.take del0 (Ent.take del0 (Ent.take del0 (Ent.take del0 (Ent.take del0 (Ent.take del0 (Ent.take del0 (Ent.take del0 (Ent.take del0 Ent.refl))))))))) (V_load rfl foc3 rfl Try.isAgg3) rfl (fun _ _ _ _ h => h) ?_
      first | (refine AJ_takeV 5 63 rfl (by kernel_rfl) rfl (by kernel_rfl) (by kernel_rfl) (GY_none rfl) (Ent.take del0 (Ent.take del0 (Ent.take del0 (Ent.take del0 (Ent.take del0 (Ent.take del0 (Ent.take del0 (Ent.take del0 (Ent.take del0 Ent.refl))))))))) (V_index rfl rfl rfl (by omega) foc5 (Reads.sl _ _ _) Try.runUnderlying52 Try.sizeOf58) rfl (fun _ _ _ _ h => h) ?_) | (refine AJ_takeV 5 63 rfl (by kernel_rfl) rfl (by kernel_rfl) (by kernel_rfl) (GY_none rfl) (Ent.take del0 (Ent.take del0 (Ent.take del0 (Ent.take del0 (Ent.take del0 (Ent.take del0 (Ent.take del0 (Ent.take del0 (Ent.take del0 Ent.refl))))))))) (V_index rfl rfl (Int.toNat_of_nonneg (by omega)).symm (by omega) foc5 (Reads.sl _ _ _) Try.runUnderlying52 Try.sizeOf58) rfl (fun _ _ _ _ h => h) ?_)
      refine AJ_takeV 6 127 rfl (by kernel_rfl) rfl (by kernel_rfl) (by kernel_rfl) (GY_none rfl) (Ent.take del0 (Ent.take del0 (Ent.take del0 (Ent.take del0 (Ent.take del0 (Ent.take del0 (Ent.take del0 (Ent.take del0 (Ent.take del0 Ent.refl))))))))) (V_loadEN rfl rfl (by omega) foc5 (Reads.sl _ _ _) rfl rfl Try.isAgg58 Try.sizeOf58) rfl (fun _ _ _ _ h => h) ?_
      refine AJ_op 7 255 rfl (by kernel_rfl) rfl (GY_none rfl) (O_alloc Try.zeroValue58 rfl rfl (fun b2 => ?_))
      refine ⟨fun _ => (Ent.take del1 (Ent.take del1 (Ent.take del1 (Ent.take del1 (Ent.take del1 (Ent.take del1 (Ent.take del1 (Ent.take del1 (Ent.take del1 (Ent.drop Ent.refl)))))))))), ?_⟩
      refine AJ_op 8 511 rfl (by kernel_rfl) rfl (GY_none rfl) (O_storeN rfl rfl foc0 Try.sizeOf58 rfl rfl rfl ?_)
      refine ⟨fun h => absurd h (by decide), ?_⟩
      refine AJ_done (by kernel_rfl) ?_
      refine QJ_then ?_
      refine CJ_seq ?_
      refine CJ_seq ?_
      refine CJ_region ?_
      refine RJ_op rfl (OJ_P (P_move rfl) rfl ?_)
      refine RJ_op rfl (OJ_V (V_len rfl foc9 hA Try.runUnderlying56) rfl ?_)
      refine RJ_op rfl (OJ_P (P_fieldAddr rfl ⟨_, _, _, Try.runUnderlying58, rfl, rfl, Try.sizeOf56, rfl⟩) rfl ?_)
      refine RJ_op rfl (OJ_V (V_load rfl foc0 rfl Try.isAgg56) rfl ?_)
      refine RJ_op rfl (OJ_V (V_len rfl foc1 (Reads.sl _ _ _) Try.runUnderlying56) rfl ?_)
      refine RJ_op rfl (OJ_P (P_neq rfl rfl) rfl ?_)
      refine RJ_nil ?_
      refine QJ_then ?_
      first | (refine CJ_condD rfl (fun hg3 => ?_) (fun hg3 => ?_)) | (refine CJ_condN rfl (fun hg3 => ?_) (fun hg3 => ?_)) | (refine CJ_cond rfl (fun hg3 => ?_) (fun hg3 => ?_))
      ·
        refine CJ_seq ?_
        refine CJ_region ?_
        refine RJ_op rfl (OJ_P (P_assign rfl) rfl ?_)
        refine RJ_nil ?_
        refine QJ_then ?_
        refine CJ_ret ?_
        refine QJ_then_ret ?_
        refine QJ_end (res1 Try.results33 rfl) ?_
        have hC : ldC s i im = 3 := by rw [ldC, if_pos hR, if_neg (by show ¬ im.length = (s.drv.getD i d0).now.length; omega)]
        rw [show ldS s i im = s from if_neg (by rw [hC]; decide)]
        refine CSpec.close () ?_ ?_ (Ent.trans (Ent.trans (Ent.take del1 (Ent.take del1 (Ent.take del1 Ent.refl))) (DOwn_back hl (by omega))) (Ent.trans (Ent.trans (Ent.take del3 (Ent.take del3 (Ent.take del0 (Ent.take del2 (Ent.take del2 Ent.refl))))) (Arr_close hl hm hw)) (Ent.take del0 (Ent.take del2 (Ent.drop (Ent.drop Ent.refl))))))
        · exact iv hC.symm
        · trivial
      ·
        refine CJ_skip ?_
        refine QJ_then ?_
        refine CJ_seq ?_
        refine CJ_region ?_
        refine RJ_op rfl (OJ_P (P_fieldAddr rfl ⟨_, _, _, Try.runUnderlying58, rfl, rfl, Try.sizeOf56, rfl⟩) rfl ?_)
        refine RJ_op rfl (OJ_V (V_load rfl foc0 rfl Try.isAgg56) rfl ?_)
        refine RJ_op rfl (OJ_P (P_move rfl) rfl ?_)
        refine RJ_op rfl (O_copy (t := tyU) (bytes := 8) rfl rfl del1 foc8 hA Try.underlying56 ok_tyU rfl ?_)
        refine RJ_nil ?_
        refine QJ_then ?_
        refine CJ_seq ?_
        refine CJ_region ?_
        refine RJ_op rfl (OJ_P (P_fieldAddr rfl ⟨_, _, _, Try.runUnderlying58, rfl, rfl, Try.sizeOf56, rfl⟩) rfl ?_)
        refine RJ_op rfl (OJ_V (V_load rfl foc1 rfl Try.isAgg56) rfl ?_)
        refine RJ_op rfl (OJ_P (P_move rfl) rfl ?_)
        refine RJ_op rfl (O_copy (t := tyU) (bytes := 8) rfl rfl del2 foc8 hA Try.underlying56 ok_tyU rfl ?_)
        refine RJ_nil ?_
        refine QJ_then ?_
        refine CJ_seq ?_
        refine CJ_region ?_
        refine RJ_op rfl (OJ_P (P_move rfl) rfl ?_)
        refine RJ_op rfl (OJ_P (P_move rfl) rfl ?_)
        refine RJ_op rfl (OJ_P (P_nilCheck rfl) rfl ?_)
        refine RJ_op rfl (OJ_P (P_fieldAddr rfl ⟨_, _, _, Try.runUnderlying55, rfl, rfl, Try.sizeOf53, rfl⟩) rfl ?_)
        refine RJ_op rfl (OJ_V (V_load rfl foc5 rfl Try.isAgg53) rfl ?_)
        refine RJ_op rfl (OJ_P (P_makeFunc rfl rfl) rfl ?_)
        refine RJ_op rfl (O_call (c_DeleteRec (by omega)) rfl Try.call49 (Dels.cons del7 (Dels.cons del4 Dels.nil)) rfl (fun dx3 hc5 => ?_))
        refine RJ_op rfl (OJ_P (P_nilCheck rfl) rfl ?_)
        refine RJ_op rfl (OJ_P (P_fieldAddr rfl ⟨_, _, _, Try.runUnderlying55, rfl, rfl, Try.sizeOf53, rfl⟩) rfl ?_)
        refine RJ_op rfl (O_store rfl rfl foc6 rfl rfl Try.sizeOf53 ?_)
        refine RJ_nil ?_
        refine QJ_then ?_
        refine CJ_seq ?_
        refine CJ_seq ?_
        refine CJ_region ?_
        refine RJ_op rfl (OJ_P (P_move rfl) rfl ?_)
        refine RJ_op rfl (OJ_V (V_len rfl foc9 hA Try.runUnderlying56) rfl ?_)
        refine RJ_op rfl (OJ_P (P_move rfl) rfl ?_)
        refine RJ_nil ?_
        refine QJ_then ?_
        refine CJ_block ?_
        refine CJ_loopR (X := Nat) [8, 52, 53, 54, 55, 56, 57, 58, 59, 60, 61, 62] (fun k  => ([(52, .int .i64 (k : Nat))] : Slots)) (fun k R => mpc mBad mr (delUpTo s.bad i k) :: R) (fun k  => k ≤ im.length) (fun k  => im.length - k) (0) ?_ ?_ (Ent.take del8 (Ent.take del0 (Ent.take del0 (Ent.take del0 (Ent.take del0 (Ent.take del0 (Ent.take del0 (Ent.take del0 (Ent.take del0 (Ent.take del0 Ent.refl)))))))))) ?_
        · exact Nat.zero_le _
        · exact ⟨rfl, True.intro⟩
        ·
          intro k hk
          show CJ _ _ _ _ _ (([(52, .int .i64 (k : Nat))] : Slots) ++ forget _ _) (mpc mBad mr (delUpTo s.bad i k) :: _)
          refine CJ_seq ?_
          refine CJ_region ?_
          refine RJ_op rfl (OJ_P (P_lss rfl rfl) rfl ?_)
          refine RJ_nil ?_
          refine QJ_then ?_
          refine CJ_seq ?_
          first | (refine CJ_condD rfl (fun hg4 => ?_) (fun hg4 => ?_)) | (refine CJ_condN rfl (fun hg4 => ?_) (fun hg4 => ?_)) | (refine CJ_cond rfl (fun hg4 => ?_) (fun hg4 => ?_))
          ·
            refine CJ_skip ?_
            refine QJ_then ?_
            refine CJ_seq ?_
            refine CJ_block ?_
            refine CJ_seq ?_
            refine CJ_region ?_
            refine RJ_op rfl (OJ_P (P_move rfl) rfl ?_)
            refine RJ_op rfl (OJ_P (P_assign rfl) rfl ?_)
            refine RJ_nil ?_
            refine QJ_then ?_
            refine AJ_startH 128 (by kernel_rfl) rfl ?_
            refine AJ_takeP 0 1 rfl (by kernel_rfl) rfl (GY_none rfl) (P_move rfl) rfl (fun _ _ _ _ h => h) ?_
            refine AJ_takeP 1 3 rfl (by kernel_rfl) rfl (GY_none rfl) (P_nilCheck rfl) rfl (fun _ _ _ _ h => h) ?_
            refine AJ_takeP 2 7 rfl (by kernel_rfl) rfl (GY_none rfl) (P_fieldAddr rfl ⟨_, _, _, Try.runUnderlying55, rfl, rfl, Try.sizeOf51, rfl⟩) rfl (fun _ _ _ _ h => h) ?_
            refine AJ_takeV 3 15 rfl (by kernel_rfl) rfl (by kernel_rfl) (by kernel_rfl) (GY_none rfl) (Ent.take del0 (Ent.take del0 (Ent.take del0 (Ent.take del0 (Ent.take del0 (Ent.take del0 (Ent.take del0 (Ent.take del0 (Ent.take del0 (Ent.take del0 Ent.refl)))))))))) (V_load rfl foc7 rfl Try.isAgg51) rfl (fun _ _ _ _ h => h) ?_
            refine AJ_takeV 4 31 rfl (by kernel_rfl) rfl (by kernel_rfl) (by kernel_rfl) (GY_none rfl) (Ent.take del0 (Ent.take del0 (Ent.take del0 (Ent.take del0 (Ent.take del0 (Ent.take del0 (Ent.take del0 (Ent.take del0 (Ent.take del0 (Ent.take del0 Ent.refl)))))))))) (V_load rfl foc1 rfl Try.isAgg3) rfl (fun _ _ _ _ h => h) ?_
            refine AJ_takeP 5 63 rfl (by kernel_rfl) rfl (GY_none rfl) (P_move rfl) rfl (fun _ _ _ _ h => h) ?_
            refine AJ_takeP 6 127 rfl (by kernel_rfl) rfl (GY_none rfl) (P_build rfl (CLoad_bld_60_0_1 _ _)) rfl (fun _ _ _ _ h => h) ?_
            refine AJ_op 7 255 rfl (by kernel_rfl) rfl (GY_none rfl) (O_delete (M := mBad) (k := ((i : Int), (k : Int))) rfl rfl foc0 ok_mBad ?_)
            refine ⟨fun h => absurd h (by decide), ?_⟩
            refine AJ_done (by kernel_rfl) ?_
            refine QJ_block_normal ?_
            refine QJ_then ?_
            refine CJ_region ?_
            refine RJ_op rfl (OJ_P (P_add rfl rfl (by omega)) rfl ?_)
            refine RJ_op rfl (OJ_P (P_move rfl) rfl ?_)
            refine RJ_nil ?_
            refine QJ_nextR (k + 1) (by first | omega | (simp only []; omega)) ?_ (by repeat (first | exact Kp.base | exact Kp.self | refine Kp.cons rfl ?_ | refine Kp.forget rfl ?_)) ?_ (Ent.takeC del0 (congrArg (mpc mBad mr) (delUpTo_step _ _ _)) (Ent.take del0 (Ent.take del0 (Ent.take del0 (Ent.take del0 (Ent.take del0 (Ent.take del0 (Ent.take del0 (Ent.take del0 (Ent.take del0 Ent.refl))))))))))
            · omega
            · exact ⟨rfl, True.intro⟩
          ·
            refine CJ_exit ?_
            refine QJ_then_exit ?_
            refine QJ_round_exit ?_
            refine QJ_block_here ?_
            refine QJ_then ?_
            refine CJ_seq ?_
            refine CJ_region ?_
            refine RJ_op rfl (OJ_P (P_assign rfl) rfl ?_)
            refine RJ_nil ?_
            refine QJ_then ?_
            refine CJ_ret ?_
            refine QJ_end (res1 Try.results33 rfl) ?_
            obtain rfl : k = im.length := by omega
            have hC : ldC s i im = 0 := by rw [ldC, if_pos hR, if_pos (show im.length = (s.drv.getD ((i : Int)).toNat d0).now.length by rw [Int.toNat_natCast]; omega)]
            rw [show ldS s i im = _ from if_pos hC]
            refine CSpec.close () ?_ ?_ (Ent.trans (Ent.trans (Ent.take del7 (Ent.take del7 (Ent.takeC del4 (by rw [copied_all (by omega)]) (Ent.takeC del3 (by rw [copied_all (by omega)]) (Ent.take del4 (Ent.take del2 (Ent.take del0 Ent.refl))))))) (Arr_close1 (s' := { s with drv := s.drv.set i ⟨im, im, (s.drv.getD i d0).miss⟩, bad := delUpTo s.bad i im.length, log := s.log.filter fun r => !decide ((r.d : Int) = (i : Int)) }) (lv := dx3) i ⟨im, im, (s.drv.getD i d0).miss⟩ hl hm (by omega) rfl rfl (wf_load hw (by omega) (by omega)))) (Ent.take del0 (Ent.take del2 (Ent.drop (Ent.drop Ent.refl)))))
            · exact iv hC.symm
            · trivial

end Go.Proofs
