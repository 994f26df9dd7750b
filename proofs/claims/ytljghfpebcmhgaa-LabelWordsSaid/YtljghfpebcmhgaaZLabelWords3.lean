/- LabelWords, part 3 of the proof: CLoad, LDev, LSpan, LMake, LIt, LCrc, PCrcL, LCopy, LLab1, LLab2, PMake, PLab. -/
import Derived.WalkKit
import Derived.Orders
import Derived.RangeFuncLeaves
import Derived.RangeFuncCalls
import Derived.TacticsIn
import Derived.Handy
import Derived.OrdersHeld
import Derived.OrdersIn
import Derived.Below
import Derived.OpenShut
import Derived.Deep.Slices
import Derived.Scope
import Derived.RangeFuncRecord
import Derived.ChangeKeysEq
import Derived.KernelRfl
import Derived.ProofKit
import Derived.ShutString
import Derived.ChangeOld
import Derived.Test.YtljghfpebcmhgaaChecked
import Derived.Test.YtljghfpebcmhgaaRows
import Derived.Test.YtljghfpebcmhgaaZLabelWords2
set_option linter.unusedSimpArgs false
set_option maxRecDepth 20000
namespace Go.Proofs
open Go.VG
theorem CLoad_bld_82_0_1 (v0 : Int) (v1 : Int) : ∀ w, (Instr.build 82 (#[(0, .int .i64 v0), (1, .int .i64 v1)] : Array (Nat × Value))).run Try.prog w = .ok (.agg #[.int .i64 v0, .int .i64 v1]) w := fun w => by kernel_rfl
def ldC (s : ArrS) (d : Int) (im : List UInt64) : Int := if inR s d then (if im.length = (s.drv.getD d.toNat d0).now.length then 0 else 3) else 1
def delUpTo (m : List ((Int × Int) × Unit)) (d : Int) (k : Nat) : List ((Int × Int) × Unit) := (List.range k).foldl (fun m (j : Nat) => delM m (d, (j : Int))) m
theorem delUpTo_step (m : List ((Int × Int) × Unit)) (d : Int) (k : Nat) : delM (delUpTo m d k) (d, (k : Int)) = delUpTo m d (k + 1) := by
  simp [delUpTo, List.range_succ, List.foldl_append]
def ldS (s : ArrS) (d : Int) (im : List UInt64) : ArrS :=
  if ldC s d im = 0 then { s with drv := s.drv.set d.toNat ⟨im, im, (s.drv.getD d.toNat d0).miss⟩, bad := delUpTo s.bad d im.length, log := s.log.filter fun r => !decide ((r.d : Int) = d) } else s
theorem copied_all {xs ys : List UInt64} (h : ys.length = xs.length) : copied xs ys = ys := by
  unfold copied; rw [h, Nat.min_self, ← h, List.take_length, List.drop_of_length_le (by omega), List.append_nil]
theorem wf_load {s : ArrS} {i : Nat} {im : List UInt64} {m : List ((Int × Int) × Unit)} (hw : ArrWF s) (hi : i < s.drv.length) (hl : im.length = (s.drv.getD i d0).now.length) :
    ArrWF { s with drv := s.drv.set i ⟨im, im, (s.drv.getD i d0).miss⟩, bad := m, log := s.log.filter fun r => !decide ((r.d : Int) = (i : Int)) } := by
  have hsz : ∀ x, ArrS.size { s with drv := s.drv.set i ⟨im, im, (s.drv.getD i d0).miss⟩, bad := m, log := s.log.filter fun r => !decide ((r.d : Int) = (i : Int)) } x = s.size x := fun x => by
    show ((s.drv.set i _).getD x d0).now.length = (s.drv.getD x d0).now.length
    simp only [List.getD, List.getElem?_set]
    by_cases hx : i = x
    · subst hx; simp [hi, List.getD] at hl ⊢; exact hl
    · simp [hx]
  have hsub : ∀ r ∈ s.log.filter (fun r => !decide ((r.d : Int) = (i : Int))), r.d < s.drv.length ∧ r.a < s.size r.d := fun r hr => by
    obtain ⟨j, hj, rfl⟩ := List.getElem_of_mem (List.mem_filter.1 hr).1
    have := hw.log j hj
    simpa [List.getD, hj] using this
  refine { cnt := by simpa using hw.cnt, same := fun j hj => ?_, log := fun j hj => ?_, len := Nat.le_trans (List.length_filter_le _ _) hw.len, fuse := hw.fuse }
  · have hj' : j < s.drv.length := by simpa using hj
    have := hw.same j hj'
    show ((s.drv.set i _).getD j d0).now.length = ((s.drv.set i _).getD j d0).dur.length ∧ ((s.drv.set i _).getD j d0).now.length ≤ 65536
    simp only [List.getD, List.getElem?_set] at this hl ⊢
    by_cases hx : i = j
    · subst hx; simp [hi] at this hl ⊢; omega
    · simpa [hx] using this
  · rw [hsz]
    have := hsub _ (List.getElem_mem hj)
    have e : ∀ (l : List Rec) (h : j < l.length), l.getD j r0 = l[j] := fun l h => by simp [List.getD, h]
    rw [e _ hj]
    exact ⟨by simpa using this.1, this.2⟩
theorem c_LoadD {W : World} {b : Nat} {s : ArrS} {d : Int} {A : HP} {v : Value} {im : List UInt64} (hA : Reads A tyU v im) (hW : s.writes ≤ 1000000000) :
    CSpec Try.prog W 31 [ptr b 0, .int .i64 d, v] [Arr b s, A] (fun _ : Unit => .int .i64 (ldC s d im)) (fun _ => True) (fun _ F => Arr b (ldS s d im) :: A :: F) := by
 refine CSpec.of_body Try.func31 rfl Try.ntmps31 rfl fun F => ?_
 show CJ _ _ _ _ _ _ (_ :: _ :: F)
 refine CJ_entX (Ent.transX (t0_ eR) Arr_open) fun ⟨dv, lv, mr, l⟩ => CJ_pur fun hX => ?_
 obtain ⟨hl, hm, hw⟩ : l.map Prod.snd = (s).drv ∧ (∀ p ∈ l, p.1.miss = p.2.miss) ∧ ArrWF (s) := hX
 show CJ _ _ _ _ _ _ (blk b 76 [Sl3.v dv, .map (some mr), Sl3.v lv, _, _, _] :: sl tyDrv (Sl3.v dv) (DL.hs l) :: DOwn l :: sl tyRec (Sl3.v lv) _ :: mpc mBad mr _ :: _)
 have hn := hs_len hl
 have hwF := hw.fuse
 have hwL := hw.len
 have hwC := hw.cnt
 refine sR <| oO <| O_box rfl rfl rfl fun b1 => oA rfl rfl <| nT <| CJ_seq <| CJ_seq <| AJ_startH 0 (by kernel_rfl) rfl <| aV 0 1 rfl rfl (GY_none rfl) (t0_ (t0_ (t0_ (t0_ (t0_ (t0_ (t0_ eR))))))) (V_load rfl foc0 rfl Try.isAgg3) rfl <| aN 1 3 rfl rfl (P_lss rfl rfl) rfl <| aN 2 7 rfl rfl (P_move rfl) rfl ?_
 first | (refine AJ_splitD 11 rfl (fun hg1B hg1 => ?_) (fun hg1B hg1 => ?_)) | (refine AJ_splitN 11 rfl (fun hg1B hg1 => ?_) (fun hg1B hg1 => ?_)) | (refine AJ_split 11 rfl (fun hg1B => ?_) (fun hg1B => ?_))
 ·
  refine aS 3 15 rfl rfl (GY_no rfl rfl rfl hg1B) rfl <| aS 4 31 rfl rfl (GY_no rfl rfl rfl hg1B) rfl <| aS 5 63 rfl rfl (GY_no rfl rfl rfl hg1B) rfl <| aS 6 127 rfl rfl (GY_no rfl rfl rfl hg1B) rfl <| aS 7 255 rfl rfl (GY_no rfl rfl rfl hg1B) rfl <| aS 8 511 rfl rfl (GY_no rfl rfl rfl hg1B) rfl <| aS 9 1023 rfl rfl (GY_no rfl rfl rfl hg1B) rfl <| aN 10 2047 rfl rfl (P_pickT rfl hg1B rfl) rfl <| aD <| CJ_condT rfl rfl <| sR <| oA rfl rfl <| nT <| CJ_ret <| QJ_then_ret <| QJ_end (res1 Try.results31 rfl) ?_
  have hR : ¬ inR s d := fun h => by unfold inR at h; omega
  have hC : ldC s d im = 1 := if_neg hR
  rw [show ldS s d im = s from if_neg (by rw [hC]; decide)]
  refine CSpec.close () ?_ ?_ (Ent.trans (Ent.trans (t1_ (t1_ (t1_ (t1_ (t1_ eR))))) (Arr_close hl hm hw)) (t0_ (t1_ (eD eR))))
  · exact iv hC.symm
  · trivial
 ·
  refine aV 3 15 rfl rfl (GY_yes rfl rfl rfl hg1B) (t0_ (t0_ (t0_ (t0_ (t0_ (t0_ (t0_ eR))))))) (V_load rfl foc0 rfl Try.isAgg3) rfl <| aP 4 31 rfl rfl (GY_yes rfl rfl rfl hg1B) (P_move rfl) rfl <| aP 5 63 rfl rfl (GY_yes rfl rfl rfl hg1B) (P_nilCheck rfl) rfl <| aP 6 127 rfl rfl (GY_yes rfl rfl rfl hg1B) (P_fieldAddr rfl ⟨_, _, _, Try.runUnderlying76, rfl, rfl, Try.sizeOf72, rfl⟩) rfl <| aV 7 255 rfl rfl (GY_yes rfl rfl rfl hg1B) (t0_ (t0_ (t0_ (t0_ (t0_ (t0_ (t0_ eR))))))) (V_load rfl foc1 rfl Try.isAgg72) rfl <| aV 8 511 rfl rfl (GY_yes rfl rfl rfl hg1B) (t0_ (t0_ (t0_ (t0_ (t0_ (t0_ (t0_ eR))))))) (V_len rfl foc2 (Reads.sl _ _ _) Try.runUnderlying72) rfl <| aP 9 1023 rfl rfl (GY_yes rfl rfl rfl hg1B) (P_geq rfl rfl) rfl <| aN 10 2047 rfl rfl (P_pickF rfl hg1B rfl) rfl <| aD ?_
  first | (refine CJ_condD rfl (fun hg2 => ?_) (fun hg2 => ?_)) | (refine CJ_condN rfl (fun hg2 => ?_) (fun hg2 => ?_)) | (refine CJ_cond rfl (fun hg2 => ?_) (fun hg2 => ?_))
  ·
   refine sR <| oA rfl rfl <| nT <| CJ_ret <| QJ_then_ret <| QJ_end (res1 Try.results31 rfl) ?_
   have hR : ¬ inR s d := fun h => by unfold inR at h; omega
   have hC : ldC s d im = 1 := if_neg hR
   rw [show ldS s d im = s from if_neg (by rw [hC]; decide)]
   refine CSpec.close () ?_ ?_ (Ent.trans (Ent.trans (t1_ (t1_ (t1_ (t1_ (t1_ eR))))) (Arr_close hl hm hw)) (t0_ (t1_ (eD eR))))
   · exact iv hC.symm
   · trivial
  ·
   have hR : inR s d := ⟨by omega, by omega⟩
   obtain ⟨i, rfl⟩ := Int.eq_ofNat_of_zero_le hR.1
   have hsm := hw.same i (by omega)
   refine kT <| CJ_seq <| CJ_ent (Ent.trans (t3_ eR) (DOwn_open i hl (by omega))) <| AJ_startH 256 (by kernel_rfl) rfl <| aN 0 1 rfl rfl (P_move rfl) rfl <| aN 1 3 rfl rfl (P_nilCheck rfl) rfl <| aN 2 7 rfl rfl (P_fieldAddr rfl ⟨_, _, _, Try.runUnderlying76, rfl, rfl, Try.sizeOf72, rfl⟩) rfl <| aV 3 15 rfl rfl (GY_none rfl) (t0_ (t0_ (t0_ (t0_ (t0_ (t0_ (t0_ (t0_ (t0_ eR))))))))) (V_load rfl foc4 rfl Try.isAgg72) rfl <| aV 4 31 rfl rfl (GY_none rfl) (t0_ (t0_ (t0_ (t0_ (t0_ (t0_ (t0_ (t0_ (t0_ eR))))))))) (V_load rfl foc3 rfl Try.isAgg3) rfl ?_
   first | (refine AJ_takeV 5 63 rfl (by kernel_rfl) rfl (by kernel_rfl) (by kernel_rfl) (GY_none rfl) (t0_ (t0_ (t0_ (t0_ (t0_ (t0_ (t0_ (t0_ (t0_ eR))))))))) (V_index rfl rfl rfl (by omega) foc5 (Reads.sl _ _ _) Try.runUnderlying72 Try.sizeOf86) rfl (fun _ _ _ _ h => h) ?_) | (refine AJ_takeV 5 63 rfl (by kernel_rfl) rfl (by kernel_rfl) (by kernel_rfl) (GY_none rfl) (t0_ (t0_ (t0_ (t0_ (t0_ (t0_ (t0_ (t0_ (t0_ eR))))))))) (V_index rfl rfl (Int.toNat_of_nonneg (by omega)).symm (by omega) foc5 (Reads.sl _ _ _) Try.runUnderlying72 Try.sizeOf86) rfl (fun _ _ _ _ h => h) ?_)
   refine aV 6 127 rfl rfl (GY_none rfl) (t0_ (t0_ (t0_ (t0_ (t0_ (t0_ (t0_ (t0_ (t0_ eR))))))))) (V_loadEN rfl rfl (by omega) foc5 (Reads.sl _ _ _) rfl rfl Try.isAgg86 Try.sizeOf86) rfl <| AJ_op 7 255 rfl (by kernel_rfl) rfl (GY_none rfl) <| O_alloc Try.zeroValue86 rfl rfl fun b2 => ⟨fun _ => (t1_ (t1_ (t1_ (t1_ (t1_ (t1_ (t1_ (t1_ (t1_ (eD eR)))))))))), ?_⟩
   refine AJ_op 8 511 rfl (by kernel_rfl) rfl (GY_none rfl) <| O_storeN rfl rfl foc0 Try.sizeOf86 rfl rfl rfl <| ⟨fun h => absurd h (by decide), ?_⟩
   refine aD <| CJ_seq <| sR <| oM rfl rfl <| oV (V_len rfl foc9 hA Try.runUnderlying27) rfl <| oP (P_fieldAddr rfl ⟨_, _, _, Try.runUnderlying86, rfl, rfl, Try.sizeOf27, rfl⟩) rfl <| oV (V_load rfl foc0 rfl Try.isAgg27) rfl <| oV (V_len rfl foc1 (Reads.sl _ _ _) Try.runUnderlying27) rfl <| oP (P_neq rfl rfl) rfl <| nT ?_
   first | (refine CJ_condD rfl (fun hg3 => ?_) (fun hg3 => ?_)) | (refine CJ_condN rfl (fun hg3 => ?_) (fun hg3 => ?_)) | (refine CJ_cond rfl (fun hg3 => ?_) (fun hg3 => ?_))
   ·
    refine sR <| oA rfl rfl <| nT <| CJ_ret <| QJ_then_ret <| QJ_end (res1 Try.results31 rfl) ?_
    have hC : ldC s i im = 3 := by rw [ldC, if_pos hR, if_neg (by show ¬ im.length = (s.drv.getD i d0).now.length; omega)]
    rw [show ldS s i im = s from if_neg (by rw [hC]; decide)]
    refine CSpec.close () ?_ ?_ (Ent.trans (Ent.trans (t1_ (t1_ (t1_ eR))) (DOwn_back hl (by omega))) (Ent.trans (Ent.trans (t3_ (t3_ (t0_ (t2_ (t2_ eR))))) (Arr_close hl hm hw)) (t0_ (t2_ (eD (eD eR))))))
    · exact iv hC.symm
    · trivial
   ·
    refine kT <| sR <| oP (P_fieldAddr rfl ⟨_, _, _, Try.runUnderlying86, rfl, rfl, Try.sizeOf27, rfl⟩) rfl <| oV (V_load rfl foc0 rfl Try.isAgg27) rfl <| oM rfl rfl <| oO <| O_copy (t := tyU) (bytes := 8) rfl rfl del1 foc8 hA Try.underlying27 ok_tyU rfl <| nT <| sR <| oP (P_fieldAddr rfl ⟨_, _, _, Try.runUnderlying86, rfl, rfl, Try.sizeOf27, rfl⟩) rfl <| oV (V_load rfl foc1 rfl Try.isAgg27) rfl <| oM rfl rfl <| oO <| O_copy (t := tyU) (bytes := 8) rfl rfl del2 foc8 hA Try.underlying27 ok_tyU rfl <| nT <| sR <| oM rfl rfl <| oM rfl rfl <| oP (P_nilCheck rfl) rfl <| oP (P_fieldAddr rfl ⟨_, _, _, Try.runUnderlying76, rfl, rfl, Try.sizeOf74, rfl⟩) rfl <| oV (V_load rfl foc5 rfl Try.isAgg74) rfl <| oP (P_makeFunc rfl rfl) rfl <| oO <| O_call (c_DeleteRec (by omega)) rfl Try.call43 (Dels.cons del7 (Dels.cons del4 Dels.nil)) rfl fun dx3 hc5 => oP (P_nilCheck rfl) rfl <| oP (P_fieldAddr rfl ⟨_, _, _, Try.runUnderlying76, rfl, rfl, Try.sizeOf74, rfl⟩) rfl <| oO <| O_store rfl rfl foc6 rfl rfl Try.sizeOf74 <| nT <| CJ_seq <| sR <| oM rfl rfl <| oV (V_len rfl foc9 hA Try.runUnderlying27) rfl <| oM rfl rfl <| nT <| CJ_block ?_
    refine CJ_loopR (X := Nat) [8, 52, 53, 54, 55, 56, 57, 58, 59, 60, 61, 62] (fun k  => ([(52, .int .i64 (k : Nat))] : Slots)) (fun k R => mpc mBad mr (delUpTo s.bad i k) :: R) (fun k  => k ≤ im.length) (fun k  => im.length - k) (0) ?_ ?_ (t8_ (t0_ (t0_ (t0_ (t0_ (t0_ (t0_ (t0_ (t0_ (t0_ eR)))))))))) ?_
    · exact Nat.zero_le _
    · exact ⟨rfl, True.intro⟩
    ·
     intro k hk
     show CJ _ _ _ _ _ (([(52, .int .i64 (k : Nat))] : Slots) ++ forget _ _) (mpc mBad mr (delUpTo s.bad i k) :: _)
     refine sR <| oP (P_lss rfl rfl) rfl <| nT <| CJ_seq ?_
     first | (refine CJ_condD rfl (fun hg4 => ?_) (fun hg4 => ?_)) | (refine CJ_condN rfl (fun hg4 => ?_) (fun hg4 => ?_)) | (refine CJ_cond rfl (fun hg4 => ?_) (fun hg4 => ?_))
     ·
      refine kT <| CJ_seq <| CJ_block <| sR <| oM rfl rfl <| oA rfl rfl <| nT <| AJ_startH 128 (by kernel_rfl) rfl <| aN 0 1 rfl rfl (P_move rfl) rfl <| aN 1 3 rfl rfl (P_nilCheck rfl) rfl <| aN 2 7 rfl rfl (P_fieldAddr rfl ⟨_, _, _, Try.runUnderlying76, rfl, rfl, Try.sizeOf73, rfl⟩) rfl <| aV 3 15 rfl rfl (GY_none rfl) (t0_ (t0_ (t0_ (t0_ (t0_ (t0_ (t0_ (t0_ (t0_ (t0_ eR)))))))))) (V_load rfl foc7 rfl Try.isAgg73) rfl <| aV 4 31 rfl rfl (GY_none rfl) (t0_ (t0_ (t0_ (t0_ (t0_ (t0_ (t0_ (t0_ (t0_ (t0_ eR)))))))))) (V_load rfl foc1 rfl Try.isAgg3) rfl <| aN 5 63 rfl rfl (P_move rfl) rfl <| aN 6 127 rfl rfl (P_build rfl (CLoad_bld_82_0_1 _ _)) rfl <| AJ_op 7 255 rfl (by kernel_rfl) rfl (GY_none rfl) <| O_delete (M := mBad) (k := ((i : Int), (k : Int))) rfl rfl foc0 ok_mBad <| ⟨fun h => absurd h (by decide), ?_⟩
      refine AJ_done (by kernel_rfl) <| QJ_block_normal <| QJ_then <| CJ_region <| oP (P_add rfl rfl (by omega)) rfl <| oM rfl rfl <| RJ_nil <| QJ_nextR (k + 1) (by first | omega | (simp only []; omega)) ?_ (by repeat (first | exact Kp.base | exact Kp.self | refine Kp.cons rfl ?_ | refine Kp.forget rfl ?_)) ?_ (Ent.takeC del0 (congrArg (mpc mBad mr) (delUpTo_step _ _ _)) (t0_ (t0_ (t0_ (t0_ (t0_ (t0_ (t0_ (t0_ (t0_ eR))))))))))
      · omega
      · exact ⟨rfl, True.intro⟩
     ·
      refine CJ_exit <| QJ_then_exit <| QJ_round_exit <| QJ_block_here <| QJ_then <| sR <| oA rfl rfl <| nT <| CJ_ret <| QJ_end (res1 Try.results31 rfl) ?_
      obtain rfl : k = im.length := by omega
      have hC : ldC s i im = 0 := by rw [ldC, if_pos hR, if_pos (show im.length = (s.drv.getD ((i : Int)).toNat d0).now.length by rw [Int.toNat_natCast]; omega)]
      rw [show ldS s i im = _ from if_pos hC]
      refine CSpec.close () ?_ ?_ (Ent.trans (Ent.trans (t7_ (t7_ (Ent.takeC del4 (by rw [copied_all (by omega)]) (Ent.takeC del3 (by rw [copied_all (by omega)]) (t4_ (t2_ (t0_ eR))))))) (Arr_close1 (s' := { s with drv := s.drv.set i ⟨im, im, (s.drv.getD i d0).miss⟩, bad := delUpTo s.bad i im.length, log := s.log.filter fun r => !decide ((r.d : Int) = (i : Int)) }) (lv := dx3) i ⟨im, im, (s.drv.getD i d0).miss⟩ hl hm (by omega) rfl rfl (wf_load hw (by omega) (by omega)))) (t0_ (t2_ (eD (eD eR)))))
      · exact iv hC.symm
      · trivial
end Go.Proofs
set_option linter.unusedSimpArgs false
set_option linter.unusedVariables false
set_option maxRecDepth 20000
set_option maxHeartbeats 4000000
namespace Go.Proofs
open Go.VG
abbrev tyDev : Ty IfH := { T := 44, sz := 1, enc := fun x => [.iface x.t x.u], dflt := ⟨0, .bool false⟩, len := fun _ => rfl, one := fun _ => rfl, pos := by decide }
theorem ok_tyDev : ElemOk Try.prog tyDev 16 := ⟨Try.t44, .nilIface, by kernel_rfl, rfl, rfl, rfl, rfl⟩
structure Dvc where
  dep : Nat
  size : ArrS → Option Int
  rd : ArrS → Int → Option (UInt64 × Int)
  wr : ArrS → Int → UInt64 → Option (Int × ArrS)
  fl : ArrS → Option (Int × ArrS)
abbrev dv0 : Dvc := ⟨0, fun _ => none, fun _ _ => none, fun _ _ _ => none, fun _ => none⟩
structure DevOk (a : Nat) (x : Dvc) (h : IfH) (R : HP) : Prop where
  dup : Dup R
  dep : x.dep ≤ 60
  nil : ∀ n, 1 ≤ n → ∀ w, (nilAhead n h.t h.u "Write").run Try.prog w = .ok (some false) w
  size : ∀ {W s r}, x.size s = some r → IOk Try.prog W x.dep h "Size" [] [R, Arr a s] (fun _ : Unit => .int .i64 r) (fun _ => True) (fun _ F => R :: Arr a s :: F)
  rd : ∀ {W s k r}, x.rd s k = some r → IOk Try.prog W x.dep h "Read" [.int .i64 k] [R, Arr a s] (fun _ : Unit => .tuple #[.int .u64 (r.1.toNat : Int), .int .i64 r.2]) (fun _ => True) (fun _ F => R :: Arr a s :: F)
  wr : ∀ {W s k v r}, x.wr s k v = some r → IOk Try.prog W x.dep h "Write" [.int .i64 k, .int .u64 (v.toNat : Int)] [R, Arr a s] (fun _ : Unit => .int .i64 r.1) (fun _ => True) (fun _ F => R :: Arr a r.2 :: F)
  fl : ∀ {W s r}, x.fl s = some r → IOk Try.prog W x.dep h "Flush" [] [R, Arr a s] (fun _ : Unit => .int .i64 r.1) (fun _ => True) (fun _ F => R :: Arr a r.2 :: F)
def DevP (a : Nat) (x : Dvc) (h : IfH) : HP := ex fun R : HP => starX [emp (DevOk a x h R), R]
theorem DevP_mk {a : Nat} {x : Dvc} {h : IfH} {l : List HP} {R : List HP} (hk : DevOk a x h (starX l)) : Ent (l ++ R) (DevP a x h :: R) :=
  fun g hg => stars_ex.2 ⟨starX l, stars_starX.2 (stars_emp.2 ⟨hk, stars_starX.2 hg⟩)⟩
theorem Dup_DevP {a : Nat} {x : Dvc} {h : IfH} : Dup (DevP a x h) := by
  intro g ⟨R, h1, h2, hd, he, ⟨hk, hn⟩, h3, h4, hd2, he2, hR, h5⟩ k
  exact (Dup.starX (Hs := [emp (DevOk a x h R), R]) (by intro A hA; simp only [List.mem_cons, List.not_mem_nil, or_false] at hA; rcases hA with rfl | rfl; exact Dup.emp; exact hk.dup)) g ⟨h1, h2, hd, he, ⟨hk, hn⟩, h3, h4, hd2, he2, hR, h5⟩ k
theorem DevP_dep {a : Nat} {x : Dvc} {h : IfH} {R : List HP} (g : PH) (hg : stars (DevP a x h :: R) g) : x.dep ≤ 60 := by
  obtain ⟨R', hg⟩ := stars_ex.1 hg
  exact (stars_emp.1 (stars_starX.1 hg)).1.dep
theorem DevP_E {P : Program} {a : Nat} {x : Dvc} {h : IfH} {W : World} {k : Nat} {g : IfH} {name : String} {args : List Value} {pre : List HP} {X : Type} {res : X → Value} {pf : X → Prop} {post : X → List HP → List HP}
    (hm : ∀ R, DevOk a x h R → IOk P W k g name args (R :: pre) res pf (fun y F => R :: post y F)) : IOk P W k g name args (DevP a x h :: pre) res pf (fun y F => DevP a x h :: post y F) := by
  refine IOk.exI fun R => IOk.starI (IOk.empI fun hk => ?_)
  refine (hm R hk).post0 fun y F => ?_
  exact fun g hg => stars_ex.2 ⟨R, stars_starX.2 (stars_emp.2 ⟨hk, hg⟩)⟩
theorem dev_Size {W : World} {a : Nat} {x : Dvc} {h : IfH} {s : ArrS} {r : Int} (e : x.size s = some r) (hd : x.dep ≤ 60) : ICall Try.prog W h.v "Size" [] [DevP a x h, Arr a s] (fun _ : Unit => .int .i64 r) (fun _ => True) (fun _ F => DevP a x h :: Arr a s :: F) := (DevP_E fun _ hk => hk.size e).call (by omega)
theorem dev_Read {W : World} {a : Nat} {x : Dvc} {h : IfH} {s : ArrS} {k : Int} {r : UInt64 × Int} (e : x.rd s k = some r) (hd : x.dep ≤ 60) : ICall Try.prog W h.v "Read" [.int .i64 k] [DevP a x h, Arr a s] (fun _ : Unit => .tuple #[.int .u64 (r.1.toNat : Int), .int .i64 r.2]) (fun _ => True) (fun _ F => DevP a x h :: Arr a s :: F) := (DevP_E fun _ hk => hk.rd e).call (by omega)
theorem dev_Write {W : World} {a : Nat} {x : Dvc} {h : IfH} {s : ArrS} {k : Int} {v : UInt64} {r : Int × ArrS} (e : x.wr s k v = some r) (hd : x.dep ≤ 60) : ICall Try.prog W h.v "Write" [.int .i64 k, .int .u64 (v.toNat : Int)] [DevP a x h, Arr a s] (fun _ : Unit => .int .i64 r.1) (fun _ => True) (fun _ F => DevP a x h :: Arr a r.2 :: F) := (DevP_E fun _ hk => hk.wr e).call (by omega)
theorem dev_Flush {W : World} {a : Nat} {x : Dvc} {h : IfH} {s : ArrS} {r : Int × ArrS} (e : x.fl s = some r) (hd : x.dep ≤ 60) : ICall Try.prog W h.v "Flush" [] [DevP a x h, Arr a s] (fun _ : Unit => .int .i64 r.1) (fun _ => True) (fun _ F => DevP a x h :: Arr a r.2 :: F) := (DevP_E fun _ hk => hk.fl e).call (by omega)
abbrev tyRow : Ty Sl3 := { T := 27, sz := 1, enc := fun x => [x.v], dflt := ⟨none, 0, 0⟩, len := fun _ => rfl, one := fun _ => rfl, pos := by decide }
theorem ok_tyRow : ElemOk Try.prog tyRow 24 := ⟨Try.t27, .slice none 0 0, by kernel_rfl, rfl, rfl, rfl, rfl⟩
def Sl3.sub (sz : Nat) (x : Sl3) (l h : Nat) : Sl3 := ⟨if x.c = l then x.p else x.p.map (·.add (l * sz)), h - l, x.c - l⟩
def RowP (x : List UInt64) (h : Sl3) : HP := fun g => ∃ A : HP, Dup A ∧ Reads A tyU h.v x ∧ A g
theorem Dup_RowP (x : List UInt64) (h : Sl3) : Dup (RowP x h) := fun g ⟨_, hd, _, hA⟩ => hd g hA
theorem RowP_of {A : HP} {x : List UInt64} {h : Sl3} (hd : Dup A) (hr : Reads A tyU h.v x) : ∀ g, A g → RowP x h g := fun _ hA => ⟨A, hd, hr, hA⟩
theorem Reads.rowP {x : List UInt64} {h : Sl3} : Reads (RowP x h) tyU h.v x := fun g ⟨_, _, hr, hA⟩ => hr g hA
def RowsR (B : HP) (l : List (List UInt64)) (hs : List Sl3) : Prop := hs.length = l.length ∧ ∀ i, i < l.length → Reads B tyU (Sl3.v (hs.getD i tyRow.dflt)) (l.getD i [])
theorem RowsR.nil {B : HP} : RowsR B [] [] := ⟨rfl, fun i h => absurd h (by simp)⟩
theorem RowsR.cons {A : HP} {As : List HP} {x : List UInt64} {g : Sl3} {l : List (List UInt64)} {hs : List Sl3} (h : Reads A tyU (Sl3.v g) x) (hr : RowsR (starX As) l hs) : RowsR (starX (A :: As)) (x :: l) (g :: hs) :=
  ⟨by simp [hr.1], fun i hi => by
    cases i with
    | zero => exact Reads.hd h
    | succ i => exact Reads.tl (hr.2 i (by simpa using hi))⟩
theorem RowsR.rs {l : List (List UInt64)} {hs : List Sl3} (hl : hs.length = l.length) : RowsR (Rs RowP l hs) l hs :=
  ⟨hl, fun _ hi => Reads.of_ent (Rs_at0 hi) Reads.rowP⟩
theorem reads_sl3 {α : Type} {t : Ty α} {A : HP} {v : Value} {xs : List α} {H R : List HP} (hr : Reads A t v xs) (hd : Del H A R) : ∀ h, stars H h → ∃ x : Sl3, v = Sl3.v x := by
  intro h hh
  obtain ⟨h1, h2, _, _, hA, _⟩ := stars_perm hd.out h hh
  rcases hr h1 hA with ⟨e, _⟩ | ⟨a, c, e, _⟩
  · exact ⟨⟨none, 0, 0⟩, e⟩
  · exact ⟨⟨some a, _, c⟩, e⟩
def newB (zs : List Int) : Bool := Nat.ble zs.length 8 && zs.all (fun z => decide (1 ≤ z) && decide (z ≤ 65536))
theorem newB_iff {zs : List Int} : newB zs = true ↔ NewOk zs := by
  unfold newB NewOk
  rw [Bool.and_eq_true, Nat.ble_eq, List.all_eq_true]
  refine and_congr Iff.rfl ⟨fun h k hk => ?_, fun h z hz => ?_⟩
  · have h1 := h zs[k] (List.getElem_mem hk)
    have : zs.getD k 0 = zs[k] := by simp [List.getD, hk]
    rw [this]; simpa using h1
  · obtain ⟨k, hk, rfl⟩ := List.getElem_of_mem hz
    have h1 := h k hk
    have : zs.getD k 0 = zs[k] := by simp [List.getD, hk]
    rw [this] at h1; simpa using h1
def newO (zs : List Int) : Option ArrS := if newB zs then some (newS zs) else none
def newC (zs : List Int) : Int := if newB zs then 0 else if Nat.blt 8 zs.length then 4 else 1
theorem c_NewO {W : World} {A : HP} {v : Value} {zs : List Int} (hA : Reads A tyI v zs) (hl : zs.length ≤ 1000000000) :
    CSpec Try.prog W 30 [v] [A] (fun b : Nat => .tuple #[oval (newO zs) b, .int .i64 (newC zs)]) (fun _ => True) (fun b F => optP (Arr b) (newO zs) :: A :: F) := by
  intro F w hs
  by_cases h : newB zs = true
  · have h2 := newB_iff.1 h
    unfold newO newC; rw [if_pos h, if_pos h]
    exact c_New hA h2 F w hs
  · have h2 : ¬ NewOk zs := fun e => h (newB_iff.2 e)
    unfold newO newC; rw [if_neg h, if_neg h]
    refine (c_NewBad hA h2 (by omega) F w hs).mono fun e w' ⟨x, hx, hp, hs'⟩ => ⟨0, ?_, trivial, hs'.imp (fun g hg => optP_none g hg)⟩
    rw [hx]
    by_cases h3 : 8 < zs.length
    · rw [if_pos h3, if_pos (by simpa [Nat.blt_eq] using h3)]; rfl
    · rw [if_neg h3, if_neg (by simpa [Nat.blt_eq] using h3)]; rfl
end Go.Proofs
set_option linter.unusedSimpArgs false
set_option linter.unusedVariables false
set_option maxRecDepth 20000
set_option maxHeartbeats 4000000
namespace Go.Proofs
open Go.VG
def dvc_span_Size (x_0_a : ArrS) (x_0_d : Int) (x_0_start : Int) (x_0_length : Int) : Option (Int) :=
  some x_0_length
theorem L_dvc_span_Size {W : World} {bx_0 : Nat} {bx_0_a : Nat} {x_0_a : ArrS} {x_0_d : Int} {x_0_start : Int} {x_0_length : Int} {r : Int} (h : dvc_span_Size x_0_a x_0_d x_0_start x_0_length = some r) :
    CSpec Try.prog W 84 [ptr bx_0 0] [blkR bx_0 95 [ptr bx_0_a 0, .int .i64 x_0_d, .int .i64 x_0_start, .int .i64 x_0_length], Arr bx_0_a x_0_a] (fun x : Unit => .int .i64 r) (fun _ => True) (fun x F => blkR bx_0 95 [ptr bx_0_a 0, .int .i64 x_0_d, .int .i64 x_0_start, .int .i64 x_0_length] :: Arr bx_0_a x_0_a :: F) := by
 refine CSpec.of_body Try.func84 rfl Try.ntmps84 rfl fun F => ?_
 show CJ _ _ _ _ _ _ (_ :: _ :: F)
 unfold dvc_span_Size at h
 refine sR <| oA rfl rfl <| nT <| sR <| oM rfl rfl <| oP (P_nilCheck rfl) rfl <| oP (P_fieldAddr rfl ⟨_, _, _, Try.runUnderlying95, rfl, rfl, Try.sizeOf3, rfl⟩) rfl <| oV (V_loadR rfl foc0 rfl Try.isAgg3) rfl <| oA rfl rfl <| nT <| CJ_ret ?_
 cases h
 exact fE (res1 Try.results84 rfl) () eR
def block_inside (size : Int) (at_1 : Int) (n_2 : Int) : Option (Bool) :=
  some (((((decide ((0 : Int) ≤ at_1)) && (decide (at_1 ≤ size))) && (decide ((0 : Int) ≤ n_2))) && (decide (n_2 ≤ (IntKind.i64.wrap (size - at_1))))))
theorem L_block_inside {W : World} {size : Int} {at_1 : Int} {n_2 : Int} {r : Bool} (h : block_inside size at_1 n_2 = some r) :
    CSpec Try.prog W 45 [.int .i64 size, .int .i64 at_1, .int .i64 n_2] [] (fun x : Unit => .bool r) (fun _ => True) (fun x F => F) := by
 refine CSpec.of_body Try.func45 rfl Try.ntmps45 rfl fun F => ?_
 show CJ _ _ _ _ _ _ (F)
 unfold block_inside at h
 refine sR <| oA rfl rfl <| nT <| sR <| oM rfl rfl <| oP (P_geq (a := at_1) (b := (0 : Int)) rfl rfl) rfl <| oM rfl rfl <| RJ_mbT rfl rfl rfl (fun hG1 => have hP2 : ((0 : Int) ≤ at_1) := (bT_dec).1 hG1; VJ_P (P_move rfl)) <| RJ_mbT rfl rfl rfl (fun hG3 => have hP4 : ((0 : Int) ≤ at_1) := (bT_dec).1 hG3; VJ_P (P_move rfl)) <| RJ_mbT rfl rfl rfl (fun hG5 => have hP6 : ((0 : Int) ≤ at_1) := (bT_dec).1 hG5; VJ_P (P_leq (a := at_1) (b := size) (mbx hG5 rfl) (mbx hG5 rfl))) <| oP (P_pickAnd rfl (fun hh => mbx hh rfl) rfl) rfl <| oM rfl rfl <| RJ_mbT rfl rfl rfl (fun hG7 => have hP8 : (((0 : Int) ≤ at_1) ∧ (at_1 ≤ size)) := ((bT_and bT_dec bT_dec)).1 hG7; VJ_P (P_move rfl)) <| RJ_mbT rfl rfl rfl (fun hG9 => have hP10 : (((0 : Int) ≤ at_1) ∧ (at_1 ≤ size)) := ((bT_and bT_dec bT_dec)).1 hG9; VJ_P (P_geq (a := n_2) (b := (0 : Int)) (mbx hG9 rfl) rfl)) <| oP (P_pickAnd rfl (fun hh => mbx hh rfl) rfl) rfl <| oM rfl rfl <| RJ_mbT rfl rfl rfl (fun hG11 => have hP12 : ((((0 : Int) ≤ at_1) ∧ (at_1 ≤ size)) ∧ ((0 : Int) ≤ n_2)) := ((bT_and (bT_and bT_dec bT_dec) bT_dec)).1 hG11; VJ_P (P_move rfl)) <| RJ_mbT rfl rfl rfl (fun hG13 => have hP14 : ((((0 : Int) ≤ at_1) ∧ (at_1 ≤ size)) ∧ ((0 : Int) ≤ n_2)) := ((bT_and (bT_and bT_dec bT_dec) bT_dec)).1 hG13; VJ_P (P_move rfl)) <| RJ_mbT rfl rfl rfl (fun hG15 => have hP16 : ((((0 : Int) ≤ at_1) ∧ (at_1 ≤ size)) ∧ ((0 : Int) ≤ n_2)) := ((bT_and (bT_and bT_dec bT_dec) bT_dec)).1 hG15; VJ_P (P_move rfl)) ?_
 refine RJ_mbT rfl rfl rfl (fun hG17 => have hP18 : ((((0 : Int) ≤ at_1) ∧ (at_1 ≤ size)) ∧ ((0 : Int) ≤ n_2)) := ((bT_and (bT_and bT_dec bT_dec) bT_dec)).1 hG17; VJ_P (P_subW (a := size) (b := at_1) (mbx hG17 rfl) (mbx hG17 rfl))) <| RJ_mbT rfl rfl rfl (fun hG19 => have hP20 : ((((0 : Int) ≤ at_1) ∧ (at_1 ≤ size)) ∧ ((0 : Int) ≤ n_2)) := ((bT_and (bT_and bT_dec bT_dec) bT_dec)).1 hG19; VJ_P (P_leq (a := n_2) (b := (IntKind.i64.wrap (size - at_1))) (mbx hG19 rfl) (mbx hG19 rfl))) <| oP (P_pickAnd rfl (fun hh => mbx hh rfl) rfl) rfl <| oA rfl rfl <| nT <| CJ_ret ?_
 cases h
 exact fE (res1 Try.results45 rfl) () eR
def dvc_span_Read (x_0_a : ArrS) (x_0_d : Int) (x_0_start : Int) (x_0_length : Int) (at_1 : Int) : Option (UInt64 × Int) :=
  Option.bind (block_inside x_0_length at_1 (1 : Int)) fun r1 =>
  if (¬ r1 = true) then
    some (((0 : UInt64), (1 : Int)))
  else
    grd (inI64 (x_0_start + at_1)) <|
    some (((rdV x_0_a x_0_d (x_0_start + at_1)), (rdC x_0_a x_0_d (x_0_start + at_1))))
theorem L_dvc_span_Read {W : World} {bx_0 : Nat} {bx_0_a : Nat} {x_0_a : ArrS} {x_0_d : Int} {x_0_start : Int} {x_0_length : Int} {at_1 : Int} {r : UInt64 × Int} (h : dvc_span_Read x_0_a x_0_d x_0_start x_0_length at_1 = some r) :
    CSpec Try.prog W 83 [ptr bx_0 0, .int .i64 at_1] [blkR bx_0 95 [ptr bx_0_a 0, .int .i64 x_0_d, .int .i64 x_0_start, .int .i64 x_0_length], Arr bx_0_a x_0_a] (fun x : Unit => .tuple #[.int .u64 (r.1.toNat : Int), .int .i64 r.2]) (fun _ => True) (fun x F => blkR bx_0 95 [ptr bx_0_a 0, .int .i64 x_0_d, .int .i64 x_0_start, .int .i64 x_0_length] :: Arr bx_0_a x_0_a :: F) := by
 refine CSpec.of_body Try.func83 rfl Try.ntmps83 rfl fun F => ?_
 show CJ _ _ _ _ _ _ (_ :: _ :: F)
 unfold dvc_span_Read at h
 refine sR <| oA rfl rfl <| oA rfl rfl <| nT <| CJ_seq <| sR <| oM rfl rfl <| oP (P_nilCheck rfl) rfl <| oP (P_fieldAddr rfl ⟨_, _, _, Try.runUnderlying95, rfl, rfl, Try.sizeOf3, rfl⟩) rfl <| oV (V_loadR rfl foc0 rfl Try.isAgg3) rfl <| oM rfl rfl ?_
 obtain ⟨r1, hr2, h⟩ := bind_e h
 refine oO <| O_call (L_block_inside hr2) rfl Try.call45 Dels.nil rfl fun _ _ => oP (P_not rfl) rfl <| nT <| CJ_condP rfl (bT_not Iff.rfl) (fun hg1 => ?_) (fun hg1 => ?_)
 ·
  replace h := ite_t hg1 h
  refine sR <| oA rfl rfl <| oA rfl rfl <| nT <| CJ_ret <| QJ_then_ret ?_
  cases h
  exact fE (res2 Try.results83 rfl rfl) () eR
 ·
  replace h := ite_f hg1 h
  refine kT <| CJ_seq <| AJ_startH 16384 (by kernel_rfl) rfl <| aN 0 1 rfl rfl (P_move rfl) rfl <| aN 1 3 rfl rfl (P_nilCheck rfl) rfl <| aN 2 7 rfl rfl (P_fieldAddr rfl ⟨_, _, _, Try.runUnderlying95, rfl, rfl, Try.sizeOf41, rfl⟩) rfl <| aV 3 15 rfl rfl (GY_none rfl) eR (V_loadR rfl foc0 rfl Try.isAgg41) rfl <| aN 4 31 rfl rfl (P_move rfl) rfl <| aN 5 63 rfl rfl (P_nilCheck rfl) rfl <| aN 6 127 rfl rfl (P_fieldAddr rfl ⟨_, _, _, Try.runUnderlying95, rfl, rfl, Try.sizeOf3, rfl⟩) rfl <| aV 7 255 rfl rfl (GY_none rfl) eR (V_loadR rfl foc0 rfl Try.isAgg3) rfl <| aN 8 511 rfl rfl (P_move rfl) rfl <| aN 9 1023 rfl rfl (P_nilCheck rfl) rfl <| aN 10 2047 rfl rfl (P_fieldAddr rfl ⟨_, _, _, Try.runUnderlying95, rfl, rfl, Try.sizeOf3, rfl⟩) rfl <| aV 11 4095 rfl rfl (GY_none rfl) eR (V_loadR rfl foc0 rfl Try.isAgg3) rfl <| aN 12 8191 rfl rfl (P_move rfl) rfl ?_
  obtain ⟨hg2, h⟩ := grd_Ie h
  refine aN 13 16383 rfl rfl (P_add (a := x_0_start) (b := at_1) rfl rfl hg2) rfl <| AJ_op 14 32767 rfl (by kernel_rfl) rfl (GY_none rfl) <| O_call (c_Read) rfl Try.call73 (Dels.cons del1 Dels.nil) rfl fun _ _ => ⟨fun h => absurd h (by decide), ?_⟩
  refine aN 15 65535 rfl rfl (P_extract rfl rfl) rfl <| aN 16 131071 rfl rfl (P_extract rfl rfl) rfl <| aN 17 262143 rfl rfl (P_assign rfl) rfl <| aN 18 524287 rfl rfl (P_assign rfl) rfl <| aD <| CJ_ret ?_
  cases h
  exact fE (res2 Try.results83 rfl rfl) () (t1_ eR)
def dvc_span_Write (x_0_a : ArrS) (x_0_d : Int) (x_0_start : Int) (x_0_length : Int) (at_1 : Int) (v : UInt64) : Option (Int × ArrS) :=
  Option.bind (block_inside x_0_length at_1 (1 : Int)) fun r1 =>
  if (¬ r1 = true) then
    some (((1 : Int), x_0_a))
  else
    grd (inI64 (x_0_start + at_1)) <|
    grd (inLen x_0_a.writes) <|
    some (((wrR x_0_a x_0_d (x_0_start + at_1)), (wrS x_0_a x_0_d (x_0_start + at_1) v)))
theorem L_dvc_span_Write {W : World} {bx_0 : Nat} {bx_0_a : Nat} {x_0_a : ArrS} {x_0_d : Int} {x_0_start : Int} {x_0_length : Int} {at_1 : Int} {v : UInt64} {r : Int × ArrS} (h : dvc_span_Write x_0_a x_0_d x_0_start x_0_length at_1 v = some r) :
    CSpec Try.prog W 85 [ptr bx_0 0, .int .i64 at_1, .int .u64 (v.toNat : Int)] [blkR bx_0 95 [ptr bx_0_a 0, .int .i64 x_0_d, .int .i64 x_0_start, .int .i64 x_0_length], Arr bx_0_a x_0_a] (fun x : Unit => .int .i64 r.1) (fun _ => True) (fun x F => blkR bx_0 95 [ptr bx_0_a 0, .int .i64 x_0_d, .int .i64 x_0_start, .int .i64 x_0_length] :: Arr bx_0_a r.2 :: F) := by
 refine CSpec.of_body Try.func85 rfl Try.ntmps85 rfl fun F => ?_
 show CJ _ _ _ _ _ _ (_ :: _ :: F)
 unfold dvc_span_Write at h
 refine sR <| oA rfl rfl <| nT <| CJ_seq <| sR <| oM rfl rfl <| oP (P_nilCheck rfl) rfl <| oP (P_fieldAddr rfl ⟨_, _, _, Try.runUnderlying95, rfl, rfl, Try.sizeOf3, rfl⟩) rfl <| oV (V_loadR rfl foc0 rfl Try.isAgg3) rfl <| oM rfl rfl ?_
 obtain ⟨r1, hr2, h⟩ := bind_e h
 refine oO <| O_call (L_block_inside hr2) rfl Try.call45 Dels.nil rfl fun _ _ => oP (P_not rfl) rfl <| nT <| CJ_condP rfl (bT_not Iff.rfl) (fun hg1 => ?_) (fun hg1 => ?_)
 ·
  replace h := ite_t hg1 h
  refine sR <| oA rfl rfl <| nT <| CJ_ret <| QJ_then_ret ?_
  cases h
  exact fE (res1 Try.results85 rfl) () eR
 ·
  replace h := ite_f hg1 h
  refine kT <| CJ_seq <| AJ_startH 32768 (by kernel_rfl) rfl <| aN 0 1 rfl rfl (P_move rfl) rfl <| aN 1 3 rfl rfl (P_nilCheck rfl) rfl <| aN 2 7 rfl rfl (P_fieldAddr rfl ⟨_, _, _, Try.runUnderlying95, rfl, rfl, Try.sizeOf41, rfl⟩) rfl <| aV 3 15 rfl rfl (GY_none rfl) eR (V_loadR rfl foc0 rfl Try.isAgg41) rfl <| aN 4 31 rfl rfl (P_move rfl) rfl <| aN 5 63 rfl rfl (P_nilCheck rfl) rfl <| aN 6 127 rfl rfl (P_fieldAddr rfl ⟨_, _, _, Try.runUnderlying95, rfl, rfl, Try.sizeOf3, rfl⟩) rfl <| aV 7 255 rfl rfl (GY_none rfl) eR (V_loadR rfl foc0 rfl Try.isAgg3) rfl <| aN 8 511 rfl rfl (P_move rfl) rfl <| aN 9 1023 rfl rfl (P_nilCheck rfl) rfl <| aN 10 2047 rfl rfl (P_fieldAddr rfl ⟨_, _, _, Try.runUnderlying95, rfl, rfl, Try.sizeOf3, rfl⟩) rfl <| aV 11 4095 rfl rfl (GY_none rfl) eR (V_loadR rfl foc0 rfl Try.isAgg3) rfl <| aN 12 8191 rfl rfl (P_move rfl) rfl ?_
  obtain ⟨hg2, h⟩ := grd_Ie h
  refine aN 13 16383 rfl rfl (P_add (a := x_0_start) (b := at_1) rfl rfl hg2) rfl <| aN 14 32767 rfl rfl (P_move rfl) rfl ?_
  obtain ⟨hg3, h⟩ := grd_Le h
  refine AJ_op 15 65535 rfl (by kernel_rfl) rfl (GY_none rfl) <| O_call (c_Write hg3 (v := v)) rfl Try.call74 (Dels.cons del1 Dels.nil) rfl fun _ _ => ⟨fun h => absurd h (by decide), ?_⟩
  refine aN 16 131071 rfl rfl (P_assign rfl) rfl <| aD <| CJ_ret ?_
  cases h
  exact fE (res1 Try.results85 rfl) () (t1_ eR)
def dvc_span_Flush (x_0_a : ArrS) (x_0_d : Int) (x_0_start : Int) (x_0_length : Int) : Option (Int × ArrS) :=
  grd (inLen x_0_a.writes) <|
  some (((flC x_0_a x_0_d), (flS x_0_a x_0_d)))
theorem L_dvc_span_Flush {W : World} {bx_0 : Nat} {bx_0_a : Nat} {x_0_a : ArrS} {x_0_d : Int} {x_0_start : Int} {x_0_length : Int} {r : Int × ArrS} (h : dvc_span_Flush x_0_a x_0_d x_0_start x_0_length = some r) :
    CSpec Try.prog W 82 [ptr bx_0 0] [blkR bx_0 95 [ptr bx_0_a 0, .int .i64 x_0_d, .int .i64 x_0_start, .int .i64 x_0_length], Arr bx_0_a x_0_a] (fun x : Unit => .int .i64 r.1) (fun _ => True) (fun x F => blkR bx_0 95 [ptr bx_0_a 0, .int .i64 x_0_d, .int .i64 x_0_start, .int .i64 x_0_length] :: Arr bx_0_a r.2 :: F) := by
 refine CSpec.of_body Try.func82 rfl Try.ntmps82 rfl fun F => ?_
 show CJ _ _ _ _ _ _ (_ :: _ :: F)
 unfold dvc_span_Flush at h
 refine sR <| oA rfl rfl <| nT <| CJ_seq <| AJ_startH 256 (by kernel_rfl) rfl <| aN 0 1 rfl rfl (P_move rfl) rfl <| aN 1 3 rfl rfl (P_nilCheck rfl) rfl <| aN 2 7 rfl rfl (P_fieldAddr rfl ⟨_, _, _, Try.runUnderlying95, rfl, rfl, Try.sizeOf41, rfl⟩) rfl <| aV 3 15 rfl rfl (GY_none rfl) eR (V_loadR rfl foc0 rfl Try.isAgg41) rfl <| aN 4 31 rfl rfl (P_move rfl) rfl <| aN 5 63 rfl rfl (P_nilCheck rfl) rfl <| aN 6 127 rfl rfl (P_fieldAddr rfl ⟨_, _, _, Try.runUnderlying95, rfl, rfl, Try.sizeOf3, rfl⟩) rfl <| aV 7 255 rfl rfl (GY_none rfl) eR (V_loadR rfl foc0 rfl Try.isAgg3) rfl ?_
 obtain ⟨hg1, h⟩ := grd_Le h
 refine AJ_op 8 511 rfl (by kernel_rfl) rfl (GY_none rfl) <| O_call (c_FlushD hg1) rfl Try.call72 (Dels.cons del1 Dels.nil) rfl fun _ _ => ⟨fun h => absurd h (by decide), ?_⟩
 refine aN 9 1023 rfl rfl (P_assign rfl) rfl <| aD <| CJ_ret ?_
 cases h
 exact fE (res1 Try.results82 rfl) () (t1_ eR)
def Dvc.span (x_d : Int) (x_start : Int) (x_length : Int) : Dvc := { dep := 1, size := fun s => dvc_span_Size s x_d x_start x_length, rd := fun s k => dvc_span_Read s x_d x_start x_length k, wr := fun s k v => dvc_span_Write s x_d x_start x_length k v, fl := fun s => dvc_span_Flush s x_d x_start x_length }
theorem ok_Dvc_span {a : Nat} {bx : Nat} {x_d : Int} {x_start : Int} {x_length : Int} : DevOk a (Dvc.span x_d x_start x_length) ⟨93, ptr bx 0⟩ (starX [blkR bx 95 [ptr a 0, .int .i64 x_d, .int .i64 x_start, .int .i64 x_length]]) where
  dup := Dup.starX (by intro A hA; simp only [List.mem_cons, List.not_mem_nil, or_false] at hA; subst hA; exact Dup.blkR)
  dep := by simp [Dvc.span]
  nil := fun n hn w => by
    obtain ⟨m, rfl⟩ : ∃ m, n = m + 1 := ⟨n - 1, by omega⟩
    kernel_rfl
  size := fun {W s r} e => IOk.conseq (G := []) (IOk.of (fun n w => by kernel_rfl) Try.call84 (L_dvc_span_Size e)) (fun F => Ent.starE (Ent.take del0 (Ent.take del0 Ent.refl))) (fun _ F => Ent.starI (Ent.take del0 (Ent.take del0 Ent.refl)))
  rd := fun {W s k r} e => IOk.conseq (G := []) (IOk.of (fun n w => by kernel_rfl) Try.call83 (L_dvc_span_Read e)) (fun F => Ent.starE (Ent.take del0 (Ent.take del0 Ent.refl))) (fun _ F => Ent.starI (Ent.take del0 (Ent.take del0 Ent.refl)))
  wr := fun {W s k v r} e => IOk.conseq (G := []) (IOk.of (fun n w => by kernel_rfl) Try.call85 (L_dvc_span_Write e)) (fun F => Ent.starE (Ent.take del0 (Ent.take del0 Ent.refl))) (fun _ F => Ent.starI (Ent.take del0 (Ent.take del0 Ent.refl)))
  fl := fun {W s r} e => IOk.conseq (G := []) (IOk.of (fun n w => by kernel_rfl) Try.call82 (L_dvc_span_Flush e)) (fun F => Ent.starE (Ent.take del0 (Ent.take del0 Ent.refl))) (fun _ F => Ent.starI (Ent.take del0 (Ent.take del0 Ent.refl)))
end Go.Proofs
set_option linter.unusedSimpArgs false
set_option linter.unusedVariables false
set_option maxRecDepth 20000
set_option maxHeartbeats 4000000
namespace Go.Proofs
open Go.VG
theorem bs_65_1_0 (v0 : Int) : BuildsSlice Try.prog 65 1 [(0, .int .i64 v0)] 3 [.int .i64 v0] := fun w => by kernel_rfl
theorem bld_95_0_1_2_3 (v0 : (Option Addr)) (v1 : Int) (v2 : Int) (v3 : Int) : ∀ w, (Instr.build 95 (#[(0, .pointer v0), (1, .int .i64 v1), (2, .int .i64 v2), (3, .int .i64 v3)] : Array (Nat × Value))).run Try.prog w = .ok (.agg #[.pointer v0, .int .i64 v1, .int .i64 v2, .int .i64 v3]) w := fun w => by kernel_rfl
theorem bs_45_1_0 (v0 : TypeId) (v1 : Value) : BuildsSlice Try.prog 45 1 [(0, .iface v0 v1)] 44 [.iface v0 v1] := fun w => by kernel_rfl
def volumegroupmake_Loaded_l1_b (l : List (List UInt64)) (rec : (List Int) → Nat → Option ((List Int))) (x9 : List Int) (x11 : Nat) : Option ((List Int)) :=
  if (((x11 : Nat) : Int) < ((l.length : Nat) : Int)) then
    grd (inLen (x9.length + 1)) <|
    grd (inN64 (x11 + 1)) <|
    rec ((x9 ++ [(((l.getD x11 []).length : Nat) : Int)])) (x11 + 1)
  else
    some x9
def volumegroupmake_Loaded_l1 (l : List (List UInt64)) : Nat → (List Int) → Nat → Option ((List Int))
  | 0, _, _ => none
  | n + 1, x9, x11 => volumegroupmake_Loaded_l1_b l (volumegroupmake_Loaded_l1 l n) x9 x11
def volumegroupmake_Loaded_l2_b (l : List (List UInt64)) (rec : ArrS → Nat → Option ((ArrS) ⊕ (Option ArrS))) (x32 : ArrS) (x33 : Nat) : Option ((ArrS) ⊕ (Option ArrS)) :=
  if (((x33 : Nat) : Int) < ((l.length : Nat) : Int)) then
    grd (inLen x32.writes) <|
    if ((ldC x32 (((x33 : Nat) : Int)) (l.getD x33 [])) ≠ (0 : Int)) then
      some (.inr none)
    else
      grd (inN64 (x33 + 1)) <|
      rec ((ldS x32 (((x33 : Nat) : Int)) (l.getD x33 []))) (x33 + 1)
  else
    some (.inl x32)
def volumegroupmake_Loaded_l2 (l : List (List UInt64)) : Nat → ArrS → Nat → Option ((ArrS) ⊕ (Option ArrS))
  | 0, _, _ => none
  | n + 1, x32, x33 => volumegroupmake_Loaded_l2_b l (volumegroupmake_Loaded_l2 l n) x32 x33
def volumegroupmake_Loaded (l : List (List UInt64)) : Option ((Option ArrS)) :=
  Option.bind (volumegroupmake_Loaded_l1 l FUEL ([]) 0) fun a8 =>
  grd (inLen a8.length) <|
  if ((newC a8) ≠ (0 : Int)) then
    some none
  else
    Option.elim (newO a8) (
      some none) fun o26 =>
    seqO (volumegroupmake_Loaded_l2 l FUEL o26 0) fun a31 =>
    some (some a31)
theorem L_volumegroupmake_Loaded {W : World} {Al : HP} {vl : Value} {hsl : List Sl3} {Bl : HP} {l : List (List UInt64)} {r : (Option ArrS)} (rl : Reads Al tyRow vl hsl) (ql : RowsR Bl l hsl) (h : volumegroupmake_Loaded l = some r) :
    CSpec Try.prog W 16 [vl] [Al, Bl] (fun x : Nat => oval r x) (fun _ => True) (fun x F => Al :: Bl :: optP (Arr x) r :: F) := by
 refine CSpec.of_body Try.func16 rfl Try.ntmps16 rfl fun F => ?_
 show CJ _ _ _ _ _ _ (_ :: _ :: F)
 unfold volumegroupmake_Loaded at h
 refine CJ_pure (len_of rl del0) fun hlen1 => sR <| oA rfl rfl <| nT <| sR <| oA rfl rfl <| nT <| CJ_seq <| sR <| oA rfl rfl <| nT <| CJ_ent (fun h hh => sl_nil (t := tyI) h hh) ?_
 obtain ⟨y5, hl3, hK4⟩ := bind_c h
 refine CJ_cutT (X := (List Int) × Sl3) [3, 4, 8, 9, 10, 11, 12, 13, 14, 15, 16, 17, 18, 19, 20, 21] (fun ⟨a8, hd7⟩ => ([(3, hd7.v)] : Slots)) (fun ⟨a8, hd7⟩ R => sl tyI hd7.v a8 :: R) (fun ⟨a8, hd7⟩ => y5 = a8) (Dels.cons del0 Dels.nil) ?_ ?_
 ·
  refine CJ_block <| CJ_loopR (X := Nat × (List Int) × Nat × Sl3) [3, 4, 8, 9, 10, 11, 12, 13, 14, 15, 16, 17, 18, 19, 20, 21] (fun ⟨n, x9, x11, hd10⟩ => ([(3, hd10.v), (4, .int .i64 (((x11 : Nat) : Int)))] : Slots)) (fun ⟨n, x9, x11, hd10⟩ R => sl tyI hd10.v x9 :: R) (fun ⟨n, x9, x11, hd10⟩ => volumegroupmake_Loaded_l1 l n x9 x11 = some y5) (fun ⟨n, x9, x11, hd10⟩ => n) ⟨FUEL, [], 0, ⟨none, 0, 0⟩⟩ ?_ ?_ eR ?_
  · exact hl3
  · exact ⟨rfl, rfl, True.intro⟩
  ·
   rintro ⟨n, x9, x11, hd10⟩ h
   cases n with
   | zero => exact none_e h
   | succ n => ?_
   replace h : volumegroupmake_Loaded_l1_b l (volumegroupmake_Loaded_l1 l n) x9 x11 = some y5 := h
   unfold volumegroupmake_Loaded_l1_b at h
   show CJ _ _ _ _ _ (([(3, hd10.v), (4, .int .i64 (((x11 : Nat) : Int)))] : Slots) ++ forget _ _) (sl tyI hd10.v x9 :: _)
   refine lC del0 fun hlen12 => CJ_seq <| sR <| oM rfl rfl <| oM rfl rfl <| oV (VJ_eq (V_len rfl foc1 rl Try.runUnderlying37) (congrArg (fun z : Nat => Value.int .i64 (z : Int)) (ql.1).symm)) rfl <| oP (P_lss (a := ((x11 : Nat) : Int)) (b := ((l.length : Nat) : Int)) rfl rfl) rfl <| nT <| CJ_condP rfl bT_dec (fun hg1 => ?_) (fun hg1 => ?_)
   ·
    replace h := ite_t hg1 h
    refine kT <| CJ_seq <| CJ_block <| CJ_region <| oM rfl rfl <| oM rfl rfl <| oM rfl rfl <| oV (V_index (i := x11) rfl rfl rfl (by have hz : x11 < l.length := (by omega); have hy := ql.1; omega) foc1 rl Try.runUnderlying37 Try.sizeOf27) rfl <| oV (V_loadE rfl rfl (by have hz : x11 < l.length := (by omega); have hy := ql.1; omega) foc1 rl rfl rfl Try.isAgg27) rfl <| oV (V_len rfl foc2 (ql.2 _ (by omega)) Try.runUnderlying27) rfl <| oO <| O_buildSlice rfl (bs_65_1_0 _) rfl fun b13 => ?_
    obtain ⟨hg2, h⟩ := grd_Le h
    refine oO <| O_append (t := tyI) (bytes := 8) rfl rfl del1 foc0 (Reads.lit (t := tyI) (ys := [(((l.getD x11 []).length : Nat) : Int)]) rfl rfl (by decide) (by decide) rfl) Try.underlying65 ok_tyI (apl (m := 1) (b := 8) hg2 (by decide)).1 (apl (m := 1) (b := 8) hg2 (by decide)).2 rfl fun p15 c16 => oA rfl rfl <| RJ_nil <| QJ_block_normal <| QJ_then <| CJ_region <| oM rfl rfl ?_
    obtain ⟨hg3, h⟩ := grd_Ne h
    exact oP (PJ_eq (P_add (a := ((x11 : Nat) : Int)) (b := (1 : Int)) rfl rfl (nat_in hg3)) rfl) rfl <| oA rfl rfl <| RJ_nil <| nR ⟨n, (x9 ++ [(((l.getD x11 []).length : Nat) : Int)]), (x11 + 1), ⟨p15, (x9 ++ [(((l.getD x11 []).length : Nat) : Int)]).length, c16⟩⟩ h ⟨rfl, rfl, True.intro⟩ (t0_ (t1_ (t1_ (eD eR))))
   ·
    replace h := ite_f hg1 h
    exact CJ_exit <| QJ_then_exit <| QJ_round_exit <| QJ_block_here <| cR ⟨x9, hd10⟩ (Option.some.inj h).symm ⟨rfl, True.intro⟩ eR
 ·
  rintro ⟨a8, hd7⟩ hy17
  replace h := bindK_at hK4 hy17
  show CJ _ _ _ _ _ (([(3, hd7.v)] : Slots) ++ forget _ _) (sl tyI hd7.v a8 :: _)
  refine lC del0 fun hlen18 => sR <| oM rfl rfl ?_
  obtain ⟨hg4, h⟩ := grd_Le h
  refine oO <| O_call (c_NewO (Reads.sl _ _ _) hg4) rfl Try.call30 (Dels.cons del0 Dels.nil) rfl fun X19 _ => oM rfl rfl <| oP (P_extract rfl rfl) rfl <| oP (P_extract rfl rfl) rfl <| oA rfl rfl <| oA rfl rfl <| nT <| CJ_seq <| sR <| oM rfl rfl <| oP (P_neq (a := (newC a8)) (b := (0 : Int)) rfl rfl) rfl <| oM rfl rfl <| RJ_mbF rfl rfl rfl (fun hG21 => have hP22 : ¬ ((newC a8) ≠ (0 : Int)) := nP (bT_dec) hG21; VJ_P (P_move rfl)) <| RJ_splitP 29 rfl bT_dec (fun hg5B hg5 => ?_) (fun hg5B hg5 => ?_)
  ·
   replace h := ite_t hg5 h
   refine RJ_gn (GY_no rfl rfl rfl hg5B) rfl rfl <| oP (P_pickT rfl hg5B rfl) rfl <| nT <| CJ_condT rfl rfl <| sR <| oA rfl rfl <| nT <| CJ_ret <| QJ_then_ret ?_
   cases h
   exact fE (res1 Try.results16 rfl) 0 (t2_ (t2_ (Ent.trans (fun h hh => optP_none h hh) <| t0_ (eD (eD eR)))))
  ·
   replace h := ite_f hg5 h
   rcases opt_e h with ⟨ht25, h⟩ | ⟨o26, ht25, h⟩
   ·
    rw [ht25]
    refine RJ_ent (t1_ (t1_ (t1_ (eD eR)))) <| gP (GY_yes rfl rfl rfl hg5B) (P_eqlNN (mbx (not_f hg5B) rfl) rfl Try.underlying41) rfl <| oP (P_pickF rfl hg5B rfl) rfl <| nT <| CJ_condT rfl rfl <| sR <| oA rfl rfl <| nT <| CJ_ret <| QJ_then_ret ?_
    cases h
    exact fE (res1 Try.results16 rfl) 0 (t1_ (t1_ (Ent.trans (fun h hh => optP_none h hh) <| t0_ (eD eR))))
   ·
    rw [ht25]
    refine RJ_ent (Ent.takeC (A' := Arr X19 o26) del0 rfl eR) <| gP (GY_yes rfl rfl rfl hg5B) (P_eqlPN (mbx (not_f hg5B) rfl) rfl Try.underlying41) rfl <| oP (P_pickF rfl hg5B rfl) rfl <| nT <| CJ_condF rfl rfl <| kT <| CJ_seq <| sR <| oA rfl rfl <| nT ?_
    obtain ⟨y29, hl27, hK28⟩ := seq_e h
    refine CJ_cutT (X := ArrS) [2, 7, 33, 34, 35, 36, 37, 38, 39, 40, 41, 42, 43, 44, 45, 46] (fun a31 => ([] : Slots)) (fun a31 R => Arr X19 a31 :: R) (fun a31 => y29 = .inl a31) (Dels.cons del0 Dels.nil) ?_ ?_
    ·
     refine CJ_block <| CJ_loopR (X := Nat × ArrS × Nat) [2, 7, 33, 34, 35, 36, 37, 38, 39, 40, 41, 42, 43, 44, 45, 46] (fun ⟨n, x32, x33⟩ => ([(7, .int .i64 (((x33 : Nat) : Int)))] : Slots)) (fun ⟨n, x32, x33⟩ R => Arr X19 x32 :: R) (fun ⟨n, x32, x33⟩ => volumegroupmake_Loaded_l2 l n x32 x33 = some y29) (fun ⟨n, x32, x33⟩ => n) ⟨FUEL, o26, 0⟩ ?_ ?_ eR ?_
     · exact hl27
     · exact ⟨rfl, True.intro⟩
     ·
      rintro ⟨n, x32, x33⟩ h
      cases n with
      | zero => exact none_e h
      | succ n => ?_
      replace h : volumegroupmake_Loaded_l2_b l (volumegroupmake_Loaded_l2 l n) x32 x33 = some y29 := h
      unfold volumegroupmake_Loaded_l2_b at h
      show CJ _ _ _ _ _ (([(7, .int .i64 (((x33 : Nat) : Int)))] : Slots) ++ forget _ _) (Arr X19 x32 :: _)
      refine CJ_seq <| sR <| oM rfl rfl <| oM rfl rfl <| oV (VJ_eq (V_len rfl foc2 rl Try.runUnderlying37) (congrArg (fun z : Nat => Value.int .i64 (z : Int)) (ql.1).symm)) rfl <| oP (P_lss (a := ((x33 : Nat) : Int)) (b := ((l.length : Nat) : Int)) rfl rfl) rfl <| nT <| CJ_condP rfl bT_dec (fun hg6 => ?_) (fun hg6 => ?_)
      ·
       replace h := ite_t hg6 h
       refine kT <| CJ_seq <| CJ_block <| sR <| oM rfl rfl <| oM rfl rfl <| oM rfl rfl <| oM rfl rfl <| oV (V_index (i := x33) rfl rfl rfl (by have hz : x33 < l.length := (by omega); have hy := ql.1; omega) foc2 rl Try.runUnderlying37 Try.sizeOf27) rfl <| oV (V_loadE rfl rfl (by have hz : x33 < l.length := (by omega); have hy := ql.1; omega) foc2 rl rfl rfl Try.isAgg27) rfl ?_
       obtain ⟨hg7, h⟩ := grd_Le h
       refine oO <| O_call (c_LoadD (ql.2 _ (by omega)) hg7) rfl Try.call31 (Dels.cons del0 (Dels.cons del2 Dels.nil)) rfl fun _ _ => oP (P_neq (a := (ldC x32 (((x33 : Nat) : Int)) (l.getD x33 []))) (b := (0 : Int)) rfl rfl) rfl <| nT <| CJ_condP rfl bT_dec (fun hg8 => ?_) (fun hg8 => ?_)
       ·
        replace h := ite_t hg8 h
        refine sR <| oA rfl rfl <| nT <| CJ_ret <| QJ_block_ret <| QJ_then_ret <| QJ_round_ret <| QJ_block_ret <| QJ_then_ret ?_
        have hE := Option.some.inj h
        replace hE := seq_inr hK28 hE.symm
        subst hE
        exact fE (res1 Try.results16 rfl) 0 (t3_ (t1_ (Ent.trans (fun h hh => optP_none h hh) <| t0_ (eD (eD eR)))))
       ·
        replace h := ite_f hg8 h
        refine CJ_skip <| QJ_block_normal <| QJ_then <| CJ_region <| oM rfl rfl ?_
        obtain ⟨hg9, h⟩ := grd_Ne h
        exact oP (PJ_eq (P_add (a := ((x33 : Nat) : Int)) (b := (1 : Int)) rfl rfl (nat_in hg9)) rfl) rfl <| oA rfl rfl <| RJ_nil <| nR ⟨n, (ldS x32 (((x33 : Nat) : Int)) (l.getD x33 [])), (x33 + 1)⟩ h ⟨rfl, True.intro⟩ (t0_ (t1_ (t1_ eR)))
      ·
       replace h := ite_f hg6 h
       exact CJ_exit <| QJ_then_exit <| QJ_round_exit <| QJ_block_here <| cR x32 (Option.some.inj h).symm True.intro eR
    ·
     rintro a31 hy34
     replace h := seq_inl hK28 hy34
     show CJ _ _ _ _ _ (([] : Slots) ++ forget _ _) (Arr X19 a31 :: _)
     refine sR <| oM rfl rfl <| oA rfl rfl <| nT <| CJ_ret ?_
     cases h
     exact fE (res1 Try.results16 rfl) X19 (t2_ (t2_ (t0_ (eD eR))))
def block_Span (a : ArrS) (d : Int) (start : Int) (length : Int) : Option ((Option Dvc) × Int) :=
  if (length < (1 : Int)) then
    some ((none, (1 : Int)))
  else
    Option.bind (block_inside (sizeI a d) start length) fun r1 =>
    if (¬ r1 = true) then
      some ((none, (1 : Int)))
    else
      some (((some (Dvc.span d start length)), (0 : Int)))
theorem L_block_Span {W : World} {ba : Nat} {a : ArrS} {d : Int} {start : Int} {length : Int} {r : (Option Dvc) × Int} (h : block_Span a d start length = some r) :
    CSpec Try.prog W 33 [ptr ba 0, .int .i64 d, .int .i64 start, .int .i64 length] [Arr ba a] (fun x : IfH => .tuple #[oif r.1 x, .int .i64 r.2]) (fun _ => True) (fun x F => Arr ba a :: optP (DevP ba · x) r.1 :: F) := by
 refine CSpec.of_body Try.func33 rfl Try.ntmps33 rfl fun F => ?_
 show CJ _ _ _ _ _ _ (_ :: F)
 unfold block_Span at h
 refine sR <| oA rfl rfl <| oA rfl rfl <| nT <| CJ_seq <| sR <| oM rfl rfl <| oP (P_lss (a := length) (b := (1 : Int)) rfl rfl) rfl <| oM rfl rfl <| RJ_splitP 12 rfl bT_dec (fun hg1B hg1 => ?_) (fun hg1B hg1 => ?_)
 ·
  replace h := ite_t hg1 h
  refine RJ_gn (GY_no rfl rfl rfl hg1B) rfl rfl <| RJ_gn (GY_no rfl rfl rfl hg1B) rfl rfl <| RJ_gn (GY_no rfl rfl rfl hg1B) rfl rfl <| RJ_gn (GY_no rfl rfl rfl hg1B) rfl rfl <| RJ_gn (GY_no rfl rfl rfl hg1B) rfl rfl <| RJ_gn (GY_no rfl rfl rfl hg1B) rfl rfl <| RJ_gn (GY_no rfl rfl rfl hg1B) rfl rfl <| oP (P_pickT rfl hg1B rfl) rfl <| nT <| CJ_condT rfl rfl <| sR <| oA rfl rfl <| oA rfl rfl <| nT <| CJ_ret <| QJ_then_ret ?_
  cases h
  exact fE (res2 Try.results33 rfl rfl) ⟨0, .bool false⟩ (t0_ (Ent.trans (fun h hh => optP_none h hh) <| t0_ eR))
 ·
  replace h := ite_f hg1 h
  refine gP (GY_yes rfl rfl rfl hg1B) (P_move rfl) rfl <| gP (GY_yes rfl rfl rfl hg1B) (P_move rfl) rfl <| RJ_gy (GY_yes rfl rfl rfl hg1B) <| O_call (c_SizeD) rfl Try.call34 (Dels.cons del0 Dels.nil) rfl fun _ _ => gP (GY_yes rfl rfl rfl hg1B) (P_move rfl) rfl <| gP (GY_yes rfl rfl rfl hg1B) (P_move rfl) rfl ?_
  obtain ⟨r1, hr2, h⟩ := bind_e h
  refine RJ_gy (GY_yes rfl rfl rfl hg1B) <| O_call (L_block_inside hr2) rfl Try.call45 Dels.nil rfl fun _ _ => gP (GY_yes rfl rfl rfl hg1B) (P_not rfl) rfl <| oP (P_pickF rfl hg1B rfl) rfl <| nT <| CJ_condP rfl (bT_not Iff.rfl) (fun hg2 => ?_) (fun hg2 => ?_)
  ·
   replace h := ite_t hg2 h
   refine sR <| oA rfl rfl <| oA rfl rfl <| nT <| CJ_ret <| QJ_then_ret ?_
   cases h
   exact fE (res2 Try.results33 rfl rfl) ⟨0, .bool false⟩ (t0_ (Ent.trans (fun h hh => optP_none h hh) <| t0_ eR))
  ·
   replace h := ite_f hg2 h
   refine kT <| sR <| oM rfl rfl <| oM rfl rfl <| oM rfl rfl <| oM rfl rfl <| oP (P_build rfl (bld_95_0_1_2_3 _ _ _ _)) rfl <| oO <| O_box rfl rfl rfl fun b3 => RJ_share del0 <| oP (P_makeIface rfl Try.runUnderlying93 (by intro ms h; cases h)) rfl <| RJ_ent (Ent.trans (t0_ eR) (DevP_mk (a := ba) (x := (Dvc.span d start length)) (h := (⟨93, ptr b3 0⟩ : IfH)) (ok_Dvc_span))) <| oA rfl rfl <| oA rfl rfl <| nT <| CJ_ret ?_
   cases h
   exact fE (res2 Try.results33 rfl rfl) ((⟨93, ptr b3 0⟩ : IfH)) (t1_ eR)
def volumegroupmake_Spans_l1_b (a : ArrS) (rec : (List Dvc) → Nat → Option (((List Dvc)) ⊕ (List Dvc))) (x10 : List Dvc) (x13 : Nat) : Option (((List Dvc)) ⊕ (List Dvc)) :=
  if (((x13 : Nat) : Int) < ((a.drv.length : Nat) : Int)) then
    Option.bind (block_Span a (((x13 : Nat) : Int)) (0 : Int) ((sizeI a (((x13 : Nat) : Int))))) fun r16 =>
    if (r16.2 ≠ (0 : Int)) then
      some (.inr ([] : List Dvc))
    else
      Option.elim r16.1 (
        some (.inr ([] : List Dvc))) fun o27 =>
      grd (inLen (x10.length + 1)) <|
      grd (inN64 (x13 + 1)) <|
      rec (x10 ++ [o27]) (x13 + 1)
  else
    some (.inl x10)
def volumegroupmake_Spans_l1 (a : ArrS) : Nat → (List Dvc) → Nat → Option (((List Dvc)) ⊕ (List Dvc))
  | 0, _, _ => none
  | n + 1, x10, x13 => volumegroupmake_Spans_l1_b a (volumegroupmake_Spans_l1 a n) x10 x13
def volumegroupmake_Spans (a : ArrS) : Option ((List Dvc)) :=
  seqO (volumegroupmake_Spans_l1 a FUEL ([] : List Dvc) 0) fun a9 =>
  some a9
theorem L_volumegroupmake_Spans {W : World} {ba : Nat} {a : ArrS} {r : (List Dvc)} (h : volumegroupmake_Spans a = some r) :
    CSpec Try.prog W 18 [ptr ba 0] [Arr ba a] (fun x : (Sl3 × List IfH) => x.1.v) (fun _ => True) (fun x F => Arr ba a :: sl tyDev x.1.v x.2 :: Rs (DevP ba) r x.2 :: F) := by
 refine CSpec.of_body Try.func18 rfl Try.ntmps18 rfl fun F => ?_
 show CJ _ _ _ _ _ _ (_ :: F)
 unfold volumegroupmake_Spans at h
 refine sR <| oA rfl rfl <| nT <| sR <| oA rfl rfl <| nT <| CJ_seq <| sR <| oA rfl rfl <| nT <| CJ_ent (fun h hh => sl_nil (t := tyDev) h (rs_nil (RP := DevP ba) h hh)) ?_
 obtain ⟨y5, hl3, hK4⟩ := seq_e h
 refine CJ_cutT (X := (List Dvc) × Sl3 × (List IfH)) [2, 3, 4, 5, 6, 7, 8, 9, 10, 11, 12, 13, 14, 15, 16, 17, 18, 19, 20, 21, 22, 23, 24, 25, 26, 27, 28, 29, 30, 31] (fun ⟨a9, hd7, hs8⟩ => ([(3, hd7.v)] : Slots)) (fun ⟨a9, hd7, hs8⟩ R => sl tyDev hd7.v hs8 :: Rs (DevP ba) a9 hs8 :: R) (fun ⟨a9, hd7, hs8⟩ => y5 = .inl a9) (Dels.cons del0 (Dels.cons del0 Dels.nil)) ?_ ?_
 ·
  refine CJ_block <| CJ_loopR (X := Nat × (List Dvc) × Nat × Sl3 × (List IfH)) [2, 3, 4, 5, 6, 7, 8, 9, 10, 11, 12, 13, 14, 15, 16, 17, 18, 19, 20, 21, 22, 23, 24, 25, 26, 27, 28, 29, 30, 31] (fun ⟨n, x10, x13, hd11, hs12⟩ => ([(3, hd11.v), (4, .int .i64 (((x13 : Nat) : Int)))] : Slots)) (fun ⟨n, x10, x13, hd11, hs12⟩ R => sl tyDev hd11.v hs12 :: Rs (DevP ba) x10 hs12 :: R) (fun ⟨n, x10, x13, hd11, hs12⟩ => volumegroupmake_Spans_l1 a n x10 x13 = some y5) (fun ⟨n, x10, x13, hd11, hs12⟩ => n) ⟨FUEL, ([] : List Dvc), 0, ⟨none, 0, 0⟩, ([] : List IfH)⟩ ?_ ?_ eR ?_
  · exact hl3
  · exact ⟨rfl, rfl, True.intro⟩
  ·
   rintro ⟨n, x10, x13, hd11, hs12⟩ h
   cases n with
   | zero => exact none_e h
   | succ n => ?_
   replace h : volumegroupmake_Spans_l1_b a (volumegroupmake_Spans_l1 a n) x10 x13 = some y5 := h
   unfold volumegroupmake_Spans_l1_b at h
   show CJ _ _ _ _ _ (([(3, hd11.v), (4, .int .i64 (((x13 : Nat) : Int)))] : Slots) ++ forget _ _) (sl tyDev hd11.v hs12 :: Rs (DevP ba) x10 hs12 :: _)
   refine lC del0 fun hlen14 => CJ_pure (fun h hh => Rs_len (stars_perm (del1 (A := Rs (DevP ba) x10 hs12)).out h hh)) fun hdl15 => CJ_seq <| sR <| oM rfl rfl <| oM rfl rfl <| oO <| O_call (c_CountD) rfl Try.call32 (Dels.cons del2 Dels.nil) rfl fun _ _ => oP (P_lss (a := ((x13 : Nat) : Int)) (b := ((a.drv.length : Nat) : Int)) rfl rfl) rfl <| nT <| CJ_condP rfl bT_dec (fun hg1 => ?_) (fun hg1 => ?_)
   ·
    replace h := ite_t hg1 h
    refine kT <| CJ_seq <| CJ_block <| sR <| oM rfl rfl <| oM rfl rfl <| oM rfl rfl <| oM rfl rfl <| oO <| O_call (c_SizeD) rfl Try.call34 (Dels.cons del0 Dels.nil) rfl fun _ _ => ?_
    obtain ⟨r16, hr17, h⟩ := bind_e h
    refine oO <| O_call (L_block_Span hr17) rfl Try.call33 (Dels.cons del0 Dels.nil) rfl fun X18 _ => oM rfl rfl <| oP (P_extract rfl rfl) rfl <| oP (P_extract rfl rfl) rfl <| oA rfl rfl <| oA rfl rfl <| nT <| CJ_seq <| sR <| oM rfl rfl <| oP (P_neq (a := r16.2) (b := (0 : Int)) rfl rfl) rfl <| oM rfl rfl <| RJ_mbF rfl rfl rfl (fun hG20 => have hP21 : ¬ (r16.2 ≠ (0 : Int)) := nP (bT_dec) hG20; VJ_P (P_move rfl)) <| RJ_splitP 24 rfl bT_dec (fun hg2B hg2 => ?_) (fun hg2B hg2 => ?_)
    ·
     replace h := ite_t hg2 h
     refine RJ_gn (GY_no rfl rfl rfl hg2B) rfl rfl <| oP (P_pickT rfl hg2B rfl) rfl <| nT <| CJ_condT rfl rfl <| sR <| oA rfl rfl <| nT <| CJ_ret <| QJ_then_ret <| QJ_block_ret <| QJ_then_ret <| QJ_round_ret <| QJ_block_ret <| QJ_then_ret <| QJ_ent (fun h hh => sl_nil (t := tyDev) h (rs_nil (RP := DevP ba) h hh)) ?_
     have hE := Option.some.inj h
     replace hE := seq_inr hK4 hE.symm
     subst hE
     exact fE (res1 Try.results18 rfl) ((⟨none, 0, 0⟩, ([] : List IfH))) (t2_ (t0_ (t0_ (eD (eD (eD eR))))))
    ·
     replace h := ite_f hg2 h
     rcases opt_e h with ⟨ht26, h⟩ | ⟨o27, ht26, h⟩
     ·
      rw [ht26]
      refine RJ_ent (t0_ (t1_ (t1_ (eD eR)))) <| gP (GY_yes rfl rfl rfl hg2B) (P_eqlIN (mbx (not_f hg2B) rfl) Try.underlying44) rfl <| oP (P_pickF rfl hg2B rfl) rfl <| nT <| CJ_condT rfl rfl <| sR <| oA rfl rfl <| nT <| CJ_ret <| QJ_then_ret <| QJ_block_ret <| QJ_then_ret <| QJ_round_ret <| QJ_block_ret <| QJ_then_ret <| QJ_ent (fun h hh => sl_nil (t := tyDev) h (rs_nil (RP := DevP ba) h hh)) ?_
      have hE := Option.some.inj h
      replace hE := seq_inr hK4 hE.symm
      subst hE
      exact fE (res1 Try.results18 rfl) ((⟨none, 0, 0⟩, ([] : List IfH))) (t2_ (t0_ (t0_ (eD (eD eR)))))
     ·
      rw [ht26]
      refine RJ_ent (Ent.takeC (A' := DevP ba o27 X18) del1 rfl eR) <| gP (GY_yes rfl rfl rfl hg2B) (P_eqlIfN (mbx (not_f hg2B) rfl) rfl Try.underlying44) rfl <| oP (P_pickF rfl hg2B rfl) rfl <| nT <| CJ_condF rfl rfl <| kT <| CJ_region <| oM rfl rfl <| oM rfl rfl <| oO <| O_buildSlice rfl (bs_45_1_0 _ _) rfl fun b30 => ?_
      obtain ⟨hg3, h⟩ := grd_Le h
      refine oO <| O_append (t := tyDev) (bytes := 16) rfl rfl del3 foc0 (Reads.lit (t := tyDev) (ys := [X18]) rfl rfl (by decide) (by decide) rfl) Try.underlying45 ok_tyDev (apl (m := 1) (b := 16) (by have hz : _ ≤ 1000000000 := hg3; have := hdl15; omega) (by decide)).1 (apl (m := 1) (b := 16) (by have hz : _ ≤ 1000000000 := hg3; have := hdl15; omega) (by decide)).2 rfl fun p32 c33 => RJ_ent (Ent.trans (t4_ (t2_ eR)) (Rs_push (x := o27) (g := X18) (fun _ _ => Dup_DevP))) <| RJ_pure (fun h hh => Rs_len (stars_perm (del0 (A := Rs (DevP ba) (x10 ++ [o27]) (hs12 ++ [X18]))).out h hh)) fun hdl34 => oA rfl rfl <| RJ_nil <| QJ_block_normal <| QJ_then <| CJ_region <| oM rfl rfl ?_
      obtain ⟨hg4, h⟩ := grd_Ne h
      exact oP (PJ_eq (P_add (a := ((x13 : Nat) : Int)) (b := (1 : Int)) rfl rfl (nat_in hg4)) rfl) rfl <| oA rfl rfl <| RJ_nil <| nR ⟨n, (x10 ++ [o27]), (x13 + 1), ⟨p32, (hs12 ++ [X18]).length, c33⟩, (hs12 ++ [X18])⟩ h ⟨rfl, rfl, True.intro⟩ (t2_ (t0_ (t2_ (eD (eD eR)))))
   ·
    replace h := ite_f hg1 h
    exact CJ_exit <| QJ_then_exit <| QJ_round_exit <| QJ_block_here <| cR ⟨x10, hd11, hs12⟩ (Option.some.inj h).symm ⟨rfl, True.intro⟩ (t1_ (t1_ eR))
 ·
  rintro ⟨a9, hd7, hs8⟩ hy35
  replace h := seq_inl hK4 hy35
  show CJ _ _ _ _ _ (([(3, hd7.v)] : Slots) ++ forget _ _) (sl tyDev hd7.v hs8 :: Rs (DevP ba) a9 hs8 :: _)
  refine lC del0 fun hlen36 => CJ_pure (fun h hh => Rs_len (stars_perm (del1 (A := Rs (DevP ba) a9 hs8)).out h hh)) fun hdl37 => sR <| oM rfl rfl <| oA rfl rfl <| nT <| CJ_ret ?_
  cases h
  exact fE (res1 Try.results18 rfl) (hd7, hs8) (t2_ eR)
def volumegroupref02_Same_l1_b (a : List UInt64) (b : List UInt64) (rec : Nat → Option ((Unit) ⊕ Bool)) (x7 : Nat) : Option ((Unit) ⊕ Bool) :=
  if (((x7 : Nat) : Int) < ((a.length : Nat) : Int)) then
    if ((a.getD x7 0) ≠ (b.getD x7 0)) then
      some (.inr false)
    else
      rec (x7 + 1)
  else
    some (.inl ())
def volumegroupref02_Same_l1 (a : List UInt64) (b : List UInt64) : Nat → Nat → Option ((Unit) ⊕ Bool)
  | 0, _ => none
  | n + 1, x7 => volumegroupref02_Same_l1_b a b (volumegroupref02_Same_l1 a b n) x7
def volumegroupref02_Same (a : List UInt64) (b : List UInt64) : Option (Bool) :=
  if (((a.length : Nat) : Int) ≠ ((b.length : Nat) : Int)) then
    some false
  else
    seqO (volumegroupref02_Same_l1 a b FUEL 0) fun a6 =>
    some true
theorem L_volumegroupref02_Same {W : World} {Aa : HP} {va : Value} {Ab : HP} {vb : Value} {a : List UInt64} {b : List UInt64} {r : Bool} (ra : Reads Aa tyU va a) (rb : Reads Ab tyU vb b) (h : volumegroupref02_Same a b = some r) :
    CSpec Try.prog W 9 [va, vb] [Aa, Ab] (fun x : Unit => .bool r) (fun _ => True) (fun x F => Aa :: Ab :: F) := by
 refine CSpec.of_body Try.func9 rfl Try.ntmps9 rfl fun F => ?_
 show CJ _ _ _ _ _ _ (_ :: _ :: F)
 unfold volumegroupref02_Same at h
 refine CJ_pure (len_of ra del0) fun hlen1 => CJ_pure (len_of rb del1) fun hlen2 => sR <| oA rfl rfl <| nT <| CJ_seq <| sR <| oM rfl rfl <| oV (V_len rfl foc0 ra Try.runUnderlying27) rfl <| oM rfl rfl <| oV (V_len rfl foc1 rb Try.runUnderlying27) rfl <| oP (P_neq (a := ((a.length : Nat) : Int)) (b := ((b.length : Nat) : Int)) rfl rfl) rfl <| nT <| CJ_condP rfl bT_dec (fun hg1 => ?_) (fun hg1 => ?_)
 ·
  replace h := ite_t hg1 h
  refine sR <| oA rfl rfl <| nT <| CJ_ret <| QJ_then_ret ?_
  cases h
  exact fE (res1 Try.results9 rfl) () eR
 ·
  replace h := ite_f hg1 h
  refine kT <| CJ_seq <| sR <| oA rfl rfl <| nT ?_
  obtain ⟨y5, hl3, hK4⟩ := seq_e h
  refine CJ_cutT (X := Unit) [4, 5, 11, 12, 13, 14, 15, 16, 17, 18, 19, 20, 21, 22, 23, 24, 25] (fun _ => ([] : Slots)) (fun _ R => R) (fun _ => y5 = .inl ()) Dels.nil ?_ ?_
  ·
   refine CJ_block <| CJ_loopR (X := Nat × Nat) [4, 5, 11, 12, 13, 14, 15, 16, 17, 18, 19, 20, 21, 22, 23, 24, 25] (fun ⟨n, x7⟩ => ([(5, .int .i64 (((x7 : Nat) : Int)))] : Slots)) (fun ⟨n, x7⟩ R => R) (fun ⟨n, x7⟩ => volumegroupref02_Same_l1 a b n x7 = some y5) (fun ⟨n, x7⟩ => n) ⟨FUEL, 0⟩ ?_ ?_ eR ?_
   · exact hl3
   · exact ⟨rfl, True.intro⟩
   ·
    rintro ⟨n, x7⟩ h
    cases n with
    | zero => exact none_e h
    | succ n => ?_
    replace h : volumegroupref02_Same_l1_b a b (volumegroupref02_Same_l1 a b n) x7 = some y5 := h
    unfold volumegroupref02_Same_l1_b at h
    show CJ _ _ _ _ _ (([(5, .int .i64 (((x7 : Nat) : Int)))] : Slots) ++ forget _ _) (_)
    refine CJ_seq <| sR <| oM rfl rfl <| oM rfl rfl <| oV (V_len rfl foc0 ra Try.runUnderlying27) rfl <| oP (P_lss (a := ((x7 : Nat) : Int)) (b := ((a.length : Nat) : Int)) rfl rfl) rfl <| nT <| CJ_condP rfl bT_dec (fun hg2 => ?_) (fun hg2 => ?_)
    ·
     replace h := ite_t hg2 h
     refine kT <| CJ_seq <| CJ_block <| CJ_seq <| AJ_startH 0 (by kernel_rfl) rfl <| aN 0 1 rfl rfl (P_move rfl) rfl <| aN 1 3 rfl rfl (P_move rfl) rfl <| aV 2 7 rfl rfl (GY_none rfl) eR (V_index (i := x7) rfl rfl rfl (by omega) foc0 ra Try.runUnderlying27 Try.sizeOf22) rfl <| aV 3 15 rfl rfl (GY_none rfl) eR (V_loadE rfl rfl (by omega) foc0 ra rfl rfl Try.isAgg22) rfl <| aN 4 31 rfl rfl (P_move rfl) rfl <| aN 5 63 rfl rfl (P_move rfl) rfl <| aV 6 127 rfl rfl (GY_none rfl) eR (V_index (i := x7) rfl rfl rfl (by omega) foc1 rb Try.runUnderlying27 Try.sizeOf22) rfl <| aV 7 255 rfl rfl (GY_none rfl) eR (V_loadE rfl rfl (by omega) foc1 rb rfl rfl Try.isAgg22) rfl <| aN 8 511 rfl rfl (P_ne_u64 (a := (a.getD x7 0)) (b := (b.getD x7 0)) rfl rfl) rfl <| aD <| CJ_condP rfl bT_dec (fun hg3 => ?_) (fun hg3 => ?_)
     ·
      replace h := ite_t hg3 h
      refine sR <| oA rfl rfl <| nT <| CJ_ret <| QJ_block_ret <| QJ_then_ret <| QJ_round_ret <| QJ_block_ret <| QJ_then_ret ?_
      have hE := Option.some.inj h
      replace hE := seq_inr hK4 hE.symm
      subst hE
      exact fE (res1 Try.results9 rfl) () eR
     ·
      replace h := ite_f hg3 h
      exact CJ_skip <| QJ_block_normal <| QJ_then <| CJ_region <| oM rfl rfl <| oP (PJ_eq (P_add (a := ((x7 : Nat) : Int)) (b := (1 : Int)) rfl rfl (by omega)) rfl) rfl <| oA rfl rfl <| RJ_nil <| nR ⟨n, (x7 + 1)⟩ h ⟨rfl, True.intro⟩ eR
    ·
     replace h := ite_f hg2 h
     exact CJ_exit <| QJ_then_exit <| QJ_round_exit <| QJ_block_here <| cR () (Option.some.inj h).symm True.intro eR
  ·
   rintro _ hy8
   replace h := seq_inl hK4 hy8
   show CJ _ _ _ _ _ (([] : Slots) ++ forget _ _) (_)
   refine sR <| oA rfl rfl <| nT <| CJ_ret ?_
   cases h
   exact fE (res1 Try.results9 rfl) () eR
end Go.Proofs
set_option linter.unusedSimpArgs false
set_option linter.unusedVariables false
set_option maxRecDepth 20000
set_option maxHeartbeats 4000000
namespace Go.Proofs
open Go.VG
def bytesK (w : UInt64) : Nat → List UInt8
  | 0 => []
  | k + 1 => to_u8 ((shr_u64 w (8 * (8 - (k + 1)))).toNat : Int) :: bytesK w k
def spreadL : List UInt64 → List UInt8
  | [] => []
  | w :: r => bytesK w 8 ++ spreadL r
def encB (x : UInt8) : List Value := [.int .u8 (x.toNat : Int)]
theorem ispec_spread {W : World} {b : Nat} {v : Value} {A0 : HP} {ws : List UInt64} (hr : Reads A0 tyU v ws) : ISpec Try.prog W 54 [ptr b 0] [blk b 27 [v], A0] encB (spreadL ws) := by
  refine ISpec.of_body Try.func54 rfl Try.ntmps54 rfl (fun l J Jx hY => ?_)
  show CJ _ _ _ _ _ _ (_ :: blk _ _ _ :: A0 :: [])
  refine CJ_pure (len_of hr del2) (fun hlen => ?_)
  refine CJ_seq ?_
  refine CJ_region ?_
  refine RJ_op rfl (OJ_V (V_load rfl foc1 rfl Try.isAgg27) rfl ?_)
  refine RJ_op rfl (OJ_V (V_len rfl foc2 hr Try.runUnderlying27) rfl ?_)
  refine RJ_op rfl (OJ_P (P_move rfl) rfl ?_)
  refine RJ_nil ?_
  refine QJ_then ?_
  refine CJ_block ?_
  refine CJ_loopR (X := Nat) [4, 5, 8, 9, 10, 11, 12, 13, 14, 15, 16, 17, 18, 19, 20, 21, 22, 23, 24] (fun i => ([(8, .int .i64 (i : Int))] : Slots)) (fun i R => J (spreadL (ws.drop i)) :: R) (fun i => i ≤ ws.length) (fun i => ws.length - i) 0 (Nat.zero_le _) ⟨rfl, True.intro⟩ (by simp only [List.drop_zero]; exact Ent.refl) ?_
  intro i hi
  show CJ _ _ _ _ _ (([(8, .int .i64 (i : Int))] : Slots) ++ forget _ _) (J (spreadL (ws.drop i)) :: blk b 27 [v] :: A0 :: [])
  refine CJ_seq ?_
  refine CJ_region ?_
  refine RJ_op rfl (OJ_P (P_lss (a := (i : Int)) (b := (ws.length : Int)) rfl rfl) rfl ?_)
  refine RJ_nil ?_
  refine QJ_then ?_
  refine CJ_seq ?_
  refine CJ_condP rfl bT_dec (fun hlt => ?_) (fun hge => ?_)
  rotate_left
  · refine CJ_exit ?_
    refine QJ_then_exit ?_
    refine QJ_round_exit ?_
    refine QJ_block_here ?_
    have he : i = ws.length := by omega
    subst he
    rw [List.drop_length]
    exact QJ_endN (res0 Try.results54) (fun w hs => ⟨⟨_, rfl⟩, .inl hs⟩)
  refine CJ_skip ?_
  refine QJ_then ?_
  have hlt' : i < ws.length := by omega
  have hdrop : ws.drop i = ws.getD i 0 :: ws.drop (i + 1) := by
    rw [List.drop_eq_getElem_cons hlt']; simp [List.getD_eq_getElem?_getD, hlt']
  refine CJ_seq ?_
  refine CJ_block ?_
  refine CJ_seq ?_
  refine CJ_region ?_
  refine RJ_op rfl (OJ_V (V_index (i := i) rfl rfl rfl hlt' foc2 hr Try.runUnderlying27 Try.sizeOf22) rfl ?_)
  refine RJ_op rfl (OJ_V (V_loadE rfl rfl hlt' foc2 hr rfl rfl Try.isAgg22) rfl ?_)
  refine RJ_op rfl (OJ_P (P_assign rfl) rfl ?_)
  refine RJ_nil ?_
  refine QJ_then ?_
  refine CJ_seq ?_
  refine CJ_region ?_
  refine RJ_op rfl (OJ_P (P_move rfl) rfl ?_)
  refine RJ_nil ?_
  refine QJ_then ?_
  refine CJ_block ?_
  refine CJ_loopR (X := Nat) [5, 12, 13, 14, 15, 16, 17, 18, 19, 20, 21, 22, 23] (fun j => ([(12, .int .i64 (j : Int))] : Slots)) (fun j R => J (bytesK (ws.getD i 0) (8 - j) ++ spreadL (ws.drop (i + 1))) :: R) (fun j => j ≤ 8) (fun j => 8 - j) 0 (Nat.zero_le _) ⟨rfl, True.intro⟩ (by rw [hdrop]; exact Ent.refl) ?_
  intro j hj
  show CJ _ _ _ _ _ (([(12, .int .i64 (j : Int))] : Slots) ++ forget _ _) (J (bytesK (ws.getD i 0) (8 - j) ++ spreadL (ws.drop (i + 1))) :: blk b 27 [v] :: A0 :: [])
  refine CJ_seq ?_
  refine CJ_region ?_
  refine RJ_op rfl (OJ_P (P_lss (a := (j : Int)) (b := (8 : Int)) rfl rfl) rfl ?_)
  refine RJ_nil ?_
  refine QJ_then ?_
  refine CJ_seq ?_
  refine CJ_condP rfl bT_dec (fun hj8 => ?_) (fun hge => ?_)
  rotate_left
  · refine CJ_exit ?_
    refine QJ_then_exit ?_
    refine QJ_round_exit ?_
    refine QJ_block_here ?_
    have he : j = 8 := by omega
    subst he
    refine QJ_block_normal ?_
    refine QJ_then ?_
    refine CJ_region ?_
    refine RJ_op rfl (OJ_P (PJ_eq (P_add (a := (i : Int)) (b := (1 : Int)) rfl rfl (by omega)) rfl) rfl ?_)
    refine RJ_op rfl (OJ_P (P_move rfl) rfl ?_)
    refine RJ_nil ?_
    exact QJ_nextR (i + 1) (by omega) hlt' (by repeat (first | exact Kp.base | exact Kp.self | refine Kp.cons rfl ?_ | refine Kp.forget rfl ?_)) ⟨rfl, True.intro⟩ Ent.refl
  refine CJ_skip ?_
  refine QJ_then ?_
  have hj' : j < 8 := by omega
  have hb : bytesK (ws.getD i 0) (8 - j) = to_u8 ((shr_u64 (ws.getD i 0) (8 * j)).toNat : Int) :: bytesK (ws.getD i 0) (8 - (j + 1)) := by
    obtain ⟨k, hk⟩ : ∃ k, 8 - j = k + 1 := ⟨7 - j, by omega⟩
    have h2 : 8 - (k + 1) = j := by omega
    have h3 : 8 - (j + 1) = k := by omega
    rw [hk, h3]; simp only [bytesK, h2]
  refine CJ_seq ?_
  refine CJ_block ?_
  refine CJ_seq ?_
  refine CJ_region ?_
  refine RJ_op rfl (OJ_P (P_move rfl) rfl ?_)
  refine RJ_op rfl (OJ_P (P_assign rfl) rfl ?_)
  refine RJ_nil ?_
  refine QJ_then ?_
  refine CJ_seq ?_
  refine CJ_region ?_
  refine RJ_op rfl (OJ_P (P_move rfl) rfl ?_)
  refine RJ_op rfl (OJ_P (P_move rfl) rfl ?_)
  refine RJ_op rfl (OJ_P (P_move rfl) rfl ?_)
  refine RJ_op rfl (OJ_P (P_mul (a := (8 : Int)) (b := (j : Int)) rfl rfl (by omega)) rfl ?_)
  refine RJ_op rfl (OJ_P (P_shr_u64 (a := ws.getD i 0) (m := 8 * j) rfl rfl (by omega)) rfl ?_)
  refine RJ_op rfl (OJ_P (P_conv_u8 (a := ((shr_u64 (ws.getD i 0) (8 * j)).toNat : Int)) rfl Try.runUnderlying22 Try.runUnderlying5) rfl ?_)
  rw [hb]
  refine RJ_yield (l := l) rfl rfl (hY (bytesK (ws.getD i 0) (8 - (j + 1)) ++ spreadL (ws.drop (i + 1))) _ ?_) rfl ?_ ?_
  · refine ⟨spreadL (ws.take i) ++ (bytesK (ws.getD i 0) 8).take j, ?_⟩
    have h1 : ws = ws.take i ++ (ws.getD i 0 :: ws.drop (i + 1)) := by rw [← hdrop]; simp
    have h2 : ∀ a c : List UInt64, spreadL (a ++ c) = spreadL a ++ spreadL c := fun a c => by induction a with
      | nil => rfl
      | cons x r ih => simp [spreadL, ih]
    have h3 : ∀ k, k ≤ 8 → bytesK (ws.getD i 0) 8 = (bytesK (ws.getD i 0) 8).take k ++ bytesK (ws.getD i 0) (8 - k) := fun k hk => by
      have : k = 0 ∨ k = 1 ∨ k = 2 ∨ k = 3 ∨ k = 4 ∨ k = 5 ∨ k = 6 ∨ k = 7 ∨ k = 8 := by omega
      rcases this with rfl | rfl | rfl | rfl | rfl | rfl | rfl | rfl | rfl <;> rfl
    have h4 := h3 j hj
    rw [hb] at h4
    rw [List.append_assoc, ← List.cons_append, ← List.append_assoc _ _ (spreadL (ws.drop (i + 1))), ← h4]
    conv => lhs; rw [h1]
    rw [h2]; rfl
  · refine RJ_op rfl (OJ_P (P_not rfl) rfl ?_)
    refine RJ_nil ?_
    refine QJ_then ?_
    refine CJ_condF rfl rfl ?_
    refine CJ_skip ?_
    refine QJ_block_normal ?_
    refine QJ_then ?_
    refine CJ_region ?_
    refine RJ_op rfl (OJ_P (PJ_eq (P_add (a := (j : Int)) (b := (1 : Int)) rfl rfl (by omega)) rfl) rfl ?_)
    refine RJ_op rfl (OJ_P (P_move rfl) rfl ?_)
    refine RJ_nil ?_
    exact QJ_nextR (j + 1) (by omega) hj' (by repeat (first | exact Kp.base | exact Kp.self | refine Kp.cons rfl ?_ | refine Kp.forget rfl ?_)) ⟨rfl, True.intro⟩ Ent.refl
  · refine RJ_op rfl (OJ_P (P_not rfl) rfl ?_)
    refine RJ_nil ?_
    refine QJ_then ?_
    refine CJ_condT rfl rfl ?_
    refine CJ_ret ?_
    refine QJ_block_ret ?_
    refine QJ_then_ret ?_
    refine QJ_round_ret ?_
    refine QJ_block_ret ?_
    refine QJ_block_ret ?_
    refine QJ_then_ret ?_
    refine QJ_round_ret ?_
    refine QJ_block_ret ?_
    exact QJ_end (res0 Try.results54) (fun w hs => ⟨⟨_, rfl⟩, .inr hs⟩)
end Go.Proofs
set_option linter.unusedSimpArgs false
set_option linter.unusedVariables false
set_option maxRecDepth 20000
set_option maxHeartbeats 4000000
namespace Go.Proofs
open Go.VG
abbrev tyA102 : Ty UInt32 := { tyU32 with T := 102 }
def checksum_newTable_l2_b (rec : UInt32 → Nat → Option (UInt32)) (x16 : UInt32) (x17 : Nat) : Option (UInt32) :=
  if (((x17 : Nat) : Int) < (8 : Int)) then
    if ((x16 &&& (1 : UInt32)) = (1 : UInt32)) then
      rec (((shr_u32 x16 1) ^^^ (2197175160 : UInt32))) (x17 + 1)
    else
      rec (shr_u32 x16 1) (x17 + 1)
  else
    some x16
def checksum_newTable_l2 : Nat → UInt32 → Nat → Option (UInt32)
  | 0, _, _ => none
  | n + 1, x16, x17 => checksum_newTable_l2_b (checksum_newTable_l2 n) x16 x17
def checksum_newTable_l1_b (rec : (List UInt32) → Nat → Option ((List UInt32))) (x8 : List UInt32) (x9 : Nat) : Option ((List UInt32)) :=
  if (((x9 : Nat) : Int) < (256 : Int)) then
    Option.bind (checksum_newTable_l2 FUEL ((to_u32 (((x9 : Nat) : Int)))) 0) fun a15 =>
    rec (x8.set x9 a15) (x9 + 1)
  else
    some x8
def checksum_newTable_l1 : Nat → (List UInt32) → Nat → Option ((List UInt32))
  | 0, _, _ => none
  | n + 1, x8, x9 => checksum_newTable_l1_b (checksum_newTable_l1 n) x8 x9
def checksum_newTable : Option ((List UInt32)) :=
  Option.bind (checksum_newTable_l1 FUEL (List.replicate 256 0) 0) fun a7 =>
  some a7
theorem L_checksum_newTable {W : World} {r : (List UInt32)} (h : checksum_newTable = some r) :
    CSpec Try.prog W 50 [] [] (fun x : Unit => .agg (flat tyA102 r).toArray) (fun _ => True) (fun x F => F) := by
 refine CSpec.of_body Try.func50 rfl Try.ntmps50 rfl fun F => ?_
 show CJ _ _ _ _ _ _ (F)
 unfold checksum_newTable at h
 refine sR <| oO <| O_alloc Try.zeroValue102 rfl rfl fun b1 => RJ_ent (sl_of_lit (t := tyA102) (m := 256) (List.replicate 256 0) rfl rfl (by kernel_rfl) (by decide)) <| nT <| sR <| oO <| O_alloc Try.zeroValue102 rfl rfl fun b2 => RJ_ent (sl_of_lit (t := tyA102) (m := 256) (List.replicate 256 0) rfl rfl (by kernel_rfl) (by decide)) <| nT <| CJ_seq <| sR <| oM rfl rfl <| nT ?_
 obtain ⟨y5, hl3, hK4⟩ := bind_c h
 refine CJ_cutT (X := (List UInt32)) [2, 3, 4, 5, 6, 7, 8, 9, 10, 11, 12, 13, 14, 15, 16, 17, 18, 19, 20, 21, 22, 23] (fun a7 => ([] : Slots)) (fun a7 R => sl tyA102 (.slice (some ⟨b2, 0, none⟩) 256 256) a7 :: R) (fun a7 => y5 = a7) (Dels.cons del0 Dels.nil) ?_ ?_
 ·
  refine CJ_block <| CJ_loopR (X := Nat × (List UInt32) × Nat) [2, 3, 4, 5, 6, 7, 8, 9, 10, 11, 12, 13, 14, 15, 16, 17, 18, 19, 20, 21, 22, 23] (fun ⟨n, x8, x9⟩ => ([(4, .int .i64 (((x9 : Nat) : Int)))] : Slots)) (fun ⟨n, x8, x9⟩ R => sl tyA102 (.slice (some ⟨b2, 0, none⟩) 256 256) x8 :: R) (fun ⟨n, x8, x9⟩ => checksum_newTable_l1 n x8 x9 = some y5) (fun ⟨n, x8, x9⟩ => n) ⟨FUEL, (List.replicate 256 0), 0⟩ ?_ ?_ eR ?_
  · exact hl3
  · exact ⟨rfl, True.intro⟩
  ·
   rintro ⟨n, x8, x9⟩ h
   cases n with
   | zero => exact none_e h
   | succ n => ?_
   replace h : checksum_newTable_l1_b (checksum_newTable_l1 n) x8 x9 = some y5 := h
   unfold checksum_newTable_l1_b at h
   show CJ _ _ _ _ _ (([(4, .int .i64 (((x9 : Nat) : Int)))] : Slots) ++ forget _ _) (sl tyA102 (.slice (some ⟨b2, 0, none⟩) 256 256) x8 :: _)
   refine lC del0 fun hlen10 => sR <| oP (P_lss (a := ((x9 : Nat) : Int)) (b := (256 : Int)) rfl rfl) rfl <| nT <| CJ_seq <| CJ_condP rfl bT_dec (fun hg1 => ?_) (fun hg1 => ?_)
   ·
    replace h := ite_t hg1 h
    refine kT <| CJ_seq <| CJ_block <| sR <| oM rfl rfl <| oA rfl rfl <| nT <| sR <| oM rfl rfl <| oP (P_conv_u32 (a := ((x9 : Nat) : Int)) rfl Try.runUnderlying3 Try.runUnderlying26) rfl <| oA rfl rfl <| nT <| CJ_seq <| sR <| oM rfl rfl <| nT ?_
    obtain ⟨y13, hl11, hK12⟩ := bind_c h
    refine CJ_cutT (X := UInt32) [3, 9, 10, 11, 12, 13, 14, 15, 16, 17, 18, 19] (fun a15 => ([(3, .int .u32 (a15.toNat : Int))] : Slots)) (fun a15 R => R) (fun a15 => y13 = a15) Dels.nil ?_ ?_
    ·
     refine CJ_block <| CJ_loopR (X := Nat × UInt32 × Nat) [3, 9, 10, 11, 12, 13, 14, 15, 16, 17, 18, 19] (fun ⟨n, x16, x17⟩ => ([(3, .int .u32 (x16.toNat : Int)), (9, .int .i64 (((x17 : Nat) : Int)))] : Slots)) (fun ⟨n, x16, x17⟩ R => R) (fun ⟨n, x16, x17⟩ => checksum_newTable_l2 n x16 x17 = some y13) (fun ⟨n, x16, x17⟩ => n) ⟨FUEL, (to_u32 (((x9 : Nat) : Int))), 0⟩ ?_ ?_ eR ?_
     · exact hl11
     · exact ⟨rfl, rfl, True.intro⟩
     ·
      rintro ⟨n, x16, x17⟩ h
      cases n with
      | zero => exact none_e h
      | succ n => ?_
      replace h : checksum_newTable_l2_b (checksum_newTable_l2 n) x16 x17 = some y13 := h
      unfold checksum_newTable_l2_b at h
      show CJ _ _ _ _ _ (([(3, .int .u32 (x16.toNat : Int)), (9, .int .i64 (((x17 : Nat) : Int)))] : Slots) ++ forget _ _) (_)
      refine sR <| oP (P_lss (a := ((x17 : Nat) : Int)) (b := (8 : Int)) rfl rfl) rfl <| nT <| CJ_seq <| CJ_condP rfl bT_dec (fun hg2 => ?_) (fun hg2 => ?_)
      ·
       replace h := ite_t hg2 h
       refine kT <| CJ_seq <| CJ_block <| sR <| oM rfl rfl <| oP (P_and_u32 (a := x16) (b := (1 : UInt32)) rfl rfl) rfl <| oP (P_eq_u32 (a := (x16 &&& (1 : UInt32))) (b := (1 : UInt32)) rfl rfl) rfl <| nT <| CJ_condP rfl bT_dec (fun hg3 => ?_) (fun hg3 => ?_)
       ·
        replace h := ite_t hg3 h
        exact CJ_region <| oM rfl rfl <| oP (P_shr_u32 (a := x16) (m := 1) rfl rfl rfl) rfl <| oP (P_xor_u32 (a := (shr_u32 x16 1)) (b := (2197175160 : UInt32)) rfl rfl) rfl <| oA rfl rfl <| RJ_nil <| QJ_block_normal <| QJ_then <| CJ_region <| oP (PJ_eq (P_add (a := ((x17 : Nat) : Int)) (b := (1 : Int)) rfl rfl (by omega)) rfl) rfl <| oM rfl rfl <| RJ_nil <| nR ⟨n, ((shr_u32 x16 1) ^^^ (2197175160 : UInt32)), (x17 + 1)⟩ h ⟨rfl, rfl, True.intro⟩ eR
       ·
        replace h := ite_f hg3 h
        exact CJ_region <| oM rfl rfl <| oP (P_shr_u32 (a := x16) (m := 1) rfl rfl rfl) rfl <| oA rfl rfl <| RJ_nil <| QJ_block_normal <| QJ_then <| CJ_region <| oP (PJ_eq (P_add (a := ((x17 : Nat) : Int)) (b := (1 : Int)) rfl rfl (by omega)) rfl) rfl <| oM rfl rfl <| RJ_nil <| nR ⟨n, (shr_u32 x16 1), (x17 + 1)⟩ h ⟨rfl, rfl, True.intro⟩ eR
      ·
       replace h := ite_f hg2 h
       exact CJ_exit <| QJ_then_exit <| QJ_round_exit <| QJ_block_here <| cR x16 (Option.some.inj h).symm ⟨rfl, True.intro⟩ eR
    ·
     rintro a15 hy18
     replace h := bindK_at hK12 hy18
     show CJ _ _ _ _ _ (([(3, .int .u32 (a15.toNat : Int))] : Slots) ++ forget _ _) (_)
     exact CJ_region <| oM rfl rfl <| oM rfl rfl <| RJ_pure (slLen del0) fun hal19 => oP (P_indexArrD (i := x9) rfl rfl rfl (by omega) Try.runUnderlying102 Try.sizeOf26) rfl <| oO <| O_storeE (x' := a15) rfl rfl rfl (lt_len hal19 (show x9 < 256 from (by omega))) foc0 rfl rfl rfl Try.sizeOf26 <| RJ_nil <| QJ_block_normal <| QJ_then <| CJ_region <| oP (PJ_eq (P_add (a := ((x9 : Nat) : Int)) (b := (1 : Int)) rfl rfl (by omega)) rfl) rfl <| oM rfl rfl <| RJ_nil <| nR ⟨n, (x8.set x9 a15), (x9 + 1)⟩ h ⟨rfl, True.intro⟩ eR
   ·
    replace h := ite_f hg1 h
    exact CJ_exit <| QJ_then_exit <| QJ_round_exit <| QJ_block_here <| cR x8 (Option.some.inj h).symm True.intro eR
 ·
  rintro a7 hy20
  replace h := bindK_at hK4 hy20
  show CJ _ _ _ _ _ (([] : Slots) ++ forget _ _) (sl tyA102 (.slice (some ⟨b2, 0, none⟩) 256 256) a7 :: _)
  refine lC del0 fun hlen21 => sR <| RJ_pure (slLen del0) fun hal22 => oV (V_loadArr (t := tyA102) rfl rfl foc0 hal22 Try.isAgg102 Try.sizeOf102) rfl <| RJ_pure (slLen del1) fun hal23 => oO <| O_storeArr (t := tyA102) rfl rfl rfl foc1 hal23 hal22 Try.sizeOf102 <| nT <| CJ_ret ?_
  have hE := Option.some.inj h
  subst hE
  refine QJ_pure (slLen del1) fun hal24 => QJ_end (resA1 Try.results50 (RV_arr (t := tyA102) rfl rfl foc1 hal24 Try.isAgg102 Try.sizeOf102)) <| CSpec.close () ?_ ?_ (eD (eD eR))
  · rfl
  · trivial
def checksum_spread (l : List UInt64) : Option (Unit) :=
  some ()
theorem L_checksum_spread {W : World} {Al : HP} {vl : Value} {l : List UInt64} {r : Unit} (rl : Reads Al tyU vl l) (h : checksum_spread l = some r) :
    CSpec Try.prog W 52 [vl] [Al] (fun x : Nat => .func (.func 54) #[] #[ptr x 0]) (fun _ => True) (fun x F => Al :: blk x 27 [vl] :: F) := by
 refine CSpec.of_body Try.func52 rfl Try.ntmps52 rfl fun F => ?_
 show CJ _ _ _ _ _ _ (_ :: F)
 unfold checksum_spread at h
 refine CJ_pure (len_of rl del0) fun hlen1 => sR <| RJ_pure (reads_sl3 rl del0) fun hsv3 => ?_
 obtain ⟨sv2, hsv3⟩ := hsv3
 subst hsv3
 refine oO <| O_box rfl rfl rfl fun b4 => oA rfl rfl <| nT <| sR <| oP (P_makeFunc rfl rfl) rfl <| oA rfl rfl <| nT <| CJ_ret ?_
 cases h
 exact fE (res1 Try.results52 rfl) b4 (t1_ eR)
def checksum_table_run__checksum_spread_1_l1_b (t : List UInt32) (rec : UInt32 → Option (UInt32)) (e5 : UInt8) (a9 : UInt32) : Option (UInt32) :=
  rec (((t.getD ((((to_u8 (a9.toNat : Int)) ^^^ e5)).toNat) 0) ^^^ (shr_u32 a9 8)))
def checksum_table_run__checksum_spread_1_l1 (t : List UInt32) : List UInt8 → UInt32 → Option (UInt32)
  | [], a9 => some a9
  | e5 :: bs12, a9 => checksum_table_run__checksum_spread_1_l1_b t (checksum_table_run__checksum_spread_1_l1 t bs12) e5 a9
def checksum_table_run__checksum_spread_1 (t : List UInt32) (r_1 : UInt32) (bytes_c0 : List UInt64) : Option (UInt32) :=
  Option.bind (checksum_table_run__checksum_spread_1_l1 t (spreadL bytes_c0) r_1) fun a9 =>
  some a9
theorem L_checksum_table_run__checksum_spread_1 {W : World} {bt : Nat} {bbytes_c0 : Nat} {Abytes_c0 : HP} {vbytes_c0 : Value} {t : List UInt32} {r_1 : UInt32} {bytes_c0 : List UInt64} {r : UInt32} (rbytes_c0 : Reads Abytes_c0 tyU vbytes_c0 bytes_c0) (h : checksum_table_run__checksum_spread_1 t r_1 bytes_c0 = some r) :
    CSpec Try.prog W 51 [ptr bt 0, .int .u32 (r_1.toNat : Int), .func (.func 54) #[] #[ptr bbytes_c0 0]] [sl tyA102 (.slice (some ⟨bt, 0, none⟩) 256 256) t, blk bbytes_c0 27 [vbytes_c0], Abytes_c0] (fun x : Unit => .int .u32 (r.toNat : Int)) (fun _ => True) (fun x F => sl tyA102 (.slice (some ⟨bt, 0, none⟩) 256 256) t :: blk bbytes_c0 27 [vbytes_c0] :: Abytes_c0 :: F) := by
  refine CSpec.of_bodyM Try.func51 rfl Try.ntmps51 rfl (fun F => ?_)
  show CJ _ _ _ _ _ _ (_ :: _ :: _ :: F)
  unfold checksum_table_run__checksum_spread_1 at h
  refine CJ_pure (len_of (Reads.sl _ _ _) del0) (fun hlen1 => ?_)
  refine CJ_pure (len_of rbytes_c0 del2) (fun hlen2 => ?_)
  refine CJ_seq ?_
  refine CJ_region ?_
  refine RJ_op rfl (O_box rfl rfl rfl (fun b3 => ?_))
  refine RJ_op rfl (O_box rfl rfl rfl (fun b4 => ?_))
  refine RJ_op rfl (OJ_P (P_assign rfl) rfl ?_)
  refine RJ_nil ?_
  refine QJ_then ?_
  refine CJ_seq ?_
  refine CJ_seq ?_
  refine CJ_region ?_
  refine RJ_op rfl (OJ_P (P_move rfl) rfl ?_)
  refine RJ_nil ?_
  refine QJ_then ?_
  refine CJ_block ?_
  obtain ⟨y8, hl6, hK7⟩ := bind_c h
  refine CJ_range (ps := [9]) (C := UInt32) (Z := Unit) (ispec_spread rbytes_c0) rfl Try.call54 rfl (fun _ => rfl) (fun a9 R => blk b4 26 [.int .u32 (a9.toNat : Int)] :: R) (fun bs12 a9 => checksum_table_run__checksum_spread_1_l1 t bs12 a9 = some y8) (fun _ R => R) (fun _ => False) r_1 hl6 (Dels.cons del3 (Dels.cons del3 Dels.nil)) Ent.refl ?_ ?_ ?_
  ·
    rintro l13 Zz bs12 e5 a9 hpre14 h
    replace h : checksum_table_run__checksum_spread_1_l1_b t (checksum_table_run__checksum_spread_1_l1 t bs12) e5 a9 = some y8 := h
    unfold checksum_table_run__checksum_spread_1_l1_b at h
    show CJ _ _ _ _ _ (([(9, .int .u8 (e5.toNat : Int))] : Slots) ++ _) (Zz :: blk b4 26 [.int .u32 (a9.toNat : Int)] :: _)
    refine CJ_region ?_
    refine RJ_op rfl (OJ_P (P_assign rfl) rfl ?_)
    refine RJ_nil ?_
    refine QJ_begin (fun Zz15 => ?_)
    refine CJ_block ?_
    refine AJ_startH 2048 (by kernel_rfl) rfl ?_
    refine AJ_takeV 0 1 rfl (by kernel_rfl) rfl (by kernel_rfl) (by kernel_rfl) (GY_none rfl) Ent.refl (V_load rfl foc2 rfl Try.isAgg110) rfl (fun _ _ _ _ h => h) ?_
    refine AJ_takeV 1 3 rfl (by kernel_rfl) rfl (by kernel_rfl) (by kernel_rfl) (GY_none rfl) Ent.refl (V_load rfl foc1 rfl Try.isAgg26) rfl (fun _ _ _ _ h => h) ?_
    refine AJ_takeP 2 7 rfl (by kernel_rfl) rfl (GY_none rfl) (P_conv_u8 (a := (a9.toNat : Int)) rfl Try.runUnderlying26 Try.runUnderlying5) rfl (fun _ _ _ _ h => h) ?_
    refine AJ_takeP 3 15 rfl (by kernel_rfl) rfl (GY_none rfl) (P_move rfl) rfl (fun _ _ _ _ h => h) ?_
    refine AJ_takeP 4 31 rfl (by kernel_rfl) rfl (GY_none rfl) (P_xor_u8 (a := (to_u8 (a9.toNat : Int))) (b := e5) rfl rfl) rfl (fun _ _ _ _ h => h) ?_
    refine AJ_takeP 5 63 rfl (by kernel_rfl) rfl (GY_none rfl) (P_nilCheck rfl) rfl (fun _ _ _ _ h => h) ?_
    refine AJ_pure (slLen del3) (fun hal16 => ?_)
    refine AJ_takeP 6 127 rfl (by kernel_rfl) rfl (GY_none rfl) (P_indexArrD (i := (((to_u8 (a9.toNat : Int)) ^^^ e5)).toNat) rfl rfl rfl (Nat.lt_of_lt_of_le (UInt8.toNat_lt (((to_u8 (a9.toNat : Int)) ^^^ e5))) (by decide)) Try.runUnderlying102 Try.sizeOf26) rfl (fun _ _ _ _ h => h) ?_
    refine AJ_takeV 7 255 rfl (by kernel_rfl) rfl (by kernel_rfl) (by kernel_rfl) (GY_none rfl) Ent.refl (V_loadE rfl rfl (lt_len hal16 (show (((to_u8 (a9.toNat : Int)) ^^^ e5)).toNat < 256 from (Nat.lt_of_lt_of_le (UInt8.toNat_lt (((to_u8 (a9.toNat : Int)) ^^^ e5))) (by decide)))) foc3 (Reads.sl _ _ _) rfl rfl Try.isAgg26) rfl (fun _ _ _ _ h => h) ?_
    refine AJ_takeV 8 511 rfl (by kernel_rfl) rfl (by kernel_rfl) (by kernel_rfl) (GY_none rfl) Ent.refl (V_load rfl foc1 rfl Try.isAgg26) rfl (fun _ _ _ _ h => h) ?_
    refine AJ_takeP 9 1023 rfl (by kernel_rfl) rfl (GY_none rfl) (P_shr_u32 (a := a9) (m := 8) rfl rfl rfl) rfl (fun _ _ _ _ h => h) ?_
    refine AJ_takeP 10 2047 rfl (by kernel_rfl) rfl (GY_none rfl) (P_xor_u32 (a := (t.getD ((((to_u8 (a9.toNat : Int)) ^^^ e5)).toNat) 0)) (b := (shr_u32 a9 8)) rfl rfl) rfl (fun _ _ _ _ h => h) ?_
    refine AJ_op 11 4095 rfl (by kernel_rfl) rfl (GY_none rfl) (O_store rfl rfl foc1 rfl rfl Try.sizeOf26 ?_)
    refine ⟨fun h => absurd h (by decide), ?_⟩
    refine AJ_done (by kernel_rfl) ?_
    refine QJ_block_normal ?_
    refine QJ_rng ((t.getD ((((to_u8 (a9.toNat : Int)) ^^^ e5)).toNat) 0) ^^^ (shr_u32 a9 8)) ?_ Ent.refl
    exact h
  ·
    rintro D17 a9 hy18
    replace h := bindK_sm hK7 (show some a9 = some y8 from hy18)
    show QJ _ _ _ _ _ (dblk D17 :: blk bbytes_c0 27 [vbytes_c0] :: Abytes_c0 :: blk b4 26 [.int .u32 (a9.toNat : Int)] :: _)
    refine QJ_block_normal ?_
    refine QJ_then ?_
    refine CJ_seq ?_
    refine CJ_region ?_
    refine RJ_op rfl (OJ_V (V_load rfl foc3 rfl Try.isAgg26) rfl ?_)
    refine RJ_op rfl (OJ_P (P_assign rfl) rfl ?_)
    refine RJ_nil ?_
    refine QJ_then ?_
    refine CJ_ret ?_
    have hE := Option.some.inj h
    subst hE
    refine QJ_endM1 (.inl rfl) del0 (res1 Try.results51 rfl) rfl ?_
    refine CSpec.close () ?_ ?_ (Ent.take del4 (Ent.take del0 (Ent.take del0 (Ent.drop (Ent.drop Ent.refl)))))
    · rfl
    · trivial
  ·
    exact fun _ _ h9 => h9.elim
def checksum_Extend (sum : UInt32) (l : List UInt64) : Option (UInt32) :=
  Option.bind (checksum_newTable) fun r2 =>
  grd (decide (r2.length = 256)) <|
  Option.bind (checksum_spread l) fun r6 =>
  Option.bind (checksum_table_run__checksum_spread_1 r2 (~~~sum) l) fun r10 =>
  some (~~~r10)
theorem L_checksum_Extend {W : World} {Al : HP} {vl : Value} {sum : UInt32} {l : List UInt64} {r : UInt32} (rl : Reads Al tyU vl l) (h : checksum_Extend sum l = some r) :
    CSpec Try.prog W 47 [.int .u32 (sum.toNat : Int), vl] [Al] (fun x : Unit => .int .u32 (r.toNat : Int)) (fun _ => True) (fun x F => Al :: F) := by
 refine CSpec.of_body Try.func47 rfl Try.ntmps47 rfl fun F => ?_
 show CJ _ _ _ _ _ _ (_ :: F)
 unfold checksum_Extend at h
 refine CJ_pure (len_of rl del0) fun hlen1 => sR <| oA rfl rfl <| nT <| sR ?_
 obtain ⟨r2, hr3, h⟩ := bind_e h
 refine oO <| O_call (L_checksum_newTable hr3) rfl Try.call50 Dels.nil rfl fun _ _ => oO <| O_alloc Try.zeroValue102 rfl rfl fun b4 => RJ_ent (sl_of_lit (t := tyA102) (m := 256) (List.replicate 256 0) rfl rfl (by kernel_rfl) (by decide)) <| RJ_pure (slLen del0) fun hal5 => ?_
 obtain ⟨hg1, h⟩ := grd_de h
 refine oO <| O_storeArr (t := tyA102) rfl rfl rfl foc0 hal5 hg1 Try.sizeOf102 <| nT <| sR <| oM rfl rfl <| oP (P_com_u32 (a := sum) rfl) rfl <| oM rfl rfl ?_
 obtain ⟨r6, hr7, h⟩ := bind_e h
 refine oO <| O_call (L_checksum_spread rl hr7) rfl Try.call52 (Dels.cons del1 Dels.nil) rfl fun X8 _ => ?_
 obtain ⟨r10, hr11, h⟩ := bind_e h
 refine oO <| O_call (L_checksum_table_run__checksum_spread_1 rl hr11) rfl Try.call51 (Dels.cons del2 (Dels.cons del1 (Dels.cons del0 Dels.nil))) rfl fun _ _ => oP (P_com_u32 (a := r10) rfl) rfl <| oA rfl rfl <| nT <| CJ_ret ?_
 cases h
 exact fE (res1 Try.results47 rfl) () (t2_ (eD (eD eR)))
def checksum_Words (l : List UInt64) : Option (UInt32) :=
  Option.bind (checksum_Extend (0 : UInt32) l) fun r2 =>
  some r2
theorem L_checksum_Words {W : World} {Al : HP} {vl : Value} {l : List UInt64} {r : UInt32} (rl : Reads Al tyU vl l) (h : checksum_Words l = some r) :
    CSpec Try.prog W 42 [vl] [Al] (fun x : Unit => .int .u32 (r.toNat : Int)) (fun _ => True) (fun x F => Al :: F) := by
 refine CSpec.of_body Try.func42 rfl Try.ntmps42 rfl fun F => ?_
 show CJ _ _ _ _ _ _ (_ :: F)
 unfold checksum_Words at h
 refine CJ_pure (len_of rl del0) fun hlen1 => sR <| oA rfl rfl <| nT <| sR <| oM rfl rfl ?_
 obtain ⟨r2, hr3, h⟩ := bind_e h
 refine oO <| O_call (L_checksum_Extend rl hr3) rfl Try.call47 (Dels.cons del0 Dels.nil) rfl fun _ _ => oA rfl rfl <| nT <| CJ_ret ?_
 cases h
 exact fE (res1 Try.results42 rfl) () eR
def volumegroupref01_step (x_0 : UInt32) : Option (UInt32) :=
  if ((x_0 &&& (1 : UInt32)) = (1 : UInt32)) then
    some (((shr_u32 x_0 1) ^^^ (2197175160 : UInt32)))
  else
    some (shr_u32 x_0 1)
theorem L_volumegroupref01_step {W : World} {x_0 : UInt32} {r : UInt32} (h : volumegroupref01_step x_0 = some r) :
    CSpec Try.prog W 55 [.int .u32 (x_0.toNat : Int)] [] (fun x : Unit => .int .u32 (r.toNat : Int)) (fun _ => True) (fun x F => F) := by
 refine CSpec.of_body Try.func55 rfl Try.ntmps55 rfl fun F => ?_
 show CJ _ _ _ _ _ _ (F)
 unfold volumegroupref01_step at h
 refine sR <| oA rfl rfl <| nT <| CJ_seq <| sR <| oM rfl rfl <| oP (P_and_u32 (a := x_0) (b := (1 : UInt32)) rfl rfl) rfl <| oP (P_eq_u32 (a := (x_0 &&& (1 : UInt32))) (b := (1 : UInt32)) rfl rfl) rfl <| nT <| CJ_condP rfl bT_dec (fun hg1 => ?_) (fun hg1 => ?_)
 ·
  replace h := ite_t hg1 h
  refine sR <| oM rfl rfl <| oP (P_shr_u32 (a := x_0) (m := 1) rfl rfl rfl) rfl <| oP (P_xor_u32 (a := (shr_u32 x_0 1)) (b := (2197175160 : UInt32)) rfl rfl) rfl <| oA rfl rfl <| nT <| CJ_ret <| QJ_then_ret ?_
  cases h
  exact fE (res1 Try.results55 rfl) () eR
 ·
  replace h := ite_f hg1 h
  refine kT <| sR <| oM rfl rfl <| oP (P_shr_u32 (a := x_0) (m := 1) rfl rfl rfl) rfl <| oA rfl rfl <| nT <| CJ_ret ?_
  cases h
  exact fE (res1 Try.results55 rfl) () eR
def volumegroupref01_feed_l1_b (rec : UInt32 → Nat → Option (UInt32)) (x6 : UInt32) (x7 : Nat) : Option (UInt32) :=
  if (((x7 : Nat) : Int) < (8 : Int)) then
    Option.bind (volumegroupref01_step x6) fun r8 =>
    rec r8 (x7 + 1)
  else
    some x6
def volumegroupref01_feed_l1 : Nat → UInt32 → Nat → Option (UInt32)
  | 0, _, _ => none
  | n + 1, x6, x7 => volumegroupref01_feed_l1_b (volumegroupref01_feed_l1 n) x6 x7
def volumegroupref01_feed (x_0 : UInt32) (b : UInt8) : Option (UInt32) :=
  Option.bind (volumegroupref01_feed_l1 FUEL ((x_0 ^^^ (to_u32 (b.toNat : Int)))) 0) fun a5 =>
  some a5
theorem L_volumegroupref01_feed {W : World} {x_0 : UInt32} {b : UInt8} {r : UInt32} (h : volumegroupref01_feed x_0 b = some r) :
    CSpec Try.prog W 53 [.int .u32 (x_0.toNat : Int), .int .u8 (b.toNat : Int)] [] (fun x : Unit => .int .u32 (r.toNat : Int)) (fun _ => True) (fun x F => F) := by
 refine CSpec.of_body Try.func53 rfl Try.ntmps53 rfl fun F => ?_
 show CJ _ _ _ _ _ _ (F)
 unfold volumegroupref01_feed at h
 refine sR <| oA rfl rfl <| nT <| sR <| oM rfl rfl <| oM rfl rfl <| oP (P_conv_u32 (a := (b.toNat : Int)) rfl Try.runUnderlying5 Try.runUnderlying26) rfl <| oP (P_xor_u32 (a := x_0) (b := (to_u32 (b.toNat : Int))) rfl rfl) rfl <| oA rfl rfl <| nT <| CJ_seq <| sR <| oA rfl rfl <| nT ?_
 obtain ⟨y3, hl1, hK2⟩ := bind_c h
 refine CJ_cutT (X := UInt32) [0, 5, 10, 11, 12, 13, 14, 15] (fun a5 => ([(0, .int .u32 (a5.toNat : Int))] : Slots)) (fun a5 R => R) (fun a5 => y3 = a5) Dels.nil ?_ ?_
 ·
  refine CJ_block <| CJ_loopR (X := Nat × UInt32 × Nat) [0, 5, 10, 11, 12, 13, 14, 15] (fun ⟨n, x6, x7⟩ => ([(0, .int .u32 (x6.toNat : Int)), (5, .int .i64 (((x7 : Nat) : Int)))] : Slots)) (fun ⟨n, x6, x7⟩ R => R) (fun ⟨n, x6, x7⟩ => volumegroupref01_feed_l1 n x6 x7 = some y3) (fun ⟨n, x6, x7⟩ => n) ⟨FUEL, (x_0 ^^^ (to_u32 (b.toNat : Int))), 0⟩ ?_ ?_ eR ?_
  · exact hl1
  · exact ⟨rfl, rfl, True.intro⟩
  ·
   rintro ⟨n, x6, x7⟩ h
   cases n with
   | zero => exact none_e h
   | succ n => ?_
   replace h : volumegroupref01_feed_l1_b (volumegroupref01_feed_l1 n) x6 x7 = some y3 := h
   unfold volumegroupref01_feed_l1_b at h
   show CJ _ _ _ _ _ (([(0, .int .u32 (x6.toNat : Int)), (5, .int .i64 (((x7 : Nat) : Int)))] : Slots) ++ forget _ _) (_)
   refine CJ_seq <| sR <| oM rfl rfl <| oP (P_lss (a := ((x7 : Nat) : Int)) (b := (8 : Int)) rfl rfl) rfl <| nT <| CJ_condP rfl bT_dec (fun hg1 => ?_) (fun hg1 => ?_)
   ·
    replace h := ite_t hg1 h
    refine kT <| CJ_seq <| CJ_block <| CJ_region <| oM rfl rfl ?_
    obtain ⟨r8, hr9, h⟩ := bind_e h
    exact oO <| O_call (L_volumegroupref01_step hr9) rfl Try.call55 Dels.nil rfl fun _ _ => oA rfl rfl <| RJ_nil <| QJ_block_normal <| QJ_then <| CJ_region <| oM rfl rfl <| oP (PJ_eq (P_add (a := ((x7 : Nat) : Int)) (b := (1 : Int)) rfl rfl (by omega)) rfl) rfl <| oA rfl rfl <| RJ_nil <| nR ⟨n, r8, (x7 + 1)⟩ h ⟨rfl, rfl, True.intro⟩ eR
   ·
    replace h := ite_f hg1 h
    exact CJ_exit <| QJ_then_exit <| QJ_round_exit <| QJ_block_here <| cR x6 (Option.some.inj h).symm ⟨rfl, True.intro⟩ eR
 ·
  rintro a5 hy10
  replace h := bindK_at hK2 hy10
  show CJ _ _ _ _ _ (([(0, .int .u32 (a5.toNat : Int))] : Slots) ++ forget _ _) (_)
  refine sR <| oM rfl rfl <| oA rfl rfl <| nT <| CJ_ret ?_
  cases h
  exact fE (res1 Try.results53 rfl) () eR
def volumegroupref01_word_l1_b (w : UInt64) (rec : UInt32 → Nat → Option (UInt32)) (x6 : UInt32) (x7 : Nat) : Option (UInt32) :=
  if (((x7 : Nat) : Int) < (8 : Int)) then
    Option.bind (volumegroupref01_feed x6 ((to_u8 (((shr_u64 w ((((8 : Int) * ((x7 : Nat) : Int))).toNat)).toNat : Int))))) fun r8 =>
    rec r8 (x7 + 1)
  else
    some x6
def volumegroupref01_word_l1 (w : UInt64) : Nat → UInt32 → Nat → Option (UInt32)
  | 0, _, _ => none
  | n + 1, x6, x7 => volumegroupref01_word_l1_b w (volumegroupref01_word_l1 w n) x6 x7
def volumegroupref01_word (x_0 : UInt32) (w : UInt64) : Option (UInt32) :=
  Option.bind (volumegroupref01_word_l1 w FUEL x_0 0) fun a5 =>
  some a5
theorem L_volumegroupref01_word {W : World} {x_0 : UInt32} {w : UInt64} {r : UInt32} (h : volumegroupref01_word x_0 w = some r) :
    CSpec Try.prog W 49 [.int .u32 (x_0.toNat : Int), .int .u64 (w.toNat : Int)] [] (fun x : Unit => .int .u32 (r.toNat : Int)) (fun _ => True) (fun x F => F) := by
 refine CSpec.of_body Try.func49 rfl Try.ntmps49 rfl fun F => ?_
 show CJ _ _ _ _ _ _ (F)
 unfold volumegroupref01_word at h
 refine sR <| oA rfl rfl <| nT <| CJ_seq <| sR <| oA rfl rfl <| nT ?_
 obtain ⟨y3, hl1, hK2⟩ := bind_c h
 refine CJ_cutT (X := UInt32) [0, 5, 6, 7, 8, 9, 10, 11, 12, 13, 14, 15, 16] (fun a5 => ([(0, .int .u32 (a5.toNat : Int))] : Slots)) (fun a5 R => R) (fun a5 => y3 = a5) Dels.nil ?_ ?_
 ·
  refine CJ_block <| CJ_loopR (X := Nat × UInt32 × Nat) [0, 5, 6, 7, 8, 9, 10, 11, 12, 13, 14, 15, 16] (fun ⟨n, x6, x7⟩ => ([(0, .int .u32 (x6.toNat : Int)), (5, .int .i64 (((x7 : Nat) : Int)))] : Slots)) (fun ⟨n, x6, x7⟩ R => R) (fun ⟨n, x6, x7⟩ => volumegroupref01_word_l1 w n x6 x7 = some y3) (fun ⟨n, x6, x7⟩ => n) ⟨FUEL, x_0, 0⟩ ?_ ?_ eR ?_
  · exact hl1
  · exact ⟨rfl, rfl, True.intro⟩
  ·
   rintro ⟨n, x6, x7⟩ h
   cases n with
   | zero => exact none_e h
   | succ n => ?_
   replace h : volumegroupref01_word_l1_b w (volumegroupref01_word_l1 w n) x6 x7 = some y3 := h
   unfold volumegroupref01_word_l1_b at h
   show CJ _ _ _ _ _ (([(0, .int .u32 (x6.toNat : Int)), (5, .int .i64 (((x7 : Nat) : Int)))] : Slots) ++ forget _ _) (_)
   refine CJ_seq <| sR <| oM rfl rfl <| oP (P_lss (a := ((x7 : Nat) : Int)) (b := (8 : Int)) rfl rfl) rfl <| nT <| CJ_condP rfl bT_dec (fun hg1 => ?_) (fun hg1 => ?_)
   ·
    replace h := ite_t hg1 h
    refine kT <| CJ_seq <| CJ_block <| CJ_region <| oM rfl rfl <| oM rfl rfl <| oM rfl rfl <| oP (P_mul (a := (8 : Int)) (b := ((x7 : Nat) : Int)) rfl rfl (by omega)) rfl <| oP (P_shr_u64 (a := w) (m := (((8 : Int) * ((x7 : Nat) : Int))).toNat) rfl rfl (Int.toNat_of_nonneg (by omega)).symm) rfl <| oP (P_conv_u8 (a := ((shr_u64 w ((((8 : Int) * ((x7 : Nat) : Int))).toNat)).toNat : Int)) rfl Try.runUnderlying22 Try.runUnderlying5) rfl ?_
    obtain ⟨r8, hr9, h⟩ := bind_e h
    exact oO <| O_call (L_volumegroupref01_feed hr9) rfl Try.call53 Dels.nil rfl fun _ _ => oA rfl rfl <| RJ_nil <| QJ_block_normal <| QJ_then <| CJ_region <| oM rfl rfl <| oP (PJ_eq (P_add (a := ((x7 : Nat) : Int)) (b := (1 : Int)) rfl rfl (by omega)) rfl) rfl <| oA rfl rfl <| RJ_nil <| nR ⟨n, r8, (x7 + 1)⟩ h ⟨rfl, rfl, True.intro⟩ eR
   ·
    replace h := ite_f hg1 h
    exact CJ_exit <| QJ_then_exit <| QJ_round_exit <| QJ_block_here <| cR x6 (Option.some.inj h).symm ⟨rfl, True.intro⟩ eR
 ·
  rintro a5 hy10
  replace h := bindK_at hK2 hy10
  show CJ _ _ _ _ _ (([(0, .int .u32 (a5.toNat : Int))] : Slots) ++ forget _ _) (_)
  refine sR <| oM rfl rfl <| oA rfl rfl <| nT <| CJ_ret ?_
  cases h
  exact fE (res1 Try.results49 rfl) () eR
def volumegroupref01_Extend_l1_b (l : List UInt64) (rec : UInt32 → Nat → Option (UInt32)) (x7 : UInt32) (x8 : Nat) : Option (UInt32) :=
  if (((x8 : Nat) : Int) < ((l.length : Nat) : Int)) then
    Option.bind (volumegroupref01_word x7 (l.getD x8 0)) fun r9 =>
    rec r9 (x8 + 1)
  else
    some x7
def volumegroupref01_Extend_l1 (l : List UInt64) : Nat → UInt32 → Nat → Option (UInt32)
  | 0, _, _ => none
  | n + 1, x7, x8 => volumegroupref01_Extend_l1_b l (volumegroupref01_Extend_l1 l n) x7 x8
def volumegroupref01_Extend (sum : UInt32) (l : List UInt64) : Option (UInt32) :=
  Option.bind (volumegroupref01_Extend_l1 l FUEL (~~~sum) 0) fun a6 =>
  some (~~~a6)
theorem L_volumegroupref01_Extend {W : World} {Al : HP} {vl : Value} {sum : UInt32} {l : List UInt64} {r : UInt32} (rl : Reads Al tyU vl l) (h : volumegroupref01_Extend sum l = some r) :
    CSpec Try.prog W 46 [.int .u32 (sum.toNat : Int), vl] [Al] (fun x : Unit => .int .u32 (r.toNat : Int)) (fun _ => True) (fun x F => Al :: F) := by
 refine CSpec.of_body Try.func46 rfl Try.ntmps46 rfl fun F => ?_
 show CJ _ _ _ _ _ _ (_ :: F)
 unfold volumegroupref01_Extend at h
 refine CJ_pure (len_of rl del0) fun hlen1 => sR <| oA rfl rfl <| nT <| sR <| oM rfl rfl <| oP (P_com_u32 (a := sum) rfl) rfl <| oA rfl rfl <| nT <| CJ_seq <| sR <| oA rfl rfl <| nT ?_
 obtain ⟨y4, hl2, hK3⟩ := bind_c h
 refine CJ_cutT (X := UInt32) [5, 6, 9, 10, 11, 12, 13, 14, 15, 16, 17, 18, 19, 20] (fun a6 => ([(5, .int .u32 (a6.toNat : Int))] : Slots)) (fun a6 R => R) (fun a6 => y4 = a6) Dels.nil ?_ ?_
 ·
  refine CJ_block <| CJ_loopR (X := Nat × UInt32 × Nat) [5, 6, 9, 10, 11, 12, 13, 14, 15, 16, 17, 18, 19, 20] (fun ⟨n, x7, x8⟩ => ([(5, .int .u32 (x7.toNat : Int)), (6, .int .i64 (((x8 : Nat) : Int)))] : Slots)) (fun ⟨n, x7, x8⟩ R => R) (fun ⟨n, x7, x8⟩ => volumegroupref01_Extend_l1 l n x7 x8 = some y4) (fun ⟨n, x7, x8⟩ => n) ⟨FUEL, (~~~sum), 0⟩ ?_ ?_ eR ?_
  · exact hl2
  · exact ⟨rfl, rfl, True.intro⟩
  ·
   rintro ⟨n, x7, x8⟩ h
   cases n with
   | zero => exact none_e h
   | succ n => ?_
   replace h : volumegroupref01_Extend_l1_b l (volumegroupref01_Extend_l1 l n) x7 x8 = some y4 := h
   unfold volumegroupref01_Extend_l1_b at h
   show CJ _ _ _ _ _ (([(5, .int .u32 (x7.toNat : Int)), (6, .int .i64 (((x8 : Nat) : Int)))] : Slots) ++ forget _ _) (_)
   refine CJ_seq <| sR <| oM rfl rfl <| oM rfl rfl <| oV (V_len rfl foc0 rl Try.runUnderlying27) rfl <| oP (P_lss (a := ((x8 : Nat) : Int)) (b := ((l.length : Nat) : Int)) rfl rfl) rfl <| nT <| CJ_condP rfl bT_dec (fun hg1 => ?_) (fun hg1 => ?_)
   ·
    replace h := ite_t hg1 h
    refine kT <| CJ_seq <| CJ_block <| CJ_region <| oM rfl rfl <| oM rfl rfl <| oM rfl rfl <| oV (V_index (i := x8) rfl rfl rfl (by omega) foc0 rl Try.runUnderlying27 Try.sizeOf22) rfl <| oV (V_loadE rfl rfl (by omega) foc0 rl rfl rfl Try.isAgg22) rfl ?_
    obtain ⟨r9, hr10, h⟩ := bind_e h
    exact oO <| O_call (L_volumegroupref01_word hr10) rfl Try.call49 Dels.nil rfl fun _ _ => oA rfl rfl <| RJ_nil <| QJ_block_normal <| QJ_then <| CJ_region <| oM rfl rfl <| oP (PJ_eq (P_add (a := ((x8 : Nat) : Int)) (b := (1 : Int)) rfl rfl (by omega)) rfl) rfl <| oA rfl rfl <| RJ_nil <| nR ⟨n, r9, (x8 + 1)⟩ h ⟨rfl, rfl, True.intro⟩ eR
   ·
    replace h := ite_f hg1 h
    exact CJ_exit <| QJ_then_exit <| QJ_round_exit <| QJ_block_here <| cR x7 (Option.some.inj h).symm ⟨rfl, True.intro⟩ eR
 ·
  rintro a6 hy11
  replace h := bindK_at hK3 hy11
  show CJ _ _ _ _ _ (([(5, .int .u32 (a6.toNat : Int))] : Slots) ++ forget _ _) (_)
  refine sR <| oM rfl rfl <| oP (P_com_u32 (a := a6) rfl) rfl <| oA rfl rfl <| nT <| CJ_ret ?_
  cases h
  exact fE (res1 Try.results46 rfl) () eR
def volumegroupref01_Words (l : List UInt64) : Option (UInt32) :=
  Option.bind (volumegroupref01_Extend (0 : UInt32) l) fun r2 =>
  some r2
theorem L_volumegroupref01_Words {W : World} {Al : HP} {vl : Value} {l : List UInt64} {r : UInt32} (rl : Reads Al tyU vl l) (h : volumegroupref01_Words l = some r) :
    CSpec Try.prog W 41 [vl] [Al] (fun x : Unit => .int .u32 (r.toNat : Int)) (fun _ => True) (fun x F => Al :: F) := by
 refine CSpec.of_body Try.func41 rfl Try.ntmps41 rfl fun F => ?_
 show CJ _ _ _ _ _ _ (_ :: F)
 unfold volumegroupref01_Words at h
 refine CJ_pure (len_of rl del0) fun hlen1 => sR <| oA rfl rfl <| nT <| sR <| oM rfl rfl ?_
 obtain ⟨r2, hr3, h⟩ := bind_e h
 refine oO <| O_call (L_volumegroupref01_Extend rl hr3) rfl Try.call46 (Dels.cons del0 Dels.nil) rfl fun _ _ => oA rfl rfl <| nT <| CJ_ret ?_
 cases h
 exact fE (res1 Try.results41 rfl) () eR
end Go.Proofs
namespace Go.Proofs
open Go.VG
theorem bv_shr32 (x : UInt32) {m : Nat} (h : m ≤ 32) : (shr_u32 x m).toBitVec = x.toBitVec >>> m := by
  apply BitVec.eq_of_toNat_eq
  rw [BitVec.toNat_ushiftRight, Nat.shiftRight_eq_div_pow]
  show (shr_u32 x m).toNat = _
  rw [shr_u32_toNat, Nat.min_eq_left h]; rfl
theorem bv_shr64 (x : UInt64) {m : Nat} (h : m ≤ 64) : (shr_u64 x m).toBitVec = x.toBitVec >>> m := by
  apply BitVec.eq_of_toNat_eq
  rw [BitVec.toNat_ushiftRight, Nat.shiftRight_eq_div_pow]
  show (shr_u64 x m).toNat = _
  rw [shr_u64_toNat, Nat.min_eq_left h]; rfl
theorem bv_to_u8_64 (x : UInt64) : (to_u8 (x.toNat : Int)).toBitVec = x.toBitVec.setWidth 8 := by
  apply BitVec.eq_of_toNat_eq
  rw [BitVec.toNat_setWidth]
  have := to_u8_toNat (x.toNat : Int)
  show (to_u8 (x.toNat : Int)).toNat = x.toNat % 2 ^ 8
  omega
theorem bv_to_u8_32 (x : UInt32) : (to_u8 (x.toNat : Int)).toBitVec = x.toBitVec.setWidth 8 := by
  apply BitVec.eq_of_toNat_eq
  rw [BitVec.toNat_setWidth]
  have := to_u8_toNat (x.toNat : Int)
  show (to_u8 (x.toNat : Int)).toNat = x.toNat % 2 ^ 8
  omega
theorem bv_to_u32_8 (x : UInt8) : (to_u32 (x.toNat : Int)).toBitVec = x.toBitVec.setWidth 32 := by
  apply BitVec.eq_of_toNat_eq
  rw [BitVec.toNat_setWidth]
  have := to_u32_toNat (x.toNat : Int)
  have h8 := x.toNat_lt
  show (to_u32 (x.toNat : Int)).toNat = x.toNat % 2 ^ 32
  omega
theorem low_bit (x : UInt32) : (x &&& (1 : UInt32)) = 1 ↔ x.toBitVec.getLsbD 0 = true := by
  rw [← UInt32.toBitVec_inj, UInt32.toBitVec_and]
  show x.toBitVec &&& 1#32 = 1#32 ↔ _
  constructor
  · intro h
    have := congrArg (fun z : BitVec 32 => z.getLsbD 0) h
    simpa using this
  · intro h
    refine BitVec.eq_of_getLsbD_eq fun i hi => ?_
    rw [BitVec.getLsbD_and]
    cases i with
    | zero => rw [h]; rfl
    | succ i =>
      have : (1#32).getLsbD (i + 1) = false := by rw [BitVec.getLsbD_ofNat]; simp [Nat.testBit_succ]
      rw [this]; simp
def stU (x : UInt32) : UInt32 := ⟨stB x.toBitVec⟩
theorem stU_t {x : UInt32} (h : (x &&& (1 : UInt32)) = 1) : (shr_u32 x 1) ^^^ (2197175160 : UInt32) = stU x := by
  rw [← UInt32.toBitVec_inj, UInt32.toBitVec_xor, bv_shr32 x (by omega)]
  simp only [stU, stB, if_pos ((low_bit x).1 h)]; rfl
theorem stU_f {x : UInt32} (h : ¬ (x &&& (1 : UInt32)) = 1) : shr_u32 x 1 = stU x := by
  rw [← UInt32.toBitVec_inj, bv_shr32 x (by omega)]
  simp only [stU, stB, if_neg (fun h' => h ((low_bit x).2 h'))]; simp
theorem step_eq (x : UInt32) : volumegroupref01_step x = some (stU x) := by
  unfold volumegroupref01_step
  by_cases h : (x &&& (1 : UInt32)) = 1
  · rw [if_pos h, stU_t h]
  · rw [if_neg h, stU_f h]
theorem iter_stU : ∀ (n : Nat) (x : UInt32), (iterN stU n x).toBitVec = iterN stB n x.toBitVec
  | 0, _ => rfl
  | n + 1, x => by show (iterN stU n (stU x)).toBitVec = _; rw [iter_stU n]; rfl
theorem feed_l1_eq : ∀ (k n : Nat) (x : UInt32) (j : Nat), j + k = 8 → k < n → volumegroupref01_feed_l1 n x j = some (iterN stU k x)
  | 0, n + 1, x, j, hj, _ => by
    obtain rfl : j = 8 := by omega
    rfl
  | k + 1, n + 1, x, j, hj, hn => by
    have hlt : ((j : Nat) : Int) < (8 : Int) := by omega
    simp only [volumegroupref01_feed_l1, volumegroupref01_feed_l1_b, if_pos hlt, step_eq, Option.bind_some]
    exact feed_l1_eq k n (stU x) (j + 1) (by omega) (by omega)
def byU (x : UInt32) (b : UInt8) : UInt32 := ⟨byB x.toBitVec b.toBitVec⟩
theorem feed_eq (x : UInt32) (b : UInt8) : volumegroupref01_feed x b = some (byU x b) := by
  unfold volumegroupref01_feed
  have hF := fuel_big; generalize FUEL = N at hF ⊢
  rw [feed_l1_eq 8 N _ 0 rfl (by omega)]
  simp only [Option.bind_some, Option.some.injEq]
  rw [← UInt32.toBitVec_inj, iter_stU, UInt32.toBitVec_xor, bv_to_u32_8]; rfl
theorem word_l1_eq (w : UInt64) : ∀ (k n : Nat) (x : UInt32) (j : Nat), j + k = 8 → k < n → volumegroupref01_word_l1 w n ⟨bytesB x.toBitVec w.toBitVec j⟩ j = some ⟨bytesB x.toBitVec w.toBitVec (j + k)⟩
  | 0, n + 1, x, j, hj, _ => by
    obtain rfl : j = 8 := by omega
    rfl
  | k + 1, n + 1, x, j, hj, hn => by
    have hlt : ((j : Nat) : Int) < (8 : Int) := by omega
    simp only [volumegroupref01_word_l1, volumegroupref01_word_l1_b, if_pos hlt, feed_eq, Option.bind_some]
    have e : byU ⟨bytesB x.toBitVec w.toBitVec j⟩ (to_u8 ((shr_u64 w (((8 : Int) * ((j : Nat) : Int))).toNat).toNat : Int)) = ⟨bytesB x.toBitVec w.toBitVec (j + 1)⟩ := by
      rw [← UInt32.toBitVec_inj]
      show byB _ _ = _
      have e8 : ((8 : Int) * ((j : Nat) : Int)).toNat = 8 * j := by omega
      rw [bv_to_u8_64, e8, bv_shr64 w (by omega)]; rfl
    rw [e, word_l1_eq w k n x (j + 1) (by omega) (by omega)]
    congr 3; omega
def woU (x : UInt32) (w : UInt64) : UInt32 := ⟨woB x.toBitVec w.toBitVec⟩
theorem word_eq (x : UInt32) (w : UInt64) : volumegroupref01_word x w = some (woU x w) := by
  unfold volumegroupref01_word
  have hF := fuel_big; generalize FUEL = N at hF ⊢
  have h1 := word_l1_eq w 8 N x 0 rfl (by omega)
  rw [show (⟨bytesB x.toBitVec w.toBitVec 0⟩ : UInt32) = x from rfl] at h1
  rw [h1, Option.bind_some]
  congr 1
  rw [← UInt32.toBitVec_inj]
  exact wo_bytes.symm
theorem Extend_l1_eq (l : List UInt64) : ∀ (k n : Nat) (x : UInt32) (j : Nat), j + k = l.length → k < n → volumegroupref01_Extend_l1 l n x j = some ((l.drop j).foldl woU x)
  | 0, n + 1, x, j, hj, _ => by
    have hlt : ¬ ((j : Nat) : Int) < ((l.length : Nat) : Int) := by omega
    simp only [volumegroupref01_Extend_l1, volumegroupref01_Extend_l1_b, if_neg hlt]
    rw [List.drop_of_length_le (by omega)]; rfl
  | k + 1, n + 1, x, j, hj, hn => by
    have hlt : ((j : Nat) : Int) < ((l.length : Nat) : Int) := by omega
    have hj' : j < l.length := by omega
    simp only [volumegroupref01_Extend_l1, volumegroupref01_Extend_l1_b, if_pos hlt, word_eq, Option.bind_some]
    rw [Extend_l1_eq l k n _ (j + 1) (by omega) (by omega), List.drop_eq_getElem_cons hj', List.foldl_cons]
    simp [List.getD_eq_getElem?_getD, hj']
def crcE (sum : UInt32) (l : List UInt64) : UInt32 := ~~~(l.foldl woU (~~~sum))
def crcU (l : List UInt64) : UInt32 := crcE 0 l
theorem refExtend_eq {sum : UInt32} {l : List UInt64} (h : l.length ≤ 800000000000) : volumegroupref01_Extend sum l = some (crcE sum l) := by
  unfold volumegroupref01_Extend
  have hF := fuel_big; generalize FUEL = N at hF ⊢
  rw [Extend_l1_eq l l.length N _ 0 (by omega) (by omega)]; rfl
theorem refWords_eq {l : List UInt64} (h : l.length ≤ 800000000000) : volumegroupref01_Words l = some (crcU l) := by
  unfold volumegroupref01_Words
  rw [refExtend_eq h]; rfl
theorem table_l2_eq : ∀ (k n : Nat) (x : UInt32) (j : Nat), j + k = 8 → k < n → checksum_newTable_l2 n x j = some (iterN stU k x)
  | 0, n + 1, x, j, hj, _ => by
    obtain rfl : j = 8 := by omega
    rfl
  | k + 1, n + 1, x, j, hj, hn => by
    have hlt : ((j : Nat) : Int) < (8 : Int) := by omega
    simp only [checksum_newTable_l2, checksum_newTable_l2_b, if_pos hlt]
    by_cases h : (x &&& (1 : UInt32)) = 1
    · rw [if_pos h, stU_t h]; exact table_l2_eq k n (stU x) (j + 1) (by omega) (by omega)
    · rw [if_neg h, stU_f h]; exact table_l2_eq k n (stU x) (j + 1) (by omega) (by omega)
def entU (b : Nat) : UInt32 := iterN stU 8 (to_u32 (b : Int))
set_option maxRecDepth 4000 in
theorem table_l1_eq {M : Nat} (hM : M = 256) : ∀ (k n : Nat) (t : List UInt32) (j : Nat), j + k = M → k < n → t.length = M → (∀ b, b < j → t.getD b 0 = entU b) →
    ∃ T, checksum_newTable_l1 n t j = some T ∧ T.length = M ∧ ∀ b, b < M → T.getD b 0 = entU b
  | 0, n + 1, t, j, hj, _, hl, ht => by
    have hlt : ¬ ((j : Nat) : Int) < (256 : Int) := by omega
    exact ⟨t, by show checksum_newTable_l1_b _ t j = _; unfold checksum_newTable_l1_b; rw [if_neg hlt], hl, fun b hb => ht b (by omega)⟩
  | k + 1, n + 1, t, j, hj, hn, hl, ht => by
    have hlt : ((j : Nat) : Int) < (256 : Int) := by omega
    have e0 : checksum_newTable_l1 (n + 1) t j = checksum_newTable_l1 n (t.set j (entU j)) (j + 1) := by
      show checksum_newTable_l1_b _ t j = _
      unfold checksum_newTable_l1_b
      rw [if_pos hlt]
      have hF := fuel_big; generalize FUEL = N at hF ⊢
      rw [table_l2_eq 8 N _ 0 rfl (by omega), Option.bind_some]; rfl
    rw [e0]
    refine table_l1_eq hM k n _ (j + 1) (by omega) (by omega) (by simpa using hl) fun b hb => ?_
    by_cases hbj : b = j
    · subst hbj
      simp [List.getD_eq_getElem?_getD, hl, show b < M by omega, entU]
    · have := ht b (by omega)
      simp only [List.getD_eq_getElem?_getD, List.getElem?_set_ne (fun e => hbj e.symm)] at this ⊢
      exact this
set_option maxRecDepth 4000 in
theorem table_eq : ∃ T, checksum_newTable = some T ∧ T.length = 256 ∧ ∀ b, b < 256 → T.getD b 0 = entU b := by
  unfold checksum_newTable
  have hF := fuel_big; generalize FUEL = N at hF ⊢
  obtain ⟨T, h1, h2, h3⟩ := table_l1_eq rfl 256 N (List.replicate 256 0) 0 rfl (by omega) (by simp) (fun b hb => absurd hb (by omega))
  exact ⟨T, by rw [h1]; rfl, h2, h3⟩
theorem run_step {T : List UInt32} (ht : ∀ b, b < 256 → T.getD b 0 = entU b) (r : UInt32) (e : UInt8) :
    (T.getD (((to_u8 (r.toNat : Int)) ^^^ e).toNat) 0) ^^^ (shr_u32 r 8) = byU r e := by
  rw [ht _ (UInt8.toNat_lt _)]
  rw [← UInt32.toBitVec_inj, UInt32.toBitVec_xor, entU, iter_stU, bv_shr32 r (by omega)]
  show _ = byB _ _
  have e1 : (to_u32 ((((to_u8 (r.toNat : Int)) ^^^ e).toNat : Nat) : Int)).toBitVec = (r.toBitVec.setWidth 8 ^^^ e.toBitVec).setWidth 32 := by
    rw [bv_to_u32_8, UInt8.toBitVec_xor, bv_to_u8_32]
  rw [e1]
  generalize r.toBitVec = x
  generalize e.toBitVec = b
  unfold byB
  have e2 : x ^^^ b.setWidth 32 = (x.setWidth 8 ^^^ b).setWidth 32 ^^^ ((x >>> 8) <<< 8) := by
    refine BitVec.eq_of_getLsbD_eq fun i hi => ?_
    simp only [BitVec.getLsbD_xor, BitVec.getLsbD_setWidth, hi, decide_true, Bool.true_and, BitVec.getLsbD_shiftLeft, BitVec.getLsbD_ushiftRight]
    by_cases h8 : i < 8
    · simp [h8]
    · have e1 : 8 + (i - 8) = i := by omega
      have hb : b.getLsbD i = false := BitVec.getLsbD_of_ge _ _ (by omega)
      simp [h8, e1, hb]
  have e3 : ∀ (n : Nat) {y : BitVec 32}, (∀ i, i < n → y.getLsbD i = false) → iterN stB n y = y >>> n := by
    intro n
    induction n with
    | zero => intro y _; simp [iterN]
    | succ n ih =>
      intro y h
      have h0 := h 0 (by omega)
      have e : stB y = y >>> 1 := by unfold stB; rw [h0]; simp
      show iterN stB n (stB y) = _
      rw [e, ih (fun i hi => by rw [BitVec.getLsbD_ushiftRight]; exact h _ (by omega)), ← BitVec.shiftRight_add, Nat.add_comm]
  rw [e2, iterB_xor, e3 8 (y := (x >>> 8) <<< 8) (fun i hi => by simp [hi])]
  congr 1
  refine BitVec.eq_of_getLsbD_eq fun i hi => ?_
  simp only [BitVec.getLsbD_ushiftRight, BitVec.getLsbD_shiftLeft]
  have e2 : 8 + i - 8 = i := by omega
  rw [e2]
  by_cases h : 8 + i < 32
  · simp [h]
  · have : x.getLsbD (8 + i) = false := BitVec.getLsbD_of_ge _ _ (by omega)
    simp [h, this]
theorem run_l1_eq {T : List UInt32} (ht : ∀ b, b < 256 → T.getD b 0 = entU b) : ∀ (l : List UInt8) (r : UInt32), checksum_table_run__checksum_spread_1_l1 T l r = some (l.foldl byU r)
  | [], _ => rfl
  | e :: l, r => by
    simp only [checksum_table_run__checksum_spread_1_l1, checksum_table_run__checksum_spread_1_l1_b, run_step ht]
    exact run_l1_eq ht l _
theorem bytesK_fold (w : UInt64) : ∀ (k : Nat) (x : UInt32), k ≤ 8 → (bytesK w k).foldl byU ⟨bytesB x.toBitVec w.toBitVec (8 - k)⟩ = woU x w
  | 0, x, _ => by
    rw [← UInt32.toBitVec_inj]
    exact wo_bytes.symm
  | k + 1, x, hk => by
    have e : byU ⟨bytesB x.toBitVec w.toBitVec (8 - (k + 1))⟩ (to_u8 ((shr_u64 w (8 * (8 - (k + 1)))).toNat : Int)) = ⟨bytesB x.toBitVec w.toBitVec (8 - k)⟩ := by
      rw [← UInt32.toBitVec_inj]
      show byB _ _ = _
      rw [bv_to_u8_64, bv_shr64 w (by omega), show 8 - k = (8 - (k + 1)) + 1 by omega]; rfl
    rw [bytesK, List.foldl_cons, e]
    exact bytesK_fold w k x (by omega)
theorem spread_fold : ∀ (l : List UInt64) (x : UInt32), (spreadL l).foldl byU x = l.foldl woU x
  | [], _ => rfl
  | w :: l, x => by
    have h := bytesK_fold w 8 x (by omega)
    rw [show (⟨bytesB x.toBitVec w.toBitVec (8 - 8)⟩ : UInt32) = x from rfl] at h
    rw [spreadL, List.foldl_append, h, List.foldl_cons]
    exact spread_fold l _
theorem Extend_eq {sum : UInt32} {l : List UInt64} : checksum_Extend sum l = some (crcE sum l) := by
  obtain ⟨T, h1, h2, h3⟩ := table_eq
  unfold checksum_Extend
  rw [h1, Option.bind_some, grd_pos (decide_eq_true h2)]
  simp only [checksum_spread, Option.bind_some, checksum_table_run__checksum_spread_1, run_l1_eq h3, spread_fold]; rfl
theorem Words_eq {l : List UInt64} : checksum_Words l = some (crcU l) := by
  unfold checksum_Words
  rw [Extend_eq]; rfl
end Go.Proofs
set_option linter.unusedSimpArgs false
set_option linter.unusedVariables false
set_option maxRecDepth 20000
set_option maxHeartbeats 4000000
namespace Go.Proofs
open Go.VG
theorem bs_27_1_0 (v0 : Int) : BuildsSlice Try.prog 27 1 [(0, .int .u64 v0)] 22 [.int .u64 v0] := fun w => by kernel_rfl
def block_ReadAll_l1_b (x_0 : Dvc) (at_1 : Int) (n_2 : Int) (s : ArrS) (rec : Nat → (List UInt64) → Option (((List UInt64)) ⊕ ((List UInt64) × Int))) (x14 : Nat) (x15 : List UInt64) : Option (((List UInt64)) ⊕ ((List UInt64) × Int)) :=
  if (((x14 : Nat) : Int) < n_2) then
    grd (inI64 ((at_1 + ((x14 : Nat) : Int)))) <|
    Option.bind (Dvc.rd x_0 s ((at_1 + ((x14 : Nat) : Int)))) fun r19 =>
    if (r19.2 ≠ (0 : Int)) then
      some (.inr ([], r19.2))
    else
      grd (inLen (x15.length + 1)) <|
      grd (inN64 (x14 + 1)) <|
      rec (x14 + 1) (x15 ++ [r19.1])
  else
    some (.inl x15)
def block_ReadAll_l1 (x_0 : Dvc) (at_1 : Int) (n_2 : Int) (s : ArrS) : Nat → Nat → (List UInt64) → Option (((List UInt64)) ⊕ ((List UInt64) × Int))
  | 0, _, _ => none
  | n + 1, x14, x15 => block_ReadAll_l1_b x_0 at_1 n_2 s (block_ReadAll_l1 x_0 at_1 n_2 s n) x14 x15
def block_ReadAll (x_0 : Dvc) (at_1 : Int) (n_2 : Int) (s : ArrS) : Option ((List UInt64) × Int) :=
  Option.bind (Dvc.size x_0 s) fun r2 =>
  Option.bind (block_inside r2 at_1 n_2) fun r4 =>
  if (¬ r4 = true) then
    some (([], (1 : Int)))
  else
    seqO (block_ReadAll_l1 x_0 at_1 n_2 s FUEL 0 ([])) fun a13 =>
    some ((a13, (0 : Int)))
theorem L_block_ReadAll {W : World} {vx_0 : IfH} {bs : Nat} {x_0 : Dvc} {at_1 : Int} {n_2 : Int} {s : ArrS} {r : (List UInt64) × Int} (h : block_ReadAll x_0 at_1 n_2 s = some r) :
    CSpec Try.prog W 39 [IfH.v vx_0, .int .i64 at_1, .int .i64 n_2] [DevP bs x_0 vx_0, Arr bs s] (fun x : Sl3 => .tuple #[x.v, .int .i64 r.2]) (fun _ => True) (fun x F => DevP bs x_0 vx_0 :: Arr bs s :: sl tyU x.v r.1 :: F) := by
 refine CSpec.of_body Try.func39 rfl Try.ntmps39 rfl fun F => ?_
 show CJ _ _ _ _ _ _ (_ :: _ :: F)
 unfold block_ReadAll at h
 refine sR <| oA rfl rfl <| oA rfl rfl <| nT <| CJ_seq <| sR <| oM rfl rfl <| RJ_pure (fun h hh => DevP_dep h (stars_perm (del0 (A := DevP bs x_0 vx_0)).out h hh)) fun hdp1 => ?_
 obtain ⟨r2, hr3, h⟩ := bind_e h
 refine oO <| O_callI rfl (dev_Size hr3 hdp1) rfl (Dels.cons del0 (Dels.cons del0 Dels.nil)) rfl fun _ _ => oM rfl rfl <| oM rfl rfl ?_
 obtain ⟨r4, hr5, h⟩ := bind_e h
 refine oO <| O_call (L_block_inside hr5) rfl Try.call45 Dels.nil rfl fun _ _ => oP (P_not rfl) rfl <| nT <| CJ_condP rfl (bT_not Iff.rfl) (fun hg1 => ?_) (fun hg1 => ?_)
 ·
  replace h := ite_t hg1 h
  refine sR <| oA rfl rfl <| oA rfl rfl <| nT <| CJ_ret <| QJ_then_ret <| QJ_ent (fun h hh => sl_nil (t := tyU) h hh) ?_
  cases h
  exact fE (res2 Try.results39 rfl rfl) ⟨none, 0, 0⟩ (t1_ (t1_ eR))
 ·
  replace h := ite_f hg1 h
  refine kT <| sR <| oA rfl rfl <| nT <| CJ_seq <| sR <| oM rfl rfl <| oM rfl rfl <| nT <| CJ_ent (fun h hh => sl_nil (t := tyU) h hh) ?_
  obtain ⟨y10, hl8, hK9⟩ := seq_e h
  refine CJ_cutT (X := (List UInt64) × Sl3) [6, 7, 8, 9, 10, 11, 19, 20, 21, 22, 23, 24, 25, 26, 27, 28, 29, 30, 31, 32, 33, 34, 35, 36, 37] (fun ⟨a13, hd12⟩ => ([(8, hd12.v)] : Slots)) (fun ⟨a13, hd12⟩ R => sl tyU hd12.v a13 :: R) (fun ⟨a13, hd12⟩ => y10 = .inl a13) (Dels.cons del0 Dels.nil) ?_ ?_
  ·
   refine CJ_block <| CJ_loopR (X := Nat × Nat × (List UInt64) × Sl3) [6, 7, 8, 9, 10, 11, 19, 20, 21, 22, 23, 24, 25, 26, 27, 28, 29, 30, 31, 32, 33, 34, 35, 36, 37] (fun ⟨n, x14, x15, hd16⟩ => ([(8, hd16.v), (19, .int .i64 (((x14 : Nat) : Int)))] : Slots)) (fun ⟨n, x14, x15, hd16⟩ R => sl tyU hd16.v x15 :: R) (fun ⟨n, x14, x15, hd16⟩ => block_ReadAll_l1 x_0 at_1 n_2 s n x14 x15 = some y10) (fun ⟨n, x14, x15, hd16⟩ => n) ⟨FUEL, 0, [], ⟨none, 0, 0⟩⟩ ?_ ?_ eR ?_
   · exact hl8
   · exact ⟨rfl, rfl, True.intro⟩
   ·
    rintro ⟨n, x14, x15, hd16⟩ h
    cases n with
    | zero => exact none_e h
    | succ n => ?_
    replace h : block_ReadAll_l1_b x_0 at_1 n_2 s (block_ReadAll_l1 x_0 at_1 n_2 s n) x14 x15 = some y10 := h
    unfold block_ReadAll_l1_b at h
    show CJ _ _ _ _ _ (([(8, hd16.v), (19, .int .i64 (((x14 : Nat) : Int)))] : Slots) ++ forget _ _) (sl tyU hd16.v x15 :: _)
    refine lC del0 fun hlen17 => sR <| oP (P_lss (a := ((x14 : Nat) : Int)) (b := n_2) rfl rfl) rfl <| nT <| CJ_seq <| CJ_condP rfl bT_dec (fun hg2 => ?_) (fun hg2 => ?_)
    ·
     replace h := ite_t hg2 h
     refine kT <| CJ_seq <| CJ_block <| sR <| oM rfl rfl <| oA rfl rfl <| nT <| sR <| oM rfl rfl <| oM rfl rfl <| oM rfl rfl ?_
     obtain ⟨hg3, h⟩ := grd_Ie h
     refine oP (P_add (a := at_1) (b := ((x14 : Nat) : Int)) rfl rfl hg3) rfl <| RJ_pure (fun h hh => DevP_dep h (stars_perm (del1 (A := DevP bs x_0 vx_0)).out h hh)) fun hdp18 => ?_
     obtain ⟨r19, hr20, h⟩ := bind_e h
     refine oO <| O_callI rfl (dev_Read hr20 hdp18) rfl (Dels.cons del1 (Dels.cons del1 Dels.nil)) rfl fun _ _ => oM rfl rfl <| oP (P_extract rfl rfl) rfl <| oP (P_extract rfl rfl) rfl <| oA rfl rfl <| oA rfl rfl <| nT <| CJ_seq <| sR <| oM rfl rfl <| oP (P_neq (a := r19.2) (b := (0 : Int)) rfl rfl) rfl <| nT <| CJ_condP rfl bT_dec (fun hg4 => ?_) (fun hg4 => ?_)
     ·
      replace h := ite_t hg4 h
      refine sR <| oM rfl rfl <| oA rfl rfl <| oA rfl rfl <| nT <| CJ_ret <| QJ_then_ret <| QJ_block_ret <| QJ_then_ret <| QJ_round_ret <| QJ_block_ret <| QJ_then_ret <| QJ_ent (fun h hh => sl_nil (t := tyU) h hh) ?_
      have hE := Option.some.inj h
      replace hE := seq_inr hK9 hE.symm
      subst hE
      exact fE (res2 Try.results39 rfl rfl) ⟨none, 0, 0⟩ (t1_ (t1_ (t0_ (eD eR))))
     ·
      replace h := ite_f hg4 h
      refine kT <| CJ_region <| oM rfl rfl <| oM rfl rfl <| oO <| O_buildSlice rfl (bs_27_1_0 _) rfl fun b22 => ?_
      obtain ⟨hg5, h⟩ := grd_Le h
      refine oO <| O_append (t := tyU) (bytes := 8) rfl rfl del3 foc0 (Reads.lit (t := tyU) (ys := [r19.1]) rfl rfl (by decide) (by decide) rfl) Try.underlying27 ok_tyU (apl (m := 1) (b := 8) hg5 (by decide)).1 (apl (m := 1) (b := 8) hg5 (by decide)).2 rfl fun p24 c25 => oA rfl rfl <| RJ_nil <| QJ_block_normal <| QJ_then <| CJ_region ?_
      obtain ⟨hg6, h⟩ := grd_Ne h
      exact oP (PJ_eq (P_add (a := ((x14 : Nat) : Int)) (b := (1 : Int)) rfl rfl (nat_in hg6)) rfl) rfl <| oM rfl rfl <| RJ_nil <| nR ⟨n, (x14 + 1), (x15 ++ [r19.1]), ⟨p24, (x15 ++ [r19.1]).length, c25⟩⟩ h ⟨rfl, rfl, True.intro⟩ (t0_ (t1_ (t1_ (eD eR))))
    ·
     replace h := ite_f hg2 h
     exact CJ_exit <| QJ_then_exit <| QJ_round_exit <| QJ_block_here <| cR ⟨x15, hd16⟩ (Option.some.inj h).symm ⟨rfl, True.intro⟩ eR
  ·
   rintro ⟨a13, hd12⟩ hy26
   replace h := seq_inl hK9 hy26
   show CJ _ _ _ _ _ (([(8, hd12.v)] : Slots) ++ forget _ _) (sl tyU hd12.v a13 :: _)
   refine lC del0 fun hlen27 => sR <| oM rfl rfl <| oA rfl rfl <| oA rfl rfl <| nT <| CJ_ret ?_
   cases h
   exact fE (res2 Try.results39 rfl rfl) hd12 (t1_ (t1_ eR))
def block_WriteAll_l1_b (x_0 : Dvc) (at_1 : Int) (l : List UInt64) (rec : ArrS → Nat → Option ((ArrS) ⊕ (Int × ArrS))) (x12 : ArrS) (x13 : Nat) : Option ((ArrS) ⊕ (Int × ArrS)) :=
  if (((x13 : Nat) : Int) < ((l.length : Nat) : Int)) then
    grd (inI64 ((at_1 + ((x13 : Nat) : Int)))) <|
    Option.bind (Dvc.wr x_0 x12 ((at_1 + ((x13 : Nat) : Int))) (l.getD x13 0)) fun r15 =>
    if (r15.1 ≠ (0 : Int)) then
      some (.inr (r15.1, r15.2))
    else
      rec r15.2 (x13 + 1)
  else
    some (.inl x12)
def block_WriteAll_l1 (x_0 : Dvc) (at_1 : Int) (l : List UInt64) : Nat → ArrS → Nat → Option ((ArrS) ⊕ (Int × ArrS))
  | 0, _, _ => none
  | n + 1, x12, x13 => block_WriteAll_l1_b x_0 at_1 l (block_WriteAll_l1 x_0 at_1 l n) x12 x13
def block_WriteAll (x_0 : Dvc) (at_1 : Int) (l : List UInt64) (s : ArrS) : Option (Int × ArrS) :=
  Option.bind (Dvc.size x_0 s) fun r3 =>
  Option.bind (block_inside r3 at_1 (((l.length : Nat) : Int))) fun r5 =>
  if (¬ r5 = true) then
    some (((1 : Int), s))
  else
    seqO (block_WriteAll_l1 x_0 at_1 l FUEL s 0) fun a11 =>
    some (((0 : Int), a11))
theorem L_block_WriteAll {W : World} {vx_0 : IfH} {Al : HP} {vl : Value} {bs : Nat} {x_0 : Dvc} {at_1 : Int} {l : List UInt64} {s : ArrS} {r : Int × ArrS} (rl : Reads Al tyU vl l) (h : block_WriteAll x_0 at_1 l s = some r) :
    CSpec Try.prog W 37 [IfH.v vx_0, .int .i64 at_1, vl] [DevP bs x_0 vx_0, Al, Arr bs s] (fun x : Unit => .int .i64 r.1) (fun _ => True) (fun x F => DevP bs x_0 vx_0 :: Al :: Arr bs r.2 :: F) := by
 refine CSpec.of_body Try.func37 rfl Try.ntmps37 rfl fun F => ?_
 show CJ _ _ _ _ _ _ (_ :: _ :: _ :: F)
 unfold block_WriteAll at h
 refine CJ_pure (len_of rl del1) fun hlen1 => sR <| oA rfl rfl <| nT <| CJ_seq <| sR <| oM rfl rfl <| RJ_pure (fun h hh => DevP_dep h (stars_perm (del0 (A := DevP bs x_0 vx_0)).out h hh)) fun hdp2 => ?_
 obtain ⟨r3, hr4, h⟩ := bind_e h
 refine oO <| O_callI rfl (dev_Size hr4 hdp2) rfl (Dels.cons del0 (Dels.cons del1 Dels.nil)) rfl fun _ _ => oM rfl rfl <| oM rfl rfl <| oV (V_len rfl foc2 rl Try.runUnderlying27) rfl ?_
 obtain ⟨r5, hr6, h⟩ := bind_e h
 refine oO <| O_call (L_block_inside hr6) rfl Try.call45 Dels.nil rfl fun _ _ => oP (P_not rfl) rfl <| nT <| CJ_condP rfl (bT_not Iff.rfl) (fun hg1 => ?_) (fun hg1 => ?_)
 ·
  replace h := ite_t hg1 h
  refine sR <| oA rfl rfl <| nT <| CJ_ret <| QJ_then_ret ?_
  cases h
  exact fE (res1 Try.results37 rfl) () (t0_ (t1_ eR))
 ·
  replace h := ite_f hg1 h
  refine kT <| CJ_seq <| sR <| oM rfl rfl <| oV (V_len rfl foc2 rl Try.runUnderlying27) rfl <| oM rfl rfl <| nT ?_
  obtain ⟨y9, hl7, hK8⟩ := seq_e h
  refine CJ_cutT (X := ArrS) [6, 7, 8, 9, 19, 20, 21, 22, 23, 24, 25, 26, 27, 28, 29, 30, 31, 32, 33] (fun a11 => ([] : Slots)) (fun a11 R => Arr bs a11 :: R) (fun a11 => y9 = .inl a11) (Dels.cons del1 Dels.nil) ?_ ?_
  ·
   refine CJ_block <| CJ_loopR (X := Nat × ArrS × Nat) [6, 7, 8, 9, 19, 20, 21, 22, 23, 24, 25, 26, 27, 28, 29, 30, 31, 32, 33] (fun ⟨n, x12, x13⟩ => ([(19, .int .i64 (((x13 : Nat) : Int)))] : Slots)) (fun ⟨n, x12, x13⟩ R => Arr bs x12 :: R) (fun ⟨n, x12, x13⟩ => block_WriteAll_l1 x_0 at_1 l n x12 x13 = some y9) (fun ⟨n, x12, x13⟩ => n) ⟨FUEL, s, 0⟩ ?_ ?_ (t1_ eR) ?_
   · exact hl7
   · exact ⟨rfl, True.intro⟩
   ·
    rintro ⟨n, x12, x13⟩ h
    cases n with
    | zero => exact none_e h
    | succ n => ?_
    replace h : block_WriteAll_l1_b x_0 at_1 l (block_WriteAll_l1 x_0 at_1 l n) x12 x13 = some y9 := h
    unfold block_WriteAll_l1_b at h
    show CJ _ _ _ _ _ (([(19, .int .i64 (((x13 : Nat) : Int)))] : Slots) ++ forget _ _) (Arr bs x12 :: _)
    refine sR <| oP (P_lss (a := ((x13 : Nat) : Int)) (b := ((l.length : Nat) : Int)) rfl rfl) rfl <| nT <| CJ_seq <| CJ_condP rfl bT_dec (fun hg2 => ?_) (fun hg2 => ?_)
    ·
     replace h := ite_t hg2 h
     refine kT <| CJ_seq <| CJ_block <| sR <| oM rfl rfl <| oV (V_index (i := x13) rfl rfl rfl (by omega) foc2 rl Try.runUnderlying27 Try.sizeOf22) rfl <| oV (V_loadE rfl rfl (by omega) foc2 rl rfl rfl Try.isAgg22) rfl <| oA rfl rfl <| oA rfl rfl <| nT <| sR <| oM rfl rfl <| oM rfl rfl <| oM rfl rfl ?_
     obtain ⟨hg3, h⟩ := grd_Ie h
     refine oP (P_add (a := at_1) (b := ((x13 : Nat) : Int)) rfl rfl hg3) rfl <| oM rfl rfl <| RJ_pure (fun h hh => DevP_dep h (stars_perm (del1 (A := DevP bs x_0 vx_0)).out h hh)) fun hdp14 => ?_
     obtain ⟨r15, hr16, h⟩ := bind_e h
     refine oO <| O_callI rfl (dev_Write hr16 hdp14) rfl (Dels.cons del1 (Dels.cons del0 Dels.nil)) rfl fun _ _ => oA rfl rfl <| nT <| sR <| oM rfl rfl <| oP (P_neq (a := r15.1) (b := (0 : Int)) rfl rfl) rfl <| nT <| CJ_condP rfl bT_dec (fun hg4 => ?_) (fun hg4 => ?_)
     ·
      replace h := ite_t hg4 h
      refine sR <| oM rfl rfl <| oA rfl rfl <| nT <| CJ_ret <| QJ_block_ret <| QJ_then_ret <| QJ_round_ret <| QJ_block_ret <| QJ_then_ret ?_
      have hE := Option.some.inj h
      replace hE := seq_inr hK8 hE.symm
      subst hE
      exact fE (res1 Try.results37 rfl) () (t0_ (t1_ eR))
     ·
      replace h := ite_f hg4 h
      exact CJ_skip <| QJ_block_normal <| QJ_then <| CJ_region <| oP (PJ_eq (P_add (a := ((x13 : Nat) : Int)) (b := (1 : Int)) rfl rfl (by omega)) rfl) rfl <| oM rfl rfl <| RJ_nil <| nR ⟨n, r15.2, (x13 + 1)⟩ h ⟨rfl, True.intro⟩ (t1_ eR)
    ·
     replace h := ite_f hg2 h
     exact CJ_exit <| QJ_then_exit <| QJ_round_exit <| QJ_block_here <| cR x12 (Option.some.inj h).symm True.intro eR
  ·
   rintro a11 hy17
   replace h := seq_inl hK8 hy17
   show CJ _ _ _ _ _ (([] : Slots) ++ forget _ _) (Arr bs a11 :: _)
   refine sR <| oA rfl rfl <| nT <| CJ_ret ?_
   cases h
   exact fE (res1 Try.results37 rfl) () (t1_ (t1_ eR))
end Go.Proofs
set_option linter.unusedSimpArgs false
set_option linter.unusedVariables false
set_option maxRecDepth 20000
set_option maxHeartbeats 4000000
namespace Go.Proofs
open Go.VG
@[ext] structure api_Label where
  ID : UInt64
  Size : Int
  Start : Int
  Area : Int
  Group : UInt64
  deriving DecidableEq
abbrev tyapi_Label : Ty api_Label := { T := 24, sz := 5, enc := fun x => [.int .u64 (x.ID.toNat : Int), .int .i64 x.Size, .int .i64 x.Start, .int .i64 x.Area, .int .u64 (x.Group.toNat : Int)], dflt := ⟨0, 0, 0, 0, 0⟩, len := fun _ => rfl, one := fun _ => rfl, pos := by decide }
@[ext] structure Arr62 where
  e0 : UInt64
  e1 : UInt64
  e2 : UInt64
  e3 : UInt64
  e4 : UInt64
  e5 : UInt64
  e6 : UInt64
  e7 : UInt64
  deriving DecidableEq
abbrev tyArr62 : Ty Arr62 := { T := 62, sz := 8, enc := fun x => [.int .u64 (x.e0.toNat : Int), .int .u64 (x.e1.toNat : Int), .int .u64 (x.e2.toNat : Int), .int .u64 (x.e3.toNat : Int), .int .u64 (x.e4.toNat : Int), .int .u64 (x.e5.toNat : Int), .int .u64 (x.e6.toNat : Int), .int .u64 (x.e7.toNat : Int)], dflt := ⟨0, 0, 0, 0, 0, 0, 0, 0⟩, len := fun _ => rfl, one := fun _ => rfl, pos := by decide }
abbrev tyA62 : Ty UInt64 := { tyU with T := 62 }
theorem bld_62_0_1_2_3_4_5 (v0 : Int) (v1 : Int) (v2 : Int) (v3 : Int) (v4 : Int) (v5 : Int) : ∀ w, (Instr.build 62 (#[(0, .int .u64 v0), (1, .int .u64 v1), (2, .int .u64 v2), (3, .int .u64 v3), (4, .int .u64 v4), (5, .int .u64 v5)] : Array (Nat × Value))).run Try.prog w = .ok (.agg #[.int .u64 v0, .int .u64 v1, .int .u64 v2, .int .u64 v3, .int .u64 v4, .int .u64 v5, .int .u64 0, .int .u64 0]) w := fun w => by kernel_rfl
theorem bs_27_7_0_1_2_3_4_5_6 (v0 : Int) (v1 : Int) (v2 : Int) (v3 : Int) (v4 : Int) (v5 : Int) (v6 : Int) : BuildsSlice Try.prog 27 7 [(0, .int .u64 v0), (1, .int .u64 v1), (2, .int .u64 v2), (3, .int .u64 v3), (4, .int .u64 v4), (5, .int .u64 v5), (6, .int .u64 v6)] 22 [.int .u64 v0, .int .u64 v1, .int .u64 v2, .int .u64 v3, .int .u64 v4, .int .u64 v5, .int .u64 v6] := fun w => by kernel_rfl
theorem bld_24 : ∀ w, (Instr.build 24 (#[] : Array (Nat × Value))).run Try.prog w = .ok (.agg #[.int .u64 0, .int .i64 (0 : Int), .int .i64 (0 : Int), .int .i64 (0 : Int), .int .u64 0]) w := fun w => by kernel_rfl
theorem takes_tyU_8 {xs : List UInt64} (h : 8 ≤ xs.length) : flat tyU (xs.take 8) = [.int .u64 ((xs.getD 0 0).toNat : Int), .int .u64 ((xs.getD 1 0).toNat : Int), .int .u64 ((xs.getD 2 0).toNat : Int), .int .u64 ((xs.getD 3 0).toNat : Int), .int .u64 ((xs.getD 4 0).toNat : Int), .int .u64 ((xs.getD 5 0).toNat : Int), .int .u64 ((xs.getD 6 0).toNat : Int), .int .u64 ((xs.getD 7 0).toNat : Int)] := by rw [take_getD 0 8 h]; rfl
theorem bld_24_0_1_2_3_4 (v0 : Int) (v1 : Int) (v2 : Int) (v3 : Int) (v4 : Int) : ∀ w, (Instr.build 24 (#[(0, .int .u64 v0), (1, .int .i64 v1), (2, .int .i64 v2), (3, .int .i64 v3), (4, .int .u64 v4)] : Array (Nat × Value))).run Try.prog w = .ok (.agg #[.int .u64 v0, .int .i64 v1, .int .i64 v2, .int .i64 v3, .int .u64 v4]) w := fun w => by kernel_rfl
theorem eqs_62 : EqsAt Try.prog 62 (fun x => .agg ((tyArr62).enc x).toArray) := eqs_array (enc := (tyArr62).enc) (m := 8) (e := 22) (i := Try.t22) (by kernel_rfl) (by kernel_rfl) (fun x y => [((x.e0.toNat : Int) == (y.e0.toNat : Int)), ((x.e1.toNat : Int) == (y.e1.toNat : Int)), ((x.e2.toNat : Int) == (y.e2.toNat : Int)), ((x.e3.toNat : Int) == (y.e3.toNat : Int)), ((x.e4.toNat : Int) == (y.e4.toNat : Int)), ((x.e5.toNat : Int) == (y.e5.toNat : Int)), ((x.e6.toNat : Int) == (y.e6.toNat : Int)), ((x.e7.toNat : Int) == (y.e7.toNat : Int))]) (fun x y => ⟨⟨.int .u64 (x.e0.toNat : Int), .int .u64 (y.e0.toNat : Int), fun _ => by kernel_rfl, fun _ => by kernel_rfl, fun w => run_equalIn_int w 9998 22 _ _ _ _ Try.underlying22⟩, ⟨⟨.int .u64 (x.e1.toNat : Int), .int .u64 (y.e1.toNat : Int), fun _ => by kernel_rfl, fun _ => by kernel_rfl, fun w => run_equalIn_int w 9998 22 _ _ _ _ Try.underlying22⟩, ⟨⟨.int .u64 (x.e2.toNat : Int), .int .u64 (y.e2.toNat : Int), fun _ => by kernel_rfl, fun _ => by kernel_rfl, fun w => run_equalIn_int w 9998 22 _ _ _ _ Try.underlying22⟩, ⟨⟨.int .u64 (x.e3.toNat : Int), .int .u64 (y.e3.toNat : Int), fun _ => by kernel_rfl, fun _ => by kernel_rfl, fun w => run_equalIn_int w 9998 22 _ _ _ _ Try.underlying22⟩, ⟨⟨.int .u64 (x.e4.toNat : Int), .int .u64 (y.e4.toNat : Int), fun _ => by kernel_rfl, fun _ => by kernel_rfl, fun w => run_equalIn_int w 9998 22 _ _ _ _ Try.underlying22⟩, ⟨⟨.int .u64 (x.e5.toNat : Int), .int .u64 (y.e5.toNat : Int), fun _ => by kernel_rfl, fun _ => by kernel_rfl, fun w => run_equalIn_int w 9998 22 _ _ _ _ Try.underlying22⟩, ⟨⟨.int .u64 (x.e6.toNat : Int), .int .u64 (y.e6.toNat : Int), fun _ => by kernel_rfl, fun _ => by kernel_rfl, fun w => run_equalIn_int w 9998 22 _ _ _ _ Try.underlying22⟩, ⟨⟨.int .u64 (x.e7.toNat : Int), .int .u64 (y.e7.toNat : Int), fun _ => by kernel_rfl, fun _ => by kernel_rfl, fun w => run_equalIn_int w 9998 22 _ _ _ _ Try.underlying22⟩, trivial⟩⟩⟩⟩⟩⟩⟩⟩) (fun x y => by
  rw [Bool.eq_iff_iff]
  simp only [u64_ibeq, List.all_cons, List.all_nil, id, Bool.and_true, Bool.and_eq_true, decide_eq_true_eq, beq_iff_eq, Arr62.ext_iff])
def label_Check (l : api_Label) : Option (Int) :=
  if ((((((l.Size < (1 : Int)) ∨ ((65536 : Int) < l.Size)) ∨ (l.Start < (8 : Int))) ∨ (l.Area < (4 : Int))) ∨ (l.Size < l.Start)) ∨ ((l.Size - l.Start) < l.Area)) then
    some (1 : Int)
  else
    some (0 : Int)
theorem L_label_Check {W : World} {l : api_Label} {r : Int} (h : label_Check l = some r) :
    CSpec Try.prog W 12 [.agg #[.int .u64 (l.ID.toNat : Int), .int .i64 l.Size, .int .i64 l.Start, .int .i64 l.Area, .int .u64 (l.Group.toNat : Int)]] [] (fun x : Unit => .int .i64 r) (fun _ => True) (fun x F => F) := by
 refine CSpec.of_body Try.func12 rfl Try.ntmps12 rfl fun F => ?_
 show CJ _ _ _ _ _ _ (F)
 unfold label_Check at h
 refine sR <| oO <| O_box rfl rfl rfl fun b1 => oA rfl rfl <| nT <| CJ_seq <| sR <| oP (P_fieldAddr rfl ⟨_, _, _, Try.runUnderlying24, rfl, rfl, Try.sizeOf3, rfl⟩) rfl <| oV (V_load rfl foc0 rfl Try.isAgg3) rfl <| oP (P_lss (a := l.Size) (b := (1 : Int)) rfl rfl) rfl <| oM rfl rfl <| RJ_mbF rfl rfl rfl (fun hG2 => have hP3 : ¬ (l.Size < (1 : Int)) := nP (bT_dec) hG2; VJ_P (P_fieldAddr rfl ⟨_, _, _, Try.runUnderlying24, rfl, rfl, Try.sizeOf3, rfl⟩)) <| RJ_mbF rfl rfl rfl (fun hG4 => have hP5 : ¬ (l.Size < (1 : Int)) := nP (bT_dec) hG4; V_load (mbx hG4 rfl) foc0 rfl Try.isAgg3) <| RJ_mbF rfl rfl rfl (fun hG6 => have hP7 : ¬ (l.Size < (1 : Int)) := nP (bT_dec) hG6; VJ_P (P_gtr (a := l.Size) (b := (65536 : Int)) (mbx hG6 rfl) rfl)) <| oP (P_pickOr rfl rfl (fun hh => mbx (not_f hh) rfl)) rfl <| oM rfl rfl <| RJ_mbF rfl rfl rfl (fun hG8 => have hP9 : ¬ ((l.Size < (1 : Int)) ∨ ((65536 : Int) < l.Size)) := nP ((bT_or bT_dec bT_dec)) hG8; VJ_P (P_fieldAddr rfl ⟨_, _, _, Try.runUnderlying24, rfl, rfl, Try.sizeOf3, rfl⟩)) <| RJ_mbF rfl rfl rfl (fun hG10 => have hP11 : ¬ ((l.Size < (1 : Int)) ∨ ((65536 : Int) < l.Size)) := nP ((bT_or bT_dec bT_dec)) hG10; V_load (mbx hG10 rfl) foc0 rfl Try.isAgg3) <| RJ_mbF rfl rfl rfl (fun hG12 => have hP13 : ¬ ((l.Size < (1 : Int)) ∨ ((65536 : Int) < l.Size)) := nP ((bT_or bT_dec bT_dec)) hG12; VJ_P (P_lss (a := l.Start) (b := (8 : Int)) (mbx hG12 rfl) rfl)) <| oP (P_pickOr rfl rfl (fun hh => mbx (not_f hh) rfl)) rfl <| oM rfl rfl ?_
 refine RJ_mbF rfl rfl rfl (fun hG14 => have hP15 : ¬ (((l.Size < (1 : Int)) ∨ ((65536 : Int) < l.Size)) ∨ (l.Start < (8 : Int))) := nP ((bT_or (bT_or bT_dec bT_dec) bT_dec)) hG14; VJ_P (P_fieldAddr rfl ⟨_, _, _, Try.runUnderlying24, rfl, rfl, Try.sizeOf3, rfl⟩)) <| RJ_mbF rfl rfl rfl (fun hG16 => have hP17 : ¬ (((l.Size < (1 : Int)) ∨ ((65536 : Int) < l.Size)) ∨ (l.Start < (8 : Int))) := nP ((bT_or (bT_or bT_dec bT_dec) bT_dec)) hG16; V_load (mbx hG16 rfl) foc0 rfl Try.isAgg3) <| RJ_mbF rfl rfl rfl (fun hG18 => have hP19 : ¬ (((l.Size < (1 : Int)) ∨ ((65536 : Int) < l.Size)) ∨ (l.Start < (8 : Int))) := nP ((bT_or (bT_or bT_dec bT_dec) bT_dec)) hG18; VJ_P (P_lss (a := l.Area) (b := (4 : Int)) (mbx hG18 rfl) rfl)) <| oP (P_pickOr rfl rfl (fun hh => mbx (not_f hh) rfl)) rfl <| oM rfl rfl <| RJ_mbF rfl rfl rfl (fun hG20 => have hP21 : ¬ ((((l.Size < (1 : Int)) ∨ ((65536 : Int) < l.Size)) ∨ (l.Start < (8 : Int))) ∨ (l.Area < (4 : Int))) := nP ((bT_or (bT_or (bT_or bT_dec bT_dec) bT_dec) bT_dec)) hG20; VJ_P (P_fieldAddr rfl ⟨_, _, _, Try.runUnderlying24, rfl, rfl, Try.sizeOf3, rfl⟩)) <| RJ_mbF rfl rfl rfl (fun hG22 => have hP23 : ¬ ((((l.Size < (1 : Int)) ∨ ((65536 : Int) < l.Size)) ∨ (l.Start < (8 : Int))) ∨ (l.Area < (4 : Int))) := nP ((bT_or (bT_or (bT_or bT_dec bT_dec) bT_dec) bT_dec)) hG22; V_load (mbx hG22 rfl) foc0 rfl Try.isAgg3) ?_
 refine RJ_mbF rfl rfl rfl (fun hG24 => have hP25 : ¬ ((((l.Size < (1 : Int)) ∨ ((65536 : Int) < l.Size)) ∨ (l.Start < (8 : Int))) ∨ (l.Area < (4 : Int))) := nP ((bT_or (bT_or (bT_or bT_dec bT_dec) bT_dec) bT_dec)) hG24; VJ_P (P_fieldAddr rfl ⟨_, _, _, Try.runUnderlying24, rfl, rfl, Try.sizeOf3, rfl⟩)) <| RJ_mbF rfl rfl rfl (fun hG26 => have hP27 : ¬ ((((l.Size < (1 : Int)) ∨ ((65536 : Int) < l.Size)) ∨ (l.Start < (8 : Int))) ∨ (l.Area < (4 : Int))) := nP ((bT_or (bT_or (bT_or bT_dec bT_dec) bT_dec) bT_dec)) hG26; V_load (mbx hG26 rfl) foc0 rfl Try.isAgg3) <| RJ_mbF rfl rfl rfl (fun hG28 => have hP29 : ¬ ((((l.Size < (1 : Int)) ∨ ((65536 : Int) < l.Size)) ∨ (l.Start < (8 : Int))) ∨ (l.Area < (4 : Int))) := nP ((bT_or (bT_or (bT_or bT_dec bT_dec) bT_dec) bT_dec)) hG28; VJ_P (P_gtr (a := l.Start) (b := l.Size) (mbx hG28 rfl) (mbx hG28 rfl))) <| oP (P_pickOr rfl rfl (fun hh => mbx (not_f hh) rfl)) rfl <| oM rfl rfl <| RJ_mbF rfl rfl rfl (fun hG30 => have hP31 : ¬ (((((l.Size < (1 : Int)) ∨ ((65536 : Int) < l.Size)) ∨ (l.Start < (8 : Int))) ∨ (l.Area < (4 : Int))) ∨ (l.Size < l.Start)) := nP ((bT_or (bT_or (bT_or (bT_or bT_dec bT_dec) bT_dec) bT_dec) bT_dec)) hG30; VJ_P (P_fieldAddr rfl ⟨_, _, _, Try.runUnderlying24, rfl, rfl, Try.sizeOf3, rfl⟩)) ?_
 refine RJ_mbF rfl rfl rfl (fun hG32 => have hP33 : ¬ (((((l.Size < (1 : Int)) ∨ ((65536 : Int) < l.Size)) ∨ (l.Start < (8 : Int))) ∨ (l.Area < (4 : Int))) ∨ (l.Size < l.Start)) := nP ((bT_or (bT_or (bT_or (bT_or bT_dec bT_dec) bT_dec) bT_dec) bT_dec)) hG32; V_load (mbx hG32 rfl) foc0 rfl Try.isAgg3) <| RJ_mbF rfl rfl rfl (fun hG34 => have hP35 : ¬ (((((l.Size < (1 : Int)) ∨ ((65536 : Int) < l.Size)) ∨ (l.Start < (8 : Int))) ∨ (l.Area < (4 : Int))) ∨ (l.Size < l.Start)) := nP ((bT_or (bT_or (bT_or (bT_or bT_dec bT_dec) bT_dec) bT_dec) bT_dec)) hG34; VJ_P (P_fieldAddr rfl ⟨_, _, _, Try.runUnderlying24, rfl, rfl, Try.sizeOf3, rfl⟩)) <| RJ_mbF rfl rfl rfl (fun hG36 => have hP37 : ¬ (((((l.Size < (1 : Int)) ∨ ((65536 : Int) < l.Size)) ∨ (l.Start < (8 : Int))) ∨ (l.Area < (4 : Int))) ∨ (l.Size < l.Start)) := nP ((bT_or (bT_or (bT_or (bT_or bT_dec bT_dec) bT_dec) bT_dec) bT_dec)) hG36; V_load (mbx hG36 rfl) foc0 rfl Try.isAgg3) <| RJ_mbF rfl rfl rfl (fun hG38 => have hP39 : ¬ (((((l.Size < (1 : Int)) ∨ ((65536 : Int) < l.Size)) ∨ (l.Start < (8 : Int))) ∨ (l.Area < (4 : Int))) ∨ (l.Size < l.Start)) := nP ((bT_or (bT_or (bT_or (bT_or bT_dec bT_dec) bT_dec) bT_dec) bT_dec)) hG38; VJ_P (P_fieldAddr rfl ⟨_, _, _, Try.runUnderlying24, rfl, rfl, Try.sizeOf3, rfl⟩)) ?_
 refine RJ_mbF rfl rfl rfl (fun hG40 => have hP41 : ¬ (((((l.Size < (1 : Int)) ∨ ((65536 : Int) < l.Size)) ∨ (l.Start < (8 : Int))) ∨ (l.Area < (4 : Int))) ∨ (l.Size < l.Start)) := nP ((bT_or (bT_or (bT_or (bT_or bT_dec bT_dec) bT_dec) bT_dec) bT_dec)) hG40; V_load (mbx hG40 rfl) foc0 rfl Try.isAgg3) <| RJ_mbF rfl rfl rfl (fun hG42 => have hP43 : ¬ (((((l.Size < (1 : Int)) ∨ ((65536 : Int) < l.Size)) ∨ (l.Start < (8 : Int))) ∨ (l.Area < (4 : Int))) ∨ (l.Size < l.Start)) := nP ((bT_or (bT_or (bT_or (bT_or bT_dec bT_dec) bT_dec) bT_dec) bT_dec)) hG42; VJ_P (P_sub (a := l.Size) (b := l.Start) (mbx hG42 rfl) (mbx hG42 rfl) (by omega))) <| RJ_mbF rfl rfl rfl (fun hG44 => have hP45 : ¬ (((((l.Size < (1 : Int)) ∨ ((65536 : Int) < l.Size)) ∨ (l.Start < (8 : Int))) ∨ (l.Area < (4 : Int))) ∨ (l.Size < l.Start)) := nP ((bT_or (bT_or (bT_or (bT_or bT_dec bT_dec) bT_dec) bT_dec) bT_dec)) hG44; VJ_P (P_gtr (a := l.Area) (b := (l.Size - l.Start)) (mbx hG44 rfl) (mbx hG44 rfl))) <| oP (P_pickOr rfl rfl (fun hh => mbx (not_f hh) rfl)) rfl <| nT <| CJ_condP rfl (bT_or (bT_or (bT_or (bT_or (bT_or bT_dec bT_dec) bT_dec) bT_dec) bT_dec) bT_dec) (fun hg1 => ?_) (fun hg1 => ?_)
 ·
  replace h := ite_t hg1 h
  refine sR <| oA rfl rfl <| nT <| CJ_ret <| QJ_then_ret ?_
  cases h
  exact fE (res1 Try.results12 rfl) () (eD eR)
 ·
  replace h := ite_f hg1 h
  refine kT <| sR <| oA rfl rfl <| nT <| CJ_ret ?_
  cases h
  exact fE (res1 Try.results12 rfl) () (eD eR)
def label_words_sum (w : Arr62) : Option (UInt64) :=
  Option.bind (checksum_Words ([w.e0, w.e1, w.e2, w.e3, w.e4, w.e5, w.e7])) fun r3 =>
  some ((to_u64 (r3.toNat : Int)))
theorem L_label_words_sum {W : World} {w : Arr62} {r : UInt64} (h : label_words_sum w = some r) :
    CSpec Try.prog W 28 [.agg #[.int .u64 (w.e0.toNat : Int), .int .u64 (w.e1.toNat : Int), .int .u64 (w.e2.toNat : Int), .int .u64 (w.e3.toNat : Int), .int .u64 (w.e4.toNat : Int), .int .u64 (w.e5.toNat : Int), .int .u64 (w.e6.toNat : Int), .int .u64 (w.e7.toNat : Int)]] [] (fun x : Unit => .int .u64 (r.toNat : Int)) (fun _ => True) (fun x F => F) := by
 refine CSpec.of_body Try.func28 rfl Try.ntmps28 rfl fun F => ?_
 show CJ _ _ _ _ _ _ (F)
 unfold label_words_sum at h
 refine sR <| oO <| O_box rfl rfl rfl fun b1 => oA rfl rfl <| nT <| sR <| oP (P_indexArr (i := 0) rfl rfl rfl Try.runUnderlying62 Try.sizeOf22) rfl <| oV (V_load rfl foc0 rfl Try.isAgg22) rfl <| oP (P_indexArr (i := 1) rfl rfl rfl Try.runUnderlying62 Try.sizeOf22) rfl <| oV (V_load rfl foc0 rfl Try.isAgg22) rfl <| oP (P_indexArr (i := 2) rfl rfl rfl Try.runUnderlying62 Try.sizeOf22) rfl <| oV (V_load rfl foc0 rfl Try.isAgg22) rfl <| oP (P_indexArr (i := 3) rfl rfl rfl Try.runUnderlying62 Try.sizeOf22) rfl <| oV (V_load rfl foc0 rfl Try.isAgg22) rfl <| oP (P_indexArr (i := 4) rfl rfl rfl Try.runUnderlying62 Try.sizeOf22) rfl <| oV (V_load rfl foc0 rfl Try.isAgg22) rfl <| oP (P_indexArr (i := 5) rfl rfl rfl Try.runUnderlying62 Try.sizeOf22) rfl <| oV (V_load rfl foc0 rfl Try.isAgg22) rfl <| oP (P_indexArr (i := 7) rfl rfl rfl Try.runUnderlying62 Try.sizeOf22) rfl <| oV (V_load rfl foc0 rfl Try.isAgg22) rfl <| oO <| O_buildSlice rfl (bs_27_7_0_1_2_3_4_5_6 _ _ _ _ _ _ _) rfl fun b2 => RJ_ent (Ent.trans (t0_ eR) (sl_of_lit (t := tyU) (m := 7) [w.e0, w.e1, w.e2, w.e3, w.e4, w.e5, w.e7] rfl rfl rfl (by decide))) ?_
 obtain ⟨r3, hr4, h⟩ := bind_e h
 refine oO <| O_call (L_checksum_Words (Reads.sl _ _ _) hr4) rfl Try.call42 (Dels.cons del0 Dels.nil) rfl fun _ _ => oP (P_conv_u64 (a := (r3.toNat : Int)) rfl Try.runUnderlying26 Try.runUnderlying22) rfl <| oA rfl rfl <| nT <| CJ_ret ?_
 cases h
 exact fE (res1 Try.results28 rfl) () (eD (eD eR))
def label_pack (l : api_Label) : Option (Arr62) :=
  Option.bind (label_words_sum ((⟨(5494745885936405590 : UInt64), l.ID, (to_u64 l.Size), (to_u64 l.Start), (to_u64 l.Area), l.Group, (0 : UInt64), (0 : UInt64)⟩ : Arr62))) fun r4 =>
  some ((⟨(5494745885936405590 : UInt64), l.ID, (to_u64 l.Size), (to_u64 l.Start), (to_u64 l.Area), l.Group, r4, (0 : UInt64)⟩ : Arr62))
theorem L_label_pack {W : World} {l : api_Label} {r : Arr62} (h : label_pack l = some r) :
    CSpec Try.prog W 29 [.agg #[.int .u64 (l.ID.toNat : Int), .int .i64 l.Size, .int .i64 l.Start, .int .i64 l.Area, .int .u64 (l.Group.toNat : Int)]] [] (fun x : Unit => .agg #[.int .u64 (r.e0.toNat : Int), .int .u64 (r.e1.toNat : Int), .int .u64 (r.e2.toNat : Int), .int .u64 (r.e3.toNat : Int), .int .u64 (r.e4.toNat : Int), .int .u64 (r.e5.toNat : Int), .int .u64 (r.e6.toNat : Int), .int .u64 (r.e7.toNat : Int)]) (fun _ => True) (fun x F => F) := by
 refine CSpec.of_body Try.func29 rfl Try.ntmps29 rfl fun F => ?_
 show CJ _ _ _ _ _ _ (F)
 unfold label_pack at h
 refine sR <| oO <| O_box rfl rfl rfl fun b1 => oO <| O_alloc Try.zeroValue62 rfl rfl fun b2 => nT <| sR <| oP (P_fieldAddr rfl ⟨_, _, _, Try.runUnderlying24, rfl, rfl, Try.sizeOf22, rfl⟩) rfl <| oV (V_load rfl foc1 rfl Try.isAgg22) rfl <| oP (P_fieldAddr rfl ⟨_, _, _, Try.runUnderlying24, rfl, rfl, Try.sizeOf3, rfl⟩) rfl <| oV (V_load rfl foc1 rfl Try.isAgg3) rfl <| oP (P_conv_u64 (a := l.Size) rfl Try.runUnderlying3 Try.runUnderlying22) rfl <| oP (P_fieldAddr rfl ⟨_, _, _, Try.runUnderlying24, rfl, rfl, Try.sizeOf3, rfl⟩) rfl <| oV (V_load rfl foc1 rfl Try.isAgg3) rfl <| oP (P_conv_u64 (a := l.Start) rfl Try.runUnderlying3 Try.runUnderlying22) rfl <| oP (P_fieldAddr rfl ⟨_, _, _, Try.runUnderlying24, rfl, rfl, Try.sizeOf3, rfl⟩) rfl <| oV (V_load rfl foc1 rfl Try.isAgg3) rfl <| oP (P_conv_u64 (a := l.Area) rfl Try.runUnderlying3 Try.runUnderlying22) rfl <| oP (P_fieldAddr rfl ⟨_, _, _, Try.runUnderlying24, rfl, rfl, Try.sizeOf22, rfl⟩) rfl <| oV (V_load rfl foc1 rfl Try.isAgg22) rfl <| oP (P_build rfl (bld_62_0_1_2_3_4_5 _ _ _ _ _ _)) rfl <| oO <| O_alloc Try.zeroValue62 rfl rfl fun b3 => oO <| O_storeN rfl rfl foc0 Try.sizeOf62 rfl rfl rfl <| nT <| sR <| oV (V_loadN rfl foc0 Try.isAgg62 Try.sizeOf62 rfl rfl) rfl ?_
 obtain ⟨r4, hr5, h⟩ := bind_e h
 refine oO <| O_call (L_label_words_sum hr5) rfl Try.call28 Dels.nil rfl fun _ _ => oP (P_indexArr (i := 6) rfl rfl rfl Try.runUnderlying62 Try.sizeOf22) rfl <| oO <| O_store rfl rfl foc0 rfl rfl Try.sizeOf22 <| nT <| sR <| oV (V_loadN rfl foc0 Try.isAgg62 Try.sizeOf62 rfl rfl) rfl <| oO <| O_storeN rfl rfl foc1 Try.sizeOf62 rfl rfl rfl <| nT <| CJ_ret ?_
 cases h
 exact fE (resA1 Try.results29 (RV_cellN rfl foc1 Try.isAgg62 Try.sizeOf62 rfl rfl)) () (eD (eD (eD eR)))
def label_Words (l : api_Label) : Option ((List UInt64) × Int) :=
  Option.bind (label_Check (⟨l.ID, l.Size, l.Start, l.Area, l.Group⟩ : api_Label)) fun r2 =>
  if (r2 ≠ (0 : Int)) then
    some ([], r2)
  else
    Option.bind (label_pack (⟨l.ID, l.Size, l.Start, l.Area, l.Group⟩ : api_Label)) fun r5 =>
    some (([r5.e0, r5.e1, r5.e2, r5.e3, r5.e4, r5.e5, r5.e6, r5.e7], (0 : Int)))
theorem L_label_Words {W : World} {l : api_Label} {r : (List UInt64) × Int} (h : label_Words l = some r) :
    CSpec Try.prog W 11 [.agg #[.int .u64 (l.ID.toNat : Int), .int .i64 l.Size, .int .i64 l.Start, .int .i64 l.Area, .int .u64 (l.Group.toNat : Int)]] [] (fun x : Sl3 => .tuple #[x.v, .int .i64 r.2]) (fun _ => True) (fun x F => sl tyA62 x.v r.1 :: F) := by
 refine CSpec.of_body Try.func11 rfl Try.ntmps11 rfl fun F => ?_
 show CJ _ _ _ _ _ _ (F)
 unfold label_Words at h
 refine sR <| oO <| O_box rfl rfl rfl fun b1 => oA rfl rfl <| oA rfl rfl <| nT <| CJ_seq <| sR <| oV (V_loadN rfl foc0 Try.isAgg24 Try.sizeOf24 rfl rfl) rfl ?_
 obtain ⟨r2, hr3, h⟩ := bind_e h
 refine oO <| O_call (L_label_Check hr3) rfl Try.call12 Dels.nil rfl fun _ _ => oA rfl rfl <| nT <| sR <| oM rfl rfl <| oP (P_neq (a := r2) (b := (0 : Int)) rfl rfl) rfl <| nT <| CJ_condP rfl bT_dec (fun hg1 => ?_) (fun hg1 => ?_)
 ·
  replace h := ite_t hg1 h
  refine sR <| oM rfl rfl <| oA rfl rfl <| oA rfl rfl <| nT <| CJ_ret <| QJ_then_ret <| QJ_ent (fun h hh => sl_nil (t := tyA62) h hh) ?_
  cases h
  exact fE (res2 Try.results11 rfl rfl) ⟨none, 0, 0⟩ (t0_ (eD eR))
 ·
  replace h := ite_f hg1 h
  refine kT <| sR <| oV (V_loadN rfl foc0 Try.isAgg24 Try.sizeOf24 rfl rfl) rfl ?_
  obtain ⟨r5, hr6, h⟩ := bind_e h
  refine oO <| O_call (L_label_pack hr6) rfl Try.call29 Dels.nil rfl fun _ _ => oO <| O_alloc Try.zeroValue62 rfl rfl fun b7 => oO <| O_storeN rfl rfl foc0 Try.sizeOf62 rfl rfl rfl <| nT <| sR <| oP (PJ_eq (P_sliceArr (l := 0) rfl rfl rfl Try.runUnderlying62 Try.sizeOf22) rfl) rfl <| oA rfl rfl <| oA rfl rfl <| nT <| CJ_ret <| QJ_ent (Ent.trans (t0_ eR) (sl_of_lit (t := tyA62) (m := 8) [r5.e0, r5.e1, r5.e2, r5.e3, r5.e4, r5.e5, r5.e6, r5.e7] rfl rfl rfl (by decide))) ?_
  cases h
  exact fE (res2 Try.results11 rfl rfl) ⟨some ⟨b7, 0, none⟩, 8, 8⟩ (t0_ (eD eR))
def label_FromWords (l : List UInt64) : Option (api_Label × Int) :=
  if (((l.length : Nat) : Int) ≠ (8 : Int)) then
    some (((⟨(0 : UInt64), (0 : Int), (0 : Int), (0 : Int), (0 : UInt64)⟩ : api_Label), (3 : Int)))
  else
    lt ((⟨l.getD 0 0, l.getD 1 0, l.getD 2 0, l.getD 3 0, l.getD 4 0, l.getD 5 0, l.getD 6 0, l.getD 7 0⟩ : Arr62)) fun w4 =>
    if ((w4.e0 ≠ (5494745885936405590 : UInt64)) ∨ (w4.e7 ≠ (0 : UInt64))) then
      some (((⟨(0 : UInt64), (0 : Int), (0 : Int), (0 : Int), (0 : UInt64)⟩ : api_Label), (2 : Int)))
    else
      Option.bind (label_words_sum w4) fun r12 =>
      if (w4.e6 ≠ r12) then
        some (((⟨(0 : UInt64), (0 : Int), (0 : Int), (0 : Int), (0 : UInt64)⟩ : api_Label), (11 : Int)))
      else
        Option.bind (label_Check ((⟨w4.e1, (IntKind.i64.wrap (w4.e2.toNat : Int)), (IntKind.i64.wrap (w4.e3.toNat : Int)), (IntKind.i64.wrap (w4.e4.toNat : Int)), w4.e5⟩ : api_Label))) fun r15 =>
        if (r15 ≠ (0 : Int)) then
          some (((⟨(0 : UInt64), (0 : Int), (0 : Int), (0 : Int), (0 : UInt64)⟩ : api_Label), r15))
        else
          Option.bind (label_pack ((⟨w4.e1, (IntKind.i64.wrap (w4.e2.toNat : Int)), (IntKind.i64.wrap (w4.e3.toNat : Int)), (IntKind.i64.wrap (w4.e4.toNat : Int)), w4.e5⟩ : api_Label))) fun r17 =>
          if (r17 ≠ w4) then
            some (((⟨(0 : UInt64), (0 : Int), (0 : Int), (0 : Int), (0 : UInt64)⟩ : api_Label), (2 : Int)))
          else
            some (((⟨w4.e1, (IntKind.i64.wrap (w4.e2.toNat : Int)), (IntKind.i64.wrap (w4.e3.toNat : Int)), (IntKind.i64.wrap (w4.e4.toNat : Int)), w4.e5⟩ : api_Label), (0 : Int)))
theorem L_label_FromWords {W : World} {Al : HP} {vl : Value} {l : List UInt64} {r : api_Label × Int} (rl : Reads Al tyU vl l) (h : label_FromWords l = some r) :
    CSpec Try.prog W 10 [vl] [Al] (fun x : Unit => .tuple #[.agg #[.int .u64 (r.1.ID.toNat : Int), .int .i64 r.1.Size, .int .i64 r.1.Start, .int .i64 r.1.Area, .int .u64 (r.1.Group.toNat : Int)], .int .i64 r.2]) (fun _ => True) (fun x F => Al :: F) := by
 refine CSpec.of_body Try.func10 rfl Try.ntmps10 rfl fun F => ?_
 show CJ _ _ _ _ _ _ (_ :: F)
 unfold label_FromWords at h
 refine CJ_pure (len_of rl del0) fun hlen1 => sR <| oO <| O_alloc Try.zeroValue24 rfl rfl fun b2 => oA rfl rfl <| nT <| CJ_seq <| sR <| oM rfl rfl <| oV (V_len rfl foc1 rl Try.runUnderlying27) rfl <| oP (P_neq (a := ((l.length : Nat) : Int)) (b := (8 : Int)) rfl rfl) rfl <| nT <| CJ_condP rfl bT_dec (fun hg1 => ?_) (fun hg1 => ?_)
 ·
  replace h := ite_t hg1 h
  refine sR <| oP (P_build rfl (bld_24)) rfl <| oO <| O_storeN rfl rfl foc0 Try.sizeOf24 rfl rfl rfl <| oA rfl rfl <| nT <| CJ_ret <| QJ_then_ret ?_
  cases h
  exact fE (resA2 Try.results10 (RV_cellN rfl foc0 Try.isAgg24 Try.sizeOf24 rfl rfl) (RV_tmp rfl)) () (t1_ (eD eR))
 ·
  replace h := ite_f hg1 h
  refine kT <| sR <| oM rfl rfl <| oV (V_sap rfl foc1 rl (by omega) (by decide) Try.runUnderlying62) rfl ?_
  obtain ⟨w4, hw4, h⟩ := lt_e h
  refine oV (V_loadSap (us := [.int .u64 (w4.e0.toNat : Int), .int .u64 (w4.e1.toNat : Int), .int .u64 (w4.e2.toNat : Int), .int .u64 (w4.e3.toNat : Int), .int .u64 (w4.e4.toNat : Int), .int .u64 (w4.e5.toNat : Int), .int .u64 (w4.e6.toNat : Int), .int .u64 (w4.e7.toNat : Int)]) rfl rfl foc1 rl (by omega) (by subst hw4; exact takes_tyU_8 (by omega)) Try.isAgg62 Try.sizeOf62) rfl <| oO <| O_alloc Try.zeroValue62 rfl rfl fun b5 => oO <| O_storeN rfl rfl foc0 Try.sizeOf62 rfl rfl rfl <| nT <| CJ_seq <| sR <| oP (P_indexArr (i := 0) rfl rfl rfl Try.runUnderlying62 Try.sizeOf22) rfl <| oV (V_load rfl foc0 rfl Try.isAgg22) rfl <| oP (P_ne_u64 (a := w4.e0) (b := (5494745885936405590 : UInt64)) rfl rfl) rfl <| oM rfl rfl <| RJ_mbF rfl rfl rfl (fun hG6 => have hP7 : ¬ (w4.e0 ≠ (5494745885936405590 : UInt64)) := nP (bT_dec) hG6; VJ_P (P_indexArr (i := 7) rfl rfl rfl Try.runUnderlying62 Try.sizeOf22)) <| RJ_mbF rfl rfl rfl (fun hG8 => have hP9 : ¬ (w4.e0 ≠ (5494745885936405590 : UInt64)) := nP (bT_dec) hG8; V_load (mbx hG8 rfl) foc0 rfl Try.isAgg22) <| RJ_mbF rfl rfl rfl (fun hG10 => have hP11 : ¬ (w4.e0 ≠ (5494745885936405590 : UInt64)) := nP (bT_dec) hG10; VJ_P (P_ne_u64 (a := w4.e7) (b := (0 : UInt64)) (mbx hG10 rfl) rfl)) <| oP (P_pickOr rfl rfl (fun hh => mbx (not_f hh) rfl)) rfl <| nT <| CJ_condP rfl (bT_or bT_dec bT_dec) (fun hg2 => ?_) (fun hg2 => ?_)
  ·
   replace h := ite_t hg2 h
   refine sR <| oP (P_build rfl (bld_24)) rfl <| oO <| O_storeN rfl rfl foc1 Try.sizeOf24 rfl rfl rfl <| oA rfl rfl <| nT <| CJ_ret <| QJ_then_ret ?_
   cases h
   exact fE (resA2 Try.results10 (RV_cellN rfl foc1 Try.isAgg24 Try.sizeOf24 rfl rfl) (RV_tmp rfl)) () (t2_ (eD (eD eR)))
  ·
   replace h := ite_f hg2 h
   refine kT <| CJ_seq <| CJ_seq <| AJ_startH 0 (by kernel_rfl) rfl <| aN 0 1 rfl rfl (P_indexArr (i := 6) rfl rfl rfl Try.runUnderlying62 Try.sizeOf22) rfl <| aV 1 3 rfl rfl (GY_none rfl) eR (V_load rfl foc0 rfl Try.isAgg22) rfl <| aV 2 7 rfl rfl (GY_none rfl) eR (V_loadN rfl foc0 Try.isAgg62 Try.sizeOf62 rfl rfl) rfl ?_
   obtain ⟨r12, hr13, h⟩ := bind_e h
   refine AJ_op 3 15 rfl (by kernel_rfl) rfl (GY_none rfl) <| O_call (L_label_words_sum hr13) rfl Try.call28 Dels.nil rfl fun _ _ => ⟨fun _ => eR, ?_⟩
   refine aN 4 31 rfl rfl (P_ne_u64 (a := w4.e6) (b := r12) rfl rfl) rfl <| aD <| CJ_condP rfl bT_dec (fun hg3 => ?_) (fun hg3 => ?_)
   ·
    replace h := ite_t hg3 h
    refine sR <| oP (P_build rfl (bld_24)) rfl <| oO <| O_storeN rfl rfl foc1 Try.sizeOf24 rfl rfl rfl <| oA rfl rfl <| nT <| CJ_ret <| QJ_then_ret ?_
    cases h
    exact fE (resA2 Try.results10 (RV_cellN rfl foc1 Try.isAgg24 Try.sizeOf24 rfl rfl) (RV_tmp rfl)) () (t2_ (eD (eD eR)))
   ·
    replace h := ite_f hg3 h
    refine kT <| sR <| oP (P_indexArr (i := 1) rfl rfl rfl Try.runUnderlying62 Try.sizeOf22) rfl <| oV (V_load rfl foc0 rfl Try.isAgg22) rfl <| oP (P_indexArr (i := 2) rfl rfl rfl Try.runUnderlying62 Try.sizeOf22) rfl <| oV (V_load rfl foc0 rfl Try.isAgg22) rfl <| oP (P_conv rfl Try.runUnderlying22 Try.runUnderlying3) rfl <| oP (P_indexArr (i := 3) rfl rfl rfl Try.runUnderlying62 Try.sizeOf22) rfl <| oV (V_load rfl foc0 rfl Try.isAgg22) rfl <| oP (P_conv rfl Try.runUnderlying22 Try.runUnderlying3) rfl <| oP (P_indexArr (i := 4) rfl rfl rfl Try.runUnderlying62 Try.sizeOf22) rfl <| oV (V_load rfl foc0 rfl Try.isAgg22) rfl <| oP (P_conv rfl Try.runUnderlying22 Try.runUnderlying3) rfl <| oP (P_indexArr (i := 5) rfl rfl rfl Try.runUnderlying62 Try.sizeOf22) rfl <| oV (V_load rfl foc0 rfl Try.isAgg22) rfl <| oP (P_build rfl (bld_24_0_1_2_3_4 _ _ _ _ _)) rfl <| oO <| O_alloc Try.zeroValue24 rfl rfl fun b14 => oO <| O_storeN rfl rfl foc0 Try.sizeOf24 rfl rfl rfl <| nT <| CJ_seq <| sR <| oV (V_loadN rfl foc0 Try.isAgg24 Try.sizeOf24 rfl rfl) rfl ?_
    obtain ⟨r15, hr16, h⟩ := bind_e h
    refine oO <| O_call (L_label_Check hr16) rfl Try.call12 Dels.nil rfl fun _ _ => oA rfl rfl <| nT <| sR <| oM rfl rfl <| oP (P_neq (a := r15) (b := (0 : Int)) rfl rfl) rfl <| nT <| CJ_condP rfl bT_dec (fun hg4 => ?_) (fun hg4 => ?_)
    ·
     replace h := ite_t hg4 h
     refine sR <| oP (P_build rfl (bld_24)) rfl <| oM rfl rfl <| oO <| O_storeN rfl rfl foc2 Try.sizeOf24 rfl rfl rfl <| oA rfl rfl <| nT <| CJ_ret <| QJ_then_ret ?_
     cases h
     exact fE (resA2 Try.results10 (RV_cellN rfl foc2 Try.isAgg24 Try.sizeOf24 rfl rfl) (RV_tmp rfl)) () (t3_ (eD (eD (eD eR))))
    ·
     replace h := ite_f hg4 h
     refine kT <| CJ_seq <| CJ_seq <| AJ_startH 0 (by kernel_rfl) rfl <| aV 0 1 rfl rfl (GY_none rfl) eR (V_loadN rfl foc0 Try.isAgg24 Try.sizeOf24 rfl rfl) rfl <| aV 2 5 rfl rfl (GY_none rfl) eR (V_loadN rfl foc1 Try.isAgg62 Try.sizeOf62 rfl rfl) rfl ?_
     obtain ⟨r17, hr18, h⟩ := bind_e h
     refine AJ_op 1 7 rfl (by kernel_rfl) rfl (GY_none rfl) <| O_call (L_label_pack hr18) rfl Try.call29 Dels.nil rfl fun _ _ => ⟨fun _ => eR, ?_⟩
     refine aN 3 15 rfl rfl (P_neqS (enc := (tyArr62).enc) (r17) (w4) rfl rfl eqs_62 (by kernel_rfl)) rfl <| aD <| CJ_condP rfl bT_dec (fun hg5 => ?_) (fun hg5 => ?_)
     ·
      replace h := ite_t hg5 h
      refine sR <| oP (P_build rfl (bld_24)) rfl <| oO <| O_storeN rfl rfl foc2 Try.sizeOf24 rfl rfl rfl <| oA rfl rfl <| nT <| CJ_ret <| QJ_then_ret ?_
      cases h
      exact fE (resA2 Try.results10 (RV_cellN rfl foc2 Try.isAgg24 Try.sizeOf24 rfl rfl) (RV_tmp rfl)) () (t3_ (eD (eD (eD eR))))
     ·
      replace h := ite_f hg5 h
      refine kT <| sR <| oV (V_loadN rfl foc0 Try.isAgg24 Try.sizeOf24 rfl rfl) rfl <| oO <| O_storeN rfl rfl foc2 Try.sizeOf24 rfl rfl rfl <| oA rfl rfl <| nT <| CJ_ret ?_
      cases h
      exact fE (resA2 Try.results10 (RV_cellN rfl foc2 Try.isAgg24 Try.sizeOf24 rfl rfl) (RV_tmp rfl)) () (t3_ (eD (eD (eD eR))))
end Go.Proofs
set_option linter.unusedSimpArgs false
set_option linter.unusedVariables false
set_option maxRecDepth 20000
set_option maxHeartbeats 4000000
namespace Go.Proofs
open Go.VG
theorem bs_27_8_0_1_2_3_4_5_6_7 (v0 : Int) (v1 : Int) (v2 : Int) (v3 : Int) (v4 : Int) (v5 : Int) (v6 : Int) (v7 : Int) : BuildsSlice Try.prog 27 8 [(0, .int .u64 v0), (1, .int .u64 v1), (2, .int .u64 v2), (3, .int .u64 v3), (4, .int .u64 v4), (5, .int .u64 v5), (6, .int .u64 v6), (7, .int .u64 v7)] 22 [.int .u64 v0, .int .u64 v1, .int .u64 v2, .int .u64 v3, .int .u64 v4, .int .u64 v5, .int .u64 v6, .int .u64 v7] := fun w => by kernel_rfl
def volumegroupref11_Check (l : api_Label) : Option (Int) :=
  if ((((((l.Size < (1 : Int)) ∨ ((65536 : Int) < l.Size)) ∨ (l.Start < (8 : Int))) ∨ (l.Area < (4 : Int))) ∨ (l.Size < l.Start)) ∨ ((l.Size - l.Start) < l.Area)) then
    some (1 : Int)
  else
    some (0 : Int)
theorem L_volumegroupref11_Check {W : World} {l : api_Label} {r : Int} (h : volumegroupref11_Check l = some r) :
    CSpec Try.prog W 13 [.agg #[.int .u64 (l.ID.toNat : Int), .int .i64 l.Size, .int .i64 l.Start, .int .i64 l.Area, .int .u64 (l.Group.toNat : Int)]] [] (fun x : Unit => .int .i64 r) (fun _ => True) (fun x F => F) := by
 refine CSpec.of_body Try.func13 rfl Try.ntmps13 rfl fun F => ?_
 show CJ _ _ _ _ _ _ (F)
 unfold volumegroupref11_Check at h
 refine sR <| oO <| O_box rfl rfl rfl fun b1 => oA rfl rfl <| nT <| CJ_seq <| sR <| oP (P_fieldAddr rfl ⟨_, _, _, Try.runUnderlying24, rfl, rfl, Try.sizeOf3, rfl⟩) rfl <| oV (V_load rfl foc0 rfl Try.isAgg3) rfl <| oP (P_lss (a := l.Size) (b := (1 : Int)) rfl rfl) rfl <| oM rfl rfl <| RJ_mbF rfl rfl rfl (fun hG2 => have hP3 : ¬ (l.Size < (1 : Int)) := nP (bT_dec) hG2; VJ_P (P_fieldAddr rfl ⟨_, _, _, Try.runUnderlying24, rfl, rfl, Try.sizeOf3, rfl⟩)) <| RJ_mbF rfl rfl rfl (fun hG4 => have hP5 : ¬ (l.Size < (1 : Int)) := nP (bT_dec) hG4; V_load (mbx hG4 rfl) foc0 rfl Try.isAgg3) <| RJ_mbF rfl rfl rfl (fun hG6 => have hP7 : ¬ (l.Size < (1 : Int)) := nP (bT_dec) hG6; VJ_P (P_gtr (a := l.Size) (b := (65536 : Int)) (mbx hG6 rfl) rfl)) <| oP (P_pickOr rfl rfl (fun hh => mbx (not_f hh) rfl)) rfl <| oM rfl rfl <| RJ_mbF rfl rfl rfl (fun hG8 => have hP9 : ¬ ((l.Size < (1 : Int)) ∨ ((65536 : Int) < l.Size)) := nP ((bT_or bT_dec bT_dec)) hG8; VJ_P (P_fieldAddr rfl ⟨_, _, _, Try.runUnderlying24, rfl, rfl, Try.sizeOf3, rfl⟩)) <| RJ_mbF rfl rfl rfl (fun hG10 => have hP11 : ¬ ((l.Size < (1 : Int)) ∨ ((65536 : Int) < l.Size)) := nP ((bT_or bT_dec bT_dec)) hG10; V_load (mbx hG10 rfl) foc0 rfl Try.isAgg3) <| RJ_mbF rfl rfl rfl (fun hG12 => have hP13 : ¬ ((l.Size < (1 : Int)) ∨ ((65536 : Int) < l.Size)) := nP ((bT_or bT_dec bT_dec)) hG12; VJ_P (P_lss (a := l.Start) (b := (8 : Int)) (mbx hG12 rfl) rfl)) <| oP (P_pickOr rfl rfl (fun hh => mbx (not_f hh) rfl)) rfl <| oM rfl rfl ?_
 refine RJ_mbF rfl rfl rfl (fun hG14 => have hP15 : ¬ (((l.Size < (1 : Int)) ∨ ((65536 : Int) < l.Size)) ∨ (l.Start < (8 : Int))) := nP ((bT_or (bT_or bT_dec bT_dec) bT_dec)) hG14; VJ_P (P_fieldAddr rfl ⟨_, _, _, Try.runUnderlying24, rfl, rfl, Try.sizeOf3, rfl⟩)) <| RJ_mbF rfl rfl rfl (fun hG16 => have hP17 : ¬ (((l.Size < (1 : Int)) ∨ ((65536 : Int) < l.Size)) ∨ (l.Start < (8 : Int))) := nP ((bT_or (bT_or bT_dec bT_dec) bT_dec)) hG16; V_load (mbx hG16 rfl) foc0 rfl Try.isAgg3) <| RJ_mbF rfl rfl rfl (fun hG18 => have hP19 : ¬ (((l.Size < (1 : Int)) ∨ ((65536 : Int) < l.Size)) ∨ (l.Start < (8 : Int))) := nP ((bT_or (bT_or bT_dec bT_dec) bT_dec)) hG18; VJ_P (P_lss (a := l.Area) (b := (4 : Int)) (mbx hG18 rfl) rfl)) <| oP (P_pickOr rfl rfl (fun hh => mbx (not_f hh) rfl)) rfl <| oM rfl rfl <| RJ_mbF rfl rfl rfl (fun hG20 => have hP21 : ¬ ((((l.Size < (1 : Int)) ∨ ((65536 : Int) < l.Size)) ∨ (l.Start < (8 : Int))) ∨ (l.Area < (4 : Int))) := nP ((bT_or (bT_or (bT_or bT_dec bT_dec) bT_dec) bT_dec)) hG20; VJ_P (P_fieldAddr rfl ⟨_, _, _, Try.runUnderlying24, rfl, rfl, Try.sizeOf3, rfl⟩)) <| RJ_mbF rfl rfl rfl (fun hG22 => have hP23 : ¬ ((((l.Size < (1 : Int)) ∨ ((65536 : Int) < l.Size)) ∨ (l.Start < (8 : Int))) ∨ (l.Area < (4 : Int))) := nP ((bT_or (bT_or (bT_or bT_dec bT_dec) bT_dec) bT_dec)) hG22; V_load (mbx hG22 rfl) foc0 rfl Try.isAgg3) ?_
 refine RJ_mbF rfl rfl rfl (fun hG24 => have hP25 : ¬ ((((l.Size < (1 : Int)) ∨ ((65536 : Int) < l.Size)) ∨ (l.Start < (8 : Int))) ∨ (l.Area < (4 : Int))) := nP ((bT_or (bT_or (bT_or bT_dec bT_dec) bT_dec) bT_dec)) hG24; VJ_P (P_fieldAddr rfl ⟨_, _, _, Try.runUnderlying24, rfl, rfl, Try.sizeOf3, rfl⟩)) <| RJ_mbF rfl rfl rfl (fun hG26 => have hP27 : ¬ ((((l.Size < (1 : Int)) ∨ ((65536 : Int) < l.Size)) ∨ (l.Start < (8 : Int))) ∨ (l.Area < (4 : Int))) := nP ((bT_or (bT_or (bT_or bT_dec bT_dec) bT_dec) bT_dec)) hG26; V_load (mbx hG26 rfl) foc0 rfl Try.isAgg3) <| RJ_mbF rfl rfl rfl (fun hG28 => have hP29 : ¬ ((((l.Size < (1 : Int)) ∨ ((65536 : Int) < l.Size)) ∨ (l.Start < (8 : Int))) ∨ (l.Area < (4 : Int))) := nP ((bT_or (bT_or (bT_or bT_dec bT_dec) bT_dec) bT_dec)) hG28; VJ_P (P_gtr (a := l.Start) (b := l.Size) (mbx hG28 rfl) (mbx hG28 rfl))) <| oP (P_pickOr rfl rfl (fun hh => mbx (not_f hh) rfl)) rfl <| oM rfl rfl <| RJ_mbF rfl rfl rfl (fun hG30 => have hP31 : ¬ (((((l.Size < (1 : Int)) ∨ ((65536 : Int) < l.Size)) ∨ (l.Start < (8 : Int))) ∨ (l.Area < (4 : Int))) ∨ (l.Size < l.Start)) := nP ((bT_or (bT_or (bT_or (bT_or bT_dec bT_dec) bT_dec) bT_dec) bT_dec)) hG30; VJ_P (P_fieldAddr rfl ⟨_, _, _, Try.runUnderlying24, rfl, rfl, Try.sizeOf3, rfl⟩)) ?_
 refine RJ_mbF rfl rfl rfl (fun hG32 => have hP33 : ¬ (((((l.Size < (1 : Int)) ∨ ((65536 : Int) < l.Size)) ∨ (l.Start < (8 : Int))) ∨ (l.Area < (4 : Int))) ∨ (l.Size < l.Start)) := nP ((bT_or (bT_or (bT_or (bT_or bT_dec bT_dec) bT_dec) bT_dec) bT_dec)) hG32; V_load (mbx hG32 rfl) foc0 rfl Try.isAgg3) <| RJ_mbF rfl rfl rfl (fun hG34 => have hP35 : ¬ (((((l.Size < (1 : Int)) ∨ ((65536 : Int) < l.Size)) ∨ (l.Start < (8 : Int))) ∨ (l.Area < (4 : Int))) ∨ (l.Size < l.Start)) := nP ((bT_or (bT_or (bT_or (bT_or bT_dec bT_dec) bT_dec) bT_dec) bT_dec)) hG34; VJ_P (P_fieldAddr rfl ⟨_, _, _, Try.runUnderlying24, rfl, rfl, Try.sizeOf3, rfl⟩)) <| RJ_mbF rfl rfl rfl (fun hG36 => have hP37 : ¬ (((((l.Size < (1 : Int)) ∨ ((65536 : Int) < l.Size)) ∨ (l.Start < (8 : Int))) ∨ (l.Area < (4 : Int))) ∨ (l.Size < l.Start)) := nP ((bT_or (bT_or (bT_or (bT_or bT_dec bT_dec) bT_dec) bT_dec) bT_dec)) hG36; V_load (mbx hG36 rfl) foc0 rfl Try.isAgg3) <| RJ_mbF rfl rfl rfl (fun hG38 => have hP39 : ¬ (((((l.Size < (1 : Int)) ∨ ((65536 : Int) < l.Size)) ∨ (l.Start < (8 : Int))) ∨ (l.Area < (4 : Int))) ∨ (l.Size < l.Start)) := nP ((bT_or (bT_or (bT_or (bT_or bT_dec bT_dec) bT_dec) bT_dec) bT_dec)) hG38; VJ_P (P_fieldAddr rfl ⟨_, _, _, Try.runUnderlying24, rfl, rfl, Try.sizeOf3, rfl⟩)) ?_
 refine RJ_mbF rfl rfl rfl (fun hG40 => have hP41 : ¬ (((((l.Size < (1 : Int)) ∨ ((65536 : Int) < l.Size)) ∨ (l.Start < (8 : Int))) ∨ (l.Area < (4 : Int))) ∨ (l.Size < l.Start)) := nP ((bT_or (bT_or (bT_or (bT_or bT_dec bT_dec) bT_dec) bT_dec) bT_dec)) hG40; V_load (mbx hG40 rfl) foc0 rfl Try.isAgg3) <| RJ_mbF rfl rfl rfl (fun hG42 => have hP43 : ¬ (((((l.Size < (1 : Int)) ∨ ((65536 : Int) < l.Size)) ∨ (l.Start < (8 : Int))) ∨ (l.Area < (4 : Int))) ∨ (l.Size < l.Start)) := nP ((bT_or (bT_or (bT_or (bT_or bT_dec bT_dec) bT_dec) bT_dec) bT_dec)) hG42; VJ_P (P_sub (a := l.Size) (b := l.Start) (mbx hG42 rfl) (mbx hG42 rfl) (by omega))) <| RJ_mbF rfl rfl rfl (fun hG44 => have hP45 : ¬ (((((l.Size < (1 : Int)) ∨ ((65536 : Int) < l.Size)) ∨ (l.Start < (8 : Int))) ∨ (l.Area < (4 : Int))) ∨ (l.Size < l.Start)) := nP ((bT_or (bT_or (bT_or (bT_or bT_dec bT_dec) bT_dec) bT_dec) bT_dec)) hG44; VJ_P (P_gtr (a := l.Area) (b := (l.Size - l.Start)) (mbx hG44 rfl) (mbx hG44 rfl))) <| oP (P_pickOr rfl rfl (fun hh => mbx (not_f hh) rfl)) rfl <| nT <| CJ_condP rfl (bT_or (bT_or (bT_or (bT_or (bT_or bT_dec bT_dec) bT_dec) bT_dec) bT_dec) bT_dec) (fun hg1 => ?_) (fun hg1 => ?_)
 ·
  replace h := ite_t hg1 h
  refine sR <| oA rfl rfl <| nT <| CJ_ret <| QJ_then_ret ?_
  cases h
  exact fE (res1 Try.results13 rfl) () (eD eR)
 ·
  replace h := ite_f hg1 h
  refine kT <| sR <| oA rfl rfl <| nT <| CJ_ret ?_
  cases h
  exact fE (res1 Try.results13 rfl) () (eD eR)
def volumegroupref11_sum (w : List UInt64) : Option (UInt64) :=
  grd (decide (0 ≤ 6 ∧ 6 ≤ w.length)) <|
  grd (decide (7 < w.length)) <|
  grd (inLen (0 + (((w.take 6).drop 0)).length)) <|
  grd (inLen ((([] ++ ((w.take 6).drop 0))).length + 1)) <|
  Option.bind (volumegroupref01_Words ((([] ++ ((w.take 6).drop 0)) ++ [(w.getD 7 0)]))) fun r322 =>
  some ((to_u64 (r322.toNat : Int)))
theorem L_volumegroupref11_sum {W : World} {Aw : HP} {vw : Value} {w : List UInt64} {r : UInt64} (rw : Reads Aw tyU vw w) (h : volumegroupref11_sum w = some r) :
    CSpec Try.prog W 27 [vw] [Aw] (fun x : Unit => .int .u64 (r.toNat : Int)) (fun _ => True) (fun x F => Aw :: F) := by
 refine CSpec.of_body Try.func27 rfl Try.ntmps27 rfl fun F => ?_
 show CJ _ _ _ _ _ _ (_ :: F)
 unfold volumegroupref11_sum at h
 refine CJ_pure (len_of rw del0) fun hlen1 => sR <| oA rfl rfl <| nT <| CJ_seq <| AJ_startH 384 (by kernel_rfl) rfl <| aN 0 1 rfl rfl (P_move rfl) rfl ?_
 obtain ⟨hg1, h⟩ := grd_de h
 refine aV 1 3 rfl rfl (GY_none rfl) eR (V_slice (l := 0) (h := 6) rfl foc0 rw rfl ⟨_, rfl⟩ (by omega) (by omega) Try.underlying27 Try.sizeOf22) rfl <| aN 3 11 rfl rfl (P_move rfl) rfl ?_
 obtain ⟨hg2, h⟩ := grd_de h
 refine aV 4 27 rfl rfl (GY_none rfl) eR (V_index (i := 7) rfl rfl rfl hg2 foc0 rw Try.runUnderlying27 Try.sizeOf22) rfl <| aV 5 59 rfl rfl (GY_none rfl) eR (V_loadE rfl rfl hg2 foc0 rw rfl rfl Try.isAgg22) rfl <| AJ_two 2 6 63 123 rfl rfl (by kernel_rfl) rfl rfl (GY_none rfl) (GY_none rfl) ?_ ?_
 ·
  obtain ⟨hg3, h⟩ := grd_Le h
  refine OJ_ent (fun h hh => sl_nil (t := tyU) h hh) <| O_append (t := tyU) (bytes := 8) rfl rfl del0 foc0 (Reads.sliceV (l := 0) (h := 6) rw (by omega) (by omega)) Try.underlying27 ok_tyU (apl (m := (((w.take 6).drop 0)).length) (b := 8) hg3 (by decide)).1 (apl (m := (((w.take 6).drop 0)).length) (b := 8) hg3 (by decide)).2 rfl fun p84 c85 => ⟨fun _ => (t1_ (eD eR)), ?_⟩
  refine AJ_op 6 127 rfl (by kernel_rfl) rfl (GY_none rfl) <| O_buildSlice rfl (bs_27_1_0 _) rfl fun b242 => ⟨fun _ => (t2_ (eD (eD eR))), ?_⟩
  obtain ⟨hg4, h⟩ := grd_Le h
  refine AJ_op 7 255 rfl (by kernel_rfl) rfl (GY_none rfl) <| O_append (t := tyU) (bytes := 8) rfl rfl del1 foc0 (Reads.lit (t := tyU) (ys := [(w.getD 7 0)]) rfl rfl (by decide) (by decide) rfl) Try.underlying27 ok_tyU (apl (m := 1) (b := 8) hg4 (by decide)).1 (apl (m := 1) (b := 8) hg4 (by decide)).2 rfl fun p283 c284 => ⟨fun h => absurd h (by decide), ?_⟩
  obtain ⟨r322, hr323, h⟩ := bind_e h
  refine AJ_op 8 511 rfl (by kernel_rfl) rfl (GY_none rfl) <| O_call (L_volumegroupref01_Words (Reads.sl _ _ _) hr323) rfl Try.call41 (Dels.cons del0 Dels.nil) rfl fun _ _ => ⟨fun h => absurd h (by decide), ?_⟩
  refine aN 9 1023 rfl rfl (P_conv_u64 (a := (r322.toNat : Int)) rfl Try.runUnderlying26 Try.runUnderlying22) rfl <| aN 10 2047 rfl rfl (P_assign rfl) rfl <| aD <| CJ_ret ?_
  cases h
  exact fE (res1 Try.results27 rfl) () (t2_ (eD (eD eR)))
 ·
  refine O_buildSlice rfl (bs_27_1_0 _) rfl fun b242 => ⟨fun _ => (t1_ (eD eR)), ?_⟩
  obtain ⟨hg3, h⟩ := grd_Le h
  refine AJ_op 2 127 rfl (by kernel_rfl) rfl (GY_none rfl) <| OJ_ent (fun h hh => sl_nil (t := tyU) h hh) <| O_append (t := tyU) (bytes := 8) rfl rfl del0 foc1 (Reads.sliceV (l := 0) (h := 6) rw (by omega) (by omega)) Try.underlying27 ok_tyU (apl (m := (((w.take 6).drop 0)).length) (b := 8) hg3 (by decide)).1 (apl (m := (((w.take 6).drop 0)).length) (b := 8) hg3 (by decide)).2 rfl fun p84 c85 => ⟨fun _ => (t2_ (eD (eD eR))), ?_⟩
  obtain ⟨hg4, h⟩ := grd_Le h
  refine AJ_op 7 255 rfl (by kernel_rfl) rfl (GY_none rfl) <| O_append (t := tyU) (bytes := 8) rfl rfl del0 foc0 (Reads.lit (t := tyU) (ys := [(w.getD 7 0)]) rfl rfl (by decide) (by decide) rfl) Try.underlying27 ok_tyU (apl (m := 1) (b := 8) hg4 (by decide)).1 (apl (m := 1) (b := 8) hg4 (by decide)).2 rfl fun p283 c284 => ⟨fun h => absurd h (by decide), ?_⟩
  obtain ⟨r322, hr323, h⟩ := bind_e h
  refine AJ_op 8 511 rfl (by kernel_rfl) rfl (GY_none rfl) <| O_call (L_volumegroupref01_Words (Reads.sl _ _ _) hr323) rfl Try.call41 (Dels.cons del0 Dels.nil) rfl fun _ _ => ⟨fun h => absurd h (by decide), ?_⟩
  refine aN 9 1023 rfl rfl (P_conv_u64 (a := (r322.toNat : Int)) rfl Try.runUnderlying26 Try.runUnderlying22) rfl <| aN 10 2047 rfl rfl (P_assign rfl) rfl <| aD <| CJ_ret ?_
  cases h
  exact fE (res1 Try.results27 rfl) () (t2_ (eD (eD eR)))
def volumegroupref11_Words (l : api_Label) : Option ((List UInt64) × Int) :=
  Option.bind (volumegroupref11_Check (⟨l.ID, l.Size, l.Start, l.Area, l.Group⟩ : api_Label)) fun r2 =>
  if (r2 ≠ (0 : Int)) then
    some ([], r2)
  else
    Option.bind (volumegroupref11_sum ([(5494745885936405590 : UInt64), l.ID, (to_u64 l.Size), (to_u64 l.Start), (to_u64 l.Area), l.Group, (0 : UInt64), (0 : UInt64)])) fun r6 =>
    grd (decide (6 < ([(5494745885936405590 : UInt64), l.ID, (to_u64 l.Size), (to_u64 l.Start), (to_u64 l.Area), l.Group, (0 : UInt64), (0 : UInt64)]).length)) <|
    some (((([(5494745885936405590 : UInt64), l.ID, (to_u64 l.Size), (to_u64 l.Start), (to_u64 l.Area), l.Group, (0 : UInt64), (0 : UInt64)]).set 6 r6), (0 : Int)))
theorem L_volumegroupref11_Words {W : World} {l : api_Label} {r : (List UInt64) × Int} (h : volumegroupref11_Words l = some r) :
    CSpec Try.prog W 7 [.agg #[.int .u64 (l.ID.toNat : Int), .int .i64 l.Size, .int .i64 l.Start, .int .i64 l.Area, .int .u64 (l.Group.toNat : Int)]] [] (fun x : Sl3 => .tuple #[x.v, .int .i64 r.2]) (fun _ => True) (fun x F => sl tyU x.v r.1 :: F) := by
 refine CSpec.of_body Try.func7 rfl Try.ntmps7 rfl fun F => ?_
 show CJ _ _ _ _ _ _ (F)
 unfold volumegroupref11_Words at h
 refine sR <| oO <| O_box rfl rfl rfl fun b1 => oA rfl rfl <| oA rfl rfl <| nT <| CJ_seq <| sR <| oV (V_loadN rfl foc0 Try.isAgg24 Try.sizeOf24 rfl rfl) rfl ?_
 obtain ⟨r2, hr3, h⟩ := bind_e h
 refine oO <| O_call (L_volumegroupref11_Check hr3) rfl Try.call13 Dels.nil rfl fun _ _ => oA rfl rfl <| nT <| sR <| oM rfl rfl <| oP (P_neq (a := r2) (b := (0 : Int)) rfl rfl) rfl <| nT <| CJ_condP rfl bT_dec (fun hg1 => ?_) (fun hg1 => ?_)
 ·
  replace h := ite_t hg1 h
  refine sR <| oM rfl rfl <| oA rfl rfl <| oA rfl rfl <| nT <| CJ_ret <| QJ_then_ret <| QJ_ent (fun h hh => sl_nil (t := tyU) h hh) ?_
  cases h
  exact fE (res2 Try.results7 rfl rfl) ⟨none, 0, 0⟩ (t0_ (eD eR))
 ·
  replace h := ite_f hg1 h
  refine kT <| sR <| oP (P_fieldAddr rfl ⟨_, _, _, Try.runUnderlying24, rfl, rfl, Try.sizeOf22, rfl⟩) rfl <| oV (V_load rfl foc0 rfl Try.isAgg22) rfl <| oP (P_fieldAddr rfl ⟨_, _, _, Try.runUnderlying24, rfl, rfl, Try.sizeOf3, rfl⟩) rfl <| oV (V_load rfl foc0 rfl Try.isAgg3) rfl <| oP (P_conv_u64 (a := l.Size) rfl Try.runUnderlying3 Try.runUnderlying22) rfl <| oP (P_fieldAddr rfl ⟨_, _, _, Try.runUnderlying24, rfl, rfl, Try.sizeOf3, rfl⟩) rfl <| oV (V_load rfl foc0 rfl Try.isAgg3) rfl <| oP (P_conv_u64 (a := l.Start) rfl Try.runUnderlying3 Try.runUnderlying22) rfl <| oP (P_fieldAddr rfl ⟨_, _, _, Try.runUnderlying24, rfl, rfl, Try.sizeOf3, rfl⟩) rfl <| oV (V_load rfl foc0 rfl Try.isAgg3) rfl <| oP (P_conv_u64 (a := l.Area) rfl Try.runUnderlying3 Try.runUnderlying22) rfl <| oP (P_fieldAddr rfl ⟨_, _, _, Try.runUnderlying24, rfl, rfl, Try.sizeOf22, rfl⟩) rfl <| oV (V_load rfl foc0 rfl Try.isAgg22) rfl <| oO <| O_buildSlice rfl (bs_27_8_0_1_2_3_4_5_6_7 _ _ _ _ _ _ _ _) rfl fun b5 => RJ_ent (Ent.trans (t0_ eR) (sl_of_lit (t := tyU) (m := 8) [(5494745885936405590 : UInt64), l.ID, (to_u64 l.Size), (to_u64 l.Start), (to_u64 l.Area), l.Group, (0 : UInt64), (0 : UInt64)] rfl rfl rfl (by decide))) <| oA rfl rfl <| nT <| sR <| oM rfl rfl <| oM rfl rfl ?_
  obtain ⟨r6, hr7, h⟩ := bind_e h
  refine oO <| O_call (L_volumegroupref11_sum (Reads.sl _ _ _) hr7) rfl Try.call27 (Dels.cons del0 Dels.nil) rfl fun _ _ => ?_
  obtain ⟨hg2, h⟩ := grd_de h
  refine oV (V_index (i := 6) rfl rfl rfl hg2 foc0 (Reads.sl _ _ _) Try.runUnderlying27 Try.sizeOf22) rfl <| oO <| O_storeE (x' := r6) rfl rfl rfl hg2 foc0 rfl rfl rfl Try.sizeOf22 <| nT <| sR <| oM rfl rfl <| oA rfl rfl <| oA rfl rfl <| nT <| CJ_ret ?_
  cases h
  exact fE (res2 Try.results7 rfl rfl) ⟨some ⟨b5, 0, none⟩, 8, 8⟩ (t0_ (eD eR))
def volumegroupref11_FromWords (w : List UInt64) : Option (api_Label × Int) :=
  if (((w.length : Nat) : Int) ≠ (8 : Int)) then
    some (((⟨(0 : UInt64), (0 : Int), (0 : Int), (0 : Int), (0 : UInt64)⟩ : api_Label), (3 : Int)))
  else
    if (((w.getD 0 0) ≠ (5494745885936405590 : UInt64)) ∨ ((w.getD 7 0) ≠ (0 : UInt64))) then
      some (((⟨(0 : UInt64), (0 : Int), (0 : Int), (0 : Int), (0 : UInt64)⟩ : api_Label), (2 : Int)))
    else
      Option.bind (volumegroupref11_sum w) fun r11 =>
      if ((w.getD 6 0) ≠ r11) then
        some (((⟨(0 : UInt64), (0 : Int), (0 : Int), (0 : Int), (0 : UInt64)⟩ : api_Label), (11 : Int)))
      else
        if (((((1073741824 : UInt64).toNat : Int) < ((w.getD 2 0).toNat : Int)) ∨ (((1073741824 : UInt64).toNat : Int) < ((w.getD 3 0).toNat : Int))) ∨ (((1073741824 : UInt64).toNat : Int) < ((w.getD 4 0).toNat : Int))) then
          some (((⟨(0 : UInt64), (0 : Int), (0 : Int), (0 : Int), (0 : UInt64)⟩ : api_Label), (1 : Int)))
        else
          Option.bind (volumegroupref11_Check ((⟨(w.getD 1 0), (IntKind.i64.wrap ((w.getD 2 0).toNat : Int)), (IntKind.i64.wrap ((w.getD 3 0).toNat : Int)), (IntKind.i64.wrap ((w.getD 4 0).toNat : Int)), (w.getD 5 0)⟩ : api_Label))) fun r30 =>
          if (r30 ≠ (0 : Int)) then
            some (((⟨(0 : UInt64), (0 : Int), (0 : Int), (0 : Int), (0 : UInt64)⟩ : api_Label), r30))
          else
            some (((⟨(w.getD 1 0), (IntKind.i64.wrap ((w.getD 2 0).toNat : Int)), (IntKind.i64.wrap ((w.getD 3 0).toNat : Int)), (IntKind.i64.wrap ((w.getD 4 0).toNat : Int)), (w.getD 5 0)⟩ : api_Label), (0 : Int)))
theorem L_volumegroupref11_FromWords {W : World} {Aw : HP} {vw : Value} {w : List UInt64} {r : api_Label × Int} (rw : Reads Aw tyU vw w) (h : volumegroupref11_FromWords w = some r) :
    CSpec Try.prog W 14 [vw] [Aw] (fun x : Unit => .tuple #[.agg #[.int .u64 (r.1.ID.toNat : Int), .int .i64 r.1.Size, .int .i64 r.1.Start, .int .i64 r.1.Area, .int .u64 (r.1.Group.toNat : Int)], .int .i64 r.2]) (fun _ => True) (fun x F => Aw :: F) := by
 refine CSpec.of_body Try.func14 rfl Try.ntmps14 rfl fun F => ?_
 show CJ _ _ _ _ _ _ (_ :: F)
 unfold volumegroupref11_FromWords at h
 refine CJ_pure (len_of rw del0) fun hlen1 => sR <| oO <| O_alloc Try.zeroValue24 rfl rfl fun b2 => oA rfl rfl <| nT <| CJ_seq <| sR <| oM rfl rfl <| oV (V_len rfl foc1 rw Try.runUnderlying27) rfl <| oP (P_neq (a := ((w.length : Nat) : Int)) (b := (8 : Int)) rfl rfl) rfl <| nT <| CJ_condP rfl bT_dec (fun hg1 => ?_) (fun hg1 => ?_)
 ·
  replace h := ite_t hg1 h
  refine sR <| oP (P_build rfl (bld_24)) rfl <| oO <| O_storeN rfl rfl foc0 Try.sizeOf24 rfl rfl rfl <| oA rfl rfl <| nT <| CJ_ret <| QJ_then_ret ?_
  cases h
  exact fE (resA2 Try.results14 (RV_cellN rfl foc0 Try.isAgg24 Try.sizeOf24 rfl rfl) (RV_tmp rfl)) () (t1_ (eD eR))
 ·
  replace h := ite_f hg1 h
  refine kT <| CJ_seq <| sR <| oM rfl rfl <| oV (V_index (i := 0) rfl rfl rfl (by omega) foc1 rw Try.runUnderlying27 Try.sizeOf22) rfl <| oV (V_loadE rfl rfl (by omega) foc1 rw rfl rfl Try.isAgg22) rfl <| oP (P_ne_u64 (a := (w.getD 0 0)) (b := (5494745885936405590 : UInt64)) rfl rfl) rfl <| oM rfl rfl <| RJ_mbF rfl rfl rfl (fun hG3 => have hP4 : ¬ ((w.getD 0 0) ≠ (5494745885936405590 : UInt64)) := nP (bT_dec) hG3; VJ_P (P_move rfl)) <| RJ_mbF rfl rfl rfl (fun hG5 => have hP6 : ¬ ((w.getD 0 0) ≠ (5494745885936405590 : UInt64)) := nP (bT_dec) hG5; V_index (i := 7) (mbx hG5 rfl) rfl rfl (by omega) foc1 rw Try.runUnderlying27 Try.sizeOf22) <| RJ_mbF rfl rfl rfl (fun hG7 => have hP8 : ¬ ((w.getD 0 0) ≠ (5494745885936405590 : UInt64)) := nP (bT_dec) hG7; V_loadE (mbx hG7 rfl) rfl (by omega) foc1 rw rfl rfl Try.isAgg22) <| RJ_mbF rfl rfl rfl (fun hG9 => have hP10 : ¬ ((w.getD 0 0) ≠ (5494745885936405590 : UInt64)) := nP (bT_dec) hG9; VJ_P (P_ne_u64 (a := (w.getD 7 0)) (b := (0 : UInt64)) (mbx hG9 rfl) rfl)) <| oP (P_pickOr rfl rfl (fun hh => mbx (not_f hh) rfl)) rfl <| nT <| CJ_condP rfl (bT_or bT_dec bT_dec) (fun hg2 => ?_) (fun hg2 => ?_)
  ·
   replace h := ite_t hg2 h
   refine sR <| oP (P_build rfl (bld_24)) rfl <| oO <| O_storeN rfl rfl foc0 Try.sizeOf24 rfl rfl rfl <| oA rfl rfl <| nT <| CJ_ret <| QJ_then_ret ?_
   cases h
   exact fE (resA2 Try.results14 (RV_cellN rfl foc0 Try.isAgg24 Try.sizeOf24 rfl rfl) (RV_tmp rfl)) () (t1_ (eD eR))
  ·
   replace h := ite_f hg2 h
   refine kT <| CJ_seq <| CJ_seq <| AJ_startH 0 (by kernel_rfl) rfl <| aN 0 1 rfl rfl (P_move rfl) rfl <| aV 1 3 rfl rfl (GY_none rfl) eR (V_index (i := 6) rfl rfl rfl (by omega) foc1 rw Try.runUnderlying27 Try.sizeOf22) rfl <| aV 2 7 rfl rfl (GY_none rfl) eR (V_loadE rfl rfl (by omega) foc1 rw rfl rfl Try.isAgg22) rfl <| aN 3 15 rfl rfl (P_move rfl) rfl ?_
   obtain ⟨r11, hr12, h⟩ := bind_e h
   refine AJ_op 4 31 rfl (by kernel_rfl) rfl (GY_none rfl) <| O_call (L_volumegroupref11_sum rw hr12) rfl Try.call27 (Dels.cons del1 Dels.nil) rfl fun _ _ => ⟨fun _ => (t1_ eR), ?_⟩
   refine aN 5 63 rfl rfl (P_ne_u64 (a := (w.getD 6 0)) (b := r11) rfl rfl) rfl <| aD <| CJ_condP rfl bT_dec (fun hg3 => ?_) (fun hg3 => ?_)
   ·
    replace h := ite_t hg3 h
    refine sR <| oP (P_build rfl (bld_24)) rfl <| oO <| O_storeN rfl rfl foc1 Try.sizeOf24 rfl rfl rfl <| oA rfl rfl <| nT <| CJ_ret <| QJ_then_ret ?_
    cases h
    exact fE (resA2 Try.results14 (RV_cellN rfl foc1 Try.isAgg24 Try.sizeOf24 rfl rfl) (RV_tmp rfl)) () (t0_ (eD eR))
   ·
    replace h := ite_f hg3 h
    refine kT <| CJ_seq <| sR <| oM rfl rfl <| oV (V_index (i := 2) rfl rfl rfl (by omega) foc0 rw Try.runUnderlying27 Try.sizeOf22) rfl <| oV (V_loadE rfl rfl (by omega) foc0 rw rfl rfl Try.isAgg22) rfl <| oP (P_gtr (a := ((w.getD 2 0).toNat : Int)) (b := ((1073741824 : UInt64).toNat : Int)) rfl rfl) rfl <| oM rfl rfl <| RJ_mbF rfl rfl rfl (fun hG13 => have hP14 : ¬ (((1073741824 : UInt64).toNat : Int) < ((w.getD 2 0).toNat : Int)) := nP (bT_dec) hG13; VJ_P (P_move rfl)) <| RJ_mbF rfl rfl rfl (fun hG15 => have hP16 : ¬ (((1073741824 : UInt64).toNat : Int) < ((w.getD 2 0).toNat : Int)) := nP (bT_dec) hG15; V_index (i := 3) (mbx hG15 rfl) rfl rfl (by omega) foc0 rw Try.runUnderlying27 Try.sizeOf22) <| RJ_mbF rfl rfl rfl (fun hG17 => have hP18 : ¬ (((1073741824 : UInt64).toNat : Int) < ((w.getD 2 0).toNat : Int)) := nP (bT_dec) hG17; V_loadE (mbx hG17 rfl) rfl (by omega) foc0 rw rfl rfl Try.isAgg22) <| RJ_mbF rfl rfl rfl (fun hG19 => have hP20 : ¬ (((1073741824 : UInt64).toNat : Int) < ((w.getD 2 0).toNat : Int)) := nP (bT_dec) hG19; VJ_P (P_gtr (a := ((w.getD 3 0).toNat : Int)) (b := ((1073741824 : UInt64).toNat : Int)) (mbx hG19 rfl) rfl)) <| oP (P_pickOr rfl rfl (fun hh => mbx (not_f hh) rfl)) rfl <| oM rfl rfl <| RJ_mbF rfl rfl rfl (fun hG21 => have hP22 : ¬ ((((1073741824 : UInt64).toNat : Int) < ((w.getD 2 0).toNat : Int)) ∨ (((1073741824 : UInt64).toNat : Int) < ((w.getD 3 0).toNat : Int))) := nP ((bT_or bT_dec bT_dec)) hG21; VJ_P (P_move rfl)) ?_
    refine RJ_mbF rfl rfl rfl (fun hG23 => have hP24 : ¬ ((((1073741824 : UInt64).toNat : Int) < ((w.getD 2 0).toNat : Int)) ∨ (((1073741824 : UInt64).toNat : Int) < ((w.getD 3 0).toNat : Int))) := nP ((bT_or bT_dec bT_dec)) hG23; V_index (i := 4) (mbx hG23 rfl) rfl rfl (by omega) foc0 rw Try.runUnderlying27 Try.sizeOf22) <| RJ_mbF rfl rfl rfl (fun hG25 => have hP26 : ¬ ((((1073741824 : UInt64).toNat : Int) < ((w.getD 2 0).toNat : Int)) ∨ (((1073741824 : UInt64).toNat : Int) < ((w.getD 3 0).toNat : Int))) := nP ((bT_or bT_dec bT_dec)) hG25; V_loadE (mbx hG25 rfl) rfl (by omega) foc0 rw rfl rfl Try.isAgg22) <| RJ_mbF rfl rfl rfl (fun hG27 => have hP28 : ¬ ((((1073741824 : UInt64).toNat : Int) < ((w.getD 2 0).toNat : Int)) ∨ (((1073741824 : UInt64).toNat : Int) < ((w.getD 3 0).toNat : Int))) := nP ((bT_or bT_dec bT_dec)) hG27; VJ_P (P_gtr (a := ((w.getD 4 0).toNat : Int)) (b := ((1073741824 : UInt64).toNat : Int)) (mbx hG27 rfl) rfl)) <| oP (P_pickOr rfl rfl (fun hh => mbx (not_f hh) rfl)) rfl <| nT <| CJ_condP rfl (bT_or (bT_or bT_dec bT_dec) bT_dec) (fun hg4 => ?_) (fun hg4 => ?_)
    ·
     replace h := ite_t hg4 h
     refine sR <| oP (P_build rfl (bld_24)) rfl <| oO <| O_storeN rfl rfl foc1 Try.sizeOf24 rfl rfl rfl <| oA rfl rfl <| nT <| CJ_ret <| QJ_then_ret ?_
     cases h
     exact fE (resA2 Try.results14 (RV_cellN rfl foc1 Try.isAgg24 Try.sizeOf24 rfl rfl) (RV_tmp rfl)) () (t0_ (eD eR))
    ·
     replace h := ite_f hg4 h
     refine kT <| CJ_seq <| AJ_startH 1048576 (by kernel_rfl) rfl <| aN 0 1 rfl rfl (P_move rfl) rfl <| aV 1 3 rfl rfl (GY_none rfl) eR (V_index (i := 1) rfl rfl rfl (by omega) foc0 rw Try.runUnderlying27 Try.sizeOf22) rfl <| aV 2 7 rfl rfl (GY_none rfl) eR (V_loadE rfl rfl (by omega) foc0 rw rfl rfl Try.isAgg22) rfl <| aN 3 15 rfl rfl (P_move rfl) rfl <| aV 4 31 rfl rfl (GY_none rfl) eR (V_index (i := 2) rfl rfl rfl (by omega) foc0 rw Try.runUnderlying27 Try.sizeOf22) rfl <| aV 5 63 rfl rfl (GY_none rfl) eR (V_loadE rfl rfl (by omega) foc0 rw rfl rfl Try.isAgg22) rfl <| aN 6 127 rfl rfl (P_conv rfl Try.runUnderlying22 Try.runUnderlying3) rfl <| aN 7 255 rfl rfl (P_move rfl) rfl <| aV 8 511 rfl rfl (GY_none rfl) eR (V_index (i := 3) rfl rfl rfl (by omega) foc0 rw Try.runUnderlying27 Try.sizeOf22) rfl <| aV 9 1023 rfl rfl (GY_none rfl) eR (V_loadE rfl rfl (by omega) foc0 rw rfl rfl Try.isAgg22) rfl <| aN 10 2047 rfl rfl (P_conv rfl Try.runUnderlying22 Try.runUnderlying3) rfl <| aN 11 4095 rfl rfl (P_move rfl) rfl <| aV 12 8191 rfl rfl (GY_none rfl) eR (V_index (i := 4) rfl rfl rfl (by omega) foc0 rw Try.runUnderlying27 Try.sizeOf22) rfl <| aV 13 16383 rfl rfl (GY_none rfl) eR (V_loadE rfl rfl (by omega) foc0 rw rfl rfl Try.isAgg22) rfl <| aN 14 32767 rfl rfl (P_conv rfl Try.runUnderlying22 Try.runUnderlying3) rfl <| aN 15 65535 rfl rfl (P_move rfl) rfl ?_
     refine aV 16 131071 rfl rfl (GY_none rfl) eR (V_index (i := 5) rfl rfl rfl (by omega) foc0 rw Try.runUnderlying27 Try.sizeOf22) rfl <| aV 17 262143 rfl rfl (GY_none rfl) eR (V_loadE rfl rfl (by omega) foc0 rw rfl rfl Try.isAgg22) rfl <| aN 18 524287 rfl rfl (P_build rfl (bld_24_0_1_2_3_4 _ _ _ _ _)) rfl <| AJ_op 19 1048575 rfl (by kernel_rfl) rfl (GY_none rfl) <| O_alloc Try.zeroValue24 rfl rfl fun b29 => ⟨fun _ => (t1_ (t1_ (eD eR))), ?_⟩
     refine AJ_op 20 2097151 rfl (by kernel_rfl) rfl (GY_none rfl) <| O_storeN rfl rfl foc0 Try.sizeOf24 rfl rfl rfl <| ⟨fun h => absurd h (by decide), ?_⟩
     refine aD <| CJ_seq <| sR <| oV (V_loadN rfl foc0 Try.isAgg24 Try.sizeOf24 rfl rfl) rfl ?_
     obtain ⟨r30, hr31, h⟩ := bind_e h
     refine oO <| O_call (L_volumegroupref11_Check hr31) rfl Try.call13 Dels.nil rfl fun _ _ => oA rfl rfl <| nT <| sR <| oM rfl rfl <| oP (P_neq (a := r30) (b := (0 : Int)) rfl rfl) rfl <| nT <| CJ_condP rfl bT_dec (fun hg5 => ?_) (fun hg5 => ?_)
     ·
      replace h := ite_t hg5 h
      refine sR <| oP (P_build rfl (bld_24)) rfl <| oM rfl rfl <| oO <| O_storeN rfl rfl foc2 Try.sizeOf24 rfl rfl rfl <| oA rfl rfl <| nT <| CJ_ret <| QJ_then_ret ?_
      cases h
      exact fE (resA2 Try.results14 (RV_cellN rfl foc2 Try.isAgg24 Try.sizeOf24 rfl rfl) (RV_tmp rfl)) () (t1_ (eD (eD eR)))
     ·
      replace h := ite_f hg5 h
      refine kT <| sR <| oV (V_loadN rfl foc0 Try.isAgg24 Try.sizeOf24 rfl rfl) rfl <| oO <| O_storeN rfl rfl foc2 Try.sizeOf24 rfl rfl rfl <| oA rfl rfl <| nT <| CJ_ret ?_
      cases h
      exact fE (resA2 Try.results14 (RV_cellN rfl foc2 Try.isAgg24 Try.sizeOf24 rfl rfl) (RV_tmp rfl)) () (t1_ (eD (eD eR)))
def volumegrouplaw11_sample (id : UInt64) : Option (api_Label) :=
  some ((⟨id, (20 : Int), (8 : Int), (12 : Int), (3 : UInt64)⟩ : api_Label))
theorem L_volumegrouplaw11_sample {W : World} {id : UInt64} {r : api_Label} (h : volumegrouplaw11_sample id = some r) :
    CSpec Try.prog W 15 [.int .u64 (id.toNat : Int)] [] (fun x : Unit => .agg #[.int .u64 (r.ID.toNat : Int), .int .i64 r.Size, .int .i64 r.Start, .int .i64 r.Area, .int .u64 (r.Group.toNat : Int)]) (fun _ => True) (fun x F => F) := by
 refine CSpec.of_body Try.func15 rfl Try.ntmps15 rfl fun F => ?_
 show CJ _ _ _ _ _ _ (F)
 unfold volumegrouplaw11_sample at h
 refine sR <| oO <| O_alloc Try.zeroValue24 rfl rfl fun b1 => nT <| sR <| oM rfl rfl <| oP (P_build rfl (bld_24_0_1_2_3_4 _ _ _ _ _)) rfl <| oO <| O_storeN rfl rfl foc0 Try.sizeOf24 rfl rfl rfl <| nT <| CJ_ret ?_
 cases h
 exact fE (resA1 Try.results15 (RV_cellN rfl foc0 Try.isAgg24 Try.sizeOf24 rfl rfl)) () (eD eR)
end Go.Proofs
namespace Go.Proofs
open Go.VG
def mkS (ims : List (List UInt64)) : ArrS := ⟨ims.map (fun im => ⟨im, im, false⟩), [], [], 0, false, 0⟩
theorem inLen_of {n : Nat} (h : n ≤ 1000000000) : inLen n = true := inLen_iff.2 h
theorem inN64_of {n : Nat} (h : n ≤ 9000000000000000000) : inN64 n = true := inN64_iff.2 (by omega)
theorem grd_t {α : Type} {b : Bool} {o : Option α} (h : b = true) : grd b o = o := by rw [h]; rfl
def lensI (l : List (List UInt64)) : List Int := l.map fun im => (im.length : Int)
theorem getD_take_snoc {α : Type} {l : List α} {i : Nat} {d : α} (h : i < l.length) : l.take (i + 1) = l.take i ++ [l.getD i d] := by
  rw [List.take_succ_eq_append_getElem h]; simp [List.getD, h]
theorem loaded_l1 {l : List (List UInt64)} (h8 : l.length ≤ 1000) : ∀ (N i : Nat) (acc : List Int), l.length - i < N → i ≤ l.length → acc = lensI (l.take i) →
    volumegroupmake_Loaded_l1 l N acc i = some (lensI l)
  | 0, _, _, h, _, _ => absurd h (by omega)
  | N + 1, i, acc, h, hi, ha => by
    show volumegroupmake_Loaded_l1_b _ _ _ _ = _
    unfold volumegroupmake_Loaded_l1_b
    subst ha
    by_cases hlt : i < l.length
    · rw [if_pos (by omega), grd_t (inLen_of (by simp [lensI]; omega)), grd_t (inN64_of (by omega))]
      refine loaded_l1 h8 N (i + 1) _ (by omega) (by omega) ?_
      rw [getD_take_snoc (d := []) hlt]; simp [lensI]
    · rw [if_neg (by omega)]
      have : i = l.length := by omega
      rw [this, List.take_length]
def ldDrv (l : List (List UInt64)) (i : Nat) : List Drive := (l.take i).map (fun im => ⟨im, im, false⟩) ++ (lensI (l.drop i)).map mkD
theorem loaded_l2 {l : List (List UInt64)} (h8 : l.length ≤ 8) (hz : ∀ im ∈ l, 1 ≤ im.length ∧ im.length ≤ 65536) : ∀ (N i : Nat) (x : ArrS), l.length - i < N → i ≤ l.length → x = ⟨ldDrv l i, [], [], 0, false, 0⟩ →
    volumegroupmake_Loaded_l2 l N x i = some (.inl (mkS l))
  | 0, _, _, h, _, _ => absurd h (by omega)
  | N + 1, i, x, h, hi, hx => by
    show volumegroupmake_Loaded_l2_b _ _ _ _ = _
    unfold volumegroupmake_Loaded_l2_b
    subst hx
    by_cases hlt : i < l.length
    · have hlen : (ldDrv l i).length = l.length := by simp [ldDrv, lensI]; omega
      have hin : inR ⟨ldDrv l i, [], [], 0, false, 0⟩ (i : Int) := by unfold inR; simp only [hlen]; omega
      have hg : (ldDrv l i).getD i d0 = mkD ((l.getD i []).length : Int) := by
        unfold ldDrv
        have e1 : ((l.take i).map (fun im => (⟨im, im, false⟩ : Drive))).length = i := by simp; omega
        simp only [List.getD]
        rw [List.getElem?_append_right (by omega), e1, Nat.sub_self, List.drop_eq_getElem_cons hlt]; simp [lensI, hlt]
      have hc : ldC ⟨ldDrv l i, [], [], 0, false, 0⟩ (i : Int) (l.getD i []) = 0 := by
        unfold ldC; rw [if_pos hin]; simp only [Int.toNat_natCast, hg]
        rw [if_pos (by simp [mkD])]
      rw [if_pos (by omega), grd_t (inLen_of (by simp)), if_neg (by rw [hc]; simp), grd_t (inN64_of (by omega))]
      refine loaded_l2 h8 hz N (i + 1) _ (by omega) (by omega) ?_
      have hC : ldS ⟨ldDrv l i, [], [], 0, false, 0⟩ (i : Int) (l.getD i []) = ⟨ldDrv l (i + 1), [], [], 0, false, 0⟩ := by
        unfold ldS; rw [if_pos hc]
        have hd : ∀ n, delUpTo [] (i : Int) n = [] := fun n => by
          induction n with
          | zero => rfl
          | succ n ih => rw [← delUpTo_step, ih]; rfl
        simp only [Int.toNat_natCast, hg, hd, List.filter_nil]
        congr 1
        unfold ldDrv
        rw [getD_take_snoc (d := []) hlt, List.drop_eq_getElem_cons hlt]
        have e1 : ((l.take i).map (fun im => (⟨im, im, false⟩ : Drive))).length = i := by simp; omega
        rw [List.set_append_right _ _ (by omega), e1, Nat.sub_self]
        simp only [lensI, List.map_cons, List.set_cons_zero, List.map_append, List.map_nil, List.append_assoc, List.cons_append, List.nil_append]
        rfl
      exact hC
    · rw [if_neg (by omega)]
      have : i = l.length := by omega
      rw [this]; simp [ldDrv, mkS, lensI]
theorem loaded_eq {l : List (List UInt64)} (h8 : l.length ≤ 8) (hz : ∀ im ∈ l, 1 ≤ im.length ∧ im.length ≤ 65536) : volumegroupmake_Loaded l = some (some (mkS l)) := by
  unfold volumegroupmake_Loaded
  have hF := fuel_big
  generalize FUEL = N at hF ⊢
  rw [loaded_l1 (by omega) N 0 [] (by omega) (by omega) (by simp [lensI])]
  have hN : newB (lensI l) = true := by
    unfold newB
    rw [Bool.and_eq_true, Nat.ble_eq, List.all_eq_true]
    refine ⟨by simpa [lensI] using h8, fun z hz' => ?_⟩
    obtain ⟨im, him, rfl⟩ := List.mem_map.1 hz'
    have := hz im him
    simp; omega
  simp only [Option.bind_some]
  rw [grd_t (inLen_of (by simp [lensI]; omega))]
  have hnc : newC (lensI l) = 0 := by unfold newC; rw [if_pos hN]
  have hno : newO (lensI l) = some (newS (lensI l)) := by unfold newO; rw [if_pos hN]
  rw [if_neg (by rw [hnc]; simp), hno]
  simp only [Option.elim]
  rw [loaded_l2 h8 hz N 0 _ (by omega) (by omega) (by simp [newS, ldDrv])]
  rfl
end Go.Proofs
namespace Go.Proofs
open Go.VG
abbrev magicW : UInt64 := 5494745885936405590
def sum7 (a0 a1 a2 a3 a4 a5 a7 : UInt64) : UInt64 := to_u64 ((crcU [a0, a1, a2, a3, a4, a5, a7]).toNat : Int)
theorem label_sum_eq (w : Arr62) : label_words_sum w = some (sum7 w.e0 w.e1 w.e2 w.e3 w.e4 w.e5 w.e7) := by
  unfold label_words_sum; rw [Words_eq]; rfl
def labA (l : api_Label) : Arr62 := ⟨magicW, l.ID, to_u64 l.Size, to_u64 l.Start, to_u64 l.Area, l.Group, sum7 magicW l.ID (to_u64 l.Size) (to_u64 l.Start) (to_u64 l.Area) l.Group 0, 0⟩
theorem label_pack_eq (l : api_Label) : label_pack l = some (labA l) := by
  unfold label_pack; rw [label_sum_eq]; rfl
abbrev arrL (w : Arr62) : List UInt64 := [w.e0, w.e1, w.e2, w.e3, w.e4, w.e5, w.e6, w.e7]
def labL (l : api_Label) : List UInt64 := arrL (labA l)
structure LabOk (l : api_Label) : Prop where
  size : 1 ≤ l.Size ∧ l.Size ≤ 65536
  start : 8 ≤ l.Start
  area : 4 ≤ l.Area
  le : l.Start ≤ l.Size
  room : l.Area ≤ l.Size - l.Start
theorem not_labOk {l : api_Label} : ((((((l.Size < (1 : Int)) ∨ ((65536 : Int) < l.Size)) ∨ (l.Start < (8 : Int))) ∨ (l.Area < (4 : Int))) ∨ (l.Size < l.Start)) ∨ ((l.Size - l.Start) < l.Area)) ↔ ¬ LabOk l := by
  constructor
  · intro h hk
    have h1 := hk.size; have h2 := hk.start; have h3 := hk.area; have h4 := hk.le; have h5 := hk.room
    omega
  · intro h
    refine Classical.byContradiction fun hn => h ⟨by omega, by omega, by omega, by omega, by omega⟩
theorem check_ok {l : api_Label} (h : LabOk l) : label_Check l = some 0 := by unfold label_Check; rw [if_neg (fun x => not_labOk.1 x h)]
theorem check_no {l : api_Label} (h : ¬ LabOk l) : label_Check l = some 1 := by unfold label_Check; rw [if_pos (not_labOk.2 h)]
theorem rcheck_ok {l : api_Label} (h : LabOk l) : volumegroupref11_Check l = some 0 := by unfold volumegroupref11_Check; rw [if_neg (fun x => not_labOk.1 x h)]
theorem rcheck_no {l : api_Label} (h : ¬ LabOk l) : volumegroupref11_Check l = some 1 := by unfold volumegroupref11_Check; rw [if_pos (not_labOk.2 h)]
theorem words_ok {l : api_Label} (h : LabOk l) : label_Words l = some (labL l, 0) := by
  unfold label_Words
  rw [check_ok h]; simp only [Option.bind_some]
  rw [if_neg (by decide), label_pack_eq]; rfl
theorem words_no {l : api_Label} (h : ¬ LabOk l) : label_Words l = some ([], 1) := by
  unfold label_Words
  rw [check_no h]; simp only [Option.bind_some]
  rw [if_pos (by decide)]
theorem rsum_eq {a0 a1 a2 a3 a4 a5 a6 a7 : UInt64} : volumegroupref11_sum [a0, a1, a2, a3, a4, a5, a6, a7] = some (sum7 a0 a1 a2 a3 a4 a5 a7) := by
  unfold volumegroupref11_sum
  rw [grd_pos (by simp), grd_pos (by simp), grd_pos (inLen_of (by simp)), grd_pos (inLen_of (by simp))]
  rw [refWords_eq (by simp)]; rfl
theorem rwords_ok {l : api_Label} (h : LabOk l) : volumegroupref11_Words l = some (labL l, 0) := by
  unfold volumegroupref11_Words
  rw [rcheck_ok h]; simp only [Option.bind_some]
  rw [if_neg (by decide), rsum_eq]; rfl
theorem rwords_no {l : api_Label} (h : ¬ LabOk l) : volumegroupref11_Words l = some ([], 1) := by
  unfold volumegroupref11_Words
  rw [rcheck_no h]; simp only [Option.bind_some]
  rw [if_pos (by decide)]
abbrev zL : api_Label := ⟨0, 0, 0, 0, 0⟩
abbrev outA (w : Arr62) : api_Label := ⟨w.e1, IntKind.i64.wrap (w.e2.toNat : Int), IntKind.i64.wrap (w.e3.toNat : Int), IntKind.i64.wrap (w.e4.toNat : Int), w.e5⟩
noncomputable def fromA (w : Arr62) : api_Label × Int :=
  open Classical in
  if w.e0 ≠ magicW ∨ w.e7 ≠ 0 then (zL, 2) else if w.e6 ≠ sum7 w.e0 w.e1 w.e2 w.e3 w.e4 w.e5 w.e7 then (zL, 11) else if LabOk (outA w) then (outA w, 0) else (zL, 1)
theorem wrap_small {x : UInt64} (h : 0 ≤ IntKind.i64.wrap (x.toNat : Int)) : IntKind.i64.wrap (x.toNat : Int) = (x.toNat : Int) := by
  have h1 := x.toNat_lt
  have h2 : IntKind.i64.wrap (x.toNat : Int) = if (x.toNat : Int) % 18446744073709551616 ≥ 9223372036854775808 then (x.toNat : Int) % 18446744073709551616 - 18446744073709551616 else (x.toNat : Int) % 18446744073709551616 := by
    simp [IntKind.wrap, IntKind.signed, IntKind.bits]
  rw [h2] at h ⊢
  have h3 : (x.toNat : Int) % 18446744073709551616 = (x.toNat : Int) := Int.emod_eq_of_lt (by omega) (by omega)
  rw [h3] at h ⊢
  split at h
  · omega
  · rename_i hh; rw [if_neg hh]
theorem to_u64_nat {x : UInt64} : to_u64 (x.toNat : Int) = x := by
  have h1 := to_u64_toNat (x.toNat : Int)
  have h2 := x.toNat_lt
  rw [Int.emod_eq_of_lt (by omega) (by omega)] at h1
  exact UInt64.toNat_inj.1 (by omega)
theorem wrap_to_u64' {x : Int} (h : 0 ≤ x ∧ x ≤ 65536) : IntKind.i64.wrap ((to_u64 x).toNat : Int) = x := by
  have h1 := to_u64_toNat x
  rw [Int.emod_eq_of_lt (by omega) (by omega)] at h1
  rw [h1]; exact wrap64_in (by omega) (by omega)
theorem arrL_get (w : Arr62) : (⟨(arrL w).getD 0 0, (arrL w).getD 1 0, (arrL w).getD 2 0, (arrL w).getD 3 0, (arrL w).getD 4 0, (arrL w).getD 5 0, (arrL w).getD 6 0, (arrL w).getD 7 0⟩ : Arr62) = w := rfl
theorem labA_outA {w : Arr62} (h0 : w.e0 = magicW) (h7 : w.e7 = 0) (h6 : w.e6 = sum7 w.e0 w.e1 w.e2 w.e3 w.e4 w.e5 w.e7) (hk : LabOk (outA w)) : labA (outA w) = w := by
  have h1 := hk.size; have h2 := hk.start; have h3 := hk.area; have h4 := hk.le; have h5 := hk.room
  simp only at h1 h2 h3 h4 h5
  have e2 : to_u64 (IntKind.i64.wrap (w.e2.toNat : Int)) = w.e2 := by rw [wrap_small (by omega), to_u64_nat]
  have e3 : to_u64 (IntKind.i64.wrap (w.e3.toNat : Int)) = w.e3 := by rw [wrap_small (by omega), to_u64_nat]
  have e4 : to_u64 (IntKind.i64.wrap (w.e4.toNat : Int)) = w.e4 := by rw [wrap_small (by omega), to_u64_nat]
  obtain ⟨e0, e1, e2', e3', e4', e5, e6, e7⟩ := w
  simp only at h0 h7 h6 e2 e3 e4
  subst h0 h7
  simp only [labA, e2, e3, e4, ← h6]
theorem from_eq (w : Arr62) : label_FromWords (arrL w) = some (fromA w) := by
  unfold label_FromWords fromA
  rw [if_neg (by simp), arrL_get]
  show (if w.e0 ≠ magicW ∨ w.e7 ≠ 0 then _ else _) = _
  by_cases h1 : w.e0 ≠ magicW ∨ w.e7 ≠ 0
  · rw [if_pos h1, if_pos h1]
  · rw [if_neg h1, if_neg h1, label_sum_eq]; simp only [Option.bind_some]
    by_cases h2 : w.e6 ≠ sum7 w.e0 w.e1 w.e2 w.e3 w.e4 w.e5 w.e7
    · rw [if_pos h2, if_pos h2]
    · rw [if_neg h2, if_neg h2]
      by_cases h3 : LabOk (outA w)
      · rw [if_pos h3, check_ok h3]; simp only [Option.bind_some]
        rw [if_neg (by decide), label_pack_eq]; simp only [Option.bind_some]
        have h0 : w.e0 = magicW := Classical.byContradiction fun h => h1 (.inl h)
        have h7 : w.e7 = 0 := Classical.byContradiction fun h => h1 (.inr h)
        rw [if_neg (fun x => x (labA_outA h0 h7 (Classical.byContradiction h2) h3))]
      · rw [if_neg h3, check_no h3]; simp only [Option.bind_some]
        rw [if_pos (by decide)]
theorem rfrom_eq (w : Arr62) : volumegroupref11_FromWords (arrL w) = some (fromA w) := by
  unfold volumegroupref11_FromWords fromA
  rw [if_neg (by simp)]
  show (if w.e0 ≠ magicW ∨ w.e7 ≠ 0 then _ else _) = _
  by_cases h1 : w.e0 ≠ magicW ∨ w.e7 ≠ 0
  · rw [if_pos h1, if_pos h1]
  · rw [if_neg h1, if_neg h1, rsum_eq]; simp only [Option.bind_some]
    show (if w.e6 ≠ _ then _ else _) = _
    by_cases h2 : w.e6 ≠ sum7 w.e0 w.e1 w.e2 w.e3 w.e4 w.e5 w.e7
    · rw [if_pos h2, if_pos h2]
    · rw [if_neg h2, if_neg h2]
      show (if ((((1073741824 : UInt64).toNat : Int) < (w.e2.toNat : Int) ∨ ((1073741824 : UInt64).toNat : Int) < (w.e3.toNat : Int)) ∨ ((1073741824 : UInt64).toNat : Int) < (w.e4.toNat : Int)) then _ else
        Option.bind (volumegroupref11_Check (outA w)) _) = _
      by_cases h3 : LabOk (outA w)
      · have k1 := h3.size; have k2 := h3.start; have k3 := h3.area; have k4 := h3.le; have k5 := h3.room
        simp only at k1 k2 k3 k4 k5
        have e2 := wrap_small (x := w.e2) (by omega); have e3 := wrap_small (x := w.e3) (by omega); have e4 := wrap_small (x := w.e4) (by omega)
        have e9 : ((1073741824 : UInt64).toNat : Int) = 1073741824 := rfl
        rw [if_neg (by rw [e9]; omega), if_pos h3, rcheck_ok h3]; simp only [Option.bind_some]
        rw [if_neg (by decide)]; rfl
      · rw [if_neg h3, rcheck_no h3]; simp only [Option.bind_some]
        split
        · rfl
        · rw [if_pos (by decide)]
theorem from_labL {l : api_Label} (h : LabOk l) : fromA (labA l) = (l, 0) := by
  have k1 := h.size; have k2 := h.start; have k3 := h.area; have k4 := h.le; have k5 := h.room
  have e : outA (labA l) = l := by
    obtain ⟨a, b, c, d, e⟩ := l
    simp only at k1 k2 k3 k4 k5
    simp only [outA, labA]
    rw [wrap_to_u64' (by omega), wrap_to_u64' (by omega), wrap_to_u64' (by omega)]
  unfold fromA
  rw [if_neg (by simp [labA]), if_neg (by simp [labA]), e, if_pos h]
theorem eight {w : List UInt64} (h : w.length = 8) : w = arrL ⟨w.getD 0 0, w.getD 1 0, w.getD 2 0, w.getD 3 0, w.getD 4 0, w.getD 5 0, w.getD 6 0, w.getD 7 0⟩ := by
  match w, h with
  | [a, b, c, d, e, f, g, k], _ => rfl
theorem from_len {w : List UInt64} (h : w.length ≠ 8) : label_FromWords w = some (zL, 3) ∧ volumegroupref11_FromWords w = some (zL, 3) := by
  constructor
  · unfold label_FromWords; rw [if_pos (by omega)]
  · unfold volumegroupref11_FromWords; rw [if_pos (by omega)]
end Go.Proofs
