/- MirrorErrors, part 6 of the proof: LMir3, PMir0, PMirL, CTrack, LMirQ, LMirQ1. -/
import Derived.WalkKit
import Derived.Orders
import Derived.RangeFuncLeaves
import Derived.RangeFuncCalls
import Derived.TacticsIn
import Derived.Handy
import Derived.OrdersHeld
import Derived.OrdersIn
import Derived.Below
import Derived.OpenShut
import Derived.Deep.Slices
import Derived.Scope
import Derived.KernelRfl
import Derived.RangeFuncRecord
import Derived.ChangeKeysEq
import Derived.ProofKit
import Derived.ShutString
import Derived.ChangeOld
import Derived.Test.YtdogahpihjefgaaChecked
import Derived.Test.YtdogahpihjefgaaRows
import Derived.Test.YtdogahpihjefgaaZMirrorErrors5
set_option linter.unusedSimpArgs false
set_option linter.unusedVariables false
set_option maxRecDepth 20000
set_option maxHeartbeats 4000000
namespace Go.Proofs
open Go.VG
def mirror_Mirror_Resync_1 (i : Int) (p1 : Int) : Option (Bool) :=
  some ((decide (i ≠ p1)))
theorem L_mirror_Mirror_Resync_1 {W : World} {bp1 : Nat} {i : Int} {p1 : Int} {r : Bool} (h : mirror_Mirror_Resync_1 i p1 = some r) :
    CSpec Try.prog W 39 [.int .i64 i, ptr bp1 0] [blk bp1 3 [.int .i64 p1]] (fun x : Unit => .bool r) (fun _ => True) (fun x F => blk bp1 3 [.int .i64 p1] :: F) := by
 refine CSpec.of_body Try.func39 rfl Try.ntmps39 rfl fun F => ?_
 show CJ _ _ _ _ _ _ (_ :: F)
 unfold mirror_Mirror_Resync_1 at h
 refine sR <| oA rfl rfl <| nT <| sR <| oM rfl rfl <| oV (V_load rfl foc0 rfl Try.isAgg3) rfl <| oP (P_neq (a := i) (b := p1) rfl rfl) rfl <| oA rfl rfl <| nT <| CJ_ret ?_
 cases h
 exact fE (res1 Try.results39 rfl) () eR
def mirror_Mirror_Resync_2 (i : Int) (p1_v : MirS) (p2 : Int) (p3 : UInt64) (s : ArrS) : Option (Int × ArrS) :=
  grd (decide (0 ≤ i ∧ i < (p1_v.legs.length : Int))) <|
  Option.bind (Dvc.wr ((p1_v.legs.getD ((i).toNat) mleg_x0).dev) s p2 p3) fun r8 =>
  some (r8.1, r8.2)
theorem L_mirror_Mirror_Resync_2 {W : World} {bp1 : Nat} {bp1_v : Nat} {bp2 : Nat} {bp3 : Nat} {bs : Nat} {i : Int} {p1_v : MirS} {p2 : Int} {p3 : UInt64} {s : ArrS} {r : Int × ArrS} (h : mirror_Mirror_Resync_2 i p1_v p2 p3 s = some r) :
    CSpec Try.prog W 40 [.int .i64 i, ptr bp1 0, ptr bp2 0, ptr bp3 0] [blk bp1 38 [ptr bp1_v 0], MirP bs bp1_v p1_v, blk bp2 3 [.int .i64 p2], blk bp3 33 [.int .u64 (p3.toNat : Int)], Arr bs s] (fun x : Unit => .int .i64 r.1) (fun _ => True) (fun x F => blk bp1 38 [ptr bp1_v 0] :: MirP bs bp1_v p1_v :: blk bp2 3 [.int .i64 p2] :: blk bp3 33 [.int .u64 (p3.toNat : Int)] :: Arr bs r.2 :: F) := by
 refine CSpec.of_body Try.func40 rfl Try.ntmps40 rfl fun F => ?_
 show CJ _ _ _ _ _ _ (_ :: _ :: _ :: _ :: _ :: F)
 unfold mirror_Mirror_Resync_2 at h
 refine sR <| oA rfl rfl <| nT <| CJ_seq <| CJ_entX (Ent.transX (t1_ eR) (MirP_open (l := p1_v))) fun oc1 => CJ_pure (fun h hh => Rs_len (stars_perm (del2 (A := Rs (DevP bs) (p1_v.legs.map mlegS.dev) oc1.2.1)).out h hh)) fun hdl3 => lC del1 fun hlen4 => ?_
 rw [mk_mleg_len (by have := hdl3; simpa using this)] at hlen4
 refine lC del4 fun hlen5 => AJ_startH 1024 (by kernel_rfl) rfl <| aV 0 1 rfl rfl (GY_none rfl) eR (V_load rfl foc5 rfl Try.isAgg38) rfl <| aN 1 3 rfl rfl (P_nilCheck rfl) rfl <| aN 2 7 rfl rfl (P_fieldAddr rfl ⟨_, _, _, Try.runUnderlying74, rfl, rfl, Try.sizeOf70, rfl⟩) rfl <| aV 3 15 rfl rfl (GY_none rfl) eR (V_load rfl foc0 rfl Try.isAgg70) rfl <| aN 4 31 rfl rfl (P_move rfl) rfl ?_
 obtain ⟨hg1, h⟩ := grd_de h
 refine aV 5 63 rfl rfl (GY_none rfl) eR (V_index (i := (i).toNat) rfl rfl (Int.toNat_of_nonneg (hg1.1)).symm (show (i).toNat < (mk_mleg p1_v.legs oc1.2.1).length by rw [mk_mleg_len (by have := hdl3; simpa using this)]; exact (by omega)) foc1 (Reads.sl _ _ _) Try.runUnderlying70 Try.sizeOf83) rfl <| aN 6 127 rfl rfl (P_fieldE rfl ⟨_, _, _, Try.runUnderlying83, rfl, rfl, Try.sizeOf57, rfl⟩) rfl <| AJ_ent (Ent.trans (t2_ eR) (mk_mleg_rs (i := (i).toNat) (by omega))) <| aV 7 255 rfl rfl (GY_none rfl) (t2_ (t2_ (t1_ (t1_ (t1_ (t1_ (t1_ (t1_ (t1_ (eD eR)))))))))) (VJ_eq (V_loadE rfl rfl (show (i).toNat < (mk_mleg p1_v.legs oc1.2.1).length by rw [mk_mleg_len (by have := hdl3; simpa using this)]; exact (by omega)) foc1 (Reads.sl _ _ _) rfl rfl Try.isAgg57) (show (IfH.v ((oc1.2.1.getD ((i).toNat) tyDev.dflt)) : Value) = IfH.v ((mk_mleg p1_v.legs oc1.2.1).getD ((i).toNat) mleg_h0).dev from by rw [mk_mleg_at (by have := hdl3; simpa using this)])) rfl <| aV 8 511 rfl rfl (GY_none rfl) (t2_ (t2_ (t1_ (t1_ (t1_ (t1_ (t1_ (t1_ (t1_ (eD eR)))))))))) (V_load rfl foc6 rfl Try.isAgg3) rfl ?_
 refine aV 9 1023 rfl rfl (GY_none rfl) (t2_ (t2_ (t1_ (t1_ (t1_ (t1_ (t1_ (t1_ (t1_ (eD eR)))))))))) (V_load rfl foc7 rfl Try.isAgg33) rfl <| AJ_pure (fun h hh => DevP_dep h (stars_perm (del0 (A := DevP bs ((p1_v.legs.getD ((i).toNat) mleg_x0).dev) ((oc1.2.1.getD ((i).toNat) tyDev.dflt)))).out h hh)) fun hdp7 => ?_
 obtain ⟨r8, hr9, h⟩ := bind_e h
 refine AJ_op 10 2047 rfl (by kernel_rfl) rfl (GY_none rfl) <| O_callI rfl (dev_Write hr9 hdp7) rfl (Dels.cons del0 (Dels.cons del8 Dels.nil)) rfl fun _ _ => ⟨fun h => absurd h (by decide), ?_⟩
 refine aN 11 4095 rfl rfl (P_assign rfl) rfl <| AJ_done (by kernel_rfl) <| QJ_ent (Ent.trans (t3_ (t3_ (t2_ (t2_ (t2_ eR))))) (MirP_mk (v0 := p1_v.legs) (v1 := p1_v.log) (v2 := p1_v.hasLog) (v3 := p1_v.logState) (v4 := p1_v.size) (v5 := p1_v.region) (v6 := p1_v.dirty) (v7 := p1_v.copied) (h0 := oc1.1) (h1 := oc1.2.1) (h2 := oc1.2.2.1) (h3 := oc1.2.2.2))) <| QJ_then <| CJ_ret ?_
 cases h
 exact fE (res1 Try.results40 rfl) () (t3_ (t0_ (t2_ (t2_ (t1_ (eD eR))))))
def mirror_Mirror_each__mirror_Mirror_Resync_1_l1_b (m : MirS) (choose_c0 : Int) (do_2_c1 : Int) (do_2_c2 : UInt64) (rec : MirS → ArrS → Nat → Option ((MirS × ArrS) ⊕ (Int × MirS × ArrS))) (x12 : MirS) (x13 : ArrS) (x14 : Nat) : Option ((MirS × ArrS) ⊕ (Int × MirS × ArrS)) :=
  if (((x14 : Nat) : Int) < ((m.legs.length : Nat) : Int)) then
    grd (decide (x14 < x12.legs.length)) <|
    if ((x12.legs.getD x14 mleg_x0).state = (0 : Int)) then
      Option.bind (mirror_Mirror_Resync_1 (((x14 : Nat) : Int)) choose_c0) fun r20 =>
      if r20 = true then
        Option.bind (mirror_Mirror_Resync_2 (((x14 : Nat) : Int)) x12 do_2_c1 do_2_c2 x13) fun r22 =>
        Option.bind (mirror_Mirror_note x12 (((x14 : Nat) : Int)) r22.1 r22.2) fun r24 =>
        if (r24.1 ≠ (0 : Int)) then
          some (.inr (r24.1, r24.2, r22.2))
        else
          rec r24.2 r22.2 (x14 + 1)
      else
        rec x12 x13 (x14 + 1)
    else
      rec x12 x13 (x14 + 1)
  else
    some (.inl (x12, x13))
def mirror_Mirror_each__mirror_Mirror_Resync_1_l1 (m : MirS) (choose_c0 : Int) (do_2_c1 : Int) (do_2_c2 : UInt64) : Nat → MirS → ArrS → Nat → Option ((MirS × ArrS) ⊕ (Int × MirS × ArrS))
  | 0, _, _, _ => none
  | n + 1, x12, x13, x14 => mirror_Mirror_each__mirror_Mirror_Resync_1_l1_b m choose_c0 do_2_c1 do_2_c2 (mirror_Mirror_each__mirror_Mirror_Resync_1_l1 m choose_c0 do_2_c1 do_2_c2 n) x12 x13 x14
def mirror_Mirror_each__mirror_Mirror_Resync_1 (m : MirS) (choose_c0 : Int) (do_2_c1 : Int) (do_2_c2 : UInt64) (s : ArrS) : Option (Int × MirS × ArrS) :=
  seqO (mirror_Mirror_each__mirror_Mirror_Resync_1_l1 m choose_c0 do_2_c1 do_2_c2 FUEL m s 0) fun a11 =>
  Option.bind (mirror_Mirror_result a11.1 a11.2) fun r27 =>
  some (r27, a11.1, a11.2)
theorem L_mirror_Mirror_each__mirror_Mirror_Resync_1 {W : World} {bm : Nat} {bchoose_c0 : Nat} {bdo_2_c0 : Nat} {bdo_2_c1 : Nat} {bdo_2_c2 : Nat} {bs : Nat} {m : MirS} {choose_c0 : Int} {do_2_c1 : Int} {do_2_c2 : UInt64} {s : ArrS} {r : Int × MirS × ArrS} (h : mirror_Mirror_each__mirror_Mirror_Resync_1 m choose_c0 do_2_c1 do_2_c2 s = some r) :
    CSpec Try.prog W 34 [ptr bm 0, .func (.func 39) #[] #[ptr bchoose_c0 0], .func (.func 40) #[] #[ptr bdo_2_c0 0, ptr bdo_2_c1 0, ptr bdo_2_c2 0]] [MirP bs bm m, blk bchoose_c0 3 [.int .i64 choose_c0], blk bdo_2_c0 38 [ptr bm 0], blk bdo_2_c1 3 [.int .i64 do_2_c1], blk bdo_2_c2 33 [.int .u64 (do_2_c2.toNat : Int)], Arr bs s] (fun x : Unit => .int .i64 r.1) (fun _ => True) (fun x F => MirP bs bm r.2.1 :: blk bchoose_c0 3 [.int .i64 choose_c0] :: blk bdo_2_c0 38 [ptr bm 0] :: blk bdo_2_c1 3 [.int .i64 do_2_c1] :: blk bdo_2_c2 33 [.int .u64 (do_2_c2.toNat : Int)] :: Arr bs r.2.2 :: F) := by
 refine CSpec.of_body Try.func34 rfl Try.ntmps34 rfl fun F => ?_
 show CJ _ _ _ _ _ _ (_ :: _ :: _ :: _ :: _ :: _ :: F)
 unfold mirror_Mirror_each__mirror_Mirror_Resync_1 at h
 refine sR <| oA rfl rfl <| nT <| sR <| oM rfl rfl <| oP (P_makeFunc rfl rfl) rfl <| oA rfl rfl <| nT <| CJ_seq <| CJ_seq <| CJ_entX (Ent.transX (t0_ eR) (MirP_open (l := m))) fun oc1 => CJ_pure (fun h hh => Rs_len (stars_perm (del2 (A := Rs (DevP bs) (m.legs.map mlegS.dev) oc1.2.1)).out h hh)) fun hdl3 => lC del1 fun hlen4 => ?_
 rw [mk_mleg_len (by have := hdl3; simpa using this)] at hlen4
 refine lC del4 fun hlen5 => CJ_region <| oM rfl rfl <| oP (P_nilCheck rfl) rfl <| oP (P_fieldAddr rfl ⟨_, _, _, Try.runUnderlying74, rfl, rfl, Try.sizeOf70, rfl⟩) rfl <| oV (V_load rfl foc0 rfl Try.isAgg70) rfl <| oV (VJ_eq (V_len rfl foc1 (Reads.sl _ _ _) Try.runUnderlying70) (congrArg (fun z : Nat => Value.int .i64 (z : Int)) (mk_mleg_len (by have := hdl3; simpa using this)).symm)) rfl <| oM rfl rfl <| RJ_nil <| QJ_ent (Ent.trans eR (MirP_mk (v0 := m.legs) (v1 := m.log) (v2 := m.hasLog) (v3 := m.logState) (v4 := m.size) (v5 := m.region) (v6 := m.dirty) (v7 := m.copied) (h0 := oc1.1) (h1 := oc1.2.1) (h2 := oc1.2.2.1) (h3 := oc1.2.2.2))) <| QJ_then ?_
 obtain ⟨y8, hl6, hK7⟩ := seq_e h
 refine CJ_cutT (X := MirS × ArrS) [6, 8, 9, 17, 18, 19, 20, 21, 22, 23, 24, 25, 26, 27, 28, 29, 30, 31, 32, 33, 34, 35, 36, 37, 38, 39, 40, 41, 42, 43] (fun a11 => ([] : Slots)) (fun a11 R => MirP bs bm a11.1 :: Arr bs a11.2 :: R) (fun a11 => y8 = .inl a11) (Dels.cons del0 (Dels.cons del4 Dels.nil)) ?_ ?_
 ·
  refine CJ_block <| CJ_loopR (X := Nat × MirS × ArrS × Nat) [6, 8, 9, 17, 18, 19, 20, 21, 22, 23, 24, 25, 26, 27, 28, 29, 30, 31, 32, 33, 34, 35, 36, 37, 38, 39, 40, 41, 42, 43] (fun ⟨n, x12, x13, x14⟩ => ([(17, .int .i64 (((x14 : Nat) : Int)))] : Slots)) (fun ⟨n, x12, x13, x14⟩ R => MirP bs bm x12 :: Arr bs x13 :: R) (fun ⟨n, x12, x13, x14⟩ => mirror_Mirror_each__mirror_Mirror_Resync_1_l1 m choose_c0 do_2_c1 do_2_c2 n x12 x13 x14 = some y8) (fun ⟨n, x12, x13, x14⟩ => n) ⟨FUEL, m, s, 0⟩ ?_ ?_ (t0_ (t4_ eR)) ?_
  · exact hl6
  · exact ⟨rfl, True.intro⟩
  ·
   rintro ⟨n, x12, x13, x14⟩ h
   cases n with
   | zero => exact none_e h
   | succ n => ?_
   replace h : mirror_Mirror_each__mirror_Mirror_Resync_1_l1_b m choose_c0 do_2_c1 do_2_c2 (mirror_Mirror_each__mirror_Mirror_Resync_1_l1 m choose_c0 do_2_c1 do_2_c2 n) x12 x13 x14 = some y8 := h
   unfold mirror_Mirror_each__mirror_Mirror_Resync_1_l1_b at h
   show CJ _ _ _ _ _ (([(17, .int .i64 (((x14 : Nat) : Int)))] : Slots) ++ forget _ _) (MirP bs bm x12 :: Arr bs x13 :: _)
   refine sR <| oP (P_lss (a := ((x14 : Nat) : Int)) (b := ((m.legs.length : Nat) : Int)) rfl rfl) rfl <| nT <| CJ_seq <| CJ_condP rfl bT_dec (fun hg1 => ?_) (fun hg1 => ?_)
   ·
    replace h := ite_t hg1 h
    refine kT <| CJ_seq <| CJ_block <| sR <| oM rfl rfl <| oA rfl rfl <| nT <| CJ_seq <| CJ_entX (Ent.transX (t0_ eR) (MirP_open (l := x12))) fun oc15 => CJ_pure (fun h hh => Rs_len (stars_perm (del2 (A := Rs (DevP bs) (x12.legs.map mlegS.dev) oc15.2.1)).out h hh)) fun hdl17 => lC del1 fun hlen18 => ?_
    rw [mk_mleg_len (by have := hdl17; simpa using this)] at hlen18
    refine lC del4 fun hlen19 => CJ_region <| oM rfl rfl <| oP (P_nilCheck rfl) rfl <| oP (P_fieldAddr rfl ⟨_, _, _, Try.runUnderlying74, rfl, rfl, Try.sizeOf70, rfl⟩) rfl <| oV (V_load rfl foc0 rfl Try.isAgg70) rfl <| oM rfl rfl ?_
    obtain ⟨hg2, h⟩ := grd_de h
    refine oV (V_index (i := x14) rfl rfl rfl (show x14 < (mk_mleg x12.legs oc15.2.1).length by rw [mk_mleg_len (by have := hdl17; simpa using this)]; exact hg2) foc1 (Reads.sl _ _ _) Try.runUnderlying70 Try.sizeOf83) rfl <| oP (P_fieldE rfl ⟨_, _, _, Try.runUnderlying83, rfl, rfl, Try.sizeOf72, rfl⟩) rfl <| oV (VJ_eq (V_loadE rfl rfl (show x14 < (mk_mleg x12.legs oc15.2.1).length by rw [mk_mleg_len (by have := hdl17; simpa using this)]; exact hg2) foc1 (Reads.sl _ _ _) rfl rfl Try.isAgg72) (show (.int .i64 ((x12.legs.getD x14 mleg_x0).state) : Value) = .int .i64 ((mk_mleg x12.legs oc15.2.1).getD x14 mleg_h0).state from by rw [mk_mleg_at (by have := hdl17; simpa using this)])) rfl <| oP (P_eql (a := (x12.legs.getD x14 mleg_x0).state) (b := (0 : Int)) rfl rfl) rfl <| oM rfl rfl <| RJ_splitP 29 rfl bT_dec (fun hg3B hg3 => ?_) (fun hg3B hg3 => ?_)
    ·
     replace h := ite_t hg3 h
     refine gP (GY_yes rfl rfl rfl hg3B) (P_move rfl) rfl <| gP (GY_yes rfl rfl rfl hg3B) (P_move rfl) rfl ?_
     obtain ⟨r20, hr21, h⟩ := bind_e h
     refine RJ_gy (GY_yes rfl rfl rfl hg3B) <| O_callV rfl rfl (L_mirror_Mirror_Resync_1 hr21) Try.call39 (Dels.cons del6 Dels.nil) rfl fun _ _ => oP (P_pickT rfl hg3B rfl) rfl <| RJ_nil <| QJ_ent (Ent.trans (t1_ (t1_ (t1_ (t1_ (t1_ eR))))) (MirP_mk (v0 := x12.legs) (v1 := x12.log) (v2 := x12.hasLog) (v3 := x12.logState) (v4 := x12.size) (v5 := x12.region) (v6 := x12.dirty) (v7 := x12.copied) (h0 := oc15.1) (h1 := oc15.2.1) (h2 := oc15.2.2.1) (h3 := oc15.2.2.2))) <| QJ_then <| CJ_condP rfl Iff.rfl (fun hg4 => ?_) (fun hg4 => ?_)
     ·
      replace h := ite_t hg4 h
      refine sR <| oM rfl rfl <| oM rfl rfl <| oM rfl rfl <| oM rfl rfl ?_
      obtain ⟨r22, hr23, h⟩ := bind_e h
      refine oO <| O_callV rfl rfl (L_mirror_Mirror_Resync_2 hr23) Try.call40 (Dels.cons del3 (Dels.cons del0 (Dels.cons del2 (Dels.cons del2 (Dels.cons del1 Dels.nil))))) rfl fun _ _ => ?_
      obtain ⟨r24, hr25, h⟩ := bind_e h
      refine oO <| O_callV rfl rfl (L_mirror_Mirror_note hr25) Try.call44 (Dels.cons del1 (Dels.cons del3 Dels.nil)) rfl fun _ _ => oA rfl rfl <| nT <| sR <| oM rfl rfl <| oP (P_neq (a := r24.1) (b := (0 : Int)) rfl rfl) rfl <| nT <| CJ_condP rfl bT_dec (fun hg5 => ?_) (fun hg5 => ?_)
      ·
       replace h := ite_t hg5 h
       refine sR <| oM rfl rfl <| oA rfl rfl <| nT <| CJ_ret <| QJ_block_ret <| QJ_then_ret <| QJ_round_ret <| QJ_block_ret <| QJ_then_ret ?_
       have hE := Option.some.inj h
       replace hE := seq_inr hK7 hE.symm
       subst hE
       exact fE (res1 Try.results34 rfl) () (t0_ (t4_ (t1_ (t1_ (t1_ eR)))))
      ·
       replace h := ite_f hg5 h
       exact CJ_skip <| QJ_block_normal <| QJ_then <| CJ_region <| oP (PJ_eq (P_add (a := ((x14 : Nat) : Int)) (b := (1 : Int)) rfl rfl (by omega)) rfl) rfl <| oM rfl rfl <| RJ_nil <| nR ⟨n, r24.2, r22.2, (x14 + 1)⟩ h ⟨rfl, True.intro⟩ (t0_ (t0_ (t3_ eR)))
     ·
      replace h := ite_f hg4 h
      exact CJ_skip <| QJ_block_normal <| QJ_then <| CJ_region <| oP (PJ_eq (P_add (a := ((x14 : Nat) : Int)) (b := (1 : Int)) rfl rfl (by omega)) rfl) rfl <| oM rfl rfl <| RJ_nil <| nR ⟨n, x12, x13, (x14 + 1)⟩ h ⟨rfl, True.intro⟩ (t0_ (t1_ eR))
    ·
     replace h := ite_f hg3 h
     exact RJ_gn (GY_no rfl rfl rfl hg3B) rfl rfl <| RJ_gn (GY_no rfl rfl rfl hg3B) rfl rfl <| RJ_gn (GY_no rfl rfl rfl hg3B) rfl rfl <| oP (P_pickF rfl hg3B rfl) rfl <| RJ_nil <| QJ_ent (Ent.trans eR (MirP_mk (v0 := x12.legs) (v1 := x12.log) (v2 := x12.hasLog) (v3 := x12.logState) (v4 := x12.size) (v5 := x12.region) (v6 := x12.dirty) (v7 := x12.copied) (h0 := oc15.1) (h1 := oc15.2.1) (h2 := oc15.2.2.1) (h3 := oc15.2.2.2))) <| QJ_then <| CJ_condF rfl rfl <| CJ_skip <| QJ_block_normal <| QJ_then <| CJ_region <| oP (PJ_eq (P_add (a := ((x14 : Nat) : Int)) (b := (1 : Int)) rfl rfl (by omega)) rfl) rfl <| oM rfl rfl <| RJ_nil <| nR ⟨n, x12, x13, (x14 + 1)⟩ h ⟨rfl, True.intro⟩ eR
   ·
    replace h := ite_f hg1 h
    exact CJ_exit <| QJ_then_exit <| QJ_round_exit <| QJ_block_here <| cR (x12, x13) (Option.some.inj h).symm True.intro eR
 ·
  rintro a11 hy26
  replace h := seq_inl hK7 hy26
  show CJ _ _ _ _ _ (([] : Slots) ++ forget _ _) (MirP bs bm a11.1 :: Arr bs a11.2 :: _)
  refine sR <| oM rfl rfl ?_
  obtain ⟨r27, hr28, h⟩ := bind_e h
  refine oO <| O_call (L_mirror_Mirror_result hr28) rfl Try.call31 (Dels.cons del0 (Dels.cons del0 Dels.nil)) rfl fun _ _ => oA rfl rfl <| nT <| CJ_ret ?_
  cases h
  exact fE (res1 Try.results34 rfl) () (t0_ (t1_ (t1_ (t1_ (t1_ eR)))))
def mirror_Mirror_others_1 (x_0_Device : Dvc) (x_0_state : Int) (x_0_copied : Int) (s : ArrS) : Option (Bool) :=
  some ((decide (x_0_state = (0 : Int))))
theorem L_mirror_Mirror_others_1 {W : World} {vx_0_Device : IfH} {bs : Nat} {x_0_Device : Dvc} {x_0_state : Int} {x_0_copied : Int} {s : ArrS} {r : Bool} (h : mirror_Mirror_others_1 x_0_Device x_0_state x_0_copied s = some r) :
    CSpec Try.prog W 68 [.agg #[IfH.v vx_0_Device, .int .i64 x_0_state, .int .i64 x_0_copied]] [DevP bs x_0_Device vx_0_Device, Arr bs s] (fun x : Unit => .bool r) (fun _ => True) (fun x F => DevP bs x_0_Device vx_0_Device :: Arr bs s :: F) := by
 refine CSpec.of_body Try.func68 rfl Try.ntmps68 rfl fun F => ?_
 show CJ _ _ _ _ _ _ (_ :: _ :: F)
 unfold mirror_Mirror_others_1 at h
 refine sR <| oO <| O_box rfl rfl rfl fun b1 => oA rfl rfl <| nT <| sR <| oP (P_fieldAddr rfl ⟨_, _, _, Try.runUnderlying83, rfl, rfl, Try.sizeOf72, rfl⟩) rfl <| oV (V_load rfl foc0 rfl Try.isAgg72) rfl <| oP (P_eql (a := x_0_state) (b := (0 : Int)) rfl rfl) rfl <| oA rfl rfl <| nT <| CJ_ret ?_
 cases h
 exact fE (res1 Try.results68 rfl) () (t1_ (t1_ (eD eR)))
def slices_IndexFunc_leg__mirror_Mirror_others_1_l1_b (p0 : List mlegS) (s : ArrS) (rec : Nat → Option ((Unit) ⊕ Int)) (x7 : Nat) : Option ((Unit) ⊕ Int) :=
  if (((x7 : Nat) : Int) < ((p0.length : Nat) : Int)) then
    Option.bind (mirror_Mirror_others_1 ((p0.getD x7 mleg_x0).dev) ((p0.getD x7 mleg_x0).state) ((p0.getD x7 mleg_x0).copied) s) fun r9 =>
    if r9 = true then
      some (.inr (((x7 : Nat) : Int)))
    else
      grd (inN64 (x7 + 1)) <|
      rec (x7 + 1)
  else
    some (.inl ())
def slices_IndexFunc_leg__mirror_Mirror_others_1_l1 (p0 : List mlegS) (s : ArrS) : Nat → Nat → Option ((Unit) ⊕ Int)
  | 0, _ => none
  | n + 1, x7 => slices_IndexFunc_leg__mirror_Mirror_others_1_l1_b p0 s (slices_IndexFunc_leg__mirror_Mirror_others_1_l1 p0 s n) x7
def slices_IndexFunc_leg__mirror_Mirror_others_1 (p0 : List mlegS) (s : ArrS) : Option (Int) :=
  seqO (slices_IndexFunc_leg__mirror_Mirror_others_1_l1 p0 s FUEL 0) fun a6 =>
  some (-1 : Int)
theorem L_slices_IndexFunc_leg__mirror_Mirror_others_1 {W : World} {Ap0 : HP} {vp0 : Value} {hsp0 : List IfH} {bs : Nat} {p0 : List mlegS} {s : ArrS} {r : Int} (rp0 : Reads Ap0 tymlegH vp0 (mk_mleg p0 hsp0)) (h : slices_IndexFunc_leg__mirror_Mirror_others_1 p0 s = some r) :
    CSpec Try.prog W 67 [vp0, .func (.func 68) #[] #[]] [Ap0, Rs (DevP bs) (p0.map mlegS.dev) hsp0, Arr bs s] (fun x : Unit => .int .i64 r) (fun _ => True) (fun x F => Ap0 :: Rs (DevP bs) (p0.map mlegS.dev) hsp0 :: Arr bs s :: F) := by
 refine CSpec.of_body Try.func67 rfl Try.ntmps67 rfl fun F => ?_
 show CJ _ _ _ _ _ _ (_ :: _ :: _ :: F)
 unfold slices_IndexFunc_leg__mirror_Mirror_others_1 at h
 refine CJ_pure (len_of rp0 del0) fun hlen1 => CJ_pure (fun h hh => Rs_len (stars_perm (del1 (A := Rs (DevP bs) (p0.map mlegS.dev) hsp0)).out h hh)) fun hdl2 => sR <| oA rfl rfl <| nT <| CJ_seq <| sR <| oM rfl rfl <| oV (VJ_eq (V_len rfl foc0 rp0 Try.runUnderlying70) (congrArg (fun z : Nat => Value.int .i64 (z : Int)) (mk_mleg_len (by have := hdl2; simpa using this)).symm)) rfl <| oM rfl rfl <| nT ?_
 obtain ⟨y5, hl3, hK4⟩ := seq_e h
 refine CJ_cutT (X := Unit) [4, 5, 8, 9, 10, 11, 12, 13, 14, 15, 16, 17, 18] (fun _ => ([] : Slots)) (fun _ R => R) (fun _ => y5 = .inl ()) Dels.nil ?_ ?_
 ·
  refine CJ_block <| CJ_loopR (X := Nat × Nat) [4, 5, 8, 9, 10, 11, 12, 13, 14, 15, 16, 17, 18] (fun ⟨n, x7⟩ => ([(8, .int .i64 (((x7 : Nat) : Int)))] : Slots)) (fun ⟨n, x7⟩ R => R) (fun ⟨n, x7⟩ => slices_IndexFunc_leg__mirror_Mirror_others_1_l1 p0 s n x7 = some y5) (fun ⟨n, x7⟩ => n) ⟨FUEL, 0⟩ ?_ ?_ eR ?_
  · exact hl3
  · exact ⟨rfl, True.intro⟩
  ·
   rintro ⟨n, x7⟩ h
   cases n with
   | zero => exact none_e h
   | succ n => ?_
   replace h : slices_IndexFunc_leg__mirror_Mirror_others_1_l1_b p0 s (slices_IndexFunc_leg__mirror_Mirror_others_1_l1 p0 s n) x7 = some y5 := h
   unfold slices_IndexFunc_leg__mirror_Mirror_others_1_l1_b at h
   show CJ _ _ _ _ _ (([(8, .int .i64 (((x7 : Nat) : Int)))] : Slots) ++ forget _ _) (_)
   refine sR <| oP (P_lss (a := ((x7 : Nat) : Int)) (b := ((p0.length : Nat) : Int)) rfl rfl) rfl <| nT <| CJ_seq <| CJ_condP rfl bT_dec (fun hg1 => ?_) (fun hg1 => ?_)
   ·
    replace h := ite_t hg1 h
    refine kT <| CJ_seq <| CJ_block <| sR <| oM rfl rfl <| oA rfl rfl <| nT <| sR <| oM rfl rfl <| oM rfl rfl <| oM rfl rfl <| oV (V_index (i := x7) rfl rfl rfl (show x7 < (mk_mleg p0 hsp0).length by rw [mk_mleg_len (by have := hdl2; simpa using this)]; exact (by omega)) foc0 rp0 Try.runUnderlying70 Try.sizeOf83) rfl <| RJ_ent (Ent.trans (t1_ eR) (mk_mleg_rs (i := x7) (by omega))) <| oV (VJ_eq (V_loadEN rfl rfl (show x7 < (mk_mleg p0 hsp0).length by rw [mk_mleg_len (by have := hdl2; simpa using this)]; exact (by omega)) foc2 rp0 rfl rfl Try.isAgg83 Try.sizeOf83) (show Value.agg #[IfH.v (hsp0.getD x7 tyDev.dflt), .int .i64 ((p0.getD x7 mleg_x0).state), .int .i64 ((p0.getD x7 mleg_x0).copied)] = Value.agg #[IfH.v ((mk_mleg p0 hsp0).getD x7 mleg_h0).dev, .int .i64 ((mk_mleg p0 hsp0).getD x7 mleg_h0).state, .int .i64 ((mk_mleg p0 hsp0).getD x7 mleg_h0).copied] from by rw [mk_mleg_at (by have := hdl2; simpa using this)])) rfl ?_
    obtain ⟨r9, hr10, h⟩ := bind_e h
    refine oO <| O_callV rfl rfl (L_mirror_Mirror_others_1 hr10) Try.call68 (Dels.cons del0 (Dels.cons del2 Dels.nil)) rfl fun _ _ => nT <| CJ_condP rfl Iff.rfl (fun hg2 => ?_) (fun hg2 => ?_)
    ·
     replace h := ite_t hg2 h
     refine sR <| oM rfl rfl <| oA rfl rfl <| nT <| CJ_ret <| QJ_block_ret <| QJ_then_ret <| QJ_round_ret <| QJ_block_ret <| QJ_then_ret ?_
     have hE := Option.some.inj h
     replace hE := seq_inr hK4 hE.symm
     subst hE
     exact fE (res1 Try.results67 rfl) () (t3_ (t2_ (t1_ (eD eR))))
    ·
     replace h := ite_f hg2 h
     refine CJ_skip <| QJ_block_normal <| QJ_then <| CJ_region ?_
     obtain ⟨hg3, h⟩ := grd_Ne h
     exact oP (PJ_eq (P_add (a := ((x7 : Nat) : Int)) (b := (1 : Int)) rfl rfl (nat_in hg3)) rfl) rfl <| oM rfl rfl <| RJ_nil <| nR ⟨n, (x7 + 1)⟩ h ⟨rfl, True.intro⟩ (t3_ (t2_ (t1_ (eD eR))))
   ·
    replace h := ite_f hg1 h
    exact CJ_exit <| QJ_then_exit <| QJ_round_exit <| QJ_block_here <| cR () (Option.some.inj h).symm True.intro eR
 ·
  rintro _ hy11
  replace h := seq_inl hK4 hy11
  show CJ _ _ _ _ _ (([] : Slots) ++ forget _ _) (_)
  refine sR <| oA rfl rfl <| nT <| CJ_ret ?_
  cases h
  exact fE (res1 Try.results67 rfl) () eR
def mirror_Mirror_others_2 (i : Int) (p1 : Int) : Option (Bool) :=
  some ((decide (i ≠ p1)))
theorem L_mirror_Mirror_others_2 {W : World} {bp1 : Nat} {i : Int} {p1 : Int} {r : Bool} (h : mirror_Mirror_others_2 i p1 = some r) :
    CSpec Try.prog W 69 [.int .i64 i, ptr bp1 0] [blk bp1 3 [.int .i64 p1]] (fun x : Unit => .bool r) (fun _ => True) (fun x F => blk bp1 3 [.int .i64 p1] :: F) := by
 refine CSpec.of_body Try.func69 rfl Try.ntmps69 rfl fun F => ?_
 show CJ _ _ _ _ _ _ (_ :: F)
 unfold mirror_Mirror_others_2 at h
 refine sR <| oA rfl rfl <| nT <| sR <| oM rfl rfl <| oV (V_load rfl foc0 rfl Try.isAgg3) rfl <| oP (P_neq (a := i) (b := p1) rfl rfl) rfl <| oA rfl rfl <| nT <| CJ_ret ?_
 cases h
 exact fE (res1 Try.results69 rfl) () eR
def mirror_Mirror_others_3 (i : Int) (p1_v : MirS) (s : ArrS) : Option (Int × ArrS) :=
  grd (decide (0 ≤ i ∧ i < (p1_v.legs.length : Int))) <|
  Option.bind (Dvc.fl ((p1_v.legs.getD ((i).toNat) mleg_x0).dev) s) fun r8 =>
  some (r8.1, r8.2)
theorem L_mirror_Mirror_others_3 {W : World} {bp1 : Nat} {bp1_v : Nat} {bs : Nat} {i : Int} {p1_v : MirS} {s : ArrS} {r : Int × ArrS} (h : mirror_Mirror_others_3 i p1_v s = some r) :
    CSpec Try.prog W 70 [.int .i64 i, ptr bp1 0] [blk bp1 38 [ptr bp1_v 0], MirP bs bp1_v p1_v, Arr bs s] (fun x : Unit => .int .i64 r.1) (fun _ => True) (fun x F => blk bp1 38 [ptr bp1_v 0] :: MirP bs bp1_v p1_v :: Arr bs r.2 :: F) := by
 refine CSpec.of_body Try.func70 rfl Try.ntmps70 rfl fun F => ?_
 show CJ _ _ _ _ _ _ (_ :: _ :: _ :: F)
 unfold mirror_Mirror_others_3 at h
 refine sR <| oA rfl rfl <| nT <| CJ_seq <| CJ_entX (Ent.transX (t1_ eR) (MirP_open (l := p1_v))) fun oc1 => CJ_pure (fun h hh => Rs_len (stars_perm (del2 (A := Rs (DevP bs) (p1_v.legs.map mlegS.dev) oc1.2.1)).out h hh)) fun hdl3 => lC del1 fun hlen4 => ?_
 rw [mk_mleg_len (by have := hdl3; simpa using this)] at hlen4
 refine lC del4 fun hlen5 => CJ_region <| oV (V_load rfl foc5 rfl Try.isAgg38) rfl <| oP (P_nilCheck rfl) rfl <| oP (P_fieldAddr rfl ⟨_, _, _, Try.runUnderlying74, rfl, rfl, Try.sizeOf70, rfl⟩) rfl <| oV (V_load rfl foc0 rfl Try.isAgg70) rfl <| oM rfl rfl ?_
 obtain ⟨hg1, h⟩ := grd_de h
 refine oV (V_index (i := (i).toNat) rfl rfl (Int.toNat_of_nonneg (hg1.1)).symm (show (i).toNat < (mk_mleg p1_v.legs oc1.2.1).length by rw [mk_mleg_len (by have := hdl3; simpa using this)]; exact (by omega)) foc1 (Reads.sl _ _ _) Try.runUnderlying70 Try.sizeOf83) rfl <| oP (P_fieldE rfl ⟨_, _, _, Try.runUnderlying83, rfl, rfl, Try.sizeOf57, rfl⟩) rfl <| RJ_ent (Ent.trans (t2_ eR) (mk_mleg_rs (i := (i).toNat) (by omega))) <| oV (VJ_eq (V_loadE rfl rfl (show (i).toNat < (mk_mleg p1_v.legs oc1.2.1).length by rw [mk_mleg_len (by have := hdl3; simpa using this)]; exact (by omega)) foc3 (Reads.sl _ _ _) rfl rfl Try.isAgg57) (show (IfH.v ((oc1.2.1.getD ((i).toNat) tyDev.dflt)) : Value) = IfH.v ((mk_mleg p1_v.legs oc1.2.1).getD ((i).toNat) mleg_h0).dev from by rw [mk_mleg_at (by have := hdl3; simpa using this)])) rfl <| RJ_pure (fun h hh => DevP_dep h (stars_perm (del0 (A := DevP bs ((p1_v.legs.getD ((i).toNat) mleg_x0).dev) ((oc1.2.1.getD ((i).toNat) tyDev.dflt)))).out h hh)) fun hdp7 => ?_
 obtain ⟨r8, hr9, h⟩ := bind_e h
 refine oO <| O_callI rfl (dev_Flush hr9 hdp7) rfl (Dels.cons del0 (Dels.cons del6 Dels.nil)) rfl fun _ _ => oA rfl rfl <| RJ_nil <| QJ_ent (Ent.trans (t3_ (t3_ (t2_ (t2_ (t2_ eR))))) (MirP_mk (v0 := p1_v.legs) (v1 := p1_v.log) (v2 := p1_v.hasLog) (v3 := p1_v.logState) (v4 := p1_v.size) (v5 := p1_v.region) (v6 := p1_v.dirty) (v7 := p1_v.copied) (h0 := oc1.1) (h1 := oc1.2.1) (h2 := oc1.2.2.1) (h3 := oc1.2.2.2))) <| QJ_then <| CJ_ret ?_
 cases h
 exact fE (res1 Try.results70 rfl) () (t3_ (t0_ (t1_ (eD eR))))
def mirror_Mirror_each__mirror_Mirror_others_2_l1_b (m : MirS) (choose_c0 : Int) (rec : MirS → ArrS → Nat → Option ((MirS × ArrS) ⊕ (Int × MirS × ArrS))) (x12 : MirS) (x13 : ArrS) (x14 : Nat) : Option ((MirS × ArrS) ⊕ (Int × MirS × ArrS)) :=
  if (((x14 : Nat) : Int) < ((m.legs.length : Nat) : Int)) then
    grd (decide (x14 < x12.legs.length)) <|
    if ((x12.legs.getD x14 mleg_x0).state = (0 : Int)) then
      Option.bind (mirror_Mirror_others_2 (((x14 : Nat) : Int)) choose_c0) fun r20 =>
      if r20 = true then
        Option.bind (mirror_Mirror_others_3 (((x14 : Nat) : Int)) x12 x13) fun r22 =>
        Option.bind (mirror_Mirror_note x12 (((x14 : Nat) : Int)) r22.1 r22.2) fun r24 =>
        if (r24.1 ≠ (0 : Int)) then
          some (.inr (r24.1, r24.2, r22.2))
        else
          rec r24.2 r22.2 (x14 + 1)
      else
        rec x12 x13 (x14 + 1)
    else
      rec x12 x13 (x14 + 1)
  else
    some (.inl (x12, x13))
def mirror_Mirror_each__mirror_Mirror_others_2_l1 (m : MirS) (choose_c0 : Int) : Nat → MirS → ArrS → Nat → Option ((MirS × ArrS) ⊕ (Int × MirS × ArrS))
  | 0, _, _, _ => none
  | n + 1, x12, x13, x14 => mirror_Mirror_each__mirror_Mirror_others_2_l1_b m choose_c0 (mirror_Mirror_each__mirror_Mirror_others_2_l1 m choose_c0 n) x12 x13 x14
def mirror_Mirror_each__mirror_Mirror_others_2 (m : MirS) (choose_c0 : Int) (s : ArrS) : Option (Int × MirS × ArrS) :=
  seqO (mirror_Mirror_each__mirror_Mirror_others_2_l1 m choose_c0 FUEL m s 0) fun a11 =>
  Option.bind (mirror_Mirror_result a11.1 a11.2) fun r27 =>
  some (r27, a11.1, a11.2)
theorem L_mirror_Mirror_each__mirror_Mirror_others_2 {W : World} {bm : Nat} {bchoose_c0 : Nat} {bdo_2_c0 : Nat} {bs : Nat} {m : MirS} {choose_c0 : Int} {s : ArrS} {r : Int × MirS × ArrS} (h : mirror_Mirror_each__mirror_Mirror_others_2 m choose_c0 s = some r) :
    CSpec Try.prog W 34 [ptr bm 0, .func (.func 69) #[] #[ptr bchoose_c0 0], .func (.func 70) #[] #[ptr bdo_2_c0 0]] [MirP bs bm m, blk bchoose_c0 3 [.int .i64 choose_c0], blk bdo_2_c0 38 [ptr bm 0], Arr bs s] (fun x : Unit => .int .i64 r.1) (fun _ => True) (fun x F => MirP bs bm r.2.1 :: blk bchoose_c0 3 [.int .i64 choose_c0] :: blk bdo_2_c0 38 [ptr bm 0] :: Arr bs r.2.2 :: F) := by
 refine CSpec.of_body Try.func34 rfl Try.ntmps34 rfl fun F => ?_
 show CJ _ _ _ _ _ _ (_ :: _ :: _ :: _ :: F)
 unfold mirror_Mirror_each__mirror_Mirror_others_2 at h
 refine sR <| oA rfl rfl <| nT <| sR <| oM rfl rfl <| oP (P_makeFunc rfl rfl) rfl <| oA rfl rfl <| nT <| CJ_seq <| CJ_seq <| CJ_entX (Ent.transX (t0_ eR) (MirP_open (l := m))) fun oc1 => CJ_pure (fun h hh => Rs_len (stars_perm (del2 (A := Rs (DevP bs) (m.legs.map mlegS.dev) oc1.2.1)).out h hh)) fun hdl3 => lC del1 fun hlen4 => ?_
 rw [mk_mleg_len (by have := hdl3; simpa using this)] at hlen4
 refine lC del4 fun hlen5 => CJ_region <| oM rfl rfl <| oP (P_nilCheck rfl) rfl <| oP (P_fieldAddr rfl ⟨_, _, _, Try.runUnderlying74, rfl, rfl, Try.sizeOf70, rfl⟩) rfl <| oV (V_load rfl foc0 rfl Try.isAgg70) rfl <| oV (VJ_eq (V_len rfl foc1 (Reads.sl _ _ _) Try.runUnderlying70) (congrArg (fun z : Nat => Value.int .i64 (z : Int)) (mk_mleg_len (by have := hdl3; simpa using this)).symm)) rfl <| oM rfl rfl <| RJ_nil <| QJ_ent (Ent.trans eR (MirP_mk (v0 := m.legs) (v1 := m.log) (v2 := m.hasLog) (v3 := m.logState) (v4 := m.size) (v5 := m.region) (v6 := m.dirty) (v7 := m.copied) (h0 := oc1.1) (h1 := oc1.2.1) (h2 := oc1.2.2.1) (h3 := oc1.2.2.2))) <| QJ_then ?_
 obtain ⟨y8, hl6, hK7⟩ := seq_e h
 refine CJ_cutT (X := MirS × ArrS) [6, 8, 9, 17, 18, 19, 20, 21, 22, 23, 24, 25, 26, 27, 28, 29, 30, 31, 32, 33, 34, 35, 36, 37, 38, 39, 40, 41, 42, 43] (fun a11 => ([] : Slots)) (fun a11 R => MirP bs bm a11.1 :: Arr bs a11.2 :: R) (fun a11 => y8 = .inl a11) (Dels.cons del0 (Dels.cons del2 Dels.nil)) ?_ ?_
 ·
  refine CJ_block <| CJ_loopR (X := Nat × MirS × ArrS × Nat) [6, 8, 9, 17, 18, 19, 20, 21, 22, 23, 24, 25, 26, 27, 28, 29, 30, 31, 32, 33, 34, 35, 36, 37, 38, 39, 40, 41, 42, 43] (fun ⟨n, x12, x13, x14⟩ => ([(17, .int .i64 (((x14 : Nat) : Int)))] : Slots)) (fun ⟨n, x12, x13, x14⟩ R => MirP bs bm x12 :: Arr bs x13 :: R) (fun ⟨n, x12, x13, x14⟩ => mirror_Mirror_each__mirror_Mirror_others_2_l1 m choose_c0 n x12 x13 x14 = some y8) (fun ⟨n, x12, x13, x14⟩ => n) ⟨FUEL, m, s, 0⟩ ?_ ?_ (t0_ (t2_ eR)) ?_
  · exact hl6
  · exact ⟨rfl, True.intro⟩
  ·
   rintro ⟨n, x12, x13, x14⟩ h
   cases n with
   | zero => exact none_e h
   | succ n => ?_
   replace h : mirror_Mirror_each__mirror_Mirror_others_2_l1_b m choose_c0 (mirror_Mirror_each__mirror_Mirror_others_2_l1 m choose_c0 n) x12 x13 x14 = some y8 := h
   unfold mirror_Mirror_each__mirror_Mirror_others_2_l1_b at h
   show CJ _ _ _ _ _ (([(17, .int .i64 (((x14 : Nat) : Int)))] : Slots) ++ forget _ _) (MirP bs bm x12 :: Arr bs x13 :: _)
   refine sR <| oP (P_lss (a := ((x14 : Nat) : Int)) (b := ((m.legs.length : Nat) : Int)) rfl rfl) rfl <| nT <| CJ_seq <| CJ_condP rfl bT_dec (fun hg1 => ?_) (fun hg1 => ?_)
   ·
    replace h := ite_t hg1 h
    refine kT <| CJ_seq <| CJ_block <| sR <| oM rfl rfl <| oA rfl rfl <| nT <| CJ_seq <| CJ_entX (Ent.transX (t0_ eR) (MirP_open (l := x12))) fun oc15 => CJ_pure (fun h hh => Rs_len (stars_perm (del2 (A := Rs (DevP bs) (x12.legs.map mlegS.dev) oc15.2.1)).out h hh)) fun hdl17 => lC del1 fun hlen18 => ?_
    rw [mk_mleg_len (by have := hdl17; simpa using this)] at hlen18
    refine lC del4 fun hlen19 => CJ_region <| oM rfl rfl <| oP (P_nilCheck rfl) rfl <| oP (P_fieldAddr rfl ⟨_, _, _, Try.runUnderlying74, rfl, rfl, Try.sizeOf70, rfl⟩) rfl <| oV (V_load rfl foc0 rfl Try.isAgg70) rfl <| oM rfl rfl ?_
    obtain ⟨hg2, h⟩ := grd_de h
    refine oV (V_index (i := x14) rfl rfl rfl (show x14 < (mk_mleg x12.legs oc15.2.1).length by rw [mk_mleg_len (by have := hdl17; simpa using this)]; exact hg2) foc1 (Reads.sl _ _ _) Try.runUnderlying70 Try.sizeOf83) rfl <| oP (P_fieldE rfl ⟨_, _, _, Try.runUnderlying83, rfl, rfl, Try.sizeOf72, rfl⟩) rfl <| oV (VJ_eq (V_loadE rfl rfl (show x14 < (mk_mleg x12.legs oc15.2.1).length by rw [mk_mleg_len (by have := hdl17; simpa using this)]; exact hg2) foc1 (Reads.sl _ _ _) rfl rfl Try.isAgg72) (show (.int .i64 ((x12.legs.getD x14 mleg_x0).state) : Value) = .int .i64 ((mk_mleg x12.legs oc15.2.1).getD x14 mleg_h0).state from by rw [mk_mleg_at (by have := hdl17; simpa using this)])) rfl <| oP (P_eql (a := (x12.legs.getD x14 mleg_x0).state) (b := (0 : Int)) rfl rfl) rfl <| oM rfl rfl <| RJ_splitP 29 rfl bT_dec (fun hg3B hg3 => ?_) (fun hg3B hg3 => ?_)
    ·
     replace h := ite_t hg3 h
     refine gP (GY_yes rfl rfl rfl hg3B) (P_move rfl) rfl <| gP (GY_yes rfl rfl rfl hg3B) (P_move rfl) rfl ?_
     obtain ⟨r20, hr21, h⟩ := bind_e h
     refine RJ_gy (GY_yes rfl rfl rfl hg3B) <| O_callV rfl rfl (L_mirror_Mirror_others_2 hr21) Try.call69 (Dels.cons del6 Dels.nil) rfl fun _ _ => oP (P_pickT rfl hg3B rfl) rfl <| RJ_nil <| QJ_ent (Ent.trans (t1_ (t1_ (t1_ (t1_ (t1_ eR))))) (MirP_mk (v0 := x12.legs) (v1 := x12.log) (v2 := x12.hasLog) (v3 := x12.logState) (v4 := x12.size) (v5 := x12.region) (v6 := x12.dirty) (v7 := x12.copied) (h0 := oc15.1) (h1 := oc15.2.1) (h2 := oc15.2.2.1) (h3 := oc15.2.2.2))) <| QJ_then <| CJ_condP rfl Iff.rfl (fun hg4 => ?_) (fun hg4 => ?_)
     ·
      replace h := ite_t hg4 h
      refine sR <| oM rfl rfl <| oM rfl rfl <| oM rfl rfl <| oM rfl rfl ?_
      obtain ⟨r22, hr23, h⟩ := bind_e h
      refine oO <| O_callV rfl rfl (L_mirror_Mirror_others_3 hr23) Try.call70 (Dels.cons del3 (Dels.cons del0 (Dels.cons del1 Dels.nil))) rfl fun _ _ => ?_
      obtain ⟨r24, hr25, h⟩ := bind_e h
      refine oO <| O_callV rfl rfl (L_mirror_Mirror_note hr25) Try.call44 (Dels.cons del1 (Dels.cons del1 Dels.nil)) rfl fun _ _ => oA rfl rfl <| nT <| sR <| oM rfl rfl <| oP (P_neq (a := r24.1) (b := (0 : Int)) rfl rfl) rfl <| nT <| CJ_condP rfl bT_dec (fun hg5 => ?_) (fun hg5 => ?_)
      ·
       replace h := ite_t hg5 h
       refine sR <| oM rfl rfl <| oA rfl rfl <| nT <| CJ_ret <| QJ_block_ret <| QJ_then_ret <| QJ_round_ret <| QJ_block_ret <| QJ_then_ret ?_
       have hE := Option.some.inj h
       replace hE := seq_inr hK7 hE.symm
       subst hE
       exact fE (res1 Try.results34 rfl) () (t0_ (t2_ (t1_ eR)))
      ·
       replace h := ite_f hg5 h
       exact CJ_skip <| QJ_block_normal <| QJ_then <| CJ_region <| oP (PJ_eq (P_add (a := ((x14 : Nat) : Int)) (b := (1 : Int)) rfl rfl (by omega)) rfl) rfl <| oM rfl rfl <| RJ_nil <| nR ⟨n, r24.2, r22.2, (x14 + 1)⟩ h ⟨rfl, True.intro⟩ (t0_ (t0_ (t1_ eR)))
     ·
      replace h := ite_f hg4 h
      exact CJ_skip <| QJ_block_normal <| QJ_then <| CJ_region <| oP (PJ_eq (P_add (a := ((x14 : Nat) : Int)) (b := (1 : Int)) rfl rfl (by omega)) rfl) rfl <| oM rfl rfl <| RJ_nil <| nR ⟨n, x12, x13, (x14 + 1)⟩ h ⟨rfl, True.intro⟩ (t0_ (t1_ eR))
    ·
     replace h := ite_f hg3 h
     exact RJ_gn (GY_no rfl rfl rfl hg3B) rfl rfl <| RJ_gn (GY_no rfl rfl rfl hg3B) rfl rfl <| RJ_gn (GY_no rfl rfl rfl hg3B) rfl rfl <| oP (P_pickF rfl hg3B rfl) rfl <| RJ_nil <| QJ_ent (Ent.trans eR (MirP_mk (v0 := x12.legs) (v1 := x12.log) (v2 := x12.hasLog) (v3 := x12.logState) (v4 := x12.size) (v5 := x12.region) (v6 := x12.dirty) (v7 := x12.copied) (h0 := oc15.1) (h1 := oc15.2.1) (h2 := oc15.2.2.1) (h3 := oc15.2.2.2))) <| QJ_then <| CJ_condF rfl rfl <| CJ_skip <| QJ_block_normal <| QJ_then <| CJ_region <| oP (PJ_eq (P_add (a := ((x14 : Nat) : Int)) (b := (1 : Int)) rfl rfl (by omega)) rfl) rfl <| oM rfl rfl <| RJ_nil <| nR ⟨n, x12, x13, (x14 + 1)⟩ h ⟨rfl, True.intro⟩ eR
   ·
    replace h := ite_f hg1 h
    exact CJ_exit <| QJ_then_exit <| QJ_round_exit <| QJ_block_here <| cR (x12, x13) (Option.some.inj h).symm True.intro eR
 ·
  rintro a11 hy26
  replace h := seq_inl hK7 hy26
  show CJ _ _ _ _ _ (([] : Slots) ++ forget _ _) (MirP bs bm a11.1 :: Arr bs a11.2 :: _)
  refine sR <| oM rfl rfl ?_
  obtain ⟨r27, hr28, h⟩ := bind_e h
  refine oO <| O_call (L_mirror_Mirror_result hr28) rfl Try.call31 (Dels.cons del0 (Dels.cons del0 Dels.nil)) rfl fun _ _ => oA rfl rfl <| nT <| CJ_ret ?_
  cases h
  exact fE (res1 Try.results34 rfl) () (t0_ (t1_ (t1_ eR)))
def mirror_Mirror_others (m : MirS) (s : ArrS) : Option (Int × MirS × ArrS) :=
  Option.bind (slices_IndexFunc_leg__mirror_Mirror_others_1 m.legs s) fun r7 =>
  Option.bind (mirror_Mirror_each__mirror_Mirror_others_2 m r7 s) fun r10 =>
  some (r10.1, r10.2.1, r10.2.2)
theorem L_mirror_Mirror_others {W : World} {bm : Nat} {bs : Nat} {m : MirS} {s : ArrS} {r : Int × MirS × ArrS} (h : mirror_Mirror_others m s = some r) :
    CSpec Try.prog W 41 [ptr bm 0] [MirP bs bm m, Arr bs s] (fun x : Unit => .int .i64 r.1) (fun _ => True) (fun x F => MirP bs bm r.2.1 :: Arr bs r.2.2 :: F) := by
 refine CSpec.of_body Try.func41 rfl Try.ntmps41 rfl fun F => ?_
 show CJ _ _ _ _ _ _ (_ :: _ :: F)
 unfold mirror_Mirror_others at h
 refine sR <| oO <| O_box rfl rfl rfl fun b1 => oA rfl rfl <| nT <| CJ_seq <| CJ_entX (Ent.transX (t1_ eR) (MirP_open (l := m))) fun oc2 => CJ_pure (fun h hh => Rs_len (stars_perm (del2 (A := Rs (DevP bs) (m.legs.map mlegS.dev) oc2.2.1)).out h hh)) fun hdl4 => lC del1 fun hlen5 => ?_
 rw [mk_mleg_len (by have := hdl4; simpa using this)] at hlen5
 refine lC del4 fun hlen6 => CJ_region <| oV (V_load rfl foc5 rfl Try.isAgg38) rfl <| oP (P_nilCheck rfl) rfl <| oP (P_fieldAddr rfl ⟨_, _, _, Try.runUnderlying74, rfl, rfl, Try.sizeOf70, rfl⟩) rfl <| oV (V_load rfl foc0 rfl Try.isAgg70) rfl ?_
 obtain ⟨r7, hr8, h⟩ := bind_e h
 refine oO <| O_call (L_slices_IndexFunc_leg__mirror_Mirror_others_1 (Reads.sl _ _ _) hr8) rfl Try.call67 (Dels.cons del1 (Dels.cons del1 (Dels.cons del4 Dels.nil))) rfl fun _ _ => oO <| O_alloc Try.zeroValue3 rfl rfl fun b9 => oO <| O_store rfl rfl foc0 rfl rfl Try.sizeOf3 <| RJ_nil <| QJ_ent (Ent.trans (t4_ (t1_ (t1_ (t2_ (t2_ eR))))) (MirP_mk (v0 := m.legs) (v1 := m.log) (v2 := m.hasLog) (v3 := m.logState) (v4 := m.size) (v5 := m.region) (v6 := m.dirty) (v7 := m.copied) (h0 := oc2.1) (h1 := oc2.2.1) (h2 := oc2.2.2.1) (h3 := oc2.2.2.2))) <| QJ_then <| sR <| oV (V_load rfl foc3 rfl Try.isAgg38) rfl <| oP (P_makeFunc rfl rfl) rfl <| oP (P_makeFunc rfl rfl) rfl ?_
 obtain ⟨r10, hr11, h⟩ := bind_e h
 refine oO <| O_call (L_mirror_Mirror_each__mirror_Mirror_others_2 hr11) rfl Try.call34 (Dels.cons del0 (Dels.cons del0 (Dels.cons del1 (Dels.cons del0 Dels.nil)))) rfl fun _ _ => oA rfl rfl <| nT <| CJ_ret ?_
 cases h
 exact fE (res1 Try.results41 rfl) () (t0_ (t2_ (eD (eD eR))))
def mirror_Mirror_Resync_l2_b (r4 : (List Int)) (x17 : Nat) (rec : MirS → ArrS → Int → Int → Option ((Int × MirS × ArrS) ⊕ ((MirS × ArrS) ⊕ (Int × Int × MirS × ArrS)))) (x26 : MirS) (x27 : ArrS) (x28 : Int) (x29 : Int) : Option ((Int × MirS × ArrS) ⊕ ((MirS × ArrS) ⊕ (Int × Int × MirS × ArrS))) :=
  Option.bind (mirror_Mirror_end x26 (r4.getD x17 0) x27) fun r31 =>
  if (x29 < r31) then
    if (x28 = (0 : Int)) then
      some (.inr (.inl (x26, x27)))
    else
      grd (inI64 ((x28 - (1 : Int)))) <|
      Option.bind (mirror_Mirror_fetch x26 x29 x27) fun r33 =>
      Option.bind ((
        if (r33.2.2.2.1 = (0 : Int)) then
          Option.bind (mirror_Mirror_each__mirror_Mirror_Resync_1 r33.2.2.2.2 r33.2.1 x29 r33.1 x27) fun r46 =>
          some (r46.1, r46.2.1, r46.2.2)
        else
          some (r33.2.2.2.1, r33.2.2.2.2, x27) : Option (Int × MirS × ArrS))) fun a45 =>
      if (a45.1 ≠ (0 : Int)) then
        some (.inr (.inr (((0 : Int), a45.1, a45.2.1, a45.2.2))))
      else
        grd (inI64 ((a45.2.1.copied + (1 : Int)))) <|
        grd (inI64 ((x29 + (1 : Int)))) <|
        rec ({ a45.2.1 with copied := (a45.2.1.copied + (1 : Int)) }) a45.2.2 ((x28 - (1 : Int))) ((x29 + (1 : Int)))
  else
    some (.inl (x28, x26, x27))
def mirror_Mirror_Resync_l2 (r4 : (List Int)) (x17 : Nat) : Nat → MirS → ArrS → Int → Int → Option ((Int × MirS × ArrS) ⊕ ((MirS × ArrS) ⊕ (Int × Int × MirS × ArrS)))
  | 0, _, _, _, _ => none
  | n + 1, x26, x27, x28, x29 => mirror_Mirror_Resync_l2_b r4 x17 (mirror_Mirror_Resync_l2 r4 x17 n) x26 x27 x28 x29
def mirror_Mirror_Resync_l1_b (r4 : (List Int)) (rec : MirS → ArrS → Int → Nat → Option ((MirS × ArrS) ⊕ (Int × Int × MirS × ArrS))) (x14 : MirS) (x15 : ArrS) (x16 : Int) (x17 : Nat) : Option ((MirS × ArrS) ⊕ (Int × Int × MirS × ArrS)) :=
  if (((x17 : Nat) : Int) < ((r4.length : Nat) : Int)) then
    grd (inI64 (((r4.getD x17 0) * x14.region))) <|
    grd (inI64 ((((r4.getD x17 0) * x14.region) + x14.copied))) <|
    seqO (mirror_Mirror_Resync_l2 r4 x17 FUEL x14 x15 x16 ((((r4.getD x17 0) * x14.region) + x14.copied))) fun a25 =>
    Option.bind (mirror_Mirror_others a25.2.1 a25.2.2) fun r56 =>
    if (r56.1 ≠ (0 : Int)) then
      some (.inr (((0 : Int), r56.1, r56.2.1, r56.2.2)))
    else
      grd (decide (0 ≤ (r4.getD x17 0) ∧ (r4.getD x17 0) < (r56.2.1.dirty.length : Int))) <|
      grd (inN64 (x17 + 1)) <|
      rec ({ r56.2.1 with dirty := (r56.2.1.dirty.set (((r4.getD x17 0)).toNat) false), copied := (0 : Int) }) r56.2.2 a25.1 (x17 + 1)
  else
    some (.inl (x14, x15))
def mirror_Mirror_Resync_l1 (r4 : (List Int)) : Nat → MirS → ArrS → Int → Nat → Option ((MirS × ArrS) ⊕ (Int × Int × MirS × ArrS))
  | 0, _, _, _, _ => none
  | n + 1, x14, x15, x16, x17 => mirror_Mirror_Resync_l1_b r4 (mirror_Mirror_Resync_l1 r4 n) x14 x15 x16 x17
def mirror_Mirror_Resync (m : MirS) (n_1 : Int) (s : ArrS) : Option (Int × Int × MirS × ArrS) :=
  if (n_1 < (0 : Int)) then
    some (((0 : Int), (1 : Int), m, s))
  else
    Option.bind (mirror_Mirror_result m s) fun r2 =>
    if (r2 ≠ (0 : Int)) then
      some (((0 : Int), r2, m, s))
    else
      Option.bind (mirror_Mirror_Dirty m s) fun r4 =>
      seqO (mirror_Mirror_Resync_l1 r4 FUEL m s n_1 0) fun a13 =>
      Option.bind (mirror_Mirror_rest a13.1 a13.2) fun r64 =>
      some ((r64, (0 : Int), a13.1, a13.2))
theorem L_mirror_Mirror_Resync {W : World} {bm : Nat} {bs : Nat} {m : MirS} {n_1 : Int} {s : ArrS} {r : Int × Int × MirS × ArrS} (h : mirror_Mirror_Resync m n_1 s = some r) :
    CSpec Try.prog W 13 [ptr bm 0, .int .i64 n_1] [MirP bs bm m, Arr bs s] (fun x : Unit => .tuple #[.int .i64 r.1, .int .i64 r.2.1]) (fun _ => True) (fun x F => MirP bs bm r.2.2.1 :: Arr bs r.2.2.2 :: F) := by
 refine CSpec.of_body Try.func13 rfl Try.ntmps13 rfl fun F => ?_
 show CJ _ _ _ _ _ _ (_ :: _ :: F)
 unfold mirror_Mirror_Resync at h
 refine sR <| oO <| O_box rfl rfl rfl fun b1 => oA rfl rfl <| oA rfl rfl <| nT <| CJ_scope <| CJ_seq <| sR <| oM rfl rfl <| oP (P_lss (a := n_1) (b := (0 : Int)) rfl rfl) rfl <| nT <| CJ_condP rfl bT_dec (fun hg1 => ?_) (fun hg1 => ?_)
 ·
  replace h := ite_t hg1 h
  refine sR <| oA rfl rfl <| oA rfl rfl <| nT <| CJ_ret <| QJ_then_ret <| QJ_scope_ret ?_
  cases h
  exact fE (res2 Try.results13 rfl rfl) () (t1_ (t1_ (eD eR)))
 ·
  replace h := ite_f hg1 h
  refine kT <| CJ_seq <| sR <| oV (V_load rfl foc0 rfl Try.isAgg38) rfl ?_
  obtain ⟨r2, hr3, h⟩ := bind_e h
  refine oO <| O_call (L_mirror_Mirror_result hr3) rfl Try.call31 (Dels.cons del1 (Dels.cons del1 Dels.nil)) rfl fun _ _ => oA rfl rfl <| nT <| sR <| oM rfl rfl <| oP (P_neq (a := r2) (b := (0 : Int)) rfl rfl) rfl <| nT <| CJ_condP rfl bT_dec (fun hg2 => ?_) (fun hg2 => ?_)
  ·
   replace h := ite_t hg2 h
   refine sR <| oM rfl rfl <| oA rfl rfl <| oA rfl rfl <| nT <| CJ_ret <| QJ_then_ret <| QJ_scope_ret ?_
   cases h
   exact fE (res2 Try.results13 rfl rfl) () (t0_ (t0_ (eD eR)))
  ·
   replace h := ite_f hg2 h
   refine kT <| CJ_seq <| CJ_label <| QJ_then <| CJ_seq <| sR <| oV (V_load rfl foc2 rfl Try.isAgg38) rfl ?_
   obtain ⟨r4, hr5, h⟩ := bind_e h
   refine oO <| O_call (L_mirror_Mirror_Dirty hr5) rfl Try.call19 (Dels.cons del0 (Dels.cons del0 Dels.nil)) rfl fun X6 _ => oV (V_len rfl foc2 (Reads.sl _ _ _) Try.runUnderlying22) rfl <| oM rfl rfl <| nT ?_
   obtain ⟨y10, hl8, hK9⟩ := seq_e h
   refine CJ_cutT (X := MirS × ArrS) [1, 4, 5, 8, 9, 10, 11, 12, 13, 14, 25, 26, 27, 28, 29, 30, 31, 32, 33, 34, 35, 36, 37, 38, 39, 40, 41, 42, 43, 44, 45, 46, 47, 48, 49, 50, 51, 52, 53, 54, 55, 56, 57, 58, 59, 60, 61, 62, 63, 64, 65, 66, 67, 68, 69, 70, 71, 72, 73, 74, 75, 76, 77, 78, 79, 80, 81, 82, 83, 84, 85, 86, 87, 88, 89, 90] (fun a13 => ([] : Slots)) (fun a13 R => MirP bs bm a13.1 :: Arr bs a13.2 :: R) (fun a13 => y10 = .inl a13) (Dels.cons del0 (Dels.cons del0 Dels.nil)) ?_ ?_
   ·
    refine CJ_block <| CJ_loopR (X := Nat × MirS × ArrS × Int × Nat) [1, 4, 5, 8, 9, 10, 11, 12, 13, 14, 25, 26, 27, 28, 29, 30, 31, 32, 33, 34, 35, 36, 37, 38, 39, 40, 41, 42, 43, 44, 45, 46, 47, 48, 49, 50, 51, 52, 53, 54, 55, 56, 57, 58, 59, 60, 61, 62, 63, 64, 65, 66, 67, 68, 69, 70, 71, 72, 73, 74, 75, 76, 77, 78, 79, 80, 81, 82, 83, 84, 85, 86, 87, 88, 89, 90] (fun ⟨n, x14, x15, x16, x17⟩ => ([(1, .int .i64 x16), (25, .int .i64 (((x17 : Nat) : Int)))] : Slots)) (fun ⟨n, x14, x15, x16, x17⟩ R => MirP bs bm x14 :: Arr bs x15 :: R) (fun ⟨n, x14, x15, x16, x17⟩ => mirror_Mirror_Resync_l1 r4 n x14 x15 x16 x17 = some y10) (fun ⟨n, x14, x15, x16, x17⟩ => n) ⟨FUEL, m, s, n_1, 0⟩ ?_ ?_ eR ?_
    · exact hl8
    · exact ⟨rfl, rfl, True.intro⟩
    ·
     rintro ⟨n, x14, x15, x16, x17⟩ h
     cases n with
     | zero => exact none_e h
     | succ n => ?_
     replace h : mirror_Mirror_Resync_l1_b r4 (mirror_Mirror_Resync_l1 r4 n) x14 x15 x16 x17 = some y10 := h
     unfold mirror_Mirror_Resync_l1_b at h
     show CJ _ _ _ _ _ (([(1, .int .i64 x16), (25, .int .i64 (((x17 : Nat) : Int)))] : Slots) ++ forget _ _) (MirP bs bm x14 :: Arr bs x15 :: _)
     refine sR <| oP (P_lss (a := ((x17 : Nat) : Int)) (b := ((r4.length : Nat) : Int)) rfl rfl) rfl <| nT <| CJ_seq <| CJ_condP rfl bT_dec (fun hg3 => ?_) (fun hg3 => ?_)
     ·
      replace h := ite_t hg3 h
      refine kT <| CJ_seq <| CJ_block <| sR <| oV (V_index (i := x17) rfl rfl rfl (by omega) foc2 (Reads.sl _ _ _) Try.runUnderlying22 Try.sizeOf3) rfl <| oV (V_loadE rfl rfl (by omega) foc2 (Reads.sl _ _ _) rfl rfl Try.isAgg3) rfl <| oA rfl rfl <| nT <| CJ_seq <| CJ_seq <| AJ_startH 4096 (by kernel_rfl) rfl <| aN 0 1 rfl rfl (P_move rfl) rfl <| aV 1 3 rfl rfl (GY_none rfl) eR (V_load rfl foc3 rfl Try.isAgg38) rfl <| aN 2 7 rfl rfl (P_nilCheck rfl) rfl <| aN 3 15 rfl rfl (P_fieldAddr rfl ⟨_, _, _, Try.runUnderlying74, rfl, rfl, Try.sizeOf3, rfl⟩) rfl <| aV 4 31 rfl rfl (GY_none rfl) eR (VJ_entX (Ent.transX (t0_ eR) (MirP_open (l := x14))) (fun _ => V_load rfl foc0 rfl Try.isAgg3)) rfl ?_
      obtain ⟨hg4, h⟩ := grd_Ie h
      refine aN 5 63 rfl rfl (P_mul (a := (r4.getD x17 0)) (b := x14.region) rfl rfl hg4) rfl <| aV 6 127 rfl rfl (GY_none rfl) eR (V_load rfl foc3 rfl Try.isAgg38) rfl <| aN 7 255 rfl rfl (P_nilCheck rfl) rfl <| aN 8 511 rfl rfl (P_fieldAddr rfl ⟨_, _, _, Try.runUnderlying74, rfl, rfl, Try.sizeOf3, rfl⟩) rfl <| aV 9 1023 rfl rfl (GY_none rfl) eR (VJ_entX (Ent.transX (t0_ eR) (MirP_open (l := x14))) (fun _ => V_load rfl foc0 rfl Try.isAgg3)) rfl ?_
      obtain ⟨hg5, h⟩ := grd_Ie h
      refine aN 10 2047 rfl rfl (P_add (a := ((r4.getD x17 0) * x14.region)) (b := x14.copied) rfl rfl hg5) rfl <| AJ_op 11 4095 rfl (by kernel_rfl) rfl (GY_none rfl) <| O_alloc Try.zeroValue3 rfl rfl fun b18 => ⟨fun _ => (t1_ (t1_ (t1_ (t1_ (eD eR))))), ?_⟩
      refine AJ_op 12 8191 rfl (by kernel_rfl) rfl (GY_none rfl) <| O_store rfl rfl foc0 rfl rfl Try.sizeOf3 <| ⟨fun h => absurd h (by decide), ?_⟩
      refine aD ?_
      obtain ⟨y21, hl19, hK20⟩ := seq_e h
      refine CJ_cutT (X := Int × MirS × ArrS) [1, 4, 5, 9, 10, 11, 12, 13, 40, 41, 42, 43, 44, 45, 46, 47, 48, 49, 50, 51, 52, 53, 54, 55, 56, 57, 58, 59, 60, 61, 62, 63, 64, 65, 66, 67, 68, 69, 70, 71, 72, 73, 74, 75] (fun a25 => ([(1, .int .i64 a25.1)] : Slots)) (fun a25 R => MirP bs bm a25.2.1 :: Arr bs a25.2.2 :: R) (fun a25 => y21 = .inl a25) (Dels.cons del1 (Dels.cons del1 (Dels.cons del0 Dels.nil))) ?_ ?_
      ·
       refine CJ_block <| CJ_loopR (X := Nat × MirS × ArrS × Int × Int × Nat) [1, 4, 5, 9, 10, 11, 12, 13, 40, 41, 42, 43, 44, 45, 46, 47, 48, 49, 50, 51, 52, 53, 54, 55, 56, 57, 58, 59, 60, 61, 62, 63, 64, 65, 66, 67, 68, 69, 70, 71, 72, 73, 74, 75] (fun ⟨n, x26, x27, x28, x29, pb30⟩ => ([(1, .int .i64 x28), (9, ptr pb30 0)] : Slots)) (fun ⟨n, x26, x27, x28, x29, pb30⟩ R => MirP bs bm x26 :: Arr bs x27 :: blk pb30 3 [.int .i64 x29] :: R) (fun ⟨n, x26, x27, x28, x29, pb30⟩ => mirror_Mirror_Resync_l2 r4 x17 n x26 x27 x28 x29 = some y21) (fun ⟨n, x26, x27, x28, x29, pb30⟩ => n) ⟨FUEL, x14, x15, x16, (((r4.getD x17 0) * x14.region) + x14.copied), b18⟩ ?_ ?_ (t1_ (t1_ eR)) ?_
       · exact hl19
       · exact ⟨rfl, rfl, True.intro⟩
       ·
        rintro ⟨n, x26, x27, x28, x29, pb30⟩ h
        cases n with
        | zero => exact none_e h
        | succ n => ?_
        replace h : mirror_Mirror_Resync_l2_b r4 x17 (mirror_Mirror_Resync_l2 r4 x17 n) x26 x27 x28 x29 = some y21 := h
        unfold mirror_Mirror_Resync_l2_b at h
        show CJ _ _ _ _ _ (([(1, .int .i64 x28), (9, ptr pb30 0)] : Slots) ++ forget _ _) (MirP bs bm x26 :: Arr bs x27 :: blk pb30 3 [.int .i64 x29] :: _)
        refine CJ_seq <| CJ_seq <| AJ_startH 0 (by kernel_rfl) rfl <| aV 0 1 rfl rfl (GY_none rfl) eR (V_load rfl foc2 rfl Try.isAgg3) rfl <| aV 1 3 rfl rfl (GY_none rfl) eR (V_load rfl foc4 rfl Try.isAgg38) rfl <| aN 2 7 rfl rfl (P_move rfl) rfl ?_
        obtain ⟨r31, hr32, h⟩ := bind_e h
        refine AJ_op 3 15 rfl (by kernel_rfl) rfl (GY_none rfl) <| O_call (L_mirror_Mirror_end hr32) rfl Try.call38 (Dels.cons del0 (Dels.cons del0 Dels.nil)) rfl fun _ _ => ⟨fun _ => eR, ?_⟩
        refine aN 4 31 rfl rfl (P_lss (a := x29) (b := r31) rfl rfl) rfl <| aD <| CJ_condP rfl bT_dec (fun hg6 => ?_) (fun hg6 => ?_)
        ·
         replace h := ite_t hg6 h
         refine kT <| CJ_seq <| CJ_block <| CJ_seq <| sR <| oM rfl rfl <| oP (P_eql (a := x28) (b := (0 : Int)) rfl rfl) rfl <| nT <| CJ_condP rfl bT_dec (fun hg7 => ?_) (fun hg7 => ?_)
         ·
          replace h := ite_t hg7 h
          refine CJ_exit <| QJ_then_exit <| QJ_block_other rfl <| QJ_then_exit <| QJ_round_exit <| QJ_block_other rfl <| QJ_then_exit <| QJ_block_other rfl <| QJ_then_exit <| QJ_round_exit <| QJ_block_here ?_
          have hE := Option.some.inj h
          replace hE := seq_inr hK20 hE.symm
          exact cR (x26, x27) hE.symm True.intro (t0_ (t0_ (t1_ (t1_ (eD eR)))))
         ·
          replace h := ite_f hg7 h
          refine kT <| sR <| oM rfl rfl ?_
          obtain ⟨hg8, h⟩ := grd_Ie h
          refine oP (P_sub (a := x28) (b := (1 : Int)) rfl rfl hg8) rfl <| oA rfl rfl <| nT <| sR <| oV (V_load rfl foc4 rfl Try.isAgg38) rfl <| oV (V_load rfl foc2 rfl Try.isAgg3) rfl ?_
          obtain ⟨r33, hr34, h⟩ := bind_e h
          refine oO <| O_call (L_mirror_Mirror_fetch hr34) rfl Try.call32 (Dels.cons del0 (Dels.cons del0 Dels.nil)) rfl fun X35 _ => oM rfl rfl <| oP (P_extract rfl rfl) rfl <| oP (P_extract rfl rfl) rfl <| oP (P_extract (v := X35.v) rfl rfl) rfl <| oP (P_extract rfl rfl) rfl <| oO <| O_alloc Try.zeroValue33 rfl rfl fun b37 => oO <| O_alloc Try.zeroValue3 rfl rfl fun b38 => oO <| O_store rfl rfl foc1 rfl rfl Try.sizeOf33 <| oO <| O_store rfl rfl foc0 rfl rfl Try.sizeOf3 <| oA rfl rfl <| oA rfl rfl <| RJ_nil <| QJ_ent (t0_ (t0_ (t0_ (t0_ (t1_ (t1_ (t1_ (eD eR)))))))) <| QJ_then <| CJ_seq <| sR <| oM rfl rfl <| oP (P_eql (a := r33.2.2.2.1) (b := (0 : Int)) rfl rfl) rfl <| nT ?_
          obtain ⟨y41, hl39, hK40⟩ := bind_c h
          refine CJ_cutT (X := Int × MirS × ArrS) [13, 61, 62, 63, 64] (fun a45 => ([(13, .int .i64 a45.1)] : Slots)) (fun a45 R => MirP bs bm a45.2.1 :: Arr bs a45.2.2 :: R) (fun a45 => y41 = a45) (Dels.cons del2 (Dels.cons del2 Dels.nil)) ?_ ?_
          ·
           have h := hl39
           refine CJ_condP rfl bT_dec (fun hg9 => ?_) (fun hg9 => ?_)
           ·
            replace h := ite_t hg9 h
            refine CJ_region <| oV (V_load rfl foc6 rfl Try.isAgg38) rfl <| oP (P_makeFunc rfl rfl) rfl <| oP (P_makeFunc rfl rfl) rfl ?_
            obtain ⟨r46, hr47, h⟩ := bind_e h
            exact oO <| O_call (L_mirror_Mirror_each__mirror_Mirror_Resync_1 hr47) rfl Try.call34 (Dels.cons del2 (Dels.cons del0 (Dels.cons del4 (Dels.cons del2 (Dels.cons del0 (Dels.cons del0 Dels.nil)))))) rfl fun _ _ => oA rfl rfl <| RJ_nil <| cR (r46.1, r46.2.1, r46.2.2) (Option.some.inj h).symm ⟨rfl, True.intro⟩ (t0_ (t4_ (t0_ (t2_ (t1_ (t1_ eR))))))
           ·
            replace h := ite_f hg9 h
            exact CJ_skip <| cR (r33.2.2.2.1, r33.2.2.2.2, x27) (Option.some.inj h).symm ⟨rfl, True.intro⟩ (t2_ (t2_ eR))
          ·
           rintro a45 hy48
           replace h := bindK_at hK40 hy48
           show CJ _ _ _ _ _ (([(13, .int .i64 a45.1)] : Slots) ++ forget _ _) (MirP bs bm a45.2.1 :: Arr bs a45.2.2 :: _)
           refine CJ_seq <| sR <| oM rfl rfl <| oP (P_neq (a := a45.1) (b := (0 : Int)) rfl rfl) rfl <| RJ_nil <| QJ_ent (t0_ (t0_ (t2_ (t2_ (t2_ (eD (eD eR))))))) <| QJ_then <| CJ_condP rfl bT_dec (fun hg10 => ?_) (fun hg10 => ?_)
           ·
            replace h := ite_t hg10 h
            refine sR <| oM rfl rfl <| oA rfl rfl <| oA rfl rfl <| nT <| CJ_ret <| QJ_then_ret <| QJ_block_ret <| QJ_then_ret <| QJ_round_ret <| QJ_block_ret <| QJ_then_ret <| QJ_block_ret <| QJ_then_ret <| QJ_round_ret <| QJ_block_ret <| QJ_then_ret <| QJ_scope_ret ?_
            have hE := Option.some.inj h
            replace hE := seq_inr hK20 hE.symm
            replace hE := seq_inr hK9 hE.symm
            subst hE
            exact fE (res2 Try.results13 rfl rfl) () (t0_ (t0_ (eD (eD (eD eR)))))
           ·
            replace h := ite_f hg10 h
            refine kT <| CJ_entX (Ent.transX (t0_ eR) (MirP_open (l := a45.2.1))) fun oc49 => CJ_pure (fun h hh => Rs_len (stars_perm (del2 (A := Rs (DevP bs) (a45.2.1.legs.map mlegS.dev) oc49.2.1)).out h hh)) fun hdl51 => lC del1 fun hlen52 => ?_
            rw [mk_mleg_len (by have := hdl51; simpa using this)] at hlen52
            refine lC del4 fun hlen53 => CJ_region <| oV (V_load rfl foc8 rfl Try.isAgg38) rfl <| oP (P_nilCheck rfl) rfl <| oP (P_fieldAddr rfl ⟨_, _, _, Try.runUnderlying74, rfl, rfl, Try.sizeOf3, rfl⟩) rfl <| oV (V_load rfl foc0 rfl Try.isAgg3) rfl ?_
            obtain ⟨hg11, h⟩ := grd_Ie h
            refine oP (P_add (a := a45.2.1.copied) (b := (1 : Int)) rfl rfl hg11) rfl <| oP (P_nilCheck rfl) rfl <| oP (P_fieldAddr rfl ⟨_, _, _, Try.runUnderlying74, rfl, rfl, Try.sizeOf3, rfl⟩) rfl <| oO <| O_store rfl rfl foc0 rfl rfl Try.sizeOf3 <| RJ_nil <| QJ_ent (Ent.trans eR (MirP_mk (v0 := a45.2.1.legs) (v1 := a45.2.1.log) (v2 := a45.2.1.hasLog) (v3 := a45.2.1.logState) (v4 := a45.2.1.size) (v5 := a45.2.1.region) (v6 := a45.2.1.dirty) (v7 := (a45.2.1.copied + (1 : Int))) (h0 := oc49.1) (h1 := oc49.2.1) (h2 := oc49.2.2.1) (h3 := oc49.2.2.2))) <| QJ_block_normal <| QJ_then <| CJ_seq <| sR <| oV (V_load rfl foc2 rfl Try.isAgg3) rfl <| nT <| CJ_region <| oO <| O_alloc Try.zeroValue3 rfl rfl fun b54 => oO <| O_store rfl rfl foc0 rfl rfl Try.sizeOf3 <| nT <| CJ_region <| oV (V_load rfl foc0 rfl Try.isAgg3) rfl ?_
            obtain ⟨hg12, h⟩ := grd_Ie h
            exact oP (P_add (a := x29) (b := (1 : Int)) rfl rfl hg12) rfl <| oO <| O_store rfl rfl foc0 rfl rfl Try.sizeOf3 <| RJ_nil <| nR ⟨n, { a45.2.1 with copied := (a45.2.1.copied + (1 : Int)) }, a45.2.2, (x28 - (1 : Int)), (x29 + (1 : Int)), b54⟩ h ⟨rfl, rfl, True.intro⟩ (t1_ (t1_ (t0_ (t1_ (t1_ (eD eR))))))
        ·
         replace h := ite_f hg6 h
         exact CJ_exit <| QJ_then_exit <| QJ_round_exit <| QJ_block_here <| cR (x28, x26, x27) (Option.some.inj h).symm ⟨rfl, True.intro⟩ (t0_ (t0_ (t1_ (t1_ (eD eR)))))
      ·
       rintro a25 hy55
       replace h := seq_inl hK20 hy55
       show CJ _ _ _ _ _ (([(1, .int .i64 a25.1)] : Slots) ++ forget _ _) (MirP bs bm a25.2.1 :: Arr bs a25.2.2 :: _)
       refine CJ_seq <| sR <| oV (V_load rfl foc3 rfl Try.isAgg38) rfl ?_
       obtain ⟨r56, hr57, h⟩ := bind_e h
       refine oO <| O_call (L_mirror_Mirror_others hr57) rfl Try.call41 (Dels.cons del0 (Dels.cons del0 Dels.nil)) rfl fun _ _ => oA rfl rfl <| nT <| sR <| oM rfl rfl <| oP (P_neq (a := r56.1) (b := (0 : Int)) rfl rfl) rfl <| nT <| CJ_condP rfl bT_dec (fun hg13 => ?_) (fun hg13 => ?_)
       ·
        replace h := ite_t hg13 h
        refine sR <| oM rfl rfl <| oA rfl rfl <| oA rfl rfl <| nT <| CJ_ret <| QJ_then_ret <| QJ_block_ret <| QJ_then_ret <| QJ_round_ret <| QJ_block_ret <| QJ_then_ret <| QJ_scope_ret ?_
        have hE := Option.some.inj h
        replace hE := seq_inr hK9 hE.symm
        subst hE
        exact fE (res2 Try.results13 rfl rfl) () (t0_ (t0_ (eD (eD eR))))
       ·
        replace h := ite_f hg13 h
        refine kT <| CJ_entX (Ent.transX (t0_ eR) (MirP_open (l := r56.2.1))) fun oc58 => CJ_pure (fun h hh => Rs_len (stars_perm (del2 (A := Rs (DevP bs) (r56.2.1.legs.map mlegS.dev) oc58.2.1)).out h hh)) fun hdl60 => lC del1 fun hlen61 => ?_
        rw [mk_mleg_len (by have := hdl60; simpa using this)] at hlen61
        refine lC del4 fun hlen62 => AJ_start [blk bm 74 [(Sl3.v oc58.1), oval r56.2.1.log oc58.2.2.1, .bool r56.2.1.hasLog, .int .i64 r56.2.1.logState, .int .i64 r56.2.1.size, .int .i64 r56.2.1.region, (Sl3.v oc58.2.2.2), .int .i64 r56.2.1.copied], sl tymlegH (Sl3.v oc58.1) (mk_mleg r56.2.1.legs oc58.2.1), Rs (DevP bs) (r56.2.1.legs.map mlegS.dev) oc58.2.1, optP (LogP bs oc58.2.2.1) r56.2.1.log, Arr bs r56.2.2, sl tyI X6.v r4, blk b1 38 [ptr bm 0]] 1024 (by kernel_rfl) rfl <| aV 0 1 rfl rfl (GY_none rfl) (t0_ (t0_ (t0_ (t0_ (t1_ (t1_ (t1_ Ent.done))))))) (V_load rfl foc6 rfl Try.isAgg38) rfl <| aN 1 3 rfl rfl (P_nilCheck rfl) rfl <| aN 2 7 rfl rfl (P_fieldAddr rfl ⟨_, _, _, Try.runUnderlying74, rfl, rfl, Try.sizeOf31, rfl⟩) rfl <| aV 3 15 rfl rfl (GY_none rfl) (t0_ (t0_ (t0_ (t0_ (t1_ (t1_ (t1_ Ent.done))))))) (V_load rfl foc0 rfl Try.isAgg31) rfl <| aN 4 31 rfl rfl (P_move rfl) rfl <| aV 5 63 rfl rfl (GY_none rfl) (t0_ (t0_ (t0_ (t0_ (t1_ (t1_ (t1_ Ent.done))))))) (V_load rfl foc6 rfl Try.isAgg38) rfl ?_
        obtain ⟨hg14, h⟩ := grd_de h
        refine AJ_op 6 127 rfl (by kernel_rfl) rfl (GY_none rfl) <| OJ_V (V_index (i := ((r4.getD x17 0)).toNat) rfl rfl (Int.toNat_of_nonneg (hg14.1)).symm (by omega) foc4 (Reads.sl _ _ _) Try.runUnderlying31 Try.sizeOf4) rfl <| ⟨fun _ => (t0_ (t0_ (t0_ (t0_ (t1_ (t1_ (t1_ Ent.done))))))), ?_⟩
        refine AJ_op 7 255 rfl (by kernel_rfl) rfl (GY_none rfl) <| O_storeE (x' := false) rfl rfl rfl (by omega) foc4 rfl rfl rfl Try.sizeOf4 <| ⟨fun _ => (t0_ (t0_ (t0_ (t0_ (t1_ (t1_ (t1_ Ent.done))))))), ?_⟩
        refine aN 8 511 rfl rfl (P_nilCheck rfl) rfl <| aN 9 1023 rfl rfl (P_fieldAddr rfl ⟨_, _, _, Try.runUnderlying74, rfl, rfl, Try.sizeOf3, rfl⟩) rfl <| AJ_op 10 2047 rfl (by kernel_rfl) rfl (GY_none rfl) <| O_store rfl rfl foc0 rfl rfl Try.sizeOf3 <| ⟨fun h => absurd h (by decide), ?_⟩
        refine AJ_done (by kernel_rfl) <| QJ_ent (Ent.trans eR (MirP_mk (v0 := r56.2.1.legs) (v1 := r56.2.1.log) (v2 := r56.2.1.hasLog) (v3 := r56.2.1.logState) (v4 := r56.2.1.size) (v5 := r56.2.1.region) (v6 := (r56.2.1.dirty.set (((r4.getD x17 0)).toNat) false)) (v7 := (0 : Int)) (h0 := oc58.1) (h1 := oc58.2.1) (h2 := oc58.2.2.1) (h3 := oc58.2.2.2))) <| QJ_block_normal <| QJ_then <| CJ_region ?_
        obtain ⟨hg15, h⟩ := grd_Ne h
        exact oP (PJ_eq (P_add (a := ((x17 : Nat) : Int)) (b := (1 : Int)) rfl rfl (nat_in hg15)) rfl) rfl <| oM rfl rfl <| RJ_nil <| nR ⟨n, { r56.2.1 with dirty := (r56.2.1.dirty.set (((r4.getD x17 0)).toNat) false), copied := (0 : Int) }, r56.2.2, a25.1, (x17 + 1)⟩ h ⟨rfl, rfl, True.intro⟩ eR
     ·
      replace h := ite_f hg3 h
      exact CJ_exit <| QJ_then_exit <| QJ_round_exit <| QJ_block_here <| cR (x14, x15) (Option.some.inj h).symm True.intro eR
   ·
    rintro a13 hy63
    replace h := seq_inl hK9 hy63
    show CJ _ _ _ _ _ (([] : Slots) ++ forget _ _) (MirP bs bm a13.1 :: Arr bs a13.2 :: _)
    refine sR <| oV (V_load rfl foc3 rfl Try.isAgg38) rfl ?_
    obtain ⟨r64, hr65, h⟩ := bind_e h
    refine oO <| O_call (L_mirror_Mirror_rest hr65) rfl Try.call42 (Dels.cons del0 (Dels.cons del0 Dels.nil)) rfl fun _ _ => oA rfl rfl <| oA rfl rfl <| nT <| CJ_ret <| QJ_scope_ret ?_
    cases h
    exact fE (res2 Try.results13 rfl rfl) () (t0_ (t0_ (eD (eD eR))))
def mirror_Mirror_filling (m : MirS) (k : Int) (s : ArrS) : Option (Int) :=
  if (((k < (0 : Int)) ∨ (((m.legs.length : Nat) : Int) < k)) ∨ ((k = ((m.legs.length : Nat) : Int)) ∧ (¬ m.hasLog = true))) then
    some (1 : Int)
  else
    Option.bind (mirror_Mirror_result m s) fun r53 =>
    if (r53 ≠ (0 : Int)) then
      some (18 : Int)
    else
      if ((k = ((m.legs.length : Nat) : Int)) ∨ ((m.legs.getD ((k).toNat) mleg_x0).state ≠ (2 : Int))) then
        some (20 : Int)
      else
        some (0 : Int)
theorem L_mirror_Mirror_filling {W : World} {bm : Nat} {bs : Nat} {m : MirS} {k : Int} {s : ArrS} {r : Int} (h : mirror_Mirror_filling m k s = some r) :
    CSpec Try.prog W 43 [ptr bm 0, .int .i64 k] [MirP bs bm m, Arr bs s] (fun x : Unit => .int .i64 r) (fun _ => True) (fun x F => MirP bs bm m :: Arr bs s :: F) := by
 refine CSpec.of_body Try.func43 rfl Try.ntmps43 rfl fun F => ?_
 show CJ _ _ _ _ _ _ (_ :: _ :: F)
 unfold mirror_Mirror_filling at h
 refine sR <| oA rfl rfl <| nT <| CJ_seq <| CJ_block <| CJ_seq <| CJ_entX (Ent.transX (t0_ eR) (MirP_open (l := m))) fun oc1 => CJ_pure (fun h hh => Rs_len (stars_perm (del2 (A := Rs (DevP bs) (m.legs.map mlegS.dev) oc1.2.1)).out h hh)) fun hdl3 => lC del1 fun hlen4 => ?_
 rw [mk_mleg_len (by have := hdl3; simpa using this)] at hlen4
 refine lC del4 fun hlen5 => CJ_region <| oM rfl rfl <| oP (P_lss (a := k) (b := (0 : Int)) rfl rfl) rfl <| oM rfl rfl <| RJ_mbF rfl rfl rfl (fun hG6 => have hP7 : ¬ (k < (0 : Int)) := nP (bT_dec) hG6; VJ_P (P_move rfl)) <| RJ_mbF rfl rfl rfl (fun hG8 => have hP9 : ¬ (k < (0 : Int)) := nP (bT_dec) hG8; VJ_P (P_move rfl)) <| RJ_mbF rfl rfl rfl (fun hG10 => have hP11 : ¬ (k < (0 : Int)) := nP (bT_dec) hG10; VJ_P (P_nilCheck (mbx hG10 rfl))) <| RJ_mbF rfl rfl rfl (fun hG12 => have hP13 : ¬ (k < (0 : Int)) := nP (bT_dec) hG12; VJ_P (P_fieldAddr (mbx hG12 rfl) ⟨_, _, _, Try.runUnderlying74, rfl, rfl, Try.sizeOf70, rfl⟩)) <| RJ_mbF rfl rfl rfl (fun hG14 => have hP15 : ¬ (k < (0 : Int)) := nP (bT_dec) hG14; V_load (mbx hG14 rfl) foc0 rfl Try.isAgg70) <| RJ_mbF rfl rfl rfl (fun hG16 => have hP17 : ¬ (k < (0 : Int)) := nP (bT_dec) hG16; VJ_eq (V_len (mbx hG16 rfl) foc1 (Reads.sl _ _ _) Try.runUnderlying70) (congrArg (fun z : Nat => Value.int .i64 (z : Int)) (mk_mleg_len (by have := hdl3; simpa using this)).symm)) <| RJ_mbF rfl rfl rfl (fun hG18 => have hP19 : ¬ (k < (0 : Int)) := nP (bT_dec) hG18; VJ_P (P_gtr (a := k) (b := ((m.legs.length : Nat) : Int)) (mbx hG18 rfl) (mbx hG18 rfl))) <| oP (P_pickOr rfl rfl (fun hh => mbx (not_f hh) rfl)) rfl <| oM rfl rfl <| RJ_mbF rfl rfl rfl (fun hG20 => have hP21 : ¬ ((k < (0 : Int)) ∨ (((m.legs.length : Nat) : Int) < k)) := nP ((bT_or bT_dec bT_dec)) hG20; VJ_P (P_move rfl)) ?_
 refine RJ_mbF rfl rfl rfl (fun hG22 => have hP23 : ¬ ((k < (0 : Int)) ∨ (((m.legs.length : Nat) : Int) < k)) := nP ((bT_or bT_dec bT_dec)) hG22; VJ_P (P_move rfl)) <| RJ_mbF rfl rfl rfl (fun hG24 => have hP25 : ¬ ((k < (0 : Int)) ∨ (((m.legs.length : Nat) : Int) < k)) := nP ((bT_or bT_dec bT_dec)) hG24; VJ_P (P_nilCheck (mbx hG24 rfl))) <| RJ_mbF rfl rfl rfl (fun hG26 => have hP27 : ¬ ((k < (0 : Int)) ∨ (((m.legs.length : Nat) : Int) < k)) := nP ((bT_or bT_dec bT_dec)) hG26; VJ_P (P_fieldAddr (mbx hG26 rfl) ⟨_, _, _, Try.runUnderlying74, rfl, rfl, Try.sizeOf70, rfl⟩)) <| RJ_mbF rfl rfl rfl (fun hG28 => have hP29 : ¬ ((k < (0 : Int)) ∨ (((m.legs.length : Nat) : Int) < k)) := nP ((bT_or bT_dec bT_dec)) hG28; V_load (mbx hG28 rfl) foc0 rfl Try.isAgg70) <| RJ_mbF rfl rfl rfl (fun hG30 => have hP31 : ¬ ((k < (0 : Int)) ∨ (((m.legs.length : Nat) : Int) < k)) := nP ((bT_or bT_dec bT_dec)) hG30; VJ_eq (V_len (mbx hG30 rfl) foc1 (Reads.sl _ _ _) Try.runUnderlying70) (congrArg (fun z : Nat => Value.int .i64 (z : Int)) (mk_mleg_len (by have := hdl3; simpa using this)).symm)) <| RJ_mbF rfl rfl rfl (fun hG32 => have hP33 : ¬ ((k < (0 : Int)) ∨ (((m.legs.length : Nat) : Int) < k)) := nP ((bT_or bT_dec bT_dec)) hG32; VJ_P (P_eql (a := k) (b := ((m.legs.length : Nat) : Int)) (mbx hG32 rfl) (mbx hG32 rfl))) <| RJ_mbF rfl rfl rfl (fun hG34 => have hP35 : ¬ ((k < (0 : Int)) ∨ (((m.legs.length : Nat) : Int) < k)) := nP ((bT_or bT_dec bT_dec)) hG34; VJ_P (P_move (mbx hG34 rfl))) ?_
 refine RJ_mbGT rfl rfl rfl (fun hG36 => have hP37 : ¬ ((k < (0 : Int)) ∨ (((m.legs.length : Nat) : Int) < k)) := nP ((bT_or bT_dec bT_dec)) (and_l hG36); have hP38 : (k = ((m.legs.length : Nat) : Int)) := (bT_dec).1 (and_r hG36); VJ_P (P_move rfl)) <| RJ_mbGT rfl rfl rfl (fun hG39 => have hP40 : ¬ ((k < (0 : Int)) ∨ (((m.legs.length : Nat) : Int) < k)) := nP ((bT_or bT_dec bT_dec)) (and_l hG39); have hP41 : (k = ((m.legs.length : Nat) : Int)) := (bT_dec).1 (and_r hG39); VJ_P (P_nilCheck (mbx hG39 rfl))) <| RJ_mbGT rfl rfl rfl (fun hG42 => have hP43 : ¬ ((k < (0 : Int)) ∨ (((m.legs.length : Nat) : Int) < k)) := nP ((bT_or bT_dec bT_dec)) (and_l hG42); have hP44 : (k = ((m.legs.length : Nat) : Int)) := (bT_dec).1 (and_r hG42); VJ_P (P_fieldAddr (mbx hG42 rfl) ⟨_, _, _, Try.runUnderlying74, rfl, rfl, Try.sizeOf4, rfl⟩)) <| RJ_mbGT rfl rfl rfl (fun hG45 => have hP46 : ¬ ((k < (0 : Int)) ∨ (((m.legs.length : Nat) : Int) < k)) := nP ((bT_or bT_dec bT_dec)) (and_l hG45); have hP47 : (k = ((m.legs.length : Nat) : Int)) := (bT_dec).1 (and_r hG45); V_load (mbx hG45 rfl) foc0 rfl Try.isAgg4) <| RJ_mbGT rfl rfl rfl (fun hG48 => have hP49 : ¬ ((k < (0 : Int)) ∨ (((m.legs.length : Nat) : Int) < k)) := nP ((bT_or bT_dec bT_dec)) (and_l hG48); have hP50 : (k = ((m.legs.length : Nat) : Int)) := (bT_dec).1 (and_r hG48); VJ_P (P_not (mbx hG48 rfl))) ?_
 refine RJ_mbF rfl rfl rfl (fun hG51 => have hP52 : ¬ ((k < (0 : Int)) ∨ (((m.legs.length : Nat) : Int) < k)) := nP ((bT_or bT_dec bT_dec)) hG51; VJ_P (P_pickAnd (mbx hG51 rfl) (fun hh => mbx (and_i hG51 hh) rfl) rfl)) <| oP (P_pickOr rfl rfl (fun hh => mbx (not_f hh) rfl)) rfl <| oA rfl rfl <| RJ_nil <| QJ_ent (Ent.trans eR (MirP_mk (v0 := m.legs) (v1 := m.log) (v2 := m.hasLog) (v3 := m.logState) (v4 := m.size) (v5 := m.region) (v6 := m.dirty) (v7 := m.copied) (h0 := oc1.1) (h1 := oc1.2.1) (h2 := oc1.2.2.1) (h3 := oc1.2.2.2))) <| QJ_then <| CJ_condP rfl (bT_or (bT_or bT_dec bT_dec) (bT_and bT_dec (bT_not Iff.rfl))) (fun hg1 => ?_) (fun hg1 => ?_)
 ·
  replace h := ite_t hg1 h
  refine sR <| oA rfl rfl <| nT <| CJ_ret <| QJ_block_ret <| QJ_then_ret ?_
  cases h
  exact fE (res1 Try.results43 rfl) () eR
 ·
  replace h := ite_f hg1 h
  refine sR <| oM rfl rfl ?_
  obtain ⟨r53, hr54, h⟩ := bind_e h
  refine oO <| O_call (L_mirror_Mirror_result hr54) rfl Try.call31 (Dels.cons del0 (Dels.cons del0 Dels.nil)) rfl fun _ _ => oP (P_neq (a := r53) (b := (0 : Int)) rfl rfl) rfl <| oA rfl rfl <| nT <| CJ_condP rfl bT_dec (fun hg2 => ?_) (fun hg2 => ?_)
  ·
   replace h := ite_t hg2 h
   refine sR <| oA rfl rfl <| nT <| CJ_ret <| QJ_block_ret <| QJ_then_ret ?_
   cases h
   exact fE (res1 Try.results43 rfl) () eR
  ·
   replace h := ite_f hg2 h
   refine CJ_seq <| CJ_entX (Ent.transX (t0_ eR) (MirP_open (l := m))) fun oc55 => CJ_pure (fun h hh => Rs_len (stars_perm (del2 (A := Rs (DevP bs) (m.legs.map mlegS.dev) oc55.2.1)).out h hh)) fun hdl57 => lC del1 fun hlen58 => ?_
   rw [mk_mleg_len (by have := hdl57; simpa using this)] at hlen58
   refine lC del4 fun hlen59 => CJ_region <| oM rfl rfl <| oM rfl rfl <| oP (P_nilCheck rfl) rfl <| oP (P_fieldAddr rfl ⟨_, _, _, Try.runUnderlying74, rfl, rfl, Try.sizeOf70, rfl⟩) rfl <| oV (V_load rfl foc0 rfl Try.isAgg70) rfl <| oV (VJ_eq (V_len rfl foc1 (Reads.sl _ _ _) Try.runUnderlying70) (congrArg (fun z : Nat => Value.int .i64 (z : Int)) (mk_mleg_len (by have := hdl57; simpa using this)).symm)) rfl <| oP (P_eql (a := k) (b := ((m.legs.length : Nat) : Int)) rfl rfl) rfl <| oM rfl rfl <| RJ_mbF rfl rfl rfl (fun hG60 => have hP61 : ¬ (k = ((m.legs.length : Nat) : Int)) := nP (bT_dec) hG60; VJ_P (P_move rfl)) <| RJ_mbF rfl rfl rfl (fun hG62 => have hP63 : ¬ (k = ((m.legs.length : Nat) : Int)) := nP (bT_dec) hG62; VJ_P (P_nilCheck (mbx hG62 rfl))) <| RJ_mbF rfl rfl rfl (fun hG64 => have hP65 : ¬ (k = ((m.legs.length : Nat) : Int)) := nP (bT_dec) hG64; VJ_P (P_fieldAddr (mbx hG64 rfl) ⟨_, _, _, Try.runUnderlying74, rfl, rfl, Try.sizeOf70, rfl⟩)) <| RJ_mbF rfl rfl rfl (fun hG66 => have hP67 : ¬ (k = ((m.legs.length : Nat) : Int)) := nP (bT_dec) hG66; V_load (mbx hG66 rfl) foc0 rfl Try.isAgg70) <| RJ_mbF rfl rfl rfl (fun hG68 => have hP69 : ¬ (k = ((m.legs.length : Nat) : Int)) := nP (bT_dec) hG68; VJ_P (P_move rfl)) ?_
   refine RJ_mbF rfl rfl rfl (fun hG70 => have hP71 : ¬ (k = ((m.legs.length : Nat) : Int)) := nP (bT_dec) hG70; V_index (i := (k).toNat) (mbx hG70 rfl) (mbx hG70 rfl) (Int.toNat_of_nonneg (by omega)).symm (show (k).toNat < (mk_mleg m.legs oc55.2.1).length by rw [mk_mleg_len (by have := hdl57; simpa using this)]; exact (by omega)) foc1 (Reads.sl _ _ _) Try.runUnderlying70 Try.sizeOf83) <| RJ_mbF rfl rfl rfl (fun hG72 => have hP73 : ¬ (k = ((m.legs.length : Nat) : Int)) := nP (bT_dec) hG72; VJ_P (P_fieldE (mbx hG72 rfl) ⟨_, _, _, Try.runUnderlying83, rfl, rfl, Try.sizeOf72, rfl⟩)) <| RJ_mbF rfl rfl rfl (fun hG74 => have hP75 : ¬ (k = ((m.legs.length : Nat) : Int)) := nP (bT_dec) hG74; VJ_eq (V_loadE (mbx hG74 rfl) rfl (show (k).toNat < (mk_mleg m.legs oc55.2.1).length by rw [mk_mleg_len (by have := hdl57; simpa using this)]; exact (by omega)) foc1 (Reads.sl _ _ _) rfl rfl Try.isAgg72) (show (.int .i64 ((m.legs.getD ((k).toNat) mleg_x0).state) : Value) = .int .i64 ((mk_mleg m.legs oc55.2.1).getD ((k).toNat) mleg_h0).state from by rw [mk_mleg_at (by have := hdl57; simpa using this)])) <| RJ_mbF rfl rfl rfl (fun hG76 => have hP77 : ¬ (k = ((m.legs.length : Nat) : Int)) := nP (bT_dec) hG76; VJ_P (P_neq (a := (m.legs.getD ((k).toNat) mleg_x0).state) (b := (2 : Int)) (mbx hG76 rfl) rfl)) <| oP (P_pickOr rfl rfl (fun hh => mbx (not_f hh) rfl)) rfl <| oA rfl rfl <| RJ_nil ?_
   refine QJ_ent (Ent.trans eR (MirP_mk (v0 := m.legs) (v1 := m.log) (v2 := m.hasLog) (v3 := m.logState) (v4 := m.size) (v5 := m.region) (v6 := m.dirty) (v7 := m.copied) (h0 := oc55.1) (h1 := oc55.2.1) (h2 := oc55.2.2.1) (h3 := oc55.2.2.2))) <| QJ_then <| CJ_condP rfl (bT_or bT_dec bT_dec) (fun hg3 => ?_) (fun hg3 => ?_)
   ·
    replace h := ite_t hg3 h
    refine sR <| oA rfl rfl <| nT <| CJ_ret <| QJ_block_ret <| QJ_then_ret ?_
    cases h
    exact fE (res1 Try.results43 rfl) () eR
   ·
    replace h := ite_f hg3 h
    refine CJ_skip <| QJ_block_normal <| QJ_then <| sR <| oA rfl rfl <| nT <| CJ_ret ?_
    cases h
    exact fE (res1 Try.results43 rfl) () eR
end Go.Proofs
namespace Go.Proofs
open Go.VG
structure MC where
  L : Nat
  sz : Nat
  rg : Nat
  lg : Bool
  hL : 2 ≤ L ∧ L ≤ 3
  hs : 1 ≤ sz ∧ sz ≤ 12
  hr : 1 ≤ rg ∧ rg ≤ 65536
def MC.ns (C : MC) : List Nat := List.replicate C.L C.sz ++ [3]
def MC.R (C : MC) : Nat := (C.sz - 1) / C.rg + 1
section
variable {C : MC} {K a i : Nat} {s : ArrS} {v : UInt64}
theorem MC.len : C.ns.length = C.L + 1 := by simp [MC.ns]
theorem MC.leg (h : i < C.L) : C.ns.getD i 0 = C.sz := by
  unfold MC.ns
  simp only [List.getD, List.getElem?_append, List.length_replicate, h, if_true, List.getElem?_replicate]; rfl
theorem MC.log : C.ns.getD C.L 0 = 3 := by
  unfold MC.ns
  simp [List.getD, List.getElem?_append]
theorem MC.hR : 1 ≤ C.R ∧ C.R ≤ 12 := by
  have h1 := C.hs
  have h2 : (C.sz - 1) / C.rg ≤ C.sz - 1 := Nat.div_le_self _ _
  unfold MC.R
  generalize (C.sz - 1) / C.rg = q at h2
  omega
theorem MC.reg (h : a < C.sz) : a / C.rg < C.R := by
  have h2 : a / C.rg ≤ (C.sz - 1) / C.rg := Nat.div_le_div_right (by omega)
  unfold MC.R
  exact Nat.lt_succ_of_le h2
theorem ArrOk.fzM (h : ArrOk C.ns K s) (hdn : s.down = false) (hi : i < C.ns.length) (ha : a < C.ns.getD i 0) (hm : miss s i = true) : wrC s i a = 6 ∧ flC s i = 6 := by
  obtain ⟨h1, h2, h3, h4, h5⟩ := h.chk hdn hi ha
  rw [hm] at h4
  exact ⟨by simp [wrC, fz, h1, h2, h3, h4], by simp [flC, fz, h1, h2, h4]⟩
theorem leg_rd (h : ArrOk C.ns K s) (hdn : s.down = false) (hi : i < C.L) (ha : a < C.sz) (hm : miss s i = false) : (xL i C.sz).rd s (a : Int) = some (now s i a, 0) :=
  log_rd (by rw [MC.len]; omega) (MC.leg hi) (by have := C.hs; omega) h hdn hm ha
theorem leg_rdM (h : ArrOk C.ns K s) (hdn : s.down = false) (hi : i < C.L) (ha : a < C.sz) (hm : miss s i = true) : ∃ w, (xL i C.sz).rd s (a : Int) = some (w, 6) := by
  have h1 := h.rdM (d := i) (a := a) hdn (by rw [MC.len]; omega) (by rw [MC.leg hi]; exact ha) hm
  have h2 := C.hs
  rw [span_rd (by omega) (by omega), if_pos (by omega)]
  have e : ((0 : Nat) : Int) + (a : Int) = ((a : Nat) : Int) := by omega
  rw [e, h1]; exact ⟨_, rfl⟩
theorem leg_wr (h : ArrOk C.ns K s) (hK : K ≤ 1000000) (hi : i < C.L) (ha : a < C.sz) : (xL i C.sz).wr s (a : Int) v = some (wrR s i a, wrS s i a v) :=
  log_wr (by rw [MC.len]; omega) (MC.leg hi) (by have := C.hs; omega) h hK ha
theorem leg_fl (h : ArrOk C.ns K s) (hK : K ≤ 1000000) (hi : i < C.L) : (xL i C.sz).fl s = some (flC s i, flS s i) :=
  log_fl (by rw [MC.len]; omega) (MC.leg hi) (by have := C.hs; omega) h hK
theorem leg_flM (h : ArrOk C.ns K s) (hdn : s.down = false) (hK : K ≤ 1000000) (hi : i < C.L) (hm : miss s i = true) : (xL i C.sz).fl s = some (6, s) := by
  have h1 := (h.fzM hdn (by rw [MC.len]; omega : i < C.ns.length) (a := 0) (by rw [MC.leg hi]; have := C.hs; omega) hm).2
  rw [leg_fl h hK hi, h1, flS_bad (by rw [h1]; decide)]
end
def failM (m : MirS) (i : Nat) : MirS := { m with legs := m.legs.set i { m.legs.getD i mleg_x0 with state := 1 } }
abbrev stM (m : MirS) (i : Nat) : Int := (m.legs.getD i mleg_x0).state
section
variable {m : MirS} {s : ArrS} {i j : Nat} {e : Int}
theorem getD_setM {l : List mlegS} {i j : Nat} {x : mlegS} (h : i < l.length) : (l.set i x).getD j mleg_x0 = if j = i then x else l.getD j mleg_x0 := by
  simp only [List.getD, List.getElem?_set]
  by_cases e : i = j
  · subst e; simp [h]
  · rw [if_neg e, if_neg (fun x => e x.symm)]
theorem failM_len : (failM m i).legs.length = m.legs.length := by simp [failM]
theorem failM_at (h : i < m.legs.length) : (failM m i).legs.getD j mleg_x0 = if j = i then { m.legs.getD i mleg_x0 with state := 1 } else m.legs.getD j mleg_x0 := getD_setM h
theorem note_ok (h : e = 0 ∨ e = 5) {k : Int} : mirror_Mirror_note m k e s = some (e, m) := by unfold mirror_Mirror_note; rw [if_pos h]
theorem note_leg (h0 : e ≠ 0) (h5 : e ≠ 5) (hi : i < m.legs.length) (hst : stM m i = 0) : mirror_Mirror_note m ((i : Nat) : Int) e s = some (0, failM m i) := by
  unfold mirror_Mirror_note
  have hg : decide (0 ≤ ((i : Nat) : Int) ∧ ((i : Nat) : Int) < (m.legs.length : Int)) = true := decide_eq_true ⟨by omega, by omega⟩
  rw [if_neg (by rintro (h | h); exact h0 h; exact h5 h), if_neg (by omega), grd_t hg, grd_t hg, Int.toNat_natCast]
  unfold stM at hst
  rw [if_neg (by rw [hst]; decide), grd_t hg]; rfl
def failsL (m : MirS) (n : Nat) : List Int := ((List.range n).filter fun i => decide (stM m i = 1)).map fun i => ((i : Nat) : Int)
def failedL (m : MirS) : List Int := failsL m m.legs.length ++ if m.hasLog = true ∧ m.logState = 1 then [((m.legs.length : Nat) : Int)] else []
theorem failsL_succ {n : Nat} : failsL m (n + 1) = failsL m n ++ if stM m n = 1 then [((n : Nat) : Int)] else [] := by
  unfold failsL
  rw [List.range_succ, List.filter_append, List.map_append]
  congr 1
  by_cases h : stM m n = 1 <;> simp [h]
theorem failsL_le {n : Nat} : (failsL m n).length ≤ n := by
  unfold failsL
  rw [List.length_map]
  exact Nat.le_trans (List.length_filter_le _ _) (by simp)
theorem failed_l1 (hl : m.legs.length ≤ 6) : ∀ (N i : Nat), m.legs.length - i < N → i ≤ m.legs.length → mirror_Mirror_Failed_l1 m N i (failsL m i) = some (failsL m m.legs.length)
  | 0, _, h, _ => absurd h (by omega)
  | N + 1, i, h, hi => by
    show mirror_Mirror_Failed_l1_b _ _ _ _ = _
    unfold mirror_Mirror_Failed_l1_b
    by_cases hlt : i < m.legs.length
    · have hrec := failed_l1 hl N (i + 1) (by omega) (by omega)
      rw [failsL_succ] at hrec
      have hle := @failsL_le m i
      rw [if_pos (by omega)]
      by_cases hb : stM m i = 1
      · rw [if_pos hb] at hrec
        rw [if_pos hb, grd_t (inLen_of (by omega)), hrec]
      · rw [if_neg hb, List.append_nil] at hrec
        rw [if_neg hb, hrec]
    · rw [if_neg (by omega)]
      have : i = m.legs.length := by omega
      rw [this]
theorem failed_eq (hl : m.legs.length ≤ 6) : mirror_Mirror_Failed m s = some (failedL m) := by
  unfold mirror_Mirror_Failed
  have hF := fuel_big
  have h := failed_l1 hl FUEL 0 (by omega) (by omega)
  have e : failsL m 0 = [] := rfl
  rw [e] at h
  rw [h]; simp only [Option.bind_some]
  have hle := @failsL_le m m.legs.length
  unfold failedL
  split
  · rw [grd_t (inLen_of (by omega))]
  · rw [List.append_nil]
theorem mem_failedL {k : Int} : k ∈ failedL m ↔ (∃ i : Nat, i < m.legs.length ∧ stM m i = 1 ∧ k = i) ∨ (m.hasLog = true ∧ m.logState = 1 ∧ k = m.legs.length) := by
  unfold failedL failsL
  rw [List.mem_append, List.mem_map]
  constructor
  · rintro (⟨i, hi, rfl⟩ | h)
    · rw [List.mem_filter, List.mem_range] at hi
      exact .inl ⟨i, hi.1, of_decide_eq_true hi.2, rfl⟩
    · split at h
      · rename_i h1; exact .inr ⟨h1.1, h1.2, List.mem_singleton.1 h⟩
      · cases h
  · rintro (⟨i, hi, h1, rfl⟩ | ⟨h1, h2, rfl⟩)
    · exact .inl ⟨i, List.mem_filter.2 ⟨List.mem_range.2 hi, decide_eq_true h1⟩, rfl⟩
    · rw [if_pos ⟨h1, h2⟩]; exact .inr (List.mem_singleton.2 rfl)
structure NF (m : MirS) : Prop where
  leg : ∀ i, i < m.legs.length → stM m i ≠ 1
  log : ¬ (m.hasLog = true ∧ m.logState = 1)
theorem nf_iff : failedL m = [] ↔ NF m := by
  constructor
  · intro h
    refine ⟨fun i hi h1 => ?_, fun h1 => ?_⟩
    · have := mem_failedL.2 (.inl ⟨i, hi, h1, rfl⟩ : (∃ i' : Nat, i' < m.legs.length ∧ stM m i' = 1 ∧ ((i : Nat) : Int) = i') ∨ _)
      rw [h] at this; cases this
    · have := (mem_failedL (m := m)).2 (.inr ⟨h1.1, h1.2, rfl⟩)
      rw [h] at this; cases this
  · intro h
    rw [List.eq_nil_iff_forall_not_mem]
    intro k hk
    rcases mem_failedL.1 hk with ⟨i, hi, h1, -⟩ | ⟨h1, h2, -⟩
    · exact h.leg i hi h1
    · exact h.log ⟨h1, h2⟩
theorem result_eq (hl : m.legs.length ≤ 6) : (NF m → mirror_Mirror_result m s = some 0) ∧ (¬ NF m → mirror_Mirror_result m s = some 18) := by
  unfold mirror_Mirror_result
  rw [failed_eq hl]; simp only [Option.bind_some]
  refine ⟨fun h => ?_, fun h => ?_⟩
  · rw [nf_iff.2 h, if_neg (by simp)]
  · rw [if_pos]
    rw [← nf_iff] at h
    have := List.length_pos_iff.2 h
    omega
end
def eachB (L : Nat) (ch : Nat → Option Bool) (act : Nat → MirS → ArrS → Option (Int × ArrS)) (rec : MirS → ArrS → Nat → Option ((MirS × ArrS) ⊕ (Int × MirS × ArrS))) (x : MirS) (y : ArrS) (i : Nat) : Option ((MirS × ArrS) ⊕ (Int × MirS × ArrS)) :=
  if (((i : Nat) : Int) < ((L : Nat) : Int)) then
    grd (decide (i < x.legs.length)) <|
    if ((x.legs.getD i mleg_x0).state = (0 : Int)) then
      Option.bind (ch i) fun r20 =>
      if r20 = true then
        Option.bind (act i x y) fun r22 =>
        Option.bind (mirror_Mirror_note x (((i : Nat) : Int)) r22.1 r22.2) fun r24 =>
        if (r24.1 ≠ (0 : Int)) then
          some (.inr (r24.1, r24.2, r22.2))
        else
          rec r24.2 r22.2 (i + 1)
      else
        rec x y (i + 1)
    else
      rec x y (i + 1)
  else
    some (.inl (x, y))
theorem each_rule {L : Nat} {ch : Nat → Option Bool} {act : Nat → MirS → ArrS → Option (Int × ArrS)} {f : Nat → MirS → ArrS → Nat → Option ((MirS × ArrS) ⊕ (Int × MirS × ArrS))} (hf : ∀ n x y i, f (n + 1) x y i = eachB L ch act (f n) x y i) {c : Nat → Bool} (hc : ∀ i, i < L → ch i = some (c i))
    (P : Nat → MirS → ArrS → Prop) (Q : MirS → ArrS → Prop) (hlen : ∀ i x y, P i x y → x.legs.length = L)
    (hstep : ∀ i x y, i < L → P i x y → stM x i = 0 → c i = true → ∃ e y', act i x y = some (e, y') ∧ (e = 0 ∧ P (i + 1) x y' ∨ e = 5 ∧ Q x y' ∨ e ≠ 0 ∧ e ≠ 5 ∧ P (i + 1) (failM x i) y'))
    (hskip : ∀ i x y, i < L → P i x y → (stM x i ≠ 0 ∨ c i = false) → P (i + 1) x y) :
    ∀ (N i : Nat) (x : MirS) (y : ArrS), L - i < N → i ≤ L → P i x y → (∃ x' y', f N x y i = some (.inl (x', y')) ∧ P L x' y') ∨ (∃ x' y', f N x y i = some (.inr (5, x', y')) ∧ Q x' y')
  | 0, _, _, _, h, _, _ => absurd h (by omega)
  | N + 1, i, x, y, h, hi, hp => by
    have hrec := fun x y (hlt : i < L) => each_rule hf hc P Q hlen hstep hskip N (i + 1) x y (by omega) (by omega)
    rw [hf]
    unfold eachB
    by_cases hlt : i < L
    · rw [if_pos (by omega), grd_t (decide_eq_true (by rw [hlen _ _ _ hp]; exact hlt))]
      by_cases hst : stM x i = 0
      · rw [if_pos hst, hc i hlt]; simp only [Option.bind_some]
        by_cases hci : c i = true
        · rw [if_pos hci]
          obtain ⟨e, y', h1, h2⟩ := hstep i x y hlt hp hst hci
          rw [h1]; simp only [Option.bind_some]
          rcases h2 with ⟨rfl, h2⟩ | ⟨rfl, h2⟩ | ⟨h3, h4, h2⟩
          · rw [note_ok (.inl rfl)]; simp only [Option.bind_some]
            rw [if_neg (by decide)]; exact hrec _ _ hlt h2
          · rw [note_ok (.inr rfl)]; simp only [Option.bind_some]
            rw [if_pos (by decide)]; exact .inr ⟨_, _, rfl, h2⟩
          · rw [note_leg h3 h4 (by rw [hlen _ _ _ hp]; exact hlt) hst]; simp only [Option.bind_some]
            rw [if_neg (by decide)]; exact hrec _ _ hlt h2
        · rw [if_neg hci]; exact hrec _ _ hlt (hskip i x y hlt hp (.inr (by simpa using hci)))
      · rw [if_neg hst]; exact hrec _ _ hlt (hskip i x y hlt hp (.inl hst))
    · rw [if_neg (by omega)]
      have : i = L := by omega
      subst this
      exact .inl ⟨_, _, rfl, hp⟩
structure Fd (s : ArrS) (m m' : MirS) (i : Nat) : Prop where
  len : m'.legs.length = m.legs.length
  leg : ∀ j, j < m.legs.length → (m'.legs.getD j mleg_x0).dev = (m.legs.getD j mleg_x0).dev ∧ (m'.legs.getD j mleg_x0).copied = (m.legs.getD j mleg_x0).copied ∧ (stM m' j = stM m j ∨ stM m j = 0 ∧ miss s j = true ∧ stM m' j = 1)
  oth : m' = { m with legs := m'.legs }
section
variable {s t : ArrS} {m m' : MirS} {i : Nat}
theorem Fd.refl : Fd s m m i := ⟨rfl, fun _ _ => ⟨rfl, rfl, .inl rfl⟩, rfl⟩
theorem Fd.to {k : Nat} (h : Fd s m m' i) : Fd s m m' k := ⟨h.len, h.leg, h.oth⟩
theorem Fd.arr (h : Fd s m m' i) (ht : ∀ e, miss t e = miss s e) : Fd t m m' i := ⟨h.len, fun j hj => ⟨(h.leg j hj).1, (h.leg j hj).2.1, by rw [ht]; exact (h.leg j hj).2.2⟩, h.oth⟩
theorem Fd.fail {k : Nat} (h : Fd s m m' i) (hk : k < m.legs.length) (hst : stM m' k = 0) (hm : miss s k = true) : Fd s m (failM m' k) (i + 1) := by
  have hk' : k < m'.legs.length := by rw [h.len]; exact hk
  refine ⟨by rw [failM_len, h.len], fun j hj => ?_, ?_⟩
  · obtain ⟨h1, h2, h3⟩ := h.leg j hj
    unfold stM at h3 hst ⊢
    rw [failM_at hk']
    by_cases e : j = k
    · subst e
      rw [if_pos rfl]
      refine ⟨h1, h2, .inr ⟨?_, hm, rfl⟩⟩
      rcases h3 with h3 | ⟨h3, -, -⟩
      · rw [← h3]; exact hst
      · exact h3
    · rw [if_neg e]; exact ⟨h1, h2, h3⟩
  · have := h.oth
    unfold failM
    rw [this]
theorem Fd.trans {m'' : MirS} (h : Fd s m m' i) (h' : Fd s m' m'' i) : Fd s m m'' i := by
  refine ⟨h'.len.trans h.len, fun j hj => ?_, ?_⟩
  · obtain ⟨h1, h2, h3⟩ := h.leg j hj
    obtain ⟨k1, k2, k3⟩ := h'.leg j (by rw [h.len]; exact hj)
    refine ⟨k1.trans h1, k2.trans h2, ?_⟩
    rcases h3 with h3 | ⟨h3, h4, h5⟩
    · rw [h3] at k3; exact k3
    · rcases k3 with k3 | ⟨k3, -, -⟩
      · exact .inr ⟨h3, h4, by rw [k3]; exact h5⟩
      · rw [h5] at k3; cases k3
  · rw [h'.oth, h.oth]
end
end Go.Proofs
namespace Go.Proofs
open Go.VG
def SetB (C : MC) (s : ArrS) (r : Nat) : Prop := ∀ c ∈ cand s C.L 1, tb c r = true
structure LI (C : MC) (s : ArrS) (g : LogS) : Prop where
  lok : LogOk C.L 3 C.R g
  head : ∀ c ∈ cand s C.L 0, c = headL C.R
  now : Go.Proofs.now s C.L 1 = g.bits.getD 0 0
  dur : ∀ r : Nat, r < C.R → (lookM g.durable (r : Int)).isSome = true → SetB C s r
structure Lg (C : MC) (K : Nat) (s t : ArrS) (p q : Nat → Prop) : Prop where
  ok : ArrOk C.ns (K + 1) t
  dn : t.down = false
  fz : s.fuse = 0 → t.fuse = 0
  miss : ∀ e, Go.Proofs.miss t e = Go.Proofs.miss s e
  leg : ∀ e b, e < C.L → b < C.sz → Go.Proofs.now t e b = Go.Proofs.now s e b ∧ cand t e b = cand s e b
  set : ∀ r, r < C.R → ¬ q r → SetB C s r → SetB C t r
  bit : ∀ c ∈ cand t C.L 1, ∀ r, r < C.R → tb c r = true → p r ∨ ∃ c' ∈ cand s C.L 1, tb c' r = true
section
variable {C : MC} {K r : Nat} {s : ArrS} {g : LogS} {p q : Nat → Prop}
theorem MC.nW1 : nW C.R = 1 := by have := C.hR; unfold nW; omega
theorem Lg.refl (h : ArrOk C.ns K s) (hdn : s.down = false) : Lg C K s s p q := ⟨h.mono (by omega), hdn, id, fun _ => rfl, fun _ _ _ _ => ⟨rfl, rfl⟩, fun _ _ _ h => h, fun c hc _ _ h => .inr ⟨c, hc, h⟩⟩
theorem logL : C.L < C.ns.length := by rw [MC.len]; omega
theorem LI.arr {t : ArrS} (h : LI C s g) (h0 : ∀ c ∈ cand t C.L 0, c ∈ cand s C.L 0) (h1 : ∀ c ∈ cand t C.L 1, c ∈ cand s C.L 1) (hn : Go.Proofs.now t C.L 1 = Go.Proofs.now s C.L 1) : LI C t g :=
  ⟨h.lok, fun c hc => h.head c (h0 c hc), by rw [hn]; exact h.now, fun r hr hd c hc => h.dur r hr hd c (h1 c hc)⟩
end
end Go.Proofs
set_option linter.unusedSimpArgs false
set_option maxRecDepth 20000
namespace Go.Proofs
open Go.VG
structure SecH where
  some : Sl3
  known : Bool
  value : UInt64
structure Sec where
  some : List UInt64
  known : Bool
  value : UInt64
abbrev sH0 : SecH := ⟨⟨none, 0, 0⟩, false, 0⟩
abbrev s0 : Sec := ⟨[], false, 0⟩
abbrev SL := List (SecH × Sec)
abbrev SL.hs (l : SL) : List SecH := l.map Prod.fst
structure SOk (l : SL) (t : List Sec) : Prop where
  ds : l.map Prod.snd = t
  ag : ∀ p ∈ l, p.1.known = p.2.known ∧ p.1.value = p.2.value
  cnt : t.length ≤ 65536
theorem SOk.len {l : SL} {t : List Sec} (h : SOk l t) : (SL.hs l).length = t.length := by rw [← h.ds]; simp
theorem SOk.at {l : SL} {t : List Sec} (h : SOk l t) {i : Nat} (hi : i < t.length) : ((SL.hs l).getD i sH0).known = (t.getD i s0).known ∧ ((SL.hs l).getD i sH0).value = (t.getD i s0).value := by
  have hi' : i < l.length := by rw [← h.ds] at hi; simpa using hi
  rw [← h.ds]
  show ((l.map Prod.fst).getD i (Prod.fst (sH0, s0))).known = ((l.map Prod.snd).getD i (Prod.snd (sH0, s0))).known ∧ ((l.map Prod.fst).getD i (Prod.fst (sH0, s0))).value = ((l.map Prod.snd).getD i (Prod.snd (sH0, s0))).value
  rw [getD_map, getD_map]
  have : l.getD i (sH0, s0) = l[i] := by simp [List.getD, hi']
  rw [this]
  exact h.ag _ (List.getElem_mem hi')
theorem SOk.set {l : SL} {t : List Sec} (h : SOk l t) (i : Nat) (x : SecH × Sec) (hx : x.1.known = x.2.known ∧ x.1.value = x.2.value) : SOk (l.set i x) (t.set i x.2) where
  ds := by rw [List.map_set, h.ds]
  ag := fun p hp => by
    rcases List.mem_or_eq_of_mem_set hp with hp | rfl
    · exact h.ag p hp
    · exact hx
  cnt := by simpa using h.cnt
theorem SOk.push {l : SL} {t : List Sec} (h : SOk l t) (x : SecH × Sec) (hx : x.1.known = x.2.known ∧ x.1.value = x.2.value) (hc : t.length + 1 ≤ 65536) : SOk (l ++ [x]) (t ++ [x.2]) where
  ds := by rw [List.map_append, h.ds]; rfl
  ag := fun p hp => by
    rcases List.mem_append.1 hp with hp | hp
    · exact h.ag p hp
    · simp at hp; subst hp; exact hx
  cnt := by simpa using hc
end Go.Proofs
set_option linter.unusedSimpArgs false
set_option linter.unusedVariables false
set_option maxRecDepth 20000
set_option maxHeartbeats 4000000
namespace Go.Proofs
open Go.VG
def MirQ (a : Nat) (vl : Sl3) (b : Nat) (l : MirS) : HP := ex fun h : (List IfH) × Nat × Sl3 => star [blk b 74 [(Sl3.v vl), oval l.log h.2.1, .bool l.hasLog, .int .i64 l.logState, .int .i64 l.size, .int .i64 l.region, (Sl3.v h.2.2), .int .i64 l.copied], sl tymlegH (Sl3.v vl) (mk_mleg l.legs h.1), Rs (DevP a) (l.legs.map mlegS.dev) h.1, optP (LogP a h.2.1) l.log, sl tyB (Sl3.v h.2.2) l.dirty]
theorem MirQ_open {a b : Nat} {vl : Sl3} {l : MirS} {R : List HP} : EntX (MirQ a vl b l :: R) fun h : (List IfH) × Nat × Sl3 => blk b 74 [(Sl3.v vl), oval l.log h.2.1, .bool l.hasLog, .int .i64 l.logState, .int .i64 l.size, .int .i64 l.region, (Sl3.v h.2.2), .int .i64 l.copied] :: sl tymlegH (Sl3.v vl) (mk_mleg l.legs h.1) :: Rs (DevP a) (l.legs.map mlegS.dev) h.1 :: optP (LogP a h.2.1) l.log :: sl tyB (Sl3.v h.2.2) l.dirty :: R :=
  fun _ hh => let ⟨c, hc⟩ := stars_ex.1 hh; ⟨c, stars_star.1 hc⟩
theorem MirQ_mk {a b : Nat} {vl : Sl3} {v0 : List mlegS} {v1 : Option LogS} {v2 : Bool} {v3 : Int} {v4 : Int} {v5 : Int} {v6 : List Bool} {v7 : Int} {h0 : List IfH} {h1 : Nat} {h2 : Sl3} {R : List HP} : Ent (blk b 74 [(Sl3.v vl), oval v1 h1, .bool v2, .int .i64 v3, .int .i64 v4, .int .i64 v5, (Sl3.v h2), .int .i64 v7] :: sl tymlegH (Sl3.v vl) (mk_mleg v0 h0) :: Rs (DevP a) (v0.map mlegS.dev) h0 :: optP (LogP a h1) v1 :: sl tyB (Sl3.v h2) v6 :: R) (MirQ a vl b ⟨v0, v1, v2, v3, v4, v5, v6, v7⟩ :: R) :=
  fun _ hh => stars_ex.2 ⟨(h0, h1, h2), stars_star.2 hh⟩
theorem MirQ_of {a b : Nat} {l : MirS} {R : List HP} : EntX (MirP a b l :: R) fun vl : Sl3 => MirQ a vl b l :: R :=
  fun _ hh => let ⟨c, hc⟩ := stars_ex.1 hh; ⟨c.1, stars_ex.2 ⟨(c.2.1, c.2.2.1, c.2.2.2), hc⟩⟩
theorem MirQ_to {a b : Nat} {vl : Sl3} {l : MirS} {R : List HP} : Ent (MirQ a vl b l :: R) (MirP a b l :: R) :=
  fun _ hh => let ⟨c, hc⟩ := stars_ex.1 hh; stars_ex.2 ⟨(vl, c.1, c.2.1, c.2.2), hc⟩
end Go.Proofs
set_option linter.unusedSimpArgs false
set_option linter.unusedVariables false
set_option maxRecDepth 20000
set_option maxHeartbeats 4000000
namespace Go.Proofs
open Go.VG
theorem LQ_mirror_Mirror_Failed {W : World} {bm : Nat} {vlm : Sl3} {bs : Nat} {m : MirS} {s : ArrS} {r : (List Int)} (h : mirror_Mirror_Failed m s = some r) :
    CSpec Try.prog W 63 [ptr bm 0] [MirQ bs vlm bm m, Arr bs s] (fun x : Sl3 => x.v) (fun _ => True) (fun x F => MirQ bs vlm bm m :: Arr bs s :: sl tyI x.v r :: F) := by
 refine CSpec.of_body Try.func63 rfl Try.ntmps63 rfl fun F => ?_
 show CJ _ _ _ _ _ _ (_ :: _ :: F)
 unfold mirror_Mirror_Failed at h
 refine sR <| oA rfl rfl <| nT <| sR <| oA rfl rfl <| nT <| CJ_seq <| CJ_seq <| CJ_entX (Ent.transX (t0_ eR) (MirQ_open (l := m))) fun oc1 => CJ_pure (fun h hh => Rs_len (stars_perm (del2 (A := Rs (DevP bs) (m.legs.map mlegS.dev) oc1.1)).out h hh)) fun hdl3 => lC del1 fun hlen4 => ?_
 rw [mk_mleg_len (by have := hdl3; simpa using this)] at hlen4
 refine lC del4 fun hlen5 => CJ_region <| oM rfl rfl <| oP (P_nilCheck rfl) rfl <| oP (P_fieldAddr rfl ⟨_, _, _, Try.runUnderlying74, rfl, rfl, Try.sizeOf70, rfl⟩) rfl <| oV (V_load rfl foc0 rfl Try.isAgg70) rfl <| oV (VJ_eq (V_len rfl foc1 (Reads.sl _ _ _) Try.runUnderlying70) (congrArg (fun z : Nat => Value.int .i64 (z : Int)) (mk_mleg_len (by have := hdl3; simpa using this)).symm)) rfl <| oM rfl rfl <| nT <| CJ_ent (fun h hh => sl_nil (t := tyI) h hh) ?_
 obtain ⟨y9, hl7, hK8⟩ := bind_c h
 refine CJ_cutT (X := (List Int) × Sl3) [3, 4, 5, 11, 12, 13, 14, 15, 16, 17, 18, 19, 20, 21, 22, 23] (fun ⟨a12, hd11⟩ => ([(3, hd11.v)] : Slots)) (fun ⟨a12, hd11⟩ R => sl tyI hd11.v a12 :: R) (fun ⟨a12, hd11⟩ => y9 = a12) (Dels.cons del0 Dels.nil) ?_ ?_
 ·
  refine CJ_block <| CJ_loopR (X := Nat × Nat × (List Int) × Sl3) [3, 4, 5, 11, 12, 13, 14, 15, 16, 17, 18, 19, 20, 21, 22, 23] (fun ⟨n, x13, x14, hd15⟩ => ([(3, hd15.v), (11, .int .i64 (((x13 : Nat) : Int)))] : Slots)) (fun ⟨n, x13, x14, hd15⟩ R => sl tyI hd15.v x14 :: R) (fun ⟨n, x13, x14, hd15⟩ => mirror_Mirror_Failed_l1 m n x13 x14 = some y9) (fun ⟨n, x13, x14, hd15⟩ => n) ⟨FUEL, 0, [], ⟨none, 0, 0⟩⟩ ?_ ?_ eR ?_
  · exact hl7
  · exact ⟨rfl, rfl, True.intro⟩
  ·
   rintro ⟨n, x13, x14, hd15⟩ h
   cases n with
   | zero => exact none_e h
   | succ n => ?_
   replace h : mirror_Mirror_Failed_l1_b m (mirror_Mirror_Failed_l1 m n) x13 x14 = some y9 := h
   unfold mirror_Mirror_Failed_l1_b at h
   show CJ _ _ _ _ _ (([(3, hd15.v), (11, .int .i64 (((x13 : Nat) : Int)))] : Slots) ++ forget _ _) (sl tyI hd15.v x14 :: _)
   refine lC del0 fun hlen16 => sR <| oP (P_lss (a := ((x13 : Nat) : Int)) (b := ((m.legs.length : Nat) : Int)) rfl rfl) rfl <| nT <| CJ_seq <| CJ_condP rfl bT_dec (fun hg1 => ?_) (fun hg1 => ?_)
   ·
    replace h := ite_t hg1 h
    refine kT <| CJ_seq <| CJ_block <| sR <| oM rfl rfl <| oV (V_index (i := x13) rfl rfl rfl (show x13 < (mk_mleg m.legs oc1.1).length by rw [mk_mleg_len (by have := hdl3; simpa using this)]; exact (by omega)) foc2 (Reads.sl _ _ _) Try.runUnderlying70 Try.sizeOf83) rfl <| RJ_ent (Ent.trans (t3_ eR) (mk_mleg_rs (i := x13) (by omega))) <| oV (VJ_eq (V_loadEN rfl rfl (show x13 < (mk_mleg m.legs oc1.1).length by rw [mk_mleg_len (by have := hdl3; simpa using this)]; exact (by omega)) foc4 (Reads.sl _ _ _) rfl rfl Try.isAgg83 Try.sizeOf83) (show Value.agg #[IfH.v (oc1.1.getD x13 tyDev.dflt), .int .i64 ((m.legs.getD x13 mleg_x0).state), .int .i64 ((m.legs.getD x13 mleg_x0).copied)] = Value.agg #[IfH.v ((mk_mleg m.legs oc1.1).getD x13 mleg_h0).dev, .int .i64 ((mk_mleg m.legs oc1.1).getD x13 mleg_h0).state, .int .i64 ((mk_mleg m.legs oc1.1).getD x13 mleg_h0).copied] from by rw [mk_mleg_at (by have := hdl3; simpa using this)])) rfl <| oO <| O_alloc Try.zeroValue83 rfl rfl fun b18 => oA rfl rfl <| oO <| O_storeN rfl rfl foc0 Try.sizeOf83 rfl rfl rfl <| nT <| sR <| oP (P_fieldAddr rfl ⟨_, _, _, Try.runUnderlying83, rfl, rfl, Try.sizeOf72, rfl⟩) rfl <| oV (V_load rfl foc0 rfl Try.isAgg72) rfl <| oP (P_eql (a := (m.legs.getD x13 mleg_x0).state) (b := (1 : Int)) rfl rfl) rfl <| RJ_nil <| QJ_ent (t2_ (t2_ (t2_ (t2_ (t2_ (t2_ (t2_ (eD (eD eR))))))))) <| QJ_then ?_
    refine CJ_condP rfl bT_dec (fun hg2 => ?_) (fun hg2 => ?_)
    ·
     replace h := ite_t hg2 h
     refine CJ_region <| oM rfl rfl <| oM rfl rfl <| oO <| O_buildSlice rfl (bs_22_1_0 _) rfl fun b19 => ?_
     obtain ⟨hg3, h⟩ := grd_Le h
     exact oO <| O_append (t := tyI) (bytes := 8) rfl rfl del2 foc0 (Reads.lit (t := tyI) (ys := [((x13 : Nat) : Int)]) rfl rfl (by decide) (by decide) rfl) Try.underlying22 ok_tyI (apl (m := 1) (b := 8) hg3 (by decide)).1 (apl (m := 1) (b := 8) hg3 (by decide)).2 rfl fun p21 c22 => oA rfl rfl <| RJ_nil <| QJ_block_normal <| QJ_ent (t0_ (t1_ (t1_ (t1_ (t1_ (t1_ (t1_ (eD eR)))))))) <| QJ_then <| CJ_region <| oP (PJ_eq (P_add (a := ((x13 : Nat) : Int)) (b := (1 : Int)) rfl rfl (by omega)) rfl) rfl <| oM rfl rfl <| RJ_nil <| nR ⟨n, (x13 + 1), (x14 ++ [((x13 : Nat) : Int)]), ⟨p21, (x14 ++ [((x13 : Nat) : Int)]).length, c22⟩⟩ h ⟨rfl, rfl, True.intro⟩ (t0_ (t1_ (t1_ eR)))
    ·
     replace h := ite_f hg2 h
     exact CJ_skip <| QJ_block_normal <| QJ_then <| CJ_region <| oP (PJ_eq (P_add (a := ((x13 : Nat) : Int)) (b := (1 : Int)) rfl rfl (by omega)) rfl) rfl <| oM rfl rfl <| RJ_nil <| nR ⟨n, (x13 + 1), x14, hd15⟩ h ⟨rfl, rfl, True.intro⟩ (t1_ (t1_ (t1_ eR)))
   ·
    replace h := ite_f hg1 h
    exact CJ_exit <| QJ_then_exit <| QJ_round_exit <| QJ_block_here <| cR ⟨x14, hd15⟩ (Option.some.inj h).symm ⟨rfl, True.intro⟩ eR
 ·
  rintro ⟨a12, hd11⟩ hy23
  replace h := bindK_at hK8 hy23
  show CJ _ _ _ _ _ (([(3, hd11.v)] : Slots) ++ forget _ _) (sl tyI hd11.v a12 :: _)
  refine lC del0 fun hlen24 => CJ_seq <| sR <| oM rfl rfl <| oP (P_nilCheck rfl) rfl <| oP (P_fieldAddr rfl ⟨_, _, _, Try.runUnderlying74, rfl, rfl, Try.sizeOf4, rfl⟩) rfl <| oV (V_load rfl foc1 rfl Try.isAgg4) rfl <| oM rfl rfl <| RJ_mbT rfl rfl rfl (fun hG25 => have hP26 : m.hasLog = true := (Iff.rfl).1 hG25; VJ_P (P_move rfl)) <| RJ_mbT rfl rfl rfl (fun hG27 => have hP28 : m.hasLog = true := (Iff.rfl).1 hG27; VJ_P (P_nilCheck (mbx hG27 rfl))) <| RJ_mbT rfl rfl rfl (fun hG29 => have hP30 : m.hasLog = true := (Iff.rfl).1 hG29; VJ_P (P_fieldAddr (mbx hG29 rfl) ⟨_, _, _, Try.runUnderlying74, rfl, rfl, Try.sizeOf72, rfl⟩)) <| RJ_mbT rfl rfl rfl (fun hG31 => have hP32 : m.hasLog = true := (Iff.rfl).1 hG31; V_load (mbx hG31 rfl) foc1 rfl Try.isAgg72) <| RJ_mbT rfl rfl rfl (fun hG33 => have hP34 : m.hasLog = true := (Iff.rfl).1 hG33; VJ_P (P_eql (a := m.logState) (b := (1 : Int)) (mbx hG33 rfl) rfl)) <| oP (P_pickAnd rfl (fun hh => mbx hh rfl) rfl) rfl <| nT <| CJ_condP rfl (bT_and Iff.rfl bT_dec) (fun hg4 => ?_) (fun hg4 => ?_)
  ·
   replace h := ite_t hg4 h
   refine CJ_region <| oM rfl rfl <| oM rfl rfl <| oP (P_nilCheck rfl) rfl <| oP (P_fieldAddr rfl ⟨_, _, _, Try.runUnderlying74, rfl, rfl, Try.sizeOf70, rfl⟩) rfl <| oV (V_load rfl foc1 rfl Try.isAgg70) rfl <| oV (VJ_eq (V_len rfl foc2 (Reads.sl _ _ _) Try.runUnderlying70) (congrArg (fun z : Nat => Value.int .i64 (z : Int)) (mk_mleg_len (by have := hdl3; simpa using this)).symm)) rfl <| oO <| O_buildSlice rfl (bs_22_1_0 _) rfl fun b35 => ?_
   obtain ⟨hg5, h⟩ := grd_Le h
   refine oO <| O_append (t := tyI) (bytes := 8) rfl rfl del1 foc0 (Reads.lit (t := tyI) (ys := [((m.legs.length : Nat) : Int)]) rfl rfl (by decide) (by decide) rfl) Try.underlying22 ok_tyI (apl (m := 1) (b := 8) hg5 (by decide)).1 (apl (m := 1) (b := 8) hg5 (by decide)).2 rfl fun p37 c38 => oA rfl rfl <| RJ_nil <| QJ_ent (t0_ (t1_ (t1_ (t1_ (t1_ (t1_ (t1_ (eD eR)))))))) <| QJ_then <| sR <| oM rfl rfl <| oA rfl rfl <| nT <| CJ_ret <| QJ_ent (Ent.trans (t1_ (t1_ (t1_ (t1_ (t1_ eR))))) (MirQ_mk (v0 := m.legs) (v1 := m.log) (v2 := m.hasLog) (v3 := m.logState) (v4 := m.size) (v5 := m.region) (v6 := m.dirty) (v7 := m.copied) (h0 := oc1.1) (h1 := oc1.2.1) (h2 := oc1.2.2))) ?_
   cases h
   exact fE (res1 Try.results63 rfl) ⟨p37, (a12 ++ [((m.legs.length : Nat) : Int)]).length, c38⟩ (t0_ (t1_ eR))
  ·
   replace h := ite_f hg4 h
   refine kT <| sR <| oM rfl rfl <| oA rfl rfl <| nT <| CJ_ret <| QJ_ent (Ent.trans (t1_ (t1_ (t1_ (t1_ (t1_ eR))))) (MirQ_mk (v0 := m.legs) (v1 := m.log) (v2 := m.hasLog) (v3 := m.logState) (v4 := m.size) (v5 := m.region) (v6 := m.dirty) (v7 := m.copied) (h0 := oc1.1) (h1 := oc1.2.1) (h2 := oc1.2.2))) ?_
   cases h
   exact fE (res1 Try.results63 rfl) hd11 (t0_ (t1_ eR))
theorem LQ_mirror_Mirror_result {W : World} {bm : Nat} {vlm : Sl3} {bs : Nat} {m : MirS} {s : ArrS} {r : Int} (h : mirror_Mirror_result m s = some r) :
    CSpec Try.prog W 31 [ptr bm 0] [MirQ bs vlm bm m, Arr bs s] (fun x : Unit => .int .i64 r) (fun _ => True) (fun x F => MirQ bs vlm bm m :: Arr bs s :: F) := by
 refine CSpec.of_body Try.func31 rfl Try.ntmps31 rfl fun F => ?_
 show CJ _ _ _ _ _ _ (_ :: _ :: F)
 unfold mirror_Mirror_result at h
 refine sR <| oA rfl rfl <| nT <| CJ_seq <| sR <| oM rfl rfl ?_
 obtain ⟨r1, hr2, h⟩ := bind_e h
 refine oO <| O_call (LQ_mirror_Mirror_Failed hr2) rfl Try.call63 (Dels.cons del0 (Dels.cons del0 Dels.nil)) rfl fun X3 _ => oV (V_len rfl foc2 (Reads.sl _ _ _) Try.runUnderlying22) rfl <| oP (P_gtr (a := ((r1.length : Nat) : Int)) (b := (0 : Int)) rfl rfl) rfl <| nT <| CJ_condP rfl bT_dec (fun hg1 => ?_) (fun hg1 => ?_)
 ·
  replace h := ite_t hg1 h
  refine sR <| oA rfl rfl <| nT <| CJ_ret <| QJ_then_ret ?_
  cases h
  exact fE (res1 Try.results31 rfl) () (t0_ (t0_ (eD eR)))
 ·
  replace h := ite_f hg1 h
  refine kT <| sR <| oA rfl rfl <| nT <| CJ_ret ?_
  cases h
  exact fE (res1 Try.results31 rfl) () (t0_ (t0_ (eD eR)))
theorem LQ_mirror_Mirror_note {W : World} {bm : Nat} {vlm : Sl3} {bs : Nat} {m : MirS} {i : Int} {e_2 : Int} {s : ArrS} {r : Int × MirS} (h : mirror_Mirror_note m i e_2 s = some r) :
    CSpec Try.prog W 44 [ptr bm 0, .int .i64 i, .int .i64 e_2] [MirQ bs vlm bm m, Arr bs s] (fun x : Unit => .int .i64 r.1) (fun _ => True) (fun x F => MirQ bs vlm bm r.2 :: Arr bs s :: F) := by
 refine CSpec.of_body Try.func44 rfl Try.ntmps44 rfl fun F => ?_
 show CJ _ _ _ _ _ _ (_ :: _ :: F)
 unfold mirror_Mirror_note at h
 refine sR <| oA rfl rfl <| nT <| CJ_seq <| CJ_block <| sR <| oM rfl rfl <| oP (P_eql (a := e_2) (b := (0 : Int)) rfl rfl) rfl <| oM rfl rfl <| RJ_mbF rfl rfl rfl (fun hG1 => have hP2 : ¬ (e_2 = (0 : Int)) := nP (bT_dec) hG1; VJ_P (P_move rfl)) <| RJ_mbF rfl rfl rfl (fun hG3 => have hP4 : ¬ (e_2 = (0 : Int)) := nP (bT_dec) hG3; VJ_P (P_eql (a := e_2) (b := (5 : Int)) (mbx hG3 rfl) rfl)) <| oP (P_pickOr rfl rfl (fun hh => mbx (not_f hh) rfl)) rfl <| oA rfl rfl <| nT <| CJ_condP rfl (bT_or bT_dec bT_dec) (fun hg1 => ?_) (fun hg1 => ?_)
 ·
  replace h := ite_t hg1 h
  refine sR <| oM rfl rfl <| oA rfl rfl <| nT <| CJ_ret <| QJ_block_ret <| QJ_then_ret ?_
  cases h
  exact fE (res1 Try.results44 rfl) () eR
 ·
  replace h := ite_f hg1 h
  refine CJ_seq <| CJ_entX (Ent.transX (t0_ eR) (MirQ_open (l := m))) fun oc5 => CJ_pure (fun h hh => Rs_len (stars_perm (del2 (A := Rs (DevP bs) (m.legs.map mlegS.dev) oc5.1)).out h hh)) fun hdl7 => lC del1 fun hlen8 => ?_
  rw [mk_mleg_len (by have := hdl7; simpa using this)] at hlen8
  refine lC del4 fun hlen9 => CJ_region <| oM rfl rfl <| oM rfl rfl <| oP (P_nilCheck rfl) rfl <| oP (P_fieldAddr rfl ⟨_, _, _, Try.runUnderlying74, rfl, rfl, Try.sizeOf70, rfl⟩) rfl <| oV (V_load rfl foc0 rfl Try.isAgg70) rfl <| oV (VJ_eq (V_len rfl foc1 (Reads.sl _ _ _) Try.runUnderlying70) (congrArg (fun z : Nat => Value.int .i64 (z : Int)) (mk_mleg_len (by have := hdl7; simpa using this)).symm)) rfl <| oP (P_eql (a := i) (b := ((m.legs.length : Nat) : Int)) rfl rfl) rfl <| oA rfl rfl <| RJ_nil <| QJ_ent (Ent.trans eR (MirQ_mk (v0 := m.legs) (v1 := m.log) (v2 := m.hasLog) (v3 := m.logState) (v4 := m.size) (v5 := m.region) (v6 := m.dirty) (v7 := m.copied) (h0 := oc5.1) (h1 := oc5.2.1) (h2 := oc5.2.2))) <| QJ_then <| CJ_condP rfl bT_dec (fun hg2 => ?_) (fun hg2 => ?_)
  ·
   replace h := ite_t hg2 h
   refine CJ_entX (Ent.transX (t0_ eR) (MirQ_open (l := m))) fun oc10 => CJ_pure (fun h hh => Rs_len (stars_perm (del2 (A := Rs (DevP bs) (m.legs.map mlegS.dev) oc10.1)).out h hh)) fun hdl12 => lC del1 fun hlen13 => ?_
   rw [mk_mleg_len (by have := hdl12; simpa using this)] at hlen13
   refine lC del4 fun hlen14 => CJ_region <| oM rfl rfl <| oP (P_nilCheck rfl) rfl <| oP (P_fieldAddr rfl ⟨_, _, _, Try.runUnderlying74, rfl, rfl, Try.sizeOf72, rfl⟩) rfl <| oO <| O_store rfl rfl foc0 rfl rfl Try.sizeOf72 <| RJ_nil <| QJ_ent (Ent.trans eR (MirQ_mk (v0 := m.legs) (v1 := m.log) (v2 := m.hasLog) (v3 := (1 : Int)) (v4 := m.size) (v5 := m.region) (v6 := m.dirty) (v7 := m.copied) (h0 := oc10.1) (h1 := oc10.2.1) (h2 := oc10.2.2))) <| QJ_block_normal <| QJ_then <| sR <| oA rfl rfl <| nT <| CJ_ret ?_
   cases h
   exact fE (res1 Try.results44 rfl) () eR
  ·
   replace h := ite_f hg2 h
   refine CJ_seq <| CJ_entX (Ent.transX (t0_ eR) (MirQ_open (l := m))) fun oc15 => CJ_pure (fun h hh => Rs_len (stars_perm (del2 (A := Rs (DevP bs) (m.legs.map mlegS.dev) oc15.1)).out h hh)) fun hdl17 => lC del1 fun hlen18 => ?_
   rw [mk_mleg_len (by have := hdl17; simpa using this)] at hlen18
   refine lC del4 fun hlen19 => CJ_region <| oM rfl rfl <| oP (P_nilCheck rfl) rfl <| oP (P_fieldAddr rfl ⟨_, _, _, Try.runUnderlying74, rfl, rfl, Try.sizeOf70, rfl⟩) rfl <| oV (V_load rfl foc0 rfl Try.isAgg70) rfl <| oM rfl rfl ?_
   obtain ⟨hg3, h⟩ := grd_de h
   refine oV (V_index (i := (i).toNat) rfl rfl (Int.toNat_of_nonneg (hg3.1)).symm (show (i).toNat < (mk_mleg m.legs oc15.1).length by rw [mk_mleg_len (by have := hdl17; simpa using this)]; exact (by omega)) foc1 (Reads.sl _ _ _) Try.runUnderlying70 Try.sizeOf83) rfl <| oP (P_fieldE rfl ⟨_, _, _, Try.runUnderlying83, rfl, rfl, Try.sizeOf72, rfl⟩) rfl <| oV (VJ_eq (V_loadE rfl rfl (show (i).toNat < (mk_mleg m.legs oc15.1).length by rw [mk_mleg_len (by have := hdl17; simpa using this)]; exact (by omega)) foc1 (Reads.sl _ _ _) rfl rfl Try.isAgg72) (show (.int .i64 ((m.legs.getD ((i).toNat) mleg_x0).state) : Value) = .int .i64 ((mk_mleg m.legs oc15.1).getD ((i).toNat) mleg_h0).state from by rw [mk_mleg_at (by have := hdl17; simpa using this)])) rfl <| oP (P_eql (a := (m.legs.getD ((i).toNat) mleg_x0).state) (b := (2 : Int)) rfl rfl) rfl <| oA rfl rfl <| RJ_nil <| QJ_ent (Ent.trans eR (MirQ_mk (v0 := m.legs) (v1 := m.log) (v2 := m.hasLog) (v3 := m.logState) (v4 := m.size) (v5 := m.region) (v6 := m.dirty) (v7 := m.copied) (h0 := oc15.1) (h1 := oc15.2.1) (h2 := oc15.2.2))) <| QJ_then <| CJ_condP rfl bT_dec (fun hg4 => ?_) (fun hg4 => ?_)
   ·
    replace h := ite_t hg4 h
    refine CJ_entX (Ent.transX (t0_ eR) (MirQ_open (l := m))) fun oc20 => CJ_pure (fun h hh => Rs_len (stars_perm (del2 (A := Rs (DevP bs) (m.legs.map mlegS.dev) oc20.1)).out h hh)) fun hdl22 => lC del1 fun hlen23 => ?_
    rw [mk_mleg_len (by have := hdl22; simpa using this)] at hlen23
    refine lC del4 fun hlen24 => CJ_region <| oM rfl rfl <| oP (P_nilCheck rfl) rfl <| oP (P_fieldAddr rfl ⟨_, _, _, Try.runUnderlying74, rfl, rfl, Try.sizeOf70, rfl⟩) rfl <| oV (V_load rfl foc0 rfl Try.isAgg70) rfl <| oM rfl rfl ?_
    obtain ⟨hg5, h⟩ := grd_de h
    refine oV (V_index (i := (i).toNat) rfl rfl (Int.toNat_of_nonneg (hg5.1)).symm (show (i).toNat < (mk_mleg m.legs oc20.1).length by rw [mk_mleg_len (by have := hdl22; simpa using this)]; exact (by omega)) foc1 (Reads.sl _ _ _) Try.runUnderlying70 Try.sizeOf83) rfl <| oP (P_fieldE rfl ⟨_, _, _, Try.runUnderlying83, rfl, rfl, Try.sizeOf3, rfl⟩) rfl <| oO <| O_storeE (x' := { (mk_mleg m.legs oc20.1).getD ((i).toNat) mleg_h0 with copied := (0 : Int) }) rfl rfl rfl (show (i).toNat < (mk_mleg m.legs oc20.1).length by rw [mk_mleg_len (by have := hdl22; simpa using this)]; exact (by omega)) foc1 rfl rfl rfl Try.sizeOf3 <| RJ_ent (Ent.takeC (A' := sl tymlegH (Sl3.v vlm) (mk_mleg (m.legs.set ((i).toNat) { m.legs.getD ((i).toNat) mleg_x0 with copied := (0 : Int) }) oc20.1)) del1 (congrArg (sl tymlegH (Sl3.v vlm)) (mk_mleg_set_copied (by have := hdl22; simpa using this) (by omega) (0 : Int))) (Ent.takeC (A' := Rs (DevP bs) (((m.legs.set ((i).toNat) { m.legs.getD ((i).toNat) mleg_x0 with copied := (0 : Int) })).map mlegS.dev) oc20.1) del1 (congrArg (fun z => Rs (DevP bs) z oc20.1) (mk_mleg_dev_copied (l := m.legs) (i := ((i).toNat)) (0 : Int)).symm) eR)) <| RJ_pure (fun h hh => Rs_len (stars_perm (del1 (A := Rs (DevP bs) ((((m.legs.set ((i).toNat) { m.legs.getD ((i).toNat) mleg_x0 with copied := (0 : Int) })).map mlegS.dev)) oc20.1)).out h hh)) fun hdl25 => RJ_nil ?_
    refine QJ_ent (Ent.trans (t2_ eR) (MirQ_mk (v0 := (m.legs.set ((i).toNat) { m.legs.getD ((i).toNat) mleg_x0 with copied := (0 : Int) })) (v1 := m.log) (v2 := m.hasLog) (v3 := m.logState) (v4 := m.size) (v5 := m.region) (v6 := m.dirty) (v7 := m.copied) (h0 := oc20.1) (h1 := oc20.2.1) (h2 := oc20.2.2))) <| QJ_block_normal <| QJ_then <| sR <| oA rfl rfl <| nT <| CJ_ret ?_
    cases h
    exact fE (res1 Try.results44 rfl) () eR
   ·
    replace h := ite_f hg4 h
    refine CJ_entX (Ent.transX (t0_ eR) (MirQ_open (l := m))) fun oc26 => CJ_pure (fun h hh => Rs_len (stars_perm (del2 (A := Rs (DevP bs) (m.legs.map mlegS.dev) oc26.1)).out h hh)) fun hdl28 => lC del1 fun hlen29 => ?_
    rw [mk_mleg_len (by have := hdl28; simpa using this)] at hlen29
    refine lC del4 fun hlen30 => CJ_region <| oM rfl rfl <| oP (P_nilCheck rfl) rfl <| oP (P_fieldAddr rfl ⟨_, _, _, Try.runUnderlying74, rfl, rfl, Try.sizeOf70, rfl⟩) rfl <| oV (V_load rfl foc0 rfl Try.isAgg70) rfl <| oM rfl rfl ?_
    obtain ⟨hg6, h⟩ := grd_de h
    refine oV (V_index (i := (i).toNat) rfl rfl (Int.toNat_of_nonneg (hg6.1)).symm (show (i).toNat < (mk_mleg m.legs oc26.1).length by rw [mk_mleg_len (by have := hdl28; simpa using this)]; exact (by omega)) foc1 (Reads.sl _ _ _) Try.runUnderlying70 Try.sizeOf83) rfl <| oP (P_fieldE rfl ⟨_, _, _, Try.runUnderlying83, rfl, rfl, Try.sizeOf72, rfl⟩) rfl <| oO <| O_storeE (x' := { (mk_mleg m.legs oc26.1).getD ((i).toNat) mleg_h0 with state := (1 : Int) }) rfl rfl rfl (show (i).toNat < (mk_mleg m.legs oc26.1).length by rw [mk_mleg_len (by have := hdl28; simpa using this)]; exact (by omega)) foc1 rfl rfl rfl Try.sizeOf72 <| RJ_ent (Ent.takeC (A' := sl tymlegH (Sl3.v vlm) (mk_mleg (m.legs.set ((i).toNat) { m.legs.getD ((i).toNat) mleg_x0 with state := (1 : Int) }) oc26.1)) del1 (congrArg (sl tymlegH (Sl3.v vlm)) (mk_mleg_set_state (by have := hdl28; simpa using this) (by omega) (1 : Int))) (Ent.takeC (A' := Rs (DevP bs) (((m.legs.set ((i).toNat) { m.legs.getD ((i).toNat) mleg_x0 with state := (1 : Int) })).map mlegS.dev) oc26.1) del1 (congrArg (fun z => Rs (DevP bs) z oc26.1) (mk_mleg_dev_state (l := m.legs) (i := ((i).toNat)) (1 : Int)).symm) eR)) <| RJ_pure (fun h hh => Rs_len (stars_perm (del1 (A := Rs (DevP bs) ((((m.legs.set ((i).toNat) { m.legs.getD ((i).toNat) mleg_x0 with state := (1 : Int) })).map mlegS.dev)) oc26.1)).out h hh)) fun hdl31 => RJ_nil ?_
    refine QJ_ent (Ent.trans (t2_ eR) (MirQ_mk (v0 := (m.legs.set ((i).toNat) { m.legs.getD ((i).toNat) mleg_x0 with state := (1 : Int) })) (v1 := m.log) (v2 := m.hasLog) (v3 := m.logState) (v4 := m.size) (v5 := m.region) (v6 := m.dirty) (v7 := m.copied) (h0 := oc26.1) (h1 := oc26.2.1) (h2 := oc26.2.2))) <| QJ_block_normal <| QJ_then <| sR <| oA rfl rfl <| nT <| CJ_ret ?_
    cases h
    exact fE (res1 Try.results44 rfl) () eR
theorem LQ_mirror_Mirror_fetch {W : World} {bm : Nat} {vlm : Sl3} {bs : Nat} {m : MirS} {at_1 : Int} {s : ArrS} {r : UInt64 × Int × (List Int) × Int × MirS} (h : mirror_Mirror_fetch m at_1 s = some r) :
    CSpec Try.prog W 32 [ptr bm 0, .int .i64 at_1] [MirQ bs vlm bm m, Arr bs s] (fun x : Sl3 => .tuple #[.int .u64 (r.1.toNat : Int), .int .i64 r.2.1, x.v, .int .i64 r.2.2.2.1]) (fun _ => True) (fun x F => MirQ bs vlm bm r.2.2.2.2 :: Arr bs s :: sl tyI x.v r.2.2.1 :: F) := by
 refine CSpec.of_body Try.func32 rfl Try.ntmps32 rfl fun F => ?_
 show CJ _ _ _ _ _ _ (_ :: _ :: F)
 unfold mirror_Mirror_fetch at h
 refine sR <| oA rfl rfl <| oA rfl rfl <| oA rfl rfl <| oA rfl rfl <| nT <| CJ_seq <| CJ_seq <| CJ_entX (Ent.transX (t0_ eR) (MirQ_open (l := m))) fun oc1 => CJ_pure (fun h hh => Rs_len (stars_perm (del2 (A := Rs (DevP bs) (m.legs.map mlegS.dev) oc1.1)).out h hh)) fun hdl3 => lC del1 fun hlen4 => ?_
 rw [mk_mleg_len (by have := hdl3; simpa using this)] at hlen4
 refine lC del4 fun hlen5 => CJ_region <| oM rfl rfl <| oP (P_nilCheck rfl) rfl <| oP (P_fieldAddr rfl ⟨_, _, _, Try.runUnderlying74, rfl, rfl, Try.sizeOf70, rfl⟩) rfl <| oV (V_load rfl foc0 rfl Try.isAgg70) rfl <| oV (VJ_eq (V_len rfl foc1 (Reads.sl _ _ _) Try.runUnderlying70) (congrArg (fun z : Nat => Value.int .i64 (z : Int)) (mk_mleg_len (by have := hdl3; simpa using this)).symm)) rfl <| oM rfl rfl <| RJ_nil <| QJ_ent (Ent.trans eR (MirQ_mk (v0 := m.legs) (v1 := m.log) (v2 := m.hasLog) (v3 := m.logState) (v4 := m.size) (v5 := m.region) (v6 := m.dirty) (v7 := m.copied) (h0 := oc1.1) (h1 := oc1.2.1) (h2 := oc1.2.2))) <| QJ_then <| CJ_ent (fun h hh => sl_nil (t := tyI) h hh) ?_
 obtain ⟨y9, hl7, hK8⟩ := seq_e h
 refine CJ_cutT (X := (List Int) × Sl3) [4, 5, 6, 7, 8, 9, 10, 11, 19, 20, 21, 22, 23, 24, 25, 26, 27, 28, 29, 30, 31, 32, 33, 34, 35, 36, 37, 38, 39, 40, 41, 42, 43, 44, 45, 46, 47, 48, 49, 50, 51, 52, 53, 54, 55, 56, 57, 58, 59, 60, 61, 62, 63] (fun ⟨a12, hd11⟩ => ([(6, hd11.v)] : Slots)) (fun ⟨a12, hd11⟩ R => sl tyI hd11.v a12 :: R) (fun ⟨a12, hd11⟩ => y9 = .inl a12) (Dels.cons del0 Dels.nil) ?_ ?_
 ·
  refine CJ_block <| CJ_loopR (X := Nat × Nat × (List Int) × Sl3) [4, 5, 6, 7, 8, 9, 10, 11, 19, 20, 21, 22, 23, 24, 25, 26, 27, 28, 29, 30, 31, 32, 33, 34, 35, 36, 37, 38, 39, 40, 41, 42, 43, 44, 45, 46, 47, 48, 49, 50, 51, 52, 53, 54, 55, 56, 57, 58, 59, 60, 61, 62, 63] (fun ⟨n, x13, x14, hd15⟩ => ([(6, hd15.v), (19, .int .i64 (((x13 : Nat) : Int)))] : Slots)) (fun ⟨n, x13, x14, hd15⟩ R => sl tyI hd15.v x14 :: R) (fun ⟨n, x13, x14, hd15⟩ => mirror_Mirror_fetch_l1 m at_1 s n x13 x14 = some y9) (fun ⟨n, x13, x14, hd15⟩ => n) ⟨FUEL, 0, [], ⟨none, 0, 0⟩⟩ ?_ ?_ eR ?_
  · exact hl7
  · exact ⟨rfl, rfl, True.intro⟩
  ·
   rintro ⟨n, x13, x14, hd15⟩ h
   cases n with
   | zero => exact none_e h
   | succ n => ?_
   replace h : mirror_Mirror_fetch_l1_b m at_1 s (mirror_Mirror_fetch_l1 m at_1 s n) x13 x14 = some y9 := h
   unfold mirror_Mirror_fetch_l1_b at h
   show CJ _ _ _ _ _ (([(6, hd15.v), (19, .int .i64 (((x13 : Nat) : Int)))] : Slots) ++ forget _ _) (sl tyI hd15.v x14 :: _)
   refine lC del0 fun hlen16 => sR <| oP (P_lss (a := ((x13 : Nat) : Int)) (b := ((m.legs.length : Nat) : Int)) rfl rfl) rfl <| nT <| CJ_seq <| CJ_condP rfl bT_dec (fun hg1 => ?_) (fun hg1 => ?_)
   ·
    replace h := ite_t hg1 h
    refine kT <| CJ_seq <| CJ_block <| sR <| oM rfl rfl <| oA rfl rfl <| nT <| CJ_seq <| CJ_seq <| CJ_entX (Ent.transX (t1_ eR) (MirQ_open (l := m))) fun oc17 => CJ_pure (fun h hh => Rs_len (stars_perm (del2 (A := Rs (DevP bs) (m.legs.map mlegS.dev) oc17.1)).out h hh)) fun hdl19 => lC del1 fun hlen20 => ?_
    rw [mk_mleg_len (by have := hdl19; simpa using this)] at hlen20
    refine lC del4 fun hlen21 => CJ_region <| oM rfl rfl <| oP (P_nilCheck rfl) rfl <| oP (P_fieldAddr rfl ⟨_, _, _, Try.runUnderlying74, rfl, rfl, Try.sizeOf70, rfl⟩) rfl <| oV (V_load rfl foc0 rfl Try.isAgg70) rfl <| oM rfl rfl <| oV (V_index (i := x13) rfl rfl rfl (show x13 < (mk_mleg m.legs oc17.1).length by rw [mk_mleg_len (by have := hdl19; simpa using this)]; exact (by omega)) foc1 (Reads.sl _ _ _) Try.runUnderlying70 Try.sizeOf83) rfl <| oP (P_fieldE rfl ⟨_, _, _, Try.runUnderlying83, rfl, rfl, Try.sizeOf72, rfl⟩) rfl <| oV (VJ_eq (V_loadE rfl rfl (show x13 < (mk_mleg m.legs oc17.1).length by rw [mk_mleg_len (by have := hdl19; simpa using this)]; exact (by omega)) foc1 (Reads.sl _ _ _) rfl rfl Try.isAgg72) (show (.int .i64 ((m.legs.getD x13 mleg_x0).state) : Value) = .int .i64 ((mk_mleg m.legs oc17.1).getD x13 mleg_h0).state from by rw [mk_mleg_at (by have := hdl19; simpa using this)])) rfl <| oP (P_neq (a := (m.legs.getD x13 mleg_x0).state) (b := (0 : Int)) rfl rfl) rfl <| RJ_nil <| QJ_ent (Ent.trans eR (MirQ_mk (v0 := m.legs) (v1 := m.log) (v2 := m.hasLog) (v3 := m.logState) (v4 := m.size) (v5 := m.region) (v6 := m.dirty) (v7 := m.copied) (h0 := oc17.1) (h1 := oc17.2.1) (h2 := oc17.2.2))) <| QJ_then <| CJ_condP rfl bT_dec (fun hg2 => ?_) (fun hg2 => ?_)
    ·
     replace h := ite_t hg2 h
     exact CJ_exit <| QJ_then_exit <| QJ_block_here <| QJ_then <| CJ_region <| oP (PJ_eq (P_add (a := ((x13 : Nat) : Int)) (b := (1 : Int)) rfl rfl (by omega)) rfl) rfl <| oM rfl rfl <| RJ_nil <| nR ⟨n, (x13 + 1), x14, hd15⟩ h ⟨rfl, rfl, True.intro⟩ (t1_ eR)
    ·
     replace h := ite_f hg2 h
     refine kT <| CJ_seq <| CJ_entX (Ent.transX (t0_ eR) (MirQ_open (l := m))) fun oc22 => CJ_pure (fun h hh => Rs_len (stars_perm (del2 (A := Rs (DevP bs) (m.legs.map mlegS.dev) oc22.1)).out h hh)) fun hdl24 => lC del1 fun hlen25 => ?_
     rw [mk_mleg_len (by have := hdl24; simpa using this)] at hlen25
     refine lC del4 fun hlen26 => CJ_region <| oM rfl rfl <| oP (P_nilCheck rfl) rfl <| oP (P_fieldAddr rfl ⟨_, _, _, Try.runUnderlying74, rfl, rfl, Try.sizeOf70, rfl⟩) rfl <| oV (V_load rfl foc0 rfl Try.isAgg70) rfl <| oM rfl rfl <| oV (V_index (i := x13) rfl rfl rfl (show x13 < (mk_mleg m.legs oc22.1).length by rw [mk_mleg_len (by have := hdl24; simpa using this)]; exact (by omega)) foc1 (Reads.sl _ _ _) Try.runUnderlying70 Try.sizeOf83) rfl <| oP (P_fieldE rfl ⟨_, _, _, Try.runUnderlying83, rfl, rfl, Try.sizeOf57, rfl⟩) rfl <| RJ_ent (Ent.trans (t2_ eR) (mk_mleg_rs (i := x13) (by omega))) <| oV (VJ_eq (V_loadE rfl rfl (show x13 < (mk_mleg m.legs oc22.1).length by rw [mk_mleg_len (by have := hdl24; simpa using this)]; exact (by omega)) foc3 (Reads.sl _ _ _) rfl rfl Try.isAgg57) (show (IfH.v (oc22.1.getD x13 tyDev.dflt) : Value) = IfH.v ((mk_mleg m.legs oc22.1).getD x13 mleg_h0).dev from by rw [mk_mleg_at (by have := hdl24; simpa using this)])) rfl <| oM rfl rfl <| RJ_pure (fun h hh => DevP_dep h (stars_perm (del0 (A := DevP bs ((m.legs.getD x13 mleg_x0).dev) (oc22.1.getD x13 tyDev.dflt))).out h hh)) fun hdp28 => ?_
     obtain ⟨r29, hr30, h⟩ := bind_e h
     refine oO <| O_callI rfl (dev_Read hr30 hdp28) rfl (Dels.cons del0 (Dels.cons del6 Dels.nil)) rfl fun _ _ => oM rfl rfl <| oP (P_extract rfl rfl) rfl <| oP (P_extract rfl rfl) rfl <| oA rfl rfl <| oA rfl rfl <| RJ_nil <| QJ_ent (Ent.trans (t3_ (t3_ (t2_ (t2_ (t2_ eR))))) (MirQ_mk (v0 := m.legs) (v1 := m.log) (v2 := m.hasLog) (v3 := m.logState) (v4 := m.size) (v5 := m.region) (v6 := m.dirty) (v7 := m.copied) (h0 := oc22.1) (h1 := oc22.2.1) (h2 := oc22.2.2))) <| QJ_then <| CJ_seq <| sR <| oM rfl rfl <| nT <| CJ_block <| sR <| oP (P_eql (a := r29.2) (b := (0 : Int)) rfl rfl) rfl <| oA rfl rfl <| nT <| CJ_condP rfl bT_dec (fun hg3 => ?_) (fun hg3 => ?_)
     ·
      replace h := ite_t hg3 h
      refine sR <| oM rfl rfl <| oM rfl rfl <| oM rfl rfl <| oA rfl rfl <| oA rfl rfl <| oA rfl rfl <| oA rfl rfl <| nT <| CJ_ret <| QJ_block_ret <| QJ_then_ret <| QJ_block_ret <| QJ_then_ret <| QJ_round_ret <| QJ_block_ret <| QJ_then_ret ?_
      have hE := Option.some.inj h
      replace hE := seq_inr hK8 hE.symm
      subst hE
      exact fE (res4 Try.results32 rfl rfl rfl rfl) hd15 (t0_ (t1_ (t1_ (eD eR))))
     ·
      replace h := ite_f hg3 h
      refine sR <| oP (P_eql (a := r29.2) (b := (7 : Int)) rfl rfl) rfl <| oA rfl rfl <| nT <| CJ_condP rfl bT_dec (fun hg4 => ?_) (fun hg4 => ?_)
      ·
       replace h := ite_t hg4 h
       refine sR <| oM rfl rfl <| oM rfl rfl <| oO <| O_buildSlice rfl (bs_22_1_0 _) rfl fun b31 => ?_
       obtain ⟨hg5, h⟩ := grd_Le h
       exact oO <| O_append (t := tyI) (bytes := 8) rfl rfl del4 foc0 (Reads.lit (t := tyI) (ys := [((x13 : Nat) : Int)]) rfl rfl (by decide) (by decide) rfl) Try.underlying22 ok_tyI (apl (m := 1) (b := 8) hg5 (by decide)).1 (apl (m := 1) (b := 8) hg5 (by decide)).2 rfl fun p33 c34 => oA rfl rfl <| nT <| CJ_exit <| QJ_block_other rfl <| QJ_then_exit <| QJ_block_here <| QJ_then <| CJ_region <| oP (PJ_eq (P_add (a := ((x13 : Nat) : Int)) (b := (1 : Int)) rfl rfl (by omega)) rfl) rfl <| oM rfl rfl <| RJ_nil <| nR ⟨n, (x13 + 1), (x14 ++ [((x13 : Nat) : Int)]), ⟨p33, (x14 ++ [((x13 : Nat) : Int)]).length, c34⟩⟩ h ⟨rfl, rfl, True.intro⟩ (t0_ (t1_ (t2_ (eD (eD eR)))))
      ·
       replace h := ite_f hg4 h
       refine CJ_skip <| QJ_block_normal <| QJ_then <| CJ_seq <| sR <| oM rfl rfl <| oM rfl rfl <| oM rfl rfl ?_
       obtain ⟨r35, hr36, h⟩ := bind_e h
       refine oO <| O_call (LQ_mirror_Mirror_note hr36) rfl Try.call44 (Dels.cons del0 (Dels.cons del1 Dels.nil)) rfl fun _ _ => oA rfl rfl <| nT <| sR <| oM rfl rfl <| oP (P_neq (a := r35.1) (b := (0 : Int)) rfl rfl) rfl <| nT <| CJ_condP rfl bT_dec (fun hg6 => ?_) (fun hg6 => ?_)
       ·
        replace h := ite_t hg6 h
        refine sR <| oM rfl rfl <| oA rfl rfl <| oA rfl rfl <| oA rfl rfl <| oA rfl rfl <| nT <| CJ_ret <| QJ_then_ret <| QJ_block_ret <| QJ_then_ret <| QJ_round_ret <| QJ_block_ret <| QJ_then_ret <| QJ_ent (fun h hh => sl_nil (t := tyI) h hh) ?_
        have hE := Option.some.inj h
        replace hE := seq_inr hK8 hE.symm
        subst hE
        exact fE (res4 Try.results32 rfl rfl rfl rfl) ⟨none, 0, 0⟩ (t1_ (t1_ (t0_ (eD (eD eR)))))
       ·
        replace h := ite_f hg6 h
        refine kT <| sR <| oA rfl rfl <| oA rfl rfl <| oA rfl rfl <| oA rfl rfl <| nT <| CJ_ret <| QJ_block_ret <| QJ_then_ret <| QJ_round_ret <| QJ_block_ret <| QJ_then_ret <| QJ_ent (fun h hh => sl_nil (t := tyI) h hh) ?_
        have hE := Option.some.inj h
        replace hE := seq_inr hK8 hE.symm
        subst hE
        exact fE (res4 Try.results32 rfl rfl rfl rfl) ⟨none, 0, 0⟩ (t1_ (t1_ (t0_ (eD (eD eR)))))
   ·
    replace h := ite_f hg1 h
    exact CJ_exit <| QJ_then_exit <| QJ_round_exit <| QJ_block_here <| cR ⟨x14, hd15⟩ (Option.some.inj h).symm ⟨rfl, True.intro⟩ eR
 ·
  rintro ⟨a12, hd11⟩ hy39
  replace h := seq_inl hK8 hy39
  show CJ _ _ _ _ _ (([(6, hd11.v)] : Slots) ++ forget _ _) (sl tyI hd11.v a12 :: _)
  refine lC del0 fun hlen40 => CJ_seq <| sR <| oM rfl rfl <| oV (V_len rfl foc0 (Reads.sl _ _ _) Try.runUnderlying22) rfl <| oM rfl rfl <| nT ?_
  obtain ⟨y43, hl41, hK42⟩ := bind_c h
  refine CJ_cutT (X := MirS) [13, 66, 67, 68, 69, 70, 71, 72, 73] (fun a45 => ([] : Slots)) (fun a45 R => MirQ bs vlm bm a45 :: R) (fun a45 => y43 = a45) (Dels.cons del1 Dels.nil) ?_ ?_
  ·
   refine CJ_block <| CJ_loopR (X := Nat × MirS × Nat) [13, 66, 67, 68, 69, 70, 71, 72, 73] (fun ⟨n, x46, x47⟩ => ([(66, .int .i64 (((x47 : Nat) : Int)))] : Slots)) (fun ⟨n, x46, x47⟩ R => MirQ bs vlm bm x46 :: R) (fun ⟨n, x46, x47⟩ => mirror_Mirror_fetch_l3 s a12 n x46 x47 = some y43) (fun ⟨n, x46, x47⟩ => n) ⟨FUEL, m, 0⟩ ?_ ?_ (t1_ eR) ?_
   · exact hl41
   · exact ⟨rfl, True.intro⟩
   ·
    rintro ⟨n, x46, x47⟩ h
    cases n with
    | zero => exact none_e h
    | succ n => ?_
    replace h : mirror_Mirror_fetch_l3_b s a12 (mirror_Mirror_fetch_l3 s a12 n) x46 x47 = some y43 := h
    unfold mirror_Mirror_fetch_l3_b at h
    show CJ _ _ _ _ _ (([(66, .int .i64 (((x47 : Nat) : Int)))] : Slots) ++ forget _ _) (MirQ bs vlm bm x46 :: _)
    refine sR <| oP (P_lss (a := ((x47 : Nat) : Int)) (b := ((a12.length : Nat) : Int)) rfl rfl) rfl <| nT <| CJ_seq <| CJ_condP rfl bT_dec (fun hg7 => ?_) (fun hg7 => ?_)
    ·
     replace h := ite_t hg7 h
     refine kT <| CJ_seq <| CJ_block <| sR <| oV (V_index (i := x47) rfl rfl rfl (by omega) foc1 (Reads.sl _ _ _) Try.runUnderlying22 Try.sizeOf3) rfl <| oV (V_loadE rfl rfl (by omega) foc1 (Reads.sl _ _ _) rfl rfl Try.isAgg3) rfl <| oA rfl rfl <| nT <| CJ_region <| oM rfl rfl <| oM rfl rfl ?_
     obtain ⟨r48, hr49, h⟩ := bind_e h
     exact oO <| O_call (LQ_mirror_Mirror_note hr49) rfl Try.call44 (Dels.cons del0 (Dels.cons del1 Dels.nil)) rfl fun _ _ => RJ_nil <| QJ_block_normal <| QJ_then <| CJ_region <| oP (PJ_eq (P_add (a := ((x47 : Nat) : Int)) (b := (1 : Int)) rfl rfl (by omega)) rfl) rfl <| oM rfl rfl <| RJ_nil <| nR ⟨n, r48.2, (x47 + 1)⟩ h ⟨rfl, True.intro⟩ (t0_ (t1_ eR))
    ·
     replace h := ite_f hg7 h
     exact CJ_exit <| QJ_then_exit <| QJ_round_exit <| QJ_block_here <| cR x46 (Option.some.inj h).symm True.intro eR
  ·
   rintro a45 hy50
   replace h := bindK_at hK42 hy50
   show CJ _ _ _ _ _ (([] : Slots) ++ forget _ _) (MirQ bs vlm bm a45 :: _)
   refine sR <| oA rfl rfl <| oA rfl rfl <| oA rfl rfl <| oA rfl rfl <| nT <| CJ_ret <| QJ_ent (fun h hh => sl_nil (t := tyI) h hh) ?_
   cases h
   exact fE (res4 Try.results32 rfl rfl rfl rfl) ⟨none, 0, 0⟩ (t1_ (t2_ (t0_ (eD eR))))
theorem LQ_mirror_Mirror_follow {W : World} {bm : Nat} {vlm : Sl3} {bs : Nat} {m : MirS} {at_1 : Int} {w : UInt64} {s : ArrS} {r : Int × MirS × ArrS} (h : mirror_Mirror_follow m at_1 w s = some r) :
    CSpec Try.prog W 48 [ptr bm 0, .int .i64 at_1, .int .u64 (w.toNat : Int)] [MirQ bs vlm bm m, Arr bs s] (fun x : Unit => .int .i64 r.1) (fun _ => True) (fun x F => MirQ bs vlm bm r.2.1 :: Arr bs r.2.2 :: F) := by
 refine CSpec.of_body Try.func48 rfl Try.ntmps48 rfl fun F => ?_
 show CJ _ _ _ _ _ _ (_ :: _ :: F)
 unfold mirror_Mirror_follow at h
 refine sR <| oA rfl rfl <| nT <| CJ_seq <| CJ_seq <| CJ_entX (Ent.transX (t0_ eR) (MirQ_open (l := m))) fun oc1 => CJ_pure (fun h hh => Rs_len (stars_perm (del2 (A := Rs (DevP bs) (m.legs.map mlegS.dev) oc1.1)).out h hh)) fun hdl3 => lC del1 fun hlen4 => ?_
 rw [mk_mleg_len (by have := hdl3; simpa using this)] at hlen4
 refine lC del4 fun hlen5 => CJ_region <| oM rfl rfl <| oP (P_nilCheck rfl) rfl <| oP (P_fieldAddr rfl ⟨_, _, _, Try.runUnderlying74, rfl, rfl, Try.sizeOf70, rfl⟩) rfl <| oV (V_load rfl foc0 rfl Try.isAgg70) rfl <| oV (VJ_eq (V_len rfl foc1 (Reads.sl _ _ _) Try.runUnderlying70) (congrArg (fun z : Nat => Value.int .i64 (z : Int)) (mk_mleg_len (by have := hdl3; simpa using this)).symm)) rfl <| oM rfl rfl <| RJ_nil <| QJ_ent (Ent.trans eR (MirQ_mk (v0 := m.legs) (v1 := m.log) (v2 := m.hasLog) (v3 := m.logState) (v4 := m.size) (v5 := m.region) (v6 := m.dirty) (v7 := m.copied) (h0 := oc1.1) (h1 := oc1.2.1) (h2 := oc1.2.2))) <| QJ_then ?_
 obtain ⟨y8, hl6, hK7⟩ := seq_e h
 refine CJ_cutT (X := MirS × ArrS) [6, 7, 8, 14, 15, 16, 17, 18, 19, 20, 21, 22, 23, 24, 25, 26, 27, 28, 29, 30, 31, 32, 33, 34, 35, 36, 37, 38, 39, 40, 41, 42, 43, 44, 45, 46, 47, 48, 49, 50, 51, 52, 53, 54, 55] (fun a11 => ([] : Slots)) (fun a11 R => MirQ bs vlm bm a11.1 :: Arr bs a11.2 :: R) (fun a11 => y8 = .inl a11) (Dels.cons del0 (Dels.cons del0 Dels.nil)) ?_ ?_
 ·
  refine CJ_block <| CJ_loopR (X := Nat × MirS × ArrS × Nat) [6, 7, 8, 14, 15, 16, 17, 18, 19, 20, 21, 22, 23, 24, 25, 26, 27, 28, 29, 30, 31, 32, 33, 34, 35, 36, 37, 38, 39, 40, 41, 42, 43, 44, 45, 46, 47, 48, 49, 50, 51, 52, 53, 54, 55] (fun ⟨n, x12, x13, x14⟩ => ([(14, .int .i64 (((x14 : Nat) : Int)))] : Slots)) (fun ⟨n, x12, x13, x14⟩ R => MirQ bs vlm bm x12 :: Arr bs x13 :: R) (fun ⟨n, x12, x13, x14⟩ => mirror_Mirror_follow_l1 m at_1 w n x12 x13 x14 = some y8) (fun ⟨n, x12, x13, x14⟩ => n) ⟨FUEL, m, s, 0⟩ ?_ ?_ eR ?_
  · exact hl6
  · exact ⟨rfl, True.intro⟩
  ·
   rintro ⟨n, x12, x13, x14⟩ h
   cases n with
   | zero => exact none_e h
   | succ n => ?_
   replace h : mirror_Mirror_follow_l1_b m at_1 w (mirror_Mirror_follow_l1 m at_1 w n) x12 x13 x14 = some y8 := h
   unfold mirror_Mirror_follow_l1_b at h
   show CJ _ _ _ _ _ (([(14, .int .i64 (((x14 : Nat) : Int)))] : Slots) ++ forget _ _) (MirQ bs vlm bm x12 :: Arr bs x13 :: _)
   refine sR <| oP (P_lss (a := ((x14 : Nat) : Int)) (b := ((m.legs.length : Nat) : Int)) rfl rfl) rfl <| nT <| CJ_seq <| CJ_condP rfl bT_dec (fun hg1 => ?_) (fun hg1 => ?_)
   ·
    replace h := ite_t hg1 h
    refine kT <| CJ_seq <| CJ_block <| sR <| oM rfl rfl <| oA rfl rfl <| nT <| CJ_seq <| CJ_entX (Ent.transX (t0_ eR) (MirQ_open (l := x12))) fun oc15 => CJ_pure (fun h hh => Rs_len (stars_perm (del2 (A := Rs (DevP bs) (x12.legs.map mlegS.dev) oc15.1)).out h hh)) fun hdl17 => lC del1 fun hlen18 => ?_
    rw [mk_mleg_len (by have := hdl17; simpa using this)] at hlen18
    refine lC del4 fun hlen19 => CJ_region <| oM rfl rfl <| oP (P_nilCheck rfl) rfl <| oP (P_fieldAddr rfl ⟨_, _, _, Try.runUnderlying74, rfl, rfl, Try.sizeOf70, rfl⟩) rfl <| oV (V_load rfl foc0 rfl Try.isAgg70) rfl <| oM rfl rfl ?_
    obtain ⟨hg2, h⟩ := grd_de h
    refine oV (V_index (i := x14) rfl rfl rfl (show x14 < (mk_mleg x12.legs oc15.1).length by rw [mk_mleg_len (by have := hdl17; simpa using this)]; exact hg2) foc1 (Reads.sl _ _ _) Try.runUnderlying70 Try.sizeOf83) rfl <| oP (P_fieldE rfl ⟨_, _, _, Try.runUnderlying83, rfl, rfl, Try.sizeOf72, rfl⟩) rfl <| oV (VJ_eq (V_loadE rfl rfl (show x14 < (mk_mleg x12.legs oc15.1).length by rw [mk_mleg_len (by have := hdl17; simpa using this)]; exact hg2) foc1 (Reads.sl _ _ _) rfl rfl Try.isAgg72) (show (.int .i64 ((x12.legs.getD x14 mleg_x0).state) : Value) = .int .i64 ((mk_mleg x12.legs oc15.1).getD x14 mleg_h0).state from by rw [mk_mleg_at (by have := hdl17; simpa using this)])) rfl <| oP (P_eql (a := (x12.legs.getD x14 mleg_x0).state) (b := (2 : Int)) rfl rfl) rfl <| oM rfl rfl <| RJ_mbT rfl rfl rfl (fun hG20 => have hP21 : ((x12.legs.getD x14 mleg_x0).state = (2 : Int)) := (bT_dec).1 hG20; VJ_P (P_move rfl)) <| RJ_mbT rfl rfl rfl (fun hG22 => have hP23 : ((x12.legs.getD x14 mleg_x0).state = (2 : Int)) := (bT_dec).1 hG22; VJ_P (P_move rfl)) <| RJ_mbT rfl rfl rfl (fun hG24 => have hP25 : ((x12.legs.getD x14 mleg_x0).state = (2 : Int)) := (bT_dec).1 hG24; VJ_P (P_nilCheck (mbx hG24 rfl))) <| RJ_mbT rfl rfl rfl (fun hG26 => have hP27 : ((x12.legs.getD x14 mleg_x0).state = (2 : Int)) := (bT_dec).1 hG26; VJ_P (P_fieldAddr (mbx hG26 rfl) ⟨_, _, _, Try.runUnderlying74, rfl, rfl, Try.sizeOf70, rfl⟩)) ?_
    refine RJ_mbT rfl rfl rfl (fun hG28 => have hP29 : ((x12.legs.getD x14 mleg_x0).state = (2 : Int)) := (bT_dec).1 hG28; V_load (mbx hG28 rfl) foc0 rfl Try.isAgg70) <| RJ_mbT rfl rfl rfl (fun hG30 => have hP31 : ((x12.legs.getD x14 mleg_x0).state = (2 : Int)) := (bT_dec).1 hG30; VJ_P (P_move rfl)) ?_
    obtain ⟨hg3, h⟩ := grd_de h
    refine RJ_mbT rfl rfl rfl (fun hG32 => have hP33 : ((x12.legs.getD x14 mleg_x0).state = (2 : Int)) := (bT_dec).1 hG32; V_index (i := x14) (mbx hG32 rfl) (mbx hG32 rfl) rfl (show x14 < (mk_mleg x12.legs oc15.1).length by rw [mk_mleg_len (by have := hdl17; simpa using this)]; exact (hg3 hP33)) foc1 (Reads.sl _ _ _) Try.runUnderlying70 Try.sizeOf83) <| RJ_mbT rfl rfl rfl (fun hG34 => have hP35 : ((x12.legs.getD x14 mleg_x0).state = (2 : Int)) := (bT_dec).1 hG34; VJ_P (P_fieldE (mbx hG34 rfl) ⟨_, _, _, Try.runUnderlying83, rfl, rfl, Try.sizeOf3, rfl⟩)) <| RJ_mbT rfl rfl rfl (fun hG36 => have hP37 : ((x12.legs.getD x14 mleg_x0).state = (2 : Int)) := (bT_dec).1 hG36; VJ_eq (V_loadE (mbx hG36 rfl) rfl (show x14 < (mk_mleg x12.legs oc15.1).length by rw [mk_mleg_len (by have := hdl17; simpa using this)]; exact (by omega)) foc1 (Reads.sl _ _ _) rfl rfl Try.isAgg3) (show (.int .i64 ((x12.legs.getD x14 mleg_x0).copied) : Value) = .int .i64 ((mk_mleg x12.legs oc15.1).getD x14 mleg_h0).copied from by rw [mk_mleg_at (by have := hdl17; simpa using this)])) <| RJ_mbT rfl rfl rfl (fun hG38 => have hP39 : ((x12.legs.getD x14 mleg_x0).state = (2 : Int)) := (bT_dec).1 hG38; VJ_P (P_lss (a := at_1) (b := (x12.legs.getD x14 mleg_x0).copied) (mbx hG38 rfl) (mbx hG38 rfl))) <| oP (P_pickAnd rfl (fun hh => mbx hh rfl) rfl) rfl <| RJ_nil ?_
    refine QJ_ent (Ent.trans eR (MirQ_mk (v0 := x12.legs) (v1 := x12.log) (v2 := x12.hasLog) (v3 := x12.logState) (v4 := x12.size) (v5 := x12.region) (v6 := x12.dirty) (v7 := x12.copied) (h0 := oc15.1) (h1 := oc15.2.1) (h2 := oc15.2.2))) <| QJ_then <| CJ_condP rfl (bT_and bT_dec bT_dec) (fun hg4 => ?_) (fun hg4 => ?_)
    ·
     replace h := ite_t hg4 h
     refine CJ_seq <| CJ_entX (Ent.transX (t0_ eR) (MirQ_open (l := x12))) fun oc40 => CJ_pure (fun h hh => Rs_len (stars_perm (del2 (A := Rs (DevP bs) (x12.legs.map mlegS.dev) oc40.1)).out h hh)) fun hdl42 => lC del1 fun hlen43 => ?_
     rw [mk_mleg_len (by have := hdl42; simpa using this)] at hlen43
     refine lC del4 fun hlen44 => CJ_region <| oM rfl rfl <| oM rfl rfl <| oM rfl rfl <| oP (P_nilCheck rfl) rfl <| oP (P_fieldAddr rfl ⟨_, _, _, Try.runUnderlying74, rfl, rfl, Try.sizeOf70, rfl⟩) rfl <| oV (V_load rfl foc0 rfl Try.isAgg70) rfl <| oM rfl rfl ?_
     obtain ⟨hg5, h⟩ := grd_de h
     refine oV (V_index (i := x14) rfl rfl rfl (show x14 < (mk_mleg x12.legs oc40.1).length by rw [mk_mleg_len (by have := hdl42; simpa using this)]; exact hg5) foc1 (Reads.sl _ _ _) Try.runUnderlying70 Try.sizeOf83) rfl <| oP (P_fieldE rfl ⟨_, _, _, Try.runUnderlying83, rfl, rfl, Try.sizeOf57, rfl⟩) rfl <| RJ_ent (Ent.trans (t2_ eR) (mk_mleg_rs (i := x14) hg5)) <| oV (VJ_eq (V_loadE rfl rfl (show x14 < (mk_mleg x12.legs oc40.1).length by rw [mk_mleg_len (by have := hdl42; simpa using this)]; exact hg5) foc3 (Reads.sl _ _ _) rfl rfl Try.isAgg57) (show (IfH.v (oc40.1.getD x14 tyDev.dflt) : Value) = IfH.v ((mk_mleg x12.legs oc40.1).getD x14 mleg_h0).dev from by rw [mk_mleg_at (by have := hdl42; simpa using this)])) rfl <| oM rfl rfl <| oM rfl rfl <| RJ_pure (fun h hh => DevP_dep h (stars_perm (del0 (A := DevP bs ((x12.legs.getD x14 mleg_x0).dev) (oc40.1.getD x14 tyDev.dflt))).out h hh)) fun hdp46 => ?_
     obtain ⟨r47, hr48, h⟩ := bind_e h
     refine oO <| O_callI rfl (dev_Write hr48 hdp46) rfl (Dels.cons del0 (Dels.cons del5 Dels.nil)) rfl fun _ _ => RJ_ent (Ent.trans (t3_ (t3_ (t2_ (t2_ (t2_ eR))))) (MirQ_mk (v0 := x12.legs) (v1 := x12.log) (v2 := x12.hasLog) (v3 := x12.logState) (v4 := x12.size) (v5 := x12.region) (v6 := x12.dirty) (v7 := x12.copied) (h0 := oc40.1) (h1 := oc40.2.1) (h2 := oc40.2.2))) ?_
     obtain ⟨r49, hr50, h⟩ := bind_e h
     refine oO <| O_call (LQ_mirror_Mirror_note hr50) rfl Try.call44 (Dels.cons del0 (Dels.cons del1 Dels.nil)) rfl fun _ _ => oA rfl rfl <| nT <| sR <| oM rfl rfl <| oP (P_neq (a := r49.1) (b := (0 : Int)) rfl rfl) rfl <| nT <| CJ_condP rfl bT_dec (fun hg6 => ?_) (fun hg6 => ?_)
     ·
      replace h := ite_t hg6 h
      refine sR <| oM rfl rfl <| oA rfl rfl <| nT <| CJ_ret <| QJ_block_ret <| QJ_then_ret <| QJ_round_ret <| QJ_block_ret <| QJ_then_ret ?_
      have hE := Option.some.inj h
      replace hE := seq_inr hK7 hE.symm
      subst hE
      exact fE (res1 Try.results48 rfl) () (t0_ (t0_ (eD eR)))
     ·
      replace h := ite_f hg6 h
      exact CJ_skip <| QJ_block_normal <| QJ_then <| CJ_region <| oP (PJ_eq (P_add (a := ((x14 : Nat) : Int)) (b := (1 : Int)) rfl rfl (by omega)) rfl) rfl <| oM rfl rfl <| RJ_nil <| nR ⟨n, r49.2, r47.2, (x14 + 1)⟩ h ⟨rfl, True.intro⟩ (t0_ (t0_ (eD eR)))
    ·
     replace h := ite_f hg4 h
     exact CJ_skip <| QJ_block_normal <| QJ_then <| CJ_region <| oP (PJ_eq (P_add (a := ((x14 : Nat) : Int)) (b := (1 : Int)) rfl rfl (by omega)) rfl) rfl <| oM rfl rfl <| RJ_nil <| nR ⟨n, x12, x13, (x14 + 1)⟩ h ⟨rfl, True.intro⟩ eR
   ·
    replace h := ite_f hg1 h
    exact CJ_exit <| QJ_then_exit <| QJ_round_exit <| QJ_block_here <| cR (x12, x13) (Option.some.inj h).symm True.intro eR
 ·
  rintro a11 hy51
  replace h := seq_inl hK7 hy51
  show CJ _ _ _ _ _ (([] : Slots) ++ forget _ _) (MirQ bs vlm bm a11.1 :: Arr bs a11.2 :: _)
  refine sR <| oA rfl rfl <| nT <| CJ_ret ?_
  cases h
  exact fE (res1 Try.results48 rfl) () eR
theorem LQ_mirror_Mirror_spread_1 {W : World} {bp1 : Nat} {i : Int} {p1 : Int} {r : Bool} (h : mirror_Mirror_spread_1 i p1 = some r) :
    CSpec Try.prog W 64 [.int .i64 i, ptr bp1 0] [blk bp1 3 [.int .i64 p1]] (fun x : Unit => .bool r) (fun _ => True) (fun x F => blk bp1 3 [.int .i64 p1] :: F) := by
 refine CSpec.of_body Try.func64 rfl Try.ntmps64 rfl fun F => ?_
 show CJ _ _ _ _ _ _ (_ :: F)
 unfold mirror_Mirror_spread_1 at h
 refine sR <| oA rfl rfl <| nT <| sR <| oM rfl rfl <| oV (V_load rfl foc0 rfl Try.isAgg3) rfl <| oP (P_neq (a := i) (b := p1) rfl rfl) rfl <| oA rfl rfl <| nT <| CJ_ret ?_
 cases h
 exact fE (res1 Try.results64 rfl) () eR
theorem LQ_mirror_Mirror_spread_2 {W : World} {bp1 : Nat} {Ap1 : HP} {vp1 : Value} {bx_2 : Nat} {bx_2_v : Nat} {vlx_2_v : Sl3} {be_3 : Nat} {be_4 : Nat} {bs : Nat} {i : Int} {p1 : List Int} {x_2_v : MirS} {e_3 : Int} {e_4 : UInt64} {s : ArrS} {r : Int × ArrS} (rp1 : Reads Ap1 tyI vp1 p1) (h : mirror_Mirror_spread_2 i p1 x_2_v e_3 e_4 s = some r) :
    CSpec Try.prog W 65 [.int .i64 i, ptr bp1 0, ptr bx_2 0, ptr be_3 0, ptr be_4 0] [blk bp1 22 [vp1], Ap1, blk bx_2 38 [ptr bx_2_v 0], MirQ bs vlx_2_v bx_2_v x_2_v, blk be_3 3 [.int .i64 e_3], blk be_4 33 [.int .u64 (e_4.toNat : Int)], Arr bs s] (fun x : Unit => .int .i64 r.1) (fun _ => True) (fun x F => blk bp1 22 [vp1] :: Ap1 :: blk bx_2 38 [ptr bx_2_v 0] :: MirQ bs vlx_2_v bx_2_v x_2_v :: blk be_3 3 [.int .i64 e_3] :: blk be_4 33 [.int .u64 (e_4.toNat : Int)] :: Arr bs r.2 :: F) := by
 refine CSpec.of_body Try.func65 rfl Try.ntmps65 rfl fun F => ?_
 show CJ _ _ _ _ _ _ (_ :: _ :: _ :: _ :: _ :: _ :: _ :: F)
 unfold mirror_Mirror_spread_2 at h
 refine CJ_pure (len_of rp1 del1) fun hlen1 => sR <| oA rfl rfl <| nT <| CJ_seq <| sR <| oV (V_load rfl foc0 rfl Try.isAgg22) rfl <| oM rfl rfl ?_
 obtain ⟨r2, hr3, h⟩ := bind_e h
 refine oO <| O_call (L_slices_Contains_int rp1 hr3) rfl Try.call36 (Dels.cons del1 Dels.nil) rfl fun _ _ => oP (P_not rfl) rfl <| nT ?_
 obtain ⟨y6, hl4, hK5⟩ := seq_e h
 refine CJ_cutT (X := Unit) [6, 7, 8, 14, 15, 16, 17, 18, 19, 20, 21, 22, 23, 24, 25, 26, 27, 28, 29, 30, 31, 32, 33, 34, 35, 36, 37, 38, 39, 40, 41, 42] (fun _ => ([] : Slots)) (fun _ R => R) (fun _ => y6 = .inl ()) Dels.nil ?_ ?_
 ·
  have h := hl4
  refine CJ_condP rfl (bT_not Iff.rfl) (fun hg1 => ?_) (fun hg1 => ?_)
  ·
   replace h := ite_t hg1 h
   refine CJ_seq <| CJ_entX (Ent.transX (t3_ eR) (MirQ_open (l := x_2_v))) fun oc8 => CJ_pure (fun h hh => Rs_len (stars_perm (del2 (A := Rs (DevP bs) (x_2_v.legs.map mlegS.dev) oc8.1)).out h hh)) fun hdl10 => lC del1 fun hlen11 => ?_
   rw [mk_mleg_len (by have := hdl10; simpa using this)] at hlen11
   refine lC del4 fun hlen12 => AJ_startH 512 (by kernel_rfl) rfl <| aV 0 1 rfl rfl (GY_none rfl) eR (V_load rfl foc7 rfl Try.isAgg38) rfl <| aN 1 3 rfl rfl (P_nilCheck rfl) rfl <| aN 2 7 rfl rfl (P_fieldAddr rfl ⟨_, _, _, Try.runUnderlying74, rfl, rfl, Try.sizeOf70, rfl⟩) rfl <| aV 3 15 rfl rfl (GY_none rfl) eR (V_load rfl foc0 rfl Try.isAgg70) rfl <| aN 4 31 rfl rfl (P_move rfl) rfl ?_
   obtain ⟨hg2, h⟩ := grd_de h
   refine aV 5 63 rfl rfl (GY_none rfl) eR (V_index (i := (i).toNat) rfl rfl (Int.toNat_of_nonneg (hg2.1)).symm (show (i).toNat < (mk_mleg x_2_v.legs oc8.1).length by rw [mk_mleg_len (by have := hdl10; simpa using this)]; exact (by omega)) foc1 (Reads.sl _ _ _) Try.runUnderlying70 Try.sizeOf83) rfl <| aN 6 127 rfl rfl (P_fieldE rfl ⟨_, _, _, Try.runUnderlying83, rfl, rfl, Try.sizeOf57, rfl⟩) rfl <| AJ_ent (Ent.trans (t2_ eR) (mk_mleg_rs (i := (i).toNat) (by omega))) <| aV 7 255 rfl rfl (GY_none rfl) (t2_ (t2_ (t1_ (t1_ (t1_ (t1_ (t1_ (t1_ (t1_ (t1_ (t1_ (eD eR)))))))))))) (VJ_eq (V_loadE rfl rfl (show (i).toNat < (mk_mleg x_2_v.legs oc8.1).length by rw [mk_mleg_len (by have := hdl10; simpa using this)]; exact (by omega)) foc1 (Reads.sl _ _ _) rfl rfl Try.isAgg57) (show (IfH.v ((oc8.1.getD ((i).toNat) tyDev.dflt)) : Value) = IfH.v ((mk_mleg x_2_v.legs oc8.1).getD ((i).toNat) mleg_h0).dev from by rw [mk_mleg_at (by have := hdl10; simpa using this)])) rfl <| aV 8 511 rfl rfl (GY_none rfl) (t2_ (t2_ (t1_ (t1_ (t1_ (t1_ (t1_ (t1_ (t1_ (t1_ (t1_ (eD eR)))))))))))) (V_load rfl foc8 rfl Try.isAgg3) rfl ?_
   refine AJ_pure (fun h hh => DevP_dep h (stars_perm (del0 (A := DevP bs ((x_2_v.legs.getD ((i).toNat) mleg_x0).dev) ((oc8.1.getD ((i).toNat) tyDev.dflt)))).out h hh)) fun hdp14 => ?_
   obtain ⟨r15, hr16, h⟩ := bind_e h
   refine AJ_op 9 1023 rfl (by kernel_rfl) rfl (GY_none rfl) <| O_callI rfl (dev_Read hr16 hdp14) rfl (Dels.cons del0 (Dels.cons del10 Dels.nil)) rfl fun _ _ => ⟨fun h => absurd h (by decide), ?_⟩
   refine aN 10 2047 rfl rfl (P_move rfl) rfl <| aN 11 4095 rfl rfl (P_extract rfl rfl) rfl <| aN 12 8191 rfl rfl (P_extract rfl rfl) rfl <| aN 13 16383 rfl rfl (P_assign rfl) rfl <| aN 14 32767 rfl rfl (P_assign rfl) rfl <| AJ_done (by kernel_rfl) <| QJ_ent (Ent.trans (t3_ (t3_ (t2_ (t2_ (t2_ eR))))) (MirQ_mk (v0 := x_2_v.legs) (v1 := x_2_v.log) (v2 := x_2_v.hasLog) (v3 := x_2_v.logState) (v4 := x_2_v.size) (v5 := x_2_v.region) (v6 := x_2_v.dirty) (v7 := x_2_v.copied) (h0 := oc8.1) (h1 := oc8.2.1) (h2 := oc8.2.2))) <| QJ_ent (t0_ (t1_ (t1_ (t1_ (t1_ (t1_ (t1_ (eD eR)))))))) <| QJ_then <| sR <| oM rfl rfl <| oP (P_eql (a := r15.2) (b := (0 : Int)) rfl rfl) rfl <| oM rfl rfl <| RJ_mbT rfl rfl rfl (fun hG17 => have hP18 : (r15.2 = (0 : Int)) := (bT_dec).1 hG17; VJ_P (P_move rfl)) <| RJ_mbT rfl rfl rfl (fun hG19 => have hP20 : (r15.2 = (0 : Int)) := (bT_dec).1 hG19; V_load rfl foc6 rfl Try.isAgg33) <| RJ_mbT rfl rfl rfl (fun hG21 => have hP22 : (r15.2 = (0 : Int)) := (bT_dec).1 hG21; VJ_P (P_eq_u64 (a := r15.1) (b := e_4) (mbx hG21 rfl) (mbx hG21 rfl))) <| oP (P_pickAnd rfl (fun hh => mbx hh rfl) rfl) rfl <| oM rfl rfl <| RJ_mbF rfl rfl rfl (fun hG23 => have hP24 : ¬ ((r15.2 = (0 : Int)) ∧ (r15.1 = e_4)) := nP ((bT_and bT_dec bT_dec)) hG23; VJ_P (P_move rfl)) ?_
   refine RJ_mbF rfl rfl rfl (fun hG25 => have hP26 : ¬ ((r15.2 = (0 : Int)) ∧ (r15.1 = e_4)) := nP ((bT_and bT_dec bT_dec)) hG25; VJ_P (P_neq (a := r15.2) (b := (0 : Int)) (mbx hG25 rfl) rfl)) <| RJ_mbF rfl rfl rfl (fun hG27 => have hP28 : ¬ ((r15.2 = (0 : Int)) ∧ (r15.1 = e_4)) := nP ((bT_and bT_dec bT_dec)) hG27; VJ_P (P_move (mbx hG27 rfl))) <| RJ_mbGT rfl rfl rfl (fun hG29 => have hP30 : ¬ ((r15.2 = (0 : Int)) ∧ (r15.1 = e_4)) := nP ((bT_and bT_dec bT_dec)) (and_l hG29); have hP31 : (r15.2 ≠ (0 : Int)) := (bT_dec).1 (and_r hG29); VJ_P (P_move rfl)) <| RJ_mbGT rfl rfl rfl (fun hG32 => have hP33 : ¬ ((r15.2 = (0 : Int)) ∧ (r15.1 = e_4)) := nP ((bT_and bT_dec bT_dec)) (and_l hG32); have hP34 : (r15.2 ≠ (0 : Int)) := (bT_dec).1 (and_r hG32); VJ_P (P_neq (a := r15.2) (b := (7 : Int)) (mbx hG32 rfl) rfl)) <| RJ_mbF rfl rfl rfl (fun hG35 => have hP36 : ¬ ((r15.2 = (0 : Int)) ∧ (r15.1 = e_4)) := nP ((bT_and bT_dec bT_dec)) hG35; VJ_P (P_pickAnd (mbx hG35 rfl) (fun hh => mbx (and_i hG35 hh) rfl) rfl)) <| oP (P_pickOr rfl rfl (fun hh => mbx (not_f hh) rfl)) rfl <| nT <| CJ_condP rfl (bT_or (bT_and bT_dec bT_dec) (bT_and bT_dec bT_dec)) (fun hg3 => ?_) (fun hg3 => ?_)
   ·
    replace h := ite_t hg3 h
    refine sR <| oM rfl rfl <| oA rfl rfl <| nT <| CJ_ret <| QJ_then_ret ?_
    have hE := Option.some.inj h
    replace hE := seq_inr hK5 hE.symm
    subst hE
    exact fE (res1 Try.results65 rfl) () (t3_ (t2_ (t2_ (t0_ (t1_ (t1_ eR))))))
   ·
    replace h := ite_f hg3 h
    exact CJ_skip <| cR () (Option.some.inj h).symm True.intro (t2_ (t2_ (t2_ (t0_ (t1_ (t1_ eR))))))
  ·
   replace h := ite_f hg1 h
   exact CJ_skip <| cR () (Option.some.inj h).symm True.intro eR
 ·
  rintro _ hy37
  replace h := seq_inl hK5 hy37
  show CJ _ _ _ _ _ (([] : Slots) ++ forget _ _) (_)
  refine CJ_seq <| CJ_seq <| CJ_entX (Ent.transX (t3_ eR) (MirQ_open (l := x_2_v))) fun oc38 => CJ_pure (fun h hh => Rs_len (stars_perm (del2 (A := Rs (DevP bs) (x_2_v.legs.map mlegS.dev) oc38.1)).out h hh)) fun hdl40 => lC del1 fun hlen41 => ?_
  rw [mk_mleg_len (by have := hdl40; simpa using this)] at hlen41
  refine lC del4 fun hlen42 => AJ_startH 1024 (by kernel_rfl) rfl <| aV 0 1 rfl rfl (GY_none rfl) eR (V_load rfl foc7 rfl Try.isAgg38) rfl <| aN 1 3 rfl rfl (P_nilCheck rfl) rfl <| aN 2 7 rfl rfl (P_fieldAddr rfl ⟨_, _, _, Try.runUnderlying74, rfl, rfl, Try.sizeOf70, rfl⟩) rfl <| aV 3 15 rfl rfl (GY_none rfl) eR (V_load rfl foc0 rfl Try.isAgg70) rfl <| aN 4 31 rfl rfl (P_move rfl) rfl ?_
  obtain ⟨hg4, h⟩ := grd_de h
  refine aV 5 63 rfl rfl (GY_none rfl) eR (V_index (i := (i).toNat) rfl rfl (Int.toNat_of_nonneg (hg4.1)).symm (show (i).toNat < (mk_mleg x_2_v.legs oc38.1).length by rw [mk_mleg_len (by have := hdl40; simpa using this)]; exact (by omega)) foc1 (Reads.sl _ _ _) Try.runUnderlying70 Try.sizeOf83) rfl <| aN 6 127 rfl rfl (P_fieldE rfl ⟨_, _, _, Try.runUnderlying83, rfl, rfl, Try.sizeOf57, rfl⟩) rfl <| AJ_ent (Ent.trans (t2_ eR) (mk_mleg_rs (i := (i).toNat) (by omega))) <| aV 7 255 rfl rfl (GY_none rfl) (t2_ (t2_ (t1_ (t1_ (t1_ (t1_ (t1_ (t1_ (t1_ (t1_ (t1_ (eD eR)))))))))))) (VJ_eq (V_loadE rfl rfl (show (i).toNat < (mk_mleg x_2_v.legs oc38.1).length by rw [mk_mleg_len (by have := hdl40; simpa using this)]; exact (by omega)) foc1 (Reads.sl _ _ _) rfl rfl Try.isAgg57) (show (IfH.v ((oc38.1.getD ((i).toNat) tyDev.dflt)) : Value) = IfH.v ((mk_mleg x_2_v.legs oc38.1).getD ((i).toNat) mleg_h0).dev from by rw [mk_mleg_at (by have := hdl40; simpa using this)])) rfl <| aV 8 511 rfl rfl (GY_none rfl) (t2_ (t2_ (t1_ (t1_ (t1_ (t1_ (t1_ (t1_ (t1_ (t1_ (t1_ (eD eR)))))))))))) (V_load rfl foc8 rfl Try.isAgg3) rfl ?_
  refine aV 9 1023 rfl rfl (GY_none rfl) (t2_ (t2_ (t1_ (t1_ (t1_ (t1_ (t1_ (t1_ (t1_ (t1_ (t1_ (eD eR)))))))))))) (V_load rfl foc9 rfl Try.isAgg33) rfl <| AJ_pure (fun h hh => DevP_dep h (stars_perm (del0 (A := DevP bs ((x_2_v.legs.getD ((i).toNat) mleg_x0).dev) ((oc38.1.getD ((i).toNat) tyDev.dflt)))).out h hh)) fun hdp44 => ?_
  obtain ⟨r45, hr46, h⟩ := bind_e h
  refine AJ_op 10 2047 rfl (by kernel_rfl) rfl (GY_none rfl) <| O_callI rfl (dev_Write hr46 hdp44) rfl (Dels.cons del0 (Dels.cons del10 Dels.nil)) rfl fun _ _ => ⟨fun h => absurd h (by decide), ?_⟩
  refine aN 11 4095 rfl rfl (P_assign rfl) rfl <| AJ_done (by kernel_rfl) <| QJ_ent (Ent.trans (t3_ (t3_ (t2_ (t2_ (t2_ eR))))) (MirQ_mk (v0 := x_2_v.legs) (v1 := x_2_v.log) (v2 := x_2_v.hasLog) (v3 := x_2_v.logState) (v4 := x_2_v.size) (v5 := x_2_v.region) (v6 := x_2_v.dirty) (v7 := x_2_v.copied) (h0 := oc38.1) (h1 := oc38.2.1) (h2 := oc38.2.2))) <| QJ_ent (t0_ (t1_ (t1_ (t1_ (t1_ (t1_ (t1_ (eD eR)))))))) <| QJ_then <| sR <| oM rfl rfl <| oP (P_neq (a := r45.1) (b := (0 : Int)) rfl rfl) rfl <| nT <| CJ_condP rfl bT_dec (fun hg5 => ?_) (fun hg5 => ?_)
  ·
   replace h := ite_t hg5 h
   refine sR <| oM rfl rfl <| oA rfl rfl <| nT <| CJ_ret <| QJ_then_ret ?_
   cases h
   exact fE (res1 Try.results65 rfl) () (t3_ (t2_ (t2_ (t0_ (t1_ (t1_ eR))))))
  ·
   replace h := ite_f hg5 h
   refine kT <| CJ_seq <| CJ_entX (Ent.transX (t0_ eR) (MirQ_open (l := x_2_v))) fun oc47 => CJ_pure (fun h hh => Rs_len (stars_perm (del2 (A := Rs (DevP bs) (x_2_v.legs.map mlegS.dev) oc47.1)).out h hh)) fun hdl49 => lC del1 fun hlen50 => ?_
   rw [mk_mleg_len (by have := hdl49; simpa using this)] at hlen50
   refine lC del4 fun hlen51 => CJ_region <| oV (V_load rfl foc8 rfl Try.isAgg38) rfl <| oP (P_nilCheck rfl) rfl <| oP (P_fieldAddr rfl ⟨_, _, _, Try.runUnderlying74, rfl, rfl, Try.sizeOf70, rfl⟩) rfl <| oV (V_load rfl foc0 rfl Try.isAgg70) rfl <| oM rfl rfl ?_
   obtain ⟨hg6, h⟩ := grd_de h
   refine oV (V_index (i := (i).toNat) rfl rfl (Int.toNat_of_nonneg (hg6.1)).symm (show (i).toNat < (mk_mleg x_2_v.legs oc47.1).length by rw [mk_mleg_len (by have := hdl49; simpa using this)]; exact (by omega)) foc1 (Reads.sl _ _ _) Try.runUnderlying70 Try.sizeOf83) rfl <| oP (P_fieldE rfl ⟨_, _, _, Try.runUnderlying83, rfl, rfl, Try.sizeOf57, rfl⟩) rfl <| RJ_ent (Ent.trans (t2_ eR) (mk_mleg_rs (i := (i).toNat) (by omega))) <| oV (VJ_eq (V_loadE rfl rfl (show (i).toNat < (mk_mleg x_2_v.legs oc47.1).length by rw [mk_mleg_len (by have := hdl49; simpa using this)]; exact (by omega)) foc3 (Reads.sl _ _ _) rfl rfl Try.isAgg57) (show (IfH.v ((oc47.1.getD ((i).toNat) tyDev.dflt)) : Value) = IfH.v ((mk_mleg x_2_v.legs oc47.1).getD ((i).toNat) mleg_h0).dev from by rw [mk_mleg_at (by have := hdl49; simpa using this)])) rfl <| RJ_pure (fun h hh => DevP_dep h (stars_perm (del0 (A := DevP bs ((x_2_v.legs.getD ((i).toNat) mleg_x0).dev) ((oc47.1.getD ((i).toNat) tyDev.dflt)))).out h hh)) fun hdp53 => ?_
   obtain ⟨r54, hr55, h⟩ := bind_e h
   refine oO <| O_callI rfl (dev_Flush hr55 hdp53) rfl (Dels.cons del0 (Dels.cons del5 Dels.nil)) rfl fun _ _ => oA rfl rfl <| RJ_nil <| QJ_ent (Ent.trans (t3_ (t3_ (t2_ (t2_ (t2_ eR))))) (MirQ_mk (v0 := x_2_v.legs) (v1 := x_2_v.log) (v2 := x_2_v.hasLog) (v3 := x_2_v.logState) (v4 := x_2_v.size) (v5 := x_2_v.region) (v6 := x_2_v.dirty) (v7 := x_2_v.copied) (h0 := oc47.1) (h1 := oc47.2.1) (h2 := oc47.2.2))) <| QJ_ent (t0_ (t1_ (t1_ (t1_ (t1_ (t1_ (t1_ (eD eR)))))))) <| QJ_then <| CJ_ret ?_
   cases h
   exact fE (res1 Try.results65 rfl) () (t3_ (t2_ (t2_ (t0_ (t1_ (t1_ eR))))))
theorem LQ_mirror_Mirror_each__mirror_Mirror_spread_1 {W : World} {bm : Nat} {vlm : Sl3} {bchoose_c0 : Nat} {bdo_2_c0 : Nat} {Ado_2_c0 : HP} {vdo_2_c0 : Value} {bdo_2_c1 : Nat} {bdo_2_c2 : Nat} {bdo_2_c3 : Nat} {bs : Nat} {m : MirS} {choose_c0 : Int} {do_2_c0 : List Int} {do_2_c2 : Int} {do_2_c3 : UInt64} {s : ArrS} {r : Int × MirS × ArrS} (rdo_2_c0 : Reads Ado_2_c0 tyI vdo_2_c0 do_2_c0) (h : mirror_Mirror_each__mirror_Mirror_spread_1 m choose_c0 do_2_c0 do_2_c2 do_2_c3 s = some r) :
    CSpec Try.prog W 34 [ptr bm 0, .func (.func 64) #[] #[ptr bchoose_c0 0], .func (.func 65) #[] #[ptr bdo_2_c0 0, ptr bdo_2_c1 0, ptr bdo_2_c2 0, ptr bdo_2_c3 0]] [MirQ bs vlm bm m, blk bchoose_c0 3 [.int .i64 choose_c0], blk bdo_2_c0 22 [vdo_2_c0], Ado_2_c0, blk bdo_2_c1 38 [ptr bm 0], blk bdo_2_c2 3 [.int .i64 do_2_c2], blk bdo_2_c3 33 [.int .u64 (do_2_c3.toNat : Int)], Arr bs s] (fun x : Unit => .int .i64 r.1) (fun _ => True) (fun x F => MirQ bs vlm bm r.2.1 :: blk bchoose_c0 3 [.int .i64 choose_c0] :: blk bdo_2_c0 22 [vdo_2_c0] :: Ado_2_c0 :: blk bdo_2_c1 38 [ptr bm 0] :: blk bdo_2_c2 3 [.int .i64 do_2_c2] :: blk bdo_2_c3 33 [.int .u64 (do_2_c3.toNat : Int)] :: Arr bs r.2.2 :: F) := by
 refine CSpec.of_body Try.func34 rfl Try.ntmps34 rfl fun F => ?_
 show CJ _ _ _ _ _ _ (_ :: _ :: _ :: _ :: _ :: _ :: _ :: _ :: F)
 unfold mirror_Mirror_each__mirror_Mirror_spread_1 at h
 refine CJ_pure (len_of rdo_2_c0 del3) fun hlen1 => sR <| oA rfl rfl <| nT <| sR <| oM rfl rfl <| oP (P_makeFunc rfl rfl) rfl <| oA rfl rfl <| nT <| CJ_seq <| CJ_seq <| CJ_entX (Ent.transX (t0_ eR) (MirQ_open (l := m))) fun oc2 => CJ_pure (fun h hh => Rs_len (stars_perm (del2 (A := Rs (DevP bs) (m.legs.map mlegS.dev) oc2.1)).out h hh)) fun hdl4 => lC del1 fun hlen5 => ?_
 rw [mk_mleg_len (by have := hdl4; simpa using this)] at hlen5
 refine lC del4 fun hlen6 => CJ_region <| oM rfl rfl <| oP (P_nilCheck rfl) rfl <| oP (P_fieldAddr rfl ⟨_, _, _, Try.runUnderlying74, rfl, rfl, Try.sizeOf70, rfl⟩) rfl <| oV (V_load rfl foc0 rfl Try.isAgg70) rfl <| oV (VJ_eq (V_len rfl foc1 (Reads.sl _ _ _) Try.runUnderlying70) (congrArg (fun z : Nat => Value.int .i64 (z : Int)) (mk_mleg_len (by have := hdl4; simpa using this)).symm)) rfl <| oM rfl rfl <| RJ_nil <| QJ_ent (Ent.trans eR (MirQ_mk (v0 := m.legs) (v1 := m.log) (v2 := m.hasLog) (v3 := m.logState) (v4 := m.size) (v5 := m.region) (v6 := m.dirty) (v7 := m.copied) (h0 := oc2.1) (h1 := oc2.2.1) (h2 := oc2.2.2))) <| QJ_then ?_
 obtain ⟨y9, hl7, hK8⟩ := seq_e h
 refine CJ_cutT (X := MirS × ArrS) [6, 8, 9, 17, 18, 19, 20, 21, 22, 23, 24, 25, 26, 27, 28, 29, 30, 31, 32, 33, 34, 35, 36, 37, 38, 39, 40, 41, 42, 43] (fun a12 => ([] : Slots)) (fun a12 R => MirQ bs vlm bm a12.1 :: Arr bs a12.2 :: R) (fun a12 => y9 = .inl a12) (Dels.cons del0 (Dels.cons del6 Dels.nil)) ?_ ?_
 ·
  refine CJ_block <| CJ_loopR (X := Nat × MirS × ArrS × Nat) [6, 8, 9, 17, 18, 19, 20, 21, 22, 23, 24, 25, 26, 27, 28, 29, 30, 31, 32, 33, 34, 35, 36, 37, 38, 39, 40, 41, 42, 43] (fun ⟨n, x13, x14, x15⟩ => ([(17, .int .i64 (((x15 : Nat) : Int)))] : Slots)) (fun ⟨n, x13, x14, x15⟩ R => MirQ bs vlm bm x13 :: Arr bs x14 :: R) (fun ⟨n, x13, x14, x15⟩ => mirror_Mirror_each__mirror_Mirror_spread_1_l1 m choose_c0 do_2_c0 do_2_c2 do_2_c3 n x13 x14 x15 = some y9) (fun ⟨n, x13, x14, x15⟩ => n) ⟨FUEL, m, s, 0⟩ ?_ ?_ (t0_ (t6_ eR)) ?_
  · exact hl7
  · exact ⟨rfl, True.intro⟩
  ·
   rintro ⟨n, x13, x14, x15⟩ h
   cases n with
   | zero => exact none_e h
   | succ n => ?_
   replace h : mirror_Mirror_each__mirror_Mirror_spread_1_l1_b m choose_c0 do_2_c0 do_2_c2 do_2_c3 (mirror_Mirror_each__mirror_Mirror_spread_1_l1 m choose_c0 do_2_c0 do_2_c2 do_2_c3 n) x13 x14 x15 = some y9 := h
   unfold mirror_Mirror_each__mirror_Mirror_spread_1_l1_b at h
   show CJ _ _ _ _ _ (([(17, .int .i64 (((x15 : Nat) : Int)))] : Slots) ++ forget _ _) (MirQ bs vlm bm x13 :: Arr bs x14 :: _)
   refine sR <| oP (P_lss (a := ((x15 : Nat) : Int)) (b := ((m.legs.length : Nat) : Int)) rfl rfl) rfl <| nT <| CJ_seq <| CJ_condP rfl bT_dec (fun hg1 => ?_) (fun hg1 => ?_)
   ·
    replace h := ite_t hg1 h
    refine kT <| CJ_seq <| CJ_block <| sR <| oM rfl rfl <| oA rfl rfl <| nT <| CJ_seq <| CJ_entX (Ent.transX (t0_ eR) (MirQ_open (l := x13))) fun oc16 => CJ_pure (fun h hh => Rs_len (stars_perm (del2 (A := Rs (DevP bs) (x13.legs.map mlegS.dev) oc16.1)).out h hh)) fun hdl18 => lC del1 fun hlen19 => ?_
    rw [mk_mleg_len (by have := hdl18; simpa using this)] at hlen19
    refine lC del4 fun hlen20 => CJ_region <| oM rfl rfl <| oP (P_nilCheck rfl) rfl <| oP (P_fieldAddr rfl ⟨_, _, _, Try.runUnderlying74, rfl, rfl, Try.sizeOf70, rfl⟩) rfl <| oV (V_load rfl foc0 rfl Try.isAgg70) rfl <| oM rfl rfl ?_
    obtain ⟨hg2, h⟩ := grd_de h
    refine oV (V_index (i := x15) rfl rfl rfl (show x15 < (mk_mleg x13.legs oc16.1).length by rw [mk_mleg_len (by have := hdl18; simpa using this)]; exact hg2) foc1 (Reads.sl _ _ _) Try.runUnderlying70 Try.sizeOf83) rfl <| oP (P_fieldE rfl ⟨_, _, _, Try.runUnderlying83, rfl, rfl, Try.sizeOf72, rfl⟩) rfl <| oV (VJ_eq (V_loadE rfl rfl (show x15 < (mk_mleg x13.legs oc16.1).length by rw [mk_mleg_len (by have := hdl18; simpa using this)]; exact hg2) foc1 (Reads.sl _ _ _) rfl rfl Try.isAgg72) (show (.int .i64 ((x13.legs.getD x15 mleg_x0).state) : Value) = .int .i64 ((mk_mleg x13.legs oc16.1).getD x15 mleg_h0).state from by rw [mk_mleg_at (by have := hdl18; simpa using this)])) rfl <| oP (P_eql (a := (x13.legs.getD x15 mleg_x0).state) (b := (0 : Int)) rfl rfl) rfl <| oM rfl rfl <| RJ_splitP 29 rfl bT_dec (fun hg3B hg3 => ?_) (fun hg3B hg3 => ?_)
    ·
     replace h := ite_t hg3 h
     refine gP (GY_yes rfl rfl rfl hg3B) (P_move rfl) rfl <| gP (GY_yes rfl rfl rfl hg3B) (P_move rfl) rfl ?_
     obtain ⟨r21, hr22, h⟩ := bind_e h
     refine RJ_gy (GY_yes rfl rfl rfl hg3B) <| O_callV rfl rfl (LQ_mirror_Mirror_spread_1 hr22) Try.call64 (Dels.cons del6 Dels.nil) rfl fun _ _ => oP (P_pickT rfl hg3B rfl) rfl <| RJ_nil <| QJ_ent (Ent.trans (t1_ (t1_ (t1_ (t1_ (t1_ eR))))) (MirQ_mk (v0 := x13.legs) (v1 := x13.log) (v2 := x13.hasLog) (v3 := x13.logState) (v4 := x13.size) (v5 := x13.region) (v6 := x13.dirty) (v7 := x13.copied) (h0 := oc16.1) (h1 := oc16.2.1) (h2 := oc16.2.2))) <| QJ_then <| CJ_condP rfl Iff.rfl (fun hg4 => ?_) (fun hg4 => ?_)
     ·
      replace h := ite_t hg4 h
      refine sR <| oM rfl rfl <| oM rfl rfl <| oM rfl rfl <| oM rfl rfl ?_
      obtain ⟨r23, hr24, h⟩ := bind_e h
      refine oO <| O_callV rfl rfl (LQ_mirror_Mirror_spread_2 rdo_2_c0 hr24) Try.call65 (Dels.cons del3 (Dels.cons del3 (Dels.cons del3 (Dels.cons del0 (Dels.cons del2 (Dels.cons del2 (Dels.cons del1 Dels.nil))))))) rfl fun _ _ => ?_
      obtain ⟨r25, hr26, h⟩ := bind_e h
      refine oO <| O_callV rfl rfl (LQ_mirror_Mirror_note hr26) Try.call44 (Dels.cons del3 (Dels.cons del5 Dels.nil)) rfl fun _ _ => oA rfl rfl <| nT <| sR <| oM rfl rfl <| oP (P_neq (a := r25.1) (b := (0 : Int)) rfl rfl) rfl <| nT <| CJ_condP rfl bT_dec (fun hg5 => ?_) (fun hg5 => ?_)
      ·
       replace h := ite_t hg5 h
       refine sR <| oM rfl rfl <| oA rfl rfl <| nT <| CJ_ret <| QJ_block_ret <| QJ_then_ret <| QJ_round_ret <| QJ_block_ret <| QJ_then_ret ?_
       have hE := Option.some.inj h
       replace hE := seq_inr hK8 hE.symm
       subst hE
       exact fE (res1 Try.results34 rfl) () (t0_ (t6_ (t1_ (t1_ (t1_ (t1_ (t1_ eR)))))))
      ·
       replace h := ite_f hg5 h
       exact CJ_skip <| QJ_block_normal <| QJ_then <| CJ_region <| oP (PJ_eq (P_add (a := ((x15 : Nat) : Int)) (b := (1 : Int)) rfl rfl (by omega)) rfl) rfl <| oM rfl rfl <| RJ_nil <| nR ⟨n, r25.2, r23.2, (x15 + 1)⟩ h ⟨rfl, True.intro⟩ (t0_ (t0_ (t5_ eR)))
     ·
      replace h := ite_f hg4 h
      exact CJ_skip <| QJ_block_normal <| QJ_then <| CJ_region <| oP (PJ_eq (P_add (a := ((x15 : Nat) : Int)) (b := (1 : Int)) rfl rfl (by omega)) rfl) rfl <| oM rfl rfl <| RJ_nil <| nR ⟨n, x13, x14, (x15 + 1)⟩ h ⟨rfl, True.intro⟩ (t0_ (t1_ eR))
    ·
     replace h := ite_f hg3 h
     exact RJ_gn (GY_no rfl rfl rfl hg3B) rfl rfl <| RJ_gn (GY_no rfl rfl rfl hg3B) rfl rfl <| RJ_gn (GY_no rfl rfl rfl hg3B) rfl rfl <| oP (P_pickF rfl hg3B rfl) rfl <| RJ_nil <| QJ_ent (Ent.trans eR (MirQ_mk (v0 := x13.legs) (v1 := x13.log) (v2 := x13.hasLog) (v3 := x13.logState) (v4 := x13.size) (v5 := x13.region) (v6 := x13.dirty) (v7 := x13.copied) (h0 := oc16.1) (h1 := oc16.2.1) (h2 := oc16.2.2))) <| QJ_then <| CJ_condF rfl rfl <| CJ_skip <| QJ_block_normal <| QJ_then <| CJ_region <| oP (PJ_eq (P_add (a := ((x15 : Nat) : Int)) (b := (1 : Int)) rfl rfl (by omega)) rfl) rfl <| oM rfl rfl <| RJ_nil <| nR ⟨n, x13, x14, (x15 + 1)⟩ h ⟨rfl, True.intro⟩ eR
   ·
    replace h := ite_f hg1 h
    exact CJ_exit <| QJ_then_exit <| QJ_round_exit <| QJ_block_here <| cR (x13, x14) (Option.some.inj h).symm True.intro eR
 ·
  rintro a12 hy27
  replace h := seq_inl hK8 hy27
  show CJ _ _ _ _ _ (([] : Slots) ++ forget _ _) (MirQ bs vlm bm a12.1 :: Arr bs a12.2 :: _)
  refine sR <| oM rfl rfl ?_
  obtain ⟨r28, hr29, h⟩ := bind_e h
  refine oO <| O_call (LQ_mirror_Mirror_result hr29) rfl Try.call31 (Dels.cons del0 (Dels.cons del0 Dels.nil)) rfl fun _ _ => oA rfl rfl <| nT <| CJ_ret ?_
  cases h
  exact fE (res1 Try.results34 rfl) () (t0_ (t1_ (t1_ (t1_ (t1_ (t1_ (t1_ eR)))))))
theorem LQ_mirror_Mirror_spread {W : World} {bm : Nat} {vlm : Sl3} {Abad : HP} {vbad : Value} {bs : Nat} {m : MirS} {at_1 : Int} {w : UInt64} {from_3 : Int} {bad : List Int} {s : ArrS} {r : Int × MirS × ArrS} (rbad : Reads Abad tyI vbad bad) (h : mirror_Mirror_spread m at_1 w from_3 bad s = some r) :
    CSpec Try.prog W 33 [ptr bm 0, .int .i64 at_1, .int .u64 (w.toNat : Int), .int .i64 from_3, vbad] [MirQ bs vlm bm m, Abad, Arr bs s] (fun x : Unit => .int .i64 r.1) (fun _ => True) (fun x F => MirQ bs vlm bm r.2.1 :: Abad :: Arr bs r.2.2 :: F) := by
 refine CSpec.of_body Try.func33 rfl Try.ntmps33 rfl fun F => ?_
 show CJ _ _ _ _ _ _ (_ :: _ :: _ :: F)
 unfold mirror_Mirror_spread at h
 refine CJ_pure (len_of rbad del1) fun hlen1 => sR <| oO <| O_box rfl rfl rfl fun b2 => oO <| O_box rfl rfl rfl fun b3 => oO <| O_box rfl rfl rfl fun b4 => oO <| O_box rfl rfl rfl fun b5 => RJ_pure (reads_sl3 rbad del5) fun hsv7 => ?_
 obtain ⟨sv6, hsv7⟩ := hsv7
 subst hsv7
 refine oO <| O_box rfl rfl rfl fun b8 => oA rfl rfl <| nT <| sR <| oV (V_load rfl foc4 rfl Try.isAgg38) rfl <| oP (P_makeFunc rfl rfl) rfl <| oP (P_makeFunc rfl rfl) rfl ?_
 obtain ⟨r9, hr10, h⟩ := bind_e h
 refine oO <| O_call (LQ_mirror_Mirror_each__mirror_Mirror_spread_1 rbad hr10) rfl Try.call34 (Dels.cons del5 (Dels.cons del1 (Dels.cons del0 (Dels.cons del3 (Dels.cons del2 (Dels.cons del1 (Dels.cons del0 (Dels.cons del0 Dels.nil)))))))) rfl fun _ _ => oA rfl rfl <| RJ_nil <| QJ_ent (t0_ (t2_ (t2_ (t2_ (t2_ (t2_ (eD (eD eR)))))))) <| QJ_then <| CJ_seq <| sR <| oM rfl rfl <| oP (P_neq (a := r9.1) (b := (0 : Int)) rfl rfl) rfl <| nT <| CJ_condP rfl bT_dec (fun hg1 => ?_) (fun hg1 => ?_)
 ·
  replace h := ite_t hg1 h
  refine sR <| oM rfl rfl <| oA rfl rfl <| nT <| CJ_ret <| QJ_then_ret ?_
  cases h
  exact fE (res1 Try.results33 rfl) () (t0_ (t0_ (t3_ (eD (eD (eD eR))))))
 ·
  replace h := ite_f hg1 h
  refine kT <| sR <| oV (V_load rfl foc2 rfl Try.isAgg38) rfl <| oV (V_load rfl foc3 rfl Try.isAgg3) rfl <| oV (V_load rfl foc4 rfl Try.isAgg33) rfl ?_
  obtain ⟨r11, hr12, h⟩ := bind_e h
  refine oO <| O_call (LQ_mirror_Mirror_follow hr12) rfl Try.call48 (Dels.cons del0 (Dels.cons del4 Dels.nil)) rfl fun _ _ => oA rfl rfl <| nT <| CJ_ret ?_
  cases h
  exact fE (res1 Try.results33 rfl) () (t0_ (t1_ (t0_ (eD (eD (eD eR))))))
theorem LQ_mirror_Mirror_Read_1 {W : World} {bp1 : Nat} {Ap1 : HP} {vp1 : Value} {i : Int} {p1 : List Int} {r : Bool} (rp1 : Reads Ap1 tyI vp1 p1) (h : mirror_Mirror_Read_1 i p1 = some r) :
    CSpec Try.prog W 35 [.int .i64 i, ptr bp1 0] [blk bp1 22 [vp1], Ap1] (fun x : Unit => .bool r) (fun _ => True) (fun x F => blk bp1 22 [vp1] :: Ap1 :: F) := by
 refine CSpec.of_body Try.func35 rfl Try.ntmps35 rfl fun F => ?_
 show CJ _ _ _ _ _ _ (_ :: _ :: F)
 unfold mirror_Mirror_Read_1 at h
 refine CJ_pure (len_of rp1 del1) fun hlen1 => sR <| oA rfl rfl <| nT <| sR <| oV (V_load rfl foc0 rfl Try.isAgg22) rfl <| oM rfl rfl ?_
 obtain ⟨r2, hr3, h⟩ := bind_e h
 refine oO <| O_call (L_slices_Contains_int rp1 hr3) rfl Try.call36 (Dels.cons del1 Dels.nil) rfl fun _ _ => oA rfl rfl <| nT <| CJ_ret ?_
 cases h
 exact fE (res1 Try.results35 rfl) () (t1_ eR)
theorem LQ_mirror_Mirror_Read_2 {W : World} {bp1 : Nat} {bp1_v : Nat} {vlp1_v : Sl3} {bp2 : Nat} {bp3 : Nat} {bs : Nat} {i : Int} {p1_v : MirS} {p2 : Int} {p3 : UInt64} {s : ArrS} {r : Int × ArrS} (h : mirror_Mirror_Read_2 i p1_v p2 p3 s = some r) :
    CSpec Try.prog W 37 [.int .i64 i, ptr bp1 0, ptr bp2 0, ptr bp3 0] [blk bp1 38 [ptr bp1_v 0], MirQ bs vlp1_v bp1_v p1_v, blk bp2 3 [.int .i64 p2], blk bp3 33 [.int .u64 (p3.toNat : Int)], Arr bs s] (fun x : Unit => .int .i64 r.1) (fun _ => True) (fun x F => blk bp1 38 [ptr bp1_v 0] :: MirQ bs vlp1_v bp1_v p1_v :: blk bp2 3 [.int .i64 p2] :: blk bp3 33 [.int .u64 (p3.toNat : Int)] :: Arr bs r.2 :: F) := by
 refine CSpec.of_body Try.func37 rfl Try.ntmps37 rfl fun F => ?_
 show CJ _ _ _ _ _ _ (_ :: _ :: _ :: _ :: _ :: F)
 unfold mirror_Mirror_Read_2 at h
 refine sR <| oA rfl rfl <| nT <| CJ_seq <| CJ_entX (Ent.transX (t1_ eR) (MirQ_open (l := p1_v))) fun oc1 => CJ_pure (fun h hh => Rs_len (stars_perm (del2 (A := Rs (DevP bs) (p1_v.legs.map mlegS.dev) oc1.1)).out h hh)) fun hdl3 => lC del1 fun hlen4 => ?_
 rw [mk_mleg_len (by have := hdl3; simpa using this)] at hlen4
 refine lC del4 fun hlen5 => AJ_startH 1024 (by kernel_rfl) rfl <| aV 0 1 rfl rfl (GY_none rfl) eR (V_load rfl foc5 rfl Try.isAgg38) rfl <| aN 1 3 rfl rfl (P_nilCheck rfl) rfl <| aN 2 7 rfl rfl (P_fieldAddr rfl ⟨_, _, _, Try.runUnderlying74, rfl, rfl, Try.sizeOf70, rfl⟩) rfl <| aV 3 15 rfl rfl (GY_none rfl) eR (V_load rfl foc0 rfl Try.isAgg70) rfl <| aN 4 31 rfl rfl (P_move rfl) rfl ?_
 obtain ⟨hg1, h⟩ := grd_de h
 refine aV 5 63 rfl rfl (GY_none rfl) eR (V_index (i := (i).toNat) rfl rfl (Int.toNat_of_nonneg (hg1.1)).symm (show (i).toNat < (mk_mleg p1_v.legs oc1.1).length by rw [mk_mleg_len (by have := hdl3; simpa using this)]; exact (by omega)) foc1 (Reads.sl _ _ _) Try.runUnderlying70 Try.sizeOf83) rfl <| aN 6 127 rfl rfl (P_fieldE rfl ⟨_, _, _, Try.runUnderlying83, rfl, rfl, Try.sizeOf57, rfl⟩) rfl <| AJ_ent (Ent.trans (t2_ eR) (mk_mleg_rs (i := (i).toNat) (by omega))) <| aV 7 255 rfl rfl (GY_none rfl) (t2_ (t2_ (t1_ (t1_ (t1_ (t1_ (t1_ (t1_ (t1_ (eD eR)))))))))) (VJ_eq (V_loadE rfl rfl (show (i).toNat < (mk_mleg p1_v.legs oc1.1).length by rw [mk_mleg_len (by have := hdl3; simpa using this)]; exact (by omega)) foc1 (Reads.sl _ _ _) rfl rfl Try.isAgg57) (show (IfH.v ((oc1.1.getD ((i).toNat) tyDev.dflt)) : Value) = IfH.v ((mk_mleg p1_v.legs oc1.1).getD ((i).toNat) mleg_h0).dev from by rw [mk_mleg_at (by have := hdl3; simpa using this)])) rfl <| aV 8 511 rfl rfl (GY_none rfl) (t2_ (t2_ (t1_ (t1_ (t1_ (t1_ (t1_ (t1_ (t1_ (eD eR)))))))))) (V_load rfl foc6 rfl Try.isAgg3) rfl ?_
 refine aV 9 1023 rfl rfl (GY_none rfl) (t2_ (t2_ (t1_ (t1_ (t1_ (t1_ (t1_ (t1_ (t1_ (eD eR)))))))))) (V_load rfl foc7 rfl Try.isAgg33) rfl <| AJ_pure (fun h hh => DevP_dep h (stars_perm (del0 (A := DevP bs ((p1_v.legs.getD ((i).toNat) mleg_x0).dev) ((oc1.1.getD ((i).toNat) tyDev.dflt)))).out h hh)) fun hdp7 => ?_
 obtain ⟨r8, hr9, h⟩ := bind_e h
 refine AJ_op 10 2047 rfl (by kernel_rfl) rfl (GY_none rfl) <| O_callI rfl (dev_Write hr9 hdp7) rfl (Dels.cons del0 (Dels.cons del8 Dels.nil)) rfl fun _ _ => ⟨fun h => absurd h (by decide), ?_⟩
 refine aN 11 4095 rfl rfl (P_assign rfl) rfl <| AJ_done (by kernel_rfl) <| QJ_ent (Ent.trans (t3_ (t3_ (t2_ (t2_ (t2_ eR))))) (MirQ_mk (v0 := p1_v.legs) (v1 := p1_v.log) (v2 := p1_v.hasLog) (v3 := p1_v.logState) (v4 := p1_v.size) (v5 := p1_v.region) (v6 := p1_v.dirty) (v7 := p1_v.copied) (h0 := oc1.1) (h1 := oc1.2.1) (h2 := oc1.2.2))) <| QJ_then <| CJ_ret ?_
 cases h
 exact fE (res1 Try.results37 rfl) () (t3_ (t0_ (t2_ (t2_ (t1_ (eD eR))))))
theorem LQ_mirror_Mirror_each__mirror_Mirror_Read_1 {W : World} {bm : Nat} {vlm : Sl3} {bchoose_c0 : Nat} {Achoose_c0 : HP} {vchoose_c0 : Value} {bdo_2_c0 : Nat} {bdo_2_c1 : Nat} {bdo_2_c2 : Nat} {bs : Nat} {m : MirS} {choose_c0 : List Int} {do_2_c1 : Int} {do_2_c2 : UInt64} {s : ArrS} {r : Int × MirS × ArrS} (rchoose_c0 : Reads Achoose_c0 tyI vchoose_c0 choose_c0) (h : mirror_Mirror_each__mirror_Mirror_Read_1 m choose_c0 do_2_c1 do_2_c2 s = some r) :
    CSpec Try.prog W 34 [ptr bm 0, .func (.func 35) #[] #[ptr bchoose_c0 0], .func (.func 37) #[] #[ptr bdo_2_c0 0, ptr bdo_2_c1 0, ptr bdo_2_c2 0]] [MirQ bs vlm bm m, blk bchoose_c0 22 [vchoose_c0], Achoose_c0, blk bdo_2_c0 38 [ptr bm 0], blk bdo_2_c1 3 [.int .i64 do_2_c1], blk bdo_2_c2 33 [.int .u64 (do_2_c2.toNat : Int)], Arr bs s] (fun x : Unit => .int .i64 r.1) (fun _ => True) (fun x F => MirQ bs vlm bm r.2.1 :: blk bchoose_c0 22 [vchoose_c0] :: Achoose_c0 :: blk bdo_2_c0 38 [ptr bm 0] :: blk bdo_2_c1 3 [.int .i64 do_2_c1] :: blk bdo_2_c2 33 [.int .u64 (do_2_c2.toNat : Int)] :: Arr bs r.2.2 :: F) := by
 refine CSpec.of_body Try.func34 rfl Try.ntmps34 rfl fun F => ?_
 show CJ _ _ _ _ _ _ (_ :: _ :: _ :: _ :: _ :: _ :: _ :: F)
 unfold mirror_Mirror_each__mirror_Mirror_Read_1 at h
 refine CJ_pure (len_of rchoose_c0 del2) fun hlen1 => sR <| oA rfl rfl <| nT <| sR <| oM rfl rfl <| oP (P_makeFunc rfl rfl) rfl <| oA rfl rfl <| nT <| CJ_seq <| CJ_seq <| CJ_entX (Ent.transX (t0_ eR) (MirQ_open (l := m))) fun oc2 => CJ_pure (fun h hh => Rs_len (stars_perm (del2 (A := Rs (DevP bs) (m.legs.map mlegS.dev) oc2.1)).out h hh)) fun hdl4 => lC del1 fun hlen5 => ?_
 rw [mk_mleg_len (by have := hdl4; simpa using this)] at hlen5
 refine lC del4 fun hlen6 => CJ_region <| oM rfl rfl <| oP (P_nilCheck rfl) rfl <| oP (P_fieldAddr rfl ⟨_, _, _, Try.runUnderlying74, rfl, rfl, Try.sizeOf70, rfl⟩) rfl <| oV (V_load rfl foc0 rfl Try.isAgg70) rfl <| oV (VJ_eq (V_len rfl foc1 (Reads.sl _ _ _) Try.runUnderlying70) (congrArg (fun z : Nat => Value.int .i64 (z : Int)) (mk_mleg_len (by have := hdl4; simpa using this)).symm)) rfl <| oM rfl rfl <| RJ_nil <| QJ_ent (Ent.trans eR (MirQ_mk (v0 := m.legs) (v1 := m.log) (v2 := m.hasLog) (v3 := m.logState) (v4 := m.size) (v5 := m.region) (v6 := m.dirty) (v7 := m.copied) (h0 := oc2.1) (h1 := oc2.2.1) (h2 := oc2.2.2))) <| QJ_then ?_
 obtain ⟨y9, hl7, hK8⟩ := seq_e h
 refine CJ_cutT (X := MirS × ArrS) [6, 8, 9, 17, 18, 19, 20, 21, 22, 23, 24, 25, 26, 27, 28, 29, 30, 31, 32, 33, 34, 35, 36, 37, 38, 39, 40, 41, 42, 43] (fun a12 => ([] : Slots)) (fun a12 R => MirQ bs vlm bm a12.1 :: Arr bs a12.2 :: R) (fun a12 => y9 = .inl a12) (Dels.cons del0 (Dels.cons del5 Dels.nil)) ?_ ?_
 ·
  refine CJ_block <| CJ_loopR (X := Nat × MirS × ArrS × Nat) [6, 8, 9, 17, 18, 19, 20, 21, 22, 23, 24, 25, 26, 27, 28, 29, 30, 31, 32, 33, 34, 35, 36, 37, 38, 39, 40, 41, 42, 43] (fun ⟨n, x13, x14, x15⟩ => ([(17, .int .i64 (((x15 : Nat) : Int)))] : Slots)) (fun ⟨n, x13, x14, x15⟩ R => MirQ bs vlm bm x13 :: Arr bs x14 :: R) (fun ⟨n, x13, x14, x15⟩ => mirror_Mirror_each__mirror_Mirror_Read_1_l1 m choose_c0 do_2_c1 do_2_c2 n x13 x14 x15 = some y9) (fun ⟨n, x13, x14, x15⟩ => n) ⟨FUEL, m, s, 0⟩ ?_ ?_ (t0_ (t5_ eR)) ?_
  · exact hl7
  · exact ⟨rfl, True.intro⟩
  ·
   rintro ⟨n, x13, x14, x15⟩ h
   cases n with
   | zero => exact none_e h
   | succ n => ?_
   replace h : mirror_Mirror_each__mirror_Mirror_Read_1_l1_b m choose_c0 do_2_c1 do_2_c2 (mirror_Mirror_each__mirror_Mirror_Read_1_l1 m choose_c0 do_2_c1 do_2_c2 n) x13 x14 x15 = some y9 := h
   unfold mirror_Mirror_each__mirror_Mirror_Read_1_l1_b at h
   show CJ _ _ _ _ _ (([(17, .int .i64 (((x15 : Nat) : Int)))] : Slots) ++ forget _ _) (MirQ bs vlm bm x13 :: Arr bs x14 :: _)
   refine sR <| oP (P_lss (a := ((x15 : Nat) : Int)) (b := ((m.legs.length : Nat) : Int)) rfl rfl) rfl <| nT <| CJ_seq <| CJ_condP rfl bT_dec (fun hg1 => ?_) (fun hg1 => ?_)
   ·
    replace h := ite_t hg1 h
    refine kT <| CJ_seq <| CJ_block <| sR <| oM rfl rfl <| oA rfl rfl <| nT <| CJ_seq <| CJ_entX (Ent.transX (t0_ eR) (MirQ_open (l := x13))) fun oc16 => CJ_pure (fun h hh => Rs_len (stars_perm (del2 (A := Rs (DevP bs) (x13.legs.map mlegS.dev) oc16.1)).out h hh)) fun hdl18 => lC del1 fun hlen19 => ?_
    rw [mk_mleg_len (by have := hdl18; simpa using this)] at hlen19
    refine lC del4 fun hlen20 => CJ_region <| oM rfl rfl <| oP (P_nilCheck rfl) rfl <| oP (P_fieldAddr rfl ⟨_, _, _, Try.runUnderlying74, rfl, rfl, Try.sizeOf70, rfl⟩) rfl <| oV (V_load rfl foc0 rfl Try.isAgg70) rfl <| oM rfl rfl ?_
    obtain ⟨hg2, h⟩ := grd_de h
    refine oV (V_index (i := x15) rfl rfl rfl (show x15 < (mk_mleg x13.legs oc16.1).length by rw [mk_mleg_len (by have := hdl18; simpa using this)]; exact hg2) foc1 (Reads.sl _ _ _) Try.runUnderlying70 Try.sizeOf83) rfl <| oP (P_fieldE rfl ⟨_, _, _, Try.runUnderlying83, rfl, rfl, Try.sizeOf72, rfl⟩) rfl <| oV (VJ_eq (V_loadE rfl rfl (show x15 < (mk_mleg x13.legs oc16.1).length by rw [mk_mleg_len (by have := hdl18; simpa using this)]; exact hg2) foc1 (Reads.sl _ _ _) rfl rfl Try.isAgg72) (show (.int .i64 ((x13.legs.getD x15 mleg_x0).state) : Value) = .int .i64 ((mk_mleg x13.legs oc16.1).getD x15 mleg_h0).state from by rw [mk_mleg_at (by have := hdl18; simpa using this)])) rfl <| oP (P_eql (a := (x13.legs.getD x15 mleg_x0).state) (b := (0 : Int)) rfl rfl) rfl <| oM rfl rfl <| RJ_splitP 29 rfl bT_dec (fun hg3B hg3 => ?_) (fun hg3B hg3 => ?_)
    ·
     replace h := ite_t hg3 h
     refine gP (GY_yes rfl rfl rfl hg3B) (P_move rfl) rfl <| gP (GY_yes rfl rfl rfl hg3B) (P_move rfl) rfl ?_
     obtain ⟨r21, hr22, h⟩ := bind_e h
     refine RJ_gy (GY_yes rfl rfl rfl hg3B) <| O_callV rfl rfl (LQ_mirror_Mirror_Read_1 rchoose_c0 hr22) Try.call35 (Dels.cons del6 (Dels.cons del6 Dels.nil)) rfl fun _ _ => oP (P_pickT rfl hg3B rfl) rfl <| RJ_nil <| QJ_ent (Ent.trans (t2_ (t2_ (t2_ (t2_ (t2_ eR))))) (MirQ_mk (v0 := x13.legs) (v1 := x13.log) (v2 := x13.hasLog) (v3 := x13.logState) (v4 := x13.size) (v5 := x13.region) (v6 := x13.dirty) (v7 := x13.copied) (h0 := oc16.1) (h1 := oc16.2.1) (h2 := oc16.2.2))) <| QJ_then <| CJ_condP rfl Iff.rfl (fun hg4 => ?_) (fun hg4 => ?_)
     ·
      replace h := ite_t hg4 h
      refine sR <| oM rfl rfl <| oM rfl rfl <| oM rfl rfl <| oM rfl rfl ?_
      obtain ⟨r23, hr24, h⟩ := bind_e h
      refine oO <| O_callV rfl rfl (LQ_mirror_Mirror_Read_2 hr24) Try.call37 (Dels.cons del4 (Dels.cons del0 (Dels.cons del3 (Dels.cons del3 (Dels.cons del2 Dels.nil))))) rfl fun _ _ => ?_
      obtain ⟨r25, hr26, h⟩ := bind_e h
      refine oO <| O_callV rfl rfl (LQ_mirror_Mirror_note hr26) Try.call44 (Dels.cons del1 (Dels.cons del3 Dels.nil)) rfl fun _ _ => oA rfl rfl <| nT <| sR <| oM rfl rfl <| oP (P_neq (a := r25.1) (b := (0 : Int)) rfl rfl) rfl <| nT <| CJ_condP rfl bT_dec (fun hg5 => ?_) (fun hg5 => ?_)
      ·
       replace h := ite_t hg5 h
       refine sR <| oM rfl rfl <| oA rfl rfl <| nT <| CJ_ret <| QJ_block_ret <| QJ_then_ret <| QJ_round_ret <| QJ_block_ret <| QJ_then_ret ?_
       have hE := Option.some.inj h
       replace hE := seq_inr hK8 hE.symm
       subst hE
       exact fE (res1 Try.results34 rfl) () (t0_ (t4_ (t4_ (t1_ (t1_ (t1_ eR))))))
      ·
       replace h := ite_f hg5 h
       exact CJ_skip <| QJ_block_normal <| QJ_then <| CJ_region <| oP (PJ_eq (P_add (a := ((x15 : Nat) : Int)) (b := (1 : Int)) rfl rfl (by omega)) rfl) rfl <| oM rfl rfl <| RJ_nil <| nR ⟨n, r25.2, r23.2, (x15 + 1)⟩ h ⟨rfl, True.intro⟩ (t0_ (t0_ (t3_ (t3_ eR))))
     ·
      replace h := ite_f hg4 h
      exact CJ_skip <| QJ_block_normal <| QJ_then <| CJ_region <| oP (PJ_eq (P_add (a := ((x15 : Nat) : Int)) (b := (1 : Int)) rfl rfl (by omega)) rfl) rfl <| oM rfl rfl <| RJ_nil <| nR ⟨n, x13, x14, (x15 + 1)⟩ h ⟨rfl, True.intro⟩ (t0_ (t2_ eR))
    ·
     replace h := ite_f hg3 h
     exact RJ_gn (GY_no rfl rfl rfl hg3B) rfl rfl <| RJ_gn (GY_no rfl rfl rfl hg3B) rfl rfl <| RJ_gn (GY_no rfl rfl rfl hg3B) rfl rfl <| oP (P_pickF rfl hg3B rfl) rfl <| RJ_nil <| QJ_ent (Ent.trans eR (MirQ_mk (v0 := x13.legs) (v1 := x13.log) (v2 := x13.hasLog) (v3 := x13.logState) (v4 := x13.size) (v5 := x13.region) (v6 := x13.dirty) (v7 := x13.copied) (h0 := oc16.1) (h1 := oc16.2.1) (h2 := oc16.2.2))) <| QJ_then <| CJ_condF rfl rfl <| CJ_skip <| QJ_block_normal <| QJ_then <| CJ_region <| oP (PJ_eq (P_add (a := ((x15 : Nat) : Int)) (b := (1 : Int)) rfl rfl (by omega)) rfl) rfl <| oM rfl rfl <| RJ_nil <| nR ⟨n, x13, x14, (x15 + 1)⟩ h ⟨rfl, True.intro⟩ eR
   ·
    replace h := ite_f hg1 h
    exact CJ_exit <| QJ_then_exit <| QJ_round_exit <| QJ_block_here <| cR (x13, x14) (Option.some.inj h).symm True.intro eR
 ·
  rintro a12 hy27
  replace h := seq_inl hK8 hy27
  show CJ _ _ _ _ _ (([] : Slots) ++ forget _ _) (MirQ bs vlm bm a12.1 :: Arr bs a12.2 :: _)
  refine sR <| oM rfl rfl ?_
  obtain ⟨r28, hr29, h⟩ := bind_e h
  refine oO <| O_call (LQ_mirror_Mirror_result hr29) rfl Try.call31 (Dels.cons del0 (Dels.cons del0 Dels.nil)) rfl fun _ _ => oA rfl rfl <| nT <| CJ_ret ?_
  cases h
  exact fE (res1 Try.results34 rfl) () (t0_ (t1_ (t1_ (t1_ (t1_ (t1_ eR))))))
theorem LQ_mirror_Mirror_Read {W : World} {bm : Nat} {vlm : Sl3} {bs : Nat} {m : MirS} {at_1 : Int} {s : ArrS} {r : UInt64 × Int × MirS × ArrS} (h : mirror_Mirror_Read m at_1 s = some r) :
    CSpec Try.prog W 12 [ptr bm 0, .int .i64 at_1] [MirQ bs vlm bm m, Arr bs s] (fun x : Unit => .tuple #[.int .u64 (r.1.toNat : Int), .int .i64 r.2.1]) (fun _ => True) (fun x F => MirQ bs vlm bm r.2.2.1 :: Arr bs r.2.2.2 :: F) := by
 refine CSpec.of_body Try.func12 rfl Try.ntmps12 rfl fun F => ?_
 show CJ _ _ _ _ _ _ (_ :: _ :: F)
 unfold mirror_Mirror_Read at h
 refine sR <| oO <| O_box rfl rfl rfl fun b1 => oO <| O_box rfl rfl rfl fun b2 => oA rfl rfl <| oA rfl rfl <| nT <| CJ_seq <| CJ_seq <| AJ_startH 0 (by kernel_rfl) rfl <| aV 0 1 rfl rfl (GY_none rfl) eR (V_load rfl foc0 rfl Try.isAgg3) rfl <| aN 1 3 rfl rfl (P_lss (a := at_1) (b := (0 : Int)) rfl rfl) rfl <| aN 2 7 rfl rfl (P_move rfl) rfl <| AJ_splitP 13 rfl bT_dec (fun hg1B hg1 => ?_) (fun hg1B hg1 => ?_)
 ·
  replace h := ite_t hg1 h
  refine aS 3 15 rfl rfl (GY_no rfl rfl rfl hg1B) rfl <| aS 4 31 rfl rfl (GY_no rfl rfl rfl hg1B) rfl <| aS 5 63 rfl rfl (GY_no rfl rfl rfl hg1B) rfl <| aS 6 127 rfl rfl (GY_no rfl rfl rfl hg1B) rfl <| aS 7 255 rfl rfl (GY_no rfl rfl rfl hg1B) rfl <| aS 8 511 rfl rfl (GY_no rfl rfl rfl hg1B) rfl <| aN 9 1023 rfl rfl (P_pickT rfl hg1B rfl) rfl <| aD <| CJ_condT rfl rfl <| sR <| oA rfl rfl <| oA rfl rfl <| nT <| CJ_ret <| QJ_then_ret ?_
  cases h
  exact fE (res2 Try.results12 rfl rfl) () (t2_ (t2_ (eD (eD eR))))
 ·
  replace h := ite_f hg1 h
  refine aV 3 15 rfl rfl (GY_yes rfl rfl rfl hg1B) eR (V_load rfl foc0 rfl Try.isAgg3) rfl <| aV 4 31 rfl rfl (GY_yes rfl rfl rfl hg1B) eR (V_load rfl foc1 rfl Try.isAgg38) rfl <| aP 5 63 rfl rfl (GY_yes rfl rfl rfl hg1B) (P_nilCheck rfl) rfl <| aP 6 127 rfl rfl (GY_yes rfl rfl rfl hg1B) (P_fieldAddr rfl ⟨_, _, _, Try.runUnderlying74, rfl, rfl, Try.sizeOf3, rfl⟩) rfl <| aV 7 255 rfl rfl (GY_yes rfl rfl rfl hg1B) eR (VJ_entX (Ent.transX (t2_ eR) (MirQ_open (l := m))) (fun _ => V_load rfl foc0 rfl Try.isAgg3)) rfl <| aP 8 511 rfl rfl (GY_yes rfl rfl rfl hg1B) (P_geq (a := at_1) (b := m.size) rfl rfl) rfl <| aN 9 1023 rfl rfl (P_pickF rfl hg1B rfl) rfl <| aD <| CJ_condP rfl bT_dec (fun hg2 => ?_) (fun hg2 => ?_)
  ·
   replace h := ite_t hg2 h
   refine sR <| oA rfl rfl <| oA rfl rfl <| nT <| CJ_ret <| QJ_then_ret ?_
   cases h
   exact fE (res2 Try.results12 rfl rfl) () (t2_ (t2_ (eD (eD eR))))
  ·
   replace h := ite_f hg2 h
   refine kT <| CJ_seq <| sR <| oV (V_load rfl foc1 rfl Try.isAgg38) rfl ?_
   obtain ⟨r3, hr4, h⟩ := bind_e h
   refine oO <| O_call (LQ_mirror_Mirror_result hr4) rfl Try.call31 (Dels.cons del2 (Dels.cons del2 Dels.nil)) rfl fun _ _ => oA rfl rfl <| nT <| sR <| oM rfl rfl <| oP (P_neq (a := r3) (b := (0 : Int)) rfl rfl) rfl <| nT <| CJ_condP rfl bT_dec (fun hg3 => ?_) (fun hg3 => ?_)
   ·
    replace h := ite_t hg3 h
    refine sR <| oM rfl rfl <| oA rfl rfl <| oA rfl rfl <| nT <| CJ_ret <| QJ_then_ret ?_
    cases h
    exact fE (res2 Try.results12 rfl rfl) () (t0_ (t0_ (eD (eD eR))))
   ·
    replace h := ite_f hg3 h
    refine kT <| sR <| oV (V_load rfl foc3 rfl Try.isAgg38) rfl <| oV (V_load rfl foc2 rfl Try.isAgg3) rfl ?_
    obtain ⟨r5, hr6, h⟩ := bind_e h
    refine oO <| O_call (LQ_mirror_Mirror_fetch hr6) rfl Try.call32 (Dels.cons del0 (Dels.cons del0 Dels.nil)) rfl fun X7 _ => oM rfl rfl <| oP (P_extract rfl rfl) rfl <| oP (P_extract rfl rfl) rfl <| oP (P_extract (v := X7.v) rfl rfl) rfl <| oP (P_extract rfl rfl) rfl <| oO <| O_alloc Try.zeroValue33 rfl rfl fun b9 => oO <| O_alloc Try.zeroValue22 rfl rfl fun b10 => oO <| O_store rfl rfl foc1 rfl rfl Try.sizeOf33 <| oA rfl rfl <| oO <| O_store rfl rfl foc0 rfl rfl Try.sizeOf22 <| oA rfl rfl <| nT <| CJ_seq <| sR <| oM rfl rfl <| oP (P_neq (a := r5.2.2.2.1) (b := (0 : Int)) rfl rfl) rfl <| nT <| CJ_condP rfl bT_dec (fun hg4 => ?_) (fun hg4 => ?_)
    ·
     replace h := ite_t hg4 h
     refine sR <| oM rfl rfl <| oA rfl rfl <| oA rfl rfl <| RJ_nil <| QJ_ent (t2_ (t2_ (eD (eD (eD (eD (eD eR))))))) <| QJ_then <| CJ_ret <| QJ_then_ret ?_
     cases h
     exact fE (res2 Try.results12 rfl rfl) () eR
    ·
     replace h := ite_f hg4 h
     refine kT <| CJ_seq <| CJ_seq <| CJ_entX (Ent.transX (t2_ eR) (MirQ_open (l := r5.2.2.2.2))) fun oc11 => CJ_pure (fun h hh => Rs_len (stars_perm (del2 (A := Rs (DevP bs) (r5.2.2.2.2.legs.map mlegS.dev) oc11.1)).out h hh)) fun hdl13 => lC del1 fun hlen14 => ?_
     rw [mk_mleg_len (by have := hdl13; simpa using this)] at hlen14
     refine lC del4 fun hlen15 => AJ_startH 0 (by kernel_rfl) rfl <| aV 0 1 rfl rfl (GY_none rfl) eR (V_load rfl foc10 rfl Try.isAgg38) rfl <| aN 1 3 rfl rfl (P_nilCheck rfl) rfl <| aN 2 7 rfl rfl (P_fieldAddr rfl ⟨_, _, _, Try.runUnderlying74, rfl, rfl, Try.sizeOf31, rfl⟩) rfl <| aV 3 15 rfl rfl (GY_none rfl) eR (V_load rfl foc0 rfl Try.isAgg31) rfl <| aV 4 31 rfl rfl (GY_none rfl) eR (V_load rfl foc9 rfl Try.isAgg3) rfl <| aV 5 63 rfl rfl (GY_none rfl) eR (V_load rfl foc10 rfl Try.isAgg38) rfl <| aN 6 127 rfl rfl (P_nilCheck rfl) rfl <| aN 7 255 rfl rfl (P_fieldAddr rfl ⟨_, _, _, Try.runUnderlying74, rfl, rfl, Try.sizeOf3, rfl⟩) rfl <| aV 8 511 rfl rfl (GY_none rfl) eR (V_load rfl foc0 rfl Try.isAgg3) rfl ?_
     obtain ⟨hg5, h⟩ := grd_de h
     refine aN 9 1023 rfl rfl (P_quoT (a := at_1) (b := r5.2.2.2.2.region) rfl rfl hg5) rfl ?_
     obtain ⟨hg6, h⟩ := grd_de h
     refine aV 10 2047 rfl rfl (GY_none rfl) eR (V_index (i := ((IntKind.i64.wrap (at_1.tdiv r5.2.2.2.2.region))).toNat) rfl rfl (Int.toNat_of_nonneg (hg6.1)).symm (by omega) foc4 (Reads.sl _ _ _) Try.runUnderlying31 Try.sizeOf4) rfl <| aV 11 4095 rfl rfl (GY_none rfl) eR (V_loadE rfl rfl (by omega) foc4 (Reads.sl _ _ _) rfl rfl Try.isAgg4) rfl <| AJ_done (by kernel_rfl) <| QJ_ent (Ent.trans eR (MirQ_mk (v0 := r5.2.2.2.2.legs) (v1 := r5.2.2.2.2.log) (v2 := r5.2.2.2.2.hasLog) (v3 := r5.2.2.2.2.logState) (v4 := r5.2.2.2.2.size) (v5 := r5.2.2.2.2.region) (v6 := r5.2.2.2.2.dirty) (v7 := r5.2.2.2.2.copied) (h0 := oc11.1) (h1 := oc11.2.1) (h2 := oc11.2.2))) <| QJ_then <| CJ_condP rfl Iff.rfl (fun hg7 => ?_) (fun hg7 => ?_)
     ·
      replace h := ite_t hg7 h
      refine CJ_region <| oV (V_load rfl foc6 rfl Try.isAgg38) rfl <| oV (V_load rfl foc5 rfl Try.isAgg3) rfl <| oV (V_load rfl foc2 rfl Try.isAgg33) rfl <| oM rfl rfl <| oV (V_load rfl foc1 rfl Try.isAgg22) rfl ?_
      obtain ⟨r16, hr17, h⟩ := bind_e h
      refine oO <| O_call (LQ_mirror_Mirror_spread (Reads.sl _ _ _) hr17) rfl Try.call33 (Dels.cons del0 (Dels.cons del3 (Dels.cons del2 Dels.nil))) rfl fun _ _ => oA rfl rfl <| RJ_nil <| QJ_ent (t0_ (t1_ (t2_ (eD (eD (eD (eD eR))))))) <| QJ_then <| CJ_seq <| sR <| oM rfl rfl <| oP (P_neq (a := r16.1) (b := (0 : Int)) rfl rfl) rfl <| nT <| CJ_condP rfl bT_dec (fun hg8 => ?_) (fun hg8 => ?_)
      ·
       replace h := ite_t hg8 h
       refine sR <| oM rfl rfl <| oA rfl rfl <| oA rfl rfl <| nT <| CJ_ret <| QJ_then_ret ?_
       cases h
       exact fE (res2 Try.results12 rfl rfl) () (t0_ (t0_ (eD eR)))
      ·
       replace h := ite_f hg8 h
       refine kT <| sR <| oV (V_load rfl foc2 rfl Try.isAgg33) rfl <| oA rfl rfl <| oA rfl rfl <| nT <| CJ_ret ?_
       cases h
       exact fE (res2 Try.results12 rfl rfl) () (t0_ (t0_ (eD eR)))
     ·
      replace h := ite_f hg7 h
      refine CJ_region <| oV (V_load rfl foc6 rfl Try.isAgg38) rfl <| oP (P_makeFunc rfl rfl) rfl <| oP (P_makeFunc rfl rfl) rfl ?_
      obtain ⟨r18, hr19, h⟩ := bind_e h
      refine oO <| O_call (LQ_mirror_Mirror_each__mirror_Mirror_Read_1 (Reads.sl _ _ _) hr19) rfl Try.call34 (Dels.cons del0 (Dels.cons del0 (Dels.cons del2 (Dels.cons del3 (Dels.cons del2 (Dels.cons del0 (Dels.cons del0 Dels.nil))))))) rfl fun _ _ => oA rfl rfl <| RJ_nil <| QJ_ent (t0_ (t4_ (t4_ (eD (eD (eD (eD eR))))))) <| QJ_then <| CJ_seq <| sR <| oM rfl rfl <| oP (P_neq (a := r18.1) (b := (0 : Int)) rfl rfl) rfl <| nT <| CJ_condP rfl bT_dec (fun hg9 => ?_) (fun hg9 => ?_)
      ·
       replace h := ite_t hg9 h
       refine sR <| oM rfl rfl <| oA rfl rfl <| oA rfl rfl <| nT <| CJ_ret <| QJ_then_ret ?_
       cases h
       exact fE (res2 Try.results12 rfl rfl) () (t0_ (t1_ (eD eR)))
      ·
       replace h := ite_f hg9 h
       refine kT <| sR <| oV (V_load rfl foc1 rfl Try.isAgg33) rfl <| oA rfl rfl <| oA rfl rfl <| nT <| CJ_ret ?_
       cases h
       exact fE (res2 Try.results12 rfl rfl) () (t0_ (t1_ (eD eR)))
end Go.Proofs
