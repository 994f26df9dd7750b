/- MirrorErrors, part 7 of the proof: LMirQ2, LMirF, LMir4, LTrk, LTAll, PMirI, PMirR, PMirW, PMirF, PSpansA, LBeg21, PMirO, PMirO2, PWords, PMirB0, PMirD. -/
import Derived.WalkKit
import Derived.Orders
import Derived.RangeFuncLeaves
import Derived.RangeFuncCalls
import Derived.TacticsIn
import Derived.Handy
import Derived.OrdersHeld
import Derived.OrdersIn
import Derived.Below
import Derived.OpenShut
import Derived.Deep.Slices
import Derived.Scope
import Derived.KernelRfl
import Derived.RangeFuncRecord
import Derived.ChangeKeysEq
import Derived.ProofKit
import Derived.ShutString
import Derived.ChangeOld
import Derived.Test.YtdogahpihjefgaaChecked
import Derived.Test.YtdogahpihjefgaaRows
import Derived.Test.YtdogahpihjefgaaZMirrorErrors6
set_option linter.unusedSimpArgs false
set_option linter.unusedVariables false
set_option maxRecDepth 20000
set_option maxHeartbeats 4000000
namespace Go.Proofs
open Go.VG
theorem LQ_mirror_Mirror_filling {W : World} {bm : Nat} {vlm : Sl3} {bs : Nat} {m : MirS} {k : Int} {s : ArrS} {r : Int} (h : mirror_Mirror_filling m k s = some r) :
    CSpec Try.prog W 43 [ptr bm 0, .int .i64 k] [MirQ bs vlm bm m, Arr bs s] (fun x : Unit => .int .i64 r) (fun _ => True) (fun x F => MirQ bs vlm bm m :: Arr bs s :: F) := by
 refine CSpec.of_body Try.func43 rfl Try.ntmps43 rfl fun F => ?_
 show CJ _ _ _ _ _ _ (_ :: _ :: F)
 unfold mirror_Mirror_filling at h
 refine sR <| oA rfl rfl <| nT <| CJ_seq <| CJ_block <| CJ_seq <| CJ_entX (Ent.transX (t0_ eR) (MirQ_open (l := m))) fun oc1 => CJ_pure (fun h hh => Rs_len (stars_perm (del2 (A := Rs (DevP bs) (m.legs.map mlegS.dev) oc1.1)).out h hh)) fun hdl3 => lC del1 fun hlen4 => ?_
 rw [mk_mleg_len (by have := hdl3; simpa using this)] at hlen4
 refine lC del4 fun hlen5 => CJ_region <| oM rfl rfl <| oP (P_lss (a := k) (b := (0 : Int)) rfl rfl) rfl <| oM rfl rfl <| RJ_mbF rfl rfl rfl (fun hG6 => have hP7 : ¬ (k < (0 : Int)) := nP (bT_dec) hG6; VJ_P (P_move rfl)) <| RJ_mbF rfl rfl rfl (fun hG8 => have hP9 : ¬ (k < (0 : Int)) := nP (bT_dec) hG8; VJ_P (P_move rfl)) <| RJ_mbF rfl rfl rfl (fun hG10 => have hP11 : ¬ (k < (0 : Int)) := nP (bT_dec) hG10; VJ_P (P_nilCheck (mbx hG10 rfl))) <| RJ_mbF rfl rfl rfl (fun hG12 => have hP13 : ¬ (k < (0 : Int)) := nP (bT_dec) hG12; VJ_P (P_fieldAddr (mbx hG12 rfl) ⟨_, _, _, Try.runUnderlying74, rfl, rfl, Try.sizeOf70, rfl⟩)) <| RJ_mbF rfl rfl rfl (fun hG14 => have hP15 : ¬ (k < (0 : Int)) := nP (bT_dec) hG14; V_load (mbx hG14 rfl) foc0 rfl Try.isAgg70) <| RJ_mbF rfl rfl rfl (fun hG16 => have hP17 : ¬ (k < (0 : Int)) := nP (bT_dec) hG16; VJ_eq (V_len (mbx hG16 rfl) foc1 (Reads.sl _ _ _) Try.runUnderlying70) (congrArg (fun z : Nat => Value.int .i64 (z : Int)) (mk_mleg_len (by have := hdl3; simpa using this)).symm)) <| RJ_mbF rfl rfl rfl (fun hG18 => have hP19 : ¬ (k < (0 : Int)) := nP (bT_dec) hG18; VJ_P (P_gtr (a := k) (b := ((m.legs.length : Nat) : Int)) (mbx hG18 rfl) (mbx hG18 rfl))) <| oP (P_pickOr rfl rfl (fun hh => mbx (not_f hh) rfl)) rfl <| oM rfl rfl <| RJ_mbF rfl rfl rfl (fun hG20 => have hP21 : ¬ ((k < (0 : Int)) ∨ (((m.legs.length : Nat) : Int) < k)) := nP ((bT_or bT_dec bT_dec)) hG20; VJ_P (P_move rfl)) ?_
 refine RJ_mbF rfl rfl rfl (fun hG22 => have hP23 : ¬ ((k < (0 : Int)) ∨ (((m.legs.length : Nat) : Int) < k)) := nP ((bT_or bT_dec bT_dec)) hG22; VJ_P (P_move rfl)) <| RJ_mbF rfl rfl rfl (fun hG24 => have hP25 : ¬ ((k < (0 : Int)) ∨ (((m.legs.length : Nat) : Int) < k)) := nP ((bT_or bT_dec bT_dec)) hG24; VJ_P (P_nilCheck (mbx hG24 rfl))) <| RJ_mbF rfl rfl rfl (fun hG26 => have hP27 : ¬ ((k < (0 : Int)) ∨ (((m.legs.length : Nat) : Int) < k)) := nP ((bT_or bT_dec bT_dec)) hG26; VJ_P (P_fieldAddr (mbx hG26 rfl) ⟨_, _, _, Try.runUnderlying74, rfl, rfl, Try.sizeOf70, rfl⟩)) <| RJ_mbF rfl rfl rfl (fun hG28 => have hP29 : ¬ ((k < (0 : Int)) ∨ (((m.legs.length : Nat) : Int) < k)) := nP ((bT_or bT_dec bT_dec)) hG28; V_load (mbx hG28 rfl) foc0 rfl Try.isAgg70) <| RJ_mbF rfl rfl rfl (fun hG30 => have hP31 : ¬ ((k < (0 : Int)) ∨ (((m.legs.length : Nat) : Int) < k)) := nP ((bT_or bT_dec bT_dec)) hG30; VJ_eq (V_len (mbx hG30 rfl) foc1 (Reads.sl _ _ _) Try.runUnderlying70) (congrArg (fun z : Nat => Value.int .i64 (z : Int)) (mk_mleg_len (by have := hdl3; simpa using this)).symm)) <| RJ_mbF rfl rfl rfl (fun hG32 => have hP33 : ¬ ((k < (0 : Int)) ∨ (((m.legs.length : Nat) : Int) < k)) := nP ((bT_or bT_dec bT_dec)) hG32; VJ_P (P_eql (a := k) (b := ((m.legs.length : Nat) : Int)) (mbx hG32 rfl) (mbx hG32 rfl))) <| RJ_mbF rfl rfl rfl (fun hG34 => have hP35 : ¬ ((k < (0 : Int)) ∨ (((m.legs.length : Nat) : Int) < k)) := nP ((bT_or bT_dec bT_dec)) hG34; VJ_P (P_move (mbx hG34 rfl))) ?_
 refine RJ_mbGT rfl rfl rfl (fun hG36 => have hP37 : ¬ ((k < (0 : Int)) ∨ (((m.legs.length : Nat) : Int) < k)) := nP ((bT_or bT_dec bT_dec)) (and_l hG36); have hP38 : (k = ((m.legs.length : Nat) : Int)) := (bT_dec).1 (and_r hG36); VJ_P (P_move rfl)) <| RJ_mbGT rfl rfl rfl (fun hG39 => have hP40 : ¬ ((k < (0 : Int)) ∨ (((m.legs.length : Nat) : Int) < k)) := nP ((bT_or bT_dec bT_dec)) (and_l hG39); have hP41 : (k = ((m.legs.length : Nat) : Int)) := (bT_dec).1 (and_r hG39); VJ_P (P_nilCheck (mbx hG39 rfl))) <| RJ_mbGT rfl rfl rfl (fun hG42 => have hP43 : ¬ ((k < (0 : Int)) ∨ (((m.legs.length : Nat) : Int) < k)) := nP ((bT_or bT_dec bT_dec)) (and_l hG42); have hP44 : (k = ((m.legs.length : Nat) : Int)) := (bT_dec).1 (and_r hG42); VJ_P (P_fieldAddr (mbx hG42 rfl) ⟨_, _, _, Try.runUnderlying74, rfl, rfl, Try.sizeOf4, rfl⟩)) <| RJ_mbGT rfl rfl rfl (fun hG45 => have hP46 : ¬ ((k < (0 : Int)) ∨ (((m.legs.length : Nat) : Int) < k)) := nP ((bT_or bT_dec bT_dec)) (and_l hG45); have hP47 : (k = ((m.legs.length : Nat) : Int)) := (bT_dec).1 (and_r hG45); V_load (mbx hG45 rfl) foc0 rfl Try.isAgg4) <| RJ_mbGT rfl rfl rfl (fun hG48 => have hP49 : ¬ ((k < (0 : Int)) ∨ (((m.legs.length : Nat) : Int) < k)) := nP ((bT_or bT_dec bT_dec)) (and_l hG48); have hP50 : (k = ((m.legs.length : Nat) : Int)) := (bT_dec).1 (and_r hG48); VJ_P (P_not (mbx hG48 rfl))) ?_
 refine RJ_mbF rfl rfl rfl (fun hG51 => have hP52 : ¬ ((k < (0 : Int)) ∨ (((m.legs.length : Nat) : Int) < k)) := nP ((bT_or bT_dec bT_dec)) hG51; VJ_P (P_pickAnd (mbx hG51 rfl) (fun hh => mbx (and_i hG51 hh) rfl) rfl)) <| oP (P_pickOr rfl rfl (fun hh => mbx (not_f hh) rfl)) rfl <| oA rfl rfl <| RJ_nil <| QJ_ent (Ent.trans eR (MirQ_mk (v0 := m.legs) (v1 := m.log) (v2 := m.hasLog) (v3 := m.logState) (v4 := m.size) (v5 := m.region) (v6 := m.dirty) (v7 := m.copied) (h0 := oc1.1) (h1 := oc1.2.1) (h2 := oc1.2.2))) <| QJ_then <| CJ_condP rfl (bT_or (bT_or bT_dec bT_dec) (bT_and bT_dec (bT_not Iff.rfl))) (fun hg1 => ?_) (fun hg1 => ?_)
 ·
  replace h := ite_t hg1 h
  refine sR <| oA rfl rfl <| nT <| CJ_ret <| QJ_block_ret <| QJ_then_ret ?_
  cases h
  exact fE (res1 Try.results43 rfl) () eR
 ·
  replace h := ite_f hg1 h
  refine sR <| oM rfl rfl ?_
  obtain ⟨r53, hr54, h⟩ := bind_e h
  refine oO <| O_call (LQ_mirror_Mirror_result hr54) rfl Try.call31 (Dels.cons del0 (Dels.cons del0 Dels.nil)) rfl fun _ _ => oP (P_neq (a := r53) (b := (0 : Int)) rfl rfl) rfl <| oA rfl rfl <| nT <| CJ_condP rfl bT_dec (fun hg2 => ?_) (fun hg2 => ?_)
  ·
   replace h := ite_t hg2 h
   refine sR <| oA rfl rfl <| nT <| CJ_ret <| QJ_block_ret <| QJ_then_ret ?_
   cases h
   exact fE (res1 Try.results43 rfl) () eR
  ·
   replace h := ite_f hg2 h
   refine CJ_seq <| CJ_entX (Ent.transX (t0_ eR) (MirQ_open (l := m))) fun oc55 => CJ_pure (fun h hh => Rs_len (stars_perm (del2 (A := Rs (DevP bs) (m.legs.map mlegS.dev) oc55.1)).out h hh)) fun hdl57 => lC del1 fun hlen58 => ?_
   rw [mk_mleg_len (by have := hdl57; simpa using this)] at hlen58
   refine lC del4 fun hlen59 => CJ_region <| oM rfl rfl <| oM rfl rfl <| oP (P_nilCheck rfl) rfl <| oP (P_fieldAddr rfl ⟨_, _, _, Try.runUnderlying74, rfl, rfl, Try.sizeOf70, rfl⟩) rfl <| oV (V_load rfl foc0 rfl Try.isAgg70) rfl <| oV (VJ_eq (V_len rfl foc1 (Reads.sl _ _ _) Try.runUnderlying70) (congrArg (fun z : Nat => Value.int .i64 (z : Int)) (mk_mleg_len (by have := hdl57; simpa using this)).symm)) rfl <| oP (P_eql (a := k) (b := ((m.legs.length : Nat) : Int)) rfl rfl) rfl <| oM rfl rfl <| RJ_mbF rfl rfl rfl (fun hG60 => have hP61 : ¬ (k = ((m.legs.length : Nat) : Int)) := nP (bT_dec) hG60; VJ_P (P_move rfl)) <| RJ_mbF rfl rfl rfl (fun hG62 => have hP63 : ¬ (k = ((m.legs.length : Nat) : Int)) := nP (bT_dec) hG62; VJ_P (P_nilCheck (mbx hG62 rfl))) <| RJ_mbF rfl rfl rfl (fun hG64 => have hP65 : ¬ (k = ((m.legs.length : Nat) : Int)) := nP (bT_dec) hG64; VJ_P (P_fieldAddr (mbx hG64 rfl) ⟨_, _, _, Try.runUnderlying74, rfl, rfl, Try.sizeOf70, rfl⟩)) <| RJ_mbF rfl rfl rfl (fun hG66 => have hP67 : ¬ (k = ((m.legs.length : Nat) : Int)) := nP (bT_dec) hG66; V_load (mbx hG66 rfl) foc0 rfl Try.isAgg70) <| RJ_mbF rfl rfl rfl (fun hG68 => have hP69 : ¬ (k = ((m.legs.length : Nat) : Int)) := nP (bT_dec) hG68; VJ_P (P_move rfl)) ?_
   refine RJ_mbF rfl rfl rfl (fun hG70 => have hP71 : ¬ (k = ((m.legs.length : Nat) : Int)) := nP (bT_dec) hG70; V_index (i := (k).toNat) (mbx hG70 rfl) (mbx hG70 rfl) (Int.toNat_of_nonneg (by omega)).symm (show (k).toNat < (mk_mleg m.legs oc55.1).length by rw [mk_mleg_len (by have := hdl57; simpa using this)]; exact (by omega)) foc1 (Reads.sl _ _ _) Try.runUnderlying70 Try.sizeOf83) <| RJ_mbF rfl rfl rfl (fun hG72 => have hP73 : ¬ (k = ((m.legs.length : Nat) : Int)) := nP (bT_dec) hG72; VJ_P (P_fieldE (mbx hG72 rfl) ⟨_, _, _, Try.runUnderlying83, rfl, rfl, Try.sizeOf72, rfl⟩)) <| RJ_mbF rfl rfl rfl (fun hG74 => have hP75 : ¬ (k = ((m.legs.length : Nat) : Int)) := nP (bT_dec) hG74; VJ_eq (V_loadE (mbx hG74 rfl) rfl (show (k).toNat < (mk_mleg m.legs oc55.1).length by rw [mk_mleg_len (by have := hdl57; simpa using this)]; exact (by omega)) foc1 (Reads.sl _ _ _) rfl rfl Try.isAgg72) (show (.int .i64 ((m.legs.getD ((k).toNat) mleg_x0).state) : Value) = .int .i64 ((mk_mleg m.legs oc55.1).getD ((k).toNat) mleg_h0).state from by rw [mk_mleg_at (by have := hdl57; simpa using this)])) <| RJ_mbF rfl rfl rfl (fun hG76 => have hP77 : ¬ (k = ((m.legs.length : Nat) : Int)) := nP (bT_dec) hG76; VJ_P (P_neq (a := (m.legs.getD ((k).toNat) mleg_x0).state) (b := (2 : Int)) (mbx hG76 rfl) rfl)) <| oP (P_pickOr rfl rfl (fun hh => mbx (not_f hh) rfl)) rfl <| oA rfl rfl <| RJ_nil ?_
   refine QJ_ent (Ent.trans eR (MirQ_mk (v0 := m.legs) (v1 := m.log) (v2 := m.hasLog) (v3 := m.logState) (v4 := m.size) (v5 := m.region) (v6 := m.dirty) (v7 := m.copied) (h0 := oc55.1) (h1 := oc55.2.1) (h2 := oc55.2.2))) <| QJ_then <| CJ_condP rfl (bT_or bT_dec bT_dec) (fun hg3 => ?_) (fun hg3 => ?_)
   ·
    replace h := ite_t hg3 h
    refine sR <| oA rfl rfl <| nT <| CJ_ret <| QJ_block_ret <| QJ_then_ret ?_
    cases h
    exact fE (res1 Try.results43 rfl) () eR
   ·
    replace h := ite_f hg3 h
    refine CJ_skip <| QJ_block_normal <| QJ_then <| sR <| oA rfl rfl <| nT <| CJ_ret ?_
    cases h
    exact fE (res1 Try.results43 rfl) () eR
def mirror_Mirror_Fill_l1_b (k : Int) (rec : MirS → ArrS → Int → Option ((MirS × ArrS) ⊕ (Int × Int × MirS × ArrS))) (x14 : MirS) (x15 : ArrS) (x16 : Int) : Option ((MirS × ArrS) ⊕ (Int × Int × MirS × ArrS)) :=
  if ((0 : Int) < x16) then
    grd (decide ((k).toNat < x14.legs.length)) <|
    if ((x14.legs.getD ((k).toNat) mleg_x0).copied < x14.size) then
      grd (decide ((k).toNat < x14.legs.length)) <|
      Option.bind (mirror_Mirror_Read x14 ((x14.legs.getD ((k).toNat) mleg_x0).copied) x15) fun r27 =>
      if (r27.2.1 ≠ (0 : Int)) then
        some (.inr (((0 : Int), r27.2.1, r27.2.2.1, r27.2.2.2)))
      else
        grd (decide ((k).toNat < r27.2.2.1.legs.length)) <|
        grd (decide ((k).toNat < r27.2.2.1.legs.length)) <|
        Option.bind (Dvc.wr ((r27.2.2.1.legs.getD ((k).toNat) mleg_x0).dev) r27.2.2.2 ((r27.2.2.1.legs.getD ((k).toNat) mleg_x0).copied) r27.1) fun r36 =>
        if (r36.1 ≠ (0 : Int)) then
          Option.bind (mirror_Mirror_note r27.2.2.1 k r36.1 r36.2) fun r38 =>
          some (.inr (((0 : Int), r38.1, r38.2, r36.2)))
        else
          grd (decide ((k).toNat < r27.2.2.1.legs.length)) <|
          grd (inI64 (((r27.2.2.1.legs.getD ((k).toNat) mleg_x0).copied + (1 : Int)))) <|
          grd (decide ((k).toNat < r27.2.2.1.legs.length)) <|
          grd (inI64 ((x16 - (1 : Int)))) <|
          rec ({ r27.2.2.1 with legs := (r27.2.2.1.legs.set ((k).toNat) { r27.2.2.1.legs.getD ((k).toNat) mleg_x0 with copied := ((r27.2.2.1.legs.getD ((k).toNat) mleg_x0).copied + (1 : Int)) }) }) r36.2 ((x16 - (1 : Int)))
    else
      some (.inl (x14, x15))
  else
    some (.inl (x14, x15))
def mirror_Mirror_Fill_l1 (k : Int) : Nat → MirS → ArrS → Int → Option ((MirS × ArrS) ⊕ (Int × Int × MirS × ArrS))
  | 0, _, _, _ => none
  | n + 1, x14, x15, x16 => mirror_Mirror_Fill_l1_b k (mirror_Mirror_Fill_l1 k n) x14 x15 x16
def mirror_Mirror_Fill (m : MirS) (k : Int) (n_2 : Int) (s : ArrS) : Option (Int × Int × MirS × ArrS) :=
  if (n_2 < (0 : Int)) then
    some (((0 : Int), (1 : Int), m, s))
  else
    Option.bind (mirror_Mirror_filling m k s) fun r1 =>
    if (r1 ≠ (0 : Int)) then
      some (((0 : Int), r1, m, s))
    else
      grd (decide (0 ≤ k ∧ k < (m.legs.length : Int))) <|
      seqO (mirror_Mirror_Fill_l1 k FUEL m s n_2) fun a13 =>
      grd (decide ((k).toNat < a13.1.legs.length)) <|
      some (((a13.1.legs.getD ((k).toNat) mleg_x0).copied, (0 : Int), a13.1, a13.2))
theorem LQ_mirror_Mirror_Fill {W : World} {bm : Nat} {vlm : Sl3} {bs : Nat} {m : MirS} {k : Int} {n_2 : Int} {s : ArrS} {r : Int × Int × MirS × ArrS} (h : mirror_Mirror_Fill m k n_2 s = some r) :
    CSpec Try.prog W 14 [ptr bm 0, .int .i64 k, .int .i64 n_2] [MirQ bs vlm bm m, Arr bs s] (fun x : Unit => .tuple #[.int .i64 r.1, .int .i64 r.2.1]) (fun _ => True) (fun x F => MirQ bs vlm bm r.2.2.1 :: Arr bs r.2.2.2 :: F) := by
 refine CSpec.of_body Try.func14 rfl Try.ntmps14 rfl fun F => ?_
 show CJ _ _ _ _ _ _ (_ :: _ :: F)
 unfold mirror_Mirror_Fill at h
 refine sR <| oA rfl rfl <| oA rfl rfl <| nT <| CJ_seq <| sR <| oM rfl rfl <| oP (P_lss (a := n_2) (b := (0 : Int)) rfl rfl) rfl <| nT <| CJ_condP rfl bT_dec (fun hg1 => ?_) (fun hg1 => ?_)
 ·
  replace h := ite_t hg1 h
  refine sR <| oA rfl rfl <| oA rfl rfl <| nT <| CJ_ret <| QJ_then_ret ?_
  cases h
  exact fE (res2 Try.results14 rfl rfl) () eR
 ·
  replace h := ite_f hg1 h
  refine kT <| CJ_seq <| sR <| oM rfl rfl <| oM rfl rfl ?_
  obtain ⟨r1, hr2, h⟩ := bind_e h
  refine oO <| O_call (LQ_mirror_Mirror_filling hr2) rfl Try.call43 (Dels.cons del0 (Dels.cons del0 Dels.nil)) rfl fun _ _ => oA rfl rfl <| nT <| sR <| oM rfl rfl <| oP (P_neq (a := r1) (b := (0 : Int)) rfl rfl) rfl <| nT <| CJ_condP rfl bT_dec (fun hg2 => ?_) (fun hg2 => ?_)
  ·
   replace h := ite_t hg2 h
   refine sR <| oM rfl rfl <| oA rfl rfl <| oA rfl rfl <| nT <| CJ_ret <| QJ_then_ret ?_
   cases h
   exact fE (res2 Try.results14 rfl rfl) () eR
  ·
   replace h := ite_f hg2 h
   refine kT <| CJ_seq <| CJ_entX (Ent.transX (t0_ eR) (MirQ_open (l := m))) fun oc3 => CJ_pure (fun h hh => Rs_len (stars_perm (del2 (A := Rs (DevP bs) (m.legs.map mlegS.dev) oc3.1)).out h hh)) fun hdl5 => lC del1 fun hlen6 => ?_
   rw [mk_mleg_len (by have := hdl5; simpa using this)] at hlen6
   refine lC del4 fun hlen7 => CJ_region <| oM rfl rfl <| oP (P_nilCheck rfl) rfl <| oP (P_fieldAddr rfl ⟨_, _, _, Try.runUnderlying74, rfl, rfl, Try.sizeOf70, rfl⟩) rfl <| oV (V_load rfl foc0 rfl Try.isAgg70) rfl <| oM rfl rfl ?_
   obtain ⟨hg3, h⟩ := grd_de h
   refine oV (V_index (i := (k).toNat) rfl rfl (Int.toNat_of_nonneg (hg3.1)).symm (show (k).toNat < (mk_mleg m.legs oc3.1).length by rw [mk_mleg_len (by have := hdl5; simpa using this)]; exact (by omega)) foc1 (Reads.sl _ _ _) Try.runUnderlying70 Try.sizeOf83) rfl <| oA rfl rfl <| RJ_nil <| QJ_ent (Ent.trans eR (MirQ_mk (v0 := m.legs) (v1 := m.log) (v2 := m.hasLog) (v3 := m.logState) (v4 := m.size) (v5 := m.region) (v6 := m.dirty) (v7 := m.copied) (h0 := oc3.1) (h1 := oc3.2.1) (h2 := oc3.2.2))) <| QJ_then <| CJ_seq ?_
   obtain ⟨y10, hl8, hK9⟩ := seq_e h
   refine CJ_cutT (X := MirS × ArrS) [2, 6, 7, 10, 11, 12, 27, 28, 29, 30, 31, 32, 33, 34, 35, 36, 37, 38, 39, 40, 41, 42, 43, 44, 45, 46, 47, 48, 49, 50, 51, 52, 53, 54, 55, 56, 57, 58, 59, 60, 61, 62, 63, 64, 65, 66, 67, 68, 69, 70, 71, 72, 73, 74, 75, 76, 77, 78] (fun a13 => ([] : Slots)) (fun a13 R => MirQ bs vlm bm a13.1 :: Arr bs a13.2 :: R) (fun a13 => y10 = .inl a13) (Dels.cons del0 (Dels.cons del0 Dels.nil)) ?_ ?_
   ·
    refine CJ_block <| CJ_loopR (X := Nat × MirS × ArrS × Int) [2, 6, 7, 10, 11, 12, 27, 28, 29, 30, 31, 32, 33, 34, 35, 36, 37, 38, 39, 40, 41, 42, 43, 44, 45, 46, 47, 48, 49, 50, 51, 52, 53, 54, 55, 56, 57, 58, 59, 60, 61, 62, 63, 64, 65, 66, 67, 68, 69, 70, 71, 72, 73, 74, 75, 76, 77, 78] (fun ⟨n, x14, x15, x16⟩ => ([(2, .int .i64 x16)] : Slots)) (fun ⟨n, x14, x15, x16⟩ R => MirQ bs vlm bm x14 :: Arr bs x15 :: R) (fun ⟨n, x14, x15, x16⟩ => mirror_Mirror_Fill_l1 k n x14 x15 x16 = some y10) (fun ⟨n, x14, x15, x16⟩ => n) ⟨FUEL, m, s, n_2⟩ ?_ ?_ eR ?_
    · exact hl8
    · exact ⟨rfl, True.intro⟩
    ·
     rintro ⟨n, x14, x15, x16⟩ h
     cases n with
     | zero => exact none_e h
     | succ n => ?_
     replace h : mirror_Mirror_Fill_l1_b k (mirror_Mirror_Fill_l1 k n) x14 x15 x16 = some y10 := h
     unfold mirror_Mirror_Fill_l1_b at h
     show CJ _ _ _ _ _ (([(2, .int .i64 x16)] : Slots) ++ forget _ _) (MirQ bs vlm bm x14 :: Arr bs x15 :: _)
     refine CJ_seq <| CJ_seq <| CJ_entX (Ent.transX (t0_ eR) (MirQ_open (l := x14))) fun oc17 => CJ_pure (fun h hh => Rs_len (stars_perm (del2 (A := Rs (DevP bs) (x14.legs.map mlegS.dev) oc17.1)).out h hh)) fun hdl19 => lC del1 fun hlen20 => ?_
     rw [mk_mleg_len (by have := hdl19; simpa using this)] at hlen20
     refine lC del4 fun hlen21 => AJ_startH 0 (by kernel_rfl) rfl <| aN 0 1 rfl rfl (P_move rfl) rfl <| aN 1 3 rfl rfl (P_gtr (a := x16) (b := (0 : Int)) rfl rfl) rfl <| aN 2 7 rfl rfl (P_move rfl) rfl <| AJ_splitP 29 rfl bT_dec (fun hg4B hg4 => ?_) (fun hg4B hg4 => ?_)
     ·
      replace h := ite_t hg4 h
      refine aP 3 15 rfl rfl (GY_yes rfl rfl rfl hg4B) (P_move rfl) rfl <| aP 4 31 rfl rfl (GY_yes rfl rfl rfl hg4B) (P_nilCheckE rfl) rfl <| aP 5 63 rfl rfl (GY_yes rfl rfl rfl hg4B) (P_fieldE rfl ⟨_, _, _, Try.runUnderlying83, rfl, rfl, Try.sizeOf3, rfl⟩) rfl ?_
      obtain ⟨hg5, h⟩ := grd_de h
      refine aV 6 127 rfl rfl (GY_yes rfl rfl rfl hg4B) eR (VJ_eq (V_loadE rfl rfl (show (k).toNat < (mk_mleg x14.legs oc17.1).length by rw [mk_mleg_len (by have := hdl19; simpa using this)]; exact hg5) foc1 (Reads.sl _ _ _) rfl rfl Try.isAgg3) (show (.int .i64 ((x14.legs.getD ((k).toNat) mleg_x0).copied) : Value) = .int .i64 ((mk_mleg x14.legs oc17.1).getD ((k).toNat) mleg_h0).copied from by rw [mk_mleg_at (by have := hdl19; simpa using this)])) rfl <| aP 7 255 rfl rfl (GY_yes rfl rfl rfl hg4B) (P_move rfl) rfl <| aP 8 511 rfl rfl (GY_yes rfl rfl rfl hg4B) (P_nilCheck rfl) rfl <| aP 9 1023 rfl rfl (GY_yes rfl rfl rfl hg4B) (P_fieldAddr rfl ⟨_, _, _, Try.runUnderlying74, rfl, rfl, Try.sizeOf3, rfl⟩) rfl <| aV 10 2047 rfl rfl (GY_yes rfl rfl rfl hg4B) eR (V_load rfl foc0 rfl Try.isAgg3) rfl <| aP 11 4095 rfl rfl (GY_yes rfl rfl rfl hg4B) (P_lss (a := (x14.legs.getD ((k).toNat) mleg_x0).copied) (b := x14.size) rfl rfl) rfl <| aN 12 8191 rfl rfl (P_pickT rfl hg4B rfl) rfl <| AJ_done (by kernel_rfl) <| QJ_ent (Ent.trans eR (MirQ_mk (v0 := x14.legs) (v1 := x14.log) (v2 := x14.hasLog) (v3 := x14.logState) (v4 := x14.size) (v5 := x14.region) (v6 := x14.dirty) (v7 := x14.copied) (h0 := oc17.1) (h1 := oc17.2.1) (h2 := oc17.2.2))) <| QJ_then <| CJ_condP rfl bT_dec (fun hg6 => ?_) (fun hg6 => ?_)
      ·
       replace h := ite_t hg6 h
       refine kT <| CJ_seq <| CJ_block <| sR <| oM rfl rfl <| oM rfl rfl <| oP (P_nilCheckE rfl) rfl <| oP (P_fieldE rfl ⟨_, _, _, Try.runUnderlying83, rfl, rfl, Try.sizeOf3, rfl⟩) rfl <| RJ_entX (Ent.transX (t0_ eR) (MirQ_open (l := x14))) fun oc22 => RJ_pure (fun h hh => Rs_len (stars_perm (del2 (A := Rs (DevP bs) (x14.legs.map mlegS.dev) oc22.1)).out h hh)) fun hdl24 => RJ_pure (len_of (Reads.sl _ _ _) del1) fun hlen25 => ?_
       rw [mk_mleg_len (by have := hdl24; simpa using this)] at hlen25
       refine RJ_pure (len_of (Reads.sl _ _ _) del4) fun hlen26 => ?_
       obtain ⟨hg7, h⟩ := grd_de h
       refine oV (VJ_eq (V_loadE rfl rfl (show (k).toNat < (mk_mleg x14.legs oc22.1).length by rw [mk_mleg_len (by have := hdl24; simpa using this)]; exact hg7) foc1 (Reads.sl _ _ _) rfl rfl Try.isAgg3) (show (.int .i64 ((x14.legs.getD ((k).toNat) mleg_x0).copied) : Value) = .int .i64 ((mk_mleg x14.legs oc22.1).getD ((k).toNat) mleg_h0).copied from by rw [mk_mleg_at (by have := hdl24; simpa using this)])) rfl <| RJ_ent (Ent.trans eR (MirQ_mk (v0 := x14.legs) (v1 := x14.log) (v2 := x14.hasLog) (v3 := x14.logState) (v4 := x14.size) (v5 := x14.region) (v6 := x14.dirty) (v7 := x14.copied) (h0 := oc22.1) (h1 := oc22.2.1) (h2 := oc22.2.2))) ?_
       obtain ⟨r27, hr28, h⟩ := bind_e h
       refine oO <| O_call (LQ_mirror_Mirror_Read hr28) rfl Try.call12 (Dels.cons del0 (Dels.cons del0 Dels.nil)) rfl fun _ _ => oM rfl rfl <| oP (P_extract rfl rfl) rfl <| oP (P_extract rfl rfl) rfl <| oA rfl rfl <| oA rfl rfl <| nT <| CJ_seq <| sR <| oM rfl rfl <| oP (P_neq (a := r27.2.1) (b := (0 : Int)) rfl rfl) rfl <| nT <| CJ_condP rfl bT_dec (fun hg8 => ?_) (fun hg8 => ?_)
       ·
        replace h := ite_t hg8 h
        refine sR <| oM rfl rfl <| oA rfl rfl <| oA rfl rfl <| nT <| CJ_ret <| QJ_then_ret <| QJ_block_ret <| QJ_then_ret <| QJ_round_ret <| QJ_block_ret <| QJ_then_ret ?_
        have hE := Option.some.inj h
        replace hE := seq_inr hK9 hE.symm
        subst hE
        exact fE (res2 Try.results14 rfl rfl) () eR
       ·
        replace h := ite_f hg8 h
        refine kT <| CJ_seq <| CJ_seq <| CJ_entX (Ent.transX (t0_ eR) (MirQ_open (l := r27.2.2.1))) fun oc29 => CJ_pure (fun h hh => Rs_len (stars_perm (del2 (A := Rs (DevP bs) (r27.2.2.1.legs.map mlegS.dev) oc29.1)).out h hh)) fun hdl31 => lC del1 fun hlen32 => ?_
        rw [mk_mleg_len (by have := hdl31; simpa using this)] at hlen32
        refine lC del4 fun hlen33 => AJ_startH 2048 (by kernel_rfl) rfl <| aN 0 1 rfl rfl (P_move rfl) rfl <| aN 1 3 rfl rfl (P_nilCheckE rfl) rfl <| aN 2 7 rfl rfl (P_fieldE rfl ⟨_, _, _, Try.runUnderlying83, rfl, rfl, Try.sizeOf57, rfl⟩) rfl ?_
        obtain ⟨hg9, h⟩ := grd_de h
        refine AJ_ent (Ent.trans (t2_ eR) (mk_mleg_rs (i := (k).toNat) hg9)) <| aV 3 15 rfl rfl (GY_none rfl) (t2_ (t2_ (t1_ (t1_ (t1_ (t1_ (eD eR))))))) (VJ_eq (V_loadE rfl rfl (show (k).toNat < (mk_mleg r27.2.2.1.legs oc29.1).length by rw [mk_mleg_len (by have := hdl31; simpa using this)]; exact hg9) foc1 (Reads.sl _ _ _) rfl rfl Try.isAgg57) (show (IfH.v ((oc29.1.getD ((k).toNat) tyDev.dflt)) : Value) = IfH.v ((mk_mleg r27.2.2.1.legs oc29.1).getD ((k).toNat) mleg_h0).dev from by rw [mk_mleg_at (by have := hdl31; simpa using this)])) rfl <| aN 4 31 rfl rfl (P_move rfl) rfl <| aN 5 63 rfl rfl (P_nilCheckE rfl) rfl <| aN 6 127 rfl rfl (P_fieldE rfl ⟨_, _, _, Try.runUnderlying83, rfl, rfl, Try.sizeOf3, rfl⟩) rfl ?_
        obtain ⟨hg10, h⟩ := grd_de h
        refine aV 7 255 rfl rfl (GY_none rfl) (t2_ (t2_ (t1_ (t1_ (t1_ (t1_ (eD eR))))))) (VJ_eq (V_loadE rfl rfl (show (k).toNat < (mk_mleg r27.2.2.1.legs oc29.1).length by rw [mk_mleg_len (by have := hdl31; simpa using this)]; exact hg10) foc1 (Reads.sl _ _ _) rfl rfl Try.isAgg3) (show (.int .i64 ((r27.2.2.1.legs.getD ((k).toNat) mleg_x0).copied) : Value) = .int .i64 ((mk_mleg r27.2.2.1.legs oc29.1).getD ((k).toNat) mleg_h0).copied from by rw [mk_mleg_at (by have := hdl31; simpa using this)])) rfl <| aN 8 511 rfl rfl (P_move rfl) rfl <| aN 9 1023 rfl rfl (P_nilCheckI rfl) rfl <| aN 10 2047 rfl rfl (P_move rfl) rfl <| AJ_pure (fun h hh => DevP_dep h (stars_perm (del0 (A := DevP bs ((r27.2.2.1.legs.getD ((k).toNat) mleg_x0).dev) ((oc29.1.getD ((k).toNat) tyDev.dflt)))).out h hh)) fun hdp35 => ?_
        obtain ⟨r36, hr37, h⟩ := bind_e h
        refine AJ_op 11 4095 rfl (by kernel_rfl) rfl (GY_none rfl) <| O_callI rfl (dev_Write hr37 hdp35) rfl (Dels.cons del0 (Dels.cons del5 Dels.nil)) rfl fun _ _ => ⟨fun h => absurd h (by decide), ?_⟩
        refine aN 12 8191 rfl rfl (P_assign rfl) rfl <| AJ_done (by kernel_rfl) <| QJ_ent (Ent.trans (t3_ (t3_ (t2_ (t2_ (t2_ eR))))) (MirQ_mk (v0 := r27.2.2.1.legs) (v1 := r27.2.2.1.log) (v2 := r27.2.2.1.hasLog) (v3 := r27.2.2.1.logState) (v4 := r27.2.2.1.size) (v5 := r27.2.2.1.region) (v6 := r27.2.2.1.dirty) (v7 := r27.2.2.1.copied) (h0 := oc29.1) (h1 := oc29.2.1) (h2 := oc29.2.2))) <| QJ_then <| sR <| oM rfl rfl <| oP (P_neq (a := r36.1) (b := (0 : Int)) rfl rfl) rfl <| nT <| CJ_condP rfl bT_dec (fun hg11 => ?_) (fun hg11 => ?_)
        ·
         replace h := ite_t hg11 h
         refine sR <| oM rfl rfl <| oM rfl rfl <| oM rfl rfl ?_
         obtain ⟨r38, hr39, h⟩ := bind_e h
         refine oO <| O_call (LQ_mirror_Mirror_note hr39) rfl Try.call44 (Dels.cons del0 (Dels.cons del1 Dels.nil)) rfl fun _ _ => oA rfl rfl <| oA rfl rfl <| nT <| CJ_ret <| QJ_then_ret <| QJ_block_ret <| QJ_then_ret <| QJ_round_ret <| QJ_block_ret <| QJ_then_ret ?_
         have hE := Option.some.inj h
         replace hE := seq_inr hK9 hE.symm
         subst hE
         exact fE (res2 Try.results14 rfl rfl) () (t0_ (t0_ (eD eR)))
        ·
         replace h := ite_f hg11 h
         refine kT <| CJ_region <| oM rfl rfl <| oP (P_nilCheckE rfl) rfl <| oP (P_fieldE rfl ⟨_, _, _, Try.runUnderlying83, rfl, rfl, Try.sizeOf3, rfl⟩) rfl <| RJ_entX (Ent.transX (t0_ eR) (MirQ_open (l := r27.2.2.1))) fun oc40 => RJ_pure (fun h hh => Rs_len (stars_perm (del2 (A := Rs (DevP bs) (r27.2.2.1.legs.map mlegS.dev) oc40.1)).out h hh)) fun hdl42 => RJ_pure (len_of (Reads.sl _ _ _) del1) fun hlen43 => ?_
         rw [mk_mleg_len (by have := hdl42; simpa using this)] at hlen43
         refine RJ_pure (len_of (Reads.sl _ _ _) del4) fun hlen44 => ?_
         obtain ⟨hg12, h⟩ := grd_de h
         refine oV (VJ_eq (V_loadE rfl rfl (show (k).toNat < (mk_mleg r27.2.2.1.legs oc40.1).length by rw [mk_mleg_len (by have := hdl42; simpa using this)]; exact hg12) foc1 (Reads.sl _ _ _) rfl rfl Try.isAgg3) (show (.int .i64 ((r27.2.2.1.legs.getD ((k).toNat) mleg_x0).copied) : Value) = .int .i64 ((mk_mleg r27.2.2.1.legs oc40.1).getD ((k).toNat) mleg_h0).copied from by rw [mk_mleg_at (by have := hdl42; simpa using this)])) rfl ?_
         obtain ⟨hg13, h⟩ := grd_Ie h
         refine oP (P_add (a := (r27.2.2.1.legs.getD ((k).toNat) mleg_x0).copied) (b := (1 : Int)) rfl rfl hg13) rfl <| oP (P_nilCheckE rfl) rfl <| oP (P_fieldE rfl ⟨_, _, _, Try.runUnderlying83, rfl, rfl, Try.sizeOf3, rfl⟩) rfl ?_
         obtain ⟨hg14, h⟩ := grd_de h
         refine oO <| O_storeE (x' := { (mk_mleg r27.2.2.1.legs oc40.1).getD ((k).toNat) mleg_h0 with copied := ((r27.2.2.1.legs.getD ((k).toNat) mleg_x0).copied + (1 : Int)) }) rfl rfl rfl (show (k).toNat < (mk_mleg r27.2.2.1.legs oc40.1).length by rw [mk_mleg_len (by have := hdl42; simpa using this)]; exact hg14) foc1 rfl rfl rfl Try.sizeOf3 <| RJ_ent (Ent.takeC (A' := sl tymlegH (Sl3.v vlm) (mk_mleg (r27.2.2.1.legs.set ((k).toNat) { r27.2.2.1.legs.getD ((k).toNat) mleg_x0 with copied := ((r27.2.2.1.legs.getD ((k).toNat) mleg_x0).copied + (1 : Int)) }) oc40.1)) del1 (congrArg (sl tymlegH (Sl3.v vlm)) (mk_mleg_set_copied (by have := hdl42; simpa using this) hg14 (((r27.2.2.1.legs.getD ((k).toNat) mleg_x0).copied + (1 : Int))))) (Ent.takeC (A' := Rs (DevP bs) (((r27.2.2.1.legs.set ((k).toNat) { r27.2.2.1.legs.getD ((k).toNat) mleg_x0 with copied := ((r27.2.2.1.legs.getD ((k).toNat) mleg_x0).copied + (1 : Int)) })).map mlegS.dev) oc40.1) del1 (congrArg (fun z => Rs (DevP bs) z oc40.1) (mk_mleg_dev_copied (l := r27.2.2.1.legs) (i := ((k).toNat)) (((r27.2.2.1.legs.getD ((k).toNat) mleg_x0).copied + (1 : Int)))).symm) eR)) <| RJ_pure (fun h hh => Rs_len (stars_perm (del1 (A := Rs (DevP bs) ((((r27.2.2.1.legs.set ((k).toNat) { r27.2.2.1.legs.getD ((k).toNat) mleg_x0 with copied := ((r27.2.2.1.legs.getD ((k).toNat) mleg_x0).copied + (1 : Int)) })).map mlegS.dev)) oc40.1)).out h hh)) fun hdl45 => RJ_nil ?_
         refine QJ_ent (Ent.trans (t2_ eR) (MirQ_mk (v0 := (r27.2.2.1.legs.set ((k).toNat) { r27.2.2.1.legs.getD ((k).toNat) mleg_x0 with copied := ((r27.2.2.1.legs.getD ((k).toNat) mleg_x0).copied + (1 : Int)) })) (v1 := r27.2.2.1.log) (v2 := r27.2.2.1.hasLog) (v3 := r27.2.2.1.logState) (v4 := r27.2.2.1.size) (v5 := r27.2.2.1.region) (v6 := r27.2.2.1.dirty) (v7 := r27.2.2.1.copied) (h0 := oc40.1) (h1 := oc40.2.1) (h2 := oc40.2.2))) <| QJ_block_normal <| QJ_then <| CJ_region <| oM rfl rfl ?_
         obtain ⟨hg15, h⟩ := grd_Ie h
         exact oP (P_sub (a := x16) (b := (1 : Int)) rfl rfl hg15) rfl <| oA rfl rfl <| RJ_nil <| nR ⟨n, { r27.2.2.1 with legs := (r27.2.2.1.legs.set ((k).toNat) { r27.2.2.1.legs.getD ((k).toNat) mleg_x0 with copied := ((r27.2.2.1.legs.getD ((k).toNat) mleg_x0).copied + (1 : Int)) }) }, r36.2, (x16 - (1 : Int))⟩ h ⟨rfl, True.intro⟩ (t0_ (t1_ (eD eR)))
      ·
       replace h := ite_f hg6 h
       exact CJ_exit <| QJ_then_exit <| QJ_round_exit <| QJ_block_here <| cR (x14, x15) (Option.some.inj h).symm True.intro eR
     ·
      replace h := ite_f hg4 h
      exact aS 3 15 rfl rfl (GY_no rfl rfl rfl hg4B) rfl <| aS 4 31 rfl rfl (GY_no rfl rfl rfl hg4B) rfl <| aS 5 63 rfl rfl (GY_no rfl rfl rfl hg4B) rfl <| aS 6 127 rfl rfl (GY_no rfl rfl rfl hg4B) rfl <| aS 7 255 rfl rfl (GY_no rfl rfl rfl hg4B) rfl <| aS 8 511 rfl rfl (GY_no rfl rfl rfl hg4B) rfl <| aS 9 1023 rfl rfl (GY_no rfl rfl rfl hg4B) rfl <| aS 10 2047 rfl rfl (GY_no rfl rfl rfl hg4B) rfl <| aS 11 4095 rfl rfl (GY_no rfl rfl rfl hg4B) rfl <| aN 12 8191 rfl rfl (P_pickF rfl hg4B rfl) rfl <| AJ_done (by kernel_rfl) <| QJ_ent (Ent.trans eR (MirQ_mk (v0 := x14.legs) (v1 := x14.log) (v2 := x14.hasLog) (v3 := x14.logState) (v4 := x14.size) (v5 := x14.region) (v6 := x14.dirty) (v7 := x14.copied) (h0 := oc17.1) (h1 := oc17.2.1) (h2 := oc17.2.2))) <| QJ_then <| CJ_condF rfl rfl <| CJ_exit <| QJ_then_exit <| QJ_round_exit <| QJ_block_here <| cR (x14, x15) (Option.some.inj h).symm True.intro eR
   ·
    rintro a13 hy46
    replace h := seq_inl hK9 hy46
    show CJ _ _ _ _ _ (([] : Slots) ++ forget _ _) (MirQ bs vlm bm a13.1 :: Arr bs a13.2 :: _)
    refine sR <| oM rfl rfl <| oP (P_nilCheckE rfl) rfl <| oP (P_fieldE rfl ⟨_, _, _, Try.runUnderlying83, rfl, rfl, Try.sizeOf3, rfl⟩) rfl <| RJ_entX (Ent.transX (t0_ eR) (MirQ_open (l := a13.1))) fun oc47 => RJ_pure (fun h hh => Rs_len (stars_perm (del2 (A := Rs (DevP bs) (a13.1.legs.map mlegS.dev) oc47.1)).out h hh)) fun hdl49 => RJ_pure (len_of (Reads.sl _ _ _) del1) fun hlen50 => ?_
    rw [mk_mleg_len (by have := hdl49; simpa using this)] at hlen50
    refine RJ_pure (len_of (Reads.sl _ _ _) del4) fun hlen51 => ?_
    obtain ⟨hg16, h⟩ := grd_de h
    refine oV (VJ_eq (V_loadE rfl rfl (show (k).toNat < (mk_mleg a13.1.legs oc47.1).length by rw [mk_mleg_len (by have := hdl49; simpa using this)]; exact hg16) foc1 (Reads.sl _ _ _) rfl rfl Try.isAgg3) (show (.int .i64 ((a13.1.legs.getD ((k).toNat) mleg_x0).copied) : Value) = .int .i64 ((mk_mleg a13.1.legs oc47.1).getD ((k).toNat) mleg_h0).copied from by rw [mk_mleg_at (by have := hdl49; simpa using this)])) rfl <| oA rfl rfl <| oA rfl rfl <| RJ_nil <| QJ_ent (Ent.trans eR (MirQ_mk (v0 := a13.1.legs) (v1 := a13.1.log) (v2 := a13.1.hasLog) (v3 := a13.1.logState) (v4 := a13.1.size) (v5 := a13.1.region) (v6 := a13.1.dirty) (v7 := a13.1.copied) (h0 := oc47.1) (h1 := oc47.2.1) (h2 := oc47.2.2))) <| QJ_then <| CJ_ret ?_
    cases h
    exact fE (res2 Try.results14 rfl rfl) () eR
end Go.Proofs
set_option linter.unusedSimpArgs false
set_option linter.unusedVariables false
set_option maxRecDepth 20000
set_option maxHeartbeats 4000000
namespace Go.Proofs
open Go.VG
theorem CSpec.exq {α : Type} {P : Program} {W : World} {f : FuncId} {args : List Value} {A : α → HP} {A0 B0 : HP} {B : α → HP} {R R' : List HP} {X : Type} {res : X → Value} {pf : X → Prop} (hA : ∀ F, EntX (A0 :: F) (fun v => A v :: F)) (hB : ∀ v F, Ent (B v :: F) (B0 :: F)) (h : ∀ v, CSpec P W f args (A v :: R) res pf (fun _ F => B v :: (R' ++ F))) : CSpec P W f args (A0 :: R) res pf (fun _ F => B0 :: (R' ++ F)) := by
  intro F w hs
  obtain ⟨gg, hgg⟩ := hs.heap
  obtain ⟨v, hv⟩ := hA (R ++ F) _ hgg
  refine (h v F w ⟨hs.os, hs.tape, hs.output, gg, hv⟩).mono ?_
  rintro e w' ⟨x, h1, h2, h3⟩
  exact ⟨x, h1, h2, h3.imp (hB v _)⟩
theorem L_mirror_Mirror_Fill {W : World} {bm : Nat} {bs : Nat} {m : MirS} {k : Int} {n_2 : Int} {s : ArrS} {r : Int × Int × MirS × ArrS} (h : mirror_Mirror_Fill m k n_2 s = some r) :
    CSpec Try.prog W 14 [ptr bm 0, .int .i64 k, .int .i64 n_2] [MirP bs bm m, Arr bs s] (fun x : Unit => .tuple #[.int .i64 r.1, .int .i64 r.2.1]) (fun _ => True) (fun x F => MirP bs bm r.2.2.1 :: Arr bs r.2.2.2 :: F) :=
  CSpec.exq (R' := [Arr bs r.2.2.2]) (fun _ => MirQ_of) (fun _ _ => MirQ_to) (fun _ => LQ_mirror_Mirror_Fill h)
end Go.Proofs
set_option linter.unusedSimpArgs false
set_option linter.unusedVariables false
set_option maxRecDepth 20000
set_option maxHeartbeats 4000000
namespace Go.Proofs
open Go.VG
def mirror_Mirror_Accept (m : MirS) (k : Int) (s : ArrS) : Option (Int × MirS × ArrS) :=
  Option.bind (mirror_Mirror_filling m k s) fun r1 =>
  if (r1 ≠ (0 : Int)) then
    some (r1, m, s)
  else
    grd (decide (0 ≤ k ∧ k < (m.legs.length : Int))) <|
    if ((m.legs.getD ((k).toNat) mleg_x0).copied < m.size) then
      some (((20 : Int), m, s))
    else
      Option.bind (mirror_Mirror_Dirty m s) fun r8 =>
      if ((0 : Int) < ((r8.length : Nat) : Int)) then
        some (((20 : Int), m, s))
      else
        Option.bind (mirror_Mirror_flush m s) fun r12 =>
        if (r12.1 ≠ (0 : Int)) then
          some (r12.1, r12.2.1, r12.2.2)
        else
          grd (decide (0 ≤ k ∧ k < (r12.2.1.legs.length : Int))) <|
          Option.bind (Dvc.fl ((r12.2.1.legs.getD ((k).toNat) mleg_x0).dev) r12.2.2) fun r21 =>
          if (r21.1 ≠ (0 : Int)) then
            Option.bind (mirror_Mirror_note r12.2.1 k r21.1 r21.2) fun r23 =>
            if (r23.1 ≠ (0 : Int)) then
              some (r23.1, r23.2, r21.2)
            else
              some (((20 : Int), r23.2, r21.2))
          else
            grd (decide (0 ≤ k ∧ k < (r12.2.1.legs.length : Int))) <|
            some (((0 : Int), { r12.2.1 with legs := (r12.2.1.legs.set ((k).toNat) { r12.2.1.legs.getD ((k).toNat) mleg_x0 with state := (0 : Int) }) }, r21.2))
theorem L_mirror_Mirror_Accept {W : World} {bm : Nat} {bs : Nat} {m : MirS} {k : Int} {s : ArrS} {r : Int × MirS × ArrS} (h : mirror_Mirror_Accept m k s = some r) :
    CSpec Try.prog W 18 [ptr bm 0, .int .i64 k] [MirP bs bm m, Arr bs s] (fun x : Unit => .int .i64 r.1) (fun _ => True) (fun x F => MirP bs bm r.2.1 :: Arr bs r.2.2 :: F) := by
 refine CSpec.of_body Try.func18 rfl Try.ntmps18 rfl fun F => ?_
 show CJ _ _ _ _ _ _ (_ :: _ :: F)
 unfold mirror_Mirror_Accept at h
 refine sR <| oA rfl rfl <| nT <| CJ_seq <| sR <| oM rfl rfl <| oM rfl rfl ?_
 obtain ⟨r1, hr2, h⟩ := bind_e h
 refine oO <| O_call (L_mirror_Mirror_filling hr2) rfl Try.call43 (Dels.cons del0 (Dels.cons del0 Dels.nil)) rfl fun _ _ => oA rfl rfl <| nT <| sR <| oM rfl rfl <| oP (P_neq (a := r1) (b := (0 : Int)) rfl rfl) rfl <| nT <| CJ_condP rfl bT_dec (fun hg1 => ?_) (fun hg1 => ?_)
 ·
  replace h := ite_t hg1 h
  refine sR <| oM rfl rfl <| oA rfl rfl <| nT <| CJ_ret <| QJ_then_ret ?_
  cases h
  exact fE (res1 Try.results18 rfl) () eR
 ·
  replace h := ite_f hg1 h
  refine kT <| CJ_seq <| CJ_seq <| CJ_entX (Ent.transX (t0_ eR) (MirP_open (l := m))) fun oc3 => CJ_pure (fun h hh => Rs_len (stars_perm (del2 (A := Rs (DevP bs) (m.legs.map mlegS.dev) oc3.2.1)).out h hh)) fun hdl5 => lC del1 fun hlen6 => ?_
  rw [mk_mleg_len (by have := hdl5; simpa using this)] at hlen6
  refine lC del4 fun hlen7 => AJ_startH 98304 (by kernel_rfl) rfl <| aN 0 1 rfl rfl (P_move rfl) rfl <| aN 1 3 rfl rfl (P_nilCheck rfl) rfl <| aN 2 7 rfl rfl (P_fieldAddr rfl ⟨_, _, _, Try.runUnderlying74, rfl, rfl, Try.sizeOf70, rfl⟩) rfl <| aV 3 15 rfl rfl (GY_none rfl) eR (V_load rfl foc0 rfl Try.isAgg70) rfl <| aN 4 31 rfl rfl (P_move rfl) rfl ?_
  obtain ⟨hg2, h⟩ := grd_de h
  refine aV 5 63 rfl rfl (GY_none rfl) eR (V_index (i := (k).toNat) rfl rfl (Int.toNat_of_nonneg (hg2.1)).symm (show (k).toNat < (mk_mleg m.legs oc3.2.1).length by rw [mk_mleg_len (by have := hdl5; simpa using this)]; exact (by omega)) foc1 (Reads.sl _ _ _) Try.runUnderlying70 Try.sizeOf83) rfl <| aN 6 127 rfl rfl (P_fieldE rfl ⟨_, _, _, Try.runUnderlying83, rfl, rfl, Try.sizeOf3, rfl⟩) rfl <| aV 7 255 rfl rfl (GY_none rfl) eR (VJ_eq (V_loadE rfl rfl (show (k).toNat < (mk_mleg m.legs oc3.2.1).length by rw [mk_mleg_len (by have := hdl5; simpa using this)]; exact (by omega)) foc1 (Reads.sl _ _ _) rfl rfl Try.isAgg3) (show (.int .i64 ((m.legs.getD ((k).toNat) mleg_x0).copied) : Value) = .int .i64 ((mk_mleg m.legs oc3.2.1).getD ((k).toNat) mleg_h0).copied from by rw [mk_mleg_at (by have := hdl5; simpa using this)])) rfl <| aN 8 511 rfl rfl (P_move rfl) rfl <| aN 9 1023 rfl rfl (P_nilCheck rfl) rfl <| aN 10 2047 rfl rfl (P_fieldAddr rfl ⟨_, _, _, Try.runUnderlying74, rfl, rfl, Try.sizeOf3, rfl⟩) rfl <| aV 11 4095 rfl rfl (GY_none rfl) eR (V_load rfl foc0 rfl Try.isAgg3) rfl <| aN 12 8191 rfl rfl (P_lss (a := (m.legs.getD ((k).toNat) mleg_x0).copied) (b := m.size) rfl rfl) rfl <| aN 13 16383 rfl rfl (P_move rfl) rfl <| AJ_splitP 28 rfl bT_dec (fun hg3B hg3 => ?_) (fun hg3B hg3 => ?_)
  ·
   replace h := ite_t hg3 h
   refine aS 14 32767 rfl rfl (GY_no rfl rfl rfl hg3B) rfl <| aS 15 65535 rfl rfl (GY_no rfl rfl rfl hg3B) rfl <| aS 16 131071 rfl rfl (GY_no rfl rfl rfl hg3B) rfl <| aS 17 262143 rfl rfl (GY_no rfl rfl rfl hg3B) rfl <| aN 18 524287 rfl rfl (P_pickT rfl hg3B rfl) rfl <| AJ_done (by kernel_rfl) <| QJ_ent (Ent.trans eR (MirP_mk (v0 := m.legs) (v1 := m.log) (v2 := m.hasLog) (v3 := m.logState) (v4 := m.size) (v5 := m.region) (v6 := m.dirty) (v7 := m.copied) (h0 := oc3.1) (h1 := oc3.2.1) (h2 := oc3.2.2.1) (h3 := oc3.2.2.2))) <| QJ_then <| CJ_condT rfl rfl <| sR <| oA rfl rfl <| nT <| CJ_ret <| QJ_then_ret ?_
   cases h
   exact fE (res1 Try.results18 rfl) () eR
  ·
   replace h := ite_f hg3 h
   refine aP 14 32767 rfl rfl (GY_yes rfl rfl rfl hg3B) (P_move rfl) rfl <| AJ_ent (Ent.trans eR (MirP_mk (v0 := m.legs) (v1 := m.log) (v2 := m.hasLog) (v3 := m.logState) (v4 := m.size) (v5 := m.region) (v6 := m.dirty) (v7 := m.copied) (h0 := oc3.1) (h1 := oc3.2.1) (h2 := oc3.2.2.1) (h3 := oc3.2.2.2))) ?_
   obtain ⟨r8, hr9, h⟩ := bind_e h
   refine AJ_op 15 65535 rfl (by kernel_rfl) rfl (GY_yes rfl rfl rfl hg3B) <| O_call (L_mirror_Mirror_Dirty hr9) rfl Try.call19 (Dels.cons del0 (Dels.cons del0 Dels.nil)) rfl fun X10 _ => ⟨fun h => absurd h (by decide), ?_⟩
   refine AJ_op 16 131071 rfl (by kernel_rfl) rfl (GY_yes rfl rfl rfl hg3B) <| OJ_V (V_len rfl foc2 (Reads.sl _ _ _) Try.runUnderlying22) rfl <| ⟨fun h => absurd h (by decide), ?_⟩
   refine aP 17 262143 rfl rfl (GY_yes rfl rfl rfl hg3B) (P_gtr (a := ((r8.length : Nat) : Int)) (b := (0 : Int)) rfl rfl) rfl <| aN 18 524287 rfl rfl (P_pickF rfl hg3B rfl) rfl <| aD <| CJ_condP rfl bT_dec (fun hg4 => ?_) (fun hg4 => ?_)
   ·
    replace h := ite_t hg4 h
    refine sR <| oA rfl rfl <| nT <| CJ_ret <| QJ_then_ret ?_
    cases h
    exact fE (res1 Try.results18 rfl) () (t0_ (t0_ (eD eR)))
   ·
    replace h := ite_f hg4 h
    refine kT <| CJ_seq <| sR <| oM rfl rfl ?_
    obtain ⟨r12, hr13, h⟩ := bind_e h
    refine oO <| O_call (L_mirror_Mirror_flush hr13) rfl Try.call49 (Dels.cons del0 (Dels.cons del0 Dels.nil)) rfl fun _ _ => oA rfl rfl <| nT <| sR <| oM rfl rfl <| oP (P_neq (a := r12.1) (b := (0 : Int)) rfl rfl) rfl <| nT <| CJ_condP rfl bT_dec (fun hg5 => ?_) (fun hg5 => ?_)
    ·
     replace h := ite_t hg5 h
     refine sR <| oM rfl rfl <| oA rfl rfl <| nT <| CJ_ret <| QJ_then_ret ?_
     cases h
     exact fE (res1 Try.results18 rfl) () (t0_ (t0_ (eD eR)))
    ·
     replace h := ite_f hg5 h
     refine kT <| CJ_seq <| CJ_seq <| CJ_entX (Ent.transX (t0_ eR) (MirP_open (l := r12.2.1))) fun oc14 => CJ_pure (fun h hh => Rs_len (stars_perm (del2 (A := Rs (DevP bs) (r12.2.1.legs.map mlegS.dev) oc14.2.1)).out h hh)) fun hdl16 => lC del1 fun hlen17 => ?_
     rw [mk_mleg_len (by have := hdl16; simpa using this)] at hlen17
     refine lC del4 fun hlen18 => CJ_region <| oM rfl rfl <| oP (P_nilCheck rfl) rfl <| oP (P_fieldAddr rfl ⟨_, _, _, Try.runUnderlying74, rfl, rfl, Try.sizeOf70, rfl⟩) rfl <| oV (V_load rfl foc0 rfl Try.isAgg70) rfl <| oM rfl rfl ?_
     obtain ⟨hg6, h⟩ := grd_de h
     refine oV (V_index (i := (k).toNat) rfl rfl (Int.toNat_of_nonneg (hg6.1)).symm (show (k).toNat < (mk_mleg r12.2.1.legs oc14.2.1).length by rw [mk_mleg_len (by have := hdl16; simpa using this)]; exact (by omega)) foc1 (Reads.sl _ _ _) Try.runUnderlying70 Try.sizeOf83) rfl <| oP (P_fieldE rfl ⟨_, _, _, Try.runUnderlying83, rfl, rfl, Try.sizeOf57, rfl⟩) rfl <| RJ_ent (Ent.trans (t2_ eR) (mk_mleg_rs (i := (k).toNat) (by omega))) <| oV (VJ_eq (V_loadE rfl rfl (show (k).toNat < (mk_mleg r12.2.1.legs oc14.2.1).length by rw [mk_mleg_len (by have := hdl16; simpa using this)]; exact (by omega)) foc3 (Reads.sl _ _ _) rfl rfl Try.isAgg57) (show (IfH.v ((oc14.2.1.getD ((k).toNat) tyDev.dflt)) : Value) = IfH.v ((mk_mleg r12.2.1.legs oc14.2.1).getD ((k).toNat) mleg_h0).dev from by rw [mk_mleg_at (by have := hdl16; simpa using this)])) rfl <| RJ_pure (fun h hh => DevP_dep h (stars_perm (del0 (A := DevP bs ((r12.2.1.legs.getD ((k).toNat) mleg_x0).dev) ((oc14.2.1.getD ((k).toNat) tyDev.dflt)))).out h hh)) fun hdp20 => ?_
     obtain ⟨r21, hr22, h⟩ := bind_e h
     refine oO <| O_callI rfl (dev_Flush hr22 hdp20) rfl (Dels.cons del0 (Dels.cons del5 Dels.nil)) rfl fun _ _ => oA rfl rfl <| RJ_nil <| QJ_ent (Ent.trans (t3_ (t3_ (t2_ (t2_ (t2_ eR))))) (MirP_mk (v0 := r12.2.1.legs) (v1 := r12.2.1.log) (v2 := r12.2.1.hasLog) (v3 := r12.2.1.logState) (v4 := r12.2.1.size) (v5 := r12.2.1.region) (v6 := r12.2.1.dirty) (v7 := r12.2.1.copied) (h0 := oc14.1) (h1 := oc14.2.1) (h2 := oc14.2.2.1) (h3 := oc14.2.2.2))) <| QJ_then <| sR <| oM rfl rfl <| oP (P_neq (a := r21.1) (b := (0 : Int)) rfl rfl) rfl <| nT <| CJ_condP rfl bT_dec (fun hg7 => ?_) (fun hg7 => ?_)
     ·
      replace h := ite_t hg7 h
      refine CJ_seq <| sR <| oM rfl rfl <| oM rfl rfl <| oM rfl rfl ?_
      obtain ⟨r23, hr24, h⟩ := bind_e h
      refine oO <| O_call (L_mirror_Mirror_note hr24) rfl Try.call44 (Dels.cons del0 (Dels.cons del1 Dels.nil)) rfl fun _ _ => oA rfl rfl <| nT <| sR <| oM rfl rfl <| oP (P_neq (a := r23.1) (b := (0 : Int)) rfl rfl) rfl <| nT <| CJ_condP rfl bT_dec (fun hg8 => ?_) (fun hg8 => ?_)
      ·
       replace h := ite_t hg8 h
       refine sR <| oM rfl rfl <| oA rfl rfl <| nT <| CJ_ret <| QJ_then_ret <| QJ_then_ret ?_
       cases h
       exact fE (res1 Try.results18 rfl) () (t0_ (t0_ (eD (eD eR))))
      ·
       replace h := ite_f hg8 h
       refine kT <| sR <| oA rfl rfl <| nT <| CJ_ret <| QJ_then_ret ?_
       cases h
       exact fE (res1 Try.results18 rfl) () (t0_ (t0_ (eD (eD eR))))
     ·
      replace h := ite_f hg7 h
      refine kT <| CJ_seq <| CJ_entX (Ent.transX (t0_ eR) (MirP_open (l := r12.2.1))) fun oc25 => CJ_pure (fun h hh => Rs_len (stars_perm (del2 (A := Rs (DevP bs) (r12.2.1.legs.map mlegS.dev) oc25.2.1)).out h hh)) fun hdl27 => lC del1 fun hlen28 => ?_
      rw [mk_mleg_len (by have := hdl27; simpa using this)] at hlen28
      refine lC del4 fun hlen29 => CJ_region <| oM rfl rfl <| oP (P_nilCheck rfl) rfl <| oP (P_fieldAddr rfl ⟨_, _, _, Try.runUnderlying74, rfl, rfl, Try.sizeOf70, rfl⟩) rfl <| oV (V_load rfl foc0 rfl Try.isAgg70) rfl <| oM rfl rfl ?_
      obtain ⟨hg9, h⟩ := grd_de h
      refine oV (V_index (i := (k).toNat) rfl rfl (Int.toNat_of_nonneg (hg9.1)).symm (show (k).toNat < (mk_mleg r12.2.1.legs oc25.2.1).length by rw [mk_mleg_len (by have := hdl27; simpa using this)]; exact (by omega)) foc1 (Reads.sl _ _ _) Try.runUnderlying70 Try.sizeOf83) rfl <| oP (P_fieldE rfl ⟨_, _, _, Try.runUnderlying83, rfl, rfl, Try.sizeOf72, rfl⟩) rfl <| oO <| O_storeE (x' := { (mk_mleg r12.2.1.legs oc25.2.1).getD ((k).toNat) mleg_h0 with state := (0 : Int) }) rfl rfl rfl (show (k).toNat < (mk_mleg r12.2.1.legs oc25.2.1).length by rw [mk_mleg_len (by have := hdl27; simpa using this)]; exact (by omega)) foc1 rfl rfl rfl Try.sizeOf72 <| RJ_ent (Ent.takeC (A' := sl tymlegH (Sl3.v oc25.1) (mk_mleg (r12.2.1.legs.set ((k).toNat) { r12.2.1.legs.getD ((k).toNat) mleg_x0 with state := (0 : Int) }) oc25.2.1)) del1 (congrArg (sl tymlegH (Sl3.v oc25.1)) (mk_mleg_set_state (by have := hdl27; simpa using this) (by omega) (0 : Int))) (Ent.takeC (A' := Rs (DevP bs) (((r12.2.1.legs.set ((k).toNat) { r12.2.1.legs.getD ((k).toNat) mleg_x0 with state := (0 : Int) })).map mlegS.dev) oc25.2.1) del1 (congrArg (fun z => Rs (DevP bs) z oc25.2.1) (mk_mleg_dev_state (l := r12.2.1.legs) (i := ((k).toNat)) (0 : Int)).symm) eR)) <| RJ_pure (fun h hh => Rs_len (stars_perm (del1 (A := Rs (DevP bs) ((((r12.2.1.legs.set ((k).toNat) { r12.2.1.legs.getD ((k).toNat) mleg_x0 with state := (0 : Int) })).map mlegS.dev)) oc25.2.1)).out h hh)) fun hdl30 => RJ_nil ?_
      refine QJ_ent (Ent.trans (t2_ eR) (MirP_mk (v0 := (r12.2.1.legs.set ((k).toNat) { r12.2.1.legs.getD ((k).toNat) mleg_x0 with state := (0 : Int) })) (v1 := r12.2.1.log) (v2 := r12.2.1.hasLog) (v3 := r12.2.1.logState) (v4 := r12.2.1.size) (v5 := r12.2.1.region) (v6 := r12.2.1.dirty) (v7 := r12.2.1.copied) (h0 := oc25.1) (h1 := oc25.2.1) (h2 := oc25.2.2.1) (h3 := oc25.2.2.2))) <| QJ_then <| sR <| oA rfl rfl <| nT <| CJ_ret ?_
      cases h
      exact fE (res1 Try.results18 rfl) () (t0_ (t1_ (eD (eD eR))))
end Go.Proofs
set_option linter.unusedSimpArgs false
set_option linter.unusedVariables false
set_option maxRecDepth 20000
set_option maxHeartbeats 4000000
namespace Go.Proofs
open Go.VG
end Go.Proofs
set_option linter.unusedSimpArgs false
set_option linter.unusedVariables false
set_option maxRecDepth 20000
set_option maxHeartbeats 4000000
namespace Go.Proofs
open Go.VG
end Go.Proofs
namespace Go.Proofs
open Go.VG
structure LV where
  f : Nat → Bool
  lost : List Int
  cp : Nat → Int
  ms : Nat → Bool
instance : CoeFun LV (fun _ => Nat → Bool) := ⟨LV.f⟩
structure MI (C : MC) (s : ArrS) (lv : LV) (m : MirS) : Prop where
  len : m.legs.length = C.L
  leg : ∀ i, i < C.L → (m.legs.getD i mleg_x0).dev = xL i C.sz ∧ ((m.legs.getD i mleg_x0).copied = lv.cp i ∨ stM m i ≠ 2) ∧ (lv i = true ∧ stM m i = 0 ∧ miss s i = false ∨ lv i = false ∧ (stM m i = 2 ∨ miss s i = true ∧ (stM m i = 0 ∨ stM m i = 1)))
  size : m.size = (C.sz : Int)
  region : m.region = (C.rg : Int)
  hasLog : m.hasLog = C.lg
  dl : m.dirty.length = C.R
  log : lv C.L = true ∧ m.logState = 0 ∧ miss s C.L = false ∧ (∃ g, m.log = some g ∧ LI C s g) ∨ lv C.L = false ∧ (m.log = none ∧ m.logState = 2 ∨ C.lg = true ∧ miss s C.L = true ∧ (m.logState = 0 ∨ m.logState = 1) ∧ ∃ g, m.log = some g ∧ LogOk C.L 3 C.R g)
  d : lv C.L = true → ∀ r, r < C.R → m.dirty.getD r false = true → SetB C s r
theorem index_l1 {l : List Int} {k : Int} (hl : l.length ≤ 1000000) : ∀ (N i : Nat), l.length - i < N → i ≤ l.length → (∀ j, j < i → l.getD j 0 ≠ k) → slices_Index_int_l1 l k N i = some (.inl ()) ∧ k ∉ l ∨ ∃ j : Nat, slices_Index_int_l1 l k N i = some (.inr ((j : Nat) : Int)) ∧ k ∈ l
  | 0, _, h, _, _ => absurd h (by omega)
  | N + 1, i, h, hi, hn => by
    have hrec := index_l1 (k := k) hl N (i + 1)
    have hu : slices_Index_int_l1 l k (N + 1) i = slices_Index_int_l1_b l k (slices_Index_int_l1 l k N) i := rfl
    rw [hu]
    unfold slices_Index_int_l1_b
    by_cases hlt : i < l.length
    · rw [if_pos (by omega)]
      by_cases he : k = l.getD i 0
      · rw [if_pos he]
        exact .inr ⟨i, rfl, by rw [he]; simp [List.getD, hlt]⟩
      · rw [if_neg he]
        exact hrec (by omega) (by omega) (fun j hj => by
          by_cases e : j = i
          · rw [e]; exact fun x => he x.symm
          · exact hn j (by omega))
    · rw [if_neg (by omega)]
      refine .inl ⟨rfl, fun hk => ?_⟩
      obtain ⟨j, hj, e⟩ := List.mem_iff_getElem.1 hk
      exact hn j (by omega) (by simp [List.getD, hj, e])
theorem contains_eq {l : List Int} {k : Int} (hl : l.length ≤ 1000000) : slices_Contains_int l k = some (decide (k ∈ l)) := by
  unfold slices_Contains_int slices_Index_int
  have hF := fuel_big
  rcases index_l1 (k := k) hl FUEL 0 (by omega) (by omega) (fun j hj => absurd hj (by omega)) with ⟨h1, h2⟩ | ⟨j, h1, h2⟩
  · rw [h1, seqO_inl]; simp only [Option.bind_some]; rw [decide_eq_false h2, decide_eq_false (by omega)]
  · rw [h1, seqO_inr]; simp only [Option.bind_some]; rw [decide_eq_true h2, decide_eq_true (by omega)]
section
variable {C : MC} {K a i at_ : Nat} {s t : ArrS} {lv : LV} {m m' : MirS} {w v : UInt64}
theorem MI.fd {k : Nat} (h : MI C s lv m) (hf : Fd s m m' k) : MI C s lv m' := by
  have e := hf.oth
  refine ⟨hf.len.trans h.len, fun i hi => ?_, by rw [e]; exact h.size, by rw [e]; exact h.region, by rw [e]; exact h.hasLog, by rw [e]; exact h.dl, by rw [e]; exact h.log, by rw [e]; exact h.d⟩
  obtain ⟨h1, h2, h3⟩ := h.leg i hi
  obtain ⟨k1, k2, k3⟩ := hf.leg i (by rw [h.len]; exact hi)
  refine ⟨k1.trans h1, ?_, ?_⟩
  · rcases h2 with z | z
    · exact .inl (k2.trans z)
    · refine .inr fun y => ?_
      rcases k3 with k3 | ⟨-, -, k5⟩
      · exact z (k3.symm.trans y)
      · rw [k5] at y; cases y
  rcases h3 with ⟨h3, h4, h5⟩ | ⟨h3, h4⟩
  · rcases k3 with k3 | ⟨-, k4, -⟩
    · exact .inl ⟨h3, k3.trans h4, h5⟩
    · rw [h5] at k4; cases k4
  · refine .inr ⟨h3, ?_⟩
    rcases k3 with k3 | ⟨-, k4, k5⟩
    · rw [k3]; exact h4
    · exact .inr ⟨k4, .inr k5⟩
theorem MI.live (h : MI C s lv m) (hi : i < C.L) (hl : lv i = true) : stM m i = 0 ∧ miss s i = false := by
  rcases (h.leg i hi).2.2 with ⟨-, h1, h2⟩ | ⟨h1, -⟩
  · exact ⟨h1, h2⟩
  · rw [hl] at h1; cases h1
theorem MI.good (h : MI C s lv m) (hi : i < C.L) (hst : stM m i = 0) : lv i = true ∧ miss s i = false ∨ lv i = false ∧ miss s i = true := by
  rcases (h.leg i hi).2.2 with ⟨h0, h1, h2⟩ | ⟨h0, h1 | ⟨h1, -⟩⟩
  · exact .inl ⟨h0, h2⟩
  · rw [hst] at h1; cases h1
  · exact .inr ⟨h0, h1⟩
theorem MI.dev (h : MI C s lv m) (hi : i < C.L) : (m.legs.getD i mleg_x0).dev = xL i C.sz := (h.leg i hi).1
theorem MI.gI (h : MI C s lv m) (hi : i < C.L) {α : Type} {o : Option α} : grd (decide (0 ≤ ((i : Nat) : Int) ∧ ((i : Nat) : Int) < (m.legs.length : Int))) o = o := grd_t (decide_eq_true ⟨by omega, by rw [h.len]; omega⟩)
theorem fetch_l1 (h : MI C s lv m) (hok : ArrOk C.ns K s) (hdn : s.down = false) (ha : a < C.sz) : ∀ (N i : Nat), C.L - i < N → i ≤ C.L → (∃ j, i ≤ j ∧ j < C.L ∧ lv j = true) →
    (∃ f, f < C.L ∧ lv f = true ∧ mirror_Mirror_fetch_l1 m (a : Int) s N i [] = some (.inr (now s f a, ((f : Nat) : Int), [], 0, m))) ∨ (∃ k, k < C.L ∧ stM m k = 0 ∧ miss s k = true ∧ mirror_Mirror_fetch_l1 m (a : Int) s N i [] = some (.inr (0, 0, [], 18, failM m k)))
  | 0, _, h, _, _ => absurd h (by omega)
  | N + 1, i, hN, hi, ⟨j, hj1, hj2, hj3⟩ => by
    have hu : mirror_Mirror_fetch_l1 m (a : Int) s (N + 1) i [] = mirror_Mirror_fetch_l1_b m (a : Int) s (mirror_Mirror_fetch_l1 m (a : Int) s N) i [] := rfl
    rw [hu]
    unfold mirror_Mirror_fetch_l1_b
    have hlt : i < C.L := by omega
    rw [if_pos (by rw [h.len]; omega)]
    by_cases hst : stM m i = 0
    · rw [if_neg (fun x => x hst), h.dev hlt]
      rcases h.good hlt hst with ⟨h1, h2⟩ | ⟨h1, h2⟩
      · rw [leg_rd hok hdn hlt ha h2]; simp only [Option.bind_some]
        rw [if_pos trivial]; exact .inl ⟨i, hlt, h1, rfl⟩
      · obtain ⟨w, hw⟩ := leg_rdM hok hdn hlt ha h2
        rw [hw]; simp only [Option.bind_some]
        rw [if_neg (by decide), if_neg (by decide), note_leg (by decide) (by decide) (by rw [h.len]; exact hlt) hst]; simp only [Option.bind_some]
        rw [if_neg (by decide)]
        exact .inr ⟨i, hlt, hst, h2, rfl⟩
    · rw [if_pos hst]
      exact fetch_l1 h hok hdn ha N (i + 1) (by omega) (by omega) ⟨j, by
        rcases Nat.lt_or_ge i j with x | x
        · exact x
        · have : i = j := by omega
          subst this
          exact absurd (h.live hj2 hj3).1 hst, hj2, hj3⟩
theorem fetch_eq (h : MI C s lv m) (hok : ArrOk C.ns K s) (hdn : s.down = false) (ha : a < C.sz) (hex : ∃ j, j < C.L ∧ lv j = true) :
    (∃ f, f < C.L ∧ lv f = true ∧ mirror_Mirror_fetch m (a : Int) s = some (now s f a, ((f : Nat) : Int), [], 0, m)) ∨ (∃ k, k < C.L ∧ stM m k = 0 ∧ miss s k = true ∧ mirror_Mirror_fetch m (a : Int) s = some (0, 0, [], 18, failM m k)) := by
  unfold mirror_Mirror_fetch
  have hF := fuel_big
  have hL := C.hL
  obtain ⟨j, hj, hl⟩ := hex
  rcases fetch_l1 h hok hdn ha FUEL 0 (by omega) (by omega) ⟨j, by omega, hj, hl⟩ with ⟨f, h1, h2, h3⟩ | ⟨k, h1, h2, h3, h4⟩
  · rw [h3, seqO_inr]; exact .inl ⟨f, h1, h2, rfl⟩
  · rw [h4, seqO_inr]; exact .inr ⟨k, h1, h2, h3, rfl⟩
theorem failM_nf {k : Nat} (hk : k < m.legs.length) : ¬ NF (failM m k) := fun h => h.leg k (by rw [failM_len]; exact hk) (by unfold stM; rw [failM_at hk, if_pos rfl])
theorem follow_l1 (h : MI C s lv m) (hc : ∀ i, i < C.L → lv.cp i = 0) {y : ArrS} : ∀ (N i : Nat), C.L - i < N → i ≤ C.L → mirror_Mirror_follow_l1 m (a : Int) w N m y i = some (.inl (m, y))
  | 0, _, h, _ => absurd h (by omega)
  | N + 1, i, hN, hi => by
    have hu : mirror_Mirror_follow_l1 m (a : Int) w (N + 1) m y i = mirror_Mirror_follow_l1_b m (a : Int) w (mirror_Mirror_follow_l1 m (a : Int) w N) m y i := rfl
    rw [hu]
    unfold mirror_Mirror_follow_l1_b
    by_cases hlt : i < C.L
    · have hl : i < m.legs.length := by rw [h.len]; exact hlt
      rw [if_pos (by omega), grd_t (decide_eq_true hl), grd_t (decide_eq_true (fun _ => hl)), if_neg (fun x => by
        rcases (h.leg i hlt).2.1 with z | z
        · rw [z, hc i hlt] at x; omega
        · exact z x.1)]
      exact follow_l1 h hc N (i + 1) (by omega) (by omega)
    · rw [if_neg (by rw [h.len]; omega)]
theorem follow_eq (h : MI C s lv m) (hc : ∀ i, i < C.L → lv.cp i = 0) {y : ArrS} : mirror_Mirror_follow m (a : Int) w y = some (0, m, y) := by
  unfold mirror_Mirror_follow
  have hF := fuel_big
  have hL := C.hL
  rw [follow_l1 h hc FUEL 0 (by omega) (by omega), seqO_inl]
theorem MC.divI (ha : a < C.sz) : IntKind.i64.wrap ((a : Int).tdiv (C.rg : Int)) = ((a / C.rg : Nat) : Int) := by
  have h1 : (a : Int).tdiv (C.rg : Int) = ((a / C.rg : Nat) : Int) := (Int.ofNat_tdiv a C.rg).symm
  have h2 : a / C.rg ≤ a := Nat.div_le_self _ _
  have h3 := C.hs
  rw [h1]
  generalize a / C.rg = q at h2 ⊢
  exact wrap64_in (by omega) (by omega)
theorem MI.l6 (h : MI C s lv m) : m.legs.length ≤ 6 := by rw [h.len]; have := C.hL; omega
theorem MI.l6' {k : Nat} (h : MI C s lv m) (hf : Fd s m m' k) : m'.legs.length ≤ 6 := by rw [hf.len]; exact h.l6
end
end Go.Proofs
namespace Go.Proofs
open Go.VG
section
variable {C : MC} {K a i : Nat} {s t y : ArrS} {lv : LV} {m m' x : MirS} {w v : UInt64}
theorem spread2_same (h : MI C s lv x) (hok : ArrOk C.ns K s) (hdn : s.down = false) (ha : a < C.sz) (hi : i < C.L) (hl : lv i = true) (hw : now s i a = w) : mirror_Mirror_spread_2 ((i : Nat) : Int) [] x (a : Int) w s = some (0, s) := by
  unfold mirror_Mirror_spread_2
  rw [contains_eq (by simp)]; simp only [Option.bind_some]
  rw [if_pos (by simp), h.gI hi, Int.toNat_natCast, h.dev hi, leg_rd hok hdn hi ha (h.live hi hl).2, hw]; simp only [Option.bind_some]
  rw [if_pos (.inl ⟨trivial, trivial⟩), seqO_inr]
theorem spread2_miss (h : MI C s lv x) (hok : ArrOk C.ns K s) (hdn : s.down = false) (ha : a < C.sz) (hi : i < C.L) (hm : miss s i = true) : mirror_Mirror_spread_2 ((i : Nat) : Int) [] x (a : Int) w s = some (6, s) := by
  unfold mirror_Mirror_spread_2
  obtain ⟨w', hw'⟩ := leg_rdM hok hdn hi ha hm
  rw [contains_eq (by simp)]; simp only [Option.bind_some]
  rw [if_pos (by simp), h.gI hi, Int.toNat_natCast, h.dev hi, hw']; simp only [Option.bind_some]
  rw [if_pos (.inr ⟨by decide, by decide⟩), seqO_inr]
theorem each_end {o : Option ((MirS × ArrS) ⊕ (Int × MirS × ArrS))} {r : Option (Int × MirS × ArrS)} (hr : r = seqO o fun a12 => Option.bind (mirror_Mirror_result a12.1 a12.2) fun r28 => some (r28, a12.1, a12.2)) {P : MirS → ArrS → Prop} {Q : MirS → ArrS → Prop} (hl : ∀ x y, P x y → x.legs.length ≤ 6)
    (h : (∃ x' y', o = some (.inl (x', y')) ∧ P x' y') ∨ (∃ x' y', o = some (.inr (5, x', y')) ∧ Q x' y')) : ∃ e x' y', r = some (e, x', y') ∧ (e = 0 ∧ NF x' ∧ P x' y' ∨ e = 18 ∧ ¬ NF x' ∧ P x' y' ∨ e = 5 ∧ Q x' y') := by
  subst hr
  rcases h with ⟨x', y', h1, h2⟩ | ⟨x', y', h1, h2⟩
  · rw [h1, seqO_inl]
    by_cases hn : NF x'
    · rw [(result_eq (hl _ _ h2)).1 hn]; exact ⟨0, x', y', rfl, .inl ⟨rfl, hn, h2⟩⟩
    · rw [(result_eq (hl _ _ h2)).2 hn]; exact ⟨18, x', y', rfl, .inr (.inl ⟨rfl, hn, h2⟩)⟩
  · rw [h1, seqO_inr]; exact ⟨5, x', y', rfl, .inr (.inr ⟨rfl, h2⟩)⟩
theorem read_u (h : MI C s lv m) (hcp : ∀ i, i < C.L → lv.cp i = 0) (hnf : NF m) (hok : ArrOk C.ns K s) (hdn : s.down = false) (ha : a < C.sz) (hex : ∃ j, j < C.L ∧ lv j = true) (hw : ∀ j, j < C.L → lv j = true → now s j a = w) :
    ∃ m', Fd s m m' 0 ∧ (mirror_Mirror_Read m (a : Int) s = some (w, 0, m', s) ∧ NF m' ∨ (∃ w', mirror_Mirror_Read m (a : Int) s = some (w', 18, m', s)) ∧ ¬ NF m') := by
  have hF := fuel_big
  have hL := C.hL
  unfold mirror_Mirror_Read
  rw [if_neg (by omega), if_neg (by rw [h.size]; omega), (result_eq h.l6).1 hnf]; simp only [Option.bind_some]
  rw [if_neg (by simp)]
  rcases fetch_eq h hok hdn ha hex with ⟨f, h1, h2, h3⟩ | ⟨k, h1, h2, h3, h4⟩
  · rw [h3]; simp only [Option.bind_some]
    have hr := MC.reg ha
    rw [if_neg (by simp), h.region, grd_t (decide_eq_true (by have := C.hr; omega)), MC.divI ha, grd_t (decide_eq_true ⟨Int.natCast_nonneg _, by rw [h.dl]; exact Int.ofNat_lt.2 hr⟩), Int.toNat_natCast, hw f h1 h2]
    by_cases hd : m.dirty.getD (a / C.rg) false = true
    · rw [if_pos hd]
      unfold mirror_Mirror_spread
      obtain ⟨e, x', y', e1, e2⟩ := each_end (r := mirror_Mirror_each__mirror_Mirror_spread_1 m ((f : Nat) : Int) [] (a : Int) w s) rfl (P := fun x y => Fd s m x 0 ∧ y = s) (Q := fun _ _ => False) (fun x y hp => h.l6' hp.1)
        (each_rule (L := m.legs.length) (f := mirror_Mirror_each__mirror_Mirror_spread_1_l1 m ((f : Nat) : Int) [] (a : Int) w) (ch := fun i => mirror_Mirror_spread_1 ((i : Nat) : Int) ((f : Nat) : Int)) (act := fun i x y => mirror_Mirror_spread_2 ((i : Nat) : Int) [] x (a : Int) w y) (fun _ _ _ _ => rfl)
          (c := fun i => decide (((i : Nat) : Int) ≠ ((f : Nat) : Int))) (fun i _ => rfl) (fun _ x y => Fd s m x 0 ∧ y = s) (fun _ _ => False) (fun i x y hp => hp.1.len)
          (fun i x y hi hp hst _ => by
            obtain ⟨hp, rfl⟩ := hp
            rw [h.len] at hi
            have hx := h.fd hp
            rcases hx.good hi hst with ⟨k1, k2⟩ | ⟨k1, k2⟩
            · exact ⟨0, y, spread2_same hx hok hdn ha hi k1 (hw i hi k1), .inl ⟨rfl, hp, rfl⟩⟩
            · exact ⟨6, y, spread2_miss hx hok hdn ha hi k2, .inr (.inr ⟨by decide, by decide, (hp.fail (by rw [h.len]; exact hi) hst k2).to, rfl⟩)⟩)
          (fun _ _ _ _ hp _ => hp) FUEL 0 m s (by have := h.l6; omega) (by omega) ⟨Fd.refl, rfl⟩)
      rw [e1]; simp only [Option.bind_some]
      rcases e2 with ⟨rfl, e2, e3, rfl⟩ | ⟨rfl, e2, e3, rfl⟩ | ⟨-, e2⟩
      · rw [if_neg (by simp), follow_eq (h.fd e3) hcp]; simp only [Option.bind_some]
        rw [if_neg (by simp)]
        exact ⟨x', e3, .inl ⟨rfl, e2⟩⟩
      · rw [if_pos (by decide)]; simp only [Option.bind_some]
        rw [if_pos (by decide)]
        exact ⟨x', e3, .inr ⟨⟨_, rfl⟩, e2⟩⟩
      · exact e2.elim
    · rw [if_neg hd]
      obtain ⟨e, x', y', e1, e2⟩ := each_end (r := mirror_Mirror_each__mirror_Mirror_Read_1 m [] (a : Int) w s) rfl (P := fun x y => x = m ∧ y = s) (Q := fun _ _ => False) (fun x y hp => by rw [hp.1]; exact h.l6)
        (each_rule (L := m.legs.length) (f := mirror_Mirror_each__mirror_Mirror_Read_1_l1 m [] (a : Int) w) (ch := fun i => mirror_Mirror_Read_1 ((i : Nat) : Int) []) (act := fun i x y => mirror_Mirror_Read_2 ((i : Nat) : Int) x (a : Int) w y) (fun _ _ _ _ => rfl)
          (c := fun i => false) (fun i _ => by unfold mirror_Mirror_Read_1; rw [contains_eq (by simp)]; rfl) (fun _ x y => x = m ∧ y = s) (fun _ _ => False) (fun i x y hp => by rw [hp.1])
          (fun i x y hi hp hst hc => by cases hc) (fun _ _ _ _ hp _ => hp) FUEL 0 m s (by have := h.l6; omega) (by omega) ⟨rfl, rfl⟩)
      rw [e1]; simp only [Option.bind_some]
      rcases e2 with ⟨rfl, e2, rfl, rfl⟩ | ⟨rfl, e2, rfl, rfl⟩ | ⟨-, e2⟩
      · rw [if_neg (by simp)]; exact ⟨x', Fd.refl, .inl ⟨rfl, hnf⟩⟩
      · exact absurd hnf e2
      · exact e2.elim
  · rw [h4]; simp only [Option.bind_some]
    rw [if_pos (by decide)]
    exact ⟨_, (Fd.refl.fail (i := 0) (by rw [h.len]; exact h1) h2 h3).to, .inr ⟨⟨_, rfl⟩, failM_nf (by rw [h.len]; exact h1)⟩⟩
structure Rd (C : MC) (K : Nat) (s : ArrS) (lv : LV) (a : Nat) (t : ArrS) : Prop where
  ok : ArrOk C.ns K t
  dn : t.down = false
  fz : t.fuse = 0
  miss : ∀ e, Go.Proofs.miss t e = Go.Proofs.miss s e
  log : ∀ b, b < 3 → now t C.L b = now s C.L b ∧ cand t C.L b = cand s C.L b
  oth : ∀ j, j < C.L → lv j = true → ∀ b, b < C.sz → b ≠ a → now t j b = now s j b
  one : ∀ j, j < C.L → lv j = true → ∀ b, b < C.sz → cand t j b = [now t j b]
  at_ : ∀ j, j < C.L → lv j = true → ∃ f, f < C.L ∧ lv f = true ∧ now t j a = now s f a
theorem Rd.refl (hok : ArrOk C.ns K s) (hdn : s.down = false) (hf : s.fuse = 0) (h1 : ∀ j, j < C.L → lv j = true → ∀ b, b < C.sz → cand s j b = [now s j b]) : Rd C K s lv a s :=
  ⟨hok, hdn, hf, fun _ => rfl, fun _ _ => ⟨rfl, rfl⟩, fun _ _ _ _ _ _ => rfl, h1, fun j hj hl => ⟨j, hj, hl, rfl⟩⟩
theorem Rd.put {K' : Nat} {u : ArrS} (h : Rd C K s lv a t) (hK : K + 1 ≤ K') (hi : i < C.L) (hl : lv i = true) (ha : a < C.sz) (hw : ∃ f, f < C.L ∧ lv f = true ∧ w = now s f a) (h1 : Wrote C.ns K t i a w u) (h2 : Flushed1 C.ns (K + 1) u i y) : Rd C K' s lv a y ∧ now y i a = w ∧ ∀ j, j ≠ i → now y j a = now t j a := by
  have hn : ∀ e b, now y e b = if i = e ∧ a = b then w else now t e b := fun e b => by rw [h2.now, h1.now]
  have hc : ∀ e b, e < C.ns.length → b < C.ns.getD e 0 → cand y e b = if i = e then [now y e b] else cand t e b := fun e b he hb => by
    rw [h2.cand e b he hb]
    split
    · rw [h2.now]
    · rename_i hne
      rw [h1.cand, if_neg (fun x => hne x.1)]
  refine ⟨⟨h2.ok.mono hK, h2.dn, by rw [h2.fuse, h1.fuse, h.fz], fun e => by rw [h2.miss, h1.miss, h.miss], fun b hb => ?_, fun j hj hlj b hb hba => ?_, fun j hj hlj b hb => ?_, fun j hj hlj => ?_⟩, by rw [hn, if_pos ⟨rfl, rfl⟩], fun j hj => by rw [hn, if_neg (fun x => hj x.1.symm)]⟩
  · rw [hn, if_neg (fun x => by omega), hc C.L b logL (by rw [MC.log]; exact hb), if_neg (by omega)]
    exact h.log b hb
  · rw [hn, if_neg (fun x => hba x.2.symm)]; exact h.oth j hj hlj b hb hba
  · rw [hc j b (by rw [MC.len]; omega) (by rw [MC.leg hj]; exact hb)]
    split
    · rfl
    · rename_i hne
      rw [h.one j hj hlj b hb, hn, if_neg (fun x => hne x.1)]
  · rw [hn]
    split
    · exact hw
    · exact h.at_ j hj hlj
theorem MI.arr (h : MI C s lv m) (hm : ∀ e, miss t e = miss s e) (hlog : ∀ b, b < 3 → now t C.L b = now s C.L b ∧ cand t C.L b = cand s C.L b) : MI C t lv m := by
  refine ⟨h.len, fun i hi => by rw [hm]; exact h.leg i hi, h.size, h.region, h.hasLog, h.dl, ?_, fun hl r hr hd c hc => ?_⟩
  · rw [hm]
    rcases h.log with ⟨h1, h2, h3, g, h4, h5⟩ | h1
    · exact .inl ⟨h1, h2, h3, g, h4, h5.arr (fun c hc => by rw [← (hlog 0 (by decide)).2]; exact hc) (fun c hc => by rw [← (hlog 1 (by decide)).2]; exact hc) (hlog 1 (by decide)).1⟩
    · exact .inr h1
  · rw [(hlog 1 (by decide)).2] at hc
    exact h.d hl r hr hd c hc
end
end Go.Proofs
namespace Go.Proofs
open Go.VG
structure Mk (m m' : MirS) : Prop where
  len : m'.legs.length = m.legs.length
  st : ∀ j, j < m.legs.length → (stM m' j = 2 ↔ stM m j = 2)
  lst : m'.logState = 2 ↔ m.logState = 2
  dirty : m'.dirty = m.dirty
  copied : m'.copied = m.copied
structure WrD (C : MC) (K : Nat) (s : ArrS) (lv : LV) (a : Nat) (v : UInt64) (t : ArrS) : Prop where
  ok : ArrOk C.ns K t
  miss : ∀ e, Go.Proofs.miss t e = Go.Proofs.miss s e
  dead : ∀ j, j < C.L → lv j = false → ∀ b, b < C.sz → now t j b = now s j b
  cnd : ∀ j, j < C.L → lv j = true → ∀ b, b < C.sz → ∀ c ∈ cand t j b, c ∈ cand s j b ∨ b = a ∧ c = v
  head : ∀ c ∈ cand t C.L 0, lv C.L = true → c = headL C.R
  set : ∀ r, r < C.R → lv C.L = true → SetB C s r → SetB C t r
  reg : lv C.L = true → SetB C t (a / C.rg) ∨ ∀ j, j < C.L → lv j = true → ∀ b, b < C.sz → cand t j b = cand s j b
  bit : lv C.L = true → ∀ c ∈ cand t C.L 1, ∀ r, r < C.R → tb c r = true → r = a / C.rg ∨ ∃ c' ∈ cand s C.L 1, tb c' r = true
structure Wr (C : MC) (K : Nat) (s : ArrS) (lv : LV) (a : Nat) (v : UInt64) (t : ArrS) : Prop extends WrD C K s lv a v t where
  dn : t.down = false
  fz : s.fuse = 0 → t.fuse = 0
  now : ∀ j, j < C.L → lv j = true → ∀ b, b < C.sz → b ≠ a → Go.Proofs.now t j b = Go.Proofs.now s j b
structure Wd (C : MC) (K : Nat) (s : ArrS) (lv : LV) (a : Nat) (v : UInt64) (i : Nat) (t : ArrS) : Prop where
  ok : ArrOk C.ns (K + i) t
  dn : t.down = false
  fz : s.fuse = 0 → t.fuse = 0
  miss : ∀ e, Go.Proofs.miss t e = Go.Proofs.miss s e
  log : ∀ b, b < 3 → Go.Proofs.now t C.L b = Go.Proofs.now s C.L b ∧ cand t C.L b = cand s C.L b
  dead : ∀ j, j < C.L → lv j = false → ∀ b, Go.Proofs.now t j b = Go.Proofs.now s j b
  now : ∀ j, j < C.L → lv j = true → ∀ b, b < C.sz → b ≠ a → Go.Proofs.now t j b = Go.Proofs.now s j b
  at_ : ∀ j, j < C.L → lv j = true → j < i → Go.Proofs.now t j a = v
  cnd : ∀ j, j < C.L → lv j = true → ∀ b, b < C.sz → ∀ c ∈ cand t j b, c ∈ cand s j b ∨ b = a ∧ c = v
section
variable {C : MC} {K a i r : Nat} {s t u y : ArrS} {lv : LV} {m m' x : MirS} {w v : UInt64}
theorem Mk.refl : Mk m m := ⟨rfl, fun _ _ => Iff.rfl, Iff.rfl, rfl, rfl⟩
theorem Mk.trans {m'' : MirS} (h : Mk m m') (h' : Mk m' m'') : Mk m m'' := ⟨h'.len.trans h.len, fun j hj => (h'.st j (by rw [h.len]; exact hj)).trans (h.st j hj), h'.lst.trans h.lst, h'.dirty.trans h.dirty, h'.copied.trans h.copied⟩
theorem Fd.mks {k : Nat} (h : Fd s m m' k) : Mk m m' := by
  have e := h.oth
  refine ⟨h.len, fun j hj => ?_, by rw [e], by rw [e], by rw [e]⟩
  rcases (h.leg j hj).2.2 with h1 | ⟨h1, -, h2⟩
  · rw [h1]
  · rw [h1, h2]; exact ⟨fun x => (by cases x), fun x => (by cases x)⟩
theorem Wd.start (hok : ArrOk C.ns K s) (hdn : s.down = false) : Wd C K s lv a v 0 s :=
  ⟨hok, hdn, id, fun _ => rfl, fun _ _ => ⟨rfl, rfl⟩, fun _ _ _ _ => rfl, fun _ _ _ _ _ _ => rfl, fun _ _ _ h => absurd h (by omega), fun _ _ _ _ _ _ h => .inl h⟩
theorem Wd.same (h : Wd C K s lv a v i t) (hl : i < C.L → lv i = false) : Wd C K s lv a v (i + 1) t :=
  ⟨h.ok.mono (by omega), h.dn, h.fz, h.miss, h.log, h.dead, h.now, fun j hj hlj hji => by
    by_cases e : j = i
    · subst e; rw [hl hj] at hlj; cases hlj
    · exact h.at_ j hj hlj (by omega), h.cnd⟩
theorem Wd.put (h : Wd C K s lv a v i t) (hi : i < C.L) (hl : lv i = true) (h1 : Wrote C.ns (K + i) t i a v u) : Wd C K s lv a v (i + 1) u := by
  refine ⟨h1.ok, h1.dn, fun hf => by rw [h1.fuse, h.fz hf], fun e => by rw [h1.miss, h.miss], fun b hb => ?_, fun j hj hlj b => ?_, fun j hj hlj b hb hba => ?_, fun j hj hlj hji => ?_, fun j hj hlj b hb c hc => ?_⟩
  · rw [h1.now, h1.cand, if_neg (fun x => by omega), if_neg (fun x => by omega)]; exact h.log b hb
  · rw [h1.now, if_neg (fun x => by have := x.1; subst this; rw [hl] at hlj; cases hlj)]; exact h.dead j hj hlj b
  · rw [h1.now, if_neg (fun x => hba x.2.symm)]; exact h.now j hj hlj b hb hba
  · rw [h1.now]
    by_cases e : i = j
    · rw [if_pos ⟨e, rfl⟩]
    · rw [if_neg (fun x => e x.1)]; exact h.at_ j hj hlj (by omega)
  · rw [h1.cand] at hc
    split at hc
    · rename_i x
      rcases List.mem_append.1 hc with hc | hc
      · exact h.cnd j hj hlj b hb c hc
      · exact .inr ⟨x.2.symm, List.mem_singleton.1 hc⟩
    · exact h.cnd j hj hlj b hb c hc
theorem Wd.wr (h : Wd C (K + 1) s lv a v C.L t) {s0 : ArrS} (hl : lv C.L = true → Lg C K s0 s (fun k => k = a / C.rg) (fun _ => False) ∧ SetB C s (a / C.rg) ∧ ∀ c ∈ cand s C.L 0, c = headL C.R) (hn : lv C.L = false → s = s0) (ha : a < C.sz) : Wr C (K + 8) s0 lv a v t := by
  have hL := C.hL
  cases hlv : lv C.L
  · obtain rfl := hn hlv
    have hno : ∀ {p : Prop}, lv C.L = true → p := fun hx => absurd hx (by rw [hlv]; decide)
    exact ⟨⟨h.ok.mono (by omega), h.miss, fun j hj hl b _ => h.dead j hj hl b, h.cnd, fun c hc hx => hno hx, fun r hr hx => hno hx, fun hx => hno hx, fun hx => hno hx⟩, h.dn, h.fz, h.now⟩
  · obtain ⟨h1, h2, h3⟩ := hl hlv
    have hs : ∀ r, SetB C s r → SetB C t r := fun r hr c hc => by rw [(h.log 1 (by decide)).2] at hc; exact hr c hc
    refine ⟨⟨h.ok.mono (by omega), fun e => by rw [h.miss, h1.miss], fun j hj hlj b hb => ?_, fun j hj hlj b hb c hc => ?_, fun c hc _ => by rw [(h.log 0 (by decide)).2] at hc; exact h3 c hc, fun r hr _ hx => hs r (h1.set r hr (fun x => x) hx), fun _ => .inl (hs _ h2), fun _ c hc r hr hb => by rw [(h.log 1 (by decide)).2] at hc; exact h1.bit c hc r hr hb⟩, h.dn, fun hf => h.fz (h1.fz hf), fun j hj hlj b hb hba => by rw [h.now j hj hlj b hb hba, (h1.leg j b hj hb).1]⟩
    · rw [h.dead j hj hlj b, (h1.leg j b hj hb).1]
    · rcases h.cnd j hj hlj b hb c hc with x | x
      · rw [(h1.leg j b hj hb).2] at x; exact .inl x
      · exact .inr x
theorem Mk.fd {k : Nat} (h : Mk m x) (hf : Fd s x m' k) : Mk m m' := h.trans hf.mks
theorem Wd.mi (h : MI C s lv m) (hw : Wd C K s lv a v i t) : MI C t lv m := h.arr hw.miss hw.log
end
end Go.Proofs
namespace Go.Proofs
open Go.VG
structure Ff (C : MC) (K : Nat) (s : ArrS) (lv : LV) (i : Nat) (t : ArrS) : Prop where
  ok : ArrOk C.ns K t
  dn : t.down = false
  fuse : t.fuse = s.fuse
  miss : ∀ e, Go.Proofs.miss t e = Go.Proofs.miss s e
  log : ∀ b, b < 3 → Go.Proofs.now t C.L b = Go.Proofs.now s C.L b ∧ cand t C.L b = cand s C.L b
  now : ∀ e b, Go.Proofs.now t e b = Go.Proofs.now s e b
  sub : ∀ j, j < C.L → lv j = true → ∀ b, b < C.sz → ∀ c ∈ cand t j b, c ∈ cand s j b
  full : ∀ j, j < C.L → lv j = true → j < i → ∀ b, b < C.sz → cand t j b = [Go.Proofs.now s j b]
structure ClD (C : MC) (K : Nat) (s : ArrS) (lv : LV) (t : ArrS) : Prop where
  ok : ArrOk C.ns K t
  miss : ∀ e, Go.Proofs.miss t e = Go.Proofs.miss s e
  leg : ∀ e b, e < C.L → b < C.sz → now t e b = now s e b ∧ cand t e b = cand s e b
  head : lv C.L = true → ∀ c ∈ cand t C.L 0, c = headL C.R
  bit : lv C.L = true → ∀ c ∈ cand t C.L 1, ∀ r, r < C.R → tb c r = true → ∃ c' ∈ cand s C.L 1, tb c' r = true
structure Cl (C : MC) (K : Nat) (s : ArrS) (lv : LV) (t : ArrS) : Prop extends ClD C K s lv t where
  dn : t.down = false
  fz : s.fuse = 0 → t.fuse = 0
structure FlD (C : MC) (K : Nat) (s : ArrS) (lv : LV) (t : ArrS) : Prop where
  ok : ArrOk C.ns K t
  miss : ∀ e, Go.Proofs.miss t e = Go.Proofs.miss s e
  now : ∀ e b, e < C.L → b < C.sz → Go.Proofs.now t e b = Go.Proofs.now s e b
  sub : ∀ j, j < C.L → lv j = true → ∀ b, b < C.sz → ∀ c ∈ cand t j b, c ∈ cand s j b
  head : lv C.L = true → ∀ c ∈ cand t C.L 0, c = headL C.R
  c : lv C.L = true → (∀ r, r < C.R → SetB C s r → SetB C t r) ∨ ∀ j, j < C.L → lv j = true → ∀ b, b < C.sz → cand t j b = [Go.Proofs.now s j b]
  bit : lv C.L = true → ∀ c ∈ cand t C.L 1, ∀ r, r < C.R → tb c r = true → ∃ c' ∈ cand s C.L 1, tb c' r = true
section
variable {C : MC} {K a i r : Nat} {s t u y : ArrS} {lv : LV} {m m' x : MirS} {w v : UInt64}
theorem Ff.start (hok : ArrOk C.ns K s) (hdn : s.down = false) : Ff C K s lv 0 s :=
  ⟨hok, hdn, rfl, fun _ => rfl, fun _ _ => ⟨rfl, rfl⟩, fun _ _ => rfl, fun _ _ _ _ _ _ h => h, fun _ _ _ h => absurd h (by omega)⟩
theorem Ff.same (h : Ff C K s lv i t) (hl : i < C.L → lv i = false) : Ff C K s lv (i + 1) t :=
  ⟨h.ok, h.dn, h.fuse, h.miss, h.log, h.now, h.sub, fun j hj hlj hji => by
    by_cases e : j = i
    · subst e; rw [hl hj] at hlj; cases hlj
    · exact h.full j hj hlj (by omega)⟩
theorem Ff.put (h : Ff C K s lv i t) (hi : i < C.L) (h1 : Flushed1 C.ns K t i u) : Ff C K s lv (i + 1) u := by
  have hc : ∀ e b, e < C.L → b < C.sz → cand u e b = if i = e then [Go.Proofs.now t e b] else cand t e b := fun e b he hb => h1.cand e b (by rw [MC.len]; omega) (by rw [MC.leg he]; exact hb)
  refine ⟨h1.ok, h1.dn, h1.fuse.trans h.fuse, fun e => by rw [h1.miss, h.miss], fun b hb => ?_, fun e b => by rw [h1.now, h.now], fun j hj hlj b hb c hcc => ?_, fun j hj hlj hji b hb => ?_⟩
  · rw [h1.now, h1.cand C.L b logL (by rw [MC.log]; exact hb), if_neg (by omega)]; exact h.log b hb
  · rw [hc j b hj hb] at hcc
    split at hcc
    · rw [List.mem_singleton.1 hcc]
      exact h.sub j hj hlj b hb _ (h.ok.now_cand (by rw [MC.len]; omega) (by rw [MC.leg hj]; exact hb))
    · exact h.sub j hj hlj b hb c hcc
  · rw [hc j b hj hb]
    split
    · rw [h.now]
    · exact h.full j hj hlj (by omega) b hb
theorem flush_legs (h : MI C s lv m) (hok : ArrOk C.ns K s) (hdn : s.down = false) (hK : K ≤ 1000000) :
    ∃ e m' t, mirror_Mirror_flush m s = some (e, m', t) ∧ Fd s m m' 0 ∧ Ff C K s lv C.L t ∧ (e = 0 ∧ NF m' ∨ e = 18 ∧ ¬ NF m') := by
  have hF := fuel_big
  have hL := C.hL
  unfold mirror_Mirror_flush
  obtain ⟨e, x', y', e1, e2⟩ := each_end (r := mirror_Mirror_each__mirror_every_2 m s) rfl (P := fun x y => Fd s m x 0 ∧ Ff C K s lv m.legs.length y) (Q := fun _ _ => False) (fun x y hp => h.l6' hp.1)
    (each_rule (L := m.legs.length) (f := mirror_Mirror_each__mirror_every_2_l1 m) (ch := fun i => mirror_every ((i : Nat) : Int)) (act := fun i x y => mirror_Mirror_flush_1 ((i : Nat) : Int) x y) (fun _ _ _ _ => rfl)
      (c := fun _ => true) (fun i _ => rfl) (fun i x y => Fd s m x 0 ∧ Ff C K s lv i y) (fun _ _ => False) (fun i x y hp => hp.1.len)
      (fun i x y hi hp hst _ => by
        obtain ⟨hp, hq⟩ := hp
        rw [h.len] at hi
        have hx := (h.fd hp).arr hq.miss hq.log
        have hun : ∀ o, mirror_Mirror_flush_1 ((i : Nat) : Int) x y = Option.bind o (fun r8 => some (r8.1, r8.2)) → mirror_Mirror_flush_1 ((i : Nat) : Int) x y = o := fun o ho => by rw [ho]; cases o <;> rfl
        have hw : mirror_Mirror_flush_1 ((i : Nat) : Int) x y = (xL i C.sz).fl y := hun _ (by unfold mirror_Mirror_flush_1; rw [hx.gI hi, Int.toNat_natCast, hx.dev hi])
        rw [hw]
        rcases hx.good hi hst with ⟨g1, g2⟩ | ⟨g1, g2⟩
        · obtain ⟨k1, k2⟩ := hq.ok.flA (d := i) hq.dn (by rw [MC.len]; omega) g2
          rw [leg_fl hq.ok hK hi, k1]
          exact ⟨0, _, rfl, .inl ⟨rfl, hp, hq.put hi k2⟩⟩
        · rw [leg_flM hq.ok hq.dn hK hi g2]
          exact ⟨6, _, rfl, .inr (.inr ⟨by decide, by decide, (hp.fail (by rw [h.len]; exact hi) hst (by rw [← hq.miss]; exact g2)).to, hq.same (fun _ => g1)⟩)⟩)
      (fun i x y hi hp hc => by
        obtain ⟨hp, hq⟩ := hp
        rw [h.len] at hi
        rcases hc with hc | hc
        · refine ⟨hp, hq.same (fun _ => ?_)⟩
          cases hl : lv i
          · rfl
          · exact absurd ((h.fd hp).live hi hl).1 hc
        · cases hc) FUEL 0 m s (by have := h.l6; omega) (by omega) ⟨Fd.refl, Ff.start hok hdn⟩)
  rw [e1]; simp only [Option.bind_some]
  rw [h.len] at e2
  rcases e2 with ⟨rfl, e2, e3, e4⟩ | ⟨rfl, e2, e3, e4⟩ | ⟨-, e2⟩
  · exact ⟨_, _, _, rfl, e3, e4, .inl ⟨rfl, e2⟩⟩
  · exact ⟨_, _, _, rfl, e3, e4, .inr ⟨rfl, e2⟩⟩
  · exact e2.elim
theorem Cl.refl (hok : ArrOk C.ns K s) (hdn : s.down = false) (hh : lv C.L = true → ∀ c ∈ cand s C.L 0, c = headL C.R) : Cl C K s lv s :=
  ⟨⟨hok, fun _ => rfl, fun _ _ _ _ => ⟨rfl, rfl⟩, hh, fun _ c hc _ _ hb => ⟨c, hc, hb⟩⟩, hdn, id⟩
theorem Cl.lg {q : Nat → Prop} (h : Cl C K s lv t) (h1 : Lg C K t u (fun _ => False) q) (hh : lv C.L = true → ∀ c ∈ cand u C.L 0, c = headL C.R) : Cl C (K + 1) s lv u :=
  ⟨⟨h1.ok, fun e => by rw [h1.miss, h.miss], fun e b he hb => ⟨(h1.leg e b he hb).1.trans (h.leg e b he hb).1, (h1.leg e b he hb).2.trans (h.leg e b he hb).2⟩, hh, fun hl c hc r hr hb => by
    rcases h1.bit c hc r hr hb with x | ⟨c', k1, k2⟩
    · exact x.elim
    · exact h.bit hl c' k1 r hr k2⟩, h1.dn, fun hf => h1.fz (h.fz hf)⟩
theorem Cl.mono {K' : Nat} (h : Cl C K s lv t) (hK : K ≤ K') : Cl C K' s lv t := ⟨⟨h.ok.mono hK, h.miss, h.leg, h.head, h.bit⟩, h.dn, h.fz⟩
theorem dirtyL_mem {l : List UInt64} {n k : Nat} (hk : k < (dirtyL l n).length) : ∃ r : Nat, r < n ∧ (dirtyL l n).getD k 0 = r := by
  have h1 : (dirtyL l n).getD k 0 ∈ dirtyL l n := by
    simp only [List.getD, List.getElem?_eq_getElem hk, Option.getD_some]; exact List.getElem_mem hk
  unfold dirtyL at h1
  obtain ⟨r, hr, e⟩ := List.mem_map.1 h1
  exact ⟨r, List.mem_range.1 (List.mem_filter.1 hr).1, e.symm⟩
theorem Ff.fl (h : Ff C K s lv C.L t) (h0 : MI C s lv m) (hcl : ClD C (K + 12) t lv u) : FlD C (K + 12) s lv u ∧ ∀ j, j < C.L → lv j = true → ∀ b, b < C.sz → cand u j b = [Go.Proofs.now s j b] := by
  have hfull : ∀ j, j < C.L → lv j = true → ∀ b, b < C.sz → cand u j b = [Go.Proofs.now s j b] := fun j hj hlj b hb => by rw [(hcl.leg j b hj hb).2]; exact h.full j hj hlj hj b hb
  refine ⟨⟨hcl.ok, fun e => by rw [hcl.miss, h.miss], fun e b he hb => by rw [(hcl.leg e b he hb).1, h.now], fun j hj hlj b hb c hc => ?_, hcl.head, fun _ => .inr hfull, fun hl c hc r hr hb => ?_⟩, hfull⟩
  · rw [(hcl.leg j b hj hb).2] at hc; exact h.sub j hj hlj b hb c hc
  · obtain ⟨c', k1, k2⟩ := hcl.bit hl c hc r hr hb
    rw [(h.log 1 (by decide)).2] at k1
    exact ⟨c', k1, k2⟩
end
end Go.Proofs
namespace Go.Proofs
open Go.VG
theorem spans_l1 {s : ArrS} (h8 : s.drv.length ≤ 1000) (hz : ∀ i, i < s.drv.length → 1 ≤ s.size i ∧ s.size i ≤ 65536) : ∀ (N i : Nat) (acc : List Dvc), s.drv.length - i < N → i ≤ s.drv.length →
    acc = (List.range i).map (fun i => Dvc.span ((i : Nat) : Int) 0 ((s.size i : Nat) : Int)) → volumegroupmake_Spans_l1 s N acc i = some (.inl (spansA s))
  | 0, _, _, h, _, _ => absurd h (by omega)
  | N + 1, i, acc, h, hi, ha => by
    show volumegroupmake_Spans_l1_b _ _ _ _ = _
    unfold volumegroupmake_Spans_l1_b
    subst ha
    by_cases hlt : i < s.drv.length
    · have h1 := hz i hlt
      rw [if_pos (by omega), sizeI_of hlt, span_mk (by omega) (by omega) (by rw [sizeI_of hlt]; omega) (by rw [sizeI_of hlt]; omega)]
      simp only [Option.bind_some, Option.elim]
      rw [if_neg (by simp), grd_t (inLen_of (by simp; omega)), grd_t (inN64_of (by omega))]
      refine spans_l1 h8 hz N (i + 1) _ (by omega) (by omega) ?_
      simp [List.range_succ]
    · rw [if_neg (by omega)]
      have : i = s.drv.length := by omega
      rw [this]; rfl
theorem spans_eq {s : ArrS} (h8 : s.drv.length ≤ 1000) (hz : ∀ i, i < s.drv.length → 1 ≤ s.size i ∧ s.size i ≤ 65536) : volumegroupmake_Spans s = some (spansA s) := by
  unfold volumegroupmake_Spans
  have hF := fuel_big
  generalize FUEL = N at hF ⊢
  rw [spans_l1 h8 hz N 0 _ (by omega) (by omega) (by simp)]; rfl
end Go.Proofs
set_option linter.unusedSimpArgs false
set_option linter.unusedVariables false
set_option maxRecDepth 20000
set_option maxHeartbeats 4000000
namespace Go.Proofs
open Go.VG
theorem bld_26_1_2_3_4 (v0 : Int) (v1 : Int) (v2 : Int) (v3 : Bool) : ∀ w, (Instr.build 26 (#[(1, .int .i64 v0), (2, .int .i64 v1), (3, .int .i64 v2), (4, .bool v3)] : Array (Nat × Value))).run Try.prog w = .ok (.agg #[.pointer none, .int .i64 v0, .int .i64 v1, .int .i64 v2, .bool v3]) w := fun w => by kernel_rfl
theorem bs_51_1_0 (v0 : (Option Addr)) (v1 : Nat) (v2 : Nat) : BuildsSlice Try.prog 51 1 [(0, .slice v0 v1 v2)] 27 [.slice v0 v1 v2] := fun w => by kernel_rfl
def volumegroupref21_Regions (size : Int) (region : Int) : Option (Int) :=
  if ((size < (1 : Int)) ∨ (region < (1 : Int))) then
    some (0 : Int)
  else
    grd (inI64 ((size - (1 : Int)))) <|
    grd (inI64 (((IntKind.i64.wrap (((size - (1 : Int))).tdiv region)) + (1 : Int)))) <|
    some (((IntKind.i64.wrap (((size - (1 : Int))).tdiv region)) + (1 : Int)))
theorem L_volumegroupref21_Regions {W : World} {size : Int} {region : Int} {r : Int} (h : volumegroupref21_Regions size region = some r) :
    CSpec Try.prog W 6 [.int .i64 size, .int .i64 region] [] (fun x : Unit => .int .i64 r) (fun _ => True) (fun x F => F) := by
 refine CSpec.of_body Try.func6 rfl Try.ntmps6 rfl fun F => ?_
 show CJ _ _ _ _ _ _ (F)
 unfold volumegroupref21_Regions at h
 refine sR <| oA rfl rfl <| nT <| CJ_seq <| sR <| oM rfl rfl <| oP (P_lss (a := size) (b := (1 : Int)) rfl rfl) rfl <| oM rfl rfl <| RJ_mbF rfl rfl rfl (fun hG1 => have hP2 : ¬ (size < (1 : Int)) := nP (bT_dec) hG1; VJ_P (P_move rfl)) <| RJ_mbF rfl rfl rfl (fun hG3 => have hP4 : ¬ (size < (1 : Int)) := nP (bT_dec) hG3; VJ_P (P_lss (a := region) (b := (1 : Int)) (mbx hG3 rfl) rfl)) <| oP (P_pickOr rfl rfl (fun hh => mbx (not_f hh) rfl)) rfl <| nT <| CJ_condP rfl (bT_or bT_dec bT_dec) (fun hg1 => ?_) (fun hg1 => ?_)
 ·
  replace h := ite_t hg1 h
  refine sR <| oA rfl rfl <| nT <| CJ_ret <| QJ_then_ret ?_
  cases h
  exact fE (res1 Try.results6 rfl) () eR
 ·
  replace h := ite_f hg1 h
  refine kT <| sR <| oM rfl rfl ?_
  obtain ⟨hg2, h⟩ := grd_Ie h
  refine oP (P_sub (a := size) (b := (1 : Int)) rfl rfl hg2) rfl <| oM rfl rfl <| oP (P_quoT (a := (size - (1 : Int))) (b := region) rfl rfl (by omega)) rfl ?_
  obtain ⟨hg3, h⟩ := grd_Ie h
  refine oP (P_add (a := (IntKind.i64.wrap (((size - (1 : Int))).tdiv region))) (b := (1 : Int)) rfl rfl hg3) rfl <| oA rfl rfl <| nT <| CJ_ret ?_
  cases h
  exact fE (res1 Try.results6 rfl) () eR
def volumegrouplaw21_begun_l1_b (n_0 : UInt8) (r3 : (List UInt64)) (rec : (List (List UInt64)) → Nat → Option ((List (List UInt64)))) (x16 : List (List UInt64)) (x19 : Nat) : Option ((List (List UInt64))) :=
  if (((x19 : Nat) : Int) < (((2 + ((n_0 % (2 : UInt8))).toNat) : Nat) : Int)) then
    grd (inLen (x16.length + 1)) <|
    grd (inN64 (x19 + 1)) <|
    rec (x16 ++ [r3]) (x19 + 1)
  else
    some x16
def volumegrouplaw21_begun_l1 (n_0 : UInt8) (r3 : (List UInt64)) : Nat → (List (List UInt64)) → Nat → Option ((List (List UInt64)))
  | 0, _, _ => none
  | n + 1, x16, x19 => volumegrouplaw21_begun_l1_b n_0 r3 (volumegrouplaw21_begun_l1 n_0 r3 n) x16 x19
def volumegrouplaw21_begun (n_0 : UInt8) : Option ((Option ArrS) × Nat × Nat × Nat × Bool × (List UInt64)) :=
  grd (inN64 ((2 + ((n_0 % (2 : UInt8))).toNat))) <|
  grd (inN64 ((1 + (((n_0 / (2 : UInt8)) % (12 : UInt8))).toNat))) <|
  grd (inN64 ((1 + (((n_0 / (24 : UInt8)) % (4 : UInt8))).toNat))) <|
  Option.bind (volumegroupmake_Words ((((1 + (((n_0 / (2 : UInt8)) % (12 : UInt8))).toNat) : Nat) : Int)) (5 : UInt64)) fun r3 =>
  Option.bind (volumegrouplaw21_begun_l1 n_0 r3 FUEL (([] : List (List UInt64))) 0) fun a15 =>
  grd (inLen (a15.length + 1)) <|
  Option.bind (volumegroupmake_Loaded ((a15 ++ [(List.replicate 3 (0 : UInt64))]))) fun r38 =>
  Option.elim r38 (
    some ((none, (2 + ((n_0 % (2 : UInt8))).toNat), (1 + (((n_0 / (2 : UInt8)) % (12 : UInt8))).toNat), (1 + (((n_0 / (24 : UInt8)) % (4 : UInt8))).toNat), (decide (((128 : UInt8).toNat : Int) ≤ (n_0.toNat : Int))), []))) fun o43 =>
  Option.bind (volumegroupmake_Spans o43) fun r46 =>
  grd (inN64 (((2 + ((n_0 % (2 : UInt8))).toNat) + 1))) <|
  if (((r46.length : Nat) : Int) ≠ ((((2 + ((n_0 % (2 : UInt8))).toNat) + 1) : Nat) : Int)) then
    some ((none, (2 + ((n_0 % (2 : UInt8))).toNat), (1 + (((n_0 / (2 : UInt8)) % (12 : UInt8))).toNat), (1 + (((n_0 / (24 : UInt8)) % (4 : UInt8))).toNat), (decide (((128 : UInt8).toNat : Int) ≤ (n_0.toNat : Int))), r3))
  else
    Option.bind (volumegroupref21_Regions ((((1 + (((n_0 / (2 : UInt8)) % (12 : UInt8))).toNat) : Nat) : Int)) ((((1 + (((n_0 / (24 : UInt8)) % (4 : UInt8))).toNat) : Nat) : Int))) fun r54 =>
    Option.bind (regionlog_Format ((r46.getD ((2 + ((n_0 % (2 : UInt8))).toNat)) dv0)) r54 o43) fun r56 =>
    if (r56.1 ≠ (0 : Int)) then
      some ((none, (2 + ((n_0 % (2 : UInt8))).toNat), (1 + (((n_0 / (2 : UInt8)) % (12 : UInt8))).toNat), (1 + (((n_0 / (24 : UInt8)) % (4 : UInt8))).toNat), (decide (((128 : UInt8).toNat : Int) ≤ (n_0.toNat : Int))), r3))
    else
      some (((some r56.2), (2 + ((n_0 % (2 : UInt8))).toNat), (1 + (((n_0 / (2 : UInt8)) % (12 : UInt8))).toNat), (1 + (((n_0 / (24 : UInt8)) % (4 : UInt8))).toNat), (decide (((128 : UInt8).toNat : Int) ≤ (n_0.toNat : Int))), r3))
theorem L_volumegrouplaw21_begun {W : World} {n_0 : UInt8} {r : (Option ArrS) × Nat × Nat × Nat × Bool × (List UInt64)} (h : volumegrouplaw21_begun n_0 = some r) :
    CSpec Try.prog W 5 [.int .u8 (n_0.toNat : Int)] [] (fun x : Nat × Value => .tuple #[.agg #[oval r.1 x.1, .int .i64 (((r.2.1 : Nat) : Int)), .int .i64 (((r.2.2.1 : Nat) : Int)), .int .i64 (((r.2.2.2.1 : Nat) : Int)), .bool r.2.2.2.2.1], x.2]) (fun _ => True) (fun x F => optP (Arr x.1) r.1 :: RdP tyU x.2 r.2.2.2.2.2 :: F) := by
 refine CSpec.of_body Try.func5 rfl Try.ntmps5 rfl fun F => ?_
 show CJ _ _ _ _ _ _ (F)
 unfold volumegrouplaw21_begun at h
 refine sR <| oO <| O_alloc Try.zeroValue26 rfl rfl fun b1 => oA rfl rfl <| nT <| sR <| oM rfl rfl <| oP (P_rem_u8 (a := n_0) (b := (2 : UInt8)) rfl rfl (by decide)) rfl <| oP (P_convSame rfl Try.runUnderlying5 Try.runUnderlying3 (wrap64_u _ (by have h9 := ((n_0 % (2 : UInt8))).toNat_lt; exact (by omega : ((n_0 % (2 : UInt8))).toNat < 9223372036854775808)))) rfl ?_
 obtain ⟨hg1, h⟩ := grd_Ne h
 refine oP (PJ_eq (P_add (a := (2 : Int)) (b := ((((n_0 % (2 : UInt8))).toNat : Nat) : Int)) rfl rfl (nat_in hg1)) rfl) rfl <| oM rfl rfl <| oP (P_quo_u8 (a := n_0) (b := (2 : UInt8)) rfl rfl (by decide)) rfl <| oP (P_rem_u8 (a := (n_0 / (2 : UInt8))) (b := (12 : UInt8)) rfl rfl (by decide)) rfl <| oP (P_convSame rfl Try.runUnderlying5 Try.runUnderlying3 (wrap64_u _ (by have h9 := (((n_0 / (2 : UInt8)) % (12 : UInt8))).toNat_lt; exact (by omega : (((n_0 / (2 : UInt8)) % (12 : UInt8))).toNat < 9223372036854775808)))) rfl ?_
 obtain ⟨hg2, h⟩ := grd_Ne h
 refine oP (PJ_eq (P_add (a := (1 : Int)) (b := (((((n_0 / (2 : UInt8)) % (12 : UInt8))).toNat : Nat) : Int)) rfl rfl (nat_in hg2)) rfl) rfl <| oM rfl rfl <| oP (P_quo_u8 (a := n_0) (b := (24 : UInt8)) rfl rfl (by decide)) rfl <| oP (P_rem_u8 (a := (n_0 / (24 : UInt8))) (b := (4 : UInt8)) rfl rfl (by decide)) rfl <| oP (P_convSame rfl Try.runUnderlying5 Try.runUnderlying3 (wrap64_u _ (by have h9 := (((n_0 / (24 : UInt8)) % (4 : UInt8))).toNat_lt; exact (by omega : (((n_0 / (24 : UInt8)) % (4 : UInt8))).toNat < 9223372036854775808)))) rfl ?_
 obtain ⟨hg3, h⟩ := grd_Ne h
 refine oP (PJ_eq (P_add (a := (1 : Int)) (b := (((((n_0 / (24 : UInt8)) % (4 : UInt8))).toNat : Nat) : Int)) rfl rfl (nat_in hg3)) rfl) rfl <| oM rfl rfl <| oP (P_geq (a := (n_0.toNat : Int)) (b := ((128 : UInt8).toNat : Int)) rfl rfl) rfl <| oP (P_build rfl (bld_26_1_2_3_4 _ _ _ _)) rfl <| oO <| O_alloc Try.zeroValue26 rfl rfl fun b2 => oO <| O_storeN rfl rfl foc0 Try.sizeOf26 rfl rfl rfl <| nT <| sR <| oP (P_fieldAddr rfl ⟨_, _, _, Try.runUnderlying26, rfl, rfl, Try.sizeOf3, rfl⟩) rfl <| oV (V_load rfl foc0 rfl Try.isAgg3) rfl ?_
 obtain ⟨r3, hr4, h⟩ := bind_e h
 refine oO <| O_call (L_volumegroupmake_Words hr4) rfl Try.call20 Dels.nil rfl fun X5 _ => oA rfl rfl <| nT <| sR <| oA rfl rfl <| nT <| CJ_seq <| sR <| oA rfl rfl <| nT <| CJ_shareS del0 <| CJ_ent (fun h hh => sl_nil (t := tyRow) h (rs_nil (RP := RowP) h hh)) ?_
 obtain ⟨y11, hl9, hK10⟩ := bind_c h
 refine CJ_cutT (X := (List (List UInt64)) × Sl3 × (List Sl3)) [6, 7, 29, 30, 31, 32, 33, 34, 35, 36, 37, 38] (fun ⟨a15, hd13, hs14⟩ => ([(6, hd13.v)] : Slots)) (fun ⟨a15, hd13, hs14⟩ R => sl tyRow hd13.v hs14 :: Rs RowP a15 hs14 :: R) (fun ⟨a15, hd13, hs14⟩ => y11 = a15) (Dels.cons del0 (Dels.cons del0 Dels.nil)) ?_ ?_
 ·
  refine CJ_block <| CJ_loopR (X := Nat × (List (List UInt64)) × Nat × Sl3 × (List Sl3)) [6, 7, 29, 30, 31, 32, 33, 34, 35, 36, 37, 38] (fun ⟨n, x16, x19, hd17, hs18⟩ => ([(6, hd17.v), (7, .int .i64 (((x19 : Nat) : Int)))] : Slots)) (fun ⟨n, x16, x19, hd17, hs18⟩ R => sl tyRow hd17.v hs18 :: Rs RowP x16 hs18 :: R) (fun ⟨n, x16, x19, hd17, hs18⟩ => volumegrouplaw21_begun_l1 n_0 r3 n x16 x19 = some y11) (fun ⟨n, x16, x19, hd17, hs18⟩ => n) ⟨FUEL, ([] : List (List UInt64)), 0, ⟨none, 0, 0⟩, ([] : List Sl3)⟩ ?_ ?_ eR ?_
  · exact hl9
  · exact ⟨rfl, rfl, True.intro⟩
  ·
   rintro ⟨n, x16, x19, hd17, hs18⟩ h
   cases n with
   | zero => exact none_e h
   | succ n => ?_
   replace h : volumegrouplaw21_begun_l1_b n_0 r3 (volumegrouplaw21_begun_l1 n_0 r3 n) x16 x19 = some y11 := h
   unfold volumegrouplaw21_begun_l1_b at h
   show CJ _ _ _ _ _ (([(6, hd17.v), (7, .int .i64 (((x19 : Nat) : Int)))] : Slots) ++ forget _ _) (sl tyRow hd17.v hs18 :: Rs RowP x16 hs18 :: _)
   refine lC del0 fun hlen20 => CJ_pure (fun h hh => Rs_len (stars_perm (del1 (A := Rs RowP x16 hs18)).out h hh)) fun hdl21 => CJ_seq <| sR <| oM rfl rfl <| oP (P_fieldAddr rfl ⟨_, _, _, Try.runUnderlying26, rfl, rfl, Try.sizeOf3, rfl⟩) rfl <| oV (V_load rfl foc3 rfl Try.isAgg3) rfl <| oP (P_lss (a := ((x19 : Nat) : Int)) (b := (((2 + ((n_0 % (2 : UInt8))).toNat) : Nat) : Int)) rfl rfl) rfl <| nT <| CJ_condP rfl bT_dec (fun hg4 => ?_) (fun hg4 => ?_)
   ·
    replace h := ite_t hg4 h
    refine kT <| CJ_seq <| CJ_block <| CJ_region <| oM rfl rfl <| oM rfl rfl <| oO <| O_buildSlice rfl (bs_51_1_0 _ _ _) rfl fun b22 => RJ_ent (Ent.trans (t3_ eR) (fun h hh => stars_dup Dup.slR hh)) <| RJ_ent (Ent.take1 del0 (RowP_of (h := (X5 : Sl3)) Dup.slR (Reads.slR _ _ _)) eR) ?_
    obtain ⟨hg5, h⟩ := grd_Le h
    refine oO <| O_append (t := tyRow) (bytes := 24) rfl rfl del3 foc2 (Reads.lit (t := tyRow) (ys := [(X5 : Sl3)]) rfl rfl (by decide) (by decide) rfl) Try.underlying51 ok_tyRow (apl (m := 1) (b := 24) (by have hz : _ ≤ 1000000000 := hg5; have := hdl21; omega) (by decide)).1 (apl (m := 1) (b := 24) (by have hz : _ ≤ 1000000000 := hg5; have := hdl21; omega) (by decide)).2 rfl fun p25 c26 => RJ_ent (Ent.trans (t4_ (t1_ eR)) (Rs_push (x := r3) (g := (X5 : Sl3)) Dup_RowP)) <| RJ_pure (fun h hh => Rs_len (stars_perm (del0 (A := Rs RowP (x16 ++ [r3]) ((hs18 ++ [(X5 : Sl3)])))).out h hh)) fun hdl27 => oA rfl rfl <| RJ_nil <| QJ_block_normal <| QJ_ent (t0_ (t1_ (t1_ (t2_ (t2_ (eD (eD eR))))))) <| QJ_then <| CJ_region <| oM rfl rfl ?_
    obtain ⟨hg6, h⟩ := grd_Ne h
    exact oP (PJ_eq (P_add (a := ((x19 : Nat) : Int)) (b := (1 : Int)) rfl rfl (nat_in hg6)) rfl) rfl <| oA rfl rfl <| RJ_nil <| nR ⟨n, (x16 ++ [r3]), (x19 + 1), ⟨p25, (hs18 ++ [(X5 : Sl3)]).length, c26⟩, (hs18 ++ [(X5 : Sl3)])⟩ h ⟨rfl, rfl, True.intro⟩ (t1_ eR)
   ·
    replace h := ite_f hg4 h
    exact CJ_exit <| QJ_then_exit <| QJ_round_exit <| QJ_block_here <| cR ⟨x16, hd17, hs18⟩ (Option.some.inj h).symm ⟨rfl, True.intro⟩ eR
 ·
  rintro ⟨a15, hd13, hs14⟩ hy28
  replace h := bindK_at hK10 hy28
  show CJ _ _ _ _ _ (([(6, hd13.v)] : Slots) ++ forget _ _) (sl tyRow hd13.v hs14 :: Rs RowP a15 hs14 :: _)
  refine lC del0 fun hlen29 => CJ_pure (fun h hh => Rs_len (stars_perm (del1 (A := Rs RowP a15 hs14)).out h hh)) fun hdl30 => sR <| oM rfl rfl <| oO <| O_make (t := tyU) (m := 3) (x0 := 0) (z := _) (bytes := _) rfl rfl rfl rfl Try.underlying27 ⟨Try.t33, by kernel_rfl, rfl, rfl, rfl⟩ rfl (by omega) (by decide) rfl fun b31 => oO <| O_buildSlice rfl (bs_51_1_0 _ _ _) rfl fun b32 => RJ_shareS del1 <| RJ_ent (Ent.trans (t0_ eR) (fun h hh => stars_dup Dup.slR hh)) <| RJ_ent (Ent.take1 del0 (RowP_of (h := (⟨some ⟨b31, 0, none⟩, 3, 3⟩ : Sl3)) Dup.slR (Reads.slR _ _ _)) eR) ?_
  obtain ⟨hg7, h⟩ := grd_Le h
  refine oO <| O_append (t := tyRow) (bytes := 24) rfl rfl del3 foc2 (Reads.lit (t := tyRow) (ys := [(⟨some ⟨b31, 0, none⟩, 3, 3⟩ : Sl3)]) rfl rfl (by decide) (by decide) rfl) Try.underlying51 ok_tyRow (apl (m := 1) (b := 24) (by have hz : _ ≤ 1000000000 := hg7; have := hdl30; omega) (by decide)).1 (apl (m := 1) (b := 24) (by have hz : _ ≤ 1000000000 := hg7; have := hdl30; omega) (by decide)).2 rfl fun p35 c36 => RJ_ent (Ent.trans (t4_ (t1_ eR)) (Rs_push (x := (List.replicate 3 (0 : UInt64))) (g := (⟨some ⟨b31, 0, none⟩, 3, 3⟩ : Sl3)) Dup_RowP)) <| RJ_pure (fun h hh => Rs_len (stars_perm (del0 (A := Rs RowP ((a15 ++ [(List.replicate 3 (0 : UInt64))])) ((hs14 ++ [(⟨some ⟨b31, 0, none⟩, 3, 3⟩ : Sl3)])))).out h hh)) fun hdl37 => oA rfl rfl <| RJ_nil <| QJ_ent (t0_ (t1_ (t3_ (t3_ (t3_ (eD (eD (eD eR)))))))) <| QJ_then <| sR <| oM rfl rfl ?_
  obtain ⟨r38, hr39, h⟩ := bind_e h
  refine oO <| O_call (L_volumegroupmake_Loaded (Reads.sl _ _ _) (RowsR.rs hdl37) hr39) rfl Try.call21 (Dels.cons del1 (Dels.cons del0 Dels.nil)) rfl fun X40 _ => oP (P_fieldAddr rfl ⟨_, _, _, Try.runUnderlying26, rfl, rfl, Try.sizeOf24, rfl⟩) rfl <| oO <| O_store rfl rfl foc4 rfl oneCell_oval Try.sizeOf24 <| nT <| CJ_seq <| sR <| oP (P_fieldAddr rfl ⟨_, _, _, Try.runUnderlying26, rfl, rfl, Try.sizeOf24, rfl⟩) rfl <| oV (V_load rfl foc4 rfl Try.isAgg24) rfl ?_
  rcases opt_e h with ⟨ht42, h⟩ | ⟨o43, ht42, h⟩
  ·
   rw [ht42]
   refine RJ_ent (t0_ (t0_ (t1_ (t1_ (t1_ (eD eR)))))) <| oP (P_eqlNN rfl rfl Try.underlying24) rfl <| nT <| CJ_condT rfl rfl <| sR <| oV (V_loadN rfl foc3 Try.isAgg26 Try.sizeOf26 rfl rfl) rfl <| oO <| O_storeN rfl rfl foc4 Try.sizeOf26 rfl rfl rfl <| oA rfl rfl <| nT <| CJ_ret <| QJ_then_ret <| QJ_ent (fun h hh => sl_nil (t := tyU) h hh) <| QJ_ent (Ent.trans (t0_ eR) (RdP_mk (t := tyU) (v := .slice none 0 0) (xs := []) (Reads.sl _ _ _))) ?_
   cases h
   exact fE (resA2 Try.results5 (RV_cellN rfl foc5 Try.isAgg26 Try.sizeOf26 rfl rfl) (RV_tmp rfl)) ⟨0, .slice none 0 0⟩ (Ent.trans (fun h hh => optP_none h hh) <| t0_ (t0_ (eD (eD (eD (eD (eD eR)))))))
  ·
   rw [ht42]
   refine RJ_ent (Ent.takeC (A' := Arr X40 o43) del2 rfl eR) <| oP (P_eqlPN rfl rfl Try.underlying24) rfl <| nT <| CJ_condF rfl rfl <| kT <| sR <| oP (P_fieldAddr rfl ⟨_, _, _, Try.runUnderlying26, rfl, rfl, Try.sizeOf24, rfl⟩) rfl <| oV (V_load rfl foc4 rfl Try.isAgg24) rfl ?_
   obtain ⟨r46, hr47, h⟩ := bind_e h
   refine oO <| O_call (L_volumegroupmake_Spans hr47) rfl Try.call22 (Dels.cons del0 Dels.nil) rfl fun X48 _ => RJ_pure (fun h hh => Rs_len (stars_perm (del2 (A := Rs (DevP X40) r46 X48.2)).out h hh)) fun hdl51 => oA rfl rfl <| RJ_nil <| QJ_ent (t0_ (t0_ (t0_ (t2_ (t2_ (t2_ (eD (eD eR)))))))) <| QJ_then <| CJ_seq <| CJ_seq <| AJ_startH 131072 (by kernel_rfl) rfl <| aN 0 1 rfl rfl (P_move rfl) rfl <| aV 1 3 rfl rfl (GY_none rfl) eR (VJ_eq (V_len rfl foc1 (Reads.sl _ _ _) Try.runUnderlying53) (congrArg (fun z : Nat => Value.int .i64 (z : Int)) (hdl51).symm)) rfl <| aN 2 7 rfl rfl (P_fieldAddr rfl ⟨_, _, _, Try.runUnderlying26, rfl, rfl, Try.sizeOf3, rfl⟩) rfl <| aV 3 15 rfl rfl (GY_none rfl) eR (V_load rfl foc4 rfl Try.isAgg3) rfl ?_
   obtain ⟨hg8, h⟩ := grd_Ne h
   refine aN 4 31 rfl rfl (PJ_eq (P_add (a := (((2 + ((n_0 % (2 : UInt8))).toNat) : Nat) : Int)) (b := (1 : Int)) rfl rfl (nat_in hg8)) rfl) rfl <| aN 5 63 rfl rfl (P_neq (a := ((r46.length : Nat) : Int)) (b := ((((2 + ((n_0 % (2 : UInt8))).toNat) + 1) : Nat) : Int)) rfl rfl) rfl <| aN 6 127 rfl rfl (P_move rfl) rfl <| AJ_splitP 59 rfl bT_dec (fun hg9B hg9 => ?_) (fun hg9B hg9 => ?_)
   ·
    replace h := ite_t hg9 h
    refine aS 7 255 rfl rfl (GY_no rfl rfl rfl hg9B) rfl <| aS 8 511 rfl rfl (GY_no rfl rfl rfl hg9B) rfl <| aS 9 1023 rfl rfl (GY_no rfl rfl rfl hg9B) rfl <| aS 10 2047 rfl rfl (GY_no rfl rfl rfl hg9B) rfl <| aS 11 4095 rfl rfl (GY_no rfl rfl rfl hg9B) rfl <| aS 12 8191 rfl rfl (GY_no rfl rfl rfl hg9B) rfl <| aS 13 16383 rfl rfl (GY_no rfl rfl rfl hg9B) rfl <| aS 14 32767 rfl rfl (GY_no rfl rfl rfl hg9B) rfl <| aS 15 65535 rfl rfl (GY_no rfl rfl rfl hg9B) rfl <| aS 16 131071 rfl rfl (GY_no rfl rfl rfl hg9B) rfl <| aS 17 262143 rfl rfl (GY_no rfl rfl rfl hg9B) rfl <| aS 18 524287 rfl rfl (GY_no rfl rfl rfl hg9B) rfl <| aN 19 1048575 rfl rfl (P_pickT rfl hg9B rfl) rfl <| aD <| CJ_condT rfl rfl <| CJ_region <| oP (P_fieldAddr rfl ⟨_, _, _, Try.runUnderlying26, rfl, rfl, Try.sizeOf24, rfl⟩) rfl <| oO <| O_store rfl rfl foc4 rfl rfl Try.sizeOf24 <| nT <| sR <| oV (V_loadN rfl foc4 Try.isAgg26 Try.sizeOf26 rfl rfl) rfl <| oM rfl rfl <| oO <| O_storeN rfl rfl foc5 Try.sizeOf26 rfl rfl rfl <| oA rfl rfl <| nT <| CJ_ret <| QJ_ent (Ent.trans (t3_ eR) (RdP_mk (t := tyU) (v := X5.v) (xs := r3) (Reads.slR _ _ _))) ?_
    cases h
    exact fE (resA2 Try.results5 (RV_cellN rfl foc5 Try.isAgg26 Try.sizeOf26 rfl rfl) (RV_tmp rfl)) ⟨0, X5.v⟩ (Ent.trans (fun h hh => optP_none h hh) <| t0_ (t0_ (eD (eD (eD (eD (eD eR)))))))
   ·
    replace h := ite_f hg9 h
    refine aP 7 255 rfl rfl (GY_yes rfl rfl rfl hg9B) (P_move rfl) rfl <| aP 8 511 rfl rfl (GY_yes rfl rfl rfl hg9B) (P_fieldAddr rfl ⟨_, _, _, Try.runUnderlying26, rfl, rfl, Try.sizeOf3, rfl⟩) rfl <| aV 9 1023 rfl rfl (GY_yes rfl rfl rfl hg9B) eR (V_load rfl foc4 rfl Try.isAgg3) rfl <| aV 10 2047 rfl rfl (GY_yes rfl rfl rfl hg9B) eR (V_index (i := (2 + ((n_0 % (2 : UInt8))).toNat)) rfl rfl rfl (by have hz : (2 + ((n_0 % (2 : UInt8))).toNat) < r46.length := (by omega); have hy := hdl51; omega) foc1 (Reads.sl _ _ _) Try.runUnderlying53 Try.sizeOf57) rfl <| AJ_ent (Ent.trans (t2_ eR) (Rs_at (fun _ _ => Dup_DevP) (dx := dv0) (dh := tyDev.dflt) (i := (2 + ((n_0 % (2 : UInt8))).toNat)) (by omega))) <| aV 11 4095 rfl rfl (GY_yes rfl rfl rfl hg9B) (t2_ (t2_ (t1_ (t1_ (t1_ (t1_ (eD eR))))))) (V_loadE rfl rfl (by have hz : (2 + ((n_0 % (2 : UInt8))).toNat) < r46.length := (by omega); have hy := hdl51; omega) foc1 (Reads.sl _ _ _) rfl rfl Try.isAgg57) rfl <| aP 12 8191 rfl rfl (GY_yes rfl rfl rfl hg9B) (P_fieldAddr rfl ⟨_, _, _, Try.runUnderlying26, rfl, rfl, Try.sizeOf3, rfl⟩) rfl <| aV 13 16383 rfl rfl (GY_yes rfl rfl rfl hg9B) (t2_ (t2_ (t1_ (t1_ (t1_ (t1_ (eD eR))))))) (V_load rfl foc4 rfl Try.isAgg3) rfl ?_
    refine aP 14 32767 rfl rfl (GY_yes rfl rfl rfl hg9B) (P_fieldAddr rfl ⟨_, _, _, Try.runUnderlying26, rfl, rfl, Try.sizeOf3, rfl⟩) rfl <| aV 15 65535 rfl rfl (GY_yes rfl rfl rfl hg9B) (t2_ (t2_ (t1_ (t1_ (t1_ (t1_ (eD eR))))))) (V_load rfl foc4 rfl Try.isAgg3) rfl ?_
    obtain ⟨r54, hr55, h⟩ := bind_e h
    refine AJ_op 16 131071 rfl (by kernel_rfl) rfl (GY_yes rfl rfl rfl hg9B) <| O_call (L_volumegroupref21_Regions hr55) rfl Try.call6 Dels.nil rfl fun _ _ => ⟨fun _ => (t2_ (t2_ (t1_ (t1_ (t1_ (t1_ (eD eR))))))), ?_⟩
    obtain ⟨r56, hr57, h⟩ := bind_e h
    refine AJ_op 17 262143 rfl (by kernel_rfl) rfl (GY_yes rfl rfl rfl hg9B) <| O_call (L_regionlog_Format hr57) rfl Try.call23 (Dels.cons del0 (Dels.cons del1 Dels.nil)) rfl fun _ _ => ⟨fun h => absurd h (by decide), ?_⟩
    refine aP 18 524287 rfl rfl (GY_yes rfl rfl rfl hg9B) (P_neq (a := r56.1) (b := (0 : Int)) rfl rfl) rfl <| aN 19 1048575 rfl rfl (P_pickF rfl hg9B rfl) rfl <| AJ_done (by kernel_rfl) <| QJ_ent (t1_ (t3_ (t3_ (t3_ (eD (eD (eD eR))))))) <| QJ_then <| CJ_condP rfl bT_dec (fun hg10 => ?_) (fun hg10 => ?_)
    ·
     replace h := ite_t hg10 h
     refine CJ_region <| oP (P_fieldAddr rfl ⟨_, _, _, Try.runUnderlying26, rfl, rfl, Try.sizeOf24, rfl⟩) rfl <| oO <| O_store rfl rfl foc2 rfl rfl Try.sizeOf24 <| nT <| sR <| oV (V_loadN rfl foc2 Try.isAgg26 Try.sizeOf26 rfl rfl) rfl <| oM rfl rfl <| oO <| O_storeN rfl rfl foc3 Try.sizeOf26 rfl rfl rfl <| oA rfl rfl <| nT <| CJ_ret <| QJ_ent (Ent.trans (t1_ eR) (RdP_mk (t := tyU) (v := X5.v) (xs := r3) (Reads.slR _ _ _))) ?_
     cases h
     exact fE (resA2 Try.results5 (RV_cellN rfl foc3 Try.isAgg26 Try.sizeOf26 rfl rfl) (RV_tmp rfl)) ⟨0, X5.v⟩ (Ent.trans (fun h hh => optP_none h hh) <| t0_ (t0_ (eD (eD (eD eR)))))
    ·
     replace h := ite_f hg10 h
     refine kT <| sR <| oV (V_loadN rfl foc2 Try.isAgg26 Try.sizeOf26 rfl rfl) rfl <| oM rfl rfl <| oO <| O_storeN rfl rfl foc3 Try.sizeOf26 rfl rfl rfl <| oA rfl rfl <| nT <| CJ_ret <| QJ_ent (Ent.trans (t1_ eR) (RdP_mk (t := tyU) (v := X5.v) (xs := r3) (Reads.slR _ _ _))) ?_
     cases h
     exact fE (resA2 Try.results5 (RV_cellN rfl foc3 Try.isAgg26 Try.sizeOf26 rfl rfl) (RV_tmp rfl)) ⟨X40, X5.v⟩ (t1_ (t0_ (eD (eD eR))))
def regionlog_check_2 (regions : Int) : Option (Int) :=
  Option.bind (regionlog_Words regions) fun r1 =>
  if (r1 = (0 : Int)) then
    some (1 : Int)
  else
    none
theorem L_regionlog_check_2 {W : World} {regions : Int} {r : Int} (h : regionlog_check_2 regions = some r) :
    CSpec Try.prog W 55 [.nilIface, .int .i64 regions] [] (fun x : Unit => .int .i64 r) (fun _ => True) (fun x F => F) := by
 refine CSpec.of_body Try.func55 rfl Try.ntmps55 rfl fun F => ?_
 show CJ _ _ _ _ _ _ (F)
 unfold regionlog_check_2 at h
 refine sR <| oA rfl rfl <| nT <| CJ_seq <| sR <| oM rfl rfl ?_
 obtain ⟨r1, hr2, h⟩ := bind_e h
 refine oO <| O_call (L_regionlog_Words hr2) rfl Try.call57 Dels.nil rfl fun _ _ => oA rfl rfl <| nT <| CJ_block <| sR <| oM rfl rfl <| oP (P_eql (a := r1) (b := (0 : Int)) rfl rfl) rfl <| oA rfl rfl <| nT <| CJ_condP rfl bT_dec (fun hg1 => ?_) (fun hg1 => ?_)
 ·
  replace h := ite_t hg1 h
  refine sR <| oA rfl rfl <| nT <| CJ_ret <| QJ_block_ret <| QJ_then_ret ?_
  cases h
  exact fE (res1 Try.results55 rfl) () eR
 ·
  replace h := ite_f hg1 h
  exact sR <| oM rfl rfl <| none_e h
def regionlog_Open_2 (regions : Int) : Option (Int) :=
  Option.bind (regionlog_check_2 regions) fun r1 =>
  if (r1 ≠ (0 : Int)) then
    some r1
  else
    Option.bind (regionlog_Words regions) fun r3 =>
    none
theorem L_regionlog_Open_2 {W : World} {regions : Int} {r : Int} (h : regionlog_Open_2 regions = some r) :
    CSpec Try.prog W 61 [.nilIface, .int .i64 regions] [] (fun x : Unit => .tuple #[.pointer none, .int .i64 r]) (fun _ => True) (fun x F => F) := by
 refine CSpec.of_body Try.func61 rfl Try.ntmps61 rfl fun F => ?_
 show CJ _ _ _ _ _ _ (F)
 unfold regionlog_Open_2 at h
 refine sR <| oA rfl rfl <| oA rfl rfl <| nT <| CJ_seq <| sR <| oM rfl rfl <| oM rfl rfl ?_
 obtain ⟨r1, hr2, h⟩ := bind_e h
 refine oO <| O_call (L_regionlog_check_2 hr2) rfl Try.call55 Dels.nil rfl fun _ _ => oA rfl rfl <| nT <| sR <| oM rfl rfl <| oP (P_neq (a := r1) (b := (0 : Int)) rfl rfl) rfl <| nT <| CJ_condP rfl bT_dec (fun hg1 => ?_) (fun hg1 => ?_)
 ·
  replace h := ite_t hg1 h
  refine sR <| oM rfl rfl <| oA rfl rfl <| oA rfl rfl <| nT <| CJ_ret <| QJ_then_ret ?_
  cases h
  exact fE (res2 Try.results61 rfl rfl) () eR
 ·
  replace h := ite_f hg1 h
  refine kT <| sR <| oM rfl rfl <| oM rfl rfl ?_
  obtain ⟨r3, hr4, h⟩ := bind_e h
  exact oO <| O_call (L_regionlog_Words hr4) rfl Try.call57 Dels.nil rfl fun _ _ => none_e h
def mirror_Open_2_l1_b (legs : List Dvc) (staleLegs : List Int) (region : Int) (s : ArrS) (rec : MirS → Nat → Nat → Option (Nat × MirS)) (x33 : MirS) (x34 : Nat) (x35 : Nat) : Option (Nat × MirS) :=
  if (((x35 : Nat) : Int) < ((legs.length : Nat) : Int)) then
    Option.bind (slices_Contains_int staleLegs (((x35 : Nat) : Int))) fun r38 =>
    Option.bind ((
      if r38 = true then
        some (x34, 2)
      else
        grd (inN64 (x34 + 1)) <|
        some (((x34 + 1), 0)) : Option (Nat × Nat))) fun a45 =>
    grd (inLen (x33.legs.length + 1)) <|
    Option.bind (Dvc.size (legs.getD x35 dv0) s) fun r63 =>
    rec ((⟨(x33.legs ++ [(⟨(legs.getD x35 dv0), ((a45.2 : Nat) : Int), (0 : Int)⟩ : mlegS)]), x33.log, x33.hasLog, x33.logState, (min x33.size r63), x33.region, x33.dirty, x33.copied⟩ : MirS)) a45.1 (x35 + 1)
  else
    some (x34, x33)
def mirror_Open_2_l1 (legs : List Dvc) (staleLegs : List Int) (region : Int) (s : ArrS) : Nat → MirS → Nat → Nat → Option (Nat × MirS)
  | 0, _, _, _ => none
  | n + 1, x33, x34, x35 => mirror_Open_2_l1_b legs staleLegs region s (mirror_Open_2_l1 legs staleLegs region s n) x33 x34 x35
def mirror_Open_2_l3_b (r71 : Int) (rec : MirS → Nat → Option (MirS)) (x101 : MirS) (x102 : Nat) : Option (MirS) :=
  if (((x102 : Nat) : Int) < ((((List.replicate ((r71).toNat) false)).length : Nat) : Int)) then
    grd (decide (x102 < x101.dirty.length)) <|
    grd (inN64 (x102 + 1)) <|
    rec ({ x101 with dirty := (x101.dirty.set x102 true) }) (x102 + 1)
  else
    some x101
def mirror_Open_2_l3 (r71 : Int) : Nat → MirS → Nat → Option (MirS)
  | 0, _, _ => none
  | n + 1, x101, x102 => mirror_Open_2_l3_b r71 (mirror_Open_2_l3 r71 n) x101 x102
def mirror_Open_2 (legs : List Dvc) (staleLegs : List Int) (region : Int) (s : ArrS) : Option ((Option MirS) × Int) :=
  if ((((((legs.length : Nat) : Int) < (2 : Int)) ∨ ((6 : Int) < ((legs.length : Nat) : Int))) ∨ (region < (1 : Int))) ∨ ((65536 : Int) < region)) then
    some ((none, (1 : Int)))
  else
    Option.bind (slices_ContainsFunc_int__mirror_Open_1 staleLegs (((legs.length : Nat) : Int))) fun r17 =>
    if r17 = true then
      some ((none, (1 : Int)))
    else
      Option.bind (Dvc.size (legs.getD 0 dv0) s) fun r21 =>
      Option.bind (mirror_Open_2_l1 legs staleLegs region s FUEL ((⟨([] : List mlegS), none, false, (0 : Int), r21, region, [], (0 : Int)⟩ : MirS)) 0 0) fun a32 =>
      if (((a32.1 : Nat) : Int) = (0 : Int)) then
        some ((none, (19 : Int)))
      else
        Option.bind (mirror_Regions a32.2.size region) fun r71 =>
        grd (decide (0 ≤ r71 ∧ r71 ≤ 1000000000)) <|
        Option.bind (slices_Contains_int staleLegs (((legs.length : Nat) : Int))) fun r74 =>
        if (r74 = true ∨ (¬ a32.2.hasLog = true)) then
          Option.bind (mirror_Open_2_l3 r71 FUEL ((⟨a32.2.legs, a32.2.log, a32.2.hasLog, (2 : Int), a32.2.size, a32.2.region, (List.replicate ((r71).toNat) false), a32.2.copied⟩ : MirS)) 0) fun a100 =>
          some (((some a100), (0 : Int)))
        else
          Option.bind (regionlog_Open_2 (((((List.replicate ((r71).toNat) false)).length : Nat) : Int))) fun r114 =>
          if ((r114 ≠ (0 : Int)) ∧ (r114 ≠ (5 : Int))) then
            some ((none, (18 : Int)))
          else
            if (r114 ≠ (0 : Int)) then
              some (none, r114)
            else
              none
theorem L_mirror_Open_2 {W : World} {Alegs : HP} {vlegs : Value} {hslegs : List IfH} {AstaleLegs : HP} {vstaleLegs : Value} {bs : Nat} {legs : List Dvc} {staleLegs : List Int} {region : Int} {s : ArrS} {r : (Option MirS) × Int} (rlegs : Reads Alegs tyDev vlegs hslegs) (rstaleLegs : Reads AstaleLegs tyI vstaleLegs staleLegs) (h : mirror_Open_2 legs staleLegs region s = some r) :
    CSpec Try.prog W 30 [vlegs, vstaleLegs, .nilIface, .int .i64 region] [Alegs, Rs (DevP bs) legs hslegs, AstaleLegs, Arr bs s] (fun x : Nat => .tuple #[oval r.1 x, .int .i64 r.2]) (fun _ => True) (fun x F => Alegs :: Rs (DevP bs) legs hslegs :: AstaleLegs :: Arr bs s :: optP (MirP bs x) r.1 :: F) := by
 refine CSpec.of_body Try.func30 rfl Try.ntmps30 rfl fun F => ?_
 show CJ _ _ _ _ _ _ (_ :: _ :: _ :: _ :: F)
 unfold mirror_Open_2 at h
 refine CJ_pure (len_of rlegs del0) fun hlen1 => CJ_pure (fun h hh => Rs_len (stars_perm (del1 (A := Rs (DevP bs) legs hslegs)).out h hh)) fun hdl2 => CJ_pure (len_of rstaleLegs del2) fun hlen3 => sR <| oA rfl rfl <| oA rfl rfl <| nT <| sR <| oM rfl rfl <| oV (VJ_eq (V_len rfl foc0 rlegs Try.runUnderlying53) (congrArg (fun z : Nat => Value.int .i64 (z : Int)) (hdl2).symm)) rfl <| oO <| O_alloc Try.zeroValue3 rfl rfl fun b4 => oO <| O_store rfl rfl foc0 rfl rfl Try.sizeOf3 <| nT <| sR <| oP (P_makeFunc rfl rfl) rfl <| oA rfl rfl <| nT <| CJ_seq <| sR <| oV (V_load rfl foc0 rfl Try.isAgg3) rfl <| oP (P_lss (a := ((legs.length : Nat) : Int)) (b := (2 : Int)) rfl rfl) rfl <| oM rfl rfl <| RJ_mbF rfl rfl rfl (fun hG5 => have hP6 : ¬ (((legs.length : Nat) : Int) < (2 : Int)) := nP (bT_dec) hG5; V_load rfl foc0 rfl Try.isAgg3) <| RJ_mbF rfl rfl rfl (fun hG7 => have hP8 : ¬ (((legs.length : Nat) : Int) < (2 : Int)) := nP (bT_dec) hG7; VJ_P (P_gtr (a := ((legs.length : Nat) : Int)) (b := (6 : Int)) (mbx hG7 rfl) rfl)) <| oP (P_pickOr rfl rfl (fun hh => mbx (not_f hh) rfl)) rfl <| oM rfl rfl <| RJ_mbF rfl rfl rfl (fun hG9 => have hP10 : ¬ ((((legs.length : Nat) : Int) < (2 : Int)) ∨ ((6 : Int) < ((legs.length : Nat) : Int))) := nP ((bT_or bT_dec bT_dec)) hG9; VJ_P (P_move rfl)) ?_
 refine RJ_mbF rfl rfl rfl (fun hG11 => have hP12 : ¬ ((((legs.length : Nat) : Int) < (2 : Int)) ∨ ((6 : Int) < ((legs.length : Nat) : Int))) := nP ((bT_or bT_dec bT_dec)) hG11; VJ_P (P_lss (a := region) (b := (1 : Int)) (mbx hG11 rfl) rfl)) <| oP (P_pickOr rfl rfl (fun hh => mbx (not_f hh) rfl)) rfl <| oM rfl rfl <| RJ_mbF rfl rfl rfl (fun hG13 => have hP14 : ¬ (((((legs.length : Nat) : Int) < (2 : Int)) ∨ ((6 : Int) < ((legs.length : Nat) : Int))) ∨ (region < (1 : Int))) := nP ((bT_or (bT_or bT_dec bT_dec) bT_dec)) hG13; VJ_P (P_move rfl)) <| RJ_mbF rfl rfl rfl (fun hG15 => have hP16 : ¬ (((((legs.length : Nat) : Int) < (2 : Int)) ∨ ((6 : Int) < ((legs.length : Nat) : Int))) ∨ (region < (1 : Int))) := nP ((bT_or (bT_or bT_dec bT_dec) bT_dec)) hG15; VJ_P (P_gtr (a := region) (b := (65536 : Int)) (mbx hG15 rfl) rfl)) <| oP (P_pickOr rfl rfl (fun hh => mbx (not_f hh) rfl)) rfl <| oM rfl rfl <| RJ_splitP 39 rfl (bT_or (bT_or (bT_or bT_dec bT_dec) bT_dec) bT_dec) (fun hg1B hg1 => ?_) (fun hg1B hg1 => ?_)
 ·
  replace h := ite_t hg1 h
  refine RJ_gn (GY_no rfl rfl rfl hg1B) rfl rfl <| RJ_gn (GY_no rfl rfl rfl hg1B) rfl rfl <| RJ_gn (GY_no rfl rfl rfl hg1B) rfl rfl <| oP (P_pickT rfl hg1B rfl) rfl <| nT <| CJ_condT rfl rfl <| sR <| oA rfl rfl <| oA rfl rfl <| nT <| CJ_ret <| QJ_then_ret ?_
  cases h
  exact fE (res2 Try.results30 rfl rfl) 0 (t1_ (t1_ (t1_ (t1_ (Ent.trans (fun h hh => optP_none h hh) <| t0_ (eD eR))))))
 ·
  replace h := ite_f hg1 h
  refine gP (GY_yes rfl rfl rfl hg1B) (P_move rfl) rfl <| gP (GY_yes rfl rfl rfl hg1B) (P_move rfl) rfl ?_
  obtain ⟨r17, hr18, h⟩ := bind_e h
  refine RJ_gy (GY_yes rfl rfl rfl hg1B) <| O_call (L_slices_ContainsFunc_int__mirror_Open_1 rstaleLegs hr18) rfl Try.call60 (Dels.cons del3 (Dels.cons del0 Dels.nil)) rfl fun _ _ => oP (P_pickF rfl hg1B rfl) rfl <| nT <| CJ_condP rfl Iff.rfl (fun hg2 => ?_) (fun hg2 => ?_)
  ·
   replace h := ite_t hg2 h
   refine sR <| oA rfl rfl <| oA rfl rfl <| nT <| CJ_ret <| QJ_then_ret ?_
   cases h
   exact fE (res2 Try.results30 rfl rfl) 0 (t2_ (t2_ (t0_ (t1_ (Ent.trans (fun h hh => optP_none h hh) <| t0_ (eD eR))))))
  ·
   replace h := ite_f hg2 h
   refine kT <| CJ_seq <| AJ_startH 264 (by kernel_rfl) rfl <| aN 0 1 rfl rfl (P_move rfl) rfl <| aV 1 3 rfl rfl (GY_none rfl) eR (V_index (i := 0) rfl rfl rfl (by have hz : 0 < legs.length := (by omega); have hy := hdl2; omega) foc2 rlegs Try.runUnderlying53 Try.sizeOf57) rfl <| AJ_ent (Ent.trans (t3_ eR) (Rs_at (fun _ _ => Dup_DevP) (dx := dv0) (dh := tyDev.dflt) (i := 0) (by omega))) <| aV 2 7 rfl rfl (GY_none rfl) (t2_ (t2_ (t2_ (t1_ (t1_ (eD eR)))))) (V_loadE rfl rfl (by have hz : 0 < legs.length := (by omega); have hy := hdl2; omega) foc2 rlegs rfl rfl Try.isAgg57) rfl <| aN 4 23 rfl rfl (P_move rfl) rfl <| aN 5 55 rfl rfl (P_move rfl) rfl <| aN 6 119 rfl rfl (P_neqIN rfl Try.underlying57) rfl <| AJ_pure (fun h hh => DevP_dep h (stars_perm (del0 (A := DevP bs (legs.getD 0 dv0) (hslegs.getD 0 tyDev.dflt))).out h hh)) fun hdp20 => ?_
   obtain ⟨r21, hr22, h⟩ := bind_e h
   refine AJ_op 3 127 rfl (by kernel_rfl) rfl (GY_none rfl) <| O_callI rfl (dev_Size hr22 hdp20) rfl (Dels.cons del0 (Dels.cons del4 Dels.nil)) rfl fun _ _ => ⟨fun h => absurd h (by decide), ?_⟩
   refine aN 7 255 rfl rfl (P_build rfl (bld_74_4_5_2 _ _ _)) rfl <| AJ_op 8 511 rfl (by kernel_rfl) rfl (GY_none rfl) <| O_box rfl rfl rfl fun b23 => ⟨fun h => absurd h (by decide), ?_⟩
   refine aN 9 1023 rfl rfl (P_assign rfl) rfl <| AJ_done (by kernel_rfl) <| QJ_ent (t0_ (t1_ (t1_ (t1_ (t1_ (t1_ (eD eR))))))) <| QJ_then <| sR <| oA rfl rfl <| nT <| CJ_seq <| sR <| oM rfl rfl <| oV (VJ_eq (V_len rfl foc5 rlegs Try.runUnderlying53) (congrArg (fun z : Nat => Value.int .i64 (z : Int)) (hdl2).symm)) rfl <| oM rfl rfl <| nT <| CJ_ent (fun h hh => sl_nil (t := tymlegH) h (rs_nil (RP := DevP bs) h hh)) <| CJ_ent (fun h hh => sl_nil (t := tyB) h hh) <| CJ_ent (Ent.trans (t3_ (t1_ (t1_ (Ent.trans (fun h hh => optP_none h hh) <| t0_ eR)))) (MirP_mk (v0 := ([] : List mlegS)) (v1 := none) (v2 := false) (v3 := (0 : Int)) (v4 := r21) (v5 := region) (v6 := []) (v7 := (0 : Int)) (h0 := ⟨none, 0, 0⟩) (h1 := ([] : List IfH)) (h2 := 0) (h3 := ⟨none, 0, 0⟩))) ?_
   obtain ⟨y29, hl27, hK28⟩ := bind_c h
   refine CJ_cutT (X := Nat × MirS) [13, 14, 15, 16, 55, 56, 57, 58, 59, 60, 61, 62, 63, 64, 65, 66, 67, 68, 69, 70, 71, 72, 73, 74, 75, 76, 77, 78, 79, 80, 81, 82, 83, 84, 85, 86, 87, 88] (fun a32 => ([(13, .int .i64 (((a32.1 : Nat) : Int)))] : Slots)) (fun a32 R => MirP bs b23 a32.2 :: R) (fun a32 => y29 = a32) (Dels.cons del0 Dels.nil) ?_ ?_
   ·
    refine CJ_block <| CJ_loopR (X := Nat × MirS × Nat × Nat) [13, 14, 15, 16, 55, 56, 57, 58, 59, 60, 61, 62, 63, 64, 65, 66, 67, 68, 69, 70, 71, 72, 73, 74, 75, 76, 77, 78, 79, 80, 81, 82, 83, 84, 85, 86, 87, 88] (fun ⟨n, x33, x34, x35⟩ => ([(13, .int .i64 (((x34 : Nat) : Int))), (55, .int .i64 (((x35 : Nat) : Int)))] : Slots)) (fun ⟨n, x33, x34, x35⟩ R => MirP bs b23 x33 :: R) (fun ⟨n, x33, x34, x35⟩ => mirror_Open_2_l1 legs staleLegs region s n x33 x34 x35 = some y29) (fun ⟨n, x33, x34, x35⟩ => n) ⟨FUEL, (⟨([] : List mlegS), none, false, (0 : Int), r21, region, [], (0 : Int)⟩ : MirS), 0, 0⟩ ?_ ?_ eR ?_
    · exact hl27
    · exact ⟨rfl, rfl, True.intro⟩
    ·
     rintro ⟨n, x33, x34, x35⟩ h
     cases n with
     | zero => exact none_e h
     | succ n => ?_
     replace h : mirror_Open_2_l1_b legs staleLegs region s (mirror_Open_2_l1 legs staleLegs region s n) x33 x34 x35 = some y29 := h
     unfold mirror_Open_2_l1_b at h
     show CJ _ _ _ _ _ (([(13, .int .i64 (((x34 : Nat) : Int))), (55, .int .i64 (((x35 : Nat) : Int)))] : Slots) ++ forget _ _) (MirP bs b23 x33 :: _)
     refine sR <| oP (P_lss (a := ((x35 : Nat) : Int)) (b := ((legs.length : Nat) : Int)) rfl rfl) rfl <| nT <| CJ_seq <| CJ_condP rfl bT_dec (fun hg3 => ?_) (fun hg3 => ?_)
     ·
      replace h := ite_t hg3 h
      refine kT <| CJ_seq <| CJ_block <| sR <| oM rfl rfl <| oV (V_index (i := x35) rfl rfl rfl (by have hz : x35 < legs.length := (by omega); have hy := hdl2; omega) foc5 rlegs Try.runUnderlying53 Try.sizeOf57) rfl <| RJ_ent (Ent.trans (t2_ eR) (Rs_at (fun _ _ => Dup_DevP) (dx := dv0) (dh := tyDev.dflt) (i := x35) (by omega))) <| oV (V_loadE rfl rfl (by have hz : x35 < legs.length := (by omega); have hy := hdl2; omega) foc6 rlegs rfl rfl Try.isAgg57) rfl <| oA rfl rfl <| oA rfl rfl <| nT <| sR <| oM rfl rfl <| oP (P_build rfl (bld_83_0 _ _)) rfl <| oO <| O_alloc Try.zeroValue83 rfl rfl fun b37 => oO <| O_storeN rfl rfl foc0 Try.sizeOf83 rfl rfl rfl <| nT <| CJ_seq <| sR <| oM rfl rfl <| oM rfl rfl ?_
      obtain ⟨r38, hr39, h⟩ := bind_e h
      refine oO <| O_call (L_slices_Contains_int rstaleLegs hr39) rfl Try.call36 (Dels.cons del5 Dels.nil) rfl fun _ _ => nT ?_
      obtain ⟨y42, hl40, hK41⟩ := bind_c h
      refine CJ_cutT (X := Nat × Nat) [13, 65, 66, 67] (fun a45 => ([(13, .int .i64 (((a45.1 : Nat) : Int)))] : Slots)) (fun a45 R => blk b37 83 [IfH.v (hslegs.getD x35 tyDev.dflt), .int .i64 (((a45.2 : Nat) : Int)), .int .i64 (0 : Int)] :: R) (fun a45 => y42 = a45) (Dels.cons del1 Dels.nil) ?_ ?_
      ·
       have h := hl40
       refine CJ_condP rfl Iff.rfl (fun hg4 => ?_) (fun hg4 => ?_)
       ·
        replace h := ite_t hg4 h
        exact CJ_region <| oP (P_fieldAddr rfl ⟨_, _, _, Try.runUnderlying83, rfl, rfl, Try.sizeOf72, rfl⟩) rfl <| oO <| O_store rfl rfl foc1 rfl rfl Try.sizeOf72 <| RJ_nil <| cR (x34, 2) (Option.some.inj h).symm ⟨rfl, True.intro⟩ (t1_ eR)
       ·
        replace h := ite_f hg4 h
        refine CJ_region <| oM rfl rfl ?_
        obtain ⟨hg5, h⟩ := grd_Ne h
        exact oP (PJ_eq (P_add (a := ((x34 : Nat) : Int)) (b := (1 : Int)) rfl rfl (nat_in hg5)) rfl) rfl <| oA rfl rfl <| RJ_nil <| cR ((x34 + 1), 0) (Option.some.inj h).symm ⟨rfl, True.intro⟩ (t1_ eR)
      ·
       rintro a45 hy46
       replace h := bindK_at hK41 hy46
       show CJ _ _ _ _ _ (([(13, .int .i64 (((a45.1 : Nat) : Int)))] : Slots) ++ forget _ _) (blk b37 83 [IfH.v (hslegs.getD x35 tyDev.dflt), .int .i64 (((a45.2 : Nat) : Int)), .int .i64 (0 : Int)] :: _)
       refine CJ_seq <| CJ_entX (Ent.transX (t4_ eR) (MirP_open (l := x33))) fun oc47 => CJ_pure (fun h hh => Rs_len (stars_perm (del2 (A := Rs (DevP bs) (x33.legs.map mlegS.dev) oc47.2.1)).out h hh)) fun hdl49 => lC del1 fun hlen50 => ?_
       rw [mk_mleg_len (by have := hdl49; simpa using this)] at hlen50
       refine lC del4 fun hlen51 => AJ_startH 1152 (by kernel_rfl) rfl <| aN 0 1 rfl rfl (P_move rfl) rfl <| aN 1 3 rfl rfl (P_move rfl) rfl <| aN 2 7 rfl rfl (P_nilCheck rfl) rfl <| aN 3 15 rfl rfl (P_fieldAddr rfl ⟨_, _, _, Try.runUnderlying74, rfl, rfl, Try.sizeOf70, rfl⟩) rfl <| aV 4 31 rfl rfl (GY_none rfl) eR (V_load rfl foc0 rfl Try.isAgg70) rfl <| aV 5 63 rfl rfl (GY_none rfl) eR (V_loadN rfl foc5 Try.isAgg83 Try.sizeOf83 rfl rfl) rfl <| AJ_op 6 127 rfl (by kernel_rfl) rfl (GY_none rfl) <| O_buildSlice rfl (bs_70_1_0 _ _ _ _) rfl fun b52 => ⟨fun _ => (t1_ (t1_ (t1_ (t1_ (t1_ (t1_ (t1_ (t1_ (t1_ (t1_ (t1_ (t1_ (eD eR))))))))))))), ?_⟩
       obtain ⟨hg6, h⟩ := grd_Le h
       refine AJ_op 7 255 rfl (by kernel_rfl) rfl (GY_none rfl) <| O_append (t := tymlegH) (bytes := 32) rfl rfl del2 foc0 (Reads.lit (t := tymlegH) (ys := [(⟨((hslegs.getD x35 tyDev.dflt) : IfH), ((a45.2 : Nat) : Int), (0 : Int)⟩ : mlegH)]) rfl rfl (by decide) (by decide) rfl) Try.underlying70 ok_tymlegH (apl (m := 1) (b := 32) (show (mk_mleg x33.legs oc47.2.1).length + 1 ≤ 1000000000 by rw [mk_mleg_len (by have := hdl49; simpa using this)]; exact hg6) (by decide)).1 (apl (m := 1) (b := 32) (show (mk_mleg x33.legs oc47.2.1).length + 1 ≤ 1000000000 by rw [mk_mleg_len (by have := hdl49; simpa using this)]; exact hg6) (by decide)).2 rfl fun p54 c55 => ⟨fun h => absurd h (by decide), ?_⟩
       refine AJ_ent (Ent.takeC (A' := sl tymlegH (.slice p54 (mk_mleg x33.legs oc47.2.1 ++ [(⟨((hslegs.getD x35 tyDev.dflt) : IfH), ((a45.2 : Nat) : Int), (0 : Int)⟩ : mlegH)]).length c55) (mk_mleg (x33.legs ++ [(⟨(legs.getD x35 dv0), ((a45.2 : Nat) : Int), (0 : Int)⟩ : mlegS)]) (oc47.2.1 ++ [((hslegs.getD x35 tyDev.dflt) : IfH)]))) del0 (congrArg (sl tymlegH _) (mk_mleg_snoc (by have := hdl49; simpa using this) (⟨(legs.getD x35 dv0), ((a45.2 : Nat) : Int), (0 : Int)⟩ : mlegS) ((hslegs.getD x35 tyDev.dflt) : IfH))) eR) <| AJ_ent (Ent.trans (t3_ (t7_ eR)) (Rs_push (x := (legs.getD x35 dv0)) (g := ((hslegs.getD x35 tyDev.dflt) : IfH)) (fun _ _ => Dup_DevP))) <| AJ_ent (Ent.takeC (A' := Rs (DevP bs) (((x33.legs ++ [(⟨(legs.getD x35 dv0), ((a45.2 : Nat) : Int), (0 : Int)⟩ : mlegS)])).map mlegS.dev) (oc47.2.1 ++ [((hslegs.getD x35 tyDev.dflt) : IfH)])) del0 (congrArg (fun z => Rs (DevP bs) z (oc47.2.1 ++ [((hslegs.getD x35 tyDev.dflt) : IfH)])) (by simp)) eR) <| AJ_pure (fun h hh => Rs_len (stars_perm (del0 (A := Rs (DevP bs) ((((x33.legs ++ [(⟨(legs.getD x35 dv0), ((a45.2 : Nat) : Int), (0 : Int)⟩ : mlegS)])).map mlegS.dev)) ((oc47.2.1 ++ [((hslegs.getD x35 tyDev.dflt) : IfH)])))).out h hh)) fun hdl56 => aN 8 511 rfl rfl (P_nilCheck rfl) rfl <| aN 9 1023 rfl rfl (P_fieldAddr rfl ⟨_, _, _, Try.runUnderlying74, rfl, rfl, Try.sizeOf70, rfl⟩) rfl <| AJ_op 10 2047 rfl (by kernel_rfl) rfl (GY_none rfl) <| O_store rfl rfl foc4 rfl rfl Try.sizeOf70 ?_
       refine ⟨fun h => absurd h (by decide), ?_⟩
       refine AJ_done (by kernel_rfl) <| QJ_ent (Ent.trans (t4_ (t2_ (t0_ (t2_ (t2_ eR))))) (MirP_mk (v0 := (x33.legs ++ [(⟨(legs.getD x35 dv0), ((a45.2 : Nat) : Int), (0 : Int)⟩ : mlegS)])) (v1 := x33.log) (v2 := x33.hasLog) (v3 := x33.logState) (v4 := x33.size) (v5 := x33.region) (v6 := x33.dirty) (v7 := x33.copied) (h0 := ⟨p54, (mk_mleg x33.legs oc47.2.1 ++ [(⟨((hslegs.getD x35 tyDev.dflt) : IfH), ((a45.2 : Nat) : Int), (0 : Int)⟩ : mlegH)]).length, c55⟩) (h1 := (oc47.2.1 ++ [((hslegs.getD x35 tyDev.dflt) : IfH)])) (h2 := oc47.2.2.1) (h3 := oc47.2.2.2))) <| QJ_ent (t0_ (t0_ (t2_ (t2_ (t2_ (t2_ (t2_ (eD (eD eR))))))))) <| QJ_then <| CJ_entX (Ent.transX (t0_ eR) (MirP_open (l := { x33 with legs := (x33.legs ++ [(⟨(legs.getD x35 dv0), ((a45.2 : Nat) : Int), (0 : Int)⟩ : mlegS)]) }))) fun oc57 => CJ_pure (fun h hh => Rs_len (stars_perm (del2 (A := Rs (DevP bs) ((((x33.legs ++ [(⟨(legs.getD x35 dv0), ((a45.2 : Nat) : Int), (0 : Int)⟩ : mlegS)])).map mlegS.dev)) oc57.2.1)).out h hh)) fun hdl59 => lC del1 fun hlen60 => ?_
       rw [mk_mleg_len (by have := hdl59; simpa using this)] at hlen60
       refine lC del4 fun hlen61 => AJ_startH 1024 (by kernel_rfl) rfl <| aN 0 1 rfl rfl (P_move rfl) rfl <| aN 1 3 rfl rfl (P_move rfl) rfl <| aN 2 7 rfl rfl (P_nilCheck rfl) rfl <| aN 3 15 rfl rfl (P_fieldAddr rfl ⟨_, _, _, Try.runUnderlying74, rfl, rfl, Try.sizeOf3, rfl⟩) rfl <| aV 4 31 rfl rfl (GY_none rfl) eR (V_load rfl foc0 rfl Try.isAgg3) rfl <| aN 5 63 rfl rfl (P_move rfl) rfl <| AJ_pure (fun h hh => DevP_dep h (stars_perm (del5 (A := DevP bs (legs.getD x35 dv0) (hslegs.getD x35 tyDev.dflt))).out h hh)) fun hdp62 => ?_
       obtain ⟨r63, hr64, h⟩ := bind_e h
       refine AJ_op 6 127 rfl (by kernel_rfl) rfl (GY_none rfl) <| O_callI rfl (dev_Size hr64 hdp62) rfl (Dels.cons del5 (Dels.cons del7 Dels.nil)) rfl fun _ _ => ⟨fun _ => (t2_ (t2_ (t2_ (t2_ (t2_ (t0_ (t1_ (t1_ eR)))))))), ?_⟩
       refine aN 7 255 rfl rfl (P_min (a := x33.size) (b := r63) rfl rfl) rfl <| aN 8 511 rfl rfl (P_nilCheck rfl) rfl <| aN 9 1023 rfl rfl (P_fieldAddr rfl ⟨_, _, _, Try.runUnderlying74, rfl, rfl, Try.sizeOf3, rfl⟩) rfl <| AJ_op 10 2047 rfl (by kernel_rfl) rfl (GY_none rfl) <| O_store rfl rfl foc2 rfl rfl Try.sizeOf3 <| ⟨fun h => absurd h (by decide), ?_⟩
       exact AJ_done (by kernel_rfl) <| QJ_ent (Ent.trans (t2_ (t2_ (t2_ (t2_ (t2_ eR))))) (MirP_mk (v0 := (x33.legs ++ [(⟨(legs.getD x35 dv0), ((a45.2 : Nat) : Int), (0 : Int)⟩ : mlegS)])) (v1 := x33.log) (v2 := x33.hasLog) (v3 := x33.logState) (v4 := (min x33.size r63)) (v5 := x33.region) (v6 := x33.dirty) (v7 := x33.copied) (h0 := oc57.1) (h1 := oc57.2.1) (h2 := oc57.2.2.1) (h3 := oc57.2.2.2))) <| QJ_block_normal <| QJ_ent (t0_ (t1_ (t1_ (t1_ (t1_ (t1_ (eD eR))))))) <| QJ_then <| CJ_region <| oP (PJ_eq (P_add (a := ((x35 : Nat) : Int)) (b := (1 : Int)) rfl rfl (by omega)) rfl) rfl <| oM rfl rfl <| RJ_nil <| nR ⟨n, (⟨(x33.legs ++ [(⟨(legs.getD x35 dv0), ((a45.2 : Nat) : Int), (0 : Int)⟩ : mlegS)]), x33.log, x33.hasLog, x33.logState, (min x33.size r63), x33.region, x33.dirty, x33.copied⟩ : MirS), a45.1, (x35 + 1)⟩ h ⟨rfl, rfl, True.intro⟩ (t0_ (t0_ (t1_ eR)))
     ·
      replace h := ite_f hg3 h
      exact CJ_exit <| QJ_then_exit <| QJ_round_exit <| QJ_block_here <| cR (x34, x33) (Option.some.inj h).symm ⟨rfl, True.intro⟩ eR
   ·
    rintro a32 hy65
    replace h := bindK_at hK28 hy65
    show CJ _ _ _ _ _ (([(13, .int .i64 (((a32.1 : Nat) : Int)))] : Slots) ++ forget _ _) (MirP bs b23 a32.2 :: _)
    refine CJ_seq <| sR <| oM rfl rfl <| oP (P_eql (a := ((a32.1 : Nat) : Int)) (b := (0 : Int)) rfl rfl) rfl <| nT <| CJ_condP rfl bT_dec (fun hg7 => ?_) (fun hg7 => ?_)
    ·
     replace h := ite_t hg7 h
     refine sR <| oA rfl rfl <| oA rfl rfl <| nT <| CJ_ret <| QJ_then_ret ?_
     cases h
     exact fE (res2 Try.results30 rfl rfl) 0 (t5_ (t2_ (t2_ (t1_ (Ent.trans (fun h hh => optP_none h hh) <| t0_ (eD (eD eR)))))))
    ·
     replace h := ite_f hg7 h
     refine kT <| CJ_seq <| CJ_entX (Ent.transX (t0_ eR) (MirP_open (l := a32.2))) fun oc66 => CJ_pure (fun h hh => Rs_len (stars_perm (del2 (A := Rs (DevP bs) (a32.2.legs.map mlegS.dev) oc66.2.1)).out h hh)) fun hdl68 => lC del1 fun hlen69 => ?_
     rw [mk_mleg_len (by have := hdl68; simpa using this)] at hlen69
     refine lC del4 fun hlen70 => CJ_region <| oM rfl rfl <| oM rfl rfl <| oP (P_nilCheck rfl) rfl <| oP (P_fieldAddr rfl ⟨_, _, _, Try.runUnderlying74, rfl, rfl, Try.sizeOf3, rfl⟩) rfl <| oV (V_load rfl foc0 rfl Try.isAgg3) rfl <| oM rfl rfl ?_
     obtain ⟨r71, hr72, h⟩ := bind_e h
     refine oO <| O_call (L_mirror_Regions hr72) rfl Try.call11 Dels.nil rfl fun _ _ => ?_
     obtain ⟨hg8, h⟩ := grd_de h
     refine oO <| O_make (t := tyB) (m := (r71).toNat) (x0 := false) (z := _) (bytes := _) rfl rfl (Int.toNat_of_nonneg (hg8.1)).symm (Int.toNat_of_nonneg (hg8.1)).symm Try.underlying31 ⟨Try.t4, by kernel_rfl, rfl, rfl, rfl⟩ rfl (by omega) (by decide) rfl fun b73 => oP (P_nilCheck rfl) rfl <| oP (P_fieldAddr rfl ⟨_, _, _, Try.runUnderlying74, rfl, rfl, Try.sizeOf31, rfl⟩) rfl <| oO <| O_store rfl rfl foc1 rfl rfl Try.sizeOf31 <| RJ_nil <| QJ_ent (Ent.trans (t1_ (t1_ (t1_ (t1_ eR)))) (MirP_mk (v0 := a32.2.legs) (v1 := a32.2.log) (v2 := a32.2.hasLog) (v3 := a32.2.logState) (v4 := a32.2.size) (v5 := a32.2.region) (v6 := (List.replicate ((r71).toNat) false)) (v7 := a32.2.copied) (h0 := oc66.1) (h1 := oc66.2.1) (h2 := oc66.2.2.1) (h3 := ⟨some ⟨b73, 0, none⟩, (r71).toNat, (r71).toNat⟩))) <| QJ_ent (t0_ (t1_ (t1_ (t1_ (t1_ (t1_ (eD eR))))))) <| QJ_then <| CJ_seq <| sR <| oM rfl rfl <| oV (V_load rfl foc4 rfl Try.isAgg3) rfl ?_
     obtain ⟨r74, hr75, h⟩ := bind_e h
     refine oO <| O_call (L_slices_Contains_int rstaleLegs hr75) rfl Try.call36 (Dels.cons del3 Dels.nil) rfl fun _ _ => oM rfl rfl <| RJ_mbF rfl rfl rfl (fun hG76 => have hP77 : ¬ r74 = true := nP (Iff.rfl) hG76; VJ_P (P_move rfl)) <| RJ_mbF rfl rfl rfl (fun hG78 => have hP79 : ¬ r74 = true := nP (Iff.rfl) hG78; VJ_P (P_nilCheck (mbx hG78 rfl))) <| RJ_mbF rfl rfl rfl (fun hG80 => have hP81 : ¬ r74 = true := nP (Iff.rfl) hG80; VJ_P (P_fieldAddr (mbx hG80 rfl) ⟨_, _, _, Try.runUnderlying74, rfl, rfl, Try.sizeOf4, rfl⟩)) <| RJ_mbF rfl rfl rfl (fun hG82 => have hP83 : ¬ r74 = true := nP (Iff.rfl) hG82; VJ_entX (Ent.transX (t1_ eR) (MirP_open (l := { a32.2 with dirty := (List.replicate ((r71).toNat) false) }))) (fun _ => V_load (mbx hG82 rfl) foc0 rfl Try.isAgg4)) <| RJ_mbF rfl rfl rfl (fun hG84 => have hP85 : ¬ r74 = true := nP (Iff.rfl) hG84; VJ_P (P_not (mbx hG84 rfl))) <| oP (P_pickOr rfl rfl (fun hh => mbx (not_f hh) rfl)) rfl <| nT <| CJ_condP rfl (bT_or Iff.rfl (bT_not Iff.rfl)) (fun hg9 => ?_) (fun hg9 => ?_)
     ·
      replace h := ite_t hg9 h
      refine CJ_seq <| CJ_entX (Ent.transX (t1_ eR) (MirP_open (l := { a32.2 with dirty := (List.replicate ((r71).toNat) false) }))) fun oc86 => CJ_pure (fun h hh => Rs_len (stars_perm (del2 (A := Rs (DevP bs) (a32.2.legs.map mlegS.dev) oc86.2.1)).out h hh)) fun hdl88 => lC del1 fun hlen89 => ?_
      rw [mk_mleg_len (by have := hdl88; simpa using this)] at hlen89
      refine lC del4 fun hlen90 => CJ_region <| oM rfl rfl <| oP (P_nilCheck rfl) rfl <| oP (P_fieldAddr rfl ⟨_, _, _, Try.runUnderlying74, rfl, rfl, Try.sizeOf72, rfl⟩) rfl <| oO <| O_store rfl rfl foc0 rfl rfl Try.sizeOf72 <| RJ_nil <| QJ_ent (Ent.trans eR (MirP_mk (v0 := a32.2.legs) (v1 := a32.2.log) (v2 := a32.2.hasLog) (v3 := (2 : Int)) (v4 := a32.2.size) (v5 := a32.2.region) (v6 := (List.replicate ((r71).toNat) false)) (v7 := a32.2.copied) (h0 := oc86.1) (h1 := oc86.2.1) (h2 := oc86.2.2.1) (h3 := oc86.2.2.2))) <| QJ_then <| CJ_seq <| CJ_seq <| CJ_entX (Ent.transX (t0_ eR) (MirP_open (l := (⟨a32.2.legs, a32.2.log, a32.2.hasLog, (2 : Int), a32.2.size, a32.2.region, (List.replicate ((r71).toNat) false), a32.2.copied⟩ : MirS)))) fun oc91 => CJ_pure (fun h hh => Rs_len (stars_perm (del2 (A := Rs (DevP bs) (a32.2.legs.map mlegS.dev) oc91.2.1)).out h hh)) fun hdl93 => lC del1 fun hlen94 => ?_
      rw [mk_mleg_len (by have := hdl93; simpa using this)] at hlen94
      refine lC del4 fun hlen95 => CJ_region <| oM rfl rfl <| oP (P_nilCheck rfl) rfl <| oP (P_fieldAddr rfl ⟨_, _, _, Try.runUnderlying74, rfl, rfl, Try.sizeOf31, rfl⟩) rfl <| oV (V_load rfl foc0 rfl Try.isAgg31) rfl <| oV (V_len rfl foc4 (Reads.sl _ _ _) Try.runUnderlying31) rfl <| oM rfl rfl <| RJ_nil <| QJ_ent (Ent.trans eR (MirP_mk (v0 := a32.2.legs) (v1 := a32.2.log) (v2 := a32.2.hasLog) (v3 := (2 : Int)) (v4 := a32.2.size) (v5 := a32.2.region) (v6 := (List.replicate ((r71).toNat) false)) (v7 := a32.2.copied) (h0 := oc91.1) (h1 := oc91.2.1) (h2 := oc91.2.2.1) (h3 := oc91.2.2.2))) <| QJ_then ?_
      obtain ⟨y98, hl96, hK97⟩ := bind_c h
      refine CJ_cutT (X := MirS) [17, 119, 120, 121, 122, 123, 124, 125, 126, 127, 128] (fun a100 => ([] : Slots)) (fun a100 R => MirP bs b23 a100 :: R) (fun a100 => y98 = a100) (Dels.cons del0 Dels.nil) ?_ ?_
      ·
       refine CJ_block <| CJ_loopR (X := Nat × MirS × Nat) [17, 119, 120, 121, 122, 123, 124, 125, 126, 127, 128] (fun ⟨n, x101, x102⟩ => ([(119, .int .i64 (((x102 : Nat) : Int)))] : Slots)) (fun ⟨n, x101, x102⟩ R => MirP bs b23 x101 :: R) (fun ⟨n, x101, x102⟩ => mirror_Open_2_l3 r71 n x101 x102 = some y98) (fun ⟨n, x101, x102⟩ => n) ⟨FUEL, (⟨a32.2.legs, a32.2.log, a32.2.hasLog, (2 : Int), a32.2.size, a32.2.region, (List.replicate ((r71).toNat) false), a32.2.copied⟩ : MirS), 0⟩ ?_ ?_ eR ?_
       · exact hl96
       · exact ⟨rfl, True.intro⟩
       ·
        rintro ⟨n, x101, x102⟩ h
        cases n with
        | zero => exact none_e h
        | succ n => ?_
        replace h : mirror_Open_2_l3_b r71 (mirror_Open_2_l3 r71 n) x101 x102 = some y98 := h
        unfold mirror_Open_2_l3_b at h
        show CJ _ _ _ _ _ (([(119, .int .i64 (((x102 : Nat) : Int)))] : Slots) ++ forget _ _) (MirP bs b23 x101 :: _)
        refine sR <| oP (P_lss (a := ((x102 : Nat) : Int)) (b := ((((List.replicate ((r71).toNat) false)).length : Nat) : Int)) rfl rfl) rfl <| nT <| CJ_seq <| CJ_condP rfl bT_dec (fun hg10 => ?_) (fun hg10 => ?_)
        ·
         replace h := ite_t hg10 h
         refine kT <| CJ_seq <| CJ_block <| sR <| oM rfl rfl <| oA rfl rfl <| nT <| CJ_entX (Ent.transX (t0_ eR) (MirP_open (l := x101))) fun oc103 => CJ_pure (fun h hh => Rs_len (stars_perm (del2 (A := Rs (DevP bs) (x101.legs.map mlegS.dev) oc103.2.1)).out h hh)) fun hdl105 => lC del1 fun hlen106 => ?_
         rw [mk_mleg_len (by have := hdl105; simpa using this)] at hlen106
         refine lC del4 fun hlen107 => CJ_region <| oM rfl rfl <| oP (P_nilCheck rfl) rfl <| oP (P_fieldAddr rfl ⟨_, _, _, Try.runUnderlying74, rfl, rfl, Try.sizeOf31, rfl⟩) rfl <| oV (V_load rfl foc0 rfl Try.isAgg31) rfl <| oM rfl rfl ?_
         obtain ⟨hg11, h⟩ := grd_de h
         refine oV (V_index (i := x102) rfl rfl rfl hg11 foc4 (Reads.sl _ _ _) Try.runUnderlying31 Try.sizeOf4) rfl <| oO <| O_storeE (x' := true) rfl rfl rfl hg11 foc4 rfl rfl rfl Try.sizeOf4 <| RJ_nil <| QJ_ent (Ent.trans eR (MirP_mk (v0 := x101.legs) (v1 := x101.log) (v2 := x101.hasLog) (v3 := x101.logState) (v4 := x101.size) (v5 := x101.region) (v6 := (x101.dirty.set x102 true)) (v7 := x101.copied) (h0 := oc103.1) (h1 := oc103.2.1) (h2 := oc103.2.2.1) (h3 := oc103.2.2.2))) <| QJ_block_normal <| QJ_then <| CJ_region ?_
         obtain ⟨hg12, h⟩ := grd_Ne h
         exact oP (PJ_eq (P_add (a := ((x102 : Nat) : Int)) (b := (1 : Int)) rfl rfl (nat_in hg12)) rfl) rfl <| oM rfl rfl <| RJ_nil <| nR ⟨n, { x101 with dirty := (x101.dirty.set x102 true) }, (x102 + 1)⟩ h ⟨rfl, True.intro⟩ eR
        ·
         replace h := ite_f hg10 h
         exact CJ_exit <| QJ_then_exit <| QJ_round_exit <| QJ_block_here <| cR x101 (Option.some.inj h).symm True.intro eR
      ·
       rintro a100 hy108
       replace h := bindK_at hK97 hy108
       show CJ _ _ _ _ _ (([] : Slots) ++ forget _ _) (MirP bs b23 a100 :: _)
       refine sR <| oM rfl rfl <| oA rfl rfl <| oA rfl rfl <| nT <| CJ_ret <| QJ_then_ret ?_
       cases h
       exact fE (res2 Try.results30 rfl rfl) b23 (t5_ (t3_ (t1_ (t1_ (t0_ (eD eR))))))
     ·
      replace h := ite_f hg9 h
      refine kT <| CJ_seq <| CJ_entX (Ent.transX (t1_ eR) (MirP_open (l := { a32.2 with dirty := (List.replicate ((r71).toNat) false) }))) fun oc109 => CJ_pure (fun h hh => Rs_len (stars_perm (del2 (A := Rs (DevP bs) (a32.2.legs.map mlegS.dev) oc109.2.1)).out h hh)) fun hdl111 => lC del1 fun hlen112 => ?_
      rw [mk_mleg_len (by have := hdl111; simpa using this)] at hlen112
      refine lC del4 fun hlen113 => CJ_region <| oM rfl rfl <| oM rfl rfl <| oP (P_nilCheck rfl) rfl <| oP (P_fieldAddr rfl ⟨_, _, _, Try.runUnderlying74, rfl, rfl, Try.sizeOf31, rfl⟩) rfl <| oV (V_load rfl foc0 rfl Try.isAgg31) rfl <| oV (V_len rfl foc4 (Reads.sl _ _ _) Try.runUnderlying31) rfl ?_
      obtain ⟨r114, hr115, h⟩ := bind_e h
      refine oO <| O_call (L_regionlog_Open_2 hr115) rfl Try.call61 Dels.nil rfl fun _ _ => oM rfl rfl <| oP (P_extract rfl rfl) rfl <| oP (P_extract rfl rfl) rfl <| oA rfl rfl <| oA rfl rfl <| RJ_nil <| QJ_ent (Ent.trans eR (MirP_mk (v0 := a32.2.legs) (v1 := a32.2.log) (v2 := a32.2.hasLog) (v3 := a32.2.logState) (v4 := a32.2.size) (v5 := a32.2.region) (v6 := (List.replicate ((r71).toNat) false)) (v7 := a32.2.copied) (h0 := oc109.1) (h1 := oc109.2.1) (h2 := oc109.2.2.1) (h3 := oc109.2.2.2))) <| QJ_then <| CJ_seq <| sR <| oM rfl rfl <| oP (P_neq (a := r114) (b := (0 : Int)) rfl rfl) rfl <| oM rfl rfl <| RJ_mbT rfl rfl rfl (fun hG116 => have hP117 : (r114 ≠ (0 : Int)) := (bT_dec).1 hG116; VJ_P (P_move rfl)) <| RJ_mbT rfl rfl rfl (fun hG118 => have hP119 : (r114 ≠ (0 : Int)) := (bT_dec).1 hG118; VJ_P (P_neq (a := r114) (b := (5 : Int)) (mbx hG118 rfl) rfl)) <| oP (P_pickAnd rfl (fun hh => mbx hh rfl) rfl) rfl <| nT <| CJ_condP rfl (bT_and bT_dec bT_dec) (fun hg13 => ?_) (fun hg13 => ?_)
      ·
       replace h := ite_t hg13 h
       refine sR <| oA rfl rfl <| oA rfl rfl <| nT <| CJ_ret <| QJ_then_ret ?_
       cases h
       exact fE (res2 Try.results30 rfl rfl) 0 (t5_ (t3_ (t1_ (t1_ (Ent.trans (fun h hh => optP_none h hh) <| t0_ (eD (eD eR)))))))
      ·
       replace h := ite_f hg13 h
       refine kT <| CJ_seq <| sR <| oM rfl rfl <| oP (P_neq (a := r114) (b := (0 : Int)) rfl rfl) rfl <| nT <| CJ_condP rfl bT_dec (fun hg14 => ?_) (fun hg14 => ?_)
       ·
        replace h := ite_t hg14 h
        refine sR <| oM rfl rfl <| oA rfl rfl <| oA rfl rfl <| nT <| CJ_ret <| QJ_then_ret ?_
        cases h
        exact fE (res2 Try.results30 rfl rfl) 0 (t5_ (t3_ (t1_ (t1_ (Ent.trans (fun h hh => optP_none h hh) <| t0_ (eD (eD eR)))))))
       ·
        replace h := ite_f hg14 h
        refine kT <| CJ_seq <| CJ_entX (Ent.transX (t0_ eR) (MirP_open (l := { a32.2 with dirty := (List.replicate ((r71).toNat) false) }))) fun oc120 => CJ_pure (fun h hh => Rs_len (stars_perm (del2 (A := Rs (DevP bs) (a32.2.legs.map mlegS.dev) oc120.2.1)).out h hh)) fun hdl122 => lC del1 fun hlen123 => ?_
        rw [mk_mleg_len (by have := hdl122; simpa using this)] at hlen123
        exact lC del4 fun hlen124 => CJ_region <| oM rfl rfl <| oM rfl rfl <| oP (P_nilCheck rfl) rfl <| oP (P_fieldAddr rfl ⟨_, _, _, Try.runUnderlying74, rfl, rfl, Try.sizeOf71, rfl⟩) rfl <| oO <| O_store rfl rfl foc0 rfl rfl Try.sizeOf71 <| RJ_nil <| QJ_ent (Ent.trans (t0_ (t0_ (t0_ (Ent.trans (fun h hh => optP_none h hh) <| t0_ (t1_ eR))))) (MirP_mk (v0 := a32.2.legs) (v1 := none) (v2 := a32.2.hasLog) (v3 := a32.2.logState) (v4 := a32.2.size) (v5 := a32.2.region) (v6 := (List.replicate ((r71).toNat) false)) (v7 := a32.2.copied) (h0 := oc120.1) (h1 := oc120.2.1) (h2 := 0) (h3 := oc120.2.2.2))) <| QJ_ent (t0_ (t1_ (t1_ (t1_ (t2_ (eD (eD eR))))))) <| QJ_then <| CJ_seq <| sR <| oM rfl rfl <| none_e h
def volumegrouplaw21_setting_open (s_0_a : ArrS) (s_0_legs : Int) (s_0_size : Int) (s_0_region : Int) (s_0_log : Bool) (stale : List Int) : Option ((Option MirS) × Int) :=
  Option.bind (volumegroupmake_Spans s_0_a) fun r3 =>
  if (((r3.length : Nat) : Int) < s_0_legs) then
    some ((none, (12 : Int)))
  else
    Option.bind ((
      if (s_0_log = true ∧ (s_0_legs < ((r3.length : Nat) : Int))) then
        grd (decide (0 ≤ s_0_legs ∧ s_0_legs < (r3.length : Int))) <|
        some ((some ((r3.getD ((s_0_legs).toNat) dv0))))
      else
        some none : Option ((Option Dvc)))) fun a25 =>
    grd (decide (0 ≤ s_0_legs ∧ (s_0_legs).toNat ≤ r3.length)) <|
    Option.elim a25 (
      Option.bind (mirror_Open_2 ((r3.take ((s_0_legs).toNat))) stale s_0_region s_0_a) fun r33 =>
      some (r33.1, r33.2)) fun o32 =>
    Option.bind (mirror_Open ((r3.take ((s_0_legs).toNat))) stale o32 s_0_region s_0_a) fun r37 =>
    some (r37.1, r37.2)
theorem L_volumegrouplaw21_setting_open {W : World} {bs_0_a : Nat} {Astale : HP} {vstale : Value} {s_0_a : ArrS} {s_0_legs : Int} {s_0_size : Int} {s_0_region : Int} {s_0_log : Bool} {stale : List Int} {r : (Option MirS) × Int} (rstale : Reads Astale tyI vstale stale) (h : volumegrouplaw21_setting_open s_0_a s_0_legs s_0_size s_0_region s_0_log stale = some r) :
    CSpec Try.prog W 10 [.agg #[ptr bs_0_a 0, .int .i64 s_0_legs, .int .i64 s_0_size, .int .i64 s_0_region, .bool s_0_log], vstale] [Arr bs_0_a s_0_a, Astale] (fun x : Nat => .tuple #[oval r.1 x, .int .i64 r.2]) (fun _ => True) (fun x F => Arr bs_0_a s_0_a :: Astale :: optP (MirP bs_0_a x) r.1 :: F) := by
 refine CSpec.of_body Try.func10 rfl Try.ntmps10 rfl fun F => ?_
 show CJ _ _ _ _ _ _ (_ :: _ :: F)
 unfold volumegrouplaw21_setting_open at h
 refine CJ_pure (len_of rstale del1) fun hlen1 => sR <| oO <| O_box rfl rfl rfl fun b2 => oA rfl rfl <| oA rfl rfl <| nT <| sR <| oP (P_fieldAddr rfl ⟨_, _, _, Try.runUnderlying26, rfl, rfl, Try.sizeOf24, rfl⟩) rfl <| oV (V_load rfl foc0 rfl Try.isAgg24) rfl ?_
 obtain ⟨r3, hr4, h⟩ := bind_e h
 refine oO <| O_call (L_volumegroupmake_Spans hr4) rfl Try.call22 (Dels.cons del1 Dels.nil) rfl fun X5 _ => RJ_pure (fun h hh => Rs_len (stars_perm (del2 (A := Rs (DevP bs_0_a) r3 X5.2)).out h hh)) fun hdl8 => oA rfl rfl <| nT <| CJ_seq <| sR <| oM rfl rfl <| oV (VJ_eq (V_len rfl foc1 (Reads.sl _ _ _) Try.runUnderlying53) (congrArg (fun z : Nat => Value.int .i64 (z : Int)) (hdl8).symm)) rfl <| oP (P_fieldAddr rfl ⟨_, _, _, Try.runUnderlying26, rfl, rfl, Try.sizeOf3, rfl⟩) rfl <| oV (V_load rfl foc3 rfl Try.isAgg3) rfl <| oP (P_lss (a := ((r3.length : Nat) : Int)) (b := s_0_legs) rfl rfl) rfl <| nT <| CJ_condP rfl bT_dec (fun hg1 => ?_) (fun hg1 => ?_)
 ·
  replace h := ite_t hg1 h
  refine sR <| oA rfl rfl <| oA rfl rfl <| nT <| CJ_ret <| QJ_then_ret ?_
  cases h
  exact fE (res2 Try.results10 rfl rfl) 0 (t0_ (t3_ (Ent.trans (fun h hh => optP_none h hh) <| t0_ (eD (eD (eD eR))))))
 ·
  replace h := ite_f hg1 h
  refine kT <| sR <| oA rfl rfl <| nT <| CJ_seq <| sR <| oP (P_fieldAddr rfl ⟨_, _, _, Try.runUnderlying26, rfl, rfl, Try.sizeOf4, rfl⟩) rfl <| oV (V_load rfl foc3 rfl Try.isAgg4) rfl <| oM rfl rfl <| RJ_mbT rfl rfl rfl (fun hG9 => have hP10 : s_0_log = true := (Iff.rfl).1 hG9; VJ_P (P_move rfl)) <| RJ_mbT rfl rfl rfl (fun hG11 => have hP12 : s_0_log = true := (Iff.rfl).1 hG11; VJ_eq (V_len (mbx hG11 rfl) foc1 (Reads.sl _ _ _) Try.runUnderlying53) (congrArg (fun z : Nat => Value.int .i64 (z : Int)) (hdl8).symm)) <| RJ_mbT rfl rfl rfl (fun hG13 => have hP14 : s_0_log = true := (Iff.rfl).1 hG13; VJ_P (P_fieldAddr rfl ⟨_, _, _, Try.runUnderlying26, rfl, rfl, Try.sizeOf3, rfl⟩)) <| RJ_mbT rfl rfl rfl (fun hG15 => have hP16 : s_0_log = true := (Iff.rfl).1 hG15; V_load (mbx hG15 rfl) foc3 rfl Try.isAgg3) <| RJ_mbT rfl rfl rfl (fun hG17 => have hP18 : s_0_log = true := (Iff.rfl).1 hG17; VJ_P (P_gtr (a := ((r3.length : Nat) : Int)) (b := s_0_legs) (mbx hG17 rfl) (mbx hG17 rfl))) <| oP (P_pickAnd rfl (fun hh => mbx hh rfl) rfl) rfl <| nT <| CJ_ent (fun h hh => optP_none (f := (DevP bs_0_a · ⟨0, .bool false⟩)) h hh) ?_
  obtain ⟨y22, hl20, hK21⟩ := bind_c h
  refine CJ_cutT (X := (Option Dvc) × IfH) [7, 25, 26, 27, 28, 29] (fun ⟨a25, dv24⟩ => ([(7, oif a25 dv24)] : Slots)) (fun ⟨a25, dv24⟩ R => optP (DevP bs_0_a · dv24) a25 :: R) (fun ⟨a25, dv24⟩ => y22 = a25) (Dels.cons del0 Dels.nil) ?_ ?_
  ·
   have h := hl20
   refine CJ_condP rfl (bT_and Iff.rfl bT_dec) (fun hg2 => ?_) (fun hg2 => ?_)
   ·
    replace h := ite_t hg2 h
    refine CJ_region <| oM rfl rfl <| oP (P_fieldAddr rfl ⟨_, _, _, Try.runUnderlying26, rfl, rfl, Try.sizeOf3, rfl⟩) rfl <| oV (V_load rfl foc4 rfl Try.isAgg3) rfl ?_
    obtain ⟨hg3, h⟩ := grd_de h
    exact oV (V_index (i := (s_0_legs).toNat) rfl rfl (Int.toNat_of_nonneg (hg3.1)).symm (by have hz : (s_0_legs).toNat < r3.length := (by omega); have hy := hdl8; omega) foc2 (Reads.sl _ _ _) Try.runUnderlying53 Try.sizeOf57) rfl <| RJ_ent (Ent.trans (t3_ eR) (Rs_at (fun _ _ => Dup_DevP) (dx := dv0) (dh := tyDev.dflt) (i := (s_0_legs).toNat) (by omega))) <| oV (V_loadE rfl rfl (by have hz : (s_0_legs).toNat < r3.length := (by omega); have hy := hdl8; omega) foc4 (Reads.sl _ _ _) rfl rfl Try.isAgg57) rfl <| oA rfl rfl <| RJ_nil <| QJ_ent (Ent.trans (t0_ eR) (fun h hh => stars_dup Dup_DevP hh)) <| QJ_ent (Ent.takeC (A' := optP (DevP bs_0_a · ((X5.2.getD ((s_0_legs).toNat) tyDev.dflt))) ((some ((r3.getD ((s_0_legs).toNat) dv0))))) del0 rfl eR) <| cR ⟨(some ((r3.getD ((s_0_legs).toNat) dv0))), (X5.2.getD ((s_0_legs).toNat) tyDev.dflt)⟩ (Option.some.inj h).symm ⟨rfl, True.intro⟩ (t0_ (t3_ (t3_ (t1_ (t2_ (t2_ (eD (eD eR))))))))
   ·
    replace h := ite_f hg2 h
    exact CJ_skip <| cR ⟨none, ⟨0, .bool false⟩⟩ (Option.some.inj h).symm ⟨rfl, True.intro⟩ eR
  ·
   rintro ⟨a25, dv24⟩ hy28
   replace h := bindK_at hK21 hy28
   show CJ _ _ _ _ _ (([(7, oif a25 dv24)] : Slots) ++ forget _ _) (optP (DevP bs_0_a · dv24) a25 :: _)
   refine CJ_seq <| AJ_startH 256 (by kernel_rfl) rfl <| aN 0 1 rfl rfl (P_move rfl) rfl <| aN 1 3 rfl rfl (P_fieldAddr rfl ⟨_, _, _, Try.runUnderlying26, rfl, rfl, Try.sizeOf3, rfl⟩) rfl <| aV 2 7 rfl rfl (GY_none rfl) eR (V_load rfl foc4 rfl Try.isAgg3) rfl ?_
   obtain ⟨hg4, h⟩ := grd_de h
   refine AJ_ent (Ent.trans (t3_ eR) (fun h hh => stars_dup (Dup_Rs (fun _ _ => Dup_DevP)) hh)) <| AJ_ent (Ent.trans (t0_ eR) (Rs_take (fun _ _ => Dup_DevP) ((s_0_legs).toNat))) <| AJ_pure (fun h hh => Rs_len (stars_perm (del0 (A := Rs (DevP bs_0_a) ((r3.take ((s_0_legs).toNat))) ((X5.2.take ((s_0_legs).toNat))))).out h hh)) fun hdl30 => aV 3 15 rfl rfl (GY_none rfl) (t2_ (t2_ (t2_ (t1_ (t1_ (t1_ (eD eR))))))) (V_slice (l := 0) (h := (s_0_legs).toNat) rfl foc2 (Reads.sl _ _ _) rfl ⟨_, by rw [Int.toNat_of_nonneg (by omega)]; exact rfl⟩ (Nat.zero_le _) (show (s_0_legs).toNat ≤ X5.2.length by have := hg4; have := hdl8; omega) Try.underlying53 Try.sizeOf57) rfl <| aN 4 31 rfl rfl (P_move rfl) rfl <| aN 5 63 rfl rfl (P_move rfl) rfl <| aN 6 127 rfl rfl (P_fieldAddr rfl ⟨_, _, _, Try.runUnderlying26, rfl, rfl, Try.sizeOf3, rfl⟩) rfl <| aV 7 255 rfl rfl (GY_none rfl) (t2_ (t2_ (t2_ (t1_ (t1_ (t1_ (eD eR))))))) (V_load rfl foc4 rfl Try.isAgg3) rfl ?_
   rcases opt_e h with ⟨ht31, h⟩ | ⟨o32, ht31, h⟩
   ·
    rw [ht31]
    obtain ⟨r33, hr34, h⟩ := bind_e h
    refine AJ_op 8 511 rfl (by kernel_rfl) rfl (GY_none rfl) <| O_call (L_mirror_Open_2 (reads_take (Reads.sliceV (l := 0) (h := (s_0_legs).toNat) (Reads.sl _ _ _) (Nat.zero_le _) (show (s_0_legs).toNat ≤ X5.2.length by have := hg4; have := hdl8; omega))) rstale hr34) rfl Try.call30 (Dels.cons del4 (Dels.cons del0 (Dels.cons del4 (Dels.cons del2 Dels.nil)))) rfl fun X35 _ => ⟨fun h => absurd h (by decide), ?_⟩
    refine aN 9 1023 rfl rfl (P_extract rfl rfl) rfl <| aN 10 2047 rfl rfl (P_extract rfl rfl) rfl <| aN 11 4095 rfl rfl (P_assign rfl) rfl <| aN 12 8191 rfl rfl (P_assign rfl) rfl <| AJ_done (by kernel_rfl) <| QJ_ent (t2_ (t2_ (t2_ (eD (eD (eD (eD (eD eR)))))))) <| QJ_then <| CJ_ret ?_
    cases h
    exact fE (res2 Try.results10 rfl rfl) X35 (t1_ eR)
   ·
    rw [ht31]
    refine AJ_ent (Ent.takeC (A' := DevP bs_0_a o32 dv24) del2 rfl eR) ?_
    obtain ⟨r37, hr38, h⟩ := bind_e h
    refine AJ_op 8 511 rfl (by kernel_rfl) rfl (GY_none rfl) <| O_call (L_mirror_Open (reads_take (Reads.sliceV (l := 0) (h := (s_0_legs).toNat) (Reads.sl _ _ _) (Nat.zero_le _) (show (s_0_legs).toNat ≤ X5.2.length by have := hg4; have := hdl8; omega))) rstale hr38) rfl Try.call30 (Dels.cons del4 (Dels.cons del1 (Dels.cons del4 (Dels.cons del0 (Dels.cons del1 Dels.nil))))) rfl fun X39 _ => ⟨fun h => absurd h (by decide), ?_⟩
    refine aN 9 1023 rfl rfl (P_extract rfl rfl) rfl <| aN 10 2047 rfl rfl (P_extract rfl rfl) rfl <| aN 11 4095 rfl rfl (P_assign rfl) rfl <| aN 12 8191 rfl rfl (P_assign rfl) rfl <| AJ_done (by kernel_rfl) <| QJ_ent (t2_ (t3_ (t3_ (eD (eD (eD (eD (eD eR)))))))) <| QJ_then <| CJ_ret ?_
    cases h
    exact fE (res2 Try.results10 rfl rfl) X39 (t1_ eR)
def volumegrouplaw21_awake : Option (Bool) :=
  Option.bind (volumegrouplaw21_begun (2 : UInt8)) fun r1 =>
  Option.elim r1.1 (
    some false) fun o8 =>
  if (((r1.2.2.2.2.2.length : Nat) : Int) ≠ (2 : Int)) then
    some false
  else
    Option.bind (volumegrouplaw21_setting_open o8 (((r1.2.1 : Nat) : Int)) (((r1.2.2.1 : Nat) : Int)) (((r1.2.2.2.1 : Nat) : Int)) r1.2.2.2.2.1 ([])) fun r10 =>
    if (r10.2 ≠ (0 : Int)) then
      some false
    else
      Option.elim r10.1 (
        some false) fun o19 =>
      Option.bind (mirror_Mirror_Dirty o19 o8) fun r20 =>
      if (((r20.length : Nat) : Int) ≠ (2 : Int)) then
        some false
      else
        Option.bind (mirror_Mirror_Resync o19 (100 : Int) o8) fun r24 =>
        Option.bind (mirror_Mirror_Read r24.2.2.1 (1 : Int) r24.2.2.2) fun r26 =>
        if ((r24.2.1 = (0 : Int)) ∧ (r24.1 = (0 : Int))) then
          Option.bind (mirror_Mirror_Dirty r26.2.2.1 r26.2.2.2) fun r32 =>
          if (((((r32.length : Nat) : Int) = (0 : Int)) ∧ (r26.2.1 = (0 : Int))) ∧ (r26.1 = (r1.2.2.2.2.2.getD 1 0))) then
            Option.bind (mirror_Regions (9 : Int) (4 : Int)) fun r50 =>
            some ((decide (r50 = (3 : Int))))
          else
            some false
        else
          some false
theorem L_volumegrouplaw21_awake {W : World} {r : Bool} (h : volumegrouplaw21_awake = some r) :
    CSpec Try.prog W 4 [] [] (fun x : Unit => .bool r) (fun _ => True) (fun x F => F) := by
 refine CSpec.of_body Try.func4 rfl Try.ntmps4 rfl fun F => ?_
 show CJ _ _ _ _ _ _ (F)
 unfold volumegrouplaw21_awake at h
 refine sR <| oA rfl rfl <| nT <| sR ?_
 obtain ⟨r1, hr2, h⟩ := bind_e h
 refine oO <| O_call (L_volumegrouplaw21_begun hr2) rfl Try.call5 Dels.nil rfl fun X3 _ => oM rfl rfl <| oP (P_extract rfl rfl) rfl <| oP (P_extract (v := X3.2) rfl rfl) rfl <| oO <| O_alloc Try.zeroValue26 rfl rfl fun b6 => oO <| O_storeN rfl rfl foc0 Try.sizeOf26 rfl rfl (by simp only [allOne, oneCell_oval, oneCell_oif, oneCell_oifc, Bool.true_and]; rfl) <| oA rfl rfl <| nT <| CJ_seq <| sR <| oP (P_fieldAddr rfl ⟨_, _, _, Try.runUnderlying26, rfl, rfl, Try.sizeOf24, rfl⟩) rfl <| oV (V_load rfl foc0 rfl Try.isAgg24) rfl ?_
 rcases opt_e h with ⟨ht7, h⟩ | ⟨o8, ht7, h⟩
 ·
  rw [ht7]
  refine RJ_ent (t0_ (t1_ (eD eR))) <| oP (P_eqlNN rfl rfl Try.underlying24) rfl <| oM rfl rfl <| RJ_gn (GY_no rfl rfl rfl rfl) rfl rfl <| RJ_gn (GY_no rfl rfl rfl rfl) rfl rfl <| RJ_gn (GY_no rfl rfl rfl rfl) rfl rfl <| oP (P_pickT rfl rfl rfl) rfl <| nT <| CJ_condT rfl rfl <| sR <| oA rfl rfl <| nT <| CJ_ret <| QJ_then_ret ?_
  cases h
  exact fE (res1 Try.results4 rfl) () (eD (eD eR))
 ·
  rw [ht7]
  refine RJ_ent (Ent.takeC (A' := Arr X3.1 o8) del1 rfl eR) <| oP (P_eqlPN rfl rfl Try.underlying24) rfl <| oM rfl rfl <| gP (GY_yes rfl rfl rfl rfl) (P_move rfl) rfl <| gV (GY_yes rfl rfl rfl rfl) (V_len rfl foc2 (Reads.rdp _ _ _) Try.runUnderlying27) rfl <| gP (GY_yes rfl rfl rfl rfl) (P_neq (a := ((r1.2.2.2.2.2.length : Nat) : Int)) (b := (2 : Int)) rfl rfl) rfl <| oP (P_pickF rfl rfl rfl) rfl <| nT <| CJ_condP rfl bT_dec (fun hg1 => ?_) (fun hg1 => ?_)
  ·
   replace h := ite_t hg1 h
   refine sR <| oA rfl rfl <| nT <| CJ_ret <| QJ_then_ret ?_
   cases h
   exact fE (res1 Try.results4 rfl) () (eD (eD (eD eR)))
  ·
   replace h := ite_f hg1 h
   refine kT <| sR <| oV (V_loadN rfl foc1 Try.isAgg26 Try.sizeOf26 rfl rfl) rfl <| RJ_ent (fun h hh => sl_nil (t := tyI) h hh) ?_
   obtain ⟨r10, hr11, h⟩ := bind_e h
   refine oO <| O_call (L_volumegrouplaw21_setting_open (Reads.sl _ _ _) hr11) rfl Try.call10 (Dels.cons del1 (Dels.cons del0 Dels.nil)) rfl fun X12 _ => oM rfl rfl <| oP (P_extract rfl rfl) rfl <| oP (P_extract rfl rfl) rfl <| oA rfl rfl <| oA rfl rfl <| nT <| CJ_seq <| sR <| oM rfl rfl <| oP (P_neq (a := r10.2) (b := (0 : Int)) rfl rfl) rfl <| oM rfl rfl <| RJ_mbF rfl rfl rfl (fun hG14 => have hP15 : ¬ (r10.2 ≠ (0 : Int)) := nP (bT_dec) hG14; VJ_P (P_move rfl)) <| RJ_splitP 28 rfl bT_dec (fun hg2B hg2 => ?_) (fun hg2B hg2 => ?_)
   ·
    replace h := ite_t hg2 h
    refine RJ_gn (GY_no rfl rfl rfl hg2B) rfl rfl <| oP (P_pickT rfl hg2B rfl) rfl <| oM rfl rfl <| RJ_gn (GY_no rfl rfl rfl rfl) rfl rfl <| RJ_gn (GY_no rfl rfl rfl rfl) rfl rfl <| RJ_gn (GY_no rfl rfl rfl rfl) rfl rfl <| RJ_gn (GY_no rfl rfl rfl rfl) rfl rfl <| oP (P_pickT rfl rfl rfl) rfl <| nT <| CJ_condT rfl rfl <| sR <| oA rfl rfl <| nT <| CJ_ret <| QJ_then_ret ?_
    cases h
    exact fE (res1 Try.results4 rfl) () (eD (eD (eD (eD (eD eR)))))
   ·
    replace h := ite_f hg2 h
    rcases opt_e h with ⟨ht18, h⟩ | ⟨o19, ht18, h⟩
    ·
     rw [ht18]
     refine RJ_ent (t0_ (t0_ (t1_ (t1_ (eD eR))))) <| gP (GY_yes rfl rfl rfl hg2B) (P_eqlNN (mbx (not_f hg2B) rfl) rfl Try.underlying38) rfl <| oP (P_pickF rfl hg2B rfl) rfl <| oM rfl rfl <| RJ_gn (GY_no rfl rfl rfl rfl) rfl rfl <| RJ_gn (GY_no rfl rfl rfl rfl) rfl rfl <| RJ_gn (GY_no rfl rfl rfl rfl) rfl rfl <| RJ_gn (GY_no rfl rfl rfl rfl) rfl rfl <| oP (P_pickT rfl rfl rfl) rfl <| nT <| CJ_condT rfl rfl <| sR <| oA rfl rfl <| nT <| CJ_ret <| QJ_then_ret ?_
     cases h
     exact fE (res1 Try.results4 rfl) () (eD (eD (eD (eD eR))))
    ·
     rw [ht18]
     refine RJ_ent (Ent.takeC (A' := MirP X3.1 X12 o19) del2 rfl eR) <| gP (GY_yes rfl rfl rfl hg2B) (P_eqlPN (mbx (not_f hg2B) rfl) rfl Try.underlying38) rfl <| oP (P_pickF rfl hg2B rfl) rfl <| oM rfl rfl <| gP (GY_yes rfl rfl rfl rfl) (P_move rfl) rfl ?_
     obtain ⟨r20, hr21, h⟩ := bind_e h
     refine RJ_gy (GY_yes rfl rfl rfl rfl) <| O_call (L_mirror_Mirror_Dirty hr21) rfl Try.call19 (Dels.cons del0 (Dels.cons del0 Dels.nil)) rfl fun X22 _ => gV (GY_yes rfl rfl rfl rfl) (V_len rfl foc2 (Reads.sl _ _ _) Try.runUnderlying22) rfl <| gP (GY_yes rfl rfl rfl rfl) (P_neq (a := ((r20.length : Nat) : Int)) (b := (2 : Int)) rfl rfl) rfl <| oP (P_pickF rfl rfl rfl) rfl <| nT <| CJ_condP rfl bT_dec (fun hg3 => ?_) (fun hg3 => ?_)
     ·
      replace h := ite_t hg3 h
      refine sR <| oA rfl rfl <| nT <| CJ_ret <| QJ_then_ret ?_
      cases h
      exact fE (res1 Try.results4 rfl) () (eD (eD (eD (eD (eD (eD eR))))))
     ·
      replace h := ite_f hg3 h
      refine kT <| sR <| oM rfl rfl ?_
      obtain ⟨r24, hr25, h⟩ := bind_e h
      refine oO <| O_call (L_mirror_Mirror_Resync hr25) rfl Try.call13 (Dels.cons del0 (Dels.cons del0 Dels.nil)) rfl fun _ _ => oM rfl rfl <| oP (P_extract rfl rfl) rfl <| oP (P_extract rfl rfl) rfl <| oA rfl rfl <| oA rfl rfl <| nT <| sR <| oM rfl rfl ?_
      obtain ⟨r26, hr27, h⟩ := bind_e h
      refine oO <| O_call (L_mirror_Mirror_Read hr27) rfl Try.call12 (Dels.cons del0 (Dels.cons del0 Dels.nil)) rfl fun _ _ => oM rfl rfl <| oP (P_extract rfl rfl) rfl <| oP (P_extract rfl rfl) rfl <| oA rfl rfl <| oA rfl rfl <| nT <| sR <| oM rfl rfl <| oP (P_eql (a := r24.2.1) (b := (0 : Int)) rfl rfl) rfl <| oM rfl rfl <| RJ_mbT rfl rfl rfl (fun hG28 => have hP29 : (r24.2.1 = (0 : Int)) := (bT_dec).1 hG28; VJ_P (P_move rfl)) <| RJ_mbT rfl rfl rfl (fun hG30 => have hP31 : (r24.2.1 = (0 : Int)) := (bT_dec).1 hG30; VJ_P (P_eql (a := r24.1) (b := (0 : Int)) (mbx hG30 rfl) rfl)) <| oP (P_pickAnd rfl (fun hh => mbx hh rfl) rfl) rfl <| oM rfl rfl <| RJ_splitP 54 rfl (bT_and bT_dec bT_dec) (fun hg4B hg4 => ?_) (fun hg4B hg4 => ?_)
      ·
       replace h := ite_t hg4 h
       refine gP (GY_yes rfl rfl rfl hg4B) (P_move rfl) rfl ?_
       obtain ⟨r32, hr33, h⟩ := bind_e h
       refine RJ_gy (GY_yes rfl rfl rfl hg4B) <| O_call (L_mirror_Mirror_Dirty hr33) rfl Try.call19 (Dels.cons del0 (Dels.cons del0 Dels.nil)) rfl fun X34 _ => gV (GY_yes rfl rfl rfl hg4B) (V_len rfl foc2 (Reads.sl _ _ _) Try.runUnderlying22) rfl <| gP (GY_yes rfl rfl rfl hg4B) (P_eql (a := ((r32.length : Nat) : Int)) (b := (0 : Int)) rfl rfl) rfl <| oP (P_pickT rfl hg4B rfl) rfl <| oM rfl rfl <| RJ_mbT rfl rfl rfl (fun hG36 => have hP37 : (((r32.length : Nat) : Int) = (0 : Int)) := (bT_dec).1 hG36; VJ_P (P_move rfl)) <| RJ_mbT rfl rfl rfl (fun hG38 => have hP39 : (((r32.length : Nat) : Int) = (0 : Int)) := (bT_dec).1 hG38; VJ_P (P_eql (a := r26.2.1) (b := (0 : Int)) (mbx hG38 rfl) rfl)) <| oP (P_pickAnd rfl (fun hh => mbx hh rfl) rfl) rfl <| oM rfl rfl <| RJ_mbT rfl rfl rfl (fun hG40 => have hP41 : ((((r32.length : Nat) : Int) = (0 : Int)) ∧ (r26.2.1 = (0 : Int))) := ((bT_and bT_dec bT_dec)).1 hG40; VJ_P (P_move rfl)) <| RJ_mbT rfl rfl rfl (fun hG42 => have hP43 : ((((r32.length : Nat) : Int) = (0 : Int)) ∧ (r26.2.1 = (0 : Int))) := ((bT_and bT_dec bT_dec)).1 hG42; VJ_P (P_move rfl)) <| RJ_mbT rfl rfl rfl (fun hG44 => have hP45 : ((((r32.length : Nat) : Int) = (0 : Int)) ∧ (r26.2.1 = (0 : Int))) := ((bT_and bT_dec bT_dec)).1 hG44; V_index (i := 1) (mbx hG44 rfl) rfl rfl (by omega) foc6 (Reads.rdp _ _ _) Try.runUnderlying27 Try.sizeOf33) ?_
       refine RJ_mbT rfl rfl rfl (fun hG46 => have hP47 : ((((r32.length : Nat) : Int) = (0 : Int)) ∧ (r26.2.1 = (0 : Int))) := ((bT_and bT_dec bT_dec)).1 hG46; V_loadE (mbx hG46 rfl) rfl (by omega) foc6 (Reads.rdp _ _ _) rfl rfl Try.isAgg33) <| RJ_mbT rfl rfl rfl (fun hG48 => have hP49 : ((((r32.length : Nat) : Int) = (0 : Int)) ∧ (r26.2.1 = (0 : Int))) := ((bT_and bT_dec bT_dec)).1 hG48; VJ_P (P_eq_u64 (a := r26.1) (b := (r1.2.2.2.2.2.getD 1 0)) (mbx hG48 rfl) (mbx hG48 rfl))) <| oP (P_pickAnd rfl (fun hh => mbx hh rfl) rfl) rfl <| oM rfl rfl <| RJ_splitP 71 rfl (bT_and (bT_and bT_dec bT_dec) bT_dec) (fun hg5B hg5 => ?_) (fun hg5B hg5 => ?_)
       ·
        replace h := ite_t hg5 h
        obtain ⟨r50, hr51, h⟩ := bind_e h
        refine RJ_gy (GY_yes rfl rfl rfl hg5B) <| O_call (L_mirror_Regions hr51) rfl Try.call11 Dels.nil rfl fun _ _ => gP (GY_yes rfl rfl rfl hg5B) (P_eql (a := r50) (b := (3 : Int)) rfl rfl) rfl <| oP (P_pickT rfl hg5B rfl) rfl <| oA rfl rfl <| RJ_nil <| QJ_ent (t1_ (eD (eD (eD (eD (eD (eD eR))))))) <| QJ_then <| CJ_ret ?_
        cases h
        exact fE (res1 Try.results4 rfl) () (eD eR)
       ·
        replace h := ite_f hg5 h
        refine RJ_gn (GY_no rfl rfl rfl hg5B) rfl rfl <| RJ_gn (GY_no rfl rfl rfl hg5B) rfl rfl <| oP (P_pickF rfl hg5B rfl) rfl <| oA rfl rfl <| RJ_nil <| QJ_ent (t1_ (eD (eD (eD (eD (eD (eD eR))))))) <| QJ_then <| CJ_ret ?_
        cases h
        exact fE (res1 Try.results4 rfl) () (eD eR)
      ·
       replace h := ite_f hg4 h
       refine RJ_gn (GY_no rfl rfl rfl hg4B) rfl rfl <| RJ_gn (GY_no rfl rfl rfl hg4B) rfl rfl <| RJ_gn (GY_no rfl rfl rfl hg4B) rfl rfl <| RJ_gn (GY_no rfl rfl rfl hg4B) rfl rfl <| oP (P_pickF rfl hg4B rfl) rfl <| oM rfl rfl <| RJ_gn (GY_no rfl rfl rfl rfl) rfl rfl <| RJ_gn (GY_no rfl rfl rfl rfl) rfl rfl <| oP (P_pickF rfl rfl rfl) rfl <| oM rfl rfl <| RJ_gn (GY_no rfl rfl rfl rfl) rfl rfl <| RJ_gn (GY_no rfl rfl rfl rfl) rfl rfl <| RJ_gn (GY_no rfl rfl rfl rfl) rfl rfl <| RJ_gn (GY_no rfl rfl rfl rfl) rfl rfl <| RJ_gn (GY_no rfl rfl rfl rfl) rfl rfl <| oP (P_pickF rfl rfl rfl) rfl <| oM rfl rfl <| RJ_gn (GY_no rfl rfl rfl rfl) rfl rfl <| RJ_gn (GY_no rfl rfl rfl rfl) rfl rfl <| oP (P_pickF rfl rfl rfl) rfl <| oA rfl rfl <| nT <| CJ_ret ?_
       cases h
       exact fE (res1 Try.results4 rfl) () (eD (eD (eD (eD (eD (eD eR))))))
end Go.Proofs
namespace Go.Proofs
open Go.VG
section
variable {C : MC} {K a i r : Nat} {s t u y : ArrS} {lv : LV} {m m' x : MirS} {w v : UInt64} {st : List Int}
theorem regI : IntKind.i64.wrap (((C.sz : Int) - 1).tdiv (C.rg : Int)) = (((C.sz - 1) / C.rg : Nat) : Int) := by
  have h1 : (C.sz : Int) - 1 = ((C.sz - 1 : Nat) : Int) := by have := C.hs; omega
  rw [h1]
  have h2 : ((C.sz - 1 : Nat) : Int).tdiv (C.rg : Int) = (((C.sz - 1) / C.rg : Nat) : Int) := (Int.ofNat_tdiv _ _).symm
  have h3 : (C.sz - 1) / C.rg ≤ C.sz - 1 := Nat.div_le_self _ _
  have h4 := C.hs
  rw [h2]
  generalize (C.sz - 1) / C.rg = q at h3 ⊢
  exact wrap64_in (by omega) (by omega)
theorem regions_eq : mirror_Regions (C.sz : Int) (C.rg : Int) = some (C.R : Int) := by
  have h1 := C.hs
  have h2 := C.hr
  have hR := C.hR
  unfold mirror_Regions
  rw [if_neg (by omega), grd_t (inI64_of (by omega)), regI]
  have e : (((C.sz - 1) / C.rg : Nat) : Int) + 1 = (C.R : Int) := rfl
  rw [e, grd_t (inI64_of (by omega))]
theorem refRegions_eq : volumegroupref21_Regions (C.sz : Int) (C.rg : Int) = some (C.R : Int) := by
  have h1 := C.hs
  have h2 := C.hr
  have hR := C.hR
  unfold volumegroupref21_Regions
  rw [if_neg (by omega), grd_t (inI64_of (by omega)), regI]
  have e : (((C.sz - 1) / C.rg : Nat) : Int) + 1 = (C.R : Int) := rfl
  rw [e, grd_t (inI64_of (by omega))]
def legM (C : MC) (st : List Int) (i : Nat) : mlegS := ⟨xL i C.sz, if (i : Int) ∈ st then 2 else 0, 0⟩
def legsM (C : MC) (st : List Int) (n : Nat) : List mlegS := (List.range n).map (legM C st)
theorem legsM_at {n : Nat} (h : i < n) : (legsM C st n).getD i mleg_x0 = legM C st i := by simp [legsM, List.getD, h]
theorem legsM_len {n : Nat} : (legsM C st n).length = n := by simp [legsM]
theorem legsM_succ {n : Nat} : legsM C st (n + 1) = legsM C st n ++ [legM C st n] := by simp [legsM, List.range_succ]
theorem idxF_l1 {n : Int} : ∀ (l : List Int) (_ : ∀ k ∈ l, 0 ≤ k ∧ k ≤ n) (N i : Nat), l.length - i < N → i ≤ l.length → slices_IndexFunc_int__mirror_Open_1_l1 l n N i = some (.inl ())
  | _, _, 0, _, h, _ => absurd h (by omega)
  | l, hl, N + 1, i, h, hi => by
    have hu : slices_IndexFunc_int__mirror_Open_1_l1 l n (N + 1) i = slices_IndexFunc_int__mirror_Open_1_l1_b l n (slices_IndexFunc_int__mirror_Open_1_l1 l n N) i := rfl
    rw [hu]
    unfold slices_IndexFunc_int__mirror_Open_1_l1_b
    by_cases hlt : i < l.length
    · rw [if_pos (by omega)]
      unfold mirror_Open_1
      have hk := hl (l.getD i 0) (by simp [List.getD, hlt])
      simp only [Option.bind_some]
      rw [if_neg (by rw [Bool.or_eq_true, decide_eq_true_iff, decide_eq_true_iff]; omega)]
      exact idxF_l1 l hl N (i + 1) (by omega) (by omega)
    · rw [if_neg (by omega)]
theorem containsF {n : Int} {l : List Int} (hl : ∀ k ∈ l, 0 ≤ k ∧ k ≤ n) (hlen : l.length ≤ 1000000) : slices_ContainsFunc_int__mirror_Open_1 l n = some false := by
  unfold slices_ContainsFunc_int__mirror_Open_1 slices_IndexFunc_int__mirror_Open_1
  have hF := fuel_big
  rw [idxF_l1 l hl FUEL 0 (by omega) (by omega), seqO_inl]; rfl
def openB (legs : List Dvc) (staleLegs : List Int) (s : ArrS) (rec : MirS → Nat → Nat → Option (Nat × MirS)) (x33 : MirS) (x34 : Nat) (x35 : Nat) : Option (Nat × MirS) :=
  if (((x35 : Nat) : Int) < ((legs.length : Nat) : Int)) then
    Option.bind (slices_Contains_int staleLegs (((x35 : Nat) : Int))) fun r38 =>
    Option.bind ((
      if r38 = true then
        some (x34, 2)
      else
        grd (inN64 (x34 + 1)) <|
        some (((x34 + 1), 0)) : Option (Nat × Nat))) fun a45 =>
    grd (inLen (x33.legs.length + 1)) <|
    Option.bind (Dvc.size (legs.getD x35 dv0) s) fun r63 =>
    rec ((⟨(x33.legs ++ [(⟨(legs.getD x35 dv0), ((a45.2 : Nat) : Int), (0 : Int)⟩ : mlegS)]), x33.log, x33.hasLog, x33.logState, (min x33.size r63), x33.region, x33.dirty, x33.copied⟩ : MirS)) a45.1 (x35 + 1)
  else
    some (x34, x33)
theorem open_rule {f : Nat → MirS → Nat → Nat → Option (Nat × MirS)} {legs : List Dvc} (hf : ∀ n x p i, f (n + 1) x p i = openB legs st s (f n) x p i) (hll : legs.length = C.L) (hlx : ∀ i, i < C.L → legs.getD i dv0 = xL i C.sz) (hst : st.length ≤ 1000000) {lg : Bool} {reg : Int} :
    ∀ (N i p : Nat), C.L - i < N → i ≤ C.L → p ≤ i → ((∃ j, j < i ∧ (j : Int) ∉ st) → 0 < p) → ∃ q, ((∃ j, j < C.L ∧ (j : Int) ∉ st) → 0 < q) ∧ f N ⟨legsM C st i, none, lg, 0, (C.sz : Int), reg, [], 0⟩ p i = some (q, ⟨legsM C st C.L, none, lg, 0, (C.sz : Int), reg, [], 0⟩)
  | 0, _, _, h, _, _, _ => absurd h (by omega)
  | N + 1, i, p, hN, hi, hp, hq => by
    have hrec := fun p => open_rule hf hll hlx hst (lg := lg) (reg := reg) N (i + 1) p
    have hL := C.hL
    rw [hf]
    unfold openB
    by_cases hlt : i < C.L
    · have hsz : Dvc.size (xL i C.sz) s = some (C.sz : Int) := span_size
      rw [if_pos (by rw [hll]; omega), contains_eq hst, hlx i hlt, hsz]; simp only [Option.bind_some, legsM_len]
      have hmin : min (C.sz : Int) (C.sz : Int) = C.sz := by omega
      by_cases hm : (i : Int) ∈ st
      · rw [if_pos (by simpa using hm)]; simp only [Option.bind_some]
        rw [grd_t (inLen_of (by omega)), hmin]
        have e : legsM C st i ++ [(⟨xL i C.sz, ((2 : Nat) : Int), 0⟩ : mlegS)] = legsM C st (i + 1) := by rw [legsM_succ]; unfold legM; rw [if_pos hm]; rfl
        rw [e]
        refine hrec p (by omega) (by omega) (by omega) (fun ⟨j, hj, hjn⟩ => hq ⟨j, ?_, hjn⟩)
        rcases Nat.lt_or_ge j i with x | x
        · exact x
        · have : j = i := by omega
          subst this; exact absurd hm hjn
      · rw [if_neg (by simpa using hm), grd_t (inN64_of (by omega))]; simp only [Option.bind_some]
        rw [grd_t (inLen_of (by omega)), hmin]
        have e : legsM C st i ++ [(⟨xL i C.sz, ((0 : Nat) : Int), 0⟩ : mlegS)] = legsM C st (i + 1) := by rw [legsM_succ]; unfold legM; rw [if_neg hm]; rfl
        rw [e]
        exact hrec (p + 1) (by omega) (by omega) (by omega) (fun _ => by omega)
    · rw [if_neg (by rw [hll]; omega)]
      have : i = C.L := by omega
      subst this
      exact ⟨p, hq, rfl⟩
theorem setB' {l : List Bool} {i j : Nat} {v : Bool} (h : i < l.length) : (l.set i v).getD j false = if j = i then v else l.getD j false := by
  simp only [List.getD, List.getElem?_set]
  by_cases e : i = j
  · subst e; simp [h]
  · rw [if_neg e, if_neg (fun x => e x.symm)]
theorem all_rule {f : Nat → MirS → Nat → Option MirS} {R : Nat} (hR : R ≤ 1000000) (hf : ∀ n x i, f (n + 1) x i = if (((i : Nat) : Int) < ((((List.replicate (((R : Nat) : Int)).toNat false)).length : Nat) : Int)) then grd (decide (i < x.dirty.length)) <| grd (inN64 (i + 1)) <| f n ({ x with dirty := (x.dirty.set i true) }) (i + 1) else some x) :
    ∀ (N i : Nat) (x : MirS), R - i < N → i ≤ R → x.dirty.length = R → (∀ r, r < i → x.dirty.getD r false = true) → ∃ d : List Bool, d.length = R ∧ (∀ r, r < R → d.getD r false = true) ∧ f N x i = some { x with dirty := d }
  | 0, _, _, h, _, _, _ => absurd h (by omega)
  | N + 1, i, x, hN, hi, hl, hd => by
    rw [hf]
    by_cases hlt : i < R
    · rw [if_pos (by simp; omega), grd_t (decide_eq_true (by omega)), grd_t (inN64_of (by omega))]
      obtain ⟨d, h1, h2, h3⟩ := all_rule hR hf N (i + 1) { x with dirty := x.dirty.set i true } (by omega) (by omega) (by simp [hl]) (fun r hr => by
        show (x.dirty.set i true).getD r false = true
        rw [setB' (by omega)]
        split
        · rfl
        · exact hd r (by omega))
      exact ⟨d, h1, h2, h3⟩
    · rw [if_neg (by simp; omega)]
      exact ⟨x.dirty, hl, fun r hr => hd r (by omega), rfl⟩
theorem some_l4 {l : List Int} {R : Nat} (hl : ∀ k, k < l.length → ∃ r : Nat, r < R ∧ l.getD k 0 = r) (hl2 : l.length ≤ 1000000) : ∀ (N k : Nat) (x : MirS), l.length - k < N → k ≤ l.length → x.dirty.length = R →
    ∃ d : List Bool, d.length = R ∧ (∀ r : Nat, r < R → (d.getD r false = true ↔ x.dirty.getD r false = true ∨ ∃ q, k ≤ q ∧ q < l.length ∧ l.getD q 0 = (r : Int))) ∧ mirror_Open_l4 l N x k = some { x with dirty := d }
  | 0, _, _, h, _, _ => absurd h (by omega)
  | N + 1, k, x, hN, hk, hd => by
    have hu : mirror_Open_l4 l (N + 1) x k = mirror_Open_l4_b l (mirror_Open_l4 l N) x k := rfl
    rw [hu]
    unfold mirror_Open_l4_b
    by_cases hlt : k < l.length
    · obtain ⟨r, hr, her⟩ := hl k hlt
      rw [if_pos (by omega), her, grd_t (decide_eq_true ⟨Int.natCast_nonneg _, by rw [hd]; exact Int.ofNat_lt.2 hr⟩), grd_t (inN64_of (by omega)), Int.toNat_natCast]
      obtain ⟨d, h1, h2, h3⟩ := some_l4 hl hl2 N (k + 1) { x with dirty := x.dirty.set r true } (by omega) (by omega) (by simp [hd])
      refine ⟨d, h1, fun q hq => ?_, h3⟩
      rw [h2 q hq]
      show ((x.dirty.set r true).getD q false = true ∨ _) ↔ _
      rw [setB' (by omega)]
      by_cases e : q = r
      · subst e
        rw [if_pos rfl]
        exact ⟨fun _ => .inr ⟨k, Nat.le_refl _, hlt, her⟩, fun _ => .inl rfl⟩
      · rw [if_neg e]
        refine or_congr Iff.rfl ⟨fun ⟨q', g1, g2, g3⟩ => ⟨q', by omega, g2, g3⟩, fun ⟨q', g1, g2, g3⟩ => ⟨q', ?_, g2, g3⟩⟩
        rcases Nat.lt_or_ge k q' with y | y
        · exact y
        · have : q' = k := by omega
          subst this
          rw [her] at g3
          exact absurd (by omega) e
    · rw [if_neg (by omega)]
      refine ⟨x.dirty, hd, fun r _ => ?_, rfl⟩
      exact ⟨fun h => .inl h, fun h => h.elim id (fun ⟨q, g1, g2, _⟩ => by omega)⟩
theorem dirtyL_has {l : List UInt64} {n r : Nat} (hr : r < n) : (∃ q, 0 ≤ q ∧ q < (dirtyL l n).length ∧ (dirtyL l n).getD q 0 = (r : Int)) ↔ bitR l r = true := by
  have hm : (r : Int) ∈ dirtyL l n ↔ bitR l r = true := by
    unfold dirtyL
    rw [List.mem_map]
    constructor
    · rintro ⟨q, hq, e⟩
      have := (List.mem_filter.1 hq).2
      have e' : q = r := by omega
      rw [e'] at this; simpa using this
    · intro h
      exact ⟨r, List.mem_filter.2 ⟨List.mem_range.2 hr, by simpa using h⟩, rfl⟩
  rw [← hm, List.mem_iff_getElem]
  constructor
  · rintro ⟨q, -, hq, e⟩
    exact ⟨q, hq, by simpa [List.getD, hq] using e⟩
  · rintro ⟨q, hq, e⟩
    exact ⟨q, by omega, hq, by simp [List.getD, hq, e]⟩
end
end Go.Proofs
namespace Go.Proofs
open Go.VG
section
variable {C : MC} {K a i r : Nat} {s t u y : ArrS} {lv : LV} {m m' x : MirS} {w v : UInt64} {st : List Int} {legs : List Dvc}
theorem open_miss {R : Nat} (hR : 1 ≤ R ∧ R ≤ 12) (hok : ArrOk C.ns K s) (hdn : s.down = false) (hm : miss s C.L = true) : regionlog_Open (xL C.L 3) (R : Int) s = some (none, 6) := by
  have hnW : nW R = 1 := by unfold nW; omega
  have hF := fuel_big
  have hns : C.ns.getD C.L 0 = 3 := MC.log
  unfold regionlog_Open
  rw [checkN logL hns (by decide) ⟨hR.1, by omega⟩, if_neg (by rw [hnW]; omega)]; simp only [Option.bind_some]
  rw [if_neg (by simp), wordsN ⟨hR.1, by omega⟩, hnW]; simp only [Option.bind_some]
  have hrd : ∃ w, (xL C.L 3).rd s (0 : Int) = some (w, 6) := by
    have h1 := hok.rdM (d := C.L) (a := 0) hdn logL (by rw [hns]; decide) hm
    rw [span_rd (by omega) (by omega), if_pos (by omega)]
    have e : ((0 : Nat) : Int) + (0 : Int) = ((0 : Nat) : Int) := by omega
    rw [e, h1]; exact ⟨_, rfl⟩
  obtain ⟨w, hrd⟩ := hrd
  have hra : block_ReadAll (xL C.L 3) (0 : Int) ((1 + 1 : Nat) : Int) s = some ([], 6) := by
    unfold block_ReadAll
    have hsz : (xL C.L 3).size s = some ((3 : Nat) : Int) := span_size
    rw [hsz]; simp only [Option.bind_some]
    rw [inside_t (by omega) (by omega)]; simp only [Option.bind_some]
    rw [if_neg (by simp)]
    obtain ⟨N, hN⟩ : ∃ N, FUEL = N + 1 := ⟨FUEL - 1, by omega⟩
    have hu : block_ReadAll_l1 (xL C.L 3) (0 : Int) ((1 + 1 : Nat) : Int) s (N + 1) 0 [] = block_ReadAll_l1_b (xL C.L 3) (0 : Int) ((1 + 1 : Nat) : Int) s (block_ReadAll_l1 (xL C.L 3) (0 : Int) ((1 + 1 : Nat) : Int) s N) 0 [] := rfl
    rw [hN, hu]
    unfold block_ReadAll_l1_b
    have e : (0 : Int) + ((0 : Nat) : Int) = 0 := rfl
    rw [if_pos (by omega), e, grd_t (inI64_of (by omega)), hrd]; simp only [Option.bind_some]
    rw [if_pos (by simp), seqO_inr]
  rw [hra]; simp only [Option.bind_some]
  rw [if_pos (by simp)]
structure OpH (C : MC) (s : ArrS) (legs : List Dvc) (st : List Int) : Prop where
  ll : legs.length = C.L
  lx : ∀ i, i < C.L → legs.getD i dv0 = xL i C.sz
  rg : ∀ k ∈ st, 0 ≤ k ∧ k ≤ (C.L : Int)
  sl : st.length ≤ 1000000
  ex : ∃ j, j < C.L ∧ (j : Int) ∉ st
theorem OpH.guard (h : OpH C s legs st) : ¬ ((((((legs.length : Nat) : Int) < (2 : Int)) ∨ ((6 : Int) < ((legs.length : Nat) : Int))) ∨ ((C.rg : Int) < (1 : Int))) ∨ ((65536 : Int) < (C.rg : Int))) := by
  have h1 := C.hL
  have h2 := C.hr
  rw [h.ll]; omega
theorem open2_eq' {R : Nat} (hR : 1 ≤ R ∧ R ≤ 12) (hreg : mirror_Regions (C.sz : Int) (C.rg : Int) = some (R : Int)) (h : OpH C s legs st) : ∃ d : List Bool, d.length = R ∧ (∀ r, r < R → d.getD r false = true) ∧ mirror_Open_2 legs st (C.rg : Int) s = some (some ⟨legsM C st C.L, none, false, 2, (C.sz : Int), (C.rg : Int), d, 0⟩, 0) := by
  have hL := C.hL
  have hnW : nW R = 1 := by unfold nW; omega
  have hF := fuel_big
  unfold mirror_Open_2
  generalize FUEL = N at hF ⊢
  rw [if_neg h.guard, containsF (by rw [h.ll]; exact h.rg) h.sl]; simp only [Option.bind_some]
  have hsz : Dvc.size (legs.getD 0 dv0) s = some (C.sz : Int) := by rw [h.lx 0 (by omega)]; exact span_size
  rw [if_neg (by simp), hsz]; simp only [Option.bind_some]
  obtain ⟨q, q1, q2⟩ := open_rule (f := mirror_Open_2_l1 legs st (C.rg : Int) s) (s := s) (fun _ _ _ _ => rfl) h.ll h.lx h.sl (lg := false) (reg := (C.rg : Int)) N 0 0 (by omega) (by omega) (by omega) (fun ⟨j, hj, _⟩ => absurd hj (by omega))
  have e0 : legsM C st 0 = [] := rfl
  rw [e0] at q2
  rw [q2]; simp only [Option.bind_some]
  have := q1 h.ex
  rw [if_neg (by omega), hreg]; simp only [Option.bind_some]
  rw [grd_t (decide_eq_true ⟨by omega, by omega⟩), contains_eq h.sl]; simp only [Option.bind_some]
  rw [if_pos (by simp)]
  obtain ⟨d, d1, d2, d3⟩ := all_rule (f := mirror_Open_2_l3 (R : Int)) (R := R) (by omega) (fun _ _ _ => rfl) N 0 ⟨legsM C st C.L, none, false, 2, (C.sz : Int), (C.rg : Int), List.replicate ((R : Int)).toNat false, 0⟩ (by omega) (by omega) (by simp) (fun r hr => absurd hr (by omega))
  rw [d3]
  exact ⟨d, d1, d2, rfl⟩
theorem open1_eq' {R : Nat} (hR : 1 ≤ R ∧ R ≤ 12) (hreg : mirror_Regions (C.sz : Int) (C.rg : Int) = some (R : Int)) (h : OpH C s legs st) (hok : ArrOk C.ns K s) (hdn : s.down = false) :
    ((C.L : Int) ∈ st → ∃ d : List Bool, d.length = R ∧ (∀ r, r < R → d.getD r false = true) ∧ mirror_Open legs st (xL C.L 3) (C.rg : Int) s = some (some ⟨legsM C st C.L, none, true, 2, (C.sz : Int), (C.rg : Int), d, 0⟩, 0)) ∧
    ((C.L : Int) ∉ st → miss s C.L = true → mirror_Open legs st (xL C.L 3) (C.rg : Int) s = some (none, 18)) ∧
    ((C.L : Int) ∉ st → miss s C.L = false → now s C.L 0 = headL R → ∃ d : List Bool, d.length = R ∧ (∀ r, r < R → (d.getD r false = true ↔ tb (now s C.L 1) r = true)) ∧ mirror_Open legs st (xL C.L 3) (C.rg : Int) s = some (some ⟨legsM C st C.L, some (openL (xL C.L 3) R (now s C.L)), true, 0, (C.sz : Int), (C.rg : Int), d, 0⟩, 0)) := by
  have hL := C.hL
  have hnW : nW R = 1 := by unfold nW; omega
  have hF := fuel_big
  have hsz : Dvc.size (legs.getD 0 dv0) s = some (C.sz : Int) := by rw [h.lx 0 (by omega)]; exact span_size
  have e0 : legsM C st 0 = [] := rfl
  have hlen : ((((List.replicate ((R : Int)).toNat false)).length : Nat) : Int) = (R : Int) := by simp
  refine ⟨fun h1 => ?_, fun h1 h2 => ?_, fun h1 h2 h3 => ?_⟩
  · unfold mirror_Open
    generalize FUEL = N at hF ⊢
    obtain ⟨q, q1, q2⟩ := open_rule (f := mirror_Open_l1 legs st (xL C.L 3) (C.rg : Int) s) (s := s) (fun _ _ _ _ => rfl) h.ll h.lx h.sl (lg := true) (reg := (C.rg : Int)) N 0 0 (by omega) (by omega) (by omega) (fun ⟨j, hj, _⟩ => absurd hj (by omega))
    rw [e0] at q2
    have hq := q1 h.ex
    rw [if_neg h.guard, containsF (by rw [h.ll]; exact h.rg) h.sl]; simp only [Option.bind_some]
    rw [if_neg (by simp), hsz]; simp only [Option.bind_some]
    rw [q2]; simp only [Option.bind_some]
    rw [if_neg (by omega), hreg]; simp only [Option.bind_some]
    rw [grd_t (decide_eq_true ⟨by omega, by omega⟩), contains_eq h.sl]; simp only [Option.bind_some]
    rw [if_pos (.inl (by rw [h.ll]; exact decide_eq_true h1))]
    obtain ⟨d, d1, d2, d3⟩ := all_rule (f := mirror_Open_l3 (R : Int)) (R := R) (by omega) (fun _ _ _ => rfl) N 0 ⟨legsM C st C.L, none, true, 2, (C.sz : Int), (C.rg : Int), List.replicate ((R : Int)).toNat false, 0⟩ (by omega) (by omega) (by simp) (fun r hr => absurd hr (by omega))
    rw [d3]
    exact ⟨d, d1, d2, rfl⟩
  · unfold mirror_Open
    generalize FUEL = N at hF ⊢
    obtain ⟨q, q1, q2⟩ := open_rule (f := mirror_Open_l1 legs st (xL C.L 3) (C.rg : Int) s) (s := s) (fun _ _ _ _ => rfl) h.ll h.lx h.sl (lg := true) (reg := (C.rg : Int)) N 0 0 (by omega) (by omega) (by omega) (fun ⟨j, hj, _⟩ => absurd hj (by omega))
    rw [e0] at q2
    have hq := q1 h.ex
    rw [if_neg h.guard, containsF (by rw [h.ll]; exact h.rg) h.sl]; simp only [Option.bind_some]
    rw [if_neg (by simp), hsz]; simp only [Option.bind_some]
    rw [q2]; simp only [Option.bind_some]
    rw [if_neg (by omega), hreg]; simp only [Option.bind_some]
    rw [grd_t (decide_eq_true ⟨by omega, by omega⟩), contains_eq h.sl]; simp only [Option.bind_some]
    rw [if_neg (by rintro (x | x); rw [h.ll] at x; exact h1 (of_decide_eq_true x); exact x trivial), hlen, open_miss hR hok hdn h2]; simp only [Option.bind_some]
    rw [if_pos ⟨by decide, by decide⟩]
  · unfold mirror_Open
    generalize FUEL = N at hF ⊢
    obtain ⟨q, q1, q2⟩ := open_rule (f := mirror_Open_l1 legs st (xL C.L 3) (C.rg : Int) s) (s := s) (fun _ _ _ _ => rfl) h.ll h.lx h.sl (lg := true) (reg := (C.rg : Int)) N 0 0 (by omega) (by omega) (by omega) (fun ⟨j, hj, _⟩ => absurd hj (by omega))
    rw [e0] at q2
    have hq := q1 h.ex
    rw [if_neg h.guard, containsF (by rw [h.ll]; exact h.rg) h.sl]; simp only [Option.bind_some]
    rw [if_neg (by simp), hsz]; simp only [Option.bind_some]
    rw [q2]; simp only [Option.bind_some]
    rw [if_neg (by omega), hreg]; simp only [Option.bind_some]
    rw [grd_t (decide_eq_true ⟨by omega, by omega⟩), contains_eq h.sl]; simp only [Option.bind_some]
    rw [if_neg (by rintro (x | x); rw [h.ll] at x; exact h1 (of_decide_eq_true x); exact x trivial), hlen, open_eq logL MC.log (by decide) hok hdn h2 ⟨hR.1, by omega⟩ (by rw [hnW]; omega), if_pos h3]; simp only [Option.bind_some]
    rw [if_neg (by simp), if_neg (by simp)]; simp only [Option.elim_some]
    have hregs : (openL (xL C.L 3) R (now s C.L)).regions = (R : Int) := rfl
    have hbl : (openL (xL C.L 3) R (now s C.L)).bits.length = nW R := by simp [openL]
    rw [dirty_eq hregs (by rw [hbl, hnW]; omega) (by omega)]; simp only [Option.bind_some]
    have hle := @dirtyL_le (openL (xL C.L 3) R (now s C.L)).bits R
    obtain ⟨d, d1, d2, d3⟩ := some_l4 (l := dirtyL (openL (xL C.L 3) R (now s C.L)).bits R) (R := R) (fun k hk => dirtyL_mem hk) (by omega) N 0 ⟨legsM C st C.L, some (openL (xL C.L 3) R (now s C.L)), true, 0, (C.sz : Int), (C.rg : Int), List.replicate ((R : Int)).toNat false, 0⟩ (by omega) (by omega) (by simp)
    rw [d3]
    refine ⟨d, d1, fun r hr => ?_, rfl⟩
    have hb0 : ∀ l : List UInt64, bitR l r = tb (l.getD 0 0) r := fun l => by unfold bitR; rw [show r / 64 = 0 by omega, show r % 64 = r by omega]
    rw [d2 r hr, dirtyL_has hr, hb0]
    have e1 : (openL (xL C.L 3) R (now s C.L)).bits.getD 0 0 = now s C.L 1 := by
      have : (openL (xL C.L 3) R (now s C.L)).bits = (List.range (nW R)).map fun i => now s C.L (1 + i) := rfl
      rw [this, getD_map_range (by rw [hnW]; decide)]
    rw [e1]
    have e2 : (List.replicate ((R : Int)).toNat false).getD r false = false := by
      simp only [List.getD, List.getElem?_replicate]; split <;> rfl
    show (List.replicate ((R : Int)).toNat false).getD r false = true ∨ _ ↔ _
    rw [e2]
    exact ⟨fun hx => hx.elim (fun hy => (by cases hy)) id, .inr⟩
theorem open2_eq (h : OpH C s legs st) : ∃ d : List Bool, d.length = C.R ∧ (∀ r, r < C.R → d.getD r false = true) ∧ mirror_Open_2 legs st (C.rg : Int) s = some (some ⟨legsM C st C.L, none, false, 2, (C.sz : Int), (C.rg : Int), d, 0⟩, 0) :=
  open2_eq' C.hR regions_eq h
theorem open1_eq (h : OpH C s legs st) (hok : ArrOk C.ns K s) (hdn : s.down = false) :
    ((C.L : Int) ∈ st → ∃ d : List Bool, d.length = C.R ∧ (∀ r, r < C.R → d.getD r false = true) ∧ mirror_Open legs st (xL C.L 3) (C.rg : Int) s = some (some ⟨legsM C st C.L, none, true, 2, (C.sz : Int), (C.rg : Int), d, 0⟩, 0)) ∧
    ((C.L : Int) ∉ st → miss s C.L = true → mirror_Open legs st (xL C.L 3) (C.rg : Int) s = some (none, 18)) ∧
    ((C.L : Int) ∉ st → miss s C.L = false → now s C.L 0 = headL C.R → ∃ d : List Bool, d.length = C.R ∧ (∀ r, r < C.R → (d.getD r false = true ↔ tb (now s C.L 1) r = true)) ∧ mirror_Open legs st (xL C.L 3) (C.rg : Int) s = some (some ⟨legsM C st C.L, some (openL (xL C.L 3) C.R (now s C.L)), true, 0, (C.sz : Int), (C.rg : Int), d, 0⟩, 0)) :=
  open1_eq' C.hR regions_eq h hok hdn
end
end Go.Proofs
namespace Go.Proofs
open Go.VG
def wordsL (n : Nat) (seed : UInt64) : List UInt64 := (List.range n).map fun j => seed + to_u64 ((j : Nat) : Int) * (11400714819323198485 : UInt64)
@[simp] theorem wordsL_length {n : Nat} {seed : UInt64} : (wordsL n seed).length = n := by simp [wordsL]
theorem words_l1 {n : Nat} {seed : UInt64} (hn : n ≤ 1000000) : ∀ (N i : Nat) (acc : List UInt64), n - i < N → i ≤ n → acc = wordsL i seed →
    volumegroupmake_Words_l1 (n : Int) seed N acc i = some (wordsL n seed)
  | 0, _, _, h, _, _ => absurd h (by omega)
  | N + 1, i, acc, h, hi, ha => by
    show volumegroupmake_Words_l1_b _ _ _ _ _ = _
    unfold volumegroupmake_Words_l1_b
    subst ha
    by_cases hlt : i < n
    · rw [if_pos (by omega), grd_t (inLen_of (by simp; omega)), grd_t (inN64_of (by omega))]
      refine words_l1 hn N (i + 1) _ (by omega) (by omega) ?_
      simp [wordsL, List.range_succ]
    · rw [if_neg (by omega)]
      have : i = n := by omega
      rw [this]
theorem words_eq {n : Nat} {seed : UInt64} (hn : n ≤ 1000000) : volumegroupmake_Words (n : Int) seed = some (wordsL n seed) := by
  unfold volumegroupmake_Words
  have hF := fuel_big
  generalize FUEL = N at hF ⊢
  rw [words_l1 hn N 0 [] (by omega) (by omega) (by simp [wordsL])]; rfl
end Go.Proofs
namespace Go.Proofs
open Go.VG
theorem awake21 : volumegrouplaw21_awake = some true := by kernel_rfl
theorem u8mod {n k : UInt8} (hk : 0 < k.toNat) : (n % k).toNat < k.toNat := by rw [UInt8.toNat_mod]; exact Nat.mod_lt _ hk
def CM (n : UInt8) : MC where
  L := 2 + (n % 2).toNat
  sz := 1 + ((n / 2) % 12).toNat
  rg := 1 + ((n / 24) % 4).toNat
  lg := decide (((128 : UInt8).toNat : Int) ≤ (n.toNat : Int))
  hL := by have := @u8mod n 2 (by decide); have e : (2 : UInt8).toNat = 2 := rfl; omega
  hs := by have := @u8mod (n / 2) 12 (by decide); have e : (12 : UInt8).toNat = 12 := rfl; omega
  hr := by have := @u8mod (n / 24) 4 (by decide); have e : (4 : UInt8).toNat = 4 := rfl; omega
structure St0 (C : MC) (ws : List UInt64) (s : ArrS) : Prop where
  ok : ArrOk C.ns 10 s
  dn : s.down = false
  fuse : s.fuse = 0
  miss : ∀ e, miss s e = false
  wl : ws.length = C.sz
  now : ∀ i a, i < C.L → a < C.sz → now s i a = ws.getD a 0
  cand : ∀ i a, i ≤ C.L → a < C.ns.getD i 0 → cand s i a = [Go.Proofs.now s i a]
  head : Go.Proofs.now s C.L 0 = headL C.R
  bits : Go.Proofs.now s C.L 1 = 0
def imsM (C : MC) (ws : List UInt64) : List (List UInt64) := List.replicate C.L ws ++ [List.replicate 3 0]
section
variable {C : MC} {ws : List UInt64}
theorem lens_imsM (hw : ws.length = C.sz) : lensN (imsM C ws) = C.ns := by
  unfold lensN imsM MC.ns
  rw [List.map_append, List.map_replicate, hw]; rfl
theorem imsM_leg {i : Nat} (h : i < C.L) : (imsM C ws).getD i [] = ws := by
  unfold imsM
  simp only [List.getD, List.getElem?_append, List.length_replicate, h, if_true, List.getElem?_replicate]; rfl
theorem now_mkS {ims : List (List UInt64)} {i a : Nat} : now (mkS ims) i a = (ims.getD i []).getD a 0 ∧ cand (mkS ims) i a = [(ims.getD i []).getD a 0] := by
  constructor
  · simp only [now, nowL, mkS, List.getD, List.getElem?_map]; cases ims[i]? <;> rfl
  · show dur (mkS ims) i a :: pendR [] i a = _
    rw [pendR_nil]
    congr 1
    simp only [dur, durL, mkS, List.getD, List.getElem?_map]; cases ims[i]? <;> rfl
theorem begun_l1 {n : UInt8} (hC : C.L = 2 + (n % 2).toNat) : ∀ (N i : Nat), C.L - i < N → i ≤ C.L → volumegrouplaw21_begun_l1 n ws N (List.replicate i ws) i = some (List.replicate C.L ws)
  | 0, _, h, _ => absurd h (by omega)
  | N + 1, i, h, hi => by
    have hu : volumegrouplaw21_begun_l1 n ws (N + 1) (List.replicate i ws) i = volumegrouplaw21_begun_l1_b n ws (volumegrouplaw21_begun_l1 n ws N) (List.replicate i ws) i := rfl
    have hL := C.hL
    rw [hu]
    unfold volumegrouplaw21_begun_l1_b
    rw [← hC]
    by_cases hlt : i < C.L
    · rw [if_pos (by omega), grd_t (inLen_of (by simp; omega)), grd_t (inN64_of (by omega))]
      have e : List.replicate i ws ++ [ws] = List.replicate (i + 1) ws := by rw [List.replicate_succ']
      rw [e]
      exact begun_l1 hC N (i + 1) (by omega) (by omega)
    · rw [if_neg (by omega)]
      have : i = C.L := by omega
      rw [this]
theorem start0 (hw : ws.length = C.sz) : ∃ t, regionlog_Format (xL C.L 3) (C.R : Int) (mkS (imsM C ws)) = some (0, t) ∧ St0 C ws t := by
  have hR := C.hR
  have hsz : InSz C.ns (mkS (imsM C ws)) := by rw [← lens_imsM hw]; exact inSz_mkS
  have hok : ArrOk C.ns 0 (mkS (imsM C ws)) := ⟨hsz, Nat.le_refl _, coh_mkS, rfl⟩
  have hgood : Good (mkS (imsM C ws)) := good_mkS
  obtain ⟨t, h1, h2⟩ := format_eq (d := C.L) (m := 3) logL MC.log (by decide) hok rfl (hgood.miss C.L) rfl (R := C.R) ⟨hR.1, by omega⟩ (by rw [MC.nW1]; omega) (by decide)
  refine ⟨t, h1, ⟨h2.ok.mono (by rw [MC.nW1]; omega), h2.dn, h2.fuse, fun e => by rw [h2.miss]; exact hgood.miss e, hw, fun i a hi ha => ?_, fun i a hi ha => ?_, ?_, ?_⟩⟩
  · rw [(h2.other i a (by omega) (by rw [MC.len]; omega) (by rw [MC.leg hi]; exact ha)).1, now_mkS.1, imsM_leg hi]
  · by_cases e : i = C.L
    · subst e
      exact h2.cand a (by rw [← MC.log (C := C)]; exact ha)
    · have hi' : i < C.L := by omega
      rw [MC.leg hi'] at ha
      obtain ⟨g1, g2⟩ := h2.other i a e (by rw [MC.len]; omega) (by rw [MC.leg hi']; exact ha)
      rw [g2, g1, now_mkS.1, now_mkS.2]
  · rw [h2.now 0 (by decide), if_pos rfl]
  · rw [h2.now 1 (by decide), if_neg (by decide), if_pos (by rw [MC.nW1]; decide)]
theorem begun_eq (n : UInt8) : ∃ a, volumegrouplaw21_begun n = some (some a, (CM n).L, (CM n).sz, (CM n).rg, (CM n).lg, wordsL (CM n).sz 5) ∧ St0 (CM n) (wordsL (CM n).sz 5) a := by
  have hL := (CM n).hL
  have hs := (CM n).hs
  have hr := (CM n).hr
  have hR := (CM n).hR
  have e1 : 2 + (n % 2).toNat = (CM n).L := rfl
  have e2 : 1 + ((n / 2) % 12).toNat = (CM n).sz := rfl
  have e3 : 1 + ((n / 24) % 4).toNat = (CM n).rg := rfl
  have e4 : decide (((128 : UInt8).toNat : Int) ≤ (n.toNat : Int)) = (CM n).lg := rfl
  unfold volumegrouplaw21_begun
  rw [e1, e2, e3, e4, grd_t (inN64_of (by omega)), grd_t (inN64_of (by omega)), grd_t (inN64_of (by omega)), words_eq (by omega)]; simp only [Option.bind_some]
  have hbl : volumegrouplaw21_begun_l1 n (wordsL (CM n).sz 5) FUEL [] 0 = some (List.replicate (CM n).L (wordsL (CM n).sz 5)) := by
    have hF := fuel_big
    exact begun_l1 (C := CM n) rfl FUEL 0 (by omega) (by omega)
  rw [hbl]; simp only [Option.bind_some]
  generalize hC : CM n = C at hL hs hr hR ⊢
  have him : List.replicate C.L (wordsL C.sz 5) ++ [List.replicate 3 0] = imsM C (wordsL C.sz 5) := rfl
  have hlen : (imsM C (wordsL C.sz 5)).length = C.L + 1 := by simp [imsM]
  rw [grd_t (inLen_of (by simp; omega)), him, loaded_eq (by omega) (fun im hm => by
    unfold imsM at hm
    rcases List.mem_append.1 hm with hm | hm
    · rw [(List.mem_replicate.1 hm).2, wordsL_length]; omega
    · rw [List.mem_singleton.1 hm]; simp)]; simp only [Option.bind_some, Option.elim_some]
  have hsz : InSz C.ns (mkS (imsM C (wordsL C.sz 5))) := by rw [← lens_imsM (C := C) (ws := wordsL C.sz 5) wordsL_length]; exact inSz_mkS
  have hcnt : (mkS (imsM C (wordsL C.sz 5))).drv.length = C.L + 1 := by rw [hsz.cnt]; exact MC.len
  have hsL : (mkS (imsM C (wordsL C.sz 5))).size C.L = 3 := by rw [hsz.size C.L logL, MC.log]
  rw [spans_eq (by omega) (fun i hi => by
    rcases Nat.lt_or_ge i C.L with x | x
    · rw [hsz.size i (by rw [MC.len]; omega), MC.leg x]; omega
    · have : i = C.L := by omega
      subst this; rw [hsL]; omega)]; simp only [Option.bind_some, spansA_length, hcnt]
  rw [grd_t (inN64_of (by omega)), if_neg (by simp), refRegions_eq]; simp only [Option.bind_some]
  have hx : (spansA (mkS (imsM C (wordsL C.sz 5)))).getD C.L dv0 = xL C.L 3 := by rw [spansA_getD (by omega), hsL]; rfl
  obtain ⟨t, t1, t2⟩ := start0 (C := C) (ws := wordsL C.sz 5) wordsL_length
  rw [hx, t1]; simp only [Option.bind_some]
  rw [if_neg (by simp)]
  exact ⟨t, rfl, t2⟩
end
end Go.Proofs
namespace Go.Proofs
open Go.VG
def drtyL (d : List Bool) (n : Nat) : List Int := ((List.range n).filter fun i => d.getD i false).map fun i => ((i : Nat) : Int)
theorem drtyL_succ {d : List Bool} {n : Nat} : drtyL d (n + 1) = drtyL d n ++ if d.getD n false = true then [((n : Nat) : Int)] else [] := by
  unfold drtyL
  rw [List.range_succ, List.filter_append, List.map_append]
  congr 1
  by_cases h : d.getD n false = true
  · rw [if_pos h, List.filter_cons_of_pos (by simpa using h)]; rfl
  · rw [if_neg h, List.filter_cons_of_neg (by simpa using h)]; rfl
theorem drtyL_le {d : List Bool} {n : Nat} : (drtyL d n).length ≤ n := by
  unfold drtyL
  rw [List.length_map]
  exact Nat.le_trans (List.length_filter_le _ _) (by simp)
theorem mdirty_l1 {m : MirS} (hd : m.dirty.length ≤ 1000) : ∀ (N i : Nat), m.dirty.length - i < N → i ≤ m.dirty.length → mirror_Mirror_Dirty_l1 m N i (drtyL m.dirty i) = some (drtyL m.dirty m.dirty.length)
  | 0, _, h, _ => absurd h (by omega)
  | N + 1, i, h, hi => by
    have hu : mirror_Mirror_Dirty_l1 m (N + 1) i (drtyL m.dirty i) = mirror_Mirror_Dirty_l1_b m (mirror_Mirror_Dirty_l1 m N) i (drtyL m.dirty i) := rfl
    rw [hu]
    unfold mirror_Mirror_Dirty_l1_b
    by_cases hlt : i < m.dirty.length
    · have hrec := mdirty_l1 hd N (i + 1) (by omega) (by omega)
      rw [drtyL_succ] at hrec
      have hle := @drtyL_le m.dirty i
      rw [if_pos (by omega)]
      by_cases hb : m.dirty.getD i false = true
      · rw [if_pos hb] at hrec
        rw [if_pos hb, grd_t (inLen_of (by omega)), hrec]
      · rw [if_neg hb, List.append_nil] at hrec
        rw [if_neg hb, hrec]
    · rw [if_neg (by omega)]
      have : i = m.dirty.length := by omega
      rw [this]
theorem mdirty_eq {m : MirS} {s : ArrS} (hd : m.dirty.length ≤ 1000) : mirror_Mirror_Dirty m s = some (drtyL m.dirty m.dirty.length) := by
  unfold mirror_Mirror_Dirty
  have hF := fuel_big
  have h := mdirty_l1 hd FUEL 0 (by omega) (by omega)
  have e : drtyL m.dirty 0 = [] := rfl
  rw [e] at h
  rw [h]; rfl
end Go.Proofs
