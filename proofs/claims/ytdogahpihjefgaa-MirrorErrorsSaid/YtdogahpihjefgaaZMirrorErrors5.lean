/- MirrorErrors, part 5 of the proof: LMir2. -/
import Derived.WalkKit
import Derived.Orders
import Derived.RangeFuncLeaves
import Derived.RangeFuncCalls
import Derived.TacticsIn
import Derived.Handy
import Derived.OrdersHeld
import Derived.OrdersIn
import Derived.Below
import Derived.OpenShut
import Derived.Deep.Slices
import Derived.Scope
import Derived.KernelRfl
import Derived.RangeFuncRecord
import Derived.ChangeKeysEq
import Derived.ProofKit
import Derived.ShutString
import Derived.ChangeOld
import Derived.Test.YtdogahpihjefgaaChecked
import Derived.Test.YtdogahpihjefgaaRows
import Derived.Test.YtdogahpihjefgaaZMirrorErrors4
set_option linter.unusedSimpArgs false
set_option linter.unusedVariables false
set_option maxRecDepth 20000
set_option maxHeartbeats 4000000
namespace Go.Proofs
open Go.VG
def mirror_Mirror_fetch_l1_b (m : MirS) (at_1 : Int) (s : ArrS) (rec : Nat → (List Int) → Option (((List Int)) ⊕ (UInt64 × Int × (List Int) × Int × MirS))) (x13 : Nat) (x14 : List Int) : Option (((List Int)) ⊕ (UInt64 × Int × (List Int) × Int × MirS)) :=
  if (((x13 : Nat) : Int) < ((m.legs.length : Nat) : Int)) then
    if ((m.legs.getD x13 mleg_x0).state ≠ (0 : Int)) then
      rec (x13 + 1) x14
    else
      Option.bind (Dvc.rd ((m.legs.getD x13 mleg_x0).dev) s at_1) fun r29 =>
      if (r29.2 = (0 : Int)) then
        some (.inr ((r29.1, ((x13 : Nat) : Int), x14, (0 : Int), m)))
      else
        if (r29.2 = (7 : Int)) then
          grd (inLen (x14.length + 1)) <|
          rec (x13 + 1) ((x14 ++ [((x13 : Nat) : Int)]))
        else
          Option.bind (mirror_Mirror_note m (((x13 : Nat) : Int)) r29.2 s) fun r35 =>
          if (r35.1 ≠ (0 : Int)) then
            some (.inr (((0 : UInt64), (0 : Int), [], r35.1, r35.2)))
          else
            some (.inr (((0 : UInt64), (0 : Int), [], (18 : Int), r35.2)))
  else
    some (.inl x14)
def mirror_Mirror_fetch_l1 (m : MirS) (at_1 : Int) (s : ArrS) : Nat → Nat → (List Int) → Option (((List Int)) ⊕ (UInt64 × Int × (List Int) × Int × MirS))
  | 0, _, _ => none
  | n + 1, x13, x14 => mirror_Mirror_fetch_l1_b m at_1 s (mirror_Mirror_fetch_l1 m at_1 s n) x13 x14
def mirror_Mirror_fetch_l3_b (s : ArrS) (a12 : (List Int)) (rec : MirS → Nat → Option (MirS)) (x46 : MirS) (x47 : Nat) : Option (MirS) :=
  if (((x47 : Nat) : Int) < ((a12.length : Nat) : Int)) then
    Option.bind (mirror_Mirror_note x46 (a12.getD x47 0) (7 : Int) s) fun r48 =>
    rec r48.2 (x47 + 1)
  else
    some x46
def mirror_Mirror_fetch_l3 (s : ArrS) (a12 : (List Int)) : Nat → MirS → Nat → Option (MirS)
  | 0, _, _ => none
  | n + 1, x46, x47 => mirror_Mirror_fetch_l3_b s a12 (mirror_Mirror_fetch_l3 s a12 n) x46 x47
def mirror_Mirror_fetch (m : MirS) (at_1 : Int) (s : ArrS) : Option (UInt64 × Int × (List Int) × Int × MirS) :=
  seqO (mirror_Mirror_fetch_l1 m at_1 s FUEL 0 ([])) fun a12 =>
  Option.bind (mirror_Mirror_fetch_l3 s a12 FUEL m 0) fun a45 =>
  some (((0 : UInt64), (0 : Int), [], (18 : Int), a45))
theorem L_mirror_Mirror_fetch {W : World} {bm : Nat} {bs : Nat} {m : MirS} {at_1 : Int} {s : ArrS} {r : UInt64 × Int × (List Int) × Int × MirS} (h : mirror_Mirror_fetch m at_1 s = some r) :
    CSpec Try.prog W 32 [ptr bm 0, .int .i64 at_1] [MirP bs bm m, Arr bs s] (fun x : Sl3 => .tuple #[.int .u64 (r.1.toNat : Int), .int .i64 r.2.1, x.v, .int .i64 r.2.2.2.1]) (fun _ => True) (fun x F => MirP bs bm r.2.2.2.2 :: Arr bs s :: sl tyI x.v r.2.2.1 :: F) := by
 refine CSpec.of_body Try.func32 rfl Try.ntmps32 rfl fun F => ?_
 show CJ _ _ _ _ _ _ (_ :: _ :: F)
 unfold mirror_Mirror_fetch at h
 refine sR <| oA rfl rfl <| oA rfl rfl <| oA rfl rfl <| oA rfl rfl <| nT <| CJ_seq <| CJ_seq <| CJ_entX (Ent.transX (t0_ eR) (MirP_open (l := m))) fun oc1 => CJ_pure (fun h hh => Rs_len (stars_perm (del2 (A := Rs (DevP bs) (m.legs.map mlegS.dev) oc1.2.1)).out h hh)) fun hdl3 => lC del1 fun hlen4 => ?_
 rw [mk_mleg_len (by have := hdl3; simpa using this)] at hlen4
 refine lC del4 fun hlen5 => CJ_region <| oM rfl rfl <| oP (P_nilCheck rfl) rfl <| oP (P_fieldAddr rfl ⟨_, _, _, Try.runUnderlying74, rfl, rfl, Try.sizeOf70, rfl⟩) rfl <| oV (V_load rfl foc0 rfl Try.isAgg70) rfl <| oV (VJ_eq (V_len rfl foc1 (Reads.sl _ _ _) Try.runUnderlying70) (congrArg (fun z : Nat => Value.int .i64 (z : Int)) (mk_mleg_len (by have := hdl3; simpa using this)).symm)) rfl <| oM rfl rfl <| RJ_nil <| QJ_ent (Ent.trans eR (MirP_mk (v0 := m.legs) (v1 := m.log) (v2 := m.hasLog) (v3 := m.logState) (v4 := m.size) (v5 := m.region) (v6 := m.dirty) (v7 := m.copied) (h0 := oc1.1) (h1 := oc1.2.1) (h2 := oc1.2.2.1) (h3 := oc1.2.2.2))) <| QJ_then <| CJ_ent (fun h hh => sl_nil (t := tyI) h hh) ?_
 obtain ⟨y9, hl7, hK8⟩ := seq_e h
 refine CJ_cutT (X := (List Int) × Sl3) [4, 5, 6, 7, 8, 9, 10, 11, 19, 20, 21, 22, 23, 24, 25, 26, 27, 28, 29, 30, 31, 32, 33, 34, 35, 36, 37, 38, 39, 40, 41, 42, 43, 44, 45, 46, 47, 48, 49, 50, 51, 52, 53, 54, 55, 56, 57, 58, 59, 60, 61, 62, 63] (fun ⟨a12, hd11⟩ => ([(6, hd11.v)] : Slots)) (fun ⟨a12, hd11⟩ R => sl tyI hd11.v a12 :: R) (fun ⟨a12, hd11⟩ => y9 = .inl a12) (Dels.cons del0 Dels.nil) ?_ ?_
 ·
  refine CJ_block <| CJ_loopR (X := Nat × Nat × (List Int) × Sl3) [4, 5, 6, 7, 8, 9, 10, 11, 19, 20, 21, 22, 23, 24, 25, 26, 27, 28, 29, 30, 31, 32, 33, 34, 35, 36, 37, 38, 39, 40, 41, 42, 43, 44, 45, 46, 47, 48, 49, 50, 51, 52, 53, 54, 55, 56, 57, 58, 59, 60, 61, 62, 63] (fun ⟨n, x13, x14, hd15⟩ => ([(6, hd15.v), (19, .int .i64 (((x13 : Nat) : Int)))] : Slots)) (fun ⟨n, x13, x14, hd15⟩ R => sl tyI hd15.v x14 :: R) (fun ⟨n, x13, x14, hd15⟩ => mirror_Mirror_fetch_l1 m at_1 s n x13 x14 = some y9) (fun ⟨n, x13, x14, hd15⟩ => n) ⟨FUEL, 0, [], ⟨none, 0, 0⟩⟩ ?_ ?_ eR ?_
  · exact hl7
  · exact ⟨rfl, rfl, True.intro⟩
  ·
   rintro ⟨n, x13, x14, hd15⟩ h
   cases n with
   | zero => exact none_e h
   | succ n => ?_
   replace h : mirror_Mirror_fetch_l1_b m at_1 s (mirror_Mirror_fetch_l1 m at_1 s n) x13 x14 = some y9 := h
   unfold mirror_Mirror_fetch_l1_b at h
   show CJ _ _ _ _ _ (([(6, hd15.v), (19, .int .i64 (((x13 : Nat) : Int)))] : Slots) ++ forget _ _) (sl tyI hd15.v x14 :: _)
   refine lC del0 fun hlen16 => sR <| oP (P_lss (a := ((x13 : Nat) : Int)) (b := ((m.legs.length : Nat) : Int)) rfl rfl) rfl <| nT <| CJ_seq <| CJ_condP rfl bT_dec (fun hg1 => ?_) (fun hg1 => ?_)
   ·
    replace h := ite_t hg1 h
    refine kT <| CJ_seq <| CJ_block <| sR <| oM rfl rfl <| oA rfl rfl <| nT <| CJ_seq <| CJ_seq <| CJ_entX (Ent.transX (t1_ eR) (MirP_open (l := m))) fun oc17 => CJ_pure (fun h hh => Rs_len (stars_perm (del2 (A := Rs (DevP bs) (m.legs.map mlegS.dev) oc17.2.1)).out h hh)) fun hdl19 => lC del1 fun hlen20 => ?_
    rw [mk_mleg_len (by have := hdl19; simpa using this)] at hlen20
    refine lC del4 fun hlen21 => CJ_region <| oM rfl rfl <| oP (P_nilCheck rfl) rfl <| oP (P_fieldAddr rfl ⟨_, _, _, Try.runUnderlying74, rfl, rfl, Try.sizeOf70, rfl⟩) rfl <| oV (V_load rfl foc0 rfl Try.isAgg70) rfl <| oM rfl rfl <| oV (V_index (i := x13) rfl rfl rfl (show x13 < (mk_mleg m.legs oc17.2.1).length by rw [mk_mleg_len (by have := hdl19; simpa using this)]; exact (by omega)) foc1 (Reads.sl _ _ _) Try.runUnderlying70 Try.sizeOf83) rfl <| oP (P_fieldE rfl ⟨_, _, _, Try.runUnderlying83, rfl, rfl, Try.sizeOf72, rfl⟩) rfl <| oV (VJ_eq (V_loadE rfl rfl (show x13 < (mk_mleg m.legs oc17.2.1).length by rw [mk_mleg_len (by have := hdl19; simpa using this)]; exact (by omega)) foc1 (Reads.sl _ _ _) rfl rfl Try.isAgg72) (show (.int .i64 ((m.legs.getD x13 mleg_x0).state) : Value) = .int .i64 ((mk_mleg m.legs oc17.2.1).getD x13 mleg_h0).state from by rw [mk_mleg_at (by have := hdl19; simpa using this)])) rfl <| oP (P_neq (a := (m.legs.getD x13 mleg_x0).state) (b := (0 : Int)) rfl rfl) rfl <| RJ_nil <| QJ_ent (Ent.trans eR (MirP_mk (v0 := m.legs) (v1 := m.log) (v2 := m.hasLog) (v3 := m.logState) (v4 := m.size) (v5 := m.region) (v6 := m.dirty) (v7 := m.copied) (h0 := oc17.1) (h1 := oc17.2.1) (h2 := oc17.2.2.1) (h3 := oc17.2.2.2))) <| QJ_then <| CJ_condP rfl bT_dec (fun hg2 => ?_) (fun hg2 => ?_)
    ·
     replace h := ite_t hg2 h
     exact CJ_exit <| QJ_then_exit <| QJ_block_here <| QJ_then <| CJ_region <| oP (PJ_eq (P_add (a := ((x13 : Nat) : Int)) (b := (1 : Int)) rfl rfl (by omega)) rfl) rfl <| oM rfl rfl <| RJ_nil <| nR ⟨n, (x13 + 1), x14, hd15⟩ h ⟨rfl, rfl, True.intro⟩ (t1_ eR)
    ·
     replace h := ite_f hg2 h
     refine kT <| CJ_seq <| CJ_entX (Ent.transX (t0_ eR) (MirP_open (l := m))) fun oc22 => CJ_pure (fun h hh => Rs_len (stars_perm (del2 (A := Rs (DevP bs) (m.legs.map mlegS.dev) oc22.2.1)).out h hh)) fun hdl24 => lC del1 fun hlen25 => ?_
     rw [mk_mleg_len (by have := hdl24; simpa using this)] at hlen25
     refine lC del4 fun hlen26 => CJ_region <| oM rfl rfl <| oP (P_nilCheck rfl) rfl <| oP (P_fieldAddr rfl ⟨_, _, _, Try.runUnderlying74, rfl, rfl, Try.sizeOf70, rfl⟩) rfl <| oV (V_load rfl foc0 rfl Try.isAgg70) rfl <| oM rfl rfl <| oV (V_index (i := x13) rfl rfl rfl (show x13 < (mk_mleg m.legs oc22.2.1).length by rw [mk_mleg_len (by have := hdl24; simpa using this)]; exact (by omega)) foc1 (Reads.sl _ _ _) Try.runUnderlying70 Try.sizeOf83) rfl <| oP (P_fieldE rfl ⟨_, _, _, Try.runUnderlying83, rfl, rfl, Try.sizeOf57, rfl⟩) rfl <| RJ_ent (Ent.trans (t2_ eR) (mk_mleg_rs (i := x13) (by omega))) <| oV (VJ_eq (V_loadE rfl rfl (show x13 < (mk_mleg m.legs oc22.2.1).length by rw [mk_mleg_len (by have := hdl24; simpa using this)]; exact (by omega)) foc3 (Reads.sl _ _ _) rfl rfl Try.isAgg57) (show (IfH.v (oc22.2.1.getD x13 tyDev.dflt) : Value) = IfH.v ((mk_mleg m.legs oc22.2.1).getD x13 mleg_h0).dev from by rw [mk_mleg_at (by have := hdl24; simpa using this)])) rfl <| oM rfl rfl <| RJ_pure (fun h hh => DevP_dep h (stars_perm (del0 (A := DevP bs ((m.legs.getD x13 mleg_x0).dev) (oc22.2.1.getD x13 tyDev.dflt))).out h hh)) fun hdp28 => ?_
     obtain ⟨r29, hr30, h⟩ := bind_e h
     refine oO <| O_callI rfl (dev_Read hr30 hdp28) rfl (Dels.cons del0 (Dels.cons del6 Dels.nil)) rfl fun _ _ => oM rfl rfl <| oP (P_extract rfl rfl) rfl <| oP (P_extract rfl rfl) rfl <| oA rfl rfl <| oA rfl rfl <| RJ_nil <| QJ_ent (Ent.trans (t3_ (t3_ (t2_ (t2_ (t2_ eR))))) (MirP_mk (v0 := m.legs) (v1 := m.log) (v2 := m.hasLog) (v3 := m.logState) (v4 := m.size) (v5 := m.region) (v6 := m.dirty) (v7 := m.copied) (h0 := oc22.1) (h1 := oc22.2.1) (h2 := oc22.2.2.1) (h3 := oc22.2.2.2))) <| QJ_then <| CJ_seq <| sR <| oM rfl rfl <| nT <| CJ_block <| sR <| oP (P_eql (a := r29.2) (b := (0 : Int)) rfl rfl) rfl <| oA rfl rfl <| nT <| CJ_condP rfl bT_dec (fun hg3 => ?_) (fun hg3 => ?_)
     ·
      replace h := ite_t hg3 h
      refine sR <| oM rfl rfl <| oM rfl rfl <| oM rfl rfl <| oA rfl rfl <| oA rfl rfl <| oA rfl rfl <| oA rfl rfl <| nT <| CJ_ret <| QJ_block_ret <| QJ_then_ret <| QJ_block_ret <| QJ_then_ret <| QJ_round_ret <| QJ_block_ret <| QJ_then_ret ?_
      have hE := Option.some.inj h
      replace hE := seq_inr hK8 hE.symm
      subst hE
      exact fE (res4 Try.results32 rfl rfl rfl rfl) hd15 (t0_ (t1_ (t1_ (eD eR))))
     ·
      replace h := ite_f hg3 h
      refine sR <| oP (P_eql (a := r29.2) (b := (7 : Int)) rfl rfl) rfl <| oA rfl rfl <| nT <| CJ_condP rfl bT_dec (fun hg4 => ?_) (fun hg4 => ?_)
      ·
       replace h := ite_t hg4 h
       refine sR <| oM rfl rfl <| oM rfl rfl <| oO <| O_buildSlice rfl (bs_22_1_0 _) rfl fun b31 => ?_
       obtain ⟨hg5, h⟩ := grd_Le h
       exact oO <| O_append (t := tyI) (bytes := 8) rfl rfl del4 foc0 (Reads.lit (t := tyI) (ys := [((x13 : Nat) : Int)]) rfl rfl (by decide) (by decide) rfl) Try.underlying22 ok_tyI (apl (m := 1) (b := 8) hg5 (by decide)).1 (apl (m := 1) (b := 8) hg5 (by decide)).2 rfl fun p33 c34 => oA rfl rfl <| nT <| CJ_exit <| QJ_block_other rfl <| QJ_then_exit <| QJ_block_here <| QJ_then <| CJ_region <| oP (PJ_eq (P_add (a := ((x13 : Nat) : Int)) (b := (1 : Int)) rfl rfl (by omega)) rfl) rfl <| oM rfl rfl <| RJ_nil <| nR ⟨n, (x13 + 1), (x14 ++ [((x13 : Nat) : Int)]), ⟨p33, (x14 ++ [((x13 : Nat) : Int)]).length, c34⟩⟩ h ⟨rfl, rfl, True.intro⟩ (t0_ (t1_ (t2_ (eD (eD eR)))))
      ·
       replace h := ite_f hg4 h
       refine CJ_skip <| QJ_block_normal <| QJ_then <| CJ_seq <| sR <| oM rfl rfl <| oM rfl rfl <| oM rfl rfl ?_
       obtain ⟨r35, hr36, h⟩ := bind_e h
       refine oO <| O_call (L_mirror_Mirror_note hr36) rfl Try.call44 (Dels.cons del0 (Dels.cons del1 Dels.nil)) rfl fun _ _ => oA rfl rfl <| nT <| sR <| oM rfl rfl <| oP (P_neq (a := r35.1) (b := (0 : Int)) rfl rfl) rfl <| nT <| CJ_condP rfl bT_dec (fun hg6 => ?_) (fun hg6 => ?_)
       ·
        replace h := ite_t hg6 h
        refine sR <| oM rfl rfl <| oA rfl rfl <| oA rfl rfl <| oA rfl rfl <| oA rfl rfl <| nT <| CJ_ret <| QJ_then_ret <| QJ_block_ret <| QJ_then_ret <| QJ_round_ret <| QJ_block_ret <| QJ_then_ret <| QJ_ent (fun h hh => sl_nil (t := tyI) h hh) ?_
        have hE := Option.some.inj h
        replace hE := seq_inr hK8 hE.symm
        subst hE
        exact fE (res4 Try.results32 rfl rfl rfl rfl) ⟨none, 0, 0⟩ (t1_ (t1_ (t0_ (eD (eD eR)))))
       ·
        replace h := ite_f hg6 h
        refine kT <| sR <| oA rfl rfl <| oA rfl rfl <| oA rfl rfl <| oA rfl rfl <| nT <| CJ_ret <| QJ_block_ret <| QJ_then_ret <| QJ_round_ret <| QJ_block_ret <| QJ_then_ret <| QJ_ent (fun h hh => sl_nil (t := tyI) h hh) ?_
        have hE := Option.some.inj h
        replace hE := seq_inr hK8 hE.symm
        subst hE
        exact fE (res4 Try.results32 rfl rfl rfl rfl) ⟨none, 0, 0⟩ (t1_ (t1_ (t0_ (eD (eD eR)))))
   ·
    replace h := ite_f hg1 h
    exact CJ_exit <| QJ_then_exit <| QJ_round_exit <| QJ_block_here <| cR ⟨x14, hd15⟩ (Option.some.inj h).symm ⟨rfl, True.intro⟩ eR
 ·
  rintro ⟨a12, hd11⟩ hy39
  replace h := seq_inl hK8 hy39
  show CJ _ _ _ _ _ (([(6, hd11.v)] : Slots) ++ forget _ _) (sl tyI hd11.v a12 :: _)
  refine lC del0 fun hlen40 => CJ_seq <| sR <| oM rfl rfl <| oV (V_len rfl foc0 (Reads.sl _ _ _) Try.runUnderlying22) rfl <| oM rfl rfl <| nT ?_
  obtain ⟨y43, hl41, hK42⟩ := bind_c h
  refine CJ_cutT (X := MirS) [13, 66, 67, 68, 69, 70, 71, 72, 73] (fun a45 => ([] : Slots)) (fun a45 R => MirP bs bm a45 :: R) (fun a45 => y43 = a45) (Dels.cons del1 Dels.nil) ?_ ?_
  ·
   refine CJ_block <| CJ_loopR (X := Nat × MirS × Nat) [13, 66, 67, 68, 69, 70, 71, 72, 73] (fun ⟨n, x46, x47⟩ => ([(66, .int .i64 (((x47 : Nat) : Int)))] : Slots)) (fun ⟨n, x46, x47⟩ R => MirP bs bm x46 :: R) (fun ⟨n, x46, x47⟩ => mirror_Mirror_fetch_l3 s a12 n x46 x47 = some y43) (fun ⟨n, x46, x47⟩ => n) ⟨FUEL, m, 0⟩ ?_ ?_ (t1_ eR) ?_
   · exact hl41
   · exact ⟨rfl, True.intro⟩
   ·
    rintro ⟨n, x46, x47⟩ h
    cases n with
    | zero => exact none_e h
    | succ n => ?_
    replace h : mirror_Mirror_fetch_l3_b s a12 (mirror_Mirror_fetch_l3 s a12 n) x46 x47 = some y43 := h
    unfold mirror_Mirror_fetch_l3_b at h
    show CJ _ _ _ _ _ (([(66, .int .i64 (((x47 : Nat) : Int)))] : Slots) ++ forget _ _) (MirP bs bm x46 :: _)
    refine sR <| oP (P_lss (a := ((x47 : Nat) : Int)) (b := ((a12.length : Nat) : Int)) rfl rfl) rfl <| nT <| CJ_seq <| CJ_condP rfl bT_dec (fun hg7 => ?_) (fun hg7 => ?_)
    ·
     replace h := ite_t hg7 h
     refine kT <| CJ_seq <| CJ_block <| sR <| oV (V_index (i := x47) rfl rfl rfl (by omega) foc1 (Reads.sl _ _ _) Try.runUnderlying22 Try.sizeOf3) rfl <| oV (V_loadE rfl rfl (by omega) foc1 (Reads.sl _ _ _) rfl rfl Try.isAgg3) rfl <| oA rfl rfl <| nT <| CJ_region <| oM rfl rfl <| oM rfl rfl ?_
     obtain ⟨r48, hr49, h⟩ := bind_e h
     exact oO <| O_call (L_mirror_Mirror_note hr49) rfl Try.call44 (Dels.cons del0 (Dels.cons del1 Dels.nil)) rfl fun _ _ => RJ_nil <| QJ_block_normal <| QJ_then <| CJ_region <| oP (PJ_eq (P_add (a := ((x47 : Nat) : Int)) (b := (1 : Int)) rfl rfl (by omega)) rfl) rfl <| oM rfl rfl <| RJ_nil <| nR ⟨n, r48.2, (x47 + 1)⟩ h ⟨rfl, True.intro⟩ (t0_ (t1_ eR))
    ·
     replace h := ite_f hg7 h
     exact CJ_exit <| QJ_then_exit <| QJ_round_exit <| QJ_block_here <| cR x46 (Option.some.inj h).symm True.intro eR
  ·
   rintro a45 hy50
   replace h := bindK_at hK42 hy50
   show CJ _ _ _ _ _ (([] : Slots) ++ forget _ _) (MirP bs bm a45 :: _)
   refine sR <| oA rfl rfl <| oA rfl rfl <| oA rfl rfl <| oA rfl rfl <| nT <| CJ_ret <| QJ_ent (fun h hh => sl_nil (t := tyI) h hh) ?_
   cases h
   exact fE (res4 Try.results32 rfl rfl rfl rfl) ⟨none, 0, 0⟩ (t1_ (t2_ (t0_ (eD eR))))
def mirror_Mirror_follow_l1_b (m : MirS) (at_1 : Int) (w : UInt64) (rec : MirS → ArrS → Nat → Option ((MirS × ArrS) ⊕ (Int × MirS × ArrS))) (x12 : MirS) (x13 : ArrS) (x14 : Nat) : Option ((MirS × ArrS) ⊕ (Int × MirS × ArrS)) :=
  if (((x14 : Nat) : Int) < ((m.legs.length : Nat) : Int)) then
    grd (decide (x14 < x12.legs.length)) <|
    grd (decide (((x12.legs.getD x14 mleg_x0).state = (2 : Int)) → x14 < x12.legs.length)) <|
    if (((x12.legs.getD x14 mleg_x0).state = (2 : Int)) ∧ (at_1 < (x12.legs.getD x14 mleg_x0).copied)) then
      grd (decide (x14 < x12.legs.length)) <|
      Option.bind (Dvc.wr ((x12.legs.getD x14 mleg_x0).dev) x13 at_1 w) fun r47 =>
      Option.bind (mirror_Mirror_note x12 (((x14 : Nat) : Int)) r47.1 r47.2) fun r49 =>
      if (r49.1 ≠ (0 : Int)) then
        some (.inr (r49.1, r49.2, r47.2))
      else
        rec r49.2 r47.2 (x14 + 1)
    else
      rec x12 x13 (x14 + 1)
  else
    some (.inl (x12, x13))
def mirror_Mirror_follow_l1 (m : MirS) (at_1 : Int) (w : UInt64) : Nat → MirS → ArrS → Nat → Option ((MirS × ArrS) ⊕ (Int × MirS × ArrS))
  | 0, _, _, _ => none
  | n + 1, x12, x13, x14 => mirror_Mirror_follow_l1_b m at_1 w (mirror_Mirror_follow_l1 m at_1 w n) x12 x13 x14
def mirror_Mirror_follow (m : MirS) (at_1 : Int) (w : UInt64) (s : ArrS) : Option (Int × MirS × ArrS) :=
  seqO (mirror_Mirror_follow_l1 m at_1 w FUEL m s 0) fun a11 =>
  some (((0 : Int), a11.1, a11.2))
theorem L_mirror_Mirror_follow {W : World} {bm : Nat} {bs : Nat} {m : MirS} {at_1 : Int} {w : UInt64} {s : ArrS} {r : Int × MirS × ArrS} (h : mirror_Mirror_follow m at_1 w s = some r) :
    CSpec Try.prog W 48 [ptr bm 0, .int .i64 at_1, .int .u64 (w.toNat : Int)] [MirP bs bm m, Arr bs s] (fun x : Unit => .int .i64 r.1) (fun _ => True) (fun x F => MirP bs bm r.2.1 :: Arr bs r.2.2 :: F) := by
 refine CSpec.of_body Try.func48 rfl Try.ntmps48 rfl fun F => ?_
 show CJ _ _ _ _ _ _ (_ :: _ :: F)
 unfold mirror_Mirror_follow at h
 refine sR <| oA rfl rfl <| nT <| CJ_seq <| CJ_seq <| CJ_entX (Ent.transX (t0_ eR) (MirP_open (l := m))) fun oc1 => CJ_pure (fun h hh => Rs_len (stars_perm (del2 (A := Rs (DevP bs) (m.legs.map mlegS.dev) oc1.2.1)).out h hh)) fun hdl3 => lC del1 fun hlen4 => ?_
 rw [mk_mleg_len (by have := hdl3; simpa using this)] at hlen4
 refine lC del4 fun hlen5 => CJ_region <| oM rfl rfl <| oP (P_nilCheck rfl) rfl <| oP (P_fieldAddr rfl ⟨_, _, _, Try.runUnderlying74, rfl, rfl, Try.sizeOf70, rfl⟩) rfl <| oV (V_load rfl foc0 rfl Try.isAgg70) rfl <| oV (VJ_eq (V_len rfl foc1 (Reads.sl _ _ _) Try.runUnderlying70) (congrArg (fun z : Nat => Value.int .i64 (z : Int)) (mk_mleg_len (by have := hdl3; simpa using this)).symm)) rfl <| oM rfl rfl <| RJ_nil <| QJ_ent (Ent.trans eR (MirP_mk (v0 := m.legs) (v1 := m.log) (v2 := m.hasLog) (v3 := m.logState) (v4 := m.size) (v5 := m.region) (v6 := m.dirty) (v7 := m.copied) (h0 := oc1.1) (h1 := oc1.2.1) (h2 := oc1.2.2.1) (h3 := oc1.2.2.2))) <| QJ_then ?_
 obtain ⟨y8, hl6, hK7⟩ := seq_e h
 refine CJ_cutT (X := MirS × ArrS) [6, 7, 8, 14, 15, 16, 17, 18, 19, 20, 21, 22, 23, 24, 25, 26, 27, 28, 29, 30, 31, 32, 33, 34, 35, 36, 37, 38, 39, 40, 41, 42, 43, 44, 45, 46, 47, 48, 49, 50, 51, 52, 53, 54, 55] (fun a11 => ([] : Slots)) (fun a11 R => MirP bs bm a11.1 :: Arr bs a11.2 :: R) (fun a11 => y8 = .inl a11) (Dels.cons del0 (Dels.cons del0 Dels.nil)) ?_ ?_
 ·
  refine CJ_block <| CJ_loopR (X := Nat × MirS × ArrS × Nat) [6, 7, 8, 14, 15, 16, 17, 18, 19, 20, 21, 22, 23, 24, 25, 26, 27, 28, 29, 30, 31, 32, 33, 34, 35, 36, 37, 38, 39, 40, 41, 42, 43, 44, 45, 46, 47, 48, 49, 50, 51, 52, 53, 54, 55] (fun ⟨n, x12, x13, x14⟩ => ([(14, .int .i64 (((x14 : Nat) : Int)))] : Slots)) (fun ⟨n, x12, x13, x14⟩ R => MirP bs bm x12 :: Arr bs x13 :: R) (fun ⟨n, x12, x13, x14⟩ => mirror_Mirror_follow_l1 m at_1 w n x12 x13 x14 = some y8) (fun ⟨n, x12, x13, x14⟩ => n) ⟨FUEL, m, s, 0⟩ ?_ ?_ eR ?_
  · exact hl6
  · exact ⟨rfl, True.intro⟩
  ·
   rintro ⟨n, x12, x13, x14⟩ h
   cases n with
   | zero => exact none_e h
   | succ n => ?_
   replace h : mirror_Mirror_follow_l1_b m at_1 w (mirror_Mirror_follow_l1 m at_1 w n) x12 x13 x14 = some y8 := h
   unfold mirror_Mirror_follow_l1_b at h
   show CJ _ _ _ _ _ (([(14, .int .i64 (((x14 : Nat) : Int)))] : Slots) ++ forget _ _) (MirP bs bm x12 :: Arr bs x13 :: _)
   refine sR <| oP (P_lss (a := ((x14 : Nat) : Int)) (b := ((m.legs.length : Nat) : Int)) rfl rfl) rfl <| nT <| CJ_seq <| CJ_condP rfl bT_dec (fun hg1 => ?_) (fun hg1 => ?_)
   ·
    replace h := ite_t hg1 h
    refine kT <| CJ_seq <| CJ_block <| sR <| oM rfl rfl <| oA rfl rfl <| nT <| CJ_seq <| CJ_entX (Ent.transX (t0_ eR) (MirP_open (l := x12))) fun oc15 => CJ_pure (fun h hh => Rs_len (stars_perm (del2 (A := Rs (DevP bs) (x12.legs.map mlegS.dev) oc15.2.1)).out h hh)) fun hdl17 => lC del1 fun hlen18 => ?_
    rw [mk_mleg_len (by have := hdl17; simpa using this)] at hlen18
    refine lC del4 fun hlen19 => CJ_region <| oM rfl rfl <| oP (P_nilCheck rfl) rfl <| oP (P_fieldAddr rfl ⟨_, _, _, Try.runUnderlying74, rfl, rfl, Try.sizeOf70, rfl⟩) rfl <| oV (V_load rfl foc0 rfl Try.isAgg70) rfl <| oM rfl rfl ?_
    obtain ⟨hg2, h⟩ := grd_de h
    refine oV (V_index (i := x14) rfl rfl rfl (show x14 < (mk_mleg x12.legs oc15.2.1).length by rw [mk_mleg_len (by have := hdl17; simpa using this)]; exact hg2) foc1 (Reads.sl _ _ _) Try.runUnderlying70 Try.sizeOf83) rfl <| oP (P_fieldE rfl ⟨_, _, _, Try.runUnderlying83, rfl, rfl, Try.sizeOf72, rfl⟩) rfl <| oV (VJ_eq (V_loadE rfl rfl (show x14 < (mk_mleg x12.legs oc15.2.1).length by rw [mk_mleg_len (by have := hdl17; simpa using this)]; exact hg2) foc1 (Reads.sl _ _ _) rfl rfl Try.isAgg72) (show (.int .i64 ((x12.legs.getD x14 mleg_x0).state) : Value) = .int .i64 ((mk_mleg x12.legs oc15.2.1).getD x14 mleg_h0).state from by rw [mk_mleg_at (by have := hdl17; simpa using this)])) rfl <| oP (P_eql (a := (x12.legs.getD x14 mleg_x0).state) (b := (2 : Int)) rfl rfl) rfl <| oM rfl rfl <| RJ_mbT rfl rfl rfl (fun hG20 => have hP21 : ((x12.legs.getD x14 mleg_x0).state = (2 : Int)) := (bT_dec).1 hG20; VJ_P (P_move rfl)) <| RJ_mbT rfl rfl rfl (fun hG22 => have hP23 : ((x12.legs.getD x14 mleg_x0).state = (2 : Int)) := (bT_dec).1 hG22; VJ_P (P_move rfl)) <| RJ_mbT rfl rfl rfl (fun hG24 => have hP25 : ((x12.legs.getD x14 mleg_x0).state = (2 : Int)) := (bT_dec).1 hG24; VJ_P (P_nilCheck (mbx hG24 rfl))) <| RJ_mbT rfl rfl rfl (fun hG26 => have hP27 : ((x12.legs.getD x14 mleg_x0).state = (2 : Int)) := (bT_dec).1 hG26; VJ_P (P_fieldAddr (mbx hG26 rfl) ⟨_, _, _, Try.runUnderlying74, rfl, rfl, Try.sizeOf70, rfl⟩)) ?_
    refine RJ_mbT rfl rfl rfl (fun hG28 => have hP29 : ((x12.legs.getD x14 mleg_x0).state = (2 : Int)) := (bT_dec).1 hG28; V_load (mbx hG28 rfl) foc0 rfl Try.isAgg70) <| RJ_mbT rfl rfl rfl (fun hG30 => have hP31 : ((x12.legs.getD x14 mleg_x0).state = (2 : Int)) := (bT_dec).1 hG30; VJ_P (P_move rfl)) ?_
    obtain ⟨hg3, h⟩ := grd_de h
    refine RJ_mbT rfl rfl rfl (fun hG32 => have hP33 : ((x12.legs.getD x14 mleg_x0).state = (2 : Int)) := (bT_dec).1 hG32; V_index (i := x14) (mbx hG32 rfl) (mbx hG32 rfl) rfl (show x14 < (mk_mleg x12.legs oc15.2.1).length by rw [mk_mleg_len (by have := hdl17; simpa using this)]; exact (hg3 hP33)) foc1 (Reads.sl _ _ _) Try.runUnderlying70 Try.sizeOf83) <| RJ_mbT rfl rfl rfl (fun hG34 => have hP35 : ((x12.legs.getD x14 mleg_x0).state = (2 : Int)) := (bT_dec).1 hG34; VJ_P (P_fieldE (mbx hG34 rfl) ⟨_, _, _, Try.runUnderlying83, rfl, rfl, Try.sizeOf3, rfl⟩)) <| RJ_mbT rfl rfl rfl (fun hG36 => have hP37 : ((x12.legs.getD x14 mleg_x0).state = (2 : Int)) := (bT_dec).1 hG36; VJ_eq (V_loadE (mbx hG36 rfl) rfl (show x14 < (mk_mleg x12.legs oc15.2.1).length by rw [mk_mleg_len (by have := hdl17; simpa using this)]; exact (by omega)) foc1 (Reads.sl _ _ _) rfl rfl Try.isAgg3) (show (.int .i64 ((x12.legs.getD x14 mleg_x0).copied) : Value) = .int .i64 ((mk_mleg x12.legs oc15.2.1).getD x14 mleg_h0).copied from by rw [mk_mleg_at (by have := hdl17; simpa using this)])) <| RJ_mbT rfl rfl rfl (fun hG38 => have hP39 : ((x12.legs.getD x14 mleg_x0).state = (2 : Int)) := (bT_dec).1 hG38; VJ_P (P_lss (a := at_1) (b := (x12.legs.getD x14 mleg_x0).copied) (mbx hG38 rfl) (mbx hG38 rfl))) <| oP (P_pickAnd rfl (fun hh => mbx hh rfl) rfl) rfl <| RJ_nil ?_
    refine QJ_ent (Ent.trans eR (MirP_mk (v0 := x12.legs) (v1 := x12.log) (v2 := x12.hasLog) (v3 := x12.logState) (v4 := x12.size) (v5 := x12.region) (v6 := x12.dirty) (v7 := x12.copied) (h0 := oc15.1) (h1 := oc15.2.1) (h2 := oc15.2.2.1) (h3 := oc15.2.2.2))) <| QJ_then <| CJ_condP rfl (bT_and bT_dec bT_dec) (fun hg4 => ?_) (fun hg4 => ?_)
    ·
     replace h := ite_t hg4 h
     refine CJ_seq <| CJ_entX (Ent.transX (t0_ eR) (MirP_open (l := x12))) fun oc40 => CJ_pure (fun h hh => Rs_len (stars_perm (del2 (A := Rs (DevP bs) (x12.legs.map mlegS.dev) oc40.2.1)).out h hh)) fun hdl42 => lC del1 fun hlen43 => ?_
     rw [mk_mleg_len (by have := hdl42; simpa using this)] at hlen43
     refine lC del4 fun hlen44 => CJ_region <| oM rfl rfl <| oM rfl rfl <| oM rfl rfl <| oP (P_nilCheck rfl) rfl <| oP (P_fieldAddr rfl ⟨_, _, _, Try.runUnderlying74, rfl, rfl, Try.sizeOf70, rfl⟩) rfl <| oV (V_load rfl foc0 rfl Try.isAgg70) rfl <| oM rfl rfl ?_
     obtain ⟨hg5, h⟩ := grd_de h
     refine oV (V_index (i := x14) rfl rfl rfl (show x14 < (mk_mleg x12.legs oc40.2.1).length by rw [mk_mleg_len (by have := hdl42; simpa using this)]; exact hg5) foc1 (Reads.sl _ _ _) Try.runUnderlying70 Try.sizeOf83) rfl <| oP (P_fieldE rfl ⟨_, _, _, Try.runUnderlying83, rfl, rfl, Try.sizeOf57, rfl⟩) rfl <| RJ_ent (Ent.trans (t2_ eR) (mk_mleg_rs (i := x14) hg5)) <| oV (VJ_eq (V_loadE rfl rfl (show x14 < (mk_mleg x12.legs oc40.2.1).length by rw [mk_mleg_len (by have := hdl42; simpa using this)]; exact hg5) foc3 (Reads.sl _ _ _) rfl rfl Try.isAgg57) (show (IfH.v (oc40.2.1.getD x14 tyDev.dflt) : Value) = IfH.v ((mk_mleg x12.legs oc40.2.1).getD x14 mleg_h0).dev from by rw [mk_mleg_at (by have := hdl42; simpa using this)])) rfl <| oM rfl rfl <| oM rfl rfl <| RJ_pure (fun h hh => DevP_dep h (stars_perm (del0 (A := DevP bs ((x12.legs.getD x14 mleg_x0).dev) (oc40.2.1.getD x14 tyDev.dflt))).out h hh)) fun hdp46 => ?_
     obtain ⟨r47, hr48, h⟩ := bind_e h
     refine oO <| O_callI rfl (dev_Write hr48 hdp46) rfl (Dels.cons del0 (Dels.cons del5 Dels.nil)) rfl fun _ _ => RJ_ent (Ent.trans (t3_ (t3_ (t2_ (t2_ (t2_ eR))))) (MirP_mk (v0 := x12.legs) (v1 := x12.log) (v2 := x12.hasLog) (v3 := x12.logState) (v4 := x12.size) (v5 := x12.region) (v6 := x12.dirty) (v7 := x12.copied) (h0 := oc40.1) (h1 := oc40.2.1) (h2 := oc40.2.2.1) (h3 := oc40.2.2.2))) ?_
     obtain ⟨r49, hr50, h⟩ := bind_e h
     refine oO <| O_call (L_mirror_Mirror_note hr50) rfl Try.call44 (Dels.cons del0 (Dels.cons del1 Dels.nil)) rfl fun _ _ => oA rfl rfl <| nT <| sR <| oM rfl rfl <| oP (P_neq (a := r49.1) (b := (0 : Int)) rfl rfl) rfl <| nT <| CJ_condP rfl bT_dec (fun hg6 => ?_) (fun hg6 => ?_)
     ·
      replace h := ite_t hg6 h
      refine sR <| oM rfl rfl <| oA rfl rfl <| nT <| CJ_ret <| QJ_block_ret <| QJ_then_ret <| QJ_round_ret <| QJ_block_ret <| QJ_then_ret ?_
      have hE := Option.some.inj h
      replace hE := seq_inr hK7 hE.symm
      subst hE
      exact fE (res1 Try.results48 rfl) () (t0_ (t0_ (eD eR)))
     ·
      replace h := ite_f hg6 h
      exact CJ_skip <| QJ_block_normal <| QJ_then <| CJ_region <| oP (PJ_eq (P_add (a := ((x14 : Nat) : Int)) (b := (1 : Int)) rfl rfl (by omega)) rfl) rfl <| oM rfl rfl <| RJ_nil <| nR ⟨n, r49.2, r47.2, (x14 + 1)⟩ h ⟨rfl, True.intro⟩ (t0_ (t0_ (eD eR)))
    ·
     replace h := ite_f hg4 h
     exact CJ_skip <| QJ_block_normal <| QJ_then <| CJ_region <| oP (PJ_eq (P_add (a := ((x14 : Nat) : Int)) (b := (1 : Int)) rfl rfl (by omega)) rfl) rfl <| oM rfl rfl <| RJ_nil <| nR ⟨n, x12, x13, (x14 + 1)⟩ h ⟨rfl, True.intro⟩ eR
   ·
    replace h := ite_f hg1 h
    exact CJ_exit <| QJ_then_exit <| QJ_round_exit <| QJ_block_here <| cR (x12, x13) (Option.some.inj h).symm True.intro eR
 ·
  rintro a11 hy51
  replace h := seq_inl hK7 hy51
  show CJ _ _ _ _ _ (([] : Slots) ++ forget _ _) (MirP bs bm a11.1 :: Arr bs a11.2 :: _)
  refine sR <| oA rfl rfl <| nT <| CJ_ret ?_
  cases h
  exact fE (res1 Try.results48 rfl) () eR
def mirror_Mirror_spread_1 (i : Int) (p1 : Int) : Option (Bool) :=
  some ((decide (i ≠ p1)))
theorem L_mirror_Mirror_spread_1 {W : World} {bp1 : Nat} {i : Int} {p1 : Int} {r : Bool} (h : mirror_Mirror_spread_1 i p1 = some r) :
    CSpec Try.prog W 64 [.int .i64 i, ptr bp1 0] [blk bp1 3 [.int .i64 p1]] (fun x : Unit => .bool r) (fun _ => True) (fun x F => blk bp1 3 [.int .i64 p1] :: F) := by
 refine CSpec.of_body Try.func64 rfl Try.ntmps64 rfl fun F => ?_
 show CJ _ _ _ _ _ _ (_ :: F)
 unfold mirror_Mirror_spread_1 at h
 refine sR <| oA rfl rfl <| nT <| sR <| oM rfl rfl <| oV (V_load rfl foc0 rfl Try.isAgg3) rfl <| oP (P_neq (a := i) (b := p1) rfl rfl) rfl <| oA rfl rfl <| nT <| CJ_ret ?_
 cases h
 exact fE (res1 Try.results64 rfl) () eR
def mirror_Mirror_spread_2 (i : Int) (p1 : List Int) (x_2_v : MirS) (e_3 : Int) (e_4 : UInt64) (s : ArrS) : Option (Int × ArrS) :=
  Option.bind (slices_Contains_int p1 i) fun r2 =>
  seqO ((
    if (¬ r2 = true) then
      grd (decide (0 ≤ i ∧ i < (x_2_v.legs.length : Int))) <|
      Option.bind (Dvc.rd ((x_2_v.legs.getD ((i).toNat) mleg_x0).dev) s e_3) fun r15 =>
      if (((r15.2 = (0 : Int)) ∧ (r15.1 = e_4)) ∨ ((r15.2 ≠ (0 : Int)) ∧ (r15.2 ≠ (7 : Int)))) then
        some (.inr (r15.2, s))
      else
        some (.inl ())
    else
      some (.inl ()) : Option ((Unit) ⊕ (Int × ArrS)))) fun a7 =>
  grd (decide (0 ≤ i ∧ i < (x_2_v.legs.length : Int))) <|
  Option.bind (Dvc.wr ((x_2_v.legs.getD ((i).toNat) mleg_x0).dev) s e_3 e_4) fun r45 =>
  if (r45.1 ≠ (0 : Int)) then
    some (r45.1, r45.2)
  else
    grd (decide (0 ≤ i ∧ i < (x_2_v.legs.length : Int))) <|
    Option.bind (Dvc.fl ((x_2_v.legs.getD ((i).toNat) mleg_x0).dev) r45.2) fun r54 =>
    some (r54.1, r54.2)
theorem L_mirror_Mirror_spread_2 {W : World} {bp1 : Nat} {Ap1 : HP} {vp1 : Value} {bx_2 : Nat} {bx_2_v : Nat} {be_3 : Nat} {be_4 : Nat} {bs : Nat} {i : Int} {p1 : List Int} {x_2_v : MirS} {e_3 : Int} {e_4 : UInt64} {s : ArrS} {r : Int × ArrS} (rp1 : Reads Ap1 tyI vp1 p1) (h : mirror_Mirror_spread_2 i p1 x_2_v e_3 e_4 s = some r) :
    CSpec Try.prog W 65 [.int .i64 i, ptr bp1 0, ptr bx_2 0, ptr be_3 0, ptr be_4 0] [blk bp1 22 [vp1], Ap1, blk bx_2 38 [ptr bx_2_v 0], MirP bs bx_2_v x_2_v, blk be_3 3 [.int .i64 e_3], blk be_4 33 [.int .u64 (e_4.toNat : Int)], Arr bs s] (fun x : Unit => .int .i64 r.1) (fun _ => True) (fun x F => blk bp1 22 [vp1] :: Ap1 :: blk bx_2 38 [ptr bx_2_v 0] :: MirP bs bx_2_v x_2_v :: blk be_3 3 [.int .i64 e_3] :: blk be_4 33 [.int .u64 (e_4.toNat : Int)] :: Arr bs r.2 :: F) := by
 refine CSpec.of_body Try.func65 rfl Try.ntmps65 rfl fun F => ?_
 show CJ _ _ _ _ _ _ (_ :: _ :: _ :: _ :: _ :: _ :: _ :: F)
 unfold mirror_Mirror_spread_2 at h
 refine CJ_pure (len_of rp1 del1) fun hlen1 => sR <| oA rfl rfl <| nT <| CJ_seq <| sR <| oV (V_load rfl foc0 rfl Try.isAgg22) rfl <| oM rfl rfl ?_
 obtain ⟨r2, hr3, h⟩ := bind_e h
 refine oO <| O_call (L_slices_Contains_int rp1 hr3) rfl Try.call36 (Dels.cons del1 Dels.nil) rfl fun _ _ => oP (P_not rfl) rfl <| nT ?_
 obtain ⟨y6, hl4, hK5⟩ := seq_e h
 refine CJ_cutT (X := Unit) [6, 7, 8, 14, 15, 16, 17, 18, 19, 20, 21, 22, 23, 24, 25, 26, 27, 28, 29, 30, 31, 32, 33, 34, 35, 36, 37, 38, 39, 40, 41, 42] (fun _ => ([] : Slots)) (fun _ R => R) (fun _ => y6 = .inl ()) Dels.nil ?_ ?_
 ·
  have h := hl4
  refine CJ_condP rfl (bT_not Iff.rfl) (fun hg1 => ?_) (fun hg1 => ?_)
  ·
   replace h := ite_t hg1 h
   refine CJ_seq <| CJ_entX (Ent.transX (t3_ eR) (MirP_open (l := x_2_v))) fun oc8 => CJ_pure (fun h hh => Rs_len (stars_perm (del2 (A := Rs (DevP bs) (x_2_v.legs.map mlegS.dev) oc8.2.1)).out h hh)) fun hdl10 => lC del1 fun hlen11 => ?_
   rw [mk_mleg_len (by have := hdl10; simpa using this)] at hlen11
   refine lC del4 fun hlen12 => AJ_startH 512 (by kernel_rfl) rfl <| aV 0 1 rfl rfl (GY_none rfl) eR (V_load rfl foc7 rfl Try.isAgg38) rfl <| aN 1 3 rfl rfl (P_nilCheck rfl) rfl <| aN 2 7 rfl rfl (P_fieldAddr rfl ⟨_, _, _, Try.runUnderlying74, rfl, rfl, Try.sizeOf70, rfl⟩) rfl <| aV 3 15 rfl rfl (GY_none rfl) eR (V_load rfl foc0 rfl Try.isAgg70) rfl <| aN 4 31 rfl rfl (P_move rfl) rfl ?_
   obtain ⟨hg2, h⟩ := grd_de h
   refine aV 5 63 rfl rfl (GY_none rfl) eR (V_index (i := (i).toNat) rfl rfl (Int.toNat_of_nonneg (hg2.1)).symm (show (i).toNat < (mk_mleg x_2_v.legs oc8.2.1).length by rw [mk_mleg_len (by have := hdl10; simpa using this)]; exact (by omega)) foc1 (Reads.sl _ _ _) Try.runUnderlying70 Try.sizeOf83) rfl <| aN 6 127 rfl rfl (P_fieldE rfl ⟨_, _, _, Try.runUnderlying83, rfl, rfl, Try.sizeOf57, rfl⟩) rfl <| AJ_ent (Ent.trans (t2_ eR) (mk_mleg_rs (i := (i).toNat) (by omega))) <| aV 7 255 rfl rfl (GY_none rfl) (t2_ (t2_ (t1_ (t1_ (t1_ (t1_ (t1_ (t1_ (t1_ (t1_ (t1_ (eD eR)))))))))))) (VJ_eq (V_loadE rfl rfl (show (i).toNat < (mk_mleg x_2_v.legs oc8.2.1).length by rw [mk_mleg_len (by have := hdl10; simpa using this)]; exact (by omega)) foc1 (Reads.sl _ _ _) rfl rfl Try.isAgg57) (show (IfH.v ((oc8.2.1.getD ((i).toNat) tyDev.dflt)) : Value) = IfH.v ((mk_mleg x_2_v.legs oc8.2.1).getD ((i).toNat) mleg_h0).dev from by rw [mk_mleg_at (by have := hdl10; simpa using this)])) rfl <| aV 8 511 rfl rfl (GY_none rfl) (t2_ (t2_ (t1_ (t1_ (t1_ (t1_ (t1_ (t1_ (t1_ (t1_ (t1_ (eD eR)))))))))))) (V_load rfl foc8 rfl Try.isAgg3) rfl ?_
   refine AJ_pure (fun h hh => DevP_dep h (stars_perm (del0 (A := DevP bs ((x_2_v.legs.getD ((i).toNat) mleg_x0).dev) ((oc8.2.1.getD ((i).toNat) tyDev.dflt)))).out h hh)) fun hdp14 => ?_
   obtain ⟨r15, hr16, h⟩ := bind_e h
   refine AJ_op 9 1023 rfl (by kernel_rfl) rfl (GY_none rfl) <| O_callI rfl (dev_Read hr16 hdp14) rfl (Dels.cons del0 (Dels.cons del10 Dels.nil)) rfl fun _ _ => ⟨fun h => absurd h (by decide), ?_⟩
   refine aN 10 2047 rfl rfl (P_move rfl) rfl <| aN 11 4095 rfl rfl (P_extract rfl rfl) rfl <| aN 12 8191 rfl rfl (P_extract rfl rfl) rfl <| aN 13 16383 rfl rfl (P_assign rfl) rfl <| aN 14 32767 rfl rfl (P_assign rfl) rfl <| AJ_done (by kernel_rfl) <| QJ_ent (Ent.trans (t3_ (t3_ (t2_ (t2_ (t2_ eR))))) (MirP_mk (v0 := x_2_v.legs) (v1 := x_2_v.log) (v2 := x_2_v.hasLog) (v3 := x_2_v.logState) (v4 := x_2_v.size) (v5 := x_2_v.region) (v6 := x_2_v.dirty) (v7 := x_2_v.copied) (h0 := oc8.1) (h1 := oc8.2.1) (h2 := oc8.2.2.1) (h3 := oc8.2.2.2))) <| QJ_ent (t0_ (t1_ (t1_ (t1_ (t1_ (t1_ (t1_ (eD eR)))))))) <| QJ_then <| sR <| oM rfl rfl <| oP (P_eql (a := r15.2) (b := (0 : Int)) rfl rfl) rfl <| oM rfl rfl <| RJ_mbT rfl rfl rfl (fun hG17 => have hP18 : (r15.2 = (0 : Int)) := (bT_dec).1 hG17; VJ_P (P_move rfl)) <| RJ_mbT rfl rfl rfl (fun hG19 => have hP20 : (r15.2 = (0 : Int)) := (bT_dec).1 hG19; V_load rfl foc6 rfl Try.isAgg33) <| RJ_mbT rfl rfl rfl (fun hG21 => have hP22 : (r15.2 = (0 : Int)) := (bT_dec).1 hG21; VJ_P (P_eq_u64 (a := r15.1) (b := e_4) (mbx hG21 rfl) (mbx hG21 rfl))) <| oP (P_pickAnd rfl (fun hh => mbx hh rfl) rfl) rfl <| oM rfl rfl <| RJ_mbF rfl rfl rfl (fun hG23 => have hP24 : ¬ ((r15.2 = (0 : Int)) ∧ (r15.1 = e_4)) := nP ((bT_and bT_dec bT_dec)) hG23; VJ_P (P_move rfl)) ?_
   refine RJ_mbF rfl rfl rfl (fun hG25 => have hP26 : ¬ ((r15.2 = (0 : Int)) ∧ (r15.1 = e_4)) := nP ((bT_and bT_dec bT_dec)) hG25; VJ_P (P_neq (a := r15.2) (b := (0 : Int)) (mbx hG25 rfl) rfl)) <| RJ_mbF rfl rfl rfl (fun hG27 => have hP28 : ¬ ((r15.2 = (0 : Int)) ∧ (r15.1 = e_4)) := nP ((bT_and bT_dec bT_dec)) hG27; VJ_P (P_move (mbx hG27 rfl))) <| RJ_mbGT rfl rfl rfl (fun hG29 => have hP30 : ¬ ((r15.2 = (0 : Int)) ∧ (r15.1 = e_4)) := nP ((bT_and bT_dec bT_dec)) (and_l hG29); have hP31 : (r15.2 ≠ (0 : Int)) := (bT_dec).1 (and_r hG29); VJ_P (P_move rfl)) <| RJ_mbGT rfl rfl rfl (fun hG32 => have hP33 : ¬ ((r15.2 = (0 : Int)) ∧ (r15.1 = e_4)) := nP ((bT_and bT_dec bT_dec)) (and_l hG32); have hP34 : (r15.2 ≠ (0 : Int)) := (bT_dec).1 (and_r hG32); VJ_P (P_neq (a := r15.2) (b := (7 : Int)) (mbx hG32 rfl) rfl)) <| RJ_mbF rfl rfl rfl (fun hG35 => have hP36 : ¬ ((r15.2 = (0 : Int)) ∧ (r15.1 = e_4)) := nP ((bT_and bT_dec bT_dec)) hG35; VJ_P (P_pickAnd (mbx hG35 rfl) (fun hh => mbx (and_i hG35 hh) rfl) rfl)) <| oP (P_pickOr rfl rfl (fun hh => mbx (not_f hh) rfl)) rfl <| nT <| CJ_condP rfl (bT_or (bT_and bT_dec bT_dec) (bT_and bT_dec bT_dec)) (fun hg3 => ?_) (fun hg3 => ?_)
   ·
    replace h := ite_t hg3 h
    refine sR <| oM rfl rfl <| oA rfl rfl <| nT <| CJ_ret <| QJ_then_ret ?_
    have hE := Option.some.inj h
    replace hE := seq_inr hK5 hE.symm
    subst hE
    exact fE (res1 Try.results65 rfl) () (t3_ (t2_ (t2_ (t0_ (t1_ (t1_ eR))))))
   ·
    replace h := ite_f hg3 h
    exact CJ_skip <| cR () (Option.some.inj h).symm True.intro (t2_ (t2_ (t2_ (t0_ (t1_ (t1_ eR))))))
  ·
   replace h := ite_f hg1 h
   exact CJ_skip <| cR () (Option.some.inj h).symm True.intro eR
 ·
  rintro _ hy37
  replace h := seq_inl hK5 hy37
  show CJ _ _ _ _ _ (([] : Slots) ++ forget _ _) (_)
  refine CJ_seq <| CJ_seq <| CJ_entX (Ent.transX (t3_ eR) (MirP_open (l := x_2_v))) fun oc38 => CJ_pure (fun h hh => Rs_len (stars_perm (del2 (A := Rs (DevP bs) (x_2_v.legs.map mlegS.dev) oc38.2.1)).out h hh)) fun hdl40 => lC del1 fun hlen41 => ?_
  rw [mk_mleg_len (by have := hdl40; simpa using this)] at hlen41
  refine lC del4 fun hlen42 => AJ_startH 1024 (by kernel_rfl) rfl <| aV 0 1 rfl rfl (GY_none rfl) eR (V_load rfl foc7 rfl Try.isAgg38) rfl <| aN 1 3 rfl rfl (P_nilCheck rfl) rfl <| aN 2 7 rfl rfl (P_fieldAddr rfl ⟨_, _, _, Try.runUnderlying74, rfl, rfl, Try.sizeOf70, rfl⟩) rfl <| aV 3 15 rfl rfl (GY_none rfl) eR (V_load rfl foc0 rfl Try.isAgg70) rfl <| aN 4 31 rfl rfl (P_move rfl) rfl ?_
  obtain ⟨hg4, h⟩ := grd_de h
  refine aV 5 63 rfl rfl (GY_none rfl) eR (V_index (i := (i).toNat) rfl rfl (Int.toNat_of_nonneg (hg4.1)).symm (show (i).toNat < (mk_mleg x_2_v.legs oc38.2.1).length by rw [mk_mleg_len (by have := hdl40; simpa using this)]; exact (by omega)) foc1 (Reads.sl _ _ _) Try.runUnderlying70 Try.sizeOf83) rfl <| aN 6 127 rfl rfl (P_fieldE rfl ⟨_, _, _, Try.runUnderlying83, rfl, rfl, Try.sizeOf57, rfl⟩) rfl <| AJ_ent (Ent.trans (t2_ eR) (mk_mleg_rs (i := (i).toNat) (by omega))) <| aV 7 255 rfl rfl (GY_none rfl) (t2_ (t2_ (t1_ (t1_ (t1_ (t1_ (t1_ (t1_ (t1_ (t1_ (t1_ (eD eR)))))))))))) (VJ_eq (V_loadE rfl rfl (show (i).toNat < (mk_mleg x_2_v.legs oc38.2.1).length by rw [mk_mleg_len (by have := hdl40; simpa using this)]; exact (by omega)) foc1 (Reads.sl _ _ _) rfl rfl Try.isAgg57) (show (IfH.v ((oc38.2.1.getD ((i).toNat) tyDev.dflt)) : Value) = IfH.v ((mk_mleg x_2_v.legs oc38.2.1).getD ((i).toNat) mleg_h0).dev from by rw [mk_mleg_at (by have := hdl40; simpa using this)])) rfl <| aV 8 511 rfl rfl (GY_none rfl) (t2_ (t2_ (t1_ (t1_ (t1_ (t1_ (t1_ (t1_ (t1_ (t1_ (t1_ (eD eR)))))))))))) (V_load rfl foc8 rfl Try.isAgg3) rfl ?_
  refine aV 9 1023 rfl rfl (GY_none rfl) (t2_ (t2_ (t1_ (t1_ (t1_ (t1_ (t1_ (t1_ (t1_ (t1_ (t1_ (eD eR)))))))))))) (V_load rfl foc9 rfl Try.isAgg33) rfl <| AJ_pure (fun h hh => DevP_dep h (stars_perm (del0 (A := DevP bs ((x_2_v.legs.getD ((i).toNat) mleg_x0).dev) ((oc38.2.1.getD ((i).toNat) tyDev.dflt)))).out h hh)) fun hdp44 => ?_
  obtain ⟨r45, hr46, h⟩ := bind_e h
  refine AJ_op 10 2047 rfl (by kernel_rfl) rfl (GY_none rfl) <| O_callI rfl (dev_Write hr46 hdp44) rfl (Dels.cons del0 (Dels.cons del10 Dels.nil)) rfl fun _ _ => ⟨fun h => absurd h (by decide), ?_⟩
  refine aN 11 4095 rfl rfl (P_assign rfl) rfl <| AJ_done (by kernel_rfl) <| QJ_ent (Ent.trans (t3_ (t3_ (t2_ (t2_ (t2_ eR))))) (MirP_mk (v0 := x_2_v.legs) (v1 := x_2_v.log) (v2 := x_2_v.hasLog) (v3 := x_2_v.logState) (v4 := x_2_v.size) (v5 := x_2_v.region) (v6 := x_2_v.dirty) (v7 := x_2_v.copied) (h0 := oc38.1) (h1 := oc38.2.1) (h2 := oc38.2.2.1) (h3 := oc38.2.2.2))) <| QJ_ent (t0_ (t1_ (t1_ (t1_ (t1_ (t1_ (t1_ (eD eR)))))))) <| QJ_then <| sR <| oM rfl rfl <| oP (P_neq (a := r45.1) (b := (0 : Int)) rfl rfl) rfl <| nT <| CJ_condP rfl bT_dec (fun hg5 => ?_) (fun hg5 => ?_)
  ·
   replace h := ite_t hg5 h
   refine sR <| oM rfl rfl <| oA rfl rfl <| nT <| CJ_ret <| QJ_then_ret ?_
   cases h
   exact fE (res1 Try.results65 rfl) () (t3_ (t2_ (t2_ (t0_ (t1_ (t1_ eR))))))
  ·
   replace h := ite_f hg5 h
   refine kT <| CJ_seq <| CJ_entX (Ent.transX (t0_ eR) (MirP_open (l := x_2_v))) fun oc47 => CJ_pure (fun h hh => Rs_len (stars_perm (del2 (A := Rs (DevP bs) (x_2_v.legs.map mlegS.dev) oc47.2.1)).out h hh)) fun hdl49 => lC del1 fun hlen50 => ?_
   rw [mk_mleg_len (by have := hdl49; simpa using this)] at hlen50
   refine lC del4 fun hlen51 => CJ_region <| oV (V_load rfl foc8 rfl Try.isAgg38) rfl <| oP (P_nilCheck rfl) rfl <| oP (P_fieldAddr rfl ⟨_, _, _, Try.runUnderlying74, rfl, rfl, Try.sizeOf70, rfl⟩) rfl <| oV (V_load rfl foc0 rfl Try.isAgg70) rfl <| oM rfl rfl ?_
   obtain ⟨hg6, h⟩ := grd_de h
   refine oV (V_index (i := (i).toNat) rfl rfl (Int.toNat_of_nonneg (hg6.1)).symm (show (i).toNat < (mk_mleg x_2_v.legs oc47.2.1).length by rw [mk_mleg_len (by have := hdl49; simpa using this)]; exact (by omega)) foc1 (Reads.sl _ _ _) Try.runUnderlying70 Try.sizeOf83) rfl <| oP (P_fieldE rfl ⟨_, _, _, Try.runUnderlying83, rfl, rfl, Try.sizeOf57, rfl⟩) rfl <| RJ_ent (Ent.trans (t2_ eR) (mk_mleg_rs (i := (i).toNat) (by omega))) <| oV (VJ_eq (V_loadE rfl rfl (show (i).toNat < (mk_mleg x_2_v.legs oc47.2.1).length by rw [mk_mleg_len (by have := hdl49; simpa using this)]; exact (by omega)) foc3 (Reads.sl _ _ _) rfl rfl Try.isAgg57) (show (IfH.v ((oc47.2.1.getD ((i).toNat) tyDev.dflt)) : Value) = IfH.v ((mk_mleg x_2_v.legs oc47.2.1).getD ((i).toNat) mleg_h0).dev from by rw [mk_mleg_at (by have := hdl49; simpa using this)])) rfl <| RJ_pure (fun h hh => DevP_dep h (stars_perm (del0 (A := DevP bs ((x_2_v.legs.getD ((i).toNat) mleg_x0).dev) ((oc47.2.1.getD ((i).toNat) tyDev.dflt)))).out h hh)) fun hdp53 => ?_
   obtain ⟨r54, hr55, h⟩ := bind_e h
   refine oO <| O_callI rfl (dev_Flush hr55 hdp53) rfl (Dels.cons del0 (Dels.cons del5 Dels.nil)) rfl fun _ _ => oA rfl rfl <| RJ_nil <| QJ_ent (Ent.trans (t3_ (t3_ (t2_ (t2_ (t2_ eR))))) (MirP_mk (v0 := x_2_v.legs) (v1 := x_2_v.log) (v2 := x_2_v.hasLog) (v3 := x_2_v.logState) (v4 := x_2_v.size) (v5 := x_2_v.region) (v6 := x_2_v.dirty) (v7 := x_2_v.copied) (h0 := oc47.1) (h1 := oc47.2.1) (h2 := oc47.2.2.1) (h3 := oc47.2.2.2))) <| QJ_ent (t0_ (t1_ (t1_ (t1_ (t1_ (t1_ (t1_ (eD eR)))))))) <| QJ_then <| CJ_ret ?_
   cases h
   exact fE (res1 Try.results65 rfl) () (t3_ (t2_ (t2_ (t0_ (t1_ (t1_ eR))))))
def mirror_Mirror_each__mirror_Mirror_spread_1_l1_b (m : MirS) (choose_c0 : Int) (do_2_c0 : List Int) (do_2_c2 : Int) (do_2_c3 : UInt64) (rec : MirS → ArrS → Nat → Option ((MirS × ArrS) ⊕ (Int × MirS × ArrS))) (x13 : MirS) (x14 : ArrS) (x15 : Nat) : Option ((MirS × ArrS) ⊕ (Int × MirS × ArrS)) :=
  if (((x15 : Nat) : Int) < ((m.legs.length : Nat) : Int)) then
    grd (decide (x15 < x13.legs.length)) <|
    if ((x13.legs.getD x15 mleg_x0).state = (0 : Int)) then
      Option.bind (mirror_Mirror_spread_1 (((x15 : Nat) : Int)) choose_c0) fun r21 =>
      if r21 = true then
        Option.bind (mirror_Mirror_spread_2 (((x15 : Nat) : Int)) do_2_c0 x13 do_2_c2 do_2_c3 x14) fun r23 =>
        Option.bind (mirror_Mirror_note x13 (((x15 : Nat) : Int)) r23.1 r23.2) fun r25 =>
        if (r25.1 ≠ (0 : Int)) then
          some (.inr (r25.1, r25.2, r23.2))
        else
          rec r25.2 r23.2 (x15 + 1)
      else
        rec x13 x14 (x15 + 1)
    else
      rec x13 x14 (x15 + 1)
  else
    some (.inl (x13, x14))
def mirror_Mirror_each__mirror_Mirror_spread_1_l1 (m : MirS) (choose_c0 : Int) (do_2_c0 : List Int) (do_2_c2 : Int) (do_2_c3 : UInt64) : Nat → MirS → ArrS → Nat → Option ((MirS × ArrS) ⊕ (Int × MirS × ArrS))
  | 0, _, _, _ => none
  | n + 1, x13, x14, x15 => mirror_Mirror_each__mirror_Mirror_spread_1_l1_b m choose_c0 do_2_c0 do_2_c2 do_2_c3 (mirror_Mirror_each__mirror_Mirror_spread_1_l1 m choose_c0 do_2_c0 do_2_c2 do_2_c3 n) x13 x14 x15
def mirror_Mirror_each__mirror_Mirror_spread_1 (m : MirS) (choose_c0 : Int) (do_2_c0 : List Int) (do_2_c2 : Int) (do_2_c3 : UInt64) (s : ArrS) : Option (Int × MirS × ArrS) :=
  seqO (mirror_Mirror_each__mirror_Mirror_spread_1_l1 m choose_c0 do_2_c0 do_2_c2 do_2_c3 FUEL m s 0) fun a12 =>
  Option.bind (mirror_Mirror_result a12.1 a12.2) fun r28 =>
  some (r28, a12.1, a12.2)
theorem L_mirror_Mirror_each__mirror_Mirror_spread_1 {W : World} {bm : Nat} {bchoose_c0 : Nat} {bdo_2_c0 : Nat} {Ado_2_c0 : HP} {vdo_2_c0 : Value} {bdo_2_c1 : Nat} {bdo_2_c2 : Nat} {bdo_2_c3 : Nat} {bs : Nat} {m : MirS} {choose_c0 : Int} {do_2_c0 : List Int} {do_2_c2 : Int} {do_2_c3 : UInt64} {s : ArrS} {r : Int × MirS × ArrS} (rdo_2_c0 : Reads Ado_2_c0 tyI vdo_2_c0 do_2_c0) (h : mirror_Mirror_each__mirror_Mirror_spread_1 m choose_c0 do_2_c0 do_2_c2 do_2_c3 s = some r) :
    CSpec Try.prog W 34 [ptr bm 0, .func (.func 64) #[] #[ptr bchoose_c0 0], .func (.func 65) #[] #[ptr bdo_2_c0 0, ptr bdo_2_c1 0, ptr bdo_2_c2 0, ptr bdo_2_c3 0]] [MirP bs bm m, blk bchoose_c0 3 [.int .i64 choose_c0], blk bdo_2_c0 22 [vdo_2_c0], Ado_2_c0, blk bdo_2_c1 38 [ptr bm 0], blk bdo_2_c2 3 [.int .i64 do_2_c2], blk bdo_2_c3 33 [.int .u64 (do_2_c3.toNat : Int)], Arr bs s] (fun x : Unit => .int .i64 r.1) (fun _ => True) (fun x F => MirP bs bm r.2.1 :: blk bchoose_c0 3 [.int .i64 choose_c0] :: blk bdo_2_c0 22 [vdo_2_c0] :: Ado_2_c0 :: blk bdo_2_c1 38 [ptr bm 0] :: blk bdo_2_c2 3 [.int .i64 do_2_c2] :: blk bdo_2_c3 33 [.int .u64 (do_2_c3.toNat : Int)] :: Arr bs r.2.2 :: F) := by
 refine CSpec.of_body Try.func34 rfl Try.ntmps34 rfl fun F => ?_
 show CJ _ _ _ _ _ _ (_ :: _ :: _ :: _ :: _ :: _ :: _ :: _ :: F)
 unfold mirror_Mirror_each__mirror_Mirror_spread_1 at h
 refine CJ_pure (len_of rdo_2_c0 del3) fun hlen1 => sR <| oA rfl rfl <| nT <| sR <| oM rfl rfl <| oP (P_makeFunc rfl rfl) rfl <| oA rfl rfl <| nT <| CJ_seq <| CJ_seq <| CJ_entX (Ent.transX (t0_ eR) (MirP_open (l := m))) fun oc2 => CJ_pure (fun h hh => Rs_len (stars_perm (del2 (A := Rs (DevP bs) (m.legs.map mlegS.dev) oc2.2.1)).out h hh)) fun hdl4 => lC del1 fun hlen5 => ?_
 rw [mk_mleg_len (by have := hdl4; simpa using this)] at hlen5
 refine lC del4 fun hlen6 => CJ_region <| oM rfl rfl <| oP (P_nilCheck rfl) rfl <| oP (P_fieldAddr rfl ⟨_, _, _, Try.runUnderlying74, rfl, rfl, Try.sizeOf70, rfl⟩) rfl <| oV (V_load rfl foc0 rfl Try.isAgg70) rfl <| oV (VJ_eq (V_len rfl foc1 (Reads.sl _ _ _) Try.runUnderlying70) (congrArg (fun z : Nat => Value.int .i64 (z : Int)) (mk_mleg_len (by have := hdl4; simpa using this)).symm)) rfl <| oM rfl rfl <| RJ_nil <| QJ_ent (Ent.trans eR (MirP_mk (v0 := m.legs) (v1 := m.log) (v2 := m.hasLog) (v3 := m.logState) (v4 := m.size) (v5 := m.region) (v6 := m.dirty) (v7 := m.copied) (h0 := oc2.1) (h1 := oc2.2.1) (h2 := oc2.2.2.1) (h3 := oc2.2.2.2))) <| QJ_then ?_
 obtain ⟨y9, hl7, hK8⟩ := seq_e h
 refine CJ_cutT (X := MirS × ArrS) [6, 8, 9, 17, 18, 19, 20, 21, 22, 23, 24, 25, 26, 27, 28, 29, 30, 31, 32, 33, 34, 35, 36, 37, 38, 39, 40, 41, 42, 43] (fun a12 => ([] : Slots)) (fun a12 R => MirP bs bm a12.1 :: Arr bs a12.2 :: R) (fun a12 => y9 = .inl a12) (Dels.cons del0 (Dels.cons del6 Dels.nil)) ?_ ?_
 ·
  refine CJ_block <| CJ_loopR (X := Nat × MirS × ArrS × Nat) [6, 8, 9, 17, 18, 19, 20, 21, 22, 23, 24, 25, 26, 27, 28, 29, 30, 31, 32, 33, 34, 35, 36, 37, 38, 39, 40, 41, 42, 43] (fun ⟨n, x13, x14, x15⟩ => ([(17, .int .i64 (((x15 : Nat) : Int)))] : Slots)) (fun ⟨n, x13, x14, x15⟩ R => MirP bs bm x13 :: Arr bs x14 :: R) (fun ⟨n, x13, x14, x15⟩ => mirror_Mirror_each__mirror_Mirror_spread_1_l1 m choose_c0 do_2_c0 do_2_c2 do_2_c3 n x13 x14 x15 = some y9) (fun ⟨n, x13, x14, x15⟩ => n) ⟨FUEL, m, s, 0⟩ ?_ ?_ (t0_ (t6_ eR)) ?_
  · exact hl7
  · exact ⟨rfl, True.intro⟩
  ·
   rintro ⟨n, x13, x14, x15⟩ h
   cases n with
   | zero => exact none_e h
   | succ n => ?_
   replace h : mirror_Mirror_each__mirror_Mirror_spread_1_l1_b m choose_c0 do_2_c0 do_2_c2 do_2_c3 (mirror_Mirror_each__mirror_Mirror_spread_1_l1 m choose_c0 do_2_c0 do_2_c2 do_2_c3 n) x13 x14 x15 = some y9 := h
   unfold mirror_Mirror_each__mirror_Mirror_spread_1_l1_b at h
   show CJ _ _ _ _ _ (([(17, .int .i64 (((x15 : Nat) : Int)))] : Slots) ++ forget _ _) (MirP bs bm x13 :: Arr bs x14 :: _)
   refine sR <| oP (P_lss (a := ((x15 : Nat) : Int)) (b := ((m.legs.length : Nat) : Int)) rfl rfl) rfl <| nT <| CJ_seq <| CJ_condP rfl bT_dec (fun hg1 => ?_) (fun hg1 => ?_)
   ·
    replace h := ite_t hg1 h
    refine kT <| CJ_seq <| CJ_block <| sR <| oM rfl rfl <| oA rfl rfl <| nT <| CJ_seq <| CJ_entX (Ent.transX (t0_ eR) (MirP_open (l := x13))) fun oc16 => CJ_pure (fun h hh => Rs_len (stars_perm (del2 (A := Rs (DevP bs) (x13.legs.map mlegS.dev) oc16.2.1)).out h hh)) fun hdl18 => lC del1 fun hlen19 => ?_
    rw [mk_mleg_len (by have := hdl18; simpa using this)] at hlen19
    refine lC del4 fun hlen20 => CJ_region <| oM rfl rfl <| oP (P_nilCheck rfl) rfl <| oP (P_fieldAddr rfl ⟨_, _, _, Try.runUnderlying74, rfl, rfl, Try.sizeOf70, rfl⟩) rfl <| oV (V_load rfl foc0 rfl Try.isAgg70) rfl <| oM rfl rfl ?_
    obtain ⟨hg2, h⟩ := grd_de h
    refine oV (V_index (i := x15) rfl rfl rfl (show x15 < (mk_mleg x13.legs oc16.2.1).length by rw [mk_mleg_len (by have := hdl18; simpa using this)]; exact hg2) foc1 (Reads.sl _ _ _) Try.runUnderlying70 Try.sizeOf83) rfl <| oP (P_fieldE rfl ⟨_, _, _, Try.runUnderlying83, rfl, rfl, Try.sizeOf72, rfl⟩) rfl <| oV (VJ_eq (V_loadE rfl rfl (show x15 < (mk_mleg x13.legs oc16.2.1).length by rw [mk_mleg_len (by have := hdl18; simpa using this)]; exact hg2) foc1 (Reads.sl _ _ _) rfl rfl Try.isAgg72) (show (.int .i64 ((x13.legs.getD x15 mleg_x0).state) : Value) = .int .i64 ((mk_mleg x13.legs oc16.2.1).getD x15 mleg_h0).state from by rw [mk_mleg_at (by have := hdl18; simpa using this)])) rfl <| oP (P_eql (a := (x13.legs.getD x15 mleg_x0).state) (b := (0 : Int)) rfl rfl) rfl <| oM rfl rfl <| RJ_splitP 29 rfl bT_dec (fun hg3B hg3 => ?_) (fun hg3B hg3 => ?_)
    ·
     replace h := ite_t hg3 h
     refine gP (GY_yes rfl rfl rfl hg3B) (P_move rfl) rfl <| gP (GY_yes rfl rfl rfl hg3B) (P_move rfl) rfl ?_
     obtain ⟨r21, hr22, h⟩ := bind_e h
     refine RJ_gy (GY_yes rfl rfl rfl hg3B) <| O_callV rfl rfl (L_mirror_Mirror_spread_1 hr22) Try.call64 (Dels.cons del6 Dels.nil) rfl fun _ _ => oP (P_pickT rfl hg3B rfl) rfl <| RJ_nil <| QJ_ent (Ent.trans (t1_ (t1_ (t1_ (t1_ (t1_ eR))))) (MirP_mk (v0 := x13.legs) (v1 := x13.log) (v2 := x13.hasLog) (v3 := x13.logState) (v4 := x13.size) (v5 := x13.region) (v6 := x13.dirty) (v7 := x13.copied) (h0 := oc16.1) (h1 := oc16.2.1) (h2 := oc16.2.2.1) (h3 := oc16.2.2.2))) <| QJ_then <| CJ_condP rfl Iff.rfl (fun hg4 => ?_) (fun hg4 => ?_)
     ·
      replace h := ite_t hg4 h
      refine sR <| oM rfl rfl <| oM rfl rfl <| oM rfl rfl <| oM rfl rfl ?_
      obtain ⟨r23, hr24, h⟩ := bind_e h
      refine oO <| O_callV rfl rfl (L_mirror_Mirror_spread_2 rdo_2_c0 hr24) Try.call65 (Dels.cons del3 (Dels.cons del3 (Dels.cons del3 (Dels.cons del0 (Dels.cons del2 (Dels.cons del2 (Dels.cons del1 Dels.nil))))))) rfl fun _ _ => ?_
      obtain ⟨r25, hr26, h⟩ := bind_e h
      refine oO <| O_callV rfl rfl (L_mirror_Mirror_note hr26) Try.call44 (Dels.cons del3 (Dels.cons del5 Dels.nil)) rfl fun _ _ => oA rfl rfl <| nT <| sR <| oM rfl rfl <| oP (P_neq (a := r25.1) (b := (0 : Int)) rfl rfl) rfl <| nT <| CJ_condP rfl bT_dec (fun hg5 => ?_) (fun hg5 => ?_)
      ·
       replace h := ite_t hg5 h
       refine sR <| oM rfl rfl <| oA rfl rfl <| nT <| CJ_ret <| QJ_block_ret <| QJ_then_ret <| QJ_round_ret <| QJ_block_ret <| QJ_then_ret ?_
       have hE := Option.some.inj h
       replace hE := seq_inr hK8 hE.symm
       subst hE
       exact fE (res1 Try.results34 rfl) () (t0_ (t6_ (t1_ (t1_ (t1_ (t1_ (t1_ eR)))))))
      ·
       replace h := ite_f hg5 h
       exact CJ_skip <| QJ_block_normal <| QJ_then <| CJ_region <| oP (PJ_eq (P_add (a := ((x15 : Nat) : Int)) (b := (1 : Int)) rfl rfl (by omega)) rfl) rfl <| oM rfl rfl <| RJ_nil <| nR ⟨n, r25.2, r23.2, (x15 + 1)⟩ h ⟨rfl, True.intro⟩ (t0_ (t0_ (t5_ eR)))
     ·
      replace h := ite_f hg4 h
      exact CJ_skip <| QJ_block_normal <| QJ_then <| CJ_region <| oP (PJ_eq (P_add (a := ((x15 : Nat) : Int)) (b := (1 : Int)) rfl rfl (by omega)) rfl) rfl <| oM rfl rfl <| RJ_nil <| nR ⟨n, x13, x14, (x15 + 1)⟩ h ⟨rfl, True.intro⟩ (t0_ (t1_ eR))
    ·
     replace h := ite_f hg3 h
     exact RJ_gn (GY_no rfl rfl rfl hg3B) rfl rfl <| RJ_gn (GY_no rfl rfl rfl hg3B) rfl rfl <| RJ_gn (GY_no rfl rfl rfl hg3B) rfl rfl <| oP (P_pickF rfl hg3B rfl) rfl <| RJ_nil <| QJ_ent (Ent.trans eR (MirP_mk (v0 := x13.legs) (v1 := x13.log) (v2 := x13.hasLog) (v3 := x13.logState) (v4 := x13.size) (v5 := x13.region) (v6 := x13.dirty) (v7 := x13.copied) (h0 := oc16.1) (h1 := oc16.2.1) (h2 := oc16.2.2.1) (h3 := oc16.2.2.2))) <| QJ_then <| CJ_condF rfl rfl <| CJ_skip <| QJ_block_normal <| QJ_then <| CJ_region <| oP (PJ_eq (P_add (a := ((x15 : Nat) : Int)) (b := (1 : Int)) rfl rfl (by omega)) rfl) rfl <| oM rfl rfl <| RJ_nil <| nR ⟨n, x13, x14, (x15 + 1)⟩ h ⟨rfl, True.intro⟩ eR
   ·
    replace h := ite_f hg1 h
    exact CJ_exit <| QJ_then_exit <| QJ_round_exit <| QJ_block_here <| cR (x13, x14) (Option.some.inj h).symm True.intro eR
 ·
  rintro a12 hy27
  replace h := seq_inl hK8 hy27
  show CJ _ _ _ _ _ (([] : Slots) ++ forget _ _) (MirP bs bm a12.1 :: Arr bs a12.2 :: _)
  refine sR <| oM rfl rfl ?_
  obtain ⟨r28, hr29, h⟩ := bind_e h
  refine oO <| O_call (L_mirror_Mirror_result hr29) rfl Try.call31 (Dels.cons del0 (Dels.cons del0 Dels.nil)) rfl fun _ _ => oA rfl rfl <| nT <| CJ_ret ?_
  cases h
  exact fE (res1 Try.results34 rfl) () (t0_ (t1_ (t1_ (t1_ (t1_ (t1_ (t1_ eR)))))))
def mirror_Mirror_spread (m : MirS) (at_1 : Int) (w : UInt64) (from_3 : Int) (bad : List Int) (s : ArrS) : Option (Int × MirS × ArrS) :=
  Option.bind (mirror_Mirror_each__mirror_Mirror_spread_1 m from_3 bad at_1 w s) fun r9 =>
  if (r9.1 ≠ (0 : Int)) then
    some (r9.1, r9.2.1, r9.2.2)
  else
    Option.bind (mirror_Mirror_follow r9.2.1 at_1 w r9.2.2) fun r11 =>
    some (r11.1, r11.2.1, r11.2.2)
theorem L_mirror_Mirror_spread {W : World} {bm : Nat} {Abad : HP} {vbad : Value} {bs : Nat} {m : MirS} {at_1 : Int} {w : UInt64} {from_3 : Int} {bad : List Int} {s : ArrS} {r : Int × MirS × ArrS} (rbad : Reads Abad tyI vbad bad) (h : mirror_Mirror_spread m at_1 w from_3 bad s = some r) :
    CSpec Try.prog W 33 [ptr bm 0, .int .i64 at_1, .int .u64 (w.toNat : Int), .int .i64 from_3, vbad] [MirP bs bm m, Abad, Arr bs s] (fun x : Unit => .int .i64 r.1) (fun _ => True) (fun x F => MirP bs bm r.2.1 :: Abad :: Arr bs r.2.2 :: F) := by
 refine CSpec.of_body Try.func33 rfl Try.ntmps33 rfl fun F => ?_
 show CJ _ _ _ _ _ _ (_ :: _ :: _ :: F)
 unfold mirror_Mirror_spread at h
 refine CJ_pure (len_of rbad del1) fun hlen1 => sR <| oO <| O_box rfl rfl rfl fun b2 => oO <| O_box rfl rfl rfl fun b3 => oO <| O_box rfl rfl rfl fun b4 => oO <| O_box rfl rfl rfl fun b5 => RJ_pure (reads_sl3 rbad del5) fun hsv7 => ?_
 obtain ⟨sv6, hsv7⟩ := hsv7
 subst hsv7
 refine oO <| O_box rfl rfl rfl fun b8 => oA rfl rfl <| nT <| sR <| oV (V_load rfl foc4 rfl Try.isAgg38) rfl <| oP (P_makeFunc rfl rfl) rfl <| oP (P_makeFunc rfl rfl) rfl ?_
 obtain ⟨r9, hr10, h⟩ := bind_e h
 refine oO <| O_call (L_mirror_Mirror_each__mirror_Mirror_spread_1 rbad hr10) rfl Try.call34 (Dels.cons del5 (Dels.cons del1 (Dels.cons del0 (Dels.cons del3 (Dels.cons del2 (Dels.cons del1 (Dels.cons del0 (Dels.cons del0 Dels.nil)))))))) rfl fun _ _ => oA rfl rfl <| RJ_nil <| QJ_ent (t0_ (t2_ (t2_ (t2_ (t2_ (t2_ (eD (eD eR)))))))) <| QJ_then <| CJ_seq <| sR <| oM rfl rfl <| oP (P_neq (a := r9.1) (b := (0 : Int)) rfl rfl) rfl <| nT <| CJ_condP rfl bT_dec (fun hg1 => ?_) (fun hg1 => ?_)
 ·
  replace h := ite_t hg1 h
  refine sR <| oM rfl rfl <| oA rfl rfl <| nT <| CJ_ret <| QJ_then_ret ?_
  cases h
  exact fE (res1 Try.results33 rfl) () (t0_ (t0_ (t3_ (eD (eD (eD eR))))))
 ·
  replace h := ite_f hg1 h
  refine kT <| sR <| oV (V_load rfl foc2 rfl Try.isAgg38) rfl <| oV (V_load rfl foc3 rfl Try.isAgg3) rfl <| oV (V_load rfl foc4 rfl Try.isAgg33) rfl ?_
  obtain ⟨r11, hr12, h⟩ := bind_e h
  refine oO <| O_call (L_mirror_Mirror_follow hr12) rfl Try.call48 (Dels.cons del0 (Dels.cons del4 Dels.nil)) rfl fun _ _ => oA rfl rfl <| nT <| CJ_ret ?_
  cases h
  exact fE (res1 Try.results33 rfl) () (t0_ (t1_ (t0_ (eD (eD (eD eR))))))
def mirror_Mirror_Read_1 (i : Int) (p1 : List Int) : Option (Bool) :=
  Option.bind (slices_Contains_int p1 i) fun r2 =>
  some r2
theorem L_mirror_Mirror_Read_1 {W : World} {bp1 : Nat} {Ap1 : HP} {vp1 : Value} {i : Int} {p1 : List Int} {r : Bool} (rp1 : Reads Ap1 tyI vp1 p1) (h : mirror_Mirror_Read_1 i p1 = some r) :
    CSpec Try.prog W 35 [.int .i64 i, ptr bp1 0] [blk bp1 22 [vp1], Ap1] (fun x : Unit => .bool r) (fun _ => True) (fun x F => blk bp1 22 [vp1] :: Ap1 :: F) := by
 refine CSpec.of_body Try.func35 rfl Try.ntmps35 rfl fun F => ?_
 show CJ _ _ _ _ _ _ (_ :: _ :: F)
 unfold mirror_Mirror_Read_1 at h
 refine CJ_pure (len_of rp1 del1) fun hlen1 => sR <| oA rfl rfl <| nT <| sR <| oV (V_load rfl foc0 rfl Try.isAgg22) rfl <| oM rfl rfl ?_
 obtain ⟨r2, hr3, h⟩ := bind_e h
 refine oO <| O_call (L_slices_Contains_int rp1 hr3) rfl Try.call36 (Dels.cons del1 Dels.nil) rfl fun _ _ => oA rfl rfl <| nT <| CJ_ret ?_
 cases h
 exact fE (res1 Try.results35 rfl) () (t1_ eR)
def mirror_Mirror_Read_2 (i : Int) (p1_v : MirS) (p2 : Int) (p3 : UInt64) (s : ArrS) : Option (Int × ArrS) :=
  grd (decide (0 ≤ i ∧ i < (p1_v.legs.length : Int))) <|
  Option.bind (Dvc.wr ((p1_v.legs.getD ((i).toNat) mleg_x0).dev) s p2 p3) fun r8 =>
  some (r8.1, r8.2)
theorem L_mirror_Mirror_Read_2 {W : World} {bp1 : Nat} {bp1_v : Nat} {bp2 : Nat} {bp3 : Nat} {bs : Nat} {i : Int} {p1_v : MirS} {p2 : Int} {p3 : UInt64} {s : ArrS} {r : Int × ArrS} (h : mirror_Mirror_Read_2 i p1_v p2 p3 s = some r) :
    CSpec Try.prog W 37 [.int .i64 i, ptr bp1 0, ptr bp2 0, ptr bp3 0] [blk bp1 38 [ptr bp1_v 0], MirP bs bp1_v p1_v, blk bp2 3 [.int .i64 p2], blk bp3 33 [.int .u64 (p3.toNat : Int)], Arr bs s] (fun x : Unit => .int .i64 r.1) (fun _ => True) (fun x F => blk bp1 38 [ptr bp1_v 0] :: MirP bs bp1_v p1_v :: blk bp2 3 [.int .i64 p2] :: blk bp3 33 [.int .u64 (p3.toNat : Int)] :: Arr bs r.2 :: F) := by
 refine CSpec.of_body Try.func37 rfl Try.ntmps37 rfl fun F => ?_
 show CJ _ _ _ _ _ _ (_ :: _ :: _ :: _ :: _ :: F)
 unfold mirror_Mirror_Read_2 at h
 refine sR <| oA rfl rfl <| nT <| CJ_seq <| CJ_entX (Ent.transX (t1_ eR) (MirP_open (l := p1_v))) fun oc1 => CJ_pure (fun h hh => Rs_len (stars_perm (del2 (A := Rs (DevP bs) (p1_v.legs.map mlegS.dev) oc1.2.1)).out h hh)) fun hdl3 => lC del1 fun hlen4 => ?_
 rw [mk_mleg_len (by have := hdl3; simpa using this)] at hlen4
 refine lC del4 fun hlen5 => AJ_startH 1024 (by kernel_rfl) rfl <| aV 0 1 rfl rfl (GY_none rfl) eR (V_load rfl foc5 rfl Try.isAgg38) rfl <| aN 1 3 rfl rfl (P_nilCheck rfl) rfl <| aN 2 7 rfl rfl (P_fieldAddr rfl ⟨_, _, _, Try.runUnderlying74, rfl, rfl, Try.sizeOf70, rfl⟩) rfl <| aV 3 15 rfl rfl (GY_none rfl) eR (V_load rfl foc0 rfl Try.isAgg70) rfl <| aN 4 31 rfl rfl (P_move rfl) rfl ?_
 obtain ⟨hg1, h⟩ := grd_de h
 refine aV 5 63 rfl rfl (GY_none rfl) eR (V_index (i := (i).toNat) rfl rfl (Int.toNat_of_nonneg (hg1.1)).symm (show (i).toNat < (mk_mleg p1_v.legs oc1.2.1).length by rw [mk_mleg_len (by have := hdl3; simpa using this)]; exact (by omega)) foc1 (Reads.sl _ _ _) Try.runUnderlying70 Try.sizeOf83) rfl <| aN 6 127 rfl rfl (P_fieldE rfl ⟨_, _, _, Try.runUnderlying83, rfl, rfl, Try.sizeOf57, rfl⟩) rfl <| AJ_ent (Ent.trans (t2_ eR) (mk_mleg_rs (i := (i).toNat) (by omega))) <| aV 7 255 rfl rfl (GY_none rfl) (t2_ (t2_ (t1_ (t1_ (t1_ (t1_ (t1_ (t1_ (t1_ (eD eR)))))))))) (VJ_eq (V_loadE rfl rfl (show (i).toNat < (mk_mleg p1_v.legs oc1.2.1).length by rw [mk_mleg_len (by have := hdl3; simpa using this)]; exact (by omega)) foc1 (Reads.sl _ _ _) rfl rfl Try.isAgg57) (show (IfH.v ((oc1.2.1.getD ((i).toNat) tyDev.dflt)) : Value) = IfH.v ((mk_mleg p1_v.legs oc1.2.1).getD ((i).toNat) mleg_h0).dev from by rw [mk_mleg_at (by have := hdl3; simpa using this)])) rfl <| aV 8 511 rfl rfl (GY_none rfl) (t2_ (t2_ (t1_ (t1_ (t1_ (t1_ (t1_ (t1_ (t1_ (eD eR)))))))))) (V_load rfl foc6 rfl Try.isAgg3) rfl ?_
 refine aV 9 1023 rfl rfl (GY_none rfl) (t2_ (t2_ (t1_ (t1_ (t1_ (t1_ (t1_ (t1_ (t1_ (eD eR)))))))))) (V_load rfl foc7 rfl Try.isAgg33) rfl <| AJ_pure (fun h hh => DevP_dep h (stars_perm (del0 (A := DevP bs ((p1_v.legs.getD ((i).toNat) mleg_x0).dev) ((oc1.2.1.getD ((i).toNat) tyDev.dflt)))).out h hh)) fun hdp7 => ?_
 obtain ⟨r8, hr9, h⟩ := bind_e h
 refine AJ_op 10 2047 rfl (by kernel_rfl) rfl (GY_none rfl) <| O_callI rfl (dev_Write hr9 hdp7) rfl (Dels.cons del0 (Dels.cons del8 Dels.nil)) rfl fun _ _ => ⟨fun h => absurd h (by decide), ?_⟩
 refine aN 11 4095 rfl rfl (P_assign rfl) rfl <| AJ_done (by kernel_rfl) <| QJ_ent (Ent.trans (t3_ (t3_ (t2_ (t2_ (t2_ eR))))) (MirP_mk (v0 := p1_v.legs) (v1 := p1_v.log) (v2 := p1_v.hasLog) (v3 := p1_v.logState) (v4 := p1_v.size) (v5 := p1_v.region) (v6 := p1_v.dirty) (v7 := p1_v.copied) (h0 := oc1.1) (h1 := oc1.2.1) (h2 := oc1.2.2.1) (h3 := oc1.2.2.2))) <| QJ_then <| CJ_ret ?_
 cases h
 exact fE (res1 Try.results37 rfl) () (t3_ (t0_ (t2_ (t2_ (t1_ (eD eR))))))
def mirror_Mirror_each__mirror_Mirror_Read_1_l1_b (m : MirS) (choose_c0 : List Int) (do_2_c1 : Int) (do_2_c2 : UInt64) (rec : MirS → ArrS → Nat → Option ((MirS × ArrS) ⊕ (Int × MirS × ArrS))) (x13 : MirS) (x14 : ArrS) (x15 : Nat) : Option ((MirS × ArrS) ⊕ (Int × MirS × ArrS)) :=
  if (((x15 : Nat) : Int) < ((m.legs.length : Nat) : Int)) then
    grd (decide (x15 < x13.legs.length)) <|
    if ((x13.legs.getD x15 mleg_x0).state = (0 : Int)) then
      Option.bind (mirror_Mirror_Read_1 (((x15 : Nat) : Int)) choose_c0) fun r21 =>
      if r21 = true then
        Option.bind (mirror_Mirror_Read_2 (((x15 : Nat) : Int)) x13 do_2_c1 do_2_c2 x14) fun r23 =>
        Option.bind (mirror_Mirror_note x13 (((x15 : Nat) : Int)) r23.1 r23.2) fun r25 =>
        if (r25.1 ≠ (0 : Int)) then
          some (.inr (r25.1, r25.2, r23.2))
        else
          rec r25.2 r23.2 (x15 + 1)
      else
        rec x13 x14 (x15 + 1)
    else
      rec x13 x14 (x15 + 1)
  else
    some (.inl (x13, x14))
def mirror_Mirror_each__mirror_Mirror_Read_1_l1 (m : MirS) (choose_c0 : List Int) (do_2_c1 : Int) (do_2_c2 : UInt64) : Nat → MirS → ArrS → Nat → Option ((MirS × ArrS) ⊕ (Int × MirS × ArrS))
  | 0, _, _, _ => none
  | n + 1, x13, x14, x15 => mirror_Mirror_each__mirror_Mirror_Read_1_l1_b m choose_c0 do_2_c1 do_2_c2 (mirror_Mirror_each__mirror_Mirror_Read_1_l1 m choose_c0 do_2_c1 do_2_c2 n) x13 x14 x15
def mirror_Mirror_each__mirror_Mirror_Read_1 (m : MirS) (choose_c0 : List Int) (do_2_c1 : Int) (do_2_c2 : UInt64) (s : ArrS) : Option (Int × MirS × ArrS) :=
  seqO (mirror_Mirror_each__mirror_Mirror_Read_1_l1 m choose_c0 do_2_c1 do_2_c2 FUEL m s 0) fun a12 =>
  Option.bind (mirror_Mirror_result a12.1 a12.2) fun r28 =>
  some (r28, a12.1, a12.2)
theorem L_mirror_Mirror_each__mirror_Mirror_Read_1 {W : World} {bm : Nat} {bchoose_c0 : Nat} {Achoose_c0 : HP} {vchoose_c0 : Value} {bdo_2_c0 : Nat} {bdo_2_c1 : Nat} {bdo_2_c2 : Nat} {bs : Nat} {m : MirS} {choose_c0 : List Int} {do_2_c1 : Int} {do_2_c2 : UInt64} {s : ArrS} {r : Int × MirS × ArrS} (rchoose_c0 : Reads Achoose_c0 tyI vchoose_c0 choose_c0) (h : mirror_Mirror_each__mirror_Mirror_Read_1 m choose_c0 do_2_c1 do_2_c2 s = some r) :
    CSpec Try.prog W 34 [ptr bm 0, .func (.func 35) #[] #[ptr bchoose_c0 0], .func (.func 37) #[] #[ptr bdo_2_c0 0, ptr bdo_2_c1 0, ptr bdo_2_c2 0]] [MirP bs bm m, blk bchoose_c0 22 [vchoose_c0], Achoose_c0, blk bdo_2_c0 38 [ptr bm 0], blk bdo_2_c1 3 [.int .i64 do_2_c1], blk bdo_2_c2 33 [.int .u64 (do_2_c2.toNat : Int)], Arr bs s] (fun x : Unit => .int .i64 r.1) (fun _ => True) (fun x F => MirP bs bm r.2.1 :: blk bchoose_c0 22 [vchoose_c0] :: Achoose_c0 :: blk bdo_2_c0 38 [ptr bm 0] :: blk bdo_2_c1 3 [.int .i64 do_2_c1] :: blk bdo_2_c2 33 [.int .u64 (do_2_c2.toNat : Int)] :: Arr bs r.2.2 :: F) := by
 refine CSpec.of_body Try.func34 rfl Try.ntmps34 rfl fun F => ?_
 show CJ _ _ _ _ _ _ (_ :: _ :: _ :: _ :: _ :: _ :: _ :: F)
 unfold mirror_Mirror_each__mirror_Mirror_Read_1 at h
 refine CJ_pure (len_of rchoose_c0 del2) fun hlen1 => sR <| oA rfl rfl <| nT <| sR <| oM rfl rfl <| oP (P_makeFunc rfl rfl) rfl <| oA rfl rfl <| nT <| CJ_seq <| CJ_seq <| CJ_entX (Ent.transX (t0_ eR) (MirP_open (l := m))) fun oc2 => CJ_pure (fun h hh => Rs_len (stars_perm (del2 (A := Rs (DevP bs) (m.legs.map mlegS.dev) oc2.2.1)).out h hh)) fun hdl4 => lC del1 fun hlen5 => ?_
 rw [mk_mleg_len (by have := hdl4; simpa using this)] at hlen5
 refine lC del4 fun hlen6 => CJ_region <| oM rfl rfl <| oP (P_nilCheck rfl) rfl <| oP (P_fieldAddr rfl ⟨_, _, _, Try.runUnderlying74, rfl, rfl, Try.sizeOf70, rfl⟩) rfl <| oV (V_load rfl foc0 rfl Try.isAgg70) rfl <| oV (VJ_eq (V_len rfl foc1 (Reads.sl _ _ _) Try.runUnderlying70) (congrArg (fun z : Nat => Value.int .i64 (z : Int)) (mk_mleg_len (by have := hdl4; simpa using this)).symm)) rfl <| oM rfl rfl <| RJ_nil <| QJ_ent (Ent.trans eR (MirP_mk (v0 := m.legs) (v1 := m.log) (v2 := m.hasLog) (v3 := m.logState) (v4 := m.size) (v5 := m.region) (v6 := m.dirty) (v7 := m.copied) (h0 := oc2.1) (h1 := oc2.2.1) (h2 := oc2.2.2.1) (h3 := oc2.2.2.2))) <| QJ_then ?_
 obtain ⟨y9, hl7, hK8⟩ := seq_e h
 refine CJ_cutT (X := MirS × ArrS) [6, 8, 9, 17, 18, 19, 20, 21, 22, 23, 24, 25, 26, 27, 28, 29, 30, 31, 32, 33, 34, 35, 36, 37, 38, 39, 40, 41, 42, 43] (fun a12 => ([] : Slots)) (fun a12 R => MirP bs bm a12.1 :: Arr bs a12.2 :: R) (fun a12 => y9 = .inl a12) (Dels.cons del0 (Dels.cons del5 Dels.nil)) ?_ ?_
 ·
  refine CJ_block <| CJ_loopR (X := Nat × MirS × ArrS × Nat) [6, 8, 9, 17, 18, 19, 20, 21, 22, 23, 24, 25, 26, 27, 28, 29, 30, 31, 32, 33, 34, 35, 36, 37, 38, 39, 40, 41, 42, 43] (fun ⟨n, x13, x14, x15⟩ => ([(17, .int .i64 (((x15 : Nat) : Int)))] : Slots)) (fun ⟨n, x13, x14, x15⟩ R => MirP bs bm x13 :: Arr bs x14 :: R) (fun ⟨n, x13, x14, x15⟩ => mirror_Mirror_each__mirror_Mirror_Read_1_l1 m choose_c0 do_2_c1 do_2_c2 n x13 x14 x15 = some y9) (fun ⟨n, x13, x14, x15⟩ => n) ⟨FUEL, m, s, 0⟩ ?_ ?_ (t0_ (t5_ eR)) ?_
  · exact hl7
  · exact ⟨rfl, True.intro⟩
  ·
   rintro ⟨n, x13, x14, x15⟩ h
   cases n with
   | zero => exact none_e h
   | succ n => ?_
   replace h : mirror_Mirror_each__mirror_Mirror_Read_1_l1_b m choose_c0 do_2_c1 do_2_c2 (mirror_Mirror_each__mirror_Mirror_Read_1_l1 m choose_c0 do_2_c1 do_2_c2 n) x13 x14 x15 = some y9 := h
   unfold mirror_Mirror_each__mirror_Mirror_Read_1_l1_b at h
   show CJ _ _ _ _ _ (([(17, .int .i64 (((x15 : Nat) : Int)))] : Slots) ++ forget _ _) (MirP bs bm x13 :: Arr bs x14 :: _)
   refine sR <| oP (P_lss (a := ((x15 : Nat) : Int)) (b := ((m.legs.length : Nat) : Int)) rfl rfl) rfl <| nT <| CJ_seq <| CJ_condP rfl bT_dec (fun hg1 => ?_) (fun hg1 => ?_)
   ·
    replace h := ite_t hg1 h
    refine kT <| CJ_seq <| CJ_block <| sR <| oM rfl rfl <| oA rfl rfl <| nT <| CJ_seq <| CJ_entX (Ent.transX (t0_ eR) (MirP_open (l := x13))) fun oc16 => CJ_pure (fun h hh => Rs_len (stars_perm (del2 (A := Rs (DevP bs) (x13.legs.map mlegS.dev) oc16.2.1)).out h hh)) fun hdl18 => lC del1 fun hlen19 => ?_
    rw [mk_mleg_len (by have := hdl18; simpa using this)] at hlen19
    refine lC del4 fun hlen20 => CJ_region <| oM rfl rfl <| oP (P_nilCheck rfl) rfl <| oP (P_fieldAddr rfl ⟨_, _, _, Try.runUnderlying74, rfl, rfl, Try.sizeOf70, rfl⟩) rfl <| oV (V_load rfl foc0 rfl Try.isAgg70) rfl <| oM rfl rfl ?_
    obtain ⟨hg2, h⟩ := grd_de h
    refine oV (V_index (i := x15) rfl rfl rfl (show x15 < (mk_mleg x13.legs oc16.2.1).length by rw [mk_mleg_len (by have := hdl18; simpa using this)]; exact hg2) foc1 (Reads.sl _ _ _) Try.runUnderlying70 Try.sizeOf83) rfl <| oP (P_fieldE rfl ⟨_, _, _, Try.runUnderlying83, rfl, rfl, Try.sizeOf72, rfl⟩) rfl <| oV (VJ_eq (V_loadE rfl rfl (show x15 < (mk_mleg x13.legs oc16.2.1).length by rw [mk_mleg_len (by have := hdl18; simpa using this)]; exact hg2) foc1 (Reads.sl _ _ _) rfl rfl Try.isAgg72) (show (.int .i64 ((x13.legs.getD x15 mleg_x0).state) : Value) = .int .i64 ((mk_mleg x13.legs oc16.2.1).getD x15 mleg_h0).state from by rw [mk_mleg_at (by have := hdl18; simpa using this)])) rfl <| oP (P_eql (a := (x13.legs.getD x15 mleg_x0).state) (b := (0 : Int)) rfl rfl) rfl <| oM rfl rfl <| RJ_splitP 29 rfl bT_dec (fun hg3B hg3 => ?_) (fun hg3B hg3 => ?_)
    ·
     replace h := ite_t hg3 h
     refine gP (GY_yes rfl rfl rfl hg3B) (P_move rfl) rfl <| gP (GY_yes rfl rfl rfl hg3B) (P_move rfl) rfl ?_
     obtain ⟨r21, hr22, h⟩ := bind_e h
     refine RJ_gy (GY_yes rfl rfl rfl hg3B) <| O_callV rfl rfl (L_mirror_Mirror_Read_1 rchoose_c0 hr22) Try.call35 (Dels.cons del6 (Dels.cons del6 Dels.nil)) rfl fun _ _ => oP (P_pickT rfl hg3B rfl) rfl <| RJ_nil <| QJ_ent (Ent.trans (t2_ (t2_ (t2_ (t2_ (t2_ eR))))) (MirP_mk (v0 := x13.legs) (v1 := x13.log) (v2 := x13.hasLog) (v3 := x13.logState) (v4 := x13.size) (v5 := x13.region) (v6 := x13.dirty) (v7 := x13.copied) (h0 := oc16.1) (h1 := oc16.2.1) (h2 := oc16.2.2.1) (h3 := oc16.2.2.2))) <| QJ_then <| CJ_condP rfl Iff.rfl (fun hg4 => ?_) (fun hg4 => ?_)
     ·
      replace h := ite_t hg4 h
      refine sR <| oM rfl rfl <| oM rfl rfl <| oM rfl rfl <| oM rfl rfl ?_
      obtain ⟨r23, hr24, h⟩ := bind_e h
      refine oO <| O_callV rfl rfl (L_mirror_Mirror_Read_2 hr24) Try.call37 (Dels.cons del4 (Dels.cons del0 (Dels.cons del3 (Dels.cons del3 (Dels.cons del2 Dels.nil))))) rfl fun _ _ => ?_
      obtain ⟨r25, hr26, h⟩ := bind_e h
      refine oO <| O_callV rfl rfl (L_mirror_Mirror_note hr26) Try.call44 (Dels.cons del1 (Dels.cons del3 Dels.nil)) rfl fun _ _ => oA rfl rfl <| nT <| sR <| oM rfl rfl <| oP (P_neq (a := r25.1) (b := (0 : Int)) rfl rfl) rfl <| nT <| CJ_condP rfl bT_dec (fun hg5 => ?_) (fun hg5 => ?_)
      ·
       replace h := ite_t hg5 h
       refine sR <| oM rfl rfl <| oA rfl rfl <| nT <| CJ_ret <| QJ_block_ret <| QJ_then_ret <| QJ_round_ret <| QJ_block_ret <| QJ_then_ret ?_
       have hE := Option.some.inj h
       replace hE := seq_inr hK8 hE.symm
       subst hE
       exact fE (res1 Try.results34 rfl) () (t0_ (t4_ (t4_ (t1_ (t1_ (t1_ eR))))))
      ·
       replace h := ite_f hg5 h
       exact CJ_skip <| QJ_block_normal <| QJ_then <| CJ_region <| oP (PJ_eq (P_add (a := ((x15 : Nat) : Int)) (b := (1 : Int)) rfl rfl (by omega)) rfl) rfl <| oM rfl rfl <| RJ_nil <| nR ⟨n, r25.2, r23.2, (x15 + 1)⟩ h ⟨rfl, True.intro⟩ (t0_ (t0_ (t3_ (t3_ eR))))
     ·
      replace h := ite_f hg4 h
      exact CJ_skip <| QJ_block_normal <| QJ_then <| CJ_region <| oP (PJ_eq (P_add (a := ((x15 : Nat) : Int)) (b := (1 : Int)) rfl rfl (by omega)) rfl) rfl <| oM rfl rfl <| RJ_nil <| nR ⟨n, x13, x14, (x15 + 1)⟩ h ⟨rfl, True.intro⟩ (t0_ (t2_ eR))
    ·
     replace h := ite_f hg3 h
     exact RJ_gn (GY_no rfl rfl rfl hg3B) rfl rfl <| RJ_gn (GY_no rfl rfl rfl hg3B) rfl rfl <| RJ_gn (GY_no rfl rfl rfl hg3B) rfl rfl <| oP (P_pickF rfl hg3B rfl) rfl <| RJ_nil <| QJ_ent (Ent.trans eR (MirP_mk (v0 := x13.legs) (v1 := x13.log) (v2 := x13.hasLog) (v3 := x13.logState) (v4 := x13.size) (v5 := x13.region) (v6 := x13.dirty) (v7 := x13.copied) (h0 := oc16.1) (h1 := oc16.2.1) (h2 := oc16.2.2.1) (h3 := oc16.2.2.2))) <| QJ_then <| CJ_condF rfl rfl <| CJ_skip <| QJ_block_normal <| QJ_then <| CJ_region <| oP (PJ_eq (P_add (a := ((x15 : Nat) : Int)) (b := (1 : Int)) rfl rfl (by omega)) rfl) rfl <| oM rfl rfl <| RJ_nil <| nR ⟨n, x13, x14, (x15 + 1)⟩ h ⟨rfl, True.intro⟩ eR
   ·
    replace h := ite_f hg1 h
    exact CJ_exit <| QJ_then_exit <| QJ_round_exit <| QJ_block_here <| cR (x13, x14) (Option.some.inj h).symm True.intro eR
 ·
  rintro a12 hy27
  replace h := seq_inl hK8 hy27
  show CJ _ _ _ _ _ (([] : Slots) ++ forget _ _) (MirP bs bm a12.1 :: Arr bs a12.2 :: _)
  refine sR <| oM rfl rfl ?_
  obtain ⟨r28, hr29, h⟩ := bind_e h
  refine oO <| O_call (L_mirror_Mirror_result hr29) rfl Try.call31 (Dels.cons del0 (Dels.cons del0 Dels.nil)) rfl fun _ _ => oA rfl rfl <| nT <| CJ_ret ?_
  cases h
  exact fE (res1 Try.results34 rfl) () (t0_ (t1_ (t1_ (t1_ (t1_ (t1_ eR))))))
def mirror_Mirror_Read (m : MirS) (at_1 : Int) (s : ArrS) : Option (UInt64 × Int × MirS × ArrS) :=
  if (at_1 < (0 : Int)) then
    some (((0 : UInt64), (1 : Int), m, s))
  else
    if (m.size ≤ at_1) then
      some (((0 : UInt64), (1 : Int), m, s))
    else
      Option.bind (mirror_Mirror_result m s) fun r3 =>
      if (r3 ≠ (0 : Int)) then
        some (((0 : UInt64), r3, m, s))
      else
        Option.bind (mirror_Mirror_fetch m at_1 s) fun r5 =>
        if (r5.2.2.2.1 ≠ (0 : Int)) then
          some (((0 : UInt64), r5.2.2.2.1, r5.2.2.2.2, s))
        else
          grd (decide (¬ r5.2.2.2.2.region = 0)) <|
          grd (decide (0 ≤ (IntKind.i64.wrap (at_1.tdiv r5.2.2.2.2.region)) ∧ (IntKind.i64.wrap (at_1.tdiv r5.2.2.2.2.region)) < (r5.2.2.2.2.dirty.length : Int))) <|
          if (r5.2.2.2.2.dirty.getD (((IntKind.i64.wrap (at_1.tdiv r5.2.2.2.2.region))).toNat) false) = true then
            Option.bind (mirror_Mirror_spread r5.2.2.2.2 at_1 r5.1 r5.2.1 r5.2.2.1 s) fun r16 =>
            if (r16.1 ≠ (0 : Int)) then
              some (((0 : UInt64), r16.1, r16.2.1, r16.2.2))
            else
              some ((r5.1, (0 : Int), r16.2.1, r16.2.2))
          else
            Option.bind (mirror_Mirror_each__mirror_Mirror_Read_1 r5.2.2.2.2 r5.2.2.1 at_1 r5.1 s) fun r18 =>
            if (r18.1 ≠ (0 : Int)) then
              some (((0 : UInt64), r18.1, r18.2.1, r18.2.2))
            else
              some ((r5.1, (0 : Int), r18.2.1, r18.2.2))
theorem L_mirror_Mirror_Read {W : World} {bm : Nat} {bs : Nat} {m : MirS} {at_1 : Int} {s : ArrS} {r : UInt64 × Int × MirS × ArrS} (h : mirror_Mirror_Read m at_1 s = some r) :
    CSpec Try.prog W 12 [ptr bm 0, .int .i64 at_1] [MirP bs bm m, Arr bs s] (fun x : Unit => .tuple #[.int .u64 (r.1.toNat : Int), .int .i64 r.2.1]) (fun _ => True) (fun x F => MirP bs bm r.2.2.1 :: Arr bs r.2.2.2 :: F) := by
 refine CSpec.of_body Try.func12 rfl Try.ntmps12 rfl fun F => ?_
 show CJ _ _ _ _ _ _ (_ :: _ :: F)
 unfold mirror_Mirror_Read at h
 refine sR <| oO <| O_box rfl rfl rfl fun b1 => oO <| O_box rfl rfl rfl fun b2 => oA rfl rfl <| oA rfl rfl <| nT <| CJ_seq <| CJ_seq <| AJ_startH 0 (by kernel_rfl) rfl <| aV 0 1 rfl rfl (GY_none rfl) eR (V_load rfl foc0 rfl Try.isAgg3) rfl <| aN 1 3 rfl rfl (P_lss (a := at_1) (b := (0 : Int)) rfl rfl) rfl <| aN 2 7 rfl rfl (P_move rfl) rfl <| AJ_splitP 13 rfl bT_dec (fun hg1B hg1 => ?_) (fun hg1B hg1 => ?_)
 ·
  replace h := ite_t hg1 h
  refine aS 3 15 rfl rfl (GY_no rfl rfl rfl hg1B) rfl <| aS 4 31 rfl rfl (GY_no rfl rfl rfl hg1B) rfl <| aS 5 63 rfl rfl (GY_no rfl rfl rfl hg1B) rfl <| aS 6 127 rfl rfl (GY_no rfl rfl rfl hg1B) rfl <| aS 7 255 rfl rfl (GY_no rfl rfl rfl hg1B) rfl <| aS 8 511 rfl rfl (GY_no rfl rfl rfl hg1B) rfl <| aN 9 1023 rfl rfl (P_pickT rfl hg1B rfl) rfl <| aD <| CJ_condT rfl rfl <| sR <| oA rfl rfl <| oA rfl rfl <| nT <| CJ_ret <| QJ_then_ret ?_
  cases h
  exact fE (res2 Try.results12 rfl rfl) () (t2_ (t2_ (eD (eD eR))))
 ·
  replace h := ite_f hg1 h
  refine aV 3 15 rfl rfl (GY_yes rfl rfl rfl hg1B) eR (V_load rfl foc0 rfl Try.isAgg3) rfl <| aV 4 31 rfl rfl (GY_yes rfl rfl rfl hg1B) eR (V_load rfl foc1 rfl Try.isAgg38) rfl <| aP 5 63 rfl rfl (GY_yes rfl rfl rfl hg1B) (P_nilCheck rfl) rfl <| aP 6 127 rfl rfl (GY_yes rfl rfl rfl hg1B) (P_fieldAddr rfl ⟨_, _, _, Try.runUnderlying74, rfl, rfl, Try.sizeOf3, rfl⟩) rfl <| aV 7 255 rfl rfl (GY_yes rfl rfl rfl hg1B) eR (VJ_entX (Ent.transX (t2_ eR) (MirP_open (l := m))) (fun _ => V_load rfl foc0 rfl Try.isAgg3)) rfl <| aP 8 511 rfl rfl (GY_yes rfl rfl rfl hg1B) (P_geq (a := at_1) (b := m.size) rfl rfl) rfl <| aN 9 1023 rfl rfl (P_pickF rfl hg1B rfl) rfl <| aD <| CJ_condP rfl bT_dec (fun hg2 => ?_) (fun hg2 => ?_)
  ·
   replace h := ite_t hg2 h
   refine sR <| oA rfl rfl <| oA rfl rfl <| nT <| CJ_ret <| QJ_then_ret ?_
   cases h
   exact fE (res2 Try.results12 rfl rfl) () (t2_ (t2_ (eD (eD eR))))
  ·
   replace h := ite_f hg2 h
   refine kT <| CJ_seq <| sR <| oV (V_load rfl foc1 rfl Try.isAgg38) rfl ?_
   obtain ⟨r3, hr4, h⟩ := bind_e h
   refine oO <| O_call (L_mirror_Mirror_result hr4) rfl Try.call31 (Dels.cons del2 (Dels.cons del2 Dels.nil)) rfl fun _ _ => oA rfl rfl <| nT <| sR <| oM rfl rfl <| oP (P_neq (a := r3) (b := (0 : Int)) rfl rfl) rfl <| nT <| CJ_condP rfl bT_dec (fun hg3 => ?_) (fun hg3 => ?_)
   ·
    replace h := ite_t hg3 h
    refine sR <| oM rfl rfl <| oA rfl rfl <| oA rfl rfl <| nT <| CJ_ret <| QJ_then_ret ?_
    cases h
    exact fE (res2 Try.results12 rfl rfl) () (t0_ (t0_ (eD (eD eR))))
   ·
    replace h := ite_f hg3 h
    refine kT <| sR <| oV (V_load rfl foc3 rfl Try.isAgg38) rfl <| oV (V_load rfl foc2 rfl Try.isAgg3) rfl ?_
    obtain ⟨r5, hr6, h⟩ := bind_e h
    refine oO <| O_call (L_mirror_Mirror_fetch hr6) rfl Try.call32 (Dels.cons del0 (Dels.cons del0 Dels.nil)) rfl fun X7 _ => oM rfl rfl <| oP (P_extract rfl rfl) rfl <| oP (P_extract rfl rfl) rfl <| oP (P_extract (v := X7.v) rfl rfl) rfl <| oP (P_extract rfl rfl) rfl <| oO <| O_alloc Try.zeroValue33 rfl rfl fun b9 => oO <| O_alloc Try.zeroValue22 rfl rfl fun b10 => oO <| O_store rfl rfl foc1 rfl rfl Try.sizeOf33 <| oA rfl rfl <| oO <| O_store rfl rfl foc0 rfl rfl Try.sizeOf22 <| oA rfl rfl <| nT <| CJ_seq <| sR <| oM rfl rfl <| oP (P_neq (a := r5.2.2.2.1) (b := (0 : Int)) rfl rfl) rfl <| nT <| CJ_condP rfl bT_dec (fun hg4 => ?_) (fun hg4 => ?_)
    ·
     replace h := ite_t hg4 h
     refine sR <| oM rfl rfl <| oA rfl rfl <| oA rfl rfl <| RJ_nil <| QJ_ent (t2_ (t2_ (eD (eD (eD (eD (eD eR))))))) <| QJ_then <| CJ_ret <| QJ_then_ret ?_
     cases h
     exact fE (res2 Try.results12 rfl rfl) () eR
    ·
     replace h := ite_f hg4 h
     refine kT <| CJ_seq <| CJ_seq <| CJ_entX (Ent.transX (t2_ eR) (MirP_open (l := r5.2.2.2.2))) fun oc11 => CJ_pure (fun h hh => Rs_len (stars_perm (del2 (A := Rs (DevP bs) (r5.2.2.2.2.legs.map mlegS.dev) oc11.2.1)).out h hh)) fun hdl13 => lC del1 fun hlen14 => ?_
     rw [mk_mleg_len (by have := hdl13; simpa using this)] at hlen14
     refine lC del4 fun hlen15 => AJ_startH 0 (by kernel_rfl) rfl <| aV 0 1 rfl rfl (GY_none rfl) eR (V_load rfl foc10 rfl Try.isAgg38) rfl <| aN 1 3 rfl rfl (P_nilCheck rfl) rfl <| aN 2 7 rfl rfl (P_fieldAddr rfl ⟨_, _, _, Try.runUnderlying74, rfl, rfl, Try.sizeOf31, rfl⟩) rfl <| aV 3 15 rfl rfl (GY_none rfl) eR (V_load rfl foc0 rfl Try.isAgg31) rfl <| aV 4 31 rfl rfl (GY_none rfl) eR (V_load rfl foc9 rfl Try.isAgg3) rfl <| aV 5 63 rfl rfl (GY_none rfl) eR (V_load rfl foc10 rfl Try.isAgg38) rfl <| aN 6 127 rfl rfl (P_nilCheck rfl) rfl <| aN 7 255 rfl rfl (P_fieldAddr rfl ⟨_, _, _, Try.runUnderlying74, rfl, rfl, Try.sizeOf3, rfl⟩) rfl <| aV 8 511 rfl rfl (GY_none rfl) eR (V_load rfl foc0 rfl Try.isAgg3) rfl ?_
     obtain ⟨hg5, h⟩ := grd_de h
     refine aN 9 1023 rfl rfl (P_quoT (a := at_1) (b := r5.2.2.2.2.region) rfl rfl hg5) rfl ?_
     obtain ⟨hg6, h⟩ := grd_de h
     refine aV 10 2047 rfl rfl (GY_none rfl) eR (V_index (i := ((IntKind.i64.wrap (at_1.tdiv r5.2.2.2.2.region))).toNat) rfl rfl (Int.toNat_of_nonneg (hg6.1)).symm (by omega) foc4 (Reads.sl _ _ _) Try.runUnderlying31 Try.sizeOf4) rfl <| aV 11 4095 rfl rfl (GY_none rfl) eR (V_loadE rfl rfl (by omega) foc4 (Reads.sl _ _ _) rfl rfl Try.isAgg4) rfl <| AJ_done (by kernel_rfl) <| QJ_ent (Ent.trans eR (MirP_mk (v0 := r5.2.2.2.2.legs) (v1 := r5.2.2.2.2.log) (v2 := r5.2.2.2.2.hasLog) (v3 := r5.2.2.2.2.logState) (v4 := r5.2.2.2.2.size) (v5 := r5.2.2.2.2.region) (v6 := r5.2.2.2.2.dirty) (v7 := r5.2.2.2.2.copied) (h0 := oc11.1) (h1 := oc11.2.1) (h2 := oc11.2.2.1) (h3 := oc11.2.2.2))) <| QJ_then <| CJ_condP rfl Iff.rfl (fun hg7 => ?_) (fun hg7 => ?_)
     ·
      replace h := ite_t hg7 h
      refine CJ_region <| oV (V_load rfl foc6 rfl Try.isAgg38) rfl <| oV (V_load rfl foc5 rfl Try.isAgg3) rfl <| oV (V_load rfl foc2 rfl Try.isAgg33) rfl <| oM rfl rfl <| oV (V_load rfl foc1 rfl Try.isAgg22) rfl ?_
      obtain ⟨r16, hr17, h⟩ := bind_e h
      refine oO <| O_call (L_mirror_Mirror_spread (Reads.sl _ _ _) hr17) rfl Try.call33 (Dels.cons del0 (Dels.cons del3 (Dels.cons del2 Dels.nil))) rfl fun _ _ => oA rfl rfl <| RJ_nil <| QJ_ent (t0_ (t1_ (t2_ (eD (eD (eD (eD eR))))))) <| QJ_then <| CJ_seq <| sR <| oM rfl rfl <| oP (P_neq (a := r16.1) (b := (0 : Int)) rfl rfl) rfl <| nT <| CJ_condP rfl bT_dec (fun hg8 => ?_) (fun hg8 => ?_)
      ·
       replace h := ite_t hg8 h
       refine sR <| oM rfl rfl <| oA rfl rfl <| oA rfl rfl <| nT <| CJ_ret <| QJ_then_ret ?_
       cases h
       exact fE (res2 Try.results12 rfl rfl) () (t0_ (t0_ (eD eR)))
      ·
       replace h := ite_f hg8 h
       refine kT <| sR <| oV (V_load rfl foc2 rfl Try.isAgg33) rfl <| oA rfl rfl <| oA rfl rfl <| nT <| CJ_ret ?_
       cases h
       exact fE (res2 Try.results12 rfl rfl) () (t0_ (t0_ (eD eR)))
     ·
      replace h := ite_f hg7 h
      refine CJ_region <| oV (V_load rfl foc6 rfl Try.isAgg38) rfl <| oP (P_makeFunc rfl rfl) rfl <| oP (P_makeFunc rfl rfl) rfl ?_
      obtain ⟨r18, hr19, h⟩ := bind_e h
      refine oO <| O_call (L_mirror_Mirror_each__mirror_Mirror_Read_1 (Reads.sl _ _ _) hr19) rfl Try.call34 (Dels.cons del0 (Dels.cons del0 (Dels.cons del2 (Dels.cons del3 (Dels.cons del2 (Dels.cons del0 (Dels.cons del0 Dels.nil))))))) rfl fun _ _ => oA rfl rfl <| RJ_nil <| QJ_ent (t0_ (t4_ (t4_ (eD (eD (eD (eD eR))))))) <| QJ_then <| CJ_seq <| sR <| oM rfl rfl <| oP (P_neq (a := r18.1) (b := (0 : Int)) rfl rfl) rfl <| nT <| CJ_condP rfl bT_dec (fun hg9 => ?_) (fun hg9 => ?_)
      ·
       replace h := ite_t hg9 h
       refine sR <| oM rfl rfl <| oA rfl rfl <| oA rfl rfl <| nT <| CJ_ret <| QJ_then_ret ?_
       cases h
       exact fE (res2 Try.results12 rfl rfl) () (t0_ (t1_ (eD eR)))
      ·
       replace h := ite_f hg9 h
       refine kT <| sR <| oV (V_load rfl foc1 rfl Try.isAgg33) rfl <| oA rfl rfl <| oA rfl rfl <| nT <| CJ_ret ?_
       cases h
       exact fE (res2 Try.results12 rfl rfl) () (t0_ (t1_ (eD eR)))
def mirror_every (p0 : Int) : Option (Bool) :=
  some true
theorem L_mirror_every {W : World} {p0 : Int} {r : Bool} (h : mirror_every p0 = some r) :
    CSpec Try.prog W 46 [.int .i64 p0] [] (fun x : Unit => .bool r) (fun _ => True) (fun x F => F) := by
 refine CSpec.of_body Try.func46 rfl Try.ntmps46 rfl fun F => ?_
 show CJ _ _ _ _ _ _ (F)
 unfold mirror_every at h
 refine sR <| oA rfl rfl <| nT <| sR <| oA rfl rfl <| nT <| CJ_ret ?_
 cases h
 exact fE (res1 Try.results46 rfl) () eR
def mirror_Mirror_Write_1 (i : Int) (p1_v : MirS) (p2 : Int) (p3 : UInt64) (s : ArrS) : Option (Int × ArrS) :=
  grd (decide (0 ≤ i ∧ i < (p1_v.legs.length : Int))) <|
  Option.bind (Dvc.wr ((p1_v.legs.getD ((i).toNat) mleg_x0).dev) s p2 p3) fun r8 =>
  some (r8.1, r8.2)
theorem L_mirror_Mirror_Write_1 {W : World} {bp1 : Nat} {bp1_v : Nat} {bp2 : Nat} {bp3 : Nat} {bs : Nat} {i : Int} {p1_v : MirS} {p2 : Int} {p3 : UInt64} {s : ArrS} {r : Int × ArrS} (h : mirror_Mirror_Write_1 i p1_v p2 p3 s = some r) :
    CSpec Try.prog W 47 [.int .i64 i, ptr bp1 0, ptr bp2 0, ptr bp3 0] [blk bp1 38 [ptr bp1_v 0], MirP bs bp1_v p1_v, blk bp2 3 [.int .i64 p2], blk bp3 33 [.int .u64 (p3.toNat : Int)], Arr bs s] (fun x : Unit => .int .i64 r.1) (fun _ => True) (fun x F => blk bp1 38 [ptr bp1_v 0] :: MirP bs bp1_v p1_v :: blk bp2 3 [.int .i64 p2] :: blk bp3 33 [.int .u64 (p3.toNat : Int)] :: Arr bs r.2 :: F) := by
 refine CSpec.of_body Try.func47 rfl Try.ntmps47 rfl fun F => ?_
 show CJ _ _ _ _ _ _ (_ :: _ :: _ :: _ :: _ :: F)
 unfold mirror_Mirror_Write_1 at h
 refine sR <| oA rfl rfl <| nT <| CJ_seq <| CJ_entX (Ent.transX (t1_ eR) (MirP_open (l := p1_v))) fun oc1 => CJ_pure (fun h hh => Rs_len (stars_perm (del2 (A := Rs (DevP bs) (p1_v.legs.map mlegS.dev) oc1.2.1)).out h hh)) fun hdl3 => lC del1 fun hlen4 => ?_
 rw [mk_mleg_len (by have := hdl3; simpa using this)] at hlen4
 refine lC del4 fun hlen5 => AJ_startH 1024 (by kernel_rfl) rfl <| aV 0 1 rfl rfl (GY_none rfl) eR (V_load rfl foc5 rfl Try.isAgg38) rfl <| aN 1 3 rfl rfl (P_nilCheck rfl) rfl <| aN 2 7 rfl rfl (P_fieldAddr rfl ⟨_, _, _, Try.runUnderlying74, rfl, rfl, Try.sizeOf70, rfl⟩) rfl <| aV 3 15 rfl rfl (GY_none rfl) eR (V_load rfl foc0 rfl Try.isAgg70) rfl <| aN 4 31 rfl rfl (P_move rfl) rfl ?_
 obtain ⟨hg1, h⟩ := grd_de h
 refine aV 5 63 rfl rfl (GY_none rfl) eR (V_index (i := (i).toNat) rfl rfl (Int.toNat_of_nonneg (hg1.1)).symm (show (i).toNat < (mk_mleg p1_v.legs oc1.2.1).length by rw [mk_mleg_len (by have := hdl3; simpa using this)]; exact (by omega)) foc1 (Reads.sl _ _ _) Try.runUnderlying70 Try.sizeOf83) rfl <| aN 6 127 rfl rfl (P_fieldE rfl ⟨_, _, _, Try.runUnderlying83, rfl, rfl, Try.sizeOf57, rfl⟩) rfl <| AJ_ent (Ent.trans (t2_ eR) (mk_mleg_rs (i := (i).toNat) (by omega))) <| aV 7 255 rfl rfl (GY_none rfl) (t2_ (t2_ (t1_ (t1_ (t1_ (t1_ (t1_ (t1_ (t1_ (eD eR)))))))))) (VJ_eq (V_loadE rfl rfl (show (i).toNat < (mk_mleg p1_v.legs oc1.2.1).length by rw [mk_mleg_len (by have := hdl3; simpa using this)]; exact (by omega)) foc1 (Reads.sl _ _ _) rfl rfl Try.isAgg57) (show (IfH.v ((oc1.2.1.getD ((i).toNat) tyDev.dflt)) : Value) = IfH.v ((mk_mleg p1_v.legs oc1.2.1).getD ((i).toNat) mleg_h0).dev from by rw [mk_mleg_at (by have := hdl3; simpa using this)])) rfl <| aV 8 511 rfl rfl (GY_none rfl) (t2_ (t2_ (t1_ (t1_ (t1_ (t1_ (t1_ (t1_ (t1_ (eD eR)))))))))) (V_load rfl foc6 rfl Try.isAgg3) rfl ?_
 refine aV 9 1023 rfl rfl (GY_none rfl) (t2_ (t2_ (t1_ (t1_ (t1_ (t1_ (t1_ (t1_ (t1_ (eD eR)))))))))) (V_load rfl foc7 rfl Try.isAgg33) rfl <| AJ_pure (fun h hh => DevP_dep h (stars_perm (del0 (A := DevP bs ((p1_v.legs.getD ((i).toNat) mleg_x0).dev) ((oc1.2.1.getD ((i).toNat) tyDev.dflt)))).out h hh)) fun hdp7 => ?_
 obtain ⟨r8, hr9, h⟩ := bind_e h
 refine AJ_op 10 2047 rfl (by kernel_rfl) rfl (GY_none rfl) <| O_callI rfl (dev_Write hr9 hdp7) rfl (Dels.cons del0 (Dels.cons del8 Dels.nil)) rfl fun _ _ => ⟨fun h => absurd h (by decide), ?_⟩
 refine aN 11 4095 rfl rfl (P_assign rfl) rfl <| AJ_done (by kernel_rfl) <| QJ_ent (Ent.trans (t3_ (t3_ (t2_ (t2_ (t2_ eR))))) (MirP_mk (v0 := p1_v.legs) (v1 := p1_v.log) (v2 := p1_v.hasLog) (v3 := p1_v.logState) (v4 := p1_v.size) (v5 := p1_v.region) (v6 := p1_v.dirty) (v7 := p1_v.copied) (h0 := oc1.1) (h1 := oc1.2.1) (h2 := oc1.2.2.1) (h3 := oc1.2.2.2))) <| QJ_then <| CJ_ret ?_
 cases h
 exact fE (res1 Try.results47 rfl) () (t3_ (t0_ (t2_ (t2_ (t1_ (eD eR))))))
def mirror_Mirror_each__mirror_every_l1_b (m : MirS) (do_2_c1 : Int) (do_2_c2 : UInt64) (rec : MirS → ArrS → Nat → Option ((MirS × ArrS) ⊕ (Int × MirS × ArrS))) (x12 : MirS) (x13 : ArrS) (x14 : Nat) : Option ((MirS × ArrS) ⊕ (Int × MirS × ArrS)) :=
  if (((x14 : Nat) : Int) < ((m.legs.length : Nat) : Int)) then
    grd (decide (x14 < x12.legs.length)) <|
    if ((x12.legs.getD x14 mleg_x0).state = (0 : Int)) then
      Option.bind (mirror_every (((x14 : Nat) : Int))) fun r20 =>
      if r20 = true then
        Option.bind (mirror_Mirror_Write_1 (((x14 : Nat) : Int)) x12 do_2_c1 do_2_c2 x13) fun r22 =>
        Option.bind (mirror_Mirror_note x12 (((x14 : Nat) : Int)) r22.1 r22.2) fun r24 =>
        if (r24.1 ≠ (0 : Int)) then
          some (.inr (r24.1, r24.2, r22.2))
        else
          rec r24.2 r22.2 (x14 + 1)
      else
        rec x12 x13 (x14 + 1)
    else
      rec x12 x13 (x14 + 1)
  else
    some (.inl (x12, x13))
def mirror_Mirror_each__mirror_every_l1 (m : MirS) (do_2_c1 : Int) (do_2_c2 : UInt64) : Nat → MirS → ArrS → Nat → Option ((MirS × ArrS) ⊕ (Int × MirS × ArrS))
  | 0, _, _, _ => none
  | n + 1, x12, x13, x14 => mirror_Mirror_each__mirror_every_l1_b m do_2_c1 do_2_c2 (mirror_Mirror_each__mirror_every_l1 m do_2_c1 do_2_c2 n) x12 x13 x14
def mirror_Mirror_each__mirror_every (m : MirS) (do_2_c1 : Int) (do_2_c2 : UInt64) (s : ArrS) : Option (Int × MirS × ArrS) :=
  seqO (mirror_Mirror_each__mirror_every_l1 m do_2_c1 do_2_c2 FUEL m s 0) fun a11 =>
  Option.bind (mirror_Mirror_result a11.1 a11.2) fun r27 =>
  some (r27, a11.1, a11.2)
theorem L_mirror_Mirror_each__mirror_every {W : World} {bm : Nat} {bdo_2_c0 : Nat} {bdo_2_c1 : Nat} {bdo_2_c2 : Nat} {bs : Nat} {m : MirS} {do_2_c1 : Int} {do_2_c2 : UInt64} {s : ArrS} {r : Int × MirS × ArrS} (h : mirror_Mirror_each__mirror_every m do_2_c1 do_2_c2 s = some r) :
    CSpec Try.prog W 34 [ptr bm 0, .func (.func 46) #[] #[], .func (.func 47) #[] #[ptr bdo_2_c0 0, ptr bdo_2_c1 0, ptr bdo_2_c2 0]] [MirP bs bm m, blk bdo_2_c0 38 [ptr bm 0], blk bdo_2_c1 3 [.int .i64 do_2_c1], blk bdo_2_c2 33 [.int .u64 (do_2_c2.toNat : Int)], Arr bs s] (fun x : Unit => .int .i64 r.1) (fun _ => True) (fun x F => MirP bs bm r.2.1 :: blk bdo_2_c0 38 [ptr bm 0] :: blk bdo_2_c1 3 [.int .i64 do_2_c1] :: blk bdo_2_c2 33 [.int .u64 (do_2_c2.toNat : Int)] :: Arr bs r.2.2 :: F) := by
 refine CSpec.of_body Try.func34 rfl Try.ntmps34 rfl fun F => ?_
 show CJ _ _ _ _ _ _ (_ :: _ :: _ :: _ :: _ :: F)
 unfold mirror_Mirror_each__mirror_every at h
 refine sR <| oA rfl rfl <| nT <| sR <| oM rfl rfl <| oP (P_makeFunc rfl rfl) rfl <| oA rfl rfl <| nT <| CJ_seq <| CJ_seq <| CJ_entX (Ent.transX (t0_ eR) (MirP_open (l := m))) fun oc1 => CJ_pure (fun h hh => Rs_len (stars_perm (del2 (A := Rs (DevP bs) (m.legs.map mlegS.dev) oc1.2.1)).out h hh)) fun hdl3 => lC del1 fun hlen4 => ?_
 rw [mk_mleg_len (by have := hdl3; simpa using this)] at hlen4
 refine lC del4 fun hlen5 => CJ_region <| oM rfl rfl <| oP (P_nilCheck rfl) rfl <| oP (P_fieldAddr rfl ⟨_, _, _, Try.runUnderlying74, rfl, rfl, Try.sizeOf70, rfl⟩) rfl <| oV (V_load rfl foc0 rfl Try.isAgg70) rfl <| oV (VJ_eq (V_len rfl foc1 (Reads.sl _ _ _) Try.runUnderlying70) (congrArg (fun z : Nat => Value.int .i64 (z : Int)) (mk_mleg_len (by have := hdl3; simpa using this)).symm)) rfl <| oM rfl rfl <| RJ_nil <| QJ_ent (Ent.trans eR (MirP_mk (v0 := m.legs) (v1 := m.log) (v2 := m.hasLog) (v3 := m.logState) (v4 := m.size) (v5 := m.region) (v6 := m.dirty) (v7 := m.copied) (h0 := oc1.1) (h1 := oc1.2.1) (h2 := oc1.2.2.1) (h3 := oc1.2.2.2))) <| QJ_then ?_
 obtain ⟨y8, hl6, hK7⟩ := seq_e h
 refine CJ_cutT (X := MirS × ArrS) [6, 8, 9, 17, 18, 19, 20, 21, 22, 23, 24, 25, 26, 27, 28, 29, 30, 31, 32, 33, 34, 35, 36, 37, 38, 39, 40, 41, 42, 43] (fun a11 => ([] : Slots)) (fun a11 R => MirP bs bm a11.1 :: Arr bs a11.2 :: R) (fun a11 => y8 = .inl a11) (Dels.cons del0 (Dels.cons del3 Dels.nil)) ?_ ?_
 ·
  refine CJ_block <| CJ_loopR (X := Nat × MirS × ArrS × Nat) [6, 8, 9, 17, 18, 19, 20, 21, 22, 23, 24, 25, 26, 27, 28, 29, 30, 31, 32, 33, 34, 35, 36, 37, 38, 39, 40, 41, 42, 43] (fun ⟨n, x12, x13, x14⟩ => ([(17, .int .i64 (((x14 : Nat) : Int)))] : Slots)) (fun ⟨n, x12, x13, x14⟩ R => MirP bs bm x12 :: Arr bs x13 :: R) (fun ⟨n, x12, x13, x14⟩ => mirror_Mirror_each__mirror_every_l1 m do_2_c1 do_2_c2 n x12 x13 x14 = some y8) (fun ⟨n, x12, x13, x14⟩ => n) ⟨FUEL, m, s, 0⟩ ?_ ?_ (t0_ (t3_ eR)) ?_
  · exact hl6
  · exact ⟨rfl, True.intro⟩
  ·
   rintro ⟨n, x12, x13, x14⟩ h
   cases n with
   | zero => exact none_e h
   | succ n => ?_
   replace h : mirror_Mirror_each__mirror_every_l1_b m do_2_c1 do_2_c2 (mirror_Mirror_each__mirror_every_l1 m do_2_c1 do_2_c2 n) x12 x13 x14 = some y8 := h
   unfold mirror_Mirror_each__mirror_every_l1_b at h
   show CJ _ _ _ _ _ (([(17, .int .i64 (((x14 : Nat) : Int)))] : Slots) ++ forget _ _) (MirP bs bm x12 :: Arr bs x13 :: _)
   refine sR <| oP (P_lss (a := ((x14 : Nat) : Int)) (b := ((m.legs.length : Nat) : Int)) rfl rfl) rfl <| nT <| CJ_seq <| CJ_condP rfl bT_dec (fun hg1 => ?_) (fun hg1 => ?_)
   ·
    replace h := ite_t hg1 h
    refine kT <| CJ_seq <| CJ_block <| sR <| oM rfl rfl <| oA rfl rfl <| nT <| CJ_seq <| CJ_entX (Ent.transX (t0_ eR) (MirP_open (l := x12))) fun oc15 => CJ_pure (fun h hh => Rs_len (stars_perm (del2 (A := Rs (DevP bs) (x12.legs.map mlegS.dev) oc15.2.1)).out h hh)) fun hdl17 => lC del1 fun hlen18 => ?_
    rw [mk_mleg_len (by have := hdl17; simpa using this)] at hlen18
    refine lC del4 fun hlen19 => CJ_region <| oM rfl rfl <| oP (P_nilCheck rfl) rfl <| oP (P_fieldAddr rfl ⟨_, _, _, Try.runUnderlying74, rfl, rfl, Try.sizeOf70, rfl⟩) rfl <| oV (V_load rfl foc0 rfl Try.isAgg70) rfl <| oM rfl rfl ?_
    obtain ⟨hg2, h⟩ := grd_de h
    refine oV (V_index (i := x14) rfl rfl rfl (show x14 < (mk_mleg x12.legs oc15.2.1).length by rw [mk_mleg_len (by have := hdl17; simpa using this)]; exact hg2) foc1 (Reads.sl _ _ _) Try.runUnderlying70 Try.sizeOf83) rfl <| oP (P_fieldE rfl ⟨_, _, _, Try.runUnderlying83, rfl, rfl, Try.sizeOf72, rfl⟩) rfl <| oV (VJ_eq (V_loadE rfl rfl (show x14 < (mk_mleg x12.legs oc15.2.1).length by rw [mk_mleg_len (by have := hdl17; simpa using this)]; exact hg2) foc1 (Reads.sl _ _ _) rfl rfl Try.isAgg72) (show (.int .i64 ((x12.legs.getD x14 mleg_x0).state) : Value) = .int .i64 ((mk_mleg x12.legs oc15.2.1).getD x14 mleg_h0).state from by rw [mk_mleg_at (by have := hdl17; simpa using this)])) rfl <| oP (P_eql (a := (x12.legs.getD x14 mleg_x0).state) (b := (0 : Int)) rfl rfl) rfl <| oM rfl rfl <| RJ_splitP 29 rfl bT_dec (fun hg3B hg3 => ?_) (fun hg3B hg3 => ?_)
    ·
     replace h := ite_t hg3 h
     refine gP (GY_yes rfl rfl rfl hg3B) (P_move rfl) rfl <| gP (GY_yes rfl rfl rfl hg3B) (P_move rfl) rfl ?_
     obtain ⟨r20, hr21, h⟩ := bind_e h
     refine RJ_gy (GY_yes rfl rfl rfl hg3B) <| O_callV rfl rfl (L_mirror_every hr21) Try.call46 Dels.nil rfl fun _ _ => oP (P_pickT rfl hg3B rfl) rfl <| RJ_nil <| QJ_ent (Ent.trans eR (MirP_mk (v0 := x12.legs) (v1 := x12.log) (v2 := x12.hasLog) (v3 := x12.logState) (v4 := x12.size) (v5 := x12.region) (v6 := x12.dirty) (v7 := x12.copied) (h0 := oc15.1) (h1 := oc15.2.1) (h2 := oc15.2.2.1) (h3 := oc15.2.2.2))) <| QJ_then <| CJ_condP rfl Iff.rfl (fun hg4 => ?_) (fun hg4 => ?_)
     ·
      replace h := ite_t hg4 h
      refine sR <| oM rfl rfl <| oM rfl rfl <| oM rfl rfl <| oM rfl rfl ?_
      obtain ⟨r22, hr23, h⟩ := bind_e h
      refine oO <| O_callV rfl rfl (L_mirror_Mirror_Write_1 hr23) Try.call47 (Dels.cons del2 (Dels.cons del0 (Dels.cons del1 (Dels.cons del1 (Dels.cons del0 Dels.nil))))) rfl fun _ _ => ?_
      obtain ⟨r24, hr25, h⟩ := bind_e h
      refine oO <| O_callV rfl rfl (L_mirror_Mirror_note hr25) Try.call44 (Dels.cons del1 (Dels.cons del3 Dels.nil)) rfl fun _ _ => oA rfl rfl <| nT <| sR <| oM rfl rfl <| oP (P_neq (a := r24.1) (b := (0 : Int)) rfl rfl) rfl <| nT <| CJ_condP rfl bT_dec (fun hg5 => ?_) (fun hg5 => ?_)
      ·
       replace h := ite_t hg5 h
       refine sR <| oM rfl rfl <| oA rfl rfl <| nT <| CJ_ret <| QJ_block_ret <| QJ_then_ret <| QJ_round_ret <| QJ_block_ret <| QJ_then_ret ?_
       have hE := Option.some.inj h
       replace hE := seq_inr hK7 hE.symm
       subst hE
       exact fE (res1 Try.results34 rfl) () (t0_ (t1_ (t1_ (t1_ eR))))
      ·
       replace h := ite_f hg5 h
       exact CJ_skip <| QJ_block_normal <| QJ_then <| CJ_region <| oP (PJ_eq (P_add (a := ((x14 : Nat) : Int)) (b := (1 : Int)) rfl rfl (by omega)) rfl) rfl <| oM rfl rfl <| RJ_nil <| nR ⟨n, r24.2, r22.2, (x14 + 1)⟩ h ⟨rfl, True.intro⟩ eR
     ·
      replace h := ite_f hg4 h
      exact CJ_skip <| QJ_block_normal <| QJ_then <| CJ_region <| oP (PJ_eq (P_add (a := ((x14 : Nat) : Int)) (b := (1 : Int)) rfl rfl (by omega)) rfl) rfl <| oM rfl rfl <| RJ_nil <| nR ⟨n, x12, x13, (x14 + 1)⟩ h ⟨rfl, True.intro⟩ eR
    ·
     replace h := ite_f hg3 h
     exact RJ_gn (GY_no rfl rfl rfl hg3B) rfl rfl <| RJ_gn (GY_no rfl rfl rfl hg3B) rfl rfl <| RJ_gn (GY_no rfl rfl rfl hg3B) rfl rfl <| oP (P_pickF rfl hg3B rfl) rfl <| RJ_nil <| QJ_ent (Ent.trans eR (MirP_mk (v0 := x12.legs) (v1 := x12.log) (v2 := x12.hasLog) (v3 := x12.logState) (v4 := x12.size) (v5 := x12.region) (v6 := x12.dirty) (v7 := x12.copied) (h0 := oc15.1) (h1 := oc15.2.1) (h2 := oc15.2.2.1) (h3 := oc15.2.2.2))) <| QJ_then <| CJ_condF rfl rfl <| CJ_skip <| QJ_block_normal <| QJ_then <| CJ_region <| oP (PJ_eq (P_add (a := ((x14 : Nat) : Int)) (b := (1 : Int)) rfl rfl (by omega)) rfl) rfl <| oM rfl rfl <| RJ_nil <| nR ⟨n, x12, x13, (x14 + 1)⟩ h ⟨rfl, True.intro⟩ eR
   ·
    replace h := ite_f hg1 h
    exact CJ_exit <| QJ_then_exit <| QJ_round_exit <| QJ_block_here <| cR (x12, x13) (Option.some.inj h).symm True.intro eR
 ·
  rintro a11 hy26
  replace h := seq_inl hK7 hy26
  show CJ _ _ _ _ _ (([] : Slots) ++ forget _ _) (MirP bs bm a11.1 :: Arr bs a11.2 :: _)
  refine sR <| oM rfl rfl ?_
  obtain ⟨r27, hr28, h⟩ := bind_e h
  refine oO <| O_call (L_mirror_Mirror_result hr28) rfl Try.call31 (Dels.cons del0 (Dels.cons del0 Dels.nil)) rfl fun _ _ => oA rfl rfl <| nT <| CJ_ret ?_
  cases h
  exact fE (res1 Try.results34 rfl) () (t0_ (t1_ (t1_ (t1_ eR))))
def regionlog_Log_Mark_2 (region : Int) : Option (Int) :=
  if (region < (0 : Int)) then
    some (1 : Int)
  else
    none
theorem L_regionlog_Log_Mark_2 {W : World} {region : Int} {r : Int} (h : regionlog_Log_Mark_2 region = some r) :
    CSpec Try.prog W 45 [.pointer none, .int .i64 region] [] (fun x : Unit => .int .i64 r) (fun _ => True) (fun x F => F) := by
 refine CSpec.of_body Try.func45 rfl Try.ntmps45 rfl fun F => ?_
 show CJ _ _ _ _ _ _ (F)
 unfold regionlog_Log_Mark_2 at h
 refine sR <| oA rfl rfl <| nT <| CJ_seq <| sR <| oM rfl rfl <| oP (P_lss (a := region) (b := (0 : Int)) rfl rfl) rfl <| oM rfl rfl <| RJ_mbF rfl rfl rfl (fun hG1 => have hP2 : ¬ (region < (0 : Int)) := nP (bT_dec) hG1; VJ_P (P_move rfl)) <| RJ_mbF rfl rfl rfl (fun hG3 => have hP4 : ¬ (region < (0 : Int)) := nP (bT_dec) hG3; VJ_P (P_move rfl)) <| RJ_splitP 11 rfl bT_dec (fun hg1B hg1 => ?_) (fun hg1B hg1 => ?_)
 ·
  replace h := ite_t hg1 h
  refine RJ_gn (GY_no rfl rfl rfl hg1B) rfl rfl <| RJ_gn (GY_no rfl rfl rfl hg1B) rfl rfl <| RJ_gn (GY_no rfl rfl rfl hg1B) rfl rfl <| RJ_gn (GY_no rfl rfl rfl hg1B) rfl rfl <| oP (P_pickT rfl hg1B rfl) rfl <| nT <| CJ_condT rfl rfl <| sR <| oA rfl rfl <| nT <| CJ_ret <| QJ_then_ret ?_
  cases h
  exact fE (res1 Try.results45 rfl) () eR
 ·
  replace h := ite_f hg1 h
  exact none_e h
def mirror_Mirror_Write (m : MirS) (at_1 : Int) (w : UInt64) (s : ArrS) : Option (Int × MirS × ArrS) :=
  if (at_1 < (0 : Int)) then
    some (((1 : Int), m, s))
  else
    if (m.size ≤ at_1) then
      some (((1 : Int), m, s))
    else
      Option.bind (mirror_Mirror_result m s) fun r4 =>
      if (r4 ≠ (0 : Int)) then
        some (r4, m, s)
      else
        Option.elim m.log (
          Option.bind (mirror_Mirror_each__mirror_every ({ m with log := none }) at_1 w s) fun r13 =>
          if (r13.1 = (5 : Int)) then
            some (r13.1, r13.2.1, r13.2.2)
          else
            Option.bind (mirror_Mirror_follow r13.2.1 at_1 w r13.2.2) fun r15 =>
            if (r15.1 ≠ (0 : Int)) then
              some (r15.1, r15.2.1, r15.2.2)
            else
              some (r13.1, r15.2.1, r15.2.2)) fun o12 =>
        grd (decide (¬ m.region = 0)) <|
        Option.elim (some o12) (
          Option.bind (regionlog_Log_Mark_2 ((IntKind.i64.wrap (at_1.tdiv m.region)))) fun r24 =>
          Option.bind (mirror_Mirror_note (⟨m.legs, none, m.hasLog, m.logState, m.size, m.region, m.dirty, m.copied⟩ : MirS) (((m.legs.length : Nat) : Int)) r24 s) fun r26 =>
          if (r26.1 ≠ (0 : Int)) then
            some (r26.1, r26.2, s)
          else
            Option.bind (mirror_Mirror_result r26.2 s) fun r28 =>
            if (r28 ≠ (0 : Int)) then
              some (r28, r26.2, s)
            else
              Option.bind (mirror_Mirror_each__mirror_every r26.2 at_1 w s) fun r30 =>
              if (r30.1 = (5 : Int)) then
                some (r30.1, r30.2.1, r30.2.2)
              else
                Option.bind (mirror_Mirror_follow r30.2.1 at_1 w r30.2.2) fun r32 =>
                if (r32.1 ≠ (0 : Int)) then
                  some (r32.1, r32.2.1, r32.2.2)
                else
                  some (r30.1, r32.2.1, r32.2.2)) fun o23 =>
        Option.bind (regionlog_Log_Mark o23 ((IntKind.i64.wrap (at_1.tdiv m.region))) s) fun r34 =>
        Option.bind (mirror_Mirror_note ((⟨m.legs, (some r34.2.1), m.hasLog, m.logState, m.size, m.region, m.dirty, m.copied⟩ : MirS)) (((m.legs.length : Nat) : Int)) r34.1 r34.2.2) fun r36 =>
        if (r36.1 ≠ (0 : Int)) then
          some (r36.1, r36.2, r34.2.2)
        else
          Option.bind (mirror_Mirror_result r36.2 r34.2.2) fun r38 =>
          if (r38 ≠ (0 : Int)) then
            some (r38, r36.2, r34.2.2)
          else
            Option.bind (mirror_Mirror_each__mirror_every r36.2 at_1 w r34.2.2) fun r40 =>
            if (r40.1 = (5 : Int)) then
              some (r40.1, r40.2.1, r40.2.2)
            else
              Option.bind (mirror_Mirror_follow r40.2.1 at_1 w r40.2.2) fun r42 =>
              if (r42.1 ≠ (0 : Int)) then
                some (r42.1, r42.2.1, r42.2.2)
              else
                some (r40.1, r42.2.1, r42.2.2)
theorem L_mirror_Mirror_Write {W : World} {bm : Nat} {bs : Nat} {m : MirS} {at_1 : Int} {w : UInt64} {s : ArrS} {r : Int × MirS × ArrS} (h : mirror_Mirror_Write m at_1 w s = some r) :
    CSpec Try.prog W 16 [ptr bm 0, .int .i64 at_1, .int .u64 (w.toNat : Int)] [MirP bs bm m, Arr bs s] (fun x : Unit => .int .i64 r.1) (fun _ => True) (fun x F => MirP bs bm r.2.1 :: Arr bs r.2.2 :: F) := by
 refine CSpec.of_body Try.func16 rfl Try.ntmps16 rfl fun F => ?_
 show CJ _ _ _ _ _ _ (_ :: _ :: F)
 unfold mirror_Mirror_Write at h
 refine sR <| oO <| O_box rfl rfl rfl fun b1 => oO <| O_box rfl rfl rfl fun b2 => oO <| O_box rfl rfl rfl fun b3 => oA rfl rfl <| nT <| CJ_seq <| CJ_seq <| AJ_startH 0 (by kernel_rfl) rfl <| aV 0 1 rfl rfl (GY_none rfl) eR (V_load rfl foc1 rfl Try.isAgg3) rfl <| aN 1 3 rfl rfl (P_lss (a := at_1) (b := (0 : Int)) rfl rfl) rfl <| aN 2 7 rfl rfl (P_move rfl) rfl <| AJ_splitP 14 rfl bT_dec (fun hg1B hg1 => ?_) (fun hg1B hg1 => ?_)
 ·
  replace h := ite_t hg1 h
  refine aS 3 15 rfl rfl (GY_no rfl rfl rfl hg1B) rfl <| aS 4 31 rfl rfl (GY_no rfl rfl rfl hg1B) rfl <| aS 5 63 rfl rfl (GY_no rfl rfl rfl hg1B) rfl <| aS 6 127 rfl rfl (GY_no rfl rfl rfl hg1B) rfl <| aS 7 255 rfl rfl (GY_no rfl rfl rfl hg1B) rfl <| aS 8 511 rfl rfl (GY_no rfl rfl rfl hg1B) rfl <| aN 9 1023 rfl rfl (P_pickT rfl hg1B rfl) rfl <| aD <| CJ_condT rfl rfl <| sR <| oA rfl rfl <| nT <| CJ_ret <| QJ_then_ret ?_
  cases h
  exact fE (res1 Try.results16 rfl) () (t3_ (t3_ (eD (eD (eD eR)))))
 ·
  replace h := ite_f hg1 h
  refine aV 3 15 rfl rfl (GY_yes rfl rfl rfl hg1B) eR (V_load rfl foc1 rfl Try.isAgg3) rfl <| aV 4 31 rfl rfl (GY_yes rfl rfl rfl hg1B) eR (V_load rfl foc2 rfl Try.isAgg38) rfl <| aP 5 63 rfl rfl (GY_yes rfl rfl rfl hg1B) (P_nilCheck rfl) rfl <| aP 6 127 rfl rfl (GY_yes rfl rfl rfl hg1B) (P_fieldAddr rfl ⟨_, _, _, Try.runUnderlying74, rfl, rfl, Try.sizeOf3, rfl⟩) rfl <| aV 7 255 rfl rfl (GY_yes rfl rfl rfl hg1B) eR (VJ_entX (Ent.transX (t3_ eR) (MirP_open (l := m))) (fun _ => V_load rfl foc0 rfl Try.isAgg3)) rfl <| aP 8 511 rfl rfl (GY_yes rfl rfl rfl hg1B) (P_geq (a := at_1) (b := m.size) rfl rfl) rfl <| aN 9 1023 rfl rfl (P_pickF rfl hg1B rfl) rfl <| aD <| CJ_condP rfl bT_dec (fun hg2 => ?_) (fun hg2 => ?_)
  ·
   replace h := ite_t hg2 h
   refine sR <| oA rfl rfl <| nT <| CJ_ret <| QJ_then_ret ?_
   cases h
   exact fE (res1 Try.results16 rfl) () (t3_ (t3_ (eD (eD (eD eR)))))
  ·
   replace h := ite_f hg2 h
   refine kT <| CJ_seq <| sR <| oV (V_load rfl foc2 rfl Try.isAgg38) rfl ?_
   obtain ⟨r4, hr5, h⟩ := bind_e h
   refine oO <| O_call (L_mirror_Mirror_result hr5) rfl Try.call31 (Dels.cons del3 (Dels.cons del3 Dels.nil)) rfl fun _ _ => oA rfl rfl <| nT <| sR <| oM rfl rfl <| oP (P_neq (a := r4) (b := (0 : Int)) rfl rfl) rfl <| nT <| CJ_condP rfl bT_dec (fun hg3 => ?_) (fun hg3 => ?_)
   ·
    replace h := ite_t hg3 h
    refine sR <| oM rfl rfl <| oA rfl rfl <| nT <| CJ_ret <| QJ_then_ret ?_
    cases h
    exact fE (res1 Try.results16 rfl) () (t0_ (t0_ (eD (eD (eD eR)))))
   ·
    replace h := ite_f hg3 h
    refine kT <| CJ_seq <| CJ_seq <| CJ_entX (Ent.transX (t0_ eR) (MirP_open (l := m))) fun oc6 => CJ_pure (fun h hh => Rs_len (stars_perm (del2 (A := Rs (DevP bs) (m.legs.map mlegS.dev) oc6.2.1)).out h hh)) fun hdl8 => lC del1 fun hlen9 => ?_
    rw [mk_mleg_len (by have := hdl8; simpa using this)] at hlen9
    refine lC del4 fun hlen10 => CJ_region <| oV (V_load rfl foc8 rfl Try.isAgg38) rfl <| oP (P_nilCheck rfl) rfl <| oP (P_fieldAddr rfl ⟨_, _, _, Try.runUnderlying74, rfl, rfl, Try.sizeOf71, rfl⟩) rfl <| oV (V_load rfl foc0 rfl Try.isAgg71) rfl ?_
    rcases opt_e h with ⟨ht11, h⟩ | ⟨o12, ht11, h⟩
    ·
     rw [ht11]
     refine RJ_ent (t0_ (t0_ (t0_ (t1_ (t1_ (t1_ (t1_ (t1_ (eD eR))))))))) <| oP (P_neqNN rfl rfl Try.underlying71) rfl <| RJ_nil <| QJ_ent (Ent.trans (t0_ (t0_ (t0_ (Ent.trans (fun h hh => optP_none h hh) <| t0_ eR)))) (MirP_mk (v0 := m.legs) (v1 := none) (v2 := m.hasLog) (v3 := m.logState) (v4 := m.size) (v5 := m.region) (v6 := m.dirty) (v7 := m.copied) (h0 := oc6.1) (h1 := oc6.2.1) (h2 := 0) (h3 := oc6.2.2.2))) <| QJ_then <| CJ_condF rfl rfl <| kT <| sR <| oV (V_load rfl foc4 rfl Try.isAgg38) rfl <| oP (P_makeFunc rfl rfl) rfl ?_
     obtain ⟨r13, hr14, h⟩ := bind_e h
     refine oO <| O_call (L_mirror_Mirror_each__mirror_every hr14) rfl Try.call34 (Dels.cons del0 (Dels.cons del3 (Dels.cons del2 (Dels.cons del1 (Dels.cons del0 Dels.nil))))) rfl fun _ _ => oA rfl rfl <| nT <| CJ_seq <| sR <| oM rfl rfl <| oP (P_eql (a := r13.1) (b := (5 : Int)) rfl rfl) rfl <| nT <| CJ_condP rfl bT_dec (fun hg4 => ?_) (fun hg4 => ?_)
     ·
      replace h := ite_t hg4 h
      refine sR <| oM rfl rfl <| oA rfl rfl <| nT <| CJ_ret <| QJ_then_ret ?_
      cases h
      exact fE (res1 Try.results16 rfl) () (t0_ (t3_ (eD (eD (eD eR)))))
     ·
      replace h := ite_f hg4 h
      refine kT <| CJ_seq <| sR <| oV (V_load rfl foc1 rfl Try.isAgg38) rfl <| oV (V_load rfl foc2 rfl Try.isAgg3) rfl <| oV (V_load rfl foc3 rfl Try.isAgg33) rfl ?_
      obtain ⟨r15, hr16, h⟩ := bind_e h
      refine oO <| O_call (L_mirror_Mirror_follow hr16) rfl Try.call48 (Dels.cons del0 (Dels.cons del3 Dels.nil)) rfl fun _ _ => oA rfl rfl <| nT <| sR <| oM rfl rfl <| oP (P_neq (a := r15.1) (b := (0 : Int)) rfl rfl) rfl <| nT <| CJ_condP rfl bT_dec (fun hg5 => ?_) (fun hg5 => ?_)
      ·
       replace h := ite_t hg5 h
       refine sR <| oM rfl rfl <| oA rfl rfl <| nT <| CJ_ret <| QJ_then_ret ?_
       cases h
       exact fE (res1 Try.results16 rfl) () (t0_ (t0_ (eD (eD (eD eR)))))
      ·
       replace h := ite_f hg5 h
       refine kT <| sR <| oM rfl rfl <| oA rfl rfl <| nT <| CJ_ret ?_
       cases h
       exact fE (res1 Try.results16 rfl) () (t0_ (t0_ (eD (eD (eD eR)))))
    ·
     rw [ht11]
     refine RJ_ent (Ent.takeC (A' := LogP bs oc6.2.2.1 o12) del3 rfl eR) <| oP (P_neqPN rfl rfl Try.underlying71) rfl <| RJ_nil <| QJ_ent (Ent.trans (t1_ (t1_ (t1_ eR))) (MirP_mk (v0 := m.legs) (v1 := (some o12)) (v2 := m.hasLog) (v3 := m.logState) (v4 := m.size) (v5 := m.region) (v6 := m.dirty) (v7 := m.copied) (h0 := oc6.1) (h1 := oc6.2.1) (h2 := oc6.2.2.1) (h3 := oc6.2.2.2))) <| QJ_then <| CJ_condT rfl rfl <| CJ_seq <| CJ_seq <| CJ_entX (Ent.transX (t0_ eR) (MirP_open (l := { m with log := (some o12) }))) fun oc17 => CJ_pure (fun h hh => Rs_len (stars_perm (del2 (A := Rs (DevP bs) (m.legs.map mlegS.dev) oc17.2.1)).out h hh)) fun hdl19 => lC del1 fun hlen20 => ?_
     rw [mk_mleg_len (by have := hdl19; simpa using this)] at hlen20
     refine lC del4 fun hlen21 => AJ_start [blk bm 74 [(Sl3.v oc17.1), oval (some o12) oc17.2.2.1, .bool m.hasLog, .int .i64 m.logState, .int .i64 m.size, .int .i64 m.region, (Sl3.v oc17.2.2.2), .int .i64 m.copied], sl tymlegH (Sl3.v oc17.1) (mk_mleg m.legs oc17.2.1), Rs (DevP bs) (m.legs.map mlegS.dev) oc17.2.1, sl tyB (Sl3.v oc17.2.2.2) m.dirty, blk b3 33 [.int .u64 (w.toNat : Int)], blk b2 3 [.int .i64 at_1], blk b1 38 [ptr bm 0]] 131072 (by kernel_rfl) rfl <| aV 0 1 rfl rfl (GY_none rfl) (t0_ (t0_ (t0_ (t1_ (t2_ (t2_ (t2_ Ent.done))))))) (V_load rfl foc6 rfl Try.isAgg38) rfl <| aV 1 3 rfl rfl (GY_none rfl) (t0_ (t0_ (t0_ (t1_ (t2_ (t2_ (t2_ Ent.done))))))) (V_load rfl foc6 rfl Try.isAgg38) rfl <| aN 2 7 rfl rfl (P_nilCheck rfl) rfl <| aN 3 15 rfl rfl (P_fieldAddr rfl ⟨_, _, _, Try.runUnderlying74, rfl, rfl, Try.sizeOf70, rfl⟩) rfl <| aV 4 31 rfl rfl (GY_none rfl) (t0_ (t0_ (t0_ (t1_ (t2_ (t2_ (t2_ Ent.done))))))) (V_load rfl foc0 rfl Try.isAgg70) rfl <| aV 5 63 rfl rfl (GY_none rfl) (t0_ (t0_ (t0_ (t1_ (t2_ (t2_ (t2_ Ent.done))))))) (VJ_eq (V_len rfl foc1 (Reads.sl _ _ _) Try.runUnderlying70) (congrArg (fun z : Nat => Value.int .i64 (z : Int)) (mk_mleg_len (by have := hdl19; simpa using this)).symm)) rfl ?_
     refine aV 6 127 rfl rfl (GY_none rfl) (t0_ (t0_ (t0_ (t1_ (t2_ (t2_ (t2_ Ent.done))))))) (V_load rfl foc6 rfl Try.isAgg38) rfl <| aN 7 255 rfl rfl (P_nilCheck rfl) rfl <| aN 8 511 rfl rfl (P_fieldAddr rfl ⟨_, _, _, Try.runUnderlying74, rfl, rfl, Try.sizeOf71, rfl⟩) rfl <| aV 9 1023 rfl rfl (GY_none rfl) (t0_ (t0_ (t0_ (t1_ (t2_ (t2_ (t2_ Ent.done))))))) (V_load rfl foc0 rfl Try.isAgg71) rfl <| aV 10 2047 rfl rfl (GY_none rfl) (t0_ (t0_ (t0_ (t1_ (t2_ (t2_ (t2_ Ent.done))))))) (V_load rfl foc5 rfl Try.isAgg3) rfl <| aV 11 4095 rfl rfl (GY_none rfl) (t0_ (t0_ (t0_ (t1_ (t2_ (t2_ (t2_ Ent.done))))))) (V_load rfl foc6 rfl Try.isAgg38) rfl <| aN 12 8191 rfl rfl (P_nilCheck rfl) rfl <| aN 13 16383 rfl rfl (P_fieldAddr rfl ⟨_, _, _, Try.runUnderlying74, rfl, rfl, Try.sizeOf3, rfl⟩) rfl <| aV 14 32767 rfl rfl (GY_none rfl) (t0_ (t0_ (t0_ (t1_ (t2_ (t2_ (t2_ Ent.done))))))) (V_load rfl foc0 rfl Try.isAgg3) rfl ?_
     obtain ⟨hg6, h⟩ := grd_de h
     refine aN 15 65535 rfl rfl (P_quoT (a := at_1) (b := m.region) rfl rfl hg6) rfl ?_
     rcases opt_e h with ⟨ht22, h⟩ | ⟨o23, ht22, h⟩
     ·
      rw [ht22]
      obtain ⟨r24, hr25, h⟩ := bind_e h
      refine AJ_op 16 131071 rfl (by kernel_rfl) rfl (GY_none rfl) <| O_call (L_regionlog_Log_Mark_2 hr25) rfl Try.call45 Dels.nil rfl fun _ _ => ⟨fun _ => (t0_ (t0_ (t0_ (t1_ (t2_ (t2_ (t2_ Ent.done))))))), ?_⟩
      refine AJ_ent (Ent.trans (t0_ (t0_ (t0_ (Ent.trans (fun h hh => optP_none h hh) <| t0_ (t1_ eR))))) (MirP_mk (v0 := m.legs) (v1 := none) (v2 := m.hasLog) (v3 := m.logState) (v4 := m.size) (v5 := m.region) (v6 := m.dirty) (v7 := m.copied) (h0 := oc17.1) (h1 := oc17.2.1) (h2 := 0) (h3 := oc17.2.2.2))) ?_
      obtain ⟨r26, hr27, h⟩ := bind_e h
      refine AJ_op 17 262143 rfl (by kernel_rfl) rfl (GY_none rfl) <| O_call (L_mirror_Mirror_note hr27) rfl Try.call44 (Dels.cons del0 (Dels.cons del1 Dels.nil)) rfl fun _ _ => ⟨fun h => absurd h (by decide), ?_⟩
      refine aN 18 524287 rfl rfl (P_assign rfl) rfl <| aD <| sR <| oM rfl rfl <| oP (P_neq (a := r26.1) (b := (0 : Int)) rfl rfl) rfl <| nT <| CJ_condP rfl bT_dec (fun hg7 => ?_) (fun hg7 => ?_)
      ·
       replace h := ite_t hg7 h
       refine sR <| oM rfl rfl <| oA rfl rfl <| nT <| CJ_ret <| QJ_then_ret <| QJ_then_ret ?_
       cases h
       exact fE (res1 Try.results16 rfl) () (t0_ (t0_ (eD (eD (eD (eD eR))))))
      ·
       replace h := ite_f hg7 h
       refine kT <| sR <| oV (V_load rfl foc5 rfl Try.isAgg38) rfl ?_
       obtain ⟨r28, hr29, h⟩ := bind_e h
       refine oO <| O_call (L_mirror_Mirror_result hr29) rfl Try.call31 (Dels.cons del0 (Dels.cons del0 Dels.nil)) rfl fun _ _ => oA rfl rfl <| nT <| sR <| oM rfl rfl <| oP (P_neq (a := r28) (b := (0 : Int)) rfl rfl) rfl <| nT <| CJ_condP rfl bT_dec (fun hg8 => ?_) (fun hg8 => ?_)
       ·
        replace h := ite_t hg8 h
        refine sR <| oM rfl rfl <| oA rfl rfl <| nT <| CJ_ret <| QJ_then_ret ?_
        cases h
        exact fE (res1 Try.results16 rfl) () (t0_ (t0_ (eD (eD (eD (eD eR))))))
       ·
        replace h := ite_f hg8 h
        refine kT <| sR <| oV (V_load rfl foc5 rfl Try.isAgg38) rfl <| oP (P_makeFunc rfl rfl) rfl ?_
        obtain ⟨r30, hr31, h⟩ := bind_e h
        refine oO <| O_call (L_mirror_Mirror_each__mirror_every hr31) rfl Try.call34 (Dels.cons del0 (Dels.cons del4 (Dels.cons del3 (Dels.cons del2 (Dels.cons del0 Dels.nil))))) rfl fun _ _ => oA rfl rfl <| nT <| CJ_seq <| sR <| oM rfl rfl <| oP (P_eql (a := r30.1) (b := (5 : Int)) rfl rfl) rfl <| nT <| CJ_condP rfl bT_dec (fun hg9 => ?_) (fun hg9 => ?_)
        ·
         replace h := ite_t hg9 h
         refine sR <| oM rfl rfl <| oA rfl rfl <| nT <| CJ_ret <| QJ_then_ret ?_
         cases h
         exact fE (res1 Try.results16 rfl) () (t0_ (t3_ (eD (eD (eD (eD eR))))))
        ·
         replace h := ite_f hg9 h
         refine kT <| CJ_seq <| sR <| oV (V_load rfl foc1 rfl Try.isAgg38) rfl <| oV (V_load rfl foc2 rfl Try.isAgg3) rfl <| oV (V_load rfl foc3 rfl Try.isAgg33) rfl ?_
         obtain ⟨r32, hr33, h⟩ := bind_e h
         refine oO <| O_call (L_mirror_Mirror_follow hr33) rfl Try.call48 (Dels.cons del0 (Dels.cons del3 Dels.nil)) rfl fun _ _ => oA rfl rfl <| nT <| sR <| oM rfl rfl <| oP (P_neq (a := r32.1) (b := (0 : Int)) rfl rfl) rfl <| nT <| CJ_condP rfl bT_dec (fun hg10 => ?_) (fun hg10 => ?_)
         ·
          replace h := ite_t hg10 h
          refine sR <| oM rfl rfl <| oA rfl rfl <| nT <| CJ_ret <| QJ_then_ret ?_
          cases h
          exact fE (res1 Try.results16 rfl) () (t0_ (t0_ (eD (eD (eD (eD eR))))))
         ·
          replace h := ite_f hg10 h
          refine kT <| sR <| oM rfl rfl <| oA rfl rfl <| nT <| CJ_ret ?_
          cases h
          exact fE (res1 Try.results16 rfl) () (t0_ (t0_ (eD (eD (eD (eD eR))))))
     ·
      rw [ht22]
      refine AJ_ent (Ent.takeC (A' := LogP bs oc17.2.2.1 o23) del3 rfl eR) ?_
      obtain ⟨r34, hr35, h⟩ := bind_e h
      refine AJ_op 16 131071 rfl (by kernel_rfl) rfl (GY_none rfl) <| O_call (L_regionlog_Log_Mark hr35) rfl Try.call45 (Dels.cons del0 (Dels.cons del4 Dels.nil)) rfl fun _ _ => ⟨fun _ => (t2_ (t2_ (t2_ (t2_ (t2_ (t2_ (t2_ Ent.done))))))), ?_⟩
      refine AJ_ent (Ent.trans (t2_ (t2_ (t2_ (t0_ (t1_ eR))))) (MirP_mk (v0 := m.legs) (v1 := (some r34.2.1)) (v2 := m.hasLog) (v3 := m.logState) (v4 := m.size) (v5 := m.region) (v6 := m.dirty) (v7 := m.copied) (h0 := oc17.1) (h1 := oc17.2.1) (h2 := oc17.2.2.1) (h3 := oc17.2.2.2))) ?_
      obtain ⟨r36, hr37, h⟩ := bind_e h
      refine AJ_op 17 262143 rfl (by kernel_rfl) rfl (GY_none rfl) <| O_call (L_mirror_Mirror_note hr37) rfl Try.call44 (Dels.cons del0 (Dels.cons del0 Dels.nil)) rfl fun _ _ => ⟨fun h => absurd h (by decide), ?_⟩
      refine aN 18 524287 rfl rfl (P_assign rfl) rfl <| aD <| sR <| oM rfl rfl <| oP (P_neq (a := r36.1) (b := (0 : Int)) rfl rfl) rfl <| nT <| CJ_condP rfl bT_dec (fun hg11 => ?_) (fun hg11 => ?_)
      ·
       replace h := ite_t hg11 h
       refine sR <| oM rfl rfl <| oA rfl rfl <| nT <| CJ_ret <| QJ_then_ret <| QJ_then_ret ?_
       cases h
       exact fE (res1 Try.results16 rfl) () (t0_ (t0_ (eD (eD (eD eR)))))
      ·
       replace h := ite_f hg11 h
       refine kT <| sR <| oV (V_load rfl foc4 rfl Try.isAgg38) rfl ?_
       obtain ⟨r38, hr39, h⟩ := bind_e h
       refine oO <| O_call (L_mirror_Mirror_result hr39) rfl Try.call31 (Dels.cons del0 (Dels.cons del0 Dels.nil)) rfl fun _ _ => oA rfl rfl <| nT <| sR <| oM rfl rfl <| oP (P_neq (a := r38) (b := (0 : Int)) rfl rfl) rfl <| nT <| CJ_condP rfl bT_dec (fun hg12 => ?_) (fun hg12 => ?_)
       ·
        replace h := ite_t hg12 h
        refine sR <| oM rfl rfl <| oA rfl rfl <| nT <| CJ_ret <| QJ_then_ret ?_
        cases h
        exact fE (res1 Try.results16 rfl) () (t0_ (t0_ (eD (eD (eD eR)))))
       ·
        replace h := ite_f hg12 h
        refine kT <| sR <| oV (V_load rfl foc4 rfl Try.isAgg38) rfl <| oP (P_makeFunc rfl rfl) rfl ?_
        obtain ⟨r40, hr41, h⟩ := bind_e h
        refine oO <| O_call (L_mirror_Mirror_each__mirror_every hr41) rfl Try.call34 (Dels.cons del0 (Dels.cons del3 (Dels.cons del2 (Dels.cons del1 (Dels.cons del0 Dels.nil))))) rfl fun _ _ => oA rfl rfl <| nT <| CJ_seq <| sR <| oM rfl rfl <| oP (P_eql (a := r40.1) (b := (5 : Int)) rfl rfl) rfl <| nT <| CJ_condP rfl bT_dec (fun hg13 => ?_) (fun hg13 => ?_)
        ·
         replace h := ite_t hg13 h
         refine sR <| oM rfl rfl <| oA rfl rfl <| nT <| CJ_ret <| QJ_then_ret ?_
         cases h
         exact fE (res1 Try.results16 rfl) () (t0_ (t3_ (eD (eD (eD eR)))))
        ·
         replace h := ite_f hg13 h
         refine kT <| CJ_seq <| sR <| oV (V_load rfl foc1 rfl Try.isAgg38) rfl <| oV (V_load rfl foc2 rfl Try.isAgg3) rfl <| oV (V_load rfl foc3 rfl Try.isAgg33) rfl ?_
         obtain ⟨r42, hr43, h⟩ := bind_e h
         refine oO <| O_call (L_mirror_Mirror_follow hr43) rfl Try.call48 (Dels.cons del0 (Dels.cons del3 Dels.nil)) rfl fun _ _ => oA rfl rfl <| nT <| sR <| oM rfl rfl <| oP (P_neq (a := r42.1) (b := (0 : Int)) rfl rfl) rfl <| nT <| CJ_condP rfl bT_dec (fun hg14 => ?_) (fun hg14 => ?_)
         ·
          replace h := ite_t hg14 h
          refine sR <| oM rfl rfl <| oA rfl rfl <| nT <| CJ_ret <| QJ_then_ret ?_
          cases h
          exact fE (res1 Try.results16 rfl) () (t0_ (t0_ (eD (eD (eD eR)))))
         ·
          replace h := ite_f hg14 h
          refine kT <| sR <| oM rfl rfl <| oA rfl rfl <| nT <| CJ_ret ?_
          cases h
          exact fE (res1 Try.results16 rfl) () (t0_ (t0_ (eD (eD (eD eR)))))
def mirror_Mirror_flush_1 (i : Int) (p1_v : MirS) (s : ArrS) : Option (Int × ArrS) :=
  grd (decide (0 ≤ i ∧ i < (p1_v.legs.length : Int))) <|
  Option.bind (Dvc.fl ((p1_v.legs.getD ((i).toNat) mleg_x0).dev) s) fun r8 =>
  some (r8.1, r8.2)
theorem L_mirror_Mirror_flush_1 {W : World} {bp1 : Nat} {bp1_v : Nat} {bs : Nat} {i : Int} {p1_v : MirS} {s : ArrS} {r : Int × ArrS} (h : mirror_Mirror_flush_1 i p1_v s = some r) :
    CSpec Try.prog W 72 [.int .i64 i, ptr bp1 0] [blk bp1 38 [ptr bp1_v 0], MirP bs bp1_v p1_v, Arr bs s] (fun x : Unit => .int .i64 r.1) (fun _ => True) (fun x F => blk bp1 38 [ptr bp1_v 0] :: MirP bs bp1_v p1_v :: Arr bs r.2 :: F) := by
 refine CSpec.of_body Try.func72 rfl Try.ntmps72 rfl fun F => ?_
 show CJ _ _ _ _ _ _ (_ :: _ :: _ :: F)
 unfold mirror_Mirror_flush_1 at h
 refine sR <| oA rfl rfl <| nT <| CJ_seq <| CJ_entX (Ent.transX (t1_ eR) (MirP_open (l := p1_v))) fun oc1 => CJ_pure (fun h hh => Rs_len (stars_perm (del2 (A := Rs (DevP bs) (p1_v.legs.map mlegS.dev) oc1.2.1)).out h hh)) fun hdl3 => lC del1 fun hlen4 => ?_
 rw [mk_mleg_len (by have := hdl3; simpa using this)] at hlen4
 refine lC del4 fun hlen5 => CJ_region <| oV (V_load rfl foc5 rfl Try.isAgg38) rfl <| oP (P_nilCheck rfl) rfl <| oP (P_fieldAddr rfl ⟨_, _, _, Try.runUnderlying74, rfl, rfl, Try.sizeOf70, rfl⟩) rfl <| oV (V_load rfl foc0 rfl Try.isAgg70) rfl <| oM rfl rfl ?_
 obtain ⟨hg1, h⟩ := grd_de h
 refine oV (V_index (i := (i).toNat) rfl rfl (Int.toNat_of_nonneg (hg1.1)).symm (show (i).toNat < (mk_mleg p1_v.legs oc1.2.1).length by rw [mk_mleg_len (by have := hdl3; simpa using this)]; exact (by omega)) foc1 (Reads.sl _ _ _) Try.runUnderlying70 Try.sizeOf83) rfl <| oP (P_fieldE rfl ⟨_, _, _, Try.runUnderlying83, rfl, rfl, Try.sizeOf57, rfl⟩) rfl <| RJ_ent (Ent.trans (t2_ eR) (mk_mleg_rs (i := (i).toNat) (by omega))) <| oV (VJ_eq (V_loadE rfl rfl (show (i).toNat < (mk_mleg p1_v.legs oc1.2.1).length by rw [mk_mleg_len (by have := hdl3; simpa using this)]; exact (by omega)) foc3 (Reads.sl _ _ _) rfl rfl Try.isAgg57) (show (IfH.v ((oc1.2.1.getD ((i).toNat) tyDev.dflt)) : Value) = IfH.v ((mk_mleg p1_v.legs oc1.2.1).getD ((i).toNat) mleg_h0).dev from by rw [mk_mleg_at (by have := hdl3; simpa using this)])) rfl <| RJ_pure (fun h hh => DevP_dep h (stars_perm (del0 (A := DevP bs ((p1_v.legs.getD ((i).toNat) mleg_x0).dev) ((oc1.2.1.getD ((i).toNat) tyDev.dflt)))).out h hh)) fun hdp7 => ?_
 obtain ⟨r8, hr9, h⟩ := bind_e h
 refine oO <| O_callI rfl (dev_Flush hr9 hdp7) rfl (Dels.cons del0 (Dels.cons del6 Dels.nil)) rfl fun _ _ => oA rfl rfl <| RJ_nil <| QJ_ent (Ent.trans (t3_ (t3_ (t2_ (t2_ (t2_ eR))))) (MirP_mk (v0 := p1_v.legs) (v1 := p1_v.log) (v2 := p1_v.hasLog) (v3 := p1_v.logState) (v4 := p1_v.size) (v5 := p1_v.region) (v6 := p1_v.dirty) (v7 := p1_v.copied) (h0 := oc1.1) (h1 := oc1.2.1) (h2 := oc1.2.2.1) (h3 := oc1.2.2.2))) <| QJ_then <| CJ_ret ?_
 cases h
 exact fE (res1 Try.results72 rfl) () (t3_ (t0_ (t1_ (eD eR))))
def mirror_Mirror_each__mirror_every_2_l1_b (m : MirS) (rec : MirS → ArrS → Nat → Option ((MirS × ArrS) ⊕ (Int × MirS × ArrS))) (x12 : MirS) (x13 : ArrS) (x14 : Nat) : Option ((MirS × ArrS) ⊕ (Int × MirS × ArrS)) :=
  if (((x14 : Nat) : Int) < ((m.legs.length : Nat) : Int)) then
    grd (decide (x14 < x12.legs.length)) <|
    if ((x12.legs.getD x14 mleg_x0).state = (0 : Int)) then
      Option.bind (mirror_every (((x14 : Nat) : Int))) fun r20 =>
      if r20 = true then
        Option.bind (mirror_Mirror_flush_1 (((x14 : Nat) : Int)) x12 x13) fun r22 =>
        Option.bind (mirror_Mirror_note x12 (((x14 : Nat) : Int)) r22.1 r22.2) fun r24 =>
        if (r24.1 ≠ (0 : Int)) then
          some (.inr (r24.1, r24.2, r22.2))
        else
          rec r24.2 r22.2 (x14 + 1)
      else
        rec x12 x13 (x14 + 1)
    else
      rec x12 x13 (x14 + 1)
  else
    some (.inl (x12, x13))
def mirror_Mirror_each__mirror_every_2_l1 (m : MirS) : Nat → MirS → ArrS → Nat → Option ((MirS × ArrS) ⊕ (Int × MirS × ArrS))
  | 0, _, _, _ => none
  | n + 1, x12, x13, x14 => mirror_Mirror_each__mirror_every_2_l1_b m (mirror_Mirror_each__mirror_every_2_l1 m n) x12 x13 x14
def mirror_Mirror_each__mirror_every_2 (m : MirS) (s : ArrS) : Option (Int × MirS × ArrS) :=
  seqO (mirror_Mirror_each__mirror_every_2_l1 m FUEL m s 0) fun a11 =>
  Option.bind (mirror_Mirror_result a11.1 a11.2) fun r27 =>
  some (r27, a11.1, a11.2)
theorem L_mirror_Mirror_each__mirror_every_2 {W : World} {bm : Nat} {bdo_2_c0 : Nat} {bs : Nat} {m : MirS} {s : ArrS} {r : Int × MirS × ArrS} (h : mirror_Mirror_each__mirror_every_2 m s = some r) :
    CSpec Try.prog W 34 [ptr bm 0, .func (.func 46) #[] #[], .func (.func 72) #[] #[ptr bdo_2_c0 0]] [MirP bs bm m, blk bdo_2_c0 38 [ptr bm 0], Arr bs s] (fun x : Unit => .int .i64 r.1) (fun _ => True) (fun x F => MirP bs bm r.2.1 :: blk bdo_2_c0 38 [ptr bm 0] :: Arr bs r.2.2 :: F) := by
 refine CSpec.of_body Try.func34 rfl Try.ntmps34 rfl fun F => ?_
 show CJ _ _ _ _ _ _ (_ :: _ :: _ :: F)
 unfold mirror_Mirror_each__mirror_every_2 at h
 refine sR <| oA rfl rfl <| nT <| sR <| oM rfl rfl <| oP (P_makeFunc rfl rfl) rfl <| oA rfl rfl <| nT <| CJ_seq <| CJ_seq <| CJ_entX (Ent.transX (t0_ eR) (MirP_open (l := m))) fun oc1 => CJ_pure (fun h hh => Rs_len (stars_perm (del2 (A := Rs (DevP bs) (m.legs.map mlegS.dev) oc1.2.1)).out h hh)) fun hdl3 => lC del1 fun hlen4 => ?_
 rw [mk_mleg_len (by have := hdl3; simpa using this)] at hlen4
 refine lC del4 fun hlen5 => CJ_region <| oM rfl rfl <| oP (P_nilCheck rfl) rfl <| oP (P_fieldAddr rfl ⟨_, _, _, Try.runUnderlying74, rfl, rfl, Try.sizeOf70, rfl⟩) rfl <| oV (V_load rfl foc0 rfl Try.isAgg70) rfl <| oV (VJ_eq (V_len rfl foc1 (Reads.sl _ _ _) Try.runUnderlying70) (congrArg (fun z : Nat => Value.int .i64 (z : Int)) (mk_mleg_len (by have := hdl3; simpa using this)).symm)) rfl <| oM rfl rfl <| RJ_nil <| QJ_ent (Ent.trans eR (MirP_mk (v0 := m.legs) (v1 := m.log) (v2 := m.hasLog) (v3 := m.logState) (v4 := m.size) (v5 := m.region) (v6 := m.dirty) (v7 := m.copied) (h0 := oc1.1) (h1 := oc1.2.1) (h2 := oc1.2.2.1) (h3 := oc1.2.2.2))) <| QJ_then ?_
 obtain ⟨y8, hl6, hK7⟩ := seq_e h
 refine CJ_cutT (X := MirS × ArrS) [6, 8, 9, 17, 18, 19, 20, 21, 22, 23, 24, 25, 26, 27, 28, 29, 30, 31, 32, 33, 34, 35, 36, 37, 38, 39, 40, 41, 42, 43] (fun a11 => ([] : Slots)) (fun a11 R => MirP bs bm a11.1 :: Arr bs a11.2 :: R) (fun a11 => y8 = .inl a11) (Dels.cons del0 (Dels.cons del1 Dels.nil)) ?_ ?_
 ·
  refine CJ_block <| CJ_loopR (X := Nat × MirS × ArrS × Nat) [6, 8, 9, 17, 18, 19, 20, 21, 22, 23, 24, 25, 26, 27, 28, 29, 30, 31, 32, 33, 34, 35, 36, 37, 38, 39, 40, 41, 42, 43] (fun ⟨n, x12, x13, x14⟩ => ([(17, .int .i64 (((x14 : Nat) : Int)))] : Slots)) (fun ⟨n, x12, x13, x14⟩ R => MirP bs bm x12 :: Arr bs x13 :: R) (fun ⟨n, x12, x13, x14⟩ => mirror_Mirror_each__mirror_every_2_l1 m n x12 x13 x14 = some y8) (fun ⟨n, x12, x13, x14⟩ => n) ⟨FUEL, m, s, 0⟩ ?_ ?_ (t0_ (t1_ eR)) ?_
  · exact hl6
  · exact ⟨rfl, True.intro⟩
  ·
   rintro ⟨n, x12, x13, x14⟩ h
   cases n with
   | zero => exact none_e h
   | succ n => ?_
   replace h : mirror_Mirror_each__mirror_every_2_l1_b m (mirror_Mirror_each__mirror_every_2_l1 m n) x12 x13 x14 = some y8 := h
   unfold mirror_Mirror_each__mirror_every_2_l1_b at h
   show CJ _ _ _ _ _ (([(17, .int .i64 (((x14 : Nat) : Int)))] : Slots) ++ forget _ _) (MirP bs bm x12 :: Arr bs x13 :: _)
   refine sR <| oP (P_lss (a := ((x14 : Nat) : Int)) (b := ((m.legs.length : Nat) : Int)) rfl rfl) rfl <| nT <| CJ_seq <| CJ_condP rfl bT_dec (fun hg1 => ?_) (fun hg1 => ?_)
   ·
    replace h := ite_t hg1 h
    refine kT <| CJ_seq <| CJ_block <| sR <| oM rfl rfl <| oA rfl rfl <| nT <| CJ_seq <| CJ_entX (Ent.transX (t0_ eR) (MirP_open (l := x12))) fun oc15 => CJ_pure (fun h hh => Rs_len (stars_perm (del2 (A := Rs (DevP bs) (x12.legs.map mlegS.dev) oc15.2.1)).out h hh)) fun hdl17 => lC del1 fun hlen18 => ?_
    rw [mk_mleg_len (by have := hdl17; simpa using this)] at hlen18
    refine lC del4 fun hlen19 => CJ_region <| oM rfl rfl <| oP (P_nilCheck rfl) rfl <| oP (P_fieldAddr rfl ⟨_, _, _, Try.runUnderlying74, rfl, rfl, Try.sizeOf70, rfl⟩) rfl <| oV (V_load rfl foc0 rfl Try.isAgg70) rfl <| oM rfl rfl ?_
    obtain ⟨hg2, h⟩ := grd_de h
    refine oV (V_index (i := x14) rfl rfl rfl (show x14 < (mk_mleg x12.legs oc15.2.1).length by rw [mk_mleg_len (by have := hdl17; simpa using this)]; exact hg2) foc1 (Reads.sl _ _ _) Try.runUnderlying70 Try.sizeOf83) rfl <| oP (P_fieldE rfl ⟨_, _, _, Try.runUnderlying83, rfl, rfl, Try.sizeOf72, rfl⟩) rfl <| oV (VJ_eq (V_loadE rfl rfl (show x14 < (mk_mleg x12.legs oc15.2.1).length by rw [mk_mleg_len (by have := hdl17; simpa using this)]; exact hg2) foc1 (Reads.sl _ _ _) rfl rfl Try.isAgg72) (show (.int .i64 ((x12.legs.getD x14 mleg_x0).state) : Value) = .int .i64 ((mk_mleg x12.legs oc15.2.1).getD x14 mleg_h0).state from by rw [mk_mleg_at (by have := hdl17; simpa using this)])) rfl <| oP (P_eql (a := (x12.legs.getD x14 mleg_x0).state) (b := (0 : Int)) rfl rfl) rfl <| oM rfl rfl <| RJ_splitP 29 rfl bT_dec (fun hg3B hg3 => ?_) (fun hg3B hg3 => ?_)
    ·
     replace h := ite_t hg3 h
     refine gP (GY_yes rfl rfl rfl hg3B) (P_move rfl) rfl <| gP (GY_yes rfl rfl rfl hg3B) (P_move rfl) rfl ?_
     obtain ⟨r20, hr21, h⟩ := bind_e h
     refine RJ_gy (GY_yes rfl rfl rfl hg3B) <| O_callV rfl rfl (L_mirror_every hr21) Try.call46 Dels.nil rfl fun _ _ => oP (P_pickT rfl hg3B rfl) rfl <| RJ_nil <| QJ_ent (Ent.trans eR (MirP_mk (v0 := x12.legs) (v1 := x12.log) (v2 := x12.hasLog) (v3 := x12.logState) (v4 := x12.size) (v5 := x12.region) (v6 := x12.dirty) (v7 := x12.copied) (h0 := oc15.1) (h1 := oc15.2.1) (h2 := oc15.2.2.1) (h3 := oc15.2.2.2))) <| QJ_then <| CJ_condP rfl Iff.rfl (fun hg4 => ?_) (fun hg4 => ?_)
     ·
      replace h := ite_t hg4 h
      refine sR <| oM rfl rfl <| oM rfl rfl <| oM rfl rfl <| oM rfl rfl ?_
      obtain ⟨r22, hr23, h⟩ := bind_e h
      refine oO <| O_callV rfl rfl (L_mirror_Mirror_flush_1 hr23) Try.call72 (Dels.cons del2 (Dels.cons del0 (Dels.cons del0 Dels.nil))) rfl fun _ _ => ?_
      obtain ⟨r24, hr25, h⟩ := bind_e h
      refine oO <| O_callV rfl rfl (L_mirror_Mirror_note hr25) Try.call44 (Dels.cons del1 (Dels.cons del1 Dels.nil)) rfl fun _ _ => oA rfl rfl <| nT <| sR <| oM rfl rfl <| oP (P_neq (a := r24.1) (b := (0 : Int)) rfl rfl) rfl <| nT <| CJ_condP rfl bT_dec (fun hg5 => ?_) (fun hg5 => ?_)
      ·
       replace h := ite_t hg5 h
       refine sR <| oM rfl rfl <| oA rfl rfl <| nT <| CJ_ret <| QJ_block_ret <| QJ_then_ret <| QJ_round_ret <| QJ_block_ret <| QJ_then_ret ?_
       have hE := Option.some.inj h
       replace hE := seq_inr hK7 hE.symm
       subst hE
       exact fE (res1 Try.results34 rfl) () (t0_ (t1_ eR))
      ·
       replace h := ite_f hg5 h
       exact CJ_skip <| QJ_block_normal <| QJ_then <| CJ_region <| oP (PJ_eq (P_add (a := ((x14 : Nat) : Int)) (b := (1 : Int)) rfl rfl (by omega)) rfl) rfl <| oM rfl rfl <| RJ_nil <| nR ⟨n, r24.2, r22.2, (x14 + 1)⟩ h ⟨rfl, True.intro⟩ eR
     ·
      replace h := ite_f hg4 h
      exact CJ_skip <| QJ_block_normal <| QJ_then <| CJ_region <| oP (PJ_eq (P_add (a := ((x14 : Nat) : Int)) (b := (1 : Int)) rfl rfl (by omega)) rfl) rfl <| oM rfl rfl <| RJ_nil <| nR ⟨n, x12, x13, (x14 + 1)⟩ h ⟨rfl, True.intro⟩ eR
    ·
     replace h := ite_f hg3 h
     exact RJ_gn (GY_no rfl rfl rfl hg3B) rfl rfl <| RJ_gn (GY_no rfl rfl rfl hg3B) rfl rfl <| RJ_gn (GY_no rfl rfl rfl hg3B) rfl rfl <| oP (P_pickF rfl hg3B rfl) rfl <| RJ_nil <| QJ_ent (Ent.trans eR (MirP_mk (v0 := x12.legs) (v1 := x12.log) (v2 := x12.hasLog) (v3 := x12.logState) (v4 := x12.size) (v5 := x12.region) (v6 := x12.dirty) (v7 := x12.copied) (h0 := oc15.1) (h1 := oc15.2.1) (h2 := oc15.2.2.1) (h3 := oc15.2.2.2))) <| QJ_then <| CJ_condF rfl rfl <| CJ_skip <| QJ_block_normal <| QJ_then <| CJ_region <| oP (PJ_eq (P_add (a := ((x14 : Nat) : Int)) (b := (1 : Int)) rfl rfl (by omega)) rfl) rfl <| oM rfl rfl <| RJ_nil <| nR ⟨n, x12, x13, (x14 + 1)⟩ h ⟨rfl, True.intro⟩ eR
   ·
    replace h := ite_f hg1 h
    exact CJ_exit <| QJ_then_exit <| QJ_round_exit <| QJ_block_here <| cR (x12, x13) (Option.some.inj h).symm True.intro eR
 ·
  rintro a11 hy26
  replace h := seq_inl hK7 hy26
  show CJ _ _ _ _ _ (([] : Slots) ++ forget _ _) (MirP bs bm a11.1 :: Arr bs a11.2 :: _)
  refine sR <| oM rfl rfl ?_
  obtain ⟨r27, hr28, h⟩ := bind_e h
  refine oO <| O_call (L_mirror_Mirror_result hr28) rfl Try.call31 (Dels.cons del0 (Dels.cons del0 Dels.nil)) rfl fun _ _ => oA rfl rfl <| nT <| CJ_ret ?_
  cases h
  exact fE (res1 Try.results34 rfl) () (t0_ (t1_ eR))
def mirror_Mirror_flush (m : MirS) (s : ArrS) : Option (Int × MirS × ArrS) :=
  Option.bind (mirror_Mirror_each__mirror_every_2 m s) fun r2 =>
  some (r2.1, r2.2.1, r2.2.2)
theorem L_mirror_Mirror_flush {W : World} {bm : Nat} {bs : Nat} {m : MirS} {s : ArrS} {r : Int × MirS × ArrS} (h : mirror_Mirror_flush m s = some r) :
    CSpec Try.prog W 49 [ptr bm 0] [MirP bs bm m, Arr bs s] (fun x : Unit => .int .i64 r.1) (fun _ => True) (fun x F => MirP bs bm r.2.1 :: Arr bs r.2.2 :: F) := by
 refine CSpec.of_body Try.func49 rfl Try.ntmps49 rfl fun F => ?_
 show CJ _ _ _ _ _ _ (_ :: _ :: F)
 unfold mirror_Mirror_flush at h
 refine sR <| oO <| O_box rfl rfl rfl fun b1 => oA rfl rfl <| nT <| sR <| oV (V_load rfl foc0 rfl Try.isAgg38) rfl <| oP (P_makeFunc rfl rfl) rfl ?_
 obtain ⟨r2, hr3, h⟩ := bind_e h
 refine oO <| O_call (L_mirror_Mirror_each__mirror_every_2 hr3) rfl Try.call34 (Dels.cons del1 (Dels.cons del0 (Dels.cons del0 Dels.nil))) rfl fun _ _ => oA rfl rfl <| nT <| CJ_ret ?_
 cases h
 exact fE (res1 Try.results49 rfl) () (t0_ (t1_ (eD eR)))
end Go.Proofs
