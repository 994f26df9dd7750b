/- ParityvolErrors, part 4 of the proof: LPv2, LPv3, PPv0, PPv1, PPv2, PQv3. -/
import Derived.WalkKit
import Derived.Orders
import Derived.RangeFuncLeaves
import Derived.RangeFuncCalls
import Derived.TacticsIn
import Derived.Handy
import Derived.OrdersHeld
import Derived.OrdersIn
import Derived.Below
import Derived.OpenShut
import Derived.Deep.Slices
import Derived.Scope
import Derived.KernelRfl
import Derived.RangeFuncRecord
import Derived.ChangeKeysEq
import Derived.ProofKit
import Derived.ShutString
import Derived.ChangeOld
import Derived.Test.YtmoiepdpckpolaaGreatChecked
import Derived.Test.YtmoiepdpckpolaaGreatRows
import Derived.Test.YtmoiepdpckpolaaGreatZParityvolErrors3
set_option linter.unusedSimpArgs false
set_option linter.unusedVariables false
set_option maxRecDepth 20000
set_option maxHeartbeats 4000000
namespace Go.Proofs
open Go.VG
theorem bs_43_3_0_1_2 (v0 : Int) (v1 : Int) (v2 : Int) : BuildsSlice Tryz.prog 43 3 [(0, .int .u64 v0), (1, .int .u64 v1), (2, .int .u64 v2)] 44 [.int .u64 v0, .int .u64 v1, .int .u64 v2] := fun w => by kernel_rfl
theorem bs_139_5_0_1_2_3_4 (v0 : Fn) (v1 : (Array Value)) (v2 : (Array Value)) (v3 : Fn) (v4 : (Array Value)) (v5 : (Array Value)) (v6 : Fn) (v7 : (Array Value)) (v8 : (Array Value)) (v9 : Fn) (v10 : (Array Value)) (v11 : (Array Value)) (v12 : Fn) (v13 : (Array Value)) (v14 : (Array Value)) : BuildsSlice Tryz.prog 139 5 [(0, .func v0 v1 v2), (1, .func v3 v4 v5), (2, .func v6 v7 v8), (3, .func v9 v10 v11), (4, .func v12 v13 v14)] 77 [.func v0 v1 v2, .func v3 v4 v5, .func v6 v7 v8, .func v9 v10 v11, .func v12 v13 v14] := fun w => by kernel_rfl
def parityvol_Volume_bodies_1 (x_0 : Dvc) (p1_v : VolS) (p2 : List UInt64) (s : ArrS) : Option (Int × ArrS) :=
  Option.bind (parityvol_slot p1_v.last_seq) fun r2 =>
  Option.bind (block_WriteAll x_0 r2 p2 s) fun r4 =>
  some (r4.1, r4.2)
theorem L_parityvol_Volume_bodies_1 {W : World} {vx_0 : IfH} {bp1 : Nat} {bp1_v : Nat} {bp2 : Nat} {Ap2 : HP} {vp2 : Value} {bs : Nat} {x_0 : Dvc} {p1_v : VolS} {p2 : List UInt64} {s : ArrS} {r : Int × ArrS} (rp2 : Reads Ap2 tyU vp2 p2) (h : parityvol_Volume_bodies_1 x_0 p1_v p2 s = some r) :
    CSpec Tryz.prog W 128 [IfH.v vx_0, ptr bp1 0, ptr bp2 0] [DevP bs x_0 vx_0, blk bp1 65 [ptr bp1_v 0], VolP bs bp1_v p1_v, blk bp2 43 [vp2], Ap2, Arr bs s] (fun x : Unit => .int .i64 r.1) (fun _ => True) (fun x F => DevP bs x_0 vx_0 :: blk bp1 65 [ptr bp1_v 0] :: VolP bs bp1_v p1_v :: blk bp2 43 [vp2] :: Ap2 :: Arr bs r.2 :: F) := by
 refine CSpec.of_body Tryz.func128 rfl Tryz.ntmps128 rfl fun F => ?_
 show CJ _ _ _ _ _ _ (_ :: _ :: _ :: _ :: _ :: _ :: F)
 unfold parityvol_Volume_bodies_1 at h
 refine CJ_pure (len_of rp2 del4) fun hlen1 => sR <| oA rfl rfl <| nT <| CJ_seq <| AJ_startH 256 (by kernel_rfl) rfl <| aN 0 1 rfl rfl (P_move rfl) rfl <| aV 1 3 rfl rfl (GY_none rfl) eR (V_load rfl foc1 rfl Tryz.isAgg65) rfl <| aN 2 7 rfl rfl (P_nilCheck rfl) rfl <| aN 3 15 rfl rfl (P_fieldAddr rfl ⟨_, _, _, Tryz.runUnderlying123, rfl, rfl, Tryz.sizeOf121, rfl⟩) rfl <| aN 4 31 rfl rfl (P_fieldAddr rfl ⟨_, _, _, Tryz.runUnderlying121, rfl, rfl, Tryz.sizeOf44, rfl⟩) rfl <| aV 5 63 rfl rfl (GY_none rfl) eR (VJ_entX (Ent.transX (t2_ eR) (VolP_open (l := p1_v))) (fun _ => V_load rfl foc0 rfl Tryz.isAgg44)) rfl <| aV 7 191 rfl rfl (GY_none rfl) eR (V_load rfl foc3 rfl Tryz.isAgg43) rfl ?_
 obtain ⟨r2, hr3, h⟩ := bind_e h
 refine AJ_op 6 255 rfl (by kernel_rfl) rfl (GY_none rfl) <| O_call (L_parityvol_slot hr3) rfl Tryz.call85 Dels.nil rfl fun _ _ => ⟨fun _ => eR, ?_⟩
 obtain ⟨r4, hr5, h⟩ := bind_e h
 refine AJ_op 8 511 rfl (by kernel_rfl) rfl (GY_none rfl) <| O_call (L_block_WriteAll rp2 hr5) rfl Tryz.call66 (Dels.cons del0 (Dels.cons del3 (Dels.cons del3 Dels.nil))) rfl fun _ _ => ⟨fun h => absurd h (by decide), ?_⟩
 refine aN 9 1023 rfl rfl (P_assign rfl) rfl <| aD <| CJ_ret ?_
 cases h
 exact fE (res1 Tryz.results128 rfl) () (t0_ (t2_ (t2_ (t2_ eR))))
def parityvol_Volume_on_1 (p0 : Int) (p1_v : VolS) (p2 : Int) (s : ArrS) : Option (Int × VolS) :=
  if ((p0 = (0 : Int)) ∨ (p0 = (5 : Int))) then
    some (p0, p1_v)
  else
    grd (decide (0 ≤ p2 ∧ p2 < (p1_v.legs.length : Int))) <|
    if (p1_v.legs.getD ((p2).toNat) prt_x0).stale = true then
      some (((0 : Int), { p1_v with filled := (0 : Int) }))
    else
      grd (decide (0 ≤ p2 ∧ p2 < (p1_v.legs.length : Int))) <|
      some (((18 : Int), { p1_v with legs := (p1_v.legs.set ((p2).toNat) { p1_v.legs.getD ((p2).toNat) prt_x0 with failed := true }) }))
theorem LD_parityvol_Volume_on_1 {W : World} {bp0 : Nat} {bp1 : Nat} {bp1_v : Nat} {bp2 : Nat} {bs : Nat} {p0 : Int} {p1_v : VolS} {p2 : Int} {s : ArrS} {r : Int × VolS} (h : parityvol_Volume_on_1 p0 p1_v p2 s = some r) :
    DSpec Tryz.prog W 114 [ptr bp0 0, ptr bp1 0, ptr bp2 0] [blk bp0 40 [.int .i64 p0], blk bp1 65 [ptr bp1_v 0], VolP bs bp1_v p1_v, blk bp2 3 [.int .i64 p2], Arr bs s] [blk bp0 40 [.int .i64 r.1], blk bp1 65 [ptr bp1_v 0], VolP bs bp1_v r.2, blk bp2 3 [.int .i64 p2], Arr bs s] := by
  refine DSpec.of_body (X := Unit) (res := fun _ => .tuple #[]) (pf := fun _ => True) Tryz.func114 rfl Tryz.ntmps114 rfl (fun F => ?_)
  show CJ _ _ _ _ _ _ (_ :: _ :: _ :: _ :: _ :: F)
  unfold parityvol_Volume_on_1 at h
  refine CJ_block ?_
  refine CJ_seq ?_
  refine CJ_region ?_
  refine RJ_op rfl (OJ_V (V_load rfl foc0 rfl Tryz.isAgg40) rfl ?_)
  refine RJ_op rfl (OJ_P (P_eql (a := p0) (b := (0 : Int)) rfl rfl) rfl ?_)
  refine RJ_op rfl (OJ_P (P_move rfl) rfl ?_)
  refine RJ_mbF rfl rfl rfl (fun hG1 => have hP2 : ¬ (p0 = (0 : Int)) := nP (bT_dec) hG1; V_load rfl foc0 rfl Tryz.isAgg40) ?_
  refine RJ_mbF rfl rfl rfl (fun hG3 => have hP4 : ¬ (p0 = (0 : Int)) := nP (bT_dec) hG3; VJ_P (P_eql (a := p0) (b := (5 : Int)) (mbx hG3 rfl) rfl)) ?_
  refine RJ_op rfl (OJ_P (P_pickOr rfl rfl (fun hh => mbx (not_f hh) rfl)) rfl ?_)
  refine RJ_op rfl (OJ_P (P_assign rfl) rfl ?_)
  refine RJ_nil ?_
  refine QJ_then ?_
  refine CJ_condP rfl (bT_or bT_dec bT_dec) (fun hg1 => ?_) (fun hg1 => ?_)
  ·
    replace h := ite_t hg1 h
    refine CJ_skip ?_
    refine QJ_block_normal ?_
    have hE := Option.some.inj h
    subst hE
    refine QJ_endN (res0 Tryz.results114) ?_
    refine CSpec.close () ?_ ?_ Ent.refl
    · rfl
    · trivial
  ·
    replace h := ite_f hg1 h
    refine CJ_seq ?_
    refine CJ_entX (Ent.transX (Ent.take del2 Ent.refl) (VolP_open (l := p1_v))) (fun oc5 => ?_)
    refine CJ_pure (fun h hh => Rs_len (stars_perm (del2 (A := Rs (DevP bs) (p1_v.legs.map prtS.dev) oc5.2)).out h hh)) (fun hdl7 => ?_)
    refine CJ_pure (len_of (Reads.sl _ _ _) del1) (fun hlen8 => ?_)
    rw [mk_prt_len (by have := hdl7; simpa using this)] at hlen8
    refine AJ_startH 0 (by kernel_rfl) rfl ?_
    refine AJ_takeV 0 1 rfl (by kernel_rfl) rfl (by kernel_rfl) (by kernel_rfl) (GY_none rfl) Ent.refl (V_load rfl foc4 rfl Tryz.isAgg65) rfl (fun _ _ _ _ h => h) ?_
    refine AJ_takeP 1 3 rfl (by kernel_rfl) rfl (GY_none rfl) (P_nilCheck rfl) rfl (fun _ _ _ _ h => h) ?_
    refine AJ_takeP 2 7 rfl (by kernel_rfl) rfl (GY_none rfl) (P_fieldAddr rfl ⟨_, _, _, Tryz.runUnderlying123, rfl, rfl, Tryz.sizeOf119, rfl⟩) rfl (fun _ _ _ _ h => h) ?_
    refine AJ_takeV 3 15 rfl (by kernel_rfl) rfl (by kernel_rfl) (by kernel_rfl) (GY_none rfl) Ent.refl (V_load rfl foc0 rfl Tryz.isAgg119) rfl (fun _ _ _ _ h => h) ?_
    refine AJ_takeV 4 31 rfl (by kernel_rfl) rfl (by kernel_rfl) (by kernel_rfl) (GY_none rfl) Ent.refl (V_load rfl foc5 rfl Tryz.isAgg3) rfl (fun _ _ _ _ h => h) ?_
    obtain ⟨hg2, h⟩ := grd_de h
    refine AJ_takeV 5 63 rfl (by kernel_rfl) rfl (by kernel_rfl) (by kernel_rfl) (GY_none rfl) Ent.refl (V_index (i := (p2).toNat) rfl rfl (Int.toNat_of_nonneg (hg2.1)).symm (show (p2).toNat < (mk_prt p1_v.legs oc5.2).length by rw [mk_prt_len (by have := hdl7; simpa using this)]; exact (by omega)) foc1 (Reads.sl _ _ _) Tryz.runUnderlying119 Tryz.sizeOf126) rfl (fun _ _ _ _ h => h) ?_
    refine AJ_takeP 6 127 rfl (by kernel_rfl) rfl (GY_none rfl) (P_fieldE rfl ⟨_, _, _, Tryz.runUnderlying126, rfl, rfl, Tryz.sizeOf4, rfl⟩) rfl (fun _ _ _ _ h => h) ?_
    refine AJ_takeV 7 255 rfl (by kernel_rfl) rfl (by kernel_rfl) (by kernel_rfl) (GY_none rfl) Ent.refl (VJ_eq (V_loadE rfl rfl (show (p2).toNat < (mk_prt p1_v.legs oc5.2).length by rw [mk_prt_len (by have := hdl7; simpa using this)]; exact (by omega)) foc1 (Reads.sl _ _ _) rfl rfl Tryz.isAgg4) (show (.bool ((p1_v.legs.getD ((p2).toNat) prt_x0).stale) : Value) = .bool ((mk_prt p1_v.legs oc5.2).getD ((p2).toNat) prt_h0).stale from by rw [mk_prt_at (by have := hdl7; simpa using this)])) rfl (fun _ _ _ _ h => h) ?_
    refine AJ_takeP 8 511 rfl (by kernel_rfl) rfl (GY_none rfl) (P_assign rfl) rfl (fun _ _ _ _ h => h) ?_
    refine AJ_done (by kernel_rfl) ?_
    refine QJ_ent (Ent.trans Ent.refl (VolP_mk (v0 := p1_v.layout_n) (v1 := p1_v.layout_chunk) (v2 := p1_v.layout_rows) (v3 := p1_v.legs) (v4 := p1_v.last_seq) (v5 := p1_v.last_offset) (v6 := p1_v.last_leg) (v7 := p1_v.last_word) (v8 := p1_v.last_parity) (v9 := p1_v.pending) (v10 := p1_v.filled) (h0 := oc5.1) (h1 := oc5.2))) ?_
    refine QJ_then ?_
    refine CJ_condP rfl Iff.rfl (fun hg3 => ?_) (fun hg3 => ?_)
    ·
      replace h := ite_t hg3 h
      refine CJ_entX (Ent.transX (Ent.take del0 Ent.refl) (VolP_open (l := p1_v))) (fun oc9 => ?_)
      refine CJ_pure (fun h hh => Rs_len (stars_perm (del2 (A := Rs (DevP bs) (p1_v.legs.map prtS.dev) oc9.2)).out h hh)) (fun hdl11 => ?_)
      refine CJ_pure (len_of (Reads.sl _ _ _) del1) (fun hlen12 => ?_)
      rw [mk_prt_len (by have := hdl11; simpa using this)] at hlen12
      refine CJ_region ?_
      refine RJ_op rfl (OJ_V (V_load rfl foc4 rfl Tryz.isAgg65) rfl ?_)
      refine RJ_op rfl (OJ_P (P_nilCheck rfl) rfl ?_)
      refine RJ_op rfl (OJ_P (P_fieldAddr rfl ⟨_, _, _, Tryz.runUnderlying123, rfl, rfl, Tryz.sizeOf3, rfl⟩) rfl ?_)
      refine RJ_op rfl (O_store rfl rfl foc0 rfl rfl Tryz.sizeOf3 ?_)
      refine RJ_op rfl (O_store rfl rfl foc3 rfl rfl Tryz.sizeOf40 ?_)
      refine RJ_nil ?_
      refine QJ_ent (Ent.trans Ent.refl (VolP_mk (v0 := p1_v.layout_n) (v1 := p1_v.layout_chunk) (v2 := p1_v.layout_rows) (v3 := p1_v.legs) (v4 := p1_v.last_seq) (v5 := p1_v.last_offset) (v6 := p1_v.last_leg) (v7 := p1_v.last_word) (v8 := p1_v.last_parity) (v9 := p1_v.pending) (v10 := (0 : Int)) (h0 := oc9.1) (h1 := oc9.2))) ?_
      refine QJ_block_normal ?_
      have hE := Option.some.inj h
      subst hE
      refine QJ_endN (res0 Tryz.results114) ?_
      refine CSpec.close () ?_ ?_ (Ent.take del1 (Ent.take del1 Ent.refl))
      · rfl
      · trivial
    ·
      replace h := ite_f hg3 h
      refine CJ_entX (Ent.transX (Ent.take del0 Ent.refl) (VolP_open (l := p1_v))) (fun oc13 => ?_)
      refine CJ_pure (fun h hh => Rs_len (stars_perm (del2 (A := Rs (DevP bs) (p1_v.legs.map prtS.dev) oc13.2)).out h hh)) (fun hdl15 => ?_)
      refine CJ_pure (len_of (Reads.sl _ _ _) del1) (fun hlen16 => ?_)
      rw [mk_prt_len (by have := hdl15; simpa using this)] at hlen16
      refine AJ_startH 384 (by kernel_rfl) rfl ?_
      refine AJ_takeV 0 1 rfl (by kernel_rfl) rfl (by kernel_rfl) (by kernel_rfl) (GY_none rfl) Ent.refl (V_load rfl foc4 rfl Tryz.isAgg65) rfl (fun _ _ _ _ h => h) ?_
      refine AJ_takeP 1 3 rfl (by kernel_rfl) rfl (GY_none rfl) (P_nilCheck rfl) rfl (fun _ _ _ _ h => h) ?_
      refine AJ_takeP 2 7 rfl (by kernel_rfl) rfl (GY_none rfl) (P_fieldAddr rfl ⟨_, _, _, Tryz.runUnderlying123, rfl, rfl, Tryz.sizeOf119, rfl⟩) rfl (fun _ _ _ _ h => h) ?_
      refine AJ_takeV 3 15 rfl (by kernel_rfl) rfl (by kernel_rfl) (by kernel_rfl) (GY_none rfl) Ent.refl (V_load rfl foc0 rfl Tryz.isAgg119) rfl (fun _ _ _ _ h => h) ?_
      refine AJ_takeV 4 31 rfl (by kernel_rfl) rfl (by kernel_rfl) (by kernel_rfl) (GY_none rfl) Ent.refl (V_load rfl foc5 rfl Tryz.isAgg3) rfl (fun _ _ _ _ h => h) ?_
      obtain ⟨hg4, h⟩ := grd_de h
      refine AJ_takeV 5 63 rfl (by kernel_rfl) rfl (by kernel_rfl) (by kernel_rfl) (GY_none rfl) Ent.refl (V_index (i := (p2).toNat) rfl rfl (Int.toNat_of_nonneg (hg4.1)).symm (show (p2).toNat < (mk_prt p1_v.legs oc13.2).length by rw [mk_prt_len (by have := hdl15; simpa using this)]; exact (by omega)) foc1 (Reads.sl _ _ _) Tryz.runUnderlying119 Tryz.sizeOf126) rfl (fun _ _ _ _ h => h) ?_
      refine AJ_takeP 6 127 rfl (by kernel_rfl) rfl (GY_none rfl) (P_fieldE rfl ⟨_, _, _, Tryz.runUnderlying126, rfl, rfl, Tryz.sizeOf4, rfl⟩) rfl (fun _ _ _ _ h => h) ?_
      refine AJ_op 7 255 rfl (by kernel_rfl) rfl (GY_none rfl) (O_storeE (x' := { (mk_prt p1_v.legs oc13.2).getD ((p2).toNat) prt_h0 with failed := true }) rfl rfl rfl (show (p2).toNat < (mk_prt p1_v.legs oc13.2).length by rw [mk_prt_len (by have := hdl15; simpa using this)]; exact (by omega)) foc1 rfl rfl rfl Tryz.sizeOf4 ?_)
      refine ⟨fun h => absurd h (by decide), ?_⟩
      refine AJ_ent (Ent.takeC (A' := sl typrtH (Sl3.v oc13.1) (mk_prt (p1_v.legs.set ((p2).toNat) { p1_v.legs.getD ((p2).toNat) prt_x0 with failed := true }) oc13.2)) del1 (congrArg (sl typrtH (Sl3.v oc13.1)) (mk_prt_set_failed (by have := hdl15; simpa using this) (by omega) true)) (Ent.takeC (A' := Rs (DevP bs) (((p1_v.legs.set ((p2).toNat) { p1_v.legs.getD ((p2).toNat) prt_x0 with failed := true })).map prtS.dev) oc13.2) del1 (congrArg (fun z => Rs (DevP bs) z oc13.2) (mk_prt_dev_failed (l := p1_v.legs) (i := ((p2).toNat)) true).symm) Ent.refl)) ?_
      refine AJ_pure (fun h hh => Rs_len (stars_perm (del1 (A := Rs (DevP bs) ((((p1_v.legs.set ((p2).toNat) { p1_v.legs.getD ((p2).toNat) prt_x0 with failed := true })).map prtS.dev)) oc13.2)).out h hh)) (fun hdl17 => ?_)
      refine AJ_op 8 511 rfl (by kernel_rfl) rfl (GY_none rfl) (O_store rfl rfl foc3 rfl rfl Tryz.sizeOf40 ?_)
      refine ⟨fun h => absurd h (by decide), ?_⟩
      refine AJ_done (by kernel_rfl) ?_
      refine QJ_ent (Ent.trans (Ent.take del2 Ent.refl) (VolP_mk (v0 := p1_v.layout_n) (v1 := p1_v.layout_chunk) (v2 := p1_v.layout_rows) (v3 := (p1_v.legs.set ((p2).toNat) { p1_v.legs.getD ((p2).toNat) prt_x0 with failed := true })) (v4 := p1_v.last_seq) (v5 := p1_v.last_offset) (v6 := p1_v.last_leg) (v7 := p1_v.last_word) (v8 := p1_v.last_parity) (v9 := p1_v.pending) (v10 := p1_v.filled) (h0 := oc13.1) (h1 := oc13.2))) ?_
      refine QJ_block_normal ?_
      have hE := Option.some.inj h
      subst hE
      refine QJ_endN (res0 Tryz.results114) ?_
      refine CSpec.close () ?_ ?_ (Ent.take del1 (Ent.take del1 Ent.refl))
      · rfl
      · trivial
def parityvol_Volume_on__parityvol_Volume_bodies_1 (v : VolS) (i : Int) (f_c1 : List UInt64) (s : ArrS) : Option (Int × VolS × ArrS) :=
  grd (decide (0 ≤ i ∧ i < (v.legs.length : Int))) <|
  Option.bind (parityvol_Volume_bodies_1 ((v.legs.getD ((i).toNat) prt_x0).dev) v f_c1 s) fun r10 =>
  Option.bind (parityvol_Volume_on_1 r10.1 v i r10.2) fun r12 =>
  some (r12.1, r12.2, r10.2)
theorem L_parityvol_Volume_on__parityvol_Volume_bodies_1 {W : World} {bv : Nat} {bf_c0 : Nat} {bf_c1 : Nat} {Af_c1 : HP} {vf_c1 : Value} {bs : Nat} {v : VolS} {i : Int} {f_c1 : List UInt64} {s : ArrS} {r : Int × VolS × ArrS} (rf_c1 : Reads Af_c1 tyU vf_c1 f_c1) (h : parityvol_Volume_on__parityvol_Volume_bodies_1 v i f_c1 s = some r) :
    CSpec Tryz.prog W 78 [ptr bv 0, .int .i64 i, .func (.func 128) #[] #[ptr bf_c0 0, ptr bf_c1 0]] [VolP bs bv v, blk bf_c0 65 [ptr bv 0], blk bf_c1 43 [vf_c1], Af_c1, Arr bs s] (fun x : Unit => .int .i64 r.1) (fun _ => True) (fun x F => VolP bs bv r.2.1 :: blk bf_c0 65 [ptr bv 0] :: blk bf_c1 43 [vf_c1] :: Af_c1 :: Arr bs r.2.2 :: F) := by
  refine CSpec.of_bodyM Tryz.func78 rfl Tryz.ntmps78 rfl (fun F => ?_)
  show CJ _ _ _ _ _ _ (_ :: _ :: _ :: _ :: _ :: F)
  unfold parityvol_Volume_on__parityvol_Volume_bodies_1 at h
  refine CJ_pure (len_of rf_c1 del3) (fun hlen1 => ?_)
  refine CJ_seq ?_
  refine CJ_region ?_
  refine RJ_op rfl (O_box rfl rfl rfl (fun b2 => ?_))
  refine RJ_op rfl (O_box rfl rfl rfl (fun b3 => ?_))
  refine RJ_op rfl (O_alloc Tryz.zeroValue40 rfl rfl (fun b4 => ?_))
  refine RJ_nil ?_
  refine QJ_then ?_
  refine CJ_seq ?_
  refine CJ_region ?_
  refine RJ_op rfl (OJ_P (P_makeFunc rfl rfl) rfl ?_)
  refine RJ_defer rfl rfl ?_
  refine RJ_nil ?_
  refine QJ_then ?_
  refine CJ_seq ?_
  refine CJ_entX (Ent.transX (Ent.take del3 Ent.refl) (VolP_open (l := v))) (fun oc5 => ?_)
  refine CJ_pure (fun h hh => Rs_len (stars_perm (del2 (A := Rs (DevP bs) (v.legs.map prtS.dev) oc5.2)).out h hh)) (fun hdl7 => ?_)
  refine CJ_pure (len_of (Reads.sl _ _ _) del1) (fun hlen8 => ?_)
  rw [mk_prt_len (by have := hdl7; simpa using this)] at hlen8
  refine AJ_startH 1536 (by kernel_rfl) rfl ?_
  refine AJ_takeP 0 1 rfl (by kernel_rfl) rfl (GY_none rfl) (P_move rfl) rfl (fun _ _ _ _ h => h) ?_
  refine AJ_takeV 1 3 rfl (by kernel_rfl) rfl (by kernel_rfl) (by kernel_rfl) (GY_none rfl) Ent.refl (V_load rfl foc5 rfl Tryz.isAgg65) rfl (fun _ _ _ _ h => h) ?_
  refine AJ_takeP 2 7 rfl (by kernel_rfl) rfl (GY_none rfl) (P_nilCheck rfl) rfl (fun _ _ _ _ h => h) ?_
  refine AJ_takeP 3 15 rfl (by kernel_rfl) rfl (GY_none rfl) (P_fieldAddr rfl ⟨_, _, _, Tryz.runUnderlying123, rfl, rfl, Tryz.sizeOf119, rfl⟩) rfl (fun _ _ _ _ h => h) ?_
  refine AJ_takeV 4 31 rfl (by kernel_rfl) rfl (by kernel_rfl) (by kernel_rfl) (GY_none rfl) Ent.refl (V_load rfl foc0 rfl Tryz.isAgg119) rfl (fun _ _ _ _ h => h) ?_
  refine AJ_takeV 5 63 rfl (by kernel_rfl) rfl (by kernel_rfl) (by kernel_rfl) (GY_none rfl) Ent.refl (V_load rfl foc4 rfl Tryz.isAgg3) rfl (fun _ _ _ _ h => h) ?_
  obtain ⟨hg1, h⟩ := grd_de h
  refine AJ_takeV 6 127 rfl (by kernel_rfl) rfl (by kernel_rfl) (by kernel_rfl) (GY_none rfl) Ent.refl (V_index (i := (i).toNat) rfl rfl (Int.toNat_of_nonneg (hg1.1)).symm (show (i).toNat < (mk_prt v.legs oc5.2).length by rw [mk_prt_len (by have := hdl7; simpa using this)]; exact (by omega)) foc1 (Reads.sl _ _ _) Tryz.runUnderlying119 Tryz.sizeOf126) rfl (fun _ _ _ _ h => h) ?_
  refine AJ_takeP 7 255 rfl (by kernel_rfl) rfl (GY_none rfl) (P_fieldE rfl ⟨_, _, _, Tryz.runUnderlying126, rfl, rfl, Tryz.sizeOf79, rfl⟩) rfl (fun _ _ _ _ h => h) ?_
  refine AJ_ent (Ent.trans (Ent.take del2 Ent.refl) (mk_prt_rs (i := (i).toNat) (by omega))) ?_
  refine AJ_takeV 8 511 rfl (by kernel_rfl) rfl (by kernel_rfl) (by kernel_rfl) (GY_none rfl) (Ent.take del2 (Ent.take del2 (Ent.take del1 (Ent.take del1 (Ent.take del1 (Ent.take del1 (Ent.take del1 (Ent.take del1 (Ent.take del1 (Ent.take del1 (Ent.drop Ent.refl))))))))))) (VJ_eq (V_loadE rfl rfl (show (i).toNat < (mk_prt v.legs oc5.2).length by rw [mk_prt_len (by have := hdl7; simpa using this)]; exact (by omega)) foc1 (Reads.sl _ _ _) rfl rfl Tryz.isAgg79) (show (IfH.v ((oc5.2.getD ((i).toNat) tyDev.dflt)) : Value) = IfH.v ((mk_prt v.legs oc5.2).getD ((i).toNat) prt_h0).dev from by rw [mk_prt_at (by have := hdl7; simpa using this)])) rfl (fun _ _ _ _ h => h) ?_
  refine AJ_ent (Ent.trans (Ent.take del2 (Ent.take del2 (Ent.take del1 Ent.refl))) (VolP_mk (v0 := v.layout_n) (v1 := v.layout_chunk) (v2 := v.layout_rows) (v3 := v.legs) (v4 := v.last_seq) (v5 := v.last_offset) (v6 := v.last_leg) (v7 := v.last_word) (v8 := v.last_parity) (v9 := v.pending) (v10 := v.filled) (h0 := oc5.1) (h1 := oc5.2))) ?_
  obtain ⟨r10, hr11, h⟩ := bind_e h
  refine AJ_op 9 1023 rfl (by kernel_rfl) rfl (GY_none rfl) (O_callV rfl rfl (L_parityvol_Volume_bodies_1 rf_c1 hr11) Tryz.call128 (Dels.cons del1 (Dels.cons del4 (Dels.cons del0 (Dels.cons del3 (Dels.cons del3 (Dels.cons del3 Dels.nil)))))) rfl (fun _ _ => ?_))
  refine ⟨fun h => absurd h (by decide), ?_⟩
  refine AJ_op 10 2047 rfl (by kernel_rfl) rfl (GY_none rfl) (O_store rfl rfl foc6 rfl rfl Tryz.sizeOf40 ?_)
  refine ⟨fun h => absurd h (by decide), ?_⟩
  refine AJ_done (by kernel_rfl) ?_
  refine QJ_ent (Ent.take del1 (Ent.take del1 (Ent.take del1 (Ent.take del1 (Ent.take del1 (Ent.take del1 (Ent.take del1 (Ent.take del1 (Ent.drop Ent.refl))))))))) ?_
  refine QJ_then ?_
  refine CJ_ret ?_
  obtain ⟨r12, hr13, h⟩ := bind_e h
  have hE := Option.some.inj h
  subst hE
  refine QJ_endD1 (.inl rfl) Tryz.call114 (Ent.take del5 (Ent.take del6 (Ent.take del1 (Ent.take del4 (Ent.take del3 Ent.refl))))) (LD_parityvol_Volume_on_1 hr13) (resA1 Tryz.results78 (RV_cell rfl foc0 rfl Tryz.isAgg40)) ?_
  refine CSpec.close () ?_ ?_ (Ent.take del2 (Ent.take del4 (Ent.take del4 (Ent.take del4 (Ent.take del3 (Ent.drop (Ent.drop (Ent.drop Ent.refl))))))))
  · rfl
  · trivial
def parityvol_Volume_all__parityvol_Volume_bodies_1_l1_b (v : VolS) (f_c1 : List UInt64) (rec : ArrS → VolS → Nat → Option ((VolS × ArrS) ⊕ (Int × VolS × ArrS))) (x12 : ArrS) (x13 : VolS) (x14 : Nat) : Option ((VolS × ArrS) ⊕ (Int × VolS × ArrS)) :=
  if (((x14 : Nat) : Int) < ((v.legs.length : Nat) : Int)) then
    grd (decide (x14 < x13.legs.length)) <|
    if (¬ (x13.legs.getD x14 prt_x0).stale = true) then
      Option.bind (parityvol_Volume_on__parityvol_Volume_bodies_1 x13 (((x14 : Nat) : Int)) f_c1 x12) fun r19 =>
      if (r19.1 ≠ (0 : Int)) then
        some (.inr (r19.1, r19.2.1, r19.2.2))
      else
        rec r19.2.2 r19.2.1 (x14 + 1)
    else
      rec x12 x13 (x14 + 1)
  else
    some (.inl (x13, x12))
def parityvol_Volume_all__parityvol_Volume_bodies_1_l1 (v : VolS) (f_c1 : List UInt64) : Nat → ArrS → VolS → Nat → Option ((VolS × ArrS) ⊕ (Int × VolS × ArrS))
  | 0, _, _, _ => none
  | n + 1, x12, x13, x14 => parityvol_Volume_all__parityvol_Volume_bodies_1_l1_b v f_c1 (parityvol_Volume_all__parityvol_Volume_bodies_1_l1 v f_c1 n) x12 x13 x14
def parityvol_Volume_all__parityvol_Volume_bodies_1 (v : VolS) (f_c1 : List UInt64) (s : ArrS) : Option (Int × VolS × ArrS) :=
  seqO (parityvol_Volume_all__parityvol_Volume_bodies_1_l1 v f_c1 FUEL s v 0) fun a11 =>
  some (((0 : Int), a11.1, a11.2))
theorem L_parityvol_Volume_all__parityvol_Volume_bodies_1 {W : World} {bv : Nat} {bf_c0 : Nat} {bf_c1 : Nat} {Af_c1 : HP} {vf_c1 : Value} {bs : Nat} {v : VolS} {f_c1 : List UInt64} {s : ArrS} {r : Int × VolS × ArrS} (rf_c1 : Reads Af_c1 tyU vf_c1 f_c1) (h : parityvol_Volume_all__parityvol_Volume_bodies_1 v f_c1 s = some r) :
    CSpec Tryz.prog W 117 [ptr bv 0, .func (.func 128) #[] #[ptr bf_c0 0, ptr bf_c1 0]] [VolP bs bv v, blk bf_c0 65 [ptr bv 0], blk bf_c1 43 [vf_c1], Af_c1, Arr bs s] (fun x : Unit => .int .i64 r.1) (fun _ => True) (fun x F => VolP bs bv r.2.1 :: blk bf_c0 65 [ptr bv 0] :: blk bf_c1 43 [vf_c1] :: Af_c1 :: Arr bs r.2.2 :: F) := by
 refine CSpec.of_body Tryz.func117 rfl Tryz.ntmps117 rfl fun F => ?_
 show CJ _ _ _ _ _ _ (_ :: _ :: _ :: _ :: _ :: F)
 unfold parityvol_Volume_all__parityvol_Volume_bodies_1 at h
 refine CJ_pure (len_of rf_c1 del3) fun hlen1 => sR <| oA rfl rfl <| nT <| CJ_seq <| CJ_seq <| CJ_entX (Ent.transX (t0_ eR) (VolP_open (l := v))) fun oc2 => CJ_pure (fun h hh => Rs_len (stars_perm (del2 (A := Rs (DevP bs) (v.legs.map prtS.dev) oc2.2)).out h hh)) fun hdl4 => lC del1 fun hlen5 => ?_
 rw [mk_prt_len (by have := hdl4; simpa using this)] at hlen5
 refine CJ_region <| oM rfl rfl <| oP (P_nilCheck rfl) rfl <| oP (P_fieldAddr rfl ⟨_, _, _, Tryz.runUnderlying123, rfl, rfl, Tryz.sizeOf119, rfl⟩) rfl <| oV (V_load rfl foc0 rfl Tryz.isAgg119) rfl <| oV (VJ_eq (V_len rfl foc1 (Reads.sl _ _ _) Tryz.runUnderlying119) (congrArg (fun z : Nat => Value.int .i64 (z : Int)) (mk_prt_len (by have := hdl4; simpa using this)).symm)) rfl <| oM rfl rfl <| RJ_nil <| QJ_ent (Ent.trans eR (VolP_mk (v0 := v.layout_n) (v1 := v.layout_chunk) (v2 := v.layout_rows) (v3 := v.legs) (v4 := v.last_seq) (v5 := v.last_offset) (v6 := v.last_leg) (v7 := v.last_word) (v8 := v.last_parity) (v9 := v.pending) (v10 := v.filled) (h0 := oc2.1) (h1 := oc2.2))) <| QJ_then ?_
 obtain ⟨y8, hl6, hK7⟩ := seq_e h
 refine CJ_cutT (X := VolS × ArrS) [4, 5, 6, 12, 13, 14, 15, 16, 17, 18, 19, 20, 21, 22, 23, 24, 25, 26, 27, 28, 29, 30, 31] (fun a11 => ([] : Slots)) (fun a11 R => VolP bs bv a11.1 :: Arr bs a11.2 :: R) (fun a11 => y8 = .inl a11) (Dels.cons del0 (Dels.cons del3 Dels.nil)) ?_ ?_
 ·
  refine CJ_block <| CJ_loopR (X := Nat × ArrS × VolS × Nat) [4, 5, 6, 12, 13, 14, 15, 16, 17, 18, 19, 20, 21, 22, 23, 24, 25, 26, 27, 28, 29, 30, 31] (fun ⟨n, x12, x13, x14⟩ => ([(12, .int .i64 (((x14 : Nat) : Int)))] : Slots)) (fun ⟨n, x12, x13, x14⟩ R => Arr bs x12 :: VolP bs bv x13 :: R) (fun ⟨n, x12, x13, x14⟩ => parityvol_Volume_all__parityvol_Volume_bodies_1_l1 v f_c1 n x12 x13 x14 = some y8) (fun ⟨n, x12, x13, x14⟩ => n) ⟨FUEL, s, v, 0⟩ ?_ ?_ (t4_ eR) ?_
  · exact hl6
  · exact ⟨rfl, True.intro⟩
  ·
   rintro ⟨n, x12, x13, x14⟩ h
   cases n with
   | zero => exact none_e h
   | succ n => ?_
   replace h : parityvol_Volume_all__parityvol_Volume_bodies_1_l1_b v f_c1 (parityvol_Volume_all__parityvol_Volume_bodies_1_l1 v f_c1 n) x12 x13 x14 = some y8 := h
   unfold parityvol_Volume_all__parityvol_Volume_bodies_1_l1_b at h
   show CJ _ _ _ _ _ (([(12, .int .i64 (((x14 : Nat) : Int)))] : Slots) ++ forget _ _) (Arr bs x12 :: VolP bs bv x13 :: _)
   refine sR <| oP (P_lss (a := ((x14 : Nat) : Int)) (b := ((v.legs.length : Nat) : Int)) rfl rfl) rfl <| nT <| CJ_seq <| CJ_condP rfl bT_dec (fun hg1 => ?_) (fun hg1 => ?_)
   ·
    replace h := ite_t hg1 h
    refine kT <| CJ_seq <| CJ_block <| sR <| oM rfl rfl <| oA rfl rfl <| nT <| CJ_seq <| CJ_entX (Ent.transX (t1_ eR) (VolP_open (l := x13))) fun oc15 => CJ_pure (fun h hh => Rs_len (stars_perm (del2 (A := Rs (DevP bs) (x13.legs.map prtS.dev) oc15.2)).out h hh)) fun hdl17 => lC del1 fun hlen18 => ?_
    rw [mk_prt_len (by have := hdl17; simpa using this)] at hlen18
    refine CJ_region <| oM rfl rfl <| oP (P_nilCheck rfl) rfl <| oP (P_fieldAddr rfl ⟨_, _, _, Tryz.runUnderlying123, rfl, rfl, Tryz.sizeOf119, rfl⟩) rfl <| oV (V_load rfl foc0 rfl Tryz.isAgg119) rfl <| oM rfl rfl ?_
    obtain ⟨hg2, h⟩ := grd_de h
    refine oV (V_index (i := x14) rfl rfl rfl (show x14 < (mk_prt x13.legs oc15.2).length by rw [mk_prt_len (by have := hdl17; simpa using this)]; exact hg2) foc1 (Reads.sl _ _ _) Tryz.runUnderlying119 Tryz.sizeOf126) rfl <| oP (P_fieldE rfl ⟨_, _, _, Tryz.runUnderlying126, rfl, rfl, Tryz.sizeOf4, rfl⟩) rfl <| oV (VJ_eq (V_loadE rfl rfl (show x14 < (mk_prt x13.legs oc15.2).length by rw [mk_prt_len (by have := hdl17; simpa using this)]; exact hg2) foc1 (Reads.sl _ _ _) rfl rfl Tryz.isAgg4) (show (.bool ((x13.legs.getD x14 prt_x0).stale) : Value) = .bool ((mk_prt x13.legs oc15.2).getD x14 prt_h0).stale from by rw [mk_prt_at (by have := hdl17; simpa using this)])) rfl <| oP (P_not rfl) rfl <| RJ_nil <| QJ_ent (Ent.trans eR (VolP_mk (v0 := x13.layout_n) (v1 := x13.layout_chunk) (v2 := x13.layout_rows) (v3 := x13.legs) (v4 := x13.last_seq) (v5 := x13.last_offset) (v6 := x13.last_leg) (v7 := x13.last_word) (v8 := x13.last_parity) (v9 := x13.pending) (v10 := x13.filled) (h0 := oc15.1) (h1 := oc15.2))) <| QJ_then <| CJ_condP rfl (bT_not Iff.rfl) (fun hg3 => ?_) (fun hg3 => ?_)
    ·
     replace h := ite_t hg3 h
     refine sR <| oM rfl rfl <| oM rfl rfl <| oM rfl rfl ?_
     obtain ⟨r19, hr20, h⟩ := bind_e h
     refine oO <| O_call (L_parityvol_Volume_on__parityvol_Volume_bodies_1 rf_c1 hr20) rfl Tryz.call78 (Dels.cons del0 (Dels.cons del1 (Dels.cons del1 (Dels.cons del1 (Dels.cons del0 Dels.nil))))) rfl fun _ _ => oA rfl rfl <| nT <| sR <| oM rfl rfl <| oP (P_neq (a := r19.1) (b := (0 : Int)) rfl rfl) rfl <| nT <| CJ_condP rfl bT_dec (fun hg4 => ?_) (fun hg4 => ?_)
     ·
      replace h := ite_t hg4 h
      refine sR <| oM rfl rfl <| oA rfl rfl <| nT <| CJ_ret <| QJ_block_ret <| QJ_then_ret <| QJ_round_ret <| QJ_block_ret <| QJ_then_ret ?_
      have hE := Option.some.inj h
      replace hE := seq_inr hK7 hE.symm
      subst hE
      exact fE (res1 Tryz.results117 rfl) () eR
     ·
      replace h := ite_f hg4 h
      exact CJ_skip <| QJ_block_normal <| QJ_then <| CJ_region <| oP (PJ_eq (P_add (a := ((x14 : Nat) : Int)) (b := (1 : Int)) rfl rfl (by omega)) rfl) rfl <| oM rfl rfl <| RJ_nil <| nR ⟨n, r19.2.2, r19.2.1, (x14 + 1)⟩ h ⟨rfl, True.intro⟩ (t4_ eR)
    ·
     replace h := ite_f hg3 h
     exact CJ_skip <| QJ_block_normal <| QJ_then <| CJ_region <| oP (PJ_eq (P_add (a := ((x14 : Nat) : Int)) (b := (1 : Int)) rfl rfl (by omega)) rfl) rfl <| oM rfl rfl <| RJ_nil <| nR ⟨n, x12, x13, (x14 + 1)⟩ h ⟨rfl, True.intro⟩ (t1_ eR)
   ·
    replace h := ite_f hg1 h
    exact CJ_exit <| QJ_then_exit <| QJ_round_exit <| QJ_block_here <| cR (x13, x12) (Option.some.inj h).symm True.intro (t1_ eR)
 ·
  rintro a11 hy21
  replace h := seq_inl hK7 hy21
  show CJ _ _ _ _ _ (([] : Slots) ++ forget _ _) (VolP bs bv a11.1 :: Arr bs a11.2 :: _)
  refine sR <| oA rfl rfl <| nT <| CJ_ret ?_
  cases h
  exact fE (res1 Tryz.results117 rfl) () (t0_ (t1_ (t1_ (t1_ eR))))
def parityvol_Volume_bodies (v : VolS) (s : ArrS) : Option (Int × VolS × ArrS) :=
  Option.bind (parityvol_Volume_all__parityvol_Volume_bodies_1 v ([((shl_u64 (to_u64 v.last_offset) 3) ||| (to_u64 v.last_leg)), v.last_word, v.last_parity]) s) fun r1082 =>
  some (r1082.1, r1082.2.1, r1082.2.2)
theorem L_parityvol_Volume_bodies {W : World} {bv : Nat} {bs : Nat} {v : VolS} {s : ArrS} {r : Int × VolS × ArrS} (h : parityvol_Volume_bodies v s = some r) :
    CSpec Tryz.prog W 120 [ptr bv 0] [VolP bs bv v, Arr bs s] (fun x : Unit => .int .i64 r.1) (fun _ => True) (fun x F => VolP bs bv r.2.1 :: Arr bs r.2.2 :: F) := by
 refine CSpec.of_body Tryz.func120 rfl Tryz.ntmps120 rfl fun F => ?_
 show CJ _ _ _ _ _ _ (_ :: _ :: F)
 unfold parityvol_Volume_bodies at h
 refine sR <| oO <| O_box rfl rfl rfl fun b1 => oA rfl rfl <| nT <| CJ_seq <| AJ_startH 83886080 (by kernel_rfl) rfl <| aV 0 1 rfl rfl (GY_none rfl) eR (V_load rfl foc0 rfl Tryz.isAgg65) rfl <| aN 1 3 rfl rfl (P_nilCheck rfl) rfl <| aN 2 7 rfl rfl (P_fieldAddr rfl ⟨_, _, _, Tryz.runUnderlying123, rfl, rfl, Tryz.sizeOf121, rfl⟩) rfl <| aN 3 15 rfl rfl (P_fieldAddr rfl ⟨_, _, _, Tryz.runUnderlying121, rfl, rfl, Tryz.sizeOf3, rfl⟩) rfl <| aV 4 31 rfl rfl (GY_none rfl) eR (VJ_entX (Ent.transX (t1_ eR) (VolP_open (l := v))) (fun _ => V_load rfl foc0 rfl Tryz.isAgg3)) rfl <| aN 5 63 rfl rfl (P_conv_u64 (a := v.last_offset) rfl Tryz.runUnderlying3 Tryz.runUnderlying44) rfl <| aN 6 127 rfl rfl (P_shl_u64 (a := (to_u64 v.last_offset)) (m := 3) rfl rfl rfl) rfl <| aV 7 255 rfl rfl (GY_none rfl) eR (V_load rfl foc0 rfl Tryz.isAgg65) rfl <| aN 8 511 rfl rfl (P_nilCheck rfl) rfl <| aN 9 1023 rfl rfl (P_fieldAddr rfl ⟨_, _, _, Tryz.runUnderlying123, rfl, rfl, Tryz.sizeOf121, rfl⟩) rfl <| aN 10 2047 rfl rfl (P_fieldAddr rfl ⟨_, _, _, Tryz.runUnderlying121, rfl, rfl, Tryz.sizeOf3, rfl⟩) rfl <| aV 11 4095 rfl rfl (GY_none rfl) eR (VJ_entX (Ent.transX (t1_ eR) (VolP_open (l := v))) (fun _ => V_load rfl foc0 rfl Tryz.isAgg3)) rfl <| aN 12 8191 rfl rfl (P_conv_u64 (a := v.last_leg) rfl Tryz.runUnderlying3 Tryz.runUnderlying44) rfl <| aN 13 16383 rfl rfl (P_or_u64 (a := (shl_u64 (to_u64 v.last_offset) 3)) (b := (to_u64 v.last_leg)) rfl rfl) rfl ?_
 refine aV 14 32767 rfl rfl (GY_none rfl) eR (V_load rfl foc0 rfl Tryz.isAgg65) rfl <| aN 15 65535 rfl rfl (P_nilCheck rfl) rfl <| aN 16 131071 rfl rfl (P_fieldAddr rfl ⟨_, _, _, Tryz.runUnderlying123, rfl, rfl, Tryz.sizeOf121, rfl⟩) rfl <| aN 17 262143 rfl rfl (P_fieldAddr rfl ⟨_, _, _, Tryz.runUnderlying121, rfl, rfl, Tryz.sizeOf44, rfl⟩) rfl <| aV 18 524287 rfl rfl (GY_none rfl) eR (VJ_entX (Ent.transX (t1_ eR) (VolP_open (l := v))) (fun _ => V_load rfl foc0 rfl Tryz.isAgg44)) rfl <| aV 19 1048575 rfl rfl (GY_none rfl) eR (V_load rfl foc0 rfl Tryz.isAgg65) rfl <| aN 20 2097151 rfl rfl (P_nilCheck rfl) rfl <| aN 21 4194303 rfl rfl (P_fieldAddr rfl ⟨_, _, _, Tryz.runUnderlying123, rfl, rfl, Tryz.sizeOf121, rfl⟩) rfl <| aN 22 8388607 rfl rfl (P_fieldAddr rfl ⟨_, _, _, Tryz.runUnderlying121, rfl, rfl, Tryz.sizeOf44, rfl⟩) rfl <| aV 23 16777215 rfl rfl (GY_none rfl) eR (VJ_entX (Ent.transX (t1_ eR) (VolP_open (l := v))) (fun _ => V_load rfl foc0 rfl Tryz.isAgg44)) rfl <| AJ_two 24 25 33554431 50331647 rfl rfl (by kernel_rfl) rfl rfl (GY_none rfl) (GY_none rfl) ?_ ?_
 ·
  refine O_buildSlice rfl (bs_43_3_0_1_2 _ _ _) rfl fun b962 => ⟨fun h => absurd h (by decide), ?_⟩
  refine AJ_ent (Ent.trans (t0_ eR) (sl_of_lit (t := tyU) (m := 3) [((shl_u64 (to_u64 v.last_offset) 3) ||| (to_u64 v.last_leg)), v.last_word, v.last_parity] rfl rfl rfl (by decide))) <| AJ_op 25 67108863 rfl (by kernel_rfl) rfl (GY_none rfl) <| O_alloc Tryz.zeroValue43 rfl rfl fun b1002 => ⟨fun _ => (t2_ (t2_ (t2_ (eD (eD eR))))), ?_⟩
  refine AJ_op 26 134217727 rfl (by kernel_rfl) rfl (GY_none rfl) <| O_store rfl rfl foc0 rfl rfl Tryz.sizeOf43 <| ⟨fun h => absurd h (by decide), ?_⟩
  refine aD <| sR <| oV (V_load rfl foc2 rfl Tryz.isAgg65) rfl <| oP (P_makeFunc rfl rfl) rfl ?_
  obtain ⟨r1082, hr1083, h⟩ := bind_e h
  refine oO <| O_call (L_parityvol_Volume_all__parityvol_Volume_bodies_1 (Reads.sl _ _ _) hr1083) rfl Tryz.call117 (Dels.cons del3 (Dels.cons del2 (Dels.cons del0 (Dels.cons del0 (Dels.cons del0 Dels.nil))))) rfl fun _ _ => oA rfl rfl <| nT <| CJ_ret ?_
  cases h
  exact fE (res1 Tryz.results120 rfl) () (t0_ (t3_ (eD (eD (eD eR)))))
 ·
  refine O_alloc Tryz.zeroValue43 rfl rfl fun b1002 => ⟨fun _ => (t1_ (t1_ (t1_ (eD eR)))), ?_⟩
  refine AJ_op 24 67108863 rfl (by kernel_rfl) rfl (GY_none rfl) <| O_buildSlice rfl (bs_43_3_0_1_2 _ _ _) rfl fun b962 => ⟨fun h => absurd h (by decide), ?_⟩
  refine AJ_ent (Ent.trans (t0_ eR) (sl_of_lit (t := tyU) (m := 3) [((shl_u64 (to_u64 v.last_offset) 3) ||| (to_u64 v.last_leg)), v.last_word, v.last_parity] rfl rfl rfl (by decide))) <| AJ_op 26 134217727 rfl (by kernel_rfl) rfl (GY_none rfl) <| O_store rfl rfl foc1 rfl rfl Tryz.sizeOf43 <| ⟨fun h => absurd h (by decide), ?_⟩
  refine aD <| sR <| oV (V_load rfl foc2 rfl Tryz.isAgg65) rfl <| oP (P_makeFunc rfl rfl) rfl ?_
  obtain ⟨r1082, hr1083, h⟩ := bind_e h
  refine oO <| O_call (L_parityvol_Volume_all__parityvol_Volume_bodies_1 (Reads.sl _ _ _) hr1083) rfl Tryz.call117 (Dels.cons del3 (Dels.cons del2 (Dels.cons del1 (Dels.cons del0 (Dels.cons del0 Dels.nil))))) rfl fun _ _ => oA rfl rfl <| nT <| CJ_ret ?_
  cases h
  exact fE (res1 Tryz.results120 rfl) () (t0_ (t3_ (eD (eD (eD eR)))))
def parityvol_Volume_flush_1 (x_0 : Dvc) (s : ArrS) : Option (Int × ArrS) :=
  Option.bind (Dvc.fl x_0 s) fun r2 =>
  some (r2.1, r2.2)
theorem L_parityvol_Volume_flush_1 {W : World} {vx_0 : IfH} {bs : Nat} {x_0 : Dvc} {s : ArrS} {r : Int × ArrS} (h : parityvol_Volume_flush_1 x_0 s = some r) :
    CSpec Tryz.prog W 118 [IfH.v vx_0] [DevP bs x_0 vx_0, Arr bs s] (fun x : Unit => .int .i64 r.1) (fun _ => True) (fun x F => DevP bs x_0 vx_0 :: Arr bs r.2 :: F) := by
 refine CSpec.of_body Tryz.func118 rfl Tryz.ntmps118 rfl fun F => ?_
 show CJ _ _ _ _ _ _ (_ :: _ :: F)
 unfold parityvol_Volume_flush_1 at h
 refine sR <| oA rfl rfl <| nT <| sR <| oM rfl rfl <| RJ_pure (fun h hh => DevP_dep h (stars_perm (del0 (A := DevP bs x_0 vx_0)).out h hh)) fun hdp1 => ?_
 obtain ⟨r2, hr3, h⟩ := bind_e h
 refine oO <| O_callI rfl (dev_Flush hr3 hdp1) rfl (Dels.cons del0 (Dels.cons del0 Dels.nil)) rfl fun _ _ => oA rfl rfl <| nT <| CJ_ret ?_
 cases h
 exact fE (res1 Tryz.results118 rfl) () eR
def parityvol_Volume_on__parityvol_Volume_flush_1 (v : VolS) (i : Int) (s : ArrS) : Option (Int × VolS × ArrS) :=
  grd (decide (0 ≤ i ∧ i < (v.legs.length : Int))) <|
  Option.bind (parityvol_Volume_flush_1 ((v.legs.getD ((i).toNat) prt_x0).dev) s) fun r9 =>
  Option.bind (parityvol_Volume_on_1 r9.1 v i r9.2) fun r11 =>
  some (r11.1, r11.2, r9.2)
theorem L_parityvol_Volume_on__parityvol_Volume_flush_1 {W : World} {bv : Nat} {bs : Nat} {v : VolS} {i : Int} {s : ArrS} {r : Int × VolS × ArrS} (h : parityvol_Volume_on__parityvol_Volume_flush_1 v i s = some r) :
    CSpec Tryz.prog W 78 [ptr bv 0, .int .i64 i, .func (.func 118) #[] #[]] [VolP bs bv v, Arr bs s] (fun x : Unit => .int .i64 r.1) (fun _ => True) (fun x F => VolP bs bv r.2.1 :: Arr bs r.2.2 :: F) := by
  refine CSpec.of_bodyM Tryz.func78 rfl Tryz.ntmps78 rfl (fun F => ?_)
  show CJ _ _ _ _ _ _ (_ :: _ :: F)
  unfold parityvol_Volume_on__parityvol_Volume_flush_1 at h
  refine CJ_seq ?_
  refine CJ_region ?_
  refine RJ_op rfl (O_box rfl rfl rfl (fun b1 => ?_))
  refine RJ_op rfl (O_box rfl rfl rfl (fun b2 => ?_))
  refine RJ_op rfl (O_alloc Tryz.zeroValue40 rfl rfl (fun b3 => ?_))
  refine RJ_nil ?_
  refine QJ_then ?_
  refine CJ_seq ?_
  refine CJ_region ?_
  refine RJ_op rfl (OJ_P (P_makeFunc rfl rfl) rfl ?_)
  refine RJ_defer rfl rfl ?_
  refine RJ_nil ?_
  refine QJ_then ?_
  refine CJ_seq ?_
  refine CJ_entX (Ent.transX (Ent.take del3 Ent.refl) (VolP_open (l := v))) (fun oc4 => ?_)
  refine CJ_pure (fun h hh => Rs_len (stars_perm (del2 (A := Rs (DevP bs) (v.legs.map prtS.dev) oc4.2)).out h hh)) (fun hdl6 => ?_)
  refine CJ_pure (len_of (Reads.sl _ _ _) del1) (fun hlen7 => ?_)
  rw [mk_prt_len (by have := hdl6; simpa using this)] at hlen7
  refine AJ_startH 1536 (by kernel_rfl) rfl ?_
  refine AJ_takeP 0 1 rfl (by kernel_rfl) rfl (GY_none rfl) (P_move rfl) rfl (fun _ _ _ _ h => h) ?_
  refine AJ_takeV 1 3 rfl (by kernel_rfl) rfl (by kernel_rfl) (by kernel_rfl) (GY_none rfl) Ent.refl (V_load rfl foc5 rfl Tryz.isAgg65) rfl (fun _ _ _ _ h => h) ?_
  refine AJ_takeP 2 7 rfl (by kernel_rfl) rfl (GY_none rfl) (P_nilCheck rfl) rfl (fun _ _ _ _ h => h) ?_
  refine AJ_takeP 3 15 rfl (by kernel_rfl) rfl (GY_none rfl) (P_fieldAddr rfl ⟨_, _, _, Tryz.runUnderlying123, rfl, rfl, Tryz.sizeOf119, rfl⟩) rfl (fun _ _ _ _ h => h) ?_
  refine AJ_takeV 4 31 rfl (by kernel_rfl) rfl (by kernel_rfl) (by kernel_rfl) (GY_none rfl) Ent.refl (V_load rfl foc0 rfl Tryz.isAgg119) rfl (fun _ _ _ _ h => h) ?_
  refine AJ_takeV 5 63 rfl (by kernel_rfl) rfl (by kernel_rfl) (by kernel_rfl) (GY_none rfl) Ent.refl (V_load rfl foc4 rfl Tryz.isAgg3) rfl (fun _ _ _ _ h => h) ?_
  obtain ⟨hg1, h⟩ := grd_de h
  refine AJ_takeV 6 127 rfl (by kernel_rfl) rfl (by kernel_rfl) (by kernel_rfl) (GY_none rfl) Ent.refl (V_index (i := (i).toNat) rfl rfl (Int.toNat_of_nonneg (hg1.1)).symm (show (i).toNat < (mk_prt v.legs oc4.2).length by rw [mk_prt_len (by have := hdl6; simpa using this)]; exact (by omega)) foc1 (Reads.sl _ _ _) Tryz.runUnderlying119 Tryz.sizeOf126) rfl (fun _ _ _ _ h => h) ?_
  refine AJ_takeP 7 255 rfl (by kernel_rfl) rfl (GY_none rfl) (P_fieldE rfl ⟨_, _, _, Tryz.runUnderlying126, rfl, rfl, Tryz.sizeOf79, rfl⟩) rfl (fun _ _ _ _ h => h) ?_
  refine AJ_ent (Ent.trans (Ent.take del2 Ent.refl) (mk_prt_rs (i := (i).toNat) (by omega))) ?_
  refine AJ_takeV 8 511 rfl (by kernel_rfl) rfl (by kernel_rfl) (by kernel_rfl) (GY_none rfl) (Ent.take del2 (Ent.take del2 (Ent.take del1 (Ent.take del1 (Ent.take del1 (Ent.take del1 (Ent.take del1 (Ent.drop Ent.refl)))))))) (VJ_eq (V_loadE rfl rfl (show (i).toNat < (mk_prt v.legs oc4.2).length by rw [mk_prt_len (by have := hdl6; simpa using this)]; exact (by omega)) foc1 (Reads.sl _ _ _) rfl rfl Tryz.isAgg79) (show (IfH.v ((oc4.2.getD ((i).toNat) tyDev.dflt)) : Value) = IfH.v ((mk_prt v.legs oc4.2).getD ((i).toNat) prt_h0).dev from by rw [mk_prt_at (by have := hdl6; simpa using this)])) rfl (fun _ _ _ _ h => h) ?_
  obtain ⟨r9, hr10, h⟩ := bind_e h
  refine AJ_op 9 1023 rfl (by kernel_rfl) rfl (GY_none rfl) (O_callV rfl rfl (L_parityvol_Volume_flush_1 hr10) Tryz.call118 (Dels.cons del0 (Dels.cons del6 Dels.nil)) rfl (fun _ _ => ?_))
  refine ⟨fun h => absurd h (by decide), ?_⟩
  refine AJ_op 10 2047 rfl (by kernel_rfl) rfl (GY_none rfl) (O_store rfl rfl foc5 rfl rfl Tryz.sizeOf40 ?_)
  refine ⟨fun h => absurd h (by decide), ?_⟩
  refine AJ_done (by kernel_rfl) ?_
  refine QJ_ent (Ent.trans (Ent.take del3 (Ent.take del3 (Ent.take del2 Ent.refl))) (VolP_mk (v0 := v.layout_n) (v1 := v.layout_chunk) (v2 := v.layout_rows) (v3 := v.legs) (v4 := v.last_seq) (v5 := v.last_offset) (v6 := v.last_leg) (v7 := v.last_word) (v8 := v.last_parity) (v9 := v.pending) (v10 := v.filled) (h0 := oc4.1) (h1 := oc4.2))) ?_
  refine QJ_then ?_
  refine CJ_ret ?_
  obtain ⟨r11, hr12, h⟩ := bind_e h
  have hE := Option.some.inj h
  subst hE
  refine QJ_endD1 (.inl rfl) Tryz.call114 (Ent.take del3 (Ent.take del4 (Ent.take del0 (Ent.take del2 (Ent.take del1 Ent.refl))))) (LD_parityvol_Volume_on_1 hr12) (resA1 Tryz.results78 (RV_cell rfl foc0 rfl Tryz.isAgg40)) ?_
  refine CSpec.close () ?_ ?_ (Ent.take del2 (Ent.take del3 (Ent.drop (Ent.drop (Ent.drop (Ent.drop Ent.refl))))))
  · rfl
  · trivial
def parityvol_Volume_all__parityvol_Volume_flush_1_l1_b (v : VolS) (rec : ArrS → VolS → Nat → Option ((VolS × ArrS) ⊕ (Int × VolS × ArrS))) (x11 : ArrS) (x12 : VolS) (x13 : Nat) : Option ((VolS × ArrS) ⊕ (Int × VolS × ArrS)) :=
  if (((x13 : Nat) : Int) < ((v.legs.length : Nat) : Int)) then
    grd (decide (x13 < x12.legs.length)) <|
    if (¬ (x12.legs.getD x13 prt_x0).stale = true) then
      Option.bind (parityvol_Volume_on__parityvol_Volume_flush_1 x12 (((x13 : Nat) : Int)) x11) fun r18 =>
      if (r18.1 ≠ (0 : Int)) then
        some (.inr (r18.1, r18.2.1, r18.2.2))
      else
        rec r18.2.2 r18.2.1 (x13 + 1)
    else
      rec x11 x12 (x13 + 1)
  else
    some (.inl (x12, x11))
def parityvol_Volume_all__parityvol_Volume_flush_1_l1 (v : VolS) : Nat → ArrS → VolS → Nat → Option ((VolS × ArrS) ⊕ (Int × VolS × ArrS))
  | 0, _, _, _ => none
  | n + 1, x11, x12, x13 => parityvol_Volume_all__parityvol_Volume_flush_1_l1_b v (parityvol_Volume_all__parityvol_Volume_flush_1_l1 v n) x11 x12 x13
def parityvol_Volume_all__parityvol_Volume_flush_1 (v : VolS) (s : ArrS) : Option (Int × VolS × ArrS) :=
  seqO (parityvol_Volume_all__parityvol_Volume_flush_1_l1 v FUEL s v 0) fun a10 =>
  some (((0 : Int), a10.1, a10.2))
theorem L_parityvol_Volume_all__parityvol_Volume_flush_1 {W : World} {bv : Nat} {bs : Nat} {v : VolS} {s : ArrS} {r : Int × VolS × ArrS} (h : parityvol_Volume_all__parityvol_Volume_flush_1 v s = some r) :
    CSpec Tryz.prog W 117 [ptr bv 0, .func (.func 118) #[] #[]] [VolP bs bv v, Arr bs s] (fun x : Unit => .int .i64 r.1) (fun _ => True) (fun x F => VolP bs bv r.2.1 :: Arr bs r.2.2 :: F) := by
 refine CSpec.of_body Tryz.func117 rfl Tryz.ntmps117 rfl fun F => ?_
 show CJ _ _ _ _ _ _ (_ :: _ :: F)
 unfold parityvol_Volume_all__parityvol_Volume_flush_1 at h
 refine sR <| oA rfl rfl <| nT <| CJ_seq <| CJ_seq <| CJ_entX (Ent.transX (t0_ eR) (VolP_open (l := v))) fun oc1 => CJ_pure (fun h hh => Rs_len (stars_perm (del2 (A := Rs (DevP bs) (v.legs.map prtS.dev) oc1.2)).out h hh)) fun hdl3 => lC del1 fun hlen4 => ?_
 rw [mk_prt_len (by have := hdl3; simpa using this)] at hlen4
 refine CJ_region <| oM rfl rfl <| oP (P_nilCheck rfl) rfl <| oP (P_fieldAddr rfl ⟨_, _, _, Tryz.runUnderlying123, rfl, rfl, Tryz.sizeOf119, rfl⟩) rfl <| oV (V_load rfl foc0 rfl Tryz.isAgg119) rfl <| oV (VJ_eq (V_len rfl foc1 (Reads.sl _ _ _) Tryz.runUnderlying119) (congrArg (fun z : Nat => Value.int .i64 (z : Int)) (mk_prt_len (by have := hdl3; simpa using this)).symm)) rfl <| oM rfl rfl <| RJ_nil <| QJ_ent (Ent.trans eR (VolP_mk (v0 := v.layout_n) (v1 := v.layout_chunk) (v2 := v.layout_rows) (v3 := v.legs) (v4 := v.last_seq) (v5 := v.last_offset) (v6 := v.last_leg) (v7 := v.last_word) (v8 := v.last_parity) (v9 := v.pending) (v10 := v.filled) (h0 := oc1.1) (h1 := oc1.2))) <| QJ_then ?_
 obtain ⟨y7, hl5, hK6⟩ := seq_e h
 refine CJ_cutT (X := VolS × ArrS) [4, 5, 6, 12, 13, 14, 15, 16, 17, 18, 19, 20, 21, 22, 23, 24, 25, 26, 27, 28, 29, 30, 31] (fun a10 => ([] : Slots)) (fun a10 R => VolP bs bv a10.1 :: Arr bs a10.2 :: R) (fun a10 => y7 = .inl a10) (Dels.cons del0 (Dels.cons del0 Dels.nil)) ?_ ?_
 ·
  refine CJ_block <| CJ_loopR (X := Nat × ArrS × VolS × Nat) [4, 5, 6, 12, 13, 14, 15, 16, 17, 18, 19, 20, 21, 22, 23, 24, 25, 26, 27, 28, 29, 30, 31] (fun ⟨n, x11, x12, x13⟩ => ([(12, .int .i64 (((x13 : Nat) : Int)))] : Slots)) (fun ⟨n, x11, x12, x13⟩ R => Arr bs x11 :: VolP bs bv x12 :: R) (fun ⟨n, x11, x12, x13⟩ => parityvol_Volume_all__parityvol_Volume_flush_1_l1 v n x11 x12 x13 = some y7) (fun ⟨n, x11, x12, x13⟩ => n) ⟨FUEL, s, v, 0⟩ ?_ ?_ (t1_ eR) ?_
  · exact hl5
  · exact ⟨rfl, True.intro⟩
  ·
   rintro ⟨n, x11, x12, x13⟩ h
   cases n with
   | zero => exact none_e h
   | succ n => ?_
   replace h : parityvol_Volume_all__parityvol_Volume_flush_1_l1_b v (parityvol_Volume_all__parityvol_Volume_flush_1_l1 v n) x11 x12 x13 = some y7 := h
   unfold parityvol_Volume_all__parityvol_Volume_flush_1_l1_b at h
   show CJ _ _ _ _ _ (([(12, .int .i64 (((x13 : Nat) : Int)))] : Slots) ++ forget _ _) (Arr bs x11 :: VolP bs bv x12 :: _)
   refine sR <| oP (P_lss (a := ((x13 : Nat) : Int)) (b := ((v.legs.length : Nat) : Int)) rfl rfl) rfl <| nT <| CJ_seq <| CJ_condP rfl bT_dec (fun hg1 => ?_) (fun hg1 => ?_)
   ·
    replace h := ite_t hg1 h
    refine kT <| CJ_seq <| CJ_block <| sR <| oM rfl rfl <| oA rfl rfl <| nT <| CJ_seq <| CJ_entX (Ent.transX (t1_ eR) (VolP_open (l := x12))) fun oc14 => CJ_pure (fun h hh => Rs_len (stars_perm (del2 (A := Rs (DevP bs) (x12.legs.map prtS.dev) oc14.2)).out h hh)) fun hdl16 => lC del1 fun hlen17 => ?_
    rw [mk_prt_len (by have := hdl16; simpa using this)] at hlen17
    refine CJ_region <| oM rfl rfl <| oP (P_nilCheck rfl) rfl <| oP (P_fieldAddr rfl ⟨_, _, _, Tryz.runUnderlying123, rfl, rfl, Tryz.sizeOf119, rfl⟩) rfl <| oV (V_load rfl foc0 rfl Tryz.isAgg119) rfl <| oM rfl rfl ?_
    obtain ⟨hg2, h⟩ := grd_de h
    refine oV (V_index (i := x13) rfl rfl rfl (show x13 < (mk_prt x12.legs oc14.2).length by rw [mk_prt_len (by have := hdl16; simpa using this)]; exact hg2) foc1 (Reads.sl _ _ _) Tryz.runUnderlying119 Tryz.sizeOf126) rfl <| oP (P_fieldE rfl ⟨_, _, _, Tryz.runUnderlying126, rfl, rfl, Tryz.sizeOf4, rfl⟩) rfl <| oV (VJ_eq (V_loadE rfl rfl (show x13 < (mk_prt x12.legs oc14.2).length by rw [mk_prt_len (by have := hdl16; simpa using this)]; exact hg2) foc1 (Reads.sl _ _ _) rfl rfl Tryz.isAgg4) (show (.bool ((x12.legs.getD x13 prt_x0).stale) : Value) = .bool ((mk_prt x12.legs oc14.2).getD x13 prt_h0).stale from by rw [mk_prt_at (by have := hdl16; simpa using this)])) rfl <| oP (P_not rfl) rfl <| RJ_nil <| QJ_ent (Ent.trans eR (VolP_mk (v0 := x12.layout_n) (v1 := x12.layout_chunk) (v2 := x12.layout_rows) (v3 := x12.legs) (v4 := x12.last_seq) (v5 := x12.last_offset) (v6 := x12.last_leg) (v7 := x12.last_word) (v8 := x12.last_parity) (v9 := x12.pending) (v10 := x12.filled) (h0 := oc14.1) (h1 := oc14.2))) <| QJ_then <| CJ_condP rfl (bT_not Iff.rfl) (fun hg3 => ?_) (fun hg3 => ?_)
    ·
     replace h := ite_t hg3 h
     refine sR <| oM rfl rfl <| oM rfl rfl <| oM rfl rfl ?_
     obtain ⟨r18, hr19, h⟩ := bind_e h
     refine oO <| O_call (L_parityvol_Volume_on__parityvol_Volume_flush_1 hr19) rfl Tryz.call78 (Dels.cons del0 (Dels.cons del0 Dels.nil)) rfl fun _ _ => oA rfl rfl <| nT <| sR <| oM rfl rfl <| oP (P_neq (a := r18.1) (b := (0 : Int)) rfl rfl) rfl <| nT <| CJ_condP rfl bT_dec (fun hg4 => ?_) (fun hg4 => ?_)
     ·
      replace h := ite_t hg4 h
      refine sR <| oM rfl rfl <| oA rfl rfl <| nT <| CJ_ret <| QJ_block_ret <| QJ_then_ret <| QJ_round_ret <| QJ_block_ret <| QJ_then_ret ?_
      have hE := Option.some.inj h
      replace hE := seq_inr hK6 hE.symm
      subst hE
      exact fE (res1 Tryz.results117 rfl) () eR
     ·
      replace h := ite_f hg4 h
      exact CJ_skip <| QJ_block_normal <| QJ_then <| CJ_region <| oP (PJ_eq (P_add (a := ((x13 : Nat) : Int)) (b := (1 : Int)) rfl rfl (by omega)) rfl) rfl <| oM rfl rfl <| RJ_nil <| nR ⟨n, r18.2.2, r18.2.1, (x13 + 1)⟩ h ⟨rfl, True.intro⟩ (t1_ eR)
    ·
     replace h := ite_f hg3 h
     exact CJ_skip <| QJ_block_normal <| QJ_then <| CJ_region <| oP (PJ_eq (P_add (a := ((x13 : Nat) : Int)) (b := (1 : Int)) rfl rfl (by omega)) rfl) rfl <| oM rfl rfl <| RJ_nil <| nR ⟨n, x11, x12, (x13 + 1)⟩ h ⟨rfl, True.intro⟩ (t1_ eR)
   ·
    replace h := ite_f hg1 h
    exact CJ_exit <| QJ_then_exit <| QJ_round_exit <| QJ_block_here <| cR (x12, x11) (Option.some.inj h).symm True.intro (t1_ eR)
 ·
  rintro a10 hy20
  replace h := seq_inl hK6 hy20
  show CJ _ _ _ _ _ (([] : Slots) ++ forget _ _) (VolP bs bv a10.1 :: Arr bs a10.2 :: _)
  refine sR <| oA rfl rfl <| nT <| CJ_ret ?_
  cases h
  exact fE (res1 Tryz.results117 rfl) () eR
def parityvol_Volume_flush (v : VolS) (s : ArrS) : Option (Int × VolS × ArrS) :=
  Option.bind (parityvol_Volume_all__parityvol_Volume_flush_1 v s) fun r1 =>
  some (r1.1, r1.2.1, r1.2.2)
theorem L_parityvol_Volume_flush {W : World} {bv : Nat} {bs : Nat} {v : VolS} {s : ArrS} {r : Int × VolS × ArrS} (h : parityvol_Volume_flush v s = some r) :
    CSpec Tryz.prog W 83 [ptr bv 0] [VolP bs bv v, Arr bs s] (fun x : Unit => .int .i64 r.1) (fun _ => True) (fun x F => VolP bs bv r.2.1 :: Arr bs r.2.2 :: F) := by
 refine CSpec.of_body Tryz.func83 rfl Tryz.ntmps83 rfl fun F => ?_
 show CJ _ _ _ _ _ _ (_ :: _ :: F)
 unfold parityvol_Volume_flush at h
 refine sR <| oA rfl rfl <| nT <| sR <| oM rfl rfl ?_
 obtain ⟨r1, hr2, h⟩ := bind_e h
 refine oO <| O_call (L_parityvol_Volume_all__parityvol_Volume_flush_1 hr2) rfl Tryz.call117 (Dels.cons del0 (Dels.cons del0 Dels.nil)) rfl fun _ _ => oA rfl rfl <| nT <| CJ_ret ?_
 cases h
 exact fE (res1 Tryz.results83 rfl) () eR
def parityvol_Volume_heads_1 (x_0 : Dvc) (p1_v : VolS) (s : ArrS) : Option (Int × ArrS) :=
  Option.bind (Dvc.wr x_0 s (0 : Int) p1_v.last_seq) fun r3 =>
  some (r3.1, r3.2)
theorem L_parityvol_Volume_heads_1 {W : World} {vx_0 : IfH} {bp1 : Nat} {bp1_v : Nat} {bs : Nat} {x_0 : Dvc} {p1_v : VolS} {s : ArrS} {r : Int × ArrS} (h : parityvol_Volume_heads_1 x_0 p1_v s = some r) :
    CSpec Tryz.prog W 129 [IfH.v vx_0, ptr bp1 0] [DevP bs x_0 vx_0, blk bp1 65 [ptr bp1_v 0], VolP bs bp1_v p1_v, Arr bs s] (fun x : Unit => .int .i64 r.1) (fun _ => True) (fun x F => DevP bs x_0 vx_0 :: blk bp1 65 [ptr bp1_v 0] :: VolP bs bp1_v p1_v :: Arr bs r.2 :: F) := by
 refine CSpec.of_body Tryz.func129 rfl Tryz.ntmps129 rfl fun F => ?_
 show CJ _ _ _ _ _ _ (_ :: _ :: _ :: _ :: F)
 unfold parityvol_Volume_heads_1 at h
 refine sR <| oA rfl rfl <| nT <| CJ_seq <| AJ_startH 512 (by kernel_rfl) rfl <| aN 0 1 rfl rfl (P_move rfl) rfl <| aV 1 3 rfl rfl (GY_none rfl) eR (V_load rfl foc1 rfl Tryz.isAgg65) rfl <| aN 2 7 rfl rfl (P_nilCheck rfl) rfl <| aN 3 15 rfl rfl (P_fieldAddr rfl ⟨_, _, _, Tryz.runUnderlying123, rfl, rfl, Tryz.sizeOf121, rfl⟩) rfl <| aN 4 31 rfl rfl (P_fieldAddr rfl ⟨_, _, _, Tryz.runUnderlying121, rfl, rfl, Tryz.sizeOf44, rfl⟩) rfl <| aV 5 63 rfl rfl (GY_none rfl) eR (VJ_entX (Ent.transX (t2_ eR) (VolP_open (l := p1_v))) (fun _ => V_load rfl foc0 rfl Tryz.isAgg44)) rfl <| aN 6 127 rfl rfl (P_makeFunc rfl rfl) rfl <| AJ_pure (fun h hh => DevP_nil h (stars_perm (del0 (A := DevP bs x_0 vx_0)).out h hh)) fun hnil1 => aN 7 255 rfl rfl (P_nilCheckM hnil1 rfl) rfl <| aN 8 511 rfl rfl (P_move rfl) rfl <| AJ_pure (fun h hh => DevP_dep h (stars_perm (del0 (A := DevP bs x_0 vx_0)).out h hh)) fun hdp2 => ?_
 obtain ⟨r3, hr4, h⟩ := bind_e h
 refine AJ_op 9 1023 rfl (by kernel_rfl) rfl (GY_none rfl) <| O_callI rfl (dev_Write hr4 hdp2) rfl (Dels.cons del0 (Dels.cons del2 Dels.nil)) rfl fun _ _ => ⟨fun h => absurd h (by decide), ?_⟩
 refine aN 10 2047 rfl rfl (P_assign rfl) rfl <| aD <| CJ_ret ?_
 cases h
 exact fE (res1 Tryz.results129 rfl) () (t0_ (t1_ (t1_ eR)))
def parityvol_Volume_on__parityvol_Volume_heads_1 (v : VolS) (i : Int) (s : ArrS) : Option (Int × VolS × ArrS) :=
  grd (decide (0 ≤ i ∧ i < (v.legs.length : Int))) <|
  Option.bind (parityvol_Volume_heads_1 ((v.legs.getD ((i).toNat) prt_x0).dev) v s) fun r9 =>
  Option.bind (parityvol_Volume_on_1 r9.1 v i r9.2) fun r11 =>
  some (r11.1, r11.2, r9.2)
theorem L_parityvol_Volume_on__parityvol_Volume_heads_1 {W : World} {bv : Nat} {bf_c0 : Nat} {bs : Nat} {v : VolS} {i : Int} {s : ArrS} {r : Int × VolS × ArrS} (h : parityvol_Volume_on__parityvol_Volume_heads_1 v i s = some r) :
    CSpec Tryz.prog W 78 [ptr bv 0, .int .i64 i, .func (.func 129) #[] #[ptr bf_c0 0]] [VolP bs bv v, blk bf_c0 65 [ptr bv 0], Arr bs s] (fun x : Unit => .int .i64 r.1) (fun _ => True) (fun x F => VolP bs bv r.2.1 :: blk bf_c0 65 [ptr bv 0] :: Arr bs r.2.2 :: F) := by
  refine CSpec.of_bodyM Tryz.func78 rfl Tryz.ntmps78 rfl (fun F => ?_)
  show CJ _ _ _ _ _ _ (_ :: _ :: _ :: F)
  unfold parityvol_Volume_on__parityvol_Volume_heads_1 at h
  refine CJ_seq ?_
  refine CJ_region ?_
  refine RJ_op rfl (O_box rfl rfl rfl (fun b1 => ?_))
  refine RJ_op rfl (O_box rfl rfl rfl (fun b2 => ?_))
  refine RJ_op rfl (O_alloc Tryz.zeroValue40 rfl rfl (fun b3 => ?_))
  refine RJ_nil ?_
  refine QJ_then ?_
  refine CJ_seq ?_
  refine CJ_region ?_
  refine RJ_op rfl (OJ_P (P_makeFunc rfl rfl) rfl ?_)
  refine RJ_defer rfl rfl ?_
  refine RJ_nil ?_
  refine QJ_then ?_
  refine CJ_seq ?_
  refine CJ_entX (Ent.transX (Ent.take del3 Ent.refl) (VolP_open (l := v))) (fun oc4 => ?_)
  refine CJ_pure (fun h hh => Rs_len (stars_perm (del2 (A := Rs (DevP bs) (v.legs.map prtS.dev) oc4.2)).out h hh)) (fun hdl6 => ?_)
  refine CJ_pure (len_of (Reads.sl _ _ _) del1) (fun hlen7 => ?_)
  rw [mk_prt_len (by have := hdl6; simpa using this)] at hlen7
  refine AJ_startH 1536 (by kernel_rfl) rfl ?_
  refine AJ_takeP 0 1 rfl (by kernel_rfl) rfl (GY_none rfl) (P_move rfl) rfl (fun _ _ _ _ h => h) ?_
  refine AJ_takeV 1 3 rfl (by kernel_rfl) rfl (by kernel_rfl) (by kernel_rfl) (GY_none rfl) Ent.refl (V_load rfl foc5 rfl Tryz.isAgg65) rfl (fun _ _ _ _ h => h) ?_
  refine AJ_takeP 2 7 rfl (by kernel_rfl) rfl (GY_none rfl) (P_nilCheck rfl) rfl (fun _ _ _ _ h => h) ?_
  refine AJ_takeP 3 15 rfl (by kernel_rfl) rfl (GY_none rfl) (P_fieldAddr rfl ⟨_, _, _, Tryz.runUnderlying123, rfl, rfl, Tryz.sizeOf119, rfl⟩) rfl (fun _ _ _ _ h => h) ?_
  refine AJ_takeV 4 31 rfl (by kernel_rfl) rfl (by kernel_rfl) (by kernel_rfl) (GY_none rfl) Ent.refl (V_load rfl foc0 rfl Tryz.isAgg119) rfl (fun _ _ _ _ h => h) ?_
  refine AJ_takeV 5 63 rfl (by kernel_rfl) rfl (by kernel_rfl) (by kernel_rfl) (GY_none rfl) Ent.refl (V_load rfl foc4 rfl Tryz.isAgg3) rfl (fun _ _ _ _ h => h) ?_
  obtain ⟨hg1, h⟩ := grd_de h
  refine AJ_takeV 6 127 rfl (by kernel_rfl) rfl (by kernel_rfl) (by kernel_rfl) (GY_none rfl) Ent.refl (V_index (i := (i).toNat) rfl rfl (Int.toNat_of_nonneg (hg1.1)).symm (show (i).toNat < (mk_prt v.legs oc4.2).length by rw [mk_prt_len (by have := hdl6; simpa using this)]; exact (by omega)) foc1 (Reads.sl _ _ _) Tryz.runUnderlying119 Tryz.sizeOf126) rfl (fun _ _ _ _ h => h) ?_
  refine AJ_takeP 7 255 rfl (by kernel_rfl) rfl (GY_none rfl) (P_fieldE rfl ⟨_, _, _, Tryz.runUnderlying126, rfl, rfl, Tryz.sizeOf79, rfl⟩) rfl (fun _ _ _ _ h => h) ?_
  refine AJ_ent (Ent.trans (Ent.take del2 Ent.refl) (mk_prt_rs (i := (i).toNat) (by omega))) ?_
  refine AJ_takeV 8 511 rfl (by kernel_rfl) rfl (by kernel_rfl) (by kernel_rfl) (GY_none rfl) (Ent.take del2 (Ent.take del2 (Ent.take del1 (Ent.take del1 (Ent.take del1 (Ent.take del1 (Ent.take del1 (Ent.take del1 (Ent.drop Ent.refl))))))))) (VJ_eq (V_loadE rfl rfl (show (i).toNat < (mk_prt v.legs oc4.2).length by rw [mk_prt_len (by have := hdl6; simpa using this)]; exact (by omega)) foc1 (Reads.sl _ _ _) rfl rfl Tryz.isAgg79) (show (IfH.v ((oc4.2.getD ((i).toNat) tyDev.dflt)) : Value) = IfH.v ((mk_prt v.legs oc4.2).getD ((i).toNat) prt_h0).dev from by rw [mk_prt_at (by have := hdl6; simpa using this)])) rfl (fun _ _ _ _ h => h) ?_
  refine AJ_ent (Ent.trans (Ent.take del2 (Ent.take del2 (Ent.take del1 Ent.refl))) (VolP_mk (v0 := v.layout_n) (v1 := v.layout_chunk) (v2 := v.layout_rows) (v3 := v.legs) (v4 := v.last_seq) (v5 := v.last_offset) (v6 := v.last_leg) (v7 := v.last_word) (v8 := v.last_parity) (v9 := v.pending) (v10 := v.filled) (h0 := oc4.1) (h1 := oc4.2))) ?_
  obtain ⟨r9, hr10, h⟩ := bind_e h
  refine AJ_op 9 1023 rfl (by kernel_rfl) rfl (GY_none rfl) (O_callV rfl rfl (L_parityvol_Volume_heads_1 hr10) Tryz.call129 (Dels.cons del1 (Dels.cons del4 (Dels.cons del0 (Dels.cons del3 Dels.nil)))) rfl (fun _ _ => ?_))
  refine ⟨fun h => absurd h (by decide), ?_⟩
  refine AJ_op 10 2047 rfl (by kernel_rfl) rfl (GY_none rfl) (O_store rfl rfl foc4 rfl rfl Tryz.sizeOf40 ?_)
  refine ⟨fun h => absurd h (by decide), ?_⟩
  refine AJ_done (by kernel_rfl) ?_
  refine QJ_ent (Ent.take del1 (Ent.take del1 (Ent.take del1 (Ent.take del1 (Ent.take del1 (Ent.take del1 (Ent.drop Ent.refl))))))) ?_
  refine QJ_then ?_
  refine CJ_ret ?_
  obtain ⟨r11, hr12, h⟩ := bind_e h
  have hE := Option.some.inj h
  subst hE
  refine QJ_endD1 (.inl rfl) Tryz.call114 (Ent.take del3 (Ent.take del4 (Ent.take del1 (Ent.take del2 (Ent.take del1 Ent.refl))))) (LD_parityvol_Volume_on_1 hr12) (resA1 Tryz.results78 (RV_cell rfl foc0 rfl Tryz.isAgg40)) ?_
  refine CSpec.close () ?_ ?_ (Ent.take del2 (Ent.take del4 (Ent.take del3 (Ent.drop (Ent.drop (Ent.drop Ent.refl))))))
  · rfl
  · trivial
def parityvol_Volume_all__parityvol_Volume_heads_1_l1_b (v : VolS) (rec : ArrS → VolS → Nat → Option ((VolS × ArrS) ⊕ (Int × VolS × ArrS))) (x11 : ArrS) (x12 : VolS) (x13 : Nat) : Option ((VolS × ArrS) ⊕ (Int × VolS × ArrS)) :=
  if (((x13 : Nat) : Int) < ((v.legs.length : Nat) : Int)) then
    grd (decide (x13 < x12.legs.length)) <|
    if (¬ (x12.legs.getD x13 prt_x0).stale = true) then
      Option.bind (parityvol_Volume_on__parityvol_Volume_heads_1 x12 (((x13 : Nat) : Int)) x11) fun r18 =>
      if (r18.1 ≠ (0 : Int)) then
        some (.inr (r18.1, r18.2.1, r18.2.2))
      else
        rec r18.2.2 r18.2.1 (x13 + 1)
    else
      rec x11 x12 (x13 + 1)
  else
    some (.inl (x12, x11))
def parityvol_Volume_all__parityvol_Volume_heads_1_l1 (v : VolS) : Nat → ArrS → VolS → Nat → Option ((VolS × ArrS) ⊕ (Int × VolS × ArrS))
  | 0, _, _, _ => none
  | n + 1, x11, x12, x13 => parityvol_Volume_all__parityvol_Volume_heads_1_l1_b v (parityvol_Volume_all__parityvol_Volume_heads_1_l1 v n) x11 x12 x13
def parityvol_Volume_all__parityvol_Volume_heads_1 (v : VolS) (s : ArrS) : Option (Int × VolS × ArrS) :=
  seqO (parityvol_Volume_all__parityvol_Volume_heads_1_l1 v FUEL s v 0) fun a10 =>
  some (((0 : Int), a10.1, a10.2))
theorem L_parityvol_Volume_all__parityvol_Volume_heads_1 {W : World} {bv : Nat} {bf_c0 : Nat} {bs : Nat} {v : VolS} {s : ArrS} {r : Int × VolS × ArrS} (h : parityvol_Volume_all__parityvol_Volume_heads_1 v s = some r) :
    CSpec Tryz.prog W 117 [ptr bv 0, .func (.func 129) #[] #[ptr bf_c0 0]] [VolP bs bv v, blk bf_c0 65 [ptr bv 0], Arr bs s] (fun x : Unit => .int .i64 r.1) (fun _ => True) (fun x F => VolP bs bv r.2.1 :: blk bf_c0 65 [ptr bv 0] :: Arr bs r.2.2 :: F) := by
 refine CSpec.of_body Tryz.func117 rfl Tryz.ntmps117 rfl fun F => ?_
 show CJ _ _ _ _ _ _ (_ :: _ :: _ :: F)
 unfold parityvol_Volume_all__parityvol_Volume_heads_1 at h
 refine sR <| oA rfl rfl <| nT <| CJ_seq <| CJ_seq <| CJ_entX (Ent.transX (t0_ eR) (VolP_open (l := v))) fun oc1 => CJ_pure (fun h hh => Rs_len (stars_perm (del2 (A := Rs (DevP bs) (v.legs.map prtS.dev) oc1.2)).out h hh)) fun hdl3 => lC del1 fun hlen4 => ?_
 rw [mk_prt_len (by have := hdl3; simpa using this)] at hlen4
 refine CJ_region <| oM rfl rfl <| oP (P_nilCheck rfl) rfl <| oP (P_fieldAddr rfl ⟨_, _, _, Tryz.runUnderlying123, rfl, rfl, Tryz.sizeOf119, rfl⟩) rfl <| oV (V_load rfl foc0 rfl Tryz.isAgg119) rfl <| oV (VJ_eq (V_len rfl foc1 (Reads.sl _ _ _) Tryz.runUnderlying119) (congrArg (fun z : Nat => Value.int .i64 (z : Int)) (mk_prt_len (by have := hdl3; simpa using this)).symm)) rfl <| oM rfl rfl <| RJ_nil <| QJ_ent (Ent.trans eR (VolP_mk (v0 := v.layout_n) (v1 := v.layout_chunk) (v2 := v.layout_rows) (v3 := v.legs) (v4 := v.last_seq) (v5 := v.last_offset) (v6 := v.last_leg) (v7 := v.last_word) (v8 := v.last_parity) (v9 := v.pending) (v10 := v.filled) (h0 := oc1.1) (h1 := oc1.2))) <| QJ_then ?_
 obtain ⟨y7, hl5, hK6⟩ := seq_e h
 refine CJ_cutT (X := VolS × ArrS) [4, 5, 6, 12, 13, 14, 15, 16, 17, 18, 19, 20, 21, 22, 23, 24, 25, 26, 27, 28, 29, 30, 31] (fun a10 => ([] : Slots)) (fun a10 R => VolP bs bv a10.1 :: Arr bs a10.2 :: R) (fun a10 => y7 = .inl a10) (Dels.cons del0 (Dels.cons del1 Dels.nil)) ?_ ?_
 ·
  refine CJ_block <| CJ_loopR (X := Nat × ArrS × VolS × Nat) [4, 5, 6, 12, 13, 14, 15, 16, 17, 18, 19, 20, 21, 22, 23, 24, 25, 26, 27, 28, 29, 30, 31] (fun ⟨n, x11, x12, x13⟩ => ([(12, .int .i64 (((x13 : Nat) : Int)))] : Slots)) (fun ⟨n, x11, x12, x13⟩ R => Arr bs x11 :: VolP bs bv x12 :: R) (fun ⟨n, x11, x12, x13⟩ => parityvol_Volume_all__parityvol_Volume_heads_1_l1 v n x11 x12 x13 = some y7) (fun ⟨n, x11, x12, x13⟩ => n) ⟨FUEL, s, v, 0⟩ ?_ ?_ (t2_ eR) ?_
  · exact hl5
  · exact ⟨rfl, True.intro⟩
  ·
   rintro ⟨n, x11, x12, x13⟩ h
   cases n with
   | zero => exact none_e h
   | succ n => ?_
   replace h : parityvol_Volume_all__parityvol_Volume_heads_1_l1_b v (parityvol_Volume_all__parityvol_Volume_heads_1_l1 v n) x11 x12 x13 = some y7 := h
   unfold parityvol_Volume_all__parityvol_Volume_heads_1_l1_b at h
   show CJ _ _ _ _ _ (([(12, .int .i64 (((x13 : Nat) : Int)))] : Slots) ++ forget _ _) (Arr bs x11 :: VolP bs bv x12 :: _)
   refine sR <| oP (P_lss (a := ((x13 : Nat) : Int)) (b := ((v.legs.length : Nat) : Int)) rfl rfl) rfl <| nT <| CJ_seq <| CJ_condP rfl bT_dec (fun hg1 => ?_) (fun hg1 => ?_)
   ·
    replace h := ite_t hg1 h
    refine kT <| CJ_seq <| CJ_block <| sR <| oM rfl rfl <| oA rfl rfl <| nT <| CJ_seq <| CJ_entX (Ent.transX (t1_ eR) (VolP_open (l := x12))) fun oc14 => CJ_pure (fun h hh => Rs_len (stars_perm (del2 (A := Rs (DevP bs) (x12.legs.map prtS.dev) oc14.2)).out h hh)) fun hdl16 => lC del1 fun hlen17 => ?_
    rw [mk_prt_len (by have := hdl16; simpa using this)] at hlen17
    refine CJ_region <| oM rfl rfl <| oP (P_nilCheck rfl) rfl <| oP (P_fieldAddr rfl ⟨_, _, _, Tryz.runUnderlying123, rfl, rfl, Tryz.sizeOf119, rfl⟩) rfl <| oV (V_load rfl foc0 rfl Tryz.isAgg119) rfl <| oM rfl rfl ?_
    obtain ⟨hg2, h⟩ := grd_de h
    refine oV (V_index (i := x13) rfl rfl rfl (show x13 < (mk_prt x12.legs oc14.2).length by rw [mk_prt_len (by have := hdl16; simpa using this)]; exact hg2) foc1 (Reads.sl _ _ _) Tryz.runUnderlying119 Tryz.sizeOf126) rfl <| oP (P_fieldE rfl ⟨_, _, _, Tryz.runUnderlying126, rfl, rfl, Tryz.sizeOf4, rfl⟩) rfl <| oV (VJ_eq (V_loadE rfl rfl (show x13 < (mk_prt x12.legs oc14.2).length by rw [mk_prt_len (by have := hdl16; simpa using this)]; exact hg2) foc1 (Reads.sl _ _ _) rfl rfl Tryz.isAgg4) (show (.bool ((x12.legs.getD x13 prt_x0).stale) : Value) = .bool ((mk_prt x12.legs oc14.2).getD x13 prt_h0).stale from by rw [mk_prt_at (by have := hdl16; simpa using this)])) rfl <| oP (P_not rfl) rfl <| RJ_nil <| QJ_ent (Ent.trans eR (VolP_mk (v0 := x12.layout_n) (v1 := x12.layout_chunk) (v2 := x12.layout_rows) (v3 := x12.legs) (v4 := x12.last_seq) (v5 := x12.last_offset) (v6 := x12.last_leg) (v7 := x12.last_word) (v8 := x12.last_parity) (v9 := x12.pending) (v10 := x12.filled) (h0 := oc14.1) (h1 := oc14.2))) <| QJ_then <| CJ_condP rfl (bT_not Iff.rfl) (fun hg3 => ?_) (fun hg3 => ?_)
    ·
     replace h := ite_t hg3 h
     refine sR <| oM rfl rfl <| oM rfl rfl <| oM rfl rfl ?_
     obtain ⟨r18, hr19, h⟩ := bind_e h
     refine oO <| O_call (L_parityvol_Volume_on__parityvol_Volume_heads_1 hr19) rfl Tryz.call78 (Dels.cons del0 (Dels.cons del1 (Dels.cons del0 Dels.nil))) rfl fun _ _ => oA rfl rfl <| nT <| sR <| oM rfl rfl <| oP (P_neq (a := r18.1) (b := (0 : Int)) rfl rfl) rfl <| nT <| CJ_condP rfl bT_dec (fun hg4 => ?_) (fun hg4 => ?_)
     ·
      replace h := ite_t hg4 h
      refine sR <| oM rfl rfl <| oA rfl rfl <| nT <| CJ_ret <| QJ_block_ret <| QJ_then_ret <| QJ_round_ret <| QJ_block_ret <| QJ_then_ret ?_
      have hE := Option.some.inj h
      replace hE := seq_inr hK6 hE.symm
      subst hE
      exact fE (res1 Tryz.results117 rfl) () eR
     ·
      replace h := ite_f hg4 h
      exact CJ_skip <| QJ_block_normal <| QJ_then <| CJ_region <| oP (PJ_eq (P_add (a := ((x13 : Nat) : Int)) (b := (1 : Int)) rfl rfl (by omega)) rfl) rfl <| oM rfl rfl <| RJ_nil <| nR ⟨n, r18.2.2, r18.2.1, (x13 + 1)⟩ h ⟨rfl, True.intro⟩ (t2_ eR)
    ·
     replace h := ite_f hg3 h
     exact CJ_skip <| QJ_block_normal <| QJ_then <| CJ_region <| oP (PJ_eq (P_add (a := ((x13 : Nat) : Int)) (b := (1 : Int)) rfl rfl (by omega)) rfl) rfl <| oM rfl rfl <| RJ_nil <| nR ⟨n, x11, x12, (x13 + 1)⟩ h ⟨rfl, True.intro⟩ (t1_ eR)
   ·
    replace h := ite_f hg1 h
    exact CJ_exit <| QJ_then_exit <| QJ_round_exit <| QJ_block_here <| cR (x12, x11) (Option.some.inj h).symm True.intro (t1_ eR)
 ·
  rintro a10 hy20
  replace h := seq_inl hK6 hy20
  show CJ _ _ _ _ _ (([] : Slots) ++ forget _ _) (VolP bs bv a10.1 :: Arr bs a10.2 :: _)
  refine sR <| oA rfl rfl <| nT <| CJ_ret ?_
  cases h
  exact fE (res1 Tryz.results117 rfl) () (t0_ (t1_ eR))
def parityvol_Volume_heads (v : VolS) (s : ArrS) : Option (Int × VolS × ArrS) :=
  Option.bind (parityvol_Volume_all__parityvol_Volume_heads_1 ({ v with pending := true }) s) fun r6 =>
  some (r6.1, r6.2.1, r6.2.2)
theorem L_parityvol_Volume_heads {W : World} {bv : Nat} {bs : Nat} {v : VolS} {s : ArrS} {r : Int × VolS × ArrS} (h : parityvol_Volume_heads v s = some r) :
    CSpec Tryz.prog W 121 [ptr bv 0] [VolP bs bv v, Arr bs s] (fun x : Unit => .int .i64 r.1) (fun _ => True) (fun x F => VolP bs bv r.2.1 :: Arr bs r.2.2 :: F) := by
 refine CSpec.of_body Tryz.func121 rfl Tryz.ntmps121 rfl fun F => ?_
 show CJ _ _ _ _ _ _ (_ :: _ :: F)
 unfold parityvol_Volume_heads at h
 refine sR <| oO <| O_box rfl rfl rfl fun b1 => oA rfl rfl <| nT <| CJ_seq <| CJ_entX (Ent.transX (t1_ eR) (VolP_open (l := v))) fun oc2 => CJ_pure (fun h hh => Rs_len (stars_perm (del2 (A := Rs (DevP bs) (v.legs.map prtS.dev) oc2.2)).out h hh)) fun hdl4 => lC del1 fun hlen5 => ?_
 rw [mk_prt_len (by have := hdl4; simpa using this)] at hlen5
 refine CJ_region <| oV (V_load rfl foc3 rfl Tryz.isAgg65) rfl <| oP (P_nilCheck rfl) rfl <| oP (P_fieldAddr rfl ⟨_, _, _, Tryz.runUnderlying123, rfl, rfl, Tryz.sizeOf4, rfl⟩) rfl <| oO <| O_store rfl rfl foc0 rfl rfl Tryz.sizeOf4 <| RJ_nil <| QJ_ent (Ent.trans eR (VolP_mk (v0 := v.layout_n) (v1 := v.layout_chunk) (v2 := v.layout_rows) (v3 := v.legs) (v4 := v.last_seq) (v5 := v.last_offset) (v6 := v.last_leg) (v7 := v.last_word) (v8 := v.last_parity) (v9 := true) (v10 := v.filled) (h0 := oc2.1) (h1 := oc2.2))) <| QJ_then <| sR <| oV (V_load rfl foc1 rfl Tryz.isAgg65) rfl <| oP (P_makeFunc rfl rfl) rfl ?_
 obtain ⟨r6, hr7, h⟩ := bind_e h
 refine oO <| O_call (L_parityvol_Volume_all__parityvol_Volume_heads_1 hr7) rfl Tryz.call117 (Dels.cons del0 (Dels.cons del0 (Dels.cons del0 Dels.nil))) rfl fun _ _ => oA rfl rfl <| nT <| CJ_ret ?_
 cases h
 exact fE (res1 Tryz.results121 rfl) () (t0_ (t1_ (eD eR)))
def parityvol_Volume_store_1 (x_0 : Dvc) (p1_v : VolS) (p2 : UInt64) (s : ArrS) : Option (Int × ArrS) :=
  grd (inI64 (((16 : Int) + p1_v.last_offset))) <|
  Option.bind (Dvc.wr x_0 s (((16 : Int) + p1_v.last_offset)) p2) fun r3 =>
  some (r3.1, r3.2)
theorem L_parityvol_Volume_store_1 {W : World} {vx_0 : IfH} {bp1 : Nat} {bp1_v : Nat} {bp2 : Nat} {bs : Nat} {x_0 : Dvc} {p1_v : VolS} {p2 : UInt64} {s : ArrS} {r : Int × ArrS} (h : parityvol_Volume_store_1 x_0 p1_v p2 s = some r) :
    CSpec Tryz.prog W 131 [IfH.v vx_0, ptr bp1 0, ptr bp2 0] [DevP bs x_0 vx_0, blk bp1 65 [ptr bp1_v 0], VolP bs bp1_v p1_v, blk bp2 44 [.int .u64 (p2.toNat : Int)], Arr bs s] (fun x : Unit => .int .i64 r.1) (fun _ => True) (fun x F => DevP bs x_0 vx_0 :: blk bp1 65 [ptr bp1_v 0] :: VolP bs bp1_v p1_v :: blk bp2 44 [.int .u64 (p2.toNat : Int)] :: Arr bs r.2 :: F) := by
 refine CSpec.of_body Tryz.func131 rfl Tryz.ntmps131 rfl fun F => ?_
 show CJ _ _ _ _ _ _ (_ :: _ :: _ :: _ :: _ :: F)
 unfold parityvol_Volume_store_1 at h
 refine sR <| oA rfl rfl <| nT <| CJ_seq <| AJ_startH 2048 (by kernel_rfl) rfl <| aN 0 1 rfl rfl (P_move rfl) rfl <| aV 1 3 rfl rfl (GY_none rfl) eR (V_load rfl foc1 rfl Tryz.isAgg65) rfl <| aN 2 7 rfl rfl (P_nilCheck rfl) rfl <| aN 3 15 rfl rfl (P_fieldAddr rfl ⟨_, _, _, Tryz.runUnderlying123, rfl, rfl, Tryz.sizeOf121, rfl⟩) rfl <| aN 4 31 rfl rfl (P_fieldAddr rfl ⟨_, _, _, Tryz.runUnderlying121, rfl, rfl, Tryz.sizeOf3, rfl⟩) rfl <| aV 5 63 rfl rfl (GY_none rfl) eR (VJ_entX (Ent.transX (t2_ eR) (VolP_open (l := p1_v))) (fun _ => V_load rfl foc0 rfl Tryz.isAgg3)) rfl ?_
 obtain ⟨hg1, h⟩ := grd_Ie h
 refine aN 6 127 rfl rfl (P_add (a := (16 : Int)) (b := p1_v.last_offset) rfl rfl hg1) rfl <| aV 7 255 rfl rfl (GY_none rfl) eR (V_load rfl foc3 rfl Tryz.isAgg44) rfl <| aN 8 511 rfl rfl (P_makeFunc rfl rfl) rfl <| AJ_pure (fun h hh => DevP_nil h (stars_perm (del0 (A := DevP bs x_0 vx_0)).out h hh)) fun hnil1 => aN 9 1023 rfl rfl (P_nilCheckM hnil1 rfl) rfl <| aN 10 2047 rfl rfl (P_move rfl) rfl <| AJ_pure (fun h hh => DevP_dep h (stars_perm (del0 (A := DevP bs x_0 vx_0)).out h hh)) fun hdp2 => ?_
 obtain ⟨r3, hr4, h⟩ := bind_e h
 refine AJ_op 11 4095 rfl (by kernel_rfl) rfl (GY_none rfl) <| O_callI rfl (dev_Write hr4 hdp2) rfl (Dels.cons del0 (Dels.cons del3 Dels.nil)) rfl fun _ _ => ⟨fun h => absurd h (by decide), ?_⟩
 refine aN 12 8191 rfl rfl (P_assign rfl) rfl <| aD <| CJ_ret ?_
 cases h
 exact fE (res1 Tryz.results131 rfl) () (t0_ (t1_ (t1_ (t1_ eR))))
def parityvol_Volume_on__parityvol_Volume_store_1 (v : VolS) (i : Int) (f_c1 : UInt64) (s : ArrS) : Option (Int × VolS × ArrS) :=
  grd (decide (0 ≤ i ∧ i < (v.legs.length : Int))) <|
  Option.bind (parityvol_Volume_store_1 ((v.legs.getD ((i).toNat) prt_x0).dev) v f_c1 s) fun r9 =>
  Option.bind (parityvol_Volume_on_1 r9.1 v i r9.2) fun r11 =>
  some (r11.1, r11.2, r9.2)
theorem L_parityvol_Volume_on__parityvol_Volume_store_1 {W : World} {bv : Nat} {bf_c0 : Nat} {bf_c1 : Nat} {bs : Nat} {v : VolS} {i : Int} {f_c1 : UInt64} {s : ArrS} {r : Int × VolS × ArrS} (h : parityvol_Volume_on__parityvol_Volume_store_1 v i f_c1 s = some r) :
    CSpec Tryz.prog W 78 [ptr bv 0, .int .i64 i, .func (.func 131) #[] #[ptr bf_c0 0, ptr bf_c1 0]] [VolP bs bv v, blk bf_c0 65 [ptr bv 0], blk bf_c1 44 [.int .u64 (f_c1.toNat : Int)], Arr bs s] (fun x : Unit => .int .i64 r.1) (fun _ => True) (fun x F => VolP bs bv r.2.1 :: blk bf_c0 65 [ptr bv 0] :: blk bf_c1 44 [.int .u64 (f_c1.toNat : Int)] :: Arr bs r.2.2 :: F) := by
  refine CSpec.of_bodyM Tryz.func78 rfl Tryz.ntmps78 rfl (fun F => ?_)
  show CJ _ _ _ _ _ _ (_ :: _ :: _ :: _ :: F)
  unfold parityvol_Volume_on__parityvol_Volume_store_1 at h
  refine CJ_seq ?_
  refine CJ_region ?_
  refine RJ_op rfl (O_box rfl rfl rfl (fun b1 => ?_))
  refine RJ_op rfl (O_box rfl rfl rfl (fun b2 => ?_))
  refine RJ_op rfl (O_alloc Tryz.zeroValue40 rfl rfl (fun b3 => ?_))
  refine RJ_nil ?_
  refine QJ_then ?_
  refine CJ_seq ?_
  refine CJ_region ?_
  refine RJ_op rfl (OJ_P (P_makeFunc rfl rfl) rfl ?_)
  refine RJ_defer rfl rfl ?_
  refine RJ_nil ?_
  refine QJ_then ?_
  refine CJ_seq ?_
  refine CJ_entX (Ent.transX (Ent.take del3 Ent.refl) (VolP_open (l := v))) (fun oc4 => ?_)
  refine CJ_pure (fun h hh => Rs_len (stars_perm (del2 (A := Rs (DevP bs) (v.legs.map prtS.dev) oc4.2)).out h hh)) (fun hdl6 => ?_)
  refine CJ_pure (len_of (Reads.sl _ _ _) del1) (fun hlen7 => ?_)
  rw [mk_prt_len (by have := hdl6; simpa using this)] at hlen7
  refine AJ_startH 1536 (by kernel_rfl) rfl ?_
  refine AJ_takeP 0 1 rfl (by kernel_rfl) rfl (GY_none rfl) (P_move rfl) rfl (fun _ _ _ _ h => h) ?_
  refine AJ_takeV 1 3 rfl (by kernel_rfl) rfl (by kernel_rfl) (by kernel_rfl) (GY_none rfl) Ent.refl (V_load rfl foc5 rfl Tryz.isAgg65) rfl (fun _ _ _ _ h => h) ?_
  refine AJ_takeP 2 7 rfl (by kernel_rfl) rfl (GY_none rfl) (P_nilCheck rfl) rfl (fun _ _ _ _ h => h) ?_
  refine AJ_takeP 3 15 rfl (by kernel_rfl) rfl (GY_none rfl) (P_fieldAddr rfl ⟨_, _, _, Tryz.runUnderlying123, rfl, rfl, Tryz.sizeOf119, rfl⟩) rfl (fun _ _ _ _ h => h) ?_
  refine AJ_takeV 4 31 rfl (by kernel_rfl) rfl (by kernel_rfl) (by kernel_rfl) (GY_none rfl) Ent.refl (V_load rfl foc0 rfl Tryz.isAgg119) rfl (fun _ _ _ _ h => h) ?_
  refine AJ_takeV 5 63 rfl (by kernel_rfl) rfl (by kernel_rfl) (by kernel_rfl) (GY_none rfl) Ent.refl (V_load rfl foc4 rfl Tryz.isAgg3) rfl (fun _ _ _ _ h => h) ?_
  obtain ⟨hg1, h⟩ := grd_de h
  refine AJ_takeV 6 127 rfl (by kernel_rfl) rfl (by kernel_rfl) (by kernel_rfl) (GY_none rfl) Ent.refl (V_index (i := (i).toNat) rfl rfl (Int.toNat_of_nonneg (hg1.1)).symm (show (i).toNat < (mk_prt v.legs oc4.2).length by rw [mk_prt_len (by have := hdl6; simpa using this)]; exact (by omega)) foc1 (Reads.sl _ _ _) Tryz.runUnderlying119 Tryz.sizeOf126) rfl (fun _ _ _ _ h => h) ?_
  refine AJ_takeP 7 255 rfl (by kernel_rfl) rfl (GY_none rfl) (P_fieldE rfl ⟨_, _, _, Tryz.runUnderlying126, rfl, rfl, Tryz.sizeOf79, rfl⟩) rfl (fun _ _ _ _ h => h) ?_
  refine AJ_ent (Ent.trans (Ent.take del2 Ent.refl) (mk_prt_rs (i := (i).toNat) (by omega))) ?_
  refine AJ_takeV 8 511 rfl (by kernel_rfl) rfl (by kernel_rfl) (by kernel_rfl) (GY_none rfl) (Ent.take del2 (Ent.take del2 (Ent.take del1 (Ent.take del1 (Ent.take del1 (Ent.take del1 (Ent.take del1 (Ent.take del1 (Ent.take del1 (Ent.drop Ent.refl)))))))))) (VJ_eq (V_loadE rfl rfl (show (i).toNat < (mk_prt v.legs oc4.2).length by rw [mk_prt_len (by have := hdl6; simpa using this)]; exact (by omega)) foc1 (Reads.sl _ _ _) rfl rfl Tryz.isAgg79) (show (IfH.v ((oc4.2.getD ((i).toNat) tyDev.dflt)) : Value) = IfH.v ((mk_prt v.legs oc4.2).getD ((i).toNat) prt_h0).dev from by rw [mk_prt_at (by have := hdl6; simpa using this)])) rfl (fun _ _ _ _ h => h) ?_
  refine AJ_ent (Ent.trans (Ent.take del2 (Ent.take del2 (Ent.take del1 Ent.refl))) (VolP_mk (v0 := v.layout_n) (v1 := v.layout_chunk) (v2 := v.layout_rows) (v3 := v.legs) (v4 := v.last_seq) (v5 := v.last_offset) (v6 := v.last_leg) (v7 := v.last_word) (v8 := v.last_parity) (v9 := v.pending) (v10 := v.filled) (h0 := oc4.1) (h1 := oc4.2))) ?_
  obtain ⟨r9, hr10, h⟩ := bind_e h
  refine AJ_op 9 1023 rfl (by kernel_rfl) rfl (GY_none rfl) (O_callV rfl rfl (L_parityvol_Volume_store_1 hr10) Tryz.call131 (Dels.cons del1 (Dels.cons del4 (Dels.cons del0 (Dels.cons del3 (Dels.cons del3 Dels.nil))))) rfl (fun _ _ => ?_))
  refine ⟨fun h => absurd h (by decide), ?_⟩
  refine AJ_op 10 2047 rfl (by kernel_rfl) rfl (GY_none rfl) (O_store rfl rfl foc5 rfl rfl Tryz.sizeOf40 ?_)
  refine ⟨fun h => absurd h (by decide), ?_⟩
  refine AJ_done (by kernel_rfl) ?_
  refine QJ_ent (Ent.take del1 (Ent.take del1 (Ent.take del1 (Ent.take del1 (Ent.take del1 (Ent.take del1 (Ent.take del1 (Ent.drop Ent.refl)))))))) ?_
  refine QJ_then ?_
  refine CJ_ret ?_
  obtain ⟨r11, hr12, h⟩ := bind_e h
  have hE := Option.some.inj h
  subst hE
  refine QJ_endD1 (.inl rfl) Tryz.call114 (Ent.take del4 (Ent.take del5 (Ent.take del1 (Ent.take del3 (Ent.take del2 Ent.refl))))) (LD_parityvol_Volume_on_1 hr12) (resA1 Tryz.results78 (RV_cell rfl foc0 rfl Tryz.isAgg40)) ?_
  refine CSpec.close () ?_ ?_ (Ent.take del2 (Ent.take del4 (Ent.take del4 (Ent.take del3 (Ent.drop (Ent.drop (Ent.drop Ent.refl)))))))
  · rfl
  · trivial
def parityvol_Volume_store (v : VolS) (leg : Int) (w : UInt64) (s : ArrS) : Option (Int × VolS × ArrS) :=
  grd (decide (0 ≤ leg ∧ leg < (v.legs.length : Int))) <|
  if (v.legs.getD ((leg).toNat) prt_x0).stale = true then
    grd (decide (¬ v.layout_chunk = 0)) <|
    if (v.filled ≤ (IntKind.i64.wrap (v.last_offset.tdiv v.layout_chunk))) then
      some (((0 : Int), v, s))
    else
      Option.bind (parityvol_Volume_on__parityvol_Volume_store_1 v leg w s) fun r7 =>
      some (r7.1, r7.2.1, r7.2.2)
  else
    Option.bind (parityvol_Volume_on__parityvol_Volume_store_1 v leg w s) fun r9 =>
    some (r9.1, r9.2.1, r9.2.2)
theorem L_parityvol_Volume_store {W : World} {bv : Nat} {bs : Nat} {v : VolS} {leg : Int} {w : UInt64} {s : ArrS} {r : Int × VolS × ArrS} (h : parityvol_Volume_store v leg w s = some r) :
    CSpec Tryz.prog W 130 [ptr bv 0, .int .i64 leg, .int .u64 (w.toNat : Int)] [VolP bs bv v, Arr bs s] (fun x : Unit => .int .i64 r.1) (fun _ => True) (fun x F => VolP bs bv r.2.1 :: Arr bs r.2.2 :: F) := by
 refine CSpec.of_body Tryz.func130 rfl Tryz.ntmps130 rfl fun F => ?_
 show CJ _ _ _ _ _ _ (_ :: _ :: F)
 unfold parityvol_Volume_store at h
 refine sR <| oO <| O_box rfl rfl rfl fun b1 => oO <| O_box rfl rfl rfl fun b2 => oA rfl rfl <| nT <| CJ_seq <| CJ_seq <| CJ_entX (Ent.transX (t2_ eR) (VolP_open (l := v))) fun oc3 => CJ_pure (fun h hh => Rs_len (stars_perm (del2 (A := Rs (DevP bs) (v.legs.map prtS.dev) oc3.2)).out h hh)) fun hdl5 => lC del1 fun hlen6 => ?_
 rw [mk_prt_len (by have := hdl5; simpa using this)] at hlen6
 refine AJ_startH 0 (by kernel_rfl) rfl <| aV 0 1 rfl rfl (GY_none rfl) eR (V_load rfl foc4 rfl Tryz.isAgg65) rfl <| aN 1 3 rfl rfl (P_nilCheck rfl) rfl <| aN 2 7 rfl rfl (P_fieldAddr rfl ⟨_, _, _, Tryz.runUnderlying123, rfl, rfl, Tryz.sizeOf119, rfl⟩) rfl <| aV 3 15 rfl rfl (GY_none rfl) eR (V_load rfl foc0 rfl Tryz.isAgg119) rfl <| aN 4 31 rfl rfl (P_move rfl) rfl ?_
 obtain ⟨hg1, h⟩ := grd_de h
 refine aV 5 63 rfl rfl (GY_none rfl) eR (V_index (i := (leg).toNat) rfl rfl (Int.toNat_of_nonneg (hg1.1)).symm (show (leg).toNat < (mk_prt v.legs oc3.2).length by rw [mk_prt_len (by have := hdl5; simpa using this)]; exact (by omega)) foc1 (Reads.sl _ _ _) Tryz.runUnderlying119 Tryz.sizeOf126) rfl <| aN 6 127 rfl rfl (P_fieldE rfl ⟨_, _, _, Tryz.runUnderlying126, rfl, rfl, Tryz.sizeOf4, rfl⟩) rfl <| aV 7 255 rfl rfl (GY_none rfl) eR (VJ_eq (V_loadE rfl rfl (show (leg).toNat < (mk_prt v.legs oc3.2).length by rw [mk_prt_len (by have := hdl5; simpa using this)]; exact (by omega)) foc1 (Reads.sl _ _ _) rfl rfl Tryz.isAgg4) (show (.bool ((v.legs.getD ((leg).toNat) prt_x0).stale) : Value) = .bool ((mk_prt v.legs oc3.2).getD ((leg).toNat) prt_h0).stale from by rw [mk_prt_at (by have := hdl5; simpa using this)])) rfl <| aN 8 511 rfl rfl (P_move rfl) rfl <| AJ_splitP 15 rfl Iff.rfl (fun hg2B hg2 => ?_) (fun hg2B hg2 => ?_)
 ·
  replace h := ite_t hg2 h
  refine aV 9 1023 rfl rfl (GY_yes rfl rfl rfl hg2B) eR (V_load rfl foc4 rfl Tryz.isAgg65) rfl <| aP 10 2047 rfl rfl (GY_yes rfl rfl rfl hg2B) (P_nilCheck rfl) rfl <| aP 11 4095 rfl rfl (GY_yes rfl rfl rfl hg2B) (P_fieldAddr rfl ⟨_, _, _, Tryz.runUnderlying123, rfl, rfl, Tryz.sizeOf121, rfl⟩) rfl <| aP 12 8191 rfl rfl (GY_yes rfl rfl rfl hg2B) (P_fieldAddr rfl ⟨_, _, _, Tryz.runUnderlying121, rfl, rfl, Tryz.sizeOf3, rfl⟩) rfl <| aV 13 16383 rfl rfl (GY_yes rfl rfl rfl hg2B) eR (V_load rfl foc0 rfl Tryz.isAgg3) rfl <| aV 14 32767 rfl rfl (GY_yes rfl rfl rfl hg2B) eR (V_load rfl foc4 rfl Tryz.isAgg65) rfl <| aP 15 65535 rfl rfl (GY_yes rfl rfl rfl hg2B) (P_nilCheck rfl) rfl <| aP 16 131071 rfl rfl (GY_yes rfl rfl rfl hg2B) (P_fieldAddr rfl ⟨_, _, _, Tryz.runUnderlying123, rfl, rfl, Tryz.sizeOf112, rfl⟩) rfl <| aP 17 262143 rfl rfl (GY_yes rfl rfl rfl hg2B) (P_fieldAddr rfl ⟨_, _, _, Tryz.runUnderlying112, rfl, rfl, Tryz.sizeOf3, rfl⟩) rfl <| aV 18 524287 rfl rfl (GY_yes rfl rfl rfl hg2B) eR (V_load rfl foc0 rfl Tryz.isAgg3) rfl ?_
  obtain ⟨hg3, h⟩ := grd_de h
  refine aP 19 1048575 rfl rfl (GY_yes rfl rfl rfl hg2B) (P_quoT (a := v.last_offset) (b := v.layout_chunk) rfl rfl hg3) rfl <| aV 20 2097151 rfl rfl (GY_yes rfl rfl rfl hg2B) eR (V_load rfl foc4 rfl Tryz.isAgg65) rfl <| aP 21 4194303 rfl rfl (GY_yes rfl rfl rfl hg2B) (P_nilCheck rfl) rfl <| aP 22 8388607 rfl rfl (GY_yes rfl rfl rfl hg2B) (P_fieldAddr rfl ⟨_, _, _, Tryz.runUnderlying123, rfl, rfl, Tryz.sizeOf3, rfl⟩) rfl <| aV 23 16777215 rfl rfl (GY_yes rfl rfl rfl hg2B) eR (V_load rfl foc0 rfl Tryz.isAgg3) rfl <| aP 24 33554431 rfl rfl (GY_yes rfl rfl rfl hg2B) (P_geq (a := (IntKind.i64.wrap (v.last_offset.tdiv v.layout_chunk))) (b := v.filled) rfl rfl) rfl <| aN 25 67108863 rfl rfl (P_pickT rfl hg2B rfl) rfl <| AJ_done (by kernel_rfl) <| QJ_ent (Ent.trans eR (VolP_mk (v0 := v.layout_n) (v1 := v.layout_chunk) (v2 := v.layout_rows) (v3 := v.legs) (v4 := v.last_seq) (v5 := v.last_offset) (v6 := v.last_leg) (v7 := v.last_word) (v8 := v.last_parity) (v9 := v.pending) (v10 := v.filled) (h0 := oc3.1) (h1 := oc3.2))) <| QJ_then <| CJ_condP rfl bT_dec (fun hg4 => ?_) (fun hg4 => ?_)
  ·
   replace h := ite_t hg4 h
   refine sR <| oA rfl rfl <| nT <| CJ_ret <| QJ_then_ret ?_
   cases h
   exact fE (res1 Tryz.results130 rfl) () (t0_ (t2_ (eD (eD eR))))
  ·
   replace h := ite_f hg4 h
   refine kT <| sR <| oV (V_load rfl foc2 rfl Tryz.isAgg65) rfl <| oM rfl rfl <| oP (P_makeFunc rfl rfl) rfl ?_
   obtain ⟨r7, hr8, h⟩ := bind_e h
   refine oO <| O_call (L_parityvol_Volume_on__parityvol_Volume_store_1 hr8) rfl Tryz.call78 (Dels.cons del0 (Dels.cons del1 (Dels.cons del0 (Dels.cons del0 Dels.nil)))) rfl fun _ _ => oA rfl rfl <| nT <| CJ_ret ?_
   cases h
   exact fE (res1 Tryz.results130 rfl) () (t0_ (t2_ (eD (eD eR))))
 ·
  replace h := ite_f hg2 h
  refine aS 9 1023 rfl rfl (GY_no rfl rfl rfl hg2B) rfl <| aS 10 2047 rfl rfl (GY_no rfl rfl rfl hg2B) rfl <| aS 11 4095 rfl rfl (GY_no rfl rfl rfl hg2B) rfl <| aS 12 8191 rfl rfl (GY_no rfl rfl rfl hg2B) rfl <| aS 13 16383 rfl rfl (GY_no rfl rfl rfl hg2B) rfl <| aS 14 32767 rfl rfl (GY_no rfl rfl rfl hg2B) rfl <| aS 15 65535 rfl rfl (GY_no rfl rfl rfl hg2B) rfl <| aS 16 131071 rfl rfl (GY_no rfl rfl rfl hg2B) rfl <| aS 17 262143 rfl rfl (GY_no rfl rfl rfl hg2B) rfl <| aS 18 524287 rfl rfl (GY_no rfl rfl rfl hg2B) rfl <| aS 19 1048575 rfl rfl (GY_no rfl rfl rfl hg2B) rfl <| aS 20 2097151 rfl rfl (GY_no rfl rfl rfl hg2B) rfl <| aS 21 4194303 rfl rfl (GY_no rfl rfl rfl hg2B) rfl <| aS 22 8388607 rfl rfl (GY_no rfl rfl rfl hg2B) rfl <| aS 23 16777215 rfl rfl (GY_no rfl rfl rfl hg2B) rfl <| aS 24 33554431 rfl rfl (GY_no rfl rfl rfl hg2B) rfl <| aN 25 67108863 rfl rfl (P_pickF rfl hg2B rfl) rfl <| AJ_done (by kernel_rfl) <| QJ_ent (Ent.trans eR (VolP_mk (v0 := v.layout_n) (v1 := v.layout_chunk) (v2 := v.layout_rows) (v3 := v.legs) (v4 := v.last_seq) (v5 := v.last_offset) (v6 := v.last_leg) (v7 := v.last_word) (v8 := v.last_parity) (v9 := v.pending) (v10 := v.filled) (h0 := oc3.1) (h1 := oc3.2))) <| QJ_then <| CJ_condF rfl rfl <| kT <| sR <| oV (V_load rfl foc2 rfl Tryz.isAgg65) rfl <| oM rfl rfl <| oP (P_makeFunc rfl rfl) rfl ?_
  obtain ⟨r9, hr10, h⟩ := bind_e h
  refine oO <| O_call (L_parityvol_Volume_on__parityvol_Volume_store_1 hr10) rfl Tryz.call78 (Dels.cons del0 (Dels.cons del1 (Dels.cons del0 (Dels.cons del0 Dels.nil)))) rfl fun _ _ => oA rfl rfl <| nT <| CJ_ret ?_
  cases h
  exact fE (res1 Tryz.results130 rfl) () (t0_ (t2_ (eD (eD eR))))
def parityvol_Volume_apply (v : VolS) (s : ArrS) : Option (Int × VolS × ArrS) :=
  Option.bind (parityvol_layout_parityOf (⟨v.layout_n, v.layout_chunk, v.layout_rows⟩ : parityvol_layout) v.last_offset) fun r5 =>
  Option.bind (parityvol_Volume_store v v.last_leg v.last_word s) fun r7 =>
  Option.bind ((
    if (r7.1 = (0 : Int)) then
      Option.bind (parityvol_Volume_store r7.2.1 r5.1 r7.2.1.last_parity r7.2.2) fun r16 =>
      some (r16.1, r16.2.1, r16.2.2)
    else
      some (r7.1, r7.2.1, r7.2.2) : Option (Int × VolS × ArrS))) fun a15 =>
  some ((a15.1, { a15.2.1 with pending := (a15.2.1.pending && (decide (a15.1 ≠ (0 : Int)))) }, a15.2.2))
theorem L_parityvol_Volume_apply {W : World} {bv : Nat} {bs : Nat} {v : VolS} {s : ArrS} {r : Int × VolS × ArrS} (h : parityvol_Volume_apply v s = some r) :
    CSpec Tryz.prog W 122 [ptr bv 0] [VolP bs bv v, Arr bs s] (fun x : Unit => .int .i64 r.1) (fun _ => True) (fun x F => VolP bs bv r.2.1 :: Arr bs r.2.2 :: F) := by
 refine CSpec.of_body Tryz.func122 rfl Tryz.ntmps122 rfl fun F => ?_
 show CJ _ _ _ _ _ _ (_ :: _ :: F)
 unfold parityvol_Volume_apply at h
 refine sR <| oA rfl rfl <| nT <| CJ_seq <| CJ_entX (Ent.transX (t0_ eR) (VolP_open (l := v))) fun oc1 => CJ_pure (fun h hh => Rs_len (stars_perm (del2 (A := Rs (DevP bs) (v.legs.map prtS.dev) oc1.2)).out h hh)) fun hdl3 => lC del1 fun hlen4 => ?_
 rw [mk_prt_len (by have := hdl3; simpa using this)] at hlen4
 refine AJ_startH 512 (by kernel_rfl) rfl <| aN 0 1 rfl rfl (P_move rfl) rfl <| aN 1 3 rfl rfl (P_nilCheck rfl) rfl <| aN 2 7 rfl rfl (P_fieldAddr rfl ⟨_, _, _, Tryz.runUnderlying123, rfl, rfl, Tryz.sizeOf112, rfl⟩) rfl <| aV 3 15 rfl rfl (GY_none rfl) eR (V_loadN rfl foc0 Tryz.isAgg112 Tryz.sizeOf112 rfl rfl) rfl <| aN 4 31 rfl rfl (P_move rfl) rfl <| aN 5 63 rfl rfl (P_nilCheck rfl) rfl <| aN 6 127 rfl rfl (P_fieldAddr rfl ⟨_, _, _, Tryz.runUnderlying123, rfl, rfl, Tryz.sizeOf121, rfl⟩) rfl <| aN 7 255 rfl rfl (P_fieldAddr rfl ⟨_, _, _, Tryz.runUnderlying121, rfl, rfl, Tryz.sizeOf3, rfl⟩) rfl <| aV 8 511 rfl rfl (GY_none rfl) eR (V_load rfl foc0 rfl Tryz.isAgg3) rfl ?_
 obtain ⟨r5, hr6, h⟩ := bind_e h
 refine AJ_op 9 1023 rfl (by kernel_rfl) rfl (GY_none rfl) <| O_call (L_parityvol_layout_parityOf hr6) rfl Tryz.call115 Dels.nil rfl fun _ _ => ⟨fun h => absurd h (by decide), ?_⟩
 refine aN 10 2047 rfl rfl (P_move rfl) rfl <| aN 11 4095 rfl rfl (P_extract rfl rfl) rfl <| aN 12 8191 rfl rfl (P_extract rfl rfl) rfl <| aN 13 16383 rfl rfl (P_assign rfl) rfl <| aN 14 32767 rfl rfl (P_assign rfl) rfl <| AJ_done (by kernel_rfl) <| QJ_ent (Ent.trans eR (VolP_mk (v0 := v.layout_n) (v1 := v.layout_chunk) (v2 := v.layout_rows) (v3 := v.legs) (v4 := v.last_seq) (v5 := v.last_offset) (v6 := v.last_leg) (v7 := v.last_word) (v8 := v.last_parity) (v9 := v.pending) (v10 := v.filled) (h0 := oc1.1) (h1 := oc1.2))) <| QJ_then <| CJ_seq <| AJ_startH 2048 (by kernel_rfl) rfl <| aN 0 1 rfl rfl (P_move rfl) rfl <| aN 1 3 rfl rfl (P_move rfl) rfl <| aN 2 7 rfl rfl (P_nilCheck rfl) rfl <| aN 3 15 rfl rfl (P_fieldAddr rfl ⟨_, _, _, Tryz.runUnderlying123, rfl, rfl, Tryz.sizeOf121, rfl⟩) rfl <| aN 4 31 rfl rfl (P_fieldAddr rfl ⟨_, _, _, Tryz.runUnderlying121, rfl, rfl, Tryz.sizeOf3, rfl⟩) rfl <| aV 5 63 rfl rfl (GY_none rfl) eR (VJ_entX (Ent.transX (t0_ eR) (VolP_open (l := v))) (fun _ => V_load rfl foc0 rfl Tryz.isAgg3)) rfl <| aN 6 127 rfl rfl (P_move rfl) rfl <| aN 7 255 rfl rfl (P_nilCheck rfl) rfl <| aN 8 511 rfl rfl (P_fieldAddr rfl ⟨_, _, _, Tryz.runUnderlying123, rfl, rfl, Tryz.sizeOf121, rfl⟩) rfl <| aN 9 1023 rfl rfl (P_fieldAddr rfl ⟨_, _, _, Tryz.runUnderlying121, rfl, rfl, Tryz.sizeOf44, rfl⟩) rfl ?_
 refine aV 10 2047 rfl rfl (GY_none rfl) eR (VJ_entX (Ent.transX (t0_ eR) (VolP_open (l := v))) (fun _ => V_load rfl foc0 rfl Tryz.isAgg44)) rfl ?_
 obtain ⟨r7, hr8, h⟩ := bind_e h
 refine AJ_op 11 4095 rfl (by kernel_rfl) rfl (GY_none rfl) <| O_call (L_parityvol_Volume_store hr8) rfl Tryz.call130 (Dels.cons del0 (Dels.cons del0 Dels.nil)) rfl fun _ _ => ⟨fun h => absurd h (by decide), ?_⟩
 refine aN 12 8191 rfl rfl (P_assign rfl) rfl <| aD <| CJ_seq <| sR <| oM rfl rfl <| oP (P_eql (a := r7.1) (b := (0 : Int)) rfl rfl) rfl <| nT ?_
 obtain ⟨y11, hl9, hK10⟩ := bind_c h
 refine CJ_cutT (X := Int × VolS × ArrS) [5, 33, 34, 35, 36, 37, 38, 39, 40] (fun a15 => ([(5, .int .i64 a15.1)] : Slots)) (fun a15 R => VolP bs bv a15.2.1 :: Arr bs a15.2.2 :: R) (fun a15 => y11 = a15) (Dels.cons del0 (Dels.cons del0 Dels.nil)) ?_ ?_
 ·
  have h := hl9
  refine CJ_condP rfl bT_dec (fun hg1 => ?_) (fun hg1 => ?_)
  ·
   replace h := ite_t hg1 h
   refine CJ_region <| oM rfl rfl <| oM rfl rfl <| oM rfl rfl <| oP (P_nilCheck rfl) rfl <| oP (P_fieldAddr rfl ⟨_, _, _, Tryz.runUnderlying123, rfl, rfl, Tryz.sizeOf121, rfl⟩) rfl <| oP (P_fieldAddr rfl ⟨_, _, _, Tryz.runUnderlying121, rfl, rfl, Tryz.sizeOf44, rfl⟩) rfl <| oV (VJ_entX (Ent.transX (t0_ eR) (VolP_open (l := r7.2.1))) (fun _ => V_load rfl foc0 rfl Tryz.isAgg44)) rfl ?_
   obtain ⟨r16, hr17, h⟩ := bind_e h
   exact oO <| O_call (L_parityvol_Volume_store hr17) rfl Tryz.call130 (Dels.cons del0 (Dels.cons del0 Dels.nil)) rfl fun _ _ => oA rfl rfl <| RJ_nil <| cR (r16.1, r16.2.1, r16.2.2) (Option.some.inj h).symm ⟨rfl, True.intro⟩ eR
  ·
   replace h := ite_f hg1 h
   exact CJ_skip <| cR (r7.1, r7.2.1, r7.2.2) (Option.some.inj h).symm ⟨rfl, True.intro⟩ eR
 ·
  rintro a15 hy18
  replace h := bindK_at hK10 hy18
  show CJ _ _ _ _ _ (([(5, .int .i64 a15.1)] : Slots) ++ forget _ _) (VolP bs bv a15.2.1 :: Arr bs a15.2.2 :: _)
  refine CJ_seq <| CJ_entX (Ent.transX (t0_ eR) (VolP_open (l := a15.2.1))) fun oc19 => CJ_pure (fun h hh => Rs_len (stars_perm (del2 (A := Rs (DevP bs) (a15.2.1.legs.map prtS.dev) oc19.2)).out h hh)) fun hdl21 => lC del1 fun hlen22 => ?_
  rw [mk_prt_len (by have := hdl21; simpa using this)] at hlen22
  refine CJ_region <| oM rfl rfl <| oM rfl rfl <| oP (P_nilCheck rfl) rfl <| oP (P_fieldAddr rfl ⟨_, _, _, Tryz.runUnderlying123, rfl, rfl, Tryz.sizeOf4, rfl⟩) rfl <| oV (V_load rfl foc0 rfl Tryz.isAgg4) rfl <| oM rfl rfl <| RJ_mbT rfl rfl rfl (fun hG23 => have hP24 : a15.2.1.pending = true := (Iff.rfl).1 hG23; VJ_P (P_move rfl)) <| RJ_mbT rfl rfl rfl (fun hG25 => have hP26 : a15.2.1.pending = true := (Iff.rfl).1 hG25; VJ_P (P_neq (a := a15.1) (b := (0 : Int)) (mbx hG25 rfl) rfl)) <| oP (P_pickAnd rfl (fun hh => mbx hh rfl) rfl) rfl <| oP (P_nilCheck rfl) rfl <| oP (P_fieldAddr rfl ⟨_, _, _, Tryz.runUnderlying123, rfl, rfl, Tryz.sizeOf4, rfl⟩) rfl <| oO <| O_store rfl rfl foc0 rfl rfl Tryz.sizeOf4 <| RJ_nil <| QJ_ent (Ent.trans eR (VolP_mk (v0 := a15.2.1.layout_n) (v1 := a15.2.1.layout_chunk) (v2 := a15.2.1.layout_rows) (v3 := a15.2.1.legs) (v4 := a15.2.1.last_seq) (v5 := a15.2.1.last_offset) (v6 := a15.2.1.last_leg) (v7 := a15.2.1.last_word) (v8 := a15.2.1.last_parity) (v9 := (a15.2.1.pending && (decide (a15.1 ≠ (0 : Int))))) (v10 := a15.2.1.filled) (h0 := oc19.1) (h1 := oc19.2))) <| QJ_then <| sR <| oM rfl rfl <| oA rfl rfl <| nT <| CJ_ret ?_
  cases h
  exact fE (res1 Tryz.results122 rfl) () eR
def parityvol_Volume_steps (v : VolS) (s : ArrS) : Option (Unit) :=
  some ()
theorem L_parityvol_Volume_steps {W : World} {bv : Nat} {bs : Nat} {v : VolS} {s : ArrS} {r : Unit} (h : parityvol_Volume_steps v s = some r) :
    CSpec Tryz.prog W 107 [ptr bv 0] [VolP bs bv v, Arr bs s] (fun x : Nat => .slice (some ⟨x, 0, none⟩) 5 5) (fun _ => True) (fun x F => VolP bs bv v :: Arr bs s :: blk x 77 [.func (.func 120) #[ptr bv 0] #[], .func (.func 83) #[ptr bv 0] #[], .func (.func 121) #[ptr bv 0] #[], .func (.func 83) #[ptr bv 0] #[], .func (.func 122) #[ptr bv 0] #[]] :: F) := by
 refine CSpec.of_body Tryz.func107 rfl Tryz.ntmps107 rfl fun F => ?_
 show CJ _ _ _ _ _ _ (_ :: _ :: F)
 unfold parityvol_Volume_steps at h
 refine sR <| oA rfl rfl <| nT <| sR <| oM rfl rfl <| oP (P_makeFunc rfl rfl) rfl <| oM rfl rfl <| oP (P_makeFunc rfl rfl) rfl <| oM rfl rfl <| oP (P_makeFunc rfl rfl) rfl <| oM rfl rfl <| oP (P_makeFunc rfl rfl) rfl <| oM rfl rfl <| oP (P_makeFunc rfl rfl) rfl <| oO <| O_buildSlice rfl (bs_139_5_0_1_2_3_4 _ _ _ _ _ _ _ _ _ _ _ _ _ _ _) rfl fun b1 => oA rfl rfl <| nT <| CJ_ret ?_
 cases h
 exact fE (res1 Tryz.results107 rfl) b1 (t1_ (t1_ eR))
def parityvol_run (steps_0_f0 : VolS) (s : ArrS) : Option (Int × VolS × ArrS) :=
  Option.bind (parityvol_Volume_bodies steps_0_f0 s) fun r1 =>
  if (r1.1 ≠ (0 : Int)) then
    some (r1.1, r1.2.1, r1.2.2)
  else
    Option.bind (parityvol_Volume_flush r1.2.1 r1.2.2) fun r3 =>
    if (r3.1 ≠ (0 : Int)) then
      some (r3.1, r3.2.1, r3.2.2)
    else
      Option.bind (parityvol_Volume_heads r3.2.1 r3.2.2) fun r5 =>
      if (r5.1 ≠ (0 : Int)) then
        some (r5.1, r5.2.1, r5.2.2)
      else
        Option.bind (parityvol_Volume_flush r5.2.1 r5.2.2) fun r7 =>
        if (r7.1 ≠ (0 : Int)) then
          some (r7.1, r7.2.1, r7.2.2)
        else
          Option.bind (parityvol_Volume_apply r7.2.1 r7.2.2) fun r9 =>
          if (r9.1 ≠ (0 : Int)) then
            some (r9.1, r9.2.1, r9.2.2)
          else
            some (((0 : Int), r9.2.1, r9.2.2))
theorem L_parityvol_run {W : World} {bsteps : Nat} {bsteps_0_f0 : Nat} {bs : Nat} {steps_0_f0 : VolS} {s : ArrS} {r : Int × VolS × ArrS} (h : parityvol_run steps_0_f0 s = some r) :
    CSpec Tryz.prog W 87 [.slice (some ⟨bsteps, 0, none⟩) 5 5] [blk bsteps 77 [.func (.func 120) #[ptr bsteps_0_f0 0] #[], .func (.func 83) #[ptr bsteps_0_f0 0] #[], .func (.func 121) #[ptr bsteps_0_f0 0] #[], .func (.func 83) #[ptr bsteps_0_f0 0] #[], .func (.func 122) #[ptr bsteps_0_f0 0] #[]], VolP bs bsteps_0_f0 steps_0_f0, Arr bs s] (fun x : Unit => .int .i64 r.1) (fun _ => True) (fun x F => blk bsteps 77 [.func (.func 120) #[ptr bsteps_0_f0 0] #[], .func (.func 83) #[ptr bsteps_0_f0 0] #[], .func (.func 121) #[ptr bsteps_0_f0 0] #[], .func (.func 83) #[ptr bsteps_0_f0 0] #[], .func (.func 122) #[ptr bsteps_0_f0 0] #[]] :: VolP bs bsteps_0_f0 r.2.1 :: Arr bs r.2.2 :: F) := by
 refine CSpec.of_body Tryz.func87 rfl Tryz.ntmps87 rfl fun F => ?_
 show CJ _ _ _ _ _ _ (_ :: _ :: _ :: F)
 unfold parityvol_run at h
 refine sR <| oA rfl rfl <| nT <| CJ_seq <| sR <| oM rfl rfl <| oP (P_lenNil rfl Tryz.runUnderlying139) rfl <| oM rfl rfl <| nT <| CJ_block <| CJ_unroll <| sR <| oP (PJ_eq (P_lss (a := (0 : Int)) (b := (5 : Int)) rfl rfl) (by rfl)) rfl <| nT <| CJ_seq <| CJ_condT rfl rfl <| kT <| CJ_seq <| CJ_block <| sR <| oP (P_indexLit (i := 0) rfl rfl rfl Tryz.runUnderlying139 Tryz.sizeOf77) rfl <| oV (V_load rfl foc0 rfl Tryz.isAgg77) rfl <| oA rfl rfl <| nT <| sR <| oM rfl rfl ?_
 obtain ⟨r1, hr2, h⟩ := bind_e h
 refine oO <| O_callV rfl rfl (L_parityvol_Volume_bodies hr2) Tryz.call120 (Dels.cons del1 (Dels.cons del1 Dels.nil)) rfl fun _ _ => oA rfl rfl <| nT <| sR <| oM rfl rfl <| oP (P_neq (a := r1.1) (b := (0 : Int)) rfl rfl) rfl <| nT <| CJ_condP rfl bT_dec (fun hg1 => ?_) (fun hg1 => ?_)
 ·
  replace h := ite_t hg1 h
  refine sR <| oM rfl rfl <| oA rfl rfl <| nT <| CJ_ret <| QJ_block_ret <| QJ_then_ret <| QJ_then_ret <| QJ_block_ret <| QJ_then_ret ?_
  cases h
  exact fE (res1 Tryz.results87 rfl) () (t2_ eR)
 ·
  replace h := ite_f hg1 h
  refine CJ_skip <| QJ_block_normal <| QJ_then <| CJ_region <| oP (PJ_eq (P_add (a := (0 : Int)) (b := (1 : Int)) rfl rfl (by decide)) (by rfl)) rfl <| oM rfl rfl <| RJ_nil <| QJ_again <| sR <| oP (PJ_eq (P_lss (a := (1 : Int)) (b := (5 : Int)) rfl rfl) (by rfl)) rfl <| nT <| CJ_seq <| CJ_condT rfl rfl <| kT <| CJ_seq <| CJ_block <| sR <| oP (P_indexLit (i := 1) rfl rfl rfl Tryz.runUnderlying139 Tryz.sizeOf77) rfl <| oV (V_load rfl foc2 rfl Tryz.isAgg77) rfl <| oA rfl rfl <| nT <| sR <| oM rfl rfl ?_
  obtain ⟨r3, hr4, h⟩ := bind_e h
  refine oO <| O_callV rfl rfl (L_parityvol_Volume_flush hr4) Tryz.call83 (Dels.cons del0 (Dels.cons del0 Dels.nil)) rfl fun _ _ => oA rfl rfl <| nT <| sR <| oM rfl rfl <| oP (P_neq (a := r3.1) (b := (0 : Int)) rfl rfl) rfl <| nT <| CJ_condP rfl bT_dec (fun hg2 => ?_) (fun hg2 => ?_)
  ·
   replace h := ite_t hg2 h
   refine sR <| oM rfl rfl <| oA rfl rfl <| nT <| CJ_ret <| QJ_block_ret <| QJ_then_ret <| QJ_then_ret <| QJ_block_ret <| QJ_then_ret ?_
   cases h
   exact fE (res1 Tryz.results87 rfl) () (t2_ eR)
  ·
   replace h := ite_f hg2 h
   refine CJ_skip <| QJ_block_normal <| QJ_then <| CJ_region <| oP (PJ_eq (P_add (a := (1 : Int)) (b := (1 : Int)) rfl rfl (by decide)) (by rfl)) rfl <| oM rfl rfl <| RJ_nil <| QJ_again <| sR <| oP (PJ_eq (P_lss (a := (2 : Int)) (b := (5 : Int)) rfl rfl) (by rfl)) rfl <| nT <| CJ_seq <| CJ_condT rfl rfl <| kT <| CJ_seq <| CJ_block <| sR <| oP (P_indexLit (i := 2) rfl rfl rfl Tryz.runUnderlying139 Tryz.sizeOf77) rfl <| oV (V_load rfl foc2 rfl Tryz.isAgg77) rfl <| oA rfl rfl <| nT <| sR <| oM rfl rfl ?_
   obtain ⟨r5, hr6, h⟩ := bind_e h
   refine oO <| O_callV rfl rfl (L_parityvol_Volume_heads hr6) Tryz.call121 (Dels.cons del0 (Dels.cons del0 Dels.nil)) rfl fun _ _ => oA rfl rfl <| nT <| sR <| oM rfl rfl <| oP (P_neq (a := r5.1) (b := (0 : Int)) rfl rfl) rfl <| nT <| CJ_condP rfl bT_dec (fun hg3 => ?_) (fun hg3 => ?_)
   ·
    replace h := ite_t hg3 h
    refine sR <| oM rfl rfl <| oA rfl rfl <| nT <| CJ_ret <| QJ_block_ret <| QJ_then_ret <| QJ_then_ret <| QJ_block_ret <| QJ_then_ret ?_
    cases h
    exact fE (res1 Tryz.results87 rfl) () (t2_ eR)
   ·
    replace h := ite_f hg3 h
    refine CJ_skip <| QJ_block_normal <| QJ_then <| CJ_region <| oP (PJ_eq (P_add (a := (2 : Int)) (b := (1 : Int)) rfl rfl (by decide)) (by rfl)) rfl <| oM rfl rfl <| RJ_nil <| QJ_again <| sR <| oP (PJ_eq (P_lss (a := (3 : Int)) (b := (5 : Int)) rfl rfl) (by rfl)) rfl <| nT <| CJ_seq <| CJ_condT rfl rfl <| kT <| CJ_seq <| CJ_block <| sR <| oP (P_indexLit (i := 3) rfl rfl rfl Tryz.runUnderlying139 Tryz.sizeOf77) rfl <| oV (V_load rfl foc2 rfl Tryz.isAgg77) rfl <| oA rfl rfl <| nT <| sR <| oM rfl rfl ?_
    obtain ⟨r7, hr8, h⟩ := bind_e h
    refine oO <| O_callV rfl rfl (L_parityvol_Volume_flush hr8) Tryz.call83 (Dels.cons del0 (Dels.cons del0 Dels.nil)) rfl fun _ _ => oA rfl rfl <| nT <| sR <| oM rfl rfl <| oP (P_neq (a := r7.1) (b := (0 : Int)) rfl rfl) rfl <| nT <| CJ_condP rfl bT_dec (fun hg4 => ?_) (fun hg4 => ?_)
    ·
     replace h := ite_t hg4 h
     refine sR <| oM rfl rfl <| oA rfl rfl <| nT <| CJ_ret <| QJ_block_ret <| QJ_then_ret <| QJ_then_ret <| QJ_block_ret <| QJ_then_ret ?_
     cases h
     exact fE (res1 Tryz.results87 rfl) () (t2_ eR)
    ·
     replace h := ite_f hg4 h
     refine CJ_skip <| QJ_block_normal <| QJ_then <| CJ_region <| oP (PJ_eq (P_add (a := (3 : Int)) (b := (1 : Int)) rfl rfl (by decide)) (by rfl)) rfl <| oM rfl rfl <| RJ_nil <| QJ_again <| sR <| oP (PJ_eq (P_lss (a := (4 : Int)) (b := (5 : Int)) rfl rfl) (by rfl)) rfl <| nT <| CJ_seq <| CJ_condT rfl rfl <| kT <| CJ_seq <| CJ_block <| sR <| oP (P_indexLit (i := 4) rfl rfl rfl Tryz.runUnderlying139 Tryz.sizeOf77) rfl <| oV (V_load rfl foc2 rfl Tryz.isAgg77) rfl <| oA rfl rfl <| nT <| sR <| oM rfl rfl ?_
     obtain ⟨r9, hr10, h⟩ := bind_e h
     refine oO <| O_callV rfl rfl (L_parityvol_Volume_apply hr10) Tryz.call122 (Dels.cons del0 (Dels.cons del0 Dels.nil)) rfl fun _ _ => oA rfl rfl <| nT <| sR <| oM rfl rfl <| oP (P_neq (a := r9.1) (b := (0 : Int)) rfl rfl) rfl <| nT <| CJ_condP rfl bT_dec (fun hg5 => ?_) (fun hg5 => ?_)
     ·
      replace h := ite_t hg5 h
      refine sR <| oM rfl rfl <| oA rfl rfl <| nT <| CJ_ret <| QJ_block_ret <| QJ_then_ret <| QJ_then_ret <| QJ_block_ret <| QJ_then_ret ?_
      cases h
      exact fE (res1 Tryz.results87 rfl) () (t2_ eR)
     ·
      replace h := ite_f hg5 h
      refine CJ_skip <| QJ_block_normal <| QJ_then <| CJ_region <| oP (PJ_eq (P_add (a := (4 : Int)) (b := (1 : Int)) rfl rfl (by decide)) (by rfl)) rfl <| oM rfl rfl <| RJ_nil <| QJ_again <| sR <| oP (PJ_eq (P_lss (a := (5 : Int)) (b := (5 : Int)) rfl rfl) (by rfl)) rfl <| nT <| CJ_seq <| CJ_condF rfl rfl <| CJ_exit <| QJ_then_exit <| QJ_then_exit <| QJ_block_here <| QJ_then <| sR <| oA rfl rfl <| nT <| CJ_ret ?_
      cases h
      exact fE (res1 Tryz.results87 rfl) () (t2_ eR)
def parityvol_Volume_commit (v : VolS) (s : ArrS) : Option (Int × VolS × ArrS) :=
  Option.bind (parityvol_Volume_steps v s) fun r1 =>
  Option.bind (parityvol_run v s) fun r5 =>
  some (r5.1, r5.2.1, r5.2.2)
theorem L_parityvol_Volume_commit {W : World} {bv : Nat} {bs : Nat} {v : VolS} {s : ArrS} {r : Int × VolS × ArrS} (h : parityvol_Volume_commit v s = some r) :
    CSpec Tryz.prog W 106 [ptr bv 0] [VolP bs bv v, Arr bs s] (fun x : Unit => .int .i64 r.1) (fun _ => True) (fun x F => VolP bs bv r.2.1 :: Arr bs r.2.2 :: F) := by
 refine CSpec.of_body Tryz.func106 rfl Tryz.ntmps106 rfl fun F => ?_
 show CJ _ _ _ _ _ _ (_ :: _ :: F)
 unfold parityvol_Volume_commit at h
 refine sR <| oA rfl rfl <| nT <| sR <| oM rfl rfl ?_
 obtain ⟨r1, hr2, h⟩ := bind_e h
 refine oO <| O_call (L_parityvol_Volume_steps hr2) rfl Tryz.call107 (Dels.cons del0 (Dels.cons del0 Dels.nil)) rfl fun X3 _ => ?_
 obtain ⟨r5, hr6, h⟩ := bind_e h
 refine oO <| O_call (L_parityvol_run hr6) rfl Tryz.call87 (Dels.cons del2 (Dels.cons del0 (Dels.cons del0 Dels.nil))) rfl fun _ _ => oA rfl rfl <| nT <| CJ_ret ?_
 cases h
 exact fE (res1 Tryz.results106 rfl) () (t1_ (t1_ (eD eR)))
def parityvol_run_2 (steps_0_f0 : VolS) (s : ArrS) : Option (Int × VolS × ArrS) :=
  Option.bind (parityvol_Volume_heads steps_0_f0 s) fun r1 =>
  if (r1.1 ≠ (0 : Int)) then
    some (r1.1, r1.2.1, r1.2.2)
  else
    Option.bind (parityvol_Volume_flush r1.2.1 r1.2.2) fun r3 =>
    if (r3.1 ≠ (0 : Int)) then
      some (r3.1, r3.2.1, r3.2.2)
    else
      Option.bind (parityvol_Volume_apply r3.2.1 r3.2.2) fun r5 =>
      if (r5.1 ≠ (0 : Int)) then
        some (r5.1, r5.2.1, r5.2.2)
      else
        some (((0 : Int), r5.2.1, r5.2.2))
theorem L_parityvol_run_2 {W : World} {bsteps : Nat} {bsteps_0_f0 : Nat} {bs : Nat} {steps_0_f0 : VolS} {s : ArrS} {r : Int × VolS × ArrS} (h : parityvol_run_2 steps_0_f0 s = some r) :
    CSpec Tryz.prog W 87 [.slice (some ⟨bsteps, 2, none⟩) 3 3] [blk bsteps 77 [.func (.func 120) #[ptr bsteps_0_f0 0] #[], .func (.func 83) #[ptr bsteps_0_f0 0] #[], .func (.func 121) #[ptr bsteps_0_f0 0] #[], .func (.func 83) #[ptr bsteps_0_f0 0] #[], .func (.func 122) #[ptr bsteps_0_f0 0] #[]], VolP bs bsteps_0_f0 steps_0_f0, Arr bs s] (fun x : Unit => .int .i64 r.1) (fun _ => True) (fun x F => blk bsteps 77 [.func (.func 120) #[ptr bsteps_0_f0 0] #[], .func (.func 83) #[ptr bsteps_0_f0 0] #[], .func (.func 121) #[ptr bsteps_0_f0 0] #[], .func (.func 83) #[ptr bsteps_0_f0 0] #[], .func (.func 122) #[ptr bsteps_0_f0 0] #[]] :: VolP bs bsteps_0_f0 r.2.1 :: Arr bs r.2.2 :: F) := by
 refine CSpec.of_body Tryz.func87 rfl Tryz.ntmps87 rfl fun F => ?_
 show CJ _ _ _ _ _ _ (_ :: _ :: _ :: F)
 unfold parityvol_run_2 at h
 refine sR <| oA rfl rfl <| nT <| CJ_seq <| sR <| oM rfl rfl <| oP (P_lenNil rfl Tryz.runUnderlying139) rfl <| oM rfl rfl <| nT <| CJ_block <| CJ_unroll <| sR <| oP (PJ_eq (P_lss (a := (0 : Int)) (b := (3 : Int)) rfl rfl) (by rfl)) rfl <| nT <| CJ_seq <| CJ_condT rfl rfl <| kT <| CJ_seq <| CJ_block <| sR <| oP (PJ_eq (P_indexLitO (i := 0) rfl rfl rfl Tryz.runUnderlying139 Tryz.sizeOf77) rfl) rfl <| oV (V_load rfl foc0 rfl Tryz.isAgg77) rfl <| oA rfl rfl <| nT <| sR <| oM rfl rfl ?_
 obtain ⟨r1, hr2, h⟩ := bind_e h
 refine oO <| O_callV rfl rfl (L_parityvol_Volume_heads hr2) Tryz.call121 (Dels.cons del1 (Dels.cons del1 Dels.nil)) rfl fun _ _ => oA rfl rfl <| nT <| sR <| oM rfl rfl <| oP (P_neq (a := r1.1) (b := (0 : Int)) rfl rfl) rfl <| nT <| CJ_condP rfl bT_dec (fun hg1 => ?_) (fun hg1 => ?_)
 ·
  replace h := ite_t hg1 h
  refine sR <| oM rfl rfl <| oA rfl rfl <| nT <| CJ_ret <| QJ_block_ret <| QJ_then_ret <| QJ_then_ret <| QJ_block_ret <| QJ_then_ret ?_
  cases h
  exact fE (res1 Tryz.results87 rfl) () (t2_ eR)
 ·
  replace h := ite_f hg1 h
  refine CJ_skip <| QJ_block_normal <| QJ_then <| CJ_region <| oP (PJ_eq (P_add (a := (0 : Int)) (b := (1 : Int)) rfl rfl (by decide)) (by rfl)) rfl <| oM rfl rfl <| RJ_nil <| QJ_again <| sR <| oP (PJ_eq (P_lss (a := (1 : Int)) (b := (3 : Int)) rfl rfl) (by rfl)) rfl <| nT <| CJ_seq <| CJ_condT rfl rfl <| kT <| CJ_seq <| CJ_block <| sR <| oP (PJ_eq (P_indexLitO (i := 1) rfl rfl rfl Tryz.runUnderlying139 Tryz.sizeOf77) rfl) rfl <| oV (V_load rfl foc2 rfl Tryz.isAgg77) rfl <| oA rfl rfl <| nT <| sR <| oM rfl rfl ?_
  obtain ⟨r3, hr4, h⟩ := bind_e h
  refine oO <| O_callV rfl rfl (L_parityvol_Volume_flush hr4) Tryz.call83 (Dels.cons del0 (Dels.cons del0 Dels.nil)) rfl fun _ _ => oA rfl rfl <| nT <| sR <| oM rfl rfl <| oP (P_neq (a := r3.1) (b := (0 : Int)) rfl rfl) rfl <| nT <| CJ_condP rfl bT_dec (fun hg2 => ?_) (fun hg2 => ?_)
  ·
   replace h := ite_t hg2 h
   refine sR <| oM rfl rfl <| oA rfl rfl <| nT <| CJ_ret <| QJ_block_ret <| QJ_then_ret <| QJ_then_ret <| QJ_block_ret <| QJ_then_ret ?_
   cases h
   exact fE (res1 Tryz.results87 rfl) () (t2_ eR)
  ·
   replace h := ite_f hg2 h
   refine CJ_skip <| QJ_block_normal <| QJ_then <| CJ_region <| oP (PJ_eq (P_add (a := (1 : Int)) (b := (1 : Int)) rfl rfl (by decide)) (by rfl)) rfl <| oM rfl rfl <| RJ_nil <| QJ_again <| sR <| oP (PJ_eq (P_lss (a := (2 : Int)) (b := (3 : Int)) rfl rfl) (by rfl)) rfl <| nT <| CJ_seq <| CJ_condT rfl rfl <| kT <| CJ_seq <| CJ_block <| sR <| oP (PJ_eq (P_indexLitO (i := 2) rfl rfl rfl Tryz.runUnderlying139 Tryz.sizeOf77) rfl) rfl <| oV (V_load rfl foc2 rfl Tryz.isAgg77) rfl <| oA rfl rfl <| nT <| sR <| oM rfl rfl ?_
   obtain ⟨r5, hr6, h⟩ := bind_e h
   refine oO <| O_callV rfl rfl (L_parityvol_Volume_apply hr6) Tryz.call122 (Dels.cons del0 (Dels.cons del0 Dels.nil)) rfl fun _ _ => oA rfl rfl <| nT <| sR <| oM rfl rfl <| oP (P_neq (a := r5.1) (b := (0 : Int)) rfl rfl) rfl <| nT <| CJ_condP rfl bT_dec (fun hg3 => ?_) (fun hg3 => ?_)
   ·
    replace h := ite_t hg3 h
    refine sR <| oM rfl rfl <| oA rfl rfl <| nT <| CJ_ret <| QJ_block_ret <| QJ_then_ret <| QJ_then_ret <| QJ_block_ret <| QJ_then_ret ?_
    cases h
    exact fE (res1 Tryz.results87 rfl) () (t2_ eR)
   ·
    replace h := ite_f hg3 h
    refine CJ_skip <| QJ_block_normal <| QJ_then <| CJ_region <| oP (PJ_eq (P_add (a := (2 : Int)) (b := (1 : Int)) rfl rfl (by decide)) (by rfl)) rfl <| oM rfl rfl <| RJ_nil <| QJ_again <| sR <| oP (PJ_eq (P_lss (a := (3 : Int)) (b := (3 : Int)) rfl rfl) (by rfl)) rfl <| nT <| CJ_seq <| CJ_condF rfl rfl <| CJ_exit <| QJ_then_exit <| QJ_then_exit <| QJ_block_here <| QJ_then <| sR <| oA rfl rfl <| nT <| CJ_ret ?_
    cases h
    exact fE (res1 Tryz.results87 rfl) () (t2_ eR)
def parityvol_Volume_ready (v : VolS) (s : ArrS) : Option (Int × VolS × ArrS) :=
  Option.bind (parityvol_Volume_Failed v s) fun r1 =>
  if ((0 : Int) < ((r1.length : Nat) : Int)) then
    some (((18 : Int), v, s))
  else
    if v.pending = true then
      Option.bind (parityvol_Volume_steps v s) fun r5 =>
      Option.bind (parityvol_run_2 v s) fun r9 =>
      some (r9.1, r9.2.1, r9.2.2)
    else
      some (((0 : Int), v, s))
theorem L_parityvol_Volume_ready {W : World} {bv : Nat} {bs : Nat} {v : VolS} {s : ArrS} {r : Int × VolS × ArrS} (h : parityvol_Volume_ready v s = some r) :
    CSpec Tryz.prog W 73 [ptr bv 0] [VolP bs bv v, Arr bs s] (fun x : Unit => .int .i64 r.1) (fun _ => True) (fun x F => VolP bs bv r.2.1 :: Arr bs r.2.2 :: F) := by
 refine CSpec.of_body Tryz.func73 rfl Tryz.ntmps73 rfl fun F => ?_
 show CJ _ _ _ _ _ _ (_ :: _ :: F)
 unfold parityvol_Volume_ready at h
 refine sR <| oA rfl rfl <| nT <| CJ_seq <| sR <| oM rfl rfl ?_
 obtain ⟨r1, hr2, h⟩ := bind_e h
 refine oO <| O_call (L_parityvol_Volume_Failed hr2) rfl Tryz.call34 (Dels.cons del0 (Dels.cons del0 Dels.nil)) rfl fun X3 _ => oV (V_len rfl foc2 (Reads.sl _ _ _) Tryz.runUnderlying35) rfl <| oP (P_gtr (a := ((r1.length : Nat) : Int)) (b := (0 : Int)) rfl rfl) rfl <| nT <| CJ_condP rfl bT_dec (fun hg1 => ?_) (fun hg1 => ?_)
 ·
  replace h := ite_t hg1 h
  refine sR <| oA rfl rfl <| nT <| CJ_ret <| QJ_then_ret ?_
  cases h
  exact fE (res1 Tryz.results73 rfl) () (t0_ (t0_ (eD eR)))
 ·
  replace h := ite_f hg1 h
  refine kT <| CJ_seq <| sR <| oM rfl rfl <| oP (P_nilCheck rfl) rfl <| oP (P_fieldAddr rfl ⟨_, _, _, Tryz.runUnderlying123, rfl, rfl, Tryz.sizeOf4, rfl⟩) rfl <| oV (VJ_entX (Ent.transX (t0_ eR) (VolP_open (l := v))) (fun _ => V_load rfl foc0 rfl Tryz.isAgg4)) rfl <| nT <| CJ_condP rfl Iff.rfl (fun hg2 => ?_) (fun hg2 => ?_)
  ·
   replace h := ite_t hg2 h
   refine sR <| oM rfl rfl ?_
   obtain ⟨r5, hr6, h⟩ := bind_e h
   refine oO <| O_call (L_parityvol_Volume_steps hr6) rfl Tryz.call107 (Dels.cons del0 (Dels.cons del0 Dels.nil)) rfl fun X7 _ => oP (P_sliceLit (l := 2) rfl rfl rfl Tryz.underlying139 Tryz.sizeOf77) rfl ?_
   obtain ⟨r9, hr10, h⟩ := bind_e h
   refine oO <| O_call (L_parityvol_run_2 hr10) rfl Tryz.call87 (Dels.cons del2 (Dels.cons del0 (Dels.cons del0 Dels.nil))) rfl fun _ _ => oA rfl rfl <| nT <| CJ_ret <| QJ_then_ret ?_
   cases h
   exact fE (res1 Tryz.results73 rfl) () (t1_ (t1_ (eD (eD eR))))
  ·
   replace h := ite_f hg2 h
   refine kT <| sR <| oA rfl rfl <| nT <| CJ_ret ?_
   cases h
   exact fE (res1 Tryz.results73 rfl) () (t0_ (t0_ (eD eR)))
end Go.Proofs
set_option linter.unusedSimpArgs false
set_option linter.unusedVariables false
set_option maxRecDepth 20000
set_option maxHeartbeats 4000000
namespace Go.Proofs
open Go.VG
@[ext] structure parityvol_entry where
  seq : UInt64
  offset : Int
  leg : Int
  word : UInt64
  parity : UInt64
  deriving DecidableEq
theorem bld_121_1_2_3_4 (v0 : Int) (v1 : Int) (v2 : Int) (v3 : Int) : ∀ w, (Instr.build 121 (#[(1, .int .i64 v0), (2, .int .i64 v1), (3, .int .u64 v2), (4, .int .u64 v3)] : Array (Nat × Value))).run Tryz.prog w = .ok (.agg #[.int .u64 0, .int .i64 v0, .int .i64 v1, .int .u64 v2, .int .u64 v3]) w := fun w => by kernel_rfl
def parityvol_Volume_others_1 (x_0 : Dvc) (e_1 : Int) (p2 : UInt64) (s : ArrS) : Option (Int × UInt64) :=
  grd (inI64 (((16 : Int) + e_1))) <|
  Option.bind (Dvc.rd x_0 s (((16 : Int) + e_1))) fun r2 =>
  some (r2.2, r2.1)
theorem L_parityvol_Volume_others_1 {W : World} {vx_0 : IfH} {be_1 : Nat} {bp2 : Nat} {bs : Nat} {x_0 : Dvc} {e_1 : Int} {p2 : UInt64} {s : ArrS} {r : Int × UInt64} (h : parityvol_Volume_others_1 x_0 e_1 p2 s = some r) :
    CSpec Tryz.prog W 112 [IfH.v vx_0, ptr be_1 0, ptr bp2 0] [DevP bs x_0 vx_0, blk be_1 3 [.int .i64 e_1], blk bp2 44 [.int .u64 (p2.toNat : Int)], Arr bs s] (fun x : Unit => .int .i64 r.1) (fun _ => True) (fun x F => DevP bs x_0 vx_0 :: blk be_1 3 [.int .i64 e_1] :: blk bp2 44 [.int .u64 (r.2.toNat : Int)] :: Arr bs s :: F) := by
 refine CSpec.of_body Tryz.func112 rfl Tryz.ntmps112 rfl fun F => ?_
 show CJ _ _ _ _ _ _ (_ :: _ :: _ :: _ :: F)
 unfold parityvol_Volume_others_1 at h
 refine sR <| oA rfl rfl <| nT <| sR <| oM rfl rfl <| oV (V_load rfl foc1 rfl Tryz.isAgg3) rfl ?_
 obtain ⟨hg1, h⟩ := grd_Ie h
 refine oP (P_add (a := (16 : Int)) (b := e_1) rfl rfl hg1) rfl <| RJ_pure (fun h hh => DevP_dep h (stars_perm (del0 (A := DevP bs x_0 vx_0)).out h hh)) fun hdp1 => ?_
 obtain ⟨r2, hr3, h⟩ := bind_e h
 refine oO <| O_callI rfl (dev_Read hr3 hdp1) rfl (Dels.cons del0 (Dels.cons del2 Dels.nil)) rfl fun _ _ => oM rfl rfl <| oP (P_extract rfl rfl) rfl <| oP (P_extract rfl rfl) rfl <| oO <| O_store rfl rfl foc3 rfl rfl Tryz.sizeOf44 <| oA rfl rfl <| nT <| sR <| oM rfl rfl <| oA rfl rfl <| nT <| CJ_ret ?_
 cases h
 exact fE (res1 Tryz.results112 rfl) () (t0_ (t1_ (t1_ eR)))
def parityvol_Volume_on__parityvol_Volume_others_1 (v : VolS) (i : Int) (f_c0 : Int) (f_c1 : UInt64) (s : ArrS) : Option (Int × VolS × UInt64) :=
  grd (decide (0 ≤ i ∧ i < (v.legs.length : Int))) <|
  Option.bind (parityvol_Volume_others_1 ((v.legs.getD ((i).toNat) prt_x0).dev) f_c0 f_c1 s) fun r9 =>
  Option.bind (parityvol_Volume_on_1 r9.1 v i s) fun r11 =>
  some (r11.1, r11.2, r9.2)
theorem L_parityvol_Volume_on__parityvol_Volume_others_1 {W : World} {bv : Nat} {bf_c0 : Nat} {bf_c1 : Nat} {bs : Nat} {v : VolS} {i : Int} {f_c0 : Int} {f_c1 : UInt64} {s : ArrS} {r : Int × VolS × UInt64} (h : parityvol_Volume_on__parityvol_Volume_others_1 v i f_c0 f_c1 s = some r) :
    CSpec Tryz.prog W 78 [ptr bv 0, .int .i64 i, .func (.func 112) #[] #[ptr bf_c0 0, ptr bf_c1 0]] [VolP bs bv v, blk bf_c0 3 [.int .i64 f_c0], blk bf_c1 44 [.int .u64 (f_c1.toNat : Int)], Arr bs s] (fun x : Unit => .int .i64 r.1) (fun _ => True) (fun x F => VolP bs bv r.2.1 :: blk bf_c0 3 [.int .i64 f_c0] :: blk bf_c1 44 [.int .u64 (r.2.2.toNat : Int)] :: Arr bs s :: F) := by
  refine CSpec.of_bodyM Tryz.func78 rfl Tryz.ntmps78 rfl (fun F => ?_)
  show CJ _ _ _ _ _ _ (_ :: _ :: _ :: _ :: F)
  unfold parityvol_Volume_on__parityvol_Volume_others_1 at h
  refine CJ_seq ?_
  refine CJ_region ?_
  refine RJ_op rfl (O_box rfl rfl rfl (fun b1 => ?_))
  refine RJ_op rfl (O_box rfl rfl rfl (fun b2 => ?_))
  refine RJ_op rfl (O_alloc Tryz.zeroValue40 rfl rfl (fun b3 => ?_))
  refine RJ_nil ?_
  refine QJ_then ?_
  refine CJ_seq ?_
  refine CJ_region ?_
  refine RJ_op rfl (OJ_P (P_makeFunc rfl rfl) rfl ?_)
  refine RJ_defer rfl rfl ?_
  refine RJ_nil ?_
  refine QJ_then ?_
  refine CJ_seq ?_
  refine CJ_entX (Ent.transX (Ent.take del3 Ent.refl) (VolP_open (l := v))) (fun oc4 => ?_)
  refine CJ_pure (fun h hh => Rs_len (stars_perm (del2 (A := Rs (DevP bs) (v.legs.map prtS.dev) oc4.2)).out h hh)) (fun hdl6 => ?_)
  refine CJ_pure (len_of (Reads.sl _ _ _) del1) (fun hlen7 => ?_)
  rw [mk_prt_len (by have := hdl6; simpa using this)] at hlen7
  refine AJ_startH 1536 (by kernel_rfl) rfl ?_
  refine AJ_takeP 0 1 rfl (by kernel_rfl) rfl (GY_none rfl) (P_move rfl) rfl (fun _ _ _ _ h => h) ?_
  refine AJ_takeV 1 3 rfl (by kernel_rfl) rfl (by kernel_rfl) (by kernel_rfl) (GY_none rfl) Ent.refl (V_load rfl foc5 rfl Tryz.isAgg65) rfl (fun _ _ _ _ h => h) ?_
  refine AJ_takeP 2 7 rfl (by kernel_rfl) rfl (GY_none rfl) (P_nilCheck rfl) rfl (fun _ _ _ _ h => h) ?_
  refine AJ_takeP 3 15 rfl (by kernel_rfl) rfl (GY_none rfl) (P_fieldAddr rfl ⟨_, _, _, Tryz.runUnderlying123, rfl, rfl, Tryz.sizeOf119, rfl⟩) rfl (fun _ _ _ _ h => h) ?_
  refine AJ_takeV 4 31 rfl (by kernel_rfl) rfl (by kernel_rfl) (by kernel_rfl) (GY_none rfl) Ent.refl (V_load rfl foc0 rfl Tryz.isAgg119) rfl (fun _ _ _ _ h => h) ?_
  refine AJ_takeV 5 63 rfl (by kernel_rfl) rfl (by kernel_rfl) (by kernel_rfl) (GY_none rfl) Ent.refl (V_load rfl foc4 rfl Tryz.isAgg3) rfl (fun _ _ _ _ h => h) ?_
  obtain ⟨hg1, h⟩ := grd_de h
  refine AJ_takeV 6 127 rfl (by kernel_rfl) rfl (by kernel_rfl) (by kernel_rfl) (GY_none rfl) Ent.refl (V_index (i := (i).toNat) rfl rfl (Int.toNat_of_nonneg (hg1.1)).symm (show (i).toNat < (mk_prt v.legs oc4.2).length by rw [mk_prt_len (by have := hdl6; simpa using this)]; exact (by omega)) foc1 (Reads.sl _ _ _) Tryz.runUnderlying119 Tryz.sizeOf126) rfl (fun _ _ _ _ h => h) ?_
  refine AJ_takeP 7 255 rfl (by kernel_rfl) rfl (GY_none rfl) (P_fieldE rfl ⟨_, _, _, Tryz.runUnderlying126, rfl, rfl, Tryz.sizeOf79, rfl⟩) rfl (fun _ _ _ _ h => h) ?_
  refine AJ_ent (Ent.trans (Ent.take del2 Ent.refl) (mk_prt_rs (i := (i).toNat) (by omega))) ?_
  refine AJ_takeV 8 511 rfl (by kernel_rfl) rfl (by kernel_rfl) (by kernel_rfl) (GY_none rfl) (Ent.take del2 (Ent.take del2 (Ent.take del1 (Ent.take del1 (Ent.take del1 (Ent.take del1 (Ent.take del1 (Ent.take del1 (Ent.take del1 (Ent.drop Ent.refl)))))))))) (VJ_eq (V_loadE rfl rfl (show (i).toNat < (mk_prt v.legs oc4.2).length by rw [mk_prt_len (by have := hdl6; simpa using this)]; exact (by omega)) foc1 (Reads.sl _ _ _) rfl rfl Tryz.isAgg79) (show (IfH.v ((oc4.2.getD ((i).toNat) tyDev.dflt)) : Value) = IfH.v ((mk_prt v.legs oc4.2).getD ((i).toNat) prt_h0).dev from by rw [mk_prt_at (by have := hdl6; simpa using this)])) rfl (fun _ _ _ _ h => h) ?_
  obtain ⟨r9, hr10, h⟩ := bind_e h
  refine AJ_op 9 1023 rfl (by kernel_rfl) rfl (GY_none rfl) (O_callV rfl rfl (L_parityvol_Volume_others_1 hr10) Tryz.call112 (Dels.cons del0 (Dels.cons del6 (Dels.cons del6 (Dels.cons del6 Dels.nil)))) rfl (fun _ _ => ?_))
  refine ⟨fun h => absurd h (by decide), ?_⟩
  refine AJ_op 10 2047 rfl (by kernel_rfl) rfl (GY_none rfl) (O_store rfl rfl foc7 rfl rfl Tryz.sizeOf40 ?_)
  refine ⟨fun h => absurd h (by decide), ?_⟩
  refine AJ_done (by kernel_rfl) ?_
  refine QJ_ent (Ent.trans (Ent.take del5 (Ent.take del5 (Ent.take del4 Ent.refl))) (VolP_mk (v0 := v.layout_n) (v1 := v.layout_chunk) (v2 := v.layout_rows) (v3 := v.legs) (v4 := v.last_seq) (v5 := v.last_offset) (v6 := v.last_leg) (v7 := v.last_word) (v8 := v.last_parity) (v9 := v.pending) (v10 := v.filled) (h0 := oc4.1) (h1 := oc4.2))) ?_
  refine QJ_ent (Ent.take del0 (Ent.take del1 (Ent.take del1 (Ent.take del1 (Ent.take del1 (Ent.take del1 (Ent.take del1 (Ent.drop Ent.refl)))))))) ?_
  refine QJ_then ?_
  refine CJ_ret ?_
  obtain ⟨r11, hr12, h⟩ := bind_e h
  have hE := Option.some.inj h
  subst hE
  refine QJ_endD1 (.inl rfl) Tryz.call114 (Ent.take del4 (Ent.take del5 (Ent.take del0 (Ent.take del3 (Ent.take del2 Ent.refl))))) (LD_parityvol_Volume_on_1 hr12) (resA1 Tryz.results78 (RV_cell rfl foc0 rfl Tryz.isAgg40)) ?_
  refine CSpec.close () ?_ ?_ (Ent.take del2 (Ent.take del4 (Ent.take del4 (Ent.take del3 (Ent.drop (Ent.drop (Ent.drop Ent.refl)))))))
  · rfl
  · trivial
def parityvol_Volume_others_l1_b (v : VolS) (leg : Int) (offset : Int) (notes : Bool) (s : ArrS) (rec : VolS → (List UInt64) → Nat → Option (((List UInt64) × VolS) ⊕ (UInt64 × Int × VolS))) (x14 : VolS) (x15 : List UInt64) (x17 : Nat) : Option (((List UInt64) × VolS) ⊕ (UInt64 × Int × VolS)) :=
  if (((x17 : Nat) : Int) < ((v.legs.length : Nat) : Int)) then
    if (((x17 : Nat) : Int) = leg) then
      rec x14 x15 (x17 + 1)
    else
      if notes = true then
        Option.bind (parityvol_Volume_on__parityvol_Volume_others_1 x14 (((x17 : Nat) : Int)) offset (0 : UInt64) s) fun r20 =>
        if (r20.1 ≠ (0 : Int)) then
          some (.inr (((0 : UInt64), r20.1, r20.2.1)))
        else
          grd (inLen (x15.length + 1)) <|
          rec r20.2.1 (x15 ++ [r20.2.2]) (x17 + 1)
      else
        grd (decide (x17 < x14.legs.length)) <|
        Option.bind (parityvol_Volume_others_1 ((x14.legs.getD x17 prt_x0).dev) offset (0 : UInt64) s) fun r31 =>
        if (r31.1 ≠ (0 : Int)) then
          some (.inr (((0 : UInt64), r31.1, x14)))
        else
          grd (inLen (x15.length + 1)) <|
          rec x14 (x15 ++ [r31.2]) (x17 + 1)
  else
    some (.inl (x15, x14))
def parityvol_Volume_others_l1 (v : VolS) (leg : Int) (offset : Int) (notes : Bool) (s : ArrS) : Nat → VolS → (List UInt64) → Nat → Option (((List UInt64) × VolS) ⊕ (UInt64 × Int × VolS))
  | 0, _, _, _ => none
  | n + 1, x14, x15, x17 => parityvol_Volume_others_l1_b v leg offset notes s (parityvol_Volume_others_l1 v leg offset notes s n) x14 x15 x17
def parityvol_Volume_others (v : VolS) (leg : Int) (offset : Int) (notes : Bool) (s : ArrS) : Option (UInt64 × Int × VolS) :=
  seqO (parityvol_Volume_others_l1 v leg offset notes s FUEL v ([]) 0) fun a13 =>
  Option.bind (parity_Xor a13.1) fun r39 =>
  some ((r39, (0 : Int), a13.2))
theorem L_parityvol_Volume_others {W : World} {bv : Nat} {bs : Nat} {v : VolS} {leg : Int} {offset : Int} {notes : Bool} {s : ArrS} {r : UInt64 × Int × VolS} (h : parityvol_Volume_others v leg offset notes s = some r) :
    CSpec Tryz.prog W 77 [ptr bv 0, .int .i64 leg, .int .i64 offset, .bool notes] [VolP bs bv v, Arr bs s] (fun x : Unit => .tuple #[.int .u64 (r.1.toNat : Int), .int .i64 r.2.1]) (fun _ => True) (fun x F => VolP bs bv r.2.2 :: Arr bs s :: F) := by
 refine CSpec.of_body Tryz.func77 rfl Tryz.ntmps77 rfl fun F => ?_
 show CJ _ _ _ _ _ _ (_ :: _ :: F)
 unfold parityvol_Volume_others at h
 refine sR <| oO <| O_box rfl rfl rfl fun b1 => oA rfl rfl <| oA rfl rfl <| nT <| sR <| oA rfl rfl <| nT <| CJ_seq <| CJ_seq <| CJ_entX (Ent.transX (t1_ eR) (VolP_open (l := v))) fun oc2 => CJ_pure (fun h hh => Rs_len (stars_perm (del2 (A := Rs (DevP bs) (v.legs.map prtS.dev) oc2.2)).out h hh)) fun hdl4 => lC del1 fun hlen5 => ?_
 rw [mk_prt_len (by have := hdl4; simpa using this)] at hlen5
 refine CJ_region <| oM rfl rfl <| oP (P_nilCheck rfl) rfl <| oP (P_fieldAddr rfl ⟨_, _, _, Tryz.runUnderlying123, rfl, rfl, Tryz.sizeOf119, rfl⟩) rfl <| oV (V_load rfl foc0 rfl Tryz.isAgg119) rfl <| oV (VJ_eq (V_len rfl foc1 (Reads.sl _ _ _) Tryz.runUnderlying119) (congrArg (fun z : Nat => Value.int .i64 (z : Int)) (mk_prt_len (by have := hdl4; simpa using this)).symm)) rfl <| oM rfl rfl <| RJ_nil <| QJ_ent (Ent.trans eR (VolP_mk (v0 := v.layout_n) (v1 := v.layout_chunk) (v2 := v.layout_rows) (v3 := v.legs) (v4 := v.last_seq) (v5 := v.last_offset) (v6 := v.last_leg) (v7 := v.last_word) (v8 := v.last_parity) (v9 := v.pending) (v10 := v.filled) (h0 := oc2.1) (h1 := oc2.2))) <| QJ_then <| CJ_ent (fun h hh => sl_nil (t := tyU) h hh) ?_
 obtain ⟨y9, hl7, hK8⟩ := seq_e h
 refine CJ_cutT (X := ((List UInt64) × VolS) × Sl3) [8, 9, 10, 11, 12, 13, 14, 20, 21, 22, 23, 24, 25, 26, 27, 28, 29, 30, 31, 32, 33, 34, 35, 36, 37, 38, 39, 40, 41, 42, 43, 44, 45, 46, 47, 48, 49] (fun ⟨a13, hd11⟩ => ([(10, hd11.v)] : Slots)) (fun ⟨a13, hd11⟩ R => sl tyU hd11.v a13.1 :: VolP bs bv a13.2 :: R) (fun ⟨a13, hd11⟩ => y9 = .inl a13) (Dels.cons del0 (Dels.cons del0 Dels.nil)) ?_ ?_
 ·
  refine CJ_block <| CJ_loopR (X := Nat × VolS × (List UInt64) × Nat × Sl3) [8, 9, 10, 11, 12, 13, 14, 20, 21, 22, 23, 24, 25, 26, 27, 28, 29, 30, 31, 32, 33, 34, 35, 36, 37, 38, 39, 40, 41, 42, 43, 44, 45, 46, 47, 48, 49] (fun ⟨n, x14, x15, x17, hd16⟩ => ([(10, hd16.v), (20, .int .i64 (((x17 : Nat) : Int)))] : Slots)) (fun ⟨n, x14, x15, x17, hd16⟩ R => VolP bs bv x14 :: sl tyU hd16.v x15 :: R) (fun ⟨n, x14, x15, x17, hd16⟩ => parityvol_Volume_others_l1 v leg offset notes s n x14 x15 x17 = some y9) (fun ⟨n, x14, x15, x17, hd16⟩ => n) ⟨FUEL, v, [], 0, ⟨none, 0, 0⟩⟩ ?_ ?_ (t1_ eR) ?_
  · exact hl7
  · exact ⟨rfl, rfl, True.intro⟩
  ·
   rintro ⟨n, x14, x15, x17, hd16⟩ h
   cases n with
   | zero => exact none_e h
   | succ n => ?_
   replace h : parityvol_Volume_others_l1_b v leg offset notes s (parityvol_Volume_others_l1 v leg offset notes s n) x14 x15 x17 = some y9 := h
   unfold parityvol_Volume_others_l1_b at h
   show CJ _ _ _ _ _ (([(10, hd16.v), (20, .int .i64 (((x17 : Nat) : Int)))] : Slots) ++ forget _ _) (VolP bs bv x14 :: sl tyU hd16.v x15 :: _)
   refine lC del1 fun hlen18 => sR <| oP (P_lss (a := ((x17 : Nat) : Int)) (b := ((v.legs.length : Nat) : Int)) rfl rfl) rfl <| nT <| CJ_seq <| CJ_condP rfl bT_dec (fun hg1 => ?_) (fun hg1 => ?_)
   ·
    replace h := ite_t hg1 h
    refine kT <| CJ_seq <| CJ_block <| sR <| oM rfl rfl <| oA rfl rfl <| nT <| CJ_seq <| sR <| oM rfl rfl <| oM rfl rfl <| oP (P_eql (a := ((x17 : Nat) : Int)) (b := leg) rfl rfl) rfl <| nT <| CJ_condP rfl bT_dec (fun hg2 => ?_) (fun hg2 => ?_)
    ·
     replace h := ite_t hg2 h
     exact CJ_exit <| QJ_then_exit <| QJ_block_here <| QJ_then <| CJ_region <| oP (PJ_eq (P_add (a := ((x17 : Nat) : Int)) (b := (1 : Int)) rfl rfl (by omega)) rfl) rfl <| oM rfl rfl <| RJ_nil <| nR ⟨n, x14, x15, (x17 + 1), hd16⟩ h ⟨rfl, rfl, True.intro⟩ eR
    ·
     replace h := ite_f hg2 h
     refine kT <| sR <| oO <| O_alloc Tryz.zeroValue44 rfl rfl fun b19 => nT <| sR <| oP (P_makeFunc rfl rfl) rfl <| oA rfl rfl <| nT <| sR <| oA rfl rfl <| nT <| CJ_seq <| sR <| oM rfl rfl <| nT <| CJ_condP rfl Iff.rfl (fun hg3 => ?_) (fun hg3 => ?_)
     ·
      replace h := ite_t hg3 h
      refine CJ_region <| oM rfl rfl <| oM rfl rfl <| oM rfl rfl ?_
      obtain ⟨r20, hr21, h⟩ := bind_e h
      refine oO <| O_call (L_parityvol_Volume_on__parityvol_Volume_others_1 hr21) rfl Tryz.call78 (Dels.cons del1 (Dels.cons del2 (Dels.cons del0 (Dels.cons del1 Dels.nil)))) rfl fun _ _ => oA rfl rfl <| nT <| CJ_seq <| sR <| oM rfl rfl <| oP (P_neq (a := r20.1) (b := (0 : Int)) rfl rfl) rfl <| nT <| CJ_condP rfl bT_dec (fun hg4 => ?_) (fun hg4 => ?_)
      ·
       replace h := ite_t hg4 h
       refine sR <| oM rfl rfl <| oA rfl rfl <| oA rfl rfl <| nT <| CJ_ret <| QJ_then_ret <| QJ_block_ret <| QJ_then_ret <| QJ_round_ret <| QJ_block_ret <| QJ_then_ret ?_
       have hE := Option.some.inj h
       replace hE := seq_inr hK8 hE.symm
       subst hE
       exact fE (res2 Tryz.results77 rfl rfl) () (t0_ (t2_ (eD (eD (eD eR)))))
      ·
       replace h := ite_f hg4 h
       refine kT <| CJ_region <| oM rfl rfl <| oV (V_load rfl foc2 rfl Tryz.isAgg44) rfl <| oO <| O_buildSlice rfl (bs_43_1_0 _) rfl fun b22 => ?_
       obtain ⟨hg5, h⟩ := grd_Le h
       exact oO <| O_append (t := tyU) (bytes := 8) rfl rfl del5 foc0 (Reads.lit (t := tyU) (ys := [r20.2.2]) rfl rfl (by decide) (by decide) rfl) Tryz.underlying43 ok_tyU (apl (m := 1) (b := 8) hg5 (by decide)).1 (apl (m := 1) (b := 8) hg5 (by decide)).2 rfl fun p24 c25 => oA rfl rfl <| RJ_nil <| QJ_block_normal <| QJ_then <| CJ_region <| oP (PJ_eq (P_add (a := ((x17 : Nat) : Int)) (b := (1 : Int)) rfl rfl (by omega)) rfl) rfl <| oM rfl rfl <| RJ_nil <| nR ⟨n, r20.2.1, (x15 ++ [r20.2.2]), (x17 + 1), ⟨p24, (x15 ++ [r20.2.2]).length, c25⟩⟩ h ⟨rfl, rfl, True.intro⟩ (t2_ (t0_ (t1_ (t2_ (eD (eD eR))))))
     ·
      replace h := ite_f hg3 h
      refine CJ_entX (Ent.transX (t1_ eR) (VolP_open (l := x14))) fun oc26 => CJ_pure (fun h hh => Rs_len (stars_perm (del2 (A := Rs (DevP bs) (x14.legs.map prtS.dev) oc26.2)).out h hh)) fun hdl28 => lC del1 fun hlen29 => ?_
      rw [mk_prt_len (by have := hdl28; simpa using this)] at hlen29
      refine CJ_region <| oM rfl rfl <| oM rfl rfl <| oP (P_nilCheck rfl) rfl <| oP (P_fieldAddr rfl ⟨_, _, _, Tryz.runUnderlying123, rfl, rfl, Tryz.sizeOf119, rfl⟩) rfl <| oV (V_load rfl foc0 rfl Tryz.isAgg119) rfl <| oM rfl rfl ?_
      obtain ⟨hg6, h⟩ := grd_de h
      refine oV (V_index (i := x17) rfl rfl rfl (show x17 < (mk_prt x14.legs oc26.2).length by rw [mk_prt_len (by have := hdl28; simpa using this)]; exact hg6) foc1 (Reads.sl _ _ _) Tryz.runUnderlying119 Tryz.sizeOf126) rfl <| oP (P_fieldE rfl ⟨_, _, _, Tryz.runUnderlying126, rfl, rfl, Tryz.sizeOf79, rfl⟩) rfl <| RJ_ent (Ent.trans (t2_ eR) (mk_prt_rs (i := x17) hg6)) <| oV (VJ_eq (V_loadE rfl rfl (show x17 < (mk_prt x14.legs oc26.2).length by rw [mk_prt_len (by have := hdl28; simpa using this)]; exact hg6) foc3 (Reads.sl _ _ _) rfl rfl Tryz.isAgg79) (show (IfH.v (oc26.2.getD x17 tyDev.dflt) : Value) = IfH.v ((mk_prt x14.legs oc26.2).getD x17 prt_h0).dev from by rw [mk_prt_at (by have := hdl28; simpa using this)])) rfl ?_
      obtain ⟨r31, hr32, h⟩ := bind_e h
      refine oO <| O_callV rfl rfl (L_parityvol_Volume_others_1 hr32) Tryz.call112 (Dels.cons del0 (Dels.cons del5 (Dels.cons del3 (Dels.cons del4 Dels.nil)))) rfl fun _ _ => oA rfl rfl <| RJ_nil <| QJ_ent (Ent.trans (t5_ (t5_ (t4_ eR))) (VolP_mk (v0 := x14.layout_n) (v1 := x14.layout_chunk) (v2 := x14.layout_rows) (v3 := x14.legs) (v4 := x14.last_seq) (v5 := x14.last_offset) (v6 := x14.last_leg) (v7 := x14.last_word) (v8 := x14.last_parity) (v9 := x14.pending) (v10 := x14.filled) (h0 := oc26.1) (h1 := oc26.2))) <| QJ_then <| CJ_seq <| sR <| oM rfl rfl <| oP (P_neq (a := r31.1) (b := (0 : Int)) rfl rfl) rfl <| nT <| CJ_condP rfl bT_dec (fun hg7 => ?_) (fun hg7 => ?_)
      ·
       replace h := ite_t hg7 h
       refine sR <| oM rfl rfl <| oA rfl rfl <| oA rfl rfl <| nT <| CJ_ret <| QJ_then_ret <| QJ_block_ret <| QJ_then_ret <| QJ_round_ret <| QJ_block_ret <| QJ_then_ret ?_
       have hE := Option.some.inj h
       replace hE := seq_inr hK8 hE.symm
       subst hE
       exact fE (res2 Tryz.results77 rfl rfl) () (t0_ (t3_ (eD (eD (eD (eD eR))))))
      ·
       replace h := ite_f hg7 h
       refine kT <| CJ_region <| oM rfl rfl <| oV (V_load rfl foc3 rfl Tryz.isAgg44) rfl <| oO <| O_buildSlice rfl (bs_43_1_0 _) rfl fun b33 => ?_
       obtain ⟨hg8, h⟩ := grd_Le h
       exact oO <| O_append (t := tyU) (bytes := 8) rfl rfl del6 foc0 (Reads.lit (t := tyU) (ys := [r31.2]) rfl rfl (by decide) (by decide) rfl) Tryz.underlying43 ok_tyU (apl (m := 1) (b := 8) hg8 (by decide)).1 (apl (m := 1) (b := 8) hg8 (by decide)).2 rfl fun p35 c36 => oA rfl rfl <| RJ_nil <| QJ_block_normal <| QJ_ent (t0_ (t1_ (t2_ (t3_ (eD (eD (eD eR))))))) <| QJ_then <| CJ_region <| oP (PJ_eq (P_add (a := ((x17 : Nat) : Int)) (b := (1 : Int)) rfl rfl (by omega)) rfl) rfl <| oM rfl rfl <| RJ_nil <| nR ⟨n, x14, (x15 ++ [r31.2]), (x17 + 1), ⟨p35, (x15 ++ [r31.2]).length, c36⟩⟩ h ⟨rfl, rfl, True.intro⟩ (t1_ eR)
   ·
    replace h := ite_f hg1 h
    exact CJ_exit <| QJ_then_exit <| QJ_round_exit <| QJ_block_here <| cR ⟨(x15, x14), hd16⟩ (Option.some.inj h).symm ⟨rfl, True.intro⟩ (t1_ eR)
 ·
  rintro ⟨a13, hd11⟩ hy37
  replace h := seq_inl hK8 hy37
  show CJ _ _ _ _ _ (([(10, hd11.v)] : Slots) ++ forget _ _) (sl tyU hd11.v a13.1 :: VolP bs bv a13.2 :: _)
  refine lC del0 fun hlen38 => sR <| oM rfl rfl ?_
  obtain ⟨r39, hr40, h⟩ := bind_e h
  refine oO <| O_call (L_parity_Xor (Reads.sl _ _ _) hr40) rfl Tryz.call113 (Dels.cons del0 Dels.nil) rfl fun _ _ => oA rfl rfl <| oA rfl rfl <| nT <| CJ_ret ?_
  cases h
  exact fE (res2 Tryz.results77 rfl rfl) () (t1_ (t2_ (eD (eD eR))))
def parityvol_Volume_word_1 (x_0 : Dvc) (e_1 : Int) (sum : UInt64) (other_v : VolS) (p4 : Int) (p5 : Bool) (s : ArrS) : Option (Int × UInt64 × VolS × Bool) :=
  grd (inI64 (((16 : Int) + e_1))) <|
  Option.bind (Dvc.rd x_0 s (((16 : Int) + e_1))) fun r2 =>
  if (r2.2 = (7 : Int)) then
    Option.bind (parityvol_Volume_staleLeg other_v s) fun r4 =>
    if (r4 < (0 : Int)) then
      Option.bind (parityvol_Volume_others other_v p4 e_1 false s) fun r6 =>
      if ((r6.2.1 = (0 : Int)) ∨ (r6.2.1 = (5 : Int))) then
        some (r6.2.1, r6.1, r6.2.2, true)
      else
        some (r2.2, r2.1, r6.2.2, p5)
    else
      some (r2.2, r2.1, other_v, p5)
  else
    some (r2.2, r2.1, other_v, p5)
theorem L_parityvol_Volume_word_1 {W : World} {vx_0 : IfH} {be_1 : Nat} {bsum : Nat} {bother : Nat} {bother_v : Nat} {bp4 : Nat} {bp5 : Nat} {bs : Nat} {x_0 : Dvc} {e_1 : Int} {sum : UInt64} {other_v : VolS} {p4 : Int} {p5 : Bool} {s : ArrS} {r : Int × UInt64 × VolS × Bool} (h : parityvol_Volume_word_1 x_0 e_1 sum other_v p4 p5 s = some r) :
    CSpec Tryz.prog W 109 [IfH.v vx_0, ptr be_1 0, ptr bsum 0, ptr bother 0, ptr bp4 0, ptr bp5 0] [DevP bs x_0 vx_0, blk be_1 3 [.int .i64 e_1], blk bsum 44 [.int .u64 (sum.toNat : Int)], blk bother 65 [ptr bother_v 0], VolP bs bother_v other_v, blk bp4 3 [.int .i64 p4], blk bp5 4 [.bool p5], Arr bs s] (fun x : Unit => .int .i64 r.1) (fun _ => True) (fun x F => DevP bs x_0 vx_0 :: blk be_1 3 [.int .i64 e_1] :: blk bsum 44 [.int .u64 (r.2.1.toNat : Int)] :: blk bother 65 [ptr bother_v 0] :: VolP bs bother_v r.2.2.1 :: blk bp4 3 [.int .i64 p4] :: blk bp5 4 [.bool r.2.2.2] :: Arr bs s :: F) := by
 refine CSpec.of_body Tryz.func109 rfl Tryz.ntmps109 rfl fun F => ?_
 show CJ _ _ _ _ _ _ (_ :: _ :: _ :: _ :: _ :: _ :: _ :: _ :: F)
 unfold parityvol_Volume_word_1 at h
 refine sR <| oA rfl rfl <| nT <| sR <| oM rfl rfl <| oV (V_load rfl foc1 rfl Tryz.isAgg3) rfl ?_
 obtain ⟨hg1, h⟩ := grd_Ie h
 refine oP (P_add (a := (16 : Int)) (b := e_1) rfl rfl hg1) rfl <| RJ_pure (fun h hh => DevP_dep h (stars_perm (del0 (A := DevP bs x_0 vx_0)).out h hh)) fun hdp1 => ?_
 obtain ⟨r2, hr3, h⟩ := bind_e h
 refine oO <| O_callI rfl (dev_Read hr3 hdp1) rfl (Dels.cons del0 (Dels.cons del6 Dels.nil)) rfl fun _ _ => oM rfl rfl <| oP (P_extract rfl rfl) rfl <| oP (P_extract rfl rfl) rfl <| oO <| O_store rfl rfl foc3 rfl rfl Tryz.sizeOf44 <| oA rfl rfl <| nT <| CJ_seq <| sR <| oM rfl rfl <| oP (P_eql (a := r2.2) (b := (7 : Int)) rfl rfl) rfl <| oM rfl rfl <| RJ_splitP 19 rfl bT_dec (fun hg2B hg2 => ?_) (fun hg2B hg2 => ?_)
 ·
  replace h := ite_t hg2 h
  refine gV (GY_yes rfl rfl rfl hg2B) (V_load rfl foc4 rfl Tryz.isAgg65) rfl ?_
  obtain ⟨r4, hr5, h⟩ := bind_e h
  refine RJ_gy (GY_yes rfl rfl rfl hg2B) <| O_call (L_parityvol_Volume_staleLeg hr5) rfl Tryz.call76 (Dels.cons del5 (Dels.cons del1 Dels.nil)) rfl fun _ _ => gP (GY_yes rfl rfl rfl hg2B) (P_lss (a := r4) (b := (0 : Int)) rfl rfl) rfl <| oP (P_pickT rfl hg2B rfl) rfl <| nT <| CJ_condP rfl bT_dec (fun hg3 => ?_) (fun hg3 => ?_)
  ·
   replace h := ite_t hg3 h
   refine sR <| oV (V_load rfl foc5 rfl Tryz.isAgg65) rfl <| oV (V_load rfl foc6 rfl Tryz.isAgg3) rfl <| oV (V_load rfl foc3 rfl Tryz.isAgg3) rfl ?_
   obtain ⟨r6, hr7, h⟩ := bind_e h
   refine oO <| O_call (L_parityvol_Volume_others hr7) rfl Tryz.call77 (Dels.cons del0 (Dels.cons del0 Dels.nil)) rfl fun _ _ => oM rfl rfl <| oP (P_extract rfl rfl) rfl <| oP (P_extract rfl rfl) rfl <| oA rfl rfl <| oA rfl rfl <| nT <| sR <| oM rfl rfl <| oP (P_eql (a := r6.2.1) (b := (0 : Int)) rfl rfl) rfl <| oM rfl rfl <| RJ_mbF rfl rfl rfl (fun hG8 => have hP9 : ¬ (r6.2.1 = (0 : Int)) := nP (bT_dec) hG8; VJ_P (P_move rfl)) <| RJ_mbF rfl rfl rfl (fun hG10 => have hP11 : ¬ (r6.2.1 = (0 : Int)) := nP (bT_dec) hG10; VJ_P (P_eql (a := r6.2.1) (b := (5 : Int)) (mbx hG10 rfl) rfl)) <| oP (P_pickOr rfl rfl (fun hh => mbx (not_f hh) rfl)) rfl <| nT <| CJ_condP rfl (bT_or bT_dec bT_dec) (fun hg4 => ?_) (fun hg4 => ?_)
   ·
    replace h := ite_t hg4 h
    refine CJ_region <| oM rfl rfl <| oM rfl rfl <| oO <| O_store rfl rfl foc4 rfl rfl Tryz.sizeOf44 <| oO <| O_store rfl rfl foc7 rfl rfl Tryz.sizeOf4 <| oA rfl rfl <| nT <| sR <| oM rfl rfl <| oA rfl rfl <| nT <| CJ_ret ?_
    cases h
    exact fE (res1 Tryz.results109 rfl) () (t2_ (t2_ (t2_ (t2_ (t0_ (t1_ (t1_ eR)))))))
   ·
    replace h := ite_f hg4 h
    refine kT <| sR <| oM rfl rfl <| oA rfl rfl <| nT <| CJ_ret ?_
    cases h
    exact fE (res1 Tryz.results109 rfl) () (t2_ (t2_ (t2_ (t2_ (t0_ (t1_ (t1_ eR)))))))
  ·
   replace h := ite_f hg3 h
   refine kT <| sR <| oM rfl rfl <| oA rfl rfl <| nT <| CJ_ret ?_
   cases h
   exact fE (res1 Tryz.results109 rfl) () (t2_ (t2_ (t2_ (t2_ (t0_ (t1_ (t1_ eR)))))))
 ·
  replace h := ite_f hg2 h
  refine RJ_gn (GY_no rfl rfl rfl hg2B) rfl rfl <| RJ_gn (GY_no rfl rfl rfl hg2B) rfl rfl <| RJ_gn (GY_no rfl rfl rfl hg2B) rfl rfl <| oP (P_pickF rfl hg2B rfl) rfl <| nT <| CJ_condF rfl rfl <| kT <| sR <| oM rfl rfl <| oA rfl rfl <| nT <| CJ_ret ?_
  cases h
  exact fE (res1 Tryz.results109 rfl) () (t0_ (t1_ (t1_ (t1_ (t1_ (t1_ (t1_ eR)))))))
def parityvol_Volume_on__parityvol_Volume_word_1 (v : VolS) (i : Int) (f_c0 : Int) (f_c1 : UInt64) (f_c3 : Int) (f_c4 : Bool) (s : ArrS) : Option (Int × VolS × UInt64 × Bool) :=
  grd (decide (0 ≤ i ∧ i < (v.legs.length : Int))) <|
  Option.bind (parityvol_Volume_word_1 ((v.legs.getD ((i).toNat) prt_x0).dev) f_c0 f_c1 v f_c3 f_c4 s) fun r9 =>
  Option.bind (parityvol_Volume_on_1 r9.1 r9.2.2.1 i s) fun r11 =>
  some (r11.1, r11.2, r9.2.1, r9.2.2.2)
theorem L_parityvol_Volume_on__parityvol_Volume_word_1 {W : World} {bv : Nat} {bf_c0 : Nat} {bf_c1 : Nat} {bf_c2 : Nat} {bf_c3 : Nat} {bf_c4 : Nat} {bs : Nat} {v : VolS} {i : Int} {f_c0 : Int} {f_c1 : UInt64} {f_c3 : Int} {f_c4 : Bool} {s : ArrS} {r : Int × VolS × UInt64 × Bool} (h : parityvol_Volume_on__parityvol_Volume_word_1 v i f_c0 f_c1 f_c3 f_c4 s = some r) :
    CSpec Tryz.prog W 78 [ptr bv 0, .int .i64 i, .func (.func 109) #[] #[ptr bf_c0 0, ptr bf_c1 0, ptr bf_c2 0, ptr bf_c3 0, ptr bf_c4 0]] [VolP bs bv v, blk bf_c0 3 [.int .i64 f_c0], blk bf_c1 44 [.int .u64 (f_c1.toNat : Int)], blk bf_c2 65 [ptr bv 0], blk bf_c3 3 [.int .i64 f_c3], blk bf_c4 4 [.bool f_c4], Arr bs s] (fun x : Unit => .int .i64 r.1) (fun _ => True) (fun x F => VolP bs bv r.2.1 :: blk bf_c0 3 [.int .i64 f_c0] :: blk bf_c1 44 [.int .u64 (r.2.2.1.toNat : Int)] :: blk bf_c2 65 [ptr bv 0] :: blk bf_c3 3 [.int .i64 f_c3] :: blk bf_c4 4 [.bool r.2.2.2] :: Arr bs s :: F) := by
  refine CSpec.of_bodyM Tryz.func78 rfl Tryz.ntmps78 rfl (fun F => ?_)
  show CJ _ _ _ _ _ _ (_ :: _ :: _ :: _ :: _ :: _ :: _ :: F)
  unfold parityvol_Volume_on__parityvol_Volume_word_1 at h
  refine CJ_seq ?_
  refine CJ_region ?_
  refine RJ_op rfl (O_box rfl rfl rfl (fun b1 => ?_))
  refine RJ_op rfl (O_box rfl rfl rfl (fun b2 => ?_))
  refine RJ_op rfl (O_alloc Tryz.zeroValue40 rfl rfl (fun b3 => ?_))
  refine RJ_nil ?_
  refine QJ_then ?_
  refine CJ_seq ?_
  refine CJ_region ?_
  refine RJ_op rfl (OJ_P (P_makeFunc rfl rfl) rfl ?_)
  refine RJ_defer rfl rfl ?_
  refine RJ_nil ?_
  refine QJ_then ?_
  refine CJ_seq ?_
  refine CJ_entX (Ent.transX (Ent.take del3 Ent.refl) (VolP_open (l := v))) (fun oc4 => ?_)
  refine CJ_pure (fun h hh => Rs_len (stars_perm (del2 (A := Rs (DevP bs) (v.legs.map prtS.dev) oc4.2)).out h hh)) (fun hdl6 => ?_)
  refine CJ_pure (len_of (Reads.sl _ _ _) del1) (fun hlen7 => ?_)
  rw [mk_prt_len (by have := hdl6; simpa using this)] at hlen7
  refine AJ_startH 1536 (by kernel_rfl) rfl ?_
  refine AJ_takeP 0 1 rfl (by kernel_rfl) rfl (GY_none rfl) (P_move rfl) rfl (fun _ _ _ _ h => h) ?_
  refine AJ_takeV 1 3 rfl (by kernel_rfl) rfl (by kernel_rfl) (by kernel_rfl) (GY_none rfl) Ent.refl (V_load rfl foc5 rfl Tryz.isAgg65) rfl (fun _ _ _ _ h => h) ?_
  refine AJ_takeP 2 7 rfl (by kernel_rfl) rfl (GY_none rfl) (P_nilCheck rfl) rfl (fun _ _ _ _ h => h) ?_
  refine AJ_takeP 3 15 rfl (by kernel_rfl) rfl (GY_none rfl) (P_fieldAddr rfl ⟨_, _, _, Tryz.runUnderlying123, rfl, rfl, Tryz.sizeOf119, rfl⟩) rfl (fun _ _ _ _ h => h) ?_
  refine AJ_takeV 4 31 rfl (by kernel_rfl) rfl (by kernel_rfl) (by kernel_rfl) (GY_none rfl) Ent.refl (V_load rfl foc0 rfl Tryz.isAgg119) rfl (fun _ _ _ _ h => h) ?_
  refine AJ_takeV 5 63 rfl (by kernel_rfl) rfl (by kernel_rfl) (by kernel_rfl) (GY_none rfl) Ent.refl (V_load rfl foc4 rfl Tryz.isAgg3) rfl (fun _ _ _ _ h => h) ?_
  obtain ⟨hg1, h⟩ := grd_de h
  refine AJ_takeV 6 127 rfl (by kernel_rfl) rfl (by kernel_rfl) (by kernel_rfl) (GY_none rfl) Ent.refl (V_index (i := (i).toNat) rfl rfl (Int.toNat_of_nonneg (hg1.1)).symm (show (i).toNat < (mk_prt v.legs oc4.2).length by rw [mk_prt_len (by have := hdl6; simpa using this)]; exact (by omega)) foc1 (Reads.sl _ _ _) Tryz.runUnderlying119 Tryz.sizeOf126) rfl (fun _ _ _ _ h => h) ?_
  refine AJ_takeP 7 255 rfl (by kernel_rfl) rfl (GY_none rfl) (P_fieldE rfl ⟨_, _, _, Tryz.runUnderlying126, rfl, rfl, Tryz.sizeOf79, rfl⟩) rfl (fun _ _ _ _ h => h) ?_
  refine AJ_ent (Ent.trans (Ent.take del2 Ent.refl) (mk_prt_rs (i := (i).toNat) (by omega))) ?_
  refine AJ_takeV 8 511 rfl (by kernel_rfl) rfl (by kernel_rfl) (by kernel_rfl) (GY_none rfl) (Ent.take del2 (Ent.take del2 (Ent.take del1 (Ent.take del1 (Ent.take del1 (Ent.take del1 (Ent.take del1 (Ent.take del1 (Ent.take del1 (Ent.take del1 (Ent.take del1 (Ent.take del1 (Ent.drop Ent.refl))))))))))))) (VJ_eq (V_loadE rfl rfl (show (i).toNat < (mk_prt v.legs oc4.2).length by rw [mk_prt_len (by have := hdl6; simpa using this)]; exact (by omega)) foc1 (Reads.sl _ _ _) rfl rfl Tryz.isAgg79) (show (IfH.v ((oc4.2.getD ((i).toNat) tyDev.dflt)) : Value) = IfH.v ((mk_prt v.legs oc4.2).getD ((i).toNat) prt_h0).dev from by rw [mk_prt_at (by have := hdl6; simpa using this)])) rfl (fun _ _ _ _ h => h) ?_
  refine AJ_ent (Ent.trans (Ent.take del2 (Ent.take del2 (Ent.take del1 Ent.refl))) (VolP_mk (v0 := v.layout_n) (v1 := v.layout_chunk) (v2 := v.layout_rows) (v3 := v.legs) (v4 := v.last_seq) (v5 := v.last_offset) (v6 := v.last_leg) (v7 := v.last_word) (v8 := v.last_parity) (v9 := v.pending) (v10 := v.filled) (h0 := oc4.1) (h1 := oc4.2))) ?_
  obtain ⟨r9, hr10, h⟩ := bind_e h
  refine AJ_op 9 1023 rfl (by kernel_rfl) rfl (GY_none rfl) (O_callV rfl rfl (L_parityvol_Volume_word_1 hr10) Tryz.call109 (Dels.cons del1 (Dels.cons del4 (Dels.cons del4 (Dels.cons del4 (Dels.cons del0 (Dels.cons del3 (Dels.cons del3 (Dels.cons del3 Dels.nil)))))))) rfl (fun _ _ => ?_))
  refine ⟨fun h => absurd h (by decide), ?_⟩
  refine AJ_op 10 2047 rfl (by kernel_rfl) rfl (GY_none rfl) (O_store rfl rfl foc8 rfl rfl Tryz.sizeOf40 ?_)
  refine ⟨fun h => absurd h (by decide), ?_⟩
  refine AJ_done (by kernel_rfl) ?_
  refine QJ_ent (Ent.take del1 (Ent.take del1 (Ent.take del1 (Ent.take del1 (Ent.take del1 (Ent.take del1 (Ent.take del1 (Ent.take del1 (Ent.take del1 (Ent.take del1 (Ent.drop Ent.refl))))))))))) ?_
  refine QJ_then ?_
  refine CJ_ret ?_
  obtain ⟨r11, hr12, h⟩ := bind_e h
  have hE := Option.some.inj h
  subst hE
  refine QJ_endD1 (.inl rfl) Tryz.call114 (Ent.take del7 (Ent.take del8 (Ent.take del3 (Ent.take del6 (Ent.take del5 Ent.refl))))) (LD_parityvol_Volume_on_1 hr12) (resA1 Tryz.results78 (RV_cell rfl foc0 rfl Tryz.isAgg40)) ?_
  refine CSpec.close () ?_ ?_ (Ent.take del2 (Ent.take del4 (Ent.take del4 (Ent.take del4 (Ent.take del4 (Ent.take del4 (Ent.take del3 (Ent.drop (Ent.drop (Ent.drop Ent.refl))))))))))
  · rfl
  · trivial
def parityvol_Volume_word (v : VolS) (leg : Int) (offset : Int) (s : ArrS) : Option (UInt64 × Bool × Int × VolS) :=
  grd (decide (0 ≤ leg ∧ leg < (v.legs.length : Int))) <|
  if (v.legs.getD ((leg).toNat) prt_x0).stale = true then
    Option.bind (parityvol_Volume_others v leg offset true s) fun r10 =>
    some (r10.1, false, r10.2.1, r10.2.2)
  else
    Option.bind (parityvol_Volume_on__parityvol_Volume_word_1 v leg offset (0 : UInt64) leg false s) fun r12 =>
    some (r12.2.2.1, r12.2.2.2, r12.1, r12.2.1)
theorem L_parityvol_Volume_word {W : World} {bv : Nat} {bs : Nat} {v : VolS} {leg : Int} {offset : Int} {s : ArrS} {r : UInt64 × Bool × Int × VolS} (h : parityvol_Volume_word v leg offset s = some r) :
    CSpec Tryz.prog W 75 [ptr bv 0, .int .i64 leg, .int .i64 offset] [VolP bs bv v, Arr bs s] (fun x : Unit => .tuple #[.int .u64 (r.1.toNat : Int), .bool r.2.1, .int .i64 r.2.2.1]) (fun _ => True) (fun x F => VolP bs bv r.2.2.2 :: Arr bs s :: F) := by
 refine CSpec.of_body Tryz.func75 rfl Tryz.ntmps75 rfl fun F => ?_
 show CJ _ _ _ _ _ _ (_ :: _ :: F)
 unfold parityvol_Volume_word at h
 refine sR <| oO <| O_box rfl rfl rfl fun b1 => oO <| O_box rfl rfl rfl fun b2 => oO <| O_box rfl rfl rfl fun b3 => oO <| O_alloc Tryz.zeroValue44 rfl rfl fun b4 => oO <| O_alloc Tryz.zeroValue4 rfl rfl fun b5 => oA rfl rfl <| nT <| CJ_seq <| CJ_seq <| CJ_entX (Ent.transX (t5_ eR) (VolP_open (l := v))) fun oc6 => CJ_pure (fun h hh => Rs_len (stars_perm (del2 (A := Rs (DevP bs) (v.legs.map prtS.dev) oc6.2)).out h hh)) fun hdl8 => lC del1 fun hlen9 => ?_
 rw [mk_prt_len (by have := hdl8; simpa using this)] at hlen9
 refine AJ_startH 0 (by kernel_rfl) rfl <| aV 0 1 rfl rfl (GY_none rfl) eR (V_load rfl foc7 rfl Tryz.isAgg65) rfl <| aN 1 3 rfl rfl (P_nilCheck rfl) rfl <| aN 2 7 rfl rfl (P_fieldAddr rfl ⟨_, _, _, Tryz.runUnderlying123, rfl, rfl, Tryz.sizeOf119, rfl⟩) rfl <| aV 3 15 rfl rfl (GY_none rfl) eR (V_load rfl foc0 rfl Tryz.isAgg119) rfl <| aV 4 31 rfl rfl (GY_none rfl) eR (V_load rfl foc6 rfl Tryz.isAgg3) rfl ?_
 obtain ⟨hg1, h⟩ := grd_de h
 refine aV 5 63 rfl rfl (GY_none rfl) eR (V_index (i := (leg).toNat) rfl rfl (Int.toNat_of_nonneg (hg1.1)).symm (show (leg).toNat < (mk_prt v.legs oc6.2).length by rw [mk_prt_len (by have := hdl8; simpa using this)]; exact (by omega)) foc1 (Reads.sl _ _ _) Tryz.runUnderlying119 Tryz.sizeOf126) rfl <| aN 6 127 rfl rfl (P_fieldE rfl ⟨_, _, _, Tryz.runUnderlying126, rfl, rfl, Tryz.sizeOf4, rfl⟩) rfl <| aV 7 255 rfl rfl (GY_none rfl) eR (VJ_eq (V_loadE rfl rfl (show (leg).toNat < (mk_prt v.legs oc6.2).length by rw [mk_prt_len (by have := hdl8; simpa using this)]; exact (by omega)) foc1 (Reads.sl _ _ _) rfl rfl Tryz.isAgg4) (show (.bool ((v.legs.getD ((leg).toNat) prt_x0).stale) : Value) = .bool ((mk_prt v.legs oc6.2).getD ((leg).toNat) prt_h0).stale from by rw [mk_prt_at (by have := hdl8; simpa using this)])) rfl <| AJ_done (by kernel_rfl) <| QJ_ent (Ent.trans eR (VolP_mk (v0 := v.layout_n) (v1 := v.layout_chunk) (v2 := v.layout_rows) (v3 := v.legs) (v4 := v.last_seq) (v5 := v.last_offset) (v6 := v.last_leg) (v7 := v.last_word) (v8 := v.last_parity) (v9 := v.pending) (v10 := v.filled) (h0 := oc6.1) (h1 := oc6.2))) <| QJ_then <| CJ_condP rfl Iff.rfl (fun hg2 => ?_) (fun hg2 => ?_)
 ·
  replace h := ite_t hg2 h
  refine sR <| oV (V_load rfl foc5 rfl Tryz.isAgg65) rfl <| oV (V_load rfl foc4 rfl Tryz.isAgg3) rfl <| oV (V_load rfl foc3 rfl Tryz.isAgg3) rfl ?_
  obtain ⟨r10, hr11, h⟩ := bind_e h
  refine oO <| O_call (L_parityvol_Volume_others hr11) rfl Tryz.call77 (Dels.cons del0 (Dels.cons del5 Dels.nil)) rfl fun _ _ => oM rfl rfl <| oP (P_extract rfl rfl) rfl <| oP (P_extract rfl rfl) rfl <| oO <| O_store rfl rfl foc3 rfl rfl Tryz.sizeOf44 <| oA rfl rfl <| RJ_nil <| QJ_ent (t0_ (t0_ (t0_ (t0_ (eD (eD (eD eR))))))) <| QJ_then <| sR <| oV (V_load rfl foc3 rfl Tryz.isAgg44) rfl <| oM rfl rfl <| oO <| O_store rfl rfl foc3 rfl rfl Tryz.sizeOf44 <| oO <| O_store rfl rfl foc2 rfl rfl Tryz.sizeOf4 <| oA rfl rfl <| nT <| CJ_ret <| QJ_then_ret ?_
  cases h
  exact fE (resA3 Tryz.results75 (RV_cell rfl foc3 rfl Tryz.isAgg44) (RV_cell rfl foc2 rfl Tryz.isAgg4) (RV_tmp rfl)) () (t0_ (t0_ (eD (eD eR))))
 ·
  replace h := ite_f hg2 h
  refine kT <| sR <| oV (V_load rfl foc5 rfl Tryz.isAgg65) rfl <| oV (V_load rfl foc4 rfl Tryz.isAgg3) rfl <| oP (P_makeFunc rfl rfl) rfl ?_
  obtain ⟨r12, hr13, h⟩ := bind_e h
  refine oO <| O_call (L_parityvol_Volume_on__parityvol_Volume_word_1 hr13) rfl Tryz.call78 (Dels.cons del0 (Dels.cons del2 (Dels.cons del1 (Dels.cons del2 (Dels.cons del1 (Dels.cons del0 (Dels.cons del0 Dels.nil))))))) rfl fun _ _ => oA rfl rfl <| RJ_nil <| QJ_ent (t0_ (t1_ (t3_ (t3_ (eD (eD (eD eR))))))) <| QJ_then <| CJ_seq <| AJ_startH 16 (by kernel_rfl) rfl <| aV 0 1 rfl rfl (GY_none rfl) eR (V_load rfl foc1 rfl Tryz.isAgg44) rfl <| aV 1 3 rfl rfl (GY_none rfl) eR (V_load rfl foc2 rfl Tryz.isAgg4) rfl <| aN 2 7 rfl rfl (P_move rfl) rfl <| AJ_op 3 15 rfl (by kernel_rfl) rfl (GY_none rfl) <| O_store rfl rfl foc1 rfl rfl Tryz.sizeOf44 <| ⟨fun _ => eR, ?_⟩
  refine AJ_op 4 31 rfl (by kernel_rfl) rfl (GY_none rfl) <| O_store rfl rfl foc2 rfl rfl Tryz.sizeOf4 <| ⟨fun h => absurd h (by decide), ?_⟩
  refine aN 5 63 rfl rfl (P_assign rfl) rfl <| aD <| CJ_ret ?_
  cases h
  exact fE (resA3 Tryz.results75 (RV_cell rfl foc1 rfl Tryz.isAgg44) (RV_cell rfl foc2 rfl Tryz.isAgg4) (RV_tmp rfl)) () (t0_ (t2_ (eD (eD eR))))
def parityvol_Volume_put (v : VolS) (x_1 : parityvol_entry) (s : ArrS) : Option (Int × VolS × ArrS) :=
  Option.bind (parityvol_Volume_commit ({ v with last_seq := (v.last_seq + (1 : UInt64)), last_offset := x_1.offset, last_leg := x_1.leg, last_word := x_1.word, last_parity := x_1.parity }) s) fun r11 =>
  if ((r11.1 ≠ (0 : Int)) ∧ (¬ r11.2.1.pending = true)) then
    some (r11.1, { r11.2.1 with last_seq := v.last_seq, last_offset := v.last_offset, last_leg := v.last_leg, last_word := v.last_word, last_parity := v.last_parity }, r11.2.2)
  else
    some (r11.1, r11.2.1, r11.2.2)
theorem L_parityvol_Volume_put {W : World} {bv : Nat} {bs : Nat} {v : VolS} {x_1 : parityvol_entry} {s : ArrS} {r : Int × VolS × ArrS} (h : parityvol_Volume_put v x_1 s = some r) :
    CSpec Tryz.prog W 81 [ptr bv 0, .agg #[.int .u64 (x_1.seq.toNat : Int), .int .i64 x_1.offset, .int .i64 x_1.leg, .int .u64 (x_1.word.toNat : Int), .int .u64 (x_1.parity.toNat : Int)]] [VolP bs bv v, Arr bs s] (fun x : Unit => .int .i64 r.1) (fun _ => True) (fun x F => VolP bs bv r.2.1 :: Arr bs r.2.2 :: F) := by
 refine CSpec.of_body Tryz.func81 rfl Tryz.ntmps81 rfl fun F => ?_
 show CJ _ _ _ _ _ _ (_ :: _ :: F)
 unfold parityvol_Volume_put at h
 refine sR <| oO <| O_box rfl rfl rfl fun b1 => oA rfl rfl <| nT <| CJ_seq <| CJ_entX (Ent.transX (t1_ eR) (VolP_open (l := v))) fun oc2 => CJ_pure (fun h hh => Rs_len (stars_perm (del2 (A := Rs (DevP bs) (v.legs.map prtS.dev) oc2.2)).out h hh)) fun hdl4 => lC del1 fun hlen5 => ?_
 rw [mk_prt_len (by have := hdl4; simpa using this)] at hlen5
 refine CJ_region <| oM rfl rfl <| oP (P_nilCheck rfl) rfl <| oP (P_fieldAddr rfl ⟨_, _, _, Tryz.runUnderlying123, rfl, rfl, Tryz.sizeOf121, rfl⟩) rfl <| oV (V_loadN rfl foc0 Tryz.isAgg121 Tryz.sizeOf121 rfl rfl) rfl <| oO <| O_alloc Tryz.zeroValue121 rfl rfl fun b6 => oO <| O_storeN rfl rfl foc0 Tryz.sizeOf121 rfl rfl rfl <| RJ_nil <| QJ_ent (Ent.trans (t1_ (t1_ (t1_ eR))) (VolP_mk (v0 := v.layout_n) (v1 := v.layout_chunk) (v2 := v.layout_rows) (v3 := v.legs) (v4 := v.last_seq) (v5 := v.last_offset) (v6 := v.last_leg) (v7 := v.last_word) (v8 := v.last_parity) (v9 := v.pending) (v10 := v.filled) (h0 := oc2.1) (h1 := oc2.2))) <| QJ_then <| sR <| oP (P_fieldAddr rfl ⟨_, _, _, Tryz.runUnderlying121, rfl, rfl, Tryz.sizeOf44, rfl⟩) rfl <| oV (V_load rfl foc1 rfl Tryz.isAgg44) rfl <| oP (P_add_u64 (a := v.last_seq) (b := (1 : UInt64)) rfl rfl) rfl <| oP (P_fieldAddr rfl ⟨_, _, _, Tryz.runUnderlying121, rfl, rfl, Tryz.sizeOf44, rfl⟩) rfl <| oO <| O_store rfl rfl foc2 rfl rfl Tryz.sizeOf44 <| nT <| CJ_seq <| CJ_entX (Ent.transX (t0_ eR) (VolP_open (l := v))) fun oc7 => CJ_pure (fun h hh => Rs_len (stars_perm (del2 (A := Rs (DevP bs) (v.legs.map prtS.dev) oc7.2)).out h hh)) fun hdl9 => lC del1 fun hlen10 => ?_
 rw [mk_prt_len (by have := hdl9; simpa using this)] at hlen10
 refine CJ_region <| oM rfl rfl <| oV (V_loadN rfl foc4 Tryz.isAgg121 Tryz.sizeOf121 rfl rfl) rfl <| oP (P_nilCheck rfl) rfl <| oP (P_fieldAddr rfl ⟨_, _, _, Tryz.runUnderlying123, rfl, rfl, Tryz.sizeOf121, rfl⟩) rfl <| oO <| O_storeN rfl rfl foc0 Tryz.sizeOf121 rfl rfl rfl <| RJ_nil <| QJ_ent (Ent.trans eR (VolP_mk (v0 := v.layout_n) (v1 := v.layout_chunk) (v2 := v.layout_rows) (v3 := v.legs) (v4 := (v.last_seq + (1 : UInt64))) (v5 := x_1.offset) (v6 := x_1.leg) (v7 := x_1.word) (v8 := x_1.parity) (v9 := v.pending) (v10 := v.filled) (h0 := oc7.1) (h1 := oc7.2))) <| QJ_then <| sR <| oM rfl rfl ?_
 obtain ⟨r11, hr12, h⟩ := bind_e h
 refine oO <| O_call (L_parityvol_Volume_commit hr12) rfl Tryz.call106 (Dels.cons del0 (Dels.cons del2 Dels.nil)) rfl fun _ _ => oA rfl rfl <| nT <| CJ_seq <| sR <| oM rfl rfl <| oP (P_neq (a := r11.1) (b := (0 : Int)) rfl rfl) rfl <| oM rfl rfl <| RJ_mbT rfl rfl rfl (fun hG13 => have hP14 : (r11.1 ≠ (0 : Int)) := (bT_dec).1 hG13; VJ_P (P_move rfl)) <| RJ_mbT rfl rfl rfl (fun hG15 => have hP16 : (r11.1 ≠ (0 : Int)) := (bT_dec).1 hG15; VJ_P (P_nilCheck (mbx hG15 rfl))) <| RJ_mbT rfl rfl rfl (fun hG17 => have hP18 : (r11.1 ≠ (0 : Int)) := (bT_dec).1 hG17; VJ_P (P_fieldAddr (mbx hG17 rfl) ⟨_, _, _, Tryz.runUnderlying123, rfl, rfl, Tryz.sizeOf4, rfl⟩)) <| RJ_mbT rfl rfl rfl (fun hG19 => have hP20 : (r11.1 ≠ (0 : Int)) := (bT_dec).1 hG19; VJ_entX (Ent.transX (t0_ eR) (VolP_open (l := r11.2.1))) (fun _ => V_load (mbx hG19 rfl) foc0 rfl Tryz.isAgg4)) <| RJ_mbT rfl rfl rfl (fun hG21 => have hP22 : (r11.1 ≠ (0 : Int)) := (bT_dec).1 hG21; VJ_P (P_not (mbx hG21 rfl))) <| oP (P_pickAnd rfl (fun hh => mbx hh rfl) rfl) rfl <| nT <| CJ_condP rfl (bT_and bT_dec (bT_not Iff.rfl)) (fun hg1 => ?_) (fun hg1 => ?_)
 ·
  replace h := ite_t hg1 h
  refine CJ_entX (Ent.transX (t0_ eR) (VolP_open (l := r11.2.1))) fun oc23 => CJ_pure (fun h hh => Rs_len (stars_perm (del2 (A := Rs (DevP bs) (r11.2.1.legs.map prtS.dev) oc23.2)).out h hh)) fun hdl25 => lC del1 fun hlen26 => ?_
  rw [mk_prt_len (by have := hdl25; simpa using this)] at hlen26
  refine CJ_region <| oM rfl rfl <| oV (V_loadN rfl foc4 Tryz.isAgg121 Tryz.sizeOf121 rfl rfl) rfl <| oP (P_nilCheck rfl) rfl <| oP (P_fieldAddr rfl ⟨_, _, _, Tryz.runUnderlying123, rfl, rfl, Tryz.sizeOf121, rfl⟩) rfl <| oO <| O_storeN rfl rfl foc0 Tryz.sizeOf121 rfl rfl rfl <| RJ_nil <| QJ_ent (Ent.trans eR (VolP_mk (v0 := r11.2.1.layout_n) (v1 := r11.2.1.layout_chunk) (v2 := r11.2.1.layout_rows) (v3 := r11.2.1.legs) (v4 := v.last_seq) (v5 := v.last_offset) (v6 := v.last_leg) (v7 := v.last_word) (v8 := v.last_parity) (v9 := r11.2.1.pending) (v10 := r11.2.1.filled) (h0 := oc23.1) (h1 := oc23.2))) <| QJ_then <| sR <| oM rfl rfl <| oA rfl rfl <| nT <| CJ_ret ?_
  cases h
  exact fE (res1 Tryz.results81 rfl) () (t0_ (t0_ (eD (eD eR))))
 ·
  replace h := ite_f hg1 h
  refine kT <| sR <| oM rfl rfl <| oA rfl rfl <| nT <| CJ_ret ?_
  cases h
  exact fE (res1 Tryz.results81 rfl) () (t0_ (t0_ (eD (eD eR))))
def parityvol_Volume_Read (v : VolS) (at_1 : Int) (s : ArrS) : Option (UInt64 × Int × VolS × ArrS) :=
  if (at_1 < (0 : Int)) then
    some (((0 : UInt64), (1 : Int), v, s))
  else
    Option.bind (parityvol_Volume_Size v s) fun r1 =>
    if (r1 ≤ at_1) then
      some (((0 : UInt64), (1 : Int), v, s))
    else
      Option.bind (parityvol_Volume_ready v s) fun r3 =>
      if (r3.1 ≠ (0 : Int)) then
        some (((0 : UInt64), r3.1, r3.2.1, r3.2.2))
      else
        Option.bind (parityvol_layout_place (⟨r3.2.1.layout_n, r3.2.1.layout_chunk, r3.2.1.layout_rows⟩ : parityvol_layout) at_1) fun r9 =>
        Option.bind (parityvol_Volume_word r3.2.1 r9.1 r9.2.1 r3.2.2) fun r11 =>
        if (r11.2.2.1 ≠ (0 : Int)) then
          some (((0 : UInt64), r11.2.2.1, r11.2.2.2, r3.2.2))
        else
          if r11.2.1 = true then
            grd (decide (0 ≤ r9.1 ∧ r9.1 < (r11.2.2.2.legs.length : Int))) <|
            grd (inI64 (((16 : Int) + r9.2.1))) <|
            Option.bind (Dvc.wr ((r11.2.2.2.legs.getD ((r9.1).toNat) prt_x0).dev) r3.2.2 (((16 : Int) + r9.2.1)) r11.1) fun r19 =>
            if (r19.1 = (5 : Int)) then
              some (((0 : UInt64), r19.1, r11.2.2.2, r19.2))
            else
              some ((r11.1, (0 : Int), r11.2.2.2, r19.2))
          else
            some ((r11.1, (0 : Int), r11.2.2.2, r3.2.2))
theorem L_parityvol_Volume_Read {W : World} {bv : Nat} {bs : Nat} {v : VolS} {at_1 : Int} {s : ArrS} {r : UInt64 × Int × VolS × ArrS} (h : parityvol_Volume_Read v at_1 s = some r) :
    CSpec Tryz.prog W 28 [ptr bv 0, .int .i64 at_1] [VolP bs bv v, Arr bs s] (fun x : Unit => .tuple #[.int .u64 (r.1.toNat : Int), .int .i64 r.2.1]) (fun _ => True) (fun x F => VolP bs bv r.2.2.1 :: Arr bs r.2.2.2 :: F) := by
 refine CSpec.of_body Tryz.func28 rfl Tryz.ntmps28 rfl fun F => ?_
 show CJ _ _ _ _ _ _ (_ :: _ :: F)
 unfold parityvol_Volume_Read at h
 refine sR <| oA rfl rfl <| oA rfl rfl <| nT <| CJ_seq <| sR <| oM rfl rfl <| oP (P_lss (a := at_1) (b := (0 : Int)) rfl rfl) rfl <| oM rfl rfl <| RJ_splitP 16 rfl bT_dec (fun hg1B hg1 => ?_) (fun hg1B hg1 => ?_)
 ·
  replace h := ite_t hg1 h
  refine RJ_gn (GY_no rfl rfl rfl hg1B) rfl rfl <| RJ_gn (GY_no rfl rfl rfl hg1B) rfl rfl <| RJ_gn (GY_no rfl rfl rfl hg1B) rfl rfl <| RJ_gn (GY_no rfl rfl rfl hg1B) rfl rfl <| oP (P_pickT rfl hg1B rfl) rfl <| nT <| CJ_condT rfl rfl <| sR <| oA rfl rfl <| oA rfl rfl <| nT <| CJ_ret <| QJ_then_ret ?_
  cases h
  exact fE (res2 Tryz.results28 rfl rfl) () eR
 ·
  replace h := ite_f hg1 h
  refine gP (GY_yes rfl rfl rfl hg1B) (P_move rfl) rfl <| gP (GY_yes rfl rfl rfl hg1B) (P_move rfl) rfl ?_
  obtain ⟨r1, hr2, h⟩ := bind_e h
  refine RJ_gy (GY_yes rfl rfl rfl hg1B) <| O_call (L_parityvol_Volume_Size hr2) rfl Tryz.call31 (Dels.cons del0 (Dels.cons del0 Dels.nil)) rfl fun _ _ => gP (GY_yes rfl rfl rfl hg1B) (P_geq (a := at_1) (b := r1) rfl rfl) rfl <| oP (P_pickF rfl hg1B rfl) rfl <| nT <| CJ_condP rfl bT_dec (fun hg2 => ?_) (fun hg2 => ?_)
  ·
   replace h := ite_t hg2 h
   refine sR <| oA rfl rfl <| oA rfl rfl <| nT <| CJ_ret <| QJ_then_ret ?_
   cases h
   exact fE (res2 Tryz.results28 rfl rfl) () eR
  ·
   replace h := ite_f hg2 h
   refine kT <| CJ_seq <| sR <| oM rfl rfl ?_
   obtain ⟨r3, hr4, h⟩ := bind_e h
   refine oO <| O_call (L_parityvol_Volume_ready hr4) rfl Tryz.call73 (Dels.cons del0 (Dels.cons del0 Dels.nil)) rfl fun _ _ => oA rfl rfl <| nT <| sR <| oM rfl rfl <| oP (P_neq (a := r3.1) (b := (0 : Int)) rfl rfl) rfl <| nT <| CJ_condP rfl bT_dec (fun hg3 => ?_) (fun hg3 => ?_)
   ·
    replace h := ite_t hg3 h
    refine sR <| oM rfl rfl <| oA rfl rfl <| oA rfl rfl <| nT <| CJ_ret <| QJ_then_ret ?_
    cases h
    exact fE (res2 Tryz.results28 rfl rfl) () eR
   ·
    replace h := ite_f hg3 h
    refine kT <| CJ_seq <| CJ_entX (Ent.transX (t0_ eR) (VolP_open (l := r3.2.1))) fun oc5 => CJ_pure (fun h hh => Rs_len (stars_perm (del2 (A := Rs (DevP bs) (r3.2.1.legs.map prtS.dev) oc5.2)).out h hh)) fun hdl7 => lC del1 fun hlen8 => ?_
    rw [mk_prt_len (by have := hdl7; simpa using this)] at hlen8
    refine CJ_region <| oM rfl rfl <| oP (P_nilCheck rfl) rfl <| oP (P_fieldAddr rfl ⟨_, _, _, Tryz.runUnderlying123, rfl, rfl, Tryz.sizeOf112, rfl⟩) rfl <| oV (V_loadN rfl foc0 Tryz.isAgg112 Tryz.sizeOf112 rfl rfl) rfl <| oM rfl rfl ?_
    obtain ⟨r9, hr10, h⟩ := bind_e h
    refine oO <| O_call (L_parityvol_layout_place hr10) rfl Tryz.call74 Dels.nil rfl fun _ _ => oM rfl rfl <| oP (P_extract rfl rfl) rfl <| oP (P_extract rfl rfl) rfl <| oP (P_extract rfl rfl) rfl <| oA rfl rfl <| oA rfl rfl <| oA rfl rfl <| RJ_nil <| QJ_ent (Ent.trans eR (VolP_mk (v0 := r3.2.1.layout_n) (v1 := r3.2.1.layout_chunk) (v2 := r3.2.1.layout_rows) (v3 := r3.2.1.legs) (v4 := r3.2.1.last_seq) (v5 := r3.2.1.last_offset) (v6 := r3.2.1.last_leg) (v7 := r3.2.1.last_word) (v8 := r3.2.1.last_parity) (v9 := r3.2.1.pending) (v10 := r3.2.1.filled) (h0 := oc5.1) (h1 := oc5.2))) <| QJ_then <| sR <| oM rfl rfl <| oM rfl rfl <| oM rfl rfl ?_
    obtain ⟨r11, hr12, h⟩ := bind_e h
    refine oO <| O_call (L_parityvol_Volume_word hr12) rfl Tryz.call75 (Dels.cons del0 (Dels.cons del0 Dels.nil)) rfl fun _ _ => oM rfl rfl <| oP (P_extract rfl rfl) rfl <| oP (P_extract rfl rfl) rfl <| oP (P_extract rfl rfl) rfl <| oA rfl rfl <| oA rfl rfl <| oA rfl rfl <| nT <| CJ_seq <| sR <| oM rfl rfl <| oP (P_neq (a := r11.2.2.1) (b := (0 : Int)) rfl rfl) rfl <| nT <| CJ_condP rfl bT_dec (fun hg4 => ?_) (fun hg4 => ?_)
    ·
     replace h := ite_t hg4 h
     refine sR <| oM rfl rfl <| oA rfl rfl <| oA rfl rfl <| nT <| CJ_ret <| QJ_then_ret ?_
     cases h
     exact fE (res2 Tryz.results28 rfl rfl) () eR
    ·
     replace h := ite_f hg4 h
     refine kT <| CJ_seq <| sR <| oM rfl rfl <| nT <| CJ_condP rfl Iff.rfl (fun hg5 => ?_) (fun hg5 => ?_)
     ·
      replace h := ite_t hg5 h
      refine CJ_seq <| CJ_entX (Ent.transX (t0_ eR) (VolP_open (l := r11.2.2.2))) fun oc13 => CJ_pure (fun h hh => Rs_len (stars_perm (del2 (A := Rs (DevP bs) (r11.2.2.2.legs.map prtS.dev) oc13.2)).out h hh)) fun hdl15 => lC del1 fun hlen16 => ?_
      rw [mk_prt_len (by have := hdl15; simpa using this)] at hlen16
      refine CJ_region <| oM rfl rfl <| oP (P_nilCheck rfl) rfl <| oP (P_fieldAddr rfl ⟨_, _, _, Tryz.runUnderlying123, rfl, rfl, Tryz.sizeOf119, rfl⟩) rfl <| oV (V_load rfl foc0 rfl Tryz.isAgg119) rfl <| oM rfl rfl ?_
      obtain ⟨hg6, h⟩ := grd_de h
      refine oV (V_index (i := (r9.1).toNat) rfl rfl (Int.toNat_of_nonneg (hg6.1)).symm (show (r9.1).toNat < (mk_prt r11.2.2.2.legs oc13.2).length by rw [mk_prt_len (by have := hdl15; simpa using this)]; exact (by omega)) foc1 (Reads.sl _ _ _) Tryz.runUnderlying119 Tryz.sizeOf126) rfl <| oP (P_fieldE rfl ⟨_, _, _, Tryz.runUnderlying126, rfl, rfl, Tryz.sizeOf79, rfl⟩) rfl <| RJ_ent (Ent.trans (t2_ eR) (mk_prt_rs (i := (r9.1).toNat) (by omega))) <| oV (VJ_eq (V_loadE rfl rfl (show (r9.1).toNat < (mk_prt r11.2.2.2.legs oc13.2).length by rw [mk_prt_len (by have := hdl15; simpa using this)]; exact (by omega)) foc3 (Reads.sl _ _ _) rfl rfl Tryz.isAgg79) (show (IfH.v ((oc13.2.getD ((r9.1).toNat) tyDev.dflt)) : Value) = IfH.v ((mk_prt r11.2.2.2.legs oc13.2).getD ((r9.1).toNat) prt_h0).dev from by rw [mk_prt_at (by have := hdl15; simpa using this)])) rfl <| oM rfl rfl ?_
      obtain ⟨hg7, h⟩ := grd_Ie h
      refine oP (P_add (a := (16 : Int)) (b := r9.2.1) rfl rfl hg7) rfl <| oM rfl rfl <| RJ_pure (fun h hh => DevP_dep h (stars_perm (del0 (A := DevP bs ((r11.2.2.2.legs.getD ((r9.1).toNat) prt_x0).dev) ((oc13.2.getD ((r9.1).toNat) tyDev.dflt)))).out h hh)) fun hdp18 => ?_
      obtain ⟨r19, hr20, h⟩ := bind_e h
      refine oO <| O_callI rfl (dev_Write hr20 hdp18) rfl (Dels.cons del0 (Dels.cons del3 Dels.nil)) rfl fun _ _ => oA rfl rfl <| RJ_nil <| QJ_ent (Ent.trans (t3_ (t3_ (t2_ eR))) (VolP_mk (v0 := r11.2.2.2.layout_n) (v1 := r11.2.2.2.layout_chunk) (v2 := r11.2.2.2.layout_rows) (v3 := r11.2.2.2.legs) (v4 := r11.2.2.2.last_seq) (v5 := r11.2.2.2.last_offset) (v6 := r11.2.2.2.last_leg) (v7 := r11.2.2.2.last_word) (v8 := r11.2.2.2.last_parity) (v9 := r11.2.2.2.pending) (v10 := r11.2.2.2.filled) (h0 := oc13.1) (h1 := oc13.2))) <| QJ_then <| sR <| oM rfl rfl <| oP (P_eql (a := r19.1) (b := (5 : Int)) rfl rfl) rfl <| nT <| CJ_condP rfl bT_dec (fun hg8 => ?_) (fun hg8 => ?_)
      ·
       replace h := ite_t hg8 h
       refine sR <| oM rfl rfl <| oA rfl rfl <| oA rfl rfl <| nT <| CJ_ret <| QJ_then_ret ?_
       cases h
       exact fE (res2 Tryz.results28 rfl rfl) () (t0_ (t1_ (eD eR)))
      ·
       replace h := ite_f hg8 h
       refine kT <| sR <| oM rfl rfl <| oA rfl rfl <| oA rfl rfl <| nT <| CJ_ret ?_
       cases h
       exact fE (res2 Tryz.results28 rfl rfl) () (t0_ (t1_ (eD eR)))
     ·
      replace h := ite_f hg5 h
      refine kT <| sR <| oM rfl rfl <| oA rfl rfl <| oA rfl rfl <| nT <| CJ_ret ?_
      cases h
      exact fE (res2 Tryz.results28 rfl rfl) () eR
def parityvol_Volume_Write (v : VolS) (at_1 : Int) (w : UInt64) (s : ArrS) : Option (Int × VolS × ArrS) :=
  if (at_1 < (0 : Int)) then
    some (((1 : Int), v, s))
  else
    Option.bind (parityvol_Volume_Size v s) fun r1 =>
    if (r1 ≤ at_1) then
      some (((1 : Int), v, s))
    else
      Option.bind (parityvol_Volume_ready v s) fun r3 =>
      if (r3.1 ≠ (0 : Int)) then
        some (r3.1, r3.2.1, r3.2.2)
      else
        Option.bind (parityvol_layout_place (⟨r3.2.1.layout_n, r3.2.1.layout_chunk, r3.2.1.layout_rows⟩ : parityvol_layout) at_1) fun r9 =>
        Option.bind (parityvol_Volume_word r3.2.1 r9.1 r9.2.1 r3.2.2) fun r11 =>
        if (r11.2.2.1 ≠ (0 : Int)) then
          some (r11.2.2.1, r11.2.2.2, r3.2.2)
        else
          Option.bind (parityvol_Volume_word r11.2.2.2 r9.2.2 r9.2.1 r3.2.2) fun r13 =>
          if (r13.2.2.1 ≠ (0 : Int)) then
            some (r13.2.2.1, r13.2.2.2, r3.2.2)
          else
            Option.bind (parity_Update r11.1 w r13.1) fun r15 =>
            Option.bind (parityvol_Volume_put r13.2.2.2 ((⟨(0 : UInt64), r9.2.1, r9.1, w, r15⟩ : parityvol_entry)) r3.2.2) fun r17 =>
            some (r17.1, r17.2.1, r17.2.2)
theorem L_parityvol_Volume_Write {W : World} {bv : Nat} {bs : Nat} {v : VolS} {at_1 : Int} {w : UInt64} {s : ArrS} {r : Int × VolS × ArrS} (h : parityvol_Volume_Write v at_1 w s = some r) :
    CSpec Tryz.prog W 32 [ptr bv 0, .int .i64 at_1, .int .u64 (w.toNat : Int)] [VolP bs bv v, Arr bs s] (fun x : Unit => .int .i64 r.1) (fun _ => True) (fun x F => VolP bs bv r.2.1 :: Arr bs r.2.2 :: F) := by
 refine CSpec.of_body Tryz.func32 rfl Tryz.ntmps32 rfl fun F => ?_
 show CJ _ _ _ _ _ _ (_ :: _ :: F)
 unfold parityvol_Volume_Write at h
 refine sR <| oA rfl rfl <| nT <| CJ_seq <| sR <| oM rfl rfl <| oP (P_lss (a := at_1) (b := (0 : Int)) rfl rfl) rfl <| oM rfl rfl <| RJ_splitP 18 rfl bT_dec (fun hg1B hg1 => ?_) (fun hg1B hg1 => ?_)
 ·
  replace h := ite_t hg1 h
  refine RJ_gn (GY_no rfl rfl rfl hg1B) rfl rfl <| RJ_gn (GY_no rfl rfl rfl hg1B) rfl rfl <| RJ_gn (GY_no rfl rfl rfl hg1B) rfl rfl <| RJ_gn (GY_no rfl rfl rfl hg1B) rfl rfl <| oP (P_pickT rfl hg1B rfl) rfl <| nT <| CJ_condT rfl rfl <| sR <| oA rfl rfl <| nT <| CJ_ret <| QJ_then_ret ?_
  cases h
  exact fE (res1 Tryz.results32 rfl) () eR
 ·
  replace h := ite_f hg1 h
  refine gP (GY_yes rfl rfl rfl hg1B) (P_move rfl) rfl <| gP (GY_yes rfl rfl rfl hg1B) (P_move rfl) rfl ?_
  obtain ⟨r1, hr2, h⟩ := bind_e h
  refine RJ_gy (GY_yes rfl rfl rfl hg1B) <| O_call (L_parityvol_Volume_Size hr2) rfl Tryz.call31 (Dels.cons del0 (Dels.cons del0 Dels.nil)) rfl fun _ _ => gP (GY_yes rfl rfl rfl hg1B) (P_geq (a := at_1) (b := r1) rfl rfl) rfl <| oP (P_pickF rfl hg1B rfl) rfl <| nT <| CJ_condP rfl bT_dec (fun hg2 => ?_) (fun hg2 => ?_)
  ·
   replace h := ite_t hg2 h
   refine sR <| oA rfl rfl <| nT <| CJ_ret <| QJ_then_ret ?_
   cases h
   exact fE (res1 Tryz.results32 rfl) () eR
  ·
   replace h := ite_f hg2 h
   refine kT <| CJ_seq <| sR <| oM rfl rfl ?_
   obtain ⟨r3, hr4, h⟩ := bind_e h
   refine oO <| O_call (L_parityvol_Volume_ready hr4) rfl Tryz.call73 (Dels.cons del0 (Dels.cons del0 Dels.nil)) rfl fun _ _ => oA rfl rfl <| nT <| sR <| oM rfl rfl <| oP (P_neq (a := r3.1) (b := (0 : Int)) rfl rfl) rfl <| nT <| CJ_condP rfl bT_dec (fun hg3 => ?_) (fun hg3 => ?_)
   ·
    replace h := ite_t hg3 h
    refine sR <| oM rfl rfl <| oA rfl rfl <| nT <| CJ_ret <| QJ_then_ret ?_
    cases h
    exact fE (res1 Tryz.results32 rfl) () eR
   ·
    replace h := ite_f hg3 h
    refine kT <| CJ_seq <| CJ_entX (Ent.transX (t0_ eR) (VolP_open (l := r3.2.1))) fun oc5 => CJ_pure (fun h hh => Rs_len (stars_perm (del2 (A := Rs (DevP bs) (r3.2.1.legs.map prtS.dev) oc5.2)).out h hh)) fun hdl7 => lC del1 fun hlen8 => ?_
    rw [mk_prt_len (by have := hdl7; simpa using this)] at hlen8
    refine CJ_region <| oM rfl rfl <| oP (P_nilCheck rfl) rfl <| oP (P_fieldAddr rfl ⟨_, _, _, Tryz.runUnderlying123, rfl, rfl, Tryz.sizeOf112, rfl⟩) rfl <| oV (V_loadN rfl foc0 Tryz.isAgg112 Tryz.sizeOf112 rfl rfl) rfl <| oM rfl rfl ?_
    obtain ⟨r9, hr10, h⟩ := bind_e h
    refine oO <| O_call (L_parityvol_layout_place hr10) rfl Tryz.call74 Dels.nil rfl fun _ _ => oM rfl rfl <| oP (P_extract rfl rfl) rfl <| oP (P_extract rfl rfl) rfl <| oP (P_extract rfl rfl) rfl <| oA rfl rfl <| oA rfl rfl <| oA rfl rfl <| RJ_nil <| QJ_ent (Ent.trans eR (VolP_mk (v0 := r3.2.1.layout_n) (v1 := r3.2.1.layout_chunk) (v2 := r3.2.1.layout_rows) (v3 := r3.2.1.legs) (v4 := r3.2.1.last_seq) (v5 := r3.2.1.last_offset) (v6 := r3.2.1.last_leg) (v7 := r3.2.1.last_word) (v8 := r3.2.1.last_parity) (v9 := r3.2.1.pending) (v10 := r3.2.1.filled) (h0 := oc5.1) (h1 := oc5.2))) <| QJ_then <| sR <| oM rfl rfl <| oM rfl rfl <| oM rfl rfl ?_
    obtain ⟨r11, hr12, h⟩ := bind_e h
    refine oO <| O_call (L_parityvol_Volume_word hr12) rfl Tryz.call75 (Dels.cons del0 (Dels.cons del0 Dels.nil)) rfl fun _ _ => oM rfl rfl <| oP (P_extract rfl rfl) rfl <| oP (P_extract rfl rfl) rfl <| oP (P_extract rfl rfl) rfl <| oA rfl rfl <| oA rfl rfl <| oA rfl rfl <| nT <| CJ_seq <| sR <| oM rfl rfl <| oP (P_neq (a := r11.2.2.1) (b := (0 : Int)) rfl rfl) rfl <| nT <| CJ_condP rfl bT_dec (fun hg4 => ?_) (fun hg4 => ?_)
    ·
     replace h := ite_t hg4 h
     refine sR <| oM rfl rfl <| oA rfl rfl <| nT <| CJ_ret <| QJ_then_ret ?_
     cases h
     exact fE (res1 Tryz.results32 rfl) () eR
    ·
     replace h := ite_f hg4 h
     refine kT <| sR <| oM rfl rfl <| oM rfl rfl <| oM rfl rfl ?_
     obtain ⟨r13, hr14, h⟩ := bind_e h
     refine oO <| O_call (L_parityvol_Volume_word hr14) rfl Tryz.call75 (Dels.cons del0 (Dels.cons del0 Dels.nil)) rfl fun _ _ => oM rfl rfl <| oP (P_extract rfl rfl) rfl <| oP (P_extract rfl rfl) rfl <| oP (P_extract rfl rfl) rfl <| oA rfl rfl <| oA rfl rfl <| oA rfl rfl <| nT <| CJ_seq <| sR <| oM rfl rfl <| oP (P_neq (a := r13.2.2.1) (b := (0 : Int)) rfl rfl) rfl <| nT <| CJ_condP rfl bT_dec (fun hg5 => ?_) (fun hg5 => ?_)
     ·
      replace h := ite_t hg5 h
      refine sR <| oM rfl rfl <| oA rfl rfl <| nT <| CJ_ret <| QJ_then_ret ?_
      cases h
      exact fE (res1 Tryz.results32 rfl) () eR
     ·
      replace h := ite_f hg5 h
      refine kT <| sR <| oM rfl rfl <| oM rfl rfl <| oM rfl rfl <| oM rfl rfl <| oM rfl rfl <| oM rfl rfl <| oM rfl rfl ?_
      obtain ⟨r15, hr16, h⟩ := bind_e h
      refine oO <| O_call (L_parity_Update hr16) rfl Tryz.call82 Dels.nil rfl fun _ _ => oP (P_build rfl (bld_121_1_2_3_4 _ _ _ _)) rfl ?_
      obtain ⟨r17, hr18, h⟩ := bind_e h
      refine oO <| O_call (L_parityvol_Volume_put hr18) rfl Tryz.call81 (Dels.cons del0 (Dels.cons del0 Dels.nil)) rfl fun _ _ => oA rfl rfl <| nT <| CJ_ret ?_
      cases h
      exact fE (res1 Tryz.results32 rfl) () eR
def parityvol_Volume_Flush_1 (x_0 : Dvc) (s : ArrS) : Option (Int × ArrS) :=
  Option.bind (Dvc.fl x_0 s) fun r2 =>
  some (r2.1, r2.2)
theorem L_parityvol_Volume_Flush_1 {W : World} {vx_0 : IfH} {bs : Nat} {x_0 : Dvc} {s : ArrS} {r : Int × ArrS} (h : parityvol_Volume_Flush_1 x_0 s = some r) :
    CSpec Tryz.prog W 95 [IfH.v vx_0] [DevP bs x_0 vx_0, Arr bs s] (fun x : Unit => .int .i64 r.1) (fun _ => True) (fun x F => DevP bs x_0 vx_0 :: Arr bs r.2 :: F) := by
 refine CSpec.of_body Tryz.func95 rfl Tryz.ntmps95 rfl fun F => ?_
 show CJ _ _ _ _ _ _ (_ :: _ :: F)
 unfold parityvol_Volume_Flush_1 at h
 refine sR <| oA rfl rfl <| nT <| sR <| oM rfl rfl <| RJ_pure (fun h hh => DevP_dep h (stars_perm (del0 (A := DevP bs x_0 vx_0)).out h hh)) fun hdp1 => ?_
 obtain ⟨r2, hr3, h⟩ := bind_e h
 refine oO <| O_callI rfl (dev_Flush hr3 hdp1) rfl (Dels.cons del0 (Dels.cons del0 Dels.nil)) rfl fun _ _ => oA rfl rfl <| nT <| CJ_ret ?_
 cases h
 exact fE (res1 Tryz.results95 rfl) () eR
def parityvol_Volume_on__parityvol_Volume_Flush_1 (v : VolS) (i : Int) (s : ArrS) : Option (Int × VolS × ArrS) :=
  grd (decide (0 ≤ i ∧ i < (v.legs.length : Int))) <|
  Option.bind (parityvol_Volume_Flush_1 ((v.legs.getD ((i).toNat) prt_x0).dev) s) fun r9 =>
  Option.bind (parityvol_Volume_on_1 r9.1 v i r9.2) fun r11 =>
  some (r11.1, r11.2, r9.2)
theorem L_parityvol_Volume_on__parityvol_Volume_Flush_1 {W : World} {bv : Nat} {bs : Nat} {v : VolS} {i : Int} {s : ArrS} {r : Int × VolS × ArrS} (h : parityvol_Volume_on__parityvol_Volume_Flush_1 v i s = some r) :
    CSpec Tryz.prog W 78 [ptr bv 0, .int .i64 i, .func (.func 95) #[] #[]] [VolP bs bv v, Arr bs s] (fun x : Unit => .int .i64 r.1) (fun _ => True) (fun x F => VolP bs bv r.2.1 :: Arr bs r.2.2 :: F) := by
  refine CSpec.of_bodyM Tryz.func78 rfl Tryz.ntmps78 rfl (fun F => ?_)
  show CJ _ _ _ _ _ _ (_ :: _ :: F)
  unfold parityvol_Volume_on__parityvol_Volume_Flush_1 at h
  refine CJ_seq ?_
  refine CJ_region ?_
  refine RJ_op rfl (O_box rfl rfl rfl (fun b1 => ?_))
  refine RJ_op rfl (O_box rfl rfl rfl (fun b2 => ?_))
  refine RJ_op rfl (O_alloc Tryz.zeroValue40 rfl rfl (fun b3 => ?_))
  refine RJ_nil ?_
  refine QJ_then ?_
  refine CJ_seq ?_
  refine CJ_region ?_
  refine RJ_op rfl (OJ_P (P_makeFunc rfl rfl) rfl ?_)
  refine RJ_defer rfl rfl ?_
  refine RJ_nil ?_
  refine QJ_then ?_
  refine CJ_seq ?_
  refine CJ_entX (Ent.transX (Ent.take del3 Ent.refl) (VolP_open (l := v))) (fun oc4 => ?_)
  refine CJ_pure (fun h hh => Rs_len (stars_perm (del2 (A := Rs (DevP bs) (v.legs.map prtS.dev) oc4.2)).out h hh)) (fun hdl6 => ?_)
  refine CJ_pure (len_of (Reads.sl _ _ _) del1) (fun hlen7 => ?_)
  rw [mk_prt_len (by have := hdl6; simpa using this)] at hlen7
  refine AJ_startH 1536 (by kernel_rfl) rfl ?_
  refine AJ_takeP 0 1 rfl (by kernel_rfl) rfl (GY_none rfl) (P_move rfl) rfl (fun _ _ _ _ h => h) ?_
  refine AJ_takeV 1 3 rfl (by kernel_rfl) rfl (by kernel_rfl) (by kernel_rfl) (GY_none rfl) Ent.refl (V_load rfl foc5 rfl Tryz.isAgg65) rfl (fun _ _ _ _ h => h) ?_
  refine AJ_takeP 2 7 rfl (by kernel_rfl) rfl (GY_none rfl) (P_nilCheck rfl) rfl (fun _ _ _ _ h => h) ?_
  refine AJ_takeP 3 15 rfl (by kernel_rfl) rfl (GY_none rfl) (P_fieldAddr rfl ⟨_, _, _, Tryz.runUnderlying123, rfl, rfl, Tryz.sizeOf119, rfl⟩) rfl (fun _ _ _ _ h => h) ?_
  refine AJ_takeV 4 31 rfl (by kernel_rfl) rfl (by kernel_rfl) (by kernel_rfl) (GY_none rfl) Ent.refl (V_load rfl foc0 rfl Tryz.isAgg119) rfl (fun _ _ _ _ h => h) ?_
  refine AJ_takeV 5 63 rfl (by kernel_rfl) rfl (by kernel_rfl) (by kernel_rfl) (GY_none rfl) Ent.refl (V_load rfl foc4 rfl Tryz.isAgg3) rfl (fun _ _ _ _ h => h) ?_
  obtain ⟨hg1, h⟩ := grd_de h
  refine AJ_takeV 6 127 rfl (by kernel_rfl) rfl (by kernel_rfl) (by kernel_rfl) (GY_none rfl) Ent.refl (V_index (i := (i).toNat) rfl rfl (Int.toNat_of_nonneg (hg1.1)).symm (show (i).toNat < (mk_prt v.legs oc4.2).length by rw [mk_prt_len (by have := hdl6; simpa using this)]; exact (by omega)) foc1 (Reads.sl _ _ _) Tryz.runUnderlying119 Tryz.sizeOf126) rfl (fun _ _ _ _ h => h) ?_
  refine AJ_takeP 7 255 rfl (by kernel_rfl) rfl (GY_none rfl) (P_fieldE rfl ⟨_, _, _, Tryz.runUnderlying126, rfl, rfl, Tryz.sizeOf79, rfl⟩) rfl (fun _ _ _ _ h => h) ?_
  refine AJ_ent (Ent.trans (Ent.take del2 Ent.refl) (mk_prt_rs (i := (i).toNat) (by omega))) ?_
  refine AJ_takeV 8 511 rfl (by kernel_rfl) rfl (by kernel_rfl) (by kernel_rfl) (GY_none rfl) (Ent.take del2 (Ent.take del2 (Ent.take del1 (Ent.take del1 (Ent.take del1 (Ent.take del1 (Ent.take del1 (Ent.drop Ent.refl)))))))) (VJ_eq (V_loadE rfl rfl (show (i).toNat < (mk_prt v.legs oc4.2).length by rw [mk_prt_len (by have := hdl6; simpa using this)]; exact (by omega)) foc1 (Reads.sl _ _ _) rfl rfl Tryz.isAgg79) (show (IfH.v ((oc4.2.getD ((i).toNat) tyDev.dflt)) : Value) = IfH.v ((mk_prt v.legs oc4.2).getD ((i).toNat) prt_h0).dev from by rw [mk_prt_at (by have := hdl6; simpa using this)])) rfl (fun _ _ _ _ h => h) ?_
  obtain ⟨r9, hr10, h⟩ := bind_e h
  refine AJ_op 9 1023 rfl (by kernel_rfl) rfl (GY_none rfl) (O_callV rfl rfl (L_parityvol_Volume_Flush_1 hr10) Tryz.call95 (Dels.cons del0 (Dels.cons del6 Dels.nil)) rfl (fun _ _ => ?_))
  refine ⟨fun h => absurd h (by decide), ?_⟩
  refine AJ_op 10 2047 rfl (by kernel_rfl) rfl (GY_none rfl) (O_store rfl rfl foc5 rfl rfl Tryz.sizeOf40 ?_)
  refine ⟨fun h => absurd h (by decide), ?_⟩
  refine AJ_done (by kernel_rfl) ?_
  refine QJ_ent (Ent.trans (Ent.take del3 (Ent.take del3 (Ent.take del2 Ent.refl))) (VolP_mk (v0 := v.layout_n) (v1 := v.layout_chunk) (v2 := v.layout_rows) (v3 := v.legs) (v4 := v.last_seq) (v5 := v.last_offset) (v6 := v.last_leg) (v7 := v.last_word) (v8 := v.last_parity) (v9 := v.pending) (v10 := v.filled) (h0 := oc4.1) (h1 := oc4.2))) ?_
  refine QJ_then ?_
  refine CJ_ret ?_
  obtain ⟨r11, hr12, h⟩ := bind_e h
  have hE := Option.some.inj h
  subst hE
  refine QJ_endD1 (.inl rfl) Tryz.call114 (Ent.take del3 (Ent.take del4 (Ent.take del0 (Ent.take del2 (Ent.take del1 Ent.refl))))) (LD_parityvol_Volume_on_1 hr12) (resA1 Tryz.results78 (RV_cell rfl foc0 rfl Tryz.isAgg40)) ?_
  refine CSpec.close () ?_ ?_ (Ent.take del2 (Ent.take del3 (Ent.drop (Ent.drop (Ent.drop (Ent.drop Ent.refl))))))
  · rfl
  · trivial
def parityvol_Volume_Flush_l1_b (r1 : Int × VolS × ArrS) (rec : ArrS → VolS → Nat → Int → Option ((Int × VolS × ArrS) ⊕ (Int × VolS × ArrS))) (x14 : ArrS) (x15 : VolS) (x16 : Nat) (x17 : Int) : Option ((Int × VolS × ArrS) ⊕ (Int × VolS × ArrS)) :=
  if (((x16 : Nat) : Int) < ((r1.2.1.legs.length : Nat) : Int)) then
    grd (decide (x16 < x15.legs.length)) <|
    if (x15.legs.getD x16 prt_x0).stale = true then
      rec x14 x15 (x16 + 1) x17
    else
      Option.bind (parityvol_Volume_on__parityvol_Volume_Flush_1 x15 (((x16 : Nat) : Int)) x14) fun r22 =>
      if (r22.1 = (5 : Int)) then
        some (.inr (r22.1, r22.2.1, r22.2.2))
      else
        if (x17 = (0 : Int)) then
          rec r22.2.2 r22.2.1 (x16 + 1) r22.1
        else
          rec r22.2.2 r22.2.1 (x16 + 1) x17
  else
    some (.inl (x17, x15, x14))
def parityvol_Volume_Flush_l1 (r1 : Int × VolS × ArrS) : Nat → ArrS → VolS → Nat → Int → Option ((Int × VolS × ArrS) ⊕ (Int × VolS × ArrS))
  | 0, _, _, _, _ => none
  | n + 1, x14, x15, x16, x17 => parityvol_Volume_Flush_l1_b r1 (parityvol_Volume_Flush_l1 r1 n) x14 x15 x16 x17
def parityvol_Volume_Flush (v : VolS) (s : ArrS) : Option (Int × VolS × ArrS) :=
  Option.bind (parityvol_Volume_ready v s) fun r1 =>
  if (r1.1 ≠ (0 : Int)) then
    some (r1.1, r1.2.1, r1.2.2)
  else
    seqO (parityvol_Volume_Flush_l1 r1 FUEL r1.2.2 r1.2.1 0 (0 : Int)) fun a13 =>
    some (a13.1, a13.2.1, a13.2.2)
theorem L_parityvol_Volume_Flush {W : World} {bv : Nat} {bs : Nat} {v : VolS} {s : ArrS} {r : Int × VolS × ArrS} (h : parityvol_Volume_Flush v s = some r) :
    CSpec Tryz.prog W 43 [ptr bv 0] [VolP bs bv v, Arr bs s] (fun x : Unit => .int .i64 r.1) (fun _ => True) (fun x F => VolP bs bv r.2.1 :: Arr bs r.2.2 :: F) := by
 refine CSpec.of_body Tryz.func43 rfl Tryz.ntmps43 rfl fun F => ?_
 show CJ _ _ _ _ _ _ (_ :: _ :: F)
 unfold parityvol_Volume_Flush at h
 refine sR <| oA rfl rfl <| nT <| CJ_seq <| sR <| oM rfl rfl ?_
 obtain ⟨r1, hr2, h⟩ := bind_e h
 refine oO <| O_call (L_parityvol_Volume_ready hr2) rfl Tryz.call73 (Dels.cons del0 (Dels.cons del0 Dels.nil)) rfl fun _ _ => oA rfl rfl <| nT <| sR <| oM rfl rfl <| oP (P_neq (a := r1.1) (b := (0 : Int)) rfl rfl) rfl <| nT <| CJ_condP rfl bT_dec (fun hg1 => ?_) (fun hg1 => ?_)
 ·
  replace h := ite_t hg1 h
  refine sR <| oM rfl rfl <| oA rfl rfl <| nT <| CJ_ret <| QJ_then_ret ?_
  cases h
  exact fE (res1 Tryz.results43 rfl) () eR
 ·
  replace h := ite_f hg1 h
  refine kT <| sR <| oA rfl rfl <| nT <| CJ_seq <| CJ_seq <| CJ_entX (Ent.transX (t0_ eR) (VolP_open (l := r1.2.1))) fun oc3 => CJ_pure (fun h hh => Rs_len (stars_perm (del2 (A := Rs (DevP bs) (r1.2.1.legs.map prtS.dev) oc3.2)).out h hh)) fun hdl5 => lC del1 fun hlen6 => ?_
  rw [mk_prt_len (by have := hdl5; simpa using this)] at hlen6
  refine CJ_region <| oM rfl rfl <| oP (P_nilCheck rfl) rfl <| oP (P_fieldAddr rfl ⟨_, _, _, Tryz.runUnderlying123, rfl, rfl, Tryz.sizeOf119, rfl⟩) rfl <| oV (V_load rfl foc0 rfl Tryz.isAgg119) rfl <| oV (VJ_eq (V_len rfl foc1 (Reads.sl _ _ _) Tryz.runUnderlying119) (congrArg (fun z : Nat => Value.int .i64 (z : Int)) (mk_prt_len (by have := hdl5; simpa using this)).symm)) rfl <| oM rfl rfl <| RJ_nil <| QJ_ent (Ent.trans eR (VolP_mk (v0 := r1.2.1.layout_n) (v1 := r1.2.1.layout_chunk) (v2 := r1.2.1.layout_rows) (v3 := r1.2.1.legs) (v4 := r1.2.1.last_seq) (v5 := r1.2.1.last_offset) (v6 := r1.2.1.last_leg) (v7 := r1.2.1.last_word) (v8 := r1.2.1.last_parity) (v9 := r1.2.1.pending) (v10 := r1.2.1.filled) (h0 := oc3.1) (h1 := oc3.2))) <| QJ_then ?_
  obtain ⟨y9, hl7, hK8⟩ := seq_e h
  refine CJ_cutT (X := Int × VolS × ArrS) [2, 4, 5, 6, 17, 18, 19, 20, 21, 22, 23, 24, 25, 26, 27, 28, 29, 30, 31, 32, 33, 34, 35, 36, 37] (fun a13 => ([(4, .int .i64 a13.1)] : Slots)) (fun a13 R => VolP bs bv a13.2.1 :: Arr bs a13.2.2 :: R) (fun a13 => y9 = .inl a13) (Dels.cons del0 (Dels.cons del0 Dels.nil)) ?_ ?_
  ·
   refine CJ_block <| CJ_loopR (X := Nat × ArrS × VolS × Nat × Int) [2, 4, 5, 6, 17, 18, 19, 20, 21, 22, 23, 24, 25, 26, 27, 28, 29, 30, 31, 32, 33, 34, 35, 36, 37] (fun ⟨n, x14, x15, x16, x17⟩ => ([(4, .int .i64 x17), (17, .int .i64 (((x16 : Nat) : Int)))] : Slots)) (fun ⟨n, x14, x15, x16, x17⟩ R => Arr bs x14 :: VolP bs bv x15 :: R) (fun ⟨n, x14, x15, x16, x17⟩ => parityvol_Volume_Flush_l1 r1 n x14 x15 x16 x17 = some y9) (fun ⟨n, x14, x15, x16, x17⟩ => n) ⟨FUEL, r1.2.2, r1.2.1, 0, (0 : Int)⟩ ?_ ?_ (t1_ eR) ?_
   · exact hl7
   · exact ⟨rfl, rfl, True.intro⟩
   ·
    rintro ⟨n, x14, x15, x16, x17⟩ h
    cases n with
    | zero => exact none_e h
    | succ n => ?_
    replace h : parityvol_Volume_Flush_l1_b r1 (parityvol_Volume_Flush_l1 r1 n) x14 x15 x16 x17 = some y9 := h
    unfold parityvol_Volume_Flush_l1_b at h
    show CJ _ _ _ _ _ (([(4, .int .i64 x17), (17, .int .i64 (((x16 : Nat) : Int)))] : Slots) ++ forget _ _) (Arr bs x14 :: VolP bs bv x15 :: _)
    refine sR <| oP (P_lss (a := ((x16 : Nat) : Int)) (b := ((r1.2.1.legs.length : Nat) : Int)) rfl rfl) rfl <| nT <| CJ_seq <| CJ_condP rfl bT_dec (fun hg2 => ?_) (fun hg2 => ?_)
    ·
     replace h := ite_t hg2 h
     refine kT <| CJ_seq <| CJ_block <| sR <| oM rfl rfl <| oA rfl rfl <| nT <| CJ_seq <| CJ_seq <| CJ_entX (Ent.transX (t1_ eR) (VolP_open (l := x15))) fun oc18 => CJ_pure (fun h hh => Rs_len (stars_perm (del2 (A := Rs (DevP bs) (x15.legs.map prtS.dev) oc18.2)).out h hh)) fun hdl20 => lC del1 fun hlen21 => ?_
     rw [mk_prt_len (by have := hdl20; simpa using this)] at hlen21
     refine CJ_region <| oM rfl rfl <| oP (P_nilCheck rfl) rfl <| oP (P_fieldAddr rfl ⟨_, _, _, Tryz.runUnderlying123, rfl, rfl, Tryz.sizeOf119, rfl⟩) rfl <| oV (V_load rfl foc0 rfl Tryz.isAgg119) rfl <| oM rfl rfl ?_
     obtain ⟨hg3, h⟩ := grd_de h
     refine oV (V_index (i := x16) rfl rfl rfl (show x16 < (mk_prt x15.legs oc18.2).length by rw [mk_prt_len (by have := hdl20; simpa using this)]; exact hg3) foc1 (Reads.sl _ _ _) Tryz.runUnderlying119 Tryz.sizeOf126) rfl <| oP (P_fieldE rfl ⟨_, _, _, Tryz.runUnderlying126, rfl, rfl, Tryz.sizeOf4, rfl⟩) rfl <| oV (VJ_eq (V_loadE rfl rfl (show x16 < (mk_prt x15.legs oc18.2).length by rw [mk_prt_len (by have := hdl20; simpa using this)]; exact hg3) foc1 (Reads.sl _ _ _) rfl rfl Tryz.isAgg4) (show (.bool ((x15.legs.getD x16 prt_x0).stale) : Value) = .bool ((mk_prt x15.legs oc18.2).getD x16 prt_h0).stale from by rw [mk_prt_at (by have := hdl20; simpa using this)])) rfl <| RJ_nil <| QJ_ent (Ent.trans eR (VolP_mk (v0 := x15.layout_n) (v1 := x15.layout_chunk) (v2 := x15.layout_rows) (v3 := x15.legs) (v4 := x15.last_seq) (v5 := x15.last_offset) (v6 := x15.last_leg) (v7 := x15.last_word) (v8 := x15.last_parity) (v9 := x15.pending) (v10 := x15.filled) (h0 := oc18.1) (h1 := oc18.2))) <| QJ_then <| CJ_condP rfl Iff.rfl (fun hg4 => ?_) (fun hg4 => ?_)
     ·
      replace h := ite_t hg4 h
      exact CJ_exit <| QJ_then_exit <| QJ_block_here <| QJ_then <| CJ_region <| oP (PJ_eq (P_add (a := ((x16 : Nat) : Int)) (b := (1 : Int)) rfl rfl (by omega)) rfl) rfl <| oM rfl rfl <| RJ_nil <| nR ⟨n, x14, x15, (x16 + 1), x17⟩ h ⟨rfl, rfl, True.intro⟩ (t1_ eR)
     ·
      replace h := ite_f hg4 h
      refine kT <| sR <| oM rfl rfl <| oM rfl rfl ?_
      obtain ⟨r22, hr23, h⟩ := bind_e h
      refine oO <| O_call (L_parityvol_Volume_on__parityvol_Volume_Flush_1 hr23) rfl Tryz.call78 (Dels.cons del0 (Dels.cons del0 Dels.nil)) rfl fun _ _ => oA rfl rfl <| nT <| CJ_seq <| sR <| oM rfl rfl <| oP (P_eql (a := r22.1) (b := (5 : Int)) rfl rfl) rfl <| nT <| CJ_condP rfl bT_dec (fun hg5 => ?_) (fun hg5 => ?_)
      ·
       replace h := ite_t hg5 h
       refine sR <| oM rfl rfl <| oA rfl rfl <| nT <| CJ_ret <| QJ_then_ret <| QJ_block_ret <| QJ_then_ret <| QJ_round_ret <| QJ_block_ret <| QJ_then_ret ?_
       have hE := Option.some.inj h
       replace hE := seq_inr hK8 hE.symm
       subst hE
       exact fE (res1 Tryz.results43 rfl) () eR
      ·
       replace h := ite_f hg5 h
       refine kT <| sR <| oM rfl rfl <| oP (P_eql (a := x17) (b := (0 : Int)) rfl rfl) rfl <| nT <| CJ_condP rfl bT_dec (fun hg6 => ?_) (fun hg6 => ?_)
       ·
        replace h := ite_t hg6 h
        exact CJ_region <| oM rfl rfl <| oA rfl rfl <| RJ_nil <| QJ_block_normal <| QJ_then <| CJ_region <| oP (PJ_eq (P_add (a := ((x16 : Nat) : Int)) (b := (1 : Int)) rfl rfl (by omega)) rfl) rfl <| oM rfl rfl <| RJ_nil <| nR ⟨n, r22.2.2, r22.2.1, (x16 + 1), r22.1⟩ h ⟨rfl, rfl, True.intro⟩ (t1_ eR)
       ·
        replace h := ite_f hg6 h
        exact CJ_skip <| QJ_block_normal <| QJ_then <| CJ_region <| oP (PJ_eq (P_add (a := ((x16 : Nat) : Int)) (b := (1 : Int)) rfl rfl (by omega)) rfl) rfl <| oM rfl rfl <| RJ_nil <| nR ⟨n, r22.2.2, r22.2.1, (x16 + 1), x17⟩ h ⟨rfl, rfl, True.intro⟩ (t1_ eR)
    ·
     replace h := ite_f hg2 h
     exact CJ_exit <| QJ_then_exit <| QJ_round_exit <| QJ_block_here <| cR (x17, x15, x14) (Option.some.inj h).symm ⟨rfl, True.intro⟩ (t1_ eR)
  ·
   rintro a13 hy24
   replace h := seq_inl hK8 hy24
   show CJ _ _ _ _ _ (([(4, .int .i64 a13.1)] : Slots) ++ forget _ _) (VolP bs bv a13.2.1 :: Arr bs a13.2.2 :: _)
   refine sR <| oM rfl rfl <| oA rfl rfl <| nT <| CJ_ret ?_
   cases h
   exact fE (res1 Tryz.results43 rfl) () eR
end Go.Proofs
namespace Go.Proofs
open Go.VG
abbrev xL (d m : Nat) : Dvc := Dvc.span (d : Int) ((0 : Nat) : Int) (m : Int)
structure PC where
  L : Nat
  R : Nat
  c : Nat
  hL : 3 ≤ L ∧ L ≤ 4
  hR : 1 ≤ R ∧ R ≤ 3
  hc : 1 ≤ c ∧ c ≤ 2
def PC.O (C : PC) : Nat := C.R * C.c
def PC.sz (C : PC) : Nat := 16 + C.O
def PC.ns (C : PC) : List Nat := List.replicate C.L C.sz
def PC.D (C : PC) : Nat := (C.L - 1) * C.R * C.c
def parF (L c o : Nat) : Nat := L - 1 - (o / c) % L
def legF (L c a : Nat) : Nat := (L - 1 - (a / c / (L - 1)) % L + 1 + (a / c) % (L - 1)) % L
def offF (L c a : Nat) : Nat := (a / c / (L - 1)) * c + a % c
def PC.par (C : PC) (o : Nat) : Nat := parF C.L C.c o
def PC.leg (C : PC) (a : Nat) : Nat := legF C.L C.c a
def PC.off (C : PC) (a : Nat) : Nat := offF C.L C.c a
def injB (L R c a b : Nat) : Bool := !(decide (3 ≤ L) && decide (1 ≤ R) && decide (1 ≤ c) && decide (a < (L - 1) * R * c) && decide (b < (L - 1) * R * c) && decide (legF L c a = legF L c b) && decide (offF L c a = offF L c b)) || decide (a = b)
theorem injB_all : ∀ L, L < 5 → ∀ R, R < 4 → ∀ c, c < 3 → ∀ a, a < 18 → ∀ b, b < 18 → injB L R c a b = true := by decide +kernel
theorem D_le {L R c : Nat} (h0 : L < 5) (h1 : R < 4) (h2 : c < 3) : (L - 1) * R * c ≤ 18 := by
  have h3 : (L - 1) * R ≤ 3 * 3 := Nat.mul_le_mul (by omega) (by omega)
  have h4 : (L - 1) * R * c ≤ 9 * 2 := Nat.mul_le_mul h3 (by omega)
  exact h4
theorem plc_inj {L R c a b : Nat} (h0 : L < 5) (h1 : 3 ≤ L) (h2 : R < 4) (h3 : 1 ≤ R) (h4 : c < 3) (h5 : 1 ≤ c) (h6 : a < (L - 1) * R * c) (h7 : b < (L - 1) * R * c) (h8 : legF L c a = legF L c b) (h9 : offF L c a = offF L c b) : a = b := by
  have h := injB_all L h0 R h2 c h4 a (Nat.lt_of_lt_of_le h6 (D_le h0 h2 h4)) b (Nat.lt_of_lt_of_le h7 (D_le h0 h2 h4))
  unfold injB at h
  rw [decide_eq_true h1, decide_eq_true h3, decide_eq_true h5, decide_eq_true h6, decide_eq_true h7, decide_eq_true h8, decide_eq_true h9] at h
  simpa using h
section
variable {C : PC} {a b o : Nat}
theorem PC.hO : 1 ≤ C.O ∧ C.O ≤ 6 := by
  have h1 := C.hR
  have h2 := C.hc
  have h3 : C.R = 1 ∨ C.R = 2 ∨ C.R = 3 := by omega
  have h4 : C.c = 1 ∨ C.c = 2 := by omega
  unfold PC.O
  rcases h3 with h3 | h3 | h3 <;> rcases h4 with h4 | h4 <;> rw [h3, h4] <;> decide
theorem PC.hsz : 17 ≤ C.sz ∧ C.sz ≤ 22 := by have := C.hO; unfold PC.sz; omega
theorem PC.len : C.ns.length = C.L := by simp [PC.ns]
theorem PC.nsz {i : Nat} (h : i < C.L) : C.ns.getD i 0 = C.sz := by
  unfold PC.ns
  simp only [List.getD, List.getElem?_replicate, h, if_true]; rfl
theorem PC.inj (ha : a < C.D) (hb : b < C.D) (h1 : C.leg a = C.leg b) (h2 : C.off a = C.off b) : a = b :=
  plc_inj (by have := C.hL; omega) C.hL.1 (by have := C.hR; omega) C.hR.1 (by have := C.hc; omega) C.hc.1 ha hb h1 h2
theorem PC.hD : 1 ≤ C.D ∧ C.D ≤ 18 := by
  have h0 := C.hL
  have h1 := C.hR
  have h2 := C.hc
  have h3 : C.R = 1 ∨ C.R = 2 ∨ C.R = 3 := by omega
  have h4 : C.c = 1 ∨ C.c = 2 := by omega
  have h5 : C.L = 3 ∨ C.L = 4 := by omega
  unfold PC.D
  rcases h3 with h3 | h3 | h3 <;> rcases h4 with h4 | h4 <;> rcases h5 with h5 | h5 <;> rw [h3, h4, h5] <;> decide
end
def xr (f : Nat → UInt64) : Nat → UInt64
  | 0 => 0
  | n + 1 => xr f n ^^^ f n
def upd (f : Nat → UInt64) (k : Nat) (w : UInt64) : Nat → UInt64 := fun i => if i = k then w else f i
def xorL (l : List UInt64) : UInt64 := l.foldl (· ^^^ ·) 0
theorem xorL_snoc {l : List UInt64} {w : UInt64} : xorL (l ++ [w]) = xorL l ^^^ w := by simp [xorL]
theorem xorL_l1 {l : List UInt64} : ∀ (N i : Nat), l.length - i < N → i ≤ l.length → parity_fold__parity_Xor_1_l1 l N i (xorL (l.take i)) = some (xorL l)
  | 0, _, h, _ => absurd h (by omega)
  | N + 1, i, h, hi => by
    have hu : parity_fold__parity_Xor_1_l1 l (N + 1) i (xorL (l.take i)) = parity_fold__parity_Xor_1_l1_b l (parity_fold__parity_Xor_1_l1 l N) i (xorL (l.take i)) := rfl
    rw [hu]
    unfold parity_fold__parity_Xor_1_l1_b parity_Xor_1
    by_cases hlt : i < l.length
    · rw [if_pos (by omega)]; simp only [Option.bind_some]
      have e : xorL (l.take i) ^^^ l.getD i 0 = xorL (l.take (i + 1)) := by rw [getD_take_snoc (d := 0) hlt, xorL_snoc]
      rw [e]
      exact xorL_l1 N (i + 1) (by omega) (by omega)
    · rw [if_neg (by omega), List.take_of_length_le (by omega)]
theorem parXor_eq {l : List UInt64} (hl : l.length ≤ 1000) : parity_Xor l = some (xorL l) := by
  have hF := fuel_big
  unfold parity_Xor parity_fold__parity_Xor_1
  have h := xorL_l1 (l := l) FUEL 0 (by omega) (by omega)
  have e : xorL (l.take 0) = 0 := rfl
  rw [e] at h
  rw [h]; rfl
structure PEn (C : PC) (mz : Nat → Bool) (F : Prop) (K : Nat) (s : ArrS) : Prop where
  ok : ArrOk C.ns K s
  dn : s.down = false
  ms : ∀ e, miss s e = mz e
  fu : ¬ F → s.fuse = 0
structure Gone (C : PC) (mz : Nat → Bool) (F : Prop) (K : Nat) (s : ArrS) : Prop where
  ok : ArrOk C.ns K s
  ms : ∀ e, miss s e = mz e
  f : F
structure Upd (s t : ArrS) (d a : Nat) (v : UInt64) : Prop where
  now : ∀ e b, Go.Proofs.now t e b = if d = e ∧ a = b then v else Go.Proofs.now s e b
  cand : ∀ e b, Go.Proofs.cand t e b = if d = e ∧ a = b then Go.Proofs.cand s e b ++ [v] else Go.Proofs.cand s e b
structure Sam (s t : ArrS) : Prop where
  now : ∀ e b, Go.Proofs.now t e b = Go.Proofs.now s e b
  cand : ∀ e b, Go.Proofs.cand t e b = Go.Proofs.cand s e b
structure Fls (C : PC) (s t : ArrS) (d : Nat) : Prop where
  now : ∀ e b, Go.Proofs.now t e b = Go.Proofs.now s e b
  cand : ∀ e b, e < C.L → b < C.sz → Go.Proofs.cand t e b = if d = e then [Go.Proofs.now s e b] else Go.Proofs.cand s e b
section
variable {C : PC} {mz : Nat → Bool} {F : Prop} {K K' d a : Nat} {s t : ArrS} {v : UInt64}
theorem PEn.mono (h : PEn C mz F K s) (hK : K ≤ K') : PEn C mz F K' s := ⟨h.ok.mono hK, h.dn, h.ms, h.fu⟩
theorem Gone.mono (h : Gone C mz F K s) (hK : K ≤ K') : Gone C mz F K' s := ⟨h.ok.mono hK, h.ms, h.f⟩
theorem PEn.rd (h : PEn C mz F K s) (hd : d < C.L) (ha : a < C.sz) (hm : mz d = false) : (xL d C.sz).rd s (a : Int) = some (now s d a, 0) := by
  have hz := @PC.hsz C
  obtain ⟨h1, h2⟩ := h.ok.rdA (d := d) (a := a) h.dn (by rw [PC.len]; exact hd) (by rw [PC.nsz hd]; exact ha) (by rw [h.ms]; exact hm)
  rw [span_rd (by omega) (by omega), if_pos (by omega)]
  have e : ((0 : Nat) : Int) + (a : Int) = ((a : Nat) : Int) := by omega
  rw [e, h1, h2]
theorem PEn.wr (h : PEn C mz F K s) (hK : K ≤ 900000) (hd : d < C.L) (ha : a < C.sz) (hm : mz d = false) :
    (∃ t, (xL d C.sz).wr s (a : Int) v = some (0, t) ∧ PEn C mz F (K + 1) t ∧ Upd s t d a v) ∨ (∃ t, (xL d C.sz).wr s (a : Int) v = some (5, t) ∧ Gone C mz F K t ∧ Sam s t) := by
  have hz := @PC.hsz C
  have e0 : (xL d C.sz).wr s (a : Int) v = some (wrR s d a, wrS s d a v) := by
    rw [span_wr (by omega) (by omega) (by have := h.ok.wr; omega), if_pos (by omega)]
    have e : ((0 : Nat) : Int) + (a : Int) = ((a : Nat) : Int) := by omega
    rw [e]
  rcases h.ok.wrA (v := v) (d := d) (a := a) (by omega) h.dn (by rw [PC.len]; exact hd) (by rw [PC.nsz hd]; exact ha) (by rw [h.ms]; exact hm) with ⟨-, h2, h3⟩ | ⟨h1, h2, h3⟩
  · rw [h2] at e0
    exact .inl ⟨_, e0, ⟨h3.ok, h3.dn, fun e => by rw [h3.miss]; exact h.ms e, fun hf => by rw [h3.fuse, h.fu hf]⟩, ⟨h3.now, h3.cand⟩⟩
  · rw [h2] at e0
    refine .inr ⟨_, e0, ⟨h3.ok, fun e => by rw [h3.miss]; exact h.ms e, Classical.byContradiction fun hf => ?_⟩, ⟨h3.now, h3.cand⟩⟩
    rw [h.fu hf] at h1; cases h1
theorem PEn.fl (h : PEn C mz F K s) (hK : K ≤ 900000) (hd : d < C.L) (hm : mz d = false) : ∃ t, (xL d C.sz).fl s = some (0, t) ∧ PEn C mz F K t ∧ Fls C s t d := by
  obtain ⟨h1, h2⟩ := h.ok.flA (d := d) h.dn (by rw [PC.len]; exact hd) (by rw [h.ms]; exact hm)
  have e0 : (xL d C.sz).fl s = some (flC s d, flS s d) := span_fl (by have := h.ok.wr; omega)
  rw [h1] at e0
  exact ⟨_, e0, ⟨h2.ok, h2.dn, fun e => by rw [h2.miss]; exact h.ms e, fun hf => by rw [h2.fuse]; exact h.fu hf⟩, ⟨h2.now, fun e b he hb => h2.cand e b (by rw [PC.len]; exact he) (by rw [PC.nsz he]; exact hb)⟩⟩
theorem PEn.now_cand (h : PEn C mz F K s) (hd : d < C.L) (ha : a < C.sz) : now s d a ∈ cand s d a := h.ok.now_cand (by rw [PC.len]; exact hd) (by rw [PC.nsz hd]; exact ha)
theorem writeAll_l1R {x : Dvc} {l : List UInt64} {at_ : Int} {I : Nat → ArrS → Prop} {E : Int → ArrS → Prop} (ha : 0 ≤ at_ ∧ at_ + l.length ≤ 1000000000)
    (hw : ∀ i s, i < l.length → I i s → (∃ t, x.wr s (at_ + (i : Int)) (l.getD i 0) = some (0, t) ∧ I (i + 1) t) ∨ (∃ e t, e ≠ 0 ∧ x.wr s (at_ + (i : Int)) (l.getD i 0) = some (e, t) ∧ E e t)) : ∀ (N i : Nat) (s : ArrS), l.length - i < N → i ≤ l.length → I i s →
    (∃ t, block_WriteAll_l1 x at_ l N s i = some (.inl t) ∧ I l.length t) ∨ (∃ e t, e ≠ 0 ∧ block_WriteAll_l1 x at_ l N s i = some (.inr (e, t)) ∧ E e t)
  | 0, _, _, h, _, _ => absurd h (by omega)
  | N + 1, i, s, h, hi, hI => by
    have hu : block_WriteAll_l1 x at_ l (N + 1) s i = block_WriteAll_l1_b x at_ l (block_WriteAll_l1 x at_ l N) s i := rfl
    rw [hu]
    unfold block_WriteAll_l1_b
    by_cases hlt : i < l.length
    · rw [if_pos (by omega), grd_t (inI64_of (by omega))]
      rcases hw i s hlt hI with ⟨t, h1, h2⟩ | ⟨e, t, h0, h1, h2⟩
      · rw [h1]; simp only [Option.bind_some]
        rw [if_neg (by simp)]
        exact writeAll_l1R ha hw N (i + 1) t (by omega) (by omega) h2
      · rw [h1]; simp only [Option.bind_some]
        rw [if_pos h0]
        exact .inr ⟨e, t, h0, rfl, h2⟩
    · rw [if_neg (by omega)]
      have : i = l.length := by omega
      subst this
      exact .inl ⟨s, rfl, hI⟩
theorem writeAllR {x : Dvc} {l : List UInt64} {at_ m : Int} {I : Nat → ArrS → Prop} {E : Int → ArrS → Prop} (hs : x.size s = some m) (hm : m ≤ 1000000000) (ha : 0 ≤ at_ ∧ at_ + l.length ≤ m)
    (hw : ∀ i s, i < l.length → I i s → (∃ t, x.wr s (at_ + (i : Int)) (l.getD i 0) = some (0, t) ∧ I (i + 1) t) ∨ (∃ e t, e ≠ 0 ∧ x.wr s (at_ + (i : Int)) (l.getD i 0) = some (e, t) ∧ E e t)) (hI : I 0 s) :
    (∃ t, block_WriteAll x at_ l s = some (0, t) ∧ I l.length t) ∨ (∃ e t, e ≠ 0 ∧ block_WriteAll x at_ l s = some (e, t) ∧ E e t) := by
  unfold block_WriteAll
  have hF := fuel_big
  rw [hs]; simp only [Option.bind_some]
  rw [inside_t hm (by omega)]; simp only [Option.bind_some]
  rw [if_neg (by simp)]
  rcases writeAll_l1R (x := x) (l := l) (at_ := at_) (I := I) (E := E) (by omega) hw FUEL 0 s (by omega) (by omega) hI with ⟨t, h1, h2⟩ | ⟨e, t, h0, h1, h2⟩
  · rw [h1, seqO_inl]; exact .inl ⟨t, rfl, h2⟩
  · rw [h1, seqO_inr]; exact .inr ⟨e, t, h0, rfl, h2⟩
end
end Go.Proofs
namespace Go.Proofs
open Go.VG
structure PE where
  off : Nat
  leg : Nat
  w : UInt64
  p : UInt64
def slq (q : UInt64) : Nat := 1 + 3 * (q.toNat % 2)
def hdW (off leg : Nat) : UInt64 := (shl_u64 (to_u64 (off : Int)) 3) ||| (to_u64 (leg : Int))
def legP (C : PC) (st fl : Option Nat) (i : Nat) : prtS := ⟨xL i C.sz, decide (st = some i), decide (fl = some i)⟩
def legsP (C : PC) (st fl : Option Nat) : List prtS := (List.range C.L).map (legP C st fl)
def vol (C : PC) (st fl : Option Nat) (q : UInt64) (e : PE) (p : Bool) (k : Nat) : VolS := ⟨C.L, C.c, C.R, legsP C st fl, q, e.off, e.leg, e.w, e.p, p, k⟩
section
variable {C : PC} {st fl : Option Nat} {q : UInt64} {e : PE} {p : Bool} {k i d o a : Nat} {mz : Nat → Bool} {F : Prop} {K : Nat} {s t : ArrS} {V : Nat → Nat → UInt64}
@[simp] theorem legsP_len : (legsP C st fl).length = C.L := by simp [legsP]
theorem setP {l : List prtS} {j : Nat} {x : prtS} (h : i < l.length) : (l.set i x).getD j prt_x0 = if j = i then x else l.getD j prt_x0 := by
  simp only [List.getD, List.getElem?_set]
  by_cases z : i = j
  · subst z; simp [h]
  · rw [if_neg z, if_neg (fun x => z x.symm)]
theorem on1_ok {er : Int} {v : VolS} {j : Int} (h : er = 0 ∨ er = 5) : parityvol_Volume_on_1 er v j s = some (er, v) := by
  unfold parityvol_Volume_on_1
  rw [if_pos h]
def stI : Option Nat → Int
  | none => -1
  | some k => k
def stR : Option Nat → Unit ⊕ Int
  | none => .inl ()
  | some j => .inr (j : Int)
theorem tdivN {m n : Nat} : ((m : Nat) : Int).tdiv ((n : Nat) : Int) = ((m / n : Nat) : Int) := rfl
theorem tmodN {m n : Nat} : ((m : Nat) : Int).tmod ((n : Nat) : Int) = ((m % n : Nat) : Int) := rfl
theorem wrapN {m : Nat} (h : m ≤ 1000000000) : IntKind.i64.wrap ((m : Nat) : Int) = (m : Int) := wrap64_in (by omega) (by omega)
def Row (C : PC) (st : Option Nat) (s : ArrS) (V : Nat → Nat → UInt64) (o : Nat) : Prop := (∀ d, d < C.L → st ≠ some d → now s d (16 + o) = V d o) ∧ xr (fun d => V d o) C.L = 0
end
end Go.Proofs
namespace Go.Proofs
open Go.VG
def exE (C : PC) (e : PE) (d o : Nat) : Prop := o = e.off ∧ (d = e.leg ∨ d = C.par e.off)
def Al (s : ArrS) (d a : Nat) (P : UInt64 → Prop) : Prop := ∀ c ∈ cand s d a, P c
def bodyW (e : PE) : Nat → UInt64
  | 0 => hdW e.off e.leg
  | 1 => e.w
  | _ => e.p
def Bd (s : ArrS) (d : Nat) (q : UInt64) (e : PE) : Prop := ∀ i, i < 3 → Al s d (slq q + i) (· = bodyW e i)
structure Lg (C : PC) (V : Nat → Nat → UInt64) (qo : UInt64) (e : PE) (q : UInt64) (e' : PE) (hp hn : UInt64 → Prop) (x : Nat → Nat → Prop) (nwP : Prop) (bn : Nat) (bc : Prop) (s : ArrS) (d : Nat) : Prop where
  hd : Al s d 0 hp
  hn : hn (now s d 0)
  bd : qo ≠ 0 → Bd s d qo e
  dt : ∀ o, o < C.O → ¬ x d o → Al s d (16 + o) (· = V d o)
  nw : nwP → ∀ o, o < C.O → now s d (16 + o) = V d o
  nb : ∀ i, i < bn → now s d (slq q + i) = bodyW e' i
  nc : bc → Bd s d q e'
theorem sl_le {q : UInt64} : 1 ≤ slq q ∧ slq q ≤ 4 := by unfold slq; omega
theorem sl_ne {a b : UInt64} (h : slq a ≠ slq b) {i j : Nat} (hi : i < 3) (hj : j < 3) : slq a + i ≠ slq b + j := by unfold slq at *; omega
section
variable {C : PC} {V V' : Nat → Nat → UInt64} {st fl : Option Nat} {qo q : UInt64} {e e' : PE} {hp hn hp' hn' : UInt64 → Prop} {x x' : Nat → Nat → Prop} {nwP nwP' bc bc' : Prop} {bn bn' p k i d f o a : Nat} {mz : Nat → Bool} {F : Prop} {K K' : Nat} {s t : ArrS} {v : UInt64} {pd : Bool}
theorem Lg.frame (h : Lg C V qo e q e' hp hn x nwP bn bc s d) (h1 : ∀ b, now t d b = now s d b) (h2 : ∀ b, b < C.sz → cand t d b = cand s d b) : Lg C V qo e q e' hp hn x nwP bn bc t d := by
  have hO := @PC.hO C
  have hsz : C.sz = 16 + C.O := rfl
  have s1 := @sl_le qo
  have s2 := @sl_le q
  refine ⟨fun c hc => h.hd c ?_, by rw [h1]; exact h.hn, fun z i hi c hc => h.bd z i hi c ?_, fun o ho hx c hc => h.dt o ho hx c ?_, fun z o ho => by rw [h1]; exact h.nw z o ho, fun i hi => by rw [h1]; exact h.nb i hi, fun z i hi c hc => h.nc z i hi c ?_⟩
  · rw [h2 0 (by omega)] at hc; exact hc
  · rw [h2 _ (by omega)] at hc; exact hc
  · rw [h2 _ (by omega)] at hc; exact hc
  · rw [h2 _ (by omega)] at hc; exact hc
theorem Lg.body (h : Lg C V qo e q e' hp hn x nwP i bc s d) (hsl : qo ≠ 0 → slq qo ≠ slq q) (hi : i < 3) (hu : Upd s t d (slq q + i) (bodyW e' i)) : Lg C V qo e q e' hp hn x nwP (i + 1) bc t d := by
  have s2 := @sl_le q
  have hn1 : ∀ b, b ≠ slq q + i → now t d b = now s d b := fun b hb => by rw [hu.now, if_neg (fun z => hb z.2.symm)]
  have hc1 : ∀ b, b ≠ slq q + i → cand t d b = cand s d b := fun b hb => by rw [hu.cand, if_neg (fun z => hb z.2.symm)]
  refine ⟨fun c hc => h.hd c (by rw [hc1 0 (by omega)] at hc; exact hc), by rw [hn1 0 (by omega)]; exact h.hn, fun z j hj c hc => h.bd z j hj c (by rw [hc1 _ (sl_ne (hsl z) hj hi)] at hc; exact hc), fun o ho hx c hc => h.dt o ho hx c (by rw [hc1 _ (by omega)] at hc; exact hc), fun z o ho => by rw [hn1 _ (by omega)]; exact h.nw z o ho, fun j hj => ?_, fun z j hj c hc => ?_⟩
  · by_cases e : j = i
    · rw [hu.now, if_pos ⟨rfl, by rw [e]⟩, e]
    · rw [hn1 _ (by omega)]; exact h.nb j (by omega)
  · rw [hu.cand] at hc
    split at hc
    · rename_i z2
      have : i = j := by omega
      subst this
      rcases List.mem_append.1 hc with y | y
      · exact h.nc z i hj c y
      · exact List.mem_singleton.1 y
    · exact h.nc z j hj c hc
theorem Lg.word (hbn : bn ≤ 3) (h : Lg C V qo e q e' hp hn x False bn bc s d) (hx : x d o) (hu : Upd s t d (16 + o) v) : Lg C V qo e q e' hp hn x False bn bc t d := by
  have s1 := @sl_le qo
  have s2 := @sl_le q
  have hn1 : ∀ b, b ≠ 16 + o → now t d b = now s d b := fun b hb => by rw [hu.now, if_neg (fun z => hb z.2.symm)]
  have hc1 : ∀ b, b ≠ 16 + o → cand t d b = cand s d b := fun b hb => by rw [hu.cand, if_neg (fun z => hb z.2.symm)]
  refine ⟨fun c hc => h.hd c (by rw [hc1 0 (by omega)] at hc; exact hc), by rw [hn1 0 (by omega)]; exact h.hn, fun z j hj c hc => h.bd z j hj c (by rw [hc1 _ (by omega)] at hc; exact hc), fun b hb hxb c hc => h.dt b hb hxb c ?_, fun z => z.elim, fun j hj => by rw [hn1 _ (by omega)]; exact h.nb j hj, fun z j hj c hc => h.nc z j hj c (by rw [hc1 _ (by omega)] at hc; exact hc)⟩
  have : b ≠ o := fun z => hxb (by rw [z]; exact hx)
  rw [hc1 _ (by omega)] at hc; exact hc
end
end Go.Proofs
namespace Go.Proofs
open Go.VG
section
variable {C : PC} {V V' : Nat → Nat → UInt64} {st fl : Option Nat} {qo q : UInt64} {e e' : PE} {hp hn hp' hn' : UInt64 → Prop} {x x' : Nat → Nat → Prop} {nwP nwP' bc bc' : Prop} {bn bn' k i d f o a : Nat} {mz : Nat → Bool} {F : Prop} {K K' : Nat} {s t : ArrS} {v : UInt64} {p : Bool}
def Ls (C : PC) (st : Option Nat) (P : Nat → Prop) : Prop := ∀ d, d < C.L → st ≠ some d → P d
theorem Ls.imp {P Q : Nat → Prop} (h : Ls C st P) (hi : ∀ d, d < C.L → st ≠ some d → P d → Q d) : Ls C st Q := fun d hd hs => hi d hd hs (h d hd hs)
structure EV (C : PC) (V : Nat → Nat → UInt64) (e : PE) : Prop where
  off : e.off < C.O
  leg : e.leg < C.L
  ne : e.leg ≠ C.par e.off
  w : V e.leg e.off = e.w
  p : V (C.par e.off) e.off = e.p
end
end Go.Proofs
