/- MapperDevices, part 5 of the proof: CMap12, PMapB, CMap13, PMapL, CMap14, PMapA, CMap15, PMapR, CMap16, PMapZ, CMap17, CMap18, CMap19, PMapP, CMap20. -/
import Derived.WalkKit
import Derived.Orders
import Derived.RangeFuncLeaves
import Derived.RangeFuncCalls
import Derived.TacticsIn
import Derived.Handy
import Derived.OrdersHeld
import Derived.OrdersIn
import Derived.Below
import Derived.OpenShut
import Derived.Deep.Slices
import Derived.Scope
import Derived.RangeFuncRecord
import Derived.ChangeKeysEq
import Derived.Laws.BytesArg
import Derived.KernelRfl
import Derived.Maps.RangeRun
import Derived.LaidEql
import Derived.ProofKit
import Derived.ShutString
import Derived.ChangeOld
import Derived.Test.YtbmipeiphoghcaaGreatChecked
import Derived.Test.YtbmipeiphoghcaaGreatRows
import Derived.Test.YtbmipeiphoghcaaGreatZMapperDevices4
set_option linter.unusedSimpArgs false
set_option maxRecDepth 20000
namespace Go.Proofs
open Go.VG
theorem ze2 : ∀ w, (Instr.build 51 (#[] : Array (Nat × Value))).run Tryz.prog w = .ok (.agg #[.bool false, .int .i64 0, .int .u64 0, .int .i64 0]) w := fun w => by kernel_rfl
theorem zgj (v0 : Int) (v1 : (Option Addr)) (v2 : Int) (v3 : Int) (v4 : Int) : ∀ w, (Instr.build 135 (#[(0, .int .i64 v0), (1, .pointer v1), (2, .agg #[.int .i64 v2, .int .i64 v3, .int .u64 v4])] : Array (Nat × Value))).run Tryz.prog w = .ok (.agg #[.int .i64 v0, .pointer v1, .int .i64 v2, .int .i64 v3, .int .u64 v4]) w := fun w => by kernel_rfl
theorem zhg (v0 : Int) (v1 : (Option Addr)) (v2 : Int) (v3 : Int) (v4 : Int) : zby Tryz.prog 109 1 [(0, .agg #[.int .i64 v0, .pointer v1, .int .i64 v2, .int .i64 v3, .int .u64 v4])] 135 [.int .i64 v0, .pointer v1, .int .i64 v2, .int .i64 v3, .int .u64 v4] := fun w => by kernel_rfl
theorem zip (v0 : Int) : ∀ w, (Instr.build 51 (#[(1, .int .i64 v0)] : Array (Nat × Value))).run Tryz.prog w = .ok (.agg #[.bool false, .int .i64 v0, .int .u64 0, .int .i64 0]) w := fun w => by kernel_rfl
theorem zwg {m : Md} {n : ByteArray} (h1 : m.dev n = none) (h2 : (m.find n).isSome = true) : ∃ k, m.find n = some k ∧ (m.at k).isB = true := by
  obtain ⟨k, hk⟩ := Option.isSome_iff_exists.1 h2
  refine ⟨k, hk, ?_⟩
  unfold Md.dev at h1
  rw [hk] at h1
  cases hb : (m.at k).isB with
  | true => rfl
  | false => simp [hb] at h1
theorem ztc {m : Md} {k : Nat} {t : api_Task} (h : (m.at k).isB = true) : m.wayk k t = none := Md.way_base h
theorem zpu {k : Int} : (lookM kinL k).isSome = decide (¬ (k < 1 ∨ 3 < k)) := by
  rw [zmb, Bool.eq_iff_iff, decide_eq_true_iff]
  by_cases h1 : k = 1
  · rw [if_pos h1]; simp; omega
  · by_cases h2 : k = 2
    · rw [if_neg h1, if_pos h2]; simp; omega
    · by_cases h3 : k = 3
      · rw [if_neg h1, if_neg h2, if_pos h3]; simp; omega
      · rw [if_neg h1, if_neg h2, if_neg h3]; simp; omega
theorem zme {m : Md} {n : ByteArray} {k : Nat} {t : api_Task} (h : m.find n = some k) : m.carryN (m.dv.length + 1) n t = m.carryk k t := Md.carryN_dev h
theorem c_Do {W : World} {b : Nat} {c : MH} {m : Md} {n : ByteArray} {t : api_Task} (hwr : m.wr < 100000000) (htk : m.tks + 1 ≤ 100000) (hwl : ∀ i, (m.at i).wait.length < 100000) (hb : -9223372036854775808 ≤ t.At ∧ t.At ≤ 9223372036854775807) :
    CSpec Tryz.prog W 37 [ptr b 0, .string n, .agg #[.int .i64 t.Kind, .int .i64 t.At, .int .u64 (t.Value.toNat : Int)]] [blk b 84 (zax c m), MapR c m] (fun _ : MH => .tuple #[.agg #[.bool (m.doA n t).Done, .int .i64 (m.doA n t).Ticket, .int .u64 ((m.doA n t).Value.toNat : Int), .int .i64 (m.doA n t).Error], .int .i64 (m.doE n t)]) (fun _ => True) (fun c2 F => blk b 84 (zax c2 (m.doS n t)) :: MapR c2 (m.doS n t) :: F) := by
 refine CSpec.of_body Tryz.func37 rfl Tryz.ntmps37 rfl fun F => ?_
 show CJ _ _ _ _ _ _ (_ :: _ :: F)
 refine zbl (zb3 foc1) fun hW => ?_
 have hO := hW.ok
 have hns := Md.names_len (m := m)
 have hln := hW.big.len
 refine sR <| oO <| O_box rfl rfl rfl fun b1 => oO <| zb1 Tryz.zeroValue51 rfl rfl fun b2 => oA rfl rfl <| nT <| sR <| oM rfl rfl <| oP (zae rfl) rfl <| oP (zaa rfl ⟨_, _, _, Tryz.runUnderlying84, rfl, rfl, Tryz.sizeOf82, rfl⟩) rfl <| oV (zah rfl foc2 rfl Tryz.isAgg82) rfl <| oM rfl rfl <| oO (zea rfl rfl foc3 rfl (fun hd4 => ?_) (fun k3 hd4 => ?_))
 ·
  refine oA rfl rfl <| nT <| zaf <| za0 0 (by kernel_rfl) rfl <| aN 0 1 rfl rfl (zag rfl) rfl <| aN 2 5 rfl rfl (zaa rfl ⟨_, _, _, Tryz.runUnderlying33, rfl, rfl, Tryz.sizeOf3, rfl⟩) rfl <| aV 3 13 rfl rfl (zac rfl) (t0_ (t0_ (t0_ (t0_ eR)))) (zah rfl foc1 rfl Tryz.isAgg3) rfl <| AJ_op 1 15 rfl (by kernel_rfl) rfl (zac rfl) <| zaq (zk7) rfl Tryz.call85 Dels.nil rfl fun _ hc6 => ⟨fun _ => (t1_ (t1_ (t1_ (t1_ (eD eR))))), ?_⟩
  refine AJ_op 4 31 rfl (by kernel_rfl) rfl (zac rfl) <| OJ_V (VJ_eq (zj5 (M := mKin b) (k := t.Kind) (out := (fun o => match o with | some f => .func (.func f) #[ptr b 0] #[] | none => .nilFunc)) rfl rfl foc0 zgw Tryz.zeroValue131 (fun _ => rfl) rfl) (show Value.tuple #[(fun o => match o with | some f => .func (.func f) #[ptr b 0] #[] | none => .nilFunc) (lookM kinL t.Kind), .bool (decide (¬ (t.Kind < 1 ∨ 3 < t.Kind)))] = Value.tuple #[(fun o => match o with | some f => .func (.func f) #[ptr b 0] #[] | none => .nilFunc) (lookM kinL t.Kind), .bool (lookM kinL t.Kind).isSome] by rw [zpu])) rfl <| ⟨fun _ => (t1_ (t1_ (t1_ (t1_ (eD eR))))), ?_⟩
  refine aN 5 63 rfl rfl (zag rfl) rfl <| aN 6 127 rfl rfl (zaw rfl rfl) rfl <| aN 7 255 rfl rfl (zaw rfl rfl) rfl <| aN 8 511 rfl rfl (zbc rfl) rfl <| aN 9 1023 rfl rfl (zbc rfl) rfl <| aD <| zaf <| zat <| sR <| oM rfl rfl <| oP (zae rfl) rfl <| oP (zaa rfl ⟨_, _, _, Tryz.runUnderlying84, rfl, rfl, Tryz.sizeOf59, rfl⟩) rfl <| oV (zah rfl foc3 rfl Tryz.isAgg59) rfl <| oM rfl rfl <| oO <| zaq (zch rdOrd (zfl (by first | assumption | omega))) rfl Tryz.call56 (Dels.cons del4 Dels.nil) rfl fun _ hc7 => oP (P_not rfl) rfl <| oA rfl rfl <| nT ?_
  first | (refine zao rfl (fun hg1 => ?_) (fun hg1 => ?_)) | (refine zap rfl (fun hg1 => ?_) (fun hg1 => ?_)) | (refine zar rfl (fun hg1 => ?_) (fun hg1 => ?_))
  ·
   refine sR <| oP (zbm rfl (ze2)) rfl <| oO <| zbn rfl rfl foc2 Tryz.sizeOf51 rfl rfl rfl <| oA rfl rfl <| nT <| zai <| zaj <| zad <| zam (resA2 Tryz.results37 (zce rfl foc2 Tryz.isAgg51 Tryz.sizeOf51 rfl rfl) (zda rfl)) ?_
   have hfn : m.find n = none := by
     cases hf : m.find n with
     | none => rfl
     | some i => exfalso; simp_all [Md.memS_find]
   have e1 := Md.do_none (t := t) hfn
   rw [e1.2.2]
   refine CSpec.close c ?_ ?_ (t4_ (t0_ (eD (eD (eD eR)))))
   · rw [e1.1, e1.2.1]; rfl
   · trivial
  ·
   refine zaf ?_
   have hfs : (m.find n).isSome = true := by
     have hz : (!memS m.names n) = false := by assumption
     simpa [Md.memS_find] using hz
   obtain ⟨kf, hfk, hfB⟩ := zwg hd4 hfs
   refine zak <| oM rfl rfl <| oP (P_not rfl) rfl <| oA rfl rfl <| nT ?_
   first | (refine zao rfl (fun hg2 => ?_) (fun hg2 => ?_)) | (refine zap rfl (fun hg2 => ?_) (fun hg2 => ?_)) | (refine zar rfl (fun hg2 => ?_) (fun hg2 => ?_))
   ·
    have hkd : t.Kind < 1 ∨ 3 < t.Kind := Decidable.byContradiction fun hq => by simp [hq] at hg2
    refine sR <| oP (zbm rfl (ze2)) rfl <| oO <| zbn rfl rfl foc2 Tryz.sizeOf51 rfl rfl rfl <| oA rfl rfl <| nT <| zai <| zaj <| zad <| zam (resA2 Tryz.results37 (zce rfl foc2 Tryz.isAgg51 Tryz.sizeOf51 rfl rfl) (zda rfl)) ?_
    have e1 := Md.do_kind (t := t) hfk hkd
    rw [e1.2.2]
    refine CSpec.close c ?_ ?_ (t4_ (t0_ (eD (eD (eD eR)))))
    · rw [e1.1, e1.2.1]; rfl
    · trivial
   ·
    have hkd : ¬ (t.Kind < 1 ∨ 3 < t.Kind) := fun hq => by simp [hq] at hg2
    refine sR <| oM rfl rfl <| oP (zhy rfl rfl Tryz.underlying85) rfl <| oM rfl rfl <| RJ_gn (GY_no rfl rfl rfl rfl) rfl rfl <| RJ_gn (GY_no rfl rfl rfl rfl) rfl rfl <| RJ_gn (GY_no rfl rfl rfl rfl) rfl rfl <| RJ_gn (GY_no rfl rfl rfl rfl) rfl rfl <| RJ_gn (GY_no rfl rfl rfl rfl) rfl rfl <| oP (zay rfl rfl rfl) rfl <| oM rfl rfl <| RJ_gn (GY_no rfl rfl rfl rfl) rfl rfl <| RJ_gn (GY_no rfl rfl rfl rfl) rfl rfl <| RJ_gn (GY_no rfl rfl rfl rfl) rfl rfl <| RJ_gn (GY_no rfl rfl rfl rfl) rfl rfl <| RJ_gn (GY_no rfl rfl rfl rfl) rfl rfl <| oP (zay rfl rfl rfl) rfl <| oA rfl rfl <| nT <| za5 rfl rfl <| zbk <| zal <| zav <| zaf <| zaf ?_
    have hst : ¬ ((m.at kf).isB = false ∧ (m.at kf).hl = false ∧ (m.at kf).susp = false) := by rw [hfB]; simp
    have hw : m.wayk kf t = none := ztc hfB
    refine zak <| oM rfl rfl <| oP (zhy rfl rfl Tryz.underlying85) rfl <| nT <| za5 rfl rfl <| kT <| sR <| oM rfl rfl <| oM rfl rfl <| oV (zbh rfl foc3 Tryz.isAgg33 Tryz.sizeOf33 rfl rfl) rfl <| oO <| zaq ((zc9 (t := t) hwr hb hfs (by omega))) rfl Tryz.call82 (Dels.cons del4 (Dels.cons del0 Dels.nil)) rfl fun c9 h9 => oO <| zbn rfl rfl foc3 Tryz.sizeOf51 rfl rfl rfl <| oA rfl rfl <| nT <| zai <| zam (resA2 Tryz.results37 (zce rfl foc3 Tryz.isAgg51 Tryz.sizeOf51 rfl rfl) (zda rfl)) ?_
    have e1 := Md.do_go (t := t) hfk hkd hst hw
    rw [e1.2.2]
    have e2 := zme (t := t) hfk
    have e3 : ansN m n t = ⟨true, 0, (m.carryk kf t).1.1, (m.carryk kf t).1.2⟩ := by unfold ansN; rw [e2]
    refine CSpec.close c9 ?_ ?_ (Ent.takeC del0 (by rw [← e2]; exact congrArg (blk b 84) h9.1.symm) (Ent.takeC del0 (by rw [e2]) (eD (eD (eD eR)))))
    · rw [e1.1, e1.2.1, ← e3]; rfl
    · trivial
 ·
  refine oA rfl rfl <| nT <| zaf <| za0 0 (by kernel_rfl) rfl <| aN 0 1 rfl rfl (zag rfl) rfl <| aN 2 5 rfl rfl (zaa rfl ⟨_, _, _, Tryz.runUnderlying33, rfl, rfl, Tryz.sizeOf3, rfl⟩) rfl <| aV 3 13 rfl rfl (zac rfl) (t0_ (t0_ (t0_ (t0_ eR)))) (zah rfl foc1 rfl Tryz.isAgg3) rfl <| AJ_op 1 15 rfl (by kernel_rfl) rfl (zac rfl) <| zaq (zk7) rfl Tryz.call85 Dels.nil rfl fun _ hc10 => ⟨fun _ => (t1_ (t1_ (t1_ (t1_ (eD eR))))), ?_⟩
  refine AJ_op 4 31 rfl (by kernel_rfl) rfl (zac rfl) <| OJ_V (VJ_eq (zj5 (M := mKin b) (k := t.Kind) (out := (fun o => match o with | some f => .func (.func f) #[ptr b 0] #[] | none => .nilFunc)) rfl rfl foc0 zgw Tryz.zeroValue131 (fun _ => rfl) rfl) (show Value.tuple #[(fun o => match o with | some f => .func (.func f) #[ptr b 0] #[] | none => .nilFunc) (lookM kinL t.Kind), .bool (decide (¬ (t.Kind < 1 ∨ 3 < t.Kind)))] = Value.tuple #[(fun o => match o with | some f => .func (.func f) #[ptr b 0] #[] | none => .nilFunc) (lookM kinL t.Kind), .bool (lookM kinL t.Kind).isSome] by rw [zpu])) rfl <| ⟨fun _ => (t1_ (t1_ (t1_ (t1_ (eD eR))))), ?_⟩
  refine aN 5 63 rfl rfl (zag rfl) rfl <| aN 6 127 rfl rfl (zaw rfl rfl) rfl <| aN 7 255 rfl rfl (zaw rfl rfl) rfl <| aN 8 511 rfl rfl (zbc rfl) rfl <| aN 9 1023 rfl rfl (zbc rfl) rfl <| aD <| zaf <| zat <| sR <| oM rfl rfl <| oP (zae rfl) rfl <| oP (zaa rfl ⟨_, _, _, Tryz.runUnderlying84, rfl, rfl, Tryz.sizeOf59, rfl⟩) rfl <| oV (zah rfl foc3 rfl Tryz.isAgg59) rfl <| oM rfl rfl <| oO <| zaq (zch rdOrd (zfl (by first | assumption | omega))) rfl Tryz.call56 (Dels.cons del4 Dels.nil) rfl fun _ hc11 => oP (P_not rfl) rfl <| oA rfl rfl <| nT ?_
  first | (refine zao rfl (fun hg3 => ?_) (fun hg3 => ?_)) | (refine zap rfl (fun hg3 => ?_) (fun hg3 => ?_)) | (refine zar rfl (fun hg3 => ?_) (fun hg3 => ?_))
  ·
   refine sR <| oP (zbm rfl (ze2)) rfl <| oO <| zbn rfl rfl foc2 Tryz.sizeOf51 rfl rfl rfl <| oA rfl rfl <| nT <| zai <| zaj <| zad <| zam (resA2 Tryz.results37 (zce rfl foc2 Tryz.isAgg51 Tryz.sizeOf51 rfl rfl) (zda rfl)) ?_
   have hfn : m.find n = none := by
     cases hf : m.find n with
     | none => rfl
     | some i => exfalso; simp_all [Md.memS_find]
   have e1 := Md.do_none (t := t) hfn
   rw [e1.2.2]
   refine CSpec.close c ?_ ?_ (t4_ (t0_ (eD (eD (eD eR)))))
   · rw [e1.1, e1.2.1]; rfl
   · trivial
  ·
   refine zaf ?_
   have hfs : (m.find n).isSome = true := by
     have hz : (!memS m.names n) = false := by assumption
     simpa [Md.memS_find] using hz
   have hdk := Md.dev_is hd4
   have hfk := hdk.2
   refine zak <| oM rfl rfl <| oP (P_not rfl) rfl <| oA rfl rfl <| nT ?_
   first | (refine zao rfl (fun hg4 => ?_) (fun hg4 => ?_)) | (refine zap rfl (fun hg4 => ?_) (fun hg4 => ?_)) | (refine zar rfl (fun hg4 => ?_) (fun hg4 => ?_))
   ·
    have hkd : t.Kind < 1 ∨ 3 < t.Kind := Decidable.byContradiction fun hq => by simp [hq] at hg4
    refine sR <| oP (zbm rfl (ze2)) rfl <| oO <| zbn rfl rfl foc2 Tryz.sizeOf51 rfl rfl rfl <| oA rfl rfl <| nT <| zai <| zaj <| zad <| zam (resA2 Tryz.results37 (zce rfl foc2 Tryz.isAgg51 Tryz.sizeOf51 rfl rfl) (zda rfl)) ?_
    have e1 := Md.do_kind (t := t) hfk hkd
    rw [e1.2.2]
    refine CSpec.close c ?_ ?_ (t4_ (t0_ (eD (eD (eD eR)))))
    · rw [e1.1, e1.2.1]; rfl
    · trivial
   ·
    have hkd : ¬ (t.Kind < 1 ∨ 3 < t.Kind) := fun hq => by simp [hq] at hg4
    refine sR <| oM rfl rfl <| oP (zgr rfl rfl Tryz.underlying85) rfl <| oM rfl rfl <| gP (zab rfl rfl rfl rfl) (zag rfl) rfl <| gP (zab rfl rfl rfl rfl) (zae rfl) rfl <| gP (zab rfl rfl rfl rfl) (zaa rfl ⟨_, _, _, Tryz.runUnderlying111, rfl, rfl, Tryz.sizeOf4, rfl⟩) rfl <| gV (zab rfl rfl rfl rfl) (zbu (Ent.trans (t0_ eR) (za8 (Md.dev_is hd4).1)) (zah rfl foc0 rfl Tryz.isAgg4)) rfl <| gP (zab rfl rfl rfl rfl) (P_not rfl) rfl <| oP (zas rfl rfl rfl) rfl <| oM rfl rfl ?_
    first | (refine zba 49 rfl (fun hg5B hg5 => ?_) (fun hg5B hg5 => ?_)) | (refine zbb 49 rfl (fun hg5B hg5 => ?_) (fun hg5B hg5 => ?_)) | (refine zbi 49 rfl (fun hg5B => ?_) (fun hg5B => ?_))
    ·
     refine gP (zab rfl rfl rfl hg5B) (zag rfl) rfl <| gP (zab rfl rfl rfl hg5B) (zae rfl) rfl <| gP (zab rfl rfl rfl hg5B) (zaa rfl ⟨_, _, _, Tryz.runUnderlying111, rfl, rfl, Tryz.sizeOf4, rfl⟩) rfl <| gV (zab rfl rfl rfl hg5B) (zbu (Ent.trans (t0_ eR) (za8 (Md.dev_is hd4).1)) (zah rfl foc0 rfl Tryz.isAgg4)) rfl <| gP (zab rfl rfl rfl hg5B) (P_not rfl) rfl <| oP (zas rfl hg5B rfl) rfl <| oA rfl rfl <| nT ?_
     first | (refine zao rfl (fun hg6 => ?_) (fun hg6 => ?_)) | (refine zap rfl (fun hg6 => ?_) (fun hg6 => ?_)) | (refine zar rfl (fun hg6 => ?_) (fun hg6 => ?_))
     ·
      refine sR <| oP (zbm rfl (ze2)) rfl <| oO <| zbn rfl rfl foc2 Tryz.sizeOf51 rfl rfl rfl <| oA rfl rfl <| nT <| zai <| zaj <| zad <| zam (resA2 Tryz.results37 (zce rfl foc2 Tryz.isAgg51 Tryz.sizeOf51 rfl rfl) (zda rfl)) ?_
      have e1 := Md.do_state (t := t) hfk hkd ⟨(Md.dev_is hd4).1.2.2, by simp_all, by simp_all⟩
      rw [e1.2.2]
      refine CSpec.close c ?_ ?_ (t4_ (t0_ (eD (eD (eD eR)))))
      · rw [e1.1, e1.2.1]; rfl
      · trivial
     ·
      refine zbk <| zal <| zav <| zaf <| zaf ?_
      have hst : ¬ ((m.at k3).isB = false ∧ (m.at k3).hl = false ∧ (m.at k3).susp = false) := by simp_all
      refine zak <| oM rfl rfl <| oP (zgr rfl rfl Tryz.underlying85) rfl <| nT <| za4 rfl rfl <| sR <| oM rfl rfl <| oM rfl rfl <| oV (zbh rfl foc3 Tryz.isAgg33 Tryz.sizeOf33 rfl rfl) rfl <| oO <| zaq (zf5 (t := t) (Md.dev_is hd4).1) rfl Tryz.call78 (Dels.cons del4 (Dels.cons del0 Dels.nil)) rfl fun _ hc12 => oA rfl rfl <| nT <| sR <| oM rfl rfl <| oP (zfu rfl rfl Tryz.underlying85) rfl <| nT ?_
      first | (refine zao rfl (fun hg7 => ?_) (fun hg7 => ?_)) | (refine zap rfl (fun hg7 => ?_) (fun hg7 => ?_)) | (refine zar rfl (fun hg7 => ?_) (fun hg7 => ?_))
      ·
       refine zaf ?_
       obtain ⟨w, hw0⟩ := Option.isSome_iff_exists.1 (show (m.wayk k3 t).isSome = true by assumption)
       have hw := hw0
       have hwD : m.isD w := by have := Md.way_is hO _ _ _ _ hdk.1.1 hdk.1.2.1 hw0; exact ⟨this.1, this.2.1, this.2.2.1⟩
       rw [hw0]
       refine zak <| oM rfl rfl <| oP (zae rfl) rfl <| oP (zaa rfl ⟨_, _, _, Tryz.runUnderlying84, rfl, rfl, Tryz.sizeOf3, rfl⟩) rfl <| oV (zah rfl foc0 rfl Tryz.isAgg3) rfl <| oP (P_add rfl rfl (by omega)) rfl <| oP (zae rfl) rfl <| oP (zaa rfl ⟨_, _, _, Tryz.runUnderlying84, rfl, rfl, Tryz.sizeOf3, rfl⟩) rfl <| oO <| zbj rfl rfl foc0 rfl rfl Tryz.sizeOf3 <| nT <| zaf <| zbf (Ent.trans (t1_ eR) (za8 hwD)) <| za0 73728 (by kernel_rfl) rfl <| aN 0 1 rfl rfl (zag rfl) rfl <| aN 1 3 rfl rfl (zag rfl) rfl <| aN 2 7 rfl rfl (zae rfl) rfl <| aN 3 15 rfl rfl (zaa rfl ⟨_, _, _, Tryz.runUnderlying111, rfl, rfl, Tryz.sizeOf109, rfl⟩) rfl <| aV 4 31 rfl rfl (zac rfl) (t0_ (t0_ (t0_ (t0_ (t0_ (t0_ (t0_ (t0_ (t0_ eR))))))))) (zah rfl foc0 rfl Tryz.isAgg109) rfl <| aN 5 63 rfl rfl (zag rfl) rfl <| aN 6 127 rfl rfl (zae rfl) rfl <| aN 7 255 rfl rfl (zaa rfl ⟨_, _, _, Tryz.runUnderlying84, rfl, rfl, Tryz.sizeOf3, rfl⟩) rfl <| aV 8 511 rfl rfl (zac rfl) (t0_ (t0_ (t0_ (t0_ (t0_ (t0_ (t0_ (t0_ (t0_ eR))))))))) (zah rfl foc5 rfl Tryz.isAgg3) rfl <| aN 9 1023 rfl rfl (zag rfl) rfl ?_
       refine aV 10 2047 rfl rfl (zac rfl) (t0_ (t0_ (t0_ (t0_ (t0_ (t0_ (t0_ (t0_ (t0_ eR))))))))) (zbh rfl foc8 Tryz.isAgg33 Tryz.sizeOf33 rfl rfl) rfl <| aN 11 4095 rfl rfl (zbm rfl (zgj _ _ _ _ _)) rfl <| AJ_op 12 8191 rfl (by kernel_rfl) rfl (zac rfl) <| zbe rfl (zhg _ _ _ _ _) rfl fun b13 => ⟨fun _ => (t1_ (t1_ (t1_ (t1_ (t1_ (t1_ (t1_ (t1_ (t1_ (eD eR)))))))))), ?_⟩
       refine AJ_op 13 16383 rfl (by kernel_rfl) rfl (zac rfl) <| zbv (t := tyErr) (bytes := 40) rfl rfl del4 foc0 (Reads.lit (t := tyErr) (ys := [⟨((m.tks + 1 : Nat) : Int), c.bs k3, t⟩]) rfl rfl (by decide) (by decide) rfl) Tryz.underlying109 zgv (by have h8 := hW.big.wl w; simp only [List.length_append, List.length_map, List.length_cons, List.length_nil, maxLen] at *; omega) (by have h8 := hW.big.wl w; simp only [List.length_append, List.length_map, List.length_cons, List.length_nil, maxLen] at *; omega) rfl fun p14 c15 => ⟨fun h => absurd h (by decide), ?_⟩
       refine aN 14 32767 rfl rfl (zae rfl) rfl <| aN 15 65535 rfl rfl (zaa rfl ⟨_, _, _, Tryz.runUnderlying111, rfl, rfl, Tryz.sizeOf109, rfl⟩) rfl <| AJ_op 16 131071 rfl (by kernel_rfl) rfl (zac rfl) <| zbj rfl rfl foc2 rfl rfl Tryz.sizeOf109 <| ⟨fun h => absurd h (by decide), ?_⟩
       refine aD <| sR <| oM rfl rfl <| oP (zae rfl) rfl <| oP (zaa rfl ⟨_, _, _, Tryz.runUnderlying84, rfl, rfl, Tryz.sizeOf3, rfl⟩) rfl <| oV (zah rfl foc6 rfl Tryz.isAgg3) rfl <| oP (zbm rfl (zip _)) rfl <| oO <| zbn rfl rfl foc8 Tryz.sizeOf51 rfl rfl rfl <| oA rfl rfl <| nT <| zai <| zad <| zam (resA2 Tryz.results37 (zce rfl foc8 Tryz.isAgg51 Tryz.sizeOf51 rfl rfl) (zda rfl)) ?_
       have e1 := Md.do_wait (t := t) hfk hkd hst hw
       rw [e1.2.2]
       refine CSpec.close (c.put w { c.hd w with wt := ⟨p14, _, c15⟩ } { m.at w with wait := (m.at w).wait ++ [⟨m.tks + 1, k3, t⟩] }) ?_ ?_ (Ent.trans (Ent.trans (t2_ (t2_ (t2_ (Ent.takeC del0 (by rw [List.map_append]; rfl) (t1_ eR))))) (zcy (h' := { c.hd w with wt := ⟨p14, _, c15⟩ }) (d' := { m.at w with wait := (m.at w).wait ++ [⟨m.tks + 1, k3, t⟩] }) (m' := { m with tks := m.tks + 1 }.addW w ⟨m.tks + 1, k3, t⟩) hW hwD rfl hwD.2.2 rfl rfl rfl (Md.ok_addW hO hwD ⟨hdk.1.1, hdk.1.2.1, hdk.1.2.2, by show 1 ≤ t.Kind; omega, by show t.Kind ≤ 3; omega, (show inT t from hb)⟩) (hW.big.set hwD.1 rfl (by show ((m.at w).wait ++ _).length ≤ _; rw [List.length_append]; have := hwl w; simp; omega) htk hW.big.told hW.big.wr) rfl rfl)) (t2_ (t0_ (eD (eD (eD (eD eR)))))))
       · rw [e1.1, e1.2.1]; rfl
       · trivial
      ·
       refine kT <| zaf ?_
       have hw : m.wayk k3 t = none := by simpa using (show (m.wayk k3 t).isSome = false by assumption)
       refine zak <| oM rfl rfl <| oM rfl rfl <| oV (zbh rfl foc4 Tryz.isAgg33 Tryz.sizeOf33 rfl rfl) rfl <| oO <| zaq ((zc9 (t := t) hwr hb hfs (by omega))) rfl Tryz.call82 (Dels.cons del0 (Dels.cons del0 Dels.nil)) rfl fun c9 h9 => oO <| zbn rfl rfl foc3 Tryz.sizeOf51 rfl rfl rfl <| oA rfl rfl <| nT <| zai <| zam (resA2 Tryz.results37 (zce rfl foc3 Tryz.isAgg51 Tryz.sizeOf51 rfl rfl) (zda rfl)) ?_
       have e1 := Md.do_go (t := t) hfk hkd hst hw
       rw [e1.2.2]
       have e2 := zme (t := t) hfk
       have e3 : ansN m n t = ⟨true, 0, (m.carryk k3 t).1.1, (m.carryk k3 t).1.2⟩ := by unfold ansN; rw [e2]
       refine CSpec.close c9 ?_ ?_ (Ent.takeC del0 (by rw [← e2]; exact congrArg (blk b 84) h9.1.symm) (Ent.takeC del0 (by rw [e2]) (eD (eD (eD eR)))))
       · rw [e1.1, e1.2.1, ← e3]; rfl
       · trivial
    ·
     refine RJ_gn (GY_no rfl rfl rfl hg5B) rfl rfl <| RJ_gn (GY_no rfl rfl rfl hg5B) rfl rfl <| RJ_gn (GY_no rfl rfl rfl hg5B) rfl rfl <| RJ_gn (GY_no rfl rfl rfl hg5B) rfl rfl <| RJ_gn (GY_no rfl rfl rfl hg5B) rfl rfl <| oP (zay rfl hg5B rfl) rfl <| oA rfl rfl <| nT <| za5 rfl rfl <| zbk <| zal <| zav <| zaf <| zaf ?_
     have hst : ¬ ((m.at k3).isB = false ∧ (m.at k3).hl = false ∧ (m.at k3).susp = false) := by simp_all
     refine zak <| oM rfl rfl <| oP (zgr rfl rfl Tryz.underlying85) rfl <| nT <| za4 rfl rfl <| sR <| oM rfl rfl <| oM rfl rfl <| oV (zbh rfl foc3 Tryz.isAgg33 Tryz.sizeOf33 rfl rfl) rfl <| oO <| zaq (zf5 (t := t) (Md.dev_is hd4).1) rfl Tryz.call78 (Dels.cons del4 (Dels.cons del0 Dels.nil)) rfl fun _ hc17 => oA rfl rfl <| nT <| sR <| oM rfl rfl <| oP (zfu rfl rfl Tryz.underlying85) rfl <| nT ?_
     first | (refine zao rfl (fun hg8 => ?_) (fun hg8 => ?_)) | (refine zap rfl (fun hg8 => ?_) (fun hg8 => ?_)) | (refine zar rfl (fun hg8 => ?_) (fun hg8 => ?_))
     ·
      refine zaf ?_
      obtain ⟨w, hw0⟩ := Option.isSome_iff_exists.1 (show (m.wayk k3 t).isSome = true by assumption)
      have hw := hw0
      have hwD : m.isD w := by have := Md.way_is hO _ _ _ _ hdk.1.1 hdk.1.2.1 hw0; exact ⟨this.1, this.2.1, this.2.2.1⟩
      rw [hw0]
      refine zak <| oM rfl rfl <| oP (zae rfl) rfl <| oP (zaa rfl ⟨_, _, _, Tryz.runUnderlying84, rfl, rfl, Tryz.sizeOf3, rfl⟩) rfl <| oV (zah rfl foc0 rfl Tryz.isAgg3) rfl <| oP (P_add rfl rfl (by omega)) rfl <| oP (zae rfl) rfl <| oP (zaa rfl ⟨_, _, _, Tryz.runUnderlying84, rfl, rfl, Tryz.sizeOf3, rfl⟩) rfl <| oO <| zbj rfl rfl foc0 rfl rfl Tryz.sizeOf3 <| nT <| zaf <| zbf (Ent.trans (t1_ eR) (za8 hwD)) <| za0 73728 (by kernel_rfl) rfl <| aN 0 1 rfl rfl (zag rfl) rfl <| aN 1 3 rfl rfl (zag rfl) rfl <| aN 2 7 rfl rfl (zae rfl) rfl <| aN 3 15 rfl rfl (zaa rfl ⟨_, _, _, Tryz.runUnderlying111, rfl, rfl, Tryz.sizeOf109, rfl⟩) rfl <| aV 4 31 rfl rfl (zac rfl) (t0_ (t0_ (t0_ (t0_ (t0_ (t0_ (t0_ (t0_ (t0_ eR))))))))) (zah rfl foc0 rfl Tryz.isAgg109) rfl <| aN 5 63 rfl rfl (zag rfl) rfl <| aN 6 127 rfl rfl (zae rfl) rfl <| aN 7 255 rfl rfl (zaa rfl ⟨_, _, _, Tryz.runUnderlying84, rfl, rfl, Tryz.sizeOf3, rfl⟩) rfl <| aV 8 511 rfl rfl (zac rfl) (t0_ (t0_ (t0_ (t0_ (t0_ (t0_ (t0_ (t0_ (t0_ eR))))))))) (zah rfl foc5 rfl Tryz.isAgg3) rfl <| aN 9 1023 rfl rfl (zag rfl) rfl ?_
      refine aV 10 2047 rfl rfl (zac rfl) (t0_ (t0_ (t0_ (t0_ (t0_ (t0_ (t0_ (t0_ (t0_ eR))))))))) (zbh rfl foc8 Tryz.isAgg33 Tryz.sizeOf33 rfl rfl) rfl <| aN 11 4095 rfl rfl (zbm rfl (zgj _ _ _ _ _)) rfl <| AJ_op 12 8191 rfl (by kernel_rfl) rfl (zac rfl) <| zbe rfl (zhg _ _ _ _ _) rfl fun b18 => ⟨fun _ => (t1_ (t1_ (t1_ (t1_ (t1_ (t1_ (t1_ (t1_ (t1_ (eD eR)))))))))), ?_⟩
      refine AJ_op 13 16383 rfl (by kernel_rfl) rfl (zac rfl) <| zbv (t := tyErr) (bytes := 40) rfl rfl del4 foc0 (Reads.lit (t := tyErr) (ys := [⟨((m.tks + 1 : Nat) : Int), c.bs k3, t⟩]) rfl rfl (by decide) (by decide) rfl) Tryz.underlying109 zgv (by have h8 := hW.big.wl w; simp only [List.length_append, List.length_map, List.length_cons, List.length_nil, maxLen] at *; omega) (by have h8 := hW.big.wl w; simp only [List.length_append, List.length_map, List.length_cons, List.length_nil, maxLen] at *; omega) rfl fun p19 c20 => ⟨fun h => absurd h (by decide), ?_⟩
      refine aN 14 32767 rfl rfl (zae rfl) rfl <| aN 15 65535 rfl rfl (zaa rfl ⟨_, _, _, Tryz.runUnderlying111, rfl, rfl, Tryz.sizeOf109, rfl⟩) rfl <| AJ_op 16 131071 rfl (by kernel_rfl) rfl (zac rfl) <| zbj rfl rfl foc2 rfl rfl Tryz.sizeOf109 <| ⟨fun h => absurd h (by decide), ?_⟩
      refine aD <| sR <| oM rfl rfl <| oP (zae rfl) rfl <| oP (zaa rfl ⟨_, _, _, Tryz.runUnderlying84, rfl, rfl, Tryz.sizeOf3, rfl⟩) rfl <| oV (zah rfl foc6 rfl Tryz.isAgg3) rfl <| oP (zbm rfl (zip _)) rfl <| oO <| zbn rfl rfl foc8 Tryz.sizeOf51 rfl rfl rfl <| oA rfl rfl <| nT <| zai <| zad <| zam (resA2 Tryz.results37 (zce rfl foc8 Tryz.isAgg51 Tryz.sizeOf51 rfl rfl) (zda rfl)) ?_
      have e1 := Md.do_wait (t := t) hfk hkd hst hw
      rw [e1.2.2]
      refine CSpec.close (c.put w { c.hd w with wt := ⟨p19, _, c20⟩ } { m.at w with wait := (m.at w).wait ++ [⟨m.tks + 1, k3, t⟩] }) ?_ ?_ (Ent.trans (Ent.trans (t2_ (t2_ (t2_ (Ent.takeC del0 (by rw [List.map_append]; rfl) (t1_ eR))))) (zcy (h' := { c.hd w with wt := ⟨p19, _, c20⟩ }) (d' := { m.at w with wait := (m.at w).wait ++ [⟨m.tks + 1, k3, t⟩] }) (m' := { m with tks := m.tks + 1 }.addW w ⟨m.tks + 1, k3, t⟩) hW hwD rfl hwD.2.2 rfl rfl rfl (Md.ok_addW hO hwD ⟨hdk.1.1, hdk.1.2.1, hdk.1.2.2, by show 1 ≤ t.Kind; omega, by show t.Kind ≤ 3; omega, (show inT t from hb)⟩) (hW.big.set hwD.1 rfl (by show ((m.at w).wait ++ _).length ≤ _; rw [List.length_append]; have := hwl w; simp; omega) htk hW.big.told hW.big.wr) rfl rfl)) (t2_ (t0_ (eD (eD (eD (eD eR)))))))
      · rw [e1.1, e1.2.1]; rfl
      · trivial
     ·
      refine kT <| zaf ?_
      have hw : m.wayk k3 t = none := by simpa using (show (m.wayk k3 t).isSome = false by assumption)
      refine zak <| oM rfl rfl <| oM rfl rfl <| oV (zbh rfl foc4 Tryz.isAgg33 Tryz.sizeOf33 rfl rfl) rfl <| oO <| zaq ((zc9 (t := t) hwr hb hfs (by omega))) rfl Tryz.call82 (Dels.cons del0 (Dels.cons del0 Dels.nil)) rfl fun c9 h9 => oO <| zbn rfl rfl foc3 Tryz.sizeOf51 rfl rfl rfl <| oA rfl rfl <| nT <| zai <| zam (resA2 Tryz.results37 (zce rfl foc3 Tryz.isAgg51 Tryz.sizeOf51 rfl rfl) (zda rfl)) ?_
      have e1 := Md.do_go (t := t) hfk hkd hst hw
      rw [e1.2.2]
      have e2 := zme (t := t) hfk
      have e3 : ansN m n t = ⟨true, 0, (m.carryk k3 t).1.1, (m.carryk k3 t).1.2⟩ := by unfold ansN; rw [e2]
      refine CSpec.close c9 ?_ ?_ (Ent.takeC del0 (by rw [← e2]; exact congrArg (blk b 84) h9.1.symm) (Ent.takeC del0 (by rw [e2]) (eD (eD (eD eR)))))
      · rw [e1.1, e1.2.1, ← e3]; rfl
      · trivial
end Go.Proofs
namespace Go.Proofs
namespace Md
section
variable {m : Md} {k : Nat} {n : ByteArray}
theorem reach_step {f : Nat} {i : Nat} (hf : m.find n = some i) : m.reach k (f + 1) n = (decide (i = k) || (tbl (m.at i)).any fun t => decide (t.On ≠ noN) && m.reach k f t.On) := by
  rw [reach, hf]; rfl
theorem reach_none {f : Nat} (hf : m.find n = none) : m.reach k f n = false := by
  cases f with
  | zero => rfl
  | succ f => rw [reach, hf]
def Rch (m : Md) (k : Nat) (n : ByteArray) : Prop := ∃ f, m.reach k f n = true
theorem zna {rk : Nat → Nat} (hr : m.Rank rk) : ∀ (f g : Nat) (n : ByteArray), (∀ i, m.find n = some i → rk i < g) → m.reach k f n = true → m.reach k g n = true
  | 0, _, _, _, h => by cases h
  | f + 1, g, n, hn, h => by
    cases hf : m.find n with
    | none => rw [reach_none hf] at h; cases h
    | some i =>
      have h1 := hn i hf
      obtain ⟨g2, rfl⟩ : ∃ g2, g = g2 + 1 := ⟨g - 1, by omega⟩
      rw [reach_step hf, Bool.or_eq_true] at h ⊢
      rcases h with h | h
      · exact .inl h
      · right
        obtain ⟨t, h2, h3⟩ := List.any_eq_true.1 h
        rw [Bool.and_eq_true] at h3
        refine List.any_eq_true.2 ⟨t, h2, ?_⟩
        rw [Bool.and_eq_true]
        obtain ⟨h4, h5⟩ := List.findIdx?_eq_some_iff_getElem.1 hf
        have e : m.at i = m.dv[i] := by simp [Md.at, List.getD, h4]
        have hg : (m.at i).gone = false := by rw [e]; have := h5.1; simp [isN] at this; exact this.1
        exact ⟨h3.1, zna hr f g2 t.On (fun j hj => by have := hr i h4 hg t h2 j hj; omega) h3.2⟩
theorem rch_eq (hO : MdOk m) : m.Rch k n ↔ m.reach k (m.dv.length + 1) n = true := by
  obtain ⟨rk, hr, hb⟩ := rank_bd hO.acy
  exact ⟨fun ⟨f, h⟩ => zna hr f _ n (fun i _ => Nat.lt_succ_of_le (hb i)) h, fun h => ⟨_, h⟩⟩
theorem rch_self (hf : m.find n = some k) : m.Rch k n := ⟨1, by rw [reach_step hf]; simp⟩
theorem rch_up {i : Nat} {t : api_Target} (hf : m.find n = some i) (ht : t ∈ tbl (m.at i)) (hne : t.On ≠ noN) (h : m.Rch k t.On) : m.Rch k n := by
  obtain ⟨f, h⟩ := h
  refine ⟨f + 1, ?_⟩
  rw [reach_step hf, Bool.or_eq_true]
  exact .inr (List.any_eq_true.2 ⟨t, ht, by rw [Bool.and_eq_true]; exact ⟨by simpa using hne, h⟩⟩)
theorem closed_no (hO : MdOk m) (hk : m.isDx k) {P : ByteArray → Prop} (hP : ∀ y, P y → y ≠ (m.at k).name ∧ ∀ i, m.dev y = some i → ∀ t ∈ tbl (m.at i), t.On ≠ noN → P t.On ∨ m.dev t.On = none) : ∀ f n, (P n ∨ m.dev n = none) → m.reach k f n = false
  | 0, _, _ => rfl
  | f + 1, n, h => by
    cases hf : m.find n with
    | none => exact reach_none hf
    | some i =>
      rw [reach_step hf, Bool.or_eq_false_iff]
      have hn : (m.at i).name = n := by
        obtain ⟨h1, h2, _⟩ := List.findIdx?_eq_some_iff_getElem.1 hf
        have e : m.at i = m.dv[i] := by simp [Md.at, List.getD, h1]
        simp [isN] at h2
        rw [e]; exact h2.2
      cases hb : (m.at i).isB with
      | true =>
        obtain ⟨g1, g2, _⟩ := hO.bas i hb
        refine ⟨decide_eq_false (fun e => by rw [e, hk.2.2] at hb; cases hb), ?_⟩
        unfold tbl; rw [g1, g2]; rfl
      | false =>
        have hd : m.dev n = some i := by unfold dev; rw [hf]; simp [hb]
        rcases h with h | h
        · obtain ⟨h1, h2⟩ := hP n h
          refine ⟨decide_eq_false (fun e => h1 (by rw [← hn, e])), ?_⟩
          rw [Bool.eq_false_iff]
          intro h3
          obtain ⟨t, h4, h5⟩ := List.any_eq_true.1 h3
          rw [Bool.and_eq_true] at h5
          have := closed_no hO hk hP f t.On (h2 i hd t h4 (by simpa using h5.1))
          rw [this] at h5; cases h5.2
        · rw [hd] at h; cases h
end
end Md
def qT (d : Dv) (i : Nat) : List ByteArray := if i = 0 then [] else if i = 1 then tuses d.live else tuses d.live ++ tuses d.new
theorem zwh {d : Dv} {i : Nat} (hi : i < 2) : qT d i ++ tuses (([d.live, d.new] : List (List api_Target)).getD i []) = qT d (i + 1) := by
  rcases (by omega : i = 0 ∨ i = 1) with rfl | rfl
  · simp [qT]
  · simp [qT]
theorem nam_tuses {l : List api_Target} {n : ByteArray} : n ∈ tuses l ↔ ∃ t ∈ l, t.On = n ∧ n ≠ noN := by
  rw [← mem_memS]
  unfold tuses
  have key : ∀ (l : List api_Target) (o : List ByteArray), memS (zek l o) n = true ↔ memS o n = true ∨ ∃ t ∈ l, t.On = n ∧ n ≠ noN := by
    intro l
    induction l with
    | nil => intro o; simp [zek]
    | cons t l ih =>
      intro o
      simp only [zek]
      rw [ih]
      have e : memS (if t.On = noN ∨ memS o t.On = true then o else o ++ [t.On]) n = true ↔ memS o n = true ∨ (t.On = n ∧ n ≠ noN) := by
        split
        · rename_i h
          constructor
          · exact .inl
          · rintro (h1 | ⟨rfl, h1⟩)
            · exact h1
            · exact h.resolve_left h1
        · rename_i h
          have e2 : memS (o ++ [t.On]) n = true ↔ memS o n = true ∨ t.On = n := by simp [memS]
          rw [e2]
          constructor
          · rintro (h1 | h1)
            · exact .inl h1
            · exact .inr ⟨h1, fun h2 => h (.inl (h1.trans h2))⟩
          · rintro (h1 | h1)
            · exact .inl h1
            · exact .inr h1.1
      rw [e]
      constructor
      · rintro ((h | h) | ⟨t2, h1, h2⟩)
        · exact .inl h
        · exact .inr ⟨t, List.mem_cons_self, h⟩
        · exact .inr ⟨t2, List.mem_cons_of_mem _ h1, h2⟩
      · rintro (h | ⟨t2, h1, h2⟩)
        · exact .inl (.inl h)
        · rcases List.mem_cons.1 h1 with rfl | h1
          · exact .inl (.inr h2)
          · exact .inr ⟨t2, h1, h2⟩
  rw [key]; simp [memS]
theorem qT_mem {d : Dv} {t : api_Target} (ht : t ∈ Md.tbl d) (hne : t.On ≠ noN) : t.On ∈ qT d 2 := by
  show _ ∈ tuses d.live ++ tuses d.new
  rcases List.mem_append.1 ht with h | h
  · exact List.mem_append.2 (.inl (nam_tuses.2 ⟨t, h, rfl, hne⟩))
  · exact List.mem_append.2 (.inr (nam_tuses.2 ⟨t, h, rfl, hne⟩))
theorem qT_tbl {d : Dv} {n : ByteArray} (h : n ∈ qT d 2) : ∃ t ∈ Md.tbl d, t.On = n ∧ n ≠ noN := by
  rcases List.mem_append.1 (show n ∈ tuses d.live ++ tuses d.new from h) with h | h
  · obtain ⟨t, h1, h2⟩ := nam_tuses.1 h; exact ⟨t, List.mem_append.2 (.inl h1), h2⟩
  · obtain ⟨t, h1, h2⟩ := nam_tuses.1 h; exact ⟨t, List.mem_append.2 (.inr h1), h2⟩
end Go.Proofs
set_option linter.unusedSimpArgs false
set_option maxRecDepth 20000
namespace Go.Proofs
open Go.VG
def MetIn (mt : List (ByteArray × Bool)) (n : ByteArray) : Prop := ∃ b, (n, b) ∈ mt
structure Bel (m : Md) (k : Nat) (ls q : List ByteArray) (mt : List (ByteArray × Bool)) : Prop where
  seen : ∀ u ∈ ls, MetIn mt u ∨ u ∈ q ∨ m.dev u = none
  clos : ∀ y, MetIn mt y → y ≠ (m.at k).name ∧ ∀ i, m.dev y = some i → ∀ t ∈ Md.tbl (m.at i), t.On ≠ noN → MetIn mt t.On ∨ t.On ∈ q ∨ m.dev t.On = none
  from_ : ∀ x ∈ q, m.Rch k x → ∃ u ∈ ls, m.Rch k u
  tr : ∀ p ∈ mt, p.2 = true ∧ (m.dev p.1).isSome = true
  nd : (mt.map (·.1)).Nodup
  ql : q.length ≤ 1000 + 200 * mt.length
section
variable {m : Md} {k : Nat} {ls q : List ByteArray} {mt : List (ByteArray × Bool)}
theorem Bel.start (h : ls.length ≤ 1000) : Bel m k ls ls [] := ⟨fun u hu => .inr (.inl hu), (fun y ⟨b, hb⟩ => by cases hb), fun x hx hr => ⟨x, hx, hr⟩, (fun p hp => by cases hp), List.nodup_nil, by simpa using h⟩
theorem zpv (hn : (mt.map (·.1)).Nodup) {n : ByteArray} : MetIn mt n ↔ (lookM mt n).isSome = true := by
  constructor
  · rintro ⟨b, hb⟩
    obtain ⟨i, hi, e⟩ := List.getElem_of_mem hb
    have := zqx hn (show mt[i]? = some (n, b) by rw [List.getElem?_eq_getElem hi, e])
    rw [this]; rfl
  · intro h
    obtain ⟨b, hb⟩ := Option.isSome_iff_exists.1 h
    obtain ⟨i, hi⟩ := zl9 hb
    exact ⟨b, List.mem_of_getElem? hi⟩
theorem zq0 : ∀ (l : List (ByteArray × Bool)), (∀ p ∈ l, ∃ j, m.dev p.1 = some j) → (l.map (·.1)).Nodup → (l.filterMap fun p => m.dev p.1).Nodup ∧ (l.filterMap fun p => m.dev p.1).length = l.length := by
  intro l
  induction l with
  | nil => intro _ _; exact ⟨List.nodup_nil, rfl⟩
  | cons p l ih =>
    intro h2 h3
    rw [List.map_cons, List.nodup_cons] at h3
    obtain ⟨j, hj⟩ := h2 p List.mem_cons_self
    obtain ⟨g1, g2⟩ := ih (fun q hq => h2 q (List.mem_cons_of_mem _ hq)) h3.2
    rw [show (p :: l).filterMap (fun p : ByteArray × Bool => m.dev p.1) = j :: l.filterMap (fun p : ByteArray × Bool => m.dev p.1) from List.filterMap_cons_some hj]
    refine ⟨List.nodup_cons.2 ⟨fun h4 => ?_, g1⟩, by simp [g2]⟩
    obtain ⟨q, h5, h6⟩ := List.mem_filterMap.1 h4
    have e1 := (Md.dev_is hj).2
    have e2 := (Md.dev_is h6).2
    have e3 : p.1 = q.1 := by rw [← (Md.find_lt e1).2.2, ← (Md.find_lt e2).2.2]
    exact h3.1 (e3 ▸ List.mem_map.2 ⟨q, h5, rfl⟩)
theorem met_le (h : ∀ p ∈ mt, p.2 = true ∧ (m.dev p.1).isSome = true) (hn : (mt.map (·.1)).Nodup) : mt.length ≤ m.dv.length := by
  obtain ⟨g1, g2⟩ := zq0 mt (fun p hp => Option.isSome_iff_exists.1 (h p hp).2) hn
  rw [← g2]
  refine Nat.le_of_lt_succ (is_lt (i := m.dv.length) g1 (fun j hj => ?_) (fun hj => ?_) (Nat.lt_succ_self _))
  · obtain ⟨q, _, h6⟩ := List.mem_filterMap.1 hj
    exact Nat.lt_succ_of_lt (Md.dev_is h6).1.1
  · obtain ⟨q, _, h6⟩ := List.mem_filterMap.1 hj
    exact Nat.lt_irrefl _ (Md.dev_is h6).1.1
theorem met_lt (h : ∀ p ∈ mt, p.2 = true ∧ (m.dev p.1).isSome = true) (hn : (mt.map (·.1)).Nodup) {n : ByteArray} {i : Nat} (hi : m.dev n = some i) (hnm : ¬ MetIn mt n) : mt.length < m.dv.length := by
  have h1 : ∀ p ∈ mt, ∃ j, m.dev p.1 = some j := fun p hp => Option.isSome_iff_exists.1 (h p hp).2
  obtain ⟨g1, g2⟩ := zq0 mt h1 hn
  rw [← g2]
  refine is_lt g1 (fun j hj => ?_) (fun hj => ?_) (Md.dev_is hi).1.1
  · obtain ⟨q, _, h6⟩ := List.mem_filterMap.1 hj
    exact (Md.dev_is h6).1.1
  · obtain ⟨q, h5, h6⟩ := List.mem_filterMap.1 hj
    have e3 : n = q.1 := by rw [← (Md.find_lt (Md.dev_is hi).2).2.2, ← (Md.find_lt (Md.dev_is h6).2).2.2]
    exact hnm ⟨q.2, by rw [e3]; exact h5⟩
variable {x : ByteArray} {r : List ByteArray}
theorem Bel.skip (h : Bel m k ls (x :: r) mt) (hx : m.dev x = none ∨ MetIn mt x) : Bel m k ls r mt := by
  have hq : ∀ u, MetIn mt u ∨ u ∈ x :: r ∨ m.dev u = none → MetIn mt u ∨ u ∈ r ∨ m.dev u = none := fun u hu => by
    rcases hu with h1 | h1 | h1
    · exact .inl h1
    · rcases List.mem_cons.1 h1 with rfl | h1
      · rcases hx with h2 | h2
        · exact .inr (.inr h2)
        · exact .inl h2
      · exact .inr (.inl h1)
    · exact .inr (.inr h1)
  have hl := h.ql
  rw [List.length_cons] at hl
  exact ⟨fun u hu => hq u (h.seen u hu), fun y hy => ⟨(h.clos y hy).1, fun i hi t ht hne => hq _ ((h.clos y hy).2 i hi t ht hne)⟩, fun y hy => h.from_ y (List.mem_cons_of_mem _ hy), h.tr, h.nd, by omega⟩
theorem Bel.meet (hO : MdOk m) (h : Bel m k ls (x :: r) mt) {i : Nat} (hi : m.dev x = some i) (hne : x ≠ (m.at k).name) (hnm : ¬ MetIn mt x) : Bel m k ls (r ++ qT (m.at i) 2) (mt ++ [(x, true)]) := by
  have hin : ∀ u, MetIn mt u → MetIn (mt ++ [(x, true)]) u := fun u ⟨b, hb⟩ => ⟨b, List.mem_append.2 (.inl hb)⟩
  have hq : ∀ u, MetIn mt u ∨ u ∈ x :: r ∨ m.dev u = none → MetIn (mt ++ [(x, true)]) u ∨ u ∈ r ++ qT (m.at i) 2 ∨ m.dev u = none := fun u hu => by
    rcases hu with h1 | h1 | h1
    · exact .inl (hin u h1)
    · rcases List.mem_cons.1 h1 with rfl | h1
      · exact .inl ⟨true, by simp⟩
      · exact .inr (.inl (List.mem_append.2 (.inl h1)))
    · exact .inr (.inr h1)
  refine ⟨fun u hu => hq u (h.seen u hu), fun y hy => ?_, fun y hy hr => ?_, fun p hp => ?_, ?_, ?_⟩
  · obtain ⟨b, hb⟩ := hy
    rcases List.mem_append.1 hb with hb | hb
    · exact ⟨(h.clos y ⟨b, hb⟩).1, fun j hj t ht h1 => hq _ ((h.clos y ⟨b, hb⟩).2 j hj t ht h1)⟩
    · rw [List.mem_singleton] at hb
      obtain ⟨rfl, rfl⟩ := Prod.mk.inj hb
      refine ⟨hne, fun j hj t ht h1 => ?_⟩
      rw [hi] at hj; cases hj
      exact .inr (.inl (List.mem_append.2 (.inr (qT_mem ht h1))))
  · rcases List.mem_append.1 hy with hy | hy
    · exact h.from_ y (List.mem_cons_of_mem _ hy) hr
    · obtain ⟨t, h1, rfl, h3⟩ := qT_tbl hy
      exact h.from_ x List.mem_cons_self (Md.rch_up (Md.dev_is hi).2 h1 h3 hr)
  · rcases List.mem_append.1 hp with hp | hp
    · exact h.tr p hp
    · rw [List.mem_singleton] at hp; subst hp; exact ⟨rfl, by rw [hi]; rfl⟩
  · rw [List.map_append, List.nodup_append]
    refine ⟨h.nd, by simp, fun a ha b hb he => ?_⟩
    simp at hb; subst hb
    obtain ⟨p, h1, h2⟩ := List.mem_map.1 ha
    exact hnm ⟨p.2, by rw [← he, ← h2]; exact h1⟩
  · have h1 := h.ql
    have h2 := (zb0 (hO.chk i).1).1
    have h3 := (zb0 (hO.chk i).2).1
    have h4 := zd6 (m.at i).live
    have h5 := zd6 (m.at i).new
    have h6 : (qT (m.at i) 2).length = (tuses (m.at i).live).length + (tuses (m.at i).new).length := by show (tuses _ ++ tuses _).length = _; simp
    rw [List.length_cons] at h1
    rw [List.length_append, List.length_append, h6]
    simp; omega
theorem Bel.found (hO : MdOk m) (hk : m.isD k) (h : Bel m k ls (x :: r) mt) (he : x = (m.at k).name) : ls.any (fun u => m.reach k (m.dv.length + 1) u) = true := by
  obtain ⟨u, h1, h2⟩ := h.from_ x List.mem_cons_self (Md.rch_self (by rw [he]; exact Md.at_find hO hk.1 hk.2.1))
  exact List.any_eq_true.2 ⟨u, h1, (Md.rch_eq hO).1 h2⟩
theorem Bel.none (hO : MdOk m) (hk : m.isD k) (h : Bel m k ls [] mt) : ls.any (fun u => m.reach k (m.dv.length + 1) u) = false := by
  rw [Bool.eq_false_iff]
  intro h1
  obtain ⟨u, h2, h3⟩ := List.any_eq_true.1 h1
  have := Md.closed_no hO hk (P := MetIn mt) (fun y hy => ⟨(h.clos y hy).1, fun i hi t ht hne => by
    rcases (h.clos y hy).2 i hi t ht hne with h4 | h4 | h4
    · exact .inl h4
    · cases h4
    · exact .inr h4⟩) (m.dv.length + 1) u (by
    rcases h.seen u h2 with h4 | h4 | h4
    · exact .inl h4
    · cases h4
    · exact .inr h4)
  rw [this] at h3; cases h3
theorem zux {x : ByteArray} (_hn : (mt.map (·.1)).Nodup) (h : ¬ MetIn mt x) : setM mt x true = mt ++ [(x, true)] := by
  unfold setM
  cases hf : findE mt x 0 with
  | none => rfl
  | some p =>
    obtain ⟨_, h1⟩ := zgg _ _ _ _ _ (show findE mt x 0 = some (p.1, p.2) from hf)
    exact absurd ⟨p.2, List.mem_of_getElem? h1⟩ h
theorem qcons (h : 0 < q.length) : q = q.getD 0 ByteArray.empty :: q.drop 1 := by
  cases q with
  | nil => cases h
  | cons a b => rfl
end
theorem Reads.dropV {α : Type} {A : HP} {t : Ty α} {v : Value} {xs : List α} (hr : Reads A t v xs) (h : 1 ≤ xs.length) : Reads A t (sliceV t.sz v 1 xs.length) (xs.drop 1) := by
  have := Reads.sliceV (l := 1) (h := xs.length) hr h (Nat.le_refl _)
  rwa [List.take_length] at this
theorem tblRd {c : MH} {m : Md} {k i : Nat} (hk : m.isD k) (hi : i < 2) : Reads (MapR c m) tyapi_Target (([(c.hd k).lv, (c.hd k).nw] : List Sl3).getD i s3z).v (([(m.at k).live, (m.at k).new] : List (List api_Target)).getD i []) := by
  match i, hi with
  | 0, _ => exact zcc hk
  | 1, _ => exact rdNew hk
theorem tblLn {m : Md} {k : Nat} (hO : MdOk m) (i : Nat) : (([(m.at k).live, (m.at k).new] : List (List api_Target)).getD i []).length ≤ 64 := by
  match i with
  | 0 => exact (zb0 (hO.chk k).1).1
  | 1 => exact (zb0 (hO.chk k).2).1
  | i + 2 => simp
theorem ztd {m : Md} {k i : Nat} (hO : MdOk m) : (qT (m.at k) i).length ≤ 128 := by
  have h2 := (zb0 (hO.chk k).1).1
  have h3 := (zb0 (hO.chk k).2).1
  have h4 := zd6 (m.at k).live
  have h5 := zd6 (m.at k).new
  unfold qT
  split
  · simp
  · split
    · omega
    · rw [List.length_append]; omega
theorem zwi {W : World} {b k : Nat} {c : MH} {m : Md} {v : Sl3} {ls : List ByteArray} (hk : m.isD k) (hl : ls.length ≤ 1000) :
    CSpec Tryz.prog W 72 [ptr b 0, ptr (c.bs k) 0, v.v] [sl tyS v.v ls, blk b 84 (zax c m), MapR c m] (fun _ : Unit => .bool (ls.any fun u => m.reach k (m.dv.length + 1) u)) (fun _ => True) (fun _ F => blk b 84 (zax c m) :: MapR c m :: F) := by
 refine CSpec.of_body Tryz.func72 rfl Tryz.ntmps72 rfl fun F => ?_
 show CJ _ _ _ _ _ _ (_ :: _ :: _ :: F)
 refine zbl (zb3 foc2) fun hW => ?_
 have hO := hW.ok
 have hns := Md.names_len (m := m)
 have hln := hW.big.len
 refine sR <| oA rfl rfl <| nT <| sR <| oO <| zf9 mMet rfl fun b1 => oA rfl rfl <| nT <| zaf <| zat <| zbs (X := Sl3 × List ByteArray × List (ByteArray × Bool)) [2, 6, 8, 9, 11, 13, 14, 15, 16, 17, 18, 19, 20, 21, 22, 23, 24, 25, 26, 27, 28, 29, 30, 31, 32, 33, 34, 35, 36, 37, 38, 39, 40, 41, 42, 43, 44, 45, 46, 47, 48, 49, 50, 51, 52, 53, 54, 55] (fun ⟨rv, q, mt⟩  => ([(2, rv.v)] : Slots)) (fun ⟨rv, q, mt⟩ R => sl tyS rv.v q :: mpc mMet b1 mt :: R) (fun ⟨rv, q, mt⟩  => Bel m k ls q mt) (fun ⟨rv, q, mt⟩  => (m.dv.length - mt.length) * 200 + q.length) ⟨v, ls, []⟩ ?_ ?_ (t1_ (t0_ (t0_ (t0_ eR)))) ?_
 · exact Bel.start hl
 · exact ⟨rfl, True.intro⟩
 ·
  rintro ⟨rv, q, mt⟩ hB
  show CJ _ _ _ _ _ (([(2, rv.v)] : Slots) ++ forget _ _) (sl tyS rv.v q :: mpc mMet b1 mt :: _)
  have hql := hB.ql
  have hml := met_le hB.tr hB.nd
  refine zaf <| sR <| oM rfl rfl <| oV (V_len rfl foc0 (Reads.sl _ _ _) Tryz.runUnderlying59) rfl <| oP (P_gtr rfl rfl) rfl <| nT ?_
  first | (refine zao rfl (fun hg1 => ?_) (fun hg1 => ?_)) | (refine zap rfl (fun hg1 => ?_) (fun hg1 => ?_)) | (refine zar rfl (fun hg1 => ?_) (fun hg1 => ?_))
  ·
   refine kT <| zat <| zaf ?_
   have hB2 : Bel m k ls ((q.getD 0 ByteArray.empty) :: q.drop 1) mt := by
     rw [← qcons (q := q) (by omega)]; exact hB
   have hqd : (q.drop 1).length + 1 = q.length := by rw [List.length_drop]; omega
   refine zak <| oM rfl rfl ?_
   first | (refine RJ_op rfl (OJ_V (zan rfl rfl rfl (by omega) foc0 (Reads.sl _ _ _) Tryz.runUnderlying59 Tryz.sizeOf9) rfl ?_)) | (refine RJ_op rfl (OJ_V (zan rfl rfl (Int.toNat_of_nonneg (by omega)).symm (by omega) foc0 (Reads.sl _ _ _) Tryz.runUnderlying59 Tryz.sizeOf9) rfl ?_))
   refine oV (za3 rfl rfl (by omega) foc0 (Reads.sl _ _ _) rfl rfl Tryz.isAgg9) rfl <| oA rfl rfl <| nT <| sR <| oM rfl rfl <| oV (zkz (l := 1) (h := q.length) rfl foc0 (Reads.sl _ _ _) ⟨_, rfl⟩ rfl (by omega) (by omega) Tryz.underlying59 Tryz.sizeOf9) rfl <| oO <| zaq (zuv (v := ⟨_, _, _⟩) (xs := q.drop 1) (Reads.dropV (xs := q) (Reads.sl _ _ _) (by omega)) (by first | assumption | omega)) rfl Tryz.call89 (Dels.cons del0 Dels.nil) rfl fun cx2 hc4 => oA rfl rfl <| nT <| zaf <| sR <| oM rfl rfl <| oM rfl rfl <| oP (zae rfl) rfl <| oP (zaa rfl ⟨_, _, _, Tryz.runUnderlying111, rfl, rfl, Tryz.sizeOf9, rfl⟩) rfl <| oV (zbu (Ent.trans (t4_ eR) (za8 hk)) (zah rfl foc0 rfl Tryz.isAgg9)) rfl <| oP (zcx rfl rfl Tryz.underlying9) rfl <| nT ?_
   first | (refine zao rfl (fun hg2 => ?_) (fun hg2 => ?_)) | (refine zap rfl (fun hg2 => ?_) (fun hg2 => ?_)) | (refine zar rfl (fun hg2 => ?_) (fun hg2 => ?_))
   ·
    refine sR <| oA rfl rfl <| nT <| zai <| zad <| zaj <| zbd <| zaj <| zad <| zam (res1 Tryz.results72 rfl) <| CSpec.close () ?_ ?_ (t3_ (t3_ (eD (eD (eD eR)))))
    · exact bv (Bel.found hO hk hB2 (by assumption)).symm
    · trivial
   ·
    refine kT <| zaf ?_
    have hne : (q.getD 0 ByteArray.empty) ≠ (m.at k).name := by assumption
    refine zak <| oM rfl rfl <| oP (zae rfl) rfl <| oP (zaa rfl ⟨_, _, _, Tryz.runUnderlying84, rfl, rfl, Tryz.sizeOf82, rfl⟩) rfl <| oV (zah rfl foc3 rfl Tryz.isAgg82) rfl <| oM rfl rfl <| oO (zea rfl rfl foc4 rfl (fun hd6 => ?_) (fun k5 hd6 => ?_))
    ·
     refine oA rfl rfl <| nT <| sR <| oM rfl rfl <| oP (zhy rfl rfl Tryz.underlying85) rfl <| oM rfl rfl <| RJ_gn (GY_no rfl rfl rfl rfl) rfl rfl <| RJ_gn (GY_no rfl rfl rfl rfl) rfl rfl <| RJ_gn (GY_no rfl rfl rfl rfl) rfl rfl <| RJ_gn (GY_no rfl rfl rfl rfl) rfl rfl <| oP (zay rfl rfl rfl) rfl <| nT <| za5 rfl rfl <| zbk <| zal <| zbg ⟨cx2, q.drop 1, mt⟩ (by show (m.dv.length - mt.length) * 200 + (q.drop 1).length < (m.dv.length - mt.length) * 200 + q.length; omega) ?_ (by repeat (first | exact Kp.base | exact Kp.self | refine Kp.cons rfl ?_ | refine Kp.forget rfl ?_)) ?_ (t0_ (t1_ (t1_ (t1_ (eD eR)))))
     · exact Bel.skip hB2 (.inl hd6)
     · exact ⟨rfl, True.intro⟩
    ·
     refine oA rfl rfl <| nT <| sR <| oM rfl rfl <| oP (zgr rfl rfl Tryz.underlying85) rfl <| oM rfl rfl <| gP (zab rfl rfl rfl rfl) (zag rfl) rfl <| gP (zab rfl rfl rfl rfl) (zag rfl) rfl <| gV (zab rfl rfl rfl rfl) (zh8 (M := mMet) (k := (q.getD 0 ByteArray.empty)) (out := (fun o => .bool (o.getD false))) rfl rfl foc2 zqr Tryz.zeroValue4 (fun _ => rfl) rfl) rfl <| gP (zab rfl rfl rfl rfl) (P_not rfl) rfl <| oP (zas rfl rfl rfl) rfl <| nT ?_
     first | (refine zao rfl (fun hg3 => ?_) (fun hg3 => ?_)) | (refine zap rfl (fun hg3 => ?_) (fun hg3 => ?_)) | (refine zar rfl (fun hg3 => ?_) (fun hg3 => ?_))
     ·
      refine zaf ?_
      have hnm : ¬ MetIn mt (q.getD 0 ByteArray.empty) := by
        have hz : (!(lookM mt (q.getD 0 ByteArray.empty)).getD false) = true := by assumption
        rw [zpv hB.nd]
        intro hs9
        obtain ⟨b9, hb9⟩ := Option.isSome_iff_exists.1 hs9
        obtain ⟨i9, hi9⟩ := zl9 hb9
        have hb8 := (hB.tr _ (List.mem_of_getElem? hi9)).1
        rw [hb9] at hz
        simp only [Option.getD_some] at hz
        rw [show b9 = true from hb8] at hz; cases hz
      have hmlt := met_lt hB.tr hB.nd hd6 hnm
      have hdk := (Md.dev_is hd6).1
      refine zak <| oM rfl rfl <| oM rfl rfl <| oO <| zfj (M := mMet) (k := (q.getD 0 ByteArray.empty)) (v := true) rfl rfl rfl foc2 zqr <| nT <| sR <| oM rfl rfl <| oO <| zaq (zl8 (Md.dev_is hd6).1) rfl Tryz.call63 (Dels.cons del4 Dels.nil) rfl fun _ hc8 => oV (V_len rfl foc0 (Reads.sl _ _ _) Tryz.runUnderlying119) rfl <| oM rfl rfl <| nT <| zat <| zbs (X := Nat × Sl3) [2, 11, 47, 48, 49, 50, 51, 52, 53, 54, 55] (fun ⟨i, rw9⟩  => ([(47, .int .i64 (i : Nat)), (2, rw9.v)] : Slots)) (fun ⟨i, rw9⟩ R => sl tyS rw9.v (q.drop 1 ++ qT (m.at k5) i) :: R) (fun ⟨i, rw9⟩  => i ≤ 2) (fun ⟨i, rw9⟩  => 2 - i) ⟨0, cx2⟩ ?_ ?_ (Ent.takeC del2 (congrArg (sl tyS _) (by simp [qT])) (t0_ (t0_ (t0_ (t0_ (t0_ eR)))))) ?_
      · exact Nat.zero_le _
      · exact ⟨rfl, rfl, True.intro⟩
      ·
       rintro ⟨i, rw9⟩ hi
       show CJ _ _ _ _ _ (([(47, .int .i64 (i : Nat)), (2, rw9.v)] : Slots) ++ forget _ _) (sl tyS rw9.v (q.drop 1 ++ qT (m.at k5) i) :: _)
       have hn2 : ([(c.hd k5).lv, (c.hd k5).nw] : List Sl3).length = 2 := rfl
       have hq8 := ztd (k := k5) (i := i) hO
       have htl := tblLn (k := k5) hO i
       have htu := zd6 (([(m.at k5).live, (m.at k5).new] : List (List api_Target)).getD i [])
       refine sR <| oP (P_lss rfl rfl) rfl <| nT <| zaf ?_
       first | (refine zao rfl (fun hg4 => ?_) (fun hg4 => ?_)) | (refine zap rfl (fun hg4 => ?_) (fun hg4 => ?_)) | (refine zar rfl (fun hg4 => ?_) (fun hg4 => ?_))
       ·
        refine kT <| zaf <| zat <| sR ?_
        first | (refine RJ_op rfl (OJ_V (zan rfl rfl rfl (by omega) foc1 (Reads.sl _ _ _) Tryz.runUnderlying119 Tryz.sizeOf30) rfl ?_)) | (refine RJ_op rfl (OJ_V (zan rfl rfl (Int.toNat_of_nonneg (by omega)).symm (by omega) foc1 (Reads.sl _ _ _) Tryz.runUnderlying119 Tryz.sizeOf30) rfl ?_))
        refine oV (za3 rfl rfl (by omega) foc1 (Reads.sl _ _ _) rfl rfl Tryz.isAgg30) rfl <| oA rfl rfl <| nT <| zak <| oM rfl rfl <| oM rfl rfl <| oO <| zaq (zfq (tblRd hdk (by omega)) (zi1 (by first | assumption | omega))) rfl Tryz.call69 (Dels.cons del2 Dels.nil) rfl fun _ hc10 => oO <| zbv (t := tyS) (bytes := 16) rfl rfl del2 foc1 (Reads.sl _ _ _) Tryz.underlying59 ziz (by simp only [List.length_append, List.length_cons, List.length_nil, maxLen] at *; omega) (by simp only [List.length_append, List.length_cons, List.length_nil, maxLen] at *; omega) rfl fun p11 c12 => oA rfl rfl <| za9 <| zal <| zav <| zak <| oP (P_add rfl rfl (by omega)) rfl <| oM rfl rfl <| za9 <| zbg ⟨i + 1, ⟨p11, _, c12⟩⟩ (by first | omega | (simp only []; omega)) ?_ (by repeat (first | exact Kp.base | exact Kp.self | refine Kp.cons rfl ?_ | refine Kp.forget rfl ?_)) ?_ (Ent.takeC del0 (congrArg (sl tyS _) (by rw [List.append_assoc, zwh (by omega)])) (t2_ (t0_ (t1_ (t1_ (t1_ (eD eR)))))))
        · omega
        · exact ⟨rfl, rfl, True.intro⟩
       ·
        refine zbt <| za6 <| za7 <| za1 <| zal ?_
        obtain rfl : i = 2 := by omega
        have hq9 := ztd (k := k5) (i := 2) hO
        refine zbg ⟨rw9, q.drop 1 ++ qT (m.at k5) 2, mt ++ [((q.getD 0 ByteArray.empty), true)]⟩ (by show (m.dv.length - (mt ++ [((q.getD 0 ByteArray.empty), true)]).length) * 200 + (q.drop 1 ++ qT (m.at k5) 2).length < (m.dv.length - mt.length) * 200 + q.length; simp only [List.length_append, List.length_cons, List.length_nil]; omega) ?_ (by repeat (first | exact Kp.base | exact Kp.self | refine Kp.cons rfl ?_ | refine Kp.forget rfl ?_)) ?_ (t0_ (Ent.takeC del3 (congrArg (mpc mMet b1) (zux hB.nd hnm)) (t3_ (t1_ (eD (eD eR))))))
        · exact Bel.meet hO hB2 hd6 hne hnm
        · exact ⟨rfl, True.intro⟩
     ·
      refine zbk <| zal <| zbg ⟨cx2, q.drop 1, mt⟩ (by show (m.dv.length - mt.length) * 200 + (q.drop 1).length < (m.dv.length - mt.length) * 200 + q.length; omega) ?_ (by repeat (first | exact Kp.base | exact Kp.self | refine Kp.cons rfl ?_ | refine Kp.forget rfl ?_)) ?_ (t0_ (t1_ (t1_ (t1_ (eD eR)))))
      ·
       refine Bel.skip hB2 <| .inr ?_
       have hz : (!(lookM mt (q.getD 0 ByteArray.empty)).getD false) = false := by assumption
       rw [zpv hB.nd]
       cases hl : lookM mt (q.getD 0 ByteArray.empty) with
       | none => rw [hl] at hz; cases hz
       | some b => rfl
      · exact ⟨rfl, True.intro⟩
  ·
   refine zbt <| za6 <| za7 <| za1 <| zav <| sR <| oA rfl rfl <| nT <| zai <| zam (res1 Tryz.results72 rfl) <| CSpec.close () ?_ ?_ (t2_ (t2_ (eD (eD eR))))
   ·
    obtain rfl : q = [] := List.eq_nil_of_length_eq_zero (by omega)
    exact bv (Bel.none hO hk hB).symm
   · trivial
end Go.Proofs
namespace Go.Proofs
namespace Md
section
variable {m : Md} {k : Nat} {l : List api_Target}
theorem zq1 (hO : MdOk m) {n : ByteArray} {j : Nat} (h : m.find n = some j) : n ≠ noN := by
  obtain ⟨h1, h2, _⟩ := List.findIdx?_eq_some_iff_getElem.1 h
  have e : m.at j = m.dv[j] := by simp [Md.at, List.getD, h1]
  simp only [isN, Bool.and_eq_true, Bool.not_eq_true', decide_eq_true_eq] at h2
  intro hn
  exact hO.nm j h1 (by rw [e]; exact h2.1) (by rw [e, h2.2, hn])
theorem zk8 (hO : MdOk m) {i : Nat} (hi : i < m.dv.length) (hg : (m.at i).gone = false) : m.find (m.at i).name = some i := by
  cases hf : m.find (m.at i).name with
  | none =>
    have := List.findIdx?_eq_none_iff.1 hf m.dv[i] (List.getElem_mem hi)
    have e : m.at i = m.dv[i] := by simp [Md.at, List.getD, hi]
    rw [← e] at this
    simp [isN, hg] at this
  | some j =>
    obtain ⟨h1, h2, _⟩ := List.findIdx?_eq_some_iff_getElem.1 hf
    have e : m.at j = m.dv[j] := by simp [Md.at, List.getD, h1]
    simp only [isN, Bool.and_eq_true, Bool.not_eq_true', decide_eq_true_eq] at h2
    rw [← e] at h2
    rw [hO.uniq j i h1 hi h2.1 hg h2.2]
theorem zte (hO : MdOk m) (hk : m.isDx k) {m' : Md} {d' : Dv} (hd : m'.dv = m.dv.set k d') (hkey : key d' = key (m.at k)) (ht : ∀ t ∈ tbl d', t ∈ tbl (m.at k) ∨ ¬ m.Rch k t.On) : ∃ rk, m'.Rank rk := by
  classical
  obtain ⟨rk, hr, hb⟩ := rank_bd hO.acy
  refine ⟨fun i => if m.Rch k (m.at i).name then rk i + (m.dv.length + 1) else rk i, fun i hi hg t htt j hj => ?_⟩
  rw [find_key (keys_of hd hkey)] at hj
  rw [at_of hk.1 hd] at hg htt
  have hl : m'.dv.length = m.dv.length := by rw [hd]; simp
  have hne := zq1 hO hj
  have hjn : (m.at j).name = t.On := by
    obtain ⟨h1, h2, _⟩ := List.findIdx?_eq_some_iff_getElem.1 hj
    have e : m.at j = m.dv[j] := by simp [Md.at, List.getD, h1]
    simp only [isN, Bool.and_eq_true, Bool.not_eq_true', decide_eq_true_eq] at h2
    rw [e]; exact h2.2
  have hbj := hb j
  show (if m.Rch k (m.at j).name then rk j + (m.dv.length + 1) else rk j) < (if m.Rch k (m.at i).name then rk i + (m.dv.length + 1) else rk i)
  rw [hjn]
  by_cases e : i = k
  · subst e
    rw [if_pos rfl] at hg htt
    rw [if_pos (c := m.Rch i (m.at i).name) (rch_self (zk8 hO hk.1 hk.2.1))]
    rcases ht t htt with h | h
    · have := hr i hk.1 hk.2.1 t h j hj
      split <;> omega
    · rw [if_neg h]; omega
  · rw [if_neg e] at hg htt
    have := hr i (by omega) hg t htt j hj
    by_cases h : m.Rch k t.On
    · have hi2 : m.Rch k (m.at i).name := rch_up (zk8 hO (by omega) hg) htt hne h
      rw [if_pos h, if_pos hi2]; omega
    · rw [if_neg h]
      split <;> omega
theorem ok_load (hO : MdOk m) (hk : m.isDx k) (hc : chk l = 0) (hn : ∀ t ∈ l, t.On ≠ noN → (m.find t.On).isSome = true) (hr : ∀ t ∈ l, t.On ≠ noN → m.reach k (m.dv.length + 1) t.On = false) : MdOk (m.set k { m.at k with new := l, hn := true }) := by
  refine hO.set hk rfl rfl hk.2.2 ⟨(hO.chk k).1, hc⟩ (fun t ht hne => ?_) (zte hO hk rfl rfl fun t ht => ?_) (hO.hl k) (fun h => by cases h) (fun w hw => (hO.org k hk.1 w hw).2)
  · rcases List.mem_append.1 ht with h | h
    · exact hO.nam k hk.1 hk.2.1 t (List.mem_append.2 (.inl h)) hne
    · exact hn t h hne
  · rcases List.mem_append.1 ht with h | h
    · exact .inl (List.mem_append.2 (.inl h))
    · right
      intro h2
      by_cases hne : t.On = noN
      · obtain ⟨f, h3⟩ := h2
        have hf : m.find t.On = none := by
          cases hf : m.find t.On with
          | none => rfl
          | some j => exact absurd hne (zq1 hO hf)
        rw [reach_none hf] at h3; cases h3
      · rw [rch_eq hO, hr t h hne] at h2; cases h2
theorem any_tuses {p : ByteArray → Bool} : (tuses l).any p = l.any fun t => decide (t.On ≠ noN) && p t.On := by
  rw [Bool.eq_iff_iff, List.any_eq_true, List.any_eq_true]
  constructor
  · rintro ⟨n, h1, h2⟩
    obtain ⟨t, h3, rfl, h5⟩ := nam_tuses.1 h1
    exact ⟨t, h3, by rw [h2]; simpa using h5⟩
  · rintro ⟨t, h1, h2⟩
    rw [Bool.and_eq_true] at h2
    exact ⟨t.On, nam_tuses.2 ⟨t, h1, rfl, by simpa using h2.1⟩, h2.2⟩
end
end Md
end Go.Proofs
set_option linter.unusedSimpArgs false
set_option maxRecDepth 20000
namespace Go.Proofs
open Go.VG
theorem ztf {m : Md} {l : List api_Target} (h : ((tuses l).any fun x => ldT m x) = false) {t : api_Target} (ht : t ∈ l) (hne : t.On ≠ noN) : (m.find t.On).isSome = true := by
  have h2 := List.any_eq_false.1 h t.On (nam_tuses.2 ⟨t, ht, rfl, hne⟩)
  unfold ldT at h2
  rw [Md.memS_find] at h2
  cases hs : (m.find t.On).isSome with
  | true => rfl
  | false => rw [hs] at h2; exact absurd rfl h2
theorem zn2 {m : Md} {l : List api_Target} : ((tuses l).any fun x => ldT m x) = l.any fun t => decide (t.On ≠ noN) && (m.find t.On).isNone := by
  rw [Md.any_tuses]
  congr 1; funext t
  unfold ldT
  rw [Md.memS_find]
  cases m.find t.On <;> rfl
theorem zol {m : Md} {k : Nat} {l : List api_Target} : ((tuses l).any fun x => m.reach k (m.dv.length + 1) x) = l.any fun t => decide (t.On ≠ noN) && m.reach k (m.dv.length + 1) t.On := Md.any_tuses
theorem zuy {m : Md} {k : Nat} {l : List api_Target} (h : ((tuses l).any fun x => m.reach k (m.dv.length + 1) x) = false) {t : api_Target} (ht : t ∈ l) (hne : t.On ≠ noN) : m.reach k (m.dv.length + 1) t.On = false := by
  have h2 := List.any_eq_false.1 h t.On (nam_tuses.2 ⟨t, ht, rfl, hne⟩)
  simpa using h2
section
variable {m : Md} {k : Nat} {n : ByteArray} {l : List api_Target}
theorem zuz (h : m.dev n = none) : m.ldE n l = 12 ∧ m.ldS n l = m := by unfold Md.ldE Md.ldS; rw [h]; exact ⟨rfl, rfl⟩
theorem znb (h : m.ldE n l ≠ 0) : m.ldS n l = m := by
  unfold Md.ldS
  cases m.dev n with
  | none => rfl
  | some k => show (if _ then _ else _) = _; rw [if_neg h]
theorem zwj (h : m.dev n = some k) (h1 : chk l ≠ 0) : m.ldE n l = chk l := by unfold Md.ldE; rw [h]; show (if _ then _ else _) = _; rw [if_pos h1]
theorem zu0 (h : m.dev n = some k) (h1 : chk l = 0) (h2 : ((tuses l).any fun x => ldT m x) = true) : m.ldE n l = 12 := by
  rw [zn2] at h2
  unfold Md.ldE; rw [h]; show (if _ then _ else _) = _; rw [if_neg (by simp [h1]), if_pos h2]
theorem ztg (h : m.dev n = some k) (h1 : chk l = 0) (h2 : ((tuses l).any fun x => ldT m x) = false) (h3 : ((tuses l).any fun x => m.reach k (m.dv.length + 1) x) = true) : m.ldE n l = 21 := by
  rw [zn2] at h2
  rw [zol] at h3
  unfold Md.ldE; rw [h]; show (if _ then _ else _) = _; rw [if_neg (by simp [h1]), if_neg (by rw [h2]; decide), if_pos h3]
theorem zpw (h : m.dev n = some k) (h1 : chk l = 0) (h2 : ((tuses l).any fun x => ldT m x) = false) (h3 : ((tuses l).any fun x => m.reach k (m.dv.length + 1) x) = false) : m.ldE n l = if m.fits l then 0 else 1 := by
  rw [zn2] at h2
  rw [zol] at h3
  unfold Md.ldE; rw [h]; show (if _ then _ else _) = _; rw [if_neg (by simp [h1]), if_neg (by rw [h2]; decide), if_neg (by rw [h3]; decide)]
theorem ldS_ok (h : m.dev n = some k) (h1 : m.ldE n l = 0) : m.ldS n l = m.set k { m.at k with new := l, hn := true } := by
  unfold Md.ldS; rw [h]; show (if _ then _ else _) = _; rw [if_pos h1]
end
theorem zwk {W : World} {b q : Nat} {c : MH} {m : Md} {x : ByteArray} :
    CSpec Tryz.prog W 71 [.string x, ptr q 0] [blk q 25 [ptr b 0], blk b 84 (zax c m), MapR c m] (fun _ : Unit => .bool (ldT m x)) (fun _ => True) (fun _ F => blk q 25 [ptr b 0] :: blk b 84 (zax c m) :: MapR c m :: F) := by
 refine CSpec.of_body Tryz.func71 rfl Tryz.ntmps71 rfl fun F => ?_
 show CJ _ _ _ _ _ _ (_ :: _ :: _ :: F)
 refine zbl (zb3 foc2) fun hW => ?_
 have hO := hW.ok
 have hns := Md.names_len (m := m)
 have hln := hW.big.len
 refine sR <| oA rfl rfl <| nT <| sR <| oV (zah rfl foc0 rfl Tryz.isAgg25) rfl <| oP (zae rfl) rfl <| oP (zaa rfl ⟨_, _, _, Tryz.runUnderlying84, rfl, rfl, Tryz.sizeOf59, rfl⟩) rfl <| oV (zah rfl foc1 rfl Tryz.isAgg59) rfl <| oM rfl rfl <| oO <| zaq (zch rdOrd (zfl (by first | assumption | omega))) rfl Tryz.call56 (Dels.cons del2 Dels.nil) rfl fun _ hc1 => oP (P_not rfl) rfl <| oA rfl rfl <| nT <| zai <| zam (res1 Tryz.results71 rfl) <| CSpec.close () ?_ ?_ (t1_ (t1_ (t0_ eR)))
 · exact bv (by unfold ldT; rfl)
 · trivial
theorem zwl {W : World} {b q : Nat} {c : MH} {m : Md} {v : Value} {xs : List ByteArray} {RA : HP} (hR : Reads RA tyS v xs) (hl : xs.length ≤ 100000000) :
    CSpec Tryz.prog W 96 [v, .func (.func 71) #[] #[ptr q 0]] [RA, blk q 25 [ptr b 0], blk b 84 (zax c m), MapR c m] (fun r : Int => .int .i64 r) (fun r => (0 ≤ r ↔ (xs.any fun x => ldT m x) = true)) (fun _ F => RA :: blk q 25 [ptr b 0] :: blk b 84 (zax c m) :: MapR c m :: F) := by
 refine CSpec.of_body Tryz.func96 rfl Tryz.ntmps96 rfl fun F => ?_
 show CJ _ _ _ _ _ _ (_ :: _ :: _ :: _ :: F)
 refine sR <| oA rfl rfl <| nT <| zaf <| sR <| oM rfl rfl <| oV (V_len rfl foc0 hR Tryz.runUnderlying59) rfl <| oM rfl rfl <| nT <| zat <| zbs (X := Nat) [4, 5, 8, 9, 10, 11, 12, 13, 14, 15, 16, 17, 18] (fun i  => ([(8, .int .i64 (i : Nat))] : Slots)) (fun i R => R) (fun i  => i ≤ xs.length ∧ ((xs.take i).any fun x => ldT m x) = false) (fun i  => xs.length - i) (0) ?_ ?_ (t0_ (t0_ (t0_ (t0_ eR)))) ?_
 · exact ⟨Nat.zero_le _, by simp⟩
 · exact ⟨rfl, True.intro⟩
 ·
  intro i hpf
  obtain ⟨hi, hno⟩ := hpf
  show CJ _ _ _ _ _ (([(8, .int .i64 (i : Nat))] : Slots) ++ forget _ _) (_)
  have hmem : i < xs.length → xs.getD i tyS.dflt ∈ xs := fun h => zb9 _ h
  refine sR <| oP (P_lss rfl rfl) rfl <| nT <| zaf ?_
  first | (refine zao rfl (fun hg1 => ?_) (fun hg1 => ?_)) | (refine zap rfl (fun hg1 => ?_) (fun hg1 => ?_)) | (refine zar rfl (fun hg1 => ?_) (fun hg1 => ?_))
  ·
   refine kT <| zaf <| zat <| sR <| oM rfl rfl <| oA rfl rfl <| nT <| sR <| oM rfl rfl <| oM rfl rfl <| oM rfl rfl ?_
   first | (refine RJ_op rfl (OJ_V (zan rfl rfl rfl (by omega) foc0 hR Tryz.runUnderlying59 Tryz.sizeOf9) rfl ?_)) | (refine RJ_op rfl (OJ_V (zan rfl rfl (Int.toNat_of_nonneg (by omega)).symm (by omega) foc0 hR Tryz.runUnderlying59 Tryz.sizeOf9) rfl ?_))
   refine oV (za3 rfl rfl (by omega) foc0 hR rfl rfl Tryz.isAgg9) rfl <| oO <| zdv rfl rfl (zwk) Tryz.call71 (Dels.cons del1 (Dels.cons del1 (Dels.cons del1 Dels.nil))) rfl fun _ hc1 => nT ?_
   first | (refine zao rfl (fun hg2 => ?_) (fun hg2 => ?_)) | (refine zap rfl (fun hg2 => ?_) (fun hg2 => ?_)) | (refine zar rfl (fun hg2 => ?_) (fun hg2 => ?_))
   ·
    refine sR <| oM rfl rfl <| oA rfl rfl <| nT <| zai <| zaj <| zad <| zbd <| zaj <| zad <| zam (res1 Tryz.results96 rfl) <| CSpec.close (i : Int) ?_ ?_ (t3_ (t0_ (t0_ (t0_ eR))))
    · rfl
    · exact ⟨fun _ => List.any_eq_true.2 ⟨_, hmem (by omega), by assumption⟩, fun _ => by omega⟩
   ·
    refine zbk <| zal <| zav <| zak <| oP (P_add rfl rfl (by omega)) rfl <| oM rfl rfl <| za9 <| zbg (i + 1) (by first | omega | (simp only []; omega)) ?_ (by repeat (first | exact Kp.base | exact Kp.self | refine Kp.cons rfl ?_ | refine Kp.forget rfl ?_)) ?_ (t3_ (t0_ (t0_ (t0_ eR))))
    ·
     refine ⟨by omega, ?_⟩
     rw [takeD tyS.dflt (by omega), List.any_append, hno, List.any_cons, List.any_nil, Bool.or_false, Bool.false_or]
     show ldT m (xs.getD i tyS.dflt) = false
     assumption
    · exact ⟨rfl, True.intro⟩
  ·
   refine zbt <| za6 <| za7 <| za1 <| zav <| sR <| oA rfl rfl <| nT <| zai <| zam (res1 Tryz.results96 rfl) <| CSpec.close (-1) ?_ ?_ (t0_ (t0_ (t0_ (t0_ eR))))
   · rfl
   ·
    obtain rfl : i = xs.length := by omega
    rw [List.take_length] at hno
    rw [hno]; simp
theorem zwm {W : World} {b q : Nat} {c : MH} {m : Md} {v : Value} {xs : List ByteArray} {RA : HP} (hR : Reads RA tyS v xs) (hl : xs.length ≤ 100000000) :
    CSpec Tryz.prog W 70 [v, .func (.func 71) #[] #[ptr q 0]] [RA, blk q 25 [ptr b 0], blk b 84 (zax c m), MapR c m] (fun _ : Unit =>   .bool (xs.any fun x => ldT m x)) (fun _ => True) (fun _ F => RA :: blk q 25 [ptr b 0] :: blk b 84 (zax c m) :: MapR c m :: F) := by
 refine CSpec.of_body Tryz.func70 rfl Tryz.ntmps70 rfl fun F => ?_
 show CJ _ _ _ _ _ _ (_ :: _ :: _ :: _ :: F)
 refine sR <| oA rfl rfl <| nT <| sR <| oM rfl rfl <| oM rfl rfl <| oO <| zaq (zwl hR hl) rfl Tryz.call96 (Dels.cons del0 (Dels.cons del0 (Dels.cons del0 (Dels.cons del0 Dels.nil)))) rfl fun r hr => oP (P_geq rfl rfl) rfl <| oA rfl rfl <| nT <| zai <| zam (res1 Tryz.results70 rfl) <| CSpec.close () ?_ ?_ (t0_ (t0_ (t0_ (t0_ eR))))
 · exact bv (by rw [Bool.eq_iff_iff, decide_eq_true_iff]; exact hr)
 · trivial
theorem c_Load {W : World} {b : Nat} {c : MH} {m : Md} {n : ByteArray} {A : HP} {v : Sl3} {l : List api_Target} (hA : Reads A tyapi_Target v.v l) (hl : l.length ≤ 100000000) :
    CSpec Tryz.prog W 28 [ptr b 0, .string n, v.v] [blk b 84 (zax c m), MapR c m, A] (fun _ : MH => .int .i64 (m.ldE n l)) (fun _ => True) (fun c2 F => blk b 84 (zax c2 (m.ldS n l)) :: MapR c2 (m.ldS n l) :: A :: F) := by
 refine CSpec.of_body Tryz.func28 rfl Tryz.ntmps28 rfl fun F => ?_
 show CJ _ _ _ _ _ _ (_ :: _ :: _ :: F)
 refine zbl (zb3 foc1) fun hW => ?_
 have hO := hW.ok
 have hns := Md.names_len (m := m)
 have hln := hW.big.len
 refine sR <| oO <| O_box rfl rfl rfl fun b1 => oA rfl rfl <| nT <| sR <| oV (zah rfl foc0 rfl Tryz.isAgg25) rfl <| oP (zae rfl) rfl <| oP (zaa rfl ⟨_, _, _, Tryz.runUnderlying84, rfl, rfl, Tryz.sizeOf82, rfl⟩) rfl <| oV (zah rfl foc1 rfl Tryz.isAgg82) rfl <| oM rfl rfl <| oO (zea rfl rfl foc2 rfl (fun hd3 => ?_) (fun k2 hd3 => ?_))
 ·
  refine oA rfl rfl <| nT <| zaf <| sR <| oM rfl rfl <| oP (zgs rfl rfl Tryz.underlying85) rfl <| nT <| za4 rfl rfl <| sR <| oA rfl rfl <| nT <| zai <| zad <| zam (res1 Tryz.results28 rfl) ?_
  have e1 : m.ldE n l = 12 ∧ m.ldS n l = m := zuz hd3
  have e2 := e1.2
  rw [e2]
  refine CSpec.close c ?_ ?_ (t1_ (t1_ (t1_ (eD eR))))
  · rw [e1.1]
  · trivial
 ·
  refine oA rfl rfl <| nT <| zaf <| sR <| oM rfl rfl <| oP (zd7 rfl rfl Tryz.underlying85) rfl <| nT <| za5 rfl rfl <| kT <| zaf <| zaf ?_
  have hdk := Md.dev_is hd3
  refine zak <| oM rfl rfl <| oO <| zaq (zhc hA zl2) rfl Tryz.call68 (Dels.cons del3 Dels.nil) rfl fun _ hc4 => oA rfl rfl <| nT <| sR <| oM rfl rfl <| oP (P_neq rfl rfl) rfl <| nT ?_
  first | (refine zao rfl (fun hg1 => ?_) (fun hg1 => ?_)) | (refine zap rfl (fun hg1 => ?_) (fun hg1 => ?_)) | (refine zar rfl (fun hg1 => ?_) (fun hg1 => ?_))
  ·
   refine sR <| oM rfl rfl <| oA rfl rfl <| nT <| zai <| zad <| zam (res1 Tryz.results28 rfl) ?_
   have e1 : m.ldE n l = chk l ∧ m.ldS n l = m := by
     have e3 : m.ldE n l = chk l := zwj hd3 (by assumption)
     exact ⟨e3, znb (by rw [e3]; assumption)⟩
   have e2 := e1.2
   rw [e2]
   refine CSpec.close c ?_ ?_ (t2_ (t2_ (t0_ (eD eR))))
   · rw [e1.1]
   · trivial
  ·
   refine kT <| zaf ?_
   have hck : chk l = 0 := by simpa using (show ¬ chk l ≠ 0 by assumption)
   have hcl := (zb0 hck).1
   have htu := zd6 l
   refine zak <| oM rfl rfl <| oO <| zaq (zfq hA (zi1 (by first | assumption | omega))) rfl Tryz.call69 (Dels.cons del0 Dels.nil) rfl fun _ hc6 => oA rfl rfl <| nT <| zaf <| zat <| sR <| oM rfl rfl <| oP (zb4 rfl rfl) rfl <| oO <| zaq (zwm (Reads.sl _ _ _) (by omega)) rfl Tryz.call70 (Dels.cons del1 (Dels.cons del1 (Dels.cons del1 (Dels.cons del1 Dels.nil)))) rfl fun _ hc7 => oA rfl rfl <| nT ?_
   first | (refine zao rfl (fun hg2 => ?_) (fun hg2 => ?_)) | (refine zap rfl (fun hg2 => ?_) (fun hg2 => ?_)) | (refine zar rfl (fun hg2 => ?_) (fun hg2 => ?_))
   ·
    refine sR <| oA rfl rfl <| nT <| zai <| zaj <| zad <| zam (res1 Tryz.results28 rfl) ?_
    have e1 : m.ldE n l = 12 ∧ m.ldS n l = m := by
      have e3 : m.ldE n l = 12 := zu0 hd3 hck (by assumption)
      exact ⟨e3, znb (by rw [e3]; decide)⟩
    have e2 := e1.2
    rw [e2]
    refine CSpec.close c ?_ ?_ (t2_ (t2_ (t2_ (eD (eD eR)))))
    · rw [e1.1]
    · trivial
   ·
    refine zaf ?_
    have hnT : ((tuses l).any fun x => ldT m x) = false := by assumption
    refine zak <| oV (zah rfl foc1 rfl Tryz.isAgg25) rfl <| oM rfl rfl <| oM rfl rfl <| oO <| zaq (zwi (v := ⟨_, _, _⟩) (ls := tuses l) hdk.1 (by omega)) rfl Tryz.call72 (Dels.cons del0 (Dels.cons del1 (Dels.cons del1 Dels.nil))) rfl fun _ hc8 => oA rfl rfl <| nT ?_
    first | (refine zao rfl (fun hg3 => ?_) (fun hg3 => ?_)) | (refine zap rfl (fun hg3 => ?_) (fun hg3 => ?_)) | (refine zar rfl (fun hg3 => ?_) (fun hg3 => ?_))
    ·
     refine sR <| oA rfl rfl <| nT <| zai <| zaj <| zad <| zam (res1 Tryz.results28 rfl) ?_
     have e1 : m.ldE n l = 21 ∧ m.ldS n l = m := by
       have e3 : m.ldE n l = 21 := ztg hd3 hck hnT (by assumption)
       exact ⟨e3, znb (by rw [e3]; decide)⟩
     have e2 := e1.2
     rw [e2]
     refine CSpec.close c ?_ ?_ (t0_ (t0_ (t1_ (eD eR))))
     · rw [e1.1]
     · trivial
    ·
     refine zaf ?_
     have hnR : ((tuses l).any fun u => m.reach k2 (m.dv.length + 1) u) = false := by assumption
     refine zak <| oV (zah rfl foc2 rfl Tryz.isAgg25) rfl <| oM rfl rfl <| oO <| zaq (c_fits hA (by omega) (fun x hx => ⟨fun hne => ztf hnT hx hne, zdi hck hx⟩)) rfl Tryz.call73 (Dels.cons del3 (Dels.cons del0 (Dels.cons del0 Dels.nil))) rfl fun _ hc9 => oP (P_not rfl) rfl <| oA rfl rfl <| nT ?_
     first | (refine zao rfl (fun hg4 => ?_) (fun hg4 => ?_)) | (refine zap rfl (fun hg4 => ?_) (fun hg4 => ?_)) | (refine zar rfl (fun hg4 => ?_) (fun hg4 => ?_))
     ·
      refine sR <| oA rfl rfl <| nT <| zai <| zaj <| zad <| zam (res1 Tryz.results28 rfl) ?_
      have e1 : m.ldE n l = 1 ∧ m.ldS n l = m := by
        have e3 : m.ldE n l = 1 := by rw [zpw hd3 hck hnT hnR, show m.fits l = false by simp_all]; rfl
        exact ⟨e3, znb (by rw [e3]; decide)⟩
      have e2 := e1.2
      rw [e2]
      refine CSpec.close c ?_ ?_ (t1_ (t1_ (t0_ (eD eR))))
      · rw [e1.1]
      · trivial
     ·
      refine zbk <| zal <| zav <| zaf <| zbf (Ent.trans (t2_ eR) (za8 hdk.1)) <| zak <| oM rfl rfl <| oM rfl rfl <| oM rfl rfl <| oO <| zaq (zuw hA (by first | assumption | omega)) rfl Tryz.call74 (Dels.cons del5 Dels.nil) rfl fun cx10 hc12 => oP (zae rfl) rfl <| oP (zaa rfl ⟨_, _, _, Tryz.runUnderlying111, rfl, rfl, Tryz.sizeOf30, rfl⟩) rfl <| oO <| zbj rfl rfl foc2 rfl rfl Tryz.sizeOf30 <| oP (zae rfl) rfl <| oP (zaa rfl ⟨_, _, _, Tryz.runUnderlying111, rfl, rfl, Tryz.sizeOf4, rfl⟩) rfl <| oO <| zbj rfl rfl foc2 rfl rfl Tryz.sizeOf4 <| nT <| sR <| oA rfl rfl <| nT <| zai <| zam (res1 Tryz.results28 rfl) ?_
      have e0 : m.ldE n l = 0 := by rw [zpw hd3 hck hnT hnR, show m.fits l = true by simp_all]; rfl
      have e1 := ldS_ok hd3 e0
      rw [e1]
      refine CSpec.close (c.put k2 { c.hd k2 with nw := cx10 } { m.at k2 with new := l, hn := true }) ?_ ?_ (Ent.trans (Ent.trans (t2_ (t2_ (t0_ (t2_ (t2_ eR))))) (zcy (h' := { c.hd k2 with nw := cx10 }) (d' := { m.at k2 with new := l, hn := true }) (m' := (m.set k2 { m.at k2 with new := l, hn := true })) hW hdk.1 rfl hdk.1.2.2 rfl rfl rfl (Md.ok_load hO hdk.1 hck (fun t ht hne => ztf hnT ht hne) (fun t ht hne => zuy hnR ht hne)) (hW.big.set hdk.1.1 rfl (hW.big.wl _) hW.big.tks hW.big.told hW.big.wr) rfl rfl)) (t3_ (t0_ (t0_ (eD (eD eR))))))
      · rw [e0]
      · trivial
end Go.Proofs
namespace Go.Proofs
namespace Md
def push (m : Md) (d : Dv) : Md := { m with dv := m.dv ++ [d] }
section
variable {m : Md} {d : Dv} {n : ByteArray} {i : Nat}
theorem at_push : (m.push d).at i = if i = m.dv.length then d else m.at i := by
  show (m.dv ++ [d]).getD i Dv.z = _
  by_cases h : i < m.dv.length
  · rw [if_neg (by omega)]; simp [List.getD, List.getElem?_append_left h, Md.at]
  · by_cases e : i = m.dv.length
    · subst e; rw [if_pos rfl]; simp [List.getD]
    · rw [if_neg e, at_out h]; simp [List.getD, List.getElem?_eq_none (show (m.dv ++ [d]).length ≤ i by simp; omega)]
theorem push_len : (m.push d).dv.length = m.dv.length + 1 := by show (m.dv ++ [d]).length = _; simp
theorem find_push (hg : d.gone = false) (hf : m.find d.name = none) : (m.push d).find n = if n = d.name then some m.dv.length else m.find n := by
  unfold find
  show (m.dv ++ [d]).findIdx? _ = _
  rw [List.findIdx?_append]
  by_cases e : n = d.name
  · subst e
    rw [if_pos rfl]
    unfold find at hf
    rw [hf]
    have : isN d d.name = true := by simp [isN, hg]
    simp [List.findIdx?_cons, this]
  · rw [if_neg e]
    have : isN d n = false := by simp [isN, Ne.symm e]
    simp [List.findIdx?_cons, this]
theorem find_lt0 (h : m.find n = some i) : i < m.dv.length := (List.findIdx?_eq_some_iff_getElem.1 h).1
theorem names_push (hg : d.gone = false) : (m.push d).names = m.names ++ [d.name] := by
  unfold names push
  rw [List.filter_append, List.map_append]
  simp [hg]
theorem dev_push (hg : d.gone = false) (hf : m.find d.name = none) : (m.push d).dev n = if n = d.name then (if d.isB then none else some m.dv.length) else m.dev n := by
  unfold dev
  rw [find_push hg hf]
  by_cases e : n = d.name
  · rw [if_pos e, if_pos e, Option.bind_some, at_push, if_pos rfl]
  · rw [if_neg e, if_neg e]
    cases h : m.find n with
    | none => rfl
    | some i => rw [Option.bind_some, Option.bind_some, at_push, if_neg (c := i = m.dv.length) (by have := find_lt0 h; omega)]
end
end Md
open Md in
theorem MdOk.push {m : Md} {d : Dv} (hO : MdOk m) (hg : d.gone = false) (hn : d.name ≠ noN) (hf : m.find d.name = none) (hl : d.live = []) (hw0 : d.new = []) (hwt : d.wait = []) (hhl : d.hl = false) (hhn : d.hn = false) (hs : d.susp = false) (hb : d.base.length ≤ 65536) : MdOk (m.push d) := by
  have hcase : ∀ i, i < (m.push d).dv.length → i = m.dv.length ∨ i < m.dv.length := fun i hi => by rw [push_len] at hi; omega
  have hno : ∀ i, i < m.dv.length → (m.at i).gone = false → (m.at i).name ≠ d.name := fun i hi hgi e => by
    have := zk8 hO hi hgi
    rw [e, hf] at this; cases this
  have hfi : ∀ n j, (m.find n).isSome = true → (m.push d).find n = some j → m.find n = some j := fun n j h1 h2 => by
    rw [find_push hg hf] at h2
    by_cases e : n = d.name
    · rw [e, hf] at h1; cases h1
    · rwa [if_neg e] at h2
  refine ⟨fun i j hi hj hgi hgj he => ?_, fun i hi hgi => ?_, fun i => ?_, fun i hi hgi t ht hne => ?_, ?_, fun i hi => ?_, fun i => ?_, fun i => ?_, fun i hi w hw => ?_⟩
  · rw [at_push] at hgi he
    rw [at_push] at hgj
    rw [at_push (i := j)] at he
    rcases hcase i hi with rfl | h1 <;> rcases hcase j hj with rfl | h2
    · rfl
    · rw [if_neg (by omega)] at hgj
      rw [if_pos rfl, if_neg (by omega)] at he
      exact absurd he.symm (hno j h2 hgj)
    · rw [if_neg (by omega)] at hgi
      rw [if_neg (by omega), if_pos rfl] at he
      exact absurd he (hno i h1 hgi)
    · rw [if_neg (by omega)] at hgi hgj
      rw [if_neg (by omega), if_neg (by omega)] at he
      exact hO.uniq i j h1 h2 hgi hgj he
  · rw [at_push] at hgi ⊢
    rcases hcase i hi with rfl | h1
    · rw [if_pos rfl]; exact hn
    · rw [if_neg (by omega)] at hgi ⊢; exact hO.nm i h1 hgi
  · rw [at_push]; split
    · rw [hl, hw0]; exact ⟨rfl, rfl⟩
    · exact hO.chk i
  · rw [at_push] at hgi ht
    rcases hcase i hi with rfl | h1
    · rw [if_pos rfl] at ht
      unfold tbl at ht; rw [hl, hw0] at ht; cases ht
    · rw [if_neg (by omega)] at hgi ht
      have h2 := hO.nam i h1 hgi t ht hne
      rw [find_push hg hf]
      split
      · rfl
      · exact h2
  · obtain ⟨rk, hr⟩ := hO.acy
    refine ⟨rk, fun i hi hgi t ht j hj => ?_⟩
    rw [at_push] at hgi ht
    rcases hcase i hi with rfl | h1
    · rw [if_pos rfl] at ht
      unfold tbl at ht; rw [hl, hw0] at ht; cases ht
    · rw [if_neg (by omega)] at hgi ht
      by_cases hne : t.On = noN
      · rw [find_push hg hf, if_neg (fun e => hn (by rw [← e, hne]))] at hj
        exact hr i h1 hgi t ht j hj
      · exact hr i h1 hgi t ht j (hfi _ _ (hO.nam i h1 hgi t ht hne) hj)
  · rw [at_push] at hi ⊢
    split at hi
    · rename_i e; rw [if_pos e]; exact ⟨hl, hw0, hwt, hhl, hhn, hs, hb⟩
    · rename_i e; rw [if_neg e]; exact hO.bas i hi
  · rw [at_push]; split
    · exact fun _ => hl
    · exact hO.hl i
  · rw [at_push]; split
    · exact fun _ => hw0
    · exact hO.hn i
  · rw [at_push] at hw ⊢
    rcases hcase i hi with rfl | h1
    · rw [if_pos rfl, hwt] at hw; cases hw
    · rw [if_neg (by omega)] at hw ⊢
      obtain ⟨g1, g2, g3, g4, g5⟩ := hO.org i h1 w hw
      refine ⟨g1, by rw [push_len]; omega, ?_, ?_, g5⟩
      · rw [at_push, if_neg (by omega)]; exact g3
      · rw [at_push, if_neg (by omega)]; exact g4
theorem MdBig.push {m : Md} {d : Dv} (h : MdBig m) (hl : m.dv.length + 1 ≤ 10000) (hw : d.wait = []) : MdBig (m.push d) :=
  ⟨by rw [Md.push_len]; exact hl, fun i => by rw [Md.at_push]; split; · rw [hw]; exact Nat.zero_le _
                                              · exact h.wl i, h.tks, h.told, h.wr⟩
theorem MdBd.push_tick {m : Md} {d : Dv} (h : MdBd m) (hc : m.cl < 4000) (hw : d.wait = []) : MdBd (m.push d).tick := by
  have h1 := h.tks; have h2 := h.told; have h3 := h.wr; have h4 := h.len
  have h5 : (m.push d).wsum = m.wsum := by
    show ((m.dv ++ [d]).map fun d => d.wait.length).sum = _
    rw [List.map_append, List.sum_append, List.map_cons, hw]
    simp [Md.wsum]
  exact ⟨by show (m.push d).wsum ≤ m.tks; rw [h5]; exact h.wl, Nat.le_succ_of_le h1, Nat.le_trans h2 (by show _ ≤ 4000 * (m.cl + 1); omega), Nat.le_trans h3 (by show _ ≤ 4000 * (m.cl + 1); omega), by
    show (m.push d).dv.length ≤ m.cl + 1 + 2
    rw [Md.push_len]; omega, hc⟩
end Go.Proofs
set_option linter.unusedSimpArgs false
set_option maxRecDepth 20000
namespace Go.Proofs
open Go.VG
theorem zmf (v0 : ByteArray) : zby Tryz.prog 59 1 [(0, .string v0)] 9 [.string v0] := fun w => by kernel_rfl
theorem zmg (v0 : ByteArray) : ∀ w, (Instr.build 111 (#[(0, .string v0)] : Array (Nat × Value))).run Tryz.prog w = .ok (.agg #[.string v0, .slice none 0 0, .slice none 0 0, .bool false, .bool false, .bool false, .bool false, .slice none 0 0]) w := fun w => by kernel_rfl
theorem blk_ne {b b' : Nat} {T T' : TypeId} {cs cs' : List Value} {R : List HP} {h : PH} (hh : stars (blk b T cs :: blk b' T' cs' :: R) h) : b ≠ b' := by
  rintro rfl
  obtain ⟨a1, a2, d1, e1, p1, b1, b2, d2, e2, p2, q2⟩ := hh
  have h1 : a1 b = some (.cells cs.toArray T (0, 0), false) := by rw [show a1 = PH.one b _ from p1]; simp [PH.one]
  have h2 : a2 b = some (.cells cs'.toArray T' (0, 0), false) := by rw [e2]; show (b1 b).or (b2 b) = _; rw [show b1 = PH.one b _ from p2]; simp [PH.one]
  rcases d1 b with h | h | ⟨h, o, ho⟩
  · rw [h1] at h; cases h
  · rw [h2] at h; cases h
  · rw [h1] at ho; cases ho
theorem zmh {B1 B2 B3 B4 : HP} {R : List HP} {h : PH} (hh : stars (B1 :: B2 :: B3 :: B4 :: R) h) : stars (star [B1, B2, B3, B4] :: R) h := stars_star.2 hh
section
variable {X : HP} {c : MH} {m : Md} {R : List HP} {d : Dv} {h : DH} {ov : Sl3} {dl bl : List (ByteArray × Nat)}
theorem zq2 {a : Nat} {bs bs' : Nat → Nat} {x : DH × Dv} (hx : ∀ w ∈ x.2.wait, bs' w.gv = bs w.gv) : DevC a bs' x = DevC a bs x := by
  have e : x.2.wait.map (wC bs') = x.2.wait.map (wC bs) := List.map_congr_left fun w hw => by unfold wC; rw [hx w hw]
  unfold DevC; rw [e]
theorem Own_bs {a : Nat} {bs' : Nat → Nat} (hW : MapWF c m) (hb : ∀ i, i < m.dv.length → bs' i = c.bs i) : Go.VG.Own (DevC a bs') c.l = Go.VG.Own (DevC a c.bs) c.l := by
  unfold Go.VG.Own
  rw [List.map_congr_left fun x hx => ?_]
  obtain ⟨i, hi, rfl⟩ := List.getElem_of_mem hx
  have hl : c.l.length = m.dv.length := by rw [← hW.dv]; simp
  have h2 := (hW.at (k := i) (by omega)).2
  have h3 : c.l[i] = (c.hd i, m.at i) := by rw [← h2]; simp [List.getD, hi]
  refine zq2 fun w hw => hb _ ?_
  rw [h3] at hw
  exact (hW.ok.org i (by omega) w hw).2.1
abbrev MH.push (c : MH) (ov : Sl3) (dl bl : List (ByteArray × Nat)) (h : DH) (d : Dv) : MH := { c with ov := ov, dl := dl, bl := bl, l := c.l ++ [(h, d)] }
theorem zk9 (hW : MapWF c m) (i : Nat) : (c.push ov dl bl h d).hd i = if i = m.dv.length then h else c.hd i := by
  have hl : c.l.length = m.dv.length := by rw [← hW.dv]; simp
  unfold MH.hd
  show ((c.l ++ [(h, d)]).getD i (dh0, Dv.z)).1 = _
  by_cases h1 : i < c.l.length
  · rw [if_neg (by omega)]; simp [List.getD, List.getElem?_append_left h1]
  · by_cases e : i = m.dv.length
    · subst e; rw [if_pos rfl, ← hl]; simp [List.getD]
    · rw [if_neg e]; simp [List.getD, List.getElem?_eq_none (show (c.l ++ [(h, d)]).length ≤ i by simp; omega), List.getElem?_eq_none (Nat.le_of_not_lt h1)]
theorem zgx (hW : MapWF c m) (i : Nat) : (c.push ov dl bl h d).bs i = if i = m.dv.length then h.b else c.bs i := by
  unfold MH.bs; rw [zk9 hW]; split <;> rfl
theorem zu1 {n : ByteArray} (hg : d.gone = false) (hf : m.find d.name = none) : (m.push d).bas n = if n = d.name then (if d.isB then some m.dv.length else none) else m.bas n := by
  unfold Md.bas
  rw [Md.find_push hg hf]
  by_cases e : n = d.name
  · rw [if_pos e, if_pos e, Option.bind_some, Md.at_push, if_pos rfl]
  · rw [if_neg e, if_neg e]
    cases h : m.find n with
    | none => rfl
    | some i => rw [Option.bind_some, Option.bind_some, Md.at_push, if_neg (c := i = m.dv.length) (by have := Md.find_lt0 h; omega)]
theorem MapWF.push (hW : MapWF c m) (ok : MdOk (m.push d)) (big : MdBig (m.push d)) (hg : d.gone = false) (hf : m.find d.name = none)
    (hdl : ∀ x, lookM dl x = if x = d.name then (if d.isB then none else some h.b) else lookM c.dl x) (hbl : ∀ x, lookM bl x = if x = d.name then (if d.isB then some h.b else none) else lookM c.bl x)
    (hne : d.isB = false → ∀ i, m.isD i → c.bs i ≠ h.b) (hdk : d.isB = true → h.dn < c.s.drv.length ∧ nowL c.s h.dn = d.base ∧ d.base.length ≤ 65536 ∧ ∀ i, m.isBs i → (c.hd i).dn ≠ h.dn) : MapWF (c.push ov dl bl h d) (m.push d) := by
  have hcD : ∀ i, (m.push d).isD i → (i = m.dv.length ∧ d.isB = false) ∨ (i ≠ m.dv.length ∧ m.isD i) := fun i hi => by
    obtain ⟨h1, h2, h3⟩ := hi
    rw [Md.push_len] at h1
    rw [Md.at_push] at h2 h3
    by_cases e : i = m.dv.length
    · rw [if_pos e] at h3; exact .inl ⟨e, h3⟩
    · rw [if_neg e] at h2 h3; exact .inr ⟨e, by omega, h2, h3⟩
  have hcB : ∀ i, (m.push d).isBs i → (i = m.dv.length ∧ d.isB = true) ∨ (i ≠ m.dv.length ∧ m.isBs i) := fun i hi => by
    obtain ⟨h1, h2, h3⟩ := hi
    rw [Md.push_len] at h1
    rw [Md.at_push] at h2 h3
    by_cases e : i = m.dv.length
    · rw [if_pos e] at h3; exact .inl ⟨e, h3⟩
    · rw [if_neg e] at h2 h3; exact .inr ⟨e, by omega, h2, h3⟩
  refine ⟨?_, ok, big, fun x => ?_, fun x => ?_, fun i j hi hj he => ?_, hW.good, fun k hk => ?_, fun i j hi hj he => ?_, hW.wr⟩
  · show (c.l ++ [(h, d)]).map Prod.snd = m.dv ++ [d]
    rw [List.map_append, hW.dv]; rfl
  · rw [show (c.push ov dl bl h d).dl = dl from rfl, hdl, Md.dev_push hg hf]
    by_cases e : x = d.name
    · rw [if_pos e, if_pos e]
      cases d.isB
      · simp [zgx hW]
      · rfl
    · rw [if_neg e, if_neg e, hW.dl]
      cases hx : m.dev x with
      | none => rfl
      | some k => rw [Option.map_some, Option.map_some, zgx hW, if_neg (by have := (Md.dev_is hx).1.1; omega)]
  · rw [show (c.push ov dl bl h d).bl = bl from rfl, hbl, zu1 hg hf]
    by_cases e : x = d.name
    · rw [if_pos e, if_pos e]
      cases d.isB
      · rfl
      · simp [zgx hW]
    · rw [if_neg e, if_neg e, hW.bl]
      cases hx : m.bas x with
      | none => rfl
      | some k => rw [Option.map_some, Option.map_some, zgx hW, if_neg (by have := (Md.bas_is hx).1.1; omega)]
  · rw [zgx hW, zgx hW] at he
    rcases hcD i hi with ⟨e1, b1⟩ | ⟨e1, b1⟩ <;> rcases hcD j hj with ⟨e2, b2⟩ | ⟨e2, b2⟩
    · rw [e1, e2]
    · rw [if_pos e1, if_neg e2] at he; exact absurd he.symm (hne b1 j b2)
    · rw [if_neg e1, if_pos e2] at he; exact absurd he (hne b2 i b1)
    · rw [if_neg e1, if_neg e2] at he; exact hW.inj i j b1 b2 he
  · rw [zk9 hW, Md.at_push]
    rcases hcB k hk with ⟨e1, b1⟩ | ⟨e1, b1⟩
    · rw [if_pos e1, if_pos e1]; obtain ⟨q1, q2, q3, _⟩ := hdk b1; exact ⟨q1, q2, q3⟩
    · rw [if_neg e1, if_neg e1]; exact hW.dsk k b1
  · rw [zk9 hW, zk9 hW] at he
    rcases hcB i hi with ⟨e1, b1⟩ | ⟨e1, b1⟩ <;> rcases hcB j hj with ⟨e2, b2⟩ | ⟨e2, b2⟩
    · rw [e1, e2]
    · rw [if_pos e1, if_neg e2] at he; exact absurd he.symm ((hdk b1).2.2.2 j b2)
    · rw [if_neg e1, if_pos e2] at he; exact absurd he ((hdk b2).2.2.2 i b1)
    · rw [if_neg e1, if_neg e2] at he; exact hW.dsj i j b1 b2 he
theorem zom (hW : MapWF c m) (hg : d.gone = false) (hwt : d.wait = []) (hw : MapWF (c.push ov dl bl h d) (m.push d)) :
    Ent (DevC c.a c.bs (h, d) :: Go.VG.Own (DevC c.a c.bs) c.l :: mpc mBas c.bm bl :: mpc mDev c.dm dl :: sl tyS ov.v (m.names ++ [d.name]) :: sl zau c.tv.v m.told :: Arr c.a c.s :: R) (MapR (c.push ov dl bl h d) (m.push d) :: R) := fun g hh => by
  have e1 : DevC c.a c.bs (h, d) = DevC c.a (c.push ov dl bl h d).bs (h, d) := (zq2 fun w hw' => by rw [show ((h, d) : DH × Dv).2.wait = [] from hwt] at hw'; cases hw').symm
  have e2 := Own_bs (a := c.a) (bs' := (c.push ov dl bl h d).bs) hW fun i hi => by rw [zgx hW, if_neg (by omega)]
  rw [e1, ← e2] at hh
  have h1 := zlz (DevC c.a (c.push ov dl bl h d).bs) (h, d) g hh
  refine stars_star.2 (stars_pur.2 ⟨hw, ?_⟩)
  rw [Md.names_push hg]
  exact zbr (show List.Perm (Go.VG.Own (DevC c.a (c.push ov dl bl h d).bs) (c.l ++ [(h, d)]) :: ([mpc mBas c.bm bl, mpc mDev c.dm dl, sl tyS ov.v (m.names ++ [d.name]), sl zau c.tv.v m.told] ++ (Arr c.a c.s :: R))) _ from (List.perm_middle (l₁ := [_, _, _, _])).symm) _ h1
abbrev dNew (n : ByteArray) : Dv := { Dv.z with name := n }
abbrev hNew (b : Nat) : DH := ⟨b, 0, s3z, s3z, s3z⟩
theorem zth {n : ByteArray} {nb : Nat} (hW : MapWF c m) (hf : m.find n = none) (hn : n ≠ noN) (hlen : m.dv.length + 1 ≤ 10000) :
    Ent (blk nb 111 (zfg (hNew nb) (dNew n)) :: Go.VG.Own (DevC c.a c.bs) c.l :: mpc mBas c.bm c.bl :: mpc mDev c.dm (setM c.dl n nb) :: sl tyS ov.v (m.names ++ [n]) :: sl zau c.tv.v m.told :: Arr c.a c.s :: R) (MapR (c.push ov (setM c.dl n nb) c.bl (hNew nb) (dNew n)) (m.push (dNew n)) :: R) := fun g hh => by
  have hne : ∀ i, m.isD i → c.bs i ≠ nb := fun i hi => by
    obtain ⟨a1, a2, d1, e1, p1, q1⟩ := id hh
    obtain ⟨g1, g2⟩ := hW.at hi.1
    have h2 := zjd (DevC c.a c.bs) i (dh0, Dv.z) g1 a2 q1
    rw [g2, zjl hi.2.1 hi.2.2] at h2
    have h3 := stars_star.1 h2
    exact (blk_ne (h := g) ⟨a1, a2, d1, e1, p1, h3⟩).symm
  have ok := hW.ok.push (d := dNew n) rfl hn hf rfl rfl rfl rfl rfl rfl (Nat.zero_le _)
  have big := hW.big.push (d := dNew n) hlen rfl
  have hw : MapWF (c.push ov (setM c.dl n nb) c.bl (hNew nb) (dNew n)) (m.push (dNew n)) := hW.push ok big rfl hf (fun x => by rw [zmr]; rfl) (fun x => by
    by_cases e : x = n
    · rw [if_pos e, hW.bl, e]
      have : m.bas n = none := by unfold Md.bas; rw [hf]; rfl
      rw [this]; rfl
    · rw [if_neg e]) (fun _ => hne) (fun h => by cases h)
  refine zom hW rfl rfl hw g ?_
  obtain ⟨a1, a2, d1, e1, p1, q1⟩ := hh
  have h1 : stars (blk nb 111 (zfg (hNew nb) (dNew n)) :: sl tyapi_Target (Sl3.v s3z) [] :: sl tyapi_Target (Sl3.v s3z) [] :: sl tyErr (Sl3.v s3z) [] :: (Go.VG.Own (DevC c.a c.bs) c.l :: mpc mBas c.bm c.bl :: mpc mDev c.dm (setM c.dl n nb) :: sl tyS ov.v (m.names ++ [n]) :: sl zau c.tv.v m.told :: Arr c.a c.s :: R)) g := ⟨a1, a2, d1, e1, p1, zb2 _ (zb2 _ (zb2 _ q1))⟩
  rw [zjl rfl rfl]
  exact zmh h1
end
section
variable {m : Md} {n : ByteArray}
theorem crE_cr (h : m.addE n ≠ 0) : m.crE n = m.addE n ∧ m.crS n = m := ⟨rfl, by unfold Md.crS Md.addS; exact if_neg h⟩
theorem cr_ok (h : m.addE n = 0) : m.crS n = m.push (dNew n) ∧ m.find n = none ∧ n ≠ noN ∧ m.names.length < 256 := by
  refine ⟨by unfold Md.crS Md.addS; exact if_pos h, ?_⟩
  unfold Md.addE at h
  split at h
  · rename_i h1; exact absurd h h1
  · rename_i h1
    have h2 : m.freshE n = 0 := Classical.not_not.1 h1
    unfold Md.freshE at h2
    split at h2
    · cases h2
    · rename_i h3
      split at h2
      · cases h2
      · rename_i h4
        refine ⟨by simpa using h4, fun e => h3 (.inl (by rw [e]; decide)), ?_⟩
        split at h
        · cases h
        · omega
end
theorem zwn {W : World} {b : Nat} {c : MH} {m : Md} {n : ByteArray} {A : HP} (hA : Reads A tyS c.ov.v m.names) (hl : m.names.length ≤ 100000) :
    CSpec Tryz.prog W 62 [ptr b 0, .string n] [A, blk b 84 (zax c m)] (fun _ : Unit => .int .i64 (m.freshE n)) (fun _ => True) (fun _ F => A :: blk b 84 (zax c m) :: F) := by
 refine CSpec.of_body Tryz.func62 rfl Tryz.ntmps62 rfl fun F => ?_
 show CJ _ _ _ _ _ _ (_ :: _ :: F)
 refine sR <| oA rfl rfl <| nT <| zaf <| zat <| sR <| oM rfl rfl <| oP (zmu rfl Tryz.runUnderlying9) rfl <| oP (P_lss rfl rfl) rfl <| oM rfl rfl ?_
 first | (refine zba 9 rfl (fun hg1B hg1 => ?_) (fun hg1B hg1 => ?_)) | (refine zbb 9 rfl (fun hg1B hg1 => ?_) (fun hg1B hg1 => ?_)) | (refine zbi 9 rfl (fun hg1B => ?_) (fun hg1B => ?_))
 ·
  refine RJ_gn (GY_no rfl rfl rfl hg1B) rfl rfl <| RJ_gn (GY_no rfl rfl rfl hg1B) rfl rfl <| RJ_gn (GY_no rfl rfl rfl hg1B) rfl rfl <| oP (zas rfl hg1B rfl) rfl <| oA rfl rfl <| nT <| za4 rfl rfl <| sR <| oA rfl rfl <| nT <| zai <| zaj <| zad <| zam (res1 Tryz.results62 rfl) <| CSpec.close () ?_ ?_ (t0_ (t0_ eR))
  · exact iv (by unfold Md.freshE; first | rw [if_pos (show n.size < 1 ∨ 40 < n.size by omega)] | (rw [if_neg (show ¬ (n.size < 1 ∨ 40 < n.size) by omega)]; simp_all [Md.memS_find]))
  · trivial
 ·
  refine gP (zab rfl rfl rfl hg1B) (zag rfl) rfl <| gP (zab rfl rfl rfl hg1B) (zmu rfl Tryz.runUnderlying9) rfl <| gP (zab rfl rfl rfl hg1B) (P_gtr rfl rfl) rfl <| oP (zay rfl hg1B rfl) rfl <| oA rfl rfl <| nT ?_
  first | (refine zao rfl (fun hg2 => ?_) (fun hg2 => ?_)) | (refine zap rfl (fun hg2 => ?_) (fun hg2 => ?_)) | (refine zar rfl (fun hg2 => ?_) (fun hg2 => ?_))
  ·
   refine sR <| oA rfl rfl <| nT <| zai <| zaj <| zad <| zam (res1 Tryz.results62 rfl) <| CSpec.close () ?_ ?_ (t0_ (t0_ eR))
   · exact iv (by unfold Md.freshE; first | rw [if_pos (show n.size < 1 ∨ 40 < n.size by omega)] | (rw [if_neg (show ¬ (n.size < 1 ∨ 40 < n.size) by omega)]; simp_all [Md.memS_find]))
   · trivial
  ·
   refine sR <| oM rfl rfl <| oP (zae rfl) rfl <| oP (zaa rfl ⟨_, _, _, Tryz.runUnderlying84, rfl, rfl, Tryz.sizeOf59, rfl⟩) rfl <| oV (zah rfl foc1 rfl Tryz.isAgg59) rfl <| oM rfl rfl <| oO <| zaq (zch hA (zfl (by first | assumption | omega))) rfl Tryz.call56 (Dels.cons del0 Dels.nil) rfl fun _ hc1 => oA rfl rfl <| nT ?_
   first | (refine zao rfl (fun hg3 => ?_) (fun hg3 => ?_)) | (refine zap rfl (fun hg3 => ?_) (fun hg3 => ?_)) | (refine zar rfl (fun hg3 => ?_) (fun hg3 => ?_))
   ·
    refine sR <| oA rfl rfl <| nT <| zai <| zaj <| zad <| zam (res1 Tryz.results62 rfl) <| CSpec.close () ?_ ?_ (t0_ (t0_ eR))
    · exact iv (by unfold Md.freshE; first | rw [if_pos (show n.size < 1 ∨ 40 < n.size by omega)] | (rw [if_neg (show ¬ (n.size < 1 ∨ 40 < n.size) by omega)]; simp_all [Md.memS_find]))
    · trivial
   ·
    refine zbk <| zal <| zav <| sR <| oA rfl rfl <| nT <| zai <| zam (res1 Tryz.results62 rfl) <| CSpec.close () ?_ ?_ (t0_ (t0_ eR))
    · exact iv (by unfold Md.freshE; first | rw [if_pos (show n.size < 1 ∨ 40 < n.size by omega)] | (rw [if_neg (show ¬ (n.size < 1 ∨ 40 < n.size) by omega)]; simp_all [Md.memS_find]))
    · trivial
theorem c_add {W : World} {b : Nat} {c : MH} {m : Md} {n : ByteArray} (hl : m.names.length ≤ 100000) :
    CSpec Tryz.prog W 54 [ptr b 0, .string n] [sl tyS c.ov.v m.names, blk b 84 (zax c m)] (fun _x : Sl3 => .int .i64 (m.addE n)) (fun x => m.addE n ≠ 0 → x = c.ov) (fun x F => sl tyS x.v (if m.addE n = 0 then m.names ++ [n] else m.names) :: blk b 84 (zax { c with ov := x } m) :: F) := by
 refine CSpec.of_body Tryz.func54 rfl Tryz.ntmps54 rfl fun F => ?_
 show CJ _ _ _ _ _ _ (_ :: _ :: F)
 refine sR <| oA rfl rfl <| nT <| zaf <| sR <| oM rfl rfl <| oM rfl rfl <| oO <| zaq (zwn (Reads.sl _ _ _) hl) rfl Tryz.call62 (Dels.cons del0 (Dels.cons del0 Dels.nil)) rfl fun _ hc1 => oA rfl rfl <| nT <| sR <| oM rfl rfl <| oP (P_neq rfl rfl) rfl <| nT ?_
 first | (refine zao rfl (fun hg1 => ?_) (fun hg1 => ?_)) | (refine zap rfl (fun hg1 => ?_) (fun hg1 => ?_)) | (refine zar rfl (fun hg1 => ?_) (fun hg1 => ?_))
 ·
  refine sR <| oM rfl rfl <| oA rfl rfl <| nT <| zai <| zad <| zam (res1 Tryz.results54 rfl) ?_
  have e1 : m.addE n ≠ 0 ∧ m.addE n = m.freshE n := by
    have e2 : m.addE n = m.freshE n := by unfold Md.addE; first | rw [if_pos (by assumption)] | rw [if_neg (by assumption), if_pos (by omega)]
    exact ⟨by rw [e2]; assumption, e2⟩
  rw [if_neg e1.1]
  refine CSpec.close c.ov ?_ ?_ (t0_ (t0_ eR))
  · exact iv e1.2.symm
  · exact fun _ => rfl
 ·
  refine kT <| zaf <| sR <| oM rfl rfl <| oP (zae rfl) rfl <| oP (zaa rfl ⟨_, _, _, Tryz.runUnderlying84, rfl, rfl, Tryz.sizeOf59, rfl⟩) rfl <| oV (zah rfl foc1 rfl Tryz.isAgg59) rfl <| oV (V_len rfl foc0 (Reads.sl _ _ _) Tryz.runUnderlying59) rfl <| oP (P_geq rfl rfl) rfl <| nT ?_
  first | (refine zao rfl (fun hg2 => ?_) (fun hg2 => ?_)) | (refine zap rfl (fun hg2 => ?_) (fun hg2 => ?_)) | (refine zar rfl (fun hg2 => ?_) (fun hg2 => ?_))
  ·
   refine sR <| oA rfl rfl <| nT <| zai <| zad <| zam (res1 Tryz.results54 rfl) ?_
   have e1 : m.addE n ≠ 0 ∧ m.addE n = 4 := by
     have e2 : m.addE n = 4 := by unfold Md.addE; first | rw [if_pos (by assumption)] | rw [if_neg (by assumption), if_pos (by omega)]
     exact ⟨by rw [e2]; decide, e2⟩
   rw [if_neg e1.1]
   refine CSpec.close c.ov ?_ ?_ (t0_ (t0_ eR))
   · exact iv e1.2.symm
   · exact fun _ => rfl
  ·
   refine kT <| sR <| oM rfl rfl <| oM rfl rfl <| oP (zae rfl) rfl <| oP (zaa rfl ⟨_, _, _, Tryz.runUnderlying84, rfl, rfl, Tryz.sizeOf59, rfl⟩) rfl <| oV (zah rfl foc1 rfl Tryz.isAgg59) rfl <| oM rfl rfl <| oO <| zbe rfl (zmf _) rfl fun b2 => zei (Ent.trans (t0_ eR) (zdk (t := tyS) (m := 1) [n] rfl rfl rfl (by decide))) <| oO <| zbv (t := tyS) (bytes := 16) rfl rfl del1 foc0 (Reads.sl _ _ _) Tryz.underlying59 ziz (by simp only [List.length_append, List.length_cons, List.length_nil, maxLen] at *; omega) (by simp only [List.length_append, List.length_cons, List.length_nil, maxLen] at *; omega) rfl fun p3 c4 => oP (zae rfl) rfl <| oP (zaa rfl ⟨_, _, _, Tryz.runUnderlying84, rfl, rfl, Tryz.sizeOf59, rfl⟩) rfl <| oO <| zbj rfl rfl foc2 rfl rfl Tryz.sizeOf59 <| nT <| sR <| oA rfl rfl <| nT <| zai <| zam (res1 Tryz.results54 rfl) ?_
   have e1 : m.addE n = 0 := by unfold Md.addE; rw [if_neg (by assumption), if_neg (by omega)]
   rw [if_pos e1]
   refine CSpec.close ⟨p3, _, c4⟩ ?_ ?_ (t0_ (t1_ (eD eR)))
   · exact iv e1.symm
   · exact fun h => absurd e1 h
theorem zu2 {W : World} {b : Nat} {c : MH} {m : Md} {n : ByteArray} (hlen : m.dv.length + 1 ≤ 10000) :
    CSpec Tryz.prog W 22 [ptr b 0, .string n] [blk b 84 (zax c m), MapR c m] (fun _ : MH => .int .i64 (m.crE n)) (fun _ => True) (fun c2 F => blk b 84 (zax c2 (m.crS n)) :: MapR c2 (m.crS n) :: F) := by
 refine CSpec.of_body Tryz.func22 rfl Tryz.ntmps22 rfl fun F => ?_
 show CJ _ _ _ _ _ _ (_ :: _ :: F)
 refine zbl (zb3 foc1) fun hW => ?_
 have hns := Md.names_len (m := m)
 refine zbf (Ent.trans (t1_ eR) zg8) <| sR <| oA rfl rfl <| nT <| sR <| oM rfl rfl <| oM rfl rfl <| oO <| zaq (c_add (by omega)) rfl Tryz.call54 (Dels.cons del2 (Dels.cons del5 Dels.nil)) rfl fun ov9 hov9 => oA rfl rfl <| nT <| zaf <| sR <| oM rfl rfl <| oP (P_eql rfl rfl) rfl <| nT ?_
 first | (refine zao rfl (fun hg1 => ?_) (fun hg1 => ?_)) | (refine zap rfl (fun hg1 => ?_) (fun hg1 => ?_)) | (refine zar rfl (fun hg1 => ?_) (fun hg1 => ?_))
 ·
  refine zak <| oM rfl rfl <| oP (zae rfl) rfl <| oP (zaa rfl ⟨_, _, _, Tryz.runUnderlying84, rfl, rfl, Tryz.sizeOf82, rfl⟩) rfl <| oV (zah rfl foc1 rfl Tryz.isAgg82) rfl <| oM rfl rfl <| oM rfl rfl <| oP (zbm rfl (zmg _)) rfl <| oO <| O_box rfl rfl rfl fun b2 => oO <| zfj (M := mDev) (k := n) (v := b2) rfl rfl rfl foc4 zqp <| nT <| sR <| oM rfl rfl <| oA rfl rfl <| nT <| zai <| zam (res1 Tryz.results22 rfl) ?_
  have e0 : m.addE n = 0 := by assumption
  obtain ⟨e1, e2, e3, e4⟩ := cr_ok e0
  rw [if_pos e0, e1]
  refine CSpec.close (c.push ov9 (setM c.dl n b2) c.bl (hNew b2) (dNew n)) ?_ ?_ (Ent.trans (Ent.trans (t0_ (t5_ (t2_ (t2_ (t0_ (t1_ (t1_ eR))))))) (zth (ov := ov9) hW e2 e3 hlen)) (t1_ (t0_ eR)))
  · exact iv (show m.addE n = m.crE n from rfl)
  · trivial
 ·
  refine kT <| sR <| oM rfl rfl <| oA rfl rfl <| nT <| zai <| zam (res1 Tryz.results22 rfl) ?_
  have e0 : m.addE n ≠ 0 := by assumption
  obtain ⟨e1, e2⟩ := crE_cr e0
  obtain rfl := hov9 e0
  rw [if_neg e0, e2]
  refine CSpec.close c ?_ ?_ (Ent.trans (Ent.trans (t2_ (t2_ (t0_ (t1_ (t1_ (t1_ eR)))))) (zrn hW)) (t1_ (t0_ eR)))
  · exact iv e1.symm
  · trivial
end Go.Proofs
namespace Go.Proofs
namespace Md
section
variable {m : Md} {k : Nat} {n : ByteArray}
def drop (m : Md) (k : Nat) : Md := m.set k { m.at k with gone := true }
theorem zfm {i : Nat} (hk : k < m.dv.length) : (m.drop k).at i = if i = k then { m.at k with gone := true } else m.at i := at_set hk
theorem zfb : (m.drop k).dv.length = m.dv.length := by show (m.dv.set k _).length = _; simp
theorem zti (hO : MdOk m) (hk : k < m.dv.length) (hg : (m.at k).gone = false) : (m.drop k).find n = if n = (m.at k).name then none else m.find n := by
  have hin : ∀ {x : Md} {j : Nat}, x.find n = some j → j < x.dv.length ∧ (x.at j).gone = false ∧ (x.at j).name = n := fun {x j} h => by
    obtain ⟨h1, h2, _⟩ := List.findIdx?_eq_some_iff_getElem.1 h
    have e : x.at j = x.dv[j] := by simp [Md.at, List.getD, h1]
    simp only [isN, Bool.and_eq_true, Bool.not_eq_true', decide_eq_true_eq] at h2
    exact ⟨h1, by rw [e]; exact h2.1, by rw [e]; exact h2.2⟩
  have hfi : ∀ {x : Md} {j : Nat}, j < x.dv.length → (x.at j).gone = false → (x.at j).name = n → ∃ i, x.find n = some i := fun {x j} h1 h2 h3 => by
    cases hf : x.find n with
    | some i => exact ⟨i, rfl⟩
    | none =>
      have := List.findIdx?_eq_none_iff.1 hf x.dv[j] (List.getElem_mem h1)
      have e : x.at j = x.dv[j] := by simp [Md.at, List.getD, h1]
      rw [← e] at this
      simp [isN, h2, h3] at this
  by_cases e : n = (m.at k).name
  · rw [if_pos e]
    cases hf : (m.drop k).find n with
    | none => rfl
    | some j =>
      obtain ⟨h1, h2, h3⟩ := hin hf
      rw [zfb] at h1
      rw [zfm hk] at h2 h3
      by_cases ej : j = k
      · rw [if_pos ej] at h2; cases h2
      · rw [if_neg ej] at h2 h3
        exact absurd (hO.uniq j k h1 hk h2 hg (h3.trans e)) ej
  · rw [if_neg e]
    cases hf : m.find n with
    | none =>
      cases hf2 : (m.drop k).find n with
      | none => rfl
      | some j =>
        obtain ⟨h1, h2, h3⟩ := hin hf2
        rw [zfb] at h1
        rw [zfm hk] at h2 h3
        by_cases ej : j = k
        · rw [if_pos ej] at h2; cases h2
        · rw [if_neg ej] at h2 h3
          obtain ⟨i, hi⟩ := hfi h1 h2 h3
          rw [hf] at hi; cases hi
    | some j =>
      obtain ⟨h1, h2, h3⟩ := hin hf
      have ej : j ≠ k := fun ej => e (by rw [← h3, ej])
      obtain ⟨i, hi⟩ := hfi (x := m.drop k) (j := j) (by rw [zfb]; exact h1) (by rw [zfm hk, if_neg ej]; exact h2) (by rw [zfm hk, if_neg ej]; exact h3)
      obtain ⟨g1, g2, g3⟩ := hin hi
      rw [zfb] at g1
      rw [zfm hk] at g2 g3
      by_cases ei : i = k
      · rw [if_pos ei] at g2; cases g2
      · rw [if_neg ei] at g2 g3
        rw [hi, hO.uniq i j g1 h1 g2 h2 (g3.trans h3.symm)]
end
end Md
open Md in
theorem MdOk.drop {m : Md} {k : Nat} (hO : MdOk m) (hk : k < m.dv.length) (hg : (m.at k).gone = false) (hu : m.users (m.at k).name = 0) (hb : m.busy k = false) : MdOk (m.drop k) := by
  have hf := fun n => zti (n := n) hO hk hg
  have hc : ∀ i, ((m.drop k).at i).gone = false → i ≠ k ∧ (m.drop k).at i = m.at i := fun i hi => by
    rw [zfm hk] at hi ⊢
    by_cases e : i = k
    · rw [if_pos e] at hi; cases hi
    · exact ⟨e, if_neg e⟩
  have hfl : ∀ i, ((m.drop k).at i).live = (m.at i).live ∧ ((m.drop k).at i).new = (m.at i).new ∧ ((m.drop k).at i).hl = (m.at i).hl ∧ ((m.drop k).at i).hn = (m.at i).hn ∧ ((m.drop k).at i).isB = (m.at i).isB ∧ ((m.drop k).at i).susp = (m.at i).susp ∧ ((m.drop k).at i).wait = (m.at i).wait ∧ ((m.drop k).at i).base = (m.at i).base := fun i => by
    rw [zfm hk]
    by_cases e : i = k
    · rw [if_pos e, e]; exact ⟨rfl, rfl, rfl, rfl, rfl, rfl, rfl, rfl⟩
    · rw [if_neg e]; exact ⟨rfl, rfl, rfl, rfl, rfl, rfl, rfl, rfl⟩
  unfold busy at hb
  rw [Bool.or_eq_false_iff] at hb
  have hw0 : (m.at k).wait = [] := by simpa using hb.1
  have hno : ∀ i, i < m.dv.length → ∀ w ∈ (m.at i).wait, w.gv ≠ k := fun i hi w hw e => by
    have h := List.any_eq_false.1 hb.2 (m.at i) (by simp [Md.at, List.getD, hi])
    exact h (List.any_eq_true.2 ⟨w, hw, by simp [e]⟩)
  refine ⟨fun i j hi hj hgi hgj he => ?_, fun i hi hgi => ?_, fun i => ?_, fun i hi hgi t ht hne => ?_, ?_, fun i hi => ?_, fun i => ?_, fun i => ?_, fun i hi w hw => ?_⟩
  · rw [zfb] at hi hj
    have e1 := (hc i hgi).2; have e2 := (hc j hgj).2
    rw [e1] at hgi he
    rw [e2] at hgj he
    exact hO.uniq i j hi hj hgi hgj he
  · rw [zfb] at hi
    have e1 := (hc i hgi).2
    rw [e1] at hgi ⊢
    exact hO.nm i hi hgi
  · rw [(hfl i).1, (hfl i).2.1]; exact hO.chk i
  · rw [zfb] at hi
    have e1 := (hc i hgi).2
    rw [e1] at hgi ht
    rw [hf]
    have h1 := hO.nam i hi hgi t ht hne
    split
    · rename_i e
      exfalso
      have h2 := List.countP_eq_zero.1 hu (m.at i) (by simp [Md.at, List.getD, hi])
      apply h2
      unfold usesD
      rw [hgi]
      have hn : ∀ l : List api_Target, t ∈ l → Go.Proofs.nam l (m.at k).name = true := fun l hl => List.any_eq_true.2 ⟨t, hl, by rw [← e]; simp [hne]⟩
      rcases List.mem_append.1 ht with h3 | h3
      · rw [hn _ h3]; rfl
      · rw [hn _ h3]; simp
    · exact h1
  · obtain ⟨rk, hr⟩ := hO.acy
    refine ⟨rk, fun i hi hgi t ht j hj => ?_⟩
    rw [zfb] at hi
    have e1 := (hc i hgi).2
    rw [e1] at hgi ht
    rw [hf] at hj
    split at hj
    · cases hj
    · exact hr i hi hgi t ht j hj
  · obtain ⟨q1, q2, q3, q4, q5, q6, q7, q8⟩ := hfl i
    rw [q5] at hi
    rw [q1, q2, q3, q4, q6, q7, q8]; exact hO.bas i hi
  · rw [(hfl i).1, (hfl i).2.2.1]; exact hO.hl i
  · rw [(hfl i).2.1, (hfl i).2.2.2.1]; exact hO.hn i
  · rw [zfb] at hi ⊢
    rw [(hfl i).2.2.2.2.2.2.1] at hw
    obtain ⟨g1, g2, g3, g4, g5⟩ := hO.org i hi w hw
    have ei : i ≠ k := fun e => by rw [e, hw0] at hw; cases hw
    have ew := hno i hi w hw
    refine ⟨by rw [zfm hk, if_neg ei]; exact g1, g2, by rw [zfm hk, if_neg ew]; exact g3, by rw [zfm hk, if_neg ew]; exact g4, g5⟩
theorem MdBig.drop {m : Md} {k : Nat} (h : MdBig m) (hk : k < m.dv.length) : MdBig (m.drop k) := h.set hk rfl (h.wl k) h.tks h.told h.wr
end Go.Proofs
set_option linter.unusedSimpArgs false
set_option maxRecDepth 20000
namespace Go.Proofs
open Go.VG
namespace Md
end Md
end Go.Proofs
namespace Go.Proofs
namespace Md
section
variable {m m2 : Md} {k i : Nat} {x : Wt} {n : ByteArray}
def rs0 (m : Md) (k : Nat) : Md := m.set k { rsX (m.at k) with susp := false, wait := [] }
theorem ok_rs0 (hO : MdOk m) (hk : m.isDx k) : MdOk (m.rs0 k) := by
  obtain ⟨rk, hr⟩ := hO.acy
  have hx : rsX (m.at k) = m.at k ∨ ((m.at k).hn = true ∧ rsX (m.at k) = { m.at k with live := (m.at k).new, hl := true, new := [], hn := false }) := by
    unfold rsX
    cases h : (m.at k).hn
    · exact .inl (by simp)
    · exact .inr ⟨rfl, by simp⟩
  have hs : ∀ t ∈ tbl { rsX (m.at k) with susp := false, wait := [] }, t ∈ tbl (m.at k) := fun t ht => by
    rcases hx with h | ⟨_, h⟩
    · rw [h] at ht; exact ht
    · rw [h] at ht
      have : t ∈ (m.at k).new := by simpa [tbl] using ht
      exact List.mem_append.2 (.inr this)
  have hkey : key { rsX (m.at k) with susp := false, wait := [] } = key (m.at k) := by
    rcases hx with h | ⟨_, h⟩ <;> rw [h] <;> rfl
  refine hO.set (d' := { rsX (m.at k) with susp := false, wait := [] }) hk rfl hkey ?_ ?_ (fun t ht hne => hO.nam k hk.1 hk.2.1 t (hs t ht) hne) ⟨rk, zmd hk.1 rfl hkey hs hr⟩ ?_ ?_ (fun w hw => by cases hw)
  · rcases hx with h | ⟨_, h⟩ <;> rw [h] <;> exact hk.2.2
  · rcases hx with h | ⟨_, h⟩ <;> rw [h]
    · exact hO.chk k
    · exact ⟨(hO.chk k).2, rfl⟩
  · rcases hx with h | ⟨_, h⟩ <;> rw [h]
    · exact hO.hl k
    · exact fun h => by cases h
  · rcases hx with h | ⟨_, h⟩ <;> rw [h]
    · exact hO.hn k
    · exact fun _ => rfl
theorem znc (hl : m2.dv.length = m.dv.length) (h : ∀ i, (m2.at i).wait = (m.at i).wait) : m2.wsum = m.wsum := by
  unfold wsum
  congr 1
  refine List.ext_getElem (by simp [hl]) fun i h1 h2 => ?_
  simp only [List.length_map] at h1 h2
  have := congrArg List.length (h i)
  simpa [Md.at, List.getD, h1, h2] using this
structure RsK (m m2 : Md) (i : Nat) : Prop where
  like : Like m m2
  tks : m2.tks = m.tks
  cl : m2.cl = m.cl
  told : m2.told.length ≤ m.told.length + i
  wr : m2.wr ≤ m.wr + i
  wsum : m2.wsum ≤ m.wsum + i
theorem RsK.refl : RsK m m 0 := ⟨.refl, rfl, rfl, Nat.le_refl _, Nat.le_refl _, Nat.le_refl _⟩
theorem RsK.step (h : RsK m m2 i) : RsK m (m2.rsT x) (i + 1) := by
  have h3 := h.told; have h4 := h.wr; have h5 := h.wsum
  unfold rsT
  split
  · rename_i w _
    refine ⟨h.like.trans (Like.set (m := m2) (k := w) (d' := { m2.at w with wait := (m2.at w).wait ++ [x] }) ⟨rfl, rfl, rfl, rfl, rfl, rfl, rfl, rfl⟩), h.tks, h.cl, Nat.le_succ_of_le h3, Nat.le_succ_of_le h4, ?_⟩
    refine Nat.le_trans ?_ (Nat.succ_le_succ h5)
    by_cases hw : w < m2.dv.length
    · have := zib m2.dv w { m2.at w with wait := (m2.at w).wait ++ [x] } hw
      have e : (m2.dv.getD w Dv.z).wait.length = (m2.at w).wait.length := rfl
      rw [List.length_append, List.length_singleton] at this
      show ((m2.dv.set w _).map fun d => d.wait.length).sum ≤ (m2.dv.map fun d => d.wait.length).sum + 1
      omega
    · show ((m2.dv.set w _).map fun d => d.wait.length).sum ≤ (m2.dv.map fun d => d.wait.length).sum + 1
      rw [List.set_eq_of_length_le (by omega)]; omega
  · have hK := carry_kept (m := m2) (m2.dv.length + 1) x.gv x.t
    have e := znc hK.like.len hK.wait
    refine ⟨h.like.trans ⟨hK.like.len, hK.like.at_⟩, hK.tks.trans h.tks, hK.cl.trans h.cl, ?_, Nat.le_trans hK.wr (Nat.succ_le_succ h4), ?_⟩
    · show ((m2.carryk x.gv x.t).2.told ++ [_]).length ≤ _
      rw [List.length_append, show (m2.carryk x.gv x.t).2.told = m2.told from hK.told]
      simp; omega
    · show (m2.carryk x.gv x.t).2.wsum ≤ _
      rw [show (m2.carryk x.gv x.t).2.wsum = m2.wsum from e]; omega
theorem RsK.foldl : ∀ (l : List Wt) {i : Nat} {m2 : Md}, RsK m m2 i → RsK m (l.foldl rsT m2) (i + l.length)
  | [], _, _, h => h
  | x :: l, i, m2, h => by
    have := RsK.foldl l (h.step (x := x))
    rw [List.length_cons, show i + (l.length + 1) = i + 1 + l.length by omega]
    exact this
theorem rs0_wsum (hk : k < m.dv.length) : (m.rs0 k).wsum + (m.at k).wait.length = m.wsum := by
  have := zib m.dv k { rsX (m.at k) with susp := false, wait := [] } hk
  have e : (m.dv.getD k Dv.z).wait.length = (m.at k).wait.length := rfl
  rw [e] at this
  exact this
theorem zpx (h : m.dev n = some k) : k < m.dv.length := by
  unfold dev at h
  cases hf : m.find n with
  | none => rw [hf] at h; cases h
  | some j =>
    rw [hf] at h
    have := find_lt0 hf
    cases hb : (m.at j).isB
    · simp [hb] at h; omega
    · simp [hb] at h
theorem bd_rs (h : MdBd m) (hc : m.cl < 4000) : MdBd (m.rsS n).tick := by
  have h1 := h.tks; have h2 := h.told; have h3 := h.wr; have h4 := h.len; have h5 := h.wl
  unfold rsS
  cases hd : m.dev n with
  | none => exact tick_bd h hc
  | some k =>
    show MdBd (Md.tick (if m.rsE n = 0 then (m.at k).wait.foldl rsT (m.rs0 k) else m))
    split
    · have hk := zpx hd
      have hK := (RsK.refl (m := m.rs0 k)).foldl (m.at k).wait
      rw [Nat.zero_add] at hK
      have hw := rs0_wsum (m := m) hk
      have g1 := hK.wsum; have g2 := hK.told; have g3 := hK.wr; have g4 := hK.tks; have g5 := hK.cl; have g6 := hK.like.len
      have e1 : (m.rs0 k).tks = m.tks := rfl
      have e2 : (m.rs0 k).cl = m.cl := rfl
      have e3 : (m.rs0 k).told = m.told := rfl
      have e4 : (m.rs0 k).wr = m.wr := rfl
      have e5 : (m.rs0 k).dv.length = m.dv.length := by show (m.dv.set k _).length = _; simp
      rw [e3] at g2
      show MdBd ((m.at k).wait.foldl rsT (m.rs0 k)).tick
      generalize (m.at k).wait.foldl rsT (m.rs0 k) = z at *
      exact ⟨by show z.wsum ≤ z.tks; omega, by show z.tks ≤ z.cl + 1; omega, by show z.told.length ≤ 4000 * (z.cl + 1); omega, by show z.wr ≤ 4000 * (z.cl + 1); omega, by show z.dv.length ≤ z.cl + 1 + 2; omega, by show z.cl + 1 ≤ 4000; omega⟩
    · exact tick_bd h hc
theorem zrr {l : List Wt} (hi : i < l.length) : (l.take (i + 1)).foldl rsT m = ((l.take i).foldl rsT m).rsT (l.getD i Wt.z) := by
  have e : l.take (i + 1) = l.take i ++ [l.getD i Wt.z] := by rw [List.take_succ_eq_append_getElem hi]; simp [List.getD, hi]
  rw [e, List.foldl_append]; rfl
theorem rsT_way {w : Nat} (h : m.wayk x.gv x.t = some w) : m.rsT x = m.addW w x := by unfold rsT; rw [h]
theorem rsT_go (h : m.wayk x.gv x.t = none) : m.rsT x = { (m.carryk x.gv x.t).2 with told := (m.carryk x.gv x.t).2.told ++ [⟨true, (x.tk : Int), (m.carryk x.gv x.t).1.1, (m.carryk x.gv x.t).1.2⟩] } := by unfold rsT; rw [h]
theorem rs_none (h : m.dev n = none) : m.rsE n = 12 ∧ m.rsS n = m := by unfold rsE rsS; rw [h]; exact ⟨rfl, rfl⟩
theorem rsS_no (h : m.rsE n ≠ 0) : m.rsS n = m := by
  unfold rsS
  cases m.dev n with
  | none => rfl
  | some k => exact if_neg h
theorem rs_state (h : m.dev n = some k) (h1 : (m.at k).susp = false ∨ ((m.at k).hl = false ∧ (m.at k).hn = false)) : m.rsE n = 20 := by unfold rsE; rw [h]; exact if_pos h1
theorem rs_fit (h : m.dev n = some k) (h1 : ¬ ((m.at k).susp = false ∨ ((m.at k).hl = false ∧ (m.at k).hn = false))) (h2 : (m.at k).hn = true ∧ (m.needs k (tsize (m.at k).new) = false ∨ m.fits (m.at k).new = false)) : m.rsE n = 1 := by
  unfold rsE; rw [h]; show (if _ then _ else _) = _; rw [if_neg h1, if_pos h2]
theorem rs_ok (h : m.dev n = some k) (h1 : ¬ ((m.at k).susp = false ∨ ((m.at k).hl = false ∧ (m.at k).hn = false))) (h2 : ¬ ((m.at k).hn = true ∧ (m.needs k (tsize (m.at k).new) = false ∨ m.fits (m.at k).new = false))) : m.rsE n = 0 ∧ m.rsS n = (m.at k).wait.foldl rsT (m.rs0 k) := by
  have e : m.rsE n = 0 := by unfold rsE; rw [h]; show (if _ then _ else _) = _; rw [if_neg h1, if_neg h2]
  exact ⟨e, by unfold rsS; rw [h]; exact if_pos e⟩
end
end Md
end Go.Proofs
set_option linter.unusedSimpArgs false
set_option maxRecDepth 20000
namespace Go.Proofs
open Go.VG
theorem zhh (v0 : Int) (v1 : (Option Addr)) (v2 : Int) (v3 : Int) (v4 : Int) : zby Tryz.prog 109 1 [(0, .agg #[.int .i64 v0, .pointer v1, .int .i64 v2, .int .i64 v3, .int .u64 v4])] 135 [.int .i64 v0, .pointer v1, .int .i64 v2, .int .i64 v3, .int .u64 v4] := fun w => by kernel_rfl
theorem zfc (v0 : Bool) (v1 : Int) (v2 : Int) (v3 : Int) : zby Tryz.prog 54 1 [(0, .agg #[.bool v0, .int .i64 v1, .int .u64 v2, .int .i64 v3])] 51 [.bool v0, .int .i64 v1, .int .u64 v2, .int .i64 v3] := fun w => by kernel_rfl
theorem zgy {P : Program} {n : Env} {W : World} {l : List Oper} {Q : Exit → Act → World → Prop} {Hr H : List HP} {tl fuel m : Nat} {s : Slots} {T : TypeId} {z : Value} {zs : List Value} {d : Nat} {ty : TypeId} {pos : String} {after : Array Edge} {g : Option (Nat × Bool)} (i m' : Nat) (hi : l[i]? = some ⟨some d, .alloc T, ty, pos, after, g⟩) (hr : ze7 l.toArray m [i] = true) (hm' : m ||| 2 ^ i = m') (hg : GY l.toArray s ⟨some d, .alloc T, ty, pos, after, g⟩ true)
    (hz : ∀ w, (zeroValue T).run P w = .ok z w) (hc : z.cells = zs.toArray) (hd : Nat.blt d n.n = true) (h : ∀ b, AJ P n W l Q Hr tl fuel m' ((d, ptr b 0) :: s) (blk b T zs :: H)) : AJ P n W l Q Hr tl (fuel + 1) m s H := by
  intro a w hf hs
  have hr' : Region.ready .any l.toArray (zcp l.toArray.size m) = [i] := by simpa [ze7] using hr
  refine ⟨fun h0 => (by rw [hr'] at h0; cases h0), fun j hj => ?_⟩
  rw [hr'] at hj
  have : j = i := by simpa using hj
  subst this
  rw [zeb, hm']
  have hi' : l.toArray[j]? = some ⟨some d, .alloc T, ty, pos, after, g⟩ := by simpa using hi
  have hrun : (execOp a.eval ⟨some d, .alloc T, ty, pos, after, g⟩).run P w = .ok (.value (ptr w.heap.size 0)) (w.alloc (.cells zs.toArray T)) := by simp [execOp, Instr.alloc, hz, newVar, newRow, hc]
  unfold wpOp
  simp only [hi', hg n a hf, if_true]
  refine .inl ?_
  unfold Oper.wp
  rw [hrun]
  exact ⟨fun _ hS => (hS.alloc _).imp (Ent.drop Ent.refl), h _ _ _ (hf.put hd _) (hs.alloc _)⟩
theorem znd {bs : Nat → Nat} {l : List Wt} {i : Nat} (hi : i < l.length) : Value.agg #[.int .i64 ((l.getD i Wt.z).tk : Int), ptr (bs (l.getD i Wt.z).gv) 0, .int .i64 (l.getD i Wt.z).t.Kind, .int .i64 (l.getD i Wt.z).t.At, .int .u64 ((l.getD i Wt.z).t.Value.toNat : Int)] = Value.agg (tyErr.enc ((l.map (wC bs)).getD i tyErr.dflt)).toArray := by
  have : (l.map (wC bs)).getD i tyErr.dflt = wC bs (l.getD i Wt.z) := by simp [List.getD, hi]
  rw [this]; rfl
namespace Md
section
variable {m : Md} {k i : Nat}
def rsI (m : Md) (k i : Nat) : Md := ((m.at k).wait.take i).foldl rsT (m.rs0 k)
theorem rsI_zero : m.rsI k 0 = m.rs0 k := by unfold rsI; rw [List.take_zero]; rfl
theorem rsI_succ (hi : i < (m.at k).wait.length) : m.rsI k (i + 1) = (m.rsI k i).rsT ((m.at k).wait.getD i Wt.z) := zrr hi
theorem rsI_end : m.rsI k (m.at k).wait.length = (m.at k).wait.foldl rsT (m.rs0 k) := by unfold rsI; rw [List.take_length]
theorem rsI_K (hi : i ≤ (m.at k).wait.length) : RsK (m.rs0 k) (m.rsI k i) i := by
  have := (RsK.refl (m := m.rs0 k)).foldl ((m.at k).wait.take i)
  rw [Nat.zero_add, List.length_take, Nat.min_eq_left hi] at this
  exact this
theorem rs0_at (hk : k < m.dv.length) (j : Nat) : ((m.rs0 k).at j).gone = (m.at j).gone ∧ ((m.rs0 k).at j).isB = (m.at j).isB ∧ ((m.rs0 k).at j).name = (m.at j).name := by
  unfold rs0
  rw [at_set hk]
  by_cases e : j = k
  · subst e; rw [if_pos rfl]
    unfold rsX
    split <;> exact ⟨rfl, rfl, rfl⟩
  · rw [if_neg e]; exact ⟨rfl, rfl, rfl⟩
theorem rsI_isD (hk : k < m.dv.length) (hi : i ≤ (m.at k).wait.length) {j : Nat} (hj : m.isD j) : (m.rsI k i).isD j := by
  have h := (rsI_K hi).like
  obtain ⟨g1, g2, _⟩ := rs0_at hk j
  exact ⟨by rw [h.len]; show j < (m.dv.set k _).length; rw [List.length_set]; exact hj.1, ((h.at_ j).gone.trans g1).trans hj.2.1, ((h.at_ j).isB.trans g2).trans hj.2.2⟩
theorem org_at (hO : MdOk m) (hk : k < m.dv.length) (hi : i < (m.at k).wait.length) : m.isD ((m.at k).wait.getD i Wt.z).gv ∧ 1 ≤ ((m.at k).wait.getD i Wt.z).t.Kind ∧ ((m.at k).wait.getD i Wt.z).t.Kind ≤ 3 ∧ inT ((m.at k).wait.getD i Wt.z).t := by
  obtain ⟨_, h1, h2, h3, h4, h5, h6⟩ := hO.org k hk _ (zb9 Wt.z hi)
  exact ⟨⟨h1, h2, h3⟩, h4, h5, h6⟩
end
end Md
theorem zu3 {W : World} {b : Nat} {c : MH} {m : Md} {n : ByteArray} (hwr : m.wr + m.wsum < 100000000) (hto : m.told.length + m.wsum < 100000000) (hws : m.wsum < 100000) :
    CSpec Tryz.prog W 34 [ptr b 0, .string n] [blk b 84 (zax c m), MapR c m] (fun _ : MH => .int .i64 (m.rsE n)) (fun _ => True) (fun c2 F => blk b 84 (zax c2 (m.rsS n)) :: MapR c2 (m.rsS n) :: F) := by
 refine CSpec.of_body Tryz.func34 rfl Tryz.ntmps34 rfl fun F => ?_
 show CJ _ _ _ _ _ _ (_ :: _ :: F)
 refine zbl (zb3 foc1) fun hW => ?_
 have hO := hW.ok
 have hns := Md.names_len (m := m)
 have hln := hW.big.len
 refine sR <| oA rfl rfl <| nT <| sR <| oM rfl rfl <| oP (zae rfl) rfl <| oP (zaa rfl ⟨_, _, _, Tryz.runUnderlying84, rfl, rfl, Tryz.sizeOf82, rfl⟩) rfl <| oV (zah rfl foc0 rfl Tryz.isAgg82) rfl <| oM rfl rfl <| oO (zea rfl rfl foc1 rfl (fun hd2 => ?_) (fun k1 hd2 => ?_))
 ·
  refine oA rfl rfl <| nT <| zgp (X := Unit) [4, 17, 18, 19, 20, 21, 22, 23, 24, 25, 26, 27, 28, 29, 30, 31, 32, 33, 34, 35, 36, 37, 38, 39, 40, 41, 42, 43, 44, 45, 46, 47, 48, 49, 50, 51, 52, 53, 54, 55, 56, 57, 58, 59, 60, 61, 62, 63, 64] (fun _ => ([] : Slots)) (fun _ R => R) (fun _ => False) Dels.nil ?_ ?_
  ·
   refine zat <| sR <| oM rfl rfl <| oP (zgs rfl rfl Tryz.underlying85) rfl <| oA rfl rfl <| nT <| za4 rfl rfl <| sR <| oA rfl rfl <| nT <| zai <| zaj <| zad <| zam (res1 Tryz.results34 rfl) ?_
   have e1 := Md.rs_none hd2
   rw [e1.2]
   refine CSpec.close c ?_ ?_ (t0_ (t0_ eR))
   · rw [e1.1]
   · trivial
  ·
   intro _ hpf
   show CJ _ _ _ _ _ (([] : Slots) ++ forget _ _) (_)
   exact hpf.elim
 ·
  refine oA rfl rfl <| nT <| zgp (X := Unit) [4, 17, 18, 19, 20, 21, 22, 23, 24, 25, 26, 27, 28, 29, 30, 31, 32, 33, 34, 35, 36, 37, 38, 39, 40, 41, 42, 43, 44, 45, 46, 47, 48, 49, 50, 51, 52, 53, 54, 55, 56, 57, 58, 59, 60, 61, 62, 63, 64] (fun _ => ([] : Slots)) (fun _ R => blk b 84 (zax c m) :: MapR c m :: R) (fun _ => ¬ ((m.at k1).susp = false ∨ ((m.at k1).hl = false ∧ (m.at k1).hn = false)) ∧ ¬ ((m.at k1).hn = true ∧ (m.needs k1 (tsize (m.at k1).new) = false ∨ m.fits (m.at k1).new = false))) (Dels.cons del0 (Dels.cons del0 Dels.nil)) ?_ ?_
  ·
   refine zat <| sR <| oM rfl rfl <| oP (zd7 rfl rfl Tryz.underlying85) rfl <| oA rfl rfl <| nT <| za5 rfl rfl <| zaf ?_
   have hdk := Md.dev_is hd2
   have hch2 := zb0 (hO.chk k1).2
   have hwl := m.wait_le k1
   refine zak <| oM rfl rfl <| oP (zae rfl) rfl <| oP (zaa rfl ⟨_, _, _, Tryz.runUnderlying111, rfl, rfl, Tryz.sizeOf4, rfl⟩) rfl <| oV (zbu (Ent.trans (t1_ eR) (za8 (Md.dev_is hd2).1)) (zah rfl foc0 rfl Tryz.isAgg4)) rfl <| oP (P_not rfl) rfl <| oM rfl rfl ?_
   first | (refine zba 26 rfl (fun hg1B hg1 => ?_) (fun hg1B hg1 => ?_)) | (refine zbb 26 rfl (fun hg1B hg1 => ?_) (fun hg1B hg1 => ?_)) | (refine zbi 26 rfl (fun hg1B => ?_) (fun hg1B => ?_))
   ·
    refine RJ_gn (GY_no rfl rfl rfl hg1B) rfl rfl <| RJ_gn (GY_no rfl rfl rfl hg1B) rfl rfl <| RJ_gn (GY_no rfl rfl rfl hg1B) rfl rfl <| RJ_gn (GY_no rfl rfl rfl hg1B) rfl rfl <| RJ_gn (GY_no rfl rfl rfl hg1B) rfl rfl <| RJ_gn (GY_no rfl rfl rfl hg1B) rfl rfl <| RJ_gn (zbq rfl rfl rfl) rfl rfl <| RJ_gn (zbq rfl rfl rfl) rfl rfl <| RJ_gn (zbq rfl rfl rfl) rfl rfl <| RJ_gn (zbq rfl rfl rfl) rfl rfl <| RJ_gn (zbq rfl rfl rfl) rfl rfl <| RJ_gn (GY_no rfl rfl rfl hg1B) rfl rfl <| oP (zas rfl hg1B rfl) rfl <| oA rfl rfl <| nT <| za4 rfl rfl <| sR <| oA rfl rfl <| nT <| zai <| zaj <| zad <| zam (res1 Tryz.results34 rfl) ?_
    have e1 := (fun z => (⟨z, Md.rsS_no (by rw [z]; decide)⟩ : m.rsE n = 20 ∧ m.rsS n = m)) (Md.rs_state hd2 (by simp_all))
    rw [e1.2]
    refine CSpec.close c ?_ ?_ (t0_ (t0_ eR))
    · rw [e1.1]
    · trivial
   ·
    refine gP (zab rfl rfl rfl hg1B) (zag rfl) rfl <| gP (zab rfl rfl rfl hg1B) (zae rfl) rfl <| gP (zab rfl rfl rfl hg1B) (zaa rfl ⟨_, _, _, Tryz.runUnderlying111, rfl, rfl, Tryz.sizeOf4, rfl⟩) rfl <| gV (zab rfl rfl rfl hg1B) (zbu (Ent.trans (t1_ eR) (za8 (Md.dev_is hd2).1)) (zah rfl foc0 rfl Tryz.isAgg4)) rfl <| gP (zab rfl rfl rfl hg1B) (P_not rfl) rfl <| gP (zab rfl rfl rfl hg1B) (zag rfl) rfl ?_
    first | (refine zba 32 rfl (fun hg2B hg2 => ?_) (fun hg2B hg2 => ?_)) | (refine zbb 32 rfl (fun hg2B hg2 => ?_) (fun hg2B hg2 => ?_)) | (refine zbi 32 rfl (fun hg2B => ?_) (fun hg2B => ?_))
    ·
     refine gP (zab rfl rfl rfl hg2B) (zag rfl) rfl <| gP (zab rfl rfl rfl hg2B) (zae rfl) rfl <| gP (zab rfl rfl rfl hg2B) (zaa rfl ⟨_, _, _, Tryz.runUnderlying111, rfl, rfl, Tryz.sizeOf4, rfl⟩) rfl <| gV (zab rfl rfl rfl hg2B) (zbu (Ent.trans (t1_ eR) (za8 (Md.dev_is hd2).1)) (zah rfl foc0 rfl Tryz.isAgg4)) rfl <| gP (zab rfl rfl rfl hg2B) (P_not rfl) rfl <| gP (zab rfl rfl rfl hg1B) (zas rfl hg2B rfl) rfl <| oP (zay rfl hg1B rfl) rfl <| oA rfl rfl <| nT ?_
     first | (refine zao rfl (fun hg3 => ?_) (fun hg3 => ?_)) | (refine zap rfl (fun hg3 => ?_) (fun hg3 => ?_)) | (refine zar rfl (fun hg3 => ?_) (fun hg3 => ?_))
     ·
      refine sR <| oA rfl rfl <| nT <| zai <| zaj <| zad <| zam (res1 Tryz.results34 rfl) ?_
      have e1 := (fun z => (⟨z, Md.rsS_no (by rw [z]; decide)⟩ : m.rsE n = 20 ∧ m.rsS n = m)) (Md.rs_state hd2 (by simp_all))
      rw [e1.2]
      refine CSpec.close c ?_ ?_ (t0_ (t0_ eR))
      · rw [e1.1]
      · trivial
     ·
      refine sR <| oM rfl rfl <| oP (zae rfl) rfl <| oP (zaa rfl ⟨_, _, _, Tryz.runUnderlying111, rfl, rfl, Tryz.sizeOf4, rfl⟩) rfl <| oV (zbu (Ent.trans (t1_ eR) (za8 (Md.dev_is hd2).1)) (zah rfl foc0 rfl Tryz.isAgg4)) rfl <| oM rfl rfl ?_
      first | (refine zba 45 rfl (fun hg4B hg4 => ?_) (fun hg4B hg4 => ?_)) | (refine zbb 45 rfl (fun hg4B hg4 => ?_) (fun hg4B hg4 => ?_)) | (refine zbi 45 rfl (fun hg4B => ?_) (fun hg4B => ?_))
      ·
       refine gP (zab rfl rfl rfl hg4B) (zag rfl) rfl <| gP (zab rfl rfl rfl hg4B) (zag rfl) rfl <| gP (zab rfl rfl rfl hg4B) (zag rfl) rfl <| gP (zab rfl rfl rfl hg4B) (zae rfl) rfl <| gP (zab rfl rfl rfl hg4B) (zaa rfl ⟨_, _, _, Tryz.runUnderlying111, rfl, rfl, Tryz.sizeOf30, rfl⟩) rfl <| gV (zab rfl rfl rfl hg4B) (zbu (Ent.trans (t1_ eR) (za8 (Md.dev_is hd2).1)) (zah rfl foc0 rfl Tryz.isAgg30)) rfl <| RJ_gy (zab rfl rfl rfl hg4B) <| zaq (zey (rdNew (Md.dev_is hd2).1) zh1) rfl Tryz.call81 (Dels.cons del1 Dels.nil) rfl fun _ hc3 => RJ_gy (zab rfl rfl rfl hg4B) <| zaq (zjo (Md.dev_is hd2).1) rfl Tryz.call80 (Dels.cons del1 (Dels.cons del0 Dels.nil)) rfl fun _ hc4 => gP (zab rfl rfl rfl hg4B) (P_not rfl) rfl <| gP (zab rfl rfl rfl hg4B) (zag rfl) rfl ?_
       first | (refine zba 55 rfl (fun hg5B hg5 => ?_) (fun hg5B hg5 => ?_)) | (refine zbb 55 rfl (fun hg5B hg5 => ?_) (fun hg5B hg5 => ?_)) | (refine zbi 55 rfl (fun hg5B => ?_) (fun hg5B => ?_))
       ·
        refine RJ_gn (GY_no rfl rfl rfl hg5B) rfl rfl <| RJ_gn (GY_no rfl rfl rfl hg5B) rfl rfl <| RJ_gn (GY_no rfl rfl rfl hg5B) rfl rfl <| RJ_gn (GY_no rfl rfl rfl hg5B) rfl rfl <| RJ_gn (GY_no rfl rfl rfl hg5B) rfl rfl <| RJ_gn (GY_no rfl rfl rfl hg5B) rfl rfl <| RJ_gn (GY_no rfl rfl rfl hg5B) rfl rfl <| gP (zab rfl rfl rfl hg4B) (zas rfl hg5B rfl) rfl <| oP (zas rfl hg4B rfl) rfl <| oA rfl rfl <| nT <| za4 rfl rfl <| sR <| oA rfl rfl <| nT <| zai <| zaj <| zad <| zam (res1 Tryz.results34 rfl) ?_
        have e1 := (fun z => (⟨z, Md.rsS_no (by rw [z]; decide)⟩ : m.rsE n = 1 ∧ m.rsS n = m)) (Md.rs_fit hd2 (by simp_all) (by simp_all))
        rw [e1.2]
        refine CSpec.close c ?_ ?_ (t0_ (t0_ eR))
        · rw [e1.1]
        · trivial
       ·
        refine gP (zab rfl rfl rfl hg5B) (zag rfl) rfl <| gP (zab rfl rfl rfl hg5B) (zag rfl) rfl <| gP (zab rfl rfl rfl hg5B) (zae rfl) rfl <| gP (zab rfl rfl rfl hg5B) (zaa rfl ⟨_, _, _, Tryz.runUnderlying111, rfl, rfl, Tryz.sizeOf30, rfl⟩) rfl <| gV (zab rfl rfl rfl hg5B) (zbu (Ent.trans (t1_ eR) (za8 (Md.dev_is hd2).1)) (zah rfl foc0 rfl Tryz.isAgg30)) rfl <| RJ_gy (zab rfl rfl rfl hg5B) <| zaq (zk6 (rdNew hdk.1) (by omega) (fun x hx => ⟨fun hne => hO.nam _ hdk.1.1 hdk.1.2.1 x (List.mem_append.2 (.inr hx)) hne, zdi (hO.chk _).2 hx⟩)) rfl Tryz.call73 (Dels.cons del0 (Dels.cons del0 Dels.nil)) rfl fun _ hc5 => gP (zab rfl rfl rfl hg5B) (P_not rfl) rfl <| gP (zab rfl rfl rfl hg4B) (zay rfl hg5B rfl) rfl <| oP (zas rfl hg4B rfl) rfl <| oA rfl rfl <| nT ?_
        first | (refine zao rfl (fun hg6 => ?_) (fun hg6 => ?_)) | (refine zap rfl (fun hg6 => ?_) (fun hg6 => ?_)) | (refine zar rfl (fun hg6 => ?_) (fun hg6 => ?_))
        ·
         refine sR <| oA rfl rfl <| nT <| zai <| zaj <| zad <| zam (res1 Tryz.results34 rfl) ?_
         have e1 := (fun z => (⟨z, Md.rsS_no (by rw [z]; decide)⟩ : m.rsE n = 1 ∧ m.rsS n = m)) (Md.rs_fit hd2 (by simp_all) (by simp_all))
         rw [e1.2]
         refine CSpec.close c ?_ ?_ (t0_ (t0_ eR))
         · rw [e1.1]
         · trivial
        ·
         exact zbk <| zal <| cR () ⟨by simp_all, by simp_all⟩ True.intro (t0_ (t0_ eR))
      ·
       exact RJ_gn (GY_no rfl rfl rfl hg4B) rfl rfl <| RJ_gn (GY_no rfl rfl rfl hg4B) rfl rfl <| RJ_gn (GY_no rfl rfl rfl hg4B) rfl rfl <| RJ_gn (GY_no rfl rfl rfl hg4B) rfl rfl <| RJ_gn (GY_no rfl rfl rfl hg4B) rfl rfl <| RJ_gn (GY_no rfl rfl rfl hg4B) rfl rfl <| RJ_gn (GY_no rfl rfl rfl hg4B) rfl rfl <| RJ_gn (GY_no rfl rfl rfl hg4B) rfl rfl <| RJ_gn (GY_no rfl rfl rfl hg4B) rfl rfl <| RJ_gn (GY_no rfl rfl rfl hg4B) rfl rfl <| RJ_gn (zbq rfl rfl rfl) rfl rfl <| RJ_gn (zbq rfl rfl rfl) rfl rfl <| RJ_gn (zbq rfl rfl rfl) rfl rfl <| RJ_gn (zbq rfl rfl rfl) rfl rfl <| RJ_gn (zbq rfl rfl rfl) rfl rfl <| RJ_gn (zbq rfl rfl rfl) rfl rfl <| RJ_gn (zbq rfl rfl rfl) rfl rfl <| RJ_gn (GY_no rfl rfl rfl hg4B) rfl rfl <| oP (zay rfl hg4B rfl) rfl <| oA rfl rfl <| nT <| za5 rfl rfl <| zbk <| zal <| cR () ⟨by simp_all, by simp_all⟩ True.intro (t0_ (t0_ eR))
    ·
     refine RJ_gn (GY_no rfl rfl rfl hg2B) rfl rfl <| RJ_gn (GY_no rfl rfl rfl hg2B) rfl rfl <| RJ_gn (GY_no rfl rfl rfl hg2B) rfl rfl <| RJ_gn (GY_no rfl rfl rfl hg2B) rfl rfl <| RJ_gn (GY_no rfl rfl rfl hg2B) rfl rfl <| gP (zab rfl rfl rfl hg1B) (zay rfl hg2B rfl) rfl <| oP (zay rfl hg1B rfl) rfl <| oA rfl rfl <| nT <| za5 rfl rfl <| sR <| oM rfl rfl <| oP (zae rfl) rfl <| oP (zaa rfl ⟨_, _, _, Tryz.runUnderlying111, rfl, rfl, Tryz.sizeOf4, rfl⟩) rfl <| oV (zbu (Ent.trans (t1_ eR) (za8 (Md.dev_is hd2).1)) (zah rfl foc0 rfl Tryz.isAgg4)) rfl <| oM rfl rfl ?_
     first | (refine zba 45 rfl (fun hg7B hg7 => ?_) (fun hg7B hg7 => ?_)) | (refine zbb 45 rfl (fun hg7B hg7 => ?_) (fun hg7B hg7 => ?_)) | (refine zbi 45 rfl (fun hg7B => ?_) (fun hg7B => ?_))
     ·
      refine gP (zab rfl rfl rfl hg7B) (zag rfl) rfl <| gP (zab rfl rfl rfl hg7B) (zag rfl) rfl <| gP (zab rfl rfl rfl hg7B) (zag rfl) rfl <| gP (zab rfl rfl rfl hg7B) (zae rfl) rfl <| gP (zab rfl rfl rfl hg7B) (zaa rfl ⟨_, _, _, Tryz.runUnderlying111, rfl, rfl, Tryz.sizeOf30, rfl⟩) rfl <| gV (zab rfl rfl rfl hg7B) (zbu (Ent.trans (t1_ eR) (za8 (Md.dev_is hd2).1)) (zah rfl foc0 rfl Tryz.isAgg30)) rfl <| RJ_gy (zab rfl rfl rfl hg7B) <| zaq (zey (rdNew (Md.dev_is hd2).1) zh1) rfl Tryz.call81 (Dels.cons del1 Dels.nil) rfl fun _ hc6 => RJ_gy (zab rfl rfl rfl hg7B) <| zaq (zjo (Md.dev_is hd2).1) rfl Tryz.call80 (Dels.cons del1 (Dels.cons del0 Dels.nil)) rfl fun _ hc7 => gP (zab rfl rfl rfl hg7B) (P_not rfl) rfl <| gP (zab rfl rfl rfl hg7B) (zag rfl) rfl ?_
      first | (refine zba 55 rfl (fun hg8B hg8 => ?_) (fun hg8B hg8 => ?_)) | (refine zbb 55 rfl (fun hg8B hg8 => ?_) (fun hg8B hg8 => ?_)) | (refine zbi 55 rfl (fun hg8B => ?_) (fun hg8B => ?_))
      ·
       refine RJ_gn (GY_no rfl rfl rfl hg8B) rfl rfl <| RJ_gn (GY_no rfl rfl rfl hg8B) rfl rfl <| RJ_gn (GY_no rfl rfl rfl hg8B) rfl rfl <| RJ_gn (GY_no rfl rfl rfl hg8B) rfl rfl <| RJ_gn (GY_no rfl rfl rfl hg8B) rfl rfl <| RJ_gn (GY_no rfl rfl rfl hg8B) rfl rfl <| RJ_gn (GY_no rfl rfl rfl hg8B) rfl rfl <| gP (zab rfl rfl rfl hg7B) (zas rfl hg8B rfl) rfl <| oP (zas rfl hg7B rfl) rfl <| oA rfl rfl <| nT <| za4 rfl rfl <| sR <| oA rfl rfl <| nT <| zai <| zaj <| zad <| zam (res1 Tryz.results34 rfl) ?_
       have e1 := (fun z => (⟨z, Md.rsS_no (by rw [z]; decide)⟩ : m.rsE n = 1 ∧ m.rsS n = m)) (Md.rs_fit hd2 (by simp_all) (by simp_all))
       rw [e1.2]
       refine CSpec.close c ?_ ?_ (t0_ (t0_ eR))
       · rw [e1.1]
       · trivial
      ·
       refine gP (zab rfl rfl rfl hg8B) (zag rfl) rfl <| gP (zab rfl rfl rfl hg8B) (zag rfl) rfl <| gP (zab rfl rfl rfl hg8B) (zae rfl) rfl <| gP (zab rfl rfl rfl hg8B) (zaa rfl ⟨_, _, _, Tryz.runUnderlying111, rfl, rfl, Tryz.sizeOf30, rfl⟩) rfl <| gV (zab rfl rfl rfl hg8B) (zbu (Ent.trans (t1_ eR) (za8 (Md.dev_is hd2).1)) (zah rfl foc0 rfl Tryz.isAgg30)) rfl <| RJ_gy (zab rfl rfl rfl hg8B) <| zaq (zk6 (rdNew hdk.1) (by omega) (fun x hx => ⟨fun hne => hO.nam _ hdk.1.1 hdk.1.2.1 x (List.mem_append.2 (.inr hx)) hne, zdi (hO.chk _).2 hx⟩)) rfl Tryz.call73 (Dels.cons del0 (Dels.cons del0 Dels.nil)) rfl fun _ hc8 => gP (zab rfl rfl rfl hg8B) (P_not rfl) rfl <| gP (zab rfl rfl rfl hg7B) (zay rfl hg8B rfl) rfl <| oP (zas rfl hg7B rfl) rfl <| oA rfl rfl <| nT ?_
       first | (refine zao rfl (fun hg9 => ?_) (fun hg9 => ?_)) | (refine zap rfl (fun hg9 => ?_) (fun hg9 => ?_)) | (refine zar rfl (fun hg9 => ?_) (fun hg9 => ?_))
       ·
        refine sR <| oA rfl rfl <| nT <| zai <| zaj <| zad <| zam (res1 Tryz.results34 rfl) ?_
        have e1 := (fun z => (⟨z, Md.rsS_no (by rw [z]; decide)⟩ : m.rsE n = 1 ∧ m.rsS n = m)) (Md.rs_fit hd2 (by simp_all) (by simp_all))
        rw [e1.2]
        refine CSpec.close c ?_ ?_ (t0_ (t0_ eR))
        · rw [e1.1]
        · trivial
       ·
        exact zbk <| zal <| cR () ⟨by simp_all, by simp_all⟩ True.intro (t0_ (t0_ eR))
     ·
      exact RJ_gn (GY_no rfl rfl rfl hg7B) rfl rfl <| RJ_gn (GY_no rfl rfl rfl hg7B) rfl rfl <| RJ_gn (GY_no rfl rfl rfl hg7B) rfl rfl <| RJ_gn (GY_no rfl rfl rfl hg7B) rfl rfl <| RJ_gn (GY_no rfl rfl rfl hg7B) rfl rfl <| RJ_gn (GY_no rfl rfl rfl hg7B) rfl rfl <| RJ_gn (GY_no rfl rfl rfl hg7B) rfl rfl <| RJ_gn (GY_no rfl rfl rfl hg7B) rfl rfl <| RJ_gn (GY_no rfl rfl rfl hg7B) rfl rfl <| RJ_gn (GY_no rfl rfl rfl hg7B) rfl rfl <| RJ_gn (zbq rfl rfl rfl) rfl rfl <| RJ_gn (zbq rfl rfl rfl) rfl rfl <| RJ_gn (zbq rfl rfl rfl) rfl rfl <| RJ_gn (zbq rfl rfl rfl) rfl rfl <| RJ_gn (zbq rfl rfl rfl) rfl rfl <| RJ_gn (zbq rfl rfl rfl) rfl rfl <| RJ_gn (zbq rfl rfl rfl) rfl rfl <| RJ_gn (GY_no rfl rfl rfl hg7B) rfl rfl <| oP (zay rfl hg7B rfl) rfl <| oA rfl rfl <| nT <| za5 rfl rfl <| zbk <| zal <| cR () ⟨by simp_all, by simp_all⟩ True.intro (t0_ (t0_ eR))
  ·
   intro _ hpf
   obtain ⟨hst, hft⟩ := hpf
   show CJ _ _ _ _ _ (([] : Slots) ++ forget _ _) (blk b 84 (zax c m) :: MapR c m :: _)
   refine zaf <| zaf ?_
   have hdk := Md.dev_is hd2
   have hch2 := zb0 (hO.chk k1).2
   have hwl := m.wait_le k1
   refine zbf (Ent.trans (t1_ eR) (za8 hdk.1)) <| zak <| oM rfl rfl <| oP (zae rfl) rfl <| oP (zaa rfl ⟨_, _, _, Tryz.runUnderlying111, rfl, rfl, Tryz.sizeOf4, rfl⟩) rfl <| oV (zah rfl foc0 rfl Tryz.isAgg4) rfl <| nT ?_
   first | (refine zao rfl (fun hg10 => ?_) (fun hg10 => ?_)) | (refine zap rfl (fun hg10 => ?_) (fun hg10 => ?_)) | (refine zar rfl (fun hg10 => ?_) (fun hg10 => ?_))
   ·
    refine sR <| oM rfl rfl <| oM rfl rfl <| oM rfl rfl <| oP (zae rfl) rfl <| oP (zaa rfl ⟨_, _, _, Tryz.runUnderlying111, rfl, rfl, Tryz.sizeOf30, rfl⟩) rfl <| oV (zah rfl foc0 rfl Tryz.isAgg30) rfl <| oP (zae rfl) rfl <| oP (zaa rfl ⟨_, _, _, Tryz.runUnderlying111, rfl, rfl, Tryz.sizeOf30, rfl⟩) rfl <| oO <| zbj rfl rfl foc0 rfl rfl Tryz.sizeOf30 <| oP (zae rfl) rfl <| oP (zaa rfl ⟨_, _, _, Tryz.runUnderlying111, rfl, rfl, Tryz.sizeOf4, rfl⟩) rfl <| oO <| zbj rfl rfl foc0 rfl rfl Tryz.sizeOf4 <| nT <| zak <| oM rfl rfl <| oM rfl rfl <| oP (zae rfl) rfl <| oP (zaa rfl ⟨_, _, _, Tryz.runUnderlying111, rfl, rfl, Tryz.sizeOf30, rfl⟩) rfl <| oO <| zbj rfl rfl foc0 rfl rfl Tryz.sizeOf30 <| oP (zae rfl) rfl <| oP (zaa rfl ⟨_, _, _, Tryz.runUnderlying111, rfl, rfl, Tryz.sizeOf4, rfl⟩) rfl <| oO <| zbj rfl rfl foc0 rfl rfl Tryz.sizeOf4 <| nT <| sR <| oM rfl rfl <| oP (zae rfl) rfl <| oP (zaa rfl ⟨_, _, _, Tryz.runUnderlying111, rfl, rfl, Tryz.sizeOf4, rfl⟩) rfl <| oO <| zbj rfl rfl foc0 rfl rfl Tryz.sizeOf4 <| nT <| sR <| oM rfl rfl <| oP (zae rfl) rfl <| oP (zaa rfl ⟨_, _, _, Tryz.runUnderlying111, rfl, rfl, Tryz.sizeOf109, rfl⟩) rfl <| oV (zah rfl foc0 rfl Tryz.isAgg109) rfl <| oA rfl rfl <| nT <| sR <| oM rfl rfl <| oP (zae rfl) rfl <| oP (zaa rfl ⟨_, _, _, Tryz.runUnderlying111, rfl, rfl, Tryz.sizeOf109, rfl⟩) rfl ?_
    refine oO <| zbj rfl rfl foc0 rfl rfl Tryz.sizeOf109 <| nT <| zaf <| zaf <| zbf (fun h hh => zb2 (t := tyErr) h hh) <| zbf (fun h hh => zb2 (t := tyapi_Target) h hh) ?_
    have he : m.rs0 k1 = m.set k1 { m.at k1 with live := (m.at k1).new, hl := true, new := [], hn := false, susp := false, wait := [] } := by unfold Md.rs0 Md.rsX; rw [if_pos (by assumption)]
    refine zbf (Ent.trans (t2_ (t3_ (t0_ (t0_ (t2_ eR))))) (zcy (h' := { c.hd k1 with lv := (c.hd k1).nw, nw := s3z, wt := s3z }) (d' := { m.at k1 with live := (m.at k1).new, hl := true, new := [], hn := false, susp := false, wait := [] }) (m' := (m.set k1 { m.at k1 with live := (m.at k1).new, hl := true, new := [], hn := false, susp := false, wait := [] })) hW hdk.1 rfl hdk.1.2.2 rfl rfl rfl (he ▸ Md.ok_rs0 hO hdk.1) (hW.big.set hdk.1.1 rfl (Nat.zero_le _) hW.big.tks hW.big.told hW.big.wr) rfl rfl)) ?_
    rw [← he]
    refine zak <| oM rfl rfl <| oV (V_len rfl foc2 (Reads.sl _ _ _) Tryz.runUnderlying109) rfl <| oM rfl rfl <| nT <| zat <| zbs (X := Nat × MH) [8, 9, 10, 97, 98, 99, 100, 101, 102, 103, 104, 105, 106, 107, 108, 109, 110, 111, 112, 113, 114, 115, 116, 117, 118, 119, 120, 121, 122, 123, 124, 125, 126, 127, 128, 129, 130, 131, 132, 133, 134, 135, 136, 137, 138, 139, 140, 141] (fun ⟨i, c2⟩  => ([(97, .int .i64 (i : Nat))] : Slots)) (fun ⟨i, c2⟩ R => sl tyErr (c.hd k1).wt.v ((m.at k1).wait.map (wC c2.bs)) :: blk b 84 (zax c2 (m.rsI k1 i)) :: MapR c2 (m.rsI k1 i) :: R) (fun ⟨i, c2⟩  => i ≤ (m.at k1).wait.length) (fun ⟨i, c2⟩  => (m.at k1).wait.length - i) ⟨0, (c.put k1 { c.hd k1 with lv := (c.hd k1).nw, nw := s3z, wt := s3z } { m.at k1 with live := (m.at k1).new, hl := true, new := [], hn := false, susp := false, wait := [] })⟩ ?_ ?_ (Ent.takeC del2 (congrArg (fun f => sl tyErr (c.hd k1).wt.v ((m.at k1).wait.map (wC f))) (show MH.bs (c.put k1 { c.hd k1 with lv := (c.hd k1).nw, nw := s3z, wt := s3z } { m.at k1 with live := (m.at k1).new, hl := true, new := [], hn := false, susp := false, wait := [] }) = c.bs from zds hW hdk.1 rfl).symm) (Ent.takeC del2 (by rw [Md.rsI_zero]; rfl) (Ent.takeC del0 (by rw [Md.rsI_zero]; rfl) (t0_ eR)))) ?_
    · exact Nat.zero_le _
    · exact ⟨rfl, True.intro⟩
    ·
     rintro ⟨i, c2⟩ hi
     show CJ _ _ _ _ _ (([(97, .int .i64 (i : Nat))] : Slots) ++ forget _ _) (sl tyErr (c.hd k1).wt.v ((m.at k1).wait.map (wC c2.bs)) :: blk b 84 (zax c2 (m.rsI k1 i)) :: MapR c2 (m.rsI k1 i) :: _)
     refine zbl (zb3 foc2) fun hW2 => ?_
     have hO2 := hW2.ok
     have hK := Md.rsI_K hi
     have hKt := hK.told
     have hKw := hK.wr
     have hKs := hK.wsum
     have hK0 := Md.rs0_wsum (m := m) hdk.1.1
     have hr0t : (m.rs0 k1).told = m.told := rfl
     have hr0w : (m.rs0 k1).wr = m.wr := rfl
     rw [hr0t] at hKt
     rw [hr0w] at hKw
     have hlm : ((m.at k1).wait.map (wC c2.bs)).length = (m.at k1).wait.length := by simp
     have hlm0 : ((m.at k1).wait.map (wC c.bs)).length = (m.at k1).wait.length := by simp
     refine sR <| oP (P_lss rfl rfl) rfl <| nT <| zaf ?_
     first | (refine zao rfl (fun hg11 => ?_) (fun hg11 => ?_)) | (refine zap rfl (fun hg11 => ?_) (fun hg11 => ?_)) | (refine zar rfl (fun hg11 => ?_) (fun hg11 => ?_))
     ·
      refine kT <| zaf <| zat <| zaf ?_
      have hi2 : i < (m.at k1).wait.length := by omega
      have hog := Md.org_at hO hdk.1.1 hi2
      have hgv := Md.rsI_isD hdk.1.1 hi hog.1
      refine zak ?_
      first | (refine RJ_op rfl (OJ_V (zan rfl rfl rfl (by omega) foc0 (Reads.sl _ _ _) Tryz.runUnderlying109 Tryz.sizeOf135) rfl ?_)) | (refine RJ_op rfl (OJ_V (zan rfl rfl (Int.toNat_of_nonneg (by omega)).symm (by omega) foc0 (Reads.sl _ _ _) Tryz.runUnderlying109 Tryz.sizeOf135) rfl ?_))
      refine oV (VJ_eq (zcd rfl rfl (by omega) foc0 (Reads.sl _ _ _) rfl rfl Tryz.isAgg135 Tryz.sizeOf135) (znd hi2)) rfl <| oO <| zb1 Tryz.zeroValue135 rfl rfl fun b9 => oO <| zbn rfl rfl foc0 Tryz.sizeOf135 rfl rfl rfl <| nT <| zaf <| sR <| oM rfl rfl <| oP (zaa rfl ⟨_, _, _, Tryz.runUnderlying135, rfl, rfl, Tryz.sizeOf85, rfl⟩) rfl <| oV (zah rfl foc0 rfl Tryz.isAgg85) rfl <| oP (zaa rfl ⟨_, _, _, Tryz.runUnderlying135, rfl, rfl, Tryz.sizeOf33, rfl⟩) rfl <| oV (zbh rfl foc0 Tryz.isAgg33 Tryz.sizeOf33 rfl rfl) rfl <| oO <| zaq (zf5 (t := ((m.at k1).wait.getD i Wt.z).t) hgv) rfl Tryz.call78 (Dels.cons del2 (Dels.cons del2 Dels.nil)) rfl fun _ hc10 => oA rfl rfl <| nT <| sR <| oM rfl rfl <| oP (zfu rfl rfl Tryz.underlying85) rfl <| nT ?_
      first | (refine zao rfl (fun hg12 => ?_) (fun hg12 => ?_)) | (refine zap rfl (fun hg12 => ?_) (fun hg12 => ?_)) | (refine zar rfl (fun hg12 => ?_) (fun hg12 => ?_))
      ·
       refine zaf ?_
       obtain ⟨w, hw0⟩ := Option.isSome_iff_exists.1 (show ((m.rsI k1 i).wayk ((m.at k1).wait.getD i Wt.z).gv ((m.at k1).wait.getD i Wt.z).t).isSome = true by assumption)
       have hwD : (m.rsI k1 i).isD w := by have := Md.way_is hO2 _ _ _ _ hgv.1 hgv.2.1 hw0; exact ⟨this.1, this.2.1, this.2.2.1⟩
       rw [hw0]
       have hwle := (m.rsI k1 i).wait_le w
       refine zbf (Ent.trans (t1_ eR) (za8 hwD)) <| za0 1152 (by kernel_rfl) rfl <| aN 0 1 rfl rfl (zag rfl) rfl <| aN 1 3 rfl rfl (zag rfl) rfl <| aN 2 7 rfl rfl (zae rfl) rfl <| aN 3 15 rfl rfl (zaa rfl ⟨_, _, _, Tryz.runUnderlying111, rfl, rfl, Tryz.sizeOf109, rfl⟩) rfl <| aV 4 31 rfl rfl (zac rfl) (t0_ (t0_ (t0_ (t0_ (t0_ (t0_ (t0_ (t0_ (t0_ eR))))))))) (zah rfl foc0 rfl Tryz.isAgg109) rfl <| aV 5 63 rfl rfl (zac rfl) (t0_ (t0_ (t0_ (t0_ (t0_ (t0_ (t0_ (t0_ (t0_ eR))))))))) (zbh rfl foc6 Tryz.isAgg135 Tryz.sizeOf135 rfl rfl) rfl <| AJ_op 6 127 rfl (by kernel_rfl) rfl (zac rfl) <| zbe rfl (zhh _ _ _ _ _) rfl fun b11 => ⟨fun _ => (t1_ (t1_ (t1_ (t1_ (t1_ (t1_ (t1_ (t1_ (t1_ (eD eR)))))))))), ?_⟩
       refine AJ_op 7 255 rfl (by kernel_rfl) rfl (zac rfl) <| zbv (t := tyErr) (bytes := 40) rfl rfl del4 foc0 (Reads.lit (t := tyErr) (ys := [⟨(((m.at k1).wait.getD i Wt.z).tk : Int), c2.bs ((m.at k1).wait.getD i Wt.z).gv, ((m.at k1).wait.getD i Wt.z).t⟩]) rfl rfl (by decide) (by decide) rfl) Tryz.underlying109 zgv (by simp only [List.length_append, List.length_map, List.length_cons, List.length_nil, maxLen] at *; omega) (by simp only [List.length_append, List.length_map, List.length_cons, List.length_nil, maxLen] at *; omega) rfl fun p12 c13 => ⟨fun h => absurd h (by decide), ?_⟩
       refine aN 8 511 rfl rfl (zae rfl) rfl <| aN 9 1023 rfl rfl (zaa rfl ⟨_, _, _, Tryz.runUnderlying111, rfl, rfl, Tryz.sizeOf109, rfl⟩) rfl <| AJ_op 10 2047 rfl (by kernel_rfl) rfl (zac rfl) <| zbj rfl rfl foc2 rfl rfl Tryz.sizeOf109 <| ⟨fun h => absurd h (by decide), ?_⟩
       refine aD <| zbt <| za6 <| za1 <| zav <| zak <| oP (P_add rfl rfl (by omega)) rfl <| oM rfl rfl <| za9 ?_
       have he2 : m.rsI k1 (i + 1) = (m.rsI k1 i).addW w ((m.at k1).wait.getD i Wt.z) := by rw [Md.rsI_succ hi2, Md.rsT_way hw0]
       refine zbg ⟨i + 1, (c2.put w { c2.hd w with wt := ⟨p12, _, c13⟩ } { (m.rsI k1 i).at w with wait := ((m.rsI k1 i).at w).wait ++ [((m.at k1).wait.getD i Wt.z)] })⟩ (by show (m.at k1).wait.length - (i + 1) < (m.at k1).wait.length - i; omega) ?_ (by repeat (first | exact Kp.base | exact Kp.self | refine Kp.cons rfl ?_ | refine Kp.forget rfl ?_)) ?_ (Ent.trans (Ent.trans (t2_ (t2_ (t2_ (Ent.takeC del0 (by rw [List.map_append]; rfl) (t1_ eR))))) (zcy (h' := { c2.hd w with wt := ⟨p12, _, c13⟩ }) (d' := { (m.rsI k1 i).at w with wait := ((m.rsI k1 i).at w).wait ++ [((m.at k1).wait.getD i Wt.z)] }) (m' := (m.rsI k1 i).addW w ((m.at k1).wait.getD i Wt.z)) hW2 hwD rfl hwD.2.2 rfl rfl rfl (Md.ok_addW hO2 hwD ⟨hgv.1, hgv.2.1, hgv.2.2, hog.2⟩) (hW2.big.set hwD.1 rfl (by show (((m.rsI k1 i).at w).wait ++ _).length ≤ _; rw [List.length_append]; have := (m.rsI k1 i).wait_le w; simp; omega) hW2.big.tks hW2.big.told hW2.big.wr) rfl rfl)) (Ent.takeC del4 (congrArg (fun f => sl tyErr (c.hd k1).wt.v ((m.at k1).wait.map (wC f))) (show MH.bs (c2.put w { c2.hd w with wt := ⟨p12, _, c13⟩ } { (m.rsI k1 i).at w with wait := ((m.rsI k1 i).at w).wait ++ [((m.at k1).wait.getD i Wt.z)] }) = c2.bs from zds hW2 hwD rfl).symm) (Ent.takeC del2 (by rw [he2] <;> rfl) (Ent.takeC del0 (by rw [he2] <;> rfl) (t2_ (eD (eD eR)))))))
       · omega
       · exact ⟨rfl, True.intro⟩
      ·
       refine kT <| zaf ?_
       have hnw : (m.rsI k1 i).wayk ((m.at k1).wait.getD i Wt.z).gv ((m.at k1).wait.getD i Wt.z).t = none := by simpa using (show ((m.rsI k1 i).wayk ((m.at k1).wait.getD i Wt.z).gv ((m.at k1).wait.getD i Wt.z).t).isSome = false by assumption)
       refine za0 1280 (by kernel_rfl) rfl <| aN 0 1 rfl rfl (zag rfl) rfl <| aN 1 3 rfl rfl (zaa rfl ⟨_, _, _, Tryz.runUnderlying135, rfl, rfl, Tryz.sizeOf85, rfl⟩) rfl <| aV 2 7 rfl rfl (zac rfl) (t0_ (t0_ (t0_ (t0_ (t0_ eR))))) (zah rfl foc2 rfl Tryz.isAgg85) rfl <| aN 3 15 rfl rfl (zae rfl) rfl <| aN 4 31 rfl rfl (zaa rfl ⟨_, _, _, Tryz.runUnderlying111, rfl, rfl, Tryz.sizeOf9, rfl⟩) rfl <| aV 5 63 rfl rfl (zac rfl) (t0_ (t0_ (t0_ (t0_ (t0_ eR))))) (zbu (Ent.trans (t1_ eR) (za8 hgv)) (zah rfl foc0 rfl Tryz.isAgg9)) rfl <| aN 6 127 rfl rfl (zaa rfl ⟨_, _, _, Tryz.runUnderlying135, rfl, rfl, Tryz.sizeOf33, rfl⟩) rfl <| aV 7 255 rfl rfl (zac rfl) (t0_ (t0_ (t0_ (t0_ (t0_ eR))))) (zbh rfl foc2 Tryz.isAgg33 Tryz.sizeOf33 rfl rfl) rfl <| zgf 8 9 511 767 rfl rfl (by kernel_rfl) rfl rfl (zac rfl) (zac rfl) (zaq ((zc9 (nm := ((m.rsI k1 i).at ((m.at k1).wait.getD i Wt.z).gv).name) (t := ((m.at k1).wait.getD i Wt.z).t) (by omega) hog.2.2.2 (by rw [Md.at_find hO2 hgv.1 hgv.2.1]; rfl) ⟨hog.2.1, hog.2.2.1⟩)) rfl Tryz.call82 (Dels.cons del0 (Dels.cons del0 Dels.nil)) rfl (fun c9 h9 => ?_)) (zb1 Tryz.zeroValue51 rfl rfl (fun b15 => ?_))
       ·
        refine ⟨fun h => absurd h (by decide), ?_⟩
        refine zgy 9 1023 rfl (by kernel_rfl) rfl (zac rfl) Tryz.zeroValue51 rfl rfl fun b16 => AJ_op 10 2047 rfl (by kernel_rfl) rfl (zac rfl) <| zbn rfl rfl foc0 Tryz.sizeOf51 rfl rfl rfl <| ⟨fun h => absurd h (by decide), ?_⟩
        refine aD <| zaf <| zbf (t0_ (Ent.takeC del0 (congrArg (blk b 84) h9.1.symm) (t0_ (t0_ (t0_ (t0_ eR)))))) <| zak <| oP (zaa rfl ⟨_, _, _, Tryz.runUnderlying135, rfl, rfl, Tryz.sizeOf3, rfl⟩) rfl <| oV (zah rfl foc3 rfl Tryz.isAgg3) rfl <| oP (zaa rfl ⟨_, _, _, Tryz.runUnderlying51, rfl, rfl, Tryz.sizeOf3, rfl⟩) rfl <| oO <| zbj rfl rfl foc0 rfl rfl Tryz.sizeOf3 <| nT <| zbf (Ent.trans (t2_ eR) zem) ?_
        have hto9 : ((m.rsI k1 i).carryN ((m.rsI k1 i).dv.length + 1) ((m.rsI k1 i).at ((m.at k1).wait.getD i Wt.z).gv).name ((m.at k1).wait.getD i Wt.z).t).2.told = (m.rsI k1 i).told := by rw [zb7 hO2 hgv.1 hgv.2.1]; exact (Md.carry_kept _ _ _).told
        have hto8 := congrArg List.length hto9
        refine za0 1152 (by kernel_rfl) rfl <| aN 0 1 rfl rfl (zag rfl) rfl <| aN 1 3 rfl rfl (zag rfl) rfl <| aN 2 7 rfl rfl (zae rfl) rfl <| aN 3 15 rfl rfl (zaa rfl ⟨_, _, _, Tryz.runUnderlying84, rfl, rfl, Tryz.sizeOf54, rfl⟩) rfl <| aV 4 31 rfl rfl (zac rfl) (t0_ (t0_ (t0_ (t0_ (t0_ (t0_ (t0_ eR))))))) (zah rfl foc3 rfl Tryz.isAgg54) rfl <| aV 5 63 rfl rfl (zac rfl) (t0_ (t0_ (t0_ (t0_ (t0_ (t0_ (t0_ eR))))))) (zbh rfl foc2 Tryz.isAgg51 Tryz.sizeOf51 rfl rfl) rfl <| AJ_op 6 127 rfl (by kernel_rfl) rfl (zac rfl) <| zbe rfl (zfc _ _ _ _) rfl fun b17 => ⟨fun _ => (t1_ (t1_ (t1_ (t1_ (t1_ (t1_ (t1_ (eD eR)))))))), ?_⟩
        refine AJ_op 7 255 rfl (by kernel_rfl) rfl (zac rfl) <| zbv (t := zau) (bytes := 32) rfl rfl del1 foc0 (Reads.lit (t := zau) (ys := [⟨true, (((m.at k1).wait.getD i Wt.z).tk : Int), (ansN (m.rsI k1 i) ((m.rsI k1 i).at ((m.at k1).wait.getD i Wt.z).gv).name ((m.at k1).wait.getD i Wt.z).t).Value, (ansN (m.rsI k1 i) ((m.rsI k1 i).at ((m.at k1).wait.getD i Wt.z).gv).name ((m.at k1).wait.getD i Wt.z).t).Error⟩]) rfl rfl (by decide) (by decide) rfl) Tryz.underlying54 zcm (by simp only [List.length_append, List.length_map, List.length_cons, List.length_nil, maxLen] at *; omega) (by simp only [List.length_append, List.length_map, List.length_cons, List.length_nil, maxLen] at *; omega) rfl fun p18 c19 => ⟨fun h => absurd h (by decide), ?_⟩
        refine aN 8 511 rfl rfl (zae rfl) rfl <| aN 9 1023 rfl rfl (zaa rfl ⟨_, _, _, Tryz.runUnderlying84, rfl, rfl, Tryz.sizeOf54, rfl⟩) rfl <| AJ_op 10 2047 rfl (by kernel_rfl) rfl (zac rfl) <| zbj rfl rfl foc4 rfl rfl Tryz.sizeOf54 <| ⟨fun h => absurd h (by decide), ?_⟩
        refine zcz (by kernel_rfl) <| zal <| zav <| zak <| oP (P_add rfl rfl (by omega)) rfl <| oM rfl rfl <| za9 ?_
        have he2 : m.rsI k1 (i + 1) = { { ((m.rsI k1 i).carryN ((m.rsI k1 i).dv.length + 1) ((m.rsI k1 i).at ((m.at k1).wait.getD i Wt.z).gv).name ((m.at k1).wait.getD i Wt.z).t).2 with told := [] } with told := ((m.rsI k1 i).carryN ((m.rsI k1 i).dv.length + 1) ((m.rsI k1 i).at ((m.at k1).wait.getD i Wt.z).gv).name ((m.at k1).wait.getD i Wt.z).t).2.told ++ [⟨true, (((m.at k1).wait.getD i Wt.z).tk : Int), (ansN (m.rsI k1 i) ((m.rsI k1 i).at ((m.at k1).wait.getD i Wt.z).gv).name ((m.at k1).wait.getD i Wt.z).t).Value, (ansN (m.rsI k1 i) ((m.rsI k1 i).at ((m.at k1).wait.getD i Wt.z).gv).name ((m.at k1).wait.getD i Wt.z).t).Error⟩] } := by
          unfold ansN
          rw [Md.rsI_succ hi2, Md.rsT_go hnw, zb7 hO2 hgv.1 hgv.2.1]
        have htl9 : (((m.rsI k1 i).carryN ((m.rsI k1 i).dv.length + 1) ((m.rsI k1 i).at ((m.at k1).wait.getD i Wt.z).gv).name ((m.at k1).wait.getD i Wt.z).t).2.told ++ [(⟨true, (((m.at k1).wait.getD i Wt.z).tk : Int), (ansN (m.rsI k1 i) ((m.rsI k1 i).at ((m.at k1).wait.getD i Wt.z).gv).name ((m.at k1).wait.getD i Wt.z).t).Value, (ansN (m.rsI k1 i) ((m.rsI k1 i).at ((m.at k1).wait.getD i Wt.z).gv).name ((m.at k1).wait.getD i Wt.z).t).Error⟩ : api_Answer)]).length ≤ 100000000 := by rw [List.length_append, hto9]; simp; omega
        refine zbg ⟨i + 1, { { c9 with tv := s3z } with tv := ⟨p18, (((m.rsI k1 i).carryN ((m.rsI k1 i).dv.length + 1) ((m.rsI k1 i).at ((m.at k1).wait.getD i Wt.z).gv).name ((m.at k1).wait.getD i Wt.z).t).2.told ++ [(⟨true, (((m.at k1).wait.getD i Wt.z).tk : Int), (ansN (m.rsI k1 i) ((m.rsI k1 i).at ((m.at k1).wait.getD i Wt.z).gv).name ((m.at k1).wait.getD i Wt.z).t).Value, (ansN (m.rsI k1 i) ((m.rsI k1 i).at ((m.at k1).wait.getD i Wt.z).gv).name ((m.at k1).wait.getD i Wt.z).t).Error⟩ : api_Answer)]).length, c19⟩ }⟩ (by show (m.at k1).wait.length - (i + 1) < (m.at k1).wait.length - i; omega) ?_ (by repeat (first | exact Kp.base | exact Kp.self | refine Kp.cons rfl ?_ | refine Kp.forget rfl ?_)) ?_ (Ent.trans (Ent.trans (t0_ (t1_ eR)) (ze4 (tv := ⟨p18, (((m.rsI k1 i).carryN ((m.rsI k1 i).dv.length + 1) ((m.rsI k1 i).at ((m.at k1).wait.getD i Wt.z).gv).name ((m.at k1).wait.getD i Wt.z).t).2.told ++ [(⟨true, (((m.at k1).wait.getD i Wt.z).tk : Int), (ansN (m.rsI k1 i) ((m.rsI k1 i).at ((m.at k1).wait.getD i Wt.z).gv).name ((m.at k1).wait.getD i Wt.z).t).Value, (ansN (m.rsI k1 i) ((m.rsI k1 i).at ((m.at k1).wait.getD i Wt.z).gv).name ((m.at k1).wait.getD i Wt.z).t).Error⟩ : api_Answer)]).length, c19⟩) htl9)) (Ent.takeC del5 (by exact congrArg (fun f => sl tyErr (c.hd k1).wt.v ((m.at k1).wait.map (wC f))) h9.2.symm) (Ent.takeC del3 (by rw [he2] <;> rfl) (Ent.takeC del0 (by rw [he2] <;> rfl) (t3_ (eD (eD (eD eR))))))))
        · omega
        · exact ⟨rfl, True.intro⟩
       ·
        refine ⟨fun _ => (t1_ (t1_ (t1_ (t1_ (t1_ (eD eR)))))), ?_⟩
        refine AJ_op 8 1023 rfl (by kernel_rfl) rfl (zac rfl) <| zaq ((zc9 (nm := ((m.rsI k1 i).at ((m.at k1).wait.getD i Wt.z).gv).name) (t := ((m.at k1).wait.getD i Wt.z).t) (by omega) hog.2.2.2 (by rw [Md.at_find hO2 hgv.1 hgv.2.1]; rfl) ⟨hog.2.1, hog.2.2.1⟩)) rfl Tryz.call82 (Dels.cons del1 (Dels.cons del1 Dels.nil)) rfl fun c9 h9 => ⟨fun h => absurd h (by decide), ?_⟩
        refine AJ_op 10 2047 rfl (by kernel_rfl) rfl (zac rfl) <| zbn rfl rfl foc2 Tryz.sizeOf51 rfl rfl rfl <| ⟨fun h => absurd h (by decide), ?_⟩
        refine aD <| zaf <| zbf (Ent.takeC del0 (congrArg (blk b 84) h9.1.symm) (t0_ (t0_ (t0_ (t0_ (t0_ eR)))))) <| zak <| oP (zaa rfl ⟨_, _, _, Tryz.runUnderlying135, rfl, rfl, Tryz.sizeOf3, rfl⟩) rfl <| oV (zah rfl foc3 rfl Tryz.isAgg3) rfl <| oP (zaa rfl ⟨_, _, _, Tryz.runUnderlying51, rfl, rfl, Tryz.sizeOf3, rfl⟩) rfl <| oO <| zbj rfl rfl foc2 rfl rfl Tryz.sizeOf3 <| nT <| zbf (Ent.trans (t1_ eR) zem) ?_
        have hto9 : ((m.rsI k1 i).carryN ((m.rsI k1 i).dv.length + 1) ((m.rsI k1 i).at ((m.at k1).wait.getD i Wt.z).gv).name ((m.at k1).wait.getD i Wt.z).t).2.told = (m.rsI k1 i).told := by rw [zb7 hO2 hgv.1 hgv.2.1]; exact (Md.carry_kept _ _ _).told
        have hto8 := congrArg List.length hto9
        refine za0 1152 (by kernel_rfl) rfl <| aN 0 1 rfl rfl (zag rfl) rfl <| aN 1 3 rfl rfl (zag rfl) rfl <| aN 2 7 rfl rfl (zae rfl) rfl <| aN 3 15 rfl rfl (zaa rfl ⟨_, _, _, Tryz.runUnderlying84, rfl, rfl, Tryz.sizeOf54, rfl⟩) rfl <| aV 4 31 rfl rfl (zac rfl) (t0_ (t0_ (t0_ (t0_ (t0_ (t0_ (t0_ eR))))))) (zah rfl foc2 rfl Tryz.isAgg54) rfl <| aV 5 63 rfl rfl (zac rfl) (t0_ (t0_ (t0_ (t0_ (t0_ (t0_ (t0_ eR))))))) (zbh rfl foc3 Tryz.isAgg51 Tryz.sizeOf51 rfl rfl) rfl <| AJ_op 6 127 rfl (by kernel_rfl) rfl (zac rfl) <| zbe rfl (zfc _ _ _ _) rfl fun b21 => ⟨fun _ => (t1_ (t1_ (t1_ (t1_ (t1_ (t1_ (t1_ (eD eR)))))))), ?_⟩
        refine AJ_op 7 255 rfl (by kernel_rfl) rfl (zac rfl) <| zbv (t := zau) (bytes := 32) rfl rfl del1 foc0 (Reads.lit (t := zau) (ys := [⟨true, (((m.at k1).wait.getD i Wt.z).tk : Int), (ansN (m.rsI k1 i) ((m.rsI k1 i).at ((m.at k1).wait.getD i Wt.z).gv).name ((m.at k1).wait.getD i Wt.z).t).Value, (ansN (m.rsI k1 i) ((m.rsI k1 i).at ((m.at k1).wait.getD i Wt.z).gv).name ((m.at k1).wait.getD i Wt.z).t).Error⟩]) rfl rfl (by decide) (by decide) rfl) Tryz.underlying54 zcm (by simp only [List.length_append, List.length_map, List.length_cons, List.length_nil, maxLen] at *; omega) (by simp only [List.length_append, List.length_map, List.length_cons, List.length_nil, maxLen] at *; omega) rfl fun p22 c23 => ⟨fun h => absurd h (by decide), ?_⟩
        refine aN 8 511 rfl rfl (zae rfl) rfl <| aN 9 1023 rfl rfl (zaa rfl ⟨_, _, _, Tryz.runUnderlying84, rfl, rfl, Tryz.sizeOf54, rfl⟩) rfl <| AJ_op 10 2047 rfl (by kernel_rfl) rfl (zac rfl) <| zbj rfl rfl foc3 rfl rfl Tryz.sizeOf54 <| ⟨fun h => absurd h (by decide), ?_⟩
        refine zcz (by kernel_rfl) <| zal <| zav <| zak <| oP (P_add rfl rfl (by omega)) rfl <| oM rfl rfl <| za9 ?_
        have he2 : m.rsI k1 (i + 1) = { { ((m.rsI k1 i).carryN ((m.rsI k1 i).dv.length + 1) ((m.rsI k1 i).at ((m.at k1).wait.getD i Wt.z).gv).name ((m.at k1).wait.getD i Wt.z).t).2 with told := [] } with told := ((m.rsI k1 i).carryN ((m.rsI k1 i).dv.length + 1) ((m.rsI k1 i).at ((m.at k1).wait.getD i Wt.z).gv).name ((m.at k1).wait.getD i Wt.z).t).2.told ++ [⟨true, (((m.at k1).wait.getD i Wt.z).tk : Int), (ansN (m.rsI k1 i) ((m.rsI k1 i).at ((m.at k1).wait.getD i Wt.z).gv).name ((m.at k1).wait.getD i Wt.z).t).Value, (ansN (m.rsI k1 i) ((m.rsI k1 i).at ((m.at k1).wait.getD i Wt.z).gv).name ((m.at k1).wait.getD i Wt.z).t).Error⟩] } := by
          unfold ansN
          rw [Md.rsI_succ hi2, Md.rsT_go hnw, zb7 hO2 hgv.1 hgv.2.1]
        have htl9 : (((m.rsI k1 i).carryN ((m.rsI k1 i).dv.length + 1) ((m.rsI k1 i).at ((m.at k1).wait.getD i Wt.z).gv).name ((m.at k1).wait.getD i Wt.z).t).2.told ++ [(⟨true, (((m.at k1).wait.getD i Wt.z).tk : Int), (ansN (m.rsI k1 i) ((m.rsI k1 i).at ((m.at k1).wait.getD i Wt.z).gv).name ((m.at k1).wait.getD i Wt.z).t).Value, (ansN (m.rsI k1 i) ((m.rsI k1 i).at ((m.at k1).wait.getD i Wt.z).gv).name ((m.at k1).wait.getD i Wt.z).t).Error⟩ : api_Answer)]).length ≤ 100000000 := by rw [List.length_append, hto9]; simp; omega
        refine zbg ⟨i + 1, { { c9 with tv := s3z } with tv := ⟨p22, (((m.rsI k1 i).carryN ((m.rsI k1 i).dv.length + 1) ((m.rsI k1 i).at ((m.at k1).wait.getD i Wt.z).gv).name ((m.at k1).wait.getD i Wt.z).t).2.told ++ [(⟨true, (((m.at k1).wait.getD i Wt.z).tk : Int), (ansN (m.rsI k1 i) ((m.rsI k1 i).at ((m.at k1).wait.getD i Wt.z).gv).name ((m.at k1).wait.getD i Wt.z).t).Value, (ansN (m.rsI k1 i) ((m.rsI k1 i).at ((m.at k1).wait.getD i Wt.z).gv).name ((m.at k1).wait.getD i Wt.z).t).Error⟩ : api_Answer)]).length, c23⟩ }⟩ (by show (m.at k1).wait.length - (i + 1) < (m.at k1).wait.length - i; omega) ?_ (by repeat (first | exact Kp.base | exact Kp.self | refine Kp.cons rfl ?_ | refine Kp.forget rfl ?_)) ?_ (Ent.trans (Ent.trans (t0_ (t1_ eR)) (ze4 (tv := ⟨p22, (((m.rsI k1 i).carryN ((m.rsI k1 i).dv.length + 1) ((m.rsI k1 i).at ((m.at k1).wait.getD i Wt.z).gv).name ((m.at k1).wait.getD i Wt.z).t).2.told ++ [(⟨true, (((m.at k1).wait.getD i Wt.z).tk : Int), (ansN (m.rsI k1 i) ((m.rsI k1 i).at ((m.at k1).wait.getD i Wt.z).gv).name ((m.at k1).wait.getD i Wt.z).t).Value, (ansN (m.rsI k1 i) ((m.rsI k1 i).at ((m.at k1).wait.getD i Wt.z).gv).name ((m.at k1).wait.getD i Wt.z).t).Error⟩ : api_Answer)]).length, c23⟩) htl9)) (Ent.takeC del5 (by exact congrArg (fun f => sl tyErr (c.hd k1).wt.v ((m.at k1).wait.map (wC f))) h9.2.symm) (Ent.takeC del2 (by rw [he2] <;> rfl) (Ent.takeC del0 (by rw [he2] <;> rfl) (t3_ (eD (eD (eD eR))))))))
        · omega
        · exact ⟨rfl, True.intro⟩
     ·
      refine zbt <| za6 <| za7 <| za1 <| zav <| sR <| oA rfl rfl <| nT <| zai <| zam (res1 Tryz.results34 rfl) ?_
      obtain rfl : i = (m.at k1).wait.length := by omega
      have e1 := Md.rs_ok hd2 hst hft
      rw [e1.2, ← Md.rsI_end]
      refine CSpec.close c2 ?_ ?_ (t1_ (t1_ (eD (eD eR))))
      · rw [e1.1]
      · trivial
   ·
    refine kT <| sR <| oM rfl rfl <| oP (zae rfl) rfl <| oP (zaa rfl ⟨_, _, _, Tryz.runUnderlying111, rfl, rfl, Tryz.sizeOf4, rfl⟩) rfl <| oO <| zbj rfl rfl foc0 rfl rfl Tryz.sizeOf4 <| nT <| sR <| oM rfl rfl <| oP (zae rfl) rfl <| oP (zaa rfl ⟨_, _, _, Tryz.runUnderlying111, rfl, rfl, Tryz.sizeOf109, rfl⟩) rfl <| oV (zah rfl foc0 rfl Tryz.isAgg109) rfl <| oA rfl rfl <| nT <| sR <| oM rfl rfl <| oP (zae rfl) rfl <| oP (zaa rfl ⟨_, _, _, Tryz.runUnderlying111, rfl, rfl, Tryz.sizeOf109, rfl⟩) rfl <| oO <| zbj rfl rfl foc0 rfl rfl Tryz.sizeOf109 <| nT <| zaf <| zaf <| zbf (fun h hh => zb2 (t := tyErr) h hh) ?_
    have he : m.rs0 k1 = m.set k1 { m.at k1 with susp := false, wait := [] } := by unfold Md.rs0 Md.rsX; rw [if_neg (by simp_all)]
    refine zbf (Ent.trans (t1_ (t1_ (t1_ (t0_ (t1_ eR))))) (zcy (h' := { c.hd k1 with wt := s3z }) (d' := { m.at k1 with susp := false, wait := [] }) (m' := (m.set k1 { m.at k1 with susp := false, wait := [] })) hW hdk.1 rfl hdk.1.2.2 rfl rfl rfl (he ▸ Md.ok_rs0 hO hdk.1) (hW.big.set hdk.1.1 rfl (Nat.zero_le _) hW.big.tks hW.big.told hW.big.wr) rfl rfl)) ?_
    rw [← he]
    refine zak <| oM rfl rfl <| oV (V_len rfl foc1 (Reads.sl _ _ _) Tryz.runUnderlying109) rfl <| oM rfl rfl <| nT <| zat <| zbs (X := Nat × MH) [8, 9, 10, 97, 98, 99, 100, 101, 102, 103, 104, 105, 106, 107, 108, 109, 110, 111, 112, 113, 114, 115, 116, 117, 118, 119, 120, 121, 122, 123, 124, 125, 126, 127, 128, 129, 130, 131, 132, 133, 134, 135, 136, 137, 138, 139, 140, 141] (fun ⟨i, c2⟩  => ([(97, .int .i64 (i : Nat))] : Slots)) (fun ⟨i, c2⟩ R => sl tyErr (c.hd k1).wt.v ((m.at k1).wait.map (wC c2.bs)) :: blk b 84 (zax c2 (m.rsI k1 i)) :: MapR c2 (m.rsI k1 i) :: R) (fun ⟨i, c2⟩  => i ≤ (m.at k1).wait.length) (fun ⟨i, c2⟩  => (m.at k1).wait.length - i) ⟨0, (c.put k1 { c.hd k1 with wt := s3z } { m.at k1 with susp := false, wait := [] })⟩ ?_ ?_ (Ent.takeC del1 (congrArg (fun f => sl tyErr (c.hd k1).wt.v ((m.at k1).wait.map (wC f))) (show MH.bs (c.put k1 { c.hd k1 with wt := s3z } { m.at k1 with susp := false, wait := [] }) = c.bs from zds hW hdk.1 rfl).symm) (Ent.takeC del1 (by rw [Md.rsI_zero]; rfl) (Ent.takeC del0 (by rw [Md.rsI_zero]; rfl) eR))) ?_
    · exact Nat.zero_le _
    · exact ⟨rfl, True.intro⟩
    ·
     rintro ⟨i, c2⟩ hi
     show CJ _ _ _ _ _ (([(97, .int .i64 (i : Nat))] : Slots) ++ forget _ _) (sl tyErr (c.hd k1).wt.v ((m.at k1).wait.map (wC c2.bs)) :: blk b 84 (zax c2 (m.rsI k1 i)) :: MapR c2 (m.rsI k1 i) :: _)
     refine zbl (zb3 foc2) fun hW2 => ?_
     have hO2 := hW2.ok
     have hK := Md.rsI_K hi
     have hKt := hK.told
     have hKw := hK.wr
     have hKs := hK.wsum
     have hK0 := Md.rs0_wsum (m := m) hdk.1.1
     have hr0t : (m.rs0 k1).told = m.told := rfl
     have hr0w : (m.rs0 k1).wr = m.wr := rfl
     rw [hr0t] at hKt
     rw [hr0w] at hKw
     have hlm : ((m.at k1).wait.map (wC c2.bs)).length = (m.at k1).wait.length := by simp
     have hlm0 : ((m.at k1).wait.map (wC c.bs)).length = (m.at k1).wait.length := by simp
     refine sR <| oP (P_lss rfl rfl) rfl <| nT <| zaf ?_
     first | (refine zao rfl (fun hg13 => ?_) (fun hg13 => ?_)) | (refine zap rfl (fun hg13 => ?_) (fun hg13 => ?_)) | (refine zar rfl (fun hg13 => ?_) (fun hg13 => ?_))
     ·
      refine kT <| zaf <| zat <| zaf ?_
      have hi2 : i < (m.at k1).wait.length := by omega
      have hog := Md.org_at hO hdk.1.1 hi2
      have hgv := Md.rsI_isD hdk.1.1 hi hog.1
      refine zak ?_
      first | (refine RJ_op rfl (OJ_V (zan rfl rfl rfl (by omega) foc0 (Reads.sl _ _ _) Tryz.runUnderlying109 Tryz.sizeOf135) rfl ?_)) | (refine RJ_op rfl (OJ_V (zan rfl rfl (Int.toNat_of_nonneg (by omega)).symm (by omega) foc0 (Reads.sl _ _ _) Tryz.runUnderlying109 Tryz.sizeOf135) rfl ?_))
      refine oV (VJ_eq (zcd rfl rfl (by omega) foc0 (Reads.sl _ _ _) rfl rfl Tryz.isAgg135 Tryz.sizeOf135) (znd hi2)) rfl <| oO <| zb1 Tryz.zeroValue135 rfl rfl fun b24 => oO <| zbn rfl rfl foc0 Tryz.sizeOf135 rfl rfl rfl <| nT <| zaf <| sR <| oM rfl rfl <| oP (zaa rfl ⟨_, _, _, Tryz.runUnderlying135, rfl, rfl, Tryz.sizeOf85, rfl⟩) rfl <| oV (zah rfl foc0 rfl Tryz.isAgg85) rfl <| oP (zaa rfl ⟨_, _, _, Tryz.runUnderlying135, rfl, rfl, Tryz.sizeOf33, rfl⟩) rfl <| oV (zbh rfl foc0 Tryz.isAgg33 Tryz.sizeOf33 rfl rfl) rfl <| oO <| zaq (zf5 (t := ((m.at k1).wait.getD i Wt.z).t) hgv) rfl Tryz.call78 (Dels.cons del2 (Dels.cons del2 Dels.nil)) rfl fun _ hc25 => oA rfl rfl <| nT <| sR <| oM rfl rfl <| oP (zfu rfl rfl Tryz.underlying85) rfl <| nT ?_
      first | (refine zao rfl (fun hg14 => ?_) (fun hg14 => ?_)) | (refine zap rfl (fun hg14 => ?_) (fun hg14 => ?_)) | (refine zar rfl (fun hg14 => ?_) (fun hg14 => ?_))
      ·
       refine zaf ?_
       obtain ⟨w, hw0⟩ := Option.isSome_iff_exists.1 (show ((m.rsI k1 i).wayk ((m.at k1).wait.getD i Wt.z).gv ((m.at k1).wait.getD i Wt.z).t).isSome = true by assumption)
       have hwD : (m.rsI k1 i).isD w := by have := Md.way_is hO2 _ _ _ _ hgv.1 hgv.2.1 hw0; exact ⟨this.1, this.2.1, this.2.2.1⟩
       rw [hw0]
       have hwle := (m.rsI k1 i).wait_le w
       refine zbf (Ent.trans (t1_ eR) (za8 hwD)) <| za0 1152 (by kernel_rfl) rfl <| aN 0 1 rfl rfl (zag rfl) rfl <| aN 1 3 rfl rfl (zag rfl) rfl <| aN 2 7 rfl rfl (zae rfl) rfl <| aN 3 15 rfl rfl (zaa rfl ⟨_, _, _, Tryz.runUnderlying111, rfl, rfl, Tryz.sizeOf109, rfl⟩) rfl <| aV 4 31 rfl rfl (zac rfl) (t0_ (t0_ (t0_ (t0_ (t0_ (t0_ (t0_ (t0_ eR)))))))) (zah rfl foc0 rfl Tryz.isAgg109) rfl <| aV 5 63 rfl rfl (zac rfl) (t0_ (t0_ (t0_ (t0_ (t0_ (t0_ (t0_ (t0_ eR)))))))) (zbh rfl foc6 Tryz.isAgg135 Tryz.sizeOf135 rfl rfl) rfl <| AJ_op 6 127 rfl (by kernel_rfl) rfl (zac rfl) <| zbe rfl (zhh _ _ _ _ _) rfl fun b26 => ⟨fun _ => (t1_ (t1_ (t1_ (t1_ (t1_ (t1_ (t1_ (t1_ (eD eR))))))))), ?_⟩
       refine AJ_op 7 255 rfl (by kernel_rfl) rfl (zac rfl) <| zbv (t := tyErr) (bytes := 40) rfl rfl del4 foc0 (Reads.lit (t := tyErr) (ys := [⟨(((m.at k1).wait.getD i Wt.z).tk : Int), c2.bs ((m.at k1).wait.getD i Wt.z).gv, ((m.at k1).wait.getD i Wt.z).t⟩]) rfl rfl (by decide) (by decide) rfl) Tryz.underlying109 zgv (by simp only [List.length_append, List.length_map, List.length_cons, List.length_nil, maxLen] at *; omega) (by simp only [List.length_append, List.length_map, List.length_cons, List.length_nil, maxLen] at *; omega) rfl fun p27 c28 => ⟨fun h => absurd h (by decide), ?_⟩
       refine aN 8 511 rfl rfl (zae rfl) rfl <| aN 9 1023 rfl rfl (zaa rfl ⟨_, _, _, Tryz.runUnderlying111, rfl, rfl, Tryz.sizeOf109, rfl⟩) rfl <| AJ_op 10 2047 rfl (by kernel_rfl) rfl (zac rfl) <| zbj rfl rfl foc2 rfl rfl Tryz.sizeOf109 <| ⟨fun h => absurd h (by decide), ?_⟩
       refine aD <| zbt <| za6 <| za1 <| zav <| zak <| oP (P_add rfl rfl (by omega)) rfl <| oM rfl rfl <| za9 ?_
       have he2 : m.rsI k1 (i + 1) = (m.rsI k1 i).addW w ((m.at k1).wait.getD i Wt.z) := by rw [Md.rsI_succ hi2, Md.rsT_way hw0]
       refine zbg ⟨i + 1, (c2.put w { c2.hd w with wt := ⟨p27, _, c28⟩ } { (m.rsI k1 i).at w with wait := ((m.rsI k1 i).at w).wait ++ [((m.at k1).wait.getD i Wt.z)] })⟩ (by show (m.at k1).wait.length - (i + 1) < (m.at k1).wait.length - i; omega) ?_ (by repeat (first | exact Kp.base | exact Kp.self | refine Kp.cons rfl ?_ | refine Kp.forget rfl ?_)) ?_ (Ent.trans (Ent.trans (t2_ (t2_ (t2_ (Ent.takeC del0 (by rw [List.map_append]; rfl) (t1_ eR))))) (zcy (h' := { c2.hd w with wt := ⟨p27, _, c28⟩ }) (d' := { (m.rsI k1 i).at w with wait := ((m.rsI k1 i).at w).wait ++ [((m.at k1).wait.getD i Wt.z)] }) (m' := (m.rsI k1 i).addW w ((m.at k1).wait.getD i Wt.z)) hW2 hwD rfl hwD.2.2 rfl rfl rfl (Md.ok_addW hO2 hwD ⟨hgv.1, hgv.2.1, hgv.2.2, hog.2⟩) (hW2.big.set hwD.1 rfl (by show (((m.rsI k1 i).at w).wait ++ _).length ≤ _; rw [List.length_append]; have := (m.rsI k1 i).wait_le w; simp; omega) hW2.big.tks hW2.big.told hW2.big.wr) rfl rfl)) (Ent.takeC del4 (congrArg (fun f => sl tyErr (c.hd k1).wt.v ((m.at k1).wait.map (wC f))) (show MH.bs (c2.put w { c2.hd w with wt := ⟨p27, _, c28⟩ } { (m.rsI k1 i).at w with wait := ((m.rsI k1 i).at w).wait ++ [((m.at k1).wait.getD i Wt.z)] }) = c2.bs from zds hW2 hwD rfl).symm) (Ent.takeC del2 (by rw [he2] <;> rfl) (Ent.takeC del0 (by rw [he2] <;> rfl) (eD (eD eR))))))
       · omega
       · exact ⟨rfl, True.intro⟩
      ·
       refine kT <| zaf ?_
       have hnw : (m.rsI k1 i).wayk ((m.at k1).wait.getD i Wt.z).gv ((m.at k1).wait.getD i Wt.z).t = none := by simpa using (show ((m.rsI k1 i).wayk ((m.at k1).wait.getD i Wt.z).gv ((m.at k1).wait.getD i Wt.z).t).isSome = false by assumption)
       refine za0 1280 (by kernel_rfl) rfl <| aN 0 1 rfl rfl (zag rfl) rfl <| aN 1 3 rfl rfl (zaa rfl ⟨_, _, _, Tryz.runUnderlying135, rfl, rfl, Tryz.sizeOf85, rfl⟩) rfl <| aV 2 7 rfl rfl (zac rfl) (t0_ (t0_ (t0_ (t0_ eR)))) (zah rfl foc2 rfl Tryz.isAgg85) rfl <| aN 3 15 rfl rfl (zae rfl) rfl <| aN 4 31 rfl rfl (zaa rfl ⟨_, _, _, Tryz.runUnderlying111, rfl, rfl, Tryz.sizeOf9, rfl⟩) rfl <| aV 5 63 rfl rfl (zac rfl) (t0_ (t0_ (t0_ (t0_ eR)))) (zbu (Ent.trans (t1_ eR) (za8 hgv)) (zah rfl foc0 rfl Tryz.isAgg9)) rfl <| aN 6 127 rfl rfl (zaa rfl ⟨_, _, _, Tryz.runUnderlying135, rfl, rfl, Tryz.sizeOf33, rfl⟩) rfl <| aV 7 255 rfl rfl (zac rfl) (t0_ (t0_ (t0_ (t0_ eR)))) (zbh rfl foc2 Tryz.isAgg33 Tryz.sizeOf33 rfl rfl) rfl <| zgf 8 9 511 767 rfl rfl (by kernel_rfl) rfl rfl (zac rfl) (zac rfl) (zaq ((zc9 (nm := ((m.rsI k1 i).at ((m.at k1).wait.getD i Wt.z).gv).name) (t := ((m.at k1).wait.getD i Wt.z).t) (by omega) hog.2.2.2 (by rw [Md.at_find hO2 hgv.1 hgv.2.1]; rfl) ⟨hog.2.1, hog.2.2.1⟩)) rfl Tryz.call82 (Dels.cons del0 (Dels.cons del0 Dels.nil)) rfl (fun c9 h9 => ?_)) (zb1 Tryz.zeroValue51 rfl rfl (fun b30 => ?_))
       ·
        refine ⟨fun h => absurd h (by decide), ?_⟩
        refine zgy 9 1023 rfl (by kernel_rfl) rfl (zac rfl) Tryz.zeroValue51 rfl rfl fun b31 => AJ_op 10 2047 rfl (by kernel_rfl) rfl (zac rfl) <| zbn rfl rfl foc0 Tryz.sizeOf51 rfl rfl rfl <| ⟨fun h => absurd h (by decide), ?_⟩
        refine aD <| zaf <| zbf (t0_ (Ent.takeC del0 (congrArg (blk b 84) h9.1.symm) (t0_ (t0_ (t0_ eR))))) <| zak <| oP (zaa rfl ⟨_, _, _, Tryz.runUnderlying135, rfl, rfl, Tryz.sizeOf3, rfl⟩) rfl <| oV (zah rfl foc3 rfl Tryz.isAgg3) rfl <| oP (zaa rfl ⟨_, _, _, Tryz.runUnderlying51, rfl, rfl, Tryz.sizeOf3, rfl⟩) rfl <| oO <| zbj rfl rfl foc0 rfl rfl Tryz.sizeOf3 <| nT <| zbf (Ent.trans (t2_ eR) zem) ?_
        have hto9 : ((m.rsI k1 i).carryN ((m.rsI k1 i).dv.length + 1) ((m.rsI k1 i).at ((m.at k1).wait.getD i Wt.z).gv).name ((m.at k1).wait.getD i Wt.z).t).2.told = (m.rsI k1 i).told := by rw [zb7 hO2 hgv.1 hgv.2.1]; exact (Md.carry_kept _ _ _).told
        have hto8 := congrArg List.length hto9
        refine za0 1152 (by kernel_rfl) rfl <| aN 0 1 rfl rfl (zag rfl) rfl <| aN 1 3 rfl rfl (zag rfl) rfl <| aN 2 7 rfl rfl (zae rfl) rfl <| aN 3 15 rfl rfl (zaa rfl ⟨_, _, _, Tryz.runUnderlying84, rfl, rfl, Tryz.sizeOf54, rfl⟩) rfl <| aV 4 31 rfl rfl (zac rfl) (t0_ (t0_ (t0_ (t0_ (t0_ (t0_ eR)))))) (zah rfl foc3 rfl Tryz.isAgg54) rfl <| aV 5 63 rfl rfl (zac rfl) (t0_ (t0_ (t0_ (t0_ (t0_ (t0_ eR)))))) (zbh rfl foc2 Tryz.isAgg51 Tryz.sizeOf51 rfl rfl) rfl <| AJ_op 6 127 rfl (by kernel_rfl) rfl (zac rfl) <| zbe rfl (zfc _ _ _ _) rfl fun b32 => ⟨fun _ => (t1_ (t1_ (t1_ (t1_ (t1_ (t1_ (eD eR))))))), ?_⟩
        refine AJ_op 7 255 rfl (by kernel_rfl) rfl (zac rfl) <| zbv (t := zau) (bytes := 32) rfl rfl del1 foc0 (Reads.lit (t := zau) (ys := [⟨true, (((m.at k1).wait.getD i Wt.z).tk : Int), (ansN (m.rsI k1 i) ((m.rsI k1 i).at ((m.at k1).wait.getD i Wt.z).gv).name ((m.at k1).wait.getD i Wt.z).t).Value, (ansN (m.rsI k1 i) ((m.rsI k1 i).at ((m.at k1).wait.getD i Wt.z).gv).name ((m.at k1).wait.getD i Wt.z).t).Error⟩]) rfl rfl (by decide) (by decide) rfl) Tryz.underlying54 zcm (by simp only [List.length_append, List.length_map, List.length_cons, List.length_nil, maxLen] at *; omega) (by simp only [List.length_append, List.length_map, List.length_cons, List.length_nil, maxLen] at *; omega) rfl fun p33 c34 => ⟨fun h => absurd h (by decide), ?_⟩
        refine aN 8 511 rfl rfl (zae rfl) rfl <| aN 9 1023 rfl rfl (zaa rfl ⟨_, _, _, Tryz.runUnderlying84, rfl, rfl, Tryz.sizeOf54, rfl⟩) rfl <| AJ_op 10 2047 rfl (by kernel_rfl) rfl (zac rfl) <| zbj rfl rfl foc4 rfl rfl Tryz.sizeOf54 <| ⟨fun h => absurd h (by decide), ?_⟩
        refine zcz (by kernel_rfl) <| zal <| zav <| zak <| oP (P_add rfl rfl (by omega)) rfl <| oM rfl rfl <| za9 ?_
        have he2 : m.rsI k1 (i + 1) = { { ((m.rsI k1 i).carryN ((m.rsI k1 i).dv.length + 1) ((m.rsI k1 i).at ((m.at k1).wait.getD i Wt.z).gv).name ((m.at k1).wait.getD i Wt.z).t).2 with told := [] } with told := ((m.rsI k1 i).carryN ((m.rsI k1 i).dv.length + 1) ((m.rsI k1 i).at ((m.at k1).wait.getD i Wt.z).gv).name ((m.at k1).wait.getD i Wt.z).t).2.told ++ [⟨true, (((m.at k1).wait.getD i Wt.z).tk : Int), (ansN (m.rsI k1 i) ((m.rsI k1 i).at ((m.at k1).wait.getD i Wt.z).gv).name ((m.at k1).wait.getD i Wt.z).t).Value, (ansN (m.rsI k1 i) ((m.rsI k1 i).at ((m.at k1).wait.getD i Wt.z).gv).name ((m.at k1).wait.getD i Wt.z).t).Error⟩] } := by
          unfold ansN
          rw [Md.rsI_succ hi2, Md.rsT_go hnw, zb7 hO2 hgv.1 hgv.2.1]
        have htl9 : (((m.rsI k1 i).carryN ((m.rsI k1 i).dv.length + 1) ((m.rsI k1 i).at ((m.at k1).wait.getD i Wt.z).gv).name ((m.at k1).wait.getD i Wt.z).t).2.told ++ [(⟨true, (((m.at k1).wait.getD i Wt.z).tk : Int), (ansN (m.rsI k1 i) ((m.rsI k1 i).at ((m.at k1).wait.getD i Wt.z).gv).name ((m.at k1).wait.getD i Wt.z).t).Value, (ansN (m.rsI k1 i) ((m.rsI k1 i).at ((m.at k1).wait.getD i Wt.z).gv).name ((m.at k1).wait.getD i Wt.z).t).Error⟩ : api_Answer)]).length ≤ 100000000 := by rw [List.length_append, hto9]; simp; omega
        refine zbg ⟨i + 1, { { c9 with tv := s3z } with tv := ⟨p33, (((m.rsI k1 i).carryN ((m.rsI k1 i).dv.length + 1) ((m.rsI k1 i).at ((m.at k1).wait.getD i Wt.z).gv).name ((m.at k1).wait.getD i Wt.z).t).2.told ++ [(⟨true, (((m.at k1).wait.getD i Wt.z).tk : Int), (ansN (m.rsI k1 i) ((m.rsI k1 i).at ((m.at k1).wait.getD i Wt.z).gv).name ((m.at k1).wait.getD i Wt.z).t).Value, (ansN (m.rsI k1 i) ((m.rsI k1 i).at ((m.at k1).wait.getD i Wt.z).gv).name ((m.at k1).wait.getD i Wt.z).t).Error⟩ : api_Answer)]).length, c34⟩ }⟩ (by show (m.at k1).wait.length - (i + 1) < (m.at k1).wait.length - i; omega) ?_ (by repeat (first | exact Kp.base | exact Kp.self | refine Kp.cons rfl ?_ | refine Kp.forget rfl ?_)) ?_ (Ent.trans (Ent.trans (t0_ (t1_ eR)) (ze4 (tv := ⟨p33, (((m.rsI k1 i).carryN ((m.rsI k1 i).dv.length + 1) ((m.rsI k1 i).at ((m.at k1).wait.getD i Wt.z).gv).name ((m.at k1).wait.getD i Wt.z).t).2.told ++ [(⟨true, (((m.at k1).wait.getD i Wt.z).tk : Int), (ansN (m.rsI k1 i) ((m.rsI k1 i).at ((m.at k1).wait.getD i Wt.z).gv).name ((m.at k1).wait.getD i Wt.z).t).Value, (ansN (m.rsI k1 i) ((m.rsI k1 i).at ((m.at k1).wait.getD i Wt.z).gv).name ((m.at k1).wait.getD i Wt.z).t).Error⟩ : api_Answer)]).length, c34⟩) htl9)) (Ent.takeC del5 (by exact congrArg (fun f => sl tyErr (c.hd k1).wt.v ((m.at k1).wait.map (wC f))) h9.2.symm) (Ent.takeC del3 (by rw [he2] <;> rfl) (Ent.takeC del0 (by rw [he2] <;> rfl) (eD (eD (eD eR)))))))
        · omega
        · exact ⟨rfl, True.intro⟩
       ·
        refine ⟨fun _ => (t1_ (t1_ (t1_ (t1_ (eD eR))))), ?_⟩
        refine AJ_op 8 1023 rfl (by kernel_rfl) rfl (zac rfl) <| zaq ((zc9 (nm := ((m.rsI k1 i).at ((m.at k1).wait.getD i Wt.z).gv).name) (t := ((m.at k1).wait.getD i Wt.z).t) (by omega) hog.2.2.2 (by rw [Md.at_find hO2 hgv.1 hgv.2.1]; rfl) ⟨hog.2.1, hog.2.2.1⟩)) rfl Tryz.call82 (Dels.cons del1 (Dels.cons del1 Dels.nil)) rfl fun c9 h9 => ⟨fun h => absurd h (by decide), ?_⟩
        refine AJ_op 10 2047 rfl (by kernel_rfl) rfl (zac rfl) <| zbn rfl rfl foc2 Tryz.sizeOf51 rfl rfl rfl <| ⟨fun h => absurd h (by decide), ?_⟩
        refine aD <| zaf <| zbf (Ent.takeC del0 (congrArg (blk b 84) h9.1.symm) (t0_ (t0_ (t0_ (t0_ eR))))) <| zak <| oP (zaa rfl ⟨_, _, _, Tryz.runUnderlying135, rfl, rfl, Tryz.sizeOf3, rfl⟩) rfl <| oV (zah rfl foc3 rfl Tryz.isAgg3) rfl <| oP (zaa rfl ⟨_, _, _, Tryz.runUnderlying51, rfl, rfl, Tryz.sizeOf3, rfl⟩) rfl <| oO <| zbj rfl rfl foc2 rfl rfl Tryz.sizeOf3 <| nT <| zbf (Ent.trans (t1_ eR) zem) ?_
        have hto9 : ((m.rsI k1 i).carryN ((m.rsI k1 i).dv.length + 1) ((m.rsI k1 i).at ((m.at k1).wait.getD i Wt.z).gv).name ((m.at k1).wait.getD i Wt.z).t).2.told = (m.rsI k1 i).told := by rw [zb7 hO2 hgv.1 hgv.2.1]; exact (Md.carry_kept _ _ _).told
        have hto8 := congrArg List.length hto9
        refine za0 1152 (by kernel_rfl) rfl <| aN 0 1 rfl rfl (zag rfl) rfl <| aN 1 3 rfl rfl (zag rfl) rfl <| aN 2 7 rfl rfl (zae rfl) rfl <| aN 3 15 rfl rfl (zaa rfl ⟨_, _, _, Tryz.runUnderlying84, rfl, rfl, Tryz.sizeOf54, rfl⟩) rfl <| aV 4 31 rfl rfl (zac rfl) (t0_ (t0_ (t0_ (t0_ (t0_ (t0_ eR)))))) (zah rfl foc2 rfl Tryz.isAgg54) rfl <| aV 5 63 rfl rfl (zac rfl) (t0_ (t0_ (t0_ (t0_ (t0_ (t0_ eR)))))) (zbh rfl foc3 Tryz.isAgg51 Tryz.sizeOf51 rfl rfl) rfl <| AJ_op 6 127 rfl (by kernel_rfl) rfl (zac rfl) <| zbe rfl (zfc _ _ _ _) rfl fun b36 => ⟨fun _ => (t1_ (t1_ (t1_ (t1_ (t1_ (t1_ (eD eR))))))), ?_⟩
        refine AJ_op 7 255 rfl (by kernel_rfl) rfl (zac rfl) <| zbv (t := zau) (bytes := 32) rfl rfl del1 foc0 (Reads.lit (t := zau) (ys := [⟨true, (((m.at k1).wait.getD i Wt.z).tk : Int), (ansN (m.rsI k1 i) ((m.rsI k1 i).at ((m.at k1).wait.getD i Wt.z).gv).name ((m.at k1).wait.getD i Wt.z).t).Value, (ansN (m.rsI k1 i) ((m.rsI k1 i).at ((m.at k1).wait.getD i Wt.z).gv).name ((m.at k1).wait.getD i Wt.z).t).Error⟩]) rfl rfl (by decide) (by decide) rfl) Tryz.underlying54 zcm (by simp only [List.length_append, List.length_map, List.length_cons, List.length_nil, maxLen] at *; omega) (by simp only [List.length_append, List.length_map, List.length_cons, List.length_nil, maxLen] at *; omega) rfl fun p37 c38 => ⟨fun h => absurd h (by decide), ?_⟩
        refine aN 8 511 rfl rfl (zae rfl) rfl <| aN 9 1023 rfl rfl (zaa rfl ⟨_, _, _, Tryz.runUnderlying84, rfl, rfl, Tryz.sizeOf54, rfl⟩) rfl <| AJ_op 10 2047 rfl (by kernel_rfl) rfl (zac rfl) <| zbj rfl rfl foc3 rfl rfl Tryz.sizeOf54 <| ⟨fun h => absurd h (by decide), ?_⟩
        refine zcz (by kernel_rfl) <| zal <| zav <| zak <| oP (P_add rfl rfl (by omega)) rfl <| oM rfl rfl <| za9 ?_
        have he2 : m.rsI k1 (i + 1) = { { ((m.rsI k1 i).carryN ((m.rsI k1 i).dv.length + 1) ((m.rsI k1 i).at ((m.at k1).wait.getD i Wt.z).gv).name ((m.at k1).wait.getD i Wt.z).t).2 with told := [] } with told := ((m.rsI k1 i).carryN ((m.rsI k1 i).dv.length + 1) ((m.rsI k1 i).at ((m.at k1).wait.getD i Wt.z).gv).name ((m.at k1).wait.getD i Wt.z).t).2.told ++ [⟨true, (((m.at k1).wait.getD i Wt.z).tk : Int), (ansN (m.rsI k1 i) ((m.rsI k1 i).at ((m.at k1).wait.getD i Wt.z).gv).name ((m.at k1).wait.getD i Wt.z).t).Value, (ansN (m.rsI k1 i) ((m.rsI k1 i).at ((m.at k1).wait.getD i Wt.z).gv).name ((m.at k1).wait.getD i Wt.z).t).Error⟩] } := by
          unfold ansN
          rw [Md.rsI_succ hi2, Md.rsT_go hnw, zb7 hO2 hgv.1 hgv.2.1]
        have htl9 : (((m.rsI k1 i).carryN ((m.rsI k1 i).dv.length + 1) ((m.rsI k1 i).at ((m.at k1).wait.getD i Wt.z).gv).name ((m.at k1).wait.getD i Wt.z).t).2.told ++ [(⟨true, (((m.at k1).wait.getD i Wt.z).tk : Int), (ansN (m.rsI k1 i) ((m.rsI k1 i).at ((m.at k1).wait.getD i Wt.z).gv).name ((m.at k1).wait.getD i Wt.z).t).Value, (ansN (m.rsI k1 i) ((m.rsI k1 i).at ((m.at k1).wait.getD i Wt.z).gv).name ((m.at k1).wait.getD i Wt.z).t).Error⟩ : api_Answer)]).length ≤ 100000000 := by rw [List.length_append, hto9]; simp; omega
        refine zbg ⟨i + 1, { { c9 with tv := s3z } with tv := ⟨p37, (((m.rsI k1 i).carryN ((m.rsI k1 i).dv.length + 1) ((m.rsI k1 i).at ((m.at k1).wait.getD i Wt.z).gv).name ((m.at k1).wait.getD i Wt.z).t).2.told ++ [(⟨true, (((m.at k1).wait.getD i Wt.z).tk : Int), (ansN (m.rsI k1 i) ((m.rsI k1 i).at ((m.at k1).wait.getD i Wt.z).gv).name ((m.at k1).wait.getD i Wt.z).t).Value, (ansN (m.rsI k1 i) ((m.rsI k1 i).at ((m.at k1).wait.getD i Wt.z).gv).name ((m.at k1).wait.getD i Wt.z).t).Error⟩ : api_Answer)]).length, c38⟩ }⟩ (by show (m.at k1).wait.length - (i + 1) < (m.at k1).wait.length - i; omega) ?_ (by repeat (first | exact Kp.base | exact Kp.self | refine Kp.cons rfl ?_ | refine Kp.forget rfl ?_)) ?_ (Ent.trans (Ent.trans (t0_ (t1_ eR)) (ze4 (tv := ⟨p37, (((m.rsI k1 i).carryN ((m.rsI k1 i).dv.length + 1) ((m.rsI k1 i).at ((m.at k1).wait.getD i Wt.z).gv).name ((m.at k1).wait.getD i Wt.z).t).2.told ++ [(⟨true, (((m.at k1).wait.getD i Wt.z).tk : Int), (ansN (m.rsI k1 i) ((m.rsI k1 i).at ((m.at k1).wait.getD i Wt.z).gv).name ((m.at k1).wait.getD i Wt.z).t).Value, (ansN (m.rsI k1 i) ((m.rsI k1 i).at ((m.at k1).wait.getD i Wt.z).gv).name ((m.at k1).wait.getD i Wt.z).t).Error⟩ : api_Answer)]).length, c38⟩) htl9)) (Ent.takeC del5 (by exact congrArg (fun f => sl tyErr (c.hd k1).wt.v ((m.at k1).wait.map (wC f))) h9.2.symm) (Ent.takeC del2 (by rw [he2] <;> rfl) (Ent.takeC del0 (by rw [he2] <;> rfl) (eD (eD (eD eR)))))))
        · omega
        · exact ⟨rfl, True.intro⟩
     ·
      refine zbt <| za6 <| za7 <| za1 <| zav <| sR <| oA rfl rfl <| nT <| zai <| zam (res1 Tryz.results34 rfl) ?_
      obtain rfl : i = (m.at k1).wait.length := by omega
      have e1 := Md.rs_ok hd2 hst hft
      rw [e1.2, ← Md.rsI_end]
      refine CSpec.close c2 ?_ ?_ (t1_ (t1_ (eD eR)))
      · rw [e1.1]
      · trivial
end Go.Proofs
set_option linter.unusedSimpArgs false
set_option maxRecDepth 20000
namespace Go.Proofs
open Go.VG
namespace Md
end Md
end Go.Proofs
set_option linter.unusedSimpArgs false
set_option maxRecDepth 20000
namespace Go.Proofs
open Go.VG
theorem zlh (v0 : (Option Nat)) (v1 : (Option Nat)) : ∀ w, (Instr.build 84 (#[(0, .map v0), (1, .map v1)] : Array (Nat × Value))).run Tryz.prog w = .ok (.agg #[.map v0, .map v1, .slice none 0 0, .int .i64 0, .slice none 0 0]) w := fun w => by kernel_rfl
abbrev bNew (n : ByteArray) (z : Nat) : Dv := { Dv.z with name := n, isB := true, base := List.replicate z 0 }
abbrev hBas (p dn : Nat) : DH := ⟨p, dn, s3z, s3z, s3z⟩
abbrev Md.z : Md := ⟨[], 0, [], 0, 0⟩
theorem Md.z_ok : MdOk Md.z := ⟨fun i j h => absurd h (Nat.not_lt_zero _), fun i h => absurd h (Nat.not_lt_zero _), fun i => ⟨rfl, rfl⟩, fun i h => absurd h (Nat.not_lt_zero _), ⟨fun _ => 0, fun i h => absurd h (Nat.not_lt_zero _)⟩, (fun i h => by cases h), fun _ _ => rfl, fun _ _ => rfl, fun i h => absurd h (Nat.not_lt_zero _)⟩
theorem Md.z_big : MdBig Md.z := ⟨Nat.zero_le _, fun _ => Nat.zero_le _, Nat.zero_le _, Nat.zero_le _, Nat.zero_le _⟩
section
variable {c : MH} {m : Md} {R : List HP} {n : ByteArray} {p dn z : Nat} {ov : Sl3}
theorem zi5 (h : m.addE n = 0) : m.baS n z = m.push (bNew n z) ∧ m.find n = none ∧ n ≠ noN ∧ m.names.length < 256 := ⟨by unfold Md.baS Md.addS; exact if_pos h, (cr_ok h).2⟩
theorem MapWF.addB (hW : MapWF c m) (h0 : m.addE n = 0) (hlen : m.dv.length + 1 ≤ 10000) (hz : z ≤ 65536) (h1 : dn < c.s.drv.length) (h2 : nowL c.s dn = List.replicate z 0) (h3 : ∀ i, m.isBs i → (c.hd i).dn ≠ dn) : MapWF (c.push ov c.dl (setM c.bl n p) (hBas p dn) (bNew n z)) (m.push (bNew n z)) := by
  obtain ⟨_, hf, hn, _⟩ := zi5 (z := z) h0
  have ok := hW.ok.push (d := bNew n z) rfl hn hf rfl rfl rfl rfl rfl rfl (by simp; exact hz)
  have big := hW.big.push (d := bNew n z) hlen rfl
  refine hW.push ok big rfl hf (fun x => ?_) (fun x => by rw [zmr]; rfl) (fun h => by cases h) (fun _ => ⟨h1, h2, by simp; exact hz, h3⟩)
  by_cases e : x = n
  · rw [if_pos e, hW.dl, e]
    have : m.dev n = none := by unfold Md.dev; rw [hf]; rfl
    rw [this]; rfl
  · rw [if_neg e]
theorem ztj (hW : MapWF c m) (hw : MapWF (c.push ov c.dl (setM c.bl n p) (hBas p dn) (bNew n z)) (m.push (bNew n z))) :
    Ent (blkR p 161 [ptr c.a 0, .int .i64 (dn : Int), .int .i64 0, .int .i64 (z : Int)] :: Go.VG.Own (DevC c.a c.bs) c.l :: mpc mBas c.bm (setM c.bl n p) :: mpc mDev c.dm c.dl :: sl tyS ov.v (m.names ++ [n]) :: sl zau c.tv.v m.told :: Arr c.a c.s :: R) (MapR (c.push ov c.dl (setM c.bl n p) (hBas p dn) (bNew n z)) (m.push (bNew n z)) :: R) := by
  have h := zom (R := R) (h := hBas p dn) (d := bNew n z) hW rfl rfl hw
  rw [zl6 rfl rfl, show ((bNew n z).base.length : Int) = (z : Int) by simp] at h
  exact h
theorem zwo {a bm dm : Nat} {s : ArrS} (hg : Good s) (hw : s.writes = 0) : MapWF ⟨bm, dm, a, s3z, s3z, [], [], [], s⟩ Md.z :=
  ⟨rfl, Md.z_ok, Md.z_big, fun n => rfl, fun n => rfl, fun i j h => absurd h.1 (Nat.not_lt_zero _), hg, fun k h => absurd h.1 (Nat.not_lt_zero _), fun i j h => absurd h.1 (Nat.not_lt_zero _), by show s.writes ≤ 0; omega⟩
theorem ztk {a bm dm : Nat} {s : ArrS} (hg : Good s) (hw : s.writes = 0) : Ent (mpc mBas bm [] :: mpc mDev dm [] :: Arr a s :: R) (MapR ⟨bm, dm, a, s3z, s3z, [], [], [], s⟩ Md.z :: R) := fun g hh => by
  refine stars_star.2 (stars_pur.2 ⟨zwo hg hw, ?_⟩)
  have h1 : stars (Go.VG.Own (DevC a (MH.bs ⟨bm, dm, a, s3z, s3z, [], [], [], s⟩)) [] :: sl zau (Sl3.v s3z) [] :: sl tyS (Sl3.v s3z) [] :: mpc mBas bm [] :: mpc mDev dm [] :: Arr a s :: R) g := zns _ _ (zb2 _ (zb2 _ hh))
  exact (Ent.take del3 (Ent.take del3 (Ent.take del2 (Ent.take del1 (Ent.take del0 (Ent.take del0 Ent.refl)))))) g h1
end
theorem zne {W : World} {b p dn z : Nat} {c : MH} {m : Md} {n : ByteArray} (hlen : m.dv.length + 1 ≤ 10000) (h0 : m.addE n = 0) (hz : z ≤ 65536) (h1 : dn < c.s.drv.length) (h2 : nowL c.s dn = List.replicate z 0) (h3 : ∀ i, m.isBs i → (c.hd i).dn ≠ dn) :
    CSpec Tryz.prog W 20 [ptr b 0, .string n, .iface 159 (ptr p 0)] [blkR p 161 [ptr c.a 0, .int .i64 (dn : Int), .int .i64 0, .int .i64 (z : Int)], blk b 84 (zax c m), MapR c m] (fun _ : MH => .int .i64 0) (fun c2 => ∃ ov, c2 = c.push ov c.dl (setM c.bl n p) (hBas p dn) (bNew n z)) (fun c2 F => blk b 84 (zax c2 (m.push (bNew n z))) :: MapR c2 (m.push (bNew n z)) :: F) := by
 refine CSpec.of_body Tryz.func20 rfl Tryz.ntmps20 rfl fun F => ?_
 show CJ _ _ _ _ _ _ (_ :: _ :: _ :: F)
 refine zbl (zb3 foc2) fun hW => ?_
 have hns := Md.names_len (m := m)
 refine zbf (Ent.trans (t2_ eR) zg8) <| sR <| oA rfl rfl <| nT <| sR <| oM rfl rfl <| oM rfl rfl <| oO <| zaq (c_add (by omega)) rfl Tryz.call54 (Dels.cons del2 (Dels.cons del6 Dels.nil)) rfl fun ov9 hov9 => oA rfl rfl <| nT <| zaf <| sR <| oM rfl rfl <| oP (P_eql rfl rfl) rfl <| nT ?_
 first | (refine za4 rfl (decide_eq_true (by exact h0)) ?_) | (refine za4 rfl (by exact h0) ?_)
 refine zak <| oM rfl rfl <| oP (zae rfl) rfl <| oP (zaa rfl ⟨_, _, _, Tryz.runUnderlying84, rfl, rfl, Tryz.sizeOf81, rfl⟩) rfl <| oV (zah rfl foc1 rfl Tryz.isAgg81) rfl <| oM rfl rfl <| oM rfl rfl <| oO <| zfj (M := mBas) (k := n) (v := p) rfl rfl rfl foc2 zqq <| nT <| sR <| oM rfl rfl <| oA rfl rfl <| nT <| zai <| zam (res1 Tryz.results20 rfl) ?_
 rw [if_pos h0]
 have hw9 := hW.addB (ov := ov9) (p := p) h0 hlen hz h1 h2 h3
 refine CSpec.close (c.push ov9 c.dl (setM c.bl n p) (hBas p dn) (bNew n z)) ?_ ?_ (Ent.trans (Ent.trans (t7_ (t5_ (t2_ (t2_ (t0_ (t1_ (t1_ eR))))))) (ztj (ov := ov9) hW hw9)) (t1_ (t0_ eR)))
 · exact iv h0
 · exact ⟨ov9, rfl⟩
theorem ztl {W : World}  :
    CSpec Tryz.prog W 18 [] [] (fun x : Nat × Nat × Nat => ptr x.1 0) (fun _ => True) (fun x F => blk x.1 84 [.map (some x.2.1), .map (some x.2.2), .slice none 0 0, .int .i64 0, .slice none 0 0] :: mpc mBas x.2.1 [] :: mpc mDev x.2.2 [] :: F) := by
 refine CSpec.of_body Tryz.func18 rfl Tryz.ntmps18 rfl fun F => ?_
 show CJ _ _ _ _ _ _ (F)
 refine sR <| oA rfl rfl <| nT <| sR <| oO <| zf9 mBas rfl fun b1 => oO <| zf9 mDev rfl fun b2 => oP (zbm rfl (zlh _ _)) rfl <| oO <| O_box rfl rfl rfl fun b3 => oA rfl rfl <| nT <| zai <| zam (res1 Tryz.results18 rfl) <| CSpec.close ⟨b3, b1, b2⟩ ?_ ?_ (t0_ (t1_ (t0_ eR)))
 · rfl
 · trivial
end Go.Proofs
namespace Go.Proofs
namespace Md
section
variable {m : Md} {k : Nat} {n : ByteArray} {l : List api_Target} {t : api_Task}
theorem ztm (h : MdBd m) (hc : m.cl < 4000) (hk : k < m.dv.length) {d' : Dv} (hw : d'.wait.length = (m.at k).wait.length) : MdBd (m.set k d').tick :=
  tick_bd (h.set (m' := m.set k d') hk rfl (by show _ + m.tks ≤ _ + m.tks; omega) h.tks h.told h.wr (Nat.le_refl _) h.cl) hc
theorem bd_cr (h : MdBd m) (hc : m.cl < 4000) : MdBd (m.crS n).tick := by
  unfold crS addS
  split
  · exact h.push_tick hc rfl
  · exact tick_bd h hc
theorem bd_ld (h : MdBd m) (hc : m.cl < 4000) : MdBd (m.ldS n l).tick := by
  unfold ldS
  cases hd : m.dev n with
  | none => exact tick_bd h hc
  | some k =>
    show MdBd (Md.tick (if m.ldE n l = 0 then m.set k { m.at k with new := l, hn := true } else m))
    split
    · exact ztm h hc (zpx hd) rfl
    · exact tick_bd h hc
theorem bd_su (h : MdBd m) (hc : m.cl < 4000) : MdBd (m.suS n).tick := by
  unfold suS
  cases hd : m.dev n with
  | none => exact tick_bd h hc
  | some k =>
    show MdBd (Md.tick (if m.suE n = 0 then m.set k { m.at k with susp := true } else m))
    split
    · exact ztm h hc (zpx hd) rfl
    · exact tick_bd h hc
theorem bd_an (h : MdBd m) (hc : m.cl < 4000) : MdBd m.anS.tick := tick_bd (m := m.anS) ⟨h.wl, h.tks, Nat.zero_le _, h.wr, h.len, h.cl⟩ hc
theorem bd_do (hO : MdOk m) (h : MdBd m) (hc : m.cl < 4000) : MdBd (m.doS n t).tick := by
  have h1 := h.tks; have h2 := h.told; have h3 := h.wr; have h4 := h.len; have h5 := h.wl
  unfold doS
  split
  · exact tick_bd h hc
  · cases hf : m.find n with
    | none => exact tick_bd h hc
    | some k =>
      dsimp only
      obtain ⟨g1, g2, _⟩ := List.findIdx?_eq_some_iff_getElem.1 hf
      have e : m.at k = m.dv[k] := by simp [Md.at, List.getD, g1]
      simp only [isN, Bool.and_eq_true, Bool.not_eq_true', decide_eq_true_eq] at g2
      rw [← e] at g2
      cases hw : m.wayk k t with
      | some w =>
        have hwl := (way_is hO _ _ _ _ g1 g2.1 hw).1
        have hs := zib m.dv w { m.at w with wait := (m.at w).wait ++ [⟨m.tks + 1, k, t⟩] } hwl
        have e2 : (m.dv.getD w Dv.z).wait.length = (m.at w).wait.length := rfl
        rw [List.length_append, List.length_singleton] at hs
        show MdBd (Md.tick ({ m with tks := m.tks + 1 }.addW w ⟨m.tks + 1, k, t⟩))
        refine ⟨?_, by show m.tks + 1 ≤ m.cl + 1; omega, Nat.le_trans h2 (by show _ ≤ 4000 * (m.cl + 1); omega), Nat.le_trans h3 (by show _ ≤ 4000 * (m.cl + 1); omega), ?_, hc⟩
        · show ((m.dv.set w _).map fun d => d.wait.length).sum ≤ m.tks + 1
          have e3 : (m.dv.map fun d => d.wait.length).sum = m.wsum := rfl
          have e4 : (({ m with tks := m.tks + 1 } : Md).at w) = m.at w := rfl
          rw [e4]; omega
        · show (m.dv.set w _).length ≤ m.cl + 1 + 2
          rw [List.length_set]; omega
      | none =>
        have hK := carry_kept (m := m) (m.dv.length + 1) k t
        have e1 := znc hK.like.len hK.wait
        have e2 := hK.tks; have e3 := hK.told; have e4 := hK.cl; have e5 := hK.wr; have e6 := hK.like.len
        show MdBd (Md.tick (m.carryk k t).2)
        unfold carryk
        generalize (m.carry (m.dv.length + 1) k t).2 = z at *
        exact ⟨by show z.wsum ≤ z.tks; omega, by show z.tks ≤ z.cl + 1; omega, by show z.told.length ≤ 4000 * (z.cl + 1); rw [e3]; omega, by show z.wr ≤ 4000 * (z.cl + 1); omega, by show z.dv.length ≤ z.cl + 1 + 2; omega, by show z.cl + 1 ≤ 4000; omega⟩
end
end Md
end Go.Proofs
set_option linter.unusedSimpArgs false
set_option maxRecDepth 20000
namespace Go.Proofs
open Go.VG
theorem CSpec.toT {W : World} {f : FuncId} {args : List Value} {b : Nat} {m m' : Md} {v : Value} {G : List HP} (_hc : m.cl < 4000) (hm : MdOk m → MdBd m → MdBd m'.tick)
    (h : ∀ c : MH, MdBd m → CSpec Tryz.prog W f args (blk b 84 (zax c m) :: MapR c m :: G) (fun _ : MH => v) (fun _ => True) (fun c2 F => blk b 84 (zax c2 m') :: MapR c2 m' :: (G ++ F))) :
    CSpec Tryz.prog W f args (MapP b m :: G) (fun _ : Unit => v) (fun _ => True) (fun _ F => MapP b m'.tick :: (G ++ F)) := by
  intro F w hs
  obtain ⟨gg, hgg⟩ := hs.heap
  obtain ⟨c, h1⟩ := zin _ hgg
  obtain ⟨hb, h2⟩ := stars_pur.1 h1
  have hO : MdOk m := (zb3 (H := blk b 84 (zax c m) :: MapR c m :: (G ++ F)) foc1 _ h2).ok
  refine (h c hb F w ⟨hs.os, hs.tape, hs.output, gg, h2⟩).mono ?_
  rintro e w' ⟨c2, h3, h4, h5⟩
  exact ⟨(), h3, trivial, h5.imp (Ent.trans (Ent.take del1 Ent.refl) (Ent.trans zio (Ent.trans (Ent.take del1 Ent.refl) (zgi (m := m'.tick) (c := c2) (hm hO hb)))))⟩
section
variable {W : World} {b : Nat} {m : Md} {n : ByteArray}
theorem zon (hc : m.cl < 4000) : CSpec Tryz.prog W 22 [ptr b 0, .string n] (MapP b m :: []) (fun _ : Unit => .int .i64 (m.crE n)) (fun _ => True) (fun _ F => MapP b (m.crS n).tick :: ([] ++ F)) :=
  CSpec.toT hc (fun hO h => Md.bd_cr h hc) fun c hb => by
    have g1 := hb.tks; have g2 := hb.told; have g3 := hb.wr; have g4 := hb.len; have g5 := hb.wl
    exact zu2 (by omega)
theorem zq3 {A : HP} {v : Sl3} {l : List api_Target} (hA : Reads A tyapi_Target v.v l) (hc : m.cl < 4000) (hl : l.length ≤ 100000000) : CSpec Tryz.prog W 28 [ptr b 0, .string n, v.v] (MapP b m :: [A]) (fun _ : Unit => .int .i64 (m.ldE n l)) (fun _ => True) (fun _ F => MapP b (m.ldS n l).tick :: ([A] ++ F)) :=
  CSpec.toT hc (fun hO h => Md.bd_ld h hc) fun c hb => by
    have g1 := hb.tks; have g2 := hb.told; have g3 := hb.wr; have g4 := hb.len; have g5 := hb.wl
    exact c_Load hA hl
theorem znf (hc : m.cl < 4000) : CSpec Tryz.prog W 32 [ptr b 0, .string n] (MapP b m :: []) (fun _ : Unit => .int .i64 (m.suE n)) (fun _ => True) (fun _ F => MapP b (m.suS n).tick :: ([] ++ F)) :=
  CSpec.toT hc (fun hO h => Md.bd_su h hc) fun c hb => by
    have g1 := hb.tks; have g2 := hb.told; have g3 := hb.wr; have g4 := hb.len; have g5 := hb.wl
    exact ztb
theorem zoo (hc : m.cl < 4000) : CSpec Tryz.prog W 34 [ptr b 0, .string n] (MapP b m :: []) (fun _ : Unit => .int .i64 (m.rsE n)) (fun _ => True) (fun _ F => MapP b (m.rsS n).tick :: ([] ++ F)) :=
  CSpec.toT hc (fun hO h => Md.bd_rs h hc) fun c hb => by
    have g1 := hb.tks; have g2 := hb.told; have g3 := hb.wr; have g4 := hb.len; have g5 := hb.wl
    exact zu3 (by omega) (by omega) (by omega)
theorem c_DoP {t : api_Task} (hc : m.cl < 4000) (hb2 : -9223372036854775808 ≤ t.At ∧ t.At ≤ 9223372036854775807) : CSpec Tryz.prog W 37 [ptr b 0, .string n, .agg #[.int .i64 t.Kind, .int .i64 t.At, .int .u64 (t.Value.toNat : Int)]] (MapP b m :: []) (fun _ : Unit => .tuple #[.agg #[.bool (m.doA n t).Done, .int .i64 (m.doA n t).Ticket, .int .u64 ((m.doA n t).Value.toNat : Int), .int .i64 (m.doA n t).Error], .int .i64 (m.doE n t)]) (fun _ => True) (fun _ F => MapP b (m.doS n t).tick :: ([] ++ F)) :=
  CSpec.toT hc (fun hO h => Md.bd_do hO h hc) fun c hb => by
    have g1 := hb.tks; have g2 := hb.told; have g3 := hb.wr; have g4 := hb.len; have g5 := hb.wl
    exact c_Do (by omega) (by omega) (fun i => by have := m.wait_le i; omega) hb2
end
theorem zng {W : World} {b : Nat} {m : Md} (hc : m.cl < 4000) : CSpec Tryz.prog W 13 [ptr b 0] [MapP b m] (fun x : Sl3 => x.v) (fun _ => True) (fun x F => sl zau x.v m.told :: MapP b m.anS.tick :: F) := by
  intro F w hs
  obtain ⟨gg, hgg⟩ := hs.heap
  obtain ⟨c, h1⟩ := zin _ hgg
  obtain ⟨hb, h2⟩ := stars_pur.1 h1
  refine (zta (b := b) (c := c) (m := m) F w ⟨hs.os, hs.tape, hs.output, gg, h2⟩).mono ?_
  rintro e w' ⟨_, h3, h4, h5⟩
  exact ⟨c.tv, h3, trivial, h5.imp (Ent.trans (Ent.take del2 Ent.refl) (Ent.trans zio (Ent.trans (Ent.take del2 Ent.refl) (Ent.trans (zgi (m := m.anS.tick) (c := { c with tv := s3z }) (Md.bd_an hb hc)) (Ent.take del1 Ent.refl)))))⟩
end Go.Proofs
