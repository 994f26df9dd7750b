/- MapperDevices, part 7 of the proof: CRf9, CRf10, CRf11, PMapN, CMap21, CRf12, CMap22, CBeg0, CBeg1, CRf13, CLaw1. -/
import Derived.WalkKit
import Derived.Orders
import Derived.RangeFuncLeaves
import Derived.RangeFuncCalls
import Derived.TacticsIn
import Derived.Handy
import Derived.OrdersHeld
import Derived.OrdersIn
import Derived.Below
import Derived.OpenShut
import Derived.Deep.Slices
import Derived.Scope
import Derived.RangeFuncRecord
import Derived.ChangeKeysEq
import Derived.Laws.BytesArg
import Derived.KernelRfl
import Derived.Maps.RangeRun
import Derived.LaidEql
import Derived.ProofKit
import Derived.ShutString
import Derived.ChangeOld
import Derived.Test.YtbmipeiphoghcaaGreatChecked
import Derived.Test.YtbmipeiphoghcaaGreatRows
import Derived.Test.YtbmipeiphoghcaaGreatZMapperDevices6
set_option linter.unusedSimpArgs false
set_option maxRecDepth 20000
namespace Go.Proofs
open Go.VG
theorem zgk : ∀ w, (Instr.build 51 (#[] : Array (Nat × Value))).run Tryz.prog w = .ok (.agg #[.bool false, .int .i64 0, .int .u64 0, .int .i64 0]) w := fun w => by kernel_rfl
theorem zfz (v0 : Int) (v1 : Int) (v2 : Int) (v3 : Int) (v4 : Int) : ∀ w, (Instr.build 94 (#[(0, .int .i64 v0), (1, .int .i64 v1), (2, .agg #[.int .i64 v2, .int .i64 v3, .int .u64 v4])] : Array (Nat × Value))).run Tryz.prog w = .ok (.agg #[.int .i64 v0, .int .i64 v1, .int .i64 v2, .int .i64 v3, .int .u64 v4]) w := fun w => by kernel_rfl
theorem zgz (v0 : Int) (v1 : Int) (v2 : Int) (v3 : Int) (v4 : Int) : zby Tryz.prog 89 1 [(0, .agg #[.int .i64 v0, .int .i64 v1, .int .i64 v2, .int .i64 v3, .int .u64 v4])] 94 [.int .i64 v0, .int .i64 v1, .int .i64 v2, .int .i64 v3, .int .u64 v4] := fun w => by kernel_rfl
theorem zhe (v0 : Int) : ∀ w, (Instr.build 51 (#[(1, .int .i64 v0)] : Array (Nat × Value))).run Tryz.prog w = .ok (.agg #[.bool false, .int .i64 v0, .int .u64 0, .int .i64 0]) w := fun w => by kernel_rfl
theorem zf0 (v0 : Bool) (v1 : Int) (v2 : Int) : ∀ w, (Instr.build 51 (#[(0, .bool v0), (2, .int .u64 v1), (3, .int .i64 v2)] : Array (Nat × Value))).run Tryz.prog w = .ok (.agg #[.bool v0, .int .i64 0, .int .u64 v1, .int .i64 v2]) w := fun w => by kernel_rfl
theorem kq2 {m : Md} {k : Nat} (h : k < m.dv.length) (hg : (m.at k).gone = false) : ∀ q : Nat, (k : Int) = (q : Int) → q < m.dv.length ∧ (m.at q).gone = false := fun q hq => by
  obtain rfl : k = q := by omega
  exact ⟨h, hg⟩
theorem zha {m : Md} {k : Nat} {t : api_Task} (hO : MdOk m) (hk : k < m.dv.length) (hg : (m.at k).gone = false) (h : 0 ≤ m.wayI (m.dv.length + 1) (k : Int) t) : ∃ w, m.wayk k t = some w ∧ m.wayI (m.dv.length + 1) (k : Int) t = (w : Int) ∧ m.isD w := by
  rw [Md.wayI_nat] at h
  obtain ⟨w, hw⟩ := Option.isSome_iff_exists.1 (Md.oI_nonneg.1 h)
  have := Md.way_is hO _ _ _ _ hk hg hw
  exact ⟨w, hw, by rw [Md.wayI_nat, hw]; rfl, this.1, this.2.1, this.2.2.1⟩
theorem zi7 {m : Md} {k : Nat} {t : api_Task} (h : ¬ 0 ≤ m.wayI (m.dv.length + 1) (k : Int) t) : m.wayk k t = none := by
  rw [Md.wayI_nat] at h
  exact Md.oI_none h
theorem zmi {m : Md} {k w : Nat} {t : api_Task} (h : m.wayk k t = some w) : (m.at k).isB = false := by
  cases hb : (m.at k).isB with
  | false => rfl
  | true => unfold Md.wayk at h; rw [Md.way_base hb] at h; cases h
theorem c_rDo {W : World} {b : Nat} {c : RH} {m : Md} {n : ByteArray} {t : api_Task} (hwr : m.wr < 100000000) (htk1 : m.tks + 1 ≤ 100000) (hwq : ∀ i, (m.at i).wait.length < 100000) (hb : -9223372036854775808 ≤ t.At ∧ t.At ≤ 9223372036854775807) :
    CSpec Tryz.prog W 12 [ptr b 0, .string n, .agg #[.int .i64 t.Kind, .int .i64 t.At, .int .u64 (t.Value.toNat : Int)]] [blk b 72 (zbp c m), RefR c m] (fun _ : RH => .tuple #[.agg #[.bool (m.doA n t).Done, .int .i64 (m.doA n t).Ticket, .int .u64 ((m.doA n t).Value.toNat : Int), .int .i64 (m.doA n t).Error], .int .i64 (m.doE n t)]) (fun _ => True) (fun c2 F => blk b 72 (zbp c2 (m.doS n t)) :: RefR c2 (m.doS n t) :: F) := by
 refine CSpec.of_body Tryz.func12 rfl Tryz.ntmps12 rfl fun F => ?_
 show CJ _ _ _ _ _ _ (_ :: _ :: F)
 refine zbl (zcs foc1) fun hW => ?_
 have hO := hW.ok
 have hln := hW.big.len
 have hll := hW.len
 have hat := hW.at
 have htk := hW.big.tks
 refine sR <| oO <| O_box rfl rfl rfl fun b1 => oO <| zb1 Tryz.zeroValue51 rfl rfl fun b2 => oA rfl rfl <| nT <| sR <| oM rfl rfl <| oM rfl rfl <| oO <| zaq (ze3) rfl Tryz.call39 (Dels.cons del2 (Dels.cons del2 Dels.nil)) rfl fun _ hc3 => oA rfl rfl <| nT <| zaf <| zaf ?_
 have hfc := Md.findI_cases (m := m) (n := n)
 refine zak <| oM rfl rfl <| oP (P_lss rfl rfl) rfl <| nT ?_
 first | (refine zao rfl (fun hg1 => ?_) (fun hg1 => ?_)) | (refine zap rfl (fun hg1 => ?_) (fun hg1 => ?_)) | (refine zar rfl (fun hg1 => ?_) (fun hg1 => ?_))
 ·
  refine sR <| oP (zbm rfl (zgk)) rfl <| oO <| zbn rfl rfl foc2 Tryz.sizeOf51 rfl rfl rfl <| oA rfl rfl <| nT <| zai <| zad <| zam (resA2 Tryz.results12 (zce rfl foc2 Tryz.isAgg51 Tryz.sizeOf51 rfl rfl) (zda rfl)) ?_
  have e1 : m.doE n t = 12 ∧ m.doA n t = ans0 ∧ m.doS n t = m := by
    rcases hfc with ⟨h1, _⟩ | ⟨k, _, h2, _⟩
    · exact Md.do_none h1
    · exfalso; omega
  rw [e1.2.2]
  refine CSpec.close c ?_ ?_ (t0_ (t0_ (eD (eD eR))))
  · rw [e1.1, e1.2.1]; rfl
  · trivial
 ·
  refine kT <| zaf <| zaf ?_
  obtain ⟨hfk, hfi⟩ | ⟨k, hfk, hfi, hkl, hkg, hkn⟩ := hfc
  · exfalso; omega
  rw [hfi]
  refine zak <| oP (zaa rfl ⟨_, _, _, Tryz.runUnderlying33, rfl, rfl, Tryz.sizeOf3, rfl⟩) rfl <| oV (zah rfl foc3 rfl Tryz.isAgg3) rfl <| oP (P_lss rfl rfl) rfl <| oM rfl rfl ?_
  first | (refine zba 22 rfl (fun hg2B hg2 => ?_) (fun hg2B hg2 => ?_)) | (refine zbb 22 rfl (fun hg2B hg2 => ?_) (fun hg2B hg2 => ?_)) | (refine zbi 22 rfl (fun hg2B => ?_) (fun hg2B => ?_))
  ·
   refine RJ_gn (GY_no rfl rfl rfl hg2B) rfl rfl <| RJ_gn (GY_no rfl rfl rfl hg2B) rfl rfl <| RJ_gn (GY_no rfl rfl rfl hg2B) rfl rfl <| oP (zas rfl hg2B rfl) rfl <| nT <| za4 rfl rfl <| sR <| oP (zbm rfl (zgk)) rfl <| oO <| zbn rfl rfl foc2 Tryz.sizeOf51 rfl rfl rfl <| oA rfl rfl <| nT <| zai <| zad <| zam (resA2 Tryz.results12 (zce rfl foc2 Tryz.isAgg51 Tryz.sizeOf51 rfl rfl) (zda rfl)) ?_
   have e1 := Md.do_kind (t := t) hfk (by omega)
   rw [e1.2.2]
   refine CSpec.close c ?_ ?_ (t0_ (t0_ (eD (eD eR))))
   · rw [e1.1, e1.2.1]; rfl
   · trivial
  ·
   refine gP (zab rfl rfl rfl hg2B) (zaa rfl ⟨_, _, _, Tryz.runUnderlying33, rfl, rfl, Tryz.sizeOf3, rfl⟩) rfl <| gV (zab rfl rfl rfl hg2B) (zah rfl foc3 rfl Tryz.isAgg3) rfl <| gP (zab rfl rfl rfl hg2B) (P_gtr rfl rfl) rfl <| oP (zay rfl hg2B rfl) rfl <| nT ?_
   first | (refine zao rfl (fun hg3 => ?_) (fun hg3 => ?_)) | (refine zap rfl (fun hg3 => ?_) (fun hg3 => ?_)) | (refine zar rfl (fun hg3 => ?_) (fun hg3 => ?_))
   ·
    refine sR <| oP (zbm rfl (zgk)) rfl <| oO <| zbn rfl rfl foc2 Tryz.sizeOf51 rfl rfl rfl <| oA rfl rfl <| nT <| zai <| zad <| zam (resA2 Tryz.results12 (zce rfl foc2 Tryz.isAgg51 Tryz.sizeOf51 rfl rfl) (zda rfl)) ?_
    have e1 := Md.do_kind (t := t) hfk (by omega)
    rw [e1.2.2]
    refine CSpec.close c ?_ ?_ (t0_ (t0_ (eD (eD eR))))
    · rw [e1.1, e1.2.1]; rfl
    · trivial
   ·
    refine kT <| zaf <| sR <| oM rfl rfl <| oP (zae rfl) rfl <| oP (zaa rfl ⟨_, _, _, Tryz.runUnderlying72, rfl, rfl, Tryz.sizeOf70, rfl⟩) rfl <| oV (zah rfl foc0 rfl Tryz.isAgg70) rfl <| oM rfl rfl ?_
    first | (refine RJ_op rfl (OJ_V (zan rfl rfl rfl (by first | omega | (simp only [List.length_set]; omega)) foc1 rdDv Tryz.runUnderlying70 Tryz.sizeOf91) rfl ?_)) | (refine RJ_op rfl (OJ_V (zan rfl rfl (Int.toNat_of_nonneg (by first | omega | (simp only [List.length_set]; omega))).symm (by first | omega | (simp only [List.length_set]; omega)) foc1 rdDv Tryz.runUnderlying70 Tryz.sizeOf91) rfl ?_))
    refine oV (zcd rfl rfl (by first | omega | (simp only [List.length_set]; omega)) foc1 rdDv rfl rfl Tryz.isAgg91 Tryz.sizeOf91) rfl <| oO <| zb1 Tryz.zeroValue91 rfl rfl fun b4 => oO <| zbn rfl rfl foc0 Tryz.sizeOf91 rfl rfl rfl <| nT <| sR <| oP (zaa rfl ⟨_, _, _, Tryz.runUnderlying91, rfl, rfl, Tryz.sizeOf4, rfl⟩) rfl <| oV (zah rfl foc0 rfl Tryz.isAgg4) rfl <| oP (P_not rfl) rfl <| oM rfl rfl ?_
    first | (refine zba 38 rfl (fun hg4B hg4 => ?_) (fun hg4B hg4 => ?_)) | (refine zbb 38 rfl (fun hg4B hg4 => ?_) (fun hg4B hg4 => ?_)) | (refine zbi 38 rfl (fun hg4B => ?_) (fun hg4B => ?_))
    ·
     refine gP (zab rfl rfl rfl hg4B) (zaa rfl ⟨_, _, _, Tryz.runUnderlying91, rfl, rfl, Tryz.sizeOf4, rfl⟩) rfl <| gV (zab rfl rfl rfl hg4B) (zah rfl foc0 rfl Tryz.isAgg4) rfl <| gP (zab rfl rfl rfl hg4B) (P_not rfl) rfl <| oP (zas rfl hg4B rfl) rfl <| oM rfl rfl ?_
     first | (refine zba 43 rfl (fun hg5B hg5 => ?_) (fun hg5B hg5 => ?_)) | (refine zbb 43 rfl (fun hg5B hg5 => ?_) (fun hg5B hg5 => ?_)) | (refine zbi 43 rfl (fun hg5B => ?_) (fun hg5B => ?_))
     ·
      refine gP (zab rfl rfl rfl hg5B) (zaa rfl ⟨_, _, _, Tryz.runUnderlying91, rfl, rfl, Tryz.sizeOf4, rfl⟩) rfl <| gV (zab rfl rfl rfl hg5B) (zah rfl foc0 rfl Tryz.isAgg4) rfl <| gP (zab rfl rfl rfl hg5B) (P_not rfl) rfl <| oP (zas rfl hg5B rfl) rfl <| nT ?_
      first | (refine zao rfl (fun hg6 => ?_) (fun hg6 => ?_)) | (refine zap rfl (fun hg6 => ?_) (fun hg6 => ?_)) | (refine zar rfl (fun hg6 => ?_) (fun hg6 => ?_))
      ·
       refine sR <| oP (zbm rfl (zgk)) rfl <| oO <| zbn rfl rfl foc3 Tryz.sizeOf51 rfl rfl rfl <| oA rfl rfl <| nT <| zai <| zad <| zam (resA2 Tryz.results12 (zce rfl foc3 Tryz.isAgg51 Tryz.sizeOf51 rfl rfl) (zda rfl)) ?_
       have e1 := Md.do_state (t := t) hfk (by omega) ⟨by rw [← hat]; simp_all, by rw [← hat]; simp_all, by rw [← hat]; simp_all⟩
       rw [e1.2.2]
       refine CSpec.close c ?_ ?_ (t1_ (t1_ (eD (eD (eD eR)))))
       · rw [e1.1, e1.2.1]; rfl
       · trivial
      ·
       refine kT <| zaf <| zaf ?_
       have hst : ¬ ((m.at k).isB = false ∧ (m.at k).hl = false ∧ (m.at k).susp = false) := by rw [← hat k]; simp_all
       refine zak <| oM rfl rfl <| oM rfl rfl <| oV (zbh rfl foc4 Tryz.isAgg33 Tryz.sizeOf33 rfl rfl) rfl <| oO <| zaq ((zh2 (k := (k : Int)) (t := t) hO (kq2 hkl hkg))) rfl Tryz.call40 (Dels.cons del1 (Dels.cons del1 Dels.nil)) rfl fun _ hc5 => oA rfl rfl <| nT <| sR <| oM rfl rfl <| oP (P_geq rfl rfl) rfl <| nT ?_
       first | (refine zao rfl (fun hg7 => ?_) (fun hg7 => ?_)) | (refine zap rfl (fun hg7 => ?_) (fun hg7 => ?_)) | (refine zar rfl (fun hg7 => ?_) (fun hg7 => ?_))
       ·
        refine sR <| oM rfl rfl <| oP (zae rfl) rfl <| oP (zaa rfl ⟨_, _, _, Tryz.runUnderlying72, rfl, rfl, Tryz.sizeOf3, rfl⟩) rfl <| oV (zah rfl foc0 rfl Tryz.isAgg3) rfl <| oP (P_add rfl rfl (by first | omega | (simp only [List.length_set]; omega))) rfl <| oP (zae rfl) rfl <| oP (zaa rfl ⟨_, _, _, Tryz.runUnderlying72, rfl, rfl, Tryz.sizeOf3, rfl⟩) rfl <| oO <| zbj rfl rfl foc0 rfl rfl Tryz.sizeOf3 <| nT <| zaf ?_
        obtain ⟨w, hw, hwi, hwD⟩ := zha hO hkl hkg (show 0 ≤ m.wayI (m.dv.length + 1) (k : Int) t by assumption)
        rw [hwi]
        have hwl := hwD.1
        have hww := hW.big.wl w
        refine zbf (Ent.trans (t1_ eR) (zdo hwl)) <| zen [sl tyDv c.dv.v c.l, blk b 72 [c.dv.v, .int .i64 ((m.tks : Int) + 1), c.tv.v], blk b1 33 [.int .i64 t.Kind, .int .i64 t.At, .int .u64 (t.Value.toNat : Int)]] 20971520 (by kernel_rfl) rfl <| aN 0 1 rfl rfl (zag rfl) rfl <| aN 1 3 rfl rfl (zae rfl) rfl <| aN 2 7 rfl rfl (zaa rfl ⟨_, _, _, Tryz.runUnderlying72, rfl, rfl, Tryz.sizeOf70, rfl⟩) rfl <| aV 3 15 rfl rfl (zac rfl) (t4_ (t6_ (t8_ (eD (eD (eD (eD (eD (eD (eD (eD (fun _ _ => trivial)))))))))))) (zah rfl foc1 rfl Tryz.isAgg70) rfl <| aN 4 31 rfl rfl (zag rfl) rfl <| aN 5 63 rfl rfl (zag rfl) rfl <| aN 6 127 rfl rfl (zae rfl) rfl <| aN 7 255 rfl rfl (zaa rfl ⟨_, _, _, Tryz.runUnderlying72, rfl, rfl, Tryz.sizeOf70, rfl⟩) rfl <| aV 8 511 rfl rfl (zac rfl) (t4_ (t6_ (t8_ (eD (eD (eD (eD (eD (eD (eD (eD (fun _ _ => trivial)))))))))))) (zah rfl foc1 rfl Tryz.isAgg70) rfl <| aN 9 1023 rfl rfl (zag rfl) rfl ?_
        first | (refine zbo 10 2047 rfl (by kernel_rfl) rfl (by kernel_rfl) (by kernel_rfl) (zac rfl) (t4_ (t6_ (t8_ (eD (eD (eD (eD (eD (eD (eD (eD (fun _ _ => trivial)))))))))))) (zan rfl rfl rfl (by first | omega | (simp only [List.length_set]; omega)) foc0 (Reads.sl _ _ _) Tryz.runUnderlying70 Tryz.sizeOf91) rfl (fun _ _ _ _ h => h) ?_) | (refine zbo 10 2047 rfl (by kernel_rfl) rfl (by kernel_rfl) (by kernel_rfl) (zac rfl) (t4_ (t6_ (t8_ (eD (eD (eD (eD (eD (eD (eD (eD (fun _ _ => trivial)))))))))))) (zan rfl rfl (Int.toNat_of_nonneg (by first | omega | (simp only [List.length_set]; omega))).symm (by first | omega | (simp only [List.length_set]; omega)) foc0 (Reads.sl _ _ _) Tryz.runUnderlying70 Tryz.sizeOf91) rfl (fun _ _ _ _ h => h) ?_)
        refine aN 11 4095 rfl rfl (za2 rfl ⟨_, _, _, Tryz.runUnderlying91, rfl, rfl, Tryz.sizeOf89, rfl⟩) rfl <| aV 12 8191 rfl rfl (zac rfl) (t4_ (t6_ (t8_ (eD (eD (eD (eD (eD (eD (eD (eD (fun _ _ => trivial)))))))))))) (za3 rfl rfl (by first | omega | (simp only [List.length_set]; omega)) foc0 (Reads.sl _ _ _) rfl rfl Tryz.isAgg89) rfl <| aN 13 16383 rfl rfl (zag rfl) rfl <| aN 14 32767 rfl rfl (zae rfl) rfl <| aN 15 65535 rfl rfl (zaa rfl ⟨_, _, _, Tryz.runUnderlying72, rfl, rfl, Tryz.sizeOf3, rfl⟩) rfl <| aV 16 131071 rfl rfl (zac rfl) (t4_ (t6_ (t8_ (eD (eD (eD (eD (eD (eD (eD (eD (fun _ _ => trivial)))))))))))) (zah rfl foc1 rfl Tryz.isAgg3) rfl <| aN 17 262143 rfl rfl (zag rfl) rfl <| aV 18 524287 rfl rfl (zac rfl) (t4_ (t6_ (t8_ (eD (eD (eD (eD (eD (eD (eD (eD (fun _ _ => trivial)))))))))))) (zbh rfl foc2 Tryz.isAgg33 Tryz.sizeOf33 rfl rfl) rfl <| aN 19 1048575 rfl rfl (zbm rfl (zfz _ _ _ _ _)) rfl <| AJ_op 20 2097151 rfl (by kernel_rfl) rfl (zac rfl) <| zbe rfl (zgz _ _ _ _ _) rfl fun b6 => ?_
        refine ⟨fun _ => (t5_ (t7_ (t9_ (eD (eD (eD (eD (eD (eD (eD (eD (eD (fun _ _ => trivial))))))))))))), ?_⟩
        refine AJ_op 21 4194303 rfl (by kernel_rfl) rfl (zac rfl) <| zbv (t := tyWt) (bytes := 40) rfl rfl del4 foc0 (Reads.lit (t := tyWt) (ys := [(⟨m.tks + 1, k, t⟩ : Wt)]) rfl rfl (by decide) (by decide) rfl) Tryz.underlying89 zi6 (by have h8 := hwq w; simp only [List.length_append, List.length_cons, List.length_nil, maxLen] at *; omega) (by have h8 := hwq w; simp only [List.length_append, List.length_cons, List.length_nil, maxLen] at *; omega) rfl fun p7 c8 => ⟨fun _ => (t5_ (t7_ (t9_ (eD (eD (eD (eD (eD (eD (eD (eD (eD (fun _ _ => trivial))))))))))))), ?_⟩
        first | (refine AJ_op 22 8388607 rfl (by kernel_rfl) rfl (zac rfl) (OJ_V (zan rfl rfl rfl (by first | omega | (simp only [List.length_set]; omega)) foc5 (Reads.sl _ _ _) Tryz.runUnderlying70 Tryz.sizeOf91) rfl ?_)) | (refine AJ_op 22 8388607 rfl (by kernel_rfl) rfl (zac rfl) (OJ_V (zan rfl rfl (Int.toNat_of_nonneg (by first | omega | (simp only [List.length_set]; omega))).symm (by first | omega | (simp only [List.length_set]; omega)) foc5 (Reads.sl _ _ _) Tryz.runUnderlying70 Tryz.sizeOf91) rfl ?_))
        refine ⟨fun h => absurd h (by decide), ?_⟩
        refine aN 23 16777215 rfl rfl (za2 rfl ⟨_, _, _, Tryz.runUnderlying91, rfl, rfl, Tryz.sizeOf89, rfl⟩) rfl <| AJ_op 24 33554431 rfl (by kernel_rfl) rfl (zac rfl) <| zcg (x' := ({ (c.l.getD w tyDv.dflt).1 with wt := ⟨p7, ((m.at w).wait ++ [(⟨m.tks + 1, k, t⟩ : Wt)]).length, c8⟩ }, { (c.l.getD w tyDv.dflt).2 with wait := (c.l.getD w tyDv.dflt).2.wait ++ [(⟨m.tks + 1, k, t⟩ : Wt)] })) rfl rfl rfl (by first | omega | (simp only [List.length_set]; omega)) foc5 rfl rfl rfl Tryz.sizeOf89 <| ⟨fun h => absurd h (by decide), ?_⟩
        refine aD <| sR <| oM rfl rfl <| oP (zae rfl) rfl <| oP (zaa rfl ⟨_, _, _, Tryz.runUnderlying72, rfl, rfl, Tryz.sizeOf3, rfl⟩) rfl <| oV (zah rfl foc8 rfl Tryz.isAgg3) rfl <| oP (zbm rfl (zhe _)) rfl <| oO <| zbn rfl rfl foc10 Tryz.sizeOf51 rfl rfl rfl <| oA rfl rfl <| nT <| zai <| zad <| zam (resA2 Tryz.results12 (zce rfl foc10 Tryz.isAgg51 Tryz.sizeOf51 rfl rfl) (zda rfl)) ?_
        have e1 := Md.do_wait (t := t) hfk (by omega) hst hw
        rw [e1.2.2]
        refine CSpec.close (c.put w { c.hd w with wt := ⟨p7, ((m.at w).wait ++ [(⟨m.tks + 1, k, t⟩ : Wt)]).length, c8⟩ } { m.at w with wait := (m.at w).wait ++ [(⟨m.tks + 1, k, t⟩ : Wt)] }) ?_ ?_ (Ent.trans (Ent.trans (t2_ (t2_ (t2_ (t0_ (Ent.takeC del1 (congrArg (sl tyDv _) (by simp only [stq (show w < c.l.length by omega), hd_at hW, List.set_set])) (t1_ (t1_ eR))))))) (zer (h := { c.hd w with wt := ⟨p7, ((m.at w).wait ++ [(⟨m.tks + 1, k, t⟩ : Wt)]).length, c8⟩ }) (d := { m.at w with wait := (m.at w).wait ++ [(⟨m.tks + 1, k, t⟩ : Wt)] }) (m' := ({ m with tks := m.tks + 1 }.addW w (⟨m.tks + 1, k, t⟩ : Wt))) hW hwl rfl (Md.ok_addW hO hwD ⟨hkl, hkg, zmi hw, by show 1 ≤ t.Kind; omega, by show t.Kind ≤ 3; omega, (show inT t from hb)⟩) (hW.big.set hwl rfl (by show ((m.at w).wait ++ _).length ≤ _; rw [List.length_append]; have := hwq w; simp; omega) htk1 hW.big.told hW.big.wr) rfl)) (t2_ (t0_ (eD (eD (eD (eD eR)))))))
        · rw [e1.1, e1.2.1]; rfl
        · trivial
       ·
        refine kT <| sR <| oM rfl rfl <| oM rfl rfl <| oV (zbh rfl foc4 Tryz.isAgg33 Tryz.sizeOf33 rfl rfl) rfl <| oO <| zaq ((zg9 (t := t) hO hwr ⟨hkl, hkg⟩)) rfl Tryz.call41 (Dels.cons del0 (Dels.cons del0 Dels.nil)) rfl fun c9 h9 => oM rfl rfl <| oP (zaw rfl rfl) rfl <| oP (zaw rfl rfl) rfl <| oA rfl rfl <| oA rfl rfl <| nT <| sR <| oM rfl rfl <| oM rfl rfl <| oP (zbm rfl (zf0 _ _ _)) rfl <| oO <| zbn rfl rfl foc3 Tryz.sizeOf51 rfl rfl rfl <| oA rfl rfl <| nT <| zai <| zam (resA2 Tryz.results12 (zce rfl foc3 Tryz.isAgg51 Tryz.sizeOf51 rfl rfl) (zda rfl)) ?_
        have e1 := Md.do_go (t := t) hfk (by omega) hst (zi7 (by assumption))
        rw [e1.2.2]
        refine CSpec.close c9 ?_ ?_ (Ent.takeC del0 (congrArg (blk b 72) h9.symm) (t0_ (eD (eD (eD eR)))))
        · rw [e1.1, e1.2.1]; rfl
        · trivial
     ·
      refine RJ_gn (GY_no rfl rfl rfl hg5B) rfl rfl <| RJ_gn (GY_no rfl rfl rfl hg5B) rfl rfl <| RJ_gn (GY_no rfl rfl rfl hg5B) rfl rfl <| oP (zay rfl hg5B rfl) rfl <| nT <| za5 rfl rfl <| kT <| zaf <| zaf ?_
      have hst : ¬ ((m.at k).isB = false ∧ (m.at k).hl = false ∧ (m.at k).susp = false) := by rw [← hat k]; simp_all
      refine zak <| oM rfl rfl <| oM rfl rfl <| oV (zbh rfl foc4 Tryz.isAgg33 Tryz.sizeOf33 rfl rfl) rfl <| oO <| zaq ((zh2 (k := (k : Int)) (t := t) hO (kq2 hkl hkg))) rfl Tryz.call40 (Dels.cons del1 (Dels.cons del1 Dels.nil)) rfl fun _ hc10 => oA rfl rfl <| nT <| sR <| oM rfl rfl <| oP (P_geq rfl rfl) rfl <| nT ?_
      first | (refine zao rfl (fun hg8 => ?_) (fun hg8 => ?_)) | (refine zap rfl (fun hg8 => ?_) (fun hg8 => ?_)) | (refine zar rfl (fun hg8 => ?_) (fun hg8 => ?_))
      ·
       refine sR <| oM rfl rfl <| oP (zae rfl) rfl <| oP (zaa rfl ⟨_, _, _, Tryz.runUnderlying72, rfl, rfl, Tryz.sizeOf3, rfl⟩) rfl <| oV (zah rfl foc0 rfl Tryz.isAgg3) rfl <| oP (P_add rfl rfl (by first | omega | (simp only [List.length_set]; omega))) rfl <| oP (zae rfl) rfl <| oP (zaa rfl ⟨_, _, _, Tryz.runUnderlying72, rfl, rfl, Tryz.sizeOf3, rfl⟩) rfl <| oO <| zbj rfl rfl foc0 rfl rfl Tryz.sizeOf3 <| nT <| zaf ?_
       obtain ⟨w, hw, hwi, hwD⟩ := zha hO hkl hkg (show 0 ≤ m.wayI (m.dv.length + 1) (k : Int) t by assumption)
       rw [hwi]
       have hwl := hwD.1
       have hww := hW.big.wl w
       refine zbf (Ent.trans (t1_ eR) (zdo hwl)) <| zen [sl tyDv c.dv.v c.l, blk b 72 [c.dv.v, .int .i64 ((m.tks : Int) + 1), c.tv.v], blk b1 33 [.int .i64 t.Kind, .int .i64 t.At, .int .u64 (t.Value.toNat : Int)]] 20971520 (by kernel_rfl) rfl <| aN 0 1 rfl rfl (zag rfl) rfl <| aN 1 3 rfl rfl (zae rfl) rfl <| aN 2 7 rfl rfl (zaa rfl ⟨_, _, _, Tryz.runUnderlying72, rfl, rfl, Tryz.sizeOf70, rfl⟩) rfl <| aV 3 15 rfl rfl (zac rfl) (t4_ (t6_ (t8_ (eD (eD (eD (eD (eD (eD (eD (eD (fun _ _ => trivial)))))))))))) (zah rfl foc1 rfl Tryz.isAgg70) rfl <| aN 4 31 rfl rfl (zag rfl) rfl <| aN 5 63 rfl rfl (zag rfl) rfl <| aN 6 127 rfl rfl (zae rfl) rfl <| aN 7 255 rfl rfl (zaa rfl ⟨_, _, _, Tryz.runUnderlying72, rfl, rfl, Tryz.sizeOf70, rfl⟩) rfl <| aV 8 511 rfl rfl (zac rfl) (t4_ (t6_ (t8_ (eD (eD (eD (eD (eD (eD (eD (eD (fun _ _ => trivial)))))))))))) (zah rfl foc1 rfl Tryz.isAgg70) rfl <| aN 9 1023 rfl rfl (zag rfl) rfl ?_
       first | (refine zbo 10 2047 rfl (by kernel_rfl) rfl (by kernel_rfl) (by kernel_rfl) (zac rfl) (t4_ (t6_ (t8_ (eD (eD (eD (eD (eD (eD (eD (eD (fun _ _ => trivial)))))))))))) (zan rfl rfl rfl (by first | omega | (simp only [List.length_set]; omega)) foc0 (Reads.sl _ _ _) Tryz.runUnderlying70 Tryz.sizeOf91) rfl (fun _ _ _ _ h => h) ?_) | (refine zbo 10 2047 rfl (by kernel_rfl) rfl (by kernel_rfl) (by kernel_rfl) (zac rfl) (t4_ (t6_ (t8_ (eD (eD (eD (eD (eD (eD (eD (eD (fun _ _ => trivial)))))))))))) (zan rfl rfl (Int.toNat_of_nonneg (by first | omega | (simp only [List.length_set]; omega))).symm (by first | omega | (simp only [List.length_set]; omega)) foc0 (Reads.sl _ _ _) Tryz.runUnderlying70 Tryz.sizeOf91) rfl (fun _ _ _ _ h => h) ?_)
       refine aN 11 4095 rfl rfl (za2 rfl ⟨_, _, _, Tryz.runUnderlying91, rfl, rfl, Tryz.sizeOf89, rfl⟩) rfl <| aV 12 8191 rfl rfl (zac rfl) (t4_ (t6_ (t8_ (eD (eD (eD (eD (eD (eD (eD (eD (fun _ _ => trivial)))))))))))) (za3 rfl rfl (by first | omega | (simp only [List.length_set]; omega)) foc0 (Reads.sl _ _ _) rfl rfl Tryz.isAgg89) rfl <| aN 13 16383 rfl rfl (zag rfl) rfl <| aN 14 32767 rfl rfl (zae rfl) rfl <| aN 15 65535 rfl rfl (zaa rfl ⟨_, _, _, Tryz.runUnderlying72, rfl, rfl, Tryz.sizeOf3, rfl⟩) rfl <| aV 16 131071 rfl rfl (zac rfl) (t4_ (t6_ (t8_ (eD (eD (eD (eD (eD (eD (eD (eD (fun _ _ => trivial)))))))))))) (zah rfl foc1 rfl Tryz.isAgg3) rfl <| aN 17 262143 rfl rfl (zag rfl) rfl <| aV 18 524287 rfl rfl (zac rfl) (t4_ (t6_ (t8_ (eD (eD (eD (eD (eD (eD (eD (eD (fun _ _ => trivial)))))))))))) (zbh rfl foc2 Tryz.isAgg33 Tryz.sizeOf33 rfl rfl) rfl <| aN 19 1048575 rfl rfl (zbm rfl (zfz _ _ _ _ _)) rfl <| AJ_op 20 2097151 rfl (by kernel_rfl) rfl (zac rfl) <| zbe rfl (zgz _ _ _ _ _) rfl fun b11 => ?_
       refine ⟨fun _ => (t5_ (t7_ (t9_ (eD (eD (eD (eD (eD (eD (eD (eD (eD (fun _ _ => trivial))))))))))))), ?_⟩
       refine AJ_op 21 4194303 rfl (by kernel_rfl) rfl (zac rfl) <| zbv (t := tyWt) (bytes := 40) rfl rfl del4 foc0 (Reads.lit (t := tyWt) (ys := [(⟨m.tks + 1, k, t⟩ : Wt)]) rfl rfl (by decide) (by decide) rfl) Tryz.underlying89 zi6 (by have h8 := hwq w; simp only [List.length_append, List.length_cons, List.length_nil, maxLen] at *; omega) (by have h8 := hwq w; simp only [List.length_append, List.length_cons, List.length_nil, maxLen] at *; omega) rfl fun p12 c13 => ⟨fun _ => (t5_ (t7_ (t9_ (eD (eD (eD (eD (eD (eD (eD (eD (eD (fun _ _ => trivial))))))))))))), ?_⟩
       first | (refine AJ_op 22 8388607 rfl (by kernel_rfl) rfl (zac rfl) (OJ_V (zan rfl rfl rfl (by first | omega | (simp only [List.length_set]; omega)) foc5 (Reads.sl _ _ _) Tryz.runUnderlying70 Tryz.sizeOf91) rfl ?_)) | (refine AJ_op 22 8388607 rfl (by kernel_rfl) rfl (zac rfl) (OJ_V (zan rfl rfl (Int.toNat_of_nonneg (by first | omega | (simp only [List.length_set]; omega))).symm (by first | omega | (simp only [List.length_set]; omega)) foc5 (Reads.sl _ _ _) Tryz.runUnderlying70 Tryz.sizeOf91) rfl ?_))
       refine ⟨fun h => absurd h (by decide), ?_⟩
       refine aN 23 16777215 rfl rfl (za2 rfl ⟨_, _, _, Tryz.runUnderlying91, rfl, rfl, Tryz.sizeOf89, rfl⟩) rfl <| AJ_op 24 33554431 rfl (by kernel_rfl) rfl (zac rfl) <| zcg (x' := ({ (c.l.getD w tyDv.dflt).1 with wt := ⟨p12, ((m.at w).wait ++ [(⟨m.tks + 1, k, t⟩ : Wt)]).length, c13⟩ }, { (c.l.getD w tyDv.dflt).2 with wait := (c.l.getD w tyDv.dflt).2.wait ++ [(⟨m.tks + 1, k, t⟩ : Wt)] })) rfl rfl rfl (by first | omega | (simp only [List.length_set]; omega)) foc5 rfl rfl rfl Tryz.sizeOf89 <| ⟨fun h => absurd h (by decide), ?_⟩
       refine aD <| sR <| oM rfl rfl <| oP (zae rfl) rfl <| oP (zaa rfl ⟨_, _, _, Tryz.runUnderlying72, rfl, rfl, Tryz.sizeOf3, rfl⟩) rfl <| oV (zah rfl foc8 rfl Tryz.isAgg3) rfl <| oP (zbm rfl (zhe _)) rfl <| oO <| zbn rfl rfl foc10 Tryz.sizeOf51 rfl rfl rfl <| oA rfl rfl <| nT <| zai <| zad <| zam (resA2 Tryz.results12 (zce rfl foc10 Tryz.isAgg51 Tryz.sizeOf51 rfl rfl) (zda rfl)) ?_
       have e1 := Md.do_wait (t := t) hfk (by omega) hst hw
       rw [e1.2.2]
       refine CSpec.close (c.put w { c.hd w with wt := ⟨p12, ((m.at w).wait ++ [(⟨m.tks + 1, k, t⟩ : Wt)]).length, c13⟩ } { m.at w with wait := (m.at w).wait ++ [(⟨m.tks + 1, k, t⟩ : Wt)] }) ?_ ?_ (Ent.trans (Ent.trans (t2_ (t2_ (t2_ (t0_ (Ent.takeC del1 (congrArg (sl tyDv _) (by simp only [stq (show w < c.l.length by omega), hd_at hW, List.set_set])) (t1_ (t1_ eR))))))) (zer (h := { c.hd w with wt := ⟨p12, ((m.at w).wait ++ [(⟨m.tks + 1, k, t⟩ : Wt)]).length, c13⟩ }) (d := { m.at w with wait := (m.at w).wait ++ [(⟨m.tks + 1, k, t⟩ : Wt)] }) (m' := ({ m with tks := m.tks + 1 }.addW w (⟨m.tks + 1, k, t⟩ : Wt))) hW hwl rfl (Md.ok_addW hO hwD ⟨hkl, hkg, zmi hw, by show 1 ≤ t.Kind; omega, by show t.Kind ≤ 3; omega, (show inT t from hb)⟩) (hW.big.set hwl rfl (by show ((m.at w).wait ++ _).length ≤ _; rw [List.length_append]; have := hwq w; simp; omega) htk1 hW.big.told hW.big.wr) rfl)) (t2_ (t0_ (eD (eD (eD (eD eR)))))))
       · rw [e1.1, e1.2.1]; rfl
       · trivial
      ·
       refine kT <| sR <| oM rfl rfl <| oM rfl rfl <| oV (zbh rfl foc4 Tryz.isAgg33 Tryz.sizeOf33 rfl rfl) rfl <| oO <| zaq ((zg9 (t := t) hO hwr ⟨hkl, hkg⟩)) rfl Tryz.call41 (Dels.cons del0 (Dels.cons del0 Dels.nil)) rfl fun c9 h9 => oM rfl rfl <| oP (zaw rfl rfl) rfl <| oP (zaw rfl rfl) rfl <| oA rfl rfl <| oA rfl rfl <| nT <| sR <| oM rfl rfl <| oM rfl rfl <| oP (zbm rfl (zf0 _ _ _)) rfl <| oO <| zbn rfl rfl foc3 Tryz.sizeOf51 rfl rfl rfl <| oA rfl rfl <| nT <| zai <| zam (resA2 Tryz.results12 (zce rfl foc3 Tryz.isAgg51 Tryz.sizeOf51 rfl rfl) (zda rfl)) ?_
       have e1 := Md.do_go (t := t) hfk (by omega) hst (zi7 (by assumption))
       rw [e1.2.2]
       refine CSpec.close c9 ?_ ?_ (Ent.takeC del0 (congrArg (blk b 72) h9.symm) (t0_ (eD (eD (eD eR)))))
       · rw [e1.1, e1.2.1]; rfl
       · trivial
    ·
     refine RJ_gn (GY_no rfl rfl rfl hg4B) rfl rfl <| RJ_gn (GY_no rfl rfl rfl hg4B) rfl rfl <| RJ_gn (GY_no rfl rfl rfl hg4B) rfl rfl <| oP (zay rfl hg4B rfl) rfl <| oM rfl rfl <| RJ_gn (GY_no rfl rfl rfl rfl) rfl rfl <| RJ_gn (GY_no rfl rfl rfl rfl) rfl rfl <| RJ_gn (GY_no rfl rfl rfl rfl) rfl rfl <| oP (zay rfl rfl rfl) rfl <| nT <| za5 rfl rfl <| kT <| zaf <| zaf ?_
     have hst : ¬ ((m.at k).isB = false ∧ (m.at k).hl = false ∧ (m.at k).susp = false) := by rw [← hat k]; simp_all
     refine zak <| oM rfl rfl <| oM rfl rfl <| oV (zbh rfl foc4 Tryz.isAgg33 Tryz.sizeOf33 rfl rfl) rfl <| oO <| zaq ((zh2 (k := (k : Int)) (t := t) hO (kq2 hkl hkg))) rfl Tryz.call40 (Dels.cons del1 (Dels.cons del1 Dels.nil)) rfl fun _ hc15 => oA rfl rfl <| nT <| sR <| oM rfl rfl <| oP (P_geq rfl rfl) rfl <| nT ?_
     first | (refine zao rfl (fun hg9 => ?_) (fun hg9 => ?_)) | (refine zap rfl (fun hg9 => ?_) (fun hg9 => ?_)) | (refine zar rfl (fun hg9 => ?_) (fun hg9 => ?_))
     ·
      refine sR <| oM rfl rfl <| oP (zae rfl) rfl <| oP (zaa rfl ⟨_, _, _, Tryz.runUnderlying72, rfl, rfl, Tryz.sizeOf3, rfl⟩) rfl <| oV (zah rfl foc0 rfl Tryz.isAgg3) rfl <| oP (P_add rfl rfl (by first | omega | (simp only [List.length_set]; omega))) rfl <| oP (zae rfl) rfl <| oP (zaa rfl ⟨_, _, _, Tryz.runUnderlying72, rfl, rfl, Tryz.sizeOf3, rfl⟩) rfl <| oO <| zbj rfl rfl foc0 rfl rfl Tryz.sizeOf3 <| nT <| zaf ?_
      obtain ⟨w, hw, hwi, hwD⟩ := zha hO hkl hkg (show 0 ≤ m.wayI (m.dv.length + 1) (k : Int) t by assumption)
      rw [hwi]
      have hwl := hwD.1
      have hww := hW.big.wl w
      refine zbf (Ent.trans (t1_ eR) (zdo hwl)) <| zen [sl tyDv c.dv.v c.l, blk b 72 [c.dv.v, .int .i64 ((m.tks : Int) + 1), c.tv.v], blk b1 33 [.int .i64 t.Kind, .int .i64 t.At, .int .u64 (t.Value.toNat : Int)]] 20971520 (by kernel_rfl) rfl <| aN 0 1 rfl rfl (zag rfl) rfl <| aN 1 3 rfl rfl (zae rfl) rfl <| aN 2 7 rfl rfl (zaa rfl ⟨_, _, _, Tryz.runUnderlying72, rfl, rfl, Tryz.sizeOf70, rfl⟩) rfl <| aV 3 15 rfl rfl (zac rfl) (t4_ (t6_ (t8_ (eD (eD (eD (eD (eD (eD (eD (eD (fun _ _ => trivial)))))))))))) (zah rfl foc1 rfl Tryz.isAgg70) rfl <| aN 4 31 rfl rfl (zag rfl) rfl <| aN 5 63 rfl rfl (zag rfl) rfl <| aN 6 127 rfl rfl (zae rfl) rfl <| aN 7 255 rfl rfl (zaa rfl ⟨_, _, _, Tryz.runUnderlying72, rfl, rfl, Tryz.sizeOf70, rfl⟩) rfl <| aV 8 511 rfl rfl (zac rfl) (t4_ (t6_ (t8_ (eD (eD (eD (eD (eD (eD (eD (eD (fun _ _ => trivial)))))))))))) (zah rfl foc1 rfl Tryz.isAgg70) rfl <| aN 9 1023 rfl rfl (zag rfl) rfl ?_
      first | (refine zbo 10 2047 rfl (by kernel_rfl) rfl (by kernel_rfl) (by kernel_rfl) (zac rfl) (t4_ (t6_ (t8_ (eD (eD (eD (eD (eD (eD (eD (eD (fun _ _ => trivial)))))))))))) (zan rfl rfl rfl (by first | omega | (simp only [List.length_set]; omega)) foc0 (Reads.sl _ _ _) Tryz.runUnderlying70 Tryz.sizeOf91) rfl (fun _ _ _ _ h => h) ?_) | (refine zbo 10 2047 rfl (by kernel_rfl) rfl (by kernel_rfl) (by kernel_rfl) (zac rfl) (t4_ (t6_ (t8_ (eD (eD (eD (eD (eD (eD (eD (eD (fun _ _ => trivial)))))))))))) (zan rfl rfl (Int.toNat_of_nonneg (by first | omega | (simp only [List.length_set]; omega))).symm (by first | omega | (simp only [List.length_set]; omega)) foc0 (Reads.sl _ _ _) Tryz.runUnderlying70 Tryz.sizeOf91) rfl (fun _ _ _ _ h => h) ?_)
      refine aN 11 4095 rfl rfl (za2 rfl ⟨_, _, _, Tryz.runUnderlying91, rfl, rfl, Tryz.sizeOf89, rfl⟩) rfl <| aV 12 8191 rfl rfl (zac rfl) (t4_ (t6_ (t8_ (eD (eD (eD (eD (eD (eD (eD (eD (fun _ _ => trivial)))))))))))) (za3 rfl rfl (by first | omega | (simp only [List.length_set]; omega)) foc0 (Reads.sl _ _ _) rfl rfl Tryz.isAgg89) rfl <| aN 13 16383 rfl rfl (zag rfl) rfl <| aN 14 32767 rfl rfl (zae rfl) rfl <| aN 15 65535 rfl rfl (zaa rfl ⟨_, _, _, Tryz.runUnderlying72, rfl, rfl, Tryz.sizeOf3, rfl⟩) rfl <| aV 16 131071 rfl rfl (zac rfl) (t4_ (t6_ (t8_ (eD (eD (eD (eD (eD (eD (eD (eD (fun _ _ => trivial)))))))))))) (zah rfl foc1 rfl Tryz.isAgg3) rfl <| aN 17 262143 rfl rfl (zag rfl) rfl <| aV 18 524287 rfl rfl (zac rfl) (t4_ (t6_ (t8_ (eD (eD (eD (eD (eD (eD (eD (eD (fun _ _ => trivial)))))))))))) (zbh rfl foc2 Tryz.isAgg33 Tryz.sizeOf33 rfl rfl) rfl <| aN 19 1048575 rfl rfl (zbm rfl (zfz _ _ _ _ _)) rfl <| AJ_op 20 2097151 rfl (by kernel_rfl) rfl (zac rfl) <| zbe rfl (zgz _ _ _ _ _) rfl fun b16 => ?_
      refine ⟨fun _ => (t5_ (t7_ (t9_ (eD (eD (eD (eD (eD (eD (eD (eD (eD (fun _ _ => trivial))))))))))))), ?_⟩
      refine AJ_op 21 4194303 rfl (by kernel_rfl) rfl (zac rfl) <| zbv (t := tyWt) (bytes := 40) rfl rfl del4 foc0 (Reads.lit (t := tyWt) (ys := [(⟨m.tks + 1, k, t⟩ : Wt)]) rfl rfl (by decide) (by decide) rfl) Tryz.underlying89 zi6 (by have h8 := hwq w; simp only [List.length_append, List.length_cons, List.length_nil, maxLen] at *; omega) (by have h8 := hwq w; simp only [List.length_append, List.length_cons, List.length_nil, maxLen] at *; omega) rfl fun p17 c18 => ⟨fun _ => (t5_ (t7_ (t9_ (eD (eD (eD (eD (eD (eD (eD (eD (eD (fun _ _ => trivial))))))))))))), ?_⟩
      first | (refine AJ_op 22 8388607 rfl (by kernel_rfl) rfl (zac rfl) (OJ_V (zan rfl rfl rfl (by first | omega | (simp only [List.length_set]; omega)) foc5 (Reads.sl _ _ _) Tryz.runUnderlying70 Tryz.sizeOf91) rfl ?_)) | (refine AJ_op 22 8388607 rfl (by kernel_rfl) rfl (zac rfl) (OJ_V (zan rfl rfl (Int.toNat_of_nonneg (by first | omega | (simp only [List.length_set]; omega))).symm (by first | omega | (simp only [List.length_set]; omega)) foc5 (Reads.sl _ _ _) Tryz.runUnderlying70 Tryz.sizeOf91) rfl ?_))
      refine ⟨fun h => absurd h (by decide), ?_⟩
      refine aN 23 16777215 rfl rfl (za2 rfl ⟨_, _, _, Tryz.runUnderlying91, rfl, rfl, Tryz.sizeOf89, rfl⟩) rfl <| AJ_op 24 33554431 rfl (by kernel_rfl) rfl (zac rfl) <| zcg (x' := ({ (c.l.getD w tyDv.dflt).1 with wt := ⟨p17, ((m.at w).wait ++ [(⟨m.tks + 1, k, t⟩ : Wt)]).length, c18⟩ }, { (c.l.getD w tyDv.dflt).2 with wait := (c.l.getD w tyDv.dflt).2.wait ++ [(⟨m.tks + 1, k, t⟩ : Wt)] })) rfl rfl rfl (by first | omega | (simp only [List.length_set]; omega)) foc5 rfl rfl rfl Tryz.sizeOf89 <| ⟨fun h => absurd h (by decide), ?_⟩
      refine aD <| sR <| oM rfl rfl <| oP (zae rfl) rfl <| oP (zaa rfl ⟨_, _, _, Tryz.runUnderlying72, rfl, rfl, Tryz.sizeOf3, rfl⟩) rfl <| oV (zah rfl foc8 rfl Tryz.isAgg3) rfl <| oP (zbm rfl (zhe _)) rfl <| oO <| zbn rfl rfl foc10 Tryz.sizeOf51 rfl rfl rfl <| oA rfl rfl <| nT <| zai <| zad <| zam (resA2 Tryz.results12 (zce rfl foc10 Tryz.isAgg51 Tryz.sizeOf51 rfl rfl) (zda rfl)) ?_
      have e1 := Md.do_wait (t := t) hfk (by omega) hst hw
      rw [e1.2.2]
      refine CSpec.close (c.put w { c.hd w with wt := ⟨p17, ((m.at w).wait ++ [(⟨m.tks + 1, k, t⟩ : Wt)]).length, c18⟩ } { m.at w with wait := (m.at w).wait ++ [(⟨m.tks + 1, k, t⟩ : Wt)] }) ?_ ?_ (Ent.trans (Ent.trans (t2_ (t2_ (t2_ (t0_ (Ent.takeC del1 (congrArg (sl tyDv _) (by simp only [stq (show w < c.l.length by omega), hd_at hW, List.set_set])) (t1_ (t1_ eR))))))) (zer (h := { c.hd w with wt := ⟨p17, ((m.at w).wait ++ [(⟨m.tks + 1, k, t⟩ : Wt)]).length, c18⟩ }) (d := { m.at w with wait := (m.at w).wait ++ [(⟨m.tks + 1, k, t⟩ : Wt)] }) (m' := ({ m with tks := m.tks + 1 }.addW w (⟨m.tks + 1, k, t⟩ : Wt))) hW hwl rfl (Md.ok_addW hO hwD ⟨hkl, hkg, zmi hw, by show 1 ≤ t.Kind; omega, by show t.Kind ≤ 3; omega, (show inT t from hb)⟩) (hW.big.set hwl rfl (by show ((m.at w).wait ++ _).length ≤ _; rw [List.length_append]; have := hwq w; simp; omega) htk1 hW.big.told hW.big.wr) rfl)) (t2_ (t0_ (eD (eD (eD (eD eR)))))))
      · rw [e1.1, e1.2.1]; rfl
      · trivial
     ·
      refine kT <| sR <| oM rfl rfl <| oM rfl rfl <| oV (zbh rfl foc4 Tryz.isAgg33 Tryz.sizeOf33 rfl rfl) rfl <| oO <| zaq ((zg9 (t := t) hO hwr ⟨hkl, hkg⟩)) rfl Tryz.call41 (Dels.cons del0 (Dels.cons del0 Dels.nil)) rfl fun c9 h9 => oM rfl rfl <| oP (zaw rfl rfl) rfl <| oP (zaw rfl rfl) rfl <| oA rfl rfl <| oA rfl rfl <| nT <| sR <| oM rfl rfl <| oM rfl rfl <| oP (zbm rfl (zf0 _ _ _)) rfl <| oO <| zbn rfl rfl foc3 Tryz.sizeOf51 rfl rfl rfl <| oA rfl rfl <| nT <| zai <| zam (resA2 Tryz.results12 (zce rfl foc3 Tryz.isAgg51 Tryz.sizeOf51 rfl rfl) (zda rfl)) ?_
      have e1 := Md.do_go (t := t) hfk (by omega) hst (zi7 (by assumption))
      rw [e1.2.2]
      refine CSpec.close c9 ?_ ?_ (Ent.takeC del0 (congrArg (blk b 72) h9.symm) (t0_ (eD (eD (eD eR)))))
      · rw [e1.1, e1.2.1]; rfl
      · trivial
end Go.Proofs
set_option linter.unusedSimpArgs false
set_option maxRecDepth 20000
namespace Go.Proofs
open Go.VG
theorem ziq (v0 : Int) (v1 : Int) (v2 : Int) (v3 : Int) (v4 : Int) : zby Tryz.prog 89 1 [(0, .agg #[.int .i64 v0, .int .i64 v1, .int .i64 v2, .int .i64 v3, .int .u64 v4])] 94 [.int .i64 v0, .int .i64 v1, .int .i64 v2, .int .i64 v3, .int .u64 v4] := fun w => by kernel_rfl
theorem zgl (v0 : Bool) (v1 : Int) (v2 : Int) (v3 : Int) : ∀ w, (Instr.build 51 (#[(0, .bool v0), (1, .int .i64 v1), (2, .int .u64 v2), (3, .int .i64 v3)] : Array (Nat × Value))).run Tryz.prog w = .ok (.agg #[.bool v0, .int .i64 v1, .int .u64 v2, .int .i64 v3]) w := fun w => by kernel_rfl
theorem zir (v0 : Bool) (v1 : Int) (v2 : Int) (v3 : Int) : zby Tryz.prog 54 1 [(0, .agg #[.bool v0, .int .i64 v1, .int .u64 v2, .int .i64 v3])] 51 [.bool v0, .int .i64 v1, .int .u64 v2, .int .i64 v3] := fun w => by kernel_rfl
theorem zot {c : RH} {m : Md} {R : List HP} {tv : Sl3} {l : List api_Answer} (hl : l.length ≤ 100000000) : Ent (sl zau tv.v l :: RefR c m :: R) (RefR { c with tv := tv } { m with told := l } :: R) := fun h hh => by
  obtain ⟨a1, a2, d1, e1, p1, q1⟩ := hh
  obtain ⟨hw, h1⟩ := stars_pur.1 (stars_star.1 q1)
  have hw2 : RefWF { c with tv := tv } { m with told := l } := ⟨hw.dv, ⟨hw.ok.uniq, hw.ok.nm, hw.ok.chk, hw.ok.nam, hw.ok.acy, hw.ok.bas, hw.ok.hl, hw.ok.hn, hw.ok.org⟩, ⟨hw.big.len, hw.big.wl, hw.big.tks, hl, hw.big.wr⟩⟩
  have h2 := zbr (List.Perm.swap _ _ _) _ h1
  have h3 : stars (sl zau tv.v l :: sl tyDv c.dv.v c.l :: Go.VG.Own RowC c.l :: R) h := ⟨a1, a2, d1, e1, p1, ze6 h2⟩
  exact stars_star.2 (stars_pur.2 ⟨hw2, zbr (List.Perm.swap _ _ _) _ h3⟩)
theorem zvc {W : World} {b : Nat} {v : Value} {xs : List api_Target} {c : RH} {m : Md} (hA : Reads (RefR c m) tyapi_Target v xs) (hc : chk xs = 0) :
    CSpec Tryz.prog W 77 [ptr b 0, v] [blk b 72 (zbp c m), RefR c m] (fun _ : Unit => .bool (m.fits xs)) (fun _ => True) (fun _ F => blk b 72 (zbp c m) :: RefR c m :: F) := by
 refine CSpec.of_body Tryz.func77 rfl Tryz.ntmps77 rfl fun F => ?_
 show CJ _ _ _ _ _ _ (_ :: _ :: F)
 refine zbl (zcs foc1) fun hW => ?_
 have hO := hW.ok
 have hln := hW.big.len
 have hll := hW.len
 have hat := hW.at
 have htk := hW.big.tks
 refine sR <| oA rfl rfl <| nT <| zaf <| sR <| oA rfl rfl <| nT <| zat <| zbs (X := Nat) [4, 5, 6, 7, 8, 9, 10, 11, 12, 13, 14, 15, 16, 17, 18, 19, 20, 21, 22, 23, 24, 25, 26, 27, 28, 29, 30, 31, 32, 33, 34, 35, 36, 37, 38, 39, 40] (fun i  => ([(5, .int .i64 (i : Nat))] : Slots)) (fun i R => R) (fun i  => i ≤ xs.length ∧ m.fits (xs.take i) = true) (fun i  => xs.length - i) (0) ?_ ?_ (t0_ (t0_ eR)) ?_
 · exact ⟨Nat.zero_le _, rfl⟩
 · exact ⟨rfl, True.intro⟩
 ·
  intro i hpf
  obtain ⟨hi, hft⟩ := hpf
  show CJ _ _ _ _ _ (([(5, .int .i64 (i : Nat))] : Slots) ++ forget _ _) (_)
  have hx64 := (zb0 hc).1
  refine zaf <| sR <| oM rfl rfl <| oM rfl rfl <| oV (V_len rfl foc1 hA Tryz.runUnderlying30) rfl <| oP (P_lss rfl rfl) rfl <| nT ?_
  first | (refine zao rfl (fun hg1 => ?_) (fun hg1 => ?_)) | (refine zap rfl (fun hg1 => ?_) (fun hg1 => ?_)) | (refine zar rfl (fun hg1 => ?_) (fun hg1 => ?_))
  ·
   refine kT <| zaf <| zat <| zaf ?_
   have hlt : i < xs.length := by omega
   have hbd := zpy hc hlt
   refine za0 0 (by kernel_rfl) rfl <| aN 0 1 rfl rfl (zag rfl) rfl <| aN 1 3 rfl rfl (zag rfl) rfl ?_
   first | (refine zbo 2 7 rfl (by kernel_rfl) rfl (by kernel_rfl) (by kernel_rfl) (zac rfl) (t0_ (t0_ eR)) (zan rfl rfl rfl (by omega) foc1 hA Tryz.runUnderlying30 Tryz.sizeOf37) rfl (fun _ _ _ _ h => h) ?_) | (refine zbo 2 7 rfl (by kernel_rfl) rfl (by kernel_rfl) (by kernel_rfl) (zac rfl) (t0_ (t0_ eR)) (zan rfl rfl (Int.toNat_of_nonneg (by omega)).symm (by omega) foc1 hA Tryz.runUnderlying30 Tryz.sizeOf37) rfl (fun _ _ _ _ h => h) ?_)
   refine aN 3 15 rfl rfl (za2 rfl ⟨_, _, _, Tryz.runUnderlying37, rfl, rfl, Tryz.sizeOf9, rfl⟩) rfl <| aV 4 31 rfl rfl (zac rfl) (t0_ (t0_ eR)) (za3 rfl rfl (by omega) foc1 hA rfl rfl Tryz.isAgg9) rfl <| aN 5 63 rfl rfl (ze8 rfl rfl Tryz.underlying9) rfl <| aN 6 127 rfl rfl (zag rfl) rfl ?_
   first | (refine zc0 18 rfl (fun hg2B hg2 => ?_) (fun hg2B hg2 => ?_)) | (refine zc1 18 rfl (fun hg2B hg2 => ?_) (fun hg2B hg2 => ?_)) | (refine zdf 18 rfl (fun hg2B => ?_) (fun hg2B => ?_))
   ·
    refine aP 7 255 rfl rfl (zab rfl rfl rfl hg2B) (zag rfl) rfl <| aP 8 511 rfl rfl (zab rfl rfl rfl hg2B) (zag rfl) rfl ?_
    first | (refine zbo 9 1023 rfl (by kernel_rfl) rfl (by kernel_rfl) (by kernel_rfl) (zab rfl rfl rfl hg2B) (t0_ (t0_ eR)) (zan rfl rfl rfl (by omega) foc1 hA Tryz.runUnderlying30 Tryz.sizeOf37) rfl (fun _ _ _ _ h => h) ?_) | (refine zbo 9 1023 rfl (by kernel_rfl) rfl (by kernel_rfl) (by kernel_rfl) (zab rfl rfl rfl hg2B) (t0_ (t0_ eR)) (zan rfl rfl (Int.toNat_of_nonneg (by omega)).symm (by omega) foc1 hA Tryz.runUnderlying30 Tryz.sizeOf37) rfl (fun _ _ _ _ h => h) ?_)
    refine aP 10 2047 rfl rfl (zab rfl rfl rfl hg2B) (za2 rfl ⟨_, _, _, Tryz.runUnderlying37, rfl, rfl, Tryz.sizeOf3, rfl⟩) rfl <| aV 11 4095 rfl rfl (zab rfl rfl rfl hg2B) (t0_ (t0_ eR)) (za3 rfl rfl (by omega) foc1 hA rfl rfl Tryz.isAgg3) rfl <| aP 12 8191 rfl rfl (zab rfl rfl rfl hg2B) (zag rfl) rfl <| aP 13 16383 rfl rfl (zab rfl rfl rfl hg2B) (zag rfl) rfl ?_
    first | (refine zbo 14 32767 rfl (by kernel_rfl) rfl (by kernel_rfl) (by kernel_rfl) (zab rfl rfl rfl hg2B) (t0_ (t0_ eR)) (zan rfl rfl rfl (by omega) foc1 hA Tryz.runUnderlying30 Tryz.sizeOf37) rfl (fun _ _ _ _ h => h) ?_) | (refine zbo 14 32767 rfl (by kernel_rfl) rfl (by kernel_rfl) (by kernel_rfl) (zab rfl rfl rfl hg2B) (t0_ (t0_ eR)) (zan rfl rfl (Int.toNat_of_nonneg (by omega)).symm (by omega) foc1 hA Tryz.runUnderlying30 Tryz.sizeOf37) rfl (fun _ _ _ _ h => h) ?_)
    refine aP 15 65535 rfl rfl (zab rfl rfl rfl hg2B) (za2 rfl ⟨_, _, _, Tryz.runUnderlying37, rfl, rfl, Tryz.sizeOf3, rfl⟩) rfl <| aV 16 131071 rfl rfl (zab rfl rfl rfl hg2B) (t0_ (t0_ eR)) (za3 rfl rfl (by omega) foc1 hA rfl rfl Tryz.isAgg3) rfl <| aP 17 262143 rfl rfl (zab rfl rfl rfl hg2B) (P_add rfl rfl (by omega)) rfl <| aP 18 524287 rfl rfl (zab rfl rfl rfl hg2B) (zag rfl) rfl <| aP 19 1048575 rfl rfl (zab rfl rfl rfl hg2B) (zag rfl) rfl <| aP 20 2097151 rfl rfl (zab rfl rfl rfl hg2B) (zag rfl) rfl <| aP 21 4194303 rfl rfl (zab rfl rfl rfl hg2B) (zag rfl) rfl ?_
    first | (refine zbo 22 8388607 rfl (by kernel_rfl) rfl (by kernel_rfl) (by kernel_rfl) (zab rfl rfl rfl hg2B) (t0_ (t0_ eR)) (zan rfl rfl rfl (by omega) foc1 hA Tryz.runUnderlying30 Tryz.sizeOf37) rfl (fun _ _ _ _ h => h) ?_) | (refine zbo 22 8388607 rfl (by kernel_rfl) rfl (by kernel_rfl) (by kernel_rfl) (zab rfl rfl rfl hg2B) (t0_ (t0_ eR)) (zan rfl rfl (Int.toNat_of_nonneg (by omega)).symm (by omega) foc1 hA Tryz.runUnderlying30 Tryz.sizeOf37) rfl (fun _ _ _ _ h => h) ?_)
    refine aP 23 16777215 rfl rfl (zab rfl rfl rfl hg2B) (za2 rfl ⟨_, _, _, Tryz.runUnderlying37, rfl, rfl, Tryz.sizeOf9, rfl⟩) rfl <| aV 24 33554431 rfl rfl (zab rfl rfl rfl hg2B) (t0_ (t0_ eR)) (za3 rfl rfl (by omega) foc1 hA rfl rfl Tryz.isAgg9) rfl <| AJ_op 25 67108863 rfl (by kernel_rfl) rfl (zab rfl rfl rfl hg2B) <| zaq (ze3) rfl Tryz.call39 (Dels.cons del0 (Dels.cons del0 Dels.nil)) rfl fun _ hc1 => ⟨fun _ => (t0_ (t0_ eR)), ?_⟩
    refine AJ_op 26 134217727 rfl (by kernel_rfl) rfl (zab rfl rfl rfl hg2B) <| zaq (zn5 (Int.lt_of_le_of_lt Md.findI_lt (by omega))) rfl Tryz.call88 (Dels.cons del0 (Dels.cons del0 Dels.nil)) rfl fun _ hc2 => ⟨fun _ => (t0_ (t0_ eR)), ?_⟩
    refine aP 27 268435455 rfl rfl (zab rfl rfl rfl hg2B) (P_gtr rfl rfl) rfl <| aN 28 536870911 rfl rfl (zas rfl hg2B rfl) rfl <| aD ?_
    first | (refine zao rfl (fun hg3 => ?_) (fun hg3 => ?_)) | (refine zap rfl (fun hg3 => ?_) (fun hg3 => ?_)) | (refine zar rfl (fun hg3 => ?_) (fun hg3 => ?_))
    ·
     refine sR <| oA rfl rfl <| nT <| zai <| zaj <| zad <| zbd <| zaj <| zad <| zam (res1 Tryz.results77 rfl) <| CSpec.close () ?_ ?_ (t0_ (t0_ eR))
     ·
      exact bv (Md.fits_no hlt (by rw [← Md.sizeI_find]; rintro (h | h)
                                   · exact absurd h (by simp_all)
                                   · omega)).symm
     · trivial
    ·
     refine zbk <| zal <| zav <| zak <| oM rfl rfl <| oP (P_add rfl rfl (by omega)) rfl <| oA rfl rfl <| za9 <| zbg (i + 1) (by first | omega | (simp only []; omega)) ?_ (by repeat (first | exact Kp.base | exact Kp.self | refine Kp.cons rfl ?_ | refine Kp.forget rfl ?_)) ?_ (t0_ (t0_ eR))
     ·
      refine ⟨by omega, Md.fits_take (by omega) hft ?_⟩
      rw [← Md.sizeI_find]
      first | (left; simp_all; done) | (right; omega) | (right; simp_all; done)
     · exact ⟨rfl, True.intro⟩
   ·
    refine aS 7 255 rfl rfl (GY_no rfl rfl rfl hg2B) rfl <| aS 8 511 rfl rfl (GY_no rfl rfl rfl hg2B) rfl <| aS 9 1023 rfl rfl (GY_no rfl rfl rfl hg2B) rfl <| aS 10 2047 rfl rfl (GY_no rfl rfl rfl hg2B) rfl <| aS 11 4095 rfl rfl (GY_no rfl rfl rfl hg2B) rfl <| aS 12 8191 rfl rfl (GY_no rfl rfl rfl hg2B) rfl <| aS 13 16383 rfl rfl (GY_no rfl rfl rfl hg2B) rfl <| aS 14 32767 rfl rfl (GY_no rfl rfl rfl hg2B) rfl <| aS 15 65535 rfl rfl (GY_no rfl rfl rfl hg2B) rfl <| aS 16 131071 rfl rfl (GY_no rfl rfl rfl hg2B) rfl <| aS 17 262143 rfl rfl (GY_no rfl rfl rfl hg2B) rfl <| aS 18 524287 rfl rfl (GY_no rfl rfl rfl hg2B) rfl <| aS 19 1048575 rfl rfl (GY_no rfl rfl rfl hg2B) rfl <| aS 20 2097151 rfl rfl (GY_no rfl rfl rfl hg2B) rfl <| aS 21 4194303 rfl rfl (GY_no rfl rfl rfl hg2B) rfl <| aS 22 8388607 rfl rfl (GY_no rfl rfl rfl hg2B) rfl <| aS 23 16777215 rfl rfl (GY_no rfl rfl rfl hg2B) rfl <| aS 24 33554431 rfl rfl (GY_no rfl rfl rfl hg2B) rfl <| aS 25 67108863 rfl rfl (GY_no rfl rfl rfl hg2B) rfl <| aS 26 134217727 rfl rfl (GY_no rfl rfl rfl hg2B) rfl <| aS 27 268435455 rfl rfl (GY_no rfl rfl rfl hg2B) rfl <| aN 28 536870911 rfl rfl (zay rfl hg2B rfl) rfl <| aD <| za5 rfl rfl <| zbk <| zal <| zav <| zak <| oM rfl rfl <| oP (P_add rfl rfl (by omega)) rfl <| oA rfl rfl <| za9 ?_
    refine zbg (i + 1) (by first | omega | (simp only []; omega)) ?_ (by repeat (first | exact Kp.base | exact Kp.self | refine Kp.cons rfl ?_ | refine Kp.forget rfl ?_)) ?_ (t0_ (t0_ eR))
    ·
     refine ⟨by omega, Md.fits_take (by omega) hft ?_⟩
     rw [← Md.sizeI_find]
     first | (left; simp_all; done) | (right; omega) | (right; simp_all; done)
    · exact ⟨rfl, True.intro⟩
  ·
   refine zbt <| za6 <| za7 <| za1 <| zav <| sR <| oA rfl rfl <| nT <| zai <| zam (res1 Tryz.results77 rfl) <| CSpec.close () ?_ ?_ (t0_ (t0_ eR))
   ·
    obtain rfl : i = xs.length := by omega
    rw [List.take_length] at hft
    exact bv hft.symm
   · trivial
theorem zts {W : World} {b : Nat} {c : RH} {m : Md} {n : ByteArray} (hwr : m.wr + m.wsum < 100000000) (hto : m.told.length + m.wsum < 100000000) (hws : m.wsum < 100000) :
    CSpec Tryz.prog W 35 [ptr b 0, .string n] [blk b 72 (zbp c m), RefR c m] (fun _ : RH => .int .i64 (m.rsE n)) (fun _ => True) (fun c2 F => blk b 72 (zbp c2 (m.rsS n)) :: RefR c2 (m.rsS n) :: F) := by
 refine CSpec.of_body Tryz.func35 rfl Tryz.ntmps35 rfl fun F => ?_
 show CJ _ _ _ _ _ _ (_ :: _ :: F)
 refine zbl (zcs foc1) fun hW => ?_
 have hO := hW.ok
 have hln := hW.big.len
 have hll := hW.len
 have hat := hW.at
 have htk := hW.big.tks
 refine sR <| oA rfl rfl <| nT <| sR <| oM rfl rfl <| oM rfl rfl <| oO <| zaq (zku) rfl Tryz.call65 (Dels.cons del0 (Dels.cons del0 Dels.nil)) rfl fun _ hc1 => oA rfl rfl <| nT <| zaf <| sR <| oM rfl rfl <| oP (P_lss rfl rfl) rfl <| nT ?_
 first | (refine zao rfl (fun hg1 => ?_) (fun hg1 => ?_)) | (refine zap rfl (fun hg1 => ?_) (fun hg1 => ?_)) | (refine zar rfl (fun hg1 => ?_) (fun hg1 => ?_))
 ·
  refine sR <| oA rfl rfl <| nT <| zai <| zad <| zam (res1 Tryz.results35 rfl) ?_
  have e1 : m.rsE n = 12 ∧ m.rsS n = m := by
    rcases Md.devI_cases (m := m) (n := n) with ⟨h1, _⟩ | ⟨k, _, h2, _⟩
    · exact Md.rs_none h1
    · exfalso; omega
  rw [e1.2]
  refine CSpec.close c ?_ ?_ (t0_ (t0_ eR))
  · rw [e1.1]
  · trivial
 ·
  refine kT <| zaf ?_
  obtain ⟨hdn, hdi⟩ | ⟨k, hdn, hdi, hk, hfk⟩ := Md.devI_cases (m := m) (n := n)
  · exfalso; omega
  rw [hdi]
  have hkl := hk.1
  refine zak <| oM rfl rfl <| oP (zae rfl) rfl <| oP (zaa rfl ⟨_, _, _, Tryz.runUnderlying72, rfl, rfl, Tryz.sizeOf70, rfl⟩) rfl <| oV (zah rfl foc0 rfl Tryz.isAgg70) rfl <| oM rfl rfl ?_
  first | (refine RJ_op rfl (OJ_V (zan rfl rfl rfl (by first | omega | (simp only [List.length_set]; omega)) foc1 rdDv Tryz.runUnderlying70 Tryz.sizeOf91) rfl ?_)) | (refine RJ_op rfl (OJ_V (zan rfl rfl (Int.toNat_of_nonneg (by first | omega | (simp only [List.length_set]; omega))).symm (by first | omega | (simp only [List.length_set]; omega)) foc1 rdDv Tryz.runUnderlying70 Tryz.sizeOf91) rfl ?_))
  refine oV (zcd rfl rfl (by first | omega | (simp only [List.length_set]; omega)) foc1 rdDv rfl rfl Tryz.isAgg91 Tryz.sizeOf91) rfl <| oO <| zb1 Tryz.zeroValue91 rfl rfl fun b2 => oO <| zbn rfl rfl foc0 Tryz.sizeOf91 rfl rfl rfl <| nT <| zgp (X := Unit) [4, 24, 25, 26, 27, 28, 29, 30, 31, 32, 33, 34, 35, 36] (fun _ => ([] : Slots)) (fun _ R => R) (fun _ => ¬ ((m.at k).susp = false ∨ ((m.at k).hl = false ∧ (m.at k).hn = false))) Dels.nil ?_ ?_
  ·
   refine sR <| oP (zaa rfl ⟨_, _, _, Tryz.runUnderlying91, rfl, rfl, Tryz.sizeOf4, rfl⟩) rfl <| oV (zah rfl foc0 rfl Tryz.isAgg4) rfl <| oP (P_not rfl) rfl <| oM rfl rfl ?_
   first | (refine zba 27 rfl (fun hg2B hg2 => ?_) (fun hg2B hg2 => ?_)) | (refine zbb 27 rfl (fun hg2B hg2 => ?_) (fun hg2B hg2 => ?_)) | (refine zbi 27 rfl (fun hg2B => ?_) (fun hg2B => ?_))
   ·
    refine RJ_gn (GY_no rfl rfl rfl hg2B) rfl rfl <| RJ_gn (GY_no rfl rfl rfl hg2B) rfl rfl <| RJ_gn (GY_no rfl rfl rfl hg2B) rfl rfl <| RJ_gn (GY_no rfl rfl rfl hg2B) rfl rfl <| RJ_gn (zbq rfl rfl rfl) rfl rfl <| RJ_gn (zbq rfl rfl rfl) rfl rfl <| RJ_gn (zbq rfl rfl rfl) rfl rfl <| RJ_gn (GY_no rfl rfl rfl hg2B) rfl rfl <| oP (zas rfl hg2B rfl) rfl <| nT <| za4 rfl rfl <| sR <| oA rfl rfl <| nT <| zai <| zad <| zam (res1 Tryz.results35 rfl) ?_
    have e1 := (fun z => (⟨z, Md.rsS_no (by rw [z]; decide)⟩ : m.rsE n = 20 ∧ m.rsS n = m)) (Md.rs_state hdn (by rw [← hat]; simp_all))
    rw [e1.2]
    refine CSpec.close c ?_ ?_ (t1_ (t1_ (eD eR)))
    · rw [e1.1]
    · trivial
   ·
    refine gP (zab rfl rfl rfl hg2B) (zaa rfl ⟨_, _, _, Tryz.runUnderlying91, rfl, rfl, Tryz.sizeOf4, rfl⟩) rfl <| gV (zab rfl rfl rfl hg2B) (zah rfl foc0 rfl Tryz.isAgg4) rfl <| gP (zab rfl rfl rfl hg2B) (P_not rfl) rfl <| gP (zab rfl rfl rfl hg2B) (zag rfl) rfl ?_
    first | (refine zba 31 rfl (fun hg3B hg3 => ?_) (fun hg3B hg3 => ?_)) | (refine zbb 31 rfl (fun hg3B hg3 => ?_) (fun hg3B hg3 => ?_)) | (refine zbi 31 rfl (fun hg3B => ?_) (fun hg3B => ?_))
    ·
     refine gP (zab rfl rfl rfl hg3B) (zaa rfl ⟨_, _, _, Tryz.runUnderlying91, rfl, rfl, Tryz.sizeOf4, rfl⟩) rfl <| gV (zab rfl rfl rfl hg3B) (zah rfl foc0 rfl Tryz.isAgg4) rfl <| gP (zab rfl rfl rfl hg3B) (P_not rfl) rfl <| gP (zab rfl rfl rfl hg2B) (zas rfl hg3B rfl) rfl <| oP (zay rfl hg2B rfl) rfl <| nT ?_
     first | (refine zao rfl (fun hg4 => ?_) (fun hg4 => ?_)) | (refine zap rfl (fun hg4 => ?_) (fun hg4 => ?_)) | (refine zar rfl (fun hg4 => ?_) (fun hg4 => ?_))
     ·
      refine sR <| oA rfl rfl <| nT <| zai <| zad <| zam (res1 Tryz.results35 rfl) ?_
      have e1 := (fun z => (⟨z, Md.rsS_no (by rw [z]; decide)⟩ : m.rsE n = 20 ∧ m.rsS n = m)) (Md.rs_state hdn (by rw [← hat]; simp_all))
      rw [e1.2]
      refine CSpec.close c ?_ ?_ (t1_ (t1_ (eD eR)))
      · rw [e1.1]
      · trivial
     ·
      refine zbk <| ziu () ?_ (by repeat (first | exact Kp.base | exact Kp.self | refine Kp.cons rfl ?_ | refine Kp.forget rfl ?_)) ?_ (t0_ (t0_ (t0_ eR)))
      · rw [← hat]; simp_all
      · exact True.intro
    ·
     refine RJ_gn (GY_no rfl rfl rfl hg3B) rfl rfl <| RJ_gn (GY_no rfl rfl rfl hg3B) rfl rfl <| RJ_gn (GY_no rfl rfl rfl hg3B) rfl rfl <| gP (zab rfl rfl rfl hg2B) (zay rfl hg3B rfl) rfl <| oP (zay rfl hg2B rfl) rfl <| nT <| za5 rfl rfl <| zbk <| ziu () ?_ (by repeat (first | exact Kp.base | exact Kp.self | refine Kp.cons rfl ?_ | refine Kp.forget rfl ?_)) ?_ (t0_ (t0_ (t0_ eR)))
     · rw [← hat]; simp_all
     · exact True.intro
  ·
   intro _ hst
   show CJ _ _ _ _ _ (([] : Slots) ++ forget _ _) (_)
   refine zgp (X := Unit) [4, 37, 38, 39, 40, 41, 42, 43, 44, 45, 46, 47, 48, 49, 50, 51, 52, 53, 54] (fun _ => ([] : Slots)) (fun _ R => R) (fun _ => ¬ ((m.at k).hn = true ∧ (m.needs k (tsize (m.at k).new) = false ∨ m.fits (m.at k).new = false))) Dels.nil ?_ ?_
   ·
    refine sR <| oP (zaa rfl ⟨_, _, _, Tryz.runUnderlying91, rfl, rfl, Tryz.sizeOf4, rfl⟩) rfl <| oV (zah rfl foc0 rfl Tryz.isAgg4) rfl <| oM rfl rfl ?_
    first | (refine zba 39 rfl (fun hg5B hg5 => ?_) (fun hg5B hg5 => ?_)) | (refine zbb 39 rfl (fun hg5B hg5 => ?_) (fun hg5B hg5 => ?_)) | (refine zbi 39 rfl (fun hg5B => ?_) (fun hg5B => ?_))
    ·
     refine gP (zab rfl rfl rfl hg5B) (zag rfl) rfl <| gP (zab rfl rfl rfl hg5B) (zag rfl) rfl <| gP (zab rfl rfl rfl hg5B) (zaa rfl ⟨_, _, _, Tryz.runUnderlying91, rfl, rfl, Tryz.sizeOf30, rfl⟩) rfl <| gV (zab rfl rfl rfl hg5B) (zah rfl foc0 rfl Tryz.isAgg30) rfl <| RJ_gy (zab rfl rfl rfl hg5B) <| zaq (zfx (rrNw (by omega)) zpf) rfl Tryz.call84 (Dels.cons del2 Dels.nil) rfl fun _ hc3 => RJ_gy (zab rfl rfl rfl hg5B) <| zaq (zva hk) rfl Tryz.call83 (Dels.cons del2 (Dels.cons del0 Dels.nil)) rfl fun _ hc4 => gP (zab rfl rfl rfl hg5B) (P_not rfl) rfl <| gP (zab rfl rfl rfl hg5B) (zag rfl) rfl ?_
     first | (refine zba 47 rfl (fun hg6B hg6 => ?_) (fun hg6B hg6 => ?_)) | (refine zbb 47 rfl (fun hg6B hg6 => ?_) (fun hg6B hg6 => ?_)) | (refine zbi 47 rfl (fun hg6B => ?_) (fun hg6B => ?_))
     ·
      refine RJ_gn (GY_no rfl rfl rfl hg6B) rfl rfl <| RJ_gn (GY_no rfl rfl rfl hg6B) rfl rfl <| RJ_gn (GY_no rfl rfl rfl hg6B) rfl rfl <| RJ_gn (GY_no rfl rfl rfl hg6B) rfl rfl <| RJ_gn (GY_no rfl rfl rfl hg6B) rfl rfl <| gP (zab rfl rfl rfl hg5B) (zas rfl hg6B rfl) rfl <| oP (zas rfl hg5B rfl) rfl <| nT <| za4 rfl rfl <| sR <| oA rfl rfl <| nT <| zai <| zad <| zam (res1 Tryz.results35 rfl) ?_
      have e1 := (fun z => (⟨z, Md.rsS_no (by rw [z]; decide)⟩ : m.rsE n = 1 ∧ m.rsS n = m)) (Md.rs_fit hdn hst ⟨by rw [← hat]; simp_all, by simp_all⟩)
      rw [e1.2]
      refine CSpec.close c ?_ ?_ (t0_ (t0_ (eD eR)))
      · rw [e1.1]
      · trivial
     ·
      refine gP (zab rfl rfl rfl hg6B) (zag rfl) rfl <| gP (zab rfl rfl rfl hg6B) (zaa rfl ⟨_, _, _, Tryz.runUnderlying91, rfl, rfl, Tryz.sizeOf30, rfl⟩) rfl <| gV (zab rfl rfl rfl hg6B) (zah rfl foc2 rfl Tryz.isAgg30) rfl <| RJ_gy (zab rfl rfl rfl hg6B) <| zaq (zvc (rrNw hkl) (hO.chk k).2) rfl Tryz.call77 (Dels.cons del0 (Dels.cons del0 Dels.nil)) rfl fun _ hc5 => gP (zab rfl rfl rfl hg6B) (P_not rfl) rfl <| gP (zab rfl rfl rfl hg5B) (zay rfl hg6B rfl) rfl <| oP (zas rfl hg5B rfl) rfl <| nT ?_
      first | (refine zao rfl (fun hg7 => ?_) (fun hg7 => ?_)) | (refine zap rfl (fun hg7 => ?_) (fun hg7 => ?_)) | (refine zar rfl (fun hg7 => ?_) (fun hg7 => ?_))
      ·
       refine sR <| oA rfl rfl <| nT <| zai <| zad <| zam (res1 Tryz.results35 rfl) ?_
       have e1 := (fun z => (⟨z, Md.rsS_no (by rw [z]; decide)⟩ : m.rsE n = 1 ∧ m.rsS n = m)) (Md.rs_fit hdn hst ⟨by rw [← hat]; simp_all, by simp_all⟩)
       rw [e1.2]
       refine CSpec.close c ?_ ?_ (t0_ (t0_ (eD eR)))
       · rw [e1.1]
       · trivial
      ·
       refine zbk <| ziu () ?_ (by repeat (first | exact Kp.base | exact Kp.self | refine Kp.cons rfl ?_ | refine Kp.forget rfl ?_)) ?_ (t2_ (t0_ (t0_ eR)))
       ·
        have hq := congrArg Dv.hn (hat k)
        rw [← hq]
        simp_all
       · exact True.intro
    ·
     refine RJ_gn (GY_no rfl rfl rfl hg5B) rfl rfl <| RJ_gn (GY_no rfl rfl rfl hg5B) rfl rfl <| RJ_gn (GY_no rfl rfl rfl hg5B) rfl rfl <| RJ_gn (GY_no rfl rfl rfl hg5B) rfl rfl <| RJ_gn (GY_no rfl rfl rfl hg5B) rfl rfl <| RJ_gn (GY_no rfl rfl rfl hg5B) rfl rfl <| RJ_gn (GY_no rfl rfl rfl hg5B) rfl rfl <| RJ_gn (GY_no rfl rfl rfl hg5B) rfl rfl <| RJ_gn (zbq rfl rfl rfl) rfl rfl <| RJ_gn (zbq rfl rfl rfl) rfl rfl <| RJ_gn (zbq rfl rfl rfl) rfl rfl <| RJ_gn (zbq rfl rfl rfl) rfl rfl <| RJ_gn (zbq rfl rfl rfl) rfl rfl <| RJ_gn (GY_no rfl rfl rfl hg5B) rfl rfl <| oP (zay rfl hg5B rfl) rfl <| nT <| za5 rfl rfl <| zbk <| ziu () ?_ (by repeat (first | exact Kp.base | exact Kp.self | refine Kp.cons rfl ?_ | refine Kp.forget rfl ?_)) ?_ (t0_ (t0_ (t0_ eR)))
     ·
      have hq := congrArg Dv.hn (hat k)
      rw [← hq]
      simp_all
     · exact True.intro
   ·
    intro _ hft
    show CJ _ _ _ _ _ (([] : Slots) ++ forget _ _) (_)
    refine zaf <| sR <| oP (zaa rfl ⟨_, _, _, Tryz.runUnderlying91, rfl, rfl, Tryz.sizeOf4, rfl⟩) rfl <| oV (zah rfl foc0 rfl Tryz.isAgg4) rfl <| nT ?_
    first | (refine zao rfl (fun hg8 => ?_) (fun hg8 => ?_)) | (refine zap rfl (fun hg8 => ?_) (fun hg8 => ?_)) | (refine zar rfl (fun hg8 => ?_) (fun hg8 => ?_))
    ·
     refine zbf (Ent.trans (t2_ eR) (zdo hkl)) ?_
     let y1 : RD × Dv := ({ (c.l.getD k tyDv.dflt).1 with lv := (c.l.getD k tyDv.dflt).1.nw }, { (c.l.getD k tyDv.dflt).2 with live := (c.l.getD k tyDv.dflt).2.new })
     let l1 := c.l.set k y1
     let y2 : RD × Dv := ((l1.getD k tyDv.dflt).1, { (l1.getD k tyDv.dflt).2 with hl := true })
     let l2 := l1.set k y2
     let y3 : RD × Dv := ({ (l2.getD k tyDv.dflt).1 with nw := s3z }, { (l2.getD k tyDv.dflt).2 with new := [] })
     let l3 := l2.set k y3
     let y4 : RD × Dv := ((l3.getD k tyDv.dflt).1, { (l3.getD k tyDv.dflt).2 with hn := false })
     let l4 := l3.set k y4
     refine za0 12264144896 (by kernel_rfl) rfl <| aN 0 1 rfl rfl (zag rfl) rfl <| aN 1 3 rfl rfl (zae rfl) rfl <| aN 2 7 rfl rfl (zaa rfl ⟨_, _, _, Tryz.runUnderlying72, rfl, rfl, Tryz.sizeOf70, rfl⟩) rfl <| aV 3 15 rfl rfl (zac rfl) (t0_ (t0_ (t0_ (t0_ (t0_ (t0_ (t0_ (t0_ (t0_ eR))))))))) (zah rfl foc8 rfl Tryz.isAgg70) rfl <| aN 4 31 rfl rfl (zag rfl) rfl <| aN 5 63 rfl rfl (zag rfl) rfl <| aN 6 127 rfl rfl (zae rfl) rfl <| aN 7 255 rfl rfl (zaa rfl ⟨_, _, _, Tryz.runUnderlying72, rfl, rfl, Tryz.sizeOf70, rfl⟩) rfl <| aV 8 511 rfl rfl (zac rfl) (t0_ (t0_ (t0_ (t0_ (t0_ (t0_ (t0_ (t0_ (t0_ eR))))))))) (zah rfl foc8 rfl Tryz.isAgg70) rfl <| aN 9 1023 rfl rfl (zag rfl) rfl <| aN 10 2047 rfl rfl (zag rfl) rfl <| aN 11 4095 rfl rfl (zae rfl) rfl <| aN 12 8191 rfl rfl (zaa rfl ⟨_, _, _, Tryz.runUnderlying72, rfl, rfl, Tryz.sizeOf70, rfl⟩) rfl <| aV 13 16383 rfl rfl (zac rfl) (t0_ (t0_ (t0_ (t0_ (t0_ (t0_ (t0_ (t0_ (t0_ eR))))))))) (zah rfl foc8 rfl Tryz.isAgg70) rfl <| aN 14 32767 rfl rfl (zag rfl) rfl <| aN 15 65535 rfl rfl (zag rfl) rfl <| aN 16 131071 rfl rfl (zae rfl) rfl ?_
     refine aN 17 262143 rfl rfl (zaa rfl ⟨_, _, _, Tryz.runUnderlying72, rfl, rfl, Tryz.sizeOf70, rfl⟩) rfl <| aV 18 524287 rfl rfl (zac rfl) (t0_ (t0_ (t0_ (t0_ (t0_ (t0_ (t0_ (t0_ (t0_ eR))))))))) (zah rfl foc8 rfl Tryz.isAgg70) rfl <| aN 19 1048575 rfl rfl (zag rfl) rfl <| aN 20 2097151 rfl rfl (zaa rfl ⟨_, _, _, Tryz.runUnderlying91, rfl, rfl, Tryz.sizeOf30, rfl⟩) rfl <| aV 21 4194303 rfl rfl (zac rfl) (t0_ (t0_ (t0_ (t0_ (t0_ (t0_ (t0_ (t0_ (t0_ eR))))))))) (zah rfl foc7 rfl Tryz.isAgg30) rfl ?_
     first | (refine zbo 22 8388607 rfl (by kernel_rfl) rfl (by kernel_rfl) (by kernel_rfl) (zac rfl) (t0_ (t0_ (t0_ (t0_ (t0_ (t0_ (t0_ (t0_ (t0_ eR))))))))) (zan rfl rfl rfl (by first | omega | (simp only [List.length_set]; omega)) foc4 (Reads.sl _ _ _) Tryz.runUnderlying70 Tryz.sizeOf91) rfl (fun _ _ _ _ h => h) ?_) | (refine zbo 22 8388607 rfl (by kernel_rfl) rfl (by kernel_rfl) (by kernel_rfl) (zac rfl) (t0_ (t0_ (t0_ (t0_ (t0_ (t0_ (t0_ (t0_ (t0_ eR))))))))) (zan rfl rfl (Int.toNat_of_nonneg (by first | omega | (simp only [List.length_set]; omega))).symm (by first | omega | (simp only [List.length_set]; omega)) foc4 (Reads.sl _ _ _) Tryz.runUnderlying70 Tryz.sizeOf91) rfl (fun _ _ _ _ h => h) ?_)
     refine aN 23 16777215 rfl rfl (za2 rfl ⟨_, _, _, Tryz.runUnderlying91, rfl, rfl, Tryz.sizeOf30, rfl⟩) rfl <| AJ_op 24 33554431 rfl (by kernel_rfl) rfl (zac rfl) <| zcg (x' := y1) rfl rfl rfl (by first | omega | (simp only [List.length_set]; omega)) foc4 rfl rfl rfl Tryz.sizeOf30 <| ⟨fun h => absurd h (by decide), ?_⟩
     refine AJ_op 25 67108863 rfl (by kernel_rfl) rfl (zac rfl) <| OJ_V (zan rfl rfl rfl (by first | omega | (simp only [List.length_set]; omega)) foc4 (Reads.sl _ _ _) Tryz.runUnderlying70 Tryz.sizeOf91) rfl <| ⟨fun h => absurd h (by decide), ?_⟩
     refine aN 26 134217727 rfl rfl (za2 rfl ⟨_, _, _, Tryz.runUnderlying91, rfl, rfl, Tryz.sizeOf4, rfl⟩) rfl <| AJ_op 27 268435455 rfl (by kernel_rfl) rfl (zac rfl) <| zcg (x' := y2) rfl rfl rfl (by first | omega | (simp only [List.length_set]; omega)) foc4 rfl rfl rfl Tryz.sizeOf4 <| ⟨fun h => absurd h (by decide), ?_⟩
     refine AJ_op 28 536870911 rfl (by kernel_rfl) rfl (zac rfl) <| OJ_V (zan rfl rfl rfl (by first | omega | (simp only [List.length_set]; omega)) foc4 (Reads.sl _ _ _) Tryz.runUnderlying70 Tryz.sizeOf91) rfl <| ⟨fun h => absurd h (by decide), ?_⟩
     refine aN 29 1073741823 rfl rfl (za2 rfl ⟨_, _, _, Tryz.runUnderlying91, rfl, rfl, Tryz.sizeOf30, rfl⟩) rfl <| AJ_op 30 2147483647 rfl (by kernel_rfl) rfl (zac rfl) <| zcg (x' := y3) rfl rfl rfl (by first | omega | (simp only [List.length_set]; omega)) foc4 rfl rfl rfl Tryz.sizeOf30 <| ⟨fun h => absurd h (by decide), ?_⟩
     refine AJ_op 31 4294967295 rfl (by kernel_rfl) rfl (zac rfl) <| OJ_V (zan rfl rfl rfl (by first | omega | (simp only [List.length_set]; omega)) foc4 (Reads.sl _ _ _) Tryz.runUnderlying70 Tryz.sizeOf91) rfl <| ⟨fun h => absurd h (by decide), ?_⟩
     refine aN 32 8589934591 rfl rfl (za2 rfl ⟨_, _, _, Tryz.runUnderlying91, rfl, rfl, Tryz.sizeOf4, rfl⟩) rfl <| AJ_op 33 17179869183 rfl (by kernel_rfl) rfl (zac rfl) <| zcg (x' := y4) rfl rfl rfl (by first | omega | (simp only [List.length_set]; omega)) foc4 rfl rfl rfl Tryz.sizeOf4 <| ⟨fun h => absurd h (by decide), ?_⟩
     refine aD <| zaf ?_
     let y5 : RD × Dv := ((l4.getD k tyDv.dflt).1, { (l4.getD k tyDv.dflt).2 with susp := false })
     let l5 := l4.set k y5
     let y6 : RD × Dv := ({ (l5.getD k tyDv.dflt).1 with wt := s3z }, { (l5.getD k tyDv.dflt).2 with wait := [] })
     let l6 := l5.set k y6
     refine za0 45056 (by kernel_rfl) rfl <| aN 0 1 rfl rfl (zag rfl) rfl <| aN 1 3 rfl rfl (zae rfl) rfl <| aN 2 7 rfl rfl (zaa rfl ⟨_, _, _, Tryz.runUnderlying72, rfl, rfl, Tryz.sizeOf70, rfl⟩) rfl <| aV 3 15 rfl rfl (zac rfl) (t0_ (t0_ (t0_ (t0_ (t0_ (t0_ (t0_ (t0_ (t0_ eR))))))))) (zah rfl foc8 rfl Tryz.isAgg70) rfl <| aN 4 31 rfl rfl (zag rfl) rfl <| aN 5 63 rfl rfl (zag rfl) rfl <| aN 6 127 rfl rfl (zae rfl) rfl <| aN 7 255 rfl rfl (zaa rfl ⟨_, _, _, Tryz.runUnderlying72, rfl, rfl, Tryz.sizeOf70, rfl⟩) rfl <| aV 8 511 rfl rfl (zac rfl) (t0_ (t0_ (t0_ (t0_ (t0_ (t0_ (t0_ (t0_ (t0_ eR))))))))) (zah rfl foc8 rfl Tryz.isAgg70) rfl <| aN 9 1023 rfl rfl (zag rfl) rfl <| aV 10 2047 rfl rfl (zac rfl) (t0_ (t0_ (t0_ (t0_ (t0_ (t0_ (t0_ (t0_ (t0_ eR))))))))) (zan rfl rfl rfl (by first | omega | (simp only [List.length_set]; omega)) foc4 (Reads.sl _ _ _) Tryz.runUnderlying70 Tryz.sizeOf91) rfl <| aN 11 4095 rfl rfl (za2 rfl ⟨_, _, _, Tryz.runUnderlying91, rfl, rfl, Tryz.sizeOf4, rfl⟩) rfl ?_
     refine AJ_op 12 8191 rfl (by kernel_rfl) rfl (zac rfl) <| zcg (x' := y5) rfl rfl rfl (by first | omega | (simp only [List.length_set]; omega)) foc4 rfl rfl rfl Tryz.sizeOf4 <| ⟨fun h => absurd h (by decide), ?_⟩
     refine AJ_op 13 16383 rfl (by kernel_rfl) rfl (zac rfl) <| OJ_V (zan rfl rfl rfl (by first | omega | (simp only [List.length_set]; omega)) foc4 (Reads.sl _ _ _) Tryz.runUnderlying70 Tryz.sizeOf91) rfl <| ⟨fun h => absurd h (by decide), ?_⟩
     refine aN 14 32767 rfl rfl (za2 rfl ⟨_, _, _, Tryz.runUnderlying91, rfl, rfl, Tryz.sizeOf89, rfl⟩) rfl <| AJ_op 15 65535 rfl (by kernel_rfl) rfl (zac rfl) <| zcg (x' := y6) rfl rfl rfl (by first | omega | (simp only [List.length_set]; omega)) foc4 rfl rfl rfl Tryz.sizeOf89 <| ⟨fun h => absurd h (by decide), ?_⟩
     refine aD <| zaf <| zaf <| zbf (fun h hh => zb2 (t := tyapi_Target) h hh) <| zbf (fun h hh => zb2 (t := tyWt) h hh) ?_
     have he : m.rs0 k = m.set k { m.at k with live := (m.at k).new, hl := true, new := [], hn := false, susp := false, wait := [] } := by unfold Md.rs0 Md.rsX; rw [if_pos (by rw [← hat]; assumption)]
     refine zbf (t0_ (t0_ (t0_ (t0_ (t0_ (t0_ (Ent.takeC del0 (show sl tyDv c.dv.v l6 = sl tyDv c.dv.v (c.l.set k ({ c.hd k with lv := (c.hd k).nw, nw := s3z, wt := s3z }, { m.at k with live := (m.at k).new, hl := true, new := [], hn := false, susp := false, wait := [] })) from congrArg (sl tyDv _) (by simp (config := { zetaDelta := true }) only [stq (show k < c.l.length by omega), hd_at hW, List.set_set])) (t0_ (t0_ (t0_ (t0_ eR))))))))))) <| zbf (Ent.trans (t2_ (t3_ (t1_ (t0_ (t2_ (t2_ (t2_ eR))))))) (zer (h := { c.hd k with lv := (c.hd k).nw, nw := s3z, wt := s3z }) (d := { m.at k with live := (m.at k).new, hl := true, new := [], hn := false, susp := false, wait := [] }) (m' := m.set k { m.at k with live := (m.at k).new, hl := true, new := [], hn := false, susp := false, wait := [] }) hW hkl rfl (he ▸ Md.ok_rs0 hO hk) (hW.big.set hkl rfl (Nat.zero_le _) hW.big.tks hW.big.told hW.big.wr) rfl)) ?_
     rw [← he]
     refine zak <| oA rfl rfl <| nT <| zat <| zbs (X := Nat × RH) [7, 8, 9, 10, 11, 101, 102, 103, 104, 105, 106, 107, 108, 109, 110, 111, 112, 113, 114, 115, 116, 117, 118, 119, 120, 121, 122, 123, 124, 125, 126, 127, 128, 129, 130, 131, 132, 133, 134, 135, 136, 137, 138, 139, 140, 141, 142, 143, 144, 145, 146, 147, 148, 149, 150, 151, 152, 153, 154, 155, 156, 157, 158, 159, 160, 161] (fun ⟨i, c2⟩  => ([(7, .int .i64 (i : Nat))] : Slots)) (fun ⟨i, c2⟩ R => blk b 72 (zbp c2 (m.rsI k i)) :: RefR c2 (m.rsI k i) :: R) (fun ⟨i, c2⟩  => i ≤ (m.at k).wait.length) (fun ⟨i, c2⟩  => (m.at k).wait.length - i) ⟨0, (c.put k { c.hd k with lv := (c.hd k).nw, nw := s3z, wt := s3z } { m.at k with live := (m.at k).new, hl := true, new := [], hn := false, susp := false, wait := [] })⟩ ?_ ?_ (Ent.takeC del4 (by rw [Md.rsI_zero] <;> rfl) (Ent.takeC del0 (by rw [Md.rsI_zero] <;> rfl) (t0_ (t0_ (t0_ eR))))) ?_
     · exact Nat.zero_le _
     · exact ⟨rfl, True.intro⟩
     ·
      rintro ⟨i, c2⟩ hi
      show CJ _ _ _ _ _ (([(7, .int .i64 (i : Nat))] : Slots) ++ forget _ _) (blk b 72 (zbp c2 (m.rsI k i)) :: RefR c2 (m.rsI k i) :: _)
      refine zbl (zcs foc1) fun hW2 => ?_
      have hO2 := hW2.ok
      have hln2 := hW2.big.len
      have hll2 := hW2.len
      have hK := Md.rsI_K hi
      have hKt := hK.told
      have hKw := hK.wr
      have hKs := hK.wsum
      have hK0 := Md.rs0_wsum (m := m) hkl
      have hr0t : (m.rs0 k).told = m.told := rfl
      have hr0w : (m.rs0 k).wr = m.wr := rfl
      rw [hr0t] at hKt
      rw [hr0w] at hKw
      have hwl := m.wait_le k
      refine zaf <| sR <| oM rfl rfl <| oP (zaa rfl ⟨_, _, _, Tryz.runUnderlying91, rfl, rfl, Tryz.sizeOf89, rfl⟩) rfl <| oV (zah rfl foc4 rfl Tryz.isAgg89) rfl <| oV (V_len rfl foc3 (Reads.sl _ _ _) Tryz.runUnderlying89) rfl <| oP (P_lss rfl rfl) rfl <| nT ?_
      first | (refine zao rfl (fun hg9 => ?_) (fun hg9 => ?_)) | (refine zap rfl (fun hg9 => ?_) (fun hg9 => ?_)) | (refine zar rfl (fun hg9 => ?_) (fun hg9 => ?_))
      ·
       refine kT <| zaf <| zat <| zaf ?_
       have hi2 : i < (m.at k).wait.length := by omega
       have hog := Md.org_at hO hkl hi2
       have hgv := Md.rsI_isD hkl hi hog.1
       refine zak <| oP (zaa rfl ⟨_, _, _, Tryz.runUnderlying91, rfl, rfl, Tryz.sizeOf89, rfl⟩) rfl <| oV (zah rfl foc4 rfl Tryz.isAgg89) rfl <| oM rfl rfl ?_
       first | (refine RJ_op rfl (OJ_V (zan rfl rfl rfl (by first | omega | (simp only [List.length_set]; omega)) foc3 (Reads.sl _ _ _) Tryz.runUnderlying89 Tryz.sizeOf94) rfl ?_)) | (refine RJ_op rfl (OJ_V (zan rfl rfl (Int.toNat_of_nonneg (by first | omega | (simp only [List.length_set]; omega))).symm (by first | omega | (simp only [List.length_set]; omega)) foc3 (Reads.sl _ _ _) Tryz.runUnderlying89 Tryz.sizeOf94) rfl ?_))
       refine oV (zcd rfl rfl (by first | omega | (simp only [List.length_set]; omega)) foc3 (Reads.sl _ _ _) rfl rfl Tryz.isAgg94 Tryz.sizeOf94) rfl <| oO <| zb1 Tryz.zeroValue94 rfl rfl fun b6 => oO <| zbn rfl rfl foc0 Tryz.sizeOf94 rfl rfl rfl <| nT <| zaf <| sR <| oM rfl rfl <| oP (zaa rfl ⟨_, _, _, Tryz.runUnderlying94, rfl, rfl, Tryz.sizeOf3, rfl⟩) rfl <| oV (zah rfl foc0 rfl Tryz.isAgg3) rfl <| oP (zaa rfl ⟨_, _, _, Tryz.runUnderlying94, rfl, rfl, Tryz.sizeOf33, rfl⟩) rfl <| oV (zbh rfl foc0 Tryz.isAgg33 Tryz.sizeOf33 rfl rfl) rfl <| oO <| zaq ((zh2 (k := (((m.at k).wait.getD i Wt.z).gv : Int)) (t := ((m.at k).wait.getD i Wt.z).t) hO2 (kq2 hgv.1 hgv.2.1))) rfl Tryz.call40 (Dels.cons del1 (Dels.cons del1 Dels.nil)) rfl fun _ hc7 => oA rfl rfl <| nT <| sR <| oM rfl rfl <| oP (P_geq rfl rfl) rfl <| nT ?_
       first | (refine zao rfl (fun hg10 => ?_) (fun hg10 => ?_)) | (refine zap rfl (fun hg10 => ?_) (fun hg10 => ?_)) | (refine zar rfl (fun hg10 => ?_) (fun hg10 => ?_))
       ·
        refine zaf ?_
        obtain ⟨w, hw, hwi, hwD⟩ := zha hO2 hgv.1 hgv.2.1 (show 0 ≤ (m.rsI k i).wayI ((m.rsI k i).dv.length + 1) (((m.at k).wait.getD i Wt.z).gv : Int) ((m.at k).wait.getD i Wt.z).t by assumption)
        rw [hwi]
        have hwl2 := hwD.1
        have hww := hW2.big.wl w
        have hwle := (m.rsI k i).wait_le w
        refine zbf (Ent.trans (t1_ eR) (zdo hwl2)) <| zen [sl tyDv c2.dv.v c2.l, blk b 72 (zbp c2 (m.rsI k i)), blk b6 94 [.int .i64 (((m.at k).wait.getD i Wt.z).tk : Int), .int .i64 (((m.at k).wait.getD i Wt.z).gv : Int), .int .i64 ((m.at k).wait.getD i Wt.z).t.Kind, .int .i64 ((m.at k).wait.getD i Wt.z).t.At, .int .u64 (((m.at k).wait.getD i Wt.z).t.Value.toNat : Int)]] 327680 (by kernel_rfl) rfl <| aN 0 1 rfl rfl (zag rfl) rfl <| aN 1 3 rfl rfl (zae rfl) rfl <| aN 2 7 rfl rfl (zaa rfl ⟨_, _, _, Tryz.runUnderlying72, rfl, rfl, Tryz.sizeOf70, rfl⟩) rfl <| aV 3 15 rfl rfl (zac rfl) (t4_ (t6_ (t6_ (eD (eD (eD (eD (eD (eD (eD (eD (eD (fun _ _ => trivial))))))))))))) (zah rfl foc1 rfl Tryz.isAgg70) rfl <| aN 4 31 rfl rfl (zag rfl) rfl <| aN 5 63 rfl rfl (zag rfl) rfl <| aN 6 127 rfl rfl (zae rfl) rfl <| aN 7 255 rfl rfl (zaa rfl ⟨_, _, _, Tryz.runUnderlying72, rfl, rfl, Tryz.sizeOf70, rfl⟩) rfl <| aV 8 511 rfl rfl (zac rfl) (t4_ (t6_ (t6_ (eD (eD (eD (eD (eD (eD (eD (eD (eD (fun _ _ => trivial))))))))))))) (zah rfl foc1 rfl Tryz.isAgg70) rfl <| aN 9 1023 rfl rfl (zag rfl) rfl ?_
        first | (refine zbo 10 2047 rfl (by kernel_rfl) rfl (by kernel_rfl) (by kernel_rfl) (zac rfl) (t4_ (t6_ (t6_ (eD (eD (eD (eD (eD (eD (eD (eD (eD (fun _ _ => trivial))))))))))))) (zan rfl rfl rfl (by first | omega | (simp only [List.length_set]; omega)) foc0 (Reads.sl _ _ _) Tryz.runUnderlying70 Tryz.sizeOf91) rfl (fun _ _ _ _ h => h) ?_) | (refine zbo 10 2047 rfl (by kernel_rfl) rfl (by kernel_rfl) (by kernel_rfl) (zac rfl) (t4_ (t6_ (t6_ (eD (eD (eD (eD (eD (eD (eD (eD (eD (fun _ _ => trivial))))))))))))) (zan rfl rfl (Int.toNat_of_nonneg (by first | omega | (simp only [List.length_set]; omega))).symm (by first | omega | (simp only [List.length_set]; omega)) foc0 (Reads.sl _ _ _) Tryz.runUnderlying70 Tryz.sizeOf91) rfl (fun _ _ _ _ h => h) ?_)
        refine aN 11 4095 rfl rfl (za2 rfl ⟨_, _, _, Tryz.runUnderlying91, rfl, rfl, Tryz.sizeOf89, rfl⟩) rfl <| aV 12 8191 rfl rfl (zac rfl) (t4_ (t6_ (t6_ (eD (eD (eD (eD (eD (eD (eD (eD (eD (fun _ _ => trivial))))))))))))) (za3 rfl rfl (by first | omega | (simp only [List.length_set]; omega)) foc0 (Reads.sl _ _ _) rfl rfl Tryz.isAgg89) rfl <| aV 13 16383 rfl rfl (zac rfl) (t4_ (t6_ (t6_ (eD (eD (eD (eD (eD (eD (eD (eD (eD (fun _ _ => trivial))))))))))))) (zbh rfl foc2 Tryz.isAgg94 Tryz.sizeOf94 rfl rfl) rfl <| AJ_op 14 32767 rfl (by kernel_rfl) rfl (zac rfl) <| zbe rfl (ziq _ _ _ _ _) rfl fun b8 => ⟨fun _ => (t5_ (t7_ (t7_ (eD (eD (eD (eD (eD (eD (eD (eD (eD (eD (fun _ _ => trivial)))))))))))))), ?_⟩
        refine AJ_op 15 65535 rfl (by kernel_rfl) rfl (zac rfl) <| zbv (t := tyWt) (bytes := 40) rfl rfl del4 foc0 (Reads.lit (t := tyWt) (ys := [((m.at k).wait.getD i Wt.z)]) rfl rfl (by decide) (by decide) rfl) Tryz.underlying89 zi6 (by have := (m.rsI k i).wait_le w; simp only [List.length_append, List.length_map, List.length_cons, List.length_nil, maxLen] at *; omega) (by have := (m.rsI k i).wait_le w; simp only [List.length_append, List.length_map, List.length_cons, List.length_nil, maxLen] at *; omega) rfl fun p9 c10 => ⟨fun _ => (t5_ (t7_ (t7_ (eD (eD (eD (eD (eD (eD (eD (eD (eD (eD (fun _ _ => trivial)))))))))))))), ?_⟩
        first | (refine AJ_op 16 131071 rfl (by kernel_rfl) rfl (zac rfl) (OJ_V (zan rfl rfl rfl (by first | omega | (simp only [List.length_set]; omega)) foc5 (Reads.sl _ _ _) Tryz.runUnderlying70 Tryz.sizeOf91) rfl ?_)) | (refine AJ_op 16 131071 rfl (by kernel_rfl) rfl (zac rfl) (OJ_V (zan rfl rfl (Int.toNat_of_nonneg (by first | omega | (simp only [List.length_set]; omega))).symm (by first | omega | (simp only [List.length_set]; omega)) foc5 (Reads.sl _ _ _) Tryz.runUnderlying70 Tryz.sizeOf91) rfl ?_))
        refine ⟨fun h => absurd h (by decide), ?_⟩
        refine aN 17 262143 rfl rfl (za2 rfl ⟨_, _, _, Tryz.runUnderlying91, rfl, rfl, Tryz.sizeOf89, rfl⟩) rfl <| AJ_op 18 524287 rfl (by kernel_rfl) rfl (zac rfl) <| zcg (x' := ({ (c2.l.getD w tyDv.dflt).1 with wt := ⟨p9, (((m.rsI k i).at w).wait ++ [((m.at k).wait.getD i Wt.z)]).length, c10⟩ }, { (c2.l.getD w tyDv.dflt).2 with wait := (c2.l.getD w tyDv.dflt).2.wait ++ [((m.at k).wait.getD i Wt.z)] })) rfl rfl rfl (by first | omega | (simp only [List.length_set]; omega)) foc5 rfl rfl rfl Tryz.sizeOf89 <| ⟨fun h => absurd h (by decide), ?_⟩
        refine aD <| zbt <| za6 <| za1 <| zav <| zak <| oM rfl rfl <| oP (P_add rfl rfl (by first | omega | (simp only [List.length_set]; omega))) rfl <| oA rfl rfl <| za9 ?_
        have he2 : m.rsI k (i + 1) = (m.rsI k i).addW w ((m.at k).wait.getD i Wt.z) := by rw [Md.rsI_succ hi2, Md.rsT_way hw]
        refine zbg ⟨i + 1, (c2.put w { c2.hd w with wt := ⟨p9, (((m.rsI k i).at w).wait ++ [((m.at k).wait.getD i Wt.z)]).length, c10⟩ } { (m.rsI k i).at w with wait := ((m.rsI k i).at w).wait ++ [((m.at k).wait.getD i Wt.z)] })⟩ (by show (m.at k).wait.length - (i + 1) < (m.at k).wait.length - i; omega) ?_ (by repeat (first | exact Kp.base | exact Kp.self | refine Kp.cons rfl ?_ | refine Kp.forget rfl ?_)) ?_ (Ent.trans (Ent.trans (t2_ (t2_ (t2_ (t0_ (Ent.takeC del1 (congrArg (sl tyDv _) (by simp only [stq (show w < c2.l.length by omega), hd_at hW2, List.set_set])) (t1_ (t1_ eR))))))) (zer (h := { c2.hd w with wt := ⟨p9, (((m.rsI k i).at w).wait ++ [((m.at k).wait.getD i Wt.z)]).length, c10⟩ }) (d := { (m.rsI k i).at w with wait := ((m.rsI k i).at w).wait ++ [((m.at k).wait.getD i Wt.z)] }) (m' := (m.rsI k i).addW w ((m.at k).wait.getD i Wt.z)) hW2 hwl2 rfl (Md.ok_addW hO2 hwD ⟨hgv.1, hgv.2.1, hgv.2.2, hog.2⟩) (hW2.big.set hwl2 rfl (by show (((m.rsI k i).at w).wait ++ _).length ≤ _; rw [List.length_append]; have := (m.rsI k i).wait_le w; simp; omega) hW2.big.tks hW2.big.told hW2.big.wr) rfl)) (Ent.takeC del2 (by rw [he2] <;> rfl) (Ent.takeC del0 (by rw [he2] <;> rfl) (t2_ (t2_ (t2_ (eD (eD eR))))))))
        · omega
        · exact ⟨rfl, True.intro⟩
       ·
        refine kT <| sR <| oM rfl rfl <| oP (zaa rfl ⟨_, _, _, Tryz.runUnderlying94, rfl, rfl, Tryz.sizeOf3, rfl⟩) rfl <| oV (zah rfl foc2 rfl Tryz.isAgg3) rfl <| oP (zaa rfl ⟨_, _, _, Tryz.runUnderlying94, rfl, rfl, Tryz.sizeOf33, rfl⟩) rfl <| oV (zbh rfl foc2 Tryz.isAgg33 Tryz.sizeOf33 rfl rfl) rfl <| oO <| zaq ((zg9 (k := ((m.at k).wait.getD i Wt.z).gv) (t := ((m.at k).wait.getD i Wt.z).t) hO2 (by omega) ⟨hgv.1, hgv.2.1⟩)) rfl Tryz.call41 (Dels.cons del0 (Dels.cons del0 Dels.nil)) rfl fun c9 h9 => oM rfl rfl <| oP (zaw rfl rfl) rfl <| oP (zaw rfl rfl) rfl <| oA rfl rfl <| oA rfl rfl <| nT ?_
        have hnw := zi7 (show ¬ 0 ≤ (m.rsI k i).wayI ((m.rsI k i).dv.length + 1) (((m.at k).wait.getD i Wt.z).gv : Int) ((m.at k).wait.getD i Wt.z).t by assumption)
        refine zbf (Ent.takeC del0 (congrArg (blk b 72) h9.symm) (t0_ (t0_ (t0_ (t0_ (t0_ eR)))))) <| zbf (Ent.trans (t1_ eR) zoq) ?_
        have hto9 : ((m.rsI k i).carryk ((m.at k).wait.getD i Wt.z).gv ((m.at k).wait.getD i Wt.z).t).2.told = (m.rsI k i).told := (Md.carry_kept _ _ _).told
        have hto8 := congrArg List.length hto9
        refine za0 18432 (by kernel_rfl) rfl <| aN 0 1 rfl rfl (zag rfl) rfl <| aN 1 3 rfl rfl (zag rfl) rfl <| aN 2 7 rfl rfl (zae rfl) rfl <| aN 3 15 rfl rfl (zaa rfl ⟨_, _, _, Tryz.runUnderlying72, rfl, rfl, Tryz.sizeOf54, rfl⟩) rfl <| aV 4 31 rfl rfl (zac rfl) (t0_ (t0_ (t0_ (t0_ (t0_ (t0_ (t0_ eR))))))) (zah rfl foc2 rfl Tryz.isAgg54) rfl <| aN 5 63 rfl rfl (zaa rfl ⟨_, _, _, Tryz.runUnderlying94, rfl, rfl, Tryz.sizeOf3, rfl⟩) rfl <| aV 6 127 rfl rfl (zac rfl) (t0_ (t0_ (t0_ (t0_ (t0_ (t0_ (t0_ eR))))))) (zah rfl foc3 rfl Tryz.isAgg3) rfl <| aN 7 255 rfl rfl (zag rfl) rfl <| aN 8 511 rfl rfl (zag rfl) rfl <| aN 9 1023 rfl rfl (zbm rfl (zgl _ _ _ _)) rfl <| AJ_op 10 2047 rfl (by kernel_rfl) rfl (zac rfl) <| zbe rfl (zir _ _ _ _) rfl fun b12 => ⟨fun _ => (t1_ (t1_ (t1_ (t1_ (t1_ (t1_ (t1_ (eD eR)))))))), ?_⟩
        refine AJ_op 11 4095 rfl (by kernel_rfl) rfl (zac rfl) <| zbv (t := zau) (bytes := 32) rfl rfl del1 foc0 (Reads.lit (t := zau) (ys := [(⟨true, (((m.at k).wait.getD i Wt.z).tk : Int), ((m.rsI k i).carryk ((m.at k).wait.getD i Wt.z).gv ((m.at k).wait.getD i Wt.z).t).1.1, ((m.rsI k i).carryk ((m.at k).wait.getD i Wt.z).gv ((m.at k).wait.getD i Wt.z).t).1.2⟩ : api_Answer)]) rfl rfl (by decide) (by decide) rfl) Tryz.underlying54 zcm (by simp only [List.length_append, List.length_map, List.length_cons, List.length_nil, maxLen] at *; omega) (by simp only [List.length_append, List.length_map, List.length_cons, List.length_nil, maxLen] at *; omega) rfl fun p13 c14 => ⟨fun h => absurd h (by decide), ?_⟩
        refine aN 12 8191 rfl rfl (zae rfl) rfl <| aN 13 16383 rfl rfl (zaa rfl ⟨_, _, _, Tryz.runUnderlying72, rfl, rfl, Tryz.sizeOf54, rfl⟩) rfl <| AJ_op 14 32767 rfl (by kernel_rfl) rfl (zac rfl) <| zbj rfl rfl foc3 rfl rfl Tryz.sizeOf54 <| ⟨fun h => absurd h (by decide), ?_⟩
        refine zcz (by kernel_rfl) <| zal <| zav <| zak <| oM rfl rfl <| oP (P_add rfl rfl (by first | omega | (simp only [List.length_set]; omega))) rfl <| oA rfl rfl <| za9 ?_
        have he2 : m.rsI k (i + 1) = { { ((m.rsI k i).carryk ((m.at k).wait.getD i Wt.z).gv ((m.at k).wait.getD i Wt.z).t).2 with told := [] } with told := (((m.rsI k i).carryk ((m.at k).wait.getD i Wt.z).gv ((m.at k).wait.getD i Wt.z).t).2.told ++ [(⟨true, (((m.at k).wait.getD i Wt.z).tk : Int), ((m.rsI k i).carryk ((m.at k).wait.getD i Wt.z).gv ((m.at k).wait.getD i Wt.z).t).1.1, ((m.rsI k i).carryk ((m.at k).wait.getD i Wt.z).gv ((m.at k).wait.getD i Wt.z).t).1.2⟩ : api_Answer)]) } := by
          rw [Md.rsI_succ hi2, Md.rsT_go hnw]
        have htl9 : (((m.rsI k i).carryk ((m.at k).wait.getD i Wt.z).gv ((m.at k).wait.getD i Wt.z).t).2.told ++ [(⟨true, (((m.at k).wait.getD i Wt.z).tk : Int), ((m.rsI k i).carryk ((m.at k).wait.getD i Wt.z).gv ((m.at k).wait.getD i Wt.z).t).1.1, ((m.rsI k i).carryk ((m.at k).wait.getD i Wt.z).gv ((m.at k).wait.getD i Wt.z).t).1.2⟩ : api_Answer)]).length ≤ 100000000 := by rw [List.length_append, hto9]; simp; omega
        refine zbg ⟨i + 1, { { c9 with tv := s3z } with tv := ⟨p13, (((m.rsI k i).carryk ((m.at k).wait.getD i Wt.z).gv ((m.at k).wait.getD i Wt.z).t).2.told ++ [(⟨true, (((m.at k).wait.getD i Wt.z).tk : Int), ((m.rsI k i).carryk ((m.at k).wait.getD i Wt.z).gv ((m.at k).wait.getD i Wt.z).t).1.1, ((m.rsI k i).carryk ((m.at k).wait.getD i Wt.z).gv ((m.at k).wait.getD i Wt.z).t).1.2⟩ : api_Answer)]).length, c14⟩ }⟩ (by show (m.at k).wait.length - (i + 1) < (m.at k).wait.length - i; omega) ?_ (by repeat (first | exact Kp.base | exact Kp.self | refine Kp.cons rfl ?_ | refine Kp.forget rfl ?_)) ?_ (Ent.trans (Ent.trans (t0_ (t1_ eR)) (zot (tv := ⟨p13, (((m.rsI k i).carryk ((m.at k).wait.getD i Wt.z).gv ((m.at k).wait.getD i Wt.z).t).2.told ++ [(⟨true, (((m.at k).wait.getD i Wt.z).tk : Int), ((m.rsI k i).carryk ((m.at k).wait.getD i Wt.z).gv ((m.at k).wait.getD i Wt.z).t).1.1, ((m.rsI k i).carryk ((m.at k).wait.getD i Wt.z).gv ((m.at k).wait.getD i Wt.z).t).1.2⟩ : api_Answer)]).length, c14⟩) htl9)) (Ent.takeC del2 (by rw [he2] <;> rfl) (Ent.takeC del0 (by rw [he2] <;> rfl) (t2_ (t2_ (t2_ (eD (eD eR))))))))
        · omega
        · exact ⟨rfl, True.intro⟩
      ·
       refine zbt <| za6 <| za7 <| za1 <| zav <| sR <| oA rfl rfl <| nT <| zai <| zam (res1 Tryz.results35 rfl) ?_
       obtain rfl : i = (m.at k).wait.length := by omega
       have e1 := Md.rs_ok hdn hst hft
       rw [e1.2, ← Md.rsI_end]
       refine CSpec.close c2 ?_ ?_ (t0_ (t0_ (eD (eD (eD eR)))))
       · rw [e1.1]
       · trivial
    ·
     refine kT <| zaf <| zbf (Ent.trans (t2_ eR) (zdo hkl)) ?_
     let y1 : RD × Dv := ((c.l.getD k tyDv.dflt).1, { (c.l.getD k tyDv.dflt).2 with susp := false })
     let l1 := c.l.set k y1
     let y2 : RD × Dv := ({ (l1.getD k tyDv.dflt).1 with wt := s3z }, { (l1.getD k tyDv.dflt).2 with wait := [] })
     let l2 := l1.set k y2
     refine za0 45056 (by kernel_rfl) rfl <| aN 0 1 rfl rfl (zag rfl) rfl <| aN 1 3 rfl rfl (zae rfl) rfl <| aN 2 7 rfl rfl (zaa rfl ⟨_, _, _, Tryz.runUnderlying72, rfl, rfl, Tryz.sizeOf70, rfl⟩) rfl <| aV 3 15 rfl rfl (zac rfl) (t0_ (t0_ (t0_ (t0_ (t0_ (t0_ (t0_ (t0_ (t0_ eR))))))))) (zah rfl foc8 rfl Tryz.isAgg70) rfl <| aN 4 31 rfl rfl (zag rfl) rfl <| aN 5 63 rfl rfl (zag rfl) rfl <| aN 6 127 rfl rfl (zae rfl) rfl <| aN 7 255 rfl rfl (zaa rfl ⟨_, _, _, Tryz.runUnderlying72, rfl, rfl, Tryz.sizeOf70, rfl⟩) rfl <| aV 8 511 rfl rfl (zac rfl) (t0_ (t0_ (t0_ (t0_ (t0_ (t0_ (t0_ (t0_ (t0_ eR))))))))) (zah rfl foc8 rfl Tryz.isAgg70) rfl <| aN 9 1023 rfl rfl (zag rfl) rfl <| aV 10 2047 rfl rfl (zac rfl) (t0_ (t0_ (t0_ (t0_ (t0_ (t0_ (t0_ (t0_ (t0_ eR))))))))) (zan rfl rfl rfl (by first | omega | (simp only [List.length_set]; omega)) foc4 (Reads.sl _ _ _) Tryz.runUnderlying70 Tryz.sizeOf91) rfl <| aN 11 4095 rfl rfl (za2 rfl ⟨_, _, _, Tryz.runUnderlying91, rfl, rfl, Tryz.sizeOf4, rfl⟩) rfl ?_
     refine AJ_op 12 8191 rfl (by kernel_rfl) rfl (zac rfl) <| zcg (x' := y1) rfl rfl rfl (by first | omega | (simp only [List.length_set]; omega)) foc4 rfl rfl rfl Tryz.sizeOf4 <| ⟨fun h => absurd h (by decide), ?_⟩
     refine AJ_op 13 16383 rfl (by kernel_rfl) rfl (zac rfl) <| OJ_V (zan rfl rfl rfl (by first | omega | (simp only [List.length_set]; omega)) foc4 (Reads.sl _ _ _) Tryz.runUnderlying70 Tryz.sizeOf91) rfl <| ⟨fun h => absurd h (by decide), ?_⟩
     refine aN 14 32767 rfl rfl (za2 rfl ⟨_, _, _, Tryz.runUnderlying91, rfl, rfl, Tryz.sizeOf89, rfl⟩) rfl <| AJ_op 15 65535 rfl (by kernel_rfl) rfl (zac rfl) <| zcg (x' := y2) rfl rfl rfl (by first | omega | (simp only [List.length_set]; omega)) foc4 rfl rfl rfl Tryz.sizeOf89 <| ⟨fun h => absurd h (by decide), ?_⟩
     refine aD <| zaf <| zaf <| zbf (fun h hh => zb2 (t := tyWt) h hh) ?_
     have he : m.rs0 k = m.set k { m.at k with susp := false, wait := [] } := by unfold Md.rs0 Md.rsX; rw [if_neg (by rw [← hat]; simp_all)]
     refine zbf (t0_ (t0_ (t0_ (t0_ (t0_ (Ent.takeC del0 (show sl tyDv c.dv.v l2 = sl tyDv c.dv.v (c.l.set k ({ c.hd k with wt := s3z }, { m.at k with susp := false, wait := [] })) from congrArg (sl tyDv _) (by simp (config := { zetaDelta := true }) only [stq (show k < c.l.length by omega), hd_at hW, List.set_set])) (t0_ (t0_ (t0_ (t0_ eR)))))))))) <| zbf (Ent.trans (t1_ (t1_ (t1_ (t0_ (t1_ (t1_ (t1_ eR))))))) (zer (h := { c.hd k with wt := s3z }) (d := { m.at k with susp := false, wait := [] }) (m' := m.set k { m.at k with susp := false, wait := [] }) hW hkl rfl (he ▸ Md.ok_rs0 hO hk) (hW.big.set hkl rfl (Nat.zero_le _) hW.big.tks hW.big.told hW.big.wr) rfl)) ?_
     rw [← he]
     refine zak <| oA rfl rfl <| nT <| zat <| zbs (X := Nat × RH) [7, 8, 9, 10, 11, 101, 102, 103, 104, 105, 106, 107, 108, 109, 110, 111, 112, 113, 114, 115, 116, 117, 118, 119, 120, 121, 122, 123, 124, 125, 126, 127, 128, 129, 130, 131, 132, 133, 134, 135, 136, 137, 138, 139, 140, 141, 142, 143, 144, 145, 146, 147, 148, 149, 150, 151, 152, 153, 154, 155, 156, 157, 158, 159, 160, 161] (fun ⟨i, c2⟩  => ([(7, .int .i64 (i : Nat))] : Slots)) (fun ⟨i, c2⟩ R => blk b 72 (zbp c2 (m.rsI k i)) :: RefR c2 (m.rsI k i) :: R) (fun ⟨i, c2⟩  => i ≤ (m.at k).wait.length) (fun ⟨i, c2⟩  => (m.at k).wait.length - i) ⟨0, (c.put k { c.hd k with wt := s3z } { m.at k with susp := false, wait := [] })⟩ ?_ ?_ (Ent.takeC del3 (by rw [Md.rsI_zero] <;> rfl) (Ent.takeC del0 (by rw [Md.rsI_zero] <;> rfl) (t0_ (t0_ eR)))) ?_
     · exact Nat.zero_le _
     · exact ⟨rfl, True.intro⟩
     ·
      rintro ⟨i, c2⟩ hi
      show CJ _ _ _ _ _ (([(7, .int .i64 (i : Nat))] : Slots) ++ forget _ _) (blk b 72 (zbp c2 (m.rsI k i)) :: RefR c2 (m.rsI k i) :: _)
      refine zbl (zcs foc1) fun hW2 => ?_
      have hO2 := hW2.ok
      have hln2 := hW2.big.len
      have hll2 := hW2.len
      have hK := Md.rsI_K hi
      have hKt := hK.told
      have hKw := hK.wr
      have hKs := hK.wsum
      have hK0 := Md.rs0_wsum (m := m) hkl
      have hr0t : (m.rs0 k).told = m.told := rfl
      have hr0w : (m.rs0 k).wr = m.wr := rfl
      rw [hr0t] at hKt
      rw [hr0w] at hKw
      have hwl := m.wait_le k
      refine zaf <| sR <| oM rfl rfl <| oP (zaa rfl ⟨_, _, _, Tryz.runUnderlying91, rfl, rfl, Tryz.sizeOf89, rfl⟩) rfl <| oV (zah rfl foc3 rfl Tryz.isAgg89) rfl <| oV (V_len rfl foc2 (Reads.sl _ _ _) Tryz.runUnderlying89) rfl <| oP (P_lss rfl rfl) rfl <| nT ?_
      first | (refine zao rfl (fun hg11 => ?_) (fun hg11 => ?_)) | (refine zap rfl (fun hg11 => ?_) (fun hg11 => ?_)) | (refine zar rfl (fun hg11 => ?_) (fun hg11 => ?_))
      ·
       refine kT <| zaf <| zat <| zaf ?_
       have hi2 : i < (m.at k).wait.length := by omega
       have hog := Md.org_at hO hkl hi2
       have hgv := Md.rsI_isD hkl hi hog.1
       refine zak <| oP (zaa rfl ⟨_, _, _, Tryz.runUnderlying91, rfl, rfl, Tryz.sizeOf89, rfl⟩) rfl <| oV (zah rfl foc3 rfl Tryz.isAgg89) rfl <| oM rfl rfl ?_
       first | (refine RJ_op rfl (OJ_V (zan rfl rfl rfl (by first | omega | (simp only [List.length_set]; omega)) foc2 (Reads.sl _ _ _) Tryz.runUnderlying89 Tryz.sizeOf94) rfl ?_)) | (refine RJ_op rfl (OJ_V (zan rfl rfl (Int.toNat_of_nonneg (by first | omega | (simp only [List.length_set]; omega))).symm (by first | omega | (simp only [List.length_set]; omega)) foc2 (Reads.sl _ _ _) Tryz.runUnderlying89 Tryz.sizeOf94) rfl ?_))
       refine oV (zcd rfl rfl (by first | omega | (simp only [List.length_set]; omega)) foc2 (Reads.sl _ _ _) rfl rfl Tryz.isAgg94 Tryz.sizeOf94) rfl <| oO <| zb1 Tryz.zeroValue94 rfl rfl fun b15 => oO <| zbn rfl rfl foc0 Tryz.sizeOf94 rfl rfl rfl <| nT <| zaf <| sR <| oM rfl rfl <| oP (zaa rfl ⟨_, _, _, Tryz.runUnderlying94, rfl, rfl, Tryz.sizeOf3, rfl⟩) rfl <| oV (zah rfl foc0 rfl Tryz.isAgg3) rfl <| oP (zaa rfl ⟨_, _, _, Tryz.runUnderlying94, rfl, rfl, Tryz.sizeOf33, rfl⟩) rfl <| oV (zbh rfl foc0 Tryz.isAgg33 Tryz.sizeOf33 rfl rfl) rfl <| oO <| zaq ((zh2 (k := (((m.at k).wait.getD i Wt.z).gv : Int)) (t := ((m.at k).wait.getD i Wt.z).t) hO2 (kq2 hgv.1 hgv.2.1))) rfl Tryz.call40 (Dels.cons del1 (Dels.cons del1 Dels.nil)) rfl fun _ hc16 => oA rfl rfl <| nT <| sR <| oM rfl rfl <| oP (P_geq rfl rfl) rfl <| nT ?_
       first | (refine zao rfl (fun hg12 => ?_) (fun hg12 => ?_)) | (refine zap rfl (fun hg12 => ?_) (fun hg12 => ?_)) | (refine zar rfl (fun hg12 => ?_) (fun hg12 => ?_))
       ·
        refine zaf ?_
        obtain ⟨w, hw, hwi, hwD⟩ := zha hO2 hgv.1 hgv.2.1 (show 0 ≤ (m.rsI k i).wayI ((m.rsI k i).dv.length + 1) (((m.at k).wait.getD i Wt.z).gv : Int) ((m.at k).wait.getD i Wt.z).t by assumption)
        rw [hwi]
        have hwl2 := hwD.1
        have hww := hW2.big.wl w
        have hwle := (m.rsI k i).wait_le w
        refine zbf (Ent.trans (t1_ eR) (zdo hwl2)) <| zen [sl tyDv c2.dv.v c2.l, blk b 72 (zbp c2 (m.rsI k i)), blk b15 94 [.int .i64 (((m.at k).wait.getD i Wt.z).tk : Int), .int .i64 (((m.at k).wait.getD i Wt.z).gv : Int), .int .i64 ((m.at k).wait.getD i Wt.z).t.Kind, .int .i64 ((m.at k).wait.getD i Wt.z).t.At, .int .u64 (((m.at k).wait.getD i Wt.z).t.Value.toNat : Int)]] 327680 (by kernel_rfl) rfl <| aN 0 1 rfl rfl (zag rfl) rfl <| aN 1 3 rfl rfl (zae rfl) rfl <| aN 2 7 rfl rfl (zaa rfl ⟨_, _, _, Tryz.runUnderlying72, rfl, rfl, Tryz.sizeOf70, rfl⟩) rfl <| aV 3 15 rfl rfl (zac rfl) (t4_ (t6_ (t6_ (eD (eD (eD (eD (eD (eD (eD (eD (fun _ _ => trivial)))))))))))) (zah rfl foc1 rfl Tryz.isAgg70) rfl <| aN 4 31 rfl rfl (zag rfl) rfl <| aN 5 63 rfl rfl (zag rfl) rfl <| aN 6 127 rfl rfl (zae rfl) rfl <| aN 7 255 rfl rfl (zaa rfl ⟨_, _, _, Tryz.runUnderlying72, rfl, rfl, Tryz.sizeOf70, rfl⟩) rfl <| aV 8 511 rfl rfl (zac rfl) (t4_ (t6_ (t6_ (eD (eD (eD (eD (eD (eD (eD (eD (fun _ _ => trivial)))))))))))) (zah rfl foc1 rfl Tryz.isAgg70) rfl <| aN 9 1023 rfl rfl (zag rfl) rfl ?_
        first | (refine zbo 10 2047 rfl (by kernel_rfl) rfl (by kernel_rfl) (by kernel_rfl) (zac rfl) (t4_ (t6_ (t6_ (eD (eD (eD (eD (eD (eD (eD (eD (fun _ _ => trivial)))))))))))) (zan rfl rfl rfl (by first | omega | (simp only [List.length_set]; omega)) foc0 (Reads.sl _ _ _) Tryz.runUnderlying70 Tryz.sizeOf91) rfl (fun _ _ _ _ h => h) ?_) | (refine zbo 10 2047 rfl (by kernel_rfl) rfl (by kernel_rfl) (by kernel_rfl) (zac rfl) (t4_ (t6_ (t6_ (eD (eD (eD (eD (eD (eD (eD (eD (fun _ _ => trivial)))))))))))) (zan rfl rfl (Int.toNat_of_nonneg (by first | omega | (simp only [List.length_set]; omega))).symm (by first | omega | (simp only [List.length_set]; omega)) foc0 (Reads.sl _ _ _) Tryz.runUnderlying70 Tryz.sizeOf91) rfl (fun _ _ _ _ h => h) ?_)
        refine aN 11 4095 rfl rfl (za2 rfl ⟨_, _, _, Tryz.runUnderlying91, rfl, rfl, Tryz.sizeOf89, rfl⟩) rfl <| aV 12 8191 rfl rfl (zac rfl) (t4_ (t6_ (t6_ (eD (eD (eD (eD (eD (eD (eD (eD (fun _ _ => trivial)))))))))))) (za3 rfl rfl (by first | omega | (simp only [List.length_set]; omega)) foc0 (Reads.sl _ _ _) rfl rfl Tryz.isAgg89) rfl <| aV 13 16383 rfl rfl (zac rfl) (t4_ (t6_ (t6_ (eD (eD (eD (eD (eD (eD (eD (eD (fun _ _ => trivial)))))))))))) (zbh rfl foc2 Tryz.isAgg94 Tryz.sizeOf94 rfl rfl) rfl <| AJ_op 14 32767 rfl (by kernel_rfl) rfl (zac rfl) <| zbe rfl (ziq _ _ _ _ _) rfl fun b17 => ⟨fun _ => (t5_ (t7_ (t7_ (eD (eD (eD (eD (eD (eD (eD (eD (eD (fun _ _ => trivial))))))))))))), ?_⟩
        refine AJ_op 15 65535 rfl (by kernel_rfl) rfl (zac rfl) <| zbv (t := tyWt) (bytes := 40) rfl rfl del4 foc0 (Reads.lit (t := tyWt) (ys := [((m.at k).wait.getD i Wt.z)]) rfl rfl (by decide) (by decide) rfl) Tryz.underlying89 zi6 (by have := (m.rsI k i).wait_le w; simp only [List.length_append, List.length_map, List.length_cons, List.length_nil, maxLen] at *; omega) (by have := (m.rsI k i).wait_le w; simp only [List.length_append, List.length_map, List.length_cons, List.length_nil, maxLen] at *; omega) rfl fun p18 c19 => ⟨fun _ => (t5_ (t7_ (t7_ (eD (eD (eD (eD (eD (eD (eD (eD (eD (fun _ _ => trivial))))))))))))), ?_⟩
        first | (refine AJ_op 16 131071 rfl (by kernel_rfl) rfl (zac rfl) (OJ_V (zan rfl rfl rfl (by first | omega | (simp only [List.length_set]; omega)) foc5 (Reads.sl _ _ _) Tryz.runUnderlying70 Tryz.sizeOf91) rfl ?_)) | (refine AJ_op 16 131071 rfl (by kernel_rfl) rfl (zac rfl) (OJ_V (zan rfl rfl (Int.toNat_of_nonneg (by first | omega | (simp only [List.length_set]; omega))).symm (by first | omega | (simp only [List.length_set]; omega)) foc5 (Reads.sl _ _ _) Tryz.runUnderlying70 Tryz.sizeOf91) rfl ?_))
        refine ⟨fun h => absurd h (by decide), ?_⟩
        refine aN 17 262143 rfl rfl (za2 rfl ⟨_, _, _, Tryz.runUnderlying91, rfl, rfl, Tryz.sizeOf89, rfl⟩) rfl <| AJ_op 18 524287 rfl (by kernel_rfl) rfl (zac rfl) <| zcg (x' := ({ (c2.l.getD w tyDv.dflt).1 with wt := ⟨p18, (((m.rsI k i).at w).wait ++ [((m.at k).wait.getD i Wt.z)]).length, c19⟩ }, { (c2.l.getD w tyDv.dflt).2 with wait := (c2.l.getD w tyDv.dflt).2.wait ++ [((m.at k).wait.getD i Wt.z)] })) rfl rfl rfl (by first | omega | (simp only [List.length_set]; omega)) foc5 rfl rfl rfl Tryz.sizeOf89 <| ⟨fun h => absurd h (by decide), ?_⟩
        refine aD <| zbt <| za6 <| za1 <| zav <| zak <| oM rfl rfl <| oP (P_add rfl rfl (by first | omega | (simp only [List.length_set]; omega))) rfl <| oA rfl rfl <| za9 ?_
        have he2 : m.rsI k (i + 1) = (m.rsI k i).addW w ((m.at k).wait.getD i Wt.z) := by rw [Md.rsI_succ hi2, Md.rsT_way hw]
        refine zbg ⟨i + 1, (c2.put w { c2.hd w with wt := ⟨p18, (((m.rsI k i).at w).wait ++ [((m.at k).wait.getD i Wt.z)]).length, c19⟩ } { (m.rsI k i).at w with wait := ((m.rsI k i).at w).wait ++ [((m.at k).wait.getD i Wt.z)] })⟩ (by show (m.at k).wait.length - (i + 1) < (m.at k).wait.length - i; omega) ?_ (by repeat (first | exact Kp.base | exact Kp.self | refine Kp.cons rfl ?_ | refine Kp.forget rfl ?_)) ?_ (Ent.trans (Ent.trans (t2_ (t2_ (t2_ (t0_ (Ent.takeC del1 (congrArg (sl tyDv _) (by simp only [stq (show w < c2.l.length by omega), hd_at hW2, List.set_set])) (t1_ (t1_ eR))))))) (zer (h := { c2.hd w with wt := ⟨p18, (((m.rsI k i).at w).wait ++ [((m.at k).wait.getD i Wt.z)]).length, c19⟩ }) (d := { (m.rsI k i).at w with wait := ((m.rsI k i).at w).wait ++ [((m.at k).wait.getD i Wt.z)] }) (m' := (m.rsI k i).addW w ((m.at k).wait.getD i Wt.z)) hW2 hwl2 rfl (Md.ok_addW hO2 hwD ⟨hgv.1, hgv.2.1, hgv.2.2, hog.2⟩) (hW2.big.set hwl2 rfl (by show (((m.rsI k i).at w).wait ++ _).length ≤ _; rw [List.length_append]; have := (m.rsI k i).wait_le w; simp; omega) hW2.big.tks hW2.big.told hW2.big.wr) rfl)) (Ent.takeC del2 (by rw [he2] <;> rfl) (Ent.takeC del0 (by rw [he2] <;> rfl) (t2_ (t2_ (eD (eD eR)))))))
        · omega
        · exact ⟨rfl, True.intro⟩
       ·
        refine kT <| sR <| oM rfl rfl <| oP (zaa rfl ⟨_, _, _, Tryz.runUnderlying94, rfl, rfl, Tryz.sizeOf3, rfl⟩) rfl <| oV (zah rfl foc2 rfl Tryz.isAgg3) rfl <| oP (zaa rfl ⟨_, _, _, Tryz.runUnderlying94, rfl, rfl, Tryz.sizeOf33, rfl⟩) rfl <| oV (zbh rfl foc2 Tryz.isAgg33 Tryz.sizeOf33 rfl rfl) rfl <| oO <| zaq ((zg9 (k := ((m.at k).wait.getD i Wt.z).gv) (t := ((m.at k).wait.getD i Wt.z).t) hO2 (by omega) ⟨hgv.1, hgv.2.1⟩)) rfl Tryz.call41 (Dels.cons del0 (Dels.cons del0 Dels.nil)) rfl fun c9 h9 => oM rfl rfl <| oP (zaw rfl rfl) rfl <| oP (zaw rfl rfl) rfl <| oA rfl rfl <| oA rfl rfl <| nT ?_
        have hnw := zi7 (show ¬ 0 ≤ (m.rsI k i).wayI ((m.rsI k i).dv.length + 1) (((m.at k).wait.getD i Wt.z).gv : Int) ((m.at k).wait.getD i Wt.z).t by assumption)
        refine zbf (Ent.takeC del0 (congrArg (blk b 72) h9.symm) (t0_ (t0_ (t0_ (t0_ eR))))) <| zbf (Ent.trans (t1_ eR) zoq) ?_
        have hto9 : ((m.rsI k i).carryk ((m.at k).wait.getD i Wt.z).gv ((m.at k).wait.getD i Wt.z).t).2.told = (m.rsI k i).told := (Md.carry_kept _ _ _).told
        have hto8 := congrArg List.length hto9
        refine za0 18432 (by kernel_rfl) rfl <| aN 0 1 rfl rfl (zag rfl) rfl <| aN 1 3 rfl rfl (zag rfl) rfl <| aN 2 7 rfl rfl (zae rfl) rfl <| aN 3 15 rfl rfl (zaa rfl ⟨_, _, _, Tryz.runUnderlying72, rfl, rfl, Tryz.sizeOf54, rfl⟩) rfl <| aV 4 31 rfl rfl (zac rfl) (t0_ (t0_ (t0_ (t0_ (t0_ (t0_ eR)))))) (zah rfl foc2 rfl Tryz.isAgg54) rfl <| aN 5 63 rfl rfl (zaa rfl ⟨_, _, _, Tryz.runUnderlying94, rfl, rfl, Tryz.sizeOf3, rfl⟩) rfl <| aV 6 127 rfl rfl (zac rfl) (t0_ (t0_ (t0_ (t0_ (t0_ (t0_ eR)))))) (zah rfl foc3 rfl Tryz.isAgg3) rfl <| aN 7 255 rfl rfl (zag rfl) rfl <| aN 8 511 rfl rfl (zag rfl) rfl <| aN 9 1023 rfl rfl (zbm rfl (zgl _ _ _ _)) rfl <| AJ_op 10 2047 rfl (by kernel_rfl) rfl (zac rfl) <| zbe rfl (zir _ _ _ _) rfl fun b21 => ⟨fun _ => (t1_ (t1_ (t1_ (t1_ (t1_ (t1_ (eD eR))))))), ?_⟩
        refine AJ_op 11 4095 rfl (by kernel_rfl) rfl (zac rfl) <| zbv (t := zau) (bytes := 32) rfl rfl del1 foc0 (Reads.lit (t := zau) (ys := [(⟨true, (((m.at k).wait.getD i Wt.z).tk : Int), ((m.rsI k i).carryk ((m.at k).wait.getD i Wt.z).gv ((m.at k).wait.getD i Wt.z).t).1.1, ((m.rsI k i).carryk ((m.at k).wait.getD i Wt.z).gv ((m.at k).wait.getD i Wt.z).t).1.2⟩ : api_Answer)]) rfl rfl (by decide) (by decide) rfl) Tryz.underlying54 zcm (by simp only [List.length_append, List.length_map, List.length_cons, List.length_nil, maxLen] at *; omega) (by simp only [List.length_append, List.length_map, List.length_cons, List.length_nil, maxLen] at *; omega) rfl fun p22 c23 => ⟨fun h => absurd h (by decide), ?_⟩
        refine aN 12 8191 rfl rfl (zae rfl) rfl <| aN 13 16383 rfl rfl (zaa rfl ⟨_, _, _, Tryz.runUnderlying72, rfl, rfl, Tryz.sizeOf54, rfl⟩) rfl <| AJ_op 14 32767 rfl (by kernel_rfl) rfl (zac rfl) <| zbj rfl rfl foc3 rfl rfl Tryz.sizeOf54 <| ⟨fun h => absurd h (by decide), ?_⟩
        refine zcz (by kernel_rfl) <| zal <| zav <| zak <| oM rfl rfl <| oP (P_add rfl rfl (by first | omega | (simp only [List.length_set]; omega))) rfl <| oA rfl rfl <| za9 ?_
        have he2 : m.rsI k (i + 1) = { { ((m.rsI k i).carryk ((m.at k).wait.getD i Wt.z).gv ((m.at k).wait.getD i Wt.z).t).2 with told := [] } with told := (((m.rsI k i).carryk ((m.at k).wait.getD i Wt.z).gv ((m.at k).wait.getD i Wt.z).t).2.told ++ [(⟨true, (((m.at k).wait.getD i Wt.z).tk : Int), ((m.rsI k i).carryk ((m.at k).wait.getD i Wt.z).gv ((m.at k).wait.getD i Wt.z).t).1.1, ((m.rsI k i).carryk ((m.at k).wait.getD i Wt.z).gv ((m.at k).wait.getD i Wt.z).t).1.2⟩ : api_Answer)]) } := by
          rw [Md.rsI_succ hi2, Md.rsT_go hnw]
        have htl9 : (((m.rsI k i).carryk ((m.at k).wait.getD i Wt.z).gv ((m.at k).wait.getD i Wt.z).t).2.told ++ [(⟨true, (((m.at k).wait.getD i Wt.z).tk : Int), ((m.rsI k i).carryk ((m.at k).wait.getD i Wt.z).gv ((m.at k).wait.getD i Wt.z).t).1.1, ((m.rsI k i).carryk ((m.at k).wait.getD i Wt.z).gv ((m.at k).wait.getD i Wt.z).t).1.2⟩ : api_Answer)]).length ≤ 100000000 := by rw [List.length_append, hto9]; simp; omega
        refine zbg ⟨i + 1, { { c9 with tv := s3z } with tv := ⟨p22, (((m.rsI k i).carryk ((m.at k).wait.getD i Wt.z).gv ((m.at k).wait.getD i Wt.z).t).2.told ++ [(⟨true, (((m.at k).wait.getD i Wt.z).tk : Int), ((m.rsI k i).carryk ((m.at k).wait.getD i Wt.z).gv ((m.at k).wait.getD i Wt.z).t).1.1, ((m.rsI k i).carryk ((m.at k).wait.getD i Wt.z).gv ((m.at k).wait.getD i Wt.z).t).1.2⟩ : api_Answer)]).length, c23⟩ }⟩ (by show (m.at k).wait.length - (i + 1) < (m.at k).wait.length - i; omega) ?_ (by repeat (first | exact Kp.base | exact Kp.self | refine Kp.cons rfl ?_ | refine Kp.forget rfl ?_)) ?_ (Ent.trans (Ent.trans (t0_ (t1_ eR)) (zot (tv := ⟨p22, (((m.rsI k i).carryk ((m.at k).wait.getD i Wt.z).gv ((m.at k).wait.getD i Wt.z).t).2.told ++ [(⟨true, (((m.at k).wait.getD i Wt.z).tk : Int), ((m.rsI k i).carryk ((m.at k).wait.getD i Wt.z).gv ((m.at k).wait.getD i Wt.z).t).1.1, ((m.rsI k i).carryk ((m.at k).wait.getD i Wt.z).gv ((m.at k).wait.getD i Wt.z).t).1.2⟩ : api_Answer)]).length, c23⟩) htl9)) (Ent.takeC del2 (by rw [he2] <;> rfl) (Ent.takeC del0 (by rw [he2] <;> rfl) (t2_ (t2_ (eD (eD eR)))))))
        · omega
        · exact ⟨rfl, True.intro⟩
      ·
       refine zbt <| za6 <| za7 <| za1 <| zav <| sR <| oA rfl rfl <| nT <| zai <| zam (res1 Tryz.results35 rfl) ?_
       obtain rfl : i = (m.at k).wait.length := by omega
       have e1 := Md.rs_ok hdn hst hft
       rw [e1.2, ← Md.rsI_end]
       refine CSpec.close c2 ?_ ?_ (t0_ (t0_ (eD (eD eR))))
       · rw [e1.1]
       · trivial
end Go.Proofs
set_option linter.unusedSimpArgs false
set_option maxRecDepth 20000
namespace Go.Proofs
open Go.VG
namespace Md
end Md
end Go.Proofs
namespace Go.Proofs
namespace Md
end Md
namespace Md
end Md
end Go.Proofs
set_option linter.unusedSimpArgs false
set_option maxRecDepth 20000
namespace Go.Proofs
open Go.VG
end Go.Proofs
set_option linter.unusedSimpArgs false
set_option maxRecDepth 20000
namespace Go.Proofs
open Go.VG
end Go.Proofs
set_option linter.unusedSimpArgs false
set_option maxRecDepth 20000
namespace Go.Proofs
open Go.VG
end Go.Proofs
set_option linter.unusedSimpArgs false
set_option maxRecDepth 20000
namespace Go.Proofs
open Go.VG
theorem zi8 (v0 : (Option Addr)) (v1 : Int) (v2 : Int) (v3 : Int) : ∀ w, (Instr.build 161 (#[(0, .pointer v0), (1, .int .i64 v1), (2, .int .i64 v2), (3, .int .i64 v3)] : Array (Nat × Value))).run Tryz.prog w = .ok (.agg #[.pointer v0, .int .i64 v1, .int .i64 v2, .int .i64 v3]) w := fun w => by kernel_rfl
theorem znh (v0 : TypeId) (v1 : Value) : zby Tryz.prog 73 1 [(0, .iface v0 v1)] 39 [.iface v0 v1] := fun w => by kernel_rfl
abbrev SpC (a z0 z1 : Nat) (x : Nat × Nat) : HP := blkR x.1 161 [ptr a 0, .int .i64 (x.2 : Int), .int .i64 0, .int .i64 ((if x.2 = 0 then z0 else z1 : Nat) : Int)]
abbrev spI (x : Nat × Nat) : IfH := ⟨159, ptr x.1 0⟩
theorem two_of {ps : List (Nat × Nat)} (hl : ps.length = 2) (h : ∀ j, j < 2 → (ps.getD j (0, 0)).2 = j) : ∃ p q, ps = [(p, 0), (q, 1)] := by
  match ps, hl with
  | [(p, x), (q, y)], _ =>
    have h0 : x = 0 := h 0 (by decide)
    have h1 : y = 1 := h 1 (by decide)
    subst h0; subst h1; exact ⟨p, q, rfl⟩
theorem zww {f : Nat × Nat → HP} {x y : Nat × Nat} {R : List HP} : Ent (Go.VG.Own f [x, y] :: R) (f x :: f y :: R) := fun _ hh => stars_star.1 hh
theorem zwx {f : Nat × Nat → HP} {x : Nat × Nat} {l : List (Nat × Nat)} {R : List HP} : Ent (f x :: Go.VG.Own f l :: R) (Go.VG.Own f (l ++ [x]) :: R) := zlz f x
theorem zwy {ps : List (Nat × Nat)} {i p : Nat} (hl : ps.length = i) (h : ∀ j, j < i → (ps.getD j (0, 0)).2 = j) : ∀ j, j < i + 1 → ((ps ++ [(p, i)]).getD j (0, 0)).2 = j := fun j hj => by
  rcases Nat.lt_or_ge j i with h1 | h1
  · have := h j h1
    simpa [List.getD, List.getElem?_append_left (show j < ps.length by omega)] using this
  · obtain rfl : j = i := by omega
    subst hl; simp [List.getD]
theorem c_Span {W : World} {a d z : Nat} {s : ArrS} (hz : 1 ≤ z ∧ z ≤ 65536) (hs : sizeI s (d : Int) = (z : Int)) (_hW : s.writes ≤ 1000000000) :
    CSpec Tryz.prog W 52 [ptr a 0, .int .i64 (d : Int), .int .i64 0, .int .i64 (z : Int)] [Arr a s] (fun p : Nat => .tuple #[.iface 159 (ptr p 0), .int .i64 0]) (fun _ => True) (fun p F => blkR p 161 [ptr a 0, .int .i64 (d : Int), .int .i64 0, .int .i64 (z : Int)] :: Arr a s :: F) := by
 refine CSpec.of_body Tryz.func52 rfl Tryz.ntmps52 rfl fun F => ?_
 show CJ _ _ _ _ _ _ (_ :: F)
 refine sR <| oA rfl rfl <| oA rfl rfl <| nT <| zaf <| sR <| oM rfl rfl <| oP (P_lss rfl rfl) rfl <| oM rfl rfl ?_
 first | (refine zba 12 rfl (fun hg1B hg1 => ?_) (fun hg1B hg1 => ?_)) | (refine zbb 12 rfl (fun hg1B hg1 => ?_) (fun hg1B hg1 => ?_)) | (refine zbi 12 rfl (fun hg1B => ?_) (fun hg1B => ?_))
 ·
  refine RJ_gn (GY_no rfl rfl rfl hg1B) rfl rfl <| RJ_gn (GY_no rfl rfl rfl hg1B) rfl rfl <| RJ_gn (GY_no rfl rfl rfl hg1B) rfl rfl <| RJ_gn (GY_no rfl rfl rfl hg1B) rfl rfl <| RJ_gn (GY_no rfl rfl rfl hg1B) rfl rfl <| RJ_gn (GY_no rfl rfl rfl hg1B) rfl rfl <| RJ_gn (GY_no rfl rfl rfl hg1B) rfl rfl <| oP (zas rfl hg1B rfl) rfl <| nT <| za4 rfl rfl <| sR <| oA rfl rfl <| oA rfl rfl <| nT <| zai <| zad ?_
  exfalso; simp_all; try omega
 ·
  refine gP (zab rfl rfl rfl hg1B) (zag rfl) rfl <| gP (zab rfl rfl rfl hg1B) (zag rfl) rfl <| RJ_gy (zab rfl rfl rfl hg1B) <| zaq (znv) rfl Tryz.call53 (Dels.cons del0 Dels.nil) rfl fun _ hc1 => gP (zab rfl rfl rfl hg1B) (zag rfl) rfl <| gP (zab rfl rfl rfl hg1B) (zag rfl) rfl <| RJ_gy (zab rfl rfl rfl hg1B) <| zaq (zgu (zum (by omega) (by omega))) rfl Tryz.call92 Dels.nil rfl fun _ hc2 => gP (zab rfl rfl rfl hg1B) (P_not rfl) rfl <| oP (zay rfl hg1B rfl) rfl <| nT ?_
  first | (refine za5 rfl (decide_eq_false (by simp)) ?_) | (refine za5 rfl (by simp) ?_)
  refine kT <| sR <| oM rfl rfl <| oM rfl rfl <| oM rfl rfl <| oM rfl rfl <| oP (zbm rfl (zi8 _ _ _ _)) rfl <| oO <| O_box rfl rfl rfl fun b3 => oP (zll rfl Tryz.runUnderlying159 (by intro ms h; cases h)) rfl <| oA rfl rfl <| oA rfl rfl <| nT <| zai <| zt4 del0 <| zam (res2 Tryz.results52 rfl rfl) <| CSpec.close b3 ?_ ?_ (t0_ (t0_ eR))
  · rfl
  · trivial
theorem zp1 {W : World} {a z0 z1 : Nat} {s : ArrS} (h0 : 1 ≤ z0 ∧ z0 ≤ 65536) (h1 : 1 ≤ z1 ∧ z1 ≤ 65536) (hl : s.drv.length = 2) (hs0 : sizeI s 0 = (z0 : Int)) (hs1 : sizeI s 1 = (z1 : Int)) (hW : s.writes ≤ 1000000000) :
    CSpec Tryz.prog W 19 [ptr a 0] [Arr a s] (fun x : Sl3 × Nat × Nat => x.1.v) (fun _ => True) (fun x F => sl tyDev x.1.v [spI (x.2.1, 0), spI (x.2.2, 1)] :: SpC a z0 z1 (x.2.1, 0) :: SpC a z0 z1 (x.2.2, 1) :: Arr a s :: F) := by
 refine CSpec.of_body Tryz.func19 rfl Tryz.ntmps19 rfl fun F => ?_
 show CJ _ _ _ _ _ _ (_ :: F)
 refine sR <| oA rfl rfl <| nT <| sR <| oA rfl rfl <| nT <| zaf <| sR <| oA rfl rfl <| nT <| zat <| zbf (fun h hh => zb2 (t := tyDev) h hh) <| zbf (zns (SpC a z0 z1)) <| zbs (X := Nat × Sl3 × List (Nat × Nat)) [2, 3, 4, 5, 6, 7, 8, 9, 10, 11, 12, 13, 14, 15, 16, 17, 18, 19, 20, 21, 22, 23, 24, 25, 26, 27, 28, 29, 30, 31] (fun ⟨i, rv, ps⟩  => ([(4, .int .i64 (i : Nat)), (3, rv.v)] : Slots)) (fun ⟨i, rv, ps⟩ R => sl tyDev rv.v (ps.map spI) :: Go.VG.Own (SpC a z0 z1) ps :: R) (fun ⟨i, rv, ps⟩  => i ≤ 2 ∧ ps.length = i ∧ ∀ j, j < i → (ps.getD j (0, 0)).2 = j) (fun ⟨i, rv, ps⟩  => 2 - i) ⟨0, ⟨none, 0, 0⟩, []⟩ ?_ ?_ (t1_ (t0_ (t0_ eR))) ?_
 · exact ⟨by omega, rfl, fun j h => by omega⟩
 · exact ⟨rfl, rfl, True.intro⟩
 ·
  rintro ⟨i, rv, ps⟩ ⟨hi, hpl, hps⟩
  show CJ _ _ _ _ _ (([(4, .int .i64 (i : Nat)), (3, rv.v)] : Slots) ++ forget _ _) (sl tyDev rv.v (ps.map spI) :: Go.VG.Own (SpC a z0 z1) ps :: _)
  have hpm : (ps.map spI).length = ps.length := by simp
  refine zaf <| sR <| oM rfl rfl <| oM rfl rfl <| oO <| zaq (zt9) rfl Tryz.call51 (Dels.cons del2 Dels.nil) rfl fun _ hc1 => oP (P_lss rfl rfl) rfl <| nT ?_
  first | (refine zao rfl (fun hg1 => ?_) (fun hg1 => ?_)) | (refine zap rfl (fun hg1 => ?_) (fun hg1 => ?_)) | (refine zar rfl (fun hg1 => ?_) (fun hg1 => ?_))
  ·
   refine kT <| zaf <| zat <| zaf ?_
   have hsz : sizeI s ((i : Nat) : Int) = ((if i = 0 then z0 else z1 : Nat) : Int) := by
     rcases (by omega : i = 0 ∨ i = 1) with rfl | rfl
     · rw [if_pos rfl]; exact hs0
     · rw [if_neg (by decide)]; exact hs1
   refine zak <| oM rfl rfl <| oM rfl rfl <| oM rfl rfl <| oM rfl rfl <| oO <| zaq (znv) rfl Tryz.call53 (Dels.cons del0 Dels.nil) rfl fun _ hc2 => ?_
   rw [hsz]
   refine oO <| zaq ((c_Span (d := i) (z := if i = 0 then z0 else z1) (by split <;> assumption) hsz hW)) rfl Tryz.call52 (Dels.cons del0 Dels.nil) rfl fun p9 hc4 => oM rfl rfl <| oP (zaw rfl rfl) rfl <| oP (zaw rfl rfl) rfl <| oA rfl rfl <| oA rfl rfl <| nT <| zaf <| sR <| oM rfl rfl <| oP (P_neq rfl rfl) rfl <| oM rfl rfl ?_
   first | (refine zba 24 rfl (fun hg2B hg2 => ?_) (fun hg2B hg2 => ?_)) | (refine zbb 24 rfl (fun hg2B hg2 => ?_) (fun hg2B hg2 => ?_)) | (refine zbi 24 rfl (fun hg2B => ?_) (fun hg2B => ?_))
   ·
    refine RJ_gn (GY_no rfl rfl rfl hg2B) rfl rfl <| RJ_gn (GY_no rfl rfl rfl hg2B) rfl rfl <| oP (zas rfl hg2B rfl) rfl <| nT <| za4 rfl rfl <| sR <| oA rfl rfl <| nT <| zai <| zad <| zaj <| zad <| zbd <| zaj <| zad ?_
    exfalso; simp_all
   ·
    refine gP (zab rfl rfl rfl hg2B) (zag rfl) rfl <| gP (zab rfl rfl rfl hg2B) (zpa rfl rfl Tryz.underlying39) rfl <| oP (zay rfl hg2B rfl) rfl <| nT <| za5 rfl rfl <| kT <| zak <| oM rfl rfl <| oM rfl rfl <| oO <| zbe rfl (znh _ _) rfl fun b5 => oO <| zbv (t := tyDev) (bytes := 16) rfl rfl del3 foc0 (Reads.lit (t := tyDev) (ys := [spI (p9, i)]) rfl rfl (by decide) (by decide) rfl) Tryz.underlying73 zuc (by simp only [List.length_append, List.length_cons, List.length_nil, maxLen] at *; omega) (by simp only [List.length_append, List.length_cons, List.length_nil, maxLen] at *; omega) rfl fun p6 c7 => oA rfl rfl <| za9 <| zal <| zav <| zak <| oM rfl rfl <| oP (P_add rfl rfl (by omega)) rfl <| oA rfl rfl <| za9 <| zbg ⟨i + 1, ⟨p6, _, c7⟩, ps ++ [(p9, i)]⟩ (by show 2 - (i + 1) < 2 - i; omega) ?_ (by repeat (first | exact Kp.base | exact Kp.self | refine Kp.cons rfl ?_ | refine Kp.forget rfl ?_)) ?_ (Ent.trans (Ent.trans (t2_ (t3_ eR)) (zwx (f := SpC a z0 z1) (x := (p9, i)))) (Ent.takeC del1 (congrArg (sl tyDev _) (by rw [List.map_append]; rfl)) (t0_ (t1_ (eD eR)))))
    · exact ⟨by omega, by simp [hpl], zwy hpl hps⟩
    · exact ⟨rfl, rfl, True.intro⟩
  ·
   refine zbt <| za6 <| za7 <| za1 <| zav <| sR <| oM rfl rfl <| oA rfl rfl <| nT <| zai ?_
   obtain rfl : i = 2 := by omega
   obtain ⟨p7, q7, rfl⟩ := two_of hpl hps
   refine zam (res1 Tryz.results19 rfl) <| CSpec.close ⟨rv, p7, q7⟩ ?_ ?_ (Ent.trans (Ent.trans (t2_ eR) zww) (t3_ (t0_ (t0_ (t0_ eR)))))
   · rfl
   · trivial
end Go.Proofs
set_option linter.unusedSimpArgs false
set_option maxRecDepth 20000
namespace Go.Proofs
open Go.VG
theorem zhi (v0 : (Option Addr)) (v1 : Nat) (v2 : Nat) (v3 : (Option Addr)) (v4 : Nat) (v5 : Nat) : zby Tryz.prog 68 2 [(0, .slice v0 v1 v2), (1, .slice v3 v4 v5)] 67 [.slice v0 v1 v2, .slice v3 v4 v5] := fun w => by kernel_rfl
theorem zjx : ∀ w, (Instr.build 72 (#[] : Array (Nat × Value))).run Tryz.prog w = .ok (.agg #[.slice none 0 0, .int .i64 0, .slice none 0 0]) w := fun w => by kernel_rfl
abbrev nd0 : ByteArray := ByteArray.mk #[100, 105, 115, 107, 48]
abbrev nd1 : ByteArray := ByteArray.mk #[100, 105, 115, 107, 49]
abbrev Mb1 : Md := Md.z.push (bNew nd0 12)
abbrev Mb2 : Md := Mb1.push (bNew nd1 8)
theorem addE0 : Md.z.addE nd0 = 0 := by rfl
theorem addE1 : Mb1.addE nd1 = 0 := by kernel_rfl
abbrev Sb : ArrS := mkS [List.replicate 12 0, List.replicate 8 0]
theorem zni : MdBd Mb2 := ⟨Nat.le_refl _, Nat.le_refl _, Nat.zero_le _, Nat.zero_le _, by decide, by decide⟩
theorem rows2 {v0 v1 : Sl3} {a b : List UInt64} : RowsR (star [sl tyU v0.v a, sl tyU v1.v b]) [a, b] [v0, v1] := ⟨rfl, fun i hi => by
  match i, hi with
  | 0, _ => exact zel (R := [sl tyU v1.v b]) (fun _ hh => stars_star.1 hh)
  | 1, _ => exact zel (R := [sl tyU v0.v a]) (Ent.trans (fun _ hh => stars_star.1 hh) (Ent.take del1 Ent.refl))⟩
theorem zou {W : World} {vl v0 v1 : Sl3} : CSpec Tryz.prog W 17 [vl.v] [sl tyRow vl.v [v0, v1], star [sl tyU v0.v (List.replicate 12 0), sl tyU v1.v (List.replicate 8 0)]] (fun x : Nat => ptr x 0) (fun _ => True) (fun x F => sl tyRow vl.v [v0, v1] :: star [sl tyU v0.v (List.replicate 12 0), sl tyU v1.v (List.replicate 8 0)] :: Arr x Sb :: F) :=
  zic (Reads.sl _ _ _) rows2 (zsz (by decide) (by intro im h; simp only [List.mem_cons, List.not_mem_nil, or_false] at h; rcases h with rfl | rfl <;> simp))
theorem ztt {R : List HP} : Ent R (RefR ⟨s3z, s3z, []⟩ Md.z :: R) := fun g hh => zjp (c := ⟨s3z, s3z, []⟩) ⟨rfl, Md.z_ok, Md.z_big⟩ g (zb2 (t := tyDv) _ (zb2 (t := zau) _ (zns RowC _ hh)))
theorem zhw {b : Nat} {m : Md} {c : RH} {R : List HP} (h : MdBd m) : Ent (blk b 72 (zbp c m) :: RefR c m :: R) (RefP b m :: R) :=
  fun _ hh => stars_ex.2 ⟨c, stars_star.2 (stars_pur.2 ⟨h, hh⟩)⟩
theorem zov {b : Nat} {m : Md} {R : List HP} : EntX (RefP b m :: R) fun c : RH => pur (MdBd m) :: blk b 72 (zbp c m) :: RefR c m :: R :=
  fun _ hh => let ⟨c, hc⟩ := stars_ex.1 hh; ⟨c, stars_star.1 hc⟩
theorem zq6 {W : World}  :
    CSpec Tryz.prog W 7 [] [] (fun x : Nat × Nat => .tuple #[ptr x.1 0, ptr x.2 0]) (fun _ => True) (fun x F => MapP x.1 Mb2 :: RefP x.2 Mb2 :: F) := by
 refine CSpec.of_body Tryz.func7 rfl Tryz.ntmps7 rfl fun F => ?_
 show CJ _ _ _ _ _ _ (F)
 refine sR <| oA rfl rfl <| oA rfl rfl <| nT <| zaf <| za0 15 (by kernel_rfl) rfl <| zgf 0 1 1 2 rfl rfl (by kernel_rfl) rfl rfl (zac rfl) (zac rfl) (zev (t := tyU) (m := 12) (x0 := (0 : UInt64)) (z := _) (bytes := _) rfl rfl rfl rfl Tryz.underlying67 ⟨Tryz.t31, by kernel_rfl, rfl, rfl, rfl⟩ rfl (by decide) (by decide) rfl (fun b1 => ?_)) (zev (t := tyU) (m := 8) (x0 := (0 : UInt64)) (z := _) (bytes := _) rfl rfl rfl rfl Tryz.underlying67 ⟨Tryz.t31, by kernel_rfl, rfl, rfl, rfl⟩ rfl (by decide) (by decide) rfl (fun b2 => ?_))
 ·
  refine ⟨fun h => absurd h (by decide), ?_⟩
  refine AJ_op 1 3 rfl (by kernel_rfl) rfl (zac rfl) <| zev (t := tyU) (m := 8) (x0 := (0 : UInt64)) (z := _) (bytes := _) rfl rfl rfl rfl Tryz.underlying67 ⟨Tryz.t31, by kernel_rfl, rfl, rfl, rfl⟩ rfl (by decide) (by decide) rfl fun b3 => ⟨fun h => absurd h (by decide), ?_⟩
  refine AJ_op 2 7 rfl (by kernel_rfl) rfl (zac rfl) <| zbe rfl (zhi _ _ _ _ _ _) rfl fun b4 => ⟨fun h => absurd h (by decide), ?_⟩
  refine zh7 (Ent.trans (t0_ eR) (zdk (t := tyRow) (m := 2) [⟨some ⟨b1, 0, none⟩, 12, 12⟩, ⟨some ⟨b3, 0, none⟩, 8, 8⟩] rfl rfl rfl (by decide))) <| zh7 (Ent.trans (t2_ (t1_ eR)) (fun h hh => (stars_star.2 hh : stars (star [sl tyU (Sl3.v ⟨some ⟨b1, 0, none⟩, 12, 12⟩) (List.replicate 12 0), sl tyU (Sl3.v ⟨some ⟨b3, 0, none⟩, 8, 8⟩) (List.replicate 8 0)] :: _) h))) <| AJ_op 3 15 rfl (by kernel_rfl) rfl (zac rfl) <| zaq ((zou (vl := ⟨some ⟨b4, 0, none⟩, 2, 2⟩) (v0 := ⟨some ⟨b1, 0, none⟩, 12, 12⟩) (v1 := ⟨some ⟨b3, 0, none⟩, 8, 8⟩))) rfl Tryz.call17 (Dels.cons del1 (Dels.cons del0 Dels.nil)) rfl fun a hc6 => ⟨fun h => absurd h (by decide), ?_⟩
  refine aN 4 31 rfl rfl (zbc rfl) rfl <| aD <| sR <| oO <| zaq (ztl) rfl Tryz.call18 Dels.nil rfl fun nw hc10 => oP (zbm rfl (zjx)) rfl <| oO <| O_box rfl rfl rfl fun b11 => oA rfl rfl <| oA rfl rfl <| nT <| zaf <| sR <| oM rfl rfl <| oP (zd7 rfl rfl Tryz.underlying65) rfl <| oM rfl rfl <| gP (zab rfl rfl rfl rfl) (zag rfl) rfl <| gP (zab rfl rfl rfl rfl) (zd7 rfl rfl Tryz.underlying25) rfl <| oP (zay rfl rfl rfl) rfl <| nT <| za5 rfl rfl <| kT <| sR <| oM rfl rfl <| oO <| zaq ((zp1 (z0 := 12) (z1 := 8) (by decide) (by decide) (by simp) (by rfl) (by rfl) (by decide))) rfl Tryz.call19 (Dels.cons del6 Dels.nil) rfl fun sp hc15 => oA rfl rfl <| nT <| zaf <| zaf <| zbf (Ent.trans (t6_ (t6_ (t3_ eR))) (ztk zph rfl)) <| zbf ztt <| zbf (t0_ (t0_ (t0_ (Ent.takeC del0 (show _ = blkR sp.2.1 161 [ptr a 0, .int .i64 ((0 : Nat) : Int), .int .i64 0, .int .i64 ((12 : Nat) : Int)] from rfl) (Ent.takeC del0 (show _ = blkR sp.2.2 161 [ptr a 0, .int .i64 ((1 : Nat) : Int), .int .i64 0, .int .i64 ((8 : Nat) : Int)] from rfl) (Ent.takeC del0 (show _ = blk b11 72 (zbp ⟨s3z, s3z, []⟩ Md.z) from rfl) (Ent.takeC del0 (show _ = blk nw.1 84 (zax ⟨nw.2.1, nw.2.2, a, s3z, s3z, [], [], [], Sb⟩ Md.z) from rfl) (t0_ (t0_ eR))))))))) <| zak <| oM rfl rfl <| oV (V_len rfl foc2 (Reads.sl _ _ _) Tryz.runUnderlying73) rfl ?_
  refine oP (P_neq rfl rfl) rfl <| oM rfl rfl ?_
  first | (refine zba 24 rfl (fun hg1B hg1 => ?_) (fun hg1B hg1 => ?_)) | (refine zbb 24 rfl (fun hg1B hg1 => ?_) (fun hg1B hg1 => ?_)) | (refine zbi 24 rfl (fun hg1B => ?_) (fun hg1B => ?_))
  ·
   refine RJ_gn (GY_no rfl rfl rfl hg1B) rfl rfl <| RJ_gn (GY_no rfl rfl rfl hg1B) rfl rfl <| RJ_gn (GY_no rfl rfl rfl hg1B) rfl rfl <| RJ_gn (GY_no rfl rfl rfl hg1B) rfl rfl <| RJ_gn (GY_no rfl rfl rfl hg1B) rfl rfl <| RJ_gn (GY_no rfl rfl rfl hg1B) rfl rfl <| oP (zas rfl hg1B rfl) rfl <| oM rfl rfl <| RJ_gn (GY_no rfl rfl rfl rfl) rfl rfl <| RJ_gn (GY_no rfl rfl rfl rfl) rfl rfl <| RJ_gn (GY_no rfl rfl rfl rfl) rfl rfl <| RJ_gn (GY_no rfl rfl rfl rfl) rfl rfl <| RJ_gn (GY_no rfl rfl rfl rfl) rfl rfl <| RJ_gn (GY_no rfl rfl rfl rfl) rfl rfl <| oP (zas rfl rfl rfl) rfl <| oM rfl rfl <| RJ_gn (GY_no rfl rfl rfl rfl) rfl rfl <| RJ_gn (GY_no rfl rfl rfl rfl) rfl rfl <| RJ_gn (GY_no rfl rfl rfl rfl) rfl rfl <| oP (zas rfl rfl rfl) rfl <| oM rfl rfl <| RJ_gn (GY_no rfl rfl rfl rfl) rfl rfl <| RJ_gn (GY_no rfl rfl rfl rfl) rfl rfl <| RJ_gn (GY_no rfl rfl rfl rfl) rfl rfl <| oP (zas rfl rfl rfl) rfl <| nT <| za4 rfl rfl <| sR <| oA rfl rfl <| oA rfl rfl <| nT <| zai <| zad ?_
   exfalso; first | omega | (have z0 := addE0; have z1 := addE1; simp_all)
  ·
   refine gP (zab rfl rfl rfl hg1B) (zag rfl) rfl <| gP (zab rfl rfl rfl hg1B) (zag rfl) rfl ?_
   first | (refine RJ_gy (zab rfl rfl rfl hg1B) (OJ_V (zan rfl rfl rfl (by omega) foc2 (Reads.sl _ _ _) Tryz.runUnderlying73 Tryz.sizeOf39) rfl ?_)) | (refine RJ_gy (zab rfl rfl rfl hg1B) (OJ_V (zan rfl rfl (Int.toNat_of_nonneg (by omega)).symm (by omega) foc2 (Reads.sl _ _ _) Tryz.runUnderlying73 Tryz.sizeOf39) rfl ?_))
   refine gV (zab rfl rfl rfl hg1B) (za3 rfl rfl (by omega) foc2 (Reads.sl _ _ _) rfl rfl Tryz.isAgg39) rfl <| RJ_gy (zab rfl rfl rfl hg1B) <| zaq ((zne (c := ⟨nw.2.1, nw.2.2, a, s3z, s3z, [], [], [], Sb⟩) (m := Md.z) (n := nd0) (p := sp.2.1) (dn := 0) (z := 12) (by decide) addE0 (by decide) (by simp) (by rw [zji]; rfl) (fun i hi => absurd hi.1 (Nat.not_lt_zero _)))) rfl Tryz.call20 (Dels.cons del3 (Dels.cons del5 (Dels.cons del1 Dels.nil))) rfl fun c1 hc1 => ?_
   obtain ⟨ov1, rfl⟩ := hc1
   refine gP (zab rfl rfl rfl hg1B) (P_neq rfl rfl) rfl <| oP (zay rfl hg1B rfl) rfl <| oM rfl rfl ?_
   first | (refine zba 32 rfl (fun hg2B hg2 => ?_) (fun hg2B hg2 => ?_)) | (refine zbb 32 rfl (fun hg2B hg2 => ?_) (fun hg2B hg2 => ?_)) | (refine zbi 32 rfl (fun hg2B => ?_) (fun hg2B => ?_))
   ·
    refine RJ_gn (GY_no rfl rfl rfl hg2B) rfl rfl <| RJ_gn (GY_no rfl rfl rfl hg2B) rfl rfl <| RJ_gn (GY_no rfl rfl rfl hg2B) rfl rfl <| RJ_gn (GY_no rfl rfl rfl hg2B) rfl rfl <| RJ_gn (GY_no rfl rfl rfl hg2B) rfl rfl <| RJ_gn (GY_no rfl rfl rfl hg2B) rfl rfl <| oP (zas rfl hg2B rfl) rfl <| oM rfl rfl <| RJ_gn (GY_no rfl rfl rfl rfl) rfl rfl <| RJ_gn (GY_no rfl rfl rfl rfl) rfl rfl <| RJ_gn (GY_no rfl rfl rfl rfl) rfl rfl <| oP (zas rfl rfl rfl) rfl <| oM rfl rfl <| RJ_gn (GY_no rfl rfl rfl rfl) rfl rfl <| RJ_gn (GY_no rfl rfl rfl rfl) rfl rfl <| RJ_gn (GY_no rfl rfl rfl rfl) rfl rfl <| oP (zas rfl rfl rfl) rfl <| nT <| za4 rfl rfl <| sR <| oA rfl rfl <| oA rfl rfl <| nT <| zai <| zad ?_
    exfalso; first | omega | (have z0 := addE0; have z1 := addE1; simp_all)
   ·
    refine gP (zab rfl rfl rfl hg2B) (zag rfl) rfl <| gP (zab rfl rfl rfl hg2B) (zag rfl) rfl ?_
    first | (refine RJ_gy (zab rfl rfl rfl hg2B) (OJ_V (zan rfl rfl rfl (by omega) foc3 (Reads.sl _ _ _) Tryz.runUnderlying73 Tryz.sizeOf39) rfl ?_)) | (refine RJ_gy (zab rfl rfl rfl hg2B) (OJ_V (zan rfl rfl (Int.toNat_of_nonneg (by omega)).symm (by omega) foc3 (Reads.sl _ _ _) Tryz.runUnderlying73 Tryz.sizeOf39) rfl ?_))
    refine gV (zab rfl rfl rfl hg2B) (za3 rfl rfl (by omega) foc3 (Reads.sl _ _ _) rfl rfl Tryz.isAgg39) rfl <| RJ_gy (zab rfl rfl rfl hg2B) (zaq ((zne (c := (MH.push (⟨nw.2.1, nw.2.2, a, s3z, s3z, [], [], [], Sb⟩ : MH) ov1 (MH.dl (⟨nw.2.1, nw.2.2, a, s3z, s3z, [], [], [], Sb⟩ : MH)) (setM (MH.bl (⟨nw.2.1, nw.2.2, a, s3z, s3z, [], [], [], Sb⟩ : MH)) nd0 sp.2.1) (hBas sp.2.1 0) (bNew nd0 12))) (m := Mb1) (n := nd1) (p := sp.2.2) (dn := 1) (z := 8) (by decide) addE1 (by decide) (by simp) (by rw [zji]; rfl) (fun i hi => by
      have h0 : i = 0 := by have := hi.1; have e : Mb1.dv.length = 1 := rfl; omega
      subst h0; exact (by decide : (0 : Nat) ≠ 1)))) rfl Tryz.call20 (Dels.cons del4 (Dels.cons del0 (Dels.cons del0 Dels.nil))) rfl (fun c2 hc2 => ?_))
    obtain ⟨ov2, rfl⟩ := hc2
    refine gP (zab rfl rfl rfl hg2B) (P_neq rfl rfl) rfl <| oP (zay rfl hg2B rfl) rfl <| oM rfl rfl ?_
    first | (refine zba 40 rfl (fun hg3B hg3 => ?_) (fun hg3B hg3 => ?_)) | (refine zbb 40 rfl (fun hg3B hg3 => ?_) (fun hg3B hg3 => ?_)) | (refine zbi 40 rfl (fun hg3B => ?_) (fun hg3B => ?_))
    ·
     refine RJ_gn (GY_no rfl rfl rfl hg3B) rfl rfl <| RJ_gn (GY_no rfl rfl rfl hg3B) rfl rfl <| RJ_gn (GY_no rfl rfl rfl hg3B) rfl rfl <| oP (zas rfl hg3B rfl) rfl <| oM rfl rfl <| RJ_gn (GY_no rfl rfl rfl rfl) rfl rfl <| RJ_gn (GY_no rfl rfl rfl rfl) rfl rfl <| RJ_gn (GY_no rfl rfl rfl rfl) rfl rfl <| oP (zas rfl rfl rfl) rfl <| nT <| za4 rfl rfl <| sR <| oA rfl rfl <| oA rfl rfl <| nT <| zai <| zad ?_
     exfalso; first | omega | (have z0 := addE0; have z1 := addE1; simp_all)
    ·
     refine gP (zab rfl rfl rfl hg3B) (zag rfl) rfl <| RJ_gy (zab rfl rfl rfl hg3B) <| zaq ((zla (m := Md.z) (n := nd0) (z := 12) (by decide) (by decide))) rfl Tryz.call21 (Dels.cons del4 (Dels.cons del2 Dels.nil)) rfl fun r1 hc18 => ?_
     rw [(zi5 (z := 12) addE0).1]
     refine gP (zab rfl rfl rfl hg3B) (P_neq rfl rfl) rfl <| oP (zay rfl hg3B rfl) rfl <| oM rfl rfl ?_
     first | (refine zba 45 rfl (fun hg4B hg4 => ?_) (fun hg4B hg4 => ?_)) | (refine zbb 45 rfl (fun hg4B hg4 => ?_) (fun hg4B hg4 => ?_)) | (refine zbi 45 rfl (fun hg4B => ?_) (fun hg4B => ?_))
     ·
      refine RJ_gn (GY_no rfl rfl rfl hg4B) rfl rfl <| RJ_gn (GY_no rfl rfl rfl hg4B) rfl rfl <| RJ_gn (GY_no rfl rfl rfl hg4B) rfl rfl <| oP (zas rfl hg4B rfl) rfl <| nT <| za4 rfl rfl <| sR <| oA rfl rfl <| oA rfl rfl <| nT <| zai <| zad ?_
      exfalso; first | omega | (have z0 := addE0; have z1 := addE1; simp_all)
     ·
      refine gP (zab rfl rfl rfl hg4B) (zag rfl) rfl <| RJ_gy (zab rfl rfl rfl hg4B) <| zaq ((zla (m := Mb1) (n := nd1) (z := 8) (by decide) (by decide))) rfl Tryz.call21 (Dels.cons del0 (Dels.cons del0 Dels.nil)) rfl fun r2 hc19 => ?_
      rw [(zi5 (m := Mb1) (z := 8) addE1).1]
      refine gP (zab rfl rfl rfl hg4B) (P_neq rfl rfl) rfl <| oP (zay rfl hg4B rfl) rfl <| nT ?_
      first | (refine zao rfl (fun hg5 => ?_) (fun hg5 => ?_)) | (refine zap rfl (fun hg5 => ?_) (fun hg5 => ?_)) | (refine zar rfl (fun hg5 => ?_) (fun hg5 => ?_))
      ·
       refine sR <| oA rfl rfl <| oA rfl rfl <| nT <| zai <| zad ?_
       exfalso; first | omega | (have z0 := addE0; have z1 := addE1; simp_all)
      ·
       refine kT <| sR <| oM rfl rfl <| oM rfl rfl <| oA rfl rfl <| oA rfl rfl <| nT <| zai <| zam (res2 Tryz.results7 rfl rfl) <| CSpec.close ⟨nw.1, b11⟩ ?_ ?_ (Ent.trans (Ent.trans (t2_ (t2_ eR)) (zgi zni)) (Ent.trans (Ent.trans (t1_ (t1_ eR)) (zhw zni)) (t1_ (t0_ (eD (eD (eD eR)))))))
       · rfl
       · trivial
 ·
  refine ⟨fun h => absurd h (by decide), ?_⟩
  refine AJ_op 0 3 rfl (by kernel_rfl) rfl (zac rfl) <| zev (t := tyU) (m := 12) (x0 := (0 : UInt64)) (z := _) (bytes := _) rfl rfl rfl rfl Tryz.underlying67 ⟨Tryz.t31, by kernel_rfl, rfl, rfl, rfl⟩ rfl (by decide) (by decide) rfl fun b20 => ⟨fun h => absurd h (by decide), ?_⟩
  refine AJ_op 2 7 rfl (by kernel_rfl) rfl (zac rfl) <| zbe rfl (zhi _ _ _ _ _ _) rfl fun b21 => ⟨fun h => absurd h (by decide), ?_⟩
  refine zh7 (Ent.trans (t0_ eR) (zdk (t := tyRow) (m := 2) [⟨some ⟨b20, 0, none⟩, 12, 12⟩, ⟨some ⟨b2, 0, none⟩, 8, 8⟩] rfl rfl rfl (by decide))) <| zh7 (Ent.trans (t1_ (t1_ eR)) (fun h hh => (stars_star.2 hh : stars (star [sl tyU (Sl3.v ⟨some ⟨b20, 0, none⟩, 12, 12⟩) (List.replicate 12 0), sl tyU (Sl3.v ⟨some ⟨b2, 0, none⟩, 8, 8⟩) (List.replicate 8 0)] :: _) h))) <| AJ_op 3 15 rfl (by kernel_rfl) rfl (zac rfl) <| zaq ((zou (vl := ⟨some ⟨b21, 0, none⟩, 2, 2⟩) (v0 := ⟨some ⟨b20, 0, none⟩, 12, 12⟩) (v1 := ⟨some ⟨b2, 0, none⟩, 8, 8⟩))) rfl Tryz.call17 (Dels.cons del1 (Dels.cons del0 Dels.nil)) rfl fun a hc23 => ⟨fun h => absurd h (by decide), ?_⟩
  refine aN 4 31 rfl rfl (zbc rfl) rfl <| aD <| sR <| oO <| zaq (ztl) rfl Tryz.call18 Dels.nil rfl fun nw hc27 => oP (zbm rfl (zjx)) rfl <| oO <| O_box rfl rfl rfl fun b28 => oA rfl rfl <| oA rfl rfl <| nT <| zaf <| sR <| oM rfl rfl <| oP (zd7 rfl rfl Tryz.underlying65) rfl <| oM rfl rfl <| gP (zab rfl rfl rfl rfl) (zag rfl) rfl <| gP (zab rfl rfl rfl rfl) (zd7 rfl rfl Tryz.underlying25) rfl <| oP (zay rfl rfl rfl) rfl <| nT <| za5 rfl rfl <| kT <| sR <| oM rfl rfl <| oO <| zaq ((zp1 (z0 := 12) (z1 := 8) (by decide) (by decide) (by simp) (by rfl) (by rfl) (by decide))) rfl Tryz.call19 (Dels.cons del6 Dels.nil) rfl fun sp hc32 => oA rfl rfl <| nT <| zaf <| zaf <| zbf (Ent.trans (t6_ (t6_ (t3_ eR))) (ztk zph rfl)) <| zbf ztt <| zbf (t0_ (t0_ (t0_ (Ent.takeC del0 (show _ = blkR sp.2.1 161 [ptr a 0, .int .i64 ((0 : Nat) : Int), .int .i64 0, .int .i64 ((12 : Nat) : Int)] from rfl) (Ent.takeC del0 (show _ = blkR sp.2.2 161 [ptr a 0, .int .i64 ((1 : Nat) : Int), .int .i64 0, .int .i64 ((8 : Nat) : Int)] from rfl) (Ent.takeC del0 (show _ = blk b28 72 (zbp ⟨s3z, s3z, []⟩ Md.z) from rfl) (Ent.takeC del0 (show _ = blk nw.1 84 (zax ⟨nw.2.1, nw.2.2, a, s3z, s3z, [], [], [], Sb⟩ Md.z) from rfl) (t0_ (t0_ eR))))))))) <| zak <| oM rfl rfl <| oV (V_len rfl foc2 (Reads.sl _ _ _) Tryz.runUnderlying73) rfl ?_
  refine oP (P_neq rfl rfl) rfl <| oM rfl rfl ?_
  first | (refine zba 24 rfl (fun hg6B hg6 => ?_) (fun hg6B hg6 => ?_)) | (refine zbb 24 rfl (fun hg6B hg6 => ?_) (fun hg6B hg6 => ?_)) | (refine zbi 24 rfl (fun hg6B => ?_) (fun hg6B => ?_))
  ·
   refine RJ_gn (GY_no rfl rfl rfl hg6B) rfl rfl <| RJ_gn (GY_no rfl rfl rfl hg6B) rfl rfl <| RJ_gn (GY_no rfl rfl rfl hg6B) rfl rfl <| RJ_gn (GY_no rfl rfl rfl hg6B) rfl rfl <| RJ_gn (GY_no rfl rfl rfl hg6B) rfl rfl <| RJ_gn (GY_no rfl rfl rfl hg6B) rfl rfl <| oP (zas rfl hg6B rfl) rfl <| oM rfl rfl <| RJ_gn (GY_no rfl rfl rfl rfl) rfl rfl <| RJ_gn (GY_no rfl rfl rfl rfl) rfl rfl <| RJ_gn (GY_no rfl rfl rfl rfl) rfl rfl <| RJ_gn (GY_no rfl rfl rfl rfl) rfl rfl <| RJ_gn (GY_no rfl rfl rfl rfl) rfl rfl <| RJ_gn (GY_no rfl rfl rfl rfl) rfl rfl <| oP (zas rfl rfl rfl) rfl <| oM rfl rfl <| RJ_gn (GY_no rfl rfl rfl rfl) rfl rfl <| RJ_gn (GY_no rfl rfl rfl rfl) rfl rfl <| RJ_gn (GY_no rfl rfl rfl rfl) rfl rfl <| oP (zas rfl rfl rfl) rfl <| oM rfl rfl <| RJ_gn (GY_no rfl rfl rfl rfl) rfl rfl <| RJ_gn (GY_no rfl rfl rfl rfl) rfl rfl <| RJ_gn (GY_no rfl rfl rfl rfl) rfl rfl <| oP (zas rfl rfl rfl) rfl <| nT <| za4 rfl rfl <| sR <| oA rfl rfl <| oA rfl rfl <| nT <| zai <| zad ?_
   exfalso; first | omega | (have z0 := addE0; have z1 := addE1; simp_all)
  ·
   refine gP (zab rfl rfl rfl hg6B) (zag rfl) rfl <| gP (zab rfl rfl rfl hg6B) (zag rfl) rfl ?_
   first | (refine RJ_gy (zab rfl rfl rfl hg6B) (OJ_V (zan rfl rfl rfl (by omega) foc2 (Reads.sl _ _ _) Tryz.runUnderlying73 Tryz.sizeOf39) rfl ?_)) | (refine RJ_gy (zab rfl rfl rfl hg6B) (OJ_V (zan rfl rfl (Int.toNat_of_nonneg (by omega)).symm (by omega) foc2 (Reads.sl _ _ _) Tryz.runUnderlying73 Tryz.sizeOf39) rfl ?_))
   refine gV (zab rfl rfl rfl hg6B) (za3 rfl rfl (by omega) foc2 (Reads.sl _ _ _) rfl rfl Tryz.isAgg39) rfl <| RJ_gy (zab rfl rfl rfl hg6B) <| zaq ((zne (c := ⟨nw.2.1, nw.2.2, a, s3z, s3z, [], [], [], Sb⟩) (m := Md.z) (n := nd0) (p := sp.2.1) (dn := 0) (z := 12) (by decide) addE0 (by decide) (by simp) (by rw [zji]; rfl) (fun i hi => absurd hi.1 (Nat.not_lt_zero _)))) rfl Tryz.call20 (Dels.cons del3 (Dels.cons del5 (Dels.cons del1 Dels.nil))) rfl fun c1 hc1 => ?_
   obtain ⟨ov1, rfl⟩ := hc1
   refine gP (zab rfl rfl rfl hg6B) (P_neq rfl rfl) rfl <| oP (zay rfl hg6B rfl) rfl <| oM rfl rfl ?_
   first | (refine zba 32 rfl (fun hg7B hg7 => ?_) (fun hg7B hg7 => ?_)) | (refine zbb 32 rfl (fun hg7B hg7 => ?_) (fun hg7B hg7 => ?_)) | (refine zbi 32 rfl (fun hg7B => ?_) (fun hg7B => ?_))
   ·
    refine RJ_gn (GY_no rfl rfl rfl hg7B) rfl rfl <| RJ_gn (GY_no rfl rfl rfl hg7B) rfl rfl <| RJ_gn (GY_no rfl rfl rfl hg7B) rfl rfl <| RJ_gn (GY_no rfl rfl rfl hg7B) rfl rfl <| RJ_gn (GY_no rfl rfl rfl hg7B) rfl rfl <| RJ_gn (GY_no rfl rfl rfl hg7B) rfl rfl <| oP (zas rfl hg7B rfl) rfl <| oM rfl rfl <| RJ_gn (GY_no rfl rfl rfl rfl) rfl rfl <| RJ_gn (GY_no rfl rfl rfl rfl) rfl rfl <| RJ_gn (GY_no rfl rfl rfl rfl) rfl rfl <| oP (zas rfl rfl rfl) rfl <| oM rfl rfl <| RJ_gn (GY_no rfl rfl rfl rfl) rfl rfl <| RJ_gn (GY_no rfl rfl rfl rfl) rfl rfl <| RJ_gn (GY_no rfl rfl rfl rfl) rfl rfl <| oP (zas rfl rfl rfl) rfl <| nT <| za4 rfl rfl <| sR <| oA rfl rfl <| oA rfl rfl <| nT <| zai <| zad ?_
    exfalso; first | omega | (have z0 := addE0; have z1 := addE1; simp_all)
   ·
    refine gP (zab rfl rfl rfl hg7B) (zag rfl) rfl <| gP (zab rfl rfl rfl hg7B) (zag rfl) rfl ?_
    first | (refine RJ_gy (zab rfl rfl rfl hg7B) (OJ_V (zan rfl rfl rfl (by omega) foc3 (Reads.sl _ _ _) Tryz.runUnderlying73 Tryz.sizeOf39) rfl ?_)) | (refine RJ_gy (zab rfl rfl rfl hg7B) (OJ_V (zan rfl rfl (Int.toNat_of_nonneg (by omega)).symm (by omega) foc3 (Reads.sl _ _ _) Tryz.runUnderlying73 Tryz.sizeOf39) rfl ?_))
    refine gV (zab rfl rfl rfl hg7B) (za3 rfl rfl (by omega) foc3 (Reads.sl _ _ _) rfl rfl Tryz.isAgg39) rfl <| RJ_gy (zab rfl rfl rfl hg7B) (zaq ((zne (c := (MH.push (⟨nw.2.1, nw.2.2, a, s3z, s3z, [], [], [], Sb⟩ : MH) ov1 (MH.dl (⟨nw.2.1, nw.2.2, a, s3z, s3z, [], [], [], Sb⟩ : MH)) (setM (MH.bl (⟨nw.2.1, nw.2.2, a, s3z, s3z, [], [], [], Sb⟩ : MH)) nd0 sp.2.1) (hBas sp.2.1 0) (bNew nd0 12))) (m := Mb1) (n := nd1) (p := sp.2.2) (dn := 1) (z := 8) (by decide) addE1 (by decide) (by simp) (by rw [zji]; rfl) (fun i hi => by
      have h0 : i = 0 := by have := hi.1; have e : Mb1.dv.length = 1 := rfl; omega
      subst h0; exact (by decide : (0 : Nat) ≠ 1)))) rfl Tryz.call20 (Dels.cons del4 (Dels.cons del0 (Dels.cons del0 Dels.nil))) rfl (fun c2 hc2 => ?_))
    obtain ⟨ov2, rfl⟩ := hc2
    refine gP (zab rfl rfl rfl hg7B) (P_neq rfl rfl) rfl <| oP (zay rfl hg7B rfl) rfl <| oM rfl rfl ?_
    first | (refine zba 40 rfl (fun hg8B hg8 => ?_) (fun hg8B hg8 => ?_)) | (refine zbb 40 rfl (fun hg8B hg8 => ?_) (fun hg8B hg8 => ?_)) | (refine zbi 40 rfl (fun hg8B => ?_) (fun hg8B => ?_))
    ·
     refine RJ_gn (GY_no rfl rfl rfl hg8B) rfl rfl <| RJ_gn (GY_no rfl rfl rfl hg8B) rfl rfl <| RJ_gn (GY_no rfl rfl rfl hg8B) rfl rfl <| oP (zas rfl hg8B rfl) rfl <| oM rfl rfl <| RJ_gn (GY_no rfl rfl rfl rfl) rfl rfl <| RJ_gn (GY_no rfl rfl rfl rfl) rfl rfl <| RJ_gn (GY_no rfl rfl rfl rfl) rfl rfl <| oP (zas rfl rfl rfl) rfl <| nT <| za4 rfl rfl <| sR <| oA rfl rfl <| oA rfl rfl <| nT <| zai <| zad ?_
     exfalso; first | omega | (have z0 := addE0; have z1 := addE1; simp_all)
    ·
     refine gP (zab rfl rfl rfl hg8B) (zag rfl) rfl <| RJ_gy (zab rfl rfl rfl hg8B) <| zaq ((zla (m := Md.z) (n := nd0) (z := 12) (by decide) (by decide))) rfl Tryz.call21 (Dels.cons del4 (Dels.cons del2 Dels.nil)) rfl fun r1 hc35 => ?_
     rw [(zi5 (z := 12) addE0).1]
     refine gP (zab rfl rfl rfl hg8B) (P_neq rfl rfl) rfl <| oP (zay rfl hg8B rfl) rfl <| oM rfl rfl ?_
     first | (refine zba 45 rfl (fun hg9B hg9 => ?_) (fun hg9B hg9 => ?_)) | (refine zbb 45 rfl (fun hg9B hg9 => ?_) (fun hg9B hg9 => ?_)) | (refine zbi 45 rfl (fun hg9B => ?_) (fun hg9B => ?_))
     ·
      refine RJ_gn (GY_no rfl rfl rfl hg9B) rfl rfl <| RJ_gn (GY_no rfl rfl rfl hg9B) rfl rfl <| RJ_gn (GY_no rfl rfl rfl hg9B) rfl rfl <| oP (zas rfl hg9B rfl) rfl <| nT <| za4 rfl rfl <| sR <| oA rfl rfl <| oA rfl rfl <| nT <| zai <| zad ?_
      exfalso; first | omega | (have z0 := addE0; have z1 := addE1; simp_all)
     ·
      refine gP (zab rfl rfl rfl hg9B) (zag rfl) rfl <| RJ_gy (zab rfl rfl rfl hg9B) <| zaq ((zla (m := Mb1) (n := nd1) (z := 8) (by decide) (by decide))) rfl Tryz.call21 (Dels.cons del0 (Dels.cons del0 Dels.nil)) rfl fun r2 hc36 => ?_
      rw [(zi5 (m := Mb1) (z := 8) addE1).1]
      refine gP (zab rfl rfl rfl hg9B) (P_neq rfl rfl) rfl <| oP (zay rfl hg9B rfl) rfl <| nT ?_
      first | (refine zao rfl (fun hg10 => ?_) (fun hg10 => ?_)) | (refine zap rfl (fun hg10 => ?_) (fun hg10 => ?_)) | (refine zar rfl (fun hg10 => ?_) (fun hg10 => ?_))
      ·
       refine sR <| oA rfl rfl <| oA rfl rfl <| nT <| zai <| zad ?_
       exfalso; first | omega | (have z0 := addE0; have z1 := addE1; simp_all)
      ·
       refine kT <| sR <| oM rfl rfl <| oM rfl rfl <| oA rfl rfl <| oA rfl rfl <| nT <| zai <| zam (res2 Tryz.results7 rfl rfl) <| CSpec.close ⟨nw.1, b28⟩ ?_ ?_ (Ent.trans (Ent.trans (t2_ (t2_ eR)) (zgi zni)) (Ent.trans (Ent.trans (t1_ (t1_ eR)) (zhw zni)) (t1_ (t0_ (eD (eD (eD eR)))))))
       · rfl
       · trivial
end Go.Proofs
set_option linter.unusedSimpArgs false
set_option maxRecDepth 20000
namespace Go.Proofs
open Go.VG
theorem RefWF.tick {c : RH} {m : Md} (h : RefWF c m) : RefWF c m.tick := ⟨h.dv, Md.tick_ok h.ok, Md.tick_big h.big⟩
theorem zow {c : RH} {m : Md} {R : List HP} : Ent (RefR c m :: R) (RefR c m.tick :: R) := fun h hh => by
  obtain ⟨h1, h2⟩ := stars_pur.1 (stars_star.1 hh)
  exact stars_star.2 (stars_pur.2 ⟨h1.tick, h2⟩)
theorem CSpec.conseq {P : Program} {W : World} {f : FuncId} {args : List Value} {pre pre' : List HP} {X : Type} {res : X → Value} {pf : X → Prop} {post post' : X → List HP → List HP} (h : CSpec P W f args pre res pf post) (h1 : ∀ F, Ent (pre' ++ F) (pre ++ F)) (h2 : ∀ x F, Ent (post x F) (post' x F)) : CSpec P W f args pre' res pf post' := by
  intro F w hs
  refine (h F w (hs.imp (h1 F))).mono ?_
  rintro e w' ⟨x, q1, q2, q3⟩
  exact ⟨x, q1, q2, q3.imp (h2 x F)⟩
theorem CSpec.toR {W : World} {f : FuncId} {args : List Value} {b : Nat} {m m' : Md} {v : Value} {G : List HP} (hm : MdOk m → MdBd m → MdBd m'.tick)
    (h : ∀ c : RH, MdBd m → CSpec Tryz.prog W f args (blk b 72 (zbp c m) :: RefR c m :: G) (fun _ : RH => v) (fun _ => True) (fun c2 F => blk b 72 (zbp c2 m') :: RefR c2 m' :: (G ++ F))) :
    CSpec Tryz.prog W f args (RefP b m :: G) (fun _ : Unit => v) (fun _ => True) (fun _ F => RefP b m'.tick :: (G ++ F)) := by
  intro F w hs
  obtain ⟨gg, hgg⟩ := hs.heap
  obtain ⟨c, h1⟩ := zov _ hgg
  obtain ⟨hb, h2⟩ := stars_pur.1 h1
  have hO : MdOk m := (zcs (H := blk b 72 (zbp c m) :: RefR c m :: (G ++ F)) foc1 _ h2).ok
  refine (h c hb F w ⟨hs.os, hs.tape, hs.output, gg, h2⟩).mono ?_
  rintro e w' ⟨c2, h3, h4, h5⟩
  exact ⟨(), h3, trivial, h5.imp (Ent.trans (Ent.take del1 Ent.refl) (Ent.trans zow (Ent.trans (Ent.take del1 Ent.refl) (zhw (m := m'.tick) (c := c2) (hm hO hb)))))⟩
section
variable {W : World} {b : Nat} {m : Md} {n : ByteArray}
theorem zrt (hc : m.cl < 4000) : CSpec Tryz.prog W 23 [ptr b 0, .string n] (RefP b m :: []) (fun _ : Unit => .int .i64 (m.crE n)) (fun _ => True) (fun _ F => RefP b (m.crS n).tick :: ([] ++ F)) :=
  CSpec.toR (fun hO h => Md.bd_cr h hc) fun c hb => by
    have g1 := hb.tks; have g2 := hb.told; have g3 := hb.wr; have g4 := hb.len; have g5 := hb.wl
    exact ztp (by omega)
theorem zvd {A : HP} {v : Sl3} {l : List api_Target} (hA : Reads A tyapi_Target v.v l) (hc : m.cl < 4000) : CSpec Tryz.prog W 29 [ptr b 0, .string n, v.v] (RefP b m :: [A]) (fun _ : Unit => .int .i64 (m.ldE n l)) (fun _ => True) (fun _ F => RefP b (m.ldS n l).tick :: ([A] ++ F)) :=
  CSpec.toR (fun hO h => Md.bd_ld h hc) fun c hb => by
    have g1 := hb.tks; have g2 := hb.told; have g3 := hb.wr; have g4 := hb.len; have g5 := hb.wl
    exact CSpec.conseq (zwv hA) (fun F => Ent.take del2 (Ent.take del0 (Ent.take del0 Ent.refl))) (fun c2 F => Ent.take del1 (Ent.take del1 (Ent.take del0 Ent.refl)))
theorem zqf (hc : m.cl < 4000) : CSpec Tryz.prog W 33 [ptr b 0, .string n] (RefP b m :: []) (fun _ : Unit => .int .i64 (m.suE n)) (fun _ => True) (fun _ F => RefP b (m.suS n).tick :: ([] ++ F)) :=
  CSpec.toR (fun hO h => Md.bd_su h hc) fun c hb => by
    have g1 := hb.tks; have g2 := hb.told; have g3 := hb.wr; have g4 := hb.len; have g5 := hb.wl
    exact zrs
theorem zru (hc : m.cl < 4000) : CSpec Tryz.prog W 35 [ptr b 0, .string n] (RefP b m :: []) (fun _ : Unit => .int .i64 (m.rsE n)) (fun _ => True) (fun _ F => RefP b (m.rsS n).tick :: ([] ++ F)) :=
  CSpec.toR (fun hO h => Md.bd_rs h hc) fun c hb => by
    have g1 := hb.tks; have g2 := hb.told; have g3 := hb.wr; have g4 := hb.len; have g5 := hb.wl
    exact zts (by omega) (by omega) (by omega)
theorem ztu {t : api_Task} (hc : m.cl < 4000) (hb2 : -9223372036854775808 ≤ t.At ∧ t.At ≤ 9223372036854775807) : CSpec Tryz.prog W 12 [ptr b 0, .string n, .agg #[.int .i64 t.Kind, .int .i64 t.At, .int .u64 (t.Value.toNat : Int)]] (RefP b m :: []) (fun _ : Unit => .tuple #[.agg #[.bool (m.doA n t).Done, .int .i64 (m.doA n t).Ticket, .int .u64 ((m.doA n t).Value.toNat : Int), .int .i64 (m.doA n t).Error], .int .i64 (m.doE n t)]) (fun _ => True) (fun _ F => RefP b (m.doS n t).tick :: ([] ++ F)) :=
  CSpec.toR (fun hO h => Md.bd_do hO h hc) fun c hb => by
    have g1 := hb.tks; have g2 := hb.told; have g3 := hb.wr; have g4 := hb.len; have g5 := hb.wl
    exact c_rDo (by omega) (by omega) (fun i => by have := m.wait_le i; omega) hb2
end
end Go.Proofs
set_option linter.unusedSimpArgs false
set_option maxRecDepth 20000
namespace Go.Proofs
open Go.VG
namespace Md
end Md
theorem zwz {b : Nat} {m : Md} {H : List HP} {C : HP → List HP} (hf : Foc H (MapP b m) C) : ∀ h, stars H h → MdBd m := fun h hh => by
  obtain ⟨F, hp, _⟩ := hf.focus
  obtain ⟨c, h1⟩ := zin _ (zbr hp _ hh)
  exact (stars_pur.1 h1).1
end Go.Proofs
