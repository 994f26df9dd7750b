/- MapperDevices, part 8 of the proof: CMap23, CMap24, PMapDv, CLaw7, CLaw2, CLaw3, LMapO, LAw23, PAwake23. -/
import Derived.WalkKit
import Derived.Orders
import Derived.RangeFuncLeaves
import Derived.RangeFuncCalls
import Derived.TacticsIn
import Derived.Handy
import Derived.OrdersHeld
import Derived.OrdersIn
import Derived.Below
import Derived.OpenShut
import Derived.Deep.Slices
import Derived.Scope
import Derived.RangeFuncRecord
import Derived.ChangeKeysEq
import Derived.Laws.BytesArg
import Derived.KernelRfl
import Derived.Maps.RangeRun
import Derived.LaidEql
import Derived.ProofKit
import Derived.ShutString
import Derived.ChangeOld
import Derived.Test.YtbmipeiphoghcaaGreatChecked
import Derived.Test.YtbmipeiphoghcaaGreatRows
import Derived.Test.YtbmipeiphoghcaaGreatZMapperDevices7
set_option linter.unusedSimpArgs false
set_option maxRecDepth 20000
namespace Go.Proofs
open Go.VG
theorem znj (v0 : Int) : ∀ w, (Instr.build 33 (#[(0, .int .i64 v0)] : Array (Nat × Value))).run Tryz.prog w = .ok (.agg #[.int .i64 v0, .int .i64 0, .int .u64 0]) w := fun w => by kernel_rfl
theorem zhj (v0 : Int) (v1 : (Option Addr)) (v2 : Int) (v3 : Int) (v4 : Int) : zby Tryz.prog 109 1 [(0, .agg #[.int .i64 v0, .pointer v1, .int .i64 v2, .int .i64 v3, .int .u64 v4])] 135 [.int .i64 v0, .pointer v1, .int .i64 v2, .int .i64 v3, .int .u64 v4] := fun w => by kernel_rfl
theorem zfd (v0 : Bool) (v1 : Int) (v2 : Int) (v3 : Int) : zby Tryz.prog 54 1 [(0, .agg #[.bool v0, .int .i64 v1, .int .u64 v2, .int .i64 v3])] 51 [.bool v0, .int .i64 v1, .int .u64 v2, .int .i64 v3] := fun w => by kernel_rfl
theorem zrv {W : World} {b : Nat} {c : MH} {m : Md} {n : ByteArray} :
    CSpec Tryz.prog W 32 [ptr b 0, .string n] [blk b 84 (zax c m), MapR c m] (fun _ : MH => .int .i64 (m.suE n)) (fun c2 => c2.bs = c.bs) (fun c2 F => blk b 84 (zax c2 (m.suS n)) :: MapR c2 (m.suS n) :: F) := by
 refine CSpec.of_body Tryz.func32 rfl Tryz.ntmps32 rfl fun F => ?_
 show CJ _ _ _ _ _ _ (_ :: _ :: F)
 refine zbl (zb3 foc1) fun hW => ?_
 have hO := hW.ok
 have hns := Md.names_len (m := m)
 have hln := hW.big.len
 refine sR <| oA rfl rfl <| nT <| sR <| oM rfl rfl <| oP (zae rfl) rfl <| oP (zaa rfl ⟨_, _, _, Tryz.runUnderlying84, rfl, rfl, Tryz.sizeOf82, rfl⟩) rfl <| oV (zah rfl foc0 rfl Tryz.isAgg82) rfl <| oM rfl rfl <| oO (zea rfl rfl foc1 rfl (fun hd2 => ?_) (fun k1 hd2 => ?_))
 ·
  refine oA rfl rfl <| nT <| zaf <| zat <| sR <| oM rfl rfl <| oP (zgs rfl rfl Tryz.underlying85) rfl <| oA rfl rfl <| nT <| za4 rfl rfl <| sR <| oA rfl rfl <| nT <| zai <| zaj <| zad <| zam (res1 Tryz.results32 rfl) ?_
  have e1 : m.suE n = 12 ∧ m.suS n = m := by
    have e2 : m.suE n = 12 := by unfold Md.suE; rw [hd2]
    exact ⟨e2, by unfold Md.suS; rw [hd2]⟩
  refine CSpec.close c ?_ ?_ (Ent.takeC del0 (by rw [e1.2]) (Ent.takeC del0 (by rw [e1.2]) eR))
  · rw [e1.1]
  · first | rfl | exact zds hW9 hdk.1 rfl
 ·
  refine oA rfl rfl <| nT <| zaf <| zat <| sR <| oM rfl rfl <| oP (zd7 rfl rfl Tryz.underlying85) rfl <| oA rfl rfl <| nT <| za5 rfl rfl <| sR <| oM rfl rfl <| oP (zae rfl) rfl <| oP (zaa rfl ⟨_, _, _, Tryz.runUnderlying111, rfl, rfl, Tryz.sizeOf4, rfl⟩) rfl <| oV (zbu (Ent.trans (t1_ eR) (za8 (Md.dev_is hd2).1)) (zah rfl foc0 rfl Tryz.isAgg4)) rfl <| oA rfl rfl <| nT ?_
  first | (refine zao rfl (fun hg1 => ?_) (fun hg1 => ?_)) | (refine zap rfl (fun hg1 => ?_) (fun hg1 => ?_)) | (refine zar rfl (fun hg1 => ?_) (fun hg1 => ?_))
  ·
   refine sR <| oA rfl rfl <| nT <| zai <| zaj <| zad <| zam (res1 Tryz.results32 rfl) ?_
   have e1 : m.suE n = 20 ∧ m.suS n = m := by
     have e2 : m.suE n = 20 := by unfold Md.suE; rw [hd2]; show (if _ then _ else _) = _; exact if_pos (.inl (by assumption))
     exact ⟨e2, by unfold Md.suS; rw [hd2]; show (if m.suE n = 0 then _ else _) = _; rw [if_neg (by rw [e2]; decide)]⟩
   refine CSpec.close c ?_ ?_ (Ent.takeC del0 (by rw [e1.2]) (Ent.takeC del0 (by rw [e1.2]) eR))
   · rw [e1.1]
   · first | rfl | exact zds hW9 hdk.1 rfl
  ·
   refine zbk <| zal <| zav <| zaf <| zaf ?_
   have hdk := Md.dev_is hd2
   have hsf : (m.at k1).susp = false := by assumption
   refine zak <| oM rfl rfl <| oP (zae rfl) rfl <| oP (zaa rfl ⟨_, _, _, Tryz.runUnderlying111, rfl, rfl, Tryz.sizeOf4, rfl⟩) rfl <| oV (zbu (Ent.trans (t1_ eR) (za8 (Md.dev_is hd2).1)) (zah rfl foc0 rfl Tryz.isAgg4)) rfl <| nT ?_
   first | (refine zao rfl (fun hg2 => ?_) (fun hg2 => ?_)) | (refine zap rfl (fun hg2 => ?_) (fun hg2 => ?_)) | (refine zar rfl (fun hg2 => ?_) (fun hg2 => ?_))
   ·
    refine sR <| oP (zbm rfl (znj _)) rfl <| oO <| zb1 Tryz.zeroValue33 rfl rfl fun b3 => oO <| zbn rfl rfl foc0 Tryz.sizeOf33 rfl rfl rfl <| nT <| zaf <| sR <| oM rfl rfl <| oM rfl rfl <| oV (zbh rfl foc0 Tryz.isAgg33 Tryz.sizeOf33 rfl rfl) rfl <| oO <| zaq (zf5 (t := ⟨3, 0, 0⟩) (Md.dev_is hd2).1) rfl Tryz.call78 (Dels.cons del1 (Dels.cons del1 Dels.nil)) rfl fun _ hc4 => oP (zfu rfl rfl Tryz.underlying85) rfl <| nT ?_
    first | (refine zao rfl (fun hg3 => ?_) (fun hg3 => ?_)) | (refine zap rfl (fun hg3 => ?_) (fun hg3 => ?_)) | (refine zar rfl (fun hg3 => ?_) (fun hg3 => ?_))
    ·
     refine sR <| oA rfl rfl <| nT <| zai <| zad <| zad <| zam (res1 Tryz.results32 rfl) ?_
     have e1 : m.suE n = 20 ∧ m.suS n = m := by
       have e2 : m.suE n = 20 := by unfold Md.suE; rw [hd2]; show (if _ then _ else _) = _; exact if_pos (.inr (by assumption))
       exact ⟨e2, by unfold Md.suS; rw [hd2]; show (if m.suE n = 0 then _ else _) = _; rw [if_neg (by rw [e2]; decide)]⟩
     refine CSpec.close c ?_ ?_ (Ent.takeC del0 (by rw [e1.2]) (Ent.takeC del0 (by rw [e1.2]) (eD eR)))
     · rw [e1.1]
     · first | rfl | exact zds hW9 hdk.1 rfl
    ·
     refine kT <| zaf ?_
     have hst9 : (m.wayk k1 ⟨3, 0, 0⟩).isSome = false := by assumption
     refine zak <| oM rfl rfl <| oM rfl rfl <| oV (zbh rfl foc2 Tryz.isAgg33 Tryz.sizeOf33 rfl rfl) rfl <| oO <| zaq ((zmc (t := ⟨3, 0, 0⟩) (by rw [hdk.2]; rfl) rfl)) rfl Tryz.call79 (Dels.cons del0 (Dels.cons del0 Dels.nil)) rfl fun c9 h9 => oM rfl rfl <| oP (zaw rfl rfl) rfl <| oP (zaw rfl rfl) rfl <| oA rfl rfl <| oA rfl rfl <| nT <| sR <| oM rfl rfl <| oP (P_neq rfl rfl) rfl <| nT ?_
     first | (refine za5 rfl (decide_eq_false (by exact fun h => h rfl)) ?_) | (refine za5 rfl (by exact fun h => h rfl) ?_)
     refine kT <| zaf ?_
     have hw9 : m.wayk k1 ⟨3, 0, 0⟩ = none := by simpa using hst9
     refine zbl (zb3 foc1) fun hW9 => zbf (Ent.takeC del0 (congrArg (blk b 84) h9.1.symm) (t0_ (t0_ eR))) ?_
     rw [← h9.2]
     refine zbf (Ent.trans (t1_ eR) (za8 hdk.1)) <| zak <| oM rfl rfl <| oP (zae rfl) rfl <| oP (zaa rfl ⟨_, _, _, Tryz.runUnderlying111, rfl, rfl, Tryz.sizeOf4, rfl⟩) rfl <| oO <| zbj rfl rfl foc0 rfl rfl Tryz.sizeOf4 <| nT <| sR <| oA rfl rfl <| nT <| zai <| zam (res1 Tryz.results32 rfl) ?_
     have e0 : m.wayk k1 ⟨3, 0, 0⟩ = none := by rw [hw9]
     have e2 : m.suE n = 0 := by unfold Md.suE; rw [hd2]; show (if _ then _ else _) = _; exact if_neg (by rw [hsf, e0]; simp)
     have e1 : m.suS n = m.set k1 { m.at k1 with susp := true } := by unfold Md.suS; rw [hd2]; show (if m.suE n = 0 then _ else _) = _; rw [if_pos e2]
     rw [e1]
     refine CSpec.close (c9.put k1 (c9.hd k1) { m.at k1 with susp := true }) ?_ ?_ (Ent.trans (Ent.trans (t0_ (t0_ (t0_ (t0_ (t0_ eR))))) (zcy (h' := (c9.hd k1)) (d' := { m.at k1 with susp := true }) (m' := (m.set k1 { m.at k1 with susp := true })) hW9 hdk.1 rfl hdk.1.2.2 rfl rfl rfl (Md.ok_susp hO hdk.1) (hW.big.set hdk.1.1 rfl (hW.big.wl _) hW.big.tks hW.big.told hW.big.wr) rfl rfl)) (t1_ (t0_ (eD eR))))
     · rw [e2]
     · first | rfl | exact zds hW9 hdk.1 rfl
   ·
    refine kT <| zaf ?_
    have hW9 := hW
    have hhl : (m.at k1).hl = false := by assumption
    refine zbf (Ent.trans (t1_ eR) (za8 hdk.1)) <| zak <| oM rfl rfl <| oP (zae rfl) rfl <| oP (zaa rfl ⟨_, _, _, Tryz.runUnderlying111, rfl, rfl, Tryz.sizeOf4, rfl⟩) rfl <| oO <| zbj rfl rfl foc0 rfl rfl Tryz.sizeOf4 <| nT <| sR <| oA rfl rfl <| nT <| zai <| zam (res1 Tryz.results32 rfl) ?_
    have e0 : m.wayk k1 ⟨3, 0, 0⟩ = none := by unfold Md.wayk; rw [Md.way_flush hdk.1.2.2 hsf rfl, hO.hl _ hhl]; rfl
    have e2 : m.suE n = 0 := by unfold Md.suE; rw [hd2]; show (if _ then _ else _) = _; exact if_neg (by rw [hsf, e0]; simp)
    have e1 : m.suS n = m.set k1 { m.at k1 with susp := true } := by unfold Md.suS; rw [hd2]; show (if m.suE n = 0 then _ else _) = _; rw [if_pos e2]
    rw [e1]
    refine CSpec.close (c.put k1 (c.hd k1) { m.at k1 with susp := true }) ?_ ?_ (Ent.trans (Ent.trans (t0_ (t0_ (t0_ (t0_ (t0_ eR))))) (zcy (h' := (c.hd k1)) (d' := { m.at k1 with susp := true }) (m' := (m.set k1 { m.at k1 with susp := true })) hW9 hdk.1 rfl hdk.1.2.2 rfl rfl rfl (Md.ok_susp hO hdk.1) (hW.big.set hdk.1.1 rfl (hW.big.wl _) hW.big.tks hW.big.told hW.big.wr) rfl rfl)) (t1_ (t0_ eR)))
    · rw [e2]
    · first | rfl | exact zds hW9 hdk.1 rfl
theorem ztv {W : World} {b : Nat} {c : MH} {m : Md} {n : ByteArray} (hwr : m.wr + m.wsum < 100000000) (hto : m.told.length + m.wsum < 100000000) (hws : m.wsum < 100000) :
    CSpec Tryz.prog W 34 [ptr b 0, .string n] [blk b 84 (zax c m), MapR c m] (fun _ : MH => .int .i64 (m.rsE n)) (fun c2 => c2.bs = c.bs) (fun c2 F => blk b 84 (zax c2 (m.rsS n)) :: MapR c2 (m.rsS n) :: F) := by
 refine CSpec.of_body Tryz.func34 rfl Tryz.ntmps34 rfl fun F => ?_
 show CJ _ _ _ _ _ _ (_ :: _ :: F)
 refine zbl (zb3 foc1) fun hW => ?_
 have hO := hW.ok
 have hns := Md.names_len (m := m)
 have hln := hW.big.len
 refine sR <| oA rfl rfl <| nT <| sR <| oM rfl rfl <| oP (zae rfl) rfl <| oP (zaa rfl ⟨_, _, _, Tryz.runUnderlying84, rfl, rfl, Tryz.sizeOf82, rfl⟩) rfl <| oV (zah rfl foc0 rfl Tryz.isAgg82) rfl <| oM rfl rfl <| oO (zea rfl rfl foc1 rfl (fun hd2 => ?_) (fun k1 hd2 => ?_))
 ·
  refine oA rfl rfl <| nT <| zgp (X := Unit) [4, 17, 18, 19, 20, 21, 22, 23, 24, 25, 26, 27, 28, 29, 30, 31, 32, 33, 34, 35, 36, 37, 38, 39, 40, 41, 42, 43, 44, 45, 46, 47, 48, 49, 50, 51, 52, 53, 54, 55, 56, 57, 58, 59, 60, 61, 62, 63, 64] (fun _ => ([] : Slots)) (fun _ R => R) (fun _ => False) Dels.nil ?_ ?_
  ·
   refine zat <| sR <| oM rfl rfl <| oP (zgs rfl rfl Tryz.underlying85) rfl <| oA rfl rfl <| nT <| za4 rfl rfl <| sR <| oA rfl rfl <| nT <| zai <| zaj <| zad <| zam (res1 Tryz.results34 rfl) ?_
   have e1 := Md.rs_none hd2
   rw [e1.2]
   refine CSpec.close c ?_ ?_ (t0_ (t0_ eR))
   · rw [e1.1]
   · rfl
  ·
   intro _ hpf
   show CJ _ _ _ _ _ (([] : Slots) ++ forget _ _) (_)
   exact hpf.elim
 ·
  refine oA rfl rfl <| nT <| zgp (X := Unit) [4, 17, 18, 19, 20, 21, 22, 23, 24, 25, 26, 27, 28, 29, 30, 31, 32, 33, 34, 35, 36, 37, 38, 39, 40, 41, 42, 43, 44, 45, 46, 47, 48, 49, 50, 51, 52, 53, 54, 55, 56, 57, 58, 59, 60, 61, 62, 63, 64] (fun _ => ([] : Slots)) (fun _ R => blk b 84 (zax c m) :: MapR c m :: R) (fun _ => ¬ ((m.at k1).susp = false ∨ ((m.at k1).hl = false ∧ (m.at k1).hn = false)) ∧ ¬ ((m.at k1).hn = true ∧ (m.needs k1 (tsize (m.at k1).new) = false ∨ m.fits (m.at k1).new = false))) (Dels.cons del0 (Dels.cons del0 Dels.nil)) ?_ ?_
  ·
   refine zat <| sR <| oM rfl rfl <| oP (zd7 rfl rfl Tryz.underlying85) rfl <| oA rfl rfl <| nT <| za5 rfl rfl <| zaf ?_
   have hdk := Md.dev_is hd2
   have hch2 := zb0 (hO.chk k1).2
   have hwl := m.wait_le k1
   refine zak <| oM rfl rfl <| oP (zae rfl) rfl <| oP (zaa rfl ⟨_, _, _, Tryz.runUnderlying111, rfl, rfl, Tryz.sizeOf4, rfl⟩) rfl <| oV (zbu (Ent.trans (t1_ eR) (za8 (Md.dev_is hd2).1)) (zah rfl foc0 rfl Tryz.isAgg4)) rfl <| oP (P_not rfl) rfl <| oM rfl rfl ?_
   first | (refine zba 26 rfl (fun hg1B hg1 => ?_) (fun hg1B hg1 => ?_)) | (refine zbb 26 rfl (fun hg1B hg1 => ?_) (fun hg1B hg1 => ?_)) | (refine zbi 26 rfl (fun hg1B => ?_) (fun hg1B => ?_))
   ·
    refine RJ_gn (GY_no rfl rfl rfl hg1B) rfl rfl <| RJ_gn (GY_no rfl rfl rfl hg1B) rfl rfl <| RJ_gn (GY_no rfl rfl rfl hg1B) rfl rfl <| RJ_gn (GY_no rfl rfl rfl hg1B) rfl rfl <| RJ_gn (GY_no rfl rfl rfl hg1B) rfl rfl <| RJ_gn (GY_no rfl rfl rfl hg1B) rfl rfl <| RJ_gn (zbq rfl rfl rfl) rfl rfl <| RJ_gn (zbq rfl rfl rfl) rfl rfl <| RJ_gn (zbq rfl rfl rfl) rfl rfl <| RJ_gn (zbq rfl rfl rfl) rfl rfl <| RJ_gn (zbq rfl rfl rfl) rfl rfl <| RJ_gn (GY_no rfl rfl rfl hg1B) rfl rfl <| oP (zas rfl hg1B rfl) rfl <| oA rfl rfl <| nT <| za4 rfl rfl <| sR <| oA rfl rfl <| nT <| zai <| zaj <| zad <| zam (res1 Tryz.results34 rfl) ?_
    have e1 := (fun z => (⟨z, Md.rsS_no (by rw [z]; decide)⟩ : m.rsE n = 20 ∧ m.rsS n = m)) (Md.rs_state hd2 (by simp_all))
    rw [e1.2]
    refine CSpec.close c ?_ ?_ (t0_ (t0_ eR))
    · rw [e1.1]
    · rfl
   ·
    refine gP (zab rfl rfl rfl hg1B) (zag rfl) rfl <| gP (zab rfl rfl rfl hg1B) (zae rfl) rfl <| gP (zab rfl rfl rfl hg1B) (zaa rfl ⟨_, _, _, Tryz.runUnderlying111, rfl, rfl, Tryz.sizeOf4, rfl⟩) rfl <| gV (zab rfl rfl rfl hg1B) (zbu (Ent.trans (t1_ eR) (za8 (Md.dev_is hd2).1)) (zah rfl foc0 rfl Tryz.isAgg4)) rfl <| gP (zab rfl rfl rfl hg1B) (P_not rfl) rfl <| gP (zab rfl rfl rfl hg1B) (zag rfl) rfl ?_
    first | (refine zba 32 rfl (fun hg2B hg2 => ?_) (fun hg2B hg2 => ?_)) | (refine zbb 32 rfl (fun hg2B hg2 => ?_) (fun hg2B hg2 => ?_)) | (refine zbi 32 rfl (fun hg2B => ?_) (fun hg2B => ?_))
    ·
     refine gP (zab rfl rfl rfl hg2B) (zag rfl) rfl <| gP (zab rfl rfl rfl hg2B) (zae rfl) rfl <| gP (zab rfl rfl rfl hg2B) (zaa rfl ⟨_, _, _, Tryz.runUnderlying111, rfl, rfl, Tryz.sizeOf4, rfl⟩) rfl <| gV (zab rfl rfl rfl hg2B) (zbu (Ent.trans (t1_ eR) (za8 (Md.dev_is hd2).1)) (zah rfl foc0 rfl Tryz.isAgg4)) rfl <| gP (zab rfl rfl rfl hg2B) (P_not rfl) rfl <| gP (zab rfl rfl rfl hg1B) (zas rfl hg2B rfl) rfl <| oP (zay rfl hg1B rfl) rfl <| oA rfl rfl <| nT ?_
     first | (refine zao rfl (fun hg3 => ?_) (fun hg3 => ?_)) | (refine zap rfl (fun hg3 => ?_) (fun hg3 => ?_)) | (refine zar rfl (fun hg3 => ?_) (fun hg3 => ?_))
     ·
      refine sR <| oA rfl rfl <| nT <| zai <| zaj <| zad <| zam (res1 Tryz.results34 rfl) ?_
      have e1 := (fun z => (⟨z, Md.rsS_no (by rw [z]; decide)⟩ : m.rsE n = 20 ∧ m.rsS n = m)) (Md.rs_state hd2 (by simp_all))
      rw [e1.2]
      refine CSpec.close c ?_ ?_ (t0_ (t0_ eR))
      · rw [e1.1]
      · rfl
     ·
      refine sR <| oM rfl rfl <| oP (zae rfl) rfl <| oP (zaa rfl ⟨_, _, _, Tryz.runUnderlying111, rfl, rfl, Tryz.sizeOf4, rfl⟩) rfl <| oV (zbu (Ent.trans (t1_ eR) (za8 (Md.dev_is hd2).1)) (zah rfl foc0 rfl Tryz.isAgg4)) rfl <| oM rfl rfl ?_
      first | (refine zba 45 rfl (fun hg4B hg4 => ?_) (fun hg4B hg4 => ?_)) | (refine zbb 45 rfl (fun hg4B hg4 => ?_) (fun hg4B hg4 => ?_)) | (refine zbi 45 rfl (fun hg4B => ?_) (fun hg4B => ?_))
      ·
       refine gP (zab rfl rfl rfl hg4B) (zag rfl) rfl <| gP (zab rfl rfl rfl hg4B) (zag rfl) rfl <| gP (zab rfl rfl rfl hg4B) (zag rfl) rfl <| gP (zab rfl rfl rfl hg4B) (zae rfl) rfl <| gP (zab rfl rfl rfl hg4B) (zaa rfl ⟨_, _, _, Tryz.runUnderlying111, rfl, rfl, Tryz.sizeOf30, rfl⟩) rfl <| gV (zab rfl rfl rfl hg4B) (zbu (Ent.trans (t1_ eR) (za8 (Md.dev_is hd2).1)) (zah rfl foc0 rfl Tryz.isAgg30)) rfl <| RJ_gy (zab rfl rfl rfl hg4B) <| zaq (zey (rdNew (Md.dev_is hd2).1) zh1) rfl Tryz.call81 (Dels.cons del1 Dels.nil) rfl fun _ hc3 => RJ_gy (zab rfl rfl rfl hg4B) <| zaq (zjo (Md.dev_is hd2).1) rfl Tryz.call80 (Dels.cons del1 (Dels.cons del0 Dels.nil)) rfl fun _ hc4 => gP (zab rfl rfl rfl hg4B) (P_not rfl) rfl <| gP (zab rfl rfl rfl hg4B) (zag rfl) rfl ?_
       first | (refine zba 55 rfl (fun hg5B hg5 => ?_) (fun hg5B hg5 => ?_)) | (refine zbb 55 rfl (fun hg5B hg5 => ?_) (fun hg5B hg5 => ?_)) | (refine zbi 55 rfl (fun hg5B => ?_) (fun hg5B => ?_))
       ·
        refine RJ_gn (GY_no rfl rfl rfl hg5B) rfl rfl <| RJ_gn (GY_no rfl rfl rfl hg5B) rfl rfl <| RJ_gn (GY_no rfl rfl rfl hg5B) rfl rfl <| RJ_gn (GY_no rfl rfl rfl hg5B) rfl rfl <| RJ_gn (GY_no rfl rfl rfl hg5B) rfl rfl <| RJ_gn (GY_no rfl rfl rfl hg5B) rfl rfl <| RJ_gn (GY_no rfl rfl rfl hg5B) rfl rfl <| gP (zab rfl rfl rfl hg4B) (zas rfl hg5B rfl) rfl <| oP (zas rfl hg4B rfl) rfl <| oA rfl rfl <| nT <| za4 rfl rfl <| sR <| oA rfl rfl <| nT <| zai <| zaj <| zad <| zam (res1 Tryz.results34 rfl) ?_
        have e1 := (fun z => (⟨z, Md.rsS_no (by rw [z]; decide)⟩ : m.rsE n = 1 ∧ m.rsS n = m)) (Md.rs_fit hd2 (by simp_all) (by simp_all))
        rw [e1.2]
        refine CSpec.close c ?_ ?_ (t0_ (t0_ eR))
        · rw [e1.1]
        · rfl
       ·
        refine gP (zab rfl rfl rfl hg5B) (zag rfl) rfl <| gP (zab rfl rfl rfl hg5B) (zag rfl) rfl <| gP (zab rfl rfl rfl hg5B) (zae rfl) rfl <| gP (zab rfl rfl rfl hg5B) (zaa rfl ⟨_, _, _, Tryz.runUnderlying111, rfl, rfl, Tryz.sizeOf30, rfl⟩) rfl <| gV (zab rfl rfl rfl hg5B) (zbu (Ent.trans (t1_ eR) (za8 (Md.dev_is hd2).1)) (zah rfl foc0 rfl Tryz.isAgg30)) rfl <| RJ_gy (zab rfl rfl rfl hg5B) <| zaq (zk6 (rdNew hdk.1) (by omega) (fun x hx => ⟨fun hne => hO.nam _ hdk.1.1 hdk.1.2.1 x (List.mem_append.2 (.inr hx)) hne, zdi (hO.chk _).2 hx⟩)) rfl Tryz.call73 (Dels.cons del0 (Dels.cons del0 Dels.nil)) rfl fun _ hc5 => gP (zab rfl rfl rfl hg5B) (P_not rfl) rfl <| gP (zab rfl rfl rfl hg4B) (zay rfl hg5B rfl) rfl <| oP (zas rfl hg4B rfl) rfl <| oA rfl rfl <| nT ?_
        first | (refine zao rfl (fun hg6 => ?_) (fun hg6 => ?_)) | (refine zap rfl (fun hg6 => ?_) (fun hg6 => ?_)) | (refine zar rfl (fun hg6 => ?_) (fun hg6 => ?_))
        ·
         refine sR <| oA rfl rfl <| nT <| zai <| zaj <| zad <| zam (res1 Tryz.results34 rfl) ?_
         have e1 := (fun z => (⟨z, Md.rsS_no (by rw [z]; decide)⟩ : m.rsE n = 1 ∧ m.rsS n = m)) (Md.rs_fit hd2 (by simp_all) (by simp_all))
         rw [e1.2]
         refine CSpec.close c ?_ ?_ (t0_ (t0_ eR))
         · rw [e1.1]
         · rfl
        ·
         exact zbk <| zal <| cR () ⟨by simp_all, by simp_all⟩ True.intro (t0_ (t0_ eR))
      ·
       exact RJ_gn (GY_no rfl rfl rfl hg4B) rfl rfl <| RJ_gn (GY_no rfl rfl rfl hg4B) rfl rfl <| RJ_gn (GY_no rfl rfl rfl hg4B) rfl rfl <| RJ_gn (GY_no rfl rfl rfl hg4B) rfl rfl <| RJ_gn (GY_no rfl rfl rfl hg4B) rfl rfl <| RJ_gn (GY_no rfl rfl rfl hg4B) rfl rfl <| RJ_gn (GY_no rfl rfl rfl hg4B) rfl rfl <| RJ_gn (GY_no rfl rfl rfl hg4B) rfl rfl <| RJ_gn (GY_no rfl rfl rfl hg4B) rfl rfl <| RJ_gn (GY_no rfl rfl rfl hg4B) rfl rfl <| RJ_gn (zbq rfl rfl rfl) rfl rfl <| RJ_gn (zbq rfl rfl rfl) rfl rfl <| RJ_gn (zbq rfl rfl rfl) rfl rfl <| RJ_gn (zbq rfl rfl rfl) rfl rfl <| RJ_gn (zbq rfl rfl rfl) rfl rfl <| RJ_gn (zbq rfl rfl rfl) rfl rfl <| RJ_gn (zbq rfl rfl rfl) rfl rfl <| RJ_gn (GY_no rfl rfl rfl hg4B) rfl rfl <| oP (zay rfl hg4B rfl) rfl <| oA rfl rfl <| nT <| za5 rfl rfl <| zbk <| zal <| cR () ⟨by simp_all, by simp_all⟩ True.intro (t0_ (t0_ eR))
    ·
     refine RJ_gn (GY_no rfl rfl rfl hg2B) rfl rfl <| RJ_gn (GY_no rfl rfl rfl hg2B) rfl rfl <| RJ_gn (GY_no rfl rfl rfl hg2B) rfl rfl <| RJ_gn (GY_no rfl rfl rfl hg2B) rfl rfl <| RJ_gn (GY_no rfl rfl rfl hg2B) rfl rfl <| gP (zab rfl rfl rfl hg1B) (zay rfl hg2B rfl) rfl <| oP (zay rfl hg1B rfl) rfl <| oA rfl rfl <| nT <| za5 rfl rfl <| sR <| oM rfl rfl <| oP (zae rfl) rfl <| oP (zaa rfl ⟨_, _, _, Tryz.runUnderlying111, rfl, rfl, Tryz.sizeOf4, rfl⟩) rfl <| oV (zbu (Ent.trans (t1_ eR) (za8 (Md.dev_is hd2).1)) (zah rfl foc0 rfl Tryz.isAgg4)) rfl <| oM rfl rfl ?_
     first | (refine zba 45 rfl (fun hg7B hg7 => ?_) (fun hg7B hg7 => ?_)) | (refine zbb 45 rfl (fun hg7B hg7 => ?_) (fun hg7B hg7 => ?_)) | (refine zbi 45 rfl (fun hg7B => ?_) (fun hg7B => ?_))
     ·
      refine gP (zab rfl rfl rfl hg7B) (zag rfl) rfl <| gP (zab rfl rfl rfl hg7B) (zag rfl) rfl <| gP (zab rfl rfl rfl hg7B) (zag rfl) rfl <| gP (zab rfl rfl rfl hg7B) (zae rfl) rfl <| gP (zab rfl rfl rfl hg7B) (zaa rfl ⟨_, _, _, Tryz.runUnderlying111, rfl, rfl, Tryz.sizeOf30, rfl⟩) rfl <| gV (zab rfl rfl rfl hg7B) (zbu (Ent.trans (t1_ eR) (za8 (Md.dev_is hd2).1)) (zah rfl foc0 rfl Tryz.isAgg30)) rfl <| RJ_gy (zab rfl rfl rfl hg7B) <| zaq (zey (rdNew (Md.dev_is hd2).1) zh1) rfl Tryz.call81 (Dels.cons del1 Dels.nil) rfl fun _ hc6 => RJ_gy (zab rfl rfl rfl hg7B) <| zaq (zjo (Md.dev_is hd2).1) rfl Tryz.call80 (Dels.cons del1 (Dels.cons del0 Dels.nil)) rfl fun _ hc7 => gP (zab rfl rfl rfl hg7B) (P_not rfl) rfl <| gP (zab rfl rfl rfl hg7B) (zag rfl) rfl ?_
      first | (refine zba 55 rfl (fun hg8B hg8 => ?_) (fun hg8B hg8 => ?_)) | (refine zbb 55 rfl (fun hg8B hg8 => ?_) (fun hg8B hg8 => ?_)) | (refine zbi 55 rfl (fun hg8B => ?_) (fun hg8B => ?_))
      ·
       refine RJ_gn (GY_no rfl rfl rfl hg8B) rfl rfl <| RJ_gn (GY_no rfl rfl rfl hg8B) rfl rfl <| RJ_gn (GY_no rfl rfl rfl hg8B) rfl rfl <| RJ_gn (GY_no rfl rfl rfl hg8B) rfl rfl <| RJ_gn (GY_no rfl rfl rfl hg8B) rfl rfl <| RJ_gn (GY_no rfl rfl rfl hg8B) rfl rfl <| RJ_gn (GY_no rfl rfl rfl hg8B) rfl rfl <| gP (zab rfl rfl rfl hg7B) (zas rfl hg8B rfl) rfl <| oP (zas rfl hg7B rfl) rfl <| oA rfl rfl <| nT <| za4 rfl rfl <| sR <| oA rfl rfl <| nT <| zai <| zaj <| zad <| zam (res1 Tryz.results34 rfl) ?_
       have e1 := (fun z => (⟨z, Md.rsS_no (by rw [z]; decide)⟩ : m.rsE n = 1 ∧ m.rsS n = m)) (Md.rs_fit hd2 (by simp_all) (by simp_all))
       rw [e1.2]
       refine CSpec.close c ?_ ?_ (t0_ (t0_ eR))
       · rw [e1.1]
       · rfl
      ·
       refine gP (zab rfl rfl rfl hg8B) (zag rfl) rfl <| gP (zab rfl rfl rfl hg8B) (zag rfl) rfl <| gP (zab rfl rfl rfl hg8B) (zae rfl) rfl <| gP (zab rfl rfl rfl hg8B) (zaa rfl ⟨_, _, _, Tryz.runUnderlying111, rfl, rfl, Tryz.sizeOf30, rfl⟩) rfl <| gV (zab rfl rfl rfl hg8B) (zbu (Ent.trans (t1_ eR) (za8 (Md.dev_is hd2).1)) (zah rfl foc0 rfl Tryz.isAgg30)) rfl <| RJ_gy (zab rfl rfl rfl hg8B) <| zaq (zk6 (rdNew hdk.1) (by omega) (fun x hx => ⟨fun hne => hO.nam _ hdk.1.1 hdk.1.2.1 x (List.mem_append.2 (.inr hx)) hne, zdi (hO.chk _).2 hx⟩)) rfl Tryz.call73 (Dels.cons del0 (Dels.cons del0 Dels.nil)) rfl fun _ hc8 => gP (zab rfl rfl rfl hg8B) (P_not rfl) rfl <| gP (zab rfl rfl rfl hg7B) (zay rfl hg8B rfl) rfl <| oP (zas rfl hg7B rfl) rfl <| oA rfl rfl <| nT ?_
       first | (refine zao rfl (fun hg9 => ?_) (fun hg9 => ?_)) | (refine zap rfl (fun hg9 => ?_) (fun hg9 => ?_)) | (refine zar rfl (fun hg9 => ?_) (fun hg9 => ?_))
       ·
        refine sR <| oA rfl rfl <| nT <| zai <| zaj <| zad <| zam (res1 Tryz.results34 rfl) ?_
        have e1 := (fun z => (⟨z, Md.rsS_no (by rw [z]; decide)⟩ : m.rsE n = 1 ∧ m.rsS n = m)) (Md.rs_fit hd2 (by simp_all) (by simp_all))
        rw [e1.2]
        refine CSpec.close c ?_ ?_ (t0_ (t0_ eR))
        · rw [e1.1]
        · rfl
       ·
        exact zbk <| zal <| cR () ⟨by simp_all, by simp_all⟩ True.intro (t0_ (t0_ eR))
     ·
      exact RJ_gn (GY_no rfl rfl rfl hg7B) rfl rfl <| RJ_gn (GY_no rfl rfl rfl hg7B) rfl rfl <| RJ_gn (GY_no rfl rfl rfl hg7B) rfl rfl <| RJ_gn (GY_no rfl rfl rfl hg7B) rfl rfl <| RJ_gn (GY_no rfl rfl rfl hg7B) rfl rfl <| RJ_gn (GY_no rfl rfl rfl hg7B) rfl rfl <| RJ_gn (GY_no rfl rfl rfl hg7B) rfl rfl <| RJ_gn (GY_no rfl rfl rfl hg7B) rfl rfl <| RJ_gn (GY_no rfl rfl rfl hg7B) rfl rfl <| RJ_gn (GY_no rfl rfl rfl hg7B) rfl rfl <| RJ_gn (zbq rfl rfl rfl) rfl rfl <| RJ_gn (zbq rfl rfl rfl) rfl rfl <| RJ_gn (zbq rfl rfl rfl) rfl rfl <| RJ_gn (zbq rfl rfl rfl) rfl rfl <| RJ_gn (zbq rfl rfl rfl) rfl rfl <| RJ_gn (zbq rfl rfl rfl) rfl rfl <| RJ_gn (zbq rfl rfl rfl) rfl rfl <| RJ_gn (GY_no rfl rfl rfl hg7B) rfl rfl <| oP (zay rfl hg7B rfl) rfl <| oA rfl rfl <| nT <| za5 rfl rfl <| zbk <| zal <| cR () ⟨by simp_all, by simp_all⟩ True.intro (t0_ (t0_ eR))
  ·
   intro _ hpf
   obtain ⟨hst, hft⟩ := hpf
   show CJ _ _ _ _ _ (([] : Slots) ++ forget _ _) (blk b 84 (zax c m) :: MapR c m :: _)
   refine zaf <| zaf ?_
   have hdk := Md.dev_is hd2
   have hch2 := zb0 (hO.chk k1).2
   have hwl := m.wait_le k1
   refine zbf (Ent.trans (t1_ eR) (za8 hdk.1)) <| zak <| oM rfl rfl <| oP (zae rfl) rfl <| oP (zaa rfl ⟨_, _, _, Tryz.runUnderlying111, rfl, rfl, Tryz.sizeOf4, rfl⟩) rfl <| oV (zah rfl foc0 rfl Tryz.isAgg4) rfl <| nT ?_
   first | (refine zao rfl (fun hg10 => ?_) (fun hg10 => ?_)) | (refine zap rfl (fun hg10 => ?_) (fun hg10 => ?_)) | (refine zar rfl (fun hg10 => ?_) (fun hg10 => ?_))
   ·
    refine sR <| oM rfl rfl <| oM rfl rfl <| oM rfl rfl <| oP (zae rfl) rfl <| oP (zaa rfl ⟨_, _, _, Tryz.runUnderlying111, rfl, rfl, Tryz.sizeOf30, rfl⟩) rfl <| oV (zah rfl foc0 rfl Tryz.isAgg30) rfl <| oP (zae rfl) rfl <| oP (zaa rfl ⟨_, _, _, Tryz.runUnderlying111, rfl, rfl, Tryz.sizeOf30, rfl⟩) rfl <| oO <| zbj rfl rfl foc0 rfl rfl Tryz.sizeOf30 <| oP (zae rfl) rfl <| oP (zaa rfl ⟨_, _, _, Tryz.runUnderlying111, rfl, rfl, Tryz.sizeOf4, rfl⟩) rfl <| oO <| zbj rfl rfl foc0 rfl rfl Tryz.sizeOf4 <| nT <| zak <| oM rfl rfl <| oM rfl rfl <| oP (zae rfl) rfl <| oP (zaa rfl ⟨_, _, _, Tryz.runUnderlying111, rfl, rfl, Tryz.sizeOf30, rfl⟩) rfl <| oO <| zbj rfl rfl foc0 rfl rfl Tryz.sizeOf30 <| oP (zae rfl) rfl <| oP (zaa rfl ⟨_, _, _, Tryz.runUnderlying111, rfl, rfl, Tryz.sizeOf4, rfl⟩) rfl <| oO <| zbj rfl rfl foc0 rfl rfl Tryz.sizeOf4 <| nT <| sR <| oM rfl rfl <| oP (zae rfl) rfl <| oP (zaa rfl ⟨_, _, _, Tryz.runUnderlying111, rfl, rfl, Tryz.sizeOf4, rfl⟩) rfl <| oO <| zbj rfl rfl foc0 rfl rfl Tryz.sizeOf4 <| nT <| sR <| oM rfl rfl <| oP (zae rfl) rfl <| oP (zaa rfl ⟨_, _, _, Tryz.runUnderlying111, rfl, rfl, Tryz.sizeOf109, rfl⟩) rfl <| oV (zah rfl foc0 rfl Tryz.isAgg109) rfl <| oA rfl rfl <| nT <| sR <| oM rfl rfl <| oP (zae rfl) rfl <| oP (zaa rfl ⟨_, _, _, Tryz.runUnderlying111, rfl, rfl, Tryz.sizeOf109, rfl⟩) rfl ?_
    refine oO <| zbj rfl rfl foc0 rfl rfl Tryz.sizeOf109 <| nT <| zaf <| zaf <| zbf (fun h hh => zb2 (t := tyErr) h hh) <| zbf (fun h hh => zb2 (t := tyapi_Target) h hh) ?_
    have he : m.rs0 k1 = m.set k1 { m.at k1 with live := (m.at k1).new, hl := true, new := [], hn := false, susp := false, wait := [] } := by unfold Md.rs0 Md.rsX; rw [if_pos (by assumption)]
    refine zbf (Ent.trans (t2_ (t3_ (t0_ (t0_ (t2_ eR))))) (zcy (h' := { c.hd k1 with lv := (c.hd k1).nw, nw := s3z, wt := s3z }) (d' := { m.at k1 with live := (m.at k1).new, hl := true, new := [], hn := false, susp := false, wait := [] }) (m' := (m.set k1 { m.at k1 with live := (m.at k1).new, hl := true, new := [], hn := false, susp := false, wait := [] })) hW hdk.1 rfl hdk.1.2.2 rfl rfl rfl (he ▸ Md.ok_rs0 hO hdk.1) (hW.big.set hdk.1.1 rfl (Nat.zero_le _) hW.big.tks hW.big.told hW.big.wr) rfl rfl)) ?_
    rw [← he]
    refine zak <| oM rfl rfl <| oV (V_len rfl foc2 (Reads.sl _ _ _) Tryz.runUnderlying109) rfl <| oM rfl rfl <| nT <| zat <| zbs (X := Nat × MH) [8, 9, 10, 97, 98, 99, 100, 101, 102, 103, 104, 105, 106, 107, 108, 109, 110, 111, 112, 113, 114, 115, 116, 117, 118, 119, 120, 121, 122, 123, 124, 125, 126, 127, 128, 129, 130, 131, 132, 133, 134, 135, 136, 137, 138, 139, 140, 141] (fun ⟨i, c2⟩  => ([(97, .int .i64 (i : Nat))] : Slots)) (fun ⟨i, c2⟩ R => sl tyErr (c.hd k1).wt.v ((m.at k1).wait.map (wC c2.bs)) :: blk b 84 (zax c2 (m.rsI k1 i)) :: MapR c2 (m.rsI k1 i) :: R) (fun ⟨i, c2⟩  => i ≤ (m.at k1).wait.length ∧ c2.bs = c.bs) (fun ⟨i, c2⟩  => (m.at k1).wait.length - i) ⟨0, (c.put k1 { c.hd k1 with lv := (c.hd k1).nw, nw := s3z, wt := s3z } { m.at k1 with live := (m.at k1).new, hl := true, new := [], hn := false, susp := false, wait := [] })⟩ ?_ ?_ (Ent.takeC del2 (congrArg (fun f => sl tyErr (c.hd k1).wt.v ((m.at k1).wait.map (wC f))) (show MH.bs (c.put k1 { c.hd k1 with lv := (c.hd k1).nw, nw := s3z, wt := s3z } { m.at k1 with live := (m.at k1).new, hl := true, new := [], hn := false, susp := false, wait := [] }) = c.bs from zds hW hdk.1 rfl).symm) (Ent.takeC del2 (by rw [Md.rsI_zero]; rfl) (Ent.takeC del0 (by rw [Md.rsI_zero]; rfl) (t0_ eR)))) ?_
    · exact ⟨Nat.zero_le _, zds hW hdk.1 rfl⟩
    · exact ⟨rfl, True.intro⟩
    ·
     rintro ⟨i, c2⟩ ⟨hi, hcb⟩
     show CJ _ _ _ _ _ (([(97, .int .i64 (i : Nat))] : Slots) ++ forget _ _) (sl tyErr (c.hd k1).wt.v ((m.at k1).wait.map (wC c2.bs)) :: blk b 84 (zax c2 (m.rsI k1 i)) :: MapR c2 (m.rsI k1 i) :: _)
     refine zbl (zb3 foc2) fun hW2 => ?_
     have hO2 := hW2.ok
     have hK := Md.rsI_K hi
     have hKt := hK.told
     have hKw := hK.wr
     have hKs := hK.wsum
     have hK0 := Md.rs0_wsum (m := m) hdk.1.1
     have hr0t : (m.rs0 k1).told = m.told := rfl
     have hr0w : (m.rs0 k1).wr = m.wr := rfl
     rw [hr0t] at hKt
     rw [hr0w] at hKw
     have hlm : ((m.at k1).wait.map (wC c2.bs)).length = (m.at k1).wait.length := by simp
     have hlm0 : ((m.at k1).wait.map (wC c.bs)).length = (m.at k1).wait.length := by simp
     refine sR <| oP (P_lss rfl rfl) rfl <| nT <| zaf ?_
     first | (refine zao rfl (fun hg11 => ?_) (fun hg11 => ?_)) | (refine zap rfl (fun hg11 => ?_) (fun hg11 => ?_)) | (refine zar rfl (fun hg11 => ?_) (fun hg11 => ?_))
     ·
      refine kT <| zaf <| zat <| zaf ?_
      have hi2 : i < (m.at k1).wait.length := by omega
      have hog := Md.org_at hO hdk.1.1 hi2
      have hgv := Md.rsI_isD hdk.1.1 hi hog.1
      refine zak ?_
      first | (refine RJ_op rfl (OJ_V (zan rfl rfl rfl (by omega) foc0 (Reads.sl _ _ _) Tryz.runUnderlying109 Tryz.sizeOf135) rfl ?_)) | (refine RJ_op rfl (OJ_V (zan rfl rfl (Int.toNat_of_nonneg (by omega)).symm (by omega) foc0 (Reads.sl _ _ _) Tryz.runUnderlying109 Tryz.sizeOf135) rfl ?_))
      refine oV (VJ_eq (zcd rfl rfl (by omega) foc0 (Reads.sl _ _ _) rfl rfl Tryz.isAgg135 Tryz.sizeOf135) (znd hi2)) rfl <| oO <| zb1 Tryz.zeroValue135 rfl rfl fun b9 => oO <| zbn rfl rfl foc0 Tryz.sizeOf135 rfl rfl rfl <| nT <| zaf <| sR <| oM rfl rfl <| oP (zaa rfl ⟨_, _, _, Tryz.runUnderlying135, rfl, rfl, Tryz.sizeOf85, rfl⟩) rfl <| oV (zah rfl foc0 rfl Tryz.isAgg85) rfl <| oP (zaa rfl ⟨_, _, _, Tryz.runUnderlying135, rfl, rfl, Tryz.sizeOf33, rfl⟩) rfl <| oV (zbh rfl foc0 Tryz.isAgg33 Tryz.sizeOf33 rfl rfl) rfl <| oO <| zaq (zf5 (t := ((m.at k1).wait.getD i Wt.z).t) hgv) rfl Tryz.call78 (Dels.cons del2 (Dels.cons del2 Dels.nil)) rfl fun _ hc10 => oA rfl rfl <| nT <| sR <| oM rfl rfl <| oP (zfu rfl rfl Tryz.underlying85) rfl <| nT ?_
      first | (refine zao rfl (fun hg12 => ?_) (fun hg12 => ?_)) | (refine zap rfl (fun hg12 => ?_) (fun hg12 => ?_)) | (refine zar rfl (fun hg12 => ?_) (fun hg12 => ?_))
      ·
       refine zaf ?_
       obtain ⟨w, hw0⟩ := Option.isSome_iff_exists.1 (show ((m.rsI k1 i).wayk ((m.at k1).wait.getD i Wt.z).gv ((m.at k1).wait.getD i Wt.z).t).isSome = true by assumption)
       have hwD : (m.rsI k1 i).isD w := by have := Md.way_is hO2 _ _ _ _ hgv.1 hgv.2.1 hw0; exact ⟨this.1, this.2.1, this.2.2.1⟩
       rw [hw0]
       have hwle := (m.rsI k1 i).wait_le w
       refine zbf (Ent.trans (t1_ eR) (za8 hwD)) <| za0 1152 (by kernel_rfl) rfl <| aN 0 1 rfl rfl (zag rfl) rfl <| aN 1 3 rfl rfl (zag rfl) rfl <| aN 2 7 rfl rfl (zae rfl) rfl <| aN 3 15 rfl rfl (zaa rfl ⟨_, _, _, Tryz.runUnderlying111, rfl, rfl, Tryz.sizeOf109, rfl⟩) rfl <| aV 4 31 rfl rfl (zac rfl) (t0_ (t0_ (t0_ (t0_ (t0_ (t0_ (t0_ (t0_ (t0_ eR))))))))) (zah rfl foc0 rfl Tryz.isAgg109) rfl <| aV 5 63 rfl rfl (zac rfl) (t0_ (t0_ (t0_ (t0_ (t0_ (t0_ (t0_ (t0_ (t0_ eR))))))))) (zbh rfl foc6 Tryz.isAgg135 Tryz.sizeOf135 rfl rfl) rfl <| AJ_op 6 127 rfl (by kernel_rfl) rfl (zac rfl) <| zbe rfl (zhj _ _ _ _ _) rfl fun b11 => ⟨fun _ => (t1_ (t1_ (t1_ (t1_ (t1_ (t1_ (t1_ (t1_ (t1_ (eD eR)))))))))), ?_⟩
       refine AJ_op 7 255 rfl (by kernel_rfl) rfl (zac rfl) <| zbv (t := tyErr) (bytes := 40) rfl rfl del4 foc0 (Reads.lit (t := tyErr) (ys := [⟨(((m.at k1).wait.getD i Wt.z).tk : Int), c2.bs ((m.at k1).wait.getD i Wt.z).gv, ((m.at k1).wait.getD i Wt.z).t⟩]) rfl rfl (by decide) (by decide) rfl) Tryz.underlying109 zgv (by simp only [List.length_append, List.length_map, List.length_cons, List.length_nil, maxLen] at *; omega) (by simp only [List.length_append, List.length_map, List.length_cons, List.length_nil, maxLen] at *; omega) rfl fun p12 c13 => ⟨fun h => absurd h (by decide), ?_⟩
       refine aN 8 511 rfl rfl (zae rfl) rfl <| aN 9 1023 rfl rfl (zaa rfl ⟨_, _, _, Tryz.runUnderlying111, rfl, rfl, Tryz.sizeOf109, rfl⟩) rfl <| AJ_op 10 2047 rfl (by kernel_rfl) rfl (zac rfl) <| zbj rfl rfl foc2 rfl rfl Tryz.sizeOf109 <| ⟨fun h => absurd h (by decide), ?_⟩
       refine aD <| zbt <| za6 <| za1 <| zav <| zak <| oP (P_add rfl rfl (by omega)) rfl <| oM rfl rfl <| za9 ?_
       have he2 : m.rsI k1 (i + 1) = (m.rsI k1 i).addW w ((m.at k1).wait.getD i Wt.z) := by rw [Md.rsI_succ hi2, Md.rsT_way hw0]
       refine zbg ⟨i + 1, (c2.put w { c2.hd w with wt := ⟨p12, _, c13⟩ } { (m.rsI k1 i).at w with wait := ((m.rsI k1 i).at w).wait ++ [((m.at k1).wait.getD i Wt.z)] })⟩ (by show (m.at k1).wait.length - (i + 1) < (m.at k1).wait.length - i; omega) ?_ (by repeat (first | exact Kp.base | exact Kp.self | refine Kp.cons rfl ?_ | refine Kp.forget rfl ?_)) ?_ (Ent.trans (Ent.trans (t2_ (t2_ (t2_ (Ent.takeC del0 (by rw [List.map_append]; rfl) (t1_ eR))))) (zcy (h' := { c2.hd w with wt := ⟨p12, _, c13⟩ }) (d' := { (m.rsI k1 i).at w with wait := ((m.rsI k1 i).at w).wait ++ [((m.at k1).wait.getD i Wt.z)] }) (m' := (m.rsI k1 i).addW w ((m.at k1).wait.getD i Wt.z)) hW2 hwD rfl hwD.2.2 rfl rfl rfl (Md.ok_addW hO2 hwD ⟨hgv.1, hgv.2.1, hgv.2.2, hog.2⟩) (hW2.big.set hwD.1 rfl (by show (((m.rsI k1 i).at w).wait ++ _).length ≤ _; rw [List.length_append]; have := (m.rsI k1 i).wait_le w; simp; omega) hW2.big.tks hW2.big.told hW2.big.wr) rfl rfl)) (Ent.takeC del4 (congrArg (fun f => sl tyErr (c.hd k1).wt.v ((m.at k1).wait.map (wC f))) (show MH.bs (c2.put w { c2.hd w with wt := ⟨p12, _, c13⟩ } { (m.rsI k1 i).at w with wait := ((m.rsI k1 i).at w).wait ++ [((m.at k1).wait.getD i Wt.z)] }) = c2.bs from zds hW2 hwD rfl).symm) (Ent.takeC del2 (by rw [he2] <;> rfl) (Ent.takeC del0 (by rw [he2] <;> rfl) (t2_ (eD (eD eR)))))))
       ·
        refine ⟨by omega, Eq.trans (zds hW2 hwD ?_) hcb⟩
        rfl
       · exact ⟨rfl, True.intro⟩
      ·
       refine kT <| zaf ?_
       have hnw : (m.rsI k1 i).wayk ((m.at k1).wait.getD i Wt.z).gv ((m.at k1).wait.getD i Wt.z).t = none := by simpa using (show ((m.rsI k1 i).wayk ((m.at k1).wait.getD i Wt.z).gv ((m.at k1).wait.getD i Wt.z).t).isSome = false by assumption)
       refine za0 1280 (by kernel_rfl) rfl <| aN 0 1 rfl rfl (zag rfl) rfl <| aN 1 3 rfl rfl (zaa rfl ⟨_, _, _, Tryz.runUnderlying135, rfl, rfl, Tryz.sizeOf85, rfl⟩) rfl <| aV 2 7 rfl rfl (zac rfl) (t0_ (t0_ (t0_ (t0_ (t0_ eR))))) (zah rfl foc2 rfl Tryz.isAgg85) rfl <| aN 3 15 rfl rfl (zae rfl) rfl <| aN 4 31 rfl rfl (zaa rfl ⟨_, _, _, Tryz.runUnderlying111, rfl, rfl, Tryz.sizeOf9, rfl⟩) rfl <| aV 5 63 rfl rfl (zac rfl) (t0_ (t0_ (t0_ (t0_ (t0_ eR))))) (zbu (Ent.trans (t1_ eR) (za8 hgv)) (zah rfl foc0 rfl Tryz.isAgg9)) rfl <| aN 6 127 rfl rfl (zaa rfl ⟨_, _, _, Tryz.runUnderlying135, rfl, rfl, Tryz.sizeOf33, rfl⟩) rfl <| aV 7 255 rfl rfl (zac rfl) (t0_ (t0_ (t0_ (t0_ (t0_ eR))))) (zbh rfl foc2 Tryz.isAgg33 Tryz.sizeOf33 rfl rfl) rfl <| zgf 8 9 511 767 rfl rfl (by kernel_rfl) rfl rfl (zac rfl) (zac rfl) (zaq ((zc9 (nm := ((m.rsI k1 i).at ((m.at k1).wait.getD i Wt.z).gv).name) (t := ((m.at k1).wait.getD i Wt.z).t) (by omega) hog.2.2.2 (by rw [Md.at_find hO2 hgv.1 hgv.2.1]; rfl) ⟨hog.2.1, hog.2.2.1⟩)) rfl Tryz.call82 (Dels.cons del0 (Dels.cons del0 Dels.nil)) rfl (fun c9 h9 => ?_)) (zb1 Tryz.zeroValue51 rfl rfl (fun b15 => ?_))
       ·
        refine ⟨fun h => absurd h (by decide), ?_⟩
        refine zgy 9 1023 rfl (by kernel_rfl) rfl (zac rfl) Tryz.zeroValue51 rfl rfl fun b16 => AJ_op 10 2047 rfl (by kernel_rfl) rfl (zac rfl) <| zbn rfl rfl foc0 Tryz.sizeOf51 rfl rfl rfl <| ⟨fun h => absurd h (by decide), ?_⟩
        refine aD <| zaf <| zbf (t0_ (Ent.takeC del0 (congrArg (blk b 84) h9.1.symm) (t0_ (t0_ (t0_ (t0_ eR)))))) <| zak <| oP (zaa rfl ⟨_, _, _, Tryz.runUnderlying135, rfl, rfl, Tryz.sizeOf3, rfl⟩) rfl <| oV (zah rfl foc3 rfl Tryz.isAgg3) rfl <| oP (zaa rfl ⟨_, _, _, Tryz.runUnderlying51, rfl, rfl, Tryz.sizeOf3, rfl⟩) rfl <| oO <| zbj rfl rfl foc0 rfl rfl Tryz.sizeOf3 <| nT <| zbf (Ent.trans (t2_ eR) zem) ?_
        have hto9 : ((m.rsI k1 i).carryN ((m.rsI k1 i).dv.length + 1) ((m.rsI k1 i).at ((m.at k1).wait.getD i Wt.z).gv).name ((m.at k1).wait.getD i Wt.z).t).2.told = (m.rsI k1 i).told := by rw [zb7 hO2 hgv.1 hgv.2.1]; exact (Md.carry_kept _ _ _).told
        have hto8 := congrArg List.length hto9
        refine za0 1152 (by kernel_rfl) rfl <| aN 0 1 rfl rfl (zag rfl) rfl <| aN 1 3 rfl rfl (zag rfl) rfl <| aN 2 7 rfl rfl (zae rfl) rfl <| aN 3 15 rfl rfl (zaa rfl ⟨_, _, _, Tryz.runUnderlying84, rfl, rfl, Tryz.sizeOf54, rfl⟩) rfl <| aV 4 31 rfl rfl (zac rfl) (t0_ (t0_ (t0_ (t0_ (t0_ (t0_ (t0_ eR))))))) (zah rfl foc3 rfl Tryz.isAgg54) rfl <| aV 5 63 rfl rfl (zac rfl) (t0_ (t0_ (t0_ (t0_ (t0_ (t0_ (t0_ eR))))))) (zbh rfl foc2 Tryz.isAgg51 Tryz.sizeOf51 rfl rfl) rfl <| AJ_op 6 127 rfl (by kernel_rfl) rfl (zac rfl) <| zbe rfl (zfd _ _ _ _) rfl fun b17 => ⟨fun _ => (t1_ (t1_ (t1_ (t1_ (t1_ (t1_ (t1_ (eD eR)))))))), ?_⟩
        refine AJ_op 7 255 rfl (by kernel_rfl) rfl (zac rfl) <| zbv (t := zau) (bytes := 32) rfl rfl del1 foc0 (Reads.lit (t := zau) (ys := [⟨true, (((m.at k1).wait.getD i Wt.z).tk : Int), (ansN (m.rsI k1 i) ((m.rsI k1 i).at ((m.at k1).wait.getD i Wt.z).gv).name ((m.at k1).wait.getD i Wt.z).t).Value, (ansN (m.rsI k1 i) ((m.rsI k1 i).at ((m.at k1).wait.getD i Wt.z).gv).name ((m.at k1).wait.getD i Wt.z).t).Error⟩]) rfl rfl (by decide) (by decide) rfl) Tryz.underlying54 zcm (by simp only [List.length_append, List.length_map, List.length_cons, List.length_nil, maxLen] at *; omega) (by simp only [List.length_append, List.length_map, List.length_cons, List.length_nil, maxLen] at *; omega) rfl fun p18 c19 => ⟨fun h => absurd h (by decide), ?_⟩
        refine aN 8 511 rfl rfl (zae rfl) rfl <| aN 9 1023 rfl rfl (zaa rfl ⟨_, _, _, Tryz.runUnderlying84, rfl, rfl, Tryz.sizeOf54, rfl⟩) rfl <| AJ_op 10 2047 rfl (by kernel_rfl) rfl (zac rfl) <| zbj rfl rfl foc4 rfl rfl Tryz.sizeOf54 <| ⟨fun h => absurd h (by decide), ?_⟩
        refine zcz (by kernel_rfl) <| zal <| zav <| zak <| oP (P_add rfl rfl (by omega)) rfl <| oM rfl rfl <| za9 ?_
        have he2 : m.rsI k1 (i + 1) = { { ((m.rsI k1 i).carryN ((m.rsI k1 i).dv.length + 1) ((m.rsI k1 i).at ((m.at k1).wait.getD i Wt.z).gv).name ((m.at k1).wait.getD i Wt.z).t).2 with told := [] } with told := ((m.rsI k1 i).carryN ((m.rsI k1 i).dv.length + 1) ((m.rsI k1 i).at ((m.at k1).wait.getD i Wt.z).gv).name ((m.at k1).wait.getD i Wt.z).t).2.told ++ [⟨true, (((m.at k1).wait.getD i Wt.z).tk : Int), (ansN (m.rsI k1 i) ((m.rsI k1 i).at ((m.at k1).wait.getD i Wt.z).gv).name ((m.at k1).wait.getD i Wt.z).t).Value, (ansN (m.rsI k1 i) ((m.rsI k1 i).at ((m.at k1).wait.getD i Wt.z).gv).name ((m.at k1).wait.getD i Wt.z).t).Error⟩] } := by
          unfold ansN
          rw [Md.rsI_succ hi2, Md.rsT_go hnw, zb7 hO2 hgv.1 hgv.2.1]
        have htl9 : (((m.rsI k1 i).carryN ((m.rsI k1 i).dv.length + 1) ((m.rsI k1 i).at ((m.at k1).wait.getD i Wt.z).gv).name ((m.at k1).wait.getD i Wt.z).t).2.told ++ [(⟨true, (((m.at k1).wait.getD i Wt.z).tk : Int), (ansN (m.rsI k1 i) ((m.rsI k1 i).at ((m.at k1).wait.getD i Wt.z).gv).name ((m.at k1).wait.getD i Wt.z).t).Value, (ansN (m.rsI k1 i) ((m.rsI k1 i).at ((m.at k1).wait.getD i Wt.z).gv).name ((m.at k1).wait.getD i Wt.z).t).Error⟩ : api_Answer)]).length ≤ 100000000 := by rw [List.length_append, hto9]; simp; omega
        refine zbg ⟨i + 1, { { c9 with tv := s3z } with tv := ⟨p18, (((m.rsI k1 i).carryN ((m.rsI k1 i).dv.length + 1) ((m.rsI k1 i).at ((m.at k1).wait.getD i Wt.z).gv).name ((m.at k1).wait.getD i Wt.z).t).2.told ++ [(⟨true, (((m.at k1).wait.getD i Wt.z).tk : Int), (ansN (m.rsI k1 i) ((m.rsI k1 i).at ((m.at k1).wait.getD i Wt.z).gv).name ((m.at k1).wait.getD i Wt.z).t).Value, (ansN (m.rsI k1 i) ((m.rsI k1 i).at ((m.at k1).wait.getD i Wt.z).gv).name ((m.at k1).wait.getD i Wt.z).t).Error⟩ : api_Answer)]).length, c19⟩ }⟩ (by show (m.at k1).wait.length - (i + 1) < (m.at k1).wait.length - i; omega) ?_ (by repeat (first | exact Kp.base | exact Kp.self | refine Kp.cons rfl ?_ | refine Kp.forget rfl ?_)) ?_ (Ent.trans (Ent.trans (t0_ (t1_ eR)) (ze4 (tv := ⟨p18, (((m.rsI k1 i).carryN ((m.rsI k1 i).dv.length + 1) ((m.rsI k1 i).at ((m.at k1).wait.getD i Wt.z).gv).name ((m.at k1).wait.getD i Wt.z).t).2.told ++ [(⟨true, (((m.at k1).wait.getD i Wt.z).tk : Int), (ansN (m.rsI k1 i) ((m.rsI k1 i).at ((m.at k1).wait.getD i Wt.z).gv).name ((m.at k1).wait.getD i Wt.z).t).Value, (ansN (m.rsI k1 i) ((m.rsI k1 i).at ((m.at k1).wait.getD i Wt.z).gv).name ((m.at k1).wait.getD i Wt.z).t).Error⟩ : api_Answer)]).length, c19⟩) htl9)) (Ent.takeC del5 (by exact congrArg (fun f => sl tyErr (c.hd k1).wt.v ((m.at k1).wait.map (wC f))) h9.2.symm) (Ent.takeC del3 (by rw [he2] <;> rfl) (Ent.takeC del0 (by rw [he2] <;> rfl) (t3_ (eD (eD (eD eR))))))))
        · exact ⟨by omega, h9.2.trans hcb⟩
        · exact ⟨rfl, True.intro⟩
       ·
        refine ⟨fun _ => (t1_ (t1_ (t1_ (t1_ (t1_ (eD eR)))))), ?_⟩
        refine AJ_op 8 1023 rfl (by kernel_rfl) rfl (zac rfl) <| zaq ((zc9 (nm := ((m.rsI k1 i).at ((m.at k1).wait.getD i Wt.z).gv).name) (t := ((m.at k1).wait.getD i Wt.z).t) (by omega) hog.2.2.2 (by rw [Md.at_find hO2 hgv.1 hgv.2.1]; rfl) ⟨hog.2.1, hog.2.2.1⟩)) rfl Tryz.call82 (Dels.cons del1 (Dels.cons del1 Dels.nil)) rfl fun c9 h9 => ⟨fun h => absurd h (by decide), ?_⟩
        refine AJ_op 10 2047 rfl (by kernel_rfl) rfl (zac rfl) <| zbn rfl rfl foc2 Tryz.sizeOf51 rfl rfl rfl <| ⟨fun h => absurd h (by decide), ?_⟩
        refine aD <| zaf <| zbf (Ent.takeC del0 (congrArg (blk b 84) h9.1.symm) (t0_ (t0_ (t0_ (t0_ (t0_ eR)))))) <| zak <| oP (zaa rfl ⟨_, _, _, Tryz.runUnderlying135, rfl, rfl, Tryz.sizeOf3, rfl⟩) rfl <| oV (zah rfl foc3 rfl Tryz.isAgg3) rfl <| oP (zaa rfl ⟨_, _, _, Tryz.runUnderlying51, rfl, rfl, Tryz.sizeOf3, rfl⟩) rfl <| oO <| zbj rfl rfl foc2 rfl rfl Tryz.sizeOf3 <| nT <| zbf (Ent.trans (t1_ eR) zem) ?_
        have hto9 : ((m.rsI k1 i).carryN ((m.rsI k1 i).dv.length + 1) ((m.rsI k1 i).at ((m.at k1).wait.getD i Wt.z).gv).name ((m.at k1).wait.getD i Wt.z).t).2.told = (m.rsI k1 i).told := by rw [zb7 hO2 hgv.1 hgv.2.1]; exact (Md.carry_kept _ _ _).told
        have hto8 := congrArg List.length hto9
        refine za0 1152 (by kernel_rfl) rfl <| aN 0 1 rfl rfl (zag rfl) rfl <| aN 1 3 rfl rfl (zag rfl) rfl <| aN 2 7 rfl rfl (zae rfl) rfl <| aN 3 15 rfl rfl (zaa rfl ⟨_, _, _, Tryz.runUnderlying84, rfl, rfl, Tryz.sizeOf54, rfl⟩) rfl <| aV 4 31 rfl rfl (zac rfl) (t0_ (t0_ (t0_ (t0_ (t0_ (t0_ (t0_ eR))))))) (zah rfl foc2 rfl Tryz.isAgg54) rfl <| aV 5 63 rfl rfl (zac rfl) (t0_ (t0_ (t0_ (t0_ (t0_ (t0_ (t0_ eR))))))) (zbh rfl foc3 Tryz.isAgg51 Tryz.sizeOf51 rfl rfl) rfl <| AJ_op 6 127 rfl (by kernel_rfl) rfl (zac rfl) <| zbe rfl (zfd _ _ _ _) rfl fun b21 => ⟨fun _ => (t1_ (t1_ (t1_ (t1_ (t1_ (t1_ (t1_ (eD eR)))))))), ?_⟩
        refine AJ_op 7 255 rfl (by kernel_rfl) rfl (zac rfl) <| zbv (t := zau) (bytes := 32) rfl rfl del1 foc0 (Reads.lit (t := zau) (ys := [⟨true, (((m.at k1).wait.getD i Wt.z).tk : Int), (ansN (m.rsI k1 i) ((m.rsI k1 i).at ((m.at k1).wait.getD i Wt.z).gv).name ((m.at k1).wait.getD i Wt.z).t).Value, (ansN (m.rsI k1 i) ((m.rsI k1 i).at ((m.at k1).wait.getD i Wt.z).gv).name ((m.at k1).wait.getD i Wt.z).t).Error⟩]) rfl rfl (by decide) (by decide) rfl) Tryz.underlying54 zcm (by simp only [List.length_append, List.length_map, List.length_cons, List.length_nil, maxLen] at *; omega) (by simp only [List.length_append, List.length_map, List.length_cons, List.length_nil, maxLen] at *; omega) rfl fun p22 c23 => ⟨fun h => absurd h (by decide), ?_⟩
        refine aN 8 511 rfl rfl (zae rfl) rfl <| aN 9 1023 rfl rfl (zaa rfl ⟨_, _, _, Tryz.runUnderlying84, rfl, rfl, Tryz.sizeOf54, rfl⟩) rfl <| AJ_op 10 2047 rfl (by kernel_rfl) rfl (zac rfl) <| zbj rfl rfl foc3 rfl rfl Tryz.sizeOf54 <| ⟨fun h => absurd h (by decide), ?_⟩
        refine zcz (by kernel_rfl) <| zal <| zav <| zak <| oP (P_add rfl rfl (by omega)) rfl <| oM rfl rfl <| za9 ?_
        have he2 : m.rsI k1 (i + 1) = { { ((m.rsI k1 i).carryN ((m.rsI k1 i).dv.length + 1) ((m.rsI k1 i).at ((m.at k1).wait.getD i Wt.z).gv).name ((m.at k1).wait.getD i Wt.z).t).2 with told := [] } with told := ((m.rsI k1 i).carryN ((m.rsI k1 i).dv.length + 1) ((m.rsI k1 i).at ((m.at k1).wait.getD i Wt.z).gv).name ((m.at k1).wait.getD i Wt.z).t).2.told ++ [⟨true, (((m.at k1).wait.getD i Wt.z).tk : Int), (ansN (m.rsI k1 i) ((m.rsI k1 i).at ((m.at k1).wait.getD i Wt.z).gv).name ((m.at k1).wait.getD i Wt.z).t).Value, (ansN (m.rsI k1 i) ((m.rsI k1 i).at ((m.at k1).wait.getD i Wt.z).gv).name ((m.at k1).wait.getD i Wt.z).t).Error⟩] } := by
          unfold ansN
          rw [Md.rsI_succ hi2, Md.rsT_go hnw, zb7 hO2 hgv.1 hgv.2.1]
        have htl9 : (((m.rsI k1 i).carryN ((m.rsI k1 i).dv.length + 1) ((m.rsI k1 i).at ((m.at k1).wait.getD i Wt.z).gv).name ((m.at k1).wait.getD i Wt.z).t).2.told ++ [(⟨true, (((m.at k1).wait.getD i Wt.z).tk : Int), (ansN (m.rsI k1 i) ((m.rsI k1 i).at ((m.at k1).wait.getD i Wt.z).gv).name ((m.at k1).wait.getD i Wt.z).t).Value, (ansN (m.rsI k1 i) ((m.rsI k1 i).at ((m.at k1).wait.getD i Wt.z).gv).name ((m.at k1).wait.getD i Wt.z).t).Error⟩ : api_Answer)]).length ≤ 100000000 := by rw [List.length_append, hto9]; simp; omega
        refine zbg ⟨i + 1, { { c9 with tv := s3z } with tv := ⟨p22, (((m.rsI k1 i).carryN ((m.rsI k1 i).dv.length + 1) ((m.rsI k1 i).at ((m.at k1).wait.getD i Wt.z).gv).name ((m.at k1).wait.getD i Wt.z).t).2.told ++ [(⟨true, (((m.at k1).wait.getD i Wt.z).tk : Int), (ansN (m.rsI k1 i) ((m.rsI k1 i).at ((m.at k1).wait.getD i Wt.z).gv).name ((m.at k1).wait.getD i Wt.z).t).Value, (ansN (m.rsI k1 i) ((m.rsI k1 i).at ((m.at k1).wait.getD i Wt.z).gv).name ((m.at k1).wait.getD i Wt.z).t).Error⟩ : api_Answer)]).length, c23⟩ }⟩ (by show (m.at k1).wait.length - (i + 1) < (m.at k1).wait.length - i; omega) ?_ (by repeat (first | exact Kp.base | exact Kp.self | refine Kp.cons rfl ?_ | refine Kp.forget rfl ?_)) ?_ (Ent.trans (Ent.trans (t0_ (t1_ eR)) (ze4 (tv := ⟨p22, (((m.rsI k1 i).carryN ((m.rsI k1 i).dv.length + 1) ((m.rsI k1 i).at ((m.at k1).wait.getD i Wt.z).gv).name ((m.at k1).wait.getD i Wt.z).t).2.told ++ [(⟨true, (((m.at k1).wait.getD i Wt.z).tk : Int), (ansN (m.rsI k1 i) ((m.rsI k1 i).at ((m.at k1).wait.getD i Wt.z).gv).name ((m.at k1).wait.getD i Wt.z).t).Value, (ansN (m.rsI k1 i) ((m.rsI k1 i).at ((m.at k1).wait.getD i Wt.z).gv).name ((m.at k1).wait.getD i Wt.z).t).Error⟩ : api_Answer)]).length, c23⟩) htl9)) (Ent.takeC del5 (by exact congrArg (fun f => sl tyErr (c.hd k1).wt.v ((m.at k1).wait.map (wC f))) h9.2.symm) (Ent.takeC del2 (by rw [he2] <;> rfl) (Ent.takeC del0 (by rw [he2] <;> rfl) (t3_ (eD (eD (eD eR))))))))
        · exact ⟨by omega, h9.2.trans hcb⟩
        · exact ⟨rfl, True.intro⟩
     ·
      refine zbt <| za6 <| za7 <| za1 <| zav <| sR <| oA rfl rfl <| nT <| zai <| zam (res1 Tryz.results34 rfl) ?_
      obtain rfl : i = (m.at k1).wait.length := by omega
      have e1 := Md.rs_ok hd2 hst hft
      rw [e1.2, ← Md.rsI_end]
      refine CSpec.close c2 ?_ ?_ (t1_ (t1_ (eD (eD eR))))
      · rw [e1.1]
      · exact hcb
   ·
    refine kT <| sR <| oM rfl rfl <| oP (zae rfl) rfl <| oP (zaa rfl ⟨_, _, _, Tryz.runUnderlying111, rfl, rfl, Tryz.sizeOf4, rfl⟩) rfl <| oO <| zbj rfl rfl foc0 rfl rfl Tryz.sizeOf4 <| nT <| sR <| oM rfl rfl <| oP (zae rfl) rfl <| oP (zaa rfl ⟨_, _, _, Tryz.runUnderlying111, rfl, rfl, Tryz.sizeOf109, rfl⟩) rfl <| oV (zah rfl foc0 rfl Tryz.isAgg109) rfl <| oA rfl rfl <| nT <| sR <| oM rfl rfl <| oP (zae rfl) rfl <| oP (zaa rfl ⟨_, _, _, Tryz.runUnderlying111, rfl, rfl, Tryz.sizeOf109, rfl⟩) rfl <| oO <| zbj rfl rfl foc0 rfl rfl Tryz.sizeOf109 <| nT <| zaf <| zaf <| zbf (fun h hh => zb2 (t := tyErr) h hh) ?_
    have he : m.rs0 k1 = m.set k1 { m.at k1 with susp := false, wait := [] } := by unfold Md.rs0 Md.rsX; rw [if_neg (by simp_all)]
    refine zbf (Ent.trans (t1_ (t1_ (t1_ (t0_ (t1_ eR))))) (zcy (h' := { c.hd k1 with wt := s3z }) (d' := { m.at k1 with susp := false, wait := [] }) (m' := (m.set k1 { m.at k1 with susp := false, wait := [] })) hW hdk.1 rfl hdk.1.2.2 rfl rfl rfl (he ▸ Md.ok_rs0 hO hdk.1) (hW.big.set hdk.1.1 rfl (Nat.zero_le _) hW.big.tks hW.big.told hW.big.wr) rfl rfl)) ?_
    rw [← he]
    refine zak <| oM rfl rfl <| oV (V_len rfl foc1 (Reads.sl _ _ _) Tryz.runUnderlying109) rfl <| oM rfl rfl <| nT <| zat <| zbs (X := Nat × MH) [8, 9, 10, 97, 98, 99, 100, 101, 102, 103, 104, 105, 106, 107, 108, 109, 110, 111, 112, 113, 114, 115, 116, 117, 118, 119, 120, 121, 122, 123, 124, 125, 126, 127, 128, 129, 130, 131, 132, 133, 134, 135, 136, 137, 138, 139, 140, 141] (fun ⟨i, c2⟩  => ([(97, .int .i64 (i : Nat))] : Slots)) (fun ⟨i, c2⟩ R => sl tyErr (c.hd k1).wt.v ((m.at k1).wait.map (wC c2.bs)) :: blk b 84 (zax c2 (m.rsI k1 i)) :: MapR c2 (m.rsI k1 i) :: R) (fun ⟨i, c2⟩  => i ≤ (m.at k1).wait.length ∧ c2.bs = c.bs) (fun ⟨i, c2⟩  => (m.at k1).wait.length - i) ⟨0, (c.put k1 { c.hd k1 with wt := s3z } { m.at k1 with susp := false, wait := [] })⟩ ?_ ?_ (Ent.takeC del1 (congrArg (fun f => sl tyErr (c.hd k1).wt.v ((m.at k1).wait.map (wC f))) (show MH.bs (c.put k1 { c.hd k1 with wt := s3z } { m.at k1 with susp := false, wait := [] }) = c.bs from zds hW hdk.1 rfl).symm) (Ent.takeC del1 (by rw [Md.rsI_zero]; rfl) (Ent.takeC del0 (by rw [Md.rsI_zero]; rfl) eR))) ?_
    · exact ⟨Nat.zero_le _, zds hW hdk.1 rfl⟩
    · exact ⟨rfl, True.intro⟩
    ·
     rintro ⟨i, c2⟩ ⟨hi, hcb⟩
     show CJ _ _ _ _ _ (([(97, .int .i64 (i : Nat))] : Slots) ++ forget _ _) (sl tyErr (c.hd k1).wt.v ((m.at k1).wait.map (wC c2.bs)) :: blk b 84 (zax c2 (m.rsI k1 i)) :: MapR c2 (m.rsI k1 i) :: _)
     refine zbl (zb3 foc2) fun hW2 => ?_
     have hO2 := hW2.ok
     have hK := Md.rsI_K hi
     have hKt := hK.told
     have hKw := hK.wr
     have hKs := hK.wsum
     have hK0 := Md.rs0_wsum (m := m) hdk.1.1
     have hr0t : (m.rs0 k1).told = m.told := rfl
     have hr0w : (m.rs0 k1).wr = m.wr := rfl
     rw [hr0t] at hKt
     rw [hr0w] at hKw
     have hlm : ((m.at k1).wait.map (wC c2.bs)).length = (m.at k1).wait.length := by simp
     have hlm0 : ((m.at k1).wait.map (wC c.bs)).length = (m.at k1).wait.length := by simp
     refine sR <| oP (P_lss rfl rfl) rfl <| nT <| zaf ?_
     first | (refine zao rfl (fun hg13 => ?_) (fun hg13 => ?_)) | (refine zap rfl (fun hg13 => ?_) (fun hg13 => ?_)) | (refine zar rfl (fun hg13 => ?_) (fun hg13 => ?_))
     ·
      refine kT <| zaf <| zat <| zaf ?_
      have hi2 : i < (m.at k1).wait.length := by omega
      have hog := Md.org_at hO hdk.1.1 hi2
      have hgv := Md.rsI_isD hdk.1.1 hi hog.1
      refine zak ?_
      first | (refine RJ_op rfl (OJ_V (zan rfl rfl rfl (by omega) foc0 (Reads.sl _ _ _) Tryz.runUnderlying109 Tryz.sizeOf135) rfl ?_)) | (refine RJ_op rfl (OJ_V (zan rfl rfl (Int.toNat_of_nonneg (by omega)).symm (by omega) foc0 (Reads.sl _ _ _) Tryz.runUnderlying109 Tryz.sizeOf135) rfl ?_))
      refine oV (VJ_eq (zcd rfl rfl (by omega) foc0 (Reads.sl _ _ _) rfl rfl Tryz.isAgg135 Tryz.sizeOf135) (znd hi2)) rfl <| oO <| zb1 Tryz.zeroValue135 rfl rfl fun b24 => oO <| zbn rfl rfl foc0 Tryz.sizeOf135 rfl rfl rfl <| nT <| zaf <| sR <| oM rfl rfl <| oP (zaa rfl ⟨_, _, _, Tryz.runUnderlying135, rfl, rfl, Tryz.sizeOf85, rfl⟩) rfl <| oV (zah rfl foc0 rfl Tryz.isAgg85) rfl <| oP (zaa rfl ⟨_, _, _, Tryz.runUnderlying135, rfl, rfl, Tryz.sizeOf33, rfl⟩) rfl <| oV (zbh rfl foc0 Tryz.isAgg33 Tryz.sizeOf33 rfl rfl) rfl <| oO <| zaq (zf5 (t := ((m.at k1).wait.getD i Wt.z).t) hgv) rfl Tryz.call78 (Dels.cons del2 (Dels.cons del2 Dels.nil)) rfl fun _ hc25 => oA rfl rfl <| nT <| sR <| oM rfl rfl <| oP (zfu rfl rfl Tryz.underlying85) rfl <| nT ?_
      first | (refine zao rfl (fun hg14 => ?_) (fun hg14 => ?_)) | (refine zap rfl (fun hg14 => ?_) (fun hg14 => ?_)) | (refine zar rfl (fun hg14 => ?_) (fun hg14 => ?_))
      ·
       refine zaf ?_
       obtain ⟨w, hw0⟩ := Option.isSome_iff_exists.1 (show ((m.rsI k1 i).wayk ((m.at k1).wait.getD i Wt.z).gv ((m.at k1).wait.getD i Wt.z).t).isSome = true by assumption)
       have hwD : (m.rsI k1 i).isD w := by have := Md.way_is hO2 _ _ _ _ hgv.1 hgv.2.1 hw0; exact ⟨this.1, this.2.1, this.2.2.1⟩
       rw [hw0]
       have hwle := (m.rsI k1 i).wait_le w
       refine zbf (Ent.trans (t1_ eR) (za8 hwD)) <| za0 1152 (by kernel_rfl) rfl <| aN 0 1 rfl rfl (zag rfl) rfl <| aN 1 3 rfl rfl (zag rfl) rfl <| aN 2 7 rfl rfl (zae rfl) rfl <| aN 3 15 rfl rfl (zaa rfl ⟨_, _, _, Tryz.runUnderlying111, rfl, rfl, Tryz.sizeOf109, rfl⟩) rfl <| aV 4 31 rfl rfl (zac rfl) (t0_ (t0_ (t0_ (t0_ (t0_ (t0_ (t0_ (t0_ eR)))))))) (zah rfl foc0 rfl Tryz.isAgg109) rfl <| aV 5 63 rfl rfl (zac rfl) (t0_ (t0_ (t0_ (t0_ (t0_ (t0_ (t0_ (t0_ eR)))))))) (zbh rfl foc6 Tryz.isAgg135 Tryz.sizeOf135 rfl rfl) rfl <| AJ_op 6 127 rfl (by kernel_rfl) rfl (zac rfl) <| zbe rfl (zhj _ _ _ _ _) rfl fun b26 => ⟨fun _ => (t1_ (t1_ (t1_ (t1_ (t1_ (t1_ (t1_ (t1_ (eD eR))))))))), ?_⟩
       refine AJ_op 7 255 rfl (by kernel_rfl) rfl (zac rfl) <| zbv (t := tyErr) (bytes := 40) rfl rfl del4 foc0 (Reads.lit (t := tyErr) (ys := [⟨(((m.at k1).wait.getD i Wt.z).tk : Int), c2.bs ((m.at k1).wait.getD i Wt.z).gv, ((m.at k1).wait.getD i Wt.z).t⟩]) rfl rfl (by decide) (by decide) rfl) Tryz.underlying109 zgv (by simp only [List.length_append, List.length_map, List.length_cons, List.length_nil, maxLen] at *; omega) (by simp only [List.length_append, List.length_map, List.length_cons, List.length_nil, maxLen] at *; omega) rfl fun p27 c28 => ⟨fun h => absurd h (by decide), ?_⟩
       refine aN 8 511 rfl rfl (zae rfl) rfl <| aN 9 1023 rfl rfl (zaa rfl ⟨_, _, _, Tryz.runUnderlying111, rfl, rfl, Tryz.sizeOf109, rfl⟩) rfl <| AJ_op 10 2047 rfl (by kernel_rfl) rfl (zac rfl) <| zbj rfl rfl foc2 rfl rfl Tryz.sizeOf109 <| ⟨fun h => absurd h (by decide), ?_⟩
       refine aD <| zbt <| za6 <| za1 <| zav <| zak <| oP (P_add rfl rfl (by omega)) rfl <| oM rfl rfl <| za9 ?_
       have he2 : m.rsI k1 (i + 1) = (m.rsI k1 i).addW w ((m.at k1).wait.getD i Wt.z) := by rw [Md.rsI_succ hi2, Md.rsT_way hw0]
       refine zbg ⟨i + 1, (c2.put w { c2.hd w with wt := ⟨p27, _, c28⟩ } { (m.rsI k1 i).at w with wait := ((m.rsI k1 i).at w).wait ++ [((m.at k1).wait.getD i Wt.z)] })⟩ (by show (m.at k1).wait.length - (i + 1) < (m.at k1).wait.length - i; omega) ?_ (by repeat (first | exact Kp.base | exact Kp.self | refine Kp.cons rfl ?_ | refine Kp.forget rfl ?_)) ?_ (Ent.trans (Ent.trans (t2_ (t2_ (t2_ (Ent.takeC del0 (by rw [List.map_append]; rfl) (t1_ eR))))) (zcy (h' := { c2.hd w with wt := ⟨p27, _, c28⟩ }) (d' := { (m.rsI k1 i).at w with wait := ((m.rsI k1 i).at w).wait ++ [((m.at k1).wait.getD i Wt.z)] }) (m' := (m.rsI k1 i).addW w ((m.at k1).wait.getD i Wt.z)) hW2 hwD rfl hwD.2.2 rfl rfl rfl (Md.ok_addW hO2 hwD ⟨hgv.1, hgv.2.1, hgv.2.2, hog.2⟩) (hW2.big.set hwD.1 rfl (by show (((m.rsI k1 i).at w).wait ++ _).length ≤ _; rw [List.length_append]; have := (m.rsI k1 i).wait_le w; simp; omega) hW2.big.tks hW2.big.told hW2.big.wr) rfl rfl)) (Ent.takeC del4 (congrArg (fun f => sl tyErr (c.hd k1).wt.v ((m.at k1).wait.map (wC f))) (show MH.bs (c2.put w { c2.hd w with wt := ⟨p27, _, c28⟩ } { (m.rsI k1 i).at w with wait := ((m.rsI k1 i).at w).wait ++ [((m.at k1).wait.getD i Wt.z)] }) = c2.bs from zds hW2 hwD rfl).symm) (Ent.takeC del2 (by rw [he2] <;> rfl) (Ent.takeC del0 (by rw [he2] <;> rfl) (eD (eD eR))))))
       ·
        refine ⟨by omega, Eq.trans (zds hW2 hwD ?_) hcb⟩
        rfl
       · exact ⟨rfl, True.intro⟩
      ·
       refine kT <| zaf ?_
       have hnw : (m.rsI k1 i).wayk ((m.at k1).wait.getD i Wt.z).gv ((m.at k1).wait.getD i Wt.z).t = none := by simpa using (show ((m.rsI k1 i).wayk ((m.at k1).wait.getD i Wt.z).gv ((m.at k1).wait.getD i Wt.z).t).isSome = false by assumption)
       refine za0 1280 (by kernel_rfl) rfl <| aN 0 1 rfl rfl (zag rfl) rfl <| aN 1 3 rfl rfl (zaa rfl ⟨_, _, _, Tryz.runUnderlying135, rfl, rfl, Tryz.sizeOf85, rfl⟩) rfl <| aV 2 7 rfl rfl (zac rfl) (t0_ (t0_ (t0_ (t0_ eR)))) (zah rfl foc2 rfl Tryz.isAgg85) rfl <| aN 3 15 rfl rfl (zae rfl) rfl <| aN 4 31 rfl rfl (zaa rfl ⟨_, _, _, Tryz.runUnderlying111, rfl, rfl, Tryz.sizeOf9, rfl⟩) rfl <| aV 5 63 rfl rfl (zac rfl) (t0_ (t0_ (t0_ (t0_ eR)))) (zbu (Ent.trans (t1_ eR) (za8 hgv)) (zah rfl foc0 rfl Tryz.isAgg9)) rfl <| aN 6 127 rfl rfl (zaa rfl ⟨_, _, _, Tryz.runUnderlying135, rfl, rfl, Tryz.sizeOf33, rfl⟩) rfl <| aV 7 255 rfl rfl (zac rfl) (t0_ (t0_ (t0_ (t0_ eR)))) (zbh rfl foc2 Tryz.isAgg33 Tryz.sizeOf33 rfl rfl) rfl <| zgf 8 9 511 767 rfl rfl (by kernel_rfl) rfl rfl (zac rfl) (zac rfl) (zaq ((zc9 (nm := ((m.rsI k1 i).at ((m.at k1).wait.getD i Wt.z).gv).name) (t := ((m.at k1).wait.getD i Wt.z).t) (by omega) hog.2.2.2 (by rw [Md.at_find hO2 hgv.1 hgv.2.1]; rfl) ⟨hog.2.1, hog.2.2.1⟩)) rfl Tryz.call82 (Dels.cons del0 (Dels.cons del0 Dels.nil)) rfl (fun c9 h9 => ?_)) (zb1 Tryz.zeroValue51 rfl rfl (fun b30 => ?_))
       ·
        refine ⟨fun h => absurd h (by decide), ?_⟩
        refine zgy 9 1023 rfl (by kernel_rfl) rfl (zac rfl) Tryz.zeroValue51 rfl rfl fun b31 => AJ_op 10 2047 rfl (by kernel_rfl) rfl (zac rfl) <| zbn rfl rfl foc0 Tryz.sizeOf51 rfl rfl rfl <| ⟨fun h => absurd h (by decide), ?_⟩
        refine aD <| zaf <| zbf (t0_ (Ent.takeC del0 (congrArg (blk b 84) h9.1.symm) (t0_ (t0_ (t0_ eR))))) <| zak <| oP (zaa rfl ⟨_, _, _, Tryz.runUnderlying135, rfl, rfl, Tryz.sizeOf3, rfl⟩) rfl <| oV (zah rfl foc3 rfl Tryz.isAgg3) rfl <| oP (zaa rfl ⟨_, _, _, Tryz.runUnderlying51, rfl, rfl, Tryz.sizeOf3, rfl⟩) rfl <| oO <| zbj rfl rfl foc0 rfl rfl Tryz.sizeOf3 <| nT <| zbf (Ent.trans (t2_ eR) zem) ?_
        have hto9 : ((m.rsI k1 i).carryN ((m.rsI k1 i).dv.length + 1) ((m.rsI k1 i).at ((m.at k1).wait.getD i Wt.z).gv).name ((m.at k1).wait.getD i Wt.z).t).2.told = (m.rsI k1 i).told := by rw [zb7 hO2 hgv.1 hgv.2.1]; exact (Md.carry_kept _ _ _).told
        have hto8 := congrArg List.length hto9
        refine za0 1152 (by kernel_rfl) rfl <| aN 0 1 rfl rfl (zag rfl) rfl <| aN 1 3 rfl rfl (zag rfl) rfl <| aN 2 7 rfl rfl (zae rfl) rfl <| aN 3 15 rfl rfl (zaa rfl ⟨_, _, _, Tryz.runUnderlying84, rfl, rfl, Tryz.sizeOf54, rfl⟩) rfl <| aV 4 31 rfl rfl (zac rfl) (t0_ (t0_ (t0_ (t0_ (t0_ (t0_ eR)))))) (zah rfl foc3 rfl Tryz.isAgg54) rfl <| aV 5 63 rfl rfl (zac rfl) (t0_ (t0_ (t0_ (t0_ (t0_ (t0_ eR)))))) (zbh rfl foc2 Tryz.isAgg51 Tryz.sizeOf51 rfl rfl) rfl <| AJ_op 6 127 rfl (by kernel_rfl) rfl (zac rfl) <| zbe rfl (zfd _ _ _ _) rfl fun b32 => ⟨fun _ => (t1_ (t1_ (t1_ (t1_ (t1_ (t1_ (eD eR))))))), ?_⟩
        refine AJ_op 7 255 rfl (by kernel_rfl) rfl (zac rfl) <| zbv (t := zau) (bytes := 32) rfl rfl del1 foc0 (Reads.lit (t := zau) (ys := [⟨true, (((m.at k1).wait.getD i Wt.z).tk : Int), (ansN (m.rsI k1 i) ((m.rsI k1 i).at ((m.at k1).wait.getD i Wt.z).gv).name ((m.at k1).wait.getD i Wt.z).t).Value, (ansN (m.rsI k1 i) ((m.rsI k1 i).at ((m.at k1).wait.getD i Wt.z).gv).name ((m.at k1).wait.getD i Wt.z).t).Error⟩]) rfl rfl (by decide) (by decide) rfl) Tryz.underlying54 zcm (by simp only [List.length_append, List.length_map, List.length_cons, List.length_nil, maxLen] at *; omega) (by simp only [List.length_append, List.length_map, List.length_cons, List.length_nil, maxLen] at *; omega) rfl fun p33 c34 => ⟨fun h => absurd h (by decide), ?_⟩
        refine aN 8 511 rfl rfl (zae rfl) rfl <| aN 9 1023 rfl rfl (zaa rfl ⟨_, _, _, Tryz.runUnderlying84, rfl, rfl, Tryz.sizeOf54, rfl⟩) rfl <| AJ_op 10 2047 rfl (by kernel_rfl) rfl (zac rfl) <| zbj rfl rfl foc4 rfl rfl Tryz.sizeOf54 <| ⟨fun h => absurd h (by decide), ?_⟩
        refine zcz (by kernel_rfl) <| zal <| zav <| zak <| oP (P_add rfl rfl (by omega)) rfl <| oM rfl rfl <| za9 ?_
        have he2 : m.rsI k1 (i + 1) = { { ((m.rsI k1 i).carryN ((m.rsI k1 i).dv.length + 1) ((m.rsI k1 i).at ((m.at k1).wait.getD i Wt.z).gv).name ((m.at k1).wait.getD i Wt.z).t).2 with told := [] } with told := ((m.rsI k1 i).carryN ((m.rsI k1 i).dv.length + 1) ((m.rsI k1 i).at ((m.at k1).wait.getD i Wt.z).gv).name ((m.at k1).wait.getD i Wt.z).t).2.told ++ [⟨true, (((m.at k1).wait.getD i Wt.z).tk : Int), (ansN (m.rsI k1 i) ((m.rsI k1 i).at ((m.at k1).wait.getD i Wt.z).gv).name ((m.at k1).wait.getD i Wt.z).t).Value, (ansN (m.rsI k1 i) ((m.rsI k1 i).at ((m.at k1).wait.getD i Wt.z).gv).name ((m.at k1).wait.getD i Wt.z).t).Error⟩] } := by
          unfold ansN
          rw [Md.rsI_succ hi2, Md.rsT_go hnw, zb7 hO2 hgv.1 hgv.2.1]
        have htl9 : (((m.rsI k1 i).carryN ((m.rsI k1 i).dv.length + 1) ((m.rsI k1 i).at ((m.at k1).wait.getD i Wt.z).gv).name ((m.at k1).wait.getD i Wt.z).t).2.told ++ [(⟨true, (((m.at k1).wait.getD i Wt.z).tk : Int), (ansN (m.rsI k1 i) ((m.rsI k1 i).at ((m.at k1).wait.getD i Wt.z).gv).name ((m.at k1).wait.getD i Wt.z).t).Value, (ansN (m.rsI k1 i) ((m.rsI k1 i).at ((m.at k1).wait.getD i Wt.z).gv).name ((m.at k1).wait.getD i Wt.z).t).Error⟩ : api_Answer)]).length ≤ 100000000 := by rw [List.length_append, hto9]; simp; omega
        refine zbg ⟨i + 1, { { c9 with tv := s3z } with tv := ⟨p33, (((m.rsI k1 i).carryN ((m.rsI k1 i).dv.length + 1) ((m.rsI k1 i).at ((m.at k1).wait.getD i Wt.z).gv).name ((m.at k1).wait.getD i Wt.z).t).2.told ++ [(⟨true, (((m.at k1).wait.getD i Wt.z).tk : Int), (ansN (m.rsI k1 i) ((m.rsI k1 i).at ((m.at k1).wait.getD i Wt.z).gv).name ((m.at k1).wait.getD i Wt.z).t).Value, (ansN (m.rsI k1 i) ((m.rsI k1 i).at ((m.at k1).wait.getD i Wt.z).gv).name ((m.at k1).wait.getD i Wt.z).t).Error⟩ : api_Answer)]).length, c34⟩ }⟩ (by show (m.at k1).wait.length - (i + 1) < (m.at k1).wait.length - i; omega) ?_ (by repeat (first | exact Kp.base | exact Kp.self | refine Kp.cons rfl ?_ | refine Kp.forget rfl ?_)) ?_ (Ent.trans (Ent.trans (t0_ (t1_ eR)) (ze4 (tv := ⟨p33, (((m.rsI k1 i).carryN ((m.rsI k1 i).dv.length + 1) ((m.rsI k1 i).at ((m.at k1).wait.getD i Wt.z).gv).name ((m.at k1).wait.getD i Wt.z).t).2.told ++ [(⟨true, (((m.at k1).wait.getD i Wt.z).tk : Int), (ansN (m.rsI k1 i) ((m.rsI k1 i).at ((m.at k1).wait.getD i Wt.z).gv).name ((m.at k1).wait.getD i Wt.z).t).Value, (ansN (m.rsI k1 i) ((m.rsI k1 i).at ((m.at k1).wait.getD i Wt.z).gv).name ((m.at k1).wait.getD i Wt.z).t).Error⟩ : api_Answer)]).length, c34⟩) htl9)) (Ent.takeC del5 (by exact congrArg (fun f => sl tyErr (c.hd k1).wt.v ((m.at k1).wait.map (wC f))) h9.2.symm) (Ent.takeC del3 (by rw [he2] <;> rfl) (Ent.takeC del0 (by rw [he2] <;> rfl) (eD (eD (eD eR)))))))
        · exact ⟨by omega, h9.2.trans hcb⟩
        · exact ⟨rfl, True.intro⟩
       ·
        refine ⟨fun _ => (t1_ (t1_ (t1_ (t1_ (eD eR))))), ?_⟩
        refine AJ_op 8 1023 rfl (by kernel_rfl) rfl (zac rfl) <| zaq ((zc9 (nm := ((m.rsI k1 i).at ((m.at k1).wait.getD i Wt.z).gv).name) (t := ((m.at k1).wait.getD i Wt.z).t) (by omega) hog.2.2.2 (by rw [Md.at_find hO2 hgv.1 hgv.2.1]; rfl) ⟨hog.2.1, hog.2.2.1⟩)) rfl Tryz.call82 (Dels.cons del1 (Dels.cons del1 Dels.nil)) rfl fun c9 h9 => ⟨fun h => absurd h (by decide), ?_⟩
        refine AJ_op 10 2047 rfl (by kernel_rfl) rfl (zac rfl) <| zbn rfl rfl foc2 Tryz.sizeOf51 rfl rfl rfl <| ⟨fun h => absurd h (by decide), ?_⟩
        refine aD <| zaf <| zbf (Ent.takeC del0 (congrArg (blk b 84) h9.1.symm) (t0_ (t0_ (t0_ (t0_ eR))))) <| zak <| oP (zaa rfl ⟨_, _, _, Tryz.runUnderlying135, rfl, rfl, Tryz.sizeOf3, rfl⟩) rfl <| oV (zah rfl foc3 rfl Tryz.isAgg3) rfl <| oP (zaa rfl ⟨_, _, _, Tryz.runUnderlying51, rfl, rfl, Tryz.sizeOf3, rfl⟩) rfl <| oO <| zbj rfl rfl foc2 rfl rfl Tryz.sizeOf3 <| nT <| zbf (Ent.trans (t1_ eR) zem) ?_
        have hto9 : ((m.rsI k1 i).carryN ((m.rsI k1 i).dv.length + 1) ((m.rsI k1 i).at ((m.at k1).wait.getD i Wt.z).gv).name ((m.at k1).wait.getD i Wt.z).t).2.told = (m.rsI k1 i).told := by rw [zb7 hO2 hgv.1 hgv.2.1]; exact (Md.carry_kept _ _ _).told
        have hto8 := congrArg List.length hto9
        refine za0 1152 (by kernel_rfl) rfl <| aN 0 1 rfl rfl (zag rfl) rfl <| aN 1 3 rfl rfl (zag rfl) rfl <| aN 2 7 rfl rfl (zae rfl) rfl <| aN 3 15 rfl rfl (zaa rfl ⟨_, _, _, Tryz.runUnderlying84, rfl, rfl, Tryz.sizeOf54, rfl⟩) rfl <| aV 4 31 rfl rfl (zac rfl) (t0_ (t0_ (t0_ (t0_ (t0_ (t0_ eR)))))) (zah rfl foc2 rfl Tryz.isAgg54) rfl <| aV 5 63 rfl rfl (zac rfl) (t0_ (t0_ (t0_ (t0_ (t0_ (t0_ eR)))))) (zbh rfl foc3 Tryz.isAgg51 Tryz.sizeOf51 rfl rfl) rfl <| AJ_op 6 127 rfl (by kernel_rfl) rfl (zac rfl) <| zbe rfl (zfd _ _ _ _) rfl fun b36 => ⟨fun _ => (t1_ (t1_ (t1_ (t1_ (t1_ (t1_ (eD eR))))))), ?_⟩
        refine AJ_op 7 255 rfl (by kernel_rfl) rfl (zac rfl) <| zbv (t := zau) (bytes := 32) rfl rfl del1 foc0 (Reads.lit (t := zau) (ys := [⟨true, (((m.at k1).wait.getD i Wt.z).tk : Int), (ansN (m.rsI k1 i) ((m.rsI k1 i).at ((m.at k1).wait.getD i Wt.z).gv).name ((m.at k1).wait.getD i Wt.z).t).Value, (ansN (m.rsI k1 i) ((m.rsI k1 i).at ((m.at k1).wait.getD i Wt.z).gv).name ((m.at k1).wait.getD i Wt.z).t).Error⟩]) rfl rfl (by decide) (by decide) rfl) Tryz.underlying54 zcm (by simp only [List.length_append, List.length_map, List.length_cons, List.length_nil, maxLen] at *; omega) (by simp only [List.length_append, List.length_map, List.length_cons, List.length_nil, maxLen] at *; omega) rfl fun p37 c38 => ⟨fun h => absurd h (by decide), ?_⟩
        refine aN 8 511 rfl rfl (zae rfl) rfl <| aN 9 1023 rfl rfl (zaa rfl ⟨_, _, _, Tryz.runUnderlying84, rfl, rfl, Tryz.sizeOf54, rfl⟩) rfl <| AJ_op 10 2047 rfl (by kernel_rfl) rfl (zac rfl) <| zbj rfl rfl foc3 rfl rfl Tryz.sizeOf54 <| ⟨fun h => absurd h (by decide), ?_⟩
        refine zcz (by kernel_rfl) <| zal <| zav <| zak <| oP (P_add rfl rfl (by omega)) rfl <| oM rfl rfl <| za9 ?_
        have he2 : m.rsI k1 (i + 1) = { { ((m.rsI k1 i).carryN ((m.rsI k1 i).dv.length + 1) ((m.rsI k1 i).at ((m.at k1).wait.getD i Wt.z).gv).name ((m.at k1).wait.getD i Wt.z).t).2 with told := [] } with told := ((m.rsI k1 i).carryN ((m.rsI k1 i).dv.length + 1) ((m.rsI k1 i).at ((m.at k1).wait.getD i Wt.z).gv).name ((m.at k1).wait.getD i Wt.z).t).2.told ++ [⟨true, (((m.at k1).wait.getD i Wt.z).tk : Int), (ansN (m.rsI k1 i) ((m.rsI k1 i).at ((m.at k1).wait.getD i Wt.z).gv).name ((m.at k1).wait.getD i Wt.z).t).Value, (ansN (m.rsI k1 i) ((m.rsI k1 i).at ((m.at k1).wait.getD i Wt.z).gv).name ((m.at k1).wait.getD i Wt.z).t).Error⟩] } := by
          unfold ansN
          rw [Md.rsI_succ hi2, Md.rsT_go hnw, zb7 hO2 hgv.1 hgv.2.1]
        have htl9 : (((m.rsI k1 i).carryN ((m.rsI k1 i).dv.length + 1) ((m.rsI k1 i).at ((m.at k1).wait.getD i Wt.z).gv).name ((m.at k1).wait.getD i Wt.z).t).2.told ++ [(⟨true, (((m.at k1).wait.getD i Wt.z).tk : Int), (ansN (m.rsI k1 i) ((m.rsI k1 i).at ((m.at k1).wait.getD i Wt.z).gv).name ((m.at k1).wait.getD i Wt.z).t).Value, (ansN (m.rsI k1 i) ((m.rsI k1 i).at ((m.at k1).wait.getD i Wt.z).gv).name ((m.at k1).wait.getD i Wt.z).t).Error⟩ : api_Answer)]).length ≤ 100000000 := by rw [List.length_append, hto9]; simp; omega
        refine zbg ⟨i + 1, { { c9 with tv := s3z } with tv := ⟨p37, (((m.rsI k1 i).carryN ((m.rsI k1 i).dv.length + 1) ((m.rsI k1 i).at ((m.at k1).wait.getD i Wt.z).gv).name ((m.at k1).wait.getD i Wt.z).t).2.told ++ [(⟨true, (((m.at k1).wait.getD i Wt.z).tk : Int), (ansN (m.rsI k1 i) ((m.rsI k1 i).at ((m.at k1).wait.getD i Wt.z).gv).name ((m.at k1).wait.getD i Wt.z).t).Value, (ansN (m.rsI k1 i) ((m.rsI k1 i).at ((m.at k1).wait.getD i Wt.z).gv).name ((m.at k1).wait.getD i Wt.z).t).Error⟩ : api_Answer)]).length, c38⟩ }⟩ (by show (m.at k1).wait.length - (i + 1) < (m.at k1).wait.length - i; omega) ?_ (by repeat (first | exact Kp.base | exact Kp.self | refine Kp.cons rfl ?_ | refine Kp.forget rfl ?_)) ?_ (Ent.trans (Ent.trans (t0_ (t1_ eR)) (ze4 (tv := ⟨p37, (((m.rsI k1 i).carryN ((m.rsI k1 i).dv.length + 1) ((m.rsI k1 i).at ((m.at k1).wait.getD i Wt.z).gv).name ((m.at k1).wait.getD i Wt.z).t).2.told ++ [(⟨true, (((m.at k1).wait.getD i Wt.z).tk : Int), (ansN (m.rsI k1 i) ((m.rsI k1 i).at ((m.at k1).wait.getD i Wt.z).gv).name ((m.at k1).wait.getD i Wt.z).t).Value, (ansN (m.rsI k1 i) ((m.rsI k1 i).at ((m.at k1).wait.getD i Wt.z).gv).name ((m.at k1).wait.getD i Wt.z).t).Error⟩ : api_Answer)]).length, c38⟩) htl9)) (Ent.takeC del5 (by exact congrArg (fun f => sl tyErr (c.hd k1).wt.v ((m.at k1).wait.map (wC f))) h9.2.symm) (Ent.takeC del2 (by rw [he2] <;> rfl) (Ent.takeC del0 (by rw [he2] <;> rfl) (eD (eD (eD eR)))))))
        · exact ⟨by omega, h9.2.trans hcb⟩
        · exact ⟨rfl, True.intro⟩
     ·
      refine zbt <| za6 <| za7 <| za1 <| zav <| sR <| oA rfl rfl <| nT <| zai <| zam (res1 Tryz.results34 rfl) ?_
      obtain rfl : i = (m.at k1).wait.length := by omega
      have e1 := Md.rs_ok hd2 hst hft
      rw [e1.2, ← Md.rsI_end]
      refine CSpec.close c2 ?_ ?_ (t1_ (t1_ (eD eR)))
      · rw [e1.1]
      · exact hcb
end Go.Proofs
set_option linter.unusedSimpArgs false
set_option maxRecDepth 20000
namespace Go.Proofs
open Go.VG
theorem zlj (v0 : (Option Addr)) (v1 : (Option Addr)) : ∀ w, (Instr.build 87 (#[(0, .pointer v0), (1, .pointer v1)] : Array (Nat × Value))).run Tryz.prog w = .ok (.agg #[.pointer v0, .pointer v1]) w := fun w => by kernel_rfl
theorem zlk (v0 : Int) (v1 : Int) : ∀ w, (Instr.build 33 (#[(0, .int .i64 v0), (1, .int .i64 v1)] : Array (Nat × Value))).run Tryz.prog w = .ok (.agg #[.int .i64 v0, .int .i64 v1, .int .u64 0]) w := fun w => by kernel_rfl
theorem zjz (v0 : Int) (v1 : Int) (v2 : Int) : ∀ w, (Instr.build 33 (#[(0, .int .i64 v0), (1, .int .i64 v1), (2, .int .u64 v2)] : Array (Nat × Value))).run Tryz.prog w = .ok (.agg #[.int .i64 v0, .int .i64 v1, .int .u64 v2]) w := fun w => by kernel_rfl
theorem znk (v0 : Int) : ∀ w, (Instr.build 33 (#[(0, .int .i64 v0)] : Array (Nat × Value))).run Tryz.prog w = .ok (.agg #[.int .i64 v0, .int .i64 0, .int .u64 0]) w := fun w => by kernel_rfl
def devR (b : Nat) (c : MH) (m : Md) (n : ByteArray) : Value := match m.bas n with
  | some k => .tuple #[.iface 159 (ptr (c.bs k) 0), .int .i64 0]
  | none => match m.dev n with
    | some k => .tuple #[.iface 87 (.agg #[ptr b 0, ptr (c.bs k) 0]), .int .i64 0]
    | none => .tuple #[.nilIface, .int .i64 12]
def Md.hdo (m : Md) (k : Nat) (t : api_Task) : (UInt64 × Int) × Md :=
  if t.Kind ≠ 3 ∧ (t.At < 0 ∨ tsize (m.at k).live ≤ t.At) then ((0, 1), m)
  else if (m.at k).hl = false ∨ (m.wayk k t).isSome = true then ((0, 20), m)
  else m.carryk k t
theorem zp2 {W : World} {b : Nat} {c : MH} {m : Md} {n : ByteArray} :
    CSpec Tryz.prog W 9 [ptr b 0, .string n] [blk b 84 (zax c m), MapR c m] (fun _ : Unit => devR b c m n) (fun _ => True) (fun _ F => blk b 84 (zax c m) :: MapR c m :: F) := by
 refine CSpec.of_body Tryz.func9 rfl Tryz.ntmps9 rfl fun F => ?_
 show CJ _ _ _ _ _ _ (_ :: _ :: F)
 refine zbl (zb3 foc1) fun hW => ?_
 have hO := hW.ok
 refine sR <| oA rfl rfl <| oA rfl rfl <| nT <| zaf <| sR <| oM rfl rfl <| oP (zae rfl) rfl <| oP (zaa rfl ⟨_, _, _, Tryz.runUnderlying84, rfl, rfl, Tryz.sizeOf81, rfl⟩) rfl <| oV (zah rfl foc0 rfl Tryz.isAgg81) rfl <| oM rfl rfl <| oO (zk5 rfl rfl foc1 rfl (fun hd2 => ?_) (fun k1 hd2 => ?_))
 ·
  refine oM rfl rfl <| oP (zaw rfl rfl) rfl <| oP (zaw rfl rfl) rfl <| oA rfl rfl <| oA rfl rfl <| nT <| sR <| oM rfl rfl <| nT <| za5 rfl rfl <| kT <| zaf <| sR <| oM rfl rfl <| oP (zae rfl) rfl <| oP (zaa rfl ⟨_, _, _, Tryz.runUnderlying84, rfl, rfl, Tryz.sizeOf82, rfl⟩) rfl <| oV (zah rfl foc0 rfl Tryz.isAgg82) rfl <| oM rfl rfl <| oO (zea rfl rfl foc1 rfl (fun hd4 => ?_) (fun k3 hd4 => ?_))
  ·
   refine oA rfl rfl <| nT <| sR <| oM rfl rfl <| oP (zhy rfl rfl Tryz.underlying85) rfl <| nT <| za5 rfl rfl <| kT <| sR <| oA rfl rfl <| oA rfl rfl <| nT <| zai <| zam (res2 Tryz.results9 rfl rfl) <| CSpec.close () ?_ ?_ (t0_ (t0_ eR))
   · unfold devR; rw [hd2]; dsimp only; rw [hd4]
   · trivial
  ·
   refine oA rfl rfl <| nT <| sR <| oM rfl rfl <| oP (zgr rfl rfl Tryz.underlying85) rfl <| nT <| za4 rfl rfl <| sR <| oM rfl rfl <| oM rfl rfl <| oP (zbm rfl (zlj _ _)) rfl <| oP (zll rfl Tryz.runUnderlying87 (by intro ms h; cases h)) rfl <| oA rfl rfl <| oA rfl rfl <| nT <| zai <| zad <| zam (res2 Tryz.results9 rfl rfl) <| CSpec.close () ?_ ?_ (t0_ (t0_ eR))
   · unfold devR; rw [hd2]; dsimp only; rw [hd4]
   · trivial
 ·
  refine oM rfl rfl <| oP (zaw rfl rfl) rfl <| oP (zaw rfl rfl) rfl <| oA rfl rfl <| oA rfl rfl <| nT <| sR <| oM rfl rfl <| nT <| za4 rfl rfl <| sR <| oM rfl rfl <| oA rfl rfl <| oA rfl rfl <| nT <| zai <| zad <| zam (res2 Tryz.results9 rfl rfl) <| CSpec.close () ?_ ?_ (t0_ (t0_ eR))
  · unfold devR; rw [hd2]; rfl
  · trivial
theorem zq7 {W : World} {b k : Nat} {c : MH} {m : Md} (hk : m.isD k) :
    CSpec Tryz.prog W 143 [.agg #[ptr b 0, ptr (c.bs k) 0]] [blk b 84 (zax c m), MapR c m] (fun _ : Unit => .int .i64 (tsize (m.at k).live)) (fun _ => True) (fun _ F => blk b 84 (zax c m) :: MapR c m :: F) := by
 refine CSpec.of_body Tryz.func143 rfl Tryz.ntmps143 rfl fun F => ?_
 show CJ _ _ _ _ _ _ (_ :: _ :: F)
 refine zbl (zb3 foc1) fun hW => ?_
 have hO := hW.ok
 have hns := Md.names_len (m := m)
 have hln := hW.big.len
 have hlv := (zb0 (hO.chk k).1).1
 have hgn := hk.2.1
 refine sR <| oO <| O_box rfl rfl rfl fun b1 => oA rfl rfl <| nT <| zaf <| sR <| oP (zaa rfl ⟨_, _, _, Tryz.runUnderlying87, rfl, rfl, Tryz.sizeOf85, rfl⟩) rfl <| oV (zah rfl foc0 rfl Tryz.isAgg85) rfl <| oP (zae rfl) rfl <| oP (zaa rfl ⟨_, _, _, Tryz.runUnderlying111, rfl, rfl, Tryz.sizeOf4, rfl⟩) rfl <| oV (zbu (Ent.trans (t2_ eR) (za8 hk)) (zah rfl foc0 rfl Tryz.isAgg4)) rfl <| nT ?_
 first | (refine za5 rfl (decide_eq_false (by rw [hk.2.1])) ?_) | (refine za5 rfl (by rw [hk.2.1]) ?_)
 refine kT <| sR <| oP (zaa rfl ⟨_, _, _, Tryz.runUnderlying87, rfl, rfl, Tryz.sizeOf85, rfl⟩) rfl <| oV (zah rfl foc0 rfl Tryz.isAgg85) rfl <| oP (zae rfl) rfl <| oP (zaa rfl ⟨_, _, _, Tryz.runUnderlying111, rfl, rfl, Tryz.sizeOf30, rfl⟩) rfl <| oV (zbu (Ent.trans (t2_ eR) (za8 hk)) (zah rfl foc0 rfl Tryz.isAgg30)) rfl <| oO <| zaq (zey (zcc hk) zh1) rfl Tryz.call81 (Dels.cons del2 Dels.nil) rfl fun _ hc2 => oA rfl rfl <| nT <| zai <| zam (res1 Tryz.results143 rfl) <| CSpec.close () ?_ ?_ (t2_ (t0_ (eD eR)))
 · first | rfl | (exfalso; simp_all)
 · trivial
theorem c_hdo {W : World} {b k : Nat} {c : MH} {m : Md} {t : api_Task} (hk : m.isD k) (hw : m.wr < 100000000) (hb : -9223372036854775808 ≤ t.At ∧ t.At ≤ 9223372036854775807) (hkd : 1 ≤ t.Kind ∧ t.Kind ≤ 3) :
    CSpec Tryz.prog W 145 [.agg #[ptr b 0, ptr (c.bs k) 0], .agg #[.int .i64 t.Kind, .int .i64 t.At, .int .u64 (t.Value.toNat : Int)]] [blk b 84 (zax c m), MapR c m] (fun _ : MH => .tuple #[.int .u64 ((m.hdo k t).1.1.toNat : Int), .int .i64 (m.hdo k t).1.2]) (fun c2 => c2.bs = c.bs) (fun c2 F => blk b 84 (zax c2 (m.hdo k t).2) :: MapR c2 (m.hdo k t).2 :: F) := by
 refine CSpec.of_body Tryz.func145 rfl Tryz.ntmps145 rfl fun F => ?_
 show CJ _ _ _ _ _ _ (_ :: _ :: F)
 refine zbl (zb3 foc1) fun hW => ?_
 have hO := hW.ok
 have hns := Md.names_len (m := m)
 have hln := hW.big.len
 have hlv := (zb0 (hO.chk k).1).1
 have hgn := hk.2.1
 refine sR <| oO <| O_box rfl rfl rfl fun b1 => oO <| O_box rfl rfl rfl fun b2 => oA rfl rfl <| oA rfl rfl <| nT <| zaf <| zat <| zaf <| za0 0 (by kernel_rfl) rfl <| aN 0 1 rfl rfl (zaa rfl ⟨_, _, _, Tryz.runUnderlying33, rfl, rfl, Tryz.sizeOf3, rfl⟩) rfl <| aV 1 3 rfl rfl (zac rfl) (t0_ (t0_ (t0_ (t0_ eR)))) (zah rfl foc0 rfl Tryz.isAgg3) rfl <| aN 2 7 rfl rfl (P_neq rfl rfl) rfl <| aN 3 15 rfl rfl (zag rfl) rfl ?_
 first | (refine zc0 11 rfl (fun hg1B hg1 => ?_) (fun hg1B hg1 => ?_)) | (refine zc1 11 rfl (fun hg1B hg1 => ?_) (fun hg1B hg1 => ?_)) | (refine zdf 11 rfl (fun hg1B => ?_) (fun hg1B => ?_))
 ·
  refine aP 4 31 rfl rfl (zab rfl rfl rfl hg1B) (zaa rfl ⟨_, _, _, Tryz.runUnderlying33, rfl, rfl, Tryz.sizeOf3, rfl⟩) rfl <| aV 5 63 rfl rfl (zab rfl rfl rfl hg1B) (t0_ (t0_ (t0_ (t0_ eR)))) (zah rfl foc0 rfl Tryz.isAgg3) rfl <| aP 6 127 rfl rfl (zab rfl rfl rfl hg1B) (P_lss rfl rfl) rfl <| aP 7 255 rfl rfl (zab rfl rfl rfl hg1B) (zag rfl) rfl ?_
  first | (refine zc0 15 rfl (fun hg2B hg2 => ?_) (fun hg2B hg2 => ?_)) | (refine zc1 15 rfl (fun hg2B hg2 => ?_) (fun hg2B hg2 => ?_)) | (refine zdf 15 rfl (fun hg2B => ?_) (fun hg2B => ?_))
  ·
   refine aS 8 511 rfl rfl (GY_no rfl rfl rfl hg2B) rfl <| aS 9 1023 rfl rfl (GY_no rfl rfl rfl hg2B) rfl <| aS 10 2047 rfl rfl (GY_no rfl rfl rfl hg2B) rfl <| aS 11 4095 rfl rfl (GY_no rfl rfl rfl hg2B) rfl <| aS 12 8191 rfl rfl (GY_no rfl rfl rfl hg2B) rfl <| aP 13 16383 rfl rfl (zab rfl rfl rfl hg1B) (zas rfl hg2B rfl) rfl <| aN 14 32767 rfl rfl (zas rfl hg1B rfl) rfl <| aN 15 65535 rfl rfl (zbc rfl) rfl <| aD <| za4 rfl rfl <| sR <| oA rfl rfl <| oA rfl rfl <| nT <| zai <| zaj <| zad <| zam (res2 Tryz.results145 rfl rfl) ?_
   have e1 : m.hdo k t = ((0, 1), m) := by
     unfold Md.hdo
     rw [if_pos (by simp_all)]
   rw [e1]
   refine CSpec.close c ?_ ?_ (t2_ (t2_ (eD (eD eR))))
   · rfl
   · rfl
  ·
   refine aP 8 511 rfl rfl (zab rfl rfl rfl hg2B) (zaa rfl ⟨_, _, _, Tryz.runUnderlying33, rfl, rfl, Tryz.sizeOf3, rfl⟩) rfl <| aV 9 1023 rfl rfl (zab rfl rfl rfl hg2B) (t0_ (t0_ (t0_ (t0_ eR)))) (zah rfl foc0 rfl Tryz.isAgg3) rfl <| aV 10 2047 rfl rfl (zab rfl rfl rfl hg2B) (t0_ (t0_ (t0_ (t0_ eR)))) (zbh rfl foc1 Tryz.isAgg87 Tryz.sizeOf87 rfl rfl) rfl <| AJ_op 11 4095 rfl (by kernel_rfl) rfl (zab rfl rfl rfl hg2B) <| zaq (zq7 hk) rfl Tryz.call143 (Dels.cons del2 (Dels.cons del2 Dels.nil)) rfl fun _ hc3 => ⟨fun _ => (t2_ (t2_ (t0_ (t0_ eR)))), ?_⟩
   refine aP 12 8191 rfl rfl (zab rfl rfl rfl hg2B) (P_geq rfl rfl) rfl <| aP 13 16383 rfl rfl (zab rfl rfl rfl hg1B) (zay rfl hg2B rfl) rfl <| aN 14 32767 rfl rfl (zas rfl hg1B rfl) rfl <| aN 15 65535 rfl rfl (zbc rfl) rfl <| aD ?_
   first | (refine zao rfl (fun hg3 => ?_) (fun hg3 => ?_)) | (refine zap rfl (fun hg3 => ?_) (fun hg3 => ?_)) | (refine zar rfl (fun hg3 => ?_) (fun hg3 => ?_))
   ·
    refine sR <| oA rfl rfl <| oA rfl rfl <| nT <| zai <| zaj <| zad <| zam (res2 Tryz.results145 rfl rfl) ?_
    have e1 : m.hdo k t = ((0, 1), m) := by
      unfold Md.hdo
      rw [if_pos (by simp_all)]
    rw [e1]
    refine CSpec.close c ?_ ?_ (t0_ (t0_ (eD (eD eR))))
    · rfl
    · rfl
   ·
    refine sR <| oP (zaa rfl ⟨_, _, _, Tryz.runUnderlying87, rfl, rfl, Tryz.sizeOf85, rfl⟩) rfl <| oV (zah rfl foc3 rfl Tryz.isAgg85) rfl <| oP (zae rfl) rfl <| oP (zaa rfl ⟨_, _, _, Tryz.runUnderlying111, rfl, rfl, Tryz.sizeOf4, rfl⟩) rfl <| oV (zbu (Ent.trans (t1_ eR) (za8 hk)) (zah rfl foc0 rfl Tryz.isAgg4)) rfl <| oM rfl rfl ?_
    first | (refine zba 29 rfl (fun hg4B hg4 => ?_) (fun hg4B hg4 => ?_)) | (refine zbb 29 rfl (fun hg4B hg4 => ?_) (fun hg4B hg4 => ?_)) | (refine zbi 29 rfl (fun hg4B => ?_) (fun hg4B => ?_))
    ·
     refine RJ_gn (GY_no rfl rfl rfl hg4B) rfl rfl <| RJ_gn (GY_no rfl rfl rfl hg4B) rfl rfl <| RJ_gn (GY_no rfl rfl rfl hg4B) rfl rfl <| RJ_gn (GY_no rfl rfl rfl hg4B) rfl rfl <| RJ_gn (GY_no rfl rfl rfl hg4B) rfl rfl <| RJ_gn (GY_no rfl rfl rfl hg4B) rfl rfl <| oP (zas rfl hg4B rfl) rfl <| oM rfl rfl <| RJ_gn (GY_no rfl rfl rfl rfl) rfl rfl <| RJ_gn (GY_no rfl rfl rfl rfl) rfl rfl <| RJ_gn (GY_no rfl rfl rfl rfl) rfl rfl <| RJ_gn (GY_no rfl rfl rfl rfl) rfl rfl <| RJ_gn (GY_no rfl rfl rfl rfl) rfl rfl <| RJ_gn (GY_no rfl rfl rfl rfl) rfl rfl <| RJ_gn (GY_no rfl rfl rfl rfl) rfl rfl <| oP (zas rfl rfl rfl) rfl <| oA rfl rfl <| nT <| za4 rfl rfl <| sR <| oA rfl rfl <| oA rfl rfl <| nT <| zai <| zaj <| zad <| zam (res2 Tryz.results145 rfl rfl) ?_
     have e1 : m.hdo k t = ((0, 20), m) := by
       unfold Md.hdo
       rw [if_neg (by simp_all), if_pos (by simp_all)]
     rw [e1]
     refine CSpec.close c ?_ ?_ (t0_ (t0_ (eD (eD eR))))
     · rfl
     · rfl
    ·
     refine gP (zab rfl rfl rfl hg4B) (zaa rfl ⟨_, _, _, Tryz.runUnderlying87, rfl, rfl, Tryz.sizeOf85, rfl⟩) rfl <| gV (zab rfl rfl rfl hg4B) (zah rfl foc3 rfl Tryz.isAgg85) rfl <| gP (zab rfl rfl rfl hg4B) (zae rfl) rfl <| gP (zab rfl rfl rfl hg4B) (zaa rfl ⟨_, _, _, Tryz.runUnderlying111, rfl, rfl, Tryz.sizeOf4, rfl⟩) rfl <| gV (zab rfl rfl rfl hg4B) (zbu (Ent.trans (t1_ eR) (za8 hk)) (zah rfl foc0 rfl Tryz.isAgg4)) rfl <| gP (zab rfl rfl rfl hg4B) (P_not rfl) rfl <| oP (zay rfl hg4B rfl) rfl <| oM rfl rfl ?_
     first | (refine zba 37 rfl (fun hg5B hg5 => ?_) (fun hg5B hg5 => ?_)) | (refine zbb 37 rfl (fun hg5B hg5 => ?_) (fun hg5B hg5 => ?_)) | (refine zbi 37 rfl (fun hg5B => ?_) (fun hg5B => ?_))
     ·
      refine RJ_gn (GY_no rfl rfl rfl hg5B) rfl rfl <| RJ_gn (GY_no rfl rfl rfl hg5B) rfl rfl <| RJ_gn (GY_no rfl rfl rfl hg5B) rfl rfl <| RJ_gn (GY_no rfl rfl rfl hg5B) rfl rfl <| RJ_gn (GY_no rfl rfl rfl hg5B) rfl rfl <| RJ_gn (GY_no rfl rfl rfl hg5B) rfl rfl <| RJ_gn (GY_no rfl rfl rfl hg5B) rfl rfl <| oP (zas rfl hg5B rfl) rfl <| oA rfl rfl <| nT <| za4 rfl rfl <| sR <| oA rfl rfl <| oA rfl rfl <| nT <| zai <| zaj <| zad <| zam (res2 Tryz.results145 rfl rfl) ?_
      have e1 : m.hdo k t = ((0, 20), m) := by
        unfold Md.hdo
        rw [if_neg (by simp_all), if_pos (by simp_all)]
      rw [e1]
      refine CSpec.close c ?_ ?_ (t0_ (t0_ (eD (eD eR))))
      · rfl
      · rfl
     ·
      refine gP (zab rfl rfl rfl hg5B) (zaa rfl ⟨_, _, _, Tryz.runUnderlying87, rfl, rfl, Tryz.sizeOf25, rfl⟩) rfl <| gV (zab rfl rfl rfl hg5B) (zah rfl foc3 rfl Tryz.isAgg25) rfl <| gP (zab rfl rfl rfl hg5B) (zaa rfl ⟨_, _, _, Tryz.runUnderlying87, rfl, rfl, Tryz.sizeOf85, rfl⟩) rfl <| gV (zab rfl rfl rfl hg5B) (zah rfl foc3 rfl Tryz.isAgg85) rfl <| gV (zab rfl rfl rfl hg5B) (zbh rfl foc2 Tryz.isAgg33 Tryz.sizeOf33 rfl rfl) rfl <| RJ_gy (zab rfl rfl rfl hg5B) <| zaq (zf5 (t := t) hk) rfl Tryz.call78 (Dels.cons del0 (Dels.cons del0 Dels.nil)) rfl fun _ hc4 => gP (zab rfl rfl rfl hg5B) (zfu rfl rfl Tryz.underlying85) rfl <| oP (zay rfl hg5B rfl) rfl <| oA rfl rfl <| nT ?_
      first | (refine zao rfl (fun hg6 => ?_) (fun hg6 => ?_)) | (refine zap rfl (fun hg6 => ?_) (fun hg6 => ?_)) | (refine zar rfl (fun hg6 => ?_) (fun hg6 => ?_))
      ·
       refine sR <| oA rfl rfl <| oA rfl rfl <| nT <| zai <| zaj <| zad <| zam (res2 Tryz.results145 rfl rfl) ?_
       have e1 : m.hdo k t = ((0, 20), m) := by
         unfold Md.hdo
         rw [if_neg (by simp_all), if_pos (by simp_all)]
       rw [e1]
       refine CSpec.close c ?_ ?_ (t0_ (t0_ (eD (eD eR))))
       · rfl
       · rfl
      ·
       refine zbk <| zal <| zav <| zaf <| za0 1280 (by kernel_rfl) rfl <| aN 0 1 rfl rfl (zaa rfl ⟨_, _, _, Tryz.runUnderlying87, rfl, rfl, Tryz.sizeOf25, rfl⟩) rfl <| aV 1 3 rfl rfl (zac rfl) (t0_ (t0_ (t0_ (t0_ eR)))) (zah rfl foc3 rfl Tryz.isAgg25) rfl <| aN 2 7 rfl rfl (zaa rfl ⟨_, _, _, Tryz.runUnderlying87, rfl, rfl, Tryz.sizeOf85, rfl⟩) rfl <| aV 3 15 rfl rfl (zac rfl) (t0_ (t0_ (t0_ (t0_ eR)))) (zah rfl foc3 rfl Tryz.isAgg85) rfl <| aN 4 31 rfl rfl (zae rfl) rfl <| aN 5 63 rfl rfl (zaa rfl ⟨_, _, _, Tryz.runUnderlying111, rfl, rfl, Tryz.sizeOf9, rfl⟩) rfl <| aV 6 127 rfl rfl (zac rfl) (t0_ (t0_ (t0_ (t0_ eR)))) (zbu (Ent.trans (t1_ eR) (za8 hk)) (zah rfl foc0 rfl Tryz.isAgg9)) rfl <| aV 7 255 rfl rfl (zac rfl) (t0_ (t0_ (t0_ (t0_ eR)))) (zbh rfl foc2 Tryz.isAgg33 Tryz.sizeOf33 rfl rfl) rfl <| zgf 8 9 511 767 rfl rfl (by kernel_rfl) rfl rfl (zac rfl) (zac rfl) (zaq ((zc9 (nm := (m.at k).name) (t := t) hw hb (by rw [Md.at_find hO hk.1 hk.2.1]; rfl) hkd)) rfl Tryz.call82 (Dels.cons del0 (Dels.cons del0 Dels.nil)) rfl (fun c9 h9 => ?_)) (zb1 Tryz.zeroValue51 rfl rfl (fun b6 => ?_))
       ·
        refine ⟨fun h => absurd h (by decide), ?_⟩
        refine zgy 9 1023 rfl (by kernel_rfl) rfl (zac rfl) Tryz.zeroValue51 rfl rfl fun b7 => AJ_op 10 2047 rfl (by kernel_rfl) rfl (zac rfl) <| zbn rfl rfl foc0 Tryz.sizeOf51 rfl rfl rfl <| ⟨fun h => absurd h (by decide), ?_⟩
        refine aD <| zaf <| za0 0 (by kernel_rfl) rfl <| aN 0 1 rfl rfl (zaa rfl ⟨_, _, _, Tryz.runUnderlying51, rfl, rfl, Tryz.sizeOf31, rfl⟩) rfl <| aV 1 3 rfl rfl (zac rfl) (t0_ (t0_ (t0_ (t0_ (t0_ eR))))) (zah rfl foc0 rfl Tryz.isAgg31) rfl <| aN 2 7 rfl rfl (zaa rfl ⟨_, _, _, Tryz.runUnderlying51, rfl, rfl, Tryz.sizeOf40, rfl⟩) rfl <| aV 3 15 rfl rfl (zac rfl) (t0_ (t0_ (t0_ (t0_ (t0_ eR))))) (zah rfl foc0 rfl Tryz.isAgg40) rfl <| aN 4 31 rfl rfl (zbc rfl) rfl <| aN 5 63 rfl rfl (zbc rfl) rfl <| aD <| zai <| zam (res2 Tryz.results145 rfl rfl) ?_
        have e1 : m.hdo k t = m.carryk k t := by
          unfold Md.hdo
          rw [if_neg (by simp_all), if_neg (by simp_all)]
        rw [e1]
        refine CSpec.close c9 ?_ ?_ (Ent.takeC del1 (by rw [← h9.1, zb7 hO hk.1 hk.2.1]) (Ent.takeC del1 (by rw [zb7 hO hk.1 hk.2.1]) (eD (eD (eD eR)))))
        · rw [← zb7 hO hk.1 hk.2.1]; rfl
        · exact h9.2
       ·
        refine ⟨fun _ => (t1_ (t1_ (t1_ (t1_ (eD eR))))), ?_⟩
        refine AJ_op 8 1023 rfl (by kernel_rfl) rfl (zac rfl) <| zaq ((zc9 (nm := (m.at k).name) (t := t) hw hb (by rw [Md.at_find hO hk.1 hk.2.1]; rfl) hkd)) rfl Tryz.call82 (Dels.cons del1 (Dels.cons del1 Dels.nil)) rfl fun c9 h9 => ⟨fun h => absurd h (by decide), ?_⟩
        refine AJ_op 10 2047 rfl (by kernel_rfl) rfl (zac rfl) <| zbn rfl rfl foc2 Tryz.sizeOf51 rfl rfl rfl <| ⟨fun h => absurd h (by decide), ?_⟩
        refine aD <| zaf <| za0 0 (by kernel_rfl) rfl <| aN 0 1 rfl rfl (zaa rfl ⟨_, _, _, Tryz.runUnderlying51, rfl, rfl, Tryz.sizeOf31, rfl⟩) rfl <| aV 1 3 rfl rfl (zac rfl) (t0_ (t0_ (t0_ (t0_ (t0_ eR))))) (zah rfl foc2 rfl Tryz.isAgg31) rfl <| aN 2 7 rfl rfl (zaa rfl ⟨_, _, _, Tryz.runUnderlying51, rfl, rfl, Tryz.sizeOf40, rfl⟩) rfl <| aV 3 15 rfl rfl (zac rfl) (t0_ (t0_ (t0_ (t0_ (t0_ eR))))) (zah rfl foc2 rfl Tryz.isAgg40) rfl <| aN 4 31 rfl rfl (zbc rfl) rfl <| aN 5 63 rfl rfl (zbc rfl) rfl <| aD <| zai <| zam (res2 Tryz.results145 rfl rfl) ?_
        have e1 : m.hdo k t = m.carryk k t := by
          unfold Md.hdo
          rw [if_neg (by simp_all), if_neg (by simp_all)]
        rw [e1]
        refine CSpec.close c9 ?_ ?_ (Ent.takeC del0 (by rw [← h9.1, zb7 hO hk.1 hk.2.1]) (Ent.takeC del0 (by rw [zb7 hO hk.1 hk.2.1]) (eD (eD (eD eR)))))
        · rw [← zb7 hO hk.1 hk.2.1]; rfl
        · exact h9.2
 ·
  refine aS 4 31 rfl rfl (GY_no rfl rfl rfl hg1B) rfl <| aS 5 63 rfl rfl (GY_no rfl rfl rfl hg1B) rfl <| aS 6 127 rfl rfl (GY_no rfl rfl rfl hg1B) rfl <| aS 7 255 rfl rfl (GY_no rfl rfl rfl hg1B) rfl <| aS 8 511 rfl rfl (zbq rfl rfl rfl) rfl <| aS 9 1023 rfl rfl (zbq rfl rfl rfl) rfl <| aS 10 2047 rfl rfl (zbq rfl rfl rfl) rfl <| aS 11 4095 rfl rfl (zbq rfl rfl rfl) rfl <| aS 12 8191 rfl rfl (zbq rfl rfl rfl) rfl <| aS 13 16383 rfl rfl (GY_no rfl rfl rfl hg1B) rfl <| aN 14 32767 rfl rfl (zay rfl hg1B rfl) rfl <| aN 15 65535 rfl rfl (zbc rfl) rfl <| aD <| za5 rfl rfl <| sR <| oP (zaa rfl ⟨_, _, _, Tryz.runUnderlying87, rfl, rfl, Tryz.sizeOf85, rfl⟩) rfl <| oV (zah rfl foc1 rfl Tryz.isAgg85) rfl <| oP (zae rfl) rfl <| oP (zaa rfl ⟨_, _, _, Tryz.runUnderlying111, rfl, rfl, Tryz.sizeOf4, rfl⟩) rfl <| oV (zbu (Ent.trans (t3_ eR) (za8 hk)) (zah rfl foc0 rfl Tryz.isAgg4)) rfl <| oM rfl rfl ?_
  first | (refine zba 29 rfl (fun hg7B hg7 => ?_) (fun hg7B hg7 => ?_)) | (refine zbb 29 rfl (fun hg7B hg7 => ?_) (fun hg7B hg7 => ?_)) | (refine zbi 29 rfl (fun hg7B => ?_) (fun hg7B => ?_))
  ·
   refine RJ_gn (GY_no rfl rfl rfl hg7B) rfl rfl <| RJ_gn (GY_no rfl rfl rfl hg7B) rfl rfl <| RJ_gn (GY_no rfl rfl rfl hg7B) rfl rfl <| RJ_gn (GY_no rfl rfl rfl hg7B) rfl rfl <| RJ_gn (GY_no rfl rfl rfl hg7B) rfl rfl <| RJ_gn (GY_no rfl rfl rfl hg7B) rfl rfl <| oP (zas rfl hg7B rfl) rfl <| oM rfl rfl <| RJ_gn (GY_no rfl rfl rfl rfl) rfl rfl <| RJ_gn (GY_no rfl rfl rfl rfl) rfl rfl <| RJ_gn (GY_no rfl rfl rfl rfl) rfl rfl <| RJ_gn (GY_no rfl rfl rfl rfl) rfl rfl <| RJ_gn (GY_no rfl rfl rfl rfl) rfl rfl <| RJ_gn (GY_no rfl rfl rfl rfl) rfl rfl <| RJ_gn (GY_no rfl rfl rfl rfl) rfl rfl <| oP (zas rfl rfl rfl) rfl <| oA rfl rfl <| nT <| za4 rfl rfl <| sR <| oA rfl rfl <| oA rfl rfl <| nT <| zai <| zaj <| zad <| zam (res2 Tryz.results145 rfl rfl) ?_
   have e1 : m.hdo k t = ((0, 20), m) := by
     unfold Md.hdo
     rw [if_neg (by simp_all), if_pos (by simp_all)]
   rw [e1]
   refine CSpec.close c ?_ ?_ (t2_ (t2_ (eD (eD eR))))
   · rfl
   · rfl
  ·
   refine gP (zab rfl rfl rfl hg7B) (zaa rfl ⟨_, _, _, Tryz.runUnderlying87, rfl, rfl, Tryz.sizeOf85, rfl⟩) rfl <| gV (zab rfl rfl rfl hg7B) (zah rfl foc1 rfl Tryz.isAgg85) rfl <| gP (zab rfl rfl rfl hg7B) (zae rfl) rfl <| gP (zab rfl rfl rfl hg7B) (zaa rfl ⟨_, _, _, Tryz.runUnderlying111, rfl, rfl, Tryz.sizeOf4, rfl⟩) rfl <| gV (zab rfl rfl rfl hg7B) (zbu (Ent.trans (t3_ eR) (za8 hk)) (zah rfl foc0 rfl Tryz.isAgg4)) rfl <| gP (zab rfl rfl rfl hg7B) (P_not rfl) rfl <| oP (zay rfl hg7B rfl) rfl <| oM rfl rfl ?_
   first | (refine zba 37 rfl (fun hg8B hg8 => ?_) (fun hg8B hg8 => ?_)) | (refine zbb 37 rfl (fun hg8B hg8 => ?_) (fun hg8B hg8 => ?_)) | (refine zbi 37 rfl (fun hg8B => ?_) (fun hg8B => ?_))
   ·
    refine RJ_gn (GY_no rfl rfl rfl hg8B) rfl rfl <| RJ_gn (GY_no rfl rfl rfl hg8B) rfl rfl <| RJ_gn (GY_no rfl rfl rfl hg8B) rfl rfl <| RJ_gn (GY_no rfl rfl rfl hg8B) rfl rfl <| RJ_gn (GY_no rfl rfl rfl hg8B) rfl rfl <| RJ_gn (GY_no rfl rfl rfl hg8B) rfl rfl <| RJ_gn (GY_no rfl rfl rfl hg8B) rfl rfl <| oP (zas rfl hg8B rfl) rfl <| oA rfl rfl <| nT <| za4 rfl rfl <| sR <| oA rfl rfl <| oA rfl rfl <| nT <| zai <| zaj <| zad <| zam (res2 Tryz.results145 rfl rfl) ?_
    have e1 : m.hdo k t = ((0, 20), m) := by
      unfold Md.hdo
      rw [if_neg (by simp_all), if_pos (by simp_all)]
    rw [e1]
    refine CSpec.close c ?_ ?_ (t2_ (t2_ (eD (eD eR))))
    · rfl
    · rfl
   ·
    refine gP (zab rfl rfl rfl hg8B) (zaa rfl ⟨_, _, _, Tryz.runUnderlying87, rfl, rfl, Tryz.sizeOf25, rfl⟩) rfl <| gV (zab rfl rfl rfl hg8B) (zah rfl foc1 rfl Tryz.isAgg25) rfl <| gP (zab rfl rfl rfl hg8B) (zaa rfl ⟨_, _, _, Tryz.runUnderlying87, rfl, rfl, Tryz.sizeOf85, rfl⟩) rfl <| gV (zab rfl rfl rfl hg8B) (zah rfl foc1 rfl Tryz.isAgg85) rfl <| gV (zab rfl rfl rfl hg8B) (zbh rfl foc0 Tryz.isAgg33 Tryz.sizeOf33 rfl rfl) rfl <| RJ_gy (zab rfl rfl rfl hg8B) <| zaq (zf5 (t := t) hk) rfl Tryz.call78 (Dels.cons del2 (Dels.cons del2 Dels.nil)) rfl fun _ hc9 => gP (zab rfl rfl rfl hg8B) (zfu rfl rfl Tryz.underlying85) rfl <| oP (zay rfl hg8B rfl) rfl <| oA rfl rfl <| nT ?_
    first | (refine zao rfl (fun hg9 => ?_) (fun hg9 => ?_)) | (refine zap rfl (fun hg9 => ?_) (fun hg9 => ?_)) | (refine zar rfl (fun hg9 => ?_) (fun hg9 => ?_))
    ·
     refine sR <| oA rfl rfl <| oA rfl rfl <| nT <| zai <| zaj <| zad <| zam (res2 Tryz.results145 rfl rfl) ?_
     have e1 : m.hdo k t = ((0, 20), m) := by
       unfold Md.hdo
       rw [if_neg (by simp_all), if_pos (by simp_all)]
     rw [e1]
     refine CSpec.close c ?_ ?_ (t0_ (t0_ (eD (eD eR))))
     · rfl
     · rfl
    ·
     refine zbk <| zal <| zav <| zaf <| za0 1280 (by kernel_rfl) rfl <| aN 0 1 rfl rfl (zaa rfl ⟨_, _, _, Tryz.runUnderlying87, rfl, rfl, Tryz.sizeOf25, rfl⟩) rfl <| aV 1 3 rfl rfl (zac rfl) (t0_ (t0_ (t0_ (t0_ eR)))) (zah rfl foc3 rfl Tryz.isAgg25) rfl <| aN 2 7 rfl rfl (zaa rfl ⟨_, _, _, Tryz.runUnderlying87, rfl, rfl, Tryz.sizeOf85, rfl⟩) rfl <| aV 3 15 rfl rfl (zac rfl) (t0_ (t0_ (t0_ (t0_ eR)))) (zah rfl foc3 rfl Tryz.isAgg85) rfl <| aN 4 31 rfl rfl (zae rfl) rfl <| aN 5 63 rfl rfl (zaa rfl ⟨_, _, _, Tryz.runUnderlying111, rfl, rfl, Tryz.sizeOf9, rfl⟩) rfl <| aV 6 127 rfl rfl (zac rfl) (t0_ (t0_ (t0_ (t0_ eR)))) (zbu (Ent.trans (t1_ eR) (za8 hk)) (zah rfl foc0 rfl Tryz.isAgg9)) rfl <| aV 7 255 rfl rfl (zac rfl) (t0_ (t0_ (t0_ (t0_ eR)))) (zbh rfl foc2 Tryz.isAgg33 Tryz.sizeOf33 rfl rfl) rfl <| zgf 8 9 511 767 rfl rfl (by kernel_rfl) rfl rfl (zac rfl) (zac rfl) (zaq ((zc9 (nm := (m.at k).name) (t := t) hw hb (by rw [Md.at_find hO hk.1 hk.2.1]; rfl) hkd)) rfl Tryz.call82 (Dels.cons del0 (Dels.cons del0 Dels.nil)) rfl (fun c9 h9 => ?_)) (zb1 Tryz.zeroValue51 rfl rfl (fun b11 => ?_))
     ·
      refine ⟨fun h => absurd h (by decide), ?_⟩
      refine zgy 9 1023 rfl (by kernel_rfl) rfl (zac rfl) Tryz.zeroValue51 rfl rfl fun b12 => AJ_op 10 2047 rfl (by kernel_rfl) rfl (zac rfl) <| zbn rfl rfl foc0 Tryz.sizeOf51 rfl rfl rfl <| ⟨fun h => absurd h (by decide), ?_⟩
      refine aD <| zaf <| za0 0 (by kernel_rfl) rfl <| aN 0 1 rfl rfl (zaa rfl ⟨_, _, _, Tryz.runUnderlying51, rfl, rfl, Tryz.sizeOf31, rfl⟩) rfl <| aV 1 3 rfl rfl (zac rfl) (t0_ (t0_ (t0_ (t0_ (t0_ eR))))) (zah rfl foc0 rfl Tryz.isAgg31) rfl <| aN 2 7 rfl rfl (zaa rfl ⟨_, _, _, Tryz.runUnderlying51, rfl, rfl, Tryz.sizeOf40, rfl⟩) rfl <| aV 3 15 rfl rfl (zac rfl) (t0_ (t0_ (t0_ (t0_ (t0_ eR))))) (zah rfl foc0 rfl Tryz.isAgg40) rfl <| aN 4 31 rfl rfl (zbc rfl) rfl <| aN 5 63 rfl rfl (zbc rfl) rfl <| aD <| zai <| zam (res2 Tryz.results145 rfl rfl) ?_
      have e1 : m.hdo k t = m.carryk k t := by
        unfold Md.hdo
        rw [if_neg (by simp_all), if_neg (by simp_all)]
      rw [e1]
      refine CSpec.close c9 ?_ ?_ (Ent.takeC del1 (by rw [← h9.1, zb7 hO hk.1 hk.2.1]) (Ent.takeC del1 (by rw [zb7 hO hk.1 hk.2.1]) (eD (eD (eD eR)))))
      · rw [← zb7 hO hk.1 hk.2.1]; rfl
      · exact h9.2
     ·
      refine ⟨fun _ => (t1_ (t1_ (t1_ (t1_ (eD eR))))), ?_⟩
      refine AJ_op 8 1023 rfl (by kernel_rfl) rfl (zac rfl) <| zaq ((zc9 (nm := (m.at k).name) (t := t) hw hb (by rw [Md.at_find hO hk.1 hk.2.1]; rfl) hkd)) rfl Tryz.call82 (Dels.cons del1 (Dels.cons del1 Dels.nil)) rfl fun c9 h9 => ⟨fun h => absurd h (by decide), ?_⟩
      refine AJ_op 10 2047 rfl (by kernel_rfl) rfl (zac rfl) <| zbn rfl rfl foc2 Tryz.sizeOf51 rfl rfl rfl <| ⟨fun h => absurd h (by decide), ?_⟩
      refine aD <| zaf <| za0 0 (by kernel_rfl) rfl <| aN 0 1 rfl rfl (zaa rfl ⟨_, _, _, Tryz.runUnderlying51, rfl, rfl, Tryz.sizeOf31, rfl⟩) rfl <| aV 1 3 rfl rfl (zac rfl) (t0_ (t0_ (t0_ (t0_ (t0_ eR))))) (zah rfl foc2 rfl Tryz.isAgg31) rfl <| aN 2 7 rfl rfl (zaa rfl ⟨_, _, _, Tryz.runUnderlying51, rfl, rfl, Tryz.sizeOf40, rfl⟩) rfl <| aV 3 15 rfl rfl (zac rfl) (t0_ (t0_ (t0_ (t0_ (t0_ eR))))) (zah rfl foc2 rfl Tryz.isAgg40) rfl <| aN 4 31 rfl rfl (zbc rfl) rfl <| aN 5 63 rfl rfl (zbc rfl) rfl <| aD <| zai <| zam (res2 Tryz.results145 rfl rfl) ?_
      have e1 : m.hdo k t = m.carryk k t := by
        unfold Md.hdo
        rw [if_neg (by simp_all), if_neg (by simp_all)]
      rw [e1]
      refine CSpec.close c9 ?_ ?_ (Ent.takeC del0 (by rw [← h9.1, zb7 hO hk.1 hk.2.1]) (Ent.takeC del0 (by rw [zb7 hO hk.1 hk.2.1]) (eD (eD (eD eR)))))
      · rw [← zb7 hO hk.1 hk.2.1]; rfl
      · exact h9.2
theorem zw0 {W : World} {b k : Nat} {c : MH} {m : Md} (hk : m.isD k) (hw : m.wr < 100000000) {a : Int} (hb : -9223372036854775808 ≤ a ∧ a ≤ 9223372036854775807) :
    CSpec Tryz.prog W 142 [.agg #[ptr b 0, ptr (c.bs k) 0], .int .i64 a] [blk b 84 (zax c m), MapR c m] (fun _ : MH => .tuple #[.int .u64 ((m.hdo k (⟨1, a, 0⟩ : api_Task)).1.1.toNat : Int), .int .i64 (m.hdo k (⟨1, a, 0⟩ : api_Task)).1.2]) (fun c2 => c2.bs = c.bs) (fun c2 F => blk b 84 (zax c2 (m.hdo k ⟨1, a, 0⟩).2) :: MapR c2 (m.hdo k ⟨1, a, 0⟩).2 :: F) := by
 refine CSpec.of_body Tryz.func142 rfl Tryz.ntmps142 rfl fun F => ?_
 show CJ _ _ _ _ _ _ (_ :: _ :: F)
 refine sR <| oO <| O_box rfl rfl rfl fun b1 => oA rfl rfl <| oA rfl rfl <| nT <| sR <| oV (zbh rfl foc0 Tryz.isAgg87 Tryz.sizeOf87 rfl rfl) rfl <| oM rfl rfl <| oP (zbm rfl (zlk _ _)) rfl <| oO <| zaq ((c_hdo (t := ⟨1, a, 0⟩) hk hw hb ⟨(by show (1 : Int) ≤ 1; decide), (by show (1 : Int) ≤ 3; decide)⟩)) rfl Tryz.call145 (Dels.cons del1 (Dels.cons del1 Dels.nil)) rfl fun c9 h9 => oP (zaw rfl rfl) rfl <| oP (zaw rfl rfl) rfl <| oA rfl rfl <| oA rfl rfl <| nT <| zai <| zam (res2 Tryz.results142 rfl rfl) <| CSpec.close c9 ?_ ?_ (t0_ (t0_ (eD eR)))
 · rfl
 · exact h9
theorem zve {W : World} {b k : Nat} {c : MH} {m : Md} (hk : m.isD k) (hw : m.wr < 100000000) {a : Int} {x : UInt64} (hb : -9223372036854775808 ≤ a ∧ a ≤ 9223372036854775807) :
    CSpec Tryz.prog W 144 [.agg #[ptr b 0, ptr (c.bs k) 0], .int .i64 a, .int .u64 (x.toNat : Int)] [blk b 84 (zax c m), MapR c m] (fun _ : MH => .int .i64 (m.hdo k (⟨2, a, x⟩ : api_Task)).1.2) (fun c2 => c2.bs = c.bs) (fun c2 F => blk b 84 (zax c2 (m.hdo k ⟨2, a, x⟩).2) :: MapR c2 (m.hdo k ⟨2, a, x⟩).2 :: F) := by
 refine CSpec.of_body Tryz.func144 rfl Tryz.ntmps144 rfl fun F => ?_
 show CJ _ _ _ _ _ _ (_ :: _ :: F)
 refine sR <| oO <| O_box rfl rfl rfl fun b1 => oA rfl rfl <| nT <| sR <| oV (zbh rfl foc0 Tryz.isAgg87 Tryz.sizeOf87 rfl rfl) rfl <| oM rfl rfl <| oM rfl rfl <| oP (zbm rfl (zjz _ _ _)) rfl <| oO <| zaq ((c_hdo (t := ⟨2, a, x⟩) hk hw hb ⟨(by show (1 : Int) ≤ 2; decide), (by show (2 : Int) ≤ 3; decide)⟩)) rfl Tryz.call145 (Dels.cons del1 (Dels.cons del1 Dels.nil)) rfl fun c9 h9 => oM rfl rfl <| oP (zaw rfl rfl) rfl <| oP (zaw rfl rfl) rfl <| oA rfl rfl <| oA rfl rfl <| nT <| sR <| oM rfl rfl <| oA rfl rfl <| nT <| zai <| zam (res1 Tryz.results144 rfl) <| CSpec.close c9 ?_ ?_ (t0_ (t0_ (eD eR)))
 · rfl
 · exact h9
theorem zvf {W : World} {b k : Nat} {c : MH} {m : Md} (hk : m.isD k) (hw : m.wr < 100000000)  :
    CSpec Tryz.prog W 141 [.agg #[ptr b 0, ptr (c.bs k) 0]] [blk b 84 (zax c m), MapR c m] (fun _ : MH => .int .i64 (m.hdo k (⟨3, 0, 0⟩ : api_Task)).1.2) (fun c2 => c2.bs = c.bs) (fun c2 F => blk b 84 (zax c2 (m.hdo k ⟨3, 0, 0⟩).2) :: MapR c2 (m.hdo k ⟨3, 0, 0⟩).2 :: F) := by
 refine CSpec.of_body Tryz.func141 rfl Tryz.ntmps141 rfl fun F => ?_
 show CJ _ _ _ _ _ _ (_ :: _ :: F)
 refine sR <| oO <| O_box rfl rfl rfl fun b1 => oA rfl rfl <| nT <| sR <| oV (zbh rfl foc0 Tryz.isAgg87 Tryz.sizeOf87 rfl rfl) rfl <| oP (zbm rfl (znk _)) rfl <| oO <| zaq ((c_hdo (t := ⟨3, 0, 0⟩) hk hw ⟨by decide, by decide⟩ ⟨(by show (1 : Int) ≤ 3; decide), (by show (3 : Int) ≤ 3; decide)⟩)) rfl Tryz.call145 (Dels.cons del1 (Dels.cons del1 Dels.nil)) rfl fun c9 h9 => oM rfl rfl <| oP (zaw rfl rfl) rfl <| oP (zaw rfl rfl) rfl <| oA rfl rfl <| oA rfl rfl <| nT <| sR <| oM rfl rfl <| oA rfl rfl <| nT <| zai <| zam (res1 Tryz.results141 rfl) <| CSpec.close c9 ?_ ?_ (t0_ (t0_ (eD eR)))
 · rfl
 · exact h9
end Go.Proofs
namespace Go.Proofs
open Go.VG
abbrev nA : ByteArray := ByteArray.mk #[97]
abbrev TB3 : List api_Target := [⟨0, 2, ByteArray.mk #[100, 105, 115, 107, 48], 1, false⟩, ⟨2, 1, ByteArray.empty, 0, false⟩, ⟨3, 1, ByteArray.empty, 0, true⟩]
def Mv1 : Md := (Mb2.crS nA).tick
def Mv3 : Md := (Mv1.ldS nA TB3).tick
def Mv5 : Md := (Mv3.suS nA).tick
def Mv6 : Md := (Mv5.rsS nA).tick
def St (u v : UInt64) (w : Nat) (s : Bool) (c : Nat) : Md := ⟨[{ Dv.z with name := nd0, isB := true, base := [0, u, v, 0, 0, 0, 0, 0, 0, 0, 0, 0] }, bNew nd1 8, { Dv.z with name := nA, live := TB3, hl := true, susp := s }], 0, [], c, w⟩
theorem Mv6_eq : Mv6 = St 0 0 0 false 4 := by kernel_rfl
theorem zvg : tsize (Mv3.at 2).live = 0 := by kernel_rfl
theorem zq8 : Mv3.dev nA = some 2 := by kernel_rfl
theorem zvh : Mv3.find (ByteArray.mk #[122, 122]) = none := by kernel_rfl
section
variable {u v x : UInt64} {w c : Nat} {s : Bool} {a : Int}
theorem zq9 : tsize ((St u v w s c).at 2).live = 4 := by kernel_rfl
theorem St_su : (St u v w false c).suS nA = St u v w true c := by kernel_rfl
theorem St_rs : (St u v w true c).rsS nA = St u v w false c := by kernel_rfl
theorem znl : (St u v w s c).isD 2 := ⟨by show 2 < 3; omega, rfl, rfl⟩
def hrE (s : Bool) (a : Int) : Int := if a < 0 ∨ 4 ≤ a then 1 else if s then 20 else if a = 3 then 7 else 0
def hrV (u v : UInt64) (s : Bool) (a : Int) : UInt64 := if a < 0 ∨ 4 ≤ a then 0 else if s then 0 else if a = 0 then u else if a = 1 then v else 0
def hwE (s : Bool) (a : Int) : Int := if a < 0 ∨ 4 ≤ a then 1 else if s then 20 else if a = 3 then 7 else if a = 2 then 22 else 0
def hwU (u x : UInt64) (s : Bool) (a : Int) (k : Int) : UInt64 := if s then u else if a = k then x else u
def hwN (w : Nat) (s : Bool) (a : Int) : Nat := if s then w else if a = 0 then w + 1 else if a = 1 then w + 1 else w
theorem a4 (h : ¬ (a < 0 ∨ 4 ≤ a)) : a = 0 ∨ a = 1 ∨ a = 2 ∨ a = 3 := by omega
theorem zra {k : Int} (h : a < 0 ∨ 4 ≤ a) (hk : k ≠ 3) : (St u v w s c).hdo 2 ⟨k, a, x⟩ = ((0, 1), St u v w s c) := by
  unfold Md.hdo
  exact if_pos ⟨hk, by rw [zq9]; exact h⟩
theorem hdo_rd : (St u v w s c).hdo 2 ⟨1, a, 0⟩ = ((hrV u v s a, hrE s a), St u v w s c) := by
  by_cases h : a < 0 ∨ 4 ≤ a
  · rw [zra h (by decide)]
    unfold hrE hrV
    rw [if_pos h, if_pos h]
  · rcases a4 h with rfl | rfl | rfl | rfl <;> cases s <;> kernel_rfl
theorem hdo_wr : (St u v w s c).hdo 2 ⟨2, a, x⟩ = ((0, hwE s a), St (hwU u x s a 0) (hwU v x s a 1) (hwN w s a) s c) := by
  by_cases h : a < 0 ∨ 4 ≤ a
  · rw [zra h (by decide)]
    have e0 : a ≠ 0 := by omega
    have e1 : a ≠ 1 := by omega
    unfold hwE hwU hwN
    rw [if_pos h]
    cases s <;> simp [e0, e1]
  · rcases a4 h with rfl | rfl | rfl | rfl <;> cases s <;> kernel_rfl
theorem hdo_fl : (St u v w s c).hdo 2 ⟨3, 0, 0⟩ = ((0, if s then 20 else 0), St u v w s c) := by cases s <;> kernel_rfl
theorem do_rd (h : ¬ (a < 0 ∨ 4 ≤ a)) : (St u v w false c).doE nA ⟨1, a, 0⟩ = 0 ∧ (St u v w false c).doA nA ⟨1, a, 0⟩ = ⟨true, 0, hrV u v false a, hrE false a⟩ ∧ (St u v w false c).doS nA ⟨1, a, 0⟩ = St u v w false c := by
  rcases a4 h with rfl | rfl | rfl | rfl <;> exact ⟨by kernel_rfl, by kernel_rfl, by kernel_rfl⟩
theorem do_wr (h : ¬ (a < 0 ∨ 4 ≤ a)) : (St u v w false c).doE nA ⟨2, a, x⟩ = 0 ∧ (St u v w false c).doA nA ⟨2, a, x⟩ = ⟨true, 0, 0, hwE false a⟩ ∧ (St u v w false c).doS nA ⟨2, a, x⟩ = St (hwU u x false a 0) (hwU v x false a 1) (hwN w false a) false c := by
  rcases a4 h with rfl | rfl | rfl | rfl <;> exact ⟨by kernel_rfl, by kernel_rfl, by kernel_rfl⟩
end
end Go.Proofs
set_option linter.unusedSimpArgs false
set_option maxRecDepth 20000
namespace Go.Proofs
open Go.VG
def MapB (b p k : Nat) (m : Md) : HP := ex fun c : MH => star [pur (MdBd m ∧ c.bs k = p), blk b 84 (zax c m), MapR c m]
theorem zis {b p k : Nat} {m : Md} {R : List HP} : EntX (MapB b p k m :: R) fun c : MH => pur (MdBd m ∧ c.bs k = p) :: blk b 84 (zax c m) :: MapR c m :: R :=
  fun _ hh => let ⟨c, hc⟩ := stars_ex.1 hh; ⟨c, stars_star.1 hc⟩
theorem zhx {b p k : Nat} {m : Md} {c : MH} {R : List HP} (h : MdBd m) (hp : c.bs k = p) : Ent (blk b 84 (zax c m) :: MapR c m :: R) (MapB b p k m :: R) :=
  fun _ hh => stars_ex.2 ⟨c, stars_star.2 (stars_pur.2 ⟨⟨h, hp⟩, hh⟩)⟩
theorem zw1 {b p k : Nat} {m : Md} {R : List HP} : Ent (MapB b p k m :: R) (MapP b m :: R) := fun _ hh => by
  obtain ⟨c, h1⟩ := zis _ hh
  obtain ⟨⟨hb, _⟩, h2⟩ := stars_pur.1 h1
  exact zgi hb _ h2
theorem ztw {b p k : Nat} {m : Md} {R : List HP} (hc : m.cl < 4000) : Ent (MapB b p k m :: R) (MapB b p k m.tick :: R) := fun _ hh => by
  obtain ⟨c, h1⟩ := zis _ hh
  obtain ⟨⟨hb, hp⟩, h2⟩ := stars_pur.1 h1
  exact (Ent.trans (Ent.take del1 Ent.refl) (Ent.trans zio (Ent.trans (Ent.take del1 Ent.refl) (zhx (m := m.tick) (c := c) (Md.tick_bd hb hc) hp)))) _ h2
theorem ztx {b : Nat} {m : Md} {R : List HP} (hc : m.cl < 4000) : Ent (RefP b m :: R) (RefP b m.tick :: R) := fun _ hh => by
  obtain ⟨c, h1⟩ := zov _ hh
  obtain ⟨hb, h2⟩ := stars_pur.1 h1
  exact (Ent.trans (Ent.take del1 Ent.refl) (Ent.trans zow (Ent.trans (Ent.take del1 Ent.refl) (zhw (m := m.tick) (c := c) (Md.tick_bd hb hc))))) _ h2
section
variable {u v x : UInt64} {w c d : Nat} {s : Bool} {a : Int} {b p b2 : Nat} {W : World} {R : List HP}
theorem zw2 (h : c ≤ d) (hd : d ≤ 4000) : Ent (MapB b p 2 (St u v w s c) :: R) (MapB b p 2 (St u v w s d) :: R) := by
  induction d with
  | zero => obtain rfl : c = 0 := by omega
            exact Ent.refl
  | succ d ih =>
    by_cases e : c = d + 1
    · subst e; exact Ent.refl
    · exact Ent.trans (ih (by omega) (by omega)) (ztw (m := St u v w s d) (by show d < 4000; omega))
theorem zlc (h : c ≤ d) (hd : d ≤ 4000) : Ent (RefP b (St u v w s c) :: R) (RefP b (St u v w s d) :: R) := by
  induction d with
  | zero => obtain rfl : c = 0 := by omega
            exact Ent.refl
  | succ d ih =>
    by_cases e : c = d + 1
    · subst e; exact Ent.refl
    · exact Ent.trans (ih (by omega) (by omega)) (ztx (m := St u v w s d) (by show d < 4000; omega))
theorem St_bd {u' v' : UInt64} {w' : Nat} {s' : Bool} (h : MdBd (St u v w s c)) (hc : c < 4000) (hw : w' ≤ w + 1) : MdBd (St u' v' w' s' (c + 1)) := by
  have h1 : w ≤ 4000 * c := h.wr
  have h2 : 3 ≤ c + 2 := h.len
  exact ⟨Nat.le_of_eq (by kernel_rfl), Nat.zero_le _, Nat.zero_le _, by show w' ≤ 4000 * (c + 1); omega, by show 3 ≤ c + 1 + 2; omega, by show c + 1 ≤ 4000; omega⟩
theorem hwN_le : hwN w s a ≤ w + 1 := by unfold hwN; repeat' split
                                         all_goals omega
theorem CSpec.toB {f : FuncId} {args : List Value} {k : Nat} {m m' : Md} {y : Value} {G : List HP} (hm : MdBd m → MdBd m'.tick)
    (h : ∀ c : MH, MdBd m → MdOk m → c.bs k = p → CSpec Tryz.prog W f args (blk b 84 (zax c m) :: MapR c m :: G) (fun _ : MH => y) (fun c2 => c2.bs = c.bs) (fun c2 F => blk b 84 (zax c2 m') :: MapR c2 m' :: (G ++ F))) :
    CSpec Tryz.prog W f args (MapB b p k m :: G) (fun _ : Unit => y) (fun _ => True) (fun _ F => MapB b p k m'.tick :: (G ++ F)) := by
  intro F w hs
  obtain ⟨gg, hgg⟩ := hs.heap
  obtain ⟨c, h1⟩ := zis _ hgg
  obtain ⟨⟨hb, hp⟩, h2⟩ := stars_pur.1 h1
  have hO : MdOk m := (zb3 (H := blk b 84 (zax c m) :: MapR c m :: (G ++ F)) foc1 _ h2).ok
  refine (h c hb hO hp F w ⟨hs.os, hs.tape, hs.output, gg, h2⟩).mono ?_
  rintro e w' ⟨c2, h3, h4, h5⟩
  exact ⟨(), h3, trivial, h5.imp (Ent.trans (Ent.take del1 Ent.refl) (Ent.trans zio (Ent.trans (Ent.take del1 Ent.refl) (zhx (m := m'.tick) (c := c2) (hm hb) ((congrFun h4 k).trans hp)))))⟩
theorem wr_lt {m : Md} (h : MdBd m) : m.wr < 100000000 := by have h1 := h.wr; have h2 := h.cl; omega
theorem c_suB {m : Md} {n : ByteArray} (hc : m.cl < 4000) : CSpec Tryz.prog W 32 [ptr b 0, .string n] [MapB b p 2 m] (fun _ : Unit => .int .i64 (m.suE n)) (fun _ => True) (fun _ F => MapB b p 2 (m.suS n).tick :: F) :=
  CSpec.toB (G := []) (fun h => Md.bd_su h hc) fun _c _hb _ _hp => zrv
theorem c_rsB {m : Md} {n : ByteArray} (hc : m.cl < 4000) : CSpec Tryz.prog W 34 [ptr b 0, .string n] [MapB b p 2 m] (fun _ : Unit => .int .i64 (m.rsE n)) (fun _ => True) (fun _ F => MapB b p 2 (m.rsS n).tick :: F) :=
  CSpec.toB (G := []) (fun h => Md.bd_rs h hc) fun c hb _ hp => by
    have g1 := hb.tks; have g2 := hb.told; have g3 := hb.wr; have g4 := hb.len; have g5 := hb.wl
    exact ztv (by omega) (by omega) (by omega)
theorem c_xSz {m : Md} (hk : m.isD 2) : ICall Tryz.prog W (.iface 87 (.agg #[ptr b 0, ptr p 0])) "Size" [] [MapB b p 2 m] (fun _ : Unit => .int .i64 (tsize (m.at 2).live)) (fun _ => True) (fun _ F => MapB b p 2 m :: F) :=
  ICall.of (r := .agg #[ptr b 0, ptr p 0]) (fun w => by kernel_rfl) Tryz.call143 (by
    intro F w hs
    obtain ⟨gg, hgg⟩ := hs.heap
    obtain ⟨c, h1⟩ := zis _ hgg
    obtain ⟨⟨hb, hp⟩, h2⟩ := stars_pur.1 h1
    subst hp
    refine (zq7 (b := b) (c := c) (m := m) hk F w ⟨hs.os, hs.tape, hs.output, gg, h2⟩).mono ?_
    rintro e w' ⟨_, h3, h4, h5⟩
    exact ⟨(), h3, trivial, h5.imp (zhx hb rfl)⟩)
theorem c_xRd (hc : c < 4000) (ha : -9223372036854775808 ≤ a ∧ a ≤ 9223372036854775807) : ICall Tryz.prog W (.iface 87 (.agg #[ptr b 0, ptr p 0])) "Read" [.int .i64 a] [MapB b p 2 (St u v w s c)] (fun _ : Unit => .tuple #[.int .u64 ((hrV u v s a).toNat : Int), .int .i64 (hrE s a)]) (fun _ => True) (fun _ F => MapB b p 2 (St u v w s (c + 1)) :: F) :=
  ICall.of (r := .agg #[ptr b 0, ptr p 0]) (fun w => by kernel_rfl) Tryz.call142 (CSpec.toB (G := []) (m' := St u v w s c) (fun h => St_bd h hc (Nat.le_succ _)) fun cc hb _ hp => by
    subst hp
    have h := zw0 (b := b) (c := cc) (k := 2) (W := W) znl (wr_lt hb) ha
    rw [hdo_rd] at h; exact h)
theorem c_xWr (hc : c < 4000) (ha : -9223372036854775808 ≤ a ∧ a ≤ 9223372036854775807) : ICall Tryz.prog W (.iface 87 (.agg #[ptr b 0, ptr p 0])) "Write" [.int .i64 a, .int .u64 (x.toNat : Int)] [MapB b p 2 (St u v w s c)] (fun _ : Unit => .int .i64 (hwE s a)) (fun _ => True) (fun _ F => MapB b p 2 (St (hwU u x s a 0) (hwU v x s a 1) (hwN w s a) s (c + 1)) :: F) :=
  ICall.of (r := .agg #[ptr b 0, ptr p 0]) (fun w => by kernel_rfl) Tryz.call144 (CSpec.toB (G := []) (m' := St (hwU u x s a 0) (hwU v x s a 1) (hwN w s a) s c) (fun h => St_bd h hc hwN_le) fun cc hb _ hp => by
    subst hp
    have h := zve (b := b) (c := cc) (k := 2) (W := W) (x := x) znl (wr_lt hb) ha
    rw [hdo_wr] at h; exact h)
theorem c_xFl (hc : c < 4000) : ICall Tryz.prog W (.iface 87 (.agg #[ptr b 0, ptr p 0])) "Flush" [] [MapB b p 2 (St u v w s c)] (fun _ : Unit => .int .i64 (if s then 20 else 0)) (fun _ => True) (fun _ F => MapB b p 2 (St u v w s (c + 1)) :: F) :=
  ICall.of (r := .agg #[ptr b 0, ptr p 0]) (fun w => by kernel_rfl) Tryz.call141 (CSpec.toB (G := []) (m' := St u v w s c) (fun h => St_bd h hc (Nat.le_succ _)) fun cc hb _ hp => by
    subst hp
    have h := zvf (b := b) (c := cc) (k := 2) (W := W) znl (wr_lt hb)
    rw [hdo_fl] at h; exact h)
theorem c_yRd (hc : c < 4000) (ha : ¬ (a < 0 ∨ 4 ≤ a)) : CSpec Tryz.prog W 12 [ptr b 0, .string nA, .agg #[.int .i64 1, .int .i64 a, .int .u64 0]] [RefP b (St u v w false c)] (fun _ : Unit => .tuple #[.agg #[.bool true, .int .i64 0, .int .u64 ((hrV u v false a).toNat : Int), .int .i64 (hrE false a)], .int .i64 0]) (fun _ => True) (fun _ F => RefP b (St u v w false (c + 1)) :: F) := by
  have h := ztu (W := W) (b := b) (n := nA) (m := St u v w false c) (t := ⟨1, a, 0⟩) hc ⟨by show -9223372036854775808 ≤ a; omega, by show a ≤ 9223372036854775807; omega⟩
  rw [(do_rd ha).1, (do_rd ha).2.1, (do_rd ha).2.2] at h; exact h
theorem c_yWr (hc : c < 4000) (ha : ¬ (a < 0 ∨ 4 ≤ a)) : CSpec Tryz.prog W 12 [ptr b 0, .string nA, .agg #[.int .i64 2, .int .i64 a, .int .u64 (x.toNat : Int)]] [RefP b (St u v w false c)] (fun _ : Unit => .tuple #[.agg #[.bool true, .int .i64 0, .int .u64 0, .int .i64 (hwE false a)], .int .i64 0]) (fun _ => True) (fun _ F => RefP b (St (hwU u x false a 0) (hwU v x false a 1) (hwN w false a) false (c + 1)) :: F) := by
  have h := ztu (W := W) (b := b) (n := nA) (m := St u v w false c) (t := ⟨2, a, x⟩) hc ⟨by show -9223372036854775808 ≤ a; omega, by show a ≤ 9223372036854775807; omega⟩
  rw [(do_wr ha).1, (do_wr ha).2.1, (do_wr ha).2.2] at h; exact h
theorem zvi {m : Md} {n : ByteArray} {c : MH} {k : Nat} (h : m.dev n = some k) : devR b c m n = .tuple #[.iface 87 (.agg #[ptr b 0, ptr (c.bs k) 0]), .int .i64 0] := by
  have hb : m.bas n = none := by
    obtain ⟨h1, h2⟩ := Md.dev_is h
    unfold Md.bas; rw [h2, Option.bind_some, h1.2.2]; rfl
  unfold devR; rw [hb]; dsimp only; rw [h]
theorem zw3 {m : Md} {n : ByteArray} {c : MH} (h : m.find n = none) : devR b c m n = .tuple #[.nilIface, .int .i64 12] := by
  have hb : m.bas n = none := by unfold Md.bas; rw [h]; rfl
  have hd : m.dev n = none := by unfold Md.dev; rw [h]; rfl
  unfold devR; rw [hb]; dsimp only; rw [hd]
end
theorem zw4 {W : World} {b b2 : Nat} {m : Md} {nm to : ByteArray} {tv : Sl3} {tk ta tw : Int} (hc : m.cl < 4000) :
    CSpec Tryz.prog W 8 [ptr b 0, ptr b2 0, .agg #[.int .i64 0, .string nm, .string to, tv.v, .int .i64 tk, .int .i64 ta, .int .u64 tw]] [MapP b m, RefP b2 m] (fun _ : Unit => .bool true) (fun _ => True) (fun _ F => MapP b (m.crS nm).tick :: RefP b2 (m.crS nm).tick :: F) := by
 refine CSpec.of_body Tryz.func8 rfl Tryz.ntmps8 rfl fun F => ?_
 show CJ _ _ _ _ _ _ (_ :: _ :: F)
 refine sR <| oO <| O_box rfl rfl rfl fun b1 => oA rfl rfl <| nT <| zaf <| sR <| oP (zaa rfl ⟨_, _, _, Tryz.runUnderlying35, rfl, rfl, Tryz.sizeOf3, rfl⟩) rfl <| oV (zah rfl foc0 rfl Tryz.isAgg3) rfl <| nT <| zat <| sR <| oP (P_eql rfl rfl) rfl <| oA rfl rfl <| nT ?_
 first | (refine za4 rfl (decide_eq_true (by decide)) ?_) | (refine za4 rfl (by decide) ?_)
 refine zaf <| zen [blk b1 35 [.int .i64 0, .string nm, .string to, tv.v, .int .i64 tk, .int .i64 ta, .int .u64 tw]] 128 (by kernel_rfl) rfl <| aN 0 1 rfl rfl (zag rfl) rfl <| aN 1 3 rfl rfl (zaa rfl ⟨_, _, _, Tryz.runUnderlying35, rfl, rfl, Tryz.sizeOf9, rfl⟩) rfl <| aV 2 7 rfl rfl (zac rfl) (t0_ (eD (eD (fun _ _ => trivial)))) (zah rfl foc0 rfl Tryz.isAgg9) rfl <| aN 4 23 rfl rfl (zag rfl) rfl <| aN 5 55 rfl rfl (zaa rfl ⟨_, _, _, Tryz.runUnderlying35, rfl, rfl, Tryz.sizeOf9, rfl⟩) rfl <| aV 6 119 rfl rfl (zac rfl) (t0_ (eD (eD (fun _ _ => trivial)))) (zah rfl foc0 rfl Tryz.isAgg9) rfl <| AJ_op 3 127 rfl (by kernel_rfl) rfl (zac rfl) <| zaq ((zon hc)) rfl Tryz.call22 (Dels.cons del1 Dels.nil) rfl fun _ hc2 => ⟨fun _ => (t1_ (eD (eD (fun _ _ => trivial)))), ?_⟩
 refine AJ_op 7 255 rfl (by kernel_rfl) rfl (zac rfl) <| zaq ((zrt hc)) rfl Tryz.call23 (Dels.cons del2 Dels.nil) rfl fun _ hc3 => ⟨fun h => absurd h (by decide), ?_⟩
 refine aN 8 511 rfl rfl (P_eql rfl rfl) rfl <| aN 9 1023 rfl rfl (zbc rfl) rfl <| aD <| zai <| zaj <| zad <| zam (res1 Tryz.results8 rfl) <| CSpec.close () ?_ ?_ (t1_ (t0_ (eD eR)))
 · simp
 · trivial
theorem zw5 {W : World} {b b2 : Nat} {m : Md} {nm to : ByteArray} {tv : Sl3} {tk ta tw : Int} (hc : m.cl < 4000) {tbl : List api_Target} {A : HP} (hA : Reads A tyapi_Target tv.v tbl) (htl : tbl.length ≤ 100000000) :
    CSpec Tryz.prog W 8 [ptr b 0, ptr b2 0, .agg #[.int .i64 3, .string nm, .string to, tv.v, .int .i64 tk, .int .i64 ta, .int .u64 tw]] [A, MapP b m, RefP b2 m] (fun _ : Unit => .bool true) (fun _ => True) (fun _ F => A :: MapP b (m.ldS nm tbl).tick :: RefP b2 (m.ldS nm tbl).tick :: F) := by
 refine CSpec.of_body Tryz.func8 rfl Tryz.ntmps8 rfl fun F => ?_
 show CJ _ _ _ _ _ _ (_ :: _ :: _ :: F)
 refine sR <| oO <| O_box rfl rfl rfl fun b1 => oA rfl rfl <| nT <| zaf <| sR <| oP (zaa rfl ⟨_, _, _, Tryz.runUnderlying35, rfl, rfl, Tryz.sizeOf3, rfl⟩) rfl <| oV (zah rfl foc0 rfl Tryz.isAgg3) rfl <| nT <| zat <| sR <| oP (P_eql rfl rfl) rfl <| oA rfl rfl <| nT ?_
 first | (refine za5 rfl (decide_eq_false (by decide)) ?_) | (refine za5 rfl (by decide) ?_)
 refine sR <| oP (P_eql rfl rfl) rfl <| oA rfl rfl <| nT ?_
 first | (refine za5 rfl (decide_eq_false (by decide)) ?_) | (refine za5 rfl (by decide) ?_)
 refine sR <| oP (P_eql rfl rfl) rfl <| oA rfl rfl <| nT ?_
 first | (refine za5 rfl (decide_eq_false (by decide)) ?_) | (refine za5 rfl (by decide) ?_)
 refine sR <| oP (P_eql rfl rfl) rfl <| oA rfl rfl <| nT ?_
 first | (refine za4 rfl (decide_eq_true (by decide)) ?_) | (refine za4 rfl (by decide) ?_)
 refine zaf <| zen [blk b1 35 [.int .i64 3, .string nm, .string to, tv.v, .int .i64 tk, .int .i64 ta, .int .u64 tw]] 2048 (by kernel_rfl) rfl <| aN 0 1 rfl rfl (zag rfl) rfl <| aN 1 3 rfl rfl (zaa rfl ⟨_, _, _, Tryz.runUnderlying35, rfl, rfl, Tryz.sizeOf9, rfl⟩) rfl <| aV 2 7 rfl rfl (zac rfl) (t0_ (eD (eD (eD (fun _ _ => trivial))))) (zah rfl foc0 rfl Tryz.isAgg9) rfl <| aN 3 15 rfl rfl (zaa rfl ⟨_, _, _, Tryz.runUnderlying35, rfl, rfl, Tryz.sizeOf30, rfl⟩) rfl <| aV 4 31 rfl rfl (zac rfl) (t0_ (eD (eD (eD (fun _ _ => trivial))))) (zah rfl foc0 rfl Tryz.isAgg30) rfl <| aN 6 95 rfl rfl (zag rfl) rfl <| aN 7 223 rfl rfl (zaa rfl ⟨_, _, _, Tryz.runUnderlying35, rfl, rfl, Tryz.sizeOf9, rfl⟩) rfl <| aV 8 479 rfl rfl (zac rfl) (t0_ (eD (eD (eD (fun _ _ => trivial))))) (zah rfl foc0 rfl Tryz.isAgg9) rfl <| aN 9 991 rfl rfl (zaa rfl ⟨_, _, _, Tryz.runUnderlying35, rfl, rfl, Tryz.sizeOf30, rfl⟩) rfl <| aV 10 2015 rfl rfl (zac rfl) (t0_ (eD (eD (eD (fun _ _ => trivial))))) (zah rfl foc0 rfl Tryz.isAgg30) rfl <| AJ_op 5 2047 rfl (by kernel_rfl) rfl (zac rfl) <| zaq ((zq3 hA hc htl)) rfl Tryz.call28 (Dels.cons del2 (Dels.cons del1 Dels.nil)) rfl fun _ hc2 => ⟨fun _ => (t2_ (eD (eD (eD (fun _ _ => trivial))))), ?_⟩
 refine AJ_op 11 4095 rfl (by kernel_rfl) rfl (zac rfl) <| zaq ((zvd hA hc)) rfl Tryz.call29 (Dels.cons del3 (Dels.cons del1 Dels.nil)) rfl fun _ hc3 => ⟨fun h => absurd h (by decide), ?_⟩
 refine aN 12 8191 rfl rfl (P_eql rfl rfl) rfl <| aN 13 16383 rfl rfl (zbc rfl) rfl <| aD <| zai <| zaj <| zad <| zam (res1 Tryz.results8 rfl) <| CSpec.close () ?_ ?_ (t1_ (t1_ (t0_ (eD eR))))
 · simp
 · trivial
theorem zrb {W : World} {b b2 p : Nat} {m : Md} {nm to : ByteArray} {tv : Sl3} {tk ta tw : Int} (hc : m.cl < 4000) :
    CSpec Tryz.prog W 8 [ptr b 0, ptr b2 0, .agg #[.int .i64 5, .string nm, .string to, tv.v, .int .i64 tk, .int .i64 ta, .int .u64 tw]] [MapB b p 2 m, RefP b2 m] (fun _ : Unit => .bool true) (fun _ => True) (fun _ F => MapB b p 2 (m.suS nm).tick :: RefP b2 (m.suS nm).tick :: F) := by
 refine CSpec.of_body Tryz.func8 rfl Tryz.ntmps8 rfl fun F => ?_
 show CJ _ _ _ _ _ _ (_ :: _ :: F)
 refine sR <| oO <| O_box rfl rfl rfl fun b1 => oA rfl rfl <| nT <| zaf <| sR <| oP (zaa rfl ⟨_, _, _, Tryz.runUnderlying35, rfl, rfl, Tryz.sizeOf3, rfl⟩) rfl <| oV (zah rfl foc0 rfl Tryz.isAgg3) rfl <| nT <| zat <| sR <| oP (P_eql rfl rfl) rfl <| oA rfl rfl <| nT ?_
 first | (refine za5 rfl (decide_eq_false (by decide)) ?_) | (refine za5 rfl (by decide) ?_)
 refine sR <| oP (P_eql rfl rfl) rfl <| oA rfl rfl <| nT ?_
 first | (refine za5 rfl (decide_eq_false (by decide)) ?_) | (refine za5 rfl (by decide) ?_)
 refine sR <| oP (P_eql rfl rfl) rfl <| oA rfl rfl <| nT ?_
 first | (refine za5 rfl (decide_eq_false (by decide)) ?_) | (refine za5 rfl (by decide) ?_)
 refine sR <| oP (P_eql rfl rfl) rfl <| oA rfl rfl <| nT ?_
 first | (refine za5 rfl (decide_eq_false (by decide)) ?_) | (refine za5 rfl (by decide) ?_)
 refine sR <| oP (P_eql rfl rfl) rfl <| oA rfl rfl <| nT ?_
 first | (refine za5 rfl (decide_eq_false (by decide)) ?_) | (refine za5 rfl (by decide) ?_)
 refine sR <| oP (P_eql rfl rfl) rfl <| oA rfl rfl <| nT ?_
 first | (refine za4 rfl (decide_eq_true (by decide)) ?_) | (refine za4 rfl (by decide) ?_)
 refine zaf <| zen [blk b1 35 [.int .i64 5, .string nm, .string to, tv.v, .int .i64 tk, .int .i64 ta, .int .u64 tw]] 128 (by kernel_rfl) rfl <| aN 0 1 rfl rfl (zag rfl) rfl <| aN 1 3 rfl rfl (zaa rfl ⟨_, _, _, Tryz.runUnderlying35, rfl, rfl, Tryz.sizeOf9, rfl⟩) rfl <| aV 2 7 rfl rfl (zac rfl) (t0_ (eD (eD (fun _ _ => trivial)))) (zah rfl foc0 rfl Tryz.isAgg9) rfl <| aN 4 23 rfl rfl (zag rfl) rfl <| aN 5 55 rfl rfl (zaa rfl ⟨_, _, _, Tryz.runUnderlying35, rfl, rfl, Tryz.sizeOf9, rfl⟩) rfl <| aV 6 119 rfl rfl (zac rfl) (t0_ (eD (eD (fun _ _ => trivial)))) (zah rfl foc0 rfl Tryz.isAgg9) rfl <| AJ_op 3 127 rfl (by kernel_rfl) rfl (zac rfl) <| zaq ((c_suB hc)) rfl Tryz.call32 (Dels.cons del1 Dels.nil) rfl fun _ hc2 => ⟨fun _ => (t1_ (eD (eD (fun _ _ => trivial)))), ?_⟩
 refine AJ_op 7 255 rfl (by kernel_rfl) rfl (zac rfl) <| zaq ((zqf hc)) rfl Tryz.call33 (Dels.cons del2 Dels.nil) rfl fun _ hc3 => ⟨fun h => absurd h (by decide), ?_⟩
 refine aN 8 511 rfl rfl (P_eql rfl rfl) rfl <| aN 9 1023 rfl rfl (zbc rfl) rfl <| aD <| zai <| zaj <| zad <| zam (res1 Tryz.results8 rfl) <| CSpec.close () ?_ ?_ (t1_ (t0_ (eD eR)))
 · simp
 · trivial
theorem zrc {W : World} {b b2 p : Nat} {m : Md} {nm to : ByteArray} {tv : Sl3} {tk ta tw : Int} (hc : m.cl < 4000) :
    CSpec Tryz.prog W 8 [ptr b 0, ptr b2 0, .agg #[.int .i64 6, .string nm, .string to, tv.v, .int .i64 tk, .int .i64 ta, .int .u64 tw]] [MapB b p 2 m, RefP b2 m] (fun _ : Unit => .bool true) (fun _ => True) (fun _ F => MapB b p 2 (m.rsS nm).tick :: RefP b2 (m.rsS nm).tick :: F) := by
 refine CSpec.of_body Tryz.func8 rfl Tryz.ntmps8 rfl fun F => ?_
 show CJ _ _ _ _ _ _ (_ :: _ :: F)
 refine sR <| oO <| O_box rfl rfl rfl fun b1 => oA rfl rfl <| nT <| zaf <| sR <| oP (zaa rfl ⟨_, _, _, Tryz.runUnderlying35, rfl, rfl, Tryz.sizeOf3, rfl⟩) rfl <| oV (zah rfl foc0 rfl Tryz.isAgg3) rfl <| nT <| zat <| sR <| oP (P_eql rfl rfl) rfl <| oA rfl rfl <| nT ?_
 first | (refine za5 rfl (decide_eq_false (by decide)) ?_) | (refine za5 rfl (by decide) ?_)
 refine sR <| oP (P_eql rfl rfl) rfl <| oA rfl rfl <| nT ?_
 first | (refine za5 rfl (decide_eq_false (by decide)) ?_) | (refine za5 rfl (by decide) ?_)
 refine sR <| oP (P_eql rfl rfl) rfl <| oA rfl rfl <| nT ?_
 first | (refine za5 rfl (decide_eq_false (by decide)) ?_) | (refine za5 rfl (by decide) ?_)
 refine sR <| oP (P_eql rfl rfl) rfl <| oA rfl rfl <| nT ?_
 first | (refine za5 rfl (decide_eq_false (by decide)) ?_) | (refine za5 rfl (by decide) ?_)
 refine sR <| oP (P_eql rfl rfl) rfl <| oA rfl rfl <| nT ?_
 first | (refine za5 rfl (decide_eq_false (by decide)) ?_) | (refine za5 rfl (by decide) ?_)
 refine sR <| oP (P_eql rfl rfl) rfl <| oA rfl rfl <| nT ?_
 first | (refine za5 rfl (decide_eq_false (by decide)) ?_) | (refine za5 rfl (by decide) ?_)
 refine sR <| oP (P_eql rfl rfl) rfl <| oA rfl rfl <| nT ?_
 first | (refine za4 rfl (decide_eq_true (by decide)) ?_) | (refine za4 rfl (by decide) ?_)
 refine zaf <| zen [blk b1 35 [.int .i64 6, .string nm, .string to, tv.v, .int .i64 tk, .int .i64 ta, .int .u64 tw]] 128 (by kernel_rfl) rfl <| aN 0 1 rfl rfl (zag rfl) rfl <| aN 1 3 rfl rfl (zaa rfl ⟨_, _, _, Tryz.runUnderlying35, rfl, rfl, Tryz.sizeOf9, rfl⟩) rfl <| aV 2 7 rfl rfl (zac rfl) (t0_ (eD (eD (fun _ _ => trivial)))) (zah rfl foc0 rfl Tryz.isAgg9) rfl <| aN 4 23 rfl rfl (zag rfl) rfl <| aN 5 55 rfl rfl (zaa rfl ⟨_, _, _, Tryz.runUnderlying35, rfl, rfl, Tryz.sizeOf9, rfl⟩) rfl <| aV 6 119 rfl rfl (zac rfl) (t0_ (eD (eD (fun _ _ => trivial)))) (zah rfl foc0 rfl Tryz.isAgg9) rfl <| AJ_op 3 127 rfl (by kernel_rfl) rfl (zac rfl) <| zaq ((c_rsB hc)) rfl Tryz.call34 (Dels.cons del1 Dels.nil) rfl fun _ hc2 => ⟨fun _ => (t1_ (eD (eD (fun _ _ => trivial)))), ?_⟩
 refine AJ_op 7 255 rfl (by kernel_rfl) rfl (zac rfl) <| zaq ((zru hc)) rfl Tryz.call35 (Dels.cons del2 Dels.nil) rfl fun _ hc3 => ⟨fun h => absurd h (by decide), ?_⟩
 refine aN 8 511 rfl rfl (P_eql rfl rfl) rfl <| aN 9 1023 rfl rfl (zbc rfl) rfl <| aD <| zai <| zaj <| zad <| zam (res1 Tryz.results8 rfl) <| CSpec.close () ?_ ?_ (t1_ (t0_ (eD eR)))
 · simp
 · trivial
end Go.Proofs
set_option linter.unusedSimpArgs false
set_option maxRecDepth 20000
namespace Go.Proofs
open Go.VG
theorem zrw {b : Nat} {m : Md} {R : List HP} : EntX (MapP b m :: R) fun c : MH => blk b 84 (zax c m) :: MapR c m :: R := fun _ hh => let ⟨c, hc⟩ := zin _ hh; ⟨c, (stars_pur.1 hc).2⟩
end Go.Proofs
set_option linter.unusedSimpArgs false
set_option maxRecDepth 20000
namespace Go.Proofs
open Go.VG
theorem zi9 (v0 : (Option Addr)) (v1 : Nat) (v2 : Nat) : ∀ w, (Instr.build 63 (#[(0, .slice v0 v1 v2)] : Array (Nat × Value))).run Tryz.prog w = .ok (.agg #[.slice v0 v1 v2, .int .i64 0]) w := fun w => by kernel_rfl
theorem zw6 (v : Int) {n : Int} (hn : 1 ≤ n) : -n < v.tmod n ∧ v.tmod n < n := by
  have h4 := Int.natAbs_tmod v n
  have h5 := Nat.mod_lt v.natAbs (show 0 < n.natAbs by omega)
  omega
theorem c_sNew {W : World} {v : Sl3} {L : List Int} {A : HP} (hA : Reads A tyI v.v L) (hL : L.length ≤ 9223372036854775807) :
    CSpec Tryz.prog W 6 [v.v] [A] (fun x : Nat × Value => ptr x.1 0) (fun x => ∃ L2 : List Int, L2.length ≤ 1000 ∧ Reads A tyI x.2 L2) (fun x F => blk x.1 63 [x.2, .int .i64 0] :: A :: F) := by
 refine CSpec.of_body Tryz.func6 rfl Tryz.ntmps6 rfl fun F => ?_
 show CJ _ _ _ _ _ _ (_ :: F)
 refine sR <| oA rfl rfl <| nT <| zaf <| sR <| oM rfl rfl <| oV (V_len rfl foc0 hA Tryz.runUnderlying22) rfl <| oP (P_gtr rfl rfl) rfl <| nT ?_
 first | (refine zao rfl (fun hg1 => ?_) (fun hg1 => ?_)) | (refine zap rfl (fun hg1 => ?_) (fun hg1 => ?_)) | (refine zar rfl (fun hg1 => ?_) (fun hg1 => ?_))
 ·
  refine zak <| oM rfl rfl <| oV (zkz (l := 0) (h := 1000) rfl foc0 hA rfl ⟨_, rfl⟩ (by omega) (by omega) Tryz.underlying22 Tryz.sizeOf3) rfl <| oA rfl rfl <| nT <| zaf <| zbl (zod (Reads.sliceV (t := tyI) (l := 0) (h := 1000) hA (by omega) (by omega)) del0) fun hv2 => ?_
  obtain ⟨v2, hv2⟩ := hv2
  rw [hv2]
  refine zak <| oM rfl rfl <| oP (zbm rfl (zi9 _ _ _)) rfl <| oO <| O_box rfl rfl rfl fun b1 => oA rfl rfl <| nT <| zai <| zam (res1 Tryz.results6 rfl) <| CSpec.close ⟨b1, v2.v⟩ ?_ ?_ (t0_ (t0_ eR))
  · rfl
  · exact ⟨_, by simp; omega, hv2 ▸ (Reads.sliceV (t := tyI) (l := 0) (h := 1000) hA (by omega) (by omega))⟩
 ·
  refine kT <| sR <| oM rfl rfl <| oP (zbm rfl (zi9 _ _ _)) rfl <| oO <| O_box rfl rfl rfl fun b2 => oA rfl rfl <| nT <| zai <| zam (res1 Tryz.results6 rfl) <| CSpec.close ⟨b2, v.v⟩ ?_ ?_ (t0_ (t0_ eR))
  · rfl
  · exact ⟨L, by omega, hA⟩
theorem c_sRaw {W : World} {sb : Nat} {a : Int} {v : Value} {L : List Int} {A : HP} (hA : Reads A tyI v L) (hL : L.length ≤ 1000) (ha : 0 ≤ a ∧ a ≤ 1000) :
    CSpec Tryz.prog W 38 [ptr sb 0] [blk sb 63 [v, .int .i64 a], A] (fun x : Int × Int => .int .i64 x.1) (fun x => 0 ≤ x.2 ∧ x.2 ≤ 1000) (fun x F => blk sb 63 [v, .int .i64 x.2] :: A :: F) := by
 refine CSpec.of_body Tryz.func38 rfl Tryz.ntmps38 rfl fun F => ?_
 show CJ _ _ _ _ _ _ (_ :: _ :: F)
 refine sR <| oA rfl rfl <| nT <| zaf <| zaf <| za0 0 (by kernel_rfl) rfl <| aN 0 1 rfl rfl (zag rfl) rfl <| aN 1 3 rfl rfl (zae rfl) rfl <| aN 2 7 rfl rfl (zaa rfl ⟨_, _, _, Tryz.runUnderlying63, rfl, rfl, Tryz.sizeOf3, rfl⟩) rfl <| aV 3 15 rfl rfl (zac rfl) (t0_ (t0_ eR)) (zah rfl foc0 rfl Tryz.isAgg3) rfl <| aN 4 31 rfl rfl (zag rfl) rfl <| aN 5 63 rfl rfl (zae rfl) rfl <| aN 6 127 rfl rfl (zaa rfl ⟨_, _, _, Tryz.runUnderlying63, rfl, rfl, Tryz.sizeOf22, rfl⟩) rfl <| aV 7 255 rfl rfl (zac rfl) (t0_ (t0_ eR)) (zah rfl foc0 rfl Tryz.isAgg22) rfl <| aV 8 511 rfl rfl (zac rfl) (t0_ (t0_ eR)) (V_len rfl foc1 hA Tryz.runUnderlying22) rfl <| aN 9 1023 rfl rfl (P_geq rfl rfl) rfl <| aD ?_
 first | (refine zao rfl (fun hg1 => ?_) (fun hg1 => ?_)) | (refine zap rfl (fun hg1 => ?_) (fun hg1 => ?_)) | (refine zar rfl (fun hg1 => ?_) (fun hg1 => ?_))
 ·
  refine sR <| oA rfl rfl <| nT <| zai <| zad <| zam (res1 Tryz.results38 rfl) <| CSpec.close ⟨0, a⟩ ?_ ?_ (t0_ (t0_ eR))
  · rfl
  · exact ha
 ·
  refine kT <| sR <| oM rfl rfl <| oP (zae rfl) rfl <| oP (zaa rfl ⟨_, _, _, Tryz.runUnderlying63, rfl, rfl, Tryz.sizeOf3, rfl⟩) rfl <| oV (zah rfl foc0 rfl Tryz.isAgg3) rfl <| oP (P_add rfl rfl (by omega)) rfl <| oP (zae rfl) rfl <| oP (zaa rfl ⟨_, _, _, Tryz.runUnderlying63, rfl, rfl, Tryz.sizeOf3, rfl⟩) rfl <| oO <| zbj rfl rfl foc0 rfl rfl Tryz.sizeOf3 <| nT <| zaf <| za0 0 (by kernel_rfl) rfl <| aN 0 1 rfl rfl (zag rfl) rfl <| aN 1 3 rfl rfl (zae rfl) rfl <| aN 2 7 rfl rfl (zaa rfl ⟨_, _, _, Tryz.runUnderlying63, rfl, rfl, Tryz.sizeOf22, rfl⟩) rfl <| aV 3 15 rfl rfl (zac rfl) (t0_ (t0_ eR)) (zah rfl foc0 rfl Tryz.isAgg22) rfl <| aN 4 31 rfl rfl (zag rfl) rfl <| aN 5 63 rfl rfl (zae rfl) rfl <| aN 6 127 rfl rfl (zaa rfl ⟨_, _, _, Tryz.runUnderlying63, rfl, rfl, Tryz.sizeOf3, rfl⟩) rfl <| aV 7 255 rfl rfl (zac rfl) (t0_ (t0_ eR)) (zah rfl foc0 rfl Tryz.isAgg3) rfl <| aN 8 511 rfl rfl (P_sub rfl rfl (by omega)) rfl <| aV 9 1023 rfl rfl (zac rfl) (t0_ (t0_ eR)) (zan rfl rfl (Int.toNat_of_nonneg (by omega)).symm (by omega) foc1 hA Tryz.runUnderlying22 Tryz.sizeOf3) rfl <| aV 10 2047 rfl rfl (zac rfl) (t0_ (t0_ eR)) (za3 rfl rfl (by omega) foc1 hA rfl rfl Tryz.isAgg3) rfl <| aN 11 4095 rfl rfl (zbc rfl) rfl <| aD <| zai <| zam (res1 Tryz.results38 rfl) ?_
  refine CSpec.close ⟨L.getD (a + 1 - 1).toNat tyI.dflt, a + 1⟩ ?_ ?_ (t0_ (t0_ eR))
  · rfl
  ·
   show 0 ≤ a + 1 ∧ a + 1 ≤ 1000
   omega
theorem c_sN {W : World} {sb : Nat} {a : Int} {v : Value} {L : List Int} {A : HP} (hA : Reads A tyI v L) (hL : L.length ≤ 1000) (ha : 0 ≤ a ∧ a ≤ 1000) {n : Int} (hn : -1000000000 ≤ n ∧ n ≤ 1000000000) :
    CSpec Tryz.prog W 10 [ptr sb 0, .int .i64 n] [blk sb 63 [v, .int .i64 a], A] (fun x : Int × Int => .int .i64 x.1) (fun x => (0 ≤ x.2 ∧ x.2 ≤ 1000) ∧ (0 ≤ x.1 ∧ x.1 ≤ 1000000000) ∧ (1 ≤ n → x.1 < n)) (fun x F => blk sb 63 [v, .int .i64 x.2] :: A :: F) := by
 refine CSpec.of_body Tryz.func10 rfl Tryz.ntmps10 rfl fun F => ?_
 show CJ _ _ _ _ _ _ (_ :: _ :: F)
 refine sR <| oA rfl rfl <| nT <| zaf <| sR <| oM rfl rfl <| oP (P_lss rfl rfl) rfl <| nT ?_
 first | (refine zao rfl (fun hg1 => ?_) (fun hg1 => ?_)) | (refine zap rfl (fun hg1 => ?_) (fun hg1 => ?_)) | (refine zar rfl (fun hg1 => ?_) (fun hg1 => ?_))
 ·
  refine sR <| oA rfl rfl <| nT <| zai <| zad <| zam (res1 Tryz.results10 rfl) <| CSpec.close ⟨0, a⟩ ?_ ?_ (t0_ (t0_ eR))
  · rfl
  · exact ⟨ha, ⟨Int.le_refl _, by show (0 : Int) ≤ 1000000000; omega⟩, fun h => by show (0 : Int) < n; omega⟩
 ·
  refine kT <| sR <| oM rfl rfl <| oO <| zaq ((c_sRaw hA hL ha)) rfl Tryz.call38 (Dels.cons del0 (Dels.cons del0 Dels.nil)) rfl fun x9 h9 => oM rfl rfl <| oP (P_remT rfl rfl (by omega)) rfl <| oA rfl rfl <| nT <| zaf <| zaf ?_
  have htm := zw6 x9.1 (n := n) (by omega)
  refine zak <| oM rfl rfl <| oP (P_lss rfl rfl) rfl <| nT ?_
  first | (refine zao rfl (fun hg2 => ?_) (fun hg2 => ?_)) | (refine zap rfl (fun hg2 => ?_) (fun hg2 => ?_)) | (refine zar rfl (fun hg2 => ?_) (fun hg2 => ?_))
  ·
   refine zak <| oM rfl rfl <| oM rfl rfl <| oP (P_add rfl rfl (by omega)) rfl <| oA rfl rfl <| nT <| sR <| oM rfl rfl <| oA rfl rfl <| nT <| zai <| zam (res1 Tryz.results10 rfl) <| CSpec.close ⟨x9.1.tmod n + n, x9.2⟩ ?_ ?_ (t0_ (t0_ eR))
   · rfl
   ·
    refine ⟨h9, ⟨?_, ?_⟩, fun h => ?_⟩
    · show 0 ≤ x9.1.tmod n + n; omega
    · show x9.1.tmod n + n ≤ 1000000000; omega
    · show x9.1.tmod n + n < n; omega
  ·
   refine kT <| sR <| oM rfl rfl <| oA rfl rfl <| nT <| zai <| zam (res1 Tryz.results10 rfl) <| CSpec.close ⟨x9.1.tmod n, x9.2⟩ ?_ ?_ (t0_ (t0_ eR))
   · rfl
   ·
    refine ⟨h9, ⟨?_, ?_⟩, fun h => ?_⟩
    · show 0 ≤ x9.1.tmod n; omega
    · show x9.1.tmod n ≤ 1000000000; omega
    · show x9.1.tmod n < n; omega
theorem zvj {W : World} {sb : Nat} {a : Int} {v : Value} {L : List Int} {A : HP} (hA : Reads A tyI v L) (hL : L.length ≤ 1000) (ha : 0 ≤ a ∧ a ≤ 1000) {lo hi : Int} (hr : -1000000 ≤ lo ∧ lo ≤ hi ∧ hi ≤ 1000000) :
    CSpec Tryz.prog W 11 [ptr sb 0, .int .i64 lo, .int .i64 hi] [blk sb 63 [v, .int .i64 a], A] (fun x : Int × Int => .int .i64 x.1) (fun x => (0 ≤ x.2 ∧ x.2 ≤ 1000) ∧ lo ≤ x.1 ∧ x.1 ≤ hi) (fun x F => blk sb 63 [v, .int .i64 x.2] :: A :: F) := by
 refine CSpec.of_body Tryz.func11 rfl Tryz.ntmps11 rfl fun F => ?_
 show CJ _ _ _ _ _ _ (_ :: _ :: F)
 refine sR <| oA rfl rfl <| nT <| sR <| oM rfl rfl <| oM rfl rfl <| oM rfl rfl <| oM rfl rfl <| oP (P_sub rfl rfl (by omega)) rfl <| oP (P_add rfl rfl (by omega)) rfl <| oO <| zaq ((c_sN hA hL ha (n := (hi - lo + 1)) (by omega))) rfl Tryz.call10 (Dels.cons del0 (Dels.cons del0 Dels.nil)) rfl fun x9 h9 => ?_
 have h8 := h9.2.2 (by omega)
 have h7 := h9.2.1
 refine oP (P_add rfl rfl (by omega)) rfl <| oA rfl rfl <| nT <| zai <| zam (res1 Tryz.results11 rfl) <| CSpec.close ⟨lo + x9.1, x9.2⟩ ?_ ?_ (t0_ (t0_ eR))
 · rfl
 · exact ⟨h9.1, by show lo ≤ lo + x9.1; omega, by show lo + x9.1 ≤ hi; omega⟩
end Go.Proofs
set_option linter.unusedSimpArgs false
set_option linter.unusedVariables false
set_option maxRecDepth 20000
set_option maxHeartbeats 4000000
namespace Go.Proofs
open Go.VG
instance {t : api_Task} : Decidable (inT t) := by unfold inT; infer_instance
theorem c_DoG {W : World} {b : Nat} {m : Md} {n : ByteArray} {t : api_Task} (h : m.cl < 4000 ∧ inT t) : CSpec Tryz.prog W 37 [ptr b 0, .string n, .agg #[.int .i64 t.Kind, .int .i64 t.At, .int .u64 (t.Value.toNat : Int)]] (MapP b m :: []) (fun _ : Unit => .tuple #[.agg #[.bool (m.doA n t).Done, .int .i64 (m.doA n t).Ticket, .int .u64 ((m.doA n t).Value.toNat : Int), .int .i64 (m.doA n t).Error], .int .i64 (m.doE n t)]) (fun _ => True) (fun _ F => MapP b (m.doS n t).tick :: ([] ++ F)) := c_DoP h.1 h.2
theorem zrd {W : World} {b : Nat} {m : Md} {n : ByteArray} {A : HP} {v : Sl3} {l : List api_Target} (hA : Reads A tyapi_Target v.v l) (h : m.cl < 4000 ∧ l.length ≤ 100000000) : CSpec Tryz.prog W 28 [ptr b 0, .string n, v.v] (MapP b m :: [A]) (fun _ : Unit => .int .i64 (m.ldE n l)) (fun _ => True) (fun _ F => MapP b (m.ldS n l).tick :: ([A] ++ F)) := zq3 hA h.1 h.2
end Go.Proofs
set_option linter.unusedSimpArgs false
set_option linter.unusedVariables false
set_option maxRecDepth 20000
set_option maxHeartbeats 4000000
namespace Go.Proofs
open Go.VG
theorem zrx (v0 : Int) (v1 : ByteArray) : ∀ w, (Instr.build 37 (#[(1, .int .i64 v0), (2, .string v1)] : Array (Nat × Value))).run Tryz.prog w = .ok (.agg #[.int .i64 (0 : Int), .int .i64 v0, .string v1, .int .i64 (0 : Int), .bool false]) w := fun w => by kernel_rfl
theorem zox (v0 : Int) (v1 : Int) (v2 : ByteArray) (v3 : Int) (v4 : Bool) : zby Tryz.prog 30 1 [(0, .agg #[.int .i64 v0, .int .i64 v1, .string v2, .int .i64 v3, .bool v4])] 37 [.int .i64 v0, .int .i64 v1, .string v2, .int .i64 v3, .bool v4] := fun w => by kernel_rfl
theorem zp3 (v0 : Int) (v1 : Int) (v2 : Int) : ∀ w, (Instr.build 33 (#[(0, .int .i64 v0), (1, .int .i64 v1), (2, .int .u64 v2)] : Array (Nat × Value))).run Tryz.prog w = .ok (.agg #[.int .i64 v0, .int .i64 v1, .int .u64 v2]) w := fun w => by kernel_rfl
theorem zp4 (v0 : Int) (v1 : ByteArray) (v2 : Int) : ∀ w, (Instr.build 37 (#[(1, .int .i64 v0), (2, .string v1), (3, .int .i64 v2)] : Array (Nat × Value))).run Tryz.prog w = .ok (.agg #[.int .i64 (0 : Int), .int .i64 v0, .string v1, .int .i64 v2, .bool false]) w := fun w => by kernel_rfl
theorem zry (v0 : Int) (v1 : Int) : ∀ w, (Instr.build 33 (#[(0, .int .i64 v0), (1, .int .i64 v1)] : Array (Nat × Value))).run Tryz.prog w = .ok (.agg #[.int .i64 v0, .int .i64 v1, .int .u64 0]) w := fun w => by kernel_rfl
def zes : Option (Bool) :=
  grd (decide (Mb2.cl < 4000)) <|
  if ((Md.crE Mb2 (ByteArray.mk #[120])) ≠ (0 : Int)) then
    some false
  else
    grd (decide (((Md.tick (Md.crS Mb2 (ByteArray.mk #[120])))).cl < 4000 ∧ ([(⟨(0 : Int), (4 : Int), (ByteArray.mk #[100, 105, 115, 107, 48]), (0 : Int), false⟩ : api_Target)]).length ≤ 100000000)) <|
    lt ((Md.ldE ((Md.tick (Md.crS Mb2 (ByteArray.mk #[120])))) (ByteArray.mk #[120]) ([(⟨(0 : Int), (4 : Int), (ByteArray.mk #[100, 105, 115, 107, 48]), (0 : Int), false⟩ : api_Target)]))) fun w5 =>
    if (w5 ≠ (0 : Int)) then
      some false
    else
      grd (decide (((Md.tick (Md.ldS ((Md.tick (Md.crS Mb2 (ByteArray.mk #[120])))) (ByteArray.mk #[120]) ([(⟨(0 : Int), (4 : Int), (ByteArray.mk #[100, 105, 115, 107, 48]), (0 : Int), false⟩ : api_Target)])))).cl < 4000)) <|
      lt ((Md.suE ((Md.tick (Md.ldS ((Md.tick (Md.crS Mb2 (ByteArray.mk #[120])))) (ByteArray.mk #[120]) ([(⟨(0 : Int), (4 : Int), (ByteArray.mk #[100, 105, 115, 107, 48]), (0 : Int), false⟩ : api_Target)])))) (ByteArray.mk #[120]))) fun w6 =>
      if (w6 ≠ (0 : Int)) then
        some false
      else
        grd (decide (((Md.tick (Md.suS ((Md.tick (Md.ldS ((Md.tick (Md.crS Mb2 (ByteArray.mk #[120])))) (ByteArray.mk #[120]) ([(⟨(0 : Int), (4 : Int), (ByteArray.mk #[100, 105, 115, 107, 48]), (0 : Int), false⟩ : api_Target)])))) (ByteArray.mk #[120])))).cl < 4000)) <|
        lt ((Md.rsE ((Md.tick (Md.suS ((Md.tick (Md.ldS ((Md.tick (Md.crS Mb2 (ByteArray.mk #[120])))) (ByteArray.mk #[120]) ([(⟨(0 : Int), (4 : Int), (ByteArray.mk #[100, 105, 115, 107, 48]), (0 : Int), false⟩ : api_Target)])))) (ByteArray.mk #[120])))) (ByteArray.mk #[120]))) fun w7 =>
        if (w7 ≠ (0 : Int)) then
          some false
        else
          grd (decide (((Md.tick (Md.rsS ((Md.tick (Md.suS ((Md.tick (Md.ldS ((Md.tick (Md.crS Mb2 (ByteArray.mk #[120])))) (ByteArray.mk #[120]) ([(⟨(0 : Int), (4 : Int), (ByteArray.mk #[100, 105, 115, 107, 48]), (0 : Int), false⟩ : api_Target)])))) (ByteArray.mk #[120])))) (ByteArray.mk #[120])))).cl < 4000)) <|
          lt ((Md.suE ((Md.tick (Md.rsS ((Md.tick (Md.suS ((Md.tick (Md.ldS ((Md.tick (Md.crS Mb2 (ByteArray.mk #[120])))) (ByteArray.mk #[120]) ([(⟨(0 : Int), (4 : Int), (ByteArray.mk #[100, 105, 115, 107, 48]), (0 : Int), false⟩ : api_Target)])))) (ByteArray.mk #[120])))) (ByteArray.mk #[120])))) (ByteArray.mk #[120]))) fun w8 =>
          if (w8 ≠ (0 : Int)) then
            some false
          else
            grd (decide (((Md.tick (Md.suS ((Md.tick (Md.rsS ((Md.tick (Md.suS ((Md.tick (Md.ldS ((Md.tick (Md.crS Mb2 (ByteArray.mk #[120])))) (ByteArray.mk #[120]) ([(⟨(0 : Int), (4 : Int), (ByteArray.mk #[100, 105, 115, 107, 48]), (0 : Int), false⟩ : api_Target)])))) (ByteArray.mk #[120])))) (ByteArray.mk #[120])))) (ByteArray.mk #[120])))).cl < 4000 ∧ inT ((⟨(2 : Int), (1 : Int), (9 : UInt64)⟩ : api_Task)))) <|
            lt ((Md.doA ((Md.tick (Md.suS ((Md.tick (Md.rsS ((Md.tick (Md.suS ((Md.tick (Md.ldS ((Md.tick (Md.crS Mb2 (ByteArray.mk #[120])))) (ByteArray.mk #[120]) ([(⟨(0 : Int), (4 : Int), (ByteArray.mk #[100, 105, 115, 107, 48]), (0 : Int), false⟩ : api_Target)])))) (ByteArray.mk #[120])))) (ByteArray.mk #[120])))) (ByteArray.mk #[120])))) (ByteArray.mk #[120]) ((⟨(2 : Int), (1 : Int), (9 : UInt64)⟩ : api_Task)))) fun w9 =>
            lt ((Md.doE ((Md.tick (Md.suS ((Md.tick (Md.rsS ((Md.tick (Md.suS ((Md.tick (Md.ldS ((Md.tick (Md.crS Mb2 (ByteArray.mk #[120])))) (ByteArray.mk #[120]) ([(⟨(0 : Int), (4 : Int), (ByteArray.mk #[100, 105, 115, 107, 48]), (0 : Int), false⟩ : api_Target)])))) (ByteArray.mk #[120])))) (ByteArray.mk #[120])))) (ByteArray.mk #[120])))) (ByteArray.mk #[120]) ((⟨(2 : Int), (1 : Int), (9 : UInt64)⟩ : api_Task)))) fun w10 =>
            if (((w10 ≠ (0 : Int)) ∨ w9.Done = true) ∨ (w9.Ticket ≠ (1 : Int))) then
              some false
            else
              grd (decide (((Md.tick (Md.doS ((Md.tick (Md.suS ((Md.tick (Md.rsS ((Md.tick (Md.suS ((Md.tick (Md.ldS ((Md.tick (Md.crS Mb2 (ByteArray.mk #[120])))) (ByteArray.mk #[120]) ([(⟨(0 : Int), (4 : Int), (ByteArray.mk #[100, 105, 115, 107, 48]), (0 : Int), false⟩ : api_Target)])))) (ByteArray.mk #[120])))) (ByteArray.mk #[120])))) (ByteArray.mk #[120])))) (ByteArray.mk #[120]) ((⟨(2 : Int), (1 : Int), (9 : UInt64)⟩ : api_Task))))).cl < 4000 ∧ ([(⟨(0 : Int), (4 : Int), (ByteArray.mk #[100, 105, 115, 107, 49]), (2 : Int), false⟩ : api_Target)]).length ≤ 100000000)) <|
              lt ((Md.ldE ((Md.tick (Md.doS ((Md.tick (Md.suS ((Md.tick (Md.rsS ((Md.tick (Md.suS ((Md.tick (Md.ldS ((Md.tick (Md.crS Mb2 (ByteArray.mk #[120])))) (ByteArray.mk #[120]) ([(⟨(0 : Int), (4 : Int), (ByteArray.mk #[100, 105, 115, 107, 48]), (0 : Int), false⟩ : api_Target)])))) (ByteArray.mk #[120])))) (ByteArray.mk #[120])))) (ByteArray.mk #[120])))) (ByteArray.mk #[120]) ((⟨(2 : Int), (1 : Int), (9 : UInt64)⟩ : api_Task))))) (ByteArray.mk #[120]) ([(⟨(0 : Int), (4 : Int), (ByteArray.mk #[100, 105, 115, 107, 49]), (2 : Int), false⟩ : api_Target)]))) fun w23 =>
              if (w23 ≠ (0 : Int)) then
                some false
              else
                grd (decide (((Md.tick (Md.ldS ((Md.tick (Md.doS ((Md.tick (Md.suS ((Md.tick (Md.rsS ((Md.tick (Md.suS ((Md.tick (Md.ldS ((Md.tick (Md.crS Mb2 (ByteArray.mk #[120])))) (ByteArray.mk #[120]) ([(⟨(0 : Int), (4 : Int), (ByteArray.mk #[100, 105, 115, 107, 48]), (0 : Int), false⟩ : api_Target)])))) (ByteArray.mk #[120])))) (ByteArray.mk #[120])))) (ByteArray.mk #[120])))) (ByteArray.mk #[120]) ((⟨(2 : Int), (1 : Int), (9 : UInt64)⟩ : api_Task))))) (ByteArray.mk #[120]) ([(⟨(0 : Int), (4 : Int), (ByteArray.mk #[100, 105, 115, 107, 49]), (2 : Int), false⟩ : api_Target)])))).cl < 4000)) <|
                lt ((Md.rsE ((Md.tick (Md.ldS ((Md.tick (Md.doS ((Md.tick (Md.suS ((Md.tick (Md.rsS ((Md.tick (Md.suS ((Md.tick (Md.ldS ((Md.tick (Md.crS Mb2 (ByteArray.mk #[120])))) (ByteArray.mk #[120]) ([(⟨(0 : Int), (4 : Int), (ByteArray.mk #[100, 105, 115, 107, 48]), (0 : Int), false⟩ : api_Target)])))) (ByteArray.mk #[120])))) (ByteArray.mk #[120])))) (ByteArray.mk #[120])))) (ByteArray.mk #[120]) ((⟨(2 : Int), (1 : Int), (9 : UInt64)⟩ : api_Task))))) (ByteArray.mk #[120]) ([(⟨(0 : Int), (4 : Int), (ByteArray.mk #[100, 105, 115, 107, 49]), (2 : Int), false⟩ : api_Target)])))) (ByteArray.mk #[120]))) fun w24 =>
                if (w24 ≠ (0 : Int)) then
                  some false
                else
                  grd (decide (((Md.tick (Md.rsS ((Md.tick (Md.ldS ((Md.tick (Md.doS ((Md.tick (Md.suS ((Md.tick (Md.rsS ((Md.tick (Md.suS ((Md.tick (Md.ldS ((Md.tick (Md.crS Mb2 (ByteArray.mk #[120])))) (ByteArray.mk #[120]) ([(⟨(0 : Int), (4 : Int), (ByteArray.mk #[100, 105, 115, 107, 48]), (0 : Int), false⟩ : api_Target)])))) (ByteArray.mk #[120])))) (ByteArray.mk #[120])))) (ByteArray.mk #[120])))) (ByteArray.mk #[120]) ((⟨(2 : Int), (1 : Int), (9 : UInt64)⟩ : api_Task))))) (ByteArray.mk #[120]) ([(⟨(0 : Int), (4 : Int), (ByteArray.mk #[100, 105, 115, 107, 49]), (2 : Int), false⟩ : api_Target)])))) (ByteArray.mk #[120])))).cl < 4000)) <|
                  lt (((Md.told ((Md.tick (Md.rsS ((Md.tick (Md.ldS ((Md.tick (Md.doS ((Md.tick (Md.suS ((Md.tick (Md.rsS ((Md.tick (Md.suS ((Md.tick (Md.ldS ((Md.tick (Md.crS Mb2 (ByteArray.mk #[120])))) (ByteArray.mk #[120]) ([(⟨(0 : Int), (4 : Int), (ByteArray.mk #[100, 105, 115, 107, 48]), (0 : Int), false⟩ : api_Target)])))) (ByteArray.mk #[120])))) (ByteArray.mk #[120])))) (ByteArray.mk #[120])))) (ByteArray.mk #[120]) ((⟨(2 : Int), (1 : Int), (9 : UInt64)⟩ : api_Task))))) (ByteArray.mk #[120]) ([(⟨(0 : Int), (4 : Int), (ByteArray.mk #[100, 105, 115, 107, 49]), (2 : Int), false⟩ : api_Target)])))) (ByteArray.mk #[120])))))).length) fun w28 =>
                  if (((w28 : Nat) : Int) ≠ (1 : Int)) then
                    some false
                  else
                    grd (decide (((Md.tick (Md.anS ((Md.tick (Md.rsS ((Md.tick (Md.ldS ((Md.tick (Md.doS ((Md.tick (Md.suS ((Md.tick (Md.rsS ((Md.tick (Md.suS ((Md.tick (Md.ldS ((Md.tick (Md.crS Mb2 (ByteArray.mk #[120])))) (ByteArray.mk #[120]) ([(⟨(0 : Int), (4 : Int), (ByteArray.mk #[100, 105, 115, 107, 48]), (0 : Int), false⟩ : api_Target)])))) (ByteArray.mk #[120])))) (ByteArray.mk #[120])))) (ByteArray.mk #[120])))) (ByteArray.mk #[120]) ((⟨(2 : Int), (1 : Int), (9 : UInt64)⟩ : api_Task))))) (ByteArray.mk #[120]) ([(⟨(0 : Int), (4 : Int), (ByteArray.mk #[100, 105, 115, 107, 49]), (2 : Int), false⟩ : api_Target)])))) (ByteArray.mk #[120]))))))).cl < 4000 ∧ inT ((⟨(1 : Int), (3 : Int), (0 : UInt64)⟩ : api_Task)))) <|
                    lt ((Md.doA ((Md.tick (Md.anS ((Md.tick (Md.rsS ((Md.tick (Md.ldS ((Md.tick (Md.doS ((Md.tick (Md.suS ((Md.tick (Md.rsS ((Md.tick (Md.suS ((Md.tick (Md.ldS ((Md.tick (Md.crS Mb2 (ByteArray.mk #[120])))) (ByteArray.mk #[120]) ([(⟨(0 : Int), (4 : Int), (ByteArray.mk #[100, 105, 115, 107, 48]), (0 : Int), false⟩ : api_Target)])))) (ByteArray.mk #[120])))) (ByteArray.mk #[120])))) (ByteArray.mk #[120])))) (ByteArray.mk #[120]) ((⟨(2 : Int), (1 : Int), (9 : UInt64)⟩ : api_Task))))) (ByteArray.mk #[120]) ([(⟨(0 : Int), (4 : Int), (ByteArray.mk #[100, 105, 115, 107, 49]), (2 : Int), false⟩ : api_Target)])))) (ByteArray.mk #[120]))))))) (ByteArray.mk #[100, 105, 115, 107, 49]) ((⟨(1 : Int), (3 : Int), (0 : UInt64)⟩ : api_Task)))) fun w29 =>
                    lt ((Md.doE ((Md.tick (Md.anS ((Md.tick (Md.rsS ((Md.tick (Md.ldS ((Md.tick (Md.doS ((Md.tick (Md.suS ((Md.tick (Md.rsS ((Md.tick (Md.suS ((Md.tick (Md.ldS ((Md.tick (Md.crS Mb2 (ByteArray.mk #[120])))) (ByteArray.mk #[120]) ([(⟨(0 : Int), (4 : Int), (ByteArray.mk #[100, 105, 115, 107, 48]), (0 : Int), false⟩ : api_Target)])))) (ByteArray.mk #[120])))) (ByteArray.mk #[120])))) (ByteArray.mk #[120])))) (ByteArray.mk #[120]) ((⟨(2 : Int), (1 : Int), (9 : UInt64)⟩ : api_Task))))) (ByteArray.mk #[120]) ([(⟨(0 : Int), (4 : Int), (ByteArray.mk #[100, 105, 115, 107, 49]), (2 : Int), false⟩ : api_Target)])))) (ByteArray.mk #[120]))))))) (ByteArray.mk #[100, 105, 115, 107, 49]) ((⟨(1 : Int), (3 : Int), (0 : UInt64)⟩ : api_Task)))) fun w30 =>
                    some ((((decide (w30 = (0 : Int))) && w29.Done) && (decide (w29.Value = (9 : UInt64)))))
theorem zig {W : World} {r : Bool} (h : zes = some r) :
    CSpec Tryz.prog W 14 [] [] (fun x : Unit => .bool r) (fun _ => True) (fun x F => F) := by
 refine CSpec.of_body Tryz.func14 rfl Tryz.ntmps14 rfl fun F => ?_
 show CJ _ _ _ _ _ _ (F)
 unfold zes at h
 refine sR <| oA rfl rfl <| nT <| sR <| oO <| zaq (zq6) rfl Tryz.call7 Dels.nil rfl fun X1 _ => oM rfl rfl <| oP (zaw rfl rfl) rfl <| oP (zaw rfl rfl) rfl <| oA rfl rfl <| oA rfl rfl <| nT <| zaf <| sR <| oM rfl rfl <| oP (zd7 rfl rfl Tryz.underlying25) rfl <| oM rfl rfl <| gP (zab rfl rfl rfl rfl) (zag rfl) rfl ?_
 obtain ⟨hg1, h⟩ := zdq h
 refine RJ_gy (zab rfl rfl rfl rfl) <| zaq (zon hg1) rfl Tryz.call22 (Dels.cons del0 Dels.nil) rfl fun _ _ => gP (zab rfl rfl rfl rfl) (P_neq (a := (Md.crE Mb2 (ByteArray.mk #[120]))) (b := (0 : Int)) rfl rfl) rfl <| oP (zay rfl rfl rfl) rfl <| oM rfl rfl <| zd5 17 rfl zaz (fun hg2B hg2 => ?_) (fun hg2B hg2 => ?_)
 ·
  replace h := ite_t hg2 h
  refine RJ_gn (GY_no rfl rfl rfl hg2B) rfl rfl <| RJ_gn (GY_no rfl rfl rfl hg2B) rfl rfl <| RJ_gn (GY_no rfl rfl rfl hg2B) rfl rfl <| RJ_gn (GY_no rfl rfl rfl hg2B) rfl rfl <| RJ_gn (GY_no rfl rfl rfl hg2B) rfl rfl <| oP (zas rfl hg2B rfl) rfl <| oM rfl rfl <| RJ_gn (GY_no rfl rfl rfl rfl) rfl rfl <| RJ_gn (GY_no rfl rfl rfl rfl) rfl rfl <| RJ_gn (GY_no rfl rfl rfl rfl) rfl rfl <| oP (zas rfl rfl rfl) rfl <| oM rfl rfl <| RJ_gn (GY_no rfl rfl rfl rfl) rfl rfl <| RJ_gn (GY_no rfl rfl rfl rfl) rfl rfl <| RJ_gn (GY_no rfl rfl rfl rfl) rfl rfl <| oP (zas rfl rfl rfl) rfl <| oM rfl rfl <| RJ_gn (GY_no rfl rfl rfl rfl) rfl rfl <| RJ_gn (GY_no rfl rfl rfl rfl) rfl rfl <| RJ_gn (GY_no rfl rfl rfl rfl) rfl rfl <| oP (zas rfl rfl rfl) rfl <| nT <| za4 rfl rfl <| sR <| oA rfl rfl <| nT <| zai <| zad ?_
  cases h
  exact fE (res1 Tryz.results14 rfl) () (eD (eD eR))
 ·
  replace h := ite_f hg2 h
  refine gP (zab rfl rfl rfl hg2B) (zag rfl) rfl <| gP (zab rfl rfl rfl hg2B) (zbm rfl (zrx _ _)) rfl <| RJ_gy (zab rfl rfl rfl hg2B) <| zbe rfl (zox _ _ _ _ _) rfl fun b4 => zei (Ent.trans (t0_ eR) (zdk (t := tyapi_Target) (m := 1) [(⟨(0 : Int), (4 : Int), (ByteArray.mk #[100, 105, 115, 107, 48]), (0 : Int), false⟩ : api_Target)] rfl rfl rfl (by decide))) ?_
  obtain ⟨hg3, h⟩ := zdq h
  refine RJ_gy (zab rfl rfl rfl hg2B) <| zaq (zrd (Reads.sl _ _ _) hg3 (v := ⟨_, _, _⟩)) rfl Tryz.call28 (Dels.cons del1 (Dels.cons del0 Dels.nil)) rfl fun _ _ => ?_
  obtain ⟨w5, hw5, h⟩ := lt_e h
  rw [← hw5]
  refine gP (zab rfl rfl rfl hg2B) (P_neq (a := w5) (b := (0 : Int)) rfl rfl) rfl <| oP (zay rfl hg2B rfl) rfl <| oM rfl rfl <| zd5 24 rfl zaz (fun hg4B hg4 => ?_) (fun hg4B hg4 => ?_)
  ·
   replace h := ite_t hg4 h
   refine RJ_gn (GY_no rfl rfl rfl hg4B) rfl rfl <| RJ_gn (GY_no rfl rfl rfl hg4B) rfl rfl <| RJ_gn (GY_no rfl rfl rfl hg4B) rfl rfl <| oP (zas rfl hg4B rfl) rfl <| oM rfl rfl <| RJ_gn (GY_no rfl rfl rfl rfl) rfl rfl <| RJ_gn (GY_no rfl rfl rfl rfl) rfl rfl <| RJ_gn (GY_no rfl rfl rfl rfl) rfl rfl <| oP (zas rfl rfl rfl) rfl <| oM rfl rfl <| RJ_gn (GY_no rfl rfl rfl rfl) rfl rfl <| RJ_gn (GY_no rfl rfl rfl rfl) rfl rfl <| RJ_gn (GY_no rfl rfl rfl rfl) rfl rfl <| oP (zas rfl rfl rfl) rfl <| nT <| za4 rfl rfl <| sR <| oA rfl rfl <| nT <| zai <| zad ?_
   cases h
   exact fE (res1 Tryz.results14 rfl) () (eD (eD (eD eR)))
  ·
   replace h := ite_f hg4 h
   refine gP (zab rfl rfl rfl hg4B) (zag rfl) rfl ?_
   obtain ⟨hg5, h⟩ := zdq h
   refine RJ_gy (zab rfl rfl rfl hg4B) <| zaq (znf hg5) rfl Tryz.call32 (Dels.cons del0 Dels.nil) rfl fun _ _ => ?_
   obtain ⟨w6, hw6, h⟩ := lt_e h
   rw [← hw6]
   refine gP (zab rfl rfl rfl hg4B) (P_neq (a := w6) (b := (0 : Int)) rfl rfl) rfl <| oP (zay rfl hg4B rfl) rfl <| oM rfl rfl <| zd5 29 rfl zaz (fun hg6B hg6 => ?_) (fun hg6B hg6 => ?_)
   ·
    replace h := ite_t hg6 h
    refine RJ_gn (GY_no rfl rfl rfl hg6B) rfl rfl <| RJ_gn (GY_no rfl rfl rfl hg6B) rfl rfl <| RJ_gn (GY_no rfl rfl rfl hg6B) rfl rfl <| oP (zas rfl hg6B rfl) rfl <| oM rfl rfl <| RJ_gn (GY_no rfl rfl rfl rfl) rfl rfl <| RJ_gn (GY_no rfl rfl rfl rfl) rfl rfl <| RJ_gn (GY_no rfl rfl rfl rfl) rfl rfl <| oP (zas rfl rfl rfl) rfl <| nT <| za4 rfl rfl <| sR <| oA rfl rfl <| nT <| zai <| zad ?_
    cases h
    exact fE (res1 Tryz.results14 rfl) () (eD (eD (eD eR)))
   ·
    replace h := ite_f hg6 h
    refine gP (zab rfl rfl rfl hg6B) (zag rfl) rfl ?_
    obtain ⟨hg7, h⟩ := zdq h
    refine RJ_gy (zab rfl rfl rfl hg6B) <| zaq (zoo hg7) rfl Tryz.call34 (Dels.cons del0 Dels.nil) rfl fun _ _ => ?_
    obtain ⟨w7, hw7, h⟩ := lt_e h
    rw [← hw7]
    refine gP (zab rfl rfl rfl hg6B) (P_neq (a := w7) (b := (0 : Int)) rfl rfl) rfl <| oP (zay rfl hg6B rfl) rfl <| oM rfl rfl <| zd5 34 rfl zaz (fun hg8B hg8 => ?_) (fun hg8B hg8 => ?_)
    ·
     replace h := ite_t hg8 h
     refine RJ_gn (GY_no rfl rfl rfl hg8B) rfl rfl <| RJ_gn (GY_no rfl rfl rfl hg8B) rfl rfl <| RJ_gn (GY_no rfl rfl rfl hg8B) rfl rfl <| oP (zas rfl hg8B rfl) rfl <| nT <| za4 rfl rfl <| sR <| oA rfl rfl <| nT <| zai <| zad ?_
     cases h
     exact fE (res1 Tryz.results14 rfl) () (eD (eD (eD eR)))
    ·
     replace h := ite_f hg8 h
     refine gP (zab rfl rfl rfl hg8B) (zag rfl) rfl ?_
     obtain ⟨hg9, h⟩ := zdq h
     refine RJ_gy (zab rfl rfl rfl hg8B) <| zaq (znf hg9) rfl Tryz.call32 (Dels.cons del0 Dels.nil) rfl fun _ _ => ?_
     obtain ⟨w8, hw8, h⟩ := lt_e h
     rw [← hw8]
     refine gP (zab rfl rfl rfl hg8B) (P_neq (a := w8) (b := (0 : Int)) rfl rfl) rfl <| oP (zay rfl hg8B rfl) rfl <| nT <| zbx rfl zaz (fun hg10 => ?_) (fun hg10 => ?_)
     ·
      replace h := ite_t hg10 h
      refine sR <| oA rfl rfl <| nT <| zai <| zad ?_
      cases h
      exact fE (res1 Tryz.results14 rfl) () (eD (eD (eD eR)))
     ·
      replace h := ite_f hg10 h
      refine kT <| sR <| oM rfl rfl <| oP (zbm rfl (zp3 _ _ _)) rfl ?_
      obtain ⟨hg11, h⟩ := zdq h
      refine oO <| zaq (c_DoG hg11) rfl Tryz.call37 (Dels.cons del0 Dels.nil) rfl fun _ _ => oM rfl rfl <| oP (zaw rfl rfl) rfl ?_
      obtain ⟨w9, hw9, h⟩ := lt_e h
      rw [← hw9]
      refine oP (zaw rfl rfl) rfl ?_
      obtain ⟨w10, hw10, h⟩ := lt_e h
      rw [← hw10]
      refine oO <| zb1 Tryz.zeroValue51 rfl rfl fun b11 => oO <| zbn rfl rfl foc0 Tryz.sizeOf51 rfl rfl rfl <| oA rfl rfl <| nT <| zaf <| sR <| oM rfl rfl <| oP (P_neq (a := w10) (b := (0 : Int)) rfl rfl) rfl <| oM rfl rfl <| zb6 rfl rfl rfl (fun hG12 => have hP13 : ¬ (w10 ≠ (0 : Int)) := nP (zaz) hG12; VJ_P (zaa rfl ⟨_, _, _, Tryz.runUnderlying51, rfl, rfl, Tryz.sizeOf4, rfl⟩)) <| zb6 rfl rfl rfl (fun hG14 => have hP15 : ¬ (w10 ≠ (0 : Int)) := nP (zaz) hG14; zah (mbx hG14 rfl) foc0 rfl Tryz.isAgg4) <| oP (zeo rfl rfl (fun hh => mbx (not_f hh) rfl)) rfl <| oM rfl rfl <| zb6 rfl rfl rfl (fun hG16 => have hP17 : ¬ ((w10 ≠ (0 : Int)) ∨ w9.Done = true) := nP ((bT_or zaz Iff.rfl)) hG16; VJ_P (zaa rfl ⟨_, _, _, Tryz.runUnderlying51, rfl, rfl, Tryz.sizeOf3, rfl⟩)) <| zb6 rfl rfl rfl (fun hG18 => have hP19 : ¬ ((w10 ≠ (0 : Int)) ∨ w9.Done = true) := nP ((bT_or zaz Iff.rfl)) hG18; zah (mbx hG18 rfl) foc0 rfl Tryz.isAgg3) <| zb6 rfl rfl rfl (fun hG20 => have hP21 : ¬ ((w10 ≠ (0 : Int)) ∨ w9.Done = true) := nP ((bT_or zaz Iff.rfl)) hG20; VJ_P (P_neq (a := w9.Ticket) (b := (1 : Int)) (mbx hG20 rfl) rfl)) <| oP (zeo rfl rfl (fun hh => mbx (not_f hh) rfl)) rfl <| oM rfl rfl <| zd5 56 rfl (bT_or (bT_or zaz Iff.rfl) zaz) (fun hg12B hg12 => ?_) (fun hg12B hg12 => ?_)
      ·
       replace h := ite_t hg12 h
       refine RJ_gn (GY_no rfl rfl rfl hg12B) rfl rfl <| RJ_gn (GY_no rfl rfl rfl hg12B) rfl rfl <| RJ_gn (GY_no rfl rfl rfl hg12B) rfl rfl <| RJ_gn (GY_no rfl rfl rfl hg12B) rfl rfl <| RJ_gn (GY_no rfl rfl rfl hg12B) rfl rfl <| oP (zas rfl hg12B rfl) rfl <| oM rfl rfl <| RJ_gn (GY_no rfl rfl rfl rfl) rfl rfl <| RJ_gn (GY_no rfl rfl rfl rfl) rfl rfl <| RJ_gn (GY_no rfl rfl rfl rfl) rfl rfl <| oP (zas rfl rfl rfl) rfl <| oM rfl rfl <| RJ_gn (GY_no rfl rfl rfl rfl) rfl rfl <| RJ_gn (GY_no rfl rfl rfl rfl) rfl rfl <| RJ_gn (GY_no rfl rfl rfl rfl) rfl rfl <| RJ_gn (GY_no rfl rfl rfl rfl) rfl rfl <| oP (zas rfl rfl rfl) rfl <| nT <| za4 rfl rfl <| sR <| oA rfl rfl <| nT <| zai <| zad ?_
       cases h
       exact fE (res1 Tryz.results14 rfl) () (eD (eD (eD (eD eR))))
      ·
       replace h := ite_f hg12 h
       refine gP (zab rfl rfl rfl hg12B) (zag rfl) rfl <| gP (zab rfl rfl rfl hg12B) (zbm rfl (zp4 _ _ _)) rfl <| RJ_gy (zab rfl rfl rfl hg12B) <| zbe rfl (zox _ _ _ _ _) rfl fun b22 => zei (Ent.trans (t0_ eR) (zdk (t := tyapi_Target) (m := 1) [(⟨(0 : Int), (4 : Int), (ByteArray.mk #[100, 105, 115, 107, 49]), (2 : Int), false⟩ : api_Target)] rfl rfl rfl (by decide))) ?_
       obtain ⟨hg13, h⟩ := zdq h
       refine RJ_gy (zab rfl rfl rfl hg12B) <| zaq (zrd (Reads.sl _ _ _) hg13 (v := ⟨_, _, _⟩)) rfl Tryz.call28 (Dels.cons del2 (Dels.cons del0 Dels.nil)) rfl fun _ _ => ?_
       obtain ⟨w23, hw23, h⟩ := lt_e h
       rw [← hw23]
       refine gP (zab rfl rfl rfl hg12B) (P_neq (a := w23) (b := (0 : Int)) rfl rfl) rfl <| oP (zay rfl hg12B rfl) rfl <| oM rfl rfl <| zd5 63 rfl zaz (fun hg14B hg14 => ?_) (fun hg14B hg14 => ?_)
       ·
        replace h := ite_t hg14 h
        refine RJ_gn (GY_no rfl rfl rfl hg14B) rfl rfl <| RJ_gn (GY_no rfl rfl rfl hg14B) rfl rfl <| RJ_gn (GY_no rfl rfl rfl hg14B) rfl rfl <| oP (zas rfl hg14B rfl) rfl <| oM rfl rfl <| RJ_gn (GY_no rfl rfl rfl rfl) rfl rfl <| RJ_gn (GY_no rfl rfl rfl rfl) rfl rfl <| RJ_gn (GY_no rfl rfl rfl rfl) rfl rfl <| RJ_gn (GY_no rfl rfl rfl rfl) rfl rfl <| oP (zas rfl rfl rfl) rfl <| nT <| za4 rfl rfl <| sR <| oA rfl rfl <| nT <| zai <| zad ?_
        cases h
        exact fE (res1 Tryz.results14 rfl) () (eD (eD (eD (eD (eD eR)))))
       ·
        replace h := ite_f hg14 h
        refine gP (zab rfl rfl rfl hg14B) (zag rfl) rfl ?_
        obtain ⟨hg15, h⟩ := zdq h
        refine RJ_gy (zab rfl rfl rfl hg14B) <| zaq (zoo hg15) rfl Tryz.call34 (Dels.cons del0 Dels.nil) rfl fun _ _ => ?_
        obtain ⟨w24, hw24, h⟩ := lt_e h
        rw [← hw24]
        refine gP (zab rfl rfl rfl hg14B) (P_neq (a := w24) (b := (0 : Int)) rfl rfl) rfl <| oP (zay rfl hg14B rfl) rfl <| oM rfl rfl <| zd5 68 rfl zaz (fun hg16B hg16 => ?_) (fun hg16B hg16 => ?_)
        ·
         replace h := ite_t hg16 h
         refine RJ_gn (GY_no rfl rfl rfl hg16B) rfl rfl <| RJ_gn (GY_no rfl rfl rfl hg16B) rfl rfl <| RJ_gn (GY_no rfl rfl rfl hg16B) rfl rfl <| RJ_gn (GY_no rfl rfl rfl hg16B) rfl rfl <| oP (zas rfl hg16B rfl) rfl <| nT <| za4 rfl rfl <| sR <| oA rfl rfl <| nT <| zai <| zad ?_
         cases h
         exact fE (res1 Tryz.results14 rfl) () (eD (eD (eD (eD (eD eR)))))
        ·
         replace h := ite_f hg16 h
         refine gP (zab rfl rfl rfl hg16B) (zag rfl) rfl ?_
         obtain ⟨hg17, h⟩ := zdq h
         refine RJ_gy (zab rfl rfl rfl hg16B) <| zaq (zng hg17) rfl Tryz.call13 (Dels.cons del0 Dels.nil) rfl fun X25 _ => zqg (zdm (Reads.sl _ _ _) del0) fun hlen27 => gV (zab rfl rfl rfl hg16B) (V_len rfl foc0 (Reads.sl _ _ _) Tryz.runUnderlying54) rfl ?_
         obtain ⟨w28, hw28, h⟩ := lt_e h
         rw [← hw28]
         refine gP (zab rfl rfl rfl hg16B) (P_neq (a := ((w28 : Nat) : Int)) (b := (1 : Int)) rfl rfl) rfl <| oP (zay rfl hg16B rfl) rfl <| nT <| zbx rfl zaz (fun hg18 => ?_) (fun hg18 => ?_)
         ·
          replace h := ite_t hg18 h
          refine sR <| oA rfl rfl <| nT <| zai <| zad ?_
          cases h
          exact fE (res1 Tryz.results14 rfl) () (eD (eD (eD (eD (eD (eD eR))))))
         ·
          replace h := ite_f hg18 h
          refine kT <| sR <| oM rfl rfl <| oP (zbm rfl (zry _ _)) rfl ?_
          obtain ⟨hg19, h⟩ := zdq h
          refine oO <| zaq (c_DoG hg19) rfl Tryz.call37 (Dels.cons del1 Dels.nil) rfl fun _ _ => oM rfl rfl <| oP (zaw rfl rfl) rfl ?_
          obtain ⟨w29, hw29, h⟩ := lt_e h
          rw [← hw29]
          refine oP (zaw rfl rfl) rfl ?_
          obtain ⟨w30, hw30, h⟩ := lt_e h
          rw [← hw30]
          refine oO <| zb1 Tryz.zeroValue51 rfl rfl fun b31 => oO <| zbn rfl rfl foc0 Tryz.sizeOf51 rfl rfl rfl <| oA rfl rfl <| za9 <| QJ_ent (t0_ (eD (eD (eD (eD (eD (eD eR))))))) <| zav <| sR <| oM rfl rfl <| oP (P_eql (a := w30) (b := (0 : Int)) rfl rfl) rfl <| oM rfl rfl <| zc3 rfl rfl rfl (fun hG32 => have hP33 : (w30 = (0 : Int)) := (zaz).1 hG32; VJ_P (zaa rfl ⟨_, _, _, Tryz.runUnderlying51, rfl, rfl, Tryz.sizeOf4, rfl⟩)) <| zc3 rfl rfl rfl (fun hG34 => have hP35 : (w30 = (0 : Int)) := (zaz).1 hG34; zah (mbx hG34 rfl) foc0 rfl Tryz.isAgg4) <| oP (zej rfl (fun hh => mbx hh rfl) rfl) rfl <| oM rfl rfl <| zc3 rfl rfl rfl (fun hG36 => have hP37 : ((w30 = (0 : Int)) ∧ w29.Done = true) := ((zb8 zaz Iff.rfl)).1 hG36; VJ_P (zaa rfl ⟨_, _, _, Tryz.runUnderlying51, rfl, rfl, Tryz.sizeOf31, rfl⟩)) <| zc3 rfl rfl rfl (fun hG38 => have hP39 : ((w30 = (0 : Int)) ∧ w29.Done = true) := ((zb8 zaz Iff.rfl)).1 hG38; zah (mbx hG38 rfl) foc0 rfl Tryz.isAgg31) <| zc3 rfl rfl rfl (fun hG40 => have hP41 : ((w30 = (0 : Int)) ∧ w29.Done = true) := ((zb8 zaz Iff.rfl)).1 hG40; VJ_P (zt3 (a := w29.Value) (b := (9 : UInt64)) (mbx hG40 rfl) rfl)) <| oP (zej rfl (fun hh => mbx hh rfl) rfl) rfl <| oA rfl rfl <| nT <| zai ?_
          cases h
          exact fE (res1 Tryz.results14 rfl) () (eD eR)
end Go.Proofs
namespace Go.Proofs
open Go.VG
theorem zrz : zes = some true := by kernel_rfl
end Go.Proofs
