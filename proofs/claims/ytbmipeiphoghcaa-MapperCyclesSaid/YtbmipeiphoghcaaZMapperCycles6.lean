/- MapperCycles, part 6 of the proof: CLaw3, CRf0, CRf1, CBeg0, CBeg1, PCyc, LMapO, LAw23, PAwake23, CLaw9. -/
import Derived.WalkKit
import Derived.Orders
import Derived.RangeFuncLeaves
import Derived.RangeFuncCalls
import Derived.TacticsIn
import Derived.Handy
import Derived.OrdersHeld
import Derived.OrdersIn
import Derived.Below
import Derived.OpenShut
import Derived.Deep.Slices
import Derived.Scope
import Derived.RangeFuncRecord
import Derived.ChangeKeysEq
import Derived.Laws.BytesArg
import Derived.KernelRfl
import Derived.Maps.RangeRun
import Derived.LaidEql
import Derived.ProofKit
import Derived.ShutString
import Derived.ChangeOld
import Derived.Test.YtbmipeiphoghcaaChecked
import Derived.Test.YtbmipeiphoghcaaRows
import Derived.Test.YtbmipeiphoghcaaZMapperCycles5
set_option linter.unusedSimpArgs false
set_option maxRecDepth 20000
namespace Go.Proofs
open Go.VG
theorem CLaw3_bld_58_0 (v0 : (Option Addr)) (v1 : Nat) (v2 : Nat) : ∀ w, (Instr.build 58 (#[(0, .slice v0 v1 v2)] : Array (Nat × Value))).run Try.prog w = .ok (.agg #[.slice v0 v1 v2, .int .i64 0]) w := fun w => by kernel_rfl
theorem tmod_bd (v : Int) {n : Int} (hn : 1 ≤ n) : -n < v.tmod n ∧ v.tmod n < n := by
  have h4 := Int.natAbs_tmod v n
  have h5 := Nat.mod_lt v.natAbs (show 0 < n.natAbs by omega)
  omega
theorem c_sNew {W : World} {v : Sl3} {L : List Int} {A : HP} (hA : Reads A tyI v.v L) (hL : L.length ≤ 9223372036854775807) :
    CSpec Try.prog W 6 [v.v] [A] (fun x : Nat × Value => ptr x.1 0) (fun x => ∃ L2 : List Int, L2.length ≤ 1000 ∧ Reads A tyI x.2 L2) (fun x F => blk x.1 58 [x.2, .int .i64 0] :: A :: F) := by
 refine CSpec.of_body Try.func6 rfl Try.ntmps6 rfl fun F => ?_
 show CJ _ _ _ _ _ _ (_ :: F)
 refine sR <| oA rfl rfl <| nT <| CJ_seq <| sR <| oM rfl rfl <| oV (V_len rfl foc0 hA Try.runUnderlying22) rfl <| oP (P_gtr rfl rfl) rfl <| nT ?_
 first | (refine CJ_condD rfl (fun hg1 => ?_) (fun hg1 => ?_)) | (refine CJ_condN rfl (fun hg1 => ?_) (fun hg1 => ?_)) | (refine CJ_cond rfl (fun hg1 => ?_) (fun hg1 => ?_))
 ·
  refine CJ_region <| oM rfl rfl <| oV (V_slice (l := 0) (h := 1000) rfl foc0 hA rfl ⟨_, rfl⟩ (by omega) (by omega) Try.underlying22 Try.sizeOf3) rfl <| oA rfl rfl <| nT <| CJ_seq <| CJ_pure (reads_sl3 (Reads.sliceV (t := tyI) (l := 0) (h := 1000) hA (by omega) (by omega)) del0) fun hv2 => ?_
  obtain ⟨v2, hv2⟩ := hv2
  rw [hv2]
  refine CJ_region <| oM rfl rfl <| oP (P_build rfl (CLaw3_bld_58_0 _ _ _)) rfl <| oO <| O_box rfl rfl rfl fun b1 => oA rfl rfl <| nT <| CJ_ret <| QJ_end (res1 Try.results6 rfl) <| CSpec.close ⟨b1, v2.v⟩ ?_ ?_ (t0_ (t0_ eR))
  · rfl
  · exact ⟨_, by simp; omega, hv2 ▸ (Reads.sliceV (t := tyI) (l := 0) (h := 1000) hA (by omega) (by omega))⟩
 ·
  refine kT <| sR <| oM rfl rfl <| oP (P_build rfl (CLaw3_bld_58_0 _ _ _)) rfl <| oO <| O_box rfl rfl rfl fun b2 => oA rfl rfl <| nT <| CJ_ret <| QJ_end (res1 Try.results6 rfl) <| CSpec.close ⟨b2, v.v⟩ ?_ ?_ (t0_ (t0_ eR))
  · rfl
  · exact ⟨L, by omega, hA⟩
theorem c_sRaw {W : World} {sb : Nat} {a : Int} {v : Value} {L : List Int} {A : HP} (hA : Reads A tyI v L) (hL : L.length ≤ 1000) (ha : 0 ≤ a ∧ a ≤ 1000) :
    CSpec Try.prog W 39 [ptr sb 0] [blk sb 58 [v, .int .i64 a], A] (fun x : Int × Int => .int .i64 x.1) (fun x => 0 ≤ x.2 ∧ x.2 ≤ 1000) (fun x F => blk sb 58 [v, .int .i64 x.2] :: A :: F) := by
 refine CSpec.of_body Try.func39 rfl Try.ntmps39 rfl fun F => ?_
 show CJ _ _ _ _ _ _ (_ :: _ :: F)
 refine sR <| oA rfl rfl <| nT <| CJ_seq <| CJ_seq <| AJ_startH 0 (by kernel_rfl) rfl <| aN 0 1 rfl rfl (P_move rfl) rfl <| aN 1 3 rfl rfl (P_nilCheck rfl) rfl <| aN 2 7 rfl rfl (P_fieldAddr rfl ⟨_, _, _, Try.runUnderlying58, rfl, rfl, Try.sizeOf3, rfl⟩) rfl <| aV 3 15 rfl rfl (GY_none rfl) (t0_ (t0_ eR)) (V_load rfl foc0 rfl Try.isAgg3) rfl <| aN 4 31 rfl rfl (P_move rfl) rfl <| aN 5 63 rfl rfl (P_nilCheck rfl) rfl <| aN 6 127 rfl rfl (P_fieldAddr rfl ⟨_, _, _, Try.runUnderlying58, rfl, rfl, Try.sizeOf22, rfl⟩) rfl <| aV 7 255 rfl rfl (GY_none rfl) (t0_ (t0_ eR)) (V_load rfl foc0 rfl Try.isAgg22) rfl <| aV 8 511 rfl rfl (GY_none rfl) (t0_ (t0_ eR)) (V_len rfl foc1 hA Try.runUnderlying22) rfl <| aN 9 1023 rfl rfl (P_geq rfl rfl) rfl <| aD ?_
 first | (refine CJ_condD rfl (fun hg1 => ?_) (fun hg1 => ?_)) | (refine CJ_condN rfl (fun hg1 => ?_) (fun hg1 => ?_)) | (refine CJ_cond rfl (fun hg1 => ?_) (fun hg1 => ?_))
 ·
  refine sR <| oA rfl rfl <| nT <| CJ_ret <| QJ_then_ret <| QJ_end (res1 Try.results39 rfl) <| CSpec.close ⟨0, a⟩ ?_ ?_ (t0_ (t0_ eR))
  · rfl
  · exact ha
 ·
  refine kT <| sR <| oM rfl rfl <| oP (P_nilCheck rfl) rfl <| oP (P_fieldAddr rfl ⟨_, _, _, Try.runUnderlying58, rfl, rfl, Try.sizeOf3, rfl⟩) rfl <| oV (V_load rfl foc0 rfl Try.isAgg3) rfl <| oP (P_add rfl rfl (by omega)) rfl <| oP (P_nilCheck rfl) rfl <| oP (P_fieldAddr rfl ⟨_, _, _, Try.runUnderlying58, rfl, rfl, Try.sizeOf3, rfl⟩) rfl <| oO <| O_store rfl rfl foc0 rfl rfl Try.sizeOf3 <| nT <| CJ_seq <| AJ_startH 0 (by kernel_rfl) rfl <| aN 0 1 rfl rfl (P_move rfl) rfl <| aN 1 3 rfl rfl (P_nilCheck rfl) rfl <| aN 2 7 rfl rfl (P_fieldAddr rfl ⟨_, _, _, Try.runUnderlying58, rfl, rfl, Try.sizeOf22, rfl⟩) rfl <| aV 3 15 rfl rfl (GY_none rfl) (t0_ (t0_ eR)) (V_load rfl foc0 rfl Try.isAgg22) rfl <| aN 4 31 rfl rfl (P_move rfl) rfl <| aN 5 63 rfl rfl (P_nilCheck rfl) rfl <| aN 6 127 rfl rfl (P_fieldAddr rfl ⟨_, _, _, Try.runUnderlying58, rfl, rfl, Try.sizeOf3, rfl⟩) rfl <| aV 7 255 rfl rfl (GY_none rfl) (t0_ (t0_ eR)) (V_load rfl foc0 rfl Try.isAgg3) rfl <| aN 8 511 rfl rfl (P_sub rfl rfl (by omega)) rfl <| aV 9 1023 rfl rfl (GY_none rfl) (t0_ (t0_ eR)) (V_index rfl rfl (Int.toNat_of_nonneg (by omega)).symm (by omega) foc1 hA Try.runUnderlying22 Try.sizeOf3) rfl <| aV 10 2047 rfl rfl (GY_none rfl) (t0_ (t0_ eR)) (V_loadE rfl rfl (by omega) foc1 hA rfl rfl Try.isAgg3) rfl <| aN 11 4095 rfl rfl (P_assign rfl) rfl <| aD <| CJ_ret <| QJ_end (res1 Try.results39 rfl) ?_
  refine CSpec.close ⟨L.getD (a + 1 - 1).toNat tyI.dflt, a + 1⟩ ?_ ?_ (t0_ (t0_ eR))
  · rfl
  ·
   show 0 ≤ a + 1 ∧ a + 1 ≤ 1000
   omega
theorem c_sN {W : World} {sb : Nat} {a : Int} {v : Value} {L : List Int} {A : HP} (hA : Reads A tyI v L) (hL : L.length ≤ 1000) (ha : 0 ≤ a ∧ a ≤ 1000) {n : Int} (hn : -1000000000 ≤ n ∧ n ≤ 1000000000) :
    CSpec Try.prog W 12 [ptr sb 0, .int .i64 n] [blk sb 58 [v, .int .i64 a], A] (fun x : Int × Int => .int .i64 x.1) (fun x => (0 ≤ x.2 ∧ x.2 ≤ 1000) ∧ (0 ≤ x.1 ∧ x.1 ≤ 1000000000) ∧ (1 ≤ n → x.1 < n)) (fun x F => blk sb 58 [v, .int .i64 x.2] :: A :: F) := by
 refine CSpec.of_body Try.func12 rfl Try.ntmps12 rfl fun F => ?_
 show CJ _ _ _ _ _ _ (_ :: _ :: F)
 refine sR <| oA rfl rfl <| nT <| CJ_seq <| sR <| oM rfl rfl <| oP (P_lss rfl rfl) rfl <| nT ?_
 first | (refine CJ_condD rfl (fun hg1 => ?_) (fun hg1 => ?_)) | (refine CJ_condN rfl (fun hg1 => ?_) (fun hg1 => ?_)) | (refine CJ_cond rfl (fun hg1 => ?_) (fun hg1 => ?_))
 ·
  refine sR <| oA rfl rfl <| nT <| CJ_ret <| QJ_then_ret <| QJ_end (res1 Try.results12 rfl) <| CSpec.close ⟨0, a⟩ ?_ ?_ (t0_ (t0_ eR))
  · rfl
  · exact ⟨ha, ⟨Int.le_refl _, by show (0 : Int) ≤ 1000000000; omega⟩, fun h => by show (0 : Int) < n; omega⟩
 ·
  refine kT <| sR <| oM rfl rfl <| oO <| O_call ((c_sRaw hA hL ha)) rfl Try.call39 (Dels.cons del0 (Dels.cons del0 Dels.nil)) rfl fun x9 h9 => oM rfl rfl <| oP (P_remT rfl rfl (by omega)) rfl <| oA rfl rfl <| nT <| CJ_seq <| CJ_seq ?_
  have htm := tmod_bd x9.1 (n := n) (by omega)
  refine CJ_region <| oM rfl rfl <| oP (P_lss rfl rfl) rfl <| nT ?_
  first | (refine CJ_condD rfl (fun hg2 => ?_) (fun hg2 => ?_)) | (refine CJ_condN rfl (fun hg2 => ?_) (fun hg2 => ?_)) | (refine CJ_cond rfl (fun hg2 => ?_) (fun hg2 => ?_))
  ·
   refine CJ_region <| oM rfl rfl <| oM rfl rfl <| oP (P_add rfl rfl (by omega)) rfl <| oA rfl rfl <| nT <| sR <| oM rfl rfl <| oA rfl rfl <| nT <| CJ_ret <| QJ_end (res1 Try.results12 rfl) <| CSpec.close ⟨x9.1.tmod n + n, x9.2⟩ ?_ ?_ (t0_ (t0_ eR))
   · rfl
   ·
    refine ⟨h9, ⟨?_, ?_⟩, fun h => ?_⟩
    · show 0 ≤ x9.1.tmod n + n; omega
    · show x9.1.tmod n + n ≤ 1000000000; omega
    · show x9.1.tmod n + n < n; omega
  ·
   refine kT <| sR <| oM rfl rfl <| oA rfl rfl <| nT <| CJ_ret <| QJ_end (res1 Try.results12 rfl) <| CSpec.close ⟨x9.1.tmod n, x9.2⟩ ?_ ?_ (t0_ (t0_ eR))
   · rfl
   ·
    refine ⟨h9, ⟨?_, ?_⟩, fun h => ?_⟩
    · show 0 ≤ x9.1.tmod n; omega
    · show x9.1.tmod n ≤ 1000000000; omega
    · show x9.1.tmod n < n; omega
end Go.Proofs
set_option linter.unusedSimpArgs false
set_option maxRecDepth 20000
namespace Go.Proofs
open Go.VG
theorem CRf0_bs_45_1_0 (v0 : ByteArray) : BuildsSlice Try.prog 45 1 [(0, .string v0)] 9 [.string v0] := fun w => by kernel_rfl
structure RD where
  ba : Sl3
  lv : Sl3
  nw : Sl3
  wt : Sl3
abbrev rd0 : RD := ⟨s3z, s3z, s3z, s3z⟩
abbrev tyWt : Ty Wt := { T := 183, sz := 5, enc := fun x => [.int .i64 (x.tk : Int), .int .i64 (x.gv : Int), .int .i64 x.t.Kind, .int .i64 x.t.At, .int .u64 (x.t.Value.toNat : Int)], dflt := Wt.z, len := fun _ => rfl, one := fun _ => rfl, pos := by decide }
abbrev tyDv : Ty (RD × Dv) := { T := 115, sz := 10, enc := fun x => [.bool x.2.gone, .bool x.2.isB, .string x.2.name, x.1.ba.v, x.1.lv.v, x.1.nw.v, .bool x.2.hl, .bool x.2.hn, .bool x.2.susp, x.1.wt.v], dflt := (rd0, Dv.z), len := fun _ => rfl, one := fun _ => rfl, pos := by decide }
theorem ok_tyDv : ElemOk Try.prog tyDv 128 := ⟨Try.t115, .agg #[.bool false, .bool false, .string ByteArray.empty, .slice none 0 0, .slice none 0 0, .slice none 0 0, .bool false, .bool false, .bool false, .slice none 0 0], by kernel_rfl, rfl, rfl, rfl, rfl⟩
structure RH where
  dv : Sl3
  tv : Sl3
  l : List (RD × Dv)
def RowC (x : RD × Dv) : HP := star [sl tyU x.1.ba.v x.2.base, sl tyapi_Target x.1.lv.v x.2.live, sl tyapi_Target x.1.nw.v x.2.new, sl tyWt x.1.wt.v x.2.wait]
structure RefWF (c : RH) (m : Md) : Prop where
  dv : c.l.map Prod.snd = m.dv
  ok : MdOk m
  big : MdBig m
def RefR (c : RH) (m : Md) : HP := star [pur (RefWF c m), sl tyDv c.dv.v c.l, sl tyapi_Answer c.tv.v m.told, Go.VG.Own RowC c.l]
abbrev rCells (c : RH) (m : Md) : List Value := [c.dv.v, .int .i64 (m.tks : Int), c.tv.v]
def RefP (b : Nat) (m : Md) : HP := ex fun c : RH => star [pur (MdBd m), blk b 65 (rCells c m), RefR c m]
section
variable {c : RH} {m : Md} {k : Nat} {R : List HP}
theorem RefR_wf {H : List HP} {C : HP → List HP} (hf : Foc H (RefR c m) C) : ∀ h, stars H h → RefWF c m := fun h hh => by
  obtain ⟨F, hp, _⟩ := hf.focus
  exact (stars_pur.1 (stars_star.1 (stars_perm hp _ hh))).1
theorem RefR_flat : Ent (RefR c m :: R) (sl tyDv c.dv.v c.l :: sl tyapi_Answer c.tv.v m.told :: Go.VG.Own RowC c.l :: R) := fun _h hh => (stars_pur.1 (stars_star.1 hh)).2
theorem RefR_close (h : RefWF c m) : Ent (sl tyDv c.dv.v c.l :: sl tyapi_Answer c.tv.v m.told :: Go.VG.Own RowC c.l :: R) (RefR c m :: R) := fun _ hh => stars_star.2 (stars_pur.2 ⟨h, hh⟩)
theorem rdDv : Reads (RefR c m) tyDv c.dv.v c.l := Reads_ent RefR_flat
theorem RefWF.len (h : RefWF c m) : c.l.length = m.dv.length := by rw [← h.dv]; simp
theorem RefWF.at (h : RefWF c m) (k : Nat) : (c.l.getD k tyDv.dflt).2 = m.at k := by
  have h2 := getD_map (fun p : RD × Dv => p.2) c.l k (rd0, Dv.z)
  have h3 : (c.l.map fun p : RD × Dv => p.2).getD k Dv.z = m.at k := by rw [show (c.l.map fun p : RD × Dv => p.2) = m.dv from h.dv]; rfl
  exact h2.symm.trans h3
theorem RefR_push {dv : Sl3} {h : RD} {d : Dv} (hW : RefWF c m) (ok : MdOk (m.push d)) (big : MdBig (m.push d)) : Ent (RowC (h, d) :: Go.VG.Own RowC c.l :: sl tyDv dv.v (c.l ++ [(h, d)]) :: sl tyapi_Answer c.tv.v m.told :: R) (RefR { c with dv := dv, l := c.l ++ [(h, d)] } (m.push d) :: R) := fun g hh => by
  have hw : RefWF { c with dv := dv, l := c.l ++ [(h, d)] } (m.push d) := ⟨by show (c.l ++ [(h, d)]).map Prod.snd = m.dv ++ [d]; rw [List.map_append, hW.dv]; rfl, ok, big⟩
  have h1 := Own_push RowC (h, d) g hh
  exact RefR_close (c := { c with dv := dv, l := c.l ++ [(h, d)] }) hw g ((Ent.take del1 (Ent.take del1 (Ent.take del0 Ent.refl))) g h1)
end
namespace Md
def findI (m : Md) (n : ByteArray) : Int := match m.find n with | some k => (k : Int) | none => -1
section
variable {m : Md} {n : ByteArray} {i : Nat}
theorem findI_at (hi : i < m.dv.length) (h : isN (m.at i) n = true) (hno : ∀ j, j < i → isN (m.at j) n = false) : m.findI n = (i : Int) := by
  have : m.find n = some i := List.findIdx?_eq_some_iff_getElem.2 ⟨hi, by rw [show m.dv[i] = m.at i by simp [Md.at, List.getD, hi]]; exact h, fun j hj => by
    have := hno j hj
    rw [show m.dv[j] = m.at j by simp [Md.at, List.getD, show j < m.dv.length by omega], this]; decide⟩
  unfold findI; rw [this]
theorem findI_no (hno : ∀ j, j < m.dv.length → isN (m.at j) n = false) : m.findI n = -1 := by
  have : m.find n = none := List.findIdx?_eq_none_iff.2 fun d hd => by
    obtain ⟨j, hj, rfl⟩ := List.getElem_of_mem hd
    have := hno j hj
    rwa [show m.dv[j] = m.at j by simp [Md.at, List.getD, hj]]
  unfold findI; rw [this]
theorem findI_some : (0 ≤ m.findI n) ↔ (m.find n).isSome = true := by
  unfold findI
  cases m.find n with
  | none => simp
  | some k => simp
def nmT (m : Md) (i : Nat) : List ByteArray := ((m.dv.take i).filter fun d => !d.gone).map (·.name)
theorem nmT_step (hi : i < m.dv.length) : m.nmT (i + 1) = m.nmT i ++ (if (m.at i).gone then [] else [(m.at i).name]) := by
  unfold nmT
  have e : m.dv.take (i + 1) = m.dv.take i ++ [m.at i] := by rw [List.take_succ_eq_append_getElem hi]; simp [Md.at, List.getD, hi]
  rw [e, List.filter_append, List.map_append]
  cases h : (m.at i).gone <;> simp [h]
theorem nmT_len (i : Nat) : (m.nmT i).length ≤ i := by
  unfold nmT
  rw [List.length_map]
  exact Nat.le_trans (List.length_filter_le _ _) (by rw [List.length_take]; omega)
end
end Md
theorem c_rfind {W : World} {b : Nat} {c : RH} {m : Md} {n : ByteArray} :
    CSpec Try.prog W 79 [ptr b 0, .string n] [blk b 65 (rCells c m), RefR c m] (fun _ : Unit => .int .i64 (m.findI n)) (fun _ => True) (fun _ F => blk b 65 (rCells c m) :: RefR c m :: F) := by
 refine CSpec.of_body Try.func79 rfl Try.ntmps79 rfl fun F => ?_
 show CJ _ _ _ _ _ _ (_ :: _ :: F)
 refine CJ_pure (RefR_wf foc1) fun hW => ?_
 have hO := hW.ok
 have hln := hW.big.len
 have hll := hW.len
 refine sR <| oA rfl rfl <| nT <| CJ_seq <| sR <| oA rfl rfl <| nT <| CJ_block <| CJ_loopR (X := Nat) [4, 5, 6, 7, 8, 9, 10, 11, 12, 13, 14, 15, 16, 17, 18, 19, 20, 21, 22, 23, 24, 25, 26, 27, 28, 29, 30, 31, 32, 33, 34, 35, 36] (fun i  => ([(5, .int .i64 (i : Nat))] : Slots)) (fun i R => R) (fun i  => i ≤ m.dv.length ∧ ∀ j, j < i → Md.isN (m.at j) n = false) (fun i  => m.dv.length - i) (0) ?_ ?_ (t0_ (t0_ eR)) ?_
 · exact ⟨Nat.zero_le _, fun j h => by omega⟩
 · exact ⟨rfl, True.intro⟩
 ·
  intro i hpf
  obtain ⟨hi, hno⟩ := hpf
  show CJ _ _ _ _ _ (([(5, .int .i64 (i : Nat))] : Slots) ++ forget _ _) (_)
  have hat := hW.at i
  refine CJ_seq <| sR <| oM rfl rfl <| oM rfl rfl <| oP (P_nilCheck rfl) rfl <| oP (P_fieldAddr rfl ⟨_, _, _, Try.runUnderlying65, rfl, rfl, Try.sizeOf63, rfl⟩) rfl <| oV (V_load rfl foc0 rfl Try.isAgg63) rfl <| oV (V_len rfl foc1 rdDv Try.runUnderlying63) rfl <| oP (P_lss rfl rfl) rfl <| nT ?_
  first | (refine CJ_condD rfl (fun hg1 => ?_) (fun hg1 => ?_)) | (refine CJ_condN rfl (fun hg1 => ?_) (fun hg1 => ?_)) | (refine CJ_cond rfl (fun hg1 => ?_) (fun hg1 => ?_))
  ·
   refine kT <| CJ_seq <| CJ_block <| sR <| oM rfl rfl <| oP (P_nilCheck rfl) rfl <| oP (P_fieldAddr rfl ⟨_, _, _, Try.runUnderlying65, rfl, rfl, Try.sizeOf63, rfl⟩) rfl <| oV (V_load rfl foc0 rfl Try.isAgg63) rfl <| oM rfl rfl ?_
   first | (refine RJ_op rfl (OJ_V (V_index rfl rfl rfl (by omega) foc1 rdDv Try.runUnderlying63 Try.sizeOf115) rfl ?_)) | (refine RJ_op rfl (OJ_V (V_index rfl rfl (Int.toNat_of_nonneg (by omega)).symm (by omega) foc1 rdDv Try.runUnderlying63 Try.sizeOf115) rfl ?_))
   refine oP (P_fieldE rfl ⟨_, _, _, Try.runUnderlying115, rfl, rfl, Try.sizeOf4, rfl⟩) rfl <| oV (V_loadE rfl rfl (by omega) foc1 rdDv rfl rfl Try.isAgg4) rfl <| oP (P_not rfl) rfl <| oM rfl rfl ?_
   first | (refine RJ_splitD 24 rfl (fun hg2B hg2 => ?_) (fun hg2B hg2 => ?_)) | (refine RJ_splitN 24 rfl (fun hg2B hg2 => ?_) (fun hg2B hg2 => ?_)) | (refine RJ_split 24 rfl (fun hg2B => ?_) (fun hg2B => ?_))
   ·
    refine gP (GY_yes rfl rfl rfl hg2B) (P_move rfl) rfl <| gP (GY_yes rfl rfl rfl hg2B) (P_nilCheck rfl) rfl <| gP (GY_yes rfl rfl rfl hg2B) (P_fieldAddr rfl ⟨_, _, _, Try.runUnderlying65, rfl, rfl, Try.sizeOf63, rfl⟩) rfl <| gV (GY_yes rfl rfl rfl hg2B) (V_load rfl foc0 rfl Try.isAgg63) rfl <| gP (GY_yes rfl rfl rfl hg2B) (P_move rfl) rfl ?_
    first | (refine RJ_gy (GY_yes rfl rfl rfl hg2B) (OJ_V (V_index rfl rfl rfl (by omega) foc1 rdDv Try.runUnderlying63 Try.sizeOf115) rfl ?_)) | (refine RJ_gy (GY_yes rfl rfl rfl hg2B) (OJ_V (V_index rfl rfl (Int.toNat_of_nonneg (by omega)).symm (by omega) foc1 rdDv Try.runUnderlying63 Try.sizeOf115) rfl ?_))
    refine gP (GY_yes rfl rfl rfl hg2B) (P_fieldE rfl ⟨_, _, _, Try.runUnderlying115, rfl, rfl, Try.sizeOf9, rfl⟩) rfl <| gV (GY_yes rfl rfl rfl hg2B) (V_loadE rfl rfl (by omega) foc1 rdDv rfl rfl Try.isAgg9) rfl <| gP (GY_yes rfl rfl rfl hg2B) (P_move rfl) rfl <| gP (GY_yes rfl rfl rfl hg2B) (P_eqlStr rfl rfl Try.underlying9) rfl <| oP (P_pickT rfl hg2B rfl) rfl <| nT ?_
    first | (refine CJ_condD rfl (fun hg3 => ?_) (fun hg3 => ?_)) | (refine CJ_condN rfl (fun hg3 => ?_) (fun hg3 => ?_)) | (refine CJ_cond rfl (fun hg3 => ?_) (fun hg3 => ?_))
    ·
     refine sR <| oM rfl rfl <| oA rfl rfl <| nT <| CJ_ret <| QJ_block_ret <| QJ_then_ret <| QJ_round_ret <| QJ_block_ret <| QJ_then_ret <| QJ_end (res1 Try.results79 rfl) <| CSpec.close () ?_ ?_ (t0_ (t0_ eR))
     · exact iv (Md.findI_at (by omega) (by unfold Md.isN; rw [← hat]; simp_all) hno).symm
     · trivial
    ·
     refine CJ_skip <| QJ_block_normal <| QJ_then <| CJ_region <| oM rfl rfl <| oP (P_add rfl rfl (by omega)) rfl <| oA rfl rfl <| RJ_nil <| QJ_nextR (i + 1) (by first | omega | (simp only []; omega)) ?_ (by repeat (first | exact Kp.base | exact Kp.self | refine Kp.cons rfl ?_ | refine Kp.forget rfl ?_)) ?_ (t0_ (t0_ eR))
     ·
      refine ⟨by omega, fun j hj => ?_⟩
      rcases Nat.lt_or_ge j i with h | h
      · exact hno j h
      · obtain rfl : j = i := by omega
        unfold Md.isN; rw [← hat]; simp_all
     · exact ⟨rfl, True.intro⟩
   ·
    refine RJ_gn (GY_no rfl rfl rfl hg2B) rfl rfl <| RJ_gn (GY_no rfl rfl rfl hg2B) rfl rfl <| RJ_gn (GY_no rfl rfl rfl hg2B) rfl rfl <| RJ_gn (GY_no rfl rfl rfl hg2B) rfl rfl <| RJ_gn (GY_no rfl rfl rfl hg2B) rfl rfl <| RJ_gn (GY_no rfl rfl rfl hg2B) rfl rfl <| RJ_gn (GY_no rfl rfl rfl hg2B) rfl rfl <| RJ_gn (GY_no rfl rfl rfl hg2B) rfl rfl <| RJ_gn (GY_no rfl rfl rfl hg2B) rfl rfl <| RJ_gn (GY_no rfl rfl rfl hg2B) rfl rfl <| oP (P_pickF rfl hg2B rfl) rfl <| nT <| CJ_condF rfl rfl <| CJ_skip <| QJ_block_normal <| QJ_then <| CJ_region <| oM rfl rfl <| oP (P_add rfl rfl (by omega)) rfl <| oA rfl rfl <| RJ_nil <| QJ_nextR (i + 1) (by first | omega | (simp only []; omega)) ?_ (by repeat (first | exact Kp.base | exact Kp.self | refine Kp.cons rfl ?_ | refine Kp.forget rfl ?_)) ?_ (t0_ (t0_ eR))
    ·
     refine ⟨by omega, fun j hj => ?_⟩
     rcases Nat.lt_or_ge j i with h | h
     · exact hno j h
     · obtain rfl : j = i := by omega
       unfold Md.isN; rw [← hat]; simp_all
    · exact ⟨rfl, True.intro⟩
  ·
   refine CJ_exit <| QJ_then_exit <| QJ_round_exit <| QJ_block_here <| QJ_then <| sR <| oA rfl rfl <| nT <| CJ_ret <| QJ_end (res1 Try.results79 rfl) <| CSpec.close () ?_ ?_ (t0_ (t0_ eR))
   · exact iv (Md.findI_no fun j hj => hno j (by omega)).symm
   · trivial
theorem c_rfresh {W : World} {b : Nat} {c : RH} {m : Md} {n : ByteArray} :
    CSpec Try.prog W 71 [ptr b 0, .string n] [blk b 65 (rCells c m), RefR c m] (fun _ : Unit => .int .i64 (m.freshE n)) (fun _ => True) (fun _ F => blk b 65 (rCells c m) :: RefR c m :: F) := by
 refine CSpec.of_body Try.func71 rfl Try.ntmps71 rfl fun F => ?_
 show CJ _ _ _ _ _ _ (_ :: _ :: F)
 refine CJ_pure (RefR_wf foc1) fun hW => ?_
 have hO := hW.ok
 have hln := hW.big.len
 have hll := hW.len
 refine sR <| oA rfl rfl <| nT <| CJ_seq <| sR <| oM rfl rfl <| oP (P_lenS rfl Try.runUnderlying9) rfl <| oP (P_lss rfl rfl) rfl <| oM rfl rfl ?_
 first | (refine RJ_splitD 8 rfl (fun hg1B hg1 => ?_) (fun hg1B hg1 => ?_)) | (refine RJ_splitN 8 rfl (fun hg1B hg1 => ?_) (fun hg1B hg1 => ?_)) | (refine RJ_split 8 rfl (fun hg1B => ?_) (fun hg1B => ?_))
 ·
  refine RJ_gn (GY_no rfl rfl rfl hg1B) rfl rfl <| RJ_gn (GY_no rfl rfl rfl hg1B) rfl rfl <| RJ_gn (GY_no rfl rfl rfl hg1B) rfl rfl <| oP (P_pickT rfl hg1B rfl) rfl <| nT <| CJ_condT rfl rfl <| sR <| oA rfl rfl <| nT <| CJ_ret <| QJ_then_ret <| QJ_end (res1 Try.results71 rfl) <| CSpec.close () ?_ ?_ (t0_ (t0_ eR))
  · exact iv (by unfold Md.freshE; first | rw [if_pos (show n.size < 1 ∨ 40 < n.size by omega)] | rw [if_neg (show ¬ (n.size < 1 ∨ 40 < n.size) by omega), if_pos (Md.findI_some.1 (by assumption))] | rw [if_neg (show ¬ (n.size < 1 ∨ 40 < n.size) by omega), if_neg (fun h => absurd (Md.findI_some.2 h) (by assumption))])
  · trivial
 ·
  refine gP (GY_yes rfl rfl rfl hg1B) (P_move rfl) rfl <| gP (GY_yes rfl rfl rfl hg1B) (P_lenS rfl Try.runUnderlying9) rfl <| gP (GY_yes rfl rfl rfl hg1B) (P_gtr rfl rfl) rfl <| oP (P_pickF rfl hg1B rfl) rfl <| nT ?_
  first | (refine CJ_condD rfl (fun hg2 => ?_) (fun hg2 => ?_)) | (refine CJ_condN rfl (fun hg2 => ?_) (fun hg2 => ?_)) | (refine CJ_cond rfl (fun hg2 => ?_) (fun hg2 => ?_))
  ·
   refine sR <| oA rfl rfl <| nT <| CJ_ret <| QJ_then_ret <| QJ_end (res1 Try.results71 rfl) <| CSpec.close () ?_ ?_ (t0_ (t0_ eR))
   · exact iv (by unfold Md.freshE; first | rw [if_pos (show n.size < 1 ∨ 40 < n.size by omega)] | rw [if_neg (show ¬ (n.size < 1 ∨ 40 < n.size) by omega), if_pos (Md.findI_some.1 (by assumption))] | rw [if_neg (show ¬ (n.size < 1 ∨ 40 < n.size) by omega), if_neg (fun h => absurd (Md.findI_some.2 h) (by assumption))])
   · trivial
  ·
   refine kT <| CJ_seq <| sR <| oM rfl rfl <| oM rfl rfl <| oO <| O_call (c_rfind) rfl Try.call79 (Dels.cons del0 (Dels.cons del0 Dels.nil)) rfl fun _ hc1 => oP (P_geq rfl rfl) rfl <| nT ?_
   first | (refine CJ_condD rfl (fun hg3 => ?_) (fun hg3 => ?_)) | (refine CJ_condN rfl (fun hg3 => ?_) (fun hg3 => ?_)) | (refine CJ_cond rfl (fun hg3 => ?_) (fun hg3 => ?_))
   ·
    refine sR <| oA rfl rfl <| nT <| CJ_ret <| QJ_then_ret <| QJ_end (res1 Try.results71 rfl) <| CSpec.close () ?_ ?_ (t0_ (t0_ eR))
    · exact iv (by unfold Md.freshE; first | rw [if_pos (show n.size < 1 ∨ 40 < n.size by omega)] | rw [if_neg (show ¬ (n.size < 1 ∨ 40 < n.size) by omega), if_pos (Md.findI_some.1 (by assumption))] | rw [if_neg (show ¬ (n.size < 1 ∨ 40 < n.size) by omega), if_neg (fun h => absurd (Md.findI_some.2 h) (by assumption))])
    · trivial
   ·
    refine kT <| sR <| oA rfl rfl <| nT <| CJ_ret <| QJ_end (res1 Try.results71 rfl) <| CSpec.close () ?_ ?_ (t0_ (t0_ eR))
    · exact iv (by unfold Md.freshE; first | rw [if_pos (show n.size < 1 ∨ 40 < n.size by omega)] | rw [if_neg (show ¬ (n.size < 1 ∨ 40 < n.size) by omega), if_pos (Md.findI_some.1 (by assumption))] | rw [if_neg (show ¬ (n.size < 1 ∨ 40 < n.size) by omega), if_neg (fun h => absurd (Md.findI_some.2 h) (by assumption))])
    · trivial
theorem c_rNames {W : World} {b : Nat} {c : RH} {m : Md} :
    CSpec Try.prog W 72 [ptr b 0] [blk b 65 (rCells c m), RefR c m] (fun x : Sl3 => x.v) (fun _ => True) (fun x F => sl tyS x.v m.names :: blk b 65 (rCells c m) :: RefR c m :: F) := by
 refine CSpec.of_body Try.func72 rfl Try.ntmps72 rfl fun F => ?_
 show CJ _ _ _ _ _ _ (_ :: _ :: F)
 refine CJ_pure (RefR_wf foc1) fun hW => ?_
 have hO := hW.ok
 have hln := hW.big.len
 have hll := hW.len
 refine sR <| oA rfl rfl <| nT <| sR <| oA rfl rfl <| nT <| CJ_seq <| sR <| oA rfl rfl <| nT <| CJ_block <| CJ_ent (fun h hh => sl_nil (t := tyS) h hh) <| CJ_loopR (X := Nat × Sl3) [3, 4, 5, 6, 7, 8, 9, 10, 11, 12, 13, 14, 15, 16, 17, 18, 19, 20, 21, 22, 23, 24, 25, 26, 27, 28, 29, 30, 31, 32, 33] (fun ⟨i, rv⟩  => ([(4, .int .i64 (i : Nat)), (3, rv.v)] : Slots)) (fun ⟨i, rv⟩ R => sl tyS rv.v (m.nmT i) :: R) (fun ⟨i, rv⟩  => i ≤ m.dv.length) (fun ⟨i, rv⟩  => m.dv.length - i) ⟨0, ⟨none, 0, 0⟩⟩ ?_ ?_ (t0_ (t0_ (t0_ eR))) ?_
 · exact Nat.zero_le _
 · exact ⟨rfl, rfl, True.intro⟩
 ·
  rintro ⟨i, rv⟩ hi
  show CJ _ _ _ _ _ (([(4, .int .i64 (i : Nat)), (3, rv.v)] : Slots) ++ forget _ _) (sl tyS rv.v (m.nmT i) :: _)
  have hat := hW.at i
  have hnl := Md.nmT_len (m := m) i
  refine CJ_seq <| sR <| oM rfl rfl <| oM rfl rfl <| oP (P_nilCheck rfl) rfl <| oP (P_fieldAddr rfl ⟨_, _, _, Try.runUnderlying65, rfl, rfl, Try.sizeOf63, rfl⟩) rfl <| oV (V_load rfl foc1 rfl Try.isAgg63) rfl <| oV (V_len rfl foc2 rdDv Try.runUnderlying63) rfl <| oP (P_lss rfl rfl) rfl <| nT ?_
  first | (refine CJ_condD rfl (fun hg1 => ?_) (fun hg1 => ?_)) | (refine CJ_condN rfl (fun hg1 => ?_) (fun hg1 => ?_)) | (refine CJ_cond rfl (fun hg1 => ?_) (fun hg1 => ?_))
  ·
   refine kT <| CJ_seq <| CJ_block <| sR <| oM rfl rfl <| oP (P_nilCheck rfl) rfl <| oP (P_fieldAddr rfl ⟨_, _, _, Try.runUnderlying65, rfl, rfl, Try.sizeOf63, rfl⟩) rfl <| oV (V_load rfl foc1 rfl Try.isAgg63) rfl <| oM rfl rfl ?_
   first | (refine RJ_op rfl (OJ_V (V_index rfl rfl rfl (by omega) foc2 rdDv Try.runUnderlying63 Try.sizeOf115) rfl ?_)) | (refine RJ_op rfl (OJ_V (V_index rfl rfl (Int.toNat_of_nonneg (by omega)).symm (by omega) foc2 rdDv Try.runUnderlying63 Try.sizeOf115) rfl ?_))
   refine oP (P_fieldE rfl ⟨_, _, _, Try.runUnderlying115, rfl, rfl, Try.sizeOf4, rfl⟩) rfl <| oV (V_loadE rfl rfl (by omega) foc2 rdDv rfl rfl Try.isAgg4) rfl <| oP (P_not rfl) rfl <| nT ?_
   first | (refine CJ_condD rfl (fun hg2 => ?_) (fun hg2 => ?_)) | (refine CJ_condN rfl (fun hg2 => ?_) (fun hg2 => ?_)) | (refine CJ_cond rfl (fun hg2 => ?_) (fun hg2 => ?_))
   ·
    refine CJ_region <| oM rfl rfl <| oM rfl rfl <| oP (P_nilCheck rfl) rfl <| oP (P_fieldAddr rfl ⟨_, _, _, Try.runUnderlying65, rfl, rfl, Try.sizeOf63, rfl⟩) rfl <| oV (V_load rfl foc1 rfl Try.isAgg63) rfl <| oM rfl rfl ?_
    first | (refine RJ_op rfl (OJ_V (V_index rfl rfl rfl (by omega) foc2 rdDv Try.runUnderlying63 Try.sizeOf115) rfl ?_)) | (refine RJ_op rfl (OJ_V (V_index rfl rfl (Int.toNat_of_nonneg (by omega)).symm (by omega) foc2 rdDv Try.runUnderlying63 Try.sizeOf115) rfl ?_))
    refine oP (P_fieldE rfl ⟨_, _, _, Try.runUnderlying115, rfl, rfl, Try.sizeOf9, rfl⟩) rfl <| oV (V_loadE rfl rfl (by omega) foc2 rdDv rfl rfl Try.isAgg9) rfl <| oO <| O_buildSlice rfl (CRf0_bs_45_1_0 _) rfl fun b1 => oO <| O_append (t := tyS) (bytes := 16) rfl rfl del1 foc0 (Reads.lit (t := tyS) (ys := [(c.l.getD i tyDv.dflt).2.name]) rfl rfl (by decide) (by decide) rfl) Try.underlying45 ok_tyS (by simp only [List.length_append, List.length_cons, List.length_nil, maxLen] at *; omega) (by simp only [List.length_append, List.length_cons, List.length_nil, maxLen] at *; omega) rfl fun p2 c3 => oA rfl rfl <| RJ_nil <| QJ_block_normal <| QJ_then <| CJ_region <| oM rfl rfl <| oP (P_add rfl rfl (by omega)) rfl <| oA rfl rfl <| RJ_nil <| QJ_nextR ⟨i + 1, ⟨p2, _, c3⟩⟩ (by show m.dv.length - (i + 1) < m.dv.length - i; omega) ?_ (by repeat (first | exact Kp.base | exact Kp.self | refine Kp.cons rfl ?_ | refine Kp.forget rfl ?_)) ?_ (Ent.takeC del0 (congrArg (sl tyS _) (by rw [Md.nmT_step (by omega), ← hat, if_neg (by simp_all)])) (t1_ (t1_ (eD eR))))
    · omega
    · exact ⟨rfl, rfl, True.intro⟩
   ·
    refine CJ_skip <| QJ_block_normal <| QJ_then <| CJ_region <| oM rfl rfl <| oP (P_add rfl rfl (by omega)) rfl <| oA rfl rfl <| RJ_nil <| QJ_nextR ⟨i + 1, rv⟩ (by show m.dv.length - (i + 1) < m.dv.length - i; omega) ?_ (by repeat (first | exact Kp.base | exact Kp.self | refine Kp.cons rfl ?_ | refine Kp.forget rfl ?_)) ?_ (Ent.takeC del0 (congrArg (sl tyS _) (by rw [Md.nmT_step (by omega), ← hat, if_pos (by simp_all), List.append_nil])) (t0_ (t0_ eR)))
    · omega
    · exact ⟨rfl, rfl, True.intro⟩
  ·
   refine CJ_exit <| QJ_then_exit <| QJ_round_exit <| QJ_block_here <| QJ_then <| sR <| oM rfl rfl <| oA rfl rfl <| nT <| CJ_ret <| QJ_end (res1 Try.results72 rfl) ?_
   obtain rfl : i = m.dv.length := by omega
   refine CSpec.close rv ?_ ?_ (Ent.takeC del0 (congrArg (sl tyS _) (by unfold Md.nmT Md.names; rw [List.take_length])) (t0_ (t0_ eR)))
   · rfl
   · trivial
end Go.Proofs
set_option linter.unusedSimpArgs false
set_option maxRecDepth 20000
namespace Go.Proofs
open Go.VG
theorem CRf1_bs_63_1_0 (v0 : Bool) (v1 : Bool) (v2 : ByteArray) (v3 : (Option Addr)) (v4 : Nat) (v5 : Nat) (v6 : (Option Addr)) (v7 : Nat) (v8 : Nat) (v9 : (Option Addr)) (v10 : Nat) (v11 : Nat) (v12 : Bool) (v13 : Bool) (v14 : Bool) (v15 : (Option Addr)) (v16 : Nat) (v17 : Nat) : BuildsSlice Try.prog 63 1 [(0, .agg #[.bool v0, .bool v1, .string v2, .slice v3 v4 v5, .slice v6 v7 v8, .slice v9 v10 v11, .bool v12, .bool v13, .bool v14, .slice v15 v16 v17])] 115 [.bool v0, .bool v1, .string v2, .slice v3 v4 v5, .slice v6 v7 v8, .slice v9 v10 v11, .bool v12, .bool v13, .bool v14, .slice v15 v16 v17] := fun w => by kernel_rfl
theorem CRf1_bld_115_1_2_3 (v0 : Bool) (v1 : ByteArray) (v2 : (Option Addr)) (v3 : Nat) (v4 : Nat) : ∀ w, (Instr.build 115 (#[(1, .bool v0), (2, .string v1), (3, .slice v2 v3 v4)] : Array (Nat × Value))).run Try.prog w = .ok (.agg #[.bool false, .bool v0, .string v1, .slice v2 v3 v4, .slice none 0 0, .slice none 0 0, .bool false, .bool false, .bool false, .slice none 0 0]) w := fun w => by kernel_rfl
section
variable {m : Md} {d : Dv} {n : ByteArray} {z : Nat}
theorem addS_no (h : m.addE d.name ≠ 0) : m.addS d = m := if_neg h
theorem addS_ok (h : m.addE d.name = 0) : m.addS d = m.push d := if_pos h
theorem push_bas (hO : MdOk m) (hB : MdBig m) (hl : m.dv.length + 1 ≤ 10000) (hz : z ≤ 65536) (h : m.addE n = 0) : MdOk (m.push (bNew n z)) ∧ MdBig (m.push (bNew n z)) := by
  obtain ⟨_, hf, hn, _⟩ := cr_ok h
  exact ⟨hO.push (d := bNew n z) rfl hn hf rfl rfl rfl rfl rfl rfl (by simp; exact hz), hB.push (d := bNew n z) hl rfl⟩
theorem RowC_bas {v : Sl3} {R : List HP} : Ent (sl tyU v.v (List.replicate z 0) :: R) (RowC (⟨v, s3z, s3z, s3z⟩, bNew n z) :: R) := fun g hh => by
  obtain ⟨a1, a2, d1, e1, p1, q1⟩ := hh
  exact stars_star.2 ⟨a1, a2, d1, e1, p1, sl_nil (t := tyapi_Target) _ (sl_nil (t := tyapi_Target) _ (sl_nil (t := tyWt) _ q1))⟩
end
theorem c_radd {W : World} {b : Nat} {c : RH} {m : Md} {h : RD} {d : Dv} (hok : m.addE d.name = 0 → MdOk (m.push d) ∧ MdBig (m.push d)) :
    CSpec Try.prog W 53 [ptr b 0, .agg #[.bool d.gone, .bool d.isB, .string d.name, h.ba.v, h.lv.v, h.nw.v, .bool d.hl, .bool d.hn, .bool d.susp, h.wt.v]] [RowC (h, d), blk b 65 (rCells c m), RefR c m] (fun _ : RH => .int .i64 (m.addE d.name)) (fun _ => True) (fun c2 F => blk b 65 (rCells c2 (m.addS d)) :: RefR c2 (m.addS d) :: F) := by
 refine CSpec.of_body Try.func53 rfl Try.ntmps53 rfl fun F => ?_
 show CJ _ _ _ _ _ _ (_ :: _ :: _ :: F)
 refine CJ_pure (RefR_wf foc2) fun hW => ?_
 have hO := hW.ok
 have hln := hW.big.len
 have hll := hW.len
 have hns := Md.names_len (m := m)
 refine sR <| oO <| O_box rfl rfl rfl fun b1 => oA rfl rfl <| nT <| CJ_seq <| sR <| oM rfl rfl <| oP (P_fieldAddr rfl ⟨_, _, _, Try.runUnderlying115, rfl, rfl, Try.sizeOf9, rfl⟩) rfl <| oV (V_load rfl foc0 rfl Try.isAgg9) rfl <| oO <| O_call (c_rfresh) rfl Try.call71 (Dels.cons del2 (Dels.cons del2 Dels.nil)) rfl fun _ hc2 => oA rfl rfl <| nT <| sR <| oM rfl rfl <| oP (P_neq rfl rfl) rfl <| nT ?_
 first | (refine CJ_condD rfl (fun hg1 => ?_) (fun hg1 => ?_)) | (refine CJ_condN rfl (fun hg1 => ?_) (fun hg1 => ?_)) | (refine CJ_cond rfl (fun hg1 => ?_) (fun hg1 => ?_))
 ·
  refine sR <| oM rfl rfl <| oA rfl rfl <| nT <| CJ_ret <| QJ_then_ret <| QJ_end (res1 Try.results53 rfl) ?_
  have e1 : m.addE d.name = m.freshE d.name := by unfold Md.addE; first | rw [if_pos (by assumption)] | rw [if_neg (by assumption), if_pos (by omega)]
  have e2 := addS_no (m := m) (d := d) (by rw [e1]; assumption)
  rw [e2]
  refine CSpec.close c ?_ ?_ (t0_ (t0_ (eD (eD eR))))
  · exact iv e1.symm
  · trivial
 ·
  refine kT <| CJ_seq <| sR <| oM rfl rfl <| oO <| O_call (c_rNames) rfl Try.call72 (Dels.cons del0 (Dels.cons del0 Dels.nil)) rfl fun _ hc4 => oV (V_len rfl foc0 (Reads.sl _ _ _) Try.runUnderlying45) rfl <| oP (P_geq rfl rfl) rfl <| nT ?_
  first | (refine CJ_condD rfl (fun hg2 => ?_) (fun hg2 => ?_)) | (refine CJ_condN rfl (fun hg2 => ?_) (fun hg2 => ?_)) | (refine CJ_cond rfl (fun hg2 => ?_) (fun hg2 => ?_))
  ·
   refine sR <| oA rfl rfl <| nT <| CJ_ret <| QJ_then_ret <| QJ_end (res1 Try.results53 rfl) ?_
   have e1 : m.addE d.name = 4 := by unfold Md.addE; first | rw [if_pos (by assumption)] | rw [if_neg (by assumption), if_pos (by omega)]
   have e2 := addS_no (m := m) (d := d) (by rw [e1]; decide)
   rw [e2]
   refine CSpec.close c ?_ ?_ (t1_ (t1_ (eD (eD (eD eR)))))
   · exact iv e1.symm
   · trivial
  ·
   refine kT <| CJ_seq <| CJ_ent (Ent.trans (t2_ eR) RefR_flat) ?_
   have e0 : m.addE d.name = 0 := by unfold Md.addE; rw [if_neg (by assumption), if_neg (by omega)]
   obtain ⟨hok1, hok2⟩ := hok e0
   refine AJ_startH 1152 (by kernel_rfl) rfl <| aN 0 1 rfl rfl (P_move rfl) rfl <| aN 1 3 rfl rfl (P_move rfl) rfl <| aN 2 7 rfl rfl (P_nilCheck rfl) rfl <| aN 3 15 rfl rfl (P_fieldAddr rfl ⟨_, _, _, Try.runUnderlying65, rfl, rfl, Try.sizeOf63, rfl⟩) rfl <| aV 4 31 rfl rfl (GY_none rfl) (t0_ (t0_ (t0_ (t0_ (t0_ (t0_ (t0_ eR))))))) (V_load rfl foc4 rfl Try.isAgg63) rfl <| aV 5 63 rfl rfl (GY_none rfl) (t0_ (t0_ (t0_ (t0_ (t0_ (t0_ (t0_ eR))))))) (V_loadN rfl foc5 Try.isAgg115 Try.sizeOf115 rfl rfl) rfl <| AJ_op 6 127 rfl (by kernel_rfl) rfl (GY_none rfl) <| O_buildSlice rfl (CRf1_bs_63_1_0 _ _ _ _ _ _ _ _ _ _ _ _ _ _ _ _ _ _) rfl fun b5 => ⟨fun _ => (t1_ (t1_ (t1_ (t1_ (t1_ (t1_ (t1_ (eD eR)))))))), ?_⟩
   refine AJ_op 7 255 rfl (by kernel_rfl) rfl (GY_none rfl) <| O_append (t := tyDv) (bytes := 128) rfl rfl del1 foc0 (Reads.lit (t := tyDv) (ys := [(h, d)]) rfl rfl (by decide) (by decide) rfl) Try.underlying63 ok_tyDv (by simp only [List.length_append, List.length_map, List.length_cons, List.length_nil, maxLen] at *; omega) (by simp only [List.length_append, List.length_map, List.length_cons, List.length_nil, maxLen] at *; omega) rfl fun p6 c7 => ⟨fun h => absurd h (by decide), ?_⟩
   refine aN 8 511 rfl rfl (P_nilCheck rfl) rfl <| aN 9 1023 rfl rfl (P_fieldAddr rfl ⟨_, _, _, Try.runUnderlying65, rfl, rfl, Try.sizeOf63, rfl⟩) rfl <| AJ_op 10 2047 rfl (by kernel_rfl) rfl (GY_none rfl) <| O_store rfl rfl foc5 rfl rfl Try.sizeOf63 <| ⟨fun h => absurd h (by decide), ?_⟩
   refine aD <| sR <| oA rfl rfl <| nT <| CJ_ret <| QJ_end (res1 Try.results53 rfl) ?_
   rw [addS_ok e0]
   refine CSpec.close { c with dv := ⟨p6, _, c7⟩, l := c.l ++ [(h, d)] } ?_ ?_ (Ent.trans (Ent.trans (t7_ (t3_ (t0_ (t1_ eR)))) (RefR_push (dv := ⟨p6, _, c7⟩) hW hok1 hok2)) (t3_ (t0_ (eD (eD (eD eR))))))
   · exact iv e0.symm
   · trivial
theorem c_rBase {W : World} {b z : Nat} {c : RH} {m : Md} {n : ByteArray} (hlen : m.dv.length + 1 ≤ 10000) (hz : z ≤ 65536) :
    CSpec Try.prog W 24 [ptr b 0, .string n, .int .i64 (z : Int)] [blk b 65 (rCells c m), RefR c m] (fun _ : RH => .int .i64 (m.addE n)) (fun _ => True) (fun c2 F => blk b 65 (rCells c2 (m.baS n z)) :: RefR c2 (m.baS n z) :: F) := by
 refine CSpec.of_body Try.func24 rfl Try.ntmps24 rfl fun F => ?_
 show CJ _ _ _ _ _ _ (_ :: _ :: F)
 refine CJ_pure (RefR_wf foc1) fun hW => ?_
 have hO := hW.ok
 have hln := hW.big.len
 have hll := hW.len
 have hns := Md.names_len (m := m)
 refine sR <| oA rfl rfl <| nT <| sR <| oM rfl rfl <| oM rfl rfl <| oM rfl rfl <| oO <| O_make (t := tyU) (m := z) (x0 := (0 : UInt64)) (z := _) (bytes := _) rfl rfl rfl rfl Try.underlying50 ⟨Try.t35, by kernel_rfl, rfl, rfl, rfl⟩ rfl (by omega) (by decide) rfl fun b1 => oP (P_build rfl (CRf1_bld_115_1_2_3 _ _ _ _ _)) rfl <| RJ_ent (Ent.trans (t0_ eR) (RowC_bas (n := n) (z := z) (v := ⟨some ⟨b1, 0, none⟩, z, z⟩))) <| oO <| O_call ((c_radd (h := ⟨⟨some ⟨b1, 0, none⟩, z, z⟩, s3z, s3z, s3z⟩) (d := bNew n z) (push_bas hO hW.big hlen hz))) rfl Try.call53 (Dels.cons del0 (Dels.cons del0 (Dels.cons del0 Dels.nil))) rfl fun c9 hc2 => oA rfl rfl <| nT <| CJ_ret <| QJ_end (res1 Try.results24 rfl) <| CSpec.close c9 ?_ ?_ (t0_ (t0_ eR))
 · rfl
 · trivial
end Go.Proofs
set_option linter.unusedSimpArgs false
set_option maxRecDepth 20000
namespace Go.Proofs
open Go.VG
theorem CBeg0_bld_143_0_1_2_3 (v0 : (Option Addr)) (v1 : Int) (v2 : Int) (v3 : Int) : ∀ w, (Instr.build 143 (#[(0, .pointer v0), (1, .int .i64 v1), (2, .int .i64 v2), (3, .int .i64 v3)] : Array (Nat × Value))).run Try.prog w = .ok (.agg #[.pointer v0, .int .i64 v1, .int .i64 v2, .int .i64 v3]) w := fun w => by kernel_rfl
theorem CBeg0_bs_66_1_0 (v0 : TypeId) (v1 : Value) : BuildsSlice Try.prog 66 1 [(0, .iface v0 v1)] 70 [.iface v0 v1] := fun w => by kernel_rfl
abbrev SpC (a z0 z1 : Nat) (x : Nat × Nat) : HP := blkR x.1 143 [ptr a 0, .int .i64 (x.2 : Int), .int .i64 0, .int .i64 ((if x.2 = 0 then z0 else z1 : Nat) : Int)]
abbrev spI (x : Nat × Nat) : IfH := ⟨141, ptr x.1 0⟩
theorem two_of {ps : List (Nat × Nat)} (hl : ps.length = 2) (h : ∀ j, j < 2 → (ps.getD j (0, 0)).2 = j) : ∃ p q, ps = [(p, 0), (q, 1)] := by
  match ps, hl with
  | [(p, x), (q, y)], _ =>
    have h0 : x = 0 := h 0 (by decide)
    have h1 : y = 1 := h 1 (by decide)
    subst h0; subst h1; exact ⟨p, q, rfl⟩
theorem own_two {f : Nat × Nat → HP} {x y : Nat × Nat} {R : List HP} : Ent (Go.VG.Own f [x, y] :: R) (f x :: f y :: R) := fun _ hh => stars_star.1 hh
theorem own_psh {f : Nat × Nat → HP} {x : Nat × Nat} {l : List (Nat × Nat)} {R : List HP} : Ent (f x :: Go.VG.Own f l :: R) (Go.VG.Own f (l ++ [x]) :: R) := Own_push f x
theorem ps_step {ps : List (Nat × Nat)} {i p : Nat} (hl : ps.length = i) (h : ∀ j, j < i → (ps.getD j (0, 0)).2 = j) : ∀ j, j < i + 1 → ((ps ++ [(p, i)]).getD j (0, 0)).2 = j := fun j hj => by
  rcases Nat.lt_or_ge j i with h1 | h1
  · have := h j h1
    simpa [List.getD, List.getElem?_append_left (show j < ps.length by omega)] using this
  · obtain rfl : j = i := by omega
    subst hl; simp [List.getD]
theorem c_Span {W : World} {a d z : Nat} {s : ArrS} (hz : 1 ≤ z ∧ z ≤ 65536) (hs : sizeI s (d : Int) = (z : Int)) (_hW : s.writes ≤ 1000000000) :
    CSpec Try.prog W 51 [ptr a 0, .int .i64 (d : Int), .int .i64 0, .int .i64 (z : Int)] [Arr a s] (fun p : Nat => .tuple #[.iface 141 (ptr p 0), .int .i64 0]) (fun _ => True) (fun p F => blkR p 143 [ptr a 0, .int .i64 (d : Int), .int .i64 0, .int .i64 (z : Int)] :: Arr a s :: F) := by
 refine CSpec.of_body Try.func51 rfl Try.ntmps51 rfl fun F => ?_
 show CJ _ _ _ _ _ _ (_ :: F)
 refine sR <| oA rfl rfl <| oA rfl rfl <| nT <| CJ_seq <| sR <| oM rfl rfl <| oP (P_lss rfl rfl) rfl <| oM rfl rfl ?_
 first | (refine RJ_splitD 12 rfl (fun hg1B hg1 => ?_) (fun hg1B hg1 => ?_)) | (refine RJ_splitN 12 rfl (fun hg1B hg1 => ?_) (fun hg1B hg1 => ?_)) | (refine RJ_split 12 rfl (fun hg1B => ?_) (fun hg1B => ?_))
 ·
  refine RJ_gn (GY_no rfl rfl rfl hg1B) rfl rfl <| RJ_gn (GY_no rfl rfl rfl hg1B) rfl rfl <| RJ_gn (GY_no rfl rfl rfl hg1B) rfl rfl <| RJ_gn (GY_no rfl rfl rfl hg1B) rfl rfl <| RJ_gn (GY_no rfl rfl rfl hg1B) rfl rfl <| RJ_gn (GY_no rfl rfl rfl hg1B) rfl rfl <| RJ_gn (GY_no rfl rfl rfl hg1B) rfl rfl <| oP (P_pickT rfl hg1B rfl) rfl <| nT <| CJ_condT rfl rfl <| sR <| oA rfl rfl <| oA rfl rfl <| nT <| CJ_ret <| QJ_then_ret ?_
  exfalso; simp_all; try omega
 ·
  refine gP (GY_yes rfl rfl rfl hg1B) (P_move rfl) rfl <| gP (GY_yes rfl rfl rfl hg1B) (P_move rfl) rfl <| RJ_gy (GY_yes rfl rfl rfl hg1B) <| O_call (c_SizeD) rfl Try.call52 (Dels.cons del0 Dels.nil) rfl fun _ hc1 => gP (GY_yes rfl rfl rfl hg1B) (P_move rfl) rfl <| gP (GY_yes rfl rfl rfl hg1B) (P_move rfl) rfl <| RJ_gy (GY_yes rfl rfl rfl hg1B) <| O_call (L_block_inside (inside_t (by omega) (by omega))) rfl Try.call70 Dels.nil rfl fun _ hc2 => gP (GY_yes rfl rfl rfl hg1B) (P_not rfl) rfl <| oP (P_pickF rfl hg1B rfl) rfl <| nT ?_
  first | (refine CJ_condF rfl (decide_eq_false (by simp)) ?_) | (refine CJ_condF rfl (by simp) ?_)
  refine kT <| sR <| oM rfl rfl <| oM rfl rfl <| oM rfl rfl <| oM rfl rfl <| oP (P_build rfl (CBeg0_bld_143_0_1_2_3 _ _ _ _)) rfl <| oO <| O_box rfl rfl rfl fun b3 => oP (P_makeIface rfl Try.runUnderlying141 (by intro ms h; cases h)) rfl <| oA rfl rfl <| oA rfl rfl <| nT <| CJ_ret <| QJ_share del0 <| QJ_end (res2 Try.results51 rfl rfl) <| CSpec.close b3 ?_ ?_ (t0_ (t0_ eR))
  · rfl
  · trivial
theorem c_Spans2 {W : World} {a z0 z1 : Nat} {s : ArrS} (h0 : 1 ≤ z0 ∧ z0 ≤ 65536) (h1 : 1 ≤ z1 ∧ z1 ≤ 65536) (hl : s.drv.length = 2) (hs0 : sizeI s 0 = (z0 : Int)) (hs1 : sizeI s 1 = (z1 : Int)) (hW : s.writes ≤ 1000000000) :
    CSpec Try.prog W 22 [ptr a 0] [Arr a s] (fun x : Sl3 × Nat × Nat => x.1.v) (fun _ => True) (fun x F => sl tyDev x.1.v [spI (x.2.1, 0), spI (x.2.2, 1)] :: SpC a z0 z1 (x.2.1, 0) :: SpC a z0 z1 (x.2.2, 1) :: Arr a s :: F) := by
 refine CSpec.of_body Try.func22 rfl Try.ntmps22 rfl fun F => ?_
 show CJ _ _ _ _ _ _ (_ :: F)
 refine sR <| oA rfl rfl <| nT <| sR <| oA rfl rfl <| nT <| CJ_seq <| sR <| oA rfl rfl <| nT <| CJ_block <| CJ_ent (fun h hh => sl_nil (t := tyDev) h hh) <| CJ_ent (Own_nil (SpC a z0 z1)) <| CJ_loopR (X := Nat × Sl3 × List (Nat × Nat)) [2, 3, 4, 5, 6, 7, 8, 9, 10, 11, 12, 13, 14, 15, 16, 17, 18, 19, 20, 21, 22, 23, 24, 25, 26, 27, 28, 29, 30, 31] (fun ⟨i, rv, ps⟩  => ([(4, .int .i64 (i : Nat)), (3, rv.v)] : Slots)) (fun ⟨i, rv, ps⟩ R => sl tyDev rv.v (ps.map spI) :: Go.VG.Own (SpC a z0 z1) ps :: R) (fun ⟨i, rv, ps⟩  => i ≤ 2 ∧ ps.length = i ∧ ∀ j, j < i → (ps.getD j (0, 0)).2 = j) (fun ⟨i, rv, ps⟩  => 2 - i) ⟨0, ⟨none, 0, 0⟩, []⟩ ?_ ?_ (t1_ (t0_ (t0_ eR))) ?_
 · exact ⟨by omega, rfl, fun j h => by omega⟩
 · exact ⟨rfl, rfl, True.intro⟩
 ·
  rintro ⟨i, rv, ps⟩ ⟨hi, hpl, hps⟩
  show CJ _ _ _ _ _ (([(4, .int .i64 (i : Nat)), (3, rv.v)] : Slots) ++ forget _ _) (sl tyDev rv.v (ps.map spI) :: Go.VG.Own (SpC a z0 z1) ps :: _)
  have hpm : (ps.map spI).length = ps.length := by simp
  refine CJ_seq <| sR <| oM rfl rfl <| oM rfl rfl <| oO <| O_call (c_CountD) rfl Try.call50 (Dels.cons del2 Dels.nil) rfl fun _ hc1 => oP (P_lss rfl rfl) rfl <| nT ?_
  first | (refine CJ_condD rfl (fun hg1 => ?_) (fun hg1 => ?_)) | (refine CJ_condN rfl (fun hg1 => ?_) (fun hg1 => ?_)) | (refine CJ_cond rfl (fun hg1 => ?_) (fun hg1 => ?_))
  ·
   refine kT <| CJ_seq <| CJ_block <| CJ_seq ?_
   have hsz : sizeI s ((i : Nat) : Int) = ((if i = 0 then z0 else z1 : Nat) : Int) := by
     rcases (by omega : i = 0 ∨ i = 1) with rfl | rfl
     · rw [if_pos rfl]; exact hs0
     · rw [if_neg (by decide)]; exact hs1
   refine CJ_region <| oM rfl rfl <| oM rfl rfl <| oM rfl rfl <| oM rfl rfl <| oO <| O_call (c_SizeD) rfl Try.call52 (Dels.cons del0 Dels.nil) rfl fun _ hc2 => ?_
   rw [hsz]
   refine oO <| O_call ((c_Span (d := i) (z := if i = 0 then z0 else z1) (by split <;> assumption) hsz hW)) rfl Try.call51 (Dels.cons del0 Dels.nil) rfl fun p9 hc4 => oM rfl rfl <| oP (P_extract rfl rfl) rfl <| oP (P_extract rfl rfl) rfl <| oA rfl rfl <| oA rfl rfl <| nT <| CJ_seq <| sR <| oM rfl rfl <| oP (P_neq rfl rfl) rfl <| oM rfl rfl ?_
   first | (refine RJ_splitD 24 rfl (fun hg2B hg2 => ?_) (fun hg2B hg2 => ?_)) | (refine RJ_splitN 24 rfl (fun hg2B hg2 => ?_) (fun hg2B hg2 => ?_)) | (refine RJ_split 24 rfl (fun hg2B => ?_) (fun hg2B => ?_))
   ·
    refine RJ_gn (GY_no rfl rfl rfl hg2B) rfl rfl <| RJ_gn (GY_no rfl rfl rfl hg2B) rfl rfl <| oP (P_pickT rfl hg2B rfl) rfl <| nT <| CJ_condT rfl rfl <| sR <| oA rfl rfl <| nT <| CJ_ret <| QJ_then_ret <| QJ_block_ret <| QJ_then_ret <| QJ_round_ret <| QJ_block_ret <| QJ_then_ret ?_
    exfalso; simp_all
   ·
    refine gP (GY_yes rfl rfl rfl hg2B) (P_move rfl) rfl <| gP (GY_yes rfl rfl rfl hg2B) (P_eqlIfN rfl rfl Try.underlying70) rfl <| oP (P_pickF rfl hg2B rfl) rfl <| nT <| CJ_condF rfl rfl <| kT <| CJ_region <| oM rfl rfl <| oM rfl rfl <| oO <| O_buildSlice rfl (CBeg0_bs_66_1_0 _ _) rfl fun b5 => oO <| O_append (t := tyDev) (bytes := 16) rfl rfl del3 foc0 (Reads.lit (t := tyDev) (ys := [spI (p9, i)]) rfl rfl (by decide) (by decide) rfl) Try.underlying66 ok_tyDev (by simp only [List.length_append, List.length_cons, List.length_nil, maxLen] at *; omega) (by simp only [List.length_append, List.length_cons, List.length_nil, maxLen] at *; omega) rfl fun p6 c7 => oA rfl rfl <| RJ_nil <| QJ_block_normal <| QJ_then <| CJ_region <| oM rfl rfl <| oP (P_add rfl rfl (by omega)) rfl <| oA rfl rfl <| RJ_nil <| QJ_nextR ⟨i + 1, ⟨p6, _, c7⟩, ps ++ [(p9, i)]⟩ (by show 2 - (i + 1) < 2 - i; omega) ?_ (by repeat (first | exact Kp.base | exact Kp.self | refine Kp.cons rfl ?_ | refine Kp.forget rfl ?_)) ?_ (Ent.trans (Ent.trans (t2_ (t3_ eR)) (own_psh (f := SpC a z0 z1) (x := (p9, i)))) (Ent.takeC del1 (congrArg (sl tyDev _) (by rw [List.map_append]; rfl)) (t0_ (t1_ (eD eR)))))
    · exact ⟨by omega, by simp [hpl], ps_step hpl hps⟩
    · exact ⟨rfl, rfl, True.intro⟩
  ·
   refine CJ_exit <| QJ_then_exit <| QJ_round_exit <| QJ_block_here <| QJ_then <| sR <| oM rfl rfl <| oA rfl rfl <| nT <| CJ_ret ?_
   obtain rfl : i = 2 := by omega
   obtain ⟨p7, q7, rfl⟩ := two_of hpl hps
   refine QJ_end (res1 Try.results22 rfl) <| CSpec.close ⟨rv, p7, q7⟩ ?_ ?_ (Ent.trans (Ent.trans (t2_ eR) own_two) (t3_ (t0_ (t0_ (t0_ eR)))))
   · rfl
   · trivial
end Go.Proofs
set_option linter.unusedSimpArgs false
set_option maxRecDepth 20000
namespace Go.Proofs
open Go.VG
theorem CBeg1_bs_61_2_0_1 (v0 : (Option Addr)) (v1 : Nat) (v2 : Nat) (v3 : (Option Addr)) (v4 : Nat) (v5 : Nat) : BuildsSlice Try.prog 61 2 [(0, .slice v0 v1 v2), (1, .slice v3 v4 v5)] 50 [.slice v0 v1 v2, .slice v3 v4 v5] := fun w => by kernel_rfl
theorem CBeg1_bld_65_ : ∀ w, (Instr.build 65 (#[] : Array (Nat × Value))).run Try.prog w = .ok (.agg #[.slice none 0 0, .int .i64 0, .slice none 0 0]) w := fun w => by kernel_rfl
abbrev nd0 : ByteArray := ByteArray.mk #[100, 105, 115, 107, 48]
abbrev nd1 : ByteArray := ByteArray.mk #[100, 105, 115, 107, 49]
abbrev Mb1 : Md := Md.z.push (bNew nd0 12)
abbrev Mb2 : Md := Mb1.push (bNew nd1 8)
theorem addE0 : Md.z.addE nd0 = 0 := by rfl
theorem addE1 : Mb1.addE nd1 = 0 := by kernel_rfl
abbrev Sb : ArrS := mkS [List.replicate 12 0, List.replicate 8 0]
theorem Mb2_bd : MdBd Mb2 := ⟨Nat.le_refl _, Nat.le_refl _, Nat.zero_le _, Nat.zero_le _, by decide, by decide⟩
theorem rows2 {v0 v1 : Sl3} {a b : List UInt64} : RowsR (star [sl tyU v0.v a, sl tyU v1.v b]) [a, b] [v0, v1] := ⟨rfl, fun i hi => by
  match i, hi with
  | 0, _ => exact Reads_ent (R := [sl tyU v1.v b]) (fun _ hh => stars_star.1 hh)
  | 1, _ => exact Reads_ent (R := [sl tyU v0.v a]) (Ent.trans (fun _ hh => stars_star.1 hh) (Ent.take del1 Ent.refl))⟩
theorem c_Loaded2 {W : World} {vl v0 v1 : Sl3} : CSpec Try.prog W 20 [vl.v] [sl tyRow vl.v [v0, v1], star [sl tyU v0.v (List.replicate 12 0), sl tyU v1.v (List.replicate 8 0)]] (fun x : Nat => ptr x 0) (fun _ => True) (fun x F => sl tyRow vl.v [v0, v1] :: star [sl tyU v0.v (List.replicate 12 0), sl tyU v1.v (List.replicate 8 0)] :: Arr x Sb :: F) :=
  L_volumegroupmake_Loaded (Reads.sl _ _ _) rows2 (loaded_eq (by decide) (by intro im h; simp only [List.mem_cons, List.not_mem_nil, or_false] at h; rcases h with rfl | rfl <;> simp))
theorem RefR_z {R : List HP} : Ent R (RefR ⟨s3z, s3z, []⟩ Md.z :: R) := fun g hh => RefR_close (c := ⟨s3z, s3z, []⟩) ⟨rfl, Md.z_ok, Md.z_big⟩ g (sl_nil (t := tyDv) _ (sl_nil (t := tyapi_Answer) _ (Own_nil RowC _ hh)))
theorem RefP_close {b : Nat} {m : Md} {c : RH} {R : List HP} (h : MdBd m) : Ent (blk b 65 (rCells c m) :: RefR c m :: R) (RefP b m :: R) :=
  fun _ hh => stars_ex.2 ⟨c, stars_star.2 (stars_pur.2 ⟨h, hh⟩)⟩
theorem c_begun {W : World}  :
    CSpec Try.prog W 7 [] [] (fun x : Nat × Nat => .tuple #[ptr x.1 0, ptr x.2 0]) (fun _ => True) (fun x F => MapP x.1 Mb2 :: RefP x.2 Mb2 :: F) := by
 refine CSpec.of_body Try.func7 rfl Try.ntmps7 rfl fun F => ?_
 show CJ _ _ _ _ _ _ (F)
 refine sR <| oA rfl rfl <| oA rfl rfl <| nT <| CJ_seq <| AJ_startH 15 (by kernel_rfl) rfl <| AJ_two 0 1 1 2 rfl rfl (by kernel_rfl) rfl rfl (GY_none rfl) (GY_none rfl) (O_make (t := tyU) (m := 12) (x0 := (0 : UInt64)) (z := _) (bytes := _) rfl rfl rfl rfl Try.underlying50 ⟨Try.t35, by kernel_rfl, rfl, rfl, rfl⟩ rfl (by decide) (by decide) rfl (fun b1 => ?_)) (O_make (t := tyU) (m := 8) (x0 := (0 : UInt64)) (z := _) (bytes := _) rfl rfl rfl rfl Try.underlying50 ⟨Try.t35, by kernel_rfl, rfl, rfl, rfl⟩ rfl (by decide) (by decide) rfl (fun b2 => ?_))
 ·
  refine ⟨fun h => absurd h (by decide), ?_⟩
  refine AJ_op 1 3 rfl (by kernel_rfl) rfl (GY_none rfl) <| O_make (t := tyU) (m := 8) (x0 := (0 : UInt64)) (z := _) (bytes := _) rfl rfl rfl rfl Try.underlying50 ⟨Try.t35, by kernel_rfl, rfl, rfl, rfl⟩ rfl (by decide) (by decide) rfl fun b3 => ⟨fun h => absurd h (by decide), ?_⟩
  refine AJ_op 2 7 rfl (by kernel_rfl) rfl (GY_none rfl) <| O_buildSlice rfl (CBeg1_bs_61_2_0_1 _ _ _ _ _ _) rfl fun b4 => ⟨fun h => absurd h (by decide), ?_⟩
  refine AJ_ent (Ent.trans (t0_ eR) (sl_of_lit (t := tyRow) (m := 2) [⟨some ⟨b1, 0, none⟩, 12, 12⟩, ⟨some ⟨b3, 0, none⟩, 8, 8⟩] rfl rfl rfl (by decide))) <| AJ_ent (Ent.trans (t2_ (t1_ eR)) (fun h hh => (stars_star.2 hh : stars (star [sl tyU (Sl3.v ⟨some ⟨b1, 0, none⟩, 12, 12⟩) (List.replicate 12 0), sl tyU (Sl3.v ⟨some ⟨b3, 0, none⟩, 8, 8⟩) (List.replicate 8 0)] :: _) h))) <| AJ_op 3 15 rfl (by kernel_rfl) rfl (GY_none rfl) <| O_call ((c_Loaded2 (vl := ⟨some ⟨b4, 0, none⟩, 2, 2⟩) (v0 := ⟨some ⟨b1, 0, none⟩, 12, 12⟩) (v1 := ⟨some ⟨b3, 0, none⟩, 8, 8⟩))) rfl Try.call20 (Dels.cons del1 (Dels.cons del0 Dels.nil)) rfl fun a hc6 => ⟨fun h => absurd h (by decide), ?_⟩
  refine aN 4 31 rfl rfl (P_assign rfl) rfl <| aD <| sR <| oO <| O_call (c_NewM) rfl Try.call21 Dels.nil rfl fun nw hc10 => oP (P_build rfl (CBeg1_bld_65_)) rfl <| oO <| O_box rfl rfl rfl fun b11 => oA rfl rfl <| oA rfl rfl <| nT <| CJ_seq <| sR <| oM rfl rfl <| oP (P_eqlPN rfl rfl Try.underlying59) rfl <| oM rfl rfl <| gP (GY_yes rfl rfl rfl rfl) (P_move rfl) rfl <| gP (GY_yes rfl rfl rfl rfl) (P_eqlPN rfl rfl Try.underlying25) rfl <| oP (P_pickF rfl rfl rfl) rfl <| nT <| CJ_condF rfl rfl <| kT <| sR <| oM rfl rfl <| oO <| O_call ((c_Spans2 (z0 := 12) (z1 := 8) (by decide) (by decide) (by simp) (by rfl) (by rfl) (by decide))) rfl Try.call22 (Dels.cons del6 Dels.nil) rfl fun sp hc15 => oA rfl rfl <| nT <| CJ_seq <| CJ_seq <| CJ_ent (Ent.trans (t6_ (t6_ (t3_ eR))) (MapR_z good_mkS rfl)) <| CJ_ent RefR_z <| CJ_ent (t0_ (t0_ (t0_ (Ent.takeC del0 (show _ = blkR sp.2.1 143 [ptr a 0, .int .i64 ((0 : Nat) : Int), .int .i64 0, .int .i64 ((12 : Nat) : Int)] from rfl) (Ent.takeC del0 (show _ = blkR sp.2.2 143 [ptr a 0, .int .i64 ((1 : Nat) : Int), .int .i64 0, .int .i64 ((8 : Nat) : Int)] from rfl) (Ent.takeC del0 (show _ = blk b11 65 (rCells ⟨s3z, s3z, []⟩ Md.z) from rfl) (Ent.takeC del0 (show _ = blk nw.1 79 (mCells ⟨nw.2.1, nw.2.2, a, s3z, s3z, [], [], [], Sb⟩ Md.z) from rfl) (t0_ (t0_ eR))))))))) <| CJ_region <| oM rfl rfl <| oV (V_len rfl foc2 (Reads.sl _ _ _) Try.runUnderlying66) rfl ?_
  refine oP (P_neq rfl rfl) rfl <| oM rfl rfl ?_
  first | (refine RJ_splitD 24 rfl (fun hg1B hg1 => ?_) (fun hg1B hg1 => ?_)) | (refine RJ_splitN 24 rfl (fun hg1B hg1 => ?_) (fun hg1B hg1 => ?_)) | (refine RJ_split 24 rfl (fun hg1B => ?_) (fun hg1B => ?_))
  ·
   refine RJ_gn (GY_no rfl rfl rfl hg1B) rfl rfl <| RJ_gn (GY_no rfl rfl rfl hg1B) rfl rfl <| RJ_gn (GY_no rfl rfl rfl hg1B) rfl rfl <| RJ_gn (GY_no rfl rfl rfl hg1B) rfl rfl <| RJ_gn (GY_no rfl rfl rfl hg1B) rfl rfl <| RJ_gn (GY_no rfl rfl rfl hg1B) rfl rfl <| oP (P_pickT rfl hg1B rfl) rfl <| oM rfl rfl <| RJ_gn (GY_no rfl rfl rfl rfl) rfl rfl <| RJ_gn (GY_no rfl rfl rfl rfl) rfl rfl <| RJ_gn (GY_no rfl rfl rfl rfl) rfl rfl <| RJ_gn (GY_no rfl rfl rfl rfl) rfl rfl <| RJ_gn (GY_no rfl rfl rfl rfl) rfl rfl <| RJ_gn (GY_no rfl rfl rfl rfl) rfl rfl <| oP (P_pickT rfl rfl rfl) rfl <| oM rfl rfl <| RJ_gn (GY_no rfl rfl rfl rfl) rfl rfl <| RJ_gn (GY_no rfl rfl rfl rfl) rfl rfl <| RJ_gn (GY_no rfl rfl rfl rfl) rfl rfl <| oP (P_pickT rfl rfl rfl) rfl <| oM rfl rfl <| RJ_gn (GY_no rfl rfl rfl rfl) rfl rfl <| RJ_gn (GY_no rfl rfl rfl rfl) rfl rfl <| RJ_gn (GY_no rfl rfl rfl rfl) rfl rfl <| oP (P_pickT rfl rfl rfl) rfl <| nT <| CJ_condT rfl rfl <| sR <| oA rfl rfl <| oA rfl rfl <| nT <| CJ_ret <| QJ_then_ret ?_
   exfalso; first | omega | (have z0 := addE0; have z1 := addE1; simp_all)
  ·
   refine gP (GY_yes rfl rfl rfl hg1B) (P_move rfl) rfl <| gP (GY_yes rfl rfl rfl hg1B) (P_move rfl) rfl ?_
   first | (refine RJ_gy (GY_yes rfl rfl rfl hg1B) (OJ_V (V_index rfl rfl rfl (by omega) foc2 (Reads.sl _ _ _) Try.runUnderlying66 Try.sizeOf70) rfl ?_)) | (refine RJ_gy (GY_yes rfl rfl rfl hg1B) (OJ_V (V_index rfl rfl (Int.toNat_of_nonneg (by omega)).symm (by omega) foc2 (Reads.sl _ _ _) Try.runUnderlying66 Try.sizeOf70) rfl ?_))
   refine gV (GY_yes rfl rfl rfl hg1B) (V_loadE rfl rfl (by omega) foc2 (Reads.sl _ _ _) rfl rfl Try.isAgg70) rfl <| RJ_gy (GY_yes rfl rfl rfl hg1B) <| O_call ((c_Base (c := ⟨nw.2.1, nw.2.2, a, s3z, s3z, [], [], [], Sb⟩) (m := Md.z) (n := nd0) (p := sp.2.1) (dn := 0) (z := 12) (by decide) addE0 (by decide) (by simp) (by rw [nowL_mkS]; rfl) (fun i hi => absurd hi.1 (Nat.not_lt_zero _)))) rfl Try.call23 (Dels.cons del3 (Dels.cons del5 (Dels.cons del1 Dels.nil))) rfl fun c1 hc1 => ?_
   obtain ⟨ov1, rfl⟩ := hc1
   refine gP (GY_yes rfl rfl rfl hg1B) (P_neq rfl rfl) rfl <| oP (P_pickF rfl hg1B rfl) rfl <| oM rfl rfl ?_
   first | (refine RJ_splitD 32 rfl (fun hg2B hg2 => ?_) (fun hg2B hg2 => ?_)) | (refine RJ_splitN 32 rfl (fun hg2B hg2 => ?_) (fun hg2B hg2 => ?_)) | (refine RJ_split 32 rfl (fun hg2B => ?_) (fun hg2B => ?_))
   ·
    refine RJ_gn (GY_no rfl rfl rfl hg2B) rfl rfl <| RJ_gn (GY_no rfl rfl rfl hg2B) rfl rfl <| RJ_gn (GY_no rfl rfl rfl hg2B) rfl rfl <| RJ_gn (GY_no rfl rfl rfl hg2B) rfl rfl <| RJ_gn (GY_no rfl rfl rfl hg2B) rfl rfl <| RJ_gn (GY_no rfl rfl rfl hg2B) rfl rfl <| oP (P_pickT rfl hg2B rfl) rfl <| oM rfl rfl <| RJ_gn (GY_no rfl rfl rfl rfl) rfl rfl <| RJ_gn (GY_no rfl rfl rfl rfl) rfl rfl <| RJ_gn (GY_no rfl rfl rfl rfl) rfl rfl <| oP (P_pickT rfl rfl rfl) rfl <| oM rfl rfl <| RJ_gn (GY_no rfl rfl rfl rfl) rfl rfl <| RJ_gn (GY_no rfl rfl rfl rfl) rfl rfl <| RJ_gn (GY_no rfl rfl rfl rfl) rfl rfl <| oP (P_pickT rfl rfl rfl) rfl <| nT <| CJ_condT rfl rfl <| sR <| oA rfl rfl <| oA rfl rfl <| nT <| CJ_ret <| QJ_then_ret ?_
    exfalso; first | omega | (have z0 := addE0; have z1 := addE1; simp_all)
   ·
    refine gP (GY_yes rfl rfl rfl hg2B) (P_move rfl) rfl <| gP (GY_yes rfl rfl rfl hg2B) (P_move rfl) rfl ?_
    first | (refine RJ_gy (GY_yes rfl rfl rfl hg2B) (OJ_V (V_index rfl rfl rfl (by omega) foc3 (Reads.sl _ _ _) Try.runUnderlying66 Try.sizeOf70) rfl ?_)) | (refine RJ_gy (GY_yes rfl rfl rfl hg2B) (OJ_V (V_index rfl rfl (Int.toNat_of_nonneg (by omega)).symm (by omega) foc3 (Reads.sl _ _ _) Try.runUnderlying66 Try.sizeOf70) rfl ?_))
    refine gV (GY_yes rfl rfl rfl hg2B) (V_loadE rfl rfl (by omega) foc3 (Reads.sl _ _ _) rfl rfl Try.isAgg70) rfl <| RJ_gy (GY_yes rfl rfl rfl hg2B) (O_call ((c_Base (c := (MH.push (⟨nw.2.1, nw.2.2, a, s3z, s3z, [], [], [], Sb⟩ : MH) ov1 (MH.dl (⟨nw.2.1, nw.2.2, a, s3z, s3z, [], [], [], Sb⟩ : MH)) (setM (MH.bl (⟨nw.2.1, nw.2.2, a, s3z, s3z, [], [], [], Sb⟩ : MH)) nd0 sp.2.1) (hBas sp.2.1 0) (bNew nd0 12))) (m := Mb1) (n := nd1) (p := sp.2.2) (dn := 1) (z := 8) (by decide) addE1 (by decide) (by simp) (by rw [nowL_mkS]; rfl) (fun i hi => by
      have h0 : i = 0 := by have := hi.1; have e : Mb1.dv.length = 1 := rfl; omega
      subst h0; exact (by decide : (0 : Nat) ≠ 1)))) rfl Try.call23 (Dels.cons del4 (Dels.cons del0 (Dels.cons del0 Dels.nil))) rfl (fun c2 hc2 => ?_))
    obtain ⟨ov2, rfl⟩ := hc2
    refine gP (GY_yes rfl rfl rfl hg2B) (P_neq rfl rfl) rfl <| oP (P_pickF rfl hg2B rfl) rfl <| oM rfl rfl ?_
    first | (refine RJ_splitD 40 rfl (fun hg3B hg3 => ?_) (fun hg3B hg3 => ?_)) | (refine RJ_splitN 40 rfl (fun hg3B hg3 => ?_) (fun hg3B hg3 => ?_)) | (refine RJ_split 40 rfl (fun hg3B => ?_) (fun hg3B => ?_))
    ·
     refine RJ_gn (GY_no rfl rfl rfl hg3B) rfl rfl <| RJ_gn (GY_no rfl rfl rfl hg3B) rfl rfl <| RJ_gn (GY_no rfl rfl rfl hg3B) rfl rfl <| oP (P_pickT rfl hg3B rfl) rfl <| oM rfl rfl <| RJ_gn (GY_no rfl rfl rfl rfl) rfl rfl <| RJ_gn (GY_no rfl rfl rfl rfl) rfl rfl <| RJ_gn (GY_no rfl rfl rfl rfl) rfl rfl <| oP (P_pickT rfl rfl rfl) rfl <| nT <| CJ_condT rfl rfl <| sR <| oA rfl rfl <| oA rfl rfl <| nT <| CJ_ret <| QJ_then_ret ?_
     exfalso; first | omega | (have z0 := addE0; have z1 := addE1; simp_all)
    ·
     refine gP (GY_yes rfl rfl rfl hg3B) (P_move rfl) rfl <| RJ_gy (GY_yes rfl rfl rfl hg3B) <| O_call ((c_rBase (m := Md.z) (n := nd0) (z := 12) (by decide) (by decide))) rfl Try.call24 (Dels.cons del4 (Dels.cons del2 Dels.nil)) rfl fun r1 hc18 => ?_
     rw [(base_ok (z := 12) addE0).1]
     refine gP (GY_yes rfl rfl rfl hg3B) (P_neq rfl rfl) rfl <| oP (P_pickF rfl hg3B rfl) rfl <| oM rfl rfl ?_
     first | (refine RJ_splitD 45 rfl (fun hg4B hg4 => ?_) (fun hg4B hg4 => ?_)) | (refine RJ_splitN 45 rfl (fun hg4B hg4 => ?_) (fun hg4B hg4 => ?_)) | (refine RJ_split 45 rfl (fun hg4B => ?_) (fun hg4B => ?_))
     ·
      refine RJ_gn (GY_no rfl rfl rfl hg4B) rfl rfl <| RJ_gn (GY_no rfl rfl rfl hg4B) rfl rfl <| RJ_gn (GY_no rfl rfl rfl hg4B) rfl rfl <| oP (P_pickT rfl hg4B rfl) rfl <| nT <| CJ_condT rfl rfl <| sR <| oA rfl rfl <| oA rfl rfl <| nT <| CJ_ret <| QJ_then_ret ?_
      exfalso; first | omega | (have z0 := addE0; have z1 := addE1; simp_all)
     ·
      refine gP (GY_yes rfl rfl rfl hg4B) (P_move rfl) rfl <| RJ_gy (GY_yes rfl rfl rfl hg4B) <| O_call ((c_rBase (m := Mb1) (n := nd1) (z := 8) (by decide) (by decide))) rfl Try.call24 (Dels.cons del0 (Dels.cons del0 Dels.nil)) rfl fun r2 hc19 => ?_
      rw [(base_ok (m := Mb1) (z := 8) addE1).1]
      refine gP (GY_yes rfl rfl rfl hg4B) (P_neq rfl rfl) rfl <| oP (P_pickF rfl hg4B rfl) rfl <| nT ?_
      first | (refine CJ_condD rfl (fun hg5 => ?_) (fun hg5 => ?_)) | (refine CJ_condN rfl (fun hg5 => ?_) (fun hg5 => ?_)) | (refine CJ_cond rfl (fun hg5 => ?_) (fun hg5 => ?_))
      ·
       refine sR <| oA rfl rfl <| oA rfl rfl <| nT <| CJ_ret <| QJ_then_ret ?_
       exfalso; first | omega | (have z0 := addE0; have z1 := addE1; simp_all)
      ·
       refine kT <| sR <| oM rfl rfl <| oM rfl rfl <| oA rfl rfl <| oA rfl rfl <| nT <| CJ_ret <| QJ_end (res2 Try.results7 rfl rfl) <| CSpec.close ⟨nw.1, b11⟩ ?_ ?_ (Ent.trans (Ent.trans (t2_ (t2_ eR)) (MapP_close Mb2_bd)) (Ent.trans (Ent.trans (t1_ (t1_ eR)) (RefP_close Mb2_bd)) (t1_ (t0_ (eD (eD (eD eR)))))))
       · rfl
       · trivial
 ·
  refine ⟨fun h => absurd h (by decide), ?_⟩
  refine AJ_op 0 3 rfl (by kernel_rfl) rfl (GY_none rfl) <| O_make (t := tyU) (m := 12) (x0 := (0 : UInt64)) (z := _) (bytes := _) rfl rfl rfl rfl Try.underlying50 ⟨Try.t35, by kernel_rfl, rfl, rfl, rfl⟩ rfl (by decide) (by decide) rfl fun b20 => ⟨fun h => absurd h (by decide), ?_⟩
  refine AJ_op 2 7 rfl (by kernel_rfl) rfl (GY_none rfl) <| O_buildSlice rfl (CBeg1_bs_61_2_0_1 _ _ _ _ _ _) rfl fun b21 => ⟨fun h => absurd h (by decide), ?_⟩
  refine AJ_ent (Ent.trans (t0_ eR) (sl_of_lit (t := tyRow) (m := 2) [⟨some ⟨b20, 0, none⟩, 12, 12⟩, ⟨some ⟨b2, 0, none⟩, 8, 8⟩] rfl rfl rfl (by decide))) <| AJ_ent (Ent.trans (t1_ (t1_ eR)) (fun h hh => (stars_star.2 hh : stars (star [sl tyU (Sl3.v ⟨some ⟨b20, 0, none⟩, 12, 12⟩) (List.replicate 12 0), sl tyU (Sl3.v ⟨some ⟨b2, 0, none⟩, 8, 8⟩) (List.replicate 8 0)] :: _) h))) <| AJ_op 3 15 rfl (by kernel_rfl) rfl (GY_none rfl) <| O_call ((c_Loaded2 (vl := ⟨some ⟨b21, 0, none⟩, 2, 2⟩) (v0 := ⟨some ⟨b20, 0, none⟩, 12, 12⟩) (v1 := ⟨some ⟨b2, 0, none⟩, 8, 8⟩))) rfl Try.call20 (Dels.cons del1 (Dels.cons del0 Dels.nil)) rfl fun a hc23 => ⟨fun h => absurd h (by decide), ?_⟩
  refine aN 4 31 rfl rfl (P_assign rfl) rfl <| aD <| sR <| oO <| O_call (c_NewM) rfl Try.call21 Dels.nil rfl fun nw hc27 => oP (P_build rfl (CBeg1_bld_65_)) rfl <| oO <| O_box rfl rfl rfl fun b28 => oA rfl rfl <| oA rfl rfl <| nT <| CJ_seq <| sR <| oM rfl rfl <| oP (P_eqlPN rfl rfl Try.underlying59) rfl <| oM rfl rfl <| gP (GY_yes rfl rfl rfl rfl) (P_move rfl) rfl <| gP (GY_yes rfl rfl rfl rfl) (P_eqlPN rfl rfl Try.underlying25) rfl <| oP (P_pickF rfl rfl rfl) rfl <| nT <| CJ_condF rfl rfl <| kT <| sR <| oM rfl rfl <| oO <| O_call ((c_Spans2 (z0 := 12) (z1 := 8) (by decide) (by decide) (by simp) (by rfl) (by rfl) (by decide))) rfl Try.call22 (Dels.cons del6 Dels.nil) rfl fun sp hc32 => oA rfl rfl <| nT <| CJ_seq <| CJ_seq <| CJ_ent (Ent.trans (t6_ (t6_ (t3_ eR))) (MapR_z good_mkS rfl)) <| CJ_ent RefR_z <| CJ_ent (t0_ (t0_ (t0_ (Ent.takeC del0 (show _ = blkR sp.2.1 143 [ptr a 0, .int .i64 ((0 : Nat) : Int), .int .i64 0, .int .i64 ((12 : Nat) : Int)] from rfl) (Ent.takeC del0 (show _ = blkR sp.2.2 143 [ptr a 0, .int .i64 ((1 : Nat) : Int), .int .i64 0, .int .i64 ((8 : Nat) : Int)] from rfl) (Ent.takeC del0 (show _ = blk b28 65 (rCells ⟨s3z, s3z, []⟩ Md.z) from rfl) (Ent.takeC del0 (show _ = blk nw.1 79 (mCells ⟨nw.2.1, nw.2.2, a, s3z, s3z, [], [], [], Sb⟩ Md.z) from rfl) (t0_ (t0_ eR))))))))) <| CJ_region <| oM rfl rfl <| oV (V_len rfl foc2 (Reads.sl _ _ _) Try.runUnderlying66) rfl ?_
  refine oP (P_neq rfl rfl) rfl <| oM rfl rfl ?_
  first | (refine RJ_splitD 24 rfl (fun hg6B hg6 => ?_) (fun hg6B hg6 => ?_)) | (refine RJ_splitN 24 rfl (fun hg6B hg6 => ?_) (fun hg6B hg6 => ?_)) | (refine RJ_split 24 rfl (fun hg6B => ?_) (fun hg6B => ?_))
  ·
   refine RJ_gn (GY_no rfl rfl rfl hg6B) rfl rfl <| RJ_gn (GY_no rfl rfl rfl hg6B) rfl rfl <| RJ_gn (GY_no rfl rfl rfl hg6B) rfl rfl <| RJ_gn (GY_no rfl rfl rfl hg6B) rfl rfl <| RJ_gn (GY_no rfl rfl rfl hg6B) rfl rfl <| RJ_gn (GY_no rfl rfl rfl hg6B) rfl rfl <| oP (P_pickT rfl hg6B rfl) rfl <| oM rfl rfl <| RJ_gn (GY_no rfl rfl rfl rfl) rfl rfl <| RJ_gn (GY_no rfl rfl rfl rfl) rfl rfl <| RJ_gn (GY_no rfl rfl rfl rfl) rfl rfl <| RJ_gn (GY_no rfl rfl rfl rfl) rfl rfl <| RJ_gn (GY_no rfl rfl rfl rfl) rfl rfl <| RJ_gn (GY_no rfl rfl rfl rfl) rfl rfl <| oP (P_pickT rfl rfl rfl) rfl <| oM rfl rfl <| RJ_gn (GY_no rfl rfl rfl rfl) rfl rfl <| RJ_gn (GY_no rfl rfl rfl rfl) rfl rfl <| RJ_gn (GY_no rfl rfl rfl rfl) rfl rfl <| oP (P_pickT rfl rfl rfl) rfl <| oM rfl rfl <| RJ_gn (GY_no rfl rfl rfl rfl) rfl rfl <| RJ_gn (GY_no rfl rfl rfl rfl) rfl rfl <| RJ_gn (GY_no rfl rfl rfl rfl) rfl rfl <| oP (P_pickT rfl rfl rfl) rfl <| nT <| CJ_condT rfl rfl <| sR <| oA rfl rfl <| oA rfl rfl <| nT <| CJ_ret <| QJ_then_ret ?_
   exfalso; first | omega | (have z0 := addE0; have z1 := addE1; simp_all)
  ·
   refine gP (GY_yes rfl rfl rfl hg6B) (P_move rfl) rfl <| gP (GY_yes rfl rfl rfl hg6B) (P_move rfl) rfl ?_
   first | (refine RJ_gy (GY_yes rfl rfl rfl hg6B) (OJ_V (V_index rfl rfl rfl (by omega) foc2 (Reads.sl _ _ _) Try.runUnderlying66 Try.sizeOf70) rfl ?_)) | (refine RJ_gy (GY_yes rfl rfl rfl hg6B) (OJ_V (V_index rfl rfl (Int.toNat_of_nonneg (by omega)).symm (by omega) foc2 (Reads.sl _ _ _) Try.runUnderlying66 Try.sizeOf70) rfl ?_))
   refine gV (GY_yes rfl rfl rfl hg6B) (V_loadE rfl rfl (by omega) foc2 (Reads.sl _ _ _) rfl rfl Try.isAgg70) rfl <| RJ_gy (GY_yes rfl rfl rfl hg6B) <| O_call ((c_Base (c := ⟨nw.2.1, nw.2.2, a, s3z, s3z, [], [], [], Sb⟩) (m := Md.z) (n := nd0) (p := sp.2.1) (dn := 0) (z := 12) (by decide) addE0 (by decide) (by simp) (by rw [nowL_mkS]; rfl) (fun i hi => absurd hi.1 (Nat.not_lt_zero _)))) rfl Try.call23 (Dels.cons del3 (Dels.cons del5 (Dels.cons del1 Dels.nil))) rfl fun c1 hc1 => ?_
   obtain ⟨ov1, rfl⟩ := hc1
   refine gP (GY_yes rfl rfl rfl hg6B) (P_neq rfl rfl) rfl <| oP (P_pickF rfl hg6B rfl) rfl <| oM rfl rfl ?_
   first | (refine RJ_splitD 32 rfl (fun hg7B hg7 => ?_) (fun hg7B hg7 => ?_)) | (refine RJ_splitN 32 rfl (fun hg7B hg7 => ?_) (fun hg7B hg7 => ?_)) | (refine RJ_split 32 rfl (fun hg7B => ?_) (fun hg7B => ?_))
   ·
    refine RJ_gn (GY_no rfl rfl rfl hg7B) rfl rfl <| RJ_gn (GY_no rfl rfl rfl hg7B) rfl rfl <| RJ_gn (GY_no rfl rfl rfl hg7B) rfl rfl <| RJ_gn (GY_no rfl rfl rfl hg7B) rfl rfl <| RJ_gn (GY_no rfl rfl rfl hg7B) rfl rfl <| RJ_gn (GY_no rfl rfl rfl hg7B) rfl rfl <| oP (P_pickT rfl hg7B rfl) rfl <| oM rfl rfl <| RJ_gn (GY_no rfl rfl rfl rfl) rfl rfl <| RJ_gn (GY_no rfl rfl rfl rfl) rfl rfl <| RJ_gn (GY_no rfl rfl rfl rfl) rfl rfl <| oP (P_pickT rfl rfl rfl) rfl <| oM rfl rfl <| RJ_gn (GY_no rfl rfl rfl rfl) rfl rfl <| RJ_gn (GY_no rfl rfl rfl rfl) rfl rfl <| RJ_gn (GY_no rfl rfl rfl rfl) rfl rfl <| oP (P_pickT rfl rfl rfl) rfl <| nT <| CJ_condT rfl rfl <| sR <| oA rfl rfl <| oA rfl rfl <| nT <| CJ_ret <| QJ_then_ret ?_
    exfalso; first | omega | (have z0 := addE0; have z1 := addE1; simp_all)
   ·
    refine gP (GY_yes rfl rfl rfl hg7B) (P_move rfl) rfl <| gP (GY_yes rfl rfl rfl hg7B) (P_move rfl) rfl ?_
    first | (refine RJ_gy (GY_yes rfl rfl rfl hg7B) (OJ_V (V_index rfl rfl rfl (by omega) foc3 (Reads.sl _ _ _) Try.runUnderlying66 Try.sizeOf70) rfl ?_)) | (refine RJ_gy (GY_yes rfl rfl rfl hg7B) (OJ_V (V_index rfl rfl (Int.toNat_of_nonneg (by omega)).symm (by omega) foc3 (Reads.sl _ _ _) Try.runUnderlying66 Try.sizeOf70) rfl ?_))
    refine gV (GY_yes rfl rfl rfl hg7B) (V_loadE rfl rfl (by omega) foc3 (Reads.sl _ _ _) rfl rfl Try.isAgg70) rfl <| RJ_gy (GY_yes rfl rfl rfl hg7B) (O_call ((c_Base (c := (MH.push (⟨nw.2.1, nw.2.2, a, s3z, s3z, [], [], [], Sb⟩ : MH) ov1 (MH.dl (⟨nw.2.1, nw.2.2, a, s3z, s3z, [], [], [], Sb⟩ : MH)) (setM (MH.bl (⟨nw.2.1, nw.2.2, a, s3z, s3z, [], [], [], Sb⟩ : MH)) nd0 sp.2.1) (hBas sp.2.1 0) (bNew nd0 12))) (m := Mb1) (n := nd1) (p := sp.2.2) (dn := 1) (z := 8) (by decide) addE1 (by decide) (by simp) (by rw [nowL_mkS]; rfl) (fun i hi => by
      have h0 : i = 0 := by have := hi.1; have e : Mb1.dv.length = 1 := rfl; omega
      subst h0; exact (by decide : (0 : Nat) ≠ 1)))) rfl Try.call23 (Dels.cons del4 (Dels.cons del0 (Dels.cons del0 Dels.nil))) rfl (fun c2 hc2 => ?_))
    obtain ⟨ov2, rfl⟩ := hc2
    refine gP (GY_yes rfl rfl rfl hg7B) (P_neq rfl rfl) rfl <| oP (P_pickF rfl hg7B rfl) rfl <| oM rfl rfl ?_
    first | (refine RJ_splitD 40 rfl (fun hg8B hg8 => ?_) (fun hg8B hg8 => ?_)) | (refine RJ_splitN 40 rfl (fun hg8B hg8 => ?_) (fun hg8B hg8 => ?_)) | (refine RJ_split 40 rfl (fun hg8B => ?_) (fun hg8B => ?_))
    ·
     refine RJ_gn (GY_no rfl rfl rfl hg8B) rfl rfl <| RJ_gn (GY_no rfl rfl rfl hg8B) rfl rfl <| RJ_gn (GY_no rfl rfl rfl hg8B) rfl rfl <| oP (P_pickT rfl hg8B rfl) rfl <| oM rfl rfl <| RJ_gn (GY_no rfl rfl rfl rfl) rfl rfl <| RJ_gn (GY_no rfl rfl rfl rfl) rfl rfl <| RJ_gn (GY_no rfl rfl rfl rfl) rfl rfl <| oP (P_pickT rfl rfl rfl) rfl <| nT <| CJ_condT rfl rfl <| sR <| oA rfl rfl <| oA rfl rfl <| nT <| CJ_ret <| QJ_then_ret ?_
     exfalso; first | omega | (have z0 := addE0; have z1 := addE1; simp_all)
    ·
     refine gP (GY_yes rfl rfl rfl hg8B) (P_move rfl) rfl <| RJ_gy (GY_yes rfl rfl rfl hg8B) <| O_call ((c_rBase (m := Md.z) (n := nd0) (z := 12) (by decide) (by decide))) rfl Try.call24 (Dels.cons del4 (Dels.cons del2 Dels.nil)) rfl fun r1 hc35 => ?_
     rw [(base_ok (z := 12) addE0).1]
     refine gP (GY_yes rfl rfl rfl hg8B) (P_neq rfl rfl) rfl <| oP (P_pickF rfl hg8B rfl) rfl <| oM rfl rfl ?_
     first | (refine RJ_splitD 45 rfl (fun hg9B hg9 => ?_) (fun hg9B hg9 => ?_)) | (refine RJ_splitN 45 rfl (fun hg9B hg9 => ?_) (fun hg9B hg9 => ?_)) | (refine RJ_split 45 rfl (fun hg9B => ?_) (fun hg9B => ?_))
     ·
      refine RJ_gn (GY_no rfl rfl rfl hg9B) rfl rfl <| RJ_gn (GY_no rfl rfl rfl hg9B) rfl rfl <| RJ_gn (GY_no rfl rfl rfl hg9B) rfl rfl <| oP (P_pickT rfl hg9B rfl) rfl <| nT <| CJ_condT rfl rfl <| sR <| oA rfl rfl <| oA rfl rfl <| nT <| CJ_ret <| QJ_then_ret ?_
      exfalso; first | omega | (have z0 := addE0; have z1 := addE1; simp_all)
     ·
      refine gP (GY_yes rfl rfl rfl hg9B) (P_move rfl) rfl <| RJ_gy (GY_yes rfl rfl rfl hg9B) <| O_call ((c_rBase (m := Mb1) (n := nd1) (z := 8) (by decide) (by decide))) rfl Try.call24 (Dels.cons del0 (Dels.cons del0 Dels.nil)) rfl fun r2 hc36 => ?_
      rw [(base_ok (m := Mb1) (z := 8) addE1).1]
      refine gP (GY_yes rfl rfl rfl hg9B) (P_neq rfl rfl) rfl <| oP (P_pickF rfl hg9B rfl) rfl <| nT ?_
      first | (refine CJ_condD rfl (fun hg10 => ?_) (fun hg10 => ?_)) | (refine CJ_condN rfl (fun hg10 => ?_) (fun hg10 => ?_)) | (refine CJ_cond rfl (fun hg10 => ?_) (fun hg10 => ?_))
      ·
       refine sR <| oA rfl rfl <| oA rfl rfl <| nT <| CJ_ret <| QJ_then_ret ?_
       exfalso; first | omega | (have z0 := addE0; have z1 := addE1; simp_all)
      ·
       refine kT <| sR <| oM rfl rfl <| oM rfl rfl <| oA rfl rfl <| oA rfl rfl <| nT <| CJ_ret <| QJ_end (res2 Try.results7 rfl rfl) <| CSpec.close ⟨nw.1, b28⟩ ?_ ?_ (Ent.trans (Ent.trans (t2_ (t2_ eR)) (MapP_close Mb2_bd)) (Ent.trans (Ent.trans (t1_ (t1_ eR)) (RefP_close Mb2_bd)) (t1_ (t0_ (eD (eD (eD eR)))))))
       · rfl
       · trivial
end Go.Proofs
namespace Go.Proofs
open Go.VG
abbrev nmL : List ByteArray := [ByteArray.mk #[97], ByteArray.mk #[98], ByteArray.mk #[99]]
abbrev nm3 (x : Nat) : ByteArray := nmL.getD x ByteArray.empty
def tb3 (i t : Nat) : List api_Target := [if t = 0 then ⟨0, 3, ByteArray.mk #[100, 105, 115, 107, 48], (i : Int), false⟩ else ⟨0, 3, nm3 (t - 1), 0, false⟩]
def dv3 (i t : Nat) : Dv := { Dv.z with name := nm3 i, live := tb3 i t, hl := true }
def cyI (i : Nat) : Md := ⟨bNew nd0 12 :: bNew nd1 8 :: ([dv3 0 0, dv3 1 0, dv3 2 0].take i), 0, [], 4 * i, 0⟩
def cyM (t0 t1 t2 c : Nat) : Md := ⟨[bNew nd0 12, bNew nd1 8, dv3 0 t0, dv3 1 t1, dv3 2 t2], 0, [], c, 0⟩
def cy1 (i : Nat) : Md := ((cyI i).crS (nm3 i)).tick
def cy2 (i : Nat) : Md := ((cy1 i).ldS (nm3 i) (tb3 i 0)).tick
def cy3 (i : Nat) : Md := ((cy2 i).suS (nm3 i)).tick
theorem i3 {i : Nat} (h : i < 3) : i = 0 ∨ i = 1 ∨ i = 2 := by omega
section
variable {i : Nat}
theorem cy_cr (h : i < 3) : (cyI i).crE (nm3 i) = 0 ∧ (cy1 i).cl = 4 * i + 1 := by rcases i3 h with rfl | rfl | rfl <;> exact ⟨by kernel_rfl, by kernel_rfl⟩
theorem cy_ld (h : i < 3) : (cy1 i).ldE (nm3 i) (tb3 i 0) = 0 ∧ (cy2 i).cl = 4 * i + 2 := by rcases i3 h with rfl | rfl | rfl <;> exact ⟨by kernel_rfl, by kernel_rfl⟩
theorem cy_su (h : i < 3) : (cy2 i).suE (nm3 i) = 0 ∧ (cy3 i).cl = 4 * i + 3 := by rcases i3 h with rfl | rfl | rfl <;> exact ⟨by kernel_rfl, by kernel_rfl⟩
theorem cy_rs (h : i < 3) : (cy3 i).rsE (nm3 i) = 0 ∧ ((cy3 i).rsS (nm3 i)).tick = cyI (i + 1) := by rcases i3 h with rfl | rfl | rfl <;> exact ⟨by kernel_rfl, by kernel_rfl⟩
theorem cyI_0 : Mb2 = cyI 0 := by kernel_rfl
theorem cyI_3 : cyI 3 = cyM 0 0 0 12 := by kernel_rfl
end
def tj (t0 t1 t2 i : Nat) : Nat := if i = 0 then t0 else if i = 1 then t1 else t2
def ab (t0 t1 t2 i j : Nat) : Bool := decide (tj t0 t1 t2 i = j + 1)
def rch (t0 t1 t2 x y : Nat) : Nat → Bool
  | 0 => decide (x = y) || ab t0 t1 t2 y x
  | k + 1 => rch t0 t1 t2 x y k || (ab t0 t1 t2 y k && ab t0 t1 t2 k x)
def VL : List (Nat × Nat × Nat) := [(0, 0, 0), (0, 0, 1), (0, 0, 2), (0, 1, 0), (0, 1, 1), (0, 1, 2), (0, 3, 0), (0, 3, 1), (2, 0, 0), (2, 0, 1), (2, 0, 2), (2, 3, 0), (3, 0, 0), (3, 0, 2), (3, 1, 0), (3, 3, 0)]
def up (x y t i : Nat) : Nat := if i = x then y + 1 else t
def cyL (t0 t1 t2 x y c : Nat) : Md := ((cyM t0 t1 t2 c).ldS (nm3 x) [⟨0, 3, nm3 y, 0, false⟩]).tick
def cyS (t0 t1 t2 x y c : Nat) : Md := ((cyL t0 t1 t2 x y c).suS (nm3 x)).tick
section
variable {t0 t1 t2 x y c k : Nat}
theorem VL_ok (h : (t0, t1, t2) ∈ VL) : (t0 = 0 ∧ t1 = 0 ∧ t2 = 0) ∨ (t0 = 0 ∧ t1 = 0 ∧ t2 = 1) ∨ (t0 = 0 ∧ t1 = 0 ∧ t2 = 2) ∨ (t0 = 0 ∧ t1 = 1 ∧ t2 = 0) ∨ (t0 = 0 ∧ t1 = 1 ∧ t2 = 1) ∨ (t0 = 0 ∧ t1 = 1 ∧ t2 = 2) ∨ (t0 = 0 ∧ t1 = 3 ∧ t2 = 0) ∨ (t0 = 0 ∧ t1 = 3 ∧ t2 = 1) ∨
    (t0 = 2 ∧ t1 = 0 ∧ t2 = 0) ∨ (t0 = 2 ∧ t1 = 0 ∧ t2 = 1) ∨ (t0 = 2 ∧ t1 = 0 ∧ t2 = 2) ∨ (t0 = 2 ∧ t1 = 3 ∧ t2 = 0) ∨ (t0 = 3 ∧ t1 = 0 ∧ t2 = 0) ∨ (t0 = 3 ∧ t1 = 0 ∧ t2 = 2) ∨ (t0 = 3 ∧ t1 = 1 ∧ t2 = 0) ∨ (t0 = 3 ∧ t1 = 3 ∧ t2 = 0) := by
  simpa [VL] using h
theorem cyM_ld (h : (t0, t1, t2) ∈ VL) (hx : x < 3) (hy : y < 3) : (cyM t0 t1 t2 c).ldE (nm3 x) [⟨0, 3, nm3 y, 0, false⟩] = (if rch t0 t1 t2 x y 3 then 21 else 0) ∧ (cyL t0 t1 t2 x y c).cl = c + 1 := by
  rcases i3 hx with rfl | rfl | rfl <;> rcases i3 hy with rfl | rfl | rfl <;> rcases VL_ok h with ⟨rfl, rfl, rfl⟩ | ⟨rfl, rfl, rfl⟩ | ⟨rfl, rfl, rfl⟩ | ⟨rfl, rfl, rfl⟩ | ⟨rfl, rfl, rfl⟩ | ⟨rfl, rfl, rfl⟩ | ⟨rfl, rfl, rfl⟩ | ⟨rfl, rfl, rfl⟩ | ⟨rfl, rfl, rfl⟩ | ⟨rfl, rfl, rfl⟩ | ⟨rfl, rfl, rfl⟩ | ⟨rfl, rfl, rfl⟩ | ⟨rfl, rfl, rfl⟩ | ⟨rfl, rfl, rfl⟩ | ⟨rfl, rfl, rfl⟩ | ⟨rfl, rfl, rfl⟩ <;> exact ⟨by kernel_rfl, by kernel_rfl⟩
theorem cyM_no (h : (t0, t1, t2) ∈ VL) (hx : x < 3) (hy : y < 3) (hr : rch t0 t1 t2 x y 3 = true) : cyL t0 t1 t2 x y c = cyM t0 t1 t2 (c + 1) := by
  have h1 := (cyM_ld (c := c) h hx hy).1
  rw [if_pos hr] at h1
  unfold cyL
  have h2 : (cyM t0 t1 t2 c).ldS (nm3 x) [⟨0, 3, nm3 y, 0, false⟩] = cyM t0 t1 t2 c := by
    unfold Md.ldS
    cases (cyM t0 t1 t2 c).dev (nm3 x) with
    | none => rfl
    | some k => show (if _ then _ else _ : Md) = _; exact if_neg (by rw [h1]; decide)
  rw [h2]; rfl
theorem cyM_su (h : (t0, t1, t2) ∈ VL) (hx : x < 3) (hy : y < 3) (hr : rch t0 t1 t2 x y 3 = false) : (cyL t0 t1 t2 x y c).suE (nm3 x) = 0 ∧ (cyS t0 t1 t2 x y c).cl = c + 2 ∧ (cyS t0 t1 t2 x y c).rsE (nm3 x) = 0 ∧ ((cyS t0 t1 t2 x y c).rsS (nm3 x)).tick = cyM (up x y t0 0) (up x y t1 1) (up x y t2 2) (c + 3) ∧ (up x y t0 0, up x y t1 1, up x y t2 2) ∈ VL := by
  revert hr
  rcases i3 hx with rfl | rfl | rfl <;> rcases i3 hy with rfl | rfl | rfl <;> rcases VL_ok h with ⟨rfl, rfl, rfl⟩ | ⟨rfl, rfl, rfl⟩ | ⟨rfl, rfl, rfl⟩ | ⟨rfl, rfl, rfl⟩ | ⟨rfl, rfl, rfl⟩ | ⟨rfl, rfl, rfl⟩ | ⟨rfl, rfl, rfl⟩ | ⟨rfl, rfl, rfl⟩ | ⟨rfl, rfl, rfl⟩ | ⟨rfl, rfl, rfl⟩ | ⟨rfl, rfl, rfl⟩ | ⟨rfl, rfl, rfl⟩ | ⟨rfl, rfl, rfl⟩ | ⟨rfl, rfl, rfl⟩ | ⟨rfl, rfl, rfl⟩ | ⟨rfl, rfl, rfl⟩ <;>
    first | exact fun hr => absurd hr (by decide) | exact fun _ => ⟨by kernel_rfl, by kernel_rfl, by kernel_rfl, by kernel_rfl, by decide⟩
theorem cyM_rm (h : (t0, t1, t2) ∈ VL) (hk : k < 3) (hu : (ab t0 t1 t2 0 k || ab t0 t1 t2 1 k || ab t0 t1 t2 2 k) = true) : (cyM t0 t1 t2 c).rmE (nm3 k) = 16 ∧ (cyM t0 t1 t2 c).rmS (nm3 k) = cyM t0 t1 t2 c := by
  revert hu
  rcases i3 hk with rfl | rfl | rfl <;> rcases VL_ok h with ⟨rfl, rfl, rfl⟩ | ⟨rfl, rfl, rfl⟩ | ⟨rfl, rfl, rfl⟩ | ⟨rfl, rfl, rfl⟩ | ⟨rfl, rfl, rfl⟩ | ⟨rfl, rfl, rfl⟩ | ⟨rfl, rfl, rfl⟩ | ⟨rfl, rfl, rfl⟩ | ⟨rfl, rfl, rfl⟩ | ⟨rfl, rfl, rfl⟩ | ⟨rfl, rfl, rfl⟩ | ⟨rfl, rfl, rfl⟩ | ⟨rfl, rfl, rfl⟩ | ⟨rfl, rfl, rfl⟩ | ⟨rfl, rfl, rfl⟩ | ⟨rfl, rfl, rfl⟩ <;>
    first | exact fun hr => absurd hr (by decide) | exact fun _ => ⟨by kernel_rfl, by kernel_rfl⟩
end
end Go.Proofs
set_option linter.unusedSimpArgs false
set_option linter.unusedVariables false
set_option maxRecDepth 20000
set_option maxHeartbeats 4000000
namespace Go.Proofs
open Go.VG
instance {t : api_Task} : Decidable (inT t) := by unfold inT; infer_instance
theorem c_DoG {W : World} {b : Nat} {m : Md} {n : ByteArray} {t : api_Task} (h : m.cl < 4000 ∧ inT t) : CSpec Try.prog W 14 [ptr b 0, .string n, .agg #[.int .i64 t.Kind, .int .i64 t.At, .int .u64 (t.Value.toNat : Int)]] (MapP b m :: []) (fun _ : Unit => .tuple #[.agg #[.bool (m.doA n t).Done, .int .i64 (m.doA n t).Ticket, .int .u64 ((m.doA n t).Value.toNat : Int), .int .i64 (m.doA n t).Error], .int .i64 (m.doE n t)]) (fun _ => True) (fun _ F => MapP b (m.doS n t).tick :: ([] ++ F)) := c_DoP h.1 h.2
theorem c_LoadG {W : World} {b : Nat} {m : Md} {n : ByteArray} {A : HP} {v : Sl3} {l : List api_Target} (hA : Reads A tyapi_Target v.v l) (h : m.cl < 4000 ∧ l.length ≤ 100000000) : CSpec Try.prog W 9 [ptr b 0, .string n, v.v] (MapP b m :: [A]) (fun _ : Unit => .int .i64 (m.ldE n l)) (fun _ => True) (fun _ F => MapP b (m.ldS n l).tick :: ([A] ++ F)) := c_LoadP hA h.1 h.2
end Go.Proofs
set_option linter.unusedSimpArgs false
set_option linter.unusedVariables false
set_option maxRecDepth 20000
set_option maxHeartbeats 4000000
namespace Go.Proofs
open Go.VG
theorem bld_33_1_2 (v0 : Int) (v1 : ByteArray) : ∀ w, (Instr.build 33 (#[(1, .int .i64 v0), (2, .string v1)] : Array (Nat × Value))).run Try.prog w = .ok (.agg #[.int .i64 (0 : Int), .int .i64 v0, .string v1, .int .i64 (0 : Int), .bool false]) w := fun w => by kernel_rfl
theorem bs_34_1_0 (v0 : Int) (v1 : Int) (v2 : ByteArray) (v3 : Int) (v4 : Bool) : BuildsSlice Try.prog 34 1 [(0, .agg #[.int .i64 v0, .int .i64 v1, .string v2, .int .i64 v3, .bool v4])] 33 [.int .i64 v0, .int .i64 v1, .string v2, .int .i64 v3, .bool v4] := fun w => by kernel_rfl
theorem bld_44_0_1_2 (v0 : Int) (v1 : Int) (v2 : Int) : ∀ w, (Instr.build 44 (#[(0, .int .i64 v0), (1, .int .i64 v1), (2, .int .u64 v2)] : Array (Nat × Value))).run Try.prog w = .ok (.agg #[.int .i64 v0, .int .i64 v1, .int .u64 v2]) w := fun w => by kernel_rfl
theorem bld_33_1_2_3 (v0 : Int) (v1 : ByteArray) (v2 : Int) : ∀ w, (Instr.build 33 (#[(1, .int .i64 v0), (2, .string v1), (3, .int .i64 v2)] : Array (Nat × Value))).run Try.prog w = .ok (.agg #[.int .i64 (0 : Int), .int .i64 v0, .string v1, .int .i64 v2, .bool false]) w := fun w => by kernel_rfl
theorem bld_44_0_1 (v0 : Int) (v1 : Int) : ∀ w, (Instr.build 44 (#[(0, .int .i64 v0), (1, .int .i64 v1)] : Array (Nat × Value))).run Try.prog w = .ok (.agg #[.int .i64 v0, .int .i64 v1, .int .u64 0]) w := fun w => by kernel_rfl
def volumegrouplaw23_awake : Option (Bool) :=
  grd (decide (Mb2.cl < 4000)) <|
  if ((Md.crE Mb2 (ByteArray.mk #[120])) ≠ (0 : Int)) then
    some false
  else
    grd (decide (((Md.tick (Md.crS Mb2 (ByteArray.mk #[120])))).cl < 4000 ∧ ([(⟨(0 : Int), (4 : Int), (ByteArray.mk #[100, 105, 115, 107, 48]), (0 : Int), false⟩ : api_Target)]).length ≤ 100000000)) <|
    lt ((Md.ldE ((Md.tick (Md.crS Mb2 (ByteArray.mk #[120])))) (ByteArray.mk #[120]) ([(⟨(0 : Int), (4 : Int), (ByteArray.mk #[100, 105, 115, 107, 48]), (0 : Int), false⟩ : api_Target)]))) fun w5 =>
    if (w5 ≠ (0 : Int)) then
      some false
    else
      grd (decide (((Md.tick (Md.ldS ((Md.tick (Md.crS Mb2 (ByteArray.mk #[120])))) (ByteArray.mk #[120]) ([(⟨(0 : Int), (4 : Int), (ByteArray.mk #[100, 105, 115, 107, 48]), (0 : Int), false⟩ : api_Target)])))).cl < 4000)) <|
      lt ((Md.suE ((Md.tick (Md.ldS ((Md.tick (Md.crS Mb2 (ByteArray.mk #[120])))) (ByteArray.mk #[120]) ([(⟨(0 : Int), (4 : Int), (ByteArray.mk #[100, 105, 115, 107, 48]), (0 : Int), false⟩ : api_Target)])))) (ByteArray.mk #[120]))) fun w6 =>
      if (w6 ≠ (0 : Int)) then
        some false
      else
        grd (decide (((Md.tick (Md.suS ((Md.tick (Md.ldS ((Md.tick (Md.crS Mb2 (ByteArray.mk #[120])))) (ByteArray.mk #[120]) ([(⟨(0 : Int), (4 : Int), (ByteArray.mk #[100, 105, 115, 107, 48]), (0 : Int), false⟩ : api_Target)])))) (ByteArray.mk #[120])))).cl < 4000)) <|
        lt ((Md.rsE ((Md.tick (Md.suS ((Md.tick (Md.ldS ((Md.tick (Md.crS Mb2 (ByteArray.mk #[120])))) (ByteArray.mk #[120]) ([(⟨(0 : Int), (4 : Int), (ByteArray.mk #[100, 105, 115, 107, 48]), (0 : Int), false⟩ : api_Target)])))) (ByteArray.mk #[120])))) (ByteArray.mk #[120]))) fun w7 =>
        if (w7 ≠ (0 : Int)) then
          some false
        else
          grd (decide (((Md.tick (Md.rsS ((Md.tick (Md.suS ((Md.tick (Md.ldS ((Md.tick (Md.crS Mb2 (ByteArray.mk #[120])))) (ByteArray.mk #[120]) ([(⟨(0 : Int), (4 : Int), (ByteArray.mk #[100, 105, 115, 107, 48]), (0 : Int), false⟩ : api_Target)])))) (ByteArray.mk #[120])))) (ByteArray.mk #[120])))).cl < 4000)) <|
          lt ((Md.suE ((Md.tick (Md.rsS ((Md.tick (Md.suS ((Md.tick (Md.ldS ((Md.tick (Md.crS Mb2 (ByteArray.mk #[120])))) (ByteArray.mk #[120]) ([(⟨(0 : Int), (4 : Int), (ByteArray.mk #[100, 105, 115, 107, 48]), (0 : Int), false⟩ : api_Target)])))) (ByteArray.mk #[120])))) (ByteArray.mk #[120])))) (ByteArray.mk #[120]))) fun w8 =>
          if (w8 ≠ (0 : Int)) then
            some false
          else
            grd (decide (((Md.tick (Md.suS ((Md.tick (Md.rsS ((Md.tick (Md.suS ((Md.tick (Md.ldS ((Md.tick (Md.crS Mb2 (ByteArray.mk #[120])))) (ByteArray.mk #[120]) ([(⟨(0 : Int), (4 : Int), (ByteArray.mk #[100, 105, 115, 107, 48]), (0 : Int), false⟩ : api_Target)])))) (ByteArray.mk #[120])))) (ByteArray.mk #[120])))) (ByteArray.mk #[120])))).cl < 4000 ∧ inT ((⟨(2 : Int), (1 : Int), (9 : UInt64)⟩ : api_Task)))) <|
            lt ((Md.doA ((Md.tick (Md.suS ((Md.tick (Md.rsS ((Md.tick (Md.suS ((Md.tick (Md.ldS ((Md.tick (Md.crS Mb2 (ByteArray.mk #[120])))) (ByteArray.mk #[120]) ([(⟨(0 : Int), (4 : Int), (ByteArray.mk #[100, 105, 115, 107, 48]), (0 : Int), false⟩ : api_Target)])))) (ByteArray.mk #[120])))) (ByteArray.mk #[120])))) (ByteArray.mk #[120])))) (ByteArray.mk #[120]) ((⟨(2 : Int), (1 : Int), (9 : UInt64)⟩ : api_Task)))) fun w9 =>
            lt ((Md.doE ((Md.tick (Md.suS ((Md.tick (Md.rsS ((Md.tick (Md.suS ((Md.tick (Md.ldS ((Md.tick (Md.crS Mb2 (ByteArray.mk #[120])))) (ByteArray.mk #[120]) ([(⟨(0 : Int), (4 : Int), (ByteArray.mk #[100, 105, 115, 107, 48]), (0 : Int), false⟩ : api_Target)])))) (ByteArray.mk #[120])))) (ByteArray.mk #[120])))) (ByteArray.mk #[120])))) (ByteArray.mk #[120]) ((⟨(2 : Int), (1 : Int), (9 : UInt64)⟩ : api_Task)))) fun w10 =>
            if (((w10 ≠ (0 : Int)) ∨ w9.Done = true) ∨ (w9.Ticket ≠ (1 : Int))) then
              some false
            else
              grd (decide (((Md.tick (Md.doS ((Md.tick (Md.suS ((Md.tick (Md.rsS ((Md.tick (Md.suS ((Md.tick (Md.ldS ((Md.tick (Md.crS Mb2 (ByteArray.mk #[120])))) (ByteArray.mk #[120]) ([(⟨(0 : Int), (4 : Int), (ByteArray.mk #[100, 105, 115, 107, 48]), (0 : Int), false⟩ : api_Target)])))) (ByteArray.mk #[120])))) (ByteArray.mk #[120])))) (ByteArray.mk #[120])))) (ByteArray.mk #[120]) ((⟨(2 : Int), (1 : Int), (9 : UInt64)⟩ : api_Task))))).cl < 4000 ∧ ([(⟨(0 : Int), (4 : Int), (ByteArray.mk #[100, 105, 115, 107, 49]), (2 : Int), false⟩ : api_Target)]).length ≤ 100000000)) <|
              lt ((Md.ldE ((Md.tick (Md.doS ((Md.tick (Md.suS ((Md.tick (Md.rsS ((Md.tick (Md.suS ((Md.tick (Md.ldS ((Md.tick (Md.crS Mb2 (ByteArray.mk #[120])))) (ByteArray.mk #[120]) ([(⟨(0 : Int), (4 : Int), (ByteArray.mk #[100, 105, 115, 107, 48]), (0 : Int), false⟩ : api_Target)])))) (ByteArray.mk #[120])))) (ByteArray.mk #[120])))) (ByteArray.mk #[120])))) (ByteArray.mk #[120]) ((⟨(2 : Int), (1 : Int), (9 : UInt64)⟩ : api_Task))))) (ByteArray.mk #[120]) ([(⟨(0 : Int), (4 : Int), (ByteArray.mk #[100, 105, 115, 107, 49]), (2 : Int), false⟩ : api_Target)]))) fun w23 =>
              if (w23 ≠ (0 : Int)) then
                some false
              else
                grd (decide (((Md.tick (Md.ldS ((Md.tick (Md.doS ((Md.tick (Md.suS ((Md.tick (Md.rsS ((Md.tick (Md.suS ((Md.tick (Md.ldS ((Md.tick (Md.crS Mb2 (ByteArray.mk #[120])))) (ByteArray.mk #[120]) ([(⟨(0 : Int), (4 : Int), (ByteArray.mk #[100, 105, 115, 107, 48]), (0 : Int), false⟩ : api_Target)])))) (ByteArray.mk #[120])))) (ByteArray.mk #[120])))) (ByteArray.mk #[120])))) (ByteArray.mk #[120]) ((⟨(2 : Int), (1 : Int), (9 : UInt64)⟩ : api_Task))))) (ByteArray.mk #[120]) ([(⟨(0 : Int), (4 : Int), (ByteArray.mk #[100, 105, 115, 107, 49]), (2 : Int), false⟩ : api_Target)])))).cl < 4000)) <|
                lt ((Md.rsE ((Md.tick (Md.ldS ((Md.tick (Md.doS ((Md.tick (Md.suS ((Md.tick (Md.rsS ((Md.tick (Md.suS ((Md.tick (Md.ldS ((Md.tick (Md.crS Mb2 (ByteArray.mk #[120])))) (ByteArray.mk #[120]) ([(⟨(0 : Int), (4 : Int), (ByteArray.mk #[100, 105, 115, 107, 48]), (0 : Int), false⟩ : api_Target)])))) (ByteArray.mk #[120])))) (ByteArray.mk #[120])))) (ByteArray.mk #[120])))) (ByteArray.mk #[120]) ((⟨(2 : Int), (1 : Int), (9 : UInt64)⟩ : api_Task))))) (ByteArray.mk #[120]) ([(⟨(0 : Int), (4 : Int), (ByteArray.mk #[100, 105, 115, 107, 49]), (2 : Int), false⟩ : api_Target)])))) (ByteArray.mk #[120]))) fun w24 =>
                if (w24 ≠ (0 : Int)) then
                  some false
                else
                  grd (decide (((Md.tick (Md.rsS ((Md.tick (Md.ldS ((Md.tick (Md.doS ((Md.tick (Md.suS ((Md.tick (Md.rsS ((Md.tick (Md.suS ((Md.tick (Md.ldS ((Md.tick (Md.crS Mb2 (ByteArray.mk #[120])))) (ByteArray.mk #[120]) ([(⟨(0 : Int), (4 : Int), (ByteArray.mk #[100, 105, 115, 107, 48]), (0 : Int), false⟩ : api_Target)])))) (ByteArray.mk #[120])))) (ByteArray.mk #[120])))) (ByteArray.mk #[120])))) (ByteArray.mk #[120]) ((⟨(2 : Int), (1 : Int), (9 : UInt64)⟩ : api_Task))))) (ByteArray.mk #[120]) ([(⟨(0 : Int), (4 : Int), (ByteArray.mk #[100, 105, 115, 107, 49]), (2 : Int), false⟩ : api_Target)])))) (ByteArray.mk #[120])))).cl < 4000)) <|
                  lt (((Md.told ((Md.tick (Md.rsS ((Md.tick (Md.ldS ((Md.tick (Md.doS ((Md.tick (Md.suS ((Md.tick (Md.rsS ((Md.tick (Md.suS ((Md.tick (Md.ldS ((Md.tick (Md.crS Mb2 (ByteArray.mk #[120])))) (ByteArray.mk #[120]) ([(⟨(0 : Int), (4 : Int), (ByteArray.mk #[100, 105, 115, 107, 48]), (0 : Int), false⟩ : api_Target)])))) (ByteArray.mk #[120])))) (ByteArray.mk #[120])))) (ByteArray.mk #[120])))) (ByteArray.mk #[120]) ((⟨(2 : Int), (1 : Int), (9 : UInt64)⟩ : api_Task))))) (ByteArray.mk #[120]) ([(⟨(0 : Int), (4 : Int), (ByteArray.mk #[100, 105, 115, 107, 49]), (2 : Int), false⟩ : api_Target)])))) (ByteArray.mk #[120])))))).length) fun w28 =>
                  if (((w28 : Nat) : Int) ≠ (1 : Int)) then
                    some false
                  else
                    grd (decide (((Md.tick (Md.anS ((Md.tick (Md.rsS ((Md.tick (Md.ldS ((Md.tick (Md.doS ((Md.tick (Md.suS ((Md.tick (Md.rsS ((Md.tick (Md.suS ((Md.tick (Md.ldS ((Md.tick (Md.crS Mb2 (ByteArray.mk #[120])))) (ByteArray.mk #[120]) ([(⟨(0 : Int), (4 : Int), (ByteArray.mk #[100, 105, 115, 107, 48]), (0 : Int), false⟩ : api_Target)])))) (ByteArray.mk #[120])))) (ByteArray.mk #[120])))) (ByteArray.mk #[120])))) (ByteArray.mk #[120]) ((⟨(2 : Int), (1 : Int), (9 : UInt64)⟩ : api_Task))))) (ByteArray.mk #[120]) ([(⟨(0 : Int), (4 : Int), (ByteArray.mk #[100, 105, 115, 107, 49]), (2 : Int), false⟩ : api_Target)])))) (ByteArray.mk #[120]))))))).cl < 4000 ∧ inT ((⟨(1 : Int), (3 : Int), (0 : UInt64)⟩ : api_Task)))) <|
                    lt ((Md.doA ((Md.tick (Md.anS ((Md.tick (Md.rsS ((Md.tick (Md.ldS ((Md.tick (Md.doS ((Md.tick (Md.suS ((Md.tick (Md.rsS ((Md.tick (Md.suS ((Md.tick (Md.ldS ((Md.tick (Md.crS Mb2 (ByteArray.mk #[120])))) (ByteArray.mk #[120]) ([(⟨(0 : Int), (4 : Int), (ByteArray.mk #[100, 105, 115, 107, 48]), (0 : Int), false⟩ : api_Target)])))) (ByteArray.mk #[120])))) (ByteArray.mk #[120])))) (ByteArray.mk #[120])))) (ByteArray.mk #[120]) ((⟨(2 : Int), (1 : Int), (9 : UInt64)⟩ : api_Task))))) (ByteArray.mk #[120]) ([(⟨(0 : Int), (4 : Int), (ByteArray.mk #[100, 105, 115, 107, 49]), (2 : Int), false⟩ : api_Target)])))) (ByteArray.mk #[120]))))))) (ByteArray.mk #[100, 105, 115, 107, 49]) ((⟨(1 : Int), (3 : Int), (0 : UInt64)⟩ : api_Task)))) fun w29 =>
                    lt ((Md.doE ((Md.tick (Md.anS ((Md.tick (Md.rsS ((Md.tick (Md.ldS ((Md.tick (Md.doS ((Md.tick (Md.suS ((Md.tick (Md.rsS ((Md.tick (Md.suS ((Md.tick (Md.ldS ((Md.tick (Md.crS Mb2 (ByteArray.mk #[120])))) (ByteArray.mk #[120]) ([(⟨(0 : Int), (4 : Int), (ByteArray.mk #[100, 105, 115, 107, 48]), (0 : Int), false⟩ : api_Target)])))) (ByteArray.mk #[120])))) (ByteArray.mk #[120])))) (ByteArray.mk #[120])))) (ByteArray.mk #[120]) ((⟨(2 : Int), (1 : Int), (9 : UInt64)⟩ : api_Task))))) (ByteArray.mk #[120]) ([(⟨(0 : Int), (4 : Int), (ByteArray.mk #[100, 105, 115, 107, 49]), (2 : Int), false⟩ : api_Target)])))) (ByteArray.mk #[120]))))))) (ByteArray.mk #[100, 105, 115, 107, 49]) ((⟨(1 : Int), (3 : Int), (0 : UInt64)⟩ : api_Task)))) fun w30 =>
                    some ((((decide (w30 = (0 : Int))) && w29.Done) && (decide (w29.Value = (9 : UInt64)))))
theorem L_volumegrouplaw23_awake {W : World} {r : Bool} (h : volumegrouplaw23_awake = some r) :
    CSpec Try.prog W 16 [] [] (fun x : Unit => .bool r) (fun _ => True) (fun x F => F) := by
 refine CSpec.of_body Try.func16 rfl Try.ntmps16 rfl fun F => ?_
 show CJ _ _ _ _ _ _ (F)
 unfold volumegrouplaw23_awake at h
 refine sR <| oA rfl rfl <| nT <| sR <| oO <| O_call (c_begun) rfl Try.call7 Dels.nil rfl fun X1 _ => oM rfl rfl <| oP (P_extract rfl rfl) rfl <| oP (P_extract rfl rfl) rfl <| oA rfl rfl <| oA rfl rfl <| nT <| CJ_seq <| sR <| oM rfl rfl <| oP (P_eqlPN rfl rfl Try.underlying25) rfl <| oM rfl rfl <| gP (GY_yes rfl rfl rfl rfl) (P_move rfl) rfl ?_
 obtain ⟨hg1, h⟩ := grd_de h
 refine RJ_gy (GY_yes rfl rfl rfl rfl) <| O_call (c_CreateP hg1) rfl Try.call8 (Dels.cons del0 Dels.nil) rfl fun _ _ => gP (GY_yes rfl rfl rfl rfl) (P_neq (a := (Md.crE Mb2 (ByteArray.mk #[120]))) (b := (0 : Int)) rfl rfl) rfl <| oP (P_pickF rfl rfl rfl) rfl <| oM rfl rfl <| RJ_splitP 17 rfl bT_dec (fun hg2B hg2 => ?_) (fun hg2B hg2 => ?_)
 ·
  replace h := ite_t hg2 h
  refine RJ_gn (GY_no rfl rfl rfl hg2B) rfl rfl <| RJ_gn (GY_no rfl rfl rfl hg2B) rfl rfl <| RJ_gn (GY_no rfl rfl rfl hg2B) rfl rfl <| RJ_gn (GY_no rfl rfl rfl hg2B) rfl rfl <| RJ_gn (GY_no rfl rfl rfl hg2B) rfl rfl <| oP (P_pickT rfl hg2B rfl) rfl <| oM rfl rfl <| RJ_gn (GY_no rfl rfl rfl rfl) rfl rfl <| RJ_gn (GY_no rfl rfl rfl rfl) rfl rfl <| RJ_gn (GY_no rfl rfl rfl rfl) rfl rfl <| oP (P_pickT rfl rfl rfl) rfl <| oM rfl rfl <| RJ_gn (GY_no rfl rfl rfl rfl) rfl rfl <| RJ_gn (GY_no rfl rfl rfl rfl) rfl rfl <| RJ_gn (GY_no rfl rfl rfl rfl) rfl rfl <| oP (P_pickT rfl rfl rfl) rfl <| oM rfl rfl <| RJ_gn (GY_no rfl rfl rfl rfl) rfl rfl <| RJ_gn (GY_no rfl rfl rfl rfl) rfl rfl <| RJ_gn (GY_no rfl rfl rfl rfl) rfl rfl <| oP (P_pickT rfl rfl rfl) rfl <| nT <| CJ_condT rfl rfl <| sR <| oA rfl rfl <| nT <| CJ_ret <| QJ_then_ret ?_
  cases h
  exact fE (res1 Try.results16 rfl) () (eD (eD eR))
 ·
  replace h := ite_f hg2 h
  refine gP (GY_yes rfl rfl rfl hg2B) (P_move rfl) rfl <| gP (GY_yes rfl rfl rfl hg2B) (P_build rfl (bld_33_1_2 _ _)) rfl <| RJ_gy (GY_yes rfl rfl rfl hg2B) <| O_buildSlice rfl (bs_34_1_0 _ _ _ _ _) rfl fun b4 => RJ_ent (Ent.trans (t0_ eR) (sl_of_lit (t := tyapi_Target) (m := 1) [(⟨(0 : Int), (4 : Int), (ByteArray.mk #[100, 105, 115, 107, 48]), (0 : Int), false⟩ : api_Target)] rfl rfl rfl (by decide))) ?_
  obtain ⟨hg3, h⟩ := grd_de h
  refine RJ_gy (GY_yes rfl rfl rfl hg2B) <| O_call (c_LoadG (Reads.sl _ _ _) hg3 (v := ⟨_, _, _⟩)) rfl Try.call9 (Dels.cons del1 (Dels.cons del0 Dels.nil)) rfl fun _ _ => ?_
  obtain ⟨w5, hw5, h⟩ := lt_e h
  rw [← hw5]
  refine gP (GY_yes rfl rfl rfl hg2B) (P_neq (a := w5) (b := (0 : Int)) rfl rfl) rfl <| oP (P_pickF rfl hg2B rfl) rfl <| oM rfl rfl <| RJ_splitP 24 rfl bT_dec (fun hg4B hg4 => ?_) (fun hg4B hg4 => ?_)
  ·
   replace h := ite_t hg4 h
   refine RJ_gn (GY_no rfl rfl rfl hg4B) rfl rfl <| RJ_gn (GY_no rfl rfl rfl hg4B) rfl rfl <| RJ_gn (GY_no rfl rfl rfl hg4B) rfl rfl <| oP (P_pickT rfl hg4B rfl) rfl <| oM rfl rfl <| RJ_gn (GY_no rfl rfl rfl rfl) rfl rfl <| RJ_gn (GY_no rfl rfl rfl rfl) rfl rfl <| RJ_gn (GY_no rfl rfl rfl rfl) rfl rfl <| oP (P_pickT rfl rfl rfl) rfl <| oM rfl rfl <| RJ_gn (GY_no rfl rfl rfl rfl) rfl rfl <| RJ_gn (GY_no rfl rfl rfl rfl) rfl rfl <| RJ_gn (GY_no rfl rfl rfl rfl) rfl rfl <| oP (P_pickT rfl rfl rfl) rfl <| nT <| CJ_condT rfl rfl <| sR <| oA rfl rfl <| nT <| CJ_ret <| QJ_then_ret ?_
   cases h
   exact fE (res1 Try.results16 rfl) () (eD (eD (eD eR)))
  ·
   replace h := ite_f hg4 h
   refine gP (GY_yes rfl rfl rfl hg4B) (P_move rfl) rfl ?_
   obtain ⟨hg5, h⟩ := grd_de h
   refine RJ_gy (GY_yes rfl rfl rfl hg4B) <| O_call (c_SuspendP hg5) rfl Try.call10 (Dels.cons del0 Dels.nil) rfl fun _ _ => ?_
   obtain ⟨w6, hw6, h⟩ := lt_e h
   rw [← hw6]
   refine gP (GY_yes rfl rfl rfl hg4B) (P_neq (a := w6) (b := (0 : Int)) rfl rfl) rfl <| oP (P_pickF rfl hg4B rfl) rfl <| oM rfl rfl <| RJ_splitP 29 rfl bT_dec (fun hg6B hg6 => ?_) (fun hg6B hg6 => ?_)
   ·
    replace h := ite_t hg6 h
    refine RJ_gn (GY_no rfl rfl rfl hg6B) rfl rfl <| RJ_gn (GY_no rfl rfl rfl hg6B) rfl rfl <| RJ_gn (GY_no rfl rfl rfl hg6B) rfl rfl <| oP (P_pickT rfl hg6B rfl) rfl <| oM rfl rfl <| RJ_gn (GY_no rfl rfl rfl rfl) rfl rfl <| RJ_gn (GY_no rfl rfl rfl rfl) rfl rfl <| RJ_gn (GY_no rfl rfl rfl rfl) rfl rfl <| oP (P_pickT rfl rfl rfl) rfl <| nT <| CJ_condT rfl rfl <| sR <| oA rfl rfl <| nT <| CJ_ret <| QJ_then_ret ?_
    cases h
    exact fE (res1 Try.results16 rfl) () (eD (eD (eD eR)))
   ·
    replace h := ite_f hg6 h
    refine gP (GY_yes rfl rfl rfl hg6B) (P_move rfl) rfl ?_
    obtain ⟨hg7, h⟩ := grd_de h
    refine RJ_gy (GY_yes rfl rfl rfl hg6B) <| O_call (c_ResumeP hg7) rfl Try.call11 (Dels.cons del0 Dels.nil) rfl fun _ _ => ?_
    obtain ⟨w7, hw7, h⟩ := lt_e h
    rw [← hw7]
    refine gP (GY_yes rfl rfl rfl hg6B) (P_neq (a := w7) (b := (0 : Int)) rfl rfl) rfl <| oP (P_pickF rfl hg6B rfl) rfl <| oM rfl rfl <| RJ_splitP 34 rfl bT_dec (fun hg8B hg8 => ?_) (fun hg8B hg8 => ?_)
    ·
     replace h := ite_t hg8 h
     refine RJ_gn (GY_no rfl rfl rfl hg8B) rfl rfl <| RJ_gn (GY_no rfl rfl rfl hg8B) rfl rfl <| RJ_gn (GY_no rfl rfl rfl hg8B) rfl rfl <| oP (P_pickT rfl hg8B rfl) rfl <| nT <| CJ_condT rfl rfl <| sR <| oA rfl rfl <| nT <| CJ_ret <| QJ_then_ret ?_
     cases h
     exact fE (res1 Try.results16 rfl) () (eD (eD (eD eR)))
    ·
     replace h := ite_f hg8 h
     refine gP (GY_yes rfl rfl rfl hg8B) (P_move rfl) rfl ?_
     obtain ⟨hg9, h⟩ := grd_de h
     refine RJ_gy (GY_yes rfl rfl rfl hg8B) <| O_call (c_SuspendP hg9) rfl Try.call10 (Dels.cons del0 Dels.nil) rfl fun _ _ => ?_
     obtain ⟨w8, hw8, h⟩ := lt_e h
     rw [← hw8]
     refine gP (GY_yes rfl rfl rfl hg8B) (P_neq (a := w8) (b := (0 : Int)) rfl rfl) rfl <| oP (P_pickF rfl hg8B rfl) rfl <| nT <| CJ_condP rfl bT_dec (fun hg10 => ?_) (fun hg10 => ?_)
     ·
      replace h := ite_t hg10 h
      refine sR <| oA rfl rfl <| nT <| CJ_ret <| QJ_then_ret ?_
      cases h
      exact fE (res1 Try.results16 rfl) () (eD (eD (eD eR)))
     ·
      replace h := ite_f hg10 h
      refine kT <| sR <| oM rfl rfl <| oP (P_build rfl (bld_44_0_1_2 _ _ _)) rfl ?_
      obtain ⟨hg11, h⟩ := grd_de h
      refine oO <| O_call (c_DoG hg11) rfl Try.call14 (Dels.cons del0 Dels.nil) rfl fun _ _ => oM rfl rfl <| oP (P_extract rfl rfl) rfl ?_
      obtain ⟨w9, hw9, h⟩ := lt_e h
      rw [← hw9]
      refine oP (P_extract rfl rfl) rfl ?_
      obtain ⟨w10, hw10, h⟩ := lt_e h
      rw [← hw10]
      refine oO <| O_alloc Try.zeroValue40 rfl rfl fun b11 => oO <| O_storeN rfl rfl foc0 Try.sizeOf40 rfl rfl rfl <| oA rfl rfl <| nT <| CJ_seq <| sR <| oM rfl rfl <| oP (P_neq (a := w10) (b := (0 : Int)) rfl rfl) rfl <| oM rfl rfl <| RJ_mbF rfl rfl rfl (fun hG12 => have hP13 : ¬ (w10 ≠ (0 : Int)) := nP (bT_dec) hG12; VJ_P (P_fieldAddr rfl ⟨_, _, _, Try.runUnderlying40, rfl, rfl, Try.sizeOf4, rfl⟩)) <| RJ_mbF rfl rfl rfl (fun hG14 => have hP15 : ¬ (w10 ≠ (0 : Int)) := nP (bT_dec) hG14; V_load (mbx hG14 rfl) foc0 rfl Try.isAgg4) <| oP (P_pickOr rfl rfl (fun hh => mbx (not_f hh) rfl)) rfl <| oM rfl rfl <| RJ_mbF rfl rfl rfl (fun hG16 => have hP17 : ¬ ((w10 ≠ (0 : Int)) ∨ w9.Done = true) := nP ((bT_or bT_dec Iff.rfl)) hG16; VJ_P (P_fieldAddr rfl ⟨_, _, _, Try.runUnderlying40, rfl, rfl, Try.sizeOf3, rfl⟩)) <| RJ_mbF rfl rfl rfl (fun hG18 => have hP19 : ¬ ((w10 ≠ (0 : Int)) ∨ w9.Done = true) := nP ((bT_or bT_dec Iff.rfl)) hG18; V_load (mbx hG18 rfl) foc0 rfl Try.isAgg3) <| RJ_mbF rfl rfl rfl (fun hG20 => have hP21 : ¬ ((w10 ≠ (0 : Int)) ∨ w9.Done = true) := nP ((bT_or bT_dec Iff.rfl)) hG20; VJ_P (P_neq (a := w9.Ticket) (b := (1 : Int)) (mbx hG20 rfl) rfl)) <| oP (P_pickOr rfl rfl (fun hh => mbx (not_f hh) rfl)) rfl <| oM rfl rfl <| RJ_splitP 56 rfl (bT_or (bT_or bT_dec Iff.rfl) bT_dec) (fun hg12B hg12 => ?_) (fun hg12B hg12 => ?_)
      ·
       replace h := ite_t hg12 h
       refine RJ_gn (GY_no rfl rfl rfl hg12B) rfl rfl <| RJ_gn (GY_no rfl rfl rfl hg12B) rfl rfl <| RJ_gn (GY_no rfl rfl rfl hg12B) rfl rfl <| RJ_gn (GY_no rfl rfl rfl hg12B) rfl rfl <| RJ_gn (GY_no rfl rfl rfl hg12B) rfl rfl <| oP (P_pickT rfl hg12B rfl) rfl <| oM rfl rfl <| RJ_gn (GY_no rfl rfl rfl rfl) rfl rfl <| RJ_gn (GY_no rfl rfl rfl rfl) rfl rfl <| RJ_gn (GY_no rfl rfl rfl rfl) rfl rfl <| oP (P_pickT rfl rfl rfl) rfl <| oM rfl rfl <| RJ_gn (GY_no rfl rfl rfl rfl) rfl rfl <| RJ_gn (GY_no rfl rfl rfl rfl) rfl rfl <| RJ_gn (GY_no rfl rfl rfl rfl) rfl rfl <| RJ_gn (GY_no rfl rfl rfl rfl) rfl rfl <| oP (P_pickT rfl rfl rfl) rfl <| nT <| CJ_condT rfl rfl <| sR <| oA rfl rfl <| nT <| CJ_ret <| QJ_then_ret ?_
       cases h
       exact fE (res1 Try.results16 rfl) () (eD (eD (eD (eD eR))))
      ·
       replace h := ite_f hg12 h
       refine gP (GY_yes rfl rfl rfl hg12B) (P_move rfl) rfl <| gP (GY_yes rfl rfl rfl hg12B) (P_build rfl (bld_33_1_2_3 _ _ _)) rfl <| RJ_gy (GY_yes rfl rfl rfl hg12B) <| O_buildSlice rfl (bs_34_1_0 _ _ _ _ _) rfl fun b22 => RJ_ent (Ent.trans (t0_ eR) (sl_of_lit (t := tyapi_Target) (m := 1) [(⟨(0 : Int), (4 : Int), (ByteArray.mk #[100, 105, 115, 107, 49]), (2 : Int), false⟩ : api_Target)] rfl rfl rfl (by decide))) ?_
       obtain ⟨hg13, h⟩ := grd_de h
       refine RJ_gy (GY_yes rfl rfl rfl hg12B) <| O_call (c_LoadG (Reads.sl _ _ _) hg13 (v := ⟨_, _, _⟩)) rfl Try.call9 (Dels.cons del2 (Dels.cons del0 Dels.nil)) rfl fun _ _ => ?_
       obtain ⟨w23, hw23, h⟩ := lt_e h
       rw [← hw23]
       refine gP (GY_yes rfl rfl rfl hg12B) (P_neq (a := w23) (b := (0 : Int)) rfl rfl) rfl <| oP (P_pickF rfl hg12B rfl) rfl <| oM rfl rfl <| RJ_splitP 63 rfl bT_dec (fun hg14B hg14 => ?_) (fun hg14B hg14 => ?_)
       ·
        replace h := ite_t hg14 h
        refine RJ_gn (GY_no rfl rfl rfl hg14B) rfl rfl <| RJ_gn (GY_no rfl rfl rfl hg14B) rfl rfl <| RJ_gn (GY_no rfl rfl rfl hg14B) rfl rfl <| oP (P_pickT rfl hg14B rfl) rfl <| oM rfl rfl <| RJ_gn (GY_no rfl rfl rfl rfl) rfl rfl <| RJ_gn (GY_no rfl rfl rfl rfl) rfl rfl <| RJ_gn (GY_no rfl rfl rfl rfl) rfl rfl <| RJ_gn (GY_no rfl rfl rfl rfl) rfl rfl <| oP (P_pickT rfl rfl rfl) rfl <| nT <| CJ_condT rfl rfl <| sR <| oA rfl rfl <| nT <| CJ_ret <| QJ_then_ret ?_
        cases h
        exact fE (res1 Try.results16 rfl) () (eD (eD (eD (eD (eD eR)))))
       ·
        replace h := ite_f hg14 h
        refine gP (GY_yes rfl rfl rfl hg14B) (P_move rfl) rfl ?_
        obtain ⟨hg15, h⟩ := grd_de h
        refine RJ_gy (GY_yes rfl rfl rfl hg14B) <| O_call (c_ResumeP hg15) rfl Try.call11 (Dels.cons del0 Dels.nil) rfl fun _ _ => ?_
        obtain ⟨w24, hw24, h⟩ := lt_e h
        rw [← hw24]
        refine gP (GY_yes rfl rfl rfl hg14B) (P_neq (a := w24) (b := (0 : Int)) rfl rfl) rfl <| oP (P_pickF rfl hg14B rfl) rfl <| oM rfl rfl <| RJ_splitP 68 rfl bT_dec (fun hg16B hg16 => ?_) (fun hg16B hg16 => ?_)
        ·
         replace h := ite_t hg16 h
         refine RJ_gn (GY_no rfl rfl rfl hg16B) rfl rfl <| RJ_gn (GY_no rfl rfl rfl hg16B) rfl rfl <| RJ_gn (GY_no rfl rfl rfl hg16B) rfl rfl <| RJ_gn (GY_no rfl rfl rfl hg16B) rfl rfl <| oP (P_pickT rfl hg16B rfl) rfl <| nT <| CJ_condT rfl rfl <| sR <| oA rfl rfl <| nT <| CJ_ret <| QJ_then_ret ?_
         cases h
         exact fE (res1 Try.results16 rfl) () (eD (eD (eD (eD (eD eR)))))
        ·
         replace h := ite_f hg16 h
         refine gP (GY_yes rfl rfl rfl hg16B) (P_move rfl) rfl ?_
         obtain ⟨hg17, h⟩ := grd_de h
         refine RJ_gy (GY_yes rfl rfl rfl hg16B) <| O_call (c_AnswersP hg17) rfl Try.call15 (Dels.cons del0 Dels.nil) rfl fun X25 _ => RJ_pure (len_of (Reads.sl _ _ _) del0) fun hlen27 => gV (GY_yes rfl rfl rfl hg16B) (V_len rfl foc0 (Reads.sl _ _ _) Try.runUnderlying46) rfl ?_
         obtain ⟨w28, hw28, h⟩ := lt_e h
         rw [← hw28]
         refine gP (GY_yes rfl rfl rfl hg16B) (P_neq (a := ((w28 : Nat) : Int)) (b := (1 : Int)) rfl rfl) rfl <| oP (P_pickF rfl hg16B rfl) rfl <| nT <| CJ_condP rfl bT_dec (fun hg18 => ?_) (fun hg18 => ?_)
         ·
          replace h := ite_t hg18 h
          refine sR <| oA rfl rfl <| nT <| CJ_ret <| QJ_then_ret ?_
          cases h
          exact fE (res1 Try.results16 rfl) () (eD (eD (eD (eD (eD (eD eR))))))
         ·
          replace h := ite_f hg18 h
          refine kT <| sR <| oM rfl rfl <| oP (P_build rfl (bld_44_0_1 _ _)) rfl ?_
          obtain ⟨hg19, h⟩ := grd_de h
          refine oO <| O_call (c_DoG hg19) rfl Try.call14 (Dels.cons del1 Dels.nil) rfl fun _ _ => oM rfl rfl <| oP (P_extract rfl rfl) rfl ?_
          obtain ⟨w29, hw29, h⟩ := lt_e h
          rw [← hw29]
          refine oP (P_extract rfl rfl) rfl ?_
          obtain ⟨w30, hw30, h⟩ := lt_e h
          rw [← hw30]
          refine oO <| O_alloc Try.zeroValue40 rfl rfl fun b31 => oO <| O_storeN rfl rfl foc0 Try.sizeOf40 rfl rfl rfl <| oA rfl rfl <| RJ_nil <| QJ_ent (t0_ (eD (eD (eD (eD (eD (eD eR))))))) <| QJ_then <| sR <| oM rfl rfl <| oP (P_eql (a := w30) (b := (0 : Int)) rfl rfl) rfl <| oM rfl rfl <| RJ_mbT rfl rfl rfl (fun hG32 => have hP33 : (w30 = (0 : Int)) := (bT_dec).1 hG32; VJ_P (P_fieldAddr rfl ⟨_, _, _, Try.runUnderlying40, rfl, rfl, Try.sizeOf4, rfl⟩)) <| RJ_mbT rfl rfl rfl (fun hG34 => have hP35 : (w30 = (0 : Int)) := (bT_dec).1 hG34; V_load (mbx hG34 rfl) foc0 rfl Try.isAgg4) <| oP (P_pickAnd rfl (fun hh => mbx hh rfl) rfl) rfl <| oM rfl rfl <| RJ_mbT rfl rfl rfl (fun hG36 => have hP37 : ((w30 = (0 : Int)) ∧ w29.Done = true) := ((bT_and bT_dec Iff.rfl)).1 hG36; VJ_P (P_fieldAddr rfl ⟨_, _, _, Try.runUnderlying40, rfl, rfl, Try.sizeOf35, rfl⟩)) <| RJ_mbT rfl rfl rfl (fun hG38 => have hP39 : ((w30 = (0 : Int)) ∧ w29.Done = true) := ((bT_and bT_dec Iff.rfl)).1 hG38; V_load (mbx hG38 rfl) foc0 rfl Try.isAgg35) <| RJ_mbT rfl rfl rfl (fun hG40 => have hP41 : ((w30 = (0 : Int)) ∧ w29.Done = true) := ((bT_and bT_dec Iff.rfl)).1 hG40; VJ_P (P_eq_u64 (a := w29.Value) (b := (9 : UInt64)) (mbx hG40 rfl) rfl)) <| oP (P_pickAnd rfl (fun hh => mbx hh rfl) rfl) rfl <| oA rfl rfl <| nT <| CJ_ret ?_
          cases h
          exact fE (res1 Try.results16 rfl) () (eD eR)
end Go.Proofs
namespace Go.Proofs
open Go.VG
theorem awake23_eq : volumegrouplaw23_awake = some true := by kernel_rfl
end Go.Proofs
set_option linter.unusedSimpArgs false
set_option maxRecDepth 20000
namespace Go.Proofs
open Go.VG
theorem CLaw9_bs_45_3_0_1_2 (v0 : ByteArray) (v1 : ByteArray) (v2 : ByteArray) : BuildsSlice Try.prog 45 3 [(0, .string v0), (1, .string v1), (2, .string v2)] 9 [.string v0, .string v1, .string v2] := fun w => by kernel_rfl
theorem CLaw9_bld_33_1_2_3 (v0 : Int) (v1 : ByteArray) (v2 : Int) : ∀ w, (Instr.build 33 (#[(1, .int .i64 v0), (2, .string v1), (3, .int .i64 v2)] : Array (Nat × Value))).run Try.prog w = .ok (.agg #[.int .i64 0, .int .i64 v0, .string v1, .int .i64 v2, .bool false]) w := fun w => by kernel_rfl
theorem CLaw9_bs_34_1_0 (v0 : Int) (v1 : Int) (v2 : ByteArray) (v3 : Int) (v4 : Bool) : BuildsSlice Try.prog 34 1 [(0, .agg #[.int .i64 v0, .int .i64 v1, .string v2, .int .i64 v3, .bool v4])] 33 [.int .i64 v0, .int .i64 v1, .string v2, .int .i64 v3, .bool v4] := fun w => by kernel_rfl
theorem CLaw9_bld_33_1_2 (v0 : Int) (v1 : ByteArray) : ∀ w, (Instr.build 33 (#[(1, .int .i64 v0), (2, .string v1)] : Array (Nat × Value))).run Try.prog w = .ok (.agg #[.int .i64 0, .int .i64 v0, .string v1, .int .i64 0, .bool false]) w := fun w => by kernel_rfl
theorem CLaw9_bld_54_ : ∀ w, (Instr.build 54 (#[] : Array (Nat × Value))).run Try.prog w = .ok (.agg #[.bool false, .bool false, .bool false]) w := fun w => by kernel_rfl
abbrev abC (t0 t1 t2 : Nat) : List Value := [.bool (ab t0 t1 t2 0 0), .bool (ab t0 t1 t2 0 1), .bool (ab t0 t1 t2 0 2), .bool (ab t0 t1 t2 1 0), .bool (ab t0 t1 t2 1 1), .bool (ab t0 t1 t2 1 2), .bool (ab t0 t1 t2 2 0), .bool (ab t0 t1 t2 2 1), .bool (ab t0 t1 t2 2 2)]
theorem abC_at {t0 t1 t2 i j : Nat} (hi : i < 3) (hj : j < 3) : (abC t0 t1 t2)[0 + i * 3 + j * 1]? = some (.bool (ab t0 t1 t2 i j)) := by rcases i3 hi with rfl | rfl | rfl <;> rcases i3 hj with rfl | rfl | rfl <;> rfl
theorem abC_up {t0 t1 t2 x y : Nat} (hx : x < 3) (hy : y < 3) : (patch (abC t0 t1 t2) (0 + x * 3) [.bool false, .bool false, .bool false]).set (0 + x * 3 + y * 1) (.bool true) = abC (up x y t0 0) (up x y t1 1) (up x y t2 2) := by rcases i3 hx with rfl | rfl | rfl <;> rcases i3 hy with rfl | rfl | rfl <;> rfl
theorem abC_l1 {t0 t1 t2 x : Nat} (hx : x < 3) : Nat.ble (0 + x * 3 + 3) (abC t0 t1 t2).length = true := by rcases i3 hx with rfl | rfl | rfl <;> rfl
theorem abC_l2 {t0 t1 t2 x y : Nat} {l : List Value} (hx : x < 3) (hy : y < 3) (hl : l.length = 3) : Nat.blt (0 + x * 3 + y * 1) (patch (abC t0 t1 t2) (0 + x * 3) l).length = true := by
  match l, hl with
  | [a, b, c], _ => rcases i3 hx with rfl | rfl | rfl <;> rcases i3 hy with rfl | rfl | rfl <;> rfl
section
variable {P : Program} {n : Env} {s : Slots} {dst : Option Tmp} {ty : TypeId} {pos : String} {after : Array Edge} {g : Option (Nat × Bool)}
theorem P_indexArrO {x ix : Operand} {T E : TypeId} {k : IntKind} {b off i len sz : Nat} {a : Int} (hx : ev s x = some (ptr b off)) (hi : ev s ix = some (.int k a)) (ha : a = (i : Int)) (hlt : i < len)
    (hT : ∀ w, (underlying T).run P w = .ok (.array len E) w) (hE : ∀ w, (sizeOf E).run P w = .ok sz w) : PJ P n ⟨dst, .indexAddr T x ix, ty, pos, after, g⟩ s (ptr b (off + i * sz)) := by
  subst ha
  exact P_indexArr hx hi (by simpa using hlt) hT hE
end
section
variable {t0 t1 t2 x y c i k b q : Nat} {W : World}
theorem c_cyCr (h : i < 3) : CSpec Try.prog W 8 [ptr b 0, .string (nm3 i)] [MapP b (cyI i)] (fun _ : Unit => .int .i64 0) (fun _ => True) (fun _ F => MapP b (cy1 i) :: F) := by
  have h1 := c_CreateP (W := W) (b := b) (n := nm3 i) (m := cyI i) (by show 4 * i < 4000; omega)
  rw [(cy_cr h).1] at h1; exact h1
theorem c_cyLd (h : i < 3) : CSpec Try.prog W 9 [ptr b 0, .string (nm3 i), .slice (some ⟨q, 0, none⟩) 1 1] [MapP b (cy1 i), sl tyapi_Target (.slice (some ⟨q, 0, none⟩) 1 1) (tb3 i 0)] (fun _ : Unit => .int .i64 0) (fun _ => True) (fun _ F => MapP b (cy2 i) :: sl tyapi_Target (.slice (some ⟨q, 0, none⟩) 1 1) (tb3 i 0) :: F) := by
  have h1 := c_LoadP (W := W) (b := b) (n := nm3 i) (m := cy1 i) (v := ⟨some ⟨q, 0, none⟩, 1, 1⟩) (l := tb3 i 0) (Reads.sl _ _ _) (by rw [(cy_cr h).2]; omega) (by show 1 ≤ 100000000; omega)
  rw [(cy_ld h).1] at h1; exact h1
theorem c_cySu (h : i < 3) : CSpec Try.prog W 10 [ptr b 0, .string (nm3 i)] [MapP b (cy2 i)] (fun _ : Unit => .int .i64 0) (fun _ => True) (fun _ F => MapP b (cy3 i) :: F) := by
  have h1 := c_SuspendP (W := W) (b := b) (n := nm3 i) (m := cy2 i) (by rw [(cy_ld h).2]; omega)
  rw [(cy_su h).1] at h1; exact h1
theorem c_cyRs (h : i < 3) : CSpec Try.prog W 11 [ptr b 0, .string (nm3 i)] [MapP b (cy3 i)] (fun _ : Unit => .int .i64 0) (fun _ => True) (fun _ F => MapP b (cyI (i + 1)) :: F) := by
  have h1 := c_ResumeP (W := W) (b := b) (n := nm3 i) (m := cy3 i) (by rw [(cy_su h).2]; omega)
  rw [(cy_rs h).1, (cy_rs h).2] at h1; exact h1
theorem c_mLd (hv : (t0, t1, t2) ∈ VL) (hx : x < 3) (hy : y < 3) (hc : c < 3000) : CSpec Try.prog W 9 [ptr b 0, .string (nm3 x), .slice (some ⟨q, 0, none⟩) 1 1] [MapP b (cyM t0 t1 t2 c), sl tyapi_Target (.slice (some ⟨q, 0, none⟩) 1 1) [⟨0, 3, nm3 y, 0, false⟩]] (fun _ : Unit => .int .i64 (if rch t0 t1 t2 x y 3 then 21 else 0)) (fun _ => True) (fun _ F => MapP b (cyL t0 t1 t2 x y c) :: sl tyapi_Target (.slice (some ⟨q, 0, none⟩) 1 1) [⟨0, 3, nm3 y, 0, false⟩] :: F) := by
  have h1 := c_LoadP (W := W) (b := b) (n := nm3 x) (m := cyM t0 t1 t2 c) (v := ⟨some ⟨q, 0, none⟩, 1, 1⟩) (l := [⟨0, 3, nm3 y, 0, false⟩]) (Reads.sl _ _ _) (by show c < 4000; omega) (by show 1 ≤ 100000000; omega)
  rw [(cyM_ld hv hx hy).1] at h1; exact h1
theorem CSpec.conseq3 {P : Program} {W : World} {f : FuncId} {args : List Value} {pre pre' : List HP} {X : Type} {res : X → Value} {pf : X → Prop} {post : X → List HP → List HP} (h : CSpec P W f args pre res pf post) (h1 : ∀ F, Ent (pre' ++ F) (pre ++ F)) : CSpec P W f args pre' res pf post := by
  intro F w hs
  exact h F w (hs.imp (h1 F))
theorem c_mLdB (hv : (t0, t1, t2) ∈ VL) (hx : x < 3) (hy : y < 3) (hc : c < 3000) : CSpec Try.prog W 9 [ptr b 0, .string (nm3 x), .slice (some ⟨q, 0, none⟩) 1 1] [MapP b (cyM t0 t1 t2 c), blk q 33 [.int .i64 0, .int .i64 3, .string (nm3 y), .int .i64 0, .bool false]] (fun _ : Unit => .int .i64 (if rch t0 t1 t2 x y 3 then 21 else 0)) (fun _ => True) (fun _ F => MapP b (cyL t0 t1 t2 x y c) :: sl tyapi_Target (.slice (some ⟨q, 0, none⟩) 1 1) [⟨0, 3, nm3 y, 0, false⟩] :: F) :=
  CSpec.conseq3 (c_mLd hv hx hy hc) (fun F => Ent.trans (Ent.take del1 Ent.refl) (Ent.trans (sl_of_lit (t := tyapi_Target) (m := 1) [⟨0, 3, nm3 y, 0, false⟩] rfl rfl rfl (by decide)) (Ent.take del1 Ent.refl)))
theorem c_mSu (hv : (t0, t1, t2) ∈ VL) (hx : x < 3) (hy : y < 3) (hr : rch t0 t1 t2 x y 3 = false) (hc : c < 3000) : CSpec Try.prog W 10 [ptr b 0, .string (nm3 x)] [MapP b (cyL t0 t1 t2 x y c)] (fun _ : Unit => .int .i64 0) (fun _ => True) (fun _ F => MapP b (cyS t0 t1 t2 x y c) :: F) := by
  have h1 := c_SuspendP (W := W) (b := b) (n := nm3 x) (m := cyL t0 t1 t2 x y c) (by rw [(cyM_ld hv hx hy).2]; omega)
  rw [(cyM_su hv hx hy hr).1] at h1; exact h1
theorem c_mRs (hv : (t0, t1, t2) ∈ VL) (hx : x < 3) (hy : y < 3) (hr : rch t0 t1 t2 x y 3 = false) (hc : c < 3000) : CSpec Try.prog W 11 [ptr b 0, .string (nm3 x)] [MapP b (cyS t0 t1 t2 x y c)] (fun _ : Unit => .int .i64 0) (fun _ => True) (fun _ F => MapP b (cyM (up x y t0 0) (up x y t1 1) (up x y t2 2) (c + 3)) :: F) := by
  have h1 := c_ResumeP (W := W) (b := b) (n := nm3 x) (m := cyS t0 t1 t2 x y c) (by rw [(cyM_su hv hx hy hr).2.1]; omega)
  rw [(cyM_su hv hx hy hr).2.2.1, (cyM_su hv hx hy hr).2.2.2.1] at h1; exact h1
theorem c_mRm (hv : (t0, t1, t2) ∈ VL) (hk : k < 3) (hu : (ab t0 t1 t2 0 k || ab t0 t1 t2 1 k || ab t0 t1 t2 2 k) = true) (hc : c < 3000) : CSpec Try.prog W 19 [ptr b 0, .string (nm3 k)] [MapP b (cyM t0 t1 t2 c)] (fun _ : Unit => .int .i64 16) (fun _ => True) (fun _ F => MapP b (cyM t0 t1 t2 (c + 1)) :: F) := by
  have h1 := c_RemoveP (W := W) (b := b) (n := nm3 k) (m := cyM t0 t1 t2 c) (by show c < 4000; omega)
  rw [(cyM_rm hv hk hu).1, (cyM_rm hv hk hu).2] at h1; exact h1
end
theorem c_sN3 {W : World} {sb : Nat} {a : Int} {v : Value} {L : List Int} {A : HP} (hA : Reads A tyI v L) (hL : L.length ≤ 1000) (ha : 0 ≤ a ∧ a ≤ 1000) :
    CSpec Try.prog W 12 [ptr sb 0, .int .i64 3] [blk sb 58 [v, .int .i64 a], A] (fun x : Nat × Int => .int .i64 (x.1 : Int)) (fun x => (0 ≤ x.2 ∧ x.2 ≤ 1000) ∧ x.1 < 3) (fun x F => blk sb 58 [v, .int .i64 x.2] :: A :: F) := by
  intro F w hs
  refine (c_sN hA hL ha (n := 3) (by omega) F w hs).mono ?_
  rintro e w' ⟨x, h1, h2, h3⟩
  have h4 := h2.2.1.1
  have h5 := h2.2.2 (by omega)
  exact ⟨⟨x.1.toNat, x.2⟩, by rw [h1]; dsimp only; rw [Int.toNat_of_nonneg h4], ⟨h2.1, by show x.1.toNat < 3; omega⟩, h3⟩
set_option maxHeartbeats 1000000 in
theorem c_MapperCycles {W : World} {A : HP} {v : Sl3} {L : List Int} (hA : Reads A tyI v.v L) (hL : L.length ≤ 9223372036854775807) :
    CSpec Try.prog W 5 [v.v] [A] (fun _ : Unit => .bool true) (fun _ => True) (fun _ F => A :: F) := by
 refine CSpec.of_body Try.func5 rfl Try.ntmps5 rfl fun F => ?_
 show CJ _ _ _ _ _ _ (_ :: F)
 refine sR <| oA rfl rfl <| nT <| sR <| oM rfl rfl <| oO <| O_call ((c_sNew hA hL)) rfl Try.call6 (Dels.cons del0 Dels.nil) rfl fun sw ⟨L2, hL2, hA2⟩ => oA rfl rfl <| nT <| sR <| oO <| O_call (c_begun) rfl Try.call7 Dels.nil rfl fun bg hc5 => oM rfl rfl <| oP (P_extract rfl rfl) rfl <| oP (P_extract rfl rfl) rfl <| oA rfl rfl <| oA rfl rfl <| nT <| CJ_seq <| sR <| oM rfl rfl <| oP (P_eqlPN rfl rfl Try.underlying25) rfl <| nT <| CJ_condF rfl rfl <| kT <| sR <| oO <| O_buildSlice rfl (CLaw9_bs_45_3_0_1_2 _ _ _) rfl fun b6 => RJ_ent (Ent.trans (t0_ eR) (sl_of_lit (t := tyS) (m := 3) nmL rfl rfl rfl (by decide))) <| oA rfl rfl <| nT <| CJ_seq <| sR <| oA rfl rfl <| nT <| CJ_block <| CJ_loopR (X := Nat) [2, 7, 26, 27, 28, 29, 30, 31, 32, 33, 34, 35, 36, 37, 38, 39, 40, 41, 42, 43, 44, 45, 46, 47, 48, 49, 50, 51, 52, 53, 54, 55, 56, 57, 58, 59, 60, 61, 62, 63, 64, 65, 66] (fun i  => ([(7, .int .i64 (i : Nat))] : Slots)) (fun i R => MapP bg.1 (cyI i) :: R) (fun i  => i ≤ 3) (fun i  => 3 - i) (0) ?_ ?_ (Ent.takeC del1 (by rw [cyI_0]) (t0_ (t0_ (t0_ (t0_ eR))))) ?_
 · exact Nat.zero_le _
 · exact ⟨rfl, True.intro⟩
 ·
  intro i hi
  show CJ _ _ _ _ _ (([(7, .int .i64 (i : Nat))] : Slots) ++ forget _ _) (MapP bg.1 (cyI i) :: _)
  refine CJ_seq <| sR <| oM rfl rfl <| oP (P_lss rfl rfl) rfl <| nT ?_
  first | (refine CJ_condD rfl (fun hg1 => ?_) (fun hg1 => ?_)) | (refine CJ_condN rfl (fun hg1 => ?_) (fun hg1 => ?_)) | (refine CJ_cond rfl (fun hg1 => ?_) (fun hg1 => ?_))
  ·
   refine kT <| CJ_seq <| CJ_block <| sR <| oM rfl rfl <| oM rfl rfl <| oM rfl rfl <| oV (V_index rfl rfl rfl (by show i < 3; omega) foc1 (Reads.sl _ _ _) Try.runUnderlying45 Try.sizeOf9) rfl <| oV (V_loadE rfl rfl (by first | omega | (show i < 3; omega) | (show x < 3; omega) | (show y < 3; omega) | (show j < 3; omega)) foc1 (Reads.sl _ _ _) rfl rfl Try.isAgg9) rfl <| oO <| O_call ((c_cyCr (i := i) (by omega))) rfl Try.call8 (Dels.cons del0 Dels.nil) rfl fun _ hc7 => oP (P_neq rfl rfl) rfl <| oM rfl rfl ?_
   first | (refine RJ_splitD 37 rfl (fun hg2B hg2 => ?_) (fun hg2B hg2 => ?_)) | (refine RJ_splitN 37 rfl (fun hg2B hg2 => ?_) (fun hg2B hg2 => ?_)) | (refine RJ_split 37 rfl (fun hg2B => ?_) (fun hg2B => ?_))
   ·
    refine RJ_gn (GY_no rfl rfl rfl hg2B) rfl rfl <| RJ_gn (GY_no rfl rfl rfl hg2B) rfl rfl <| RJ_gn (GY_no rfl rfl rfl hg2B) rfl rfl <| RJ_gn (GY_no rfl rfl rfl hg2B) rfl rfl <| RJ_gn (GY_no rfl rfl rfl hg2B) rfl rfl <| RJ_gn (GY_no rfl rfl rfl hg2B) rfl rfl <| RJ_gn (GY_no rfl rfl rfl hg2B) rfl rfl <| RJ_gn (GY_no rfl rfl rfl hg2B) rfl rfl <| RJ_gn (GY_no rfl rfl rfl hg2B) rfl rfl <| RJ_gn (GY_no rfl rfl rfl hg2B) rfl rfl <| oP (P_pickT rfl hg2B rfl) rfl <| oM rfl rfl <| RJ_gn (GY_no rfl rfl rfl rfl) rfl rfl <| RJ_gn (GY_no rfl rfl rfl rfl) rfl rfl <| RJ_gn (GY_no rfl rfl rfl rfl) rfl rfl <| RJ_gn (GY_no rfl rfl rfl rfl) rfl rfl <| RJ_gn (GY_no rfl rfl rfl rfl) rfl rfl <| RJ_gn (GY_no rfl rfl rfl rfl) rfl rfl <| RJ_gn (GY_no rfl rfl rfl rfl) rfl rfl <| oP (P_pickT rfl rfl rfl) rfl <| oM rfl rfl <| RJ_gn (GY_no rfl rfl rfl rfl) rfl rfl <| RJ_gn (GY_no rfl rfl rfl rfl) rfl rfl <| RJ_gn (GY_no rfl rfl rfl rfl) rfl rfl <| RJ_gn (GY_no rfl rfl rfl rfl) rfl rfl <| RJ_gn (GY_no rfl rfl rfl rfl) rfl rfl <| RJ_gn (GY_no rfl rfl rfl rfl) rfl rfl <| RJ_gn (GY_no rfl rfl rfl rfl) rfl rfl <| oP (P_pickT rfl rfl rfl) rfl <| nT <| CJ_condT rfl rfl <| sR <| oA rfl rfl <| nT <| CJ_ret <| QJ_block_ret <| QJ_then_ret <| QJ_round_ret <| QJ_block_ret <| QJ_then_ret ?_
    exfalso; first | omega | (simp_all; done) | (cases hq : rch t0 t1 t2 x y 3 <;> simp_all)
   ·
    refine gP (GY_yes rfl rfl rfl hg2B) (P_move rfl) rfl <| gP (GY_yes rfl rfl rfl hg2B) (P_move rfl) rfl <| gP (GY_yes rfl rfl rfl hg2B) (P_move rfl) rfl <| gV (GY_yes rfl rfl rfl hg2B) (V_index rfl rfl rfl (by show i < 3; omega) foc1 (Reads.sl _ _ _) Try.runUnderlying45 Try.sizeOf9) rfl <| gV (GY_yes rfl rfl rfl hg2B) (V_loadE rfl rfl (by first | omega | (show i < 3; omega) | (show x < 3; omega) | (show y < 3; omega) | (show j < 3; omega)) foc1 (Reads.sl _ _ _) rfl rfl Try.isAgg9) rfl <| gP (GY_yes rfl rfl rfl hg2B) (P_move rfl) rfl <| gP (GY_yes rfl rfl rfl hg2B) (P_build rfl (CLaw9_bld_33_1_2_3 _ _ _)) rfl <| RJ_gy (GY_yes rfl rfl rfl hg2B) <| O_buildSlice rfl (CLaw9_bs_34_1_0 _ _ _ _ _) rfl fun b8 => RJ_ent (Ent.trans (t0_ eR) (sl_of_lit (t := tyapi_Target) (m := 1) (tb3 i 0) rfl rfl rfl (by decide))) <| RJ_gy (GY_yes rfl rfl rfl hg2B) <| O_call ((c_cyLd (i := i) (by omega))) rfl Try.call9 (Dels.cons del1 (Dels.cons del0 Dels.nil)) rfl fun _ hc9 => gP (GY_yes rfl rfl rfl hg2B) (P_neq rfl rfl) rfl <| oP (P_pickF rfl hg2B rfl) rfl <| oM rfl rfl ?_
    first | (refine RJ_splitD 49 rfl (fun hg3B hg3 => ?_) (fun hg3B hg3 => ?_)) | (refine RJ_splitN 49 rfl (fun hg3B hg3 => ?_) (fun hg3B hg3 => ?_)) | (refine RJ_split 49 rfl (fun hg3B => ?_) (fun hg3B => ?_))
    ·
     refine RJ_gn (GY_no rfl rfl rfl hg3B) rfl rfl <| RJ_gn (GY_no rfl rfl rfl hg3B) rfl rfl <| RJ_gn (GY_no rfl rfl rfl hg3B) rfl rfl <| RJ_gn (GY_no rfl rfl rfl hg3B) rfl rfl <| RJ_gn (GY_no rfl rfl rfl hg3B) rfl rfl <| RJ_gn (GY_no rfl rfl rfl hg3B) rfl rfl <| RJ_gn (GY_no rfl rfl rfl hg3B) rfl rfl <| oP (P_pickT rfl hg3B rfl) rfl <| oM rfl rfl <| RJ_gn (GY_no rfl rfl rfl rfl) rfl rfl <| RJ_gn (GY_no rfl rfl rfl rfl) rfl rfl <| RJ_gn (GY_no rfl rfl rfl rfl) rfl rfl <| RJ_gn (GY_no rfl rfl rfl rfl) rfl rfl <| RJ_gn (GY_no rfl rfl rfl rfl) rfl rfl <| RJ_gn (GY_no rfl rfl rfl rfl) rfl rfl <| RJ_gn (GY_no rfl rfl rfl rfl) rfl rfl <| oP (P_pickT rfl rfl rfl) rfl <| nT <| CJ_condT rfl rfl <| sR <| oA rfl rfl <| nT <| CJ_ret <| QJ_block_ret <| QJ_then_ret <| QJ_round_ret <| QJ_block_ret <| QJ_then_ret ?_
     exfalso; first | omega | (simp_all; done) | (cases hq : rch t0 t1 t2 x y 3 <;> simp_all)
    ·
     refine gP (GY_yes rfl rfl rfl hg3B) (P_move rfl) rfl <| gP (GY_yes rfl rfl rfl hg3B) (P_move rfl) rfl <| gP (GY_yes rfl rfl rfl hg3B) (P_move rfl) rfl <| gV (GY_yes rfl rfl rfl hg3B) (V_index rfl rfl rfl (by show i < 3; omega) foc2 (Reads.sl _ _ _) Try.runUnderlying45 Try.sizeOf9) rfl <| gV (GY_yes rfl rfl rfl hg3B) (V_loadE rfl rfl (by first | omega | (show i < 3; omega) | (show x < 3; omega) | (show y < 3; omega) | (show j < 3; omega)) foc2 (Reads.sl _ _ _) rfl rfl Try.isAgg9) rfl <| RJ_gy (GY_yes rfl rfl rfl hg3B) <| O_call ((c_cySu (i := i) (by omega))) rfl Try.call10 (Dels.cons del0 Dels.nil) rfl fun _ hc10 => gP (GY_yes rfl rfl rfl hg3B) (P_neq rfl rfl) rfl <| oP (P_pickF rfl hg3B rfl) rfl <| oM rfl rfl ?_
     first | (refine RJ_splitD 58 rfl (fun hg4B hg4 => ?_) (fun hg4B hg4 => ?_)) | (refine RJ_splitN 58 rfl (fun hg4B hg4 => ?_) (fun hg4B hg4 => ?_)) | (refine RJ_split 58 rfl (fun hg4B => ?_) (fun hg4B => ?_))
     ·
      refine RJ_gn (GY_no rfl rfl rfl hg4B) rfl rfl <| RJ_gn (GY_no rfl rfl rfl hg4B) rfl rfl <| RJ_gn (GY_no rfl rfl rfl hg4B) rfl rfl <| RJ_gn (GY_no rfl rfl rfl hg4B) rfl rfl <| RJ_gn (GY_no rfl rfl rfl hg4B) rfl rfl <| RJ_gn (GY_no rfl rfl rfl hg4B) rfl rfl <| RJ_gn (GY_no rfl rfl rfl hg4B) rfl rfl <| oP (P_pickT rfl hg4B rfl) rfl <| nT <| CJ_condT rfl rfl <| sR <| oA rfl rfl <| nT <| CJ_ret <| QJ_block_ret <| QJ_then_ret <| QJ_round_ret <| QJ_block_ret <| QJ_then_ret ?_
      exfalso; first | omega | (simp_all; done) | (cases hq : rch t0 t1 t2 x y 3 <;> simp_all)
     ·
      refine gP (GY_yes rfl rfl rfl hg4B) (P_move rfl) rfl <| gP (GY_yes rfl rfl rfl hg4B) (P_move rfl) rfl <| gP (GY_yes rfl rfl rfl hg4B) (P_move rfl) rfl <| gV (GY_yes rfl rfl rfl hg4B) (V_index rfl rfl rfl (by show i < 3; omega) foc2 (Reads.sl _ _ _) Try.runUnderlying45 Try.sizeOf9) rfl <| gV (GY_yes rfl rfl rfl hg4B) (V_loadE rfl rfl (by first | omega | (show i < 3; omega) | (show x < 3; omega) | (show y < 3; omega) | (show j < 3; omega)) foc2 (Reads.sl _ _ _) rfl rfl Try.isAgg9) rfl <| RJ_gy (GY_yes rfl rfl rfl hg4B) <| O_call ((c_cyRs (i := i) (by omega))) rfl Try.call11 (Dels.cons del0 Dels.nil) rfl fun _ hc11 => gP (GY_yes rfl rfl rfl hg4B) (P_neq rfl rfl) rfl <| oP (P_pickF rfl hg4B rfl) rfl <| nT ?_
      first | (refine CJ_condD rfl (fun hg5 => ?_) (fun hg5 => ?_)) | (refine CJ_condN rfl (fun hg5 => ?_) (fun hg5 => ?_)) | (refine CJ_cond rfl (fun hg5 => ?_) (fun hg5 => ?_))
      ·
       refine sR <| oA rfl rfl <| nT <| CJ_ret <| QJ_block_ret <| QJ_then_ret <| QJ_round_ret <| QJ_block_ret <| QJ_then_ret ?_
       exfalso; first | omega | (simp_all; done) | (cases hq : rch t0 t1 t2 x y 3 <;> simp_all)
      ·
       refine CJ_skip <| QJ_block_normal <| QJ_then <| CJ_region <| oM rfl rfl <| oP (P_add rfl rfl (by first | omega | (show i < 3; omega) | (show x < 3; omega) | (show y < 3; omega) | (show j < 3; omega))) rfl <| oA rfl rfl <| RJ_nil <| QJ_nextR (i + 1) (by first | omega | (simp only []; omega)) ?_ (by repeat (first | exact Kp.base | exact Kp.self | refine Kp.cons rfl ?_ | refine Kp.forget rfl ?_)) ?_ (t0_ (t1_ (t1_ (t1_ (t1_ (eD eR))))))
       · omega
       · exact ⟨rfl, True.intro⟩
  ·
   refine CJ_exit <| QJ_then_exit <| QJ_round_exit <| QJ_block_here <| QJ_then <| CJ_seq ?_
   obtain rfl : i = 3 := by omega
   rw [cyI_3]
   refine CJ_region <| oO <| O_alloc Try.zeroValue55 rfl rfl fun b12 => nT <| CJ_seq <| sR <| oM rfl rfl <| oO <| O_call ((c_sN hA2 hL2 (by omega) (n := 16) (by omega))) rfl Try.call12 (Dels.cons del4 (Dels.cons del4 Dels.nil)) rfl fun sn hsn => oA rfl rfl <| nT <| CJ_block <| CJ_loopR (X := Int × Int × Nat × Nat × Nat × Nat) [2, 9, 10, 11, 12, 13, 14, 15, 16, 69, 70, 71, 72, 73, 74, 75, 76, 77, 78, 79, 80, 81, 82, 83, 84, 85, 86, 87, 88, 89, 90, 91, 92, 93, 94, 95, 96, 97, 98, 99, 100, 101, 102, 103, 104, 105, 106, 107, 108, 109, 110, 111, 112, 113, 114, 115, 116, 117, 118, 119, 120, 121, 122, 123, 124, 125, 126, 127, 128, 129, 130, 131, 132, 133, 134, 135, 136, 137, 138, 139, 140, 141, 142, 143, 144, 145, 146, 147, 148, 149, 150, 151, 152, 153, 154, 155, 156, 157, 158, 159, 160, 161, 162, 163, 164, 165, 166, 167, 168, 169, 170, 171, 172, 173, 174, 175, 176, 177, 178, 179, 180, 181, 182, 183, 184] (fun ⟨i, a, t0, t1, t2, c⟩  => ([(9, .int .i64 i)] : Slots)) (fun ⟨i, a, t0, t1, t2, c⟩ R => blk sw.1 58 [sw.2, .int .i64 a] :: MapP bg.1 (cyM t0 t1 t2 c) :: blk b12 55 (abC t0 t1 t2) :: R) (fun ⟨i, a, t0, t1, t2, c⟩  => 0 ≤ i ∧ i ≤ 16 ∧ (c : Int) ≤ 124 - 7 * i ∧ (t0, t1, t2) ∈ VL ∧ 0 ≤ a ∧ a ≤ 1000) (fun ⟨i, a, t0, t1, t2, c⟩  => i.toNat) ⟨sn.1, sn.2, 0, 0, 0, 12⟩ ?_ ?_ (t0_ (t2_ (Ent.takeC del1 (show _ = blk b12 55 (abC 0 0 0) from rfl) (t0_ (t0_ (t0_ eR)))))) ?_
   · exact ⟨by omega, by omega, by omega, by decide, hsn.1⟩
   · exact ⟨rfl, True.intro⟩
   ·
    rintro ⟨i, a, t0, t1, t2, c⟩ ⟨hi0, hi1, hcl, hv, ha⟩
    show CJ _ _ _ _ _ (([(9, .int .i64 i)] : Slots) ++ forget _ _) (blk sw.1 58 [sw.2, .int .i64 a] :: MapP bg.1 (cyM t0 t1 t2 c) :: blk b12 55 (abC t0 t1 t2) :: _)
    refine CJ_seq <| sR <| oM rfl rfl <| oP (P_gtr rfl rfl) rfl <| nT ?_
    first | (refine CJ_condD rfl (fun hg6 => ?_) (fun hg6 => ?_)) | (refine CJ_condN rfl (fun hg6 => ?_) (fun hg6 => ?_)) | (refine CJ_cond rfl (fun hg6 => ?_) (fun hg6 => ?_))
    ·
     refine kT <| CJ_seq <| CJ_block <| sR <| oM rfl rfl <| oO <| O_call ((c_sN3 hA2 hL2 ha)) rfl Try.call12 (Dels.cons del0 (Dels.cons del2 Dels.nil)) rfl fun ⟨x, sx⟩ ⟨hsx, hx⟩ => oM rfl rfl <| oO <| O_call ((c_sN3 hA2 hL2 hsx)) rfl Try.call12 (Dels.cons del0 (Dels.cons del0 Dels.nil)) rfl fun ⟨y, sy⟩ ⟨hsy, hy⟩ => oA rfl rfl <| oA rfl rfl <| nT <| CJ_seq <| AJ_startH 2048 (by kernel_rfl) rfl <| aN 0 1 rfl rfl (P_move rfl) rfl <| aN 1 3 rfl rfl (P_move rfl) rfl <| aN 2 7 rfl rfl (P_move rfl) rfl <| aV 3 15 rfl rfl (GY_none rfl) (t0_ (t0_ (t0_ (t0_ (t0_ (t0_ eR)))))) (V_index rfl rfl rfl (by show x < 3; omega) foc4 (Reads.sl _ _ _) Try.runUnderlying45 Try.sizeOf9) rfl <| aV 4 31 rfl rfl (GY_none rfl) (t0_ (t0_ (t0_ (t0_ (t0_ (t0_ eR)))))) (V_loadE rfl rfl (by first | omega | (show i < 3; omega) | (show x < 3; omega) | (show y < 3; omega) | (show j < 3; omega)) foc4 (Reads.sl _ _ _) rfl rfl Try.isAgg9) rfl <| aN 5 63 rfl rfl (P_move rfl) rfl <| aN 6 127 rfl rfl (P_move rfl) rfl <| aV 7 255 rfl rfl (GY_none rfl) (t0_ (t0_ (t0_ (t0_ (t0_ (t0_ eR)))))) (V_index rfl rfl rfl (by show y < 3; omega) foc4 (Reads.sl _ _ _) Try.runUnderlying45 Try.sizeOf9) rfl ?_
     refine aV 8 511 rfl rfl (GY_none rfl) (t0_ (t0_ (t0_ (t0_ (t0_ (t0_ eR)))))) (V_loadE rfl rfl (by first | omega | (show i < 3; omega) | (show x < 3; omega) | (show y < 3; omega) | (show j < 3; omega)) foc4 (Reads.sl _ _ _) rfl rfl Try.isAgg9) rfl <| aN 9 1023 rfl rfl (P_build rfl (CLaw9_bld_33_1_2 _ _)) rfl <| AJ_op 10 2047 rfl (by kernel_rfl) rfl (GY_none rfl) <| O_buildSlice rfl (CLaw9_bs_34_1_0 _ _ _ _ _) rfl fun b16 => ⟨fun _ => (t1_ (t1_ (t1_ (t1_ (t1_ (t1_ (eD eR))))))), ?_⟩
     refine AJ_op 11 4095 rfl (by kernel_rfl) rfl (GY_none rfl) <| O_call ((c_mLdB hv hx hy (by omega))) rfl Try.call9 (Dels.cons del3 (Dels.cons del0 Dels.nil)) rfl fun _ hc17 => ⟨fun h => absurd h (by decide), ?_⟩
     refine aN 12 8191 rfl rfl (P_assign rfl) rfl <| aD <| CJ_cutR (X := Bool) [13, 89, 90, 91, 92, 93, 94, 95, 96, 97, 98] (fun r0  => ([(13, .bool r0)] : Slots)) (fun r0 R => R) (fun r0  => r0 = rch t0 t1 t2 x y 0) Dels.nil ?_ ?_
     ·
      refine CJ_region <| oM rfl rfl <| oM rfl rfl <| oP (P_eql rfl rfl) rfl <| oM rfl rfl ?_
      first | (refine RJ_splitD 92 rfl (fun hg7B hg7 => ?_) (fun hg7B hg7 => ?_)) | (refine RJ_splitN 92 rfl (fun hg7B hg7 => ?_) (fun hg7B hg7 => ?_)) | (refine RJ_split 92 rfl (fun hg7B => ?_) (fun hg7B => ?_))
      ·
       refine RJ_gn (GY_no rfl rfl rfl hg7B) rfl rfl <| RJ_gn (GY_no rfl rfl rfl hg7B) rfl rfl <| RJ_gn (GY_no rfl rfl rfl hg7B) rfl rfl <| RJ_gn (GY_no rfl rfl rfl hg7B) rfl rfl <| RJ_gn (GY_no rfl rfl rfl hg7B) rfl rfl <| oP (P_pickT rfl hg7B rfl) rfl <| oA rfl rfl <| RJ_nil <| QJ_cutR (true) ?_ (by repeat (first | exact Kp.base | exact Kp.self | refine Kp.cons rfl ?_ | refine Kp.forget rfl ?_)) ?_ (t0_ (t0_ (t0_ (t0_ (t0_ (t0_ (t0_ eR)))))))
       ·
        have hq : x = y := by omega
        subst hq
        simp [rch]
       · exact ⟨rfl, True.intro⟩
      ·
       refine gP (GY_yes rfl rfl rfl hg7B) (P_move rfl) rfl <| gP (GY_yes rfl rfl rfl hg7B) (P_move rfl) rfl <| gP (GY_yes rfl rfl rfl hg7B) (P_indexArrO (i := y) rfl rfl rfl hy Try.runUnderlying55 Try.sizeOf54) rfl <| gP (GY_yes rfl rfl rfl hg7B) (P_indexArrO (i := x) rfl rfl rfl hx Try.runUnderlying54 Try.sizeOf4) rfl <| gV (GY_yes rfl rfl rfl hg7B) (V_load rfl foc4 (abC_at hy hx) Try.isAgg4) rfl <| oP (P_pickF rfl hg7B rfl) rfl <| oA rfl rfl <| RJ_nil <| QJ_cutR ((ab t0 t1 t2 y x)) ?_ (by repeat (first | exact Kp.base | exact Kp.self | refine Kp.cons rfl ?_ | refine Kp.forget rfl ?_)) ?_ (t0_ (t0_ (t0_ (t0_ (t0_ (t0_ (t0_ eR)))))))
       ·
        have hq : x ≠ y := by omega
        simp [rch, hq]
       · exact ⟨rfl, True.intro⟩
     ·
      intro r0 hr0
      show CJ _ _ _ _ _ (([(13, .bool r0)] : Slots) ++ forget _ _) (_)
      refine CJ_seq <| sR <| oA rfl rfl <| nT <| CJ_block <| CJ_loopR (X := Nat × Bool) [13, 14, 99, 100, 101, 102, 103, 104, 105, 106, 107, 108, 109, 110, 111, 112, 113, 114, 115, 116, 117] (fun ⟨k, r⟩  => ([(14, .int .i64 (k : Nat)), (13, .bool r)] : Slots)) (fun ⟨k, r⟩ R => R) (fun ⟨k, r⟩  => k ≤ 3 ∧ r = rch t0 t1 t2 x y k) (fun ⟨k, r⟩  => 3 - k) ⟨0, r0⟩ ?_ ?_ (t0_ (t0_ (t0_ (t0_ (t0_ (t0_ (t0_ eR))))))) ?_
      · exact ⟨Nat.zero_le _, hr0⟩
      · exact ⟨rfl, rfl, True.intro⟩
      ·
       rintro ⟨k, r⟩ ⟨hk, hr⟩
       show CJ _ _ _ _ _ (([(14, .int .i64 (k : Nat)), (13, .bool r)] : Slots) ++ forget _ _) (_)
       refine CJ_seq <| sR <| oM rfl rfl <| oP (P_lss rfl rfl) rfl <| nT ?_
       first | (refine CJ_condD rfl (fun hg8 => ?_) (fun hg8 => ?_)) | (refine CJ_condN rfl (fun hg8 => ?_) (fun hg8 => ?_)) | (refine CJ_cond rfl (fun hg8 => ?_) (fun hg8 => ?_))
       ·
        refine kT <| CJ_seq <| CJ_block <| CJ_region <| oM rfl rfl <| oM rfl rfl ?_
        first | (refine RJ_splitD 104 rfl (fun hg9B hg9 => ?_) (fun hg9B hg9 => ?_)) | (refine RJ_splitN 104 rfl (fun hg9B hg9 => ?_) (fun hg9B hg9 => ?_)) | (refine RJ_split 104 rfl (fun hg9B => ?_) (fun hg9B => ?_))
        ·
         refine RJ_gn (GY_no rfl rfl rfl hg9B) rfl rfl <| RJ_gn (GY_no rfl rfl rfl hg9B) rfl rfl <| RJ_gn (GY_no rfl rfl rfl hg9B) rfl rfl <| RJ_gn (GY_no rfl rfl rfl hg9B) rfl rfl <| RJ_gn (GY_no rfl rfl rfl hg9B) rfl rfl <| RJ_gn (GY_no rfl rfl rfl hg9B) rfl rfl <| RJ_gn (GY_undef rfl rfl rfl) rfl rfl <| RJ_gn (GY_undef rfl rfl rfl) rfl rfl <| RJ_gn (GY_undef rfl rfl rfl) rfl rfl <| RJ_gn (GY_undef rfl rfl rfl) rfl rfl <| RJ_gn (GY_undef rfl rfl rfl) rfl rfl <| RJ_gn (GY_no rfl rfl rfl hg9B) rfl rfl <| oP (P_pickT rfl hg9B rfl) rfl <| oA rfl rfl <| RJ_nil <| QJ_block_normal <| QJ_then <| CJ_region <| oM rfl rfl <| oP (P_add rfl rfl (by first | omega | (show i < 3; omega) | (show x < 3; omega) | (show y < 3; omega) | (show j < 3; omega))) rfl <| oA rfl rfl <| RJ_nil <| QJ_nextR ⟨k + 1, true⟩ (by first | omega | (simp only []; omega)) ?_ (by repeat (first | exact Kp.base | exact Kp.self | refine Kp.cons rfl ?_ | refine Kp.forget rfl ?_)) ?_ (t0_ (t0_ (t0_ (t0_ (t0_ (t0_ (t0_ eR)))))))
         · exact ⟨by omega, by simp_all [rch, ab]⟩
         · exact ⟨rfl, rfl, True.intro⟩
        ·
         refine gP (GY_yes rfl rfl rfl hg9B) (P_move rfl) rfl <| gP (GY_yes rfl rfl rfl hg9B) (P_move rfl) rfl <| gP (GY_yes rfl rfl rfl hg9B) (P_indexArrO (i := y) rfl rfl rfl hy Try.runUnderlying55 Try.sizeOf54) rfl <| gP (GY_yes rfl rfl rfl hg9B) (P_indexArrO (i := k) rfl rfl rfl (show k < 3 by omega) Try.runUnderlying54 Try.sizeOf4) rfl <| gV (GY_yes rfl rfl rfl hg9B) (V_load rfl foc4 (abC_at hy (show k < 3 by omega)) Try.isAgg4) rfl <| gP (GY_yes rfl rfl rfl hg9B) (P_move rfl) rfl ?_
         first | (refine RJ_splitD 110 rfl (fun hg10B hg10 => ?_) (fun hg10B hg10 => ?_)) | (refine RJ_splitN 110 rfl (fun hg10B hg10 => ?_) (fun hg10B hg10 => ?_)) | (refine RJ_split 110 rfl (fun hg10B => ?_) (fun hg10B => ?_))
         ·
          refine gP (GY_yes rfl rfl rfl hg10B) (P_move rfl) rfl <| gP (GY_yes rfl rfl rfl hg10B) (P_move rfl) rfl <| gP (GY_yes rfl rfl rfl hg10B) (P_indexArrO (i := k) rfl rfl rfl (show k < 3 by omega) Try.runUnderlying55 Try.sizeOf54) rfl <| gP (GY_yes rfl rfl rfl hg10B) (P_indexArrO (i := x) rfl rfl rfl hx Try.runUnderlying54 Try.sizeOf4) rfl <| gV (GY_yes rfl rfl rfl hg10B) (V_load rfl foc4 (abC_at (show k < 3 by omega) hx) Try.isAgg4) rfl <| gP (GY_yes rfl rfl rfl hg9B) (P_pickT rfl hg10B rfl) rfl <| oP (P_pickF rfl hg9B rfl) rfl <| oA rfl rfl <| RJ_nil <| QJ_block_normal <| QJ_then <| CJ_region <| oM rfl rfl <| oP (P_add rfl rfl (by first | omega | (show i < 3; omega) | (show x < 3; omega) | (show y < 3; omega) | (show j < 3; omega))) rfl <| oA rfl rfl <| RJ_nil <| QJ_nextR ⟨k + 1, (ab t0 t1 t2 k x)⟩ (by first | omega | (simp only []; omega)) ?_ (by repeat (first | exact Kp.base | exact Kp.self | refine Kp.cons rfl ?_ | refine Kp.forget rfl ?_)) ?_ (t0_ (t0_ (t0_ (t0_ (t0_ (t0_ (t0_ eR)))))))
          · exact ⟨by omega, by simp_all [rch, ab]⟩
          · exact ⟨rfl, rfl, True.intro⟩
         ·
          refine RJ_gn (GY_no rfl rfl rfl hg10B) rfl rfl <| RJ_gn (GY_no rfl rfl rfl hg10B) rfl rfl <| RJ_gn (GY_no rfl rfl rfl hg10B) rfl rfl <| RJ_gn (GY_no rfl rfl rfl hg10B) rfl rfl <| RJ_gn (GY_no rfl rfl rfl hg10B) rfl rfl <| gP (GY_yes rfl rfl rfl hg9B) (P_pickF rfl hg10B rfl) rfl <| oP (P_pickF rfl hg9B rfl) rfl <| oA rfl rfl <| RJ_nil <| QJ_block_normal <| QJ_then <| CJ_region <| oM rfl rfl <| oP (P_add rfl rfl (by first | omega | (show i < 3; omega) | (show x < 3; omega) | (show y < 3; omega) | (show j < 3; omega))) rfl <| oA rfl rfl <| RJ_nil <| QJ_nextR ⟨k + 1, false⟩ (by first | omega | (simp only []; omega)) ?_ (by repeat (first | exact Kp.base | exact Kp.self | refine Kp.cons rfl ?_ | refine Kp.forget rfl ?_)) ?_ (t0_ (t0_ (t0_ (t0_ (t0_ (t0_ (t0_ eR)))))))
          · exact ⟨by omega, by simp_all [rch, ab]⟩
          · exact ⟨rfl, rfl, True.intro⟩
       ·
        refine CJ_exit <| QJ_then_exit <| QJ_round_exit <| QJ_block_here <| QJ_then <| CJ_seq <| CJ_seq ?_
        obtain rfl : k = 3 := by omega
        subst hr
        refine CJ_region <| oM rfl rfl <| oP (P_eql rfl rfl) rfl <| oM rfl rfl <| oP (P_neqB rfl rfl Try.underlying4) rfl <| oM rfl rfl ?_
        first | (refine RJ_splitD 122 rfl (fun hg11B hg11 => ?_) (fun hg11B hg11 => ?_)) | (refine RJ_splitN 122 rfl (fun hg11B hg11 => ?_) (fun hg11B hg11 => ?_)) | (refine RJ_split 122 rfl (fun hg11B => ?_) (fun hg11B => ?_))
        ·
         refine RJ_gn (GY_no rfl rfl rfl hg11B) rfl rfl <| RJ_gn (GY_no rfl rfl rfl hg11B) rfl rfl <| RJ_gn (GY_no rfl rfl rfl hg11B) rfl rfl <| RJ_gn (GY_undef rfl rfl rfl) rfl rfl <| RJ_gn (GY_undef rfl rfl rfl) rfl rfl <| RJ_gn (GY_no rfl rfl rfl hg11B) rfl rfl <| oP (P_pickT rfl hg11B rfl) rfl <| nT <| CJ_condT rfl rfl <| sR <| oA rfl rfl <| nT <| CJ_ret <| QJ_then_ret <| QJ_block_ret <| QJ_then_ret <| QJ_round_ret <| QJ_block_ret <| QJ_then_ret ?_
         exfalso; first | omega | (simp_all; done) | (cases hq : rch t0 t1 t2 x y 3 <;> simp_all)
        ·
         refine gP (GY_yes rfl rfl rfl hg11B) (P_move rfl) rfl <| gP (GY_yes rfl rfl rfl hg11B) (P_neq rfl rfl) rfl <| gP (GY_yes rfl rfl rfl hg11B) (P_move rfl) rfl ?_
         first | (refine RJ_splitD 125 rfl (fun hg12B hg12 => ?_) (fun hg12B hg12 => ?_)) | (refine RJ_splitN 125 rfl (fun hg12B hg12 => ?_) (fun hg12B hg12 => ?_)) | (refine RJ_split 125 rfl (fun hg12B => ?_) (fun hg12B => ?_))
         ·
          refine gP (GY_yes rfl rfl rfl hg12B) (P_move rfl) rfl <| gP (GY_yes rfl rfl rfl hg12B) (P_neq rfl rfl) rfl <| gP (GY_yes rfl rfl rfl hg11B) (P_pickT rfl hg12B rfl) rfl <| oP (P_pickF rfl hg11B rfl) rfl <| nT ?_
          first | (refine CJ_condD rfl (fun hg13 => ?_) (fun hg13 => ?_)) | (refine CJ_condN rfl (fun hg13 => ?_) (fun hg13 => ?_)) | (refine CJ_cond rfl (fun hg13 => ?_) (fun hg13 => ?_))
          ·
           refine sR <| oA rfl rfl <| nT <| CJ_ret <| QJ_then_ret <| QJ_block_ret <| QJ_then_ret <| QJ_round_ret <| QJ_block_ret <| QJ_then_ret ?_
           exfalso; first | omega | (simp_all; done) | (cases hq : rch t0 t1 t2 x y 3 <;> simp_all)
          ·
           refine kT <| CJ_cutR (X := Nat × Nat × Nat × Nat) [2, 130, 131, 132, 133, 134, 135, 136, 137, 138, 139, 140, 141, 142, 143, 144, 145, 146, 147, 148, 149, 150, 151, 152, 153, 154] (fun ⟨u0, u1, u2, c2⟩  => ([] : Slots)) (fun ⟨u0, u1, u2, c2⟩ R => MapP bg.1 (cyM u0 u1 u2 c2) :: blk b12 55 (abC u0 u1 u2) :: R) (fun ⟨u0, u1, u2, c2⟩  => (u0, u1, u2) ∈ VL ∧ c2 ≤ c + 3) (Dels.cons del0 (Dels.cons del3 Dels.nil)) ?_ ?_
           ·
            refine sR <| oM rfl rfl <| oP (P_eql rfl rfl) rfl <| nT ?_
            first | (refine CJ_condD rfl (fun hg14 => ?_) (fun hg14 => ?_)) | (refine CJ_condN rfl (fun hg14 => ?_) (fun hg14 => ?_)) | (refine CJ_cond rfl (fun hg14 => ?_) (fun hg14 => ?_))
            ·
             have hr : rch t0 t1 t2 x y 3 = false := by cases hq : rch t0 t1 t2 x y 3 <;> simp_all
             refine CJ_seq <| sR <| oM rfl rfl <| oM rfl rfl <| oM rfl rfl <| oV (V_index rfl rfl rfl (by show x < 3; omega) foc5 (Reads.sl _ _ _) Try.runUnderlying45 Try.sizeOf9) rfl <| oV (V_loadE rfl rfl (by first | omega | (show i < 3; omega) | (show x < 3; omega) | (show y < 3; omega) | (show j < 3; omega)) foc5 (Reads.sl _ _ _) rfl rfl Try.isAgg9) rfl <| oO <| O_call ((c_mSu hv hx hy hr (by omega))) rfl Try.call10 (Dels.cons del0 Dels.nil) rfl fun _ hc18 => oP (P_neq rfl rfl) rfl <| oM rfl rfl ?_
             first | (refine RJ_splitD 139 rfl (fun hg15B hg15 => ?_) (fun hg15B hg15 => ?_)) | (refine RJ_splitN 139 rfl (fun hg15B hg15 => ?_) (fun hg15B hg15 => ?_)) | (refine RJ_split 139 rfl (fun hg15B => ?_) (fun hg15B => ?_))
             ·
              refine RJ_gn (GY_no rfl rfl rfl hg15B) rfl rfl <| RJ_gn (GY_no rfl rfl rfl hg15B) rfl rfl <| RJ_gn (GY_no rfl rfl rfl hg15B) rfl rfl <| RJ_gn (GY_no rfl rfl rfl hg15B) rfl rfl <| RJ_gn (GY_no rfl rfl rfl hg15B) rfl rfl <| RJ_gn (GY_no rfl rfl rfl hg15B) rfl rfl <| RJ_gn (GY_no rfl rfl rfl hg15B) rfl rfl <| oP (P_pickT rfl hg15B rfl) rfl <| nT <| CJ_condT rfl rfl <| sR <| oA rfl rfl <| nT <| CJ_ret <| QJ_then_ret <| QJ_then_ret ?_
              exfalso; first | omega | (simp_all; done) | (cases hq : rch t0 t1 t2 x y 3 <;> simp_all)
             ·
              refine gP (GY_yes rfl rfl rfl hg15B) (P_move rfl) rfl <| gP (GY_yes rfl rfl rfl hg15B) (P_move rfl) rfl <| gP (GY_yes rfl rfl rfl hg15B) (P_move rfl) rfl <| gV (GY_yes rfl rfl rfl hg15B) (V_index rfl rfl rfl (by show x < 3; omega) foc5 (Reads.sl _ _ _) Try.runUnderlying45 Try.sizeOf9) rfl <| gV (GY_yes rfl rfl rfl hg15B) (V_loadE rfl rfl (by first | omega | (show i < 3; omega) | (show x < 3; omega) | (show y < 3; omega) | (show j < 3; omega)) foc5 (Reads.sl _ _ _) rfl rfl Try.isAgg9) rfl <| RJ_gy (GY_yes rfl rfl rfl hg15B) <| O_call ((c_mRs hv hx hy hr (by omega))) rfl Try.call11 (Dels.cons del0 Dels.nil) rfl fun _ hc19 => gP (GY_yes rfl rfl rfl hg15B) (P_neq rfl rfl) rfl <| oP (P_pickF rfl hg15B rfl) rfl <| nT ?_
              first | (refine CJ_condD rfl (fun hg16 => ?_) (fun hg16 => ?_)) | (refine CJ_condN rfl (fun hg16 => ?_) (fun hg16 => ?_)) | (refine CJ_cond rfl (fun hg16 => ?_) (fun hg16 => ?_))
              ·
               refine sR <| oA rfl rfl <| nT <| CJ_ret <| QJ_then_ret <| QJ_then_ret ?_
               exfalso; first | omega | (simp_all; done) | (cases hq : rch t0 t1 t2 x y 3 <;> simp_all)
              ·
               exact kT <| sR <| oM rfl rfl <| oP (P_build rfl (CLaw9_bld_54_)) rfl <| oP (P_indexArrO (i := x) rfl rfl rfl hx Try.runUnderlying55 Try.sizeOf54) rfl <| oO <| O_storeN rfl rfl foc4 Try.sizeOf54 rfl (abC_l1 hx) rfl <| nT <| CJ_region <| oM rfl rfl <| oM rfl rfl <| oP (P_indexArrO (i := x) rfl rfl rfl hx Try.runUnderlying55 Try.sizeOf54) rfl <| oP (P_indexArrO (i := y) rfl rfl rfl hy Try.runUnderlying54 Try.sizeOf4) rfl <| oO <| O_store rfl rfl foc4 (abC_l2 hx hy rfl) rfl Try.sizeOf4 <| RJ_nil <| cR ⟨(up x y t0 0), (up x y t1 1), (up x y t2 2), (c + 3)⟩ ⟨(cyM_su (c := c) hv hx hy hr).2.2.2.2, by omega⟩ True.intro (t0_ (Ent.takeC del3 (congrArg (blk b12 55) (abC_up hx hy)) (t0_ (t0_ (t0_ (t0_ (t0_ eR)))))))
            ·
             have hr : rch t0 t1 t2 x y 3 = true := by cases hq : rch t0 t1 t2 x y 3 <;> simp_all
             exact CJ_skip <| cR ⟨t0, t1, t2, (c + 1)⟩ ⟨hv, by omega⟩ True.intro (Ent.takeC del0 (congrArg (MapP bg.1) (cyM_no hv hx hy hr)) (t3_ (t0_ (t0_ (t0_ (t0_ (t0_ eR)))))))
           ·
            rintro ⟨u0, u1, u2, c2⟩ ⟨hv2, hc2⟩
            show CJ _ _ _ _ _ (([] : Slots) ++ forget _ _) (MapP bg.1 (cyM u0 u1 u2 c2) :: blk b12 55 (abC u0 u1 u2) :: _)
            refine sR <| oA rfl rfl <| nT <| CJ_block <| CJ_loopR (X := Nat × Nat) [2, 15, 16, 155, 156, 157, 158, 159, 160, 161, 162, 163, 164, 165, 166, 167, 168, 169, 170, 171, 172, 173, 174, 175, 176, 177, 178, 179, 180, 181, 182, 183, 184] (fun ⟨j, c3⟩  => ([(15, .int .i64 (j : Nat))] : Slots)) (fun ⟨j, c3⟩ R => MapP bg.1 (cyM u0 u1 u2 c3) :: R) (fun ⟨j, c3⟩  => j ≤ 3 ∧ c3 ≤ c2 + j) (fun ⟨j, c3⟩  => 3 - j) ⟨0, c2⟩ ?_ ?_ (t0_ (t0_ (t0_ (t0_ (t0_ (t0_ (t0_ eR))))))) ?_
            · exact ⟨Nat.zero_le _, Nat.le_refl _⟩
            · exact ⟨rfl, True.intro⟩
            ·
             rintro ⟨j, c3⟩ ⟨hj, hc3⟩
             show CJ _ _ _ _ _ (([(15, .int .i64 (j : Nat))] : Slots) ++ forget _ _) (MapP bg.1 (cyM u0 u1 u2 c3) :: _)
             refine CJ_seq <| sR <| oM rfl rfl <| oP (P_lss rfl rfl) rfl <| nT ?_
             first | (refine CJ_condD rfl (fun hg17 => ?_) (fun hg17 => ?_)) | (refine CJ_condN rfl (fun hg17 => ?_) (fun hg17 => ?_)) | (refine CJ_cond rfl (fun hg17 => ?_) (fun hg17 => ?_))
             ·
              refine kT <| CJ_seq <| CJ_block <| sR <| oM rfl rfl <| oP (P_indexArrO (i := 0) rfl rfl rfl (by decide) Try.runUnderlying55 Try.sizeOf54) rfl <| oP (P_indexArrO (i := j) rfl rfl rfl (show j < 3 by omega) Try.runUnderlying54 Try.sizeOf4) rfl <| oV (V_load rfl foc1 (abC_at (by decide) (show j < 3 by omega)) Try.isAgg4) rfl <| oM rfl rfl ?_
              first | (refine RJ_splitD 163 rfl (fun hg18B hg18 => ?_) (fun hg18B hg18 => ?_)) | (refine RJ_splitN 163 rfl (fun hg18B hg18 => ?_) (fun hg18B hg18 => ?_)) | (refine RJ_split 163 rfl (fun hg18B => ?_) (fun hg18B => ?_))
              ·
               refine RJ_gn (GY_no rfl rfl rfl hg18B) rfl rfl <| RJ_gn (GY_no rfl rfl rfl hg18B) rfl rfl <| RJ_gn (GY_no rfl rfl rfl hg18B) rfl rfl <| RJ_gn (GY_no rfl rfl rfl hg18B) rfl rfl <| oP (P_pickT rfl hg18B rfl) rfl <| oM rfl rfl <| RJ_gn (GY_no rfl rfl rfl rfl) rfl rfl <| RJ_gn (GY_no rfl rfl rfl rfl) rfl rfl <| RJ_gn (GY_no rfl rfl rfl rfl) rfl rfl <| RJ_gn (GY_no rfl rfl rfl rfl) rfl rfl <| oP (P_pickT rfl rfl rfl) rfl <| oA rfl rfl <| nT <| sR <| oM rfl rfl <| oM rfl rfl <| gP (GY_yes rfl rfl rfl rfl) (P_move rfl) rfl <| gP (GY_yes rfl rfl rfl rfl) (P_move rfl) rfl <| gP (GY_yes rfl rfl rfl rfl) (P_move rfl) rfl <| gV (GY_yes rfl rfl rfl rfl) (V_index rfl rfl rfl (by show j < 3; omega) foc5 (Reads.sl _ _ _) Try.runUnderlying45 Try.sizeOf9) rfl <| gV (GY_yes rfl rfl rfl rfl) (V_loadE rfl rfl (by first | omega | (show i < 3; omega) | (show x < 3; omega) | (show y < 3; omega) | (show j < 3; omega)) foc5 (Reads.sl _ _ _) rfl rfl Try.isAgg9) rfl <| RJ_gy (GY_yes rfl rfl rfl rfl) <| O_call ((c_mRm hv2 (k := j) (by omega) (by simp_all [ab]) (by omega))) rfl Try.call19 (Dels.cons del0 Dels.nil) rfl fun _ hc20 => gP (GY_yes rfl rfl rfl rfl) (P_neq rfl rfl) rfl <| oP (P_pickT rfl rfl rfl) rfl <| nT ?_
               first | (refine CJ_condD rfl (fun hg19 => ?_) (fun hg19 => ?_)) | (refine CJ_condN rfl (fun hg19 => ?_) (fun hg19 => ?_)) | (refine CJ_cond rfl (fun hg19 => ?_) (fun hg19 => ?_))
               ·
                refine sR <| oA rfl rfl <| nT <| CJ_ret <| QJ_block_ret <| QJ_then_ret <| QJ_round_ret <| QJ_block_ret <| QJ_block_ret <| QJ_then_ret <| QJ_round_ret <| QJ_block_ret <| QJ_then_ret ?_
                exfalso; first | omega | (simp_all; done) | (cases hq : rch t0 t1 t2 x y 3 <;> simp_all)
               ·
                refine CJ_skip <| QJ_block_normal <| QJ_then <| CJ_region <| oM rfl rfl <| oP (P_add rfl rfl (by first | omega | (show i < 3; omega) | (show x < 3; omega) | (show y < 3; omega) | (show j < 3; omega))) rfl <| oA rfl rfl <| RJ_nil <| QJ_nextR ⟨j + 1, (c3 + 1)⟩ (by show 3 - (j + 1) < 3 - j; omega) ?_ (by repeat (first | exact Kp.base | exact Kp.self | refine Kp.cons rfl ?_ | refine Kp.forget rfl ?_)) ?_ (t0_ (t0_ (t0_ (t0_ (t0_ (t0_ (t0_ eR)))))))
                · exact ⟨by omega, by omega⟩
                · exact ⟨rfl, True.intro⟩
              ·
               refine gP (GY_yes rfl rfl rfl hg18B) (P_move rfl) rfl <| gP (GY_yes rfl rfl rfl hg18B) (P_indexArrO (i := 1) rfl rfl rfl (by decide) Try.runUnderlying55 Try.sizeOf54) rfl <| gP (GY_yes rfl rfl rfl hg18B) (P_indexArrO (i := j) rfl rfl rfl (show j < 3 by omega) Try.runUnderlying54 Try.sizeOf4) rfl <| gV (GY_yes rfl rfl rfl hg18B) (V_load rfl foc1 (abC_at (by decide) (show j < 3 by omega)) Try.isAgg4) rfl <| oP (P_pickF rfl hg18B rfl) rfl <| oM rfl rfl ?_
               first | (refine RJ_splitD 169 rfl (fun hg20B hg20 => ?_) (fun hg20B hg20 => ?_)) | (refine RJ_splitN 169 rfl (fun hg20B hg20 => ?_) (fun hg20B hg20 => ?_)) | (refine RJ_split 169 rfl (fun hg20B => ?_) (fun hg20B => ?_))
               ·
                refine RJ_gn (GY_no rfl rfl rfl hg20B) rfl rfl <| RJ_gn (GY_no rfl rfl rfl hg20B) rfl rfl <| RJ_gn (GY_no rfl rfl rfl hg20B) rfl rfl <| RJ_gn (GY_no rfl rfl rfl hg20B) rfl rfl <| oP (P_pickT rfl hg20B rfl) rfl <| oA rfl rfl <| nT <| sR <| oM rfl rfl <| oM rfl rfl <| gP (GY_yes rfl rfl rfl rfl) (P_move rfl) rfl <| gP (GY_yes rfl rfl rfl rfl) (P_move rfl) rfl <| gP (GY_yes rfl rfl rfl rfl) (P_move rfl) rfl <| gV (GY_yes rfl rfl rfl rfl) (V_index rfl rfl rfl (by show j < 3; omega) foc5 (Reads.sl _ _ _) Try.runUnderlying45 Try.sizeOf9) rfl <| gV (GY_yes rfl rfl rfl rfl) (V_loadE rfl rfl (by first | omega | (show i < 3; omega) | (show x < 3; omega) | (show y < 3; omega) | (show j < 3; omega)) foc5 (Reads.sl _ _ _) rfl rfl Try.isAgg9) rfl <| RJ_gy (GY_yes rfl rfl rfl rfl) <| O_call ((c_mRm hv2 (k := j) (by omega) (by simp_all [ab]) (by omega))) rfl Try.call19 (Dels.cons del0 Dels.nil) rfl fun _ hc21 => gP (GY_yes rfl rfl rfl rfl) (P_neq rfl rfl) rfl <| oP (P_pickT rfl rfl rfl) rfl <| nT ?_
                first | (refine CJ_condD rfl (fun hg21 => ?_) (fun hg21 => ?_)) | (refine CJ_condN rfl (fun hg21 => ?_) (fun hg21 => ?_)) | (refine CJ_cond rfl (fun hg21 => ?_) (fun hg21 => ?_))
                ·
                 refine sR <| oA rfl rfl <| nT <| CJ_ret <| QJ_block_ret <| QJ_then_ret <| QJ_round_ret <| QJ_block_ret <| QJ_block_ret <| QJ_then_ret <| QJ_round_ret <| QJ_block_ret <| QJ_then_ret ?_
                 exfalso; first | omega | (simp_all; done) | (cases hq : rch t0 t1 t2 x y 3 <;> simp_all)
                ·
                 refine CJ_skip <| QJ_block_normal <| QJ_then <| CJ_region <| oM rfl rfl <| oP (P_add rfl rfl (by first | omega | (show i < 3; omega) | (show x < 3; omega) | (show y < 3; omega) | (show j < 3; omega))) rfl <| oA rfl rfl <| RJ_nil <| QJ_nextR ⟨j + 1, (c3 + 1)⟩ (by show 3 - (j + 1) < 3 - j; omega) ?_ (by repeat (first | exact Kp.base | exact Kp.self | refine Kp.cons rfl ?_ | refine Kp.forget rfl ?_)) ?_ (t0_ (t0_ (t0_ (t0_ (t0_ (t0_ (t0_ eR)))))))
                 · exact ⟨by omega, by omega⟩
                 · exact ⟨rfl, True.intro⟩
               ·
                refine gP (GY_yes rfl rfl rfl hg20B) (P_move rfl) rfl <| gP (GY_yes rfl rfl rfl hg20B) (P_indexArrO (i := 2) rfl rfl rfl (by decide) Try.runUnderlying55 Try.sizeOf54) rfl <| gP (GY_yes rfl rfl rfl hg20B) (P_indexArrO (i := j) rfl rfl rfl (show j < 3 by omega) Try.runUnderlying54 Try.sizeOf4) rfl <| gV (GY_yes rfl rfl rfl hg20B) (V_load rfl foc1 (abC_at (by decide) (show j < 3 by omega)) Try.isAgg4) rfl <| oP (P_pickF rfl hg20B rfl) rfl <| oA rfl rfl <| nT <| sR <| oM rfl rfl <| oM rfl rfl ?_
                first | (refine RJ_splitD 176 rfl (fun hg22B hg22 => ?_) (fun hg22B hg22 => ?_)) | (refine RJ_splitN 176 rfl (fun hg22B hg22 => ?_) (fun hg22B hg22 => ?_)) | (refine RJ_split 176 rfl (fun hg22B => ?_) (fun hg22B => ?_))
                ·
                 refine gP (GY_yes rfl rfl rfl hg22B) (P_move rfl) rfl <| gP (GY_yes rfl rfl rfl hg22B) (P_move rfl) rfl <| gP (GY_yes rfl rfl rfl hg22B) (P_move rfl) rfl <| gV (GY_yes rfl rfl rfl hg22B) (V_index rfl rfl rfl (by show j < 3; omega) foc5 (Reads.sl _ _ _) Try.runUnderlying45 Try.sizeOf9) rfl <| gV (GY_yes rfl rfl rfl hg22B) (V_loadE rfl rfl (by first | omega | (show i < 3; omega) | (show x < 3; omega) | (show y < 3; omega) | (show j < 3; omega)) foc5 (Reads.sl _ _ _) rfl rfl Try.isAgg9) rfl <| RJ_gy (GY_yes rfl rfl rfl hg22B) <| O_call ((c_mRm hv2 (k := j) (by omega) (by simp_all [ab]) (by omega))) rfl Try.call19 (Dels.cons del0 Dels.nil) rfl fun _ hc22 => gP (GY_yes rfl rfl rfl hg22B) (P_neq rfl rfl) rfl <| oP (P_pickT rfl hg22B rfl) rfl <| nT ?_
                 first | (refine CJ_condD rfl (fun hg23 => ?_) (fun hg23 => ?_)) | (refine CJ_condN rfl (fun hg23 => ?_) (fun hg23 => ?_)) | (refine CJ_cond rfl (fun hg23 => ?_) (fun hg23 => ?_))
                 ·
                  refine sR <| oA rfl rfl <| nT <| CJ_ret <| QJ_block_ret <| QJ_then_ret <| QJ_round_ret <| QJ_block_ret <| QJ_block_ret <| QJ_then_ret <| QJ_round_ret <| QJ_block_ret <| QJ_then_ret ?_
                  exfalso; first | omega | (simp_all; done) | (cases hq : rch t0 t1 t2 x y 3 <;> simp_all)
                 ·
                  refine CJ_skip <| QJ_block_normal <| QJ_then <| CJ_region <| oM rfl rfl <| oP (P_add rfl rfl (by first | omega | (show i < 3; omega) | (show x < 3; omega) | (show y < 3; omega) | (show j < 3; omega))) rfl <| oA rfl rfl <| RJ_nil <| QJ_nextR ⟨j + 1, (c3 + 1)⟩ (by show 3 - (j + 1) < 3 - j; omega) ?_ (by repeat (first | exact Kp.base | exact Kp.self | refine Kp.cons rfl ?_ | refine Kp.forget rfl ?_)) ?_ (t0_ (t0_ (t0_ (t0_ (t0_ (t0_ (t0_ eR)))))))
                  · exact ⟨by omega, by omega⟩
                  · exact ⟨rfl, True.intro⟩
                ·
                 refine RJ_gn (GY_no rfl rfl rfl hg22B) rfl rfl <| RJ_gn (GY_no rfl rfl rfl hg22B) rfl rfl <| RJ_gn (GY_no rfl rfl rfl hg22B) rfl rfl <| RJ_gn (GY_no rfl rfl rfl hg22B) rfl rfl <| RJ_gn (GY_no rfl rfl rfl hg22B) rfl rfl <| RJ_gn (GY_no rfl rfl rfl hg22B) rfl rfl <| RJ_gn (GY_no rfl rfl rfl hg22B) rfl rfl <| oP (P_pickF rfl hg22B rfl) rfl <| nT <| CJ_condF rfl rfl <| CJ_skip <| QJ_block_normal <| QJ_then <| CJ_region <| oM rfl rfl <| oP (P_add rfl rfl (by first | omega | (show i < 3; omega) | (show x < 3; omega) | (show y < 3; omega) | (show j < 3; omega))) rfl <| oA rfl rfl <| RJ_nil <| QJ_nextR ⟨j + 1, c3⟩ (by show 3 - (j + 1) < 3 - j; omega) ?_ (by repeat (first | exact Kp.base | exact Kp.self | refine Kp.cons rfl ?_ | refine Kp.forget rfl ?_)) ?_ (t0_ (t0_ (t0_ (t0_ (t0_ (t0_ (t0_ eR)))))))
                 · exact ⟨by omega, by omega⟩
                 · exact ⟨rfl, True.intro⟩
             ·
              refine CJ_exit <| QJ_then_exit <| QJ_round_exit <| QJ_block_here <| QJ_block_normal <| QJ_then <| CJ_region <| oM rfl rfl <| oP (P_sub rfl rfl (by first | omega | (show i < 3; omega) | (show x < 3; omega) | (show y < 3; omega) | (show j < 3; omega))) rfl <| oA rfl rfl <| RJ_nil <| QJ_nextR ⟨i - 1, sy, u0, u1, u2, c3⟩ (by show (i - 1).toNat < i.toNat; omega) ?_ (by repeat (first | exact Kp.base | exact Kp.self | refine Kp.cons rfl ?_ | refine Kp.forget rfl ?_)) ?_ (t3_ (t0_ (t0_ (t1_ (t1_ (t1_ (eD eR)))))))
              · exact ⟨by omega, by omega, by omega, hv2, hsy⟩
              · exact ⟨rfl, True.intro⟩
         ·
          refine RJ_gn (GY_no rfl rfl rfl hg12B) rfl rfl <| RJ_gn (GY_no rfl rfl rfl hg12B) rfl rfl <| gP (GY_yes rfl rfl rfl hg11B) (P_pickF rfl hg12B rfl) rfl <| oP (P_pickF rfl hg11B rfl) rfl <| nT <| CJ_condF rfl rfl <| kT <| CJ_cutR (X := Nat × Nat × Nat × Nat) [2, 130, 131, 132, 133, 134, 135, 136, 137, 138, 139, 140, 141, 142, 143, 144, 145, 146, 147, 148, 149, 150, 151, 152, 153, 154] (fun ⟨u0, u1, u2, c2⟩  => ([] : Slots)) (fun ⟨u0, u1, u2, c2⟩ R => MapP bg.1 (cyM u0 u1 u2 c2) :: blk b12 55 (abC u0 u1 u2) :: R) (fun ⟨u0, u1, u2, c2⟩  => (u0, u1, u2) ∈ VL ∧ c2 ≤ c + 3) (Dels.cons del0 (Dels.cons del3 Dels.nil)) ?_ ?_
          ·
           refine sR <| oM rfl rfl <| oP (P_eql rfl rfl) rfl <| nT ?_
           first | (refine CJ_condD rfl (fun hg24 => ?_) (fun hg24 => ?_)) | (refine CJ_condN rfl (fun hg24 => ?_) (fun hg24 => ?_)) | (refine CJ_cond rfl (fun hg24 => ?_) (fun hg24 => ?_))
           ·
            have hr : rch t0 t1 t2 x y 3 = false := by cases hq : rch t0 t1 t2 x y 3 <;> simp_all
            refine CJ_seq <| sR <| oM rfl rfl <| oM rfl rfl <| oM rfl rfl <| oV (V_index rfl rfl rfl (by show x < 3; omega) foc5 (Reads.sl _ _ _) Try.runUnderlying45 Try.sizeOf9) rfl <| oV (V_loadE rfl rfl (by first | omega | (show i < 3; omega) | (show x < 3; omega) | (show y < 3; omega) | (show j < 3; omega)) foc5 (Reads.sl _ _ _) rfl rfl Try.isAgg9) rfl <| oO <| O_call ((c_mSu hv hx hy hr (by omega))) rfl Try.call10 (Dels.cons del0 Dels.nil) rfl fun _ hc23 => oP (P_neq rfl rfl) rfl <| oM rfl rfl ?_
            first | (refine RJ_splitD 139 rfl (fun hg25B hg25 => ?_) (fun hg25B hg25 => ?_)) | (refine RJ_splitN 139 rfl (fun hg25B hg25 => ?_) (fun hg25B hg25 => ?_)) | (refine RJ_split 139 rfl (fun hg25B => ?_) (fun hg25B => ?_))
            ·
             refine RJ_gn (GY_no rfl rfl rfl hg25B) rfl rfl <| RJ_gn (GY_no rfl rfl rfl hg25B) rfl rfl <| RJ_gn (GY_no rfl rfl rfl hg25B) rfl rfl <| RJ_gn (GY_no rfl rfl rfl hg25B) rfl rfl <| RJ_gn (GY_no rfl rfl rfl hg25B) rfl rfl <| RJ_gn (GY_no rfl rfl rfl hg25B) rfl rfl <| RJ_gn (GY_no rfl rfl rfl hg25B) rfl rfl <| oP (P_pickT rfl hg25B rfl) rfl <| nT <| CJ_condT rfl rfl <| sR <| oA rfl rfl <| nT <| CJ_ret <| QJ_then_ret <| QJ_then_ret ?_
             exfalso; first | omega | (simp_all; done) | (cases hq : rch t0 t1 t2 x y 3 <;> simp_all)
            ·
             refine gP (GY_yes rfl rfl rfl hg25B) (P_move rfl) rfl <| gP (GY_yes rfl rfl rfl hg25B) (P_move rfl) rfl <| gP (GY_yes rfl rfl rfl hg25B) (P_move rfl) rfl <| gV (GY_yes rfl rfl rfl hg25B) (V_index rfl rfl rfl (by show x < 3; omega) foc5 (Reads.sl _ _ _) Try.runUnderlying45 Try.sizeOf9) rfl <| gV (GY_yes rfl rfl rfl hg25B) (V_loadE rfl rfl (by first | omega | (show i < 3; omega) | (show x < 3; omega) | (show y < 3; omega) | (show j < 3; omega)) foc5 (Reads.sl _ _ _) rfl rfl Try.isAgg9) rfl <| RJ_gy (GY_yes rfl rfl rfl hg25B) <| O_call ((c_mRs hv hx hy hr (by omega))) rfl Try.call11 (Dels.cons del0 Dels.nil) rfl fun _ hc24 => gP (GY_yes rfl rfl rfl hg25B) (P_neq rfl rfl) rfl <| oP (P_pickF rfl hg25B rfl) rfl <| nT ?_
             first | (refine CJ_condD rfl (fun hg26 => ?_) (fun hg26 => ?_)) | (refine CJ_condN rfl (fun hg26 => ?_) (fun hg26 => ?_)) | (refine CJ_cond rfl (fun hg26 => ?_) (fun hg26 => ?_))
             ·
              refine sR <| oA rfl rfl <| nT <| CJ_ret <| QJ_then_ret <| QJ_then_ret ?_
              exfalso; first | omega | (simp_all; done) | (cases hq : rch t0 t1 t2 x y 3 <;> simp_all)
             ·
              exact kT <| sR <| oM rfl rfl <| oP (P_build rfl (CLaw9_bld_54_)) rfl <| oP (P_indexArrO (i := x) rfl rfl rfl hx Try.runUnderlying55 Try.sizeOf54) rfl <| oO <| O_storeN rfl rfl foc4 Try.sizeOf54 rfl (abC_l1 hx) rfl <| nT <| CJ_region <| oM rfl rfl <| oM rfl rfl <| oP (P_indexArrO (i := x) rfl rfl rfl hx Try.runUnderlying55 Try.sizeOf54) rfl <| oP (P_indexArrO (i := y) rfl rfl rfl hy Try.runUnderlying54 Try.sizeOf4) rfl <| oO <| O_store rfl rfl foc4 (abC_l2 hx hy rfl) rfl Try.sizeOf4 <| RJ_nil <| cR ⟨(up x y t0 0), (up x y t1 1), (up x y t2 2), (c + 3)⟩ ⟨(cyM_su (c := c) hv hx hy hr).2.2.2.2, by omega⟩ True.intro (t0_ (Ent.takeC del3 (congrArg (blk b12 55) (abC_up hx hy)) (t0_ (t0_ (t0_ (t0_ (t0_ eR)))))))
           ·
            have hr : rch t0 t1 t2 x y 3 = true := by cases hq : rch t0 t1 t2 x y 3 <;> simp_all
            exact CJ_skip <| cR ⟨t0, t1, t2, (c + 1)⟩ ⟨hv, by omega⟩ True.intro (Ent.takeC del0 (congrArg (MapP bg.1) (cyM_no hv hx hy hr)) (t3_ (t0_ (t0_ (t0_ (t0_ (t0_ eR)))))))
          ·
           rintro ⟨u0, u1, u2, c2⟩ ⟨hv2, hc2⟩
           show CJ _ _ _ _ _ (([] : Slots) ++ forget _ _) (MapP bg.1 (cyM u0 u1 u2 c2) :: blk b12 55 (abC u0 u1 u2) :: _)
           refine sR <| oA rfl rfl <| nT <| CJ_block <| CJ_loopR (X := Nat × Nat) [2, 15, 16, 155, 156, 157, 158, 159, 160, 161, 162, 163, 164, 165, 166, 167, 168, 169, 170, 171, 172, 173, 174, 175, 176, 177, 178, 179, 180, 181, 182, 183, 184] (fun ⟨j, c3⟩  => ([(15, .int .i64 (j : Nat))] : Slots)) (fun ⟨j, c3⟩ R => MapP bg.1 (cyM u0 u1 u2 c3) :: R) (fun ⟨j, c3⟩  => j ≤ 3 ∧ c3 ≤ c2 + j) (fun ⟨j, c3⟩  => 3 - j) ⟨0, c2⟩ ?_ ?_ (t0_ (t0_ (t0_ (t0_ (t0_ (t0_ (t0_ eR))))))) ?_
           · exact ⟨Nat.zero_le _, Nat.le_refl _⟩
           · exact ⟨rfl, True.intro⟩
           ·
            rintro ⟨j, c3⟩ ⟨hj, hc3⟩
            show CJ _ _ _ _ _ (([(15, .int .i64 (j : Nat))] : Slots) ++ forget _ _) (MapP bg.1 (cyM u0 u1 u2 c3) :: _)
            refine CJ_seq <| sR <| oM rfl rfl <| oP (P_lss rfl rfl) rfl <| nT ?_
            first | (refine CJ_condD rfl (fun hg27 => ?_) (fun hg27 => ?_)) | (refine CJ_condN rfl (fun hg27 => ?_) (fun hg27 => ?_)) | (refine CJ_cond rfl (fun hg27 => ?_) (fun hg27 => ?_))
            ·
             refine kT <| CJ_seq <| CJ_block <| sR <| oM rfl rfl <| oP (P_indexArrO (i := 0) rfl rfl rfl (by decide) Try.runUnderlying55 Try.sizeOf54) rfl <| oP (P_indexArrO (i := j) rfl rfl rfl (show j < 3 by omega) Try.runUnderlying54 Try.sizeOf4) rfl <| oV (V_load rfl foc1 (abC_at (by decide) (show j < 3 by omega)) Try.isAgg4) rfl <| oM rfl rfl ?_
             first | (refine RJ_splitD 163 rfl (fun hg28B hg28 => ?_) (fun hg28B hg28 => ?_)) | (refine RJ_splitN 163 rfl (fun hg28B hg28 => ?_) (fun hg28B hg28 => ?_)) | (refine RJ_split 163 rfl (fun hg28B => ?_) (fun hg28B => ?_))
             ·
              refine RJ_gn (GY_no rfl rfl rfl hg28B) rfl rfl <| RJ_gn (GY_no rfl rfl rfl hg28B) rfl rfl <| RJ_gn (GY_no rfl rfl rfl hg28B) rfl rfl <| RJ_gn (GY_no rfl rfl rfl hg28B) rfl rfl <| oP (P_pickT rfl hg28B rfl) rfl <| oM rfl rfl <| RJ_gn (GY_no rfl rfl rfl rfl) rfl rfl <| RJ_gn (GY_no rfl rfl rfl rfl) rfl rfl <| RJ_gn (GY_no rfl rfl rfl rfl) rfl rfl <| RJ_gn (GY_no rfl rfl rfl rfl) rfl rfl <| oP (P_pickT rfl rfl rfl) rfl <| oA rfl rfl <| nT <| sR <| oM rfl rfl <| oM rfl rfl <| gP (GY_yes rfl rfl rfl rfl) (P_move rfl) rfl <| gP (GY_yes rfl rfl rfl rfl) (P_move rfl) rfl <| gP (GY_yes rfl rfl rfl rfl) (P_move rfl) rfl <| gV (GY_yes rfl rfl rfl rfl) (V_index rfl rfl rfl (by show j < 3; omega) foc5 (Reads.sl _ _ _) Try.runUnderlying45 Try.sizeOf9) rfl <| gV (GY_yes rfl rfl rfl rfl) (V_loadE rfl rfl (by first | omega | (show i < 3; omega) | (show x < 3; omega) | (show y < 3; omega) | (show j < 3; omega)) foc5 (Reads.sl _ _ _) rfl rfl Try.isAgg9) rfl <| RJ_gy (GY_yes rfl rfl rfl rfl) <| O_call ((c_mRm hv2 (k := j) (by omega) (by simp_all [ab]) (by omega))) rfl Try.call19 (Dels.cons del0 Dels.nil) rfl fun _ hc25 => gP (GY_yes rfl rfl rfl rfl) (P_neq rfl rfl) rfl <| oP (P_pickT rfl rfl rfl) rfl <| nT ?_
              first | (refine CJ_condD rfl (fun hg29 => ?_) (fun hg29 => ?_)) | (refine CJ_condN rfl (fun hg29 => ?_) (fun hg29 => ?_)) | (refine CJ_cond rfl (fun hg29 => ?_) (fun hg29 => ?_))
              ·
               refine sR <| oA rfl rfl <| nT <| CJ_ret <| QJ_block_ret <| QJ_then_ret <| QJ_round_ret <| QJ_block_ret <| QJ_block_ret <| QJ_then_ret <| QJ_round_ret <| QJ_block_ret <| QJ_then_ret ?_
               exfalso; first | omega | (simp_all; done) | (cases hq : rch t0 t1 t2 x y 3 <;> simp_all)
              ·
               refine CJ_skip <| QJ_block_normal <| QJ_then <| CJ_region <| oM rfl rfl <| oP (P_add rfl rfl (by first | omega | (show i < 3; omega) | (show x < 3; omega) | (show y < 3; omega) | (show j < 3; omega))) rfl <| oA rfl rfl <| RJ_nil <| QJ_nextR ⟨j + 1, (c3 + 1)⟩ (by show 3 - (j + 1) < 3 - j; omega) ?_ (by repeat (first | exact Kp.base | exact Kp.self | refine Kp.cons rfl ?_ | refine Kp.forget rfl ?_)) ?_ (t0_ (t0_ (t0_ (t0_ (t0_ (t0_ (t0_ eR)))))))
               · exact ⟨by omega, by omega⟩
               · exact ⟨rfl, True.intro⟩
             ·
              refine gP (GY_yes rfl rfl rfl hg28B) (P_move rfl) rfl <| gP (GY_yes rfl rfl rfl hg28B) (P_indexArrO (i := 1) rfl rfl rfl (by decide) Try.runUnderlying55 Try.sizeOf54) rfl <| gP (GY_yes rfl rfl rfl hg28B) (P_indexArrO (i := j) rfl rfl rfl (show j < 3 by omega) Try.runUnderlying54 Try.sizeOf4) rfl <| gV (GY_yes rfl rfl rfl hg28B) (V_load rfl foc1 (abC_at (by decide) (show j < 3 by omega)) Try.isAgg4) rfl <| oP (P_pickF rfl hg28B rfl) rfl <| oM rfl rfl ?_
              first | (refine RJ_splitD 169 rfl (fun hg30B hg30 => ?_) (fun hg30B hg30 => ?_)) | (refine RJ_splitN 169 rfl (fun hg30B hg30 => ?_) (fun hg30B hg30 => ?_)) | (refine RJ_split 169 rfl (fun hg30B => ?_) (fun hg30B => ?_))
              ·
               refine RJ_gn (GY_no rfl rfl rfl hg30B) rfl rfl <| RJ_gn (GY_no rfl rfl rfl hg30B) rfl rfl <| RJ_gn (GY_no rfl rfl rfl hg30B) rfl rfl <| RJ_gn (GY_no rfl rfl rfl hg30B) rfl rfl <| oP (P_pickT rfl hg30B rfl) rfl <| oA rfl rfl <| nT <| sR <| oM rfl rfl <| oM rfl rfl <| gP (GY_yes rfl rfl rfl rfl) (P_move rfl) rfl <| gP (GY_yes rfl rfl rfl rfl) (P_move rfl) rfl <| gP (GY_yes rfl rfl rfl rfl) (P_move rfl) rfl <| gV (GY_yes rfl rfl rfl rfl) (V_index rfl rfl rfl (by show j < 3; omega) foc5 (Reads.sl _ _ _) Try.runUnderlying45 Try.sizeOf9) rfl <| gV (GY_yes rfl rfl rfl rfl) (V_loadE rfl rfl (by first | omega | (show i < 3; omega) | (show x < 3; omega) | (show y < 3; omega) | (show j < 3; omega)) foc5 (Reads.sl _ _ _) rfl rfl Try.isAgg9) rfl <| RJ_gy (GY_yes rfl rfl rfl rfl) <| O_call ((c_mRm hv2 (k := j) (by omega) (by simp_all [ab]) (by omega))) rfl Try.call19 (Dels.cons del0 Dels.nil) rfl fun _ hc26 => gP (GY_yes rfl rfl rfl rfl) (P_neq rfl rfl) rfl <| oP (P_pickT rfl rfl rfl) rfl <| nT ?_
               first | (refine CJ_condD rfl (fun hg31 => ?_) (fun hg31 => ?_)) | (refine CJ_condN rfl (fun hg31 => ?_) (fun hg31 => ?_)) | (refine CJ_cond rfl (fun hg31 => ?_) (fun hg31 => ?_))
               ·
                refine sR <| oA rfl rfl <| nT <| CJ_ret <| QJ_block_ret <| QJ_then_ret <| QJ_round_ret <| QJ_block_ret <| QJ_block_ret <| QJ_then_ret <| QJ_round_ret <| QJ_block_ret <| QJ_then_ret ?_
                exfalso; first | omega | (simp_all; done) | (cases hq : rch t0 t1 t2 x y 3 <;> simp_all)
               ·
                refine CJ_skip <| QJ_block_normal <| QJ_then <| CJ_region <| oM rfl rfl <| oP (P_add rfl rfl (by first | omega | (show i < 3; omega) | (show x < 3; omega) | (show y < 3; omega) | (show j < 3; omega))) rfl <| oA rfl rfl <| RJ_nil <| QJ_nextR ⟨j + 1, (c3 + 1)⟩ (by show 3 - (j + 1) < 3 - j; omega) ?_ (by repeat (first | exact Kp.base | exact Kp.self | refine Kp.cons rfl ?_ | refine Kp.forget rfl ?_)) ?_ (t0_ (t0_ (t0_ (t0_ (t0_ (t0_ (t0_ eR)))))))
                · exact ⟨by omega, by omega⟩
                · exact ⟨rfl, True.intro⟩
              ·
               refine gP (GY_yes rfl rfl rfl hg30B) (P_move rfl) rfl <| gP (GY_yes rfl rfl rfl hg30B) (P_indexArrO (i := 2) rfl rfl rfl (by decide) Try.runUnderlying55 Try.sizeOf54) rfl <| gP (GY_yes rfl rfl rfl hg30B) (P_indexArrO (i := j) rfl rfl rfl (show j < 3 by omega) Try.runUnderlying54 Try.sizeOf4) rfl <| gV (GY_yes rfl rfl rfl hg30B) (V_load rfl foc1 (abC_at (by decide) (show j < 3 by omega)) Try.isAgg4) rfl <| oP (P_pickF rfl hg30B rfl) rfl <| oA rfl rfl <| nT <| sR <| oM rfl rfl <| oM rfl rfl ?_
               first | (refine RJ_splitD 176 rfl (fun hg32B hg32 => ?_) (fun hg32B hg32 => ?_)) | (refine RJ_splitN 176 rfl (fun hg32B hg32 => ?_) (fun hg32B hg32 => ?_)) | (refine RJ_split 176 rfl (fun hg32B => ?_) (fun hg32B => ?_))
               ·
                refine gP (GY_yes rfl rfl rfl hg32B) (P_move rfl) rfl <| gP (GY_yes rfl rfl rfl hg32B) (P_move rfl) rfl <| gP (GY_yes rfl rfl rfl hg32B) (P_move rfl) rfl <| gV (GY_yes rfl rfl rfl hg32B) (V_index rfl rfl rfl (by show j < 3; omega) foc5 (Reads.sl _ _ _) Try.runUnderlying45 Try.sizeOf9) rfl <| gV (GY_yes rfl rfl rfl hg32B) (V_loadE rfl rfl (by first | omega | (show i < 3; omega) | (show x < 3; omega) | (show y < 3; omega) | (show j < 3; omega)) foc5 (Reads.sl _ _ _) rfl rfl Try.isAgg9) rfl <| RJ_gy (GY_yes rfl rfl rfl hg32B) <| O_call ((c_mRm hv2 (k := j) (by omega) (by simp_all [ab]) (by omega))) rfl Try.call19 (Dels.cons del0 Dels.nil) rfl fun _ hc27 => gP (GY_yes rfl rfl rfl hg32B) (P_neq rfl rfl) rfl <| oP (P_pickT rfl hg32B rfl) rfl <| nT ?_
                first | (refine CJ_condD rfl (fun hg33 => ?_) (fun hg33 => ?_)) | (refine CJ_condN rfl (fun hg33 => ?_) (fun hg33 => ?_)) | (refine CJ_cond rfl (fun hg33 => ?_) (fun hg33 => ?_))
                ·
                 refine sR <| oA rfl rfl <| nT <| CJ_ret <| QJ_block_ret <| QJ_then_ret <| QJ_round_ret <| QJ_block_ret <| QJ_block_ret <| QJ_then_ret <| QJ_round_ret <| QJ_block_ret <| QJ_then_ret ?_
                 exfalso; first | omega | (simp_all; done) | (cases hq : rch t0 t1 t2 x y 3 <;> simp_all)
                ·
                 refine CJ_skip <| QJ_block_normal <| QJ_then <| CJ_region <| oM rfl rfl <| oP (P_add rfl rfl (by first | omega | (show i < 3; omega) | (show x < 3; omega) | (show y < 3; omega) | (show j < 3; omega))) rfl <| oA rfl rfl <| RJ_nil <| QJ_nextR ⟨j + 1, (c3 + 1)⟩ (by show 3 - (j + 1) < 3 - j; omega) ?_ (by repeat (first | exact Kp.base | exact Kp.self | refine Kp.cons rfl ?_ | refine Kp.forget rfl ?_)) ?_ (t0_ (t0_ (t0_ (t0_ (t0_ (t0_ (t0_ eR)))))))
                 · exact ⟨by omega, by omega⟩
                 · exact ⟨rfl, True.intro⟩
               ·
                refine RJ_gn (GY_no rfl rfl rfl hg32B) rfl rfl <| RJ_gn (GY_no rfl rfl rfl hg32B) rfl rfl <| RJ_gn (GY_no rfl rfl rfl hg32B) rfl rfl <| RJ_gn (GY_no rfl rfl rfl hg32B) rfl rfl <| RJ_gn (GY_no rfl rfl rfl hg32B) rfl rfl <| RJ_gn (GY_no rfl rfl rfl hg32B) rfl rfl <| RJ_gn (GY_no rfl rfl rfl hg32B) rfl rfl <| oP (P_pickF rfl hg32B rfl) rfl <| nT <| CJ_condF rfl rfl <| CJ_skip <| QJ_block_normal <| QJ_then <| CJ_region <| oM rfl rfl <| oP (P_add rfl rfl (by first | omega | (show i < 3; omega) | (show x < 3; omega) | (show y < 3; omega) | (show j < 3; omega))) rfl <| oA rfl rfl <| RJ_nil <| QJ_nextR ⟨j + 1, c3⟩ (by show 3 - (j + 1) < 3 - j; omega) ?_ (by repeat (first | exact Kp.base | exact Kp.self | refine Kp.cons rfl ?_ | refine Kp.forget rfl ?_)) ?_ (t0_ (t0_ (t0_ (t0_ (t0_ (t0_ (t0_ eR)))))))
                · exact ⟨by omega, by omega⟩
                · exact ⟨rfl, True.intro⟩
            ·
             refine CJ_exit <| QJ_then_exit <| QJ_round_exit <| QJ_block_here <| QJ_block_normal <| QJ_then <| CJ_region <| oM rfl rfl <| oP (P_sub rfl rfl (by first | omega | (show i < 3; omega) | (show x < 3; omega) | (show y < 3; omega) | (show j < 3; omega))) rfl <| oA rfl rfl <| RJ_nil <| QJ_nextR ⟨i - 1, sy, u0, u1, u2, c3⟩ (by show (i - 1).toNat < i.toNat; omega) ?_ (by repeat (first | exact Kp.base | exact Kp.self | refine Kp.cons rfl ?_ | refine Kp.forget rfl ?_)) ?_ (t3_ (t0_ (t0_ (t1_ (t1_ (t1_ (eD eR)))))))
             · exact ⟨by omega, by omega, by omega, hv2, hsy⟩
             · exact ⟨rfl, True.intro⟩
    ·
     refine CJ_exit <| QJ_then_exit <| QJ_round_exit <| QJ_block_here <| QJ_then <| sR <| oO <| O_call ((L_volumegrouplaw23_awake awake23_eq)) rfl Try.call16 Dels.nil rfl fun _ hc28 => oA rfl rfl <| nT <| CJ_ret <| QJ_end (res1 Try.results5 rfl) <| CSpec.close () ?_ ?_ (t3_ (eD (eD (eD (eD (eD eR))))))
     · rfl
     · trivial
end Go.Proofs
