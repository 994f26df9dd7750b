/- MapperDevices, part 6 of the proof: CRf0, CRf1, CRf2, CRf3, CRf4, CRf5, CRf6, CRf7, CRf8. -/
import Derived.WalkKit
import Derived.Orders
import Derived.RangeFuncLeaves
import Derived.RangeFuncCalls
import Derived.TacticsIn
import Derived.Handy
import Derived.OrdersHeld
import Derived.OrdersIn
import Derived.Below
import Derived.OpenShut
import Derived.Deep.Slices
import Derived.Scope
import Derived.RangeFuncRecord
import Derived.ChangeKeysEq
import Derived.Laws.BytesArg
import Derived.KernelRfl
import Derived.Maps.RangeRun
import Derived.LaidEql
import Derived.ProofKit
import Derived.ShutString
import Derived.ChangeOld
import Derived.Test.YtbmipeiphoghcaaGreatChecked
import Derived.Test.YtbmipeiphoghcaaGreatRows
import Derived.Test.YtbmipeiphoghcaaGreatZMapperDevices5
set_option linter.unusedSimpArgs false
set_option maxRecDepth 20000
namespace Go.Proofs
open Go.VG
theorem zn3 (v0 : ByteArray) : zby Tryz.prog 59 1 [(0, .string v0)] 9 [.string v0] := fun w => by kernel_rfl
structure RD where
  ba : Sl3
  lv : Sl3
  nw : Sl3
  wt : Sl3
abbrev rd0 : RD := ⟨s3z, s3z, s3z, s3z⟩
abbrev tyWt : Ty Wt := { T := 94, sz := 5, enc := fun x => [.int .i64 (x.tk : Int), .int .i64 (x.gv : Int), .int .i64 x.t.Kind, .int .i64 x.t.At, .int .u64 (x.t.Value.toNat : Int)], dflt := Wt.z, len := fun _ => rfl, one := fun _ => rfl, pos := by decide }
theorem zi6 : ElemOk Tryz.prog tyWt 40 := ⟨Tryz.t94, .agg #[.int .i64 0, .int .i64 0, .int .i64 0, .int .i64 0, .int .u64 0], by kernel_rfl, rfl, rfl, rfl, rfl⟩
abbrev tyDv : Ty (RD × Dv) := { T := 91, sz := 10, enc := fun x => [.bool x.2.gone, .bool x.2.isB, .string x.2.name, x.1.ba.v, x.1.lv.v, x.1.nw.v, .bool x.2.hl, .bool x.2.hn, .bool x.2.susp, x.1.wt.v], dflt := (rd0, Dv.z), len := fun _ => rfl, one := fun _ => rfl, pos := by decide }
theorem zwp : ElemOk Tryz.prog tyDv 128 := ⟨Tryz.t91, .agg #[.bool false, .bool false, .string ByteArray.empty, .slice none 0 0, .slice none 0 0, .slice none 0 0, .bool false, .bool false, .bool false, .slice none 0 0], by kernel_rfl, rfl, rfl, rfl, rfl⟩
structure RH where
  dv : Sl3
  tv : Sl3
  l : List (RD × Dv)
def RowC (x : RD × Dv) : HP := star [sl tyU x.1.ba.v x.2.base, sl tyapi_Target x.1.lv.v x.2.live, sl tyapi_Target x.1.nw.v x.2.new, sl tyWt x.1.wt.v x.2.wait]
structure RefWF (c : RH) (m : Md) : Prop where
  dv : c.l.map Prod.snd = m.dv
  ok : MdOk m
  big : MdBig m
def RefR (c : RH) (m : Md) : HP := star [pur (RefWF c m), sl tyDv c.dv.v c.l, sl zau c.tv.v m.told, Go.VG.Own RowC c.l]
abbrev zbp (c : RH) (m : Md) : List Value := [c.dv.v, .int .i64 (m.tks : Int), c.tv.v]
def RefP (b : Nat) (m : Md) : HP := ex fun c : RH => star [pur (MdBd m), blk b 72 (zbp c m), RefR c m]
section
variable {c : RH} {m : Md} {k : Nat} {R : List HP}
theorem zcs {H : List HP} {C : HP → List HP} (hf : Foc H (RefR c m) C) : ∀ h, stars H h → RefWF c m := fun h hh => by
  obtain ⟨F, hp, _⟩ := hf.focus
  exact (stars_pur.1 (stars_star.1 (zbr hp _ hh))).1
theorem zop : Ent (RefR c m :: R) (sl tyDv c.dv.v c.l :: sl zau c.tv.v m.told :: Go.VG.Own RowC c.l :: R) := fun _h hh => (stars_pur.1 (stars_star.1 hh)).2
theorem zjp (h : RefWF c m) : Ent (sl tyDv c.dv.v c.l :: sl zau c.tv.v m.told :: Go.VG.Own RowC c.l :: R) (RefR c m :: R) := fun _ hh => stars_star.2 (stars_pur.2 ⟨h, hh⟩)
theorem rdDv : Reads (RefR c m) tyDv c.dv.v c.l := zel zop
theorem RefWF.len (h : RefWF c m) : c.l.length = m.dv.length := by rw [← h.dv]; simp
theorem RefWF.at (h : RefWF c m) (k : Nat) : (c.l.getD k tyDv.dflt).2 = m.at k := by
  have h2 := zo9 (fun p : RD × Dv => p.2) c.l k (rd0, Dv.z)
  have h3 : (c.l.map fun p : RD × Dv => p.2).getD k Dv.z = m.at k := by rw [show (c.l.map fun p : RD × Dv => p.2) = m.dv from h.dv]; rfl
  exact h2.symm.trans h3
theorem ztn {dv : Sl3} {h : RD} {d : Dv} (hW : RefWF c m) (ok : MdOk (m.push d)) (big : MdBig (m.push d)) : Ent (RowC (h, d) :: Go.VG.Own RowC c.l :: sl tyDv dv.v (c.l ++ [(h, d)]) :: sl zau c.tv.v m.told :: R) (RefR { c with dv := dv, l := c.l ++ [(h, d)] } (m.push d) :: R) := fun g hh => by
  have hw : RefWF { c with dv := dv, l := c.l ++ [(h, d)] } (m.push d) := ⟨by show (c.l ++ [(h, d)]).map Prod.snd = m.dv ++ [d]; rw [List.map_append, hW.dv]; rfl, ok, big⟩
  have h1 := zlz RowC (h, d) g hh
  exact zjp (c := { c with dv := dv, l := c.l ++ [(h, d)] }) hw g ((Ent.take del1 (Ent.take del1 (Ent.take del0 Ent.refl))) g h1)
end
namespace Md
def findI (m : Md) (n : ByteArray) : Int := match m.find n with | some k => (k : Int) | none => -1
section
variable {m : Md} {n : ByteArray} {i : Nat}
theorem findI_at (hi : i < m.dv.length) (h : isN (m.at i) n = true) (hno : ∀ j, j < i → isN (m.at j) n = false) : m.findI n = (i : Int) := by
  have : m.find n = some i := List.findIdx?_eq_some_iff_getElem.2 ⟨hi, by rw [show m.dv[i] = m.at i by simp [Md.at, List.getD, hi]]; exact h, fun j hj => by
    have := hno j hj
    rw [show m.dv[j] = m.at j by simp [Md.at, List.getD, show j < m.dv.length by omega], this]; decide⟩
  unfold findI; rw [this]
theorem findI_no (hno : ∀ j, j < m.dv.length → isN (m.at j) n = false) : m.findI n = -1 := by
  have : m.find n = none := List.findIdx?_eq_none_iff.2 fun d hd => by
    obtain ⟨j, hj, rfl⟩ := List.getElem_of_mem hd
    have := hno j hj
    rwa [show m.dv[j] = m.at j by simp [Md.at, List.getD, hj]]
  unfold findI; rw [this]
theorem findI_some : (0 ≤ m.findI n) ↔ (m.find n).isSome = true := by
  unfold findI
  cases m.find n with
  | none => simp
  | some k => simp
def nmT (m : Md) (i : Nat) : List ByteArray := ((m.dv.take i).filter fun d => !d.gone).map (·.name)
theorem nmT_step (hi : i < m.dv.length) : m.nmT (i + 1) = m.nmT i ++ (if (m.at i).gone then [] else [(m.at i).name]) := by
  unfold nmT
  have e : m.dv.take (i + 1) = m.dv.take i ++ [m.at i] := by rw [List.take_succ_eq_append_getElem hi]; simp [Md.at, List.getD, hi]
  rw [e, List.filter_append, List.map_append]
  cases h : (m.at i).gone <;> simp [h]
theorem nmT_len (i : Nat) : (m.nmT i).length ≤ i := by
  unfold nmT
  rw [List.length_map]
  exact Nat.le_trans (List.length_filter_le _ _) (by rw [List.length_take]; omega)
end
end Md
theorem ze3 {W : World} {b : Nat} {c : RH} {m : Md} {n : ByteArray} :
    CSpec Tryz.prog W 39 [ptr b 0, .string n] [blk b 72 (zbp c m), RefR c m] (fun _ : Unit => .int .i64 (m.findI n)) (fun _ => True) (fun _ F => blk b 72 (zbp c m) :: RefR c m :: F) := by
 refine CSpec.of_body Tryz.func39 rfl Tryz.ntmps39 rfl fun F => ?_
 show CJ _ _ _ _ _ _ (_ :: _ :: F)
 refine zbl (zcs foc1) fun hW => ?_
 have hO := hW.ok
 have hln := hW.big.len
 have hll := hW.len
 refine sR <| oA rfl rfl <| nT <| zaf <| sR <| oA rfl rfl <| nT <| zat <| zbs (X := Nat) [4, 5, 6, 7, 8, 9, 10, 11, 12, 13, 14, 15, 16, 17, 18, 19, 20, 21, 22, 23, 24, 25, 26, 27, 28, 29, 30, 31, 32, 33, 34, 35, 36] (fun i  => ([(5, .int .i64 (i : Nat))] : Slots)) (fun i R => R) (fun i  => i ≤ m.dv.length ∧ ∀ j, j < i → Md.isN (m.at j) n = false) (fun i  => m.dv.length - i) (0) ?_ ?_ (t0_ (t0_ eR)) ?_
 · exact ⟨Nat.zero_le _, fun j h => by omega⟩
 · exact ⟨rfl, True.intro⟩
 ·
  intro i hpf
  obtain ⟨hi, hno⟩ := hpf
  show CJ _ _ _ _ _ (([(5, .int .i64 (i : Nat))] : Slots) ++ forget _ _) (_)
  have hat := hW.at i
  refine zaf <| sR <| oM rfl rfl <| oM rfl rfl <| oP (zae rfl) rfl <| oP (zaa rfl ⟨_, _, _, Tryz.runUnderlying72, rfl, rfl, Tryz.sizeOf70, rfl⟩) rfl <| oV (zah rfl foc0 rfl Tryz.isAgg70) rfl <| oV (V_len rfl foc1 rdDv Tryz.runUnderlying70) rfl <| oP (P_lss rfl rfl) rfl <| nT ?_
  first | (refine zao rfl (fun hg1 => ?_) (fun hg1 => ?_)) | (refine zap rfl (fun hg1 => ?_) (fun hg1 => ?_)) | (refine zar rfl (fun hg1 => ?_) (fun hg1 => ?_))
  ·
   refine kT <| zaf <| zat <| sR <| oM rfl rfl <| oP (zae rfl) rfl <| oP (zaa rfl ⟨_, _, _, Tryz.runUnderlying72, rfl, rfl, Tryz.sizeOf70, rfl⟩) rfl <| oV (zah rfl foc0 rfl Tryz.isAgg70) rfl <| oM rfl rfl ?_
   first | (refine RJ_op rfl (OJ_V (zan rfl rfl rfl (by omega) foc1 rdDv Tryz.runUnderlying70 Tryz.sizeOf91) rfl ?_)) | (refine RJ_op rfl (OJ_V (zan rfl rfl (Int.toNat_of_nonneg (by omega)).symm (by omega) foc1 rdDv Tryz.runUnderlying70 Tryz.sizeOf91) rfl ?_))
   refine oP (za2 rfl ⟨_, _, _, Tryz.runUnderlying91, rfl, rfl, Tryz.sizeOf4, rfl⟩) rfl <| oV (za3 rfl rfl (by omega) foc1 rdDv rfl rfl Tryz.isAgg4) rfl <| oP (P_not rfl) rfl <| oM rfl rfl ?_
   first | (refine zba 24 rfl (fun hg2B hg2 => ?_) (fun hg2B hg2 => ?_)) | (refine zbb 24 rfl (fun hg2B hg2 => ?_) (fun hg2B hg2 => ?_)) | (refine zbi 24 rfl (fun hg2B => ?_) (fun hg2B => ?_))
   ·
    refine gP (zab rfl rfl rfl hg2B) (zag rfl) rfl <| gP (zab rfl rfl rfl hg2B) (zae rfl) rfl <| gP (zab rfl rfl rfl hg2B) (zaa rfl ⟨_, _, _, Tryz.runUnderlying72, rfl, rfl, Tryz.sizeOf70, rfl⟩) rfl <| gV (zab rfl rfl rfl hg2B) (zah rfl foc0 rfl Tryz.isAgg70) rfl <| gP (zab rfl rfl rfl hg2B) (zag rfl) rfl ?_
    first | (refine RJ_gy (zab rfl rfl rfl hg2B) (OJ_V (zan rfl rfl rfl (by omega) foc1 rdDv Tryz.runUnderlying70 Tryz.sizeOf91) rfl ?_)) | (refine RJ_gy (zab rfl rfl rfl hg2B) (OJ_V (zan rfl rfl (Int.toNat_of_nonneg (by omega)).symm (by omega) foc1 rdDv Tryz.runUnderlying70 Tryz.sizeOf91) rfl ?_))
    refine gP (zab rfl rfl rfl hg2B) (za2 rfl ⟨_, _, _, Tryz.runUnderlying91, rfl, rfl, Tryz.sizeOf9, rfl⟩) rfl <| gV (zab rfl rfl rfl hg2B) (za3 rfl rfl (by omega) foc1 rdDv rfl rfl Tryz.isAgg9) rfl <| gP (zab rfl rfl rfl hg2B) (zag rfl) rfl <| gP (zab rfl rfl rfl hg2B) (zcx rfl rfl Tryz.underlying9) rfl <| oP (zas rfl hg2B rfl) rfl <| nT ?_
    first | (refine zao rfl (fun hg3 => ?_) (fun hg3 => ?_)) | (refine zap rfl (fun hg3 => ?_) (fun hg3 => ?_)) | (refine zar rfl (fun hg3 => ?_) (fun hg3 => ?_))
    ·
     refine sR <| oM rfl rfl <| oA rfl rfl <| nT <| zai <| zaj <| zad <| zbd <| zaj <| zad <| zam (res1 Tryz.results39 rfl) <| CSpec.close () ?_ ?_ (t0_ (t0_ eR))
     · exact iv (Md.findI_at (by omega) (by unfold Md.isN; rw [← hat]; simp_all) hno).symm
     · trivial
    ·
     refine zbk <| zal <| zav <| zak <| oM rfl rfl <| oP (P_add rfl rfl (by omega)) rfl <| oA rfl rfl <| za9 <| zbg (i + 1) (by first | omega | (simp only []; omega)) ?_ (by repeat (first | exact Kp.base | exact Kp.self | refine Kp.cons rfl ?_ | refine Kp.forget rfl ?_)) ?_ (t0_ (t0_ eR))
     ·
      refine ⟨by omega, fun j hj => ?_⟩
      rcases Nat.lt_or_ge j i with h | h
      · exact hno j h
      · obtain rfl : j = i := by omega
        unfold Md.isN; rw [← hat]; simp_all
     · exact ⟨rfl, True.intro⟩
   ·
    refine RJ_gn (GY_no rfl rfl rfl hg2B) rfl rfl <| RJ_gn (GY_no rfl rfl rfl hg2B) rfl rfl <| RJ_gn (GY_no rfl rfl rfl hg2B) rfl rfl <| RJ_gn (GY_no rfl rfl rfl hg2B) rfl rfl <| RJ_gn (GY_no rfl rfl rfl hg2B) rfl rfl <| RJ_gn (GY_no rfl rfl rfl hg2B) rfl rfl <| RJ_gn (GY_no rfl rfl rfl hg2B) rfl rfl <| RJ_gn (GY_no rfl rfl rfl hg2B) rfl rfl <| RJ_gn (GY_no rfl rfl rfl hg2B) rfl rfl <| RJ_gn (GY_no rfl rfl rfl hg2B) rfl rfl <| oP (zay rfl hg2B rfl) rfl <| nT <| za5 rfl rfl <| zbk <| zal <| zav <| zak <| oM rfl rfl <| oP (P_add rfl rfl (by omega)) rfl <| oA rfl rfl <| za9 <| zbg (i + 1) (by first | omega | (simp only []; omega)) ?_ (by repeat (first | exact Kp.base | exact Kp.self | refine Kp.cons rfl ?_ | refine Kp.forget rfl ?_)) ?_ (t0_ (t0_ eR))
    ·
     refine ⟨by omega, fun j hj => ?_⟩
     rcases Nat.lt_or_ge j i with h | h
     · exact hno j h
     · obtain rfl : j = i := by omega
       unfold Md.isN; rw [← hat]; simp_all
    · exact ⟨rfl, True.intro⟩
  ·
   refine zbt <| za6 <| za7 <| za1 <| zav <| sR <| oA rfl rfl <| nT <| zai <| zam (res1 Tryz.results39 rfl) <| CSpec.close () ?_ ?_ (t0_ (t0_ eR))
   · exact iv (Md.findI_no fun j hj => hno j (by omega)).symm
   · trivial
theorem zu4 {W : World} {b : Nat} {c : RH} {m : Md} {n : ByteArray} :
    CSpec Tryz.prog W 66 [ptr b 0, .string n] [blk b 72 (zbp c m), RefR c m] (fun _ : Unit => .int .i64 (m.freshE n)) (fun _ => True) (fun _ F => blk b 72 (zbp c m) :: RefR c m :: F) := by
 refine CSpec.of_body Tryz.func66 rfl Tryz.ntmps66 rfl fun F => ?_
 show CJ _ _ _ _ _ _ (_ :: _ :: F)
 refine zbl (zcs foc1) fun hW => ?_
 have hO := hW.ok
 have hln := hW.big.len
 have hll := hW.len
 refine sR <| oA rfl rfl <| nT <| zaf <| sR <| oM rfl rfl <| oP (zmu rfl Tryz.runUnderlying9) rfl <| oP (P_lss rfl rfl) rfl <| oM rfl rfl ?_
 first | (refine zba 8 rfl (fun hg1B hg1 => ?_) (fun hg1B hg1 => ?_)) | (refine zbb 8 rfl (fun hg1B hg1 => ?_) (fun hg1B hg1 => ?_)) | (refine zbi 8 rfl (fun hg1B => ?_) (fun hg1B => ?_))
 ·
  refine RJ_gn (GY_no rfl rfl rfl hg1B) rfl rfl <| RJ_gn (GY_no rfl rfl rfl hg1B) rfl rfl <| RJ_gn (GY_no rfl rfl rfl hg1B) rfl rfl <| oP (zas rfl hg1B rfl) rfl <| nT <| za4 rfl rfl <| sR <| oA rfl rfl <| nT <| zai <| zad <| zam (res1 Tryz.results66 rfl) <| CSpec.close () ?_ ?_ (t0_ (t0_ eR))
  · exact iv (by unfold Md.freshE; first | rw [if_pos (show n.size < 1 ∨ 40 < n.size by omega)] | rw [if_neg (show ¬ (n.size < 1 ∨ 40 < n.size) by omega), if_pos (Md.findI_some.1 (by assumption))] | rw [if_neg (show ¬ (n.size < 1 ∨ 40 < n.size) by omega), if_neg (fun h => absurd (Md.findI_some.2 h) (by assumption))])
  · trivial
 ·
  refine gP (zab rfl rfl rfl hg1B) (zag rfl) rfl <| gP (zab rfl rfl rfl hg1B) (zmu rfl Tryz.runUnderlying9) rfl <| gP (zab rfl rfl rfl hg1B) (P_gtr rfl rfl) rfl <| oP (zay rfl hg1B rfl) rfl <| nT ?_
  first | (refine zao rfl (fun hg2 => ?_) (fun hg2 => ?_)) | (refine zap rfl (fun hg2 => ?_) (fun hg2 => ?_)) | (refine zar rfl (fun hg2 => ?_) (fun hg2 => ?_))
  ·
   refine sR <| oA rfl rfl <| nT <| zai <| zad <| zam (res1 Tryz.results66 rfl) <| CSpec.close () ?_ ?_ (t0_ (t0_ eR))
   · exact iv (by unfold Md.freshE; first | rw [if_pos (show n.size < 1 ∨ 40 < n.size by omega)] | rw [if_neg (show ¬ (n.size < 1 ∨ 40 < n.size) by omega), if_pos (Md.findI_some.1 (by assumption))] | rw [if_neg (show ¬ (n.size < 1 ∨ 40 < n.size) by omega), if_neg (fun h => absurd (Md.findI_some.2 h) (by assumption))])
   · trivial
  ·
   refine kT <| zaf <| sR <| oM rfl rfl <| oM rfl rfl <| oO <| zaq (ze3) rfl Tryz.call39 (Dels.cons del0 (Dels.cons del0 Dels.nil)) rfl fun _ hc1 => oP (P_geq rfl rfl) rfl <| nT ?_
   first | (refine zao rfl (fun hg3 => ?_) (fun hg3 => ?_)) | (refine zap rfl (fun hg3 => ?_) (fun hg3 => ?_)) | (refine zar rfl (fun hg3 => ?_) (fun hg3 => ?_))
   ·
    refine sR <| oA rfl rfl <| nT <| zai <| zad <| zam (res1 Tryz.results66 rfl) <| CSpec.close () ?_ ?_ (t0_ (t0_ eR))
    · exact iv (by unfold Md.freshE; first | rw [if_pos (show n.size < 1 ∨ 40 < n.size by omega)] | rw [if_neg (show ¬ (n.size < 1 ∨ 40 < n.size) by omega), if_pos (Md.findI_some.1 (by assumption))] | rw [if_neg (show ¬ (n.size < 1 ∨ 40 < n.size) by omega), if_neg (fun h => absurd (Md.findI_some.2 h) (by assumption))])
    · trivial
   ·
    refine kT <| sR <| oA rfl rfl <| nT <| zai <| zam (res1 Tryz.results66 rfl) <| CSpec.close () ?_ ?_ (t0_ (t0_ eR))
    · exact iv (by unfold Md.freshE; first | rw [if_pos (show n.size < 1 ∨ 40 < n.size by omega)] | rw [if_neg (show ¬ (n.size < 1 ∨ 40 < n.size) by omega), if_pos (Md.findI_some.1 (by assumption))] | rw [if_neg (show ¬ (n.size < 1 ∨ 40 < n.size) by omega), if_neg (fun h => absurd (Md.findI_some.2 h) (by assumption))])
    · trivial
theorem zu5 {W : World} {b : Nat} {c : RH} {m : Md} :
    CSpec Tryz.prog W 43 [ptr b 0] [blk b 72 (zbp c m), RefR c m] (fun x : Sl3 => x.v) (fun _ => True) (fun x F => sl tyS x.v m.names :: blk b 72 (zbp c m) :: RefR c m :: F) := by
 refine CSpec.of_body Tryz.func43 rfl Tryz.ntmps43 rfl fun F => ?_
 show CJ _ _ _ _ _ _ (_ :: _ :: F)
 refine zbl (zcs foc1) fun hW => ?_
 have hO := hW.ok
 have hln := hW.big.len
 have hll := hW.len
 refine sR <| oA rfl rfl <| nT <| sR <| oA rfl rfl <| nT <| zaf <| sR <| oA rfl rfl <| nT <| zat <| zbf (fun h hh => zb2 (t := tyS) h hh) <| zbs (X := Nat × Sl3) [3, 4, 5, 6, 7, 8, 9, 10, 11, 12, 13, 14, 15, 16, 17, 18, 19, 20, 21, 22, 23, 24, 25, 26, 27, 28, 29, 30, 31, 32, 33] (fun ⟨i, rv⟩  => ([(4, .int .i64 (i : Nat)), (3, rv.v)] : Slots)) (fun ⟨i, rv⟩ R => sl tyS rv.v (m.nmT i) :: R) (fun ⟨i, rv⟩  => i ≤ m.dv.length) (fun ⟨i, rv⟩  => m.dv.length - i) ⟨0, ⟨none, 0, 0⟩⟩ ?_ ?_ (t0_ (t0_ (t0_ eR))) ?_
 · exact Nat.zero_le _
 · exact ⟨rfl, rfl, True.intro⟩
 ·
  rintro ⟨i, rv⟩ hi
  show CJ _ _ _ _ _ (([(4, .int .i64 (i : Nat)), (3, rv.v)] : Slots) ++ forget _ _) (sl tyS rv.v (m.nmT i) :: _)
  have hat := hW.at i
  have hnl := Md.nmT_len (m := m) i
  refine zaf <| sR <| oM rfl rfl <| oM rfl rfl <| oP (zae rfl) rfl <| oP (zaa rfl ⟨_, _, _, Tryz.runUnderlying72, rfl, rfl, Tryz.sizeOf70, rfl⟩) rfl <| oV (zah rfl foc1 rfl Tryz.isAgg70) rfl <| oV (V_len rfl foc2 rdDv Tryz.runUnderlying70) rfl <| oP (P_lss rfl rfl) rfl <| nT ?_
  first | (refine zao rfl (fun hg1 => ?_) (fun hg1 => ?_)) | (refine zap rfl (fun hg1 => ?_) (fun hg1 => ?_)) | (refine zar rfl (fun hg1 => ?_) (fun hg1 => ?_))
  ·
   refine kT <| zaf <| zat <| sR <| oM rfl rfl <| oP (zae rfl) rfl <| oP (zaa rfl ⟨_, _, _, Tryz.runUnderlying72, rfl, rfl, Tryz.sizeOf70, rfl⟩) rfl <| oV (zah rfl foc1 rfl Tryz.isAgg70) rfl <| oM rfl rfl ?_
   first | (refine RJ_op rfl (OJ_V (zan rfl rfl rfl (by omega) foc2 rdDv Tryz.runUnderlying70 Tryz.sizeOf91) rfl ?_)) | (refine RJ_op rfl (OJ_V (zan rfl rfl (Int.toNat_of_nonneg (by omega)).symm (by omega) foc2 rdDv Tryz.runUnderlying70 Tryz.sizeOf91) rfl ?_))
   refine oP (za2 rfl ⟨_, _, _, Tryz.runUnderlying91, rfl, rfl, Tryz.sizeOf4, rfl⟩) rfl <| oV (za3 rfl rfl (by omega) foc2 rdDv rfl rfl Tryz.isAgg4) rfl <| oP (P_not rfl) rfl <| nT ?_
   first | (refine zao rfl (fun hg2 => ?_) (fun hg2 => ?_)) | (refine zap rfl (fun hg2 => ?_) (fun hg2 => ?_)) | (refine zar rfl (fun hg2 => ?_) (fun hg2 => ?_))
   ·
    refine zak <| oM rfl rfl <| oM rfl rfl <| oP (zae rfl) rfl <| oP (zaa rfl ⟨_, _, _, Tryz.runUnderlying72, rfl, rfl, Tryz.sizeOf70, rfl⟩) rfl <| oV (zah rfl foc1 rfl Tryz.isAgg70) rfl <| oM rfl rfl ?_
    first | (refine RJ_op rfl (OJ_V (zan rfl rfl rfl (by omega) foc2 rdDv Tryz.runUnderlying70 Tryz.sizeOf91) rfl ?_)) | (refine RJ_op rfl (OJ_V (zan rfl rfl (Int.toNat_of_nonneg (by omega)).symm (by omega) foc2 rdDv Tryz.runUnderlying70 Tryz.sizeOf91) rfl ?_))
    refine oP (za2 rfl ⟨_, _, _, Tryz.runUnderlying91, rfl, rfl, Tryz.sizeOf9, rfl⟩) rfl <| oV (za3 rfl rfl (by omega) foc2 rdDv rfl rfl Tryz.isAgg9) rfl <| oO <| zbe rfl (zn3 _) rfl fun b1 => oO <| zbv (t := tyS) (bytes := 16) rfl rfl del1 foc0 (Reads.lit (t := tyS) (ys := [(c.l.getD i tyDv.dflt).2.name]) rfl rfl (by decide) (by decide) rfl) Tryz.underlying59 ziz (by simp only [List.length_append, List.length_cons, List.length_nil, maxLen] at *; omega) (by simp only [List.length_append, List.length_cons, List.length_nil, maxLen] at *; omega) rfl fun p2 c3 => oA rfl rfl <| za9 <| zal <| zav <| zak <| oM rfl rfl <| oP (P_add rfl rfl (by omega)) rfl <| oA rfl rfl <| za9 <| zbg ⟨i + 1, ⟨p2, _, c3⟩⟩ (by show m.dv.length - (i + 1) < m.dv.length - i; omega) ?_ (by repeat (first | exact Kp.base | exact Kp.self | refine Kp.cons rfl ?_ | refine Kp.forget rfl ?_)) ?_ (Ent.takeC del0 (congrArg (sl tyS _) (by rw [Md.nmT_step (by omega), ← hat, if_neg (by simp_all)])) (t1_ (t1_ (eD eR))))
    · omega
    · exact ⟨rfl, rfl, True.intro⟩
   ·
    refine zbk <| zal <| zav <| zak <| oM rfl rfl <| oP (P_add rfl rfl (by omega)) rfl <| oA rfl rfl <| za9 <| zbg ⟨i + 1, rv⟩ (by show m.dv.length - (i + 1) < m.dv.length - i; omega) ?_ (by repeat (first | exact Kp.base | exact Kp.self | refine Kp.cons rfl ?_ | refine Kp.forget rfl ?_)) ?_ (Ent.takeC del0 (congrArg (sl tyS _) (by rw [Md.nmT_step (by omega), ← hat, if_pos (by simp_all), List.append_nil])) (t0_ (t0_ eR)))
    · omega
    · exact ⟨rfl, rfl, True.intro⟩
  ·
   refine zbt <| za6 <| za7 <| za1 <| zav <| sR <| oM rfl rfl <| oA rfl rfl <| nT <| zai <| zam (res1 Tryz.results43 rfl) ?_
   obtain rfl : i = m.dv.length := by omega
   refine CSpec.close rv ?_ ?_ (Ent.takeC del0 (congrArg (sl tyS _) (by unfold Md.nmT Md.names; rw [List.take_length])) (t0_ (t0_ eR)))
   · rfl
   · trivial
end Go.Proofs
set_option linter.unusedSimpArgs false
set_option maxRecDepth 20000
namespace Go.Proofs
open Go.VG
theorem zn4 (v0 : Bool) (v1 : Bool) (v2 : ByteArray) (v3 : (Option Addr)) (v4 : Nat) (v5 : Nat) (v6 : (Option Addr)) (v7 : Nat) (v8 : Nat) (v9 : (Option Addr)) (v10 : Nat) (v11 : Nat) (v12 : Bool) (v13 : Bool) (v14 : Bool) (v15 : (Option Addr)) (v16 : Nat) (v17 : Nat) : zby Tryz.prog 70 1 [(0, .agg #[.bool v0, .bool v1, .string v2, .slice v3 v4 v5, .slice v6 v7 v8, .slice v9 v10 v11, .bool v12, .bool v13, .bool v14, .slice v15 v16 v17])] 91 [.bool v0, .bool v1, .string v2, .slice v3 v4 v5, .slice v6 v7 v8, .slice v9 v10 v11, .bool v12, .bool v13, .bool v14, .slice v15 v16 v17] := fun w => by kernel_rfl
theorem zli (v0 : Bool) (v1 : ByteArray) (v2 : (Option Addr)) (v3 : Nat) (v4 : Nat) : ∀ w, (Instr.build 91 (#[(1, .bool v0), (2, .string v1), (3, .slice v2 v3 v4)] : Array (Nat × Value))).run Tryz.prog w = .ok (.agg #[.bool false, .bool v0, .string v1, .slice v2 v3 v4, .slice none 0 0, .slice none 0 0, .bool false, .bool false, .bool false, .slice none 0 0]) w := fun w => by kernel_rfl
theorem zo0 (v0 : ByteArray) : ∀ w, (Instr.build 91 (#[(2, .string v0)] : Array (Nat × Value))).run Tryz.prog w = .ok (.agg #[.bool false, .bool false, .string v0, .slice none 0 0, .slice none 0 0, .slice none 0 0, .bool false, .bool false, .bool false, .slice none 0 0]) w := fun w => by kernel_rfl
section
variable {m : Md} {d : Dv} {n : ByteArray} {z : Nat}
theorem zq4 (h : m.addE d.name ≠ 0) : m.addS d = m := if_neg h
theorem zwq (h : m.addE d.name = 0) : m.addS d = m.push d := if_pos h
theorem zu6 (hO : MdOk m) (hB : MdBig m) (hl : m.dv.length + 1 ≤ 10000) (h : m.addE n = 0) : MdOk (m.push (dNew n)) ∧ MdBig (m.push (dNew n)) := by
  obtain ⟨_, hf, hn, _⟩ := cr_ok h
  exact ⟨hO.push (d := dNew n) rfl hn hf rfl rfl rfl rfl rfl rfl (Nat.zero_le _), hB.push (d := dNew n) hl rfl⟩
theorem zu7 (hO : MdOk m) (hB : MdBig m) (hl : m.dv.length + 1 ≤ 10000) (hz : z ≤ 65536) (h : m.addE n = 0) : MdOk (m.push (bNew n z)) ∧ MdBig (m.push (bNew n z)) := by
  obtain ⟨_, hf, hn, _⟩ := cr_ok h
  exact ⟨hO.push (d := bNew n z) rfl hn hf rfl rfl rfl rfl rfl rfl (by simp; exact hz), hB.push (d := bNew n z) hl rfl⟩
theorem zu8 {R : List HP} : Ent R (RowC (rd0, dNew n) :: R) := fun g hh => stars_star.2 (zb2 (t := tyU) g (zb2 (t := tyapi_Target) g (zb2 (t := tyapi_Target) g (zb2 (t := tyWt) g hh))))
theorem zu9 {v : Sl3} {R : List HP} : Ent (sl tyU v.v (List.replicate z 0) :: R) (RowC (⟨v, s3z, s3z, s3z⟩, bNew n z) :: R) := fun g hh => by
  obtain ⟨a1, a2, d1, e1, p1, q1⟩ := hh
  exact stars_star.2 ⟨a1, a2, d1, e1, p1, zb2 (t := tyapi_Target) _ (zb2 (t := tyapi_Target) _ (zb2 (t := tyWt) _ q1))⟩
end
theorem zto {W : World} {b : Nat} {c : RH} {m : Md} {h : RD} {d : Dv} (hok : m.addE d.name = 0 → MdOk (m.push d) ∧ MdBig (m.push d)) :
    CSpec Tryz.prog W 55 [ptr b 0, .agg #[.bool d.gone, .bool d.isB, .string d.name, h.ba.v, h.lv.v, h.nw.v, .bool d.hl, .bool d.hn, .bool d.susp, h.wt.v]] [RowC (h, d), blk b 72 (zbp c m), RefR c m] (fun _ : RH => .int .i64 (m.addE d.name)) (fun _ => True) (fun c2 F => blk b 72 (zbp c2 (m.addS d)) :: RefR c2 (m.addS d) :: F) := by
 refine CSpec.of_body Tryz.func55 rfl Tryz.ntmps55 rfl fun F => ?_
 show CJ _ _ _ _ _ _ (_ :: _ :: _ :: F)
 refine zbl (zcs foc2) fun hW => ?_
 have hO := hW.ok
 have hln := hW.big.len
 have hll := hW.len
 have hns := Md.names_len (m := m)
 refine sR <| oO <| O_box rfl rfl rfl fun b1 => oA rfl rfl <| nT <| zaf <| sR <| oM rfl rfl <| oP (zaa rfl ⟨_, _, _, Tryz.runUnderlying91, rfl, rfl, Tryz.sizeOf9, rfl⟩) rfl <| oV (zah rfl foc0 rfl Tryz.isAgg9) rfl <| oO <| zaq (zu4) rfl Tryz.call66 (Dels.cons del2 (Dels.cons del2 Dels.nil)) rfl fun _ hc2 => oA rfl rfl <| nT <| sR <| oM rfl rfl <| oP (P_neq rfl rfl) rfl <| nT ?_
 first | (refine zao rfl (fun hg1 => ?_) (fun hg1 => ?_)) | (refine zap rfl (fun hg1 => ?_) (fun hg1 => ?_)) | (refine zar rfl (fun hg1 => ?_) (fun hg1 => ?_))
 ·
  refine sR <| oM rfl rfl <| oA rfl rfl <| nT <| zai <| zad <| zam (res1 Tryz.results55 rfl) ?_
  have e1 : m.addE d.name = m.freshE d.name := by unfold Md.addE; first | rw [if_pos (by assumption)] | rw [if_neg (by assumption), if_pos (by omega)]
  have e2 := zq4 (m := m) (d := d) (by rw [e1]; assumption)
  rw [e2]
  refine CSpec.close c ?_ ?_ (t0_ (t0_ (eD (eD eR))))
  · exact iv e1.symm
  · trivial
 ·
  refine kT <| zaf <| sR <| oM rfl rfl <| oO <| zaq (zu5) rfl Tryz.call43 (Dels.cons del0 (Dels.cons del0 Dels.nil)) rfl fun _ hc4 => oV (V_len rfl foc0 (Reads.sl _ _ _) Tryz.runUnderlying59) rfl <| oP (P_geq rfl rfl) rfl <| nT ?_
  first | (refine zao rfl (fun hg2 => ?_) (fun hg2 => ?_)) | (refine zap rfl (fun hg2 => ?_) (fun hg2 => ?_)) | (refine zar rfl (fun hg2 => ?_) (fun hg2 => ?_))
  ·
   refine sR <| oA rfl rfl <| nT <| zai <| zad <| zam (res1 Tryz.results55 rfl) ?_
   have e1 : m.addE d.name = 4 := by unfold Md.addE; first | rw [if_pos (by assumption)] | rw [if_neg (by assumption), if_pos (by omega)]
   have e2 := zq4 (m := m) (d := d) (by rw [e1]; decide)
   rw [e2]
   refine CSpec.close c ?_ ?_ (t1_ (t1_ (eD (eD (eD eR)))))
   · exact iv e1.symm
   · trivial
  ·
   refine kT <| zaf <| zbf (Ent.trans (t2_ eR) zop) ?_
   have e0 : m.addE d.name = 0 := by unfold Md.addE; rw [if_neg (by assumption), if_neg (by omega)]
   obtain ⟨hok1, hok2⟩ := hok e0
   refine za0 1152 (by kernel_rfl) rfl <| aN 0 1 rfl rfl (zag rfl) rfl <| aN 1 3 rfl rfl (zag rfl) rfl <| aN 2 7 rfl rfl (zae rfl) rfl <| aN 3 15 rfl rfl (zaa rfl ⟨_, _, _, Tryz.runUnderlying72, rfl, rfl, Tryz.sizeOf70, rfl⟩) rfl <| aV 4 31 rfl rfl (zac rfl) (t0_ (t0_ (t0_ (t0_ (t0_ (t0_ (t0_ eR))))))) (zah rfl foc4 rfl Tryz.isAgg70) rfl <| aV 5 63 rfl rfl (zac rfl) (t0_ (t0_ (t0_ (t0_ (t0_ (t0_ (t0_ eR))))))) (zbh rfl foc5 Tryz.isAgg91 Tryz.sizeOf91 rfl rfl) rfl <| AJ_op 6 127 rfl (by kernel_rfl) rfl (zac rfl) <| zbe rfl (zn4 _ _ _ _ _ _ _ _ _ _ _ _ _ _ _ _ _ _) rfl fun b5 => ⟨fun _ => (t1_ (t1_ (t1_ (t1_ (t1_ (t1_ (t1_ (eD eR)))))))), ?_⟩
   refine AJ_op 7 255 rfl (by kernel_rfl) rfl (zac rfl) <| zbv (t := tyDv) (bytes := 128) rfl rfl del1 foc0 (Reads.lit (t := tyDv) (ys := [(h, d)]) rfl rfl (by decide) (by decide) rfl) Tryz.underlying70 zwp (by simp only [List.length_append, List.length_map, List.length_cons, List.length_nil, maxLen] at *; omega) (by simp only [List.length_append, List.length_map, List.length_cons, List.length_nil, maxLen] at *; omega) rfl fun p6 c7 => ⟨fun h => absurd h (by decide), ?_⟩
   refine aN 8 511 rfl rfl (zae rfl) rfl <| aN 9 1023 rfl rfl (zaa rfl ⟨_, _, _, Tryz.runUnderlying72, rfl, rfl, Tryz.sizeOf70, rfl⟩) rfl <| AJ_op 10 2047 rfl (by kernel_rfl) rfl (zac rfl) <| zbj rfl rfl foc5 rfl rfl Tryz.sizeOf70 <| ⟨fun h => absurd h (by decide), ?_⟩
   refine aD <| sR <| oA rfl rfl <| nT <| zai <| zam (res1 Tryz.results55 rfl) ?_
   rw [zwq e0]
   refine CSpec.close { c with dv := ⟨p6, _, c7⟩, l := c.l ++ [(h, d)] } ?_ ?_ (Ent.trans (Ent.trans (t7_ (t3_ (t0_ (t1_ eR)))) (ztn (dv := ⟨p6, _, c7⟩) hW hok1 hok2)) (t3_ (t0_ (eD (eD (eD eR))))))
   · exact iv e0.symm
   · trivial
theorem zla {W : World} {b z : Nat} {c : RH} {m : Md} {n : ByteArray} (hlen : m.dv.length + 1 ≤ 10000) (hz : z ≤ 65536) :
    CSpec Tryz.prog W 21 [ptr b 0, .string n, .int .i64 (z : Int)] [blk b 72 (zbp c m), RefR c m] (fun _ : RH => .int .i64 (m.addE n)) (fun _ => True) (fun c2 F => blk b 72 (zbp c2 (m.baS n z)) :: RefR c2 (m.baS n z) :: F) := by
 refine CSpec.of_body Tryz.func21 rfl Tryz.ntmps21 rfl fun F => ?_
 show CJ _ _ _ _ _ _ (_ :: _ :: F)
 refine zbl (zcs foc1) fun hW => ?_
 have hO := hW.ok
 have hln := hW.big.len
 have hll := hW.len
 have hns := Md.names_len (m := m)
 refine sR <| oA rfl rfl <| nT <| sR <| oM rfl rfl <| oM rfl rfl <| oM rfl rfl <| oO <| zev (t := tyU) (m := z) (x0 := (0 : UInt64)) (z := _) (bytes := _) rfl rfl rfl rfl Tryz.underlying67 ⟨Tryz.t31, by kernel_rfl, rfl, rfl, rfl⟩ rfl (by omega) (by decide) rfl fun b1 => oP (zbm rfl (zli _ _ _ _ _)) rfl <| zei (Ent.trans (t0_ eR) (zu9 (n := n) (z := z) (v := ⟨some ⟨b1, 0, none⟩, z, z⟩))) <| oO <| zaq ((zto (h := ⟨⟨some ⟨b1, 0, none⟩, z, z⟩, s3z, s3z, s3z⟩) (d := bNew n z) (zu7 hO hW.big hlen hz))) rfl Tryz.call55 (Dels.cons del0 (Dels.cons del0 (Dels.cons del0 Dels.nil))) rfl fun c9 hc2 => oA rfl rfl <| nT <| zai <| zam (res1 Tryz.results21 rfl) <| CSpec.close c9 ?_ ?_ (t0_ (t0_ eR))
 · rfl
 · trivial
theorem ztp {W : World} {b : Nat} {c : RH} {m : Md} {n : ByteArray} (hlen : m.dv.length + 1 ≤ 10000) :
    CSpec Tryz.prog W 23 [ptr b 0, .string n] [blk b 72 (zbp c m), RefR c m] (fun _ : RH => .int .i64 (m.crE n)) (fun _ => True) (fun c2 F => blk b 72 (zbp c2 (m.crS n)) :: RefR c2 (m.crS n) :: F) := by
 refine CSpec.of_body Tryz.func23 rfl Tryz.ntmps23 rfl fun F => ?_
 show CJ _ _ _ _ _ _ (_ :: _ :: F)
 refine zbl (zcs foc1) fun hW => ?_
 have hO := hW.ok
 have hln := hW.big.len
 have hll := hW.len
 have hns := Md.names_len (m := m)
 refine sR <| oA rfl rfl <| nT <| sR <| zei (zu8 (n := n)) <| oM rfl rfl <| oM rfl rfl <| oP (zbm rfl (zo0 _)) rfl <| oO <| zaq ((zto (h := rd0) (d := dNew n) (zu6 hO hW.big hlen))) rfl Tryz.call55 (Dels.cons del0 (Dels.cons del0 (Dels.cons del0 Dels.nil))) rfl fun c9 hc1 => oA rfl rfl <| nT <| zai <| zam (res1 Tryz.results23 rfl) <| CSpec.close c9 ?_ ?_ (t0_ (t0_ eR))
 · rfl
 · trivial
end Go.Proofs
set_option linter.unusedSimpArgs false
set_option maxRecDepth 20000
namespace Go.Proofs
open Go.VG
def RH.hd (c : RH) (k : Nat) : RD := (c.l.getD k tyDv.dflt).1
section
variable {c : RH} {m : Md} {k : Nat} {R : List HP}
theorem zdo (hk : k < m.dv.length) : Ent (RefR c m :: R) (sl tyU (c.hd k).ba.v (m.at k).base :: sl tyapi_Target (c.hd k).lv.v (m.at k).live :: sl tyapi_Target (c.hd k).nw.v (m.at k).new :: sl tyWt (c.hd k).wt.v (m.at k).wait :: sl tyDv c.dv.v c.l :: sl zau c.tv.v m.told :: ORest RowC c.l k :: R) := fun g hh => by
  obtain ⟨hW, h1⟩ := stars_pur.1 (stars_star.1 hh)
  have hl := hW.len
  have h2 := zbr (show List.Perm _ (Go.VG.Own RowC c.l :: sl tyDv c.dv.v c.l :: sl zau c.tv.v m.told :: R) from (List.perm_middle (l₁ := [_, _]))) _ h1
  have h3 := zjd RowC k tyDv.dflt (by omega) _ h2
  have e : c.l.getD k tyDv.dflt = (c.hd k, m.at k) := Prod.ext rfl (hW.at k)
  rw [e] at h3
  have h4 := stars_star.1 h3
  exact zbr (show List.Perm ([sl tyU (c.hd k).ba.v (m.at k).base, sl tyapi_Target (c.hd k).lv.v (m.at k).live, sl tyapi_Target (c.hd k).nw.v (m.at k).new, sl tyWt (c.hd k).wt.v (m.at k).wait] ++ (ORest RowC c.l k :: sl tyDv c.dv.v c.l :: sl zau c.tv.v m.told :: R)) ([sl tyU (c.hd k).ba.v (m.at k).base, sl tyapi_Target (c.hd k).lv.v (m.at k).live, sl tyapi_Target (c.hd k).nw.v (m.at k).new, sl tyWt (c.hd k).wt.v (m.at k).wait] ++ (sl tyDv c.dv.v c.l :: sl zau c.tv.v m.told :: ORest RowC c.l k :: R)) from List.Perm.append_left _ (List.perm_middle (l₁ := [_, _])).symm) _ h4
theorem rrBa (hk : k < m.dv.length) : Reads (RefR c m) tyU (c.hd k).ba.v (m.at k).base := zel (zdo hk)
theorem rrLv (hk : k < m.dv.length) : Reads (RefR c m) tyapi_Target (c.hd k).lv.v (m.at k).live := zel (Ent.trans (zdo hk) (Ent.take del1 Ent.refl))
theorem rrNw (hk : k < m.dv.length) : Reads (RefR c m) tyapi_Target (c.hd k).nw.v (m.at k).new := zel (Ent.trans (zdo hk) (Ent.take del2 Ent.refl))
def RH.put (c : RH) (k : Nat) (h : RD) (d : Dv) : RH := { c with l := c.l.set k (h, d) }
theorem RefWF.put {m' : Md} {h : RD} {d : Dv} (hW : RefWF c m) (hd : m'.dv = m.dv.set k d) (ok : MdOk m') (big : MdBig m') : RefWF (c.put k h d) m' :=
  ⟨by show (c.l.set k (h, d)).map Prod.snd = _; rw [List.map_set, hW.dv, hd], ok, big⟩
theorem zer {m' : Md} {h : RD} {d : Dv} (hW : RefWF c m) (hk : k < m.dv.length) (hd : m'.dv = m.dv.set k d) (ok : MdOk m') (big : MdBig m') (ht : m'.told = m.told) :
    Ent (sl tyU h.ba.v d.base :: sl tyapi_Target h.lv.v d.live :: sl tyapi_Target h.nw.v d.new :: sl tyWt h.wt.v d.wait :: sl tyDv c.dv.v (c.l.set k (h, d)) :: sl zau c.tv.v m.told :: ORest RowC c.l k :: R) (RefR (c.put k h d) m' :: R) := fun g hh => by
  have hl := hW.len
  have h2 := zbr (show List.Perm ([sl tyU h.ba.v d.base, sl tyapi_Target h.lv.v d.live, sl tyapi_Target h.nw.v d.new, sl tyWt h.wt.v d.wait] ++ (sl tyDv c.dv.v (c.l.set k (h, d)) :: sl zau c.tv.v m.told :: ORest RowC c.l k :: R)) ([sl tyU h.ba.v d.base, sl tyapi_Target h.lv.v d.live, sl tyapi_Target h.nw.v d.new, sl tyWt h.wt.v d.wait] ++ (ORest RowC c.l k :: sl tyDv c.dv.v (c.l.set k (h, d)) :: sl zau c.tv.v m.told :: R)) from List.Perm.append_left _ (List.perm_middle (l₁ := [_, _]))) _ hh
  have h3 := zj6 (f := RowC) (l := c.l) (i := k) (h, d) (by omega) _ (stars_star.2 h2)
  have h4 := zbr (List.perm_middle (l₁ := [_, _])).symm _ h3
  refine zjp (c := c.put k h d) (hW.put hd ok big) g ?_
  rw [ht]; exact h4
end
namespace Md
def devI (m : Md) (n : ByteArray) : Int := match m.dev n with | some k => (k : Int) | none => -1
def sizeI (m : Md) (k : Int) : Int := if k < 0 then 0 else m.size k.toNat
section
variable {m : Md} {n : ByteArray} {k : Nat}
theorem findI_cases : (m.find n = none ∧ m.findI n = -1) ∨ ∃ k, m.find n = some k ∧ m.findI n = (k : Int) ∧ k < m.dv.length ∧ (m.at k).gone = false ∧ (m.at k).name = n := by
  unfold findI
  cases h : m.find n with
  | none => exact .inl ⟨rfl, rfl⟩
  | some k => exact .inr ⟨k, rfl, rfl, find_lt h⟩
theorem devI_cases : (m.dev n = none ∧ m.devI n = -1) ∨ ∃ k, m.dev n = some k ∧ m.devI n = (k : Int) ∧ m.isD k ∧ m.find n = some k := by
  unfold devI
  cases h : m.dev n with
  | none => exact .inl ⟨rfl, rfl⟩
  | some k => exact .inr ⟨k, rfl, rfl, dev_is h⟩
theorem findI_lt : m.findI n ≤ (m.dv.length : Int) - 1 := by
  rcases findI_cases (m := m) (n := n) with ⟨_, h⟩ | ⟨k, _, h, h2, _⟩
  · rw [h]; omega
  · rw [h]; omega
theorem devI_bas (h : m.find n = some k) (hb : (m.at k).isB = true) : m.devI n = -1 := by unfold devI dev; rw [h]; simp [hb]
theorem devI_dev (h : m.find n = some k) (hb : (m.at k).isB = false) : m.devI n = (k : Int) := by unfold devI dev; rw [h]; simp [hb]
theorem devI_no (h : m.find n = none) : m.devI n = -1 := by unfold devI dev; rw [h]; rfl
theorem sizeI_find : m.sizeI (m.findI n) = m.sizeN n := by
  unfold sizeI sizeN
  rcases findI_cases (m := m) (n := n) with ⟨h1, h2⟩ | ⟨k, h1, h2, _⟩
  · rw [h1, h2]; rfl
  · rw [h1, h2, if_neg (by omega)]; rfl
end
end Md
theorem zku {W : World} {b : Nat} {c : RH} {m : Md} {n : ByteArray} :
    CSpec Tryz.prog W 65 [ptr b 0, .string n] [blk b 72 (zbp c m), RefR c m] (fun _ : Unit => .int .i64 (m.devI n)) (fun _ => True) (fun _ F => blk b 72 (zbp c m) :: RefR c m :: F) := by
 refine CSpec.of_body Tryz.func65 rfl Tryz.ntmps65 rfl fun F => ?_
 show CJ _ _ _ _ _ _ (_ :: _ :: F)
 refine zbl (zcs foc1) fun hW => ?_
 have hO := hW.ok
 have hln := hW.big.len
 have hll := hW.len
 have hat := hW.at
 refine sR <| oA rfl rfl <| nT <| sR <| oM rfl rfl <| oM rfl rfl <| oO <| zaq (ze3) rfl Tryz.call39 (Dels.cons del0 (Dels.cons del0 Dels.nil)) rfl fun _ hc1 => oA rfl rfl <| nT <| zaf <| zaf ?_
 have hfc := Md.findI_cases (m := m) (n := n)
 have hfl := Md.findI_lt (m := m) (n := n)
 refine zak <| oM rfl rfl <| oP (P_geq rfl rfl) rfl <| oM rfl rfl ?_
 first | (refine zba 11 rfl (fun hg1B hg1 => ?_) (fun hg1B hg1 => ?_)) | (refine zbb 11 rfl (fun hg1B hg1 => ?_) (fun hg1B hg1 => ?_)) | (refine zbi 11 rfl (fun hg1B => ?_) (fun hg1B => ?_))
 ·
  refine gP (zab rfl rfl rfl hg1B) (zag rfl) rfl <| gP (zab rfl rfl rfl hg1B) (zae rfl) rfl <| gP (zab rfl rfl rfl hg1B) (zaa rfl ⟨_, _, _, Tryz.runUnderlying72, rfl, rfl, Tryz.sizeOf70, rfl⟩) rfl <| gV (zab rfl rfl rfl hg1B) (zah rfl foc0 rfl Tryz.isAgg70) rfl <| gP (zab rfl rfl rfl hg1B) (zag rfl) rfl <| gV (zab rfl rfl rfl hg1B) (zan rfl rfl (Int.toNat_of_nonneg (by omega)).symm (by omega) foc1 rdDv Tryz.runUnderlying70 Tryz.sizeOf91) rfl <| gP (zab rfl rfl rfl hg1B) (za2 rfl ⟨_, _, _, Tryz.runUnderlying91, rfl, rfl, Tryz.sizeOf4, rfl⟩) rfl <| gV (zab rfl rfl rfl hg1B) (za3 rfl rfl (by omega) foc1 rdDv rfl rfl Tryz.isAgg4) rfl <| oP (zas rfl hg1B rfl) rfl <| nT ?_
  first | (refine zao rfl (fun hg2 => ?_) (fun hg2 => ?_)) | (refine zap rfl (fun hg2 => ?_) (fun hg2 => ?_)) | (refine zar rfl (fun hg2 => ?_) (fun hg2 => ?_))
  ·
   refine sR <| oA rfl rfl <| nT <| zai <| zad <| zam (res1 Tryz.results65 rfl) <| CSpec.close () ?_ ?_ (t0_ (t0_ eR))
   ·
    refine iv ?_
    rcases hfc with ⟨h8, h9⟩ | ⟨k, h8, h9, _⟩
    · first | exact (Md.devI_no h8).symm | (rw [h9]; exact (Md.devI_no h8).symm) | omega
    · simp only [h9, Int.toNat_natCast, hat] at *
      first | exact (Md.devI_bas h8 (by assumption)).symm | exact (Md.devI_dev h8 (by simp_all)).symm | omega
   · trivial
  ·
   refine kT <| sR <| oM rfl rfl <| oA rfl rfl <| nT <| zai <| zam (res1 Tryz.results65 rfl) <| CSpec.close () ?_ ?_ (t0_ (t0_ eR))
   ·
    refine iv ?_
    rcases hfc with ⟨h8, h9⟩ | ⟨k, h8, h9, _⟩
    · first | exact (Md.devI_no h8).symm | (rw [h9]; exact (Md.devI_no h8).symm) | omega
    · simp only [h9, Int.toNat_natCast, hat] at *
      first | exact (Md.devI_bas h8 (by assumption)).symm | exact (Md.devI_dev h8 (by simp_all)).symm | omega
   · trivial
 ·
  refine RJ_gn (GY_no rfl rfl rfl hg1B) rfl rfl <| RJ_gn (GY_no rfl rfl rfl hg1B) rfl rfl <| RJ_gn (GY_no rfl rfl rfl hg1B) rfl rfl <| RJ_gn (GY_no rfl rfl rfl hg1B) rfl rfl <| RJ_gn (GY_no rfl rfl rfl hg1B) rfl rfl <| RJ_gn (GY_no rfl rfl rfl hg1B) rfl rfl <| RJ_gn (GY_no rfl rfl rfl hg1B) rfl rfl <| RJ_gn (GY_no rfl rfl rfl hg1B) rfl rfl <| oP (zay rfl hg1B rfl) rfl <| nT <| za5 rfl rfl <| kT <| sR <| oM rfl rfl <| oA rfl rfl <| nT <| zai <| zam (res1 Tryz.results65 rfl) <| CSpec.close () ?_ ?_ (t0_ (t0_ eR))
  ·
   refine iv ?_
   rcases hfc with ⟨h8, h9⟩ | ⟨k, h8, h9, _⟩
   · first | exact (Md.devI_no h8).symm | (rw [h9]; exact (Md.devI_no h8).symm) | omega
   · simp only [h9, Int.toNat_natCast, hat] at *
     first | exact (Md.devI_bas h8 (by assumption)).symm | exact (Md.devI_dev h8 (by simp_all)).symm | omega
  · trivial
theorem zn5 {W : World} {b : Nat} {c : RH} {m : Md} {k : Int} (hk : k < (m.dv.length : Int)) :
    CSpec Tryz.prog W 88 [ptr b 0, .int .i64 k] [blk b 72 (zbp c m), RefR c m] (fun _ : Unit => .int .i64 (m.sizeI k)) (fun _ => True) (fun _ F => blk b 72 (zbp c m) :: RefR c m :: F) := by
 refine CSpec.of_body Tryz.func88 rfl Tryz.ntmps88 rfl fun F => ?_
 show CJ _ _ _ _ _ _ (_ :: _ :: F)
 refine zbl (zcs foc1) fun hW => ?_
 have hO := hW.ok
 have hln := hW.big.len
 have hll := hW.len
 have hat := hW.at
 refine sR <| oA rfl rfl <| nT <| zaf <| sR <| oM rfl rfl <| oP (P_lss rfl rfl) rfl <| nT ?_
 first | (refine zao rfl (fun hg1 => ?_) (fun hg1 => ?_)) | (refine zap rfl (fun hg1 => ?_) (fun hg1 => ?_)) | (refine zar rfl (fun hg1 => ?_) (fun hg1 => ?_))
 ·
  refine sR <| oA rfl rfl <| nT <| zai <| zad <| zam (res1 Tryz.results88 rfl) <| CSpec.close () ?_ ?_ (t0_ (t0_ eR))
  ·
   refine iv ?_
   unfold Md.sizeI Md.size
   first | rw [if_pos (by omega)] | (rw [if_neg (by omega), if_pos (by rw [← hat]; assumption)]) | (rw [if_neg (by omega), if_neg (by rw [← hat]; simp_all)])
  · trivial
 ·
  refine kT <| zaf <| sR <| oM rfl rfl <| oP (zae rfl) rfl <| oP (zaa rfl ⟨_, _, _, Tryz.runUnderlying72, rfl, rfl, Tryz.sizeOf70, rfl⟩) rfl <| oV (zah rfl foc0 rfl Tryz.isAgg70) rfl <| oM rfl rfl <| oV (zan rfl rfl (Int.toNat_of_nonneg (by omega)).symm (by omega) foc1 rdDv Tryz.runUnderlying70 Tryz.sizeOf91) rfl <| oP (za2 rfl ⟨_, _, _, Tryz.runUnderlying91, rfl, rfl, Tryz.sizeOf4, rfl⟩) rfl <| oV (za3 rfl rfl (by omega) foc1 rdDv rfl rfl Tryz.isAgg4) rfl <| nT ?_
  first | (refine zao rfl (fun hg2 => ?_) (fun hg2 => ?_)) | (refine zap rfl (fun hg2 => ?_) (fun hg2 => ?_)) | (refine zar rfl (fun hg2 => ?_) (fun hg2 => ?_))
  ·
   refine sR <| oM rfl rfl <| oP (zae rfl) rfl <| oP (zaa rfl ⟨_, _, _, Tryz.runUnderlying72, rfl, rfl, Tryz.sizeOf70, rfl⟩) rfl <| oV (zah rfl foc0 rfl Tryz.isAgg70) rfl <| oM rfl rfl <| oV (zan rfl rfl (Int.toNat_of_nonneg (by omega)).symm (by omega) foc1 rdDv Tryz.runUnderlying70 Tryz.sizeOf91) rfl <| oP (za2 rfl ⟨_, _, _, Tryz.runUnderlying91, rfl, rfl, Tryz.sizeOf67, rfl⟩) rfl <| oV (za3 rfl rfl (by omega) foc1 rdDv rfl rfl Tryz.isAgg67) rfl <| oV (V_len rfl foc1 (rrBa (by omega)) Tryz.runUnderlying67) rfl <| oA rfl rfl <| nT <| zai <| zad <| zam (res1 Tryz.results88 rfl) <| CSpec.close () ?_ ?_ (t0_ (t0_ eR))
   ·
    refine iv ?_
    unfold Md.sizeI Md.size
    first | rw [if_pos (by omega)] | (rw [if_neg (by omega), if_pos (by rw [← hat]; assumption)]) | (rw [if_neg (by omega), if_neg (by rw [← hat]; simp_all)])
   · trivial
  ·
   refine kT <| sR <| oM rfl rfl <| oP (zae rfl) rfl <| oP (zaa rfl ⟨_, _, _, Tryz.runUnderlying72, rfl, rfl, Tryz.sizeOf70, rfl⟩) rfl <| oV (zah rfl foc0 rfl Tryz.isAgg70) rfl <| oM rfl rfl <| oV (zan rfl rfl (Int.toNat_of_nonneg (by omega)).symm (by omega) foc1 rdDv Tryz.runUnderlying70 Tryz.sizeOf91) rfl <| oP (za2 rfl ⟨_, _, _, Tryz.runUnderlying91, rfl, rfl, Tryz.sizeOf30, rfl⟩) rfl <| oV (za3 rfl rfl (by omega) foc1 rdDv rfl rfl Tryz.isAgg30) rfl <| oO <| zaq (zfx (rrLv (by omega)) zpf) rfl Tryz.call84 (Dels.cons del1 Dels.nil) rfl fun _ hc1 => oA rfl rfl <| nT <| zai <| zam (res1 Tryz.results88 rfl) <| CSpec.close () ?_ ?_ (t1_ (t0_ eR))
   ·
    refine iv ?_
    unfold Md.sizeI Md.size
    first | rw [if_pos (by omega)] | (rw [if_neg (by omega), if_pos (by rw [← hat]; assumption)]) | (rw [if_neg (by omega), if_neg (by rw [← hat]; simp_all)])
   · trivial
end Go.Proofs
set_option linter.unusedSimpArgs false
set_option maxRecDepth 20000
namespace Go.Proofs
open Go.VG
theorem stq {α : Type} {l : List α} {k : Nat} {x d : α} (hk : k < l.length) : (l.set k x).getD k d = x := by simp [List.getD, hk]
theorem zpy {l : List api_Target} (h : chk l = 0) {i : Nat} (hi : i < l.length) : 1 ≤ (l.getD i tyapi_Target.dflt).Length ∧ (l.getD i tyapi_Target.dflt).Length ≤ 16777216 ∧ 0 ≤ (l.getD i tyapi_Target.dflt).Offset ∧ (l.getD i tyapi_Target.dflt).Offset ≤ 16777216 := by
  show 1 ≤ (l.getD i tgt0).Length ∧ (l.getD i tgt0).Length ≤ 16777216 ∧ 0 ≤ (l.getD i tgt0).Offset ∧ (l.getD i tgt0).Offset ≤ 16777216
  obtain ⟨_, h2, h3, h4, h5⟩ := zgh l 0 (zb0 h).2 i hi
  omega
namespace Md
section
variable {m : Md} {l : List api_Target} {i k : Nat} {z : Int}
theorem fits_take (hi : i < l.length) (h : m.fits (l.take i) = true) (h2 : (l.getD i tyapi_Target.dflt).On = noN ∨ (l.getD i tyapi_Target.dflt).Offset + (l.getD i tyapi_Target.dflt).Length ≤ m.sizeN (l.getD i tyapi_Target.dflt).On) : m.fits (l.take (i + 1)) = true := by
  unfold fits at h ⊢
  rw [takeD tgt0 hi, List.all_append, h, List.all_cons, List.all_nil, decide_eq_true h2]; rfl
theorem fits_no (hi : i < l.length) (h2 : ¬ ((l.getD i tyapi_Target.dflt).On = noN ∨ (l.getD i tyapi_Target.dflt).Offset + (l.getD i tyapi_Target.dflt).Length ≤ m.sizeN (l.getD i tyapi_Target.dflt).On)) : m.fits l = false := by
  rw [Bool.eq_false_iff]
  intro h
  unfold fits at h
  exact h2 (of_decide_eq_true (List.all_eq_true.1 h _ (zb9 tgt0 hi)))
abbrev nT (m : Md) (k : Nat) (z : Int) (t : api_Target) : Prop := t.On ≠ (m.at k).name ∨ t.Offset + t.Length ≤ z
theorem rneeds_true (hO : MdOk m) (hk : m.isD k) (h : ∀ i, i < m.dv.length → (m.at i).gone = false → i ≠ k → ∀ t ∈ tbl (m.at i), nT m k z t) : m.needs k z = true := by
  unfold needs
  rw [List.all_eq_true]
  intro d hd
  obtain ⟨i, hi, rfl⟩ := List.getElem_of_mem hd
  have e : m.dv[i] = m.at i := by simp [Md.at, List.getD, hi]
  rw [e, Bool.or_eq_true]
  cases hg : (m.at i).gone with
  | true => exact .inl rfl
  | false =>
    right
    rw [List.all_eq_true]
    intro t ht
    refine decide_eq_true ?_
    by_cases ei : i = k
    · subst ei
      left
      intro e2
      obtain ⟨rk, hr⟩ := hO.acy
      have := hr i hi hg t ht i (by rw [e2]; exact zk8 hO hi hg)
      omega
    · exact h i hi hg ei t ht
theorem rneeds_false (hi : i < m.dv.length) (hg : (m.at i).gone = false) {t : api_Target} (ht : t ∈ tbl (m.at i)) (h : ¬ nT m k z t) : m.needs k z = false := by
  rw [Bool.eq_false_iff]
  intro h2
  unfold needs at h2
  have h3 := List.all_eq_true.1 h2 (m.at i) (by simp [Md.at, List.getD, hi])
  rw [hg, Bool.false_or, List.all_eq_true] at h3
  exact h (of_decide_eq_true (h3 t ht))
theorem tbl_bd (hO : MdOk m) {t : api_Target} (ht : t ∈ tbl (m.at i)) : 1 ≤ t.Length ∧ t.Length ≤ 16777216 ∧ 0 ≤ t.Offset ∧ t.Offset ≤ 16777216 := by
  have key : ∀ l : List api_Target, chk l = 0 → t ∈ l → 1 ≤ t.Length ∧ t.Length ≤ 16777216 ∧ 0 ≤ t.Offset ∧ t.Offset ≤ 16777216 := fun l hl h => by
    obtain ⟨j, hj, rfl⟩ := List.getElem_of_mem h
    have := zpy hl hj
    simpa [List.getD, hj] using this
  rcases List.mem_append.1 ht with h | h
  · exact key _ (hO.chk i).1 h
  · exact key _ (hO.chk i).2 h
end
end Md
theorem zoq {c : RH} {m : Md} {R : List HP} : Ent (RefR c m :: R) (sl zau c.tv.v m.told :: RefR { c with tv := s3z } { m with told := [] } :: R) := fun h hh => by
  obtain ⟨hw, h1⟩ := stars_pur.1 (stars_star.1 hh)
  have hw2 : RefWF { c with tv := s3z } { m with told := [] } := ⟨hw.dv, ⟨hw.ok.uniq, hw.ok.nm, hw.ok.chk, hw.ok.nam, hw.ok.acy, hw.ok.bas, hw.ok.hl, hw.ok.hn, hw.ok.org⟩, ⟨hw.big.len, hw.big.wl, hw.big.tks, Nat.zero_le _, hw.big.wr⟩⟩
  have h2 := zbr (List.Perm.swap _ _ _) _ h1
  obtain ⟨a1, a2, d1, e1, p1, q1⟩ := h2
  refine ⟨a1, a2, d1, e1, p1, stars_star.2 (stars_pur.2 ⟨hw2, ?_⟩)⟩
  have q2 : stars (sl zau (Sl3.v s3z) [] :: sl tyDv c.dv.v c.l :: Go.VG.Own RowC c.l :: R) a2 := zb2 (t := zau) _ q1
  exact zbr (List.Perm.swap _ _ _) _ q2
theorem zwr {W : World} {b : Nat} {A : HP} {v : Value} {xs : List api_Target} {c : RH} {m : Md} (hA : Reads A tyapi_Target v xs) (hc : chk xs = 0) :
    CSpec Tryz.prog W 77 [ptr b 0, v] [A, blk b 72 (zbp c m), RefR c m] (fun _ : Unit => .bool (m.fits xs)) (fun _ => True) (fun _ F => A :: blk b 72 (zbp c m) :: RefR c m :: F) := by
 refine CSpec.of_body Tryz.func77 rfl Tryz.ntmps77 rfl fun F => ?_
 show CJ _ _ _ _ _ _ (_ :: _ :: _ :: F)
 refine zbl (zcs foc2) fun hW => ?_
 have hO := hW.ok
 have hln := hW.big.len
 have hll := hW.len
 have hat := hW.at
 refine sR <| oA rfl rfl <| nT <| zaf <| sR <| oA rfl rfl <| nT <| zat <| zbs (X := Nat) [4, 5, 6, 7, 8, 9, 10, 11, 12, 13, 14, 15, 16, 17, 18, 19, 20, 21, 22, 23, 24, 25, 26, 27, 28, 29, 30, 31, 32, 33, 34, 35, 36, 37, 38, 39, 40] (fun i  => ([(5, .int .i64 (i : Nat))] : Slots)) (fun i R => R) (fun i  => i ≤ xs.length ∧ m.fits (xs.take i) = true) (fun i  => xs.length - i) (0) ?_ ?_ (t0_ (t0_ (t0_ eR))) ?_
 · exact ⟨Nat.zero_le _, rfl⟩
 · exact ⟨rfl, True.intro⟩
 ·
  intro i hpf
  obtain ⟨hi, hft⟩ := hpf
  show CJ _ _ _ _ _ (([(5, .int .i64 (i : Nat))] : Slots) ++ forget _ _) (_)
  have hx64 := (zb0 hc).1
  refine zaf <| sR <| oM rfl rfl <| oM rfl rfl <| oV (V_len rfl foc0 hA Tryz.runUnderlying30) rfl <| oP (P_lss rfl rfl) rfl <| nT ?_
  first | (refine zao rfl (fun hg1 => ?_) (fun hg1 => ?_)) | (refine zap rfl (fun hg1 => ?_) (fun hg1 => ?_)) | (refine zar rfl (fun hg1 => ?_) (fun hg1 => ?_))
  ·
   refine kT <| zaf <| zat <| zaf ?_
   have hlt : i < xs.length := by omega
   have hbd := zpy hc hlt
   refine za0 0 (by kernel_rfl) rfl <| aN 0 1 rfl rfl (zag rfl) rfl <| aN 1 3 rfl rfl (zag rfl) rfl ?_
   first | (refine zbo 2 7 rfl (by kernel_rfl) rfl (by kernel_rfl) (by kernel_rfl) (zac rfl) (t0_ (t0_ (t0_ eR))) (zan rfl rfl rfl (by omega) foc0 hA Tryz.runUnderlying30 Tryz.sizeOf37) rfl (fun _ _ _ _ h => h) ?_) | (refine zbo 2 7 rfl (by kernel_rfl) rfl (by kernel_rfl) (by kernel_rfl) (zac rfl) (t0_ (t0_ (t0_ eR))) (zan rfl rfl (Int.toNat_of_nonneg (by omega)).symm (by omega) foc0 hA Tryz.runUnderlying30 Tryz.sizeOf37) rfl (fun _ _ _ _ h => h) ?_)
   refine aN 3 15 rfl rfl (za2 rfl ⟨_, _, _, Tryz.runUnderlying37, rfl, rfl, Tryz.sizeOf9, rfl⟩) rfl <| aV 4 31 rfl rfl (zac rfl) (t0_ (t0_ (t0_ eR))) (za3 rfl rfl (by omega) foc0 hA rfl rfl Tryz.isAgg9) rfl <| aN 5 63 rfl rfl (ze8 rfl rfl Tryz.underlying9) rfl <| aN 6 127 rfl rfl (zag rfl) rfl ?_
   first | (refine zc0 18 rfl (fun hg2B hg2 => ?_) (fun hg2B hg2 => ?_)) | (refine zc1 18 rfl (fun hg2B hg2 => ?_) (fun hg2B hg2 => ?_)) | (refine zdf 18 rfl (fun hg2B => ?_) (fun hg2B => ?_))
   ·
    refine aP 7 255 rfl rfl (zab rfl rfl rfl hg2B) (zag rfl) rfl <| aP 8 511 rfl rfl (zab rfl rfl rfl hg2B) (zag rfl) rfl ?_
    first | (refine zbo 9 1023 rfl (by kernel_rfl) rfl (by kernel_rfl) (by kernel_rfl) (zab rfl rfl rfl hg2B) (t0_ (t0_ (t0_ eR))) (zan rfl rfl rfl (by omega) foc0 hA Tryz.runUnderlying30 Tryz.sizeOf37) rfl (fun _ _ _ _ h => h) ?_) | (refine zbo 9 1023 rfl (by kernel_rfl) rfl (by kernel_rfl) (by kernel_rfl) (zab rfl rfl rfl hg2B) (t0_ (t0_ (t0_ eR))) (zan rfl rfl (Int.toNat_of_nonneg (by omega)).symm (by omega) foc0 hA Tryz.runUnderlying30 Tryz.sizeOf37) rfl (fun _ _ _ _ h => h) ?_)
    refine aP 10 2047 rfl rfl (zab rfl rfl rfl hg2B) (za2 rfl ⟨_, _, _, Tryz.runUnderlying37, rfl, rfl, Tryz.sizeOf3, rfl⟩) rfl <| aV 11 4095 rfl rfl (zab rfl rfl rfl hg2B) (t0_ (t0_ (t0_ eR))) (za3 rfl rfl (by omega) foc0 hA rfl rfl Tryz.isAgg3) rfl <| aP 12 8191 rfl rfl (zab rfl rfl rfl hg2B) (zag rfl) rfl <| aP 13 16383 rfl rfl (zab rfl rfl rfl hg2B) (zag rfl) rfl ?_
    first | (refine zbo 14 32767 rfl (by kernel_rfl) rfl (by kernel_rfl) (by kernel_rfl) (zab rfl rfl rfl hg2B) (t0_ (t0_ (t0_ eR))) (zan rfl rfl rfl (by omega) foc0 hA Tryz.runUnderlying30 Tryz.sizeOf37) rfl (fun _ _ _ _ h => h) ?_) | (refine zbo 14 32767 rfl (by kernel_rfl) rfl (by kernel_rfl) (by kernel_rfl) (zab rfl rfl rfl hg2B) (t0_ (t0_ (t0_ eR))) (zan rfl rfl (Int.toNat_of_nonneg (by omega)).symm (by omega) foc0 hA Tryz.runUnderlying30 Tryz.sizeOf37) rfl (fun _ _ _ _ h => h) ?_)
    refine aP 15 65535 rfl rfl (zab rfl rfl rfl hg2B) (za2 rfl ⟨_, _, _, Tryz.runUnderlying37, rfl, rfl, Tryz.sizeOf3, rfl⟩) rfl <| aV 16 131071 rfl rfl (zab rfl rfl rfl hg2B) (t0_ (t0_ (t0_ eR))) (za3 rfl rfl (by omega) foc0 hA rfl rfl Tryz.isAgg3) rfl <| aP 17 262143 rfl rfl (zab rfl rfl rfl hg2B) (P_add rfl rfl (by omega)) rfl <| aP 18 524287 rfl rfl (zab rfl rfl rfl hg2B) (zag rfl) rfl <| aP 19 1048575 rfl rfl (zab rfl rfl rfl hg2B) (zag rfl) rfl <| aP 20 2097151 rfl rfl (zab rfl rfl rfl hg2B) (zag rfl) rfl <| aP 21 4194303 rfl rfl (zab rfl rfl rfl hg2B) (zag rfl) rfl ?_
    first | (refine zbo 22 8388607 rfl (by kernel_rfl) rfl (by kernel_rfl) (by kernel_rfl) (zab rfl rfl rfl hg2B) (t0_ (t0_ (t0_ eR))) (zan rfl rfl rfl (by omega) foc0 hA Tryz.runUnderlying30 Tryz.sizeOf37) rfl (fun _ _ _ _ h => h) ?_) | (refine zbo 22 8388607 rfl (by kernel_rfl) rfl (by kernel_rfl) (by kernel_rfl) (zab rfl rfl rfl hg2B) (t0_ (t0_ (t0_ eR))) (zan rfl rfl (Int.toNat_of_nonneg (by omega)).symm (by omega) foc0 hA Tryz.runUnderlying30 Tryz.sizeOf37) rfl (fun _ _ _ _ h => h) ?_)
    refine aP 23 16777215 rfl rfl (zab rfl rfl rfl hg2B) (za2 rfl ⟨_, _, _, Tryz.runUnderlying37, rfl, rfl, Tryz.sizeOf9, rfl⟩) rfl <| aV 24 33554431 rfl rfl (zab rfl rfl rfl hg2B) (t0_ (t0_ (t0_ eR))) (za3 rfl rfl (by omega) foc0 hA rfl rfl Tryz.isAgg9) rfl <| AJ_op 25 67108863 rfl (by kernel_rfl) rfl (zab rfl rfl rfl hg2B) <| zaq (ze3) rfl Tryz.call39 (Dels.cons del1 (Dels.cons del1 Dels.nil)) rfl fun _ hc1 => ⟨fun _ => (t2_ (t0_ (t0_ eR))), ?_⟩
    refine AJ_op 26 134217727 rfl (by kernel_rfl) rfl (zab rfl rfl rfl hg2B) <| zaq (zn5 (Int.lt_of_le_of_lt Md.findI_lt (by omega))) rfl Tryz.call88 (Dels.cons del0 (Dels.cons del0 Dels.nil)) rfl fun _ hc2 => ⟨fun _ => (t2_ (t0_ (t0_ eR))), ?_⟩
    refine aP 27 268435455 rfl rfl (zab rfl rfl rfl hg2B) (P_gtr rfl rfl) rfl <| aN 28 536870911 rfl rfl (zas rfl hg2B rfl) rfl <| aD ?_
    first | (refine zao rfl (fun hg3 => ?_) (fun hg3 => ?_)) | (refine zap rfl (fun hg3 => ?_) (fun hg3 => ?_)) | (refine zar rfl (fun hg3 => ?_) (fun hg3 => ?_))
    ·
     refine sR <| oA rfl rfl <| nT <| zai <| zaj <| zad <| zbd <| zaj <| zad <| zam (res1 Tryz.results77 rfl) <| CSpec.close () ?_ ?_ (t2_ (t0_ (t0_ eR)))
     ·
      exact bv (Md.fits_no hlt (by rw [← Md.sizeI_find]; rintro (h | h)
                                   · exact absurd h (by simp_all)
                                   · omega)).symm
     · trivial
    ·
     refine zbk <| zal <| zav <| zak <| oM rfl rfl <| oP (P_add rfl rfl (by omega)) rfl <| oA rfl rfl <| za9 <| zbg (i + 1) (by first | omega | (simp only []; omega)) ?_ (by repeat (first | exact Kp.base | exact Kp.self | refine Kp.cons rfl ?_ | refine Kp.forget rfl ?_)) ?_ (t2_ (t0_ (t0_ eR)))
     ·
      refine ⟨by omega, Md.fits_take (by omega) hft ?_⟩
      rw [← Md.sizeI_find]
      first | (left; simp_all; done) | (right; omega) | (right; simp_all; done)
     · exact ⟨rfl, True.intro⟩
   ·
    refine aS 7 255 rfl rfl (GY_no rfl rfl rfl hg2B) rfl <| aS 8 511 rfl rfl (GY_no rfl rfl rfl hg2B) rfl <| aS 9 1023 rfl rfl (GY_no rfl rfl rfl hg2B) rfl <| aS 10 2047 rfl rfl (GY_no rfl rfl rfl hg2B) rfl <| aS 11 4095 rfl rfl (GY_no rfl rfl rfl hg2B) rfl <| aS 12 8191 rfl rfl (GY_no rfl rfl rfl hg2B) rfl <| aS 13 16383 rfl rfl (GY_no rfl rfl rfl hg2B) rfl <| aS 14 32767 rfl rfl (GY_no rfl rfl rfl hg2B) rfl <| aS 15 65535 rfl rfl (GY_no rfl rfl rfl hg2B) rfl <| aS 16 131071 rfl rfl (GY_no rfl rfl rfl hg2B) rfl <| aS 17 262143 rfl rfl (GY_no rfl rfl rfl hg2B) rfl <| aS 18 524287 rfl rfl (GY_no rfl rfl rfl hg2B) rfl <| aS 19 1048575 rfl rfl (GY_no rfl rfl rfl hg2B) rfl <| aS 20 2097151 rfl rfl (GY_no rfl rfl rfl hg2B) rfl <| aS 21 4194303 rfl rfl (GY_no rfl rfl rfl hg2B) rfl <| aS 22 8388607 rfl rfl (GY_no rfl rfl rfl hg2B) rfl <| aS 23 16777215 rfl rfl (GY_no rfl rfl rfl hg2B) rfl <| aS 24 33554431 rfl rfl (GY_no rfl rfl rfl hg2B) rfl <| aS 25 67108863 rfl rfl (GY_no rfl rfl rfl hg2B) rfl <| aS 26 134217727 rfl rfl (GY_no rfl rfl rfl hg2B) rfl <| aS 27 268435455 rfl rfl (GY_no rfl rfl rfl hg2B) rfl <| aN 28 536870911 rfl rfl (zay rfl hg2B rfl) rfl <| aD <| za5 rfl rfl <| zbk <| zal <| zav <| zak <| oM rfl rfl <| oP (P_add rfl rfl (by omega)) rfl <| oA rfl rfl <| za9 ?_
    refine zbg (i + 1) (by first | omega | (simp only []; omega)) ?_ (by repeat (first | exact Kp.base | exact Kp.self | refine Kp.cons rfl ?_ | refine Kp.forget rfl ?_)) ?_ (t0_ (t0_ (t0_ eR)))
    ·
     refine ⟨by omega, Md.fits_take (by omega) hft ?_⟩
     rw [← Md.sizeI_find]
     first | (left; simp_all; done) | (right; omega) | (right; simp_all; done)
    · exact ⟨rfl, True.intro⟩
  ·
   refine zbt <| za6 <| za7 <| za1 <| zav <| sR <| oA rfl rfl <| nT <| zai <| zam (res1 Tryz.results77 rfl) <| CSpec.close () ?_ ?_ (t0_ (t0_ (t0_ eR)))
   ·
    obtain rfl : i = xs.length := by omega
    rw [List.take_length] at hft
    exact bv hft.symm
   · trivial
theorem zva {W : World} {b k : Nat} {c : RH} {m : Md} {z : Int} (hk : m.isD k) :
    CSpec Tryz.prog W 83 [ptr b 0, .int .i64 (k : Int), .int .i64 z] [blk b 72 (zbp c m), RefR c m] (fun _ : Unit => .bool (m.needs k z)) (fun _ => True) (fun _ F => blk b 72 (zbp c m) :: RefR c m :: F) := by
 refine CSpec.of_body Tryz.func83 rfl Tryz.ntmps83 rfl fun F => ?_
 show CJ _ _ _ _ _ _ (_ :: _ :: F)
 refine zbl (zcs foc1) fun hW => ?_
 have hO := hW.ok
 have hln := hW.big.len
 have hll := hW.len
 have hat := hW.at
 refine sR <| oA rfl rfl <| nT <| zaf <| sR <| oA rfl rfl <| nT <| zat <| zbs (X := Nat) [6, 7, 8, 9, 10, 11, 12, 13, 14, 15, 16, 17, 18, 19, 20, 21, 22, 23, 24, 25, 26, 27, 28, 29, 30, 31, 32, 33, 34, 35, 36, 37, 38, 39, 40, 41, 42, 43, 44, 45, 46, 47, 48, 49, 50, 51, 52, 53, 54, 55, 56, 57, 58, 59, 60, 61, 62, 63, 64, 65, 66, 67, 68, 69, 70, 71, 72, 73, 74, 75, 76, 77, 78, 79, 80, 81, 82, 83, 84, 85, 86, 87] (fun i  => ([(7, .int .i64 (i : Nat))] : Slots)) (fun i R => R) (fun i  => i ≤ m.dv.length ∧ ∀ q, q < i → (m.at q).gone = false → q ≠ k → ∀ t ∈ Md.tbl (m.at q), Md.nT m k z t) (fun i  => m.dv.length - i) (0) ?_ ?_ (t0_ (t0_ eR)) ?_
 · exact ⟨Nat.zero_le _, fun j h => by omega⟩
 · exact ⟨rfl, True.intro⟩
 ·
  intro i hpf
  obtain ⟨hi, hno⟩ := hpf
  show CJ _ _ _ _ _ (([(7, .int .i64 (i : Nat))] : Slots) ++ forget _ _) (_)
  refine zaf <| sR <| oM rfl rfl <| oM rfl rfl <| oP (zae rfl) rfl <| oP (zaa rfl ⟨_, _, _, Tryz.runUnderlying72, rfl, rfl, Tryz.sizeOf70, rfl⟩) rfl <| oV (zah rfl foc0 rfl Tryz.isAgg70) rfl <| oV (V_len rfl foc1 rdDv Tryz.runUnderlying70) rfl <| oP (P_lss rfl rfl) rfl <| nT ?_
  first | (refine zao rfl (fun hg1 => ?_) (fun hg1 => ?_)) | (refine zap rfl (fun hg1 => ?_) (fun hg1 => ?_)) | (refine zar rfl (fun hg1 => ?_) (fun hg1 => ?_))
  ·
   refine kT <| zaf <| zat <| zaf ?_
   have hlv := (zb0 (hO.chk i).1).1
   have hnw := (zb0 (hO.chk i).2).1
   have hkl := hk.1
   have htl : (Md.tbl (m.at i)).length = (m.at i).live.length + (m.at i).new.length := List.length_append
   refine za0 131072 (by kernel_rfl) rfl <| aN 0 1 rfl rfl (zag rfl) rfl <| aN 1 3 rfl rfl (zae rfl) rfl <| aN 2 7 rfl rfl (zaa rfl ⟨_, _, _, Tryz.runUnderlying72, rfl, rfl, Tryz.sizeOf70, rfl⟩) rfl <| aV 3 15 rfl rfl (zac rfl) (t0_ (t0_ eR)) (zah rfl foc0 rfl Tryz.isAgg70) rfl <| aN 4 31 rfl rfl (zag rfl) rfl ?_
   first | (refine zbo 5 63 rfl (by kernel_rfl) rfl (by kernel_rfl) (by kernel_rfl) (zac rfl) (t0_ (t0_ eR)) (zan rfl rfl rfl (by omega) foc1 rdDv Tryz.runUnderlying70 Tryz.sizeOf91) rfl (fun _ _ _ _ h => h) ?_) | (refine zbo 5 63 rfl (by kernel_rfl) rfl (by kernel_rfl) (by kernel_rfl) (zac rfl) (t0_ (t0_ eR)) (zan rfl rfl (Int.toNat_of_nonneg (by omega)).symm (by omega) foc1 rdDv Tryz.runUnderlying70 Tryz.sizeOf91) rfl (fun _ _ _ _ h => h) ?_)
   refine aN 6 127 rfl rfl (za2 rfl ⟨_, _, _, Tryz.runUnderlying91, rfl, rfl, Tryz.sizeOf30, rfl⟩) rfl <| aV 7 255 rfl rfl (zac rfl) (t0_ (t0_ eR)) (za3 rfl rfl (by omega) foc1 rdDv rfl rfl Tryz.isAgg30) rfl <| aN 9 767 rfl rfl (zag rfl) rfl <| aN 10 1791 rfl rfl (zae rfl) rfl <| aN 11 3839 rfl rfl (zaa rfl ⟨_, _, _, Tryz.runUnderlying72, rfl, rfl, Tryz.sizeOf70, rfl⟩) rfl <| aV 12 7935 rfl rfl (zac rfl) (t0_ (t0_ eR)) (zah rfl foc0 rfl Tryz.isAgg70) rfl <| aN 13 16127 rfl rfl (zag rfl) rfl ?_
   first | (refine zbo 14 32511 rfl (by kernel_rfl) rfl (by kernel_rfl) (by kernel_rfl) (zac rfl) (t0_ (t0_ eR)) (zan rfl rfl rfl (by omega) foc1 rdDv Tryz.runUnderlying70 Tryz.sizeOf91) rfl (fun _ _ _ _ h => h) ?_) | (refine zbo 14 32511 rfl (by kernel_rfl) rfl (by kernel_rfl) (by kernel_rfl) (zac rfl) (t0_ (t0_ eR)) (zan rfl rfl (Int.toNat_of_nonneg (by omega)).symm (by omega) foc1 rdDv Tryz.runUnderlying70 Tryz.sizeOf91) rfl (fun _ _ _ _ h => h) ?_)
   refine aN 15 65279 rfl rfl (za2 rfl ⟨_, _, _, Tryz.runUnderlying91, rfl, rfl, Tryz.sizeOf30, rfl⟩) rfl <| aV 16 130815 rfl rfl (zac rfl) (t0_ (t0_ eR)) (za3 rfl rfl (by omega) foc1 rdDv rfl rfl Tryz.isAgg30) rfl <| zh7 (fun h hh => zb2 (t := tyapi_Target) h hh) <| AJ_op 8 131071 rfl (by kernel_rfl) rfl (zac rfl) <| zbv (t := tyapi_Target) (bytes := 48) rfl rfl del0 foc1 (rrLv (by omega)) Tryz.underlying30 zdw (by simp only [List.length_append, List.length_cons, List.length_nil, maxLen] at *; omega) (by simp only [List.length_append, List.length_cons, List.length_nil, maxLen] at *; omega) rfl fun p3 c4 => ⟨fun _ => (t1_ (t1_ (eD eR))), ?_⟩
   refine AJ_op 17 262143 rfl (by kernel_rfl) rfl (zac rfl) <| zbv (t := tyapi_Target) (bytes := 48) rfl rfl del0 foc1 (rrNw (by omega)) Tryz.underlying30 zdw (by simp only [List.length_append, List.length_cons, List.length_nil, maxLen] at *; omega) (by simp only [List.length_append, List.length_cons, List.length_nil, maxLen] at *; omega) rfl fun p5 c6 => ⟨fun h => absurd h (by decide), ?_⟩
   refine aN 18 524287 rfl rfl (zbc rfl) rfl <| aD <| sR <| oA rfl rfl <| nT <| zat <| zbf (Ent.takeC del0 (show sl tyapi_Target _ (([] ++ (m.at i).live) ++ (m.at i).new) = sl tyapi_Target _ (Md.tbl (m.at i)) from rfl) (t0_ (t0_ eR))) <| zbs (X := Nat) [6, 9, 37, 38, 39, 40, 41, 42, 43, 44, 45, 46, 47, 48, 49, 50, 51, 52, 53, 54, 55, 56, 57, 58, 59, 60, 61, 62, 63, 64, 65, 66, 67, 68, 69, 70, 71, 72, 73, 74, 75, 76, 77, 78, 79, 80, 81, 82, 83, 84, 85, 86, 87] (fun j  => ([(9, .int .i64 (j : Nat))] : Slots)) (fun j R => R) (fun j  => j ≤ (Md.tbl (m.at i)).length ∧ ((m.at i).gone = false → i ≠ k → ∀ t ∈ (Md.tbl (m.at i)).take j, Md.nT m k z t)) (fun j  => (Md.tbl (m.at i)).length - j) (0) ?_ ?_ (t0_ (t0_ (t0_ eR))) ?_
   · exact ⟨Nat.zero_le _, fun _ _ t ht => by simp at ht⟩
   · exact ⟨rfl, True.intro⟩
   ·
    intro j hpf
    obtain ⟨hj, hjn⟩ := hpf
    show CJ _ _ _ _ _ (([(9, .int .i64 (j : Nat))] : Slots) ++ forget _ _) (_)
    refine zaf <| sR <| oM rfl rfl <| oM rfl rfl <| oV (V_len rfl foc0 (Reads.sl _ _ _) Tryz.runUnderlying30) rfl <| oP (P_lss rfl rfl) rfl <| nT ?_
    first | (refine zao rfl (fun hg2 => ?_) (fun hg2 => ?_)) | (refine zap rfl (fun hg2 => ?_) (fun hg2 => ?_)) | (refine zar rfl (fun hg2 => ?_) (fun hg2 => ?_))
    ·
     refine kT <| zaf <| zat <| zaf ?_
     have hjl : j < (Md.tbl (m.at i)).length := by omega
     have htb := Md.tbl_bd hO (zb9 tyapi_Target.dflt hjl)
     have hgi := congrArg Dv.gone (hat i)
     have hgk := congrArg Dv.name (hat k)
     refine za0 0 (by kernel_rfl) rfl <| aN 0 1 rfl rfl (zag rfl) rfl <| aN 1 3 rfl rfl (zae rfl) rfl <| aN 2 7 rfl rfl (zaa rfl ⟨_, _, _, Tryz.runUnderlying72, rfl, rfl, Tryz.sizeOf70, rfl⟩) rfl <| aV 3 15 rfl rfl (zac rfl) (t0_ (t0_ (t0_ eR))) (zah rfl foc1 rfl Tryz.isAgg70) rfl <| aN 4 31 rfl rfl (zag rfl) rfl ?_
     first | (refine zbo 5 63 rfl (by kernel_rfl) rfl (by kernel_rfl) (by kernel_rfl) (zac rfl) (t0_ (t0_ (t0_ eR))) (zan rfl rfl rfl (by omega) foc2 rdDv Tryz.runUnderlying70 Tryz.sizeOf91) rfl (fun _ _ _ _ h => h) ?_) | (refine zbo 5 63 rfl (by kernel_rfl) rfl (by kernel_rfl) (by kernel_rfl) (zac rfl) (t0_ (t0_ (t0_ eR))) (zan rfl rfl (Int.toNat_of_nonneg (by omega)).symm (by omega) foc2 rdDv Tryz.runUnderlying70 Tryz.sizeOf91) rfl (fun _ _ _ _ h => h) ?_)
     refine aN 6 127 rfl rfl (za2 rfl ⟨_, _, _, Tryz.runUnderlying91, rfl, rfl, Tryz.sizeOf4, rfl⟩) rfl <| aV 7 255 rfl rfl (zac rfl) (t0_ (t0_ (t0_ eR))) (za3 rfl rfl (by omega) foc2 rdDv rfl rfl Tryz.isAgg4) rfl <| aN 8 511 rfl rfl (P_not rfl) rfl <| aN 9 1023 rfl rfl (zag rfl) rfl ?_
     first | (refine zc0 52 rfl (fun hg3B hg3 => ?_) (fun hg3B hg3 => ?_)) | (refine zc1 52 rfl (fun hg3B hg3 => ?_) (fun hg3B hg3 => ?_)) | (refine zdf 52 rfl (fun hg3B => ?_) (fun hg3B => ?_))
     ·
      refine aP 10 2047 rfl rfl (zab rfl rfl rfl hg3B) (zag rfl) rfl <| aP 11 4095 rfl rfl (zab rfl rfl rfl hg3B) (zag rfl) rfl <| aP 12 8191 rfl rfl (zab rfl rfl rfl hg3B) (P_neq rfl rfl) rfl <| aN 13 16383 rfl rfl (zas rfl hg3B rfl) rfl <| aN 14 32767 rfl rfl (zag rfl) rfl ?_
      first | (refine zc0 57 rfl (fun hg4B hg4 => ?_) (fun hg4B hg4 => ?_)) | (refine zc1 57 rfl (fun hg4B hg4 => ?_) (fun hg4B hg4 => ?_)) | (refine zdf 57 rfl (fun hg4B => ?_) (fun hg4B => ?_))
      ·
       refine aP 15 65535 rfl rfl (zab rfl rfl rfl hg4B) (zag rfl) rfl <| aP 16 131071 rfl rfl (zab rfl rfl rfl hg4B) (zag rfl) rfl ?_
       first | (refine zbo 17 262143 rfl (by kernel_rfl) rfl (by kernel_rfl) (by kernel_rfl) (zab rfl rfl rfl hg4B) (t0_ (t0_ (t0_ eR))) (zan rfl rfl rfl (by omega) foc0 (Reads.sl _ _ _) Tryz.runUnderlying30 Tryz.sizeOf37) rfl (fun _ _ _ _ h => h) ?_) | (refine zbo 17 262143 rfl (by kernel_rfl) rfl (by kernel_rfl) (by kernel_rfl) (zab rfl rfl rfl hg4B) (t0_ (t0_ (t0_ eR))) (zan rfl rfl (Int.toNat_of_nonneg (by omega)).symm (by omega) foc0 (Reads.sl _ _ _) Tryz.runUnderlying30 Tryz.sizeOf37) rfl (fun _ _ _ _ h => h) ?_)
       refine aP 18 524287 rfl rfl (zab rfl rfl rfl hg4B) (za2 rfl ⟨_, _, _, Tryz.runUnderlying37, rfl, rfl, Tryz.sizeOf9, rfl⟩) rfl <| aV 19 1048575 rfl rfl (zab rfl rfl rfl hg4B) (t0_ (t0_ (t0_ eR))) (za3 rfl rfl (by omega) foc0 (Reads.sl _ _ _) rfl rfl Tryz.isAgg9) rfl <| aP 20 2097151 rfl rfl (zab rfl rfl rfl hg4B) (zag rfl) rfl <| aP 21 4194303 rfl rfl (zab rfl rfl rfl hg4B) (zae rfl) rfl <| aP 22 8388607 rfl rfl (zab rfl rfl rfl hg4B) (zaa rfl ⟨_, _, _, Tryz.runUnderlying72, rfl, rfl, Tryz.sizeOf70, rfl⟩) rfl <| aV 23 16777215 rfl rfl (zab rfl rfl rfl hg4B) (t0_ (t0_ (t0_ eR))) (zah rfl foc1 rfl Tryz.isAgg70) rfl <| aP 24 33554431 rfl rfl (zab rfl rfl rfl hg4B) (zag rfl) rfl ?_
       first | (refine zbo 25 67108863 rfl (by kernel_rfl) rfl (by kernel_rfl) (by kernel_rfl) (zab rfl rfl rfl hg4B) (t0_ (t0_ (t0_ eR))) (zan rfl rfl rfl (by omega) foc2 rdDv Tryz.runUnderlying70 Tryz.sizeOf91) rfl (fun _ _ _ _ h => h) ?_) | (refine zbo 25 67108863 rfl (by kernel_rfl) rfl (by kernel_rfl) (by kernel_rfl) (zab rfl rfl rfl hg4B) (t0_ (t0_ (t0_ eR))) (zan rfl rfl (Int.toNat_of_nonneg (by omega)).symm (by omega) foc2 rdDv Tryz.runUnderlying70 Tryz.sizeOf91) rfl (fun _ _ _ _ h => h) ?_)
       refine aP 26 134217727 rfl rfl (zab rfl rfl rfl hg4B) (za2 rfl ⟨_, _, _, Tryz.runUnderlying91, rfl, rfl, Tryz.sizeOf9, rfl⟩) rfl <| aV 27 268435455 rfl rfl (zab rfl rfl rfl hg4B) (t0_ (t0_ (t0_ eR))) (za3 rfl rfl (by omega) foc2 rdDv rfl rfl Tryz.isAgg9) rfl <| aP 28 536870911 rfl rfl (zab rfl rfl rfl hg4B) (zcx rfl rfl Tryz.underlying9) rfl <| aN 29 1073741823 rfl rfl (zas rfl hg4B rfl) rfl <| aN 30 2147483647 rfl rfl (zag rfl) rfl ?_
       first | (refine zc0 73 rfl (fun hg5B hg5 => ?_) (fun hg5B hg5 => ?_)) | (refine zc1 73 rfl (fun hg5B hg5 => ?_) (fun hg5B hg5 => ?_)) | (refine zdf 73 rfl (fun hg5B => ?_) (fun hg5B => ?_))
       ·
        refine aP 31 4294967295 rfl rfl (zab rfl rfl rfl hg5B) (zag rfl) rfl <| aP 32 8589934591 rfl rfl (zab rfl rfl rfl hg5B) (zag rfl) rfl ?_
        first | (refine zbo 33 17179869183 rfl (by kernel_rfl) rfl (by kernel_rfl) (by kernel_rfl) (zab rfl rfl rfl hg5B) (t0_ (t0_ (t0_ eR))) (zan rfl rfl rfl (by omega) foc0 (Reads.sl _ _ _) Tryz.runUnderlying30 Tryz.sizeOf37) rfl (fun _ _ _ _ h => h) ?_) | (refine zbo 33 17179869183 rfl (by kernel_rfl) rfl (by kernel_rfl) (by kernel_rfl) (zab rfl rfl rfl hg5B) (t0_ (t0_ (t0_ eR))) (zan rfl rfl (Int.toNat_of_nonneg (by omega)).symm (by omega) foc0 (Reads.sl _ _ _) Tryz.runUnderlying30 Tryz.sizeOf37) rfl (fun _ _ _ _ h => h) ?_)
        refine aP 34 34359738367 rfl rfl (zab rfl rfl rfl hg5B) (za2 rfl ⟨_, _, _, Tryz.runUnderlying37, rfl, rfl, Tryz.sizeOf3, rfl⟩) rfl <| aV 35 68719476735 rfl rfl (zab rfl rfl rfl hg5B) (t0_ (t0_ (t0_ eR))) (za3 rfl rfl (by omega) foc0 (Reads.sl _ _ _) rfl rfl Tryz.isAgg3) rfl <| aP 36 137438953471 rfl rfl (zab rfl rfl rfl hg5B) (zag rfl) rfl <| aP 37 274877906943 rfl rfl (zab rfl rfl rfl hg5B) (zag rfl) rfl ?_
        first | (refine zbo 38 549755813887 rfl (by kernel_rfl) rfl (by kernel_rfl) (by kernel_rfl) (zab rfl rfl rfl hg5B) (t0_ (t0_ (t0_ eR))) (zan rfl rfl rfl (by omega) foc0 (Reads.sl _ _ _) Tryz.runUnderlying30 Tryz.sizeOf37) rfl (fun _ _ _ _ h => h) ?_) | (refine zbo 38 549755813887 rfl (by kernel_rfl) rfl (by kernel_rfl) (by kernel_rfl) (zab rfl rfl rfl hg5B) (t0_ (t0_ (t0_ eR))) (zan rfl rfl (Int.toNat_of_nonneg (by omega)).symm (by omega) foc0 (Reads.sl _ _ _) Tryz.runUnderlying30 Tryz.sizeOf37) rfl (fun _ _ _ _ h => h) ?_)
        refine aP 39 1099511627775 rfl rfl (zab rfl rfl rfl hg5B) (za2 rfl ⟨_, _, _, Tryz.runUnderlying37, rfl, rfl, Tryz.sizeOf3, rfl⟩) rfl <| aV 40 2199023255551 rfl rfl (zab rfl rfl rfl hg5B) (t0_ (t0_ (t0_ eR))) (za3 rfl rfl (by omega) foc0 (Reads.sl _ _ _) rfl rfl Tryz.isAgg3) rfl <| aP 41 4398046511103 rfl rfl (zab rfl rfl rfl hg5B) (P_add rfl rfl (by omega)) rfl <| aP 42 8796093022207 rfl rfl (zab rfl rfl rfl hg5B) (zag rfl) rfl <| aP 43 17592186044415 rfl rfl (zab rfl rfl rfl hg5B) (P_gtr rfl rfl) rfl <| aN 44 35184372088831 rfl rfl (zas rfl hg5B rfl) rfl <| aD ?_
        first | (refine zao rfl (fun hg6 => ?_) (fun hg6 => ?_)) | (refine zap rfl (fun hg6 => ?_) (fun hg6 => ?_)) | (refine zar rfl (fun hg6 => ?_) (fun hg6 => ?_))
        ·
         refine sR <| oA rfl rfl <| nT <| zai <| zaj <| zad <| zbd <| zaj <| zaj <| zad <| zbd <| zaj <| zad <| zam (res1 Tryz.results83 rfl) <| CSpec.close () ?_ ?_ (t1_ (t1_ (eD eR)))
         ·
          refine bv (Md.rneeds_false (i := i) (by omega) (by rw [← hgi]; simp_all) (zb9 tyapi_Target.dflt hjl) ?_).symm
          unfold Md.nT
          rw [← hgk]
          rintro (h | h)
          · exact h (by assumption)
          · omega
         · trivial
        ·
         refine zbk <| zal <| zav <| zak <| oM rfl rfl <| oP (P_add rfl rfl (by omega)) rfl <| oA rfl rfl <| za9 <| zbg (j + 1) (by first | omega | (simp only []; omega)) ?_ (by repeat (first | exact Kp.base | exact Kp.self | refine Kp.cons rfl ?_ | refine Kp.forget rfl ?_)) ?_ (t0_ (t0_ (t0_ eR)))
         ·
          refine ⟨by omega, fun hg0 hik t ht => ?_⟩
          rw [takeD tyapi_Target.dflt hjl] at ht
          rcases List.mem_append.1 ht with h | h
          · exact hjn hg0 hik t h
          · rw [List.mem_singleton] at h; subst h
            rw [← hgi] at hg0
            unfold Md.nT
            rw [← hgk]
            first | (left; simp_all; done) | (right; omega) | (exfalso; simp_all; done) | (exfalso; omega)
         · exact ⟨rfl, True.intro⟩
       ·
        refine aS 31 4294967295 rfl rfl (GY_no rfl rfl rfl hg5B) rfl <| aS 32 8589934591 rfl rfl (GY_no rfl rfl rfl hg5B) rfl <| aS 33 17179869183 rfl rfl (GY_no rfl rfl rfl hg5B) rfl <| aS 34 34359738367 rfl rfl (GY_no rfl rfl rfl hg5B) rfl <| aS 35 68719476735 rfl rfl (GY_no rfl rfl rfl hg5B) rfl <| aS 36 137438953471 rfl rfl (GY_no rfl rfl rfl hg5B) rfl <| aS 37 274877906943 rfl rfl (GY_no rfl rfl rfl hg5B) rfl <| aS 38 549755813887 rfl rfl (GY_no rfl rfl rfl hg5B) rfl <| aS 39 1099511627775 rfl rfl (GY_no rfl rfl rfl hg5B) rfl <| aS 40 2199023255551 rfl rfl (GY_no rfl rfl rfl hg5B) rfl <| aS 41 4398046511103 rfl rfl (GY_no rfl rfl rfl hg5B) rfl <| aS 42 8796093022207 rfl rfl (GY_no rfl rfl rfl hg5B) rfl <| aS 43 17592186044415 rfl rfl (GY_no rfl rfl rfl hg5B) rfl <| aN 44 35184372088831 rfl rfl (zay rfl hg5B rfl) rfl <| aD <| za5 rfl rfl <| zbk <| zal <| zav <| zak <| oM rfl rfl <| oP (P_add rfl rfl (by omega)) rfl <| oA rfl rfl <| za9 <| zbg (j + 1) (by first | omega | (simp only []; omega)) ?_ (by repeat (first | exact Kp.base | exact Kp.self | refine Kp.cons rfl ?_ | refine Kp.forget rfl ?_)) ?_ (t0_ (t0_ (t0_ eR)))
        ·
         refine ⟨by omega, fun hg0 hik t ht => ?_⟩
         rw [takeD tyapi_Target.dflt hjl] at ht
         rcases List.mem_append.1 ht with h | h
         · exact hjn hg0 hik t h
         · rw [List.mem_singleton] at h; subst h
           rw [← hgi] at hg0
           unfold Md.nT
           rw [← hgk]
           first | (left; simp_all; done) | (right; omega) | (exfalso; simp_all; done) | (exfalso; omega)
        · exact ⟨rfl, True.intro⟩
      ·
       refine aS 15 65535 rfl rfl (GY_no rfl rfl rfl hg4B) rfl <| aS 16 131071 rfl rfl (GY_no rfl rfl rfl hg4B) rfl <| aS 17 262143 rfl rfl (GY_no rfl rfl rfl hg4B) rfl <| aS 18 524287 rfl rfl (GY_no rfl rfl rfl hg4B) rfl <| aS 19 1048575 rfl rfl (GY_no rfl rfl rfl hg4B) rfl <| aS 20 2097151 rfl rfl (GY_no rfl rfl rfl hg4B) rfl <| aS 21 4194303 rfl rfl (GY_no rfl rfl rfl hg4B) rfl <| aS 22 8388607 rfl rfl (GY_no rfl rfl rfl hg4B) rfl <| aS 23 16777215 rfl rfl (GY_no rfl rfl rfl hg4B) rfl <| aS 24 33554431 rfl rfl (GY_no rfl rfl rfl hg4B) rfl <| aS 25 67108863 rfl rfl (GY_no rfl rfl rfl hg4B) rfl <| aS 26 134217727 rfl rfl (GY_no rfl rfl rfl hg4B) rfl <| aS 27 268435455 rfl rfl (GY_no rfl rfl rfl hg4B) rfl <| aS 28 536870911 rfl rfl (GY_no rfl rfl rfl hg4B) rfl <| aN 29 1073741823 rfl rfl (zay rfl hg4B rfl) rfl <| aN 30 2147483647 rfl rfl (zag rfl) rfl <| aS 31 4294967295 rfl rfl (GY_no rfl rfl rfl rfl) rfl <| aS 32 8589934591 rfl rfl (GY_no rfl rfl rfl rfl) rfl <| aS 33 17179869183 rfl rfl (GY_no rfl rfl rfl rfl) rfl <| aS 34 34359738367 rfl rfl (GY_no rfl rfl rfl rfl) rfl <| aS 35 68719476735 rfl rfl (GY_no rfl rfl rfl rfl) rfl <| aS 36 137438953471 rfl rfl (GY_no rfl rfl rfl rfl) rfl <| aS 37 274877906943 rfl rfl (GY_no rfl rfl rfl rfl) rfl <| aS 38 549755813887 rfl rfl (GY_no rfl rfl rfl rfl) rfl <| aS 39 1099511627775 rfl rfl (GY_no rfl rfl rfl rfl) rfl <| aS 40 2199023255551 rfl rfl (GY_no rfl rfl rfl rfl) rfl <| aS 41 4398046511103 rfl rfl (GY_no rfl rfl rfl rfl) rfl ?_
       refine aS 42 8796093022207 rfl rfl (GY_no rfl rfl rfl rfl) rfl <| aS 43 17592186044415 rfl rfl (GY_no rfl rfl rfl rfl) rfl <| aN 44 35184372088831 rfl rfl (zay rfl rfl rfl) rfl <| aD <| za5 rfl rfl <| zbk <| zal <| zav <| zak <| oM rfl rfl <| oP (P_add rfl rfl (by omega)) rfl <| oA rfl rfl <| za9 <| zbg (j + 1) (by first | omega | (simp only []; omega)) ?_ (by repeat (first | exact Kp.base | exact Kp.self | refine Kp.cons rfl ?_ | refine Kp.forget rfl ?_)) ?_ (t0_ (t0_ (t0_ eR)))
       ·
        refine ⟨by omega, fun hg0 hik t ht => ?_⟩
        rw [takeD tyapi_Target.dflt hjl] at ht
        rcases List.mem_append.1 ht with h | h
        · exact hjn hg0 hik t h
        · rw [List.mem_singleton] at h; subst h
          rw [← hgi] at hg0
          unfold Md.nT
          rw [← hgk]
          first | (left; simp_all; done) | (right; omega) | (exfalso; simp_all; done) | (exfalso; omega)
       · exact ⟨rfl, True.intro⟩
     ·
      refine aS 10 2047 rfl rfl (GY_no rfl rfl rfl hg3B) rfl <| aS 11 4095 rfl rfl (GY_no rfl rfl rfl hg3B) rfl <| aS 12 8191 rfl rfl (GY_no rfl rfl rfl hg3B) rfl <| aN 13 16383 rfl rfl (zay rfl hg3B rfl) rfl <| aN 14 32767 rfl rfl (zag rfl) rfl <| aS 15 65535 rfl rfl (GY_no rfl rfl rfl rfl) rfl <| aS 16 131071 rfl rfl (GY_no rfl rfl rfl rfl) rfl <| aS 17 262143 rfl rfl (GY_no rfl rfl rfl rfl) rfl <| aS 18 524287 rfl rfl (GY_no rfl rfl rfl rfl) rfl <| aS 19 1048575 rfl rfl (GY_no rfl rfl rfl rfl) rfl <| aS 20 2097151 rfl rfl (GY_no rfl rfl rfl rfl) rfl <| aS 21 4194303 rfl rfl (GY_no rfl rfl rfl rfl) rfl <| aS 22 8388607 rfl rfl (GY_no rfl rfl rfl rfl) rfl <| aS 23 16777215 rfl rfl (GY_no rfl rfl rfl rfl) rfl <| aS 24 33554431 rfl rfl (GY_no rfl rfl rfl rfl) rfl <| aS 25 67108863 rfl rfl (GY_no rfl rfl rfl rfl) rfl <| aS 26 134217727 rfl rfl (GY_no rfl rfl rfl rfl) rfl <| aS 27 268435455 rfl rfl (GY_no rfl rfl rfl rfl) rfl <| aS 28 536870911 rfl rfl (GY_no rfl rfl rfl rfl) rfl <| aN 29 1073741823 rfl rfl (zay rfl rfl rfl) rfl <| aN 30 2147483647 rfl rfl (zag rfl) rfl <| aS 31 4294967295 rfl rfl (GY_no rfl rfl rfl rfl) rfl <| aS 32 8589934591 rfl rfl (GY_no rfl rfl rfl rfl) rfl <| aS 33 17179869183 rfl rfl (GY_no rfl rfl rfl rfl) rfl <| aS 34 34359738367 rfl rfl (GY_no rfl rfl rfl rfl) rfl <| aS 35 68719476735 rfl rfl (GY_no rfl rfl rfl rfl) rfl <| aS 36 137438953471 rfl rfl (GY_no rfl rfl rfl rfl) rfl <| aS 37 274877906943 rfl rfl (GY_no rfl rfl rfl rfl) rfl ?_
      refine aS 38 549755813887 rfl rfl (GY_no rfl rfl rfl rfl) rfl <| aS 39 1099511627775 rfl rfl (GY_no rfl rfl rfl rfl) rfl <| aS 40 2199023255551 rfl rfl (GY_no rfl rfl rfl rfl) rfl <| aS 41 4398046511103 rfl rfl (GY_no rfl rfl rfl rfl) rfl <| aS 42 8796093022207 rfl rfl (GY_no rfl rfl rfl rfl) rfl <| aS 43 17592186044415 rfl rfl (GY_no rfl rfl rfl rfl) rfl <| aN 44 35184372088831 rfl rfl (zay rfl rfl rfl) rfl <| aD <| za5 rfl rfl <| zbk <| zal <| zav <| zak <| oM rfl rfl <| oP (P_add rfl rfl (by omega)) rfl <| oA rfl rfl <| za9 <| zbg (j + 1) (by first | omega | (simp only []; omega)) ?_ (by repeat (first | exact Kp.base | exact Kp.self | refine Kp.cons rfl ?_ | refine Kp.forget rfl ?_)) ?_ (t0_ (t0_ (t0_ eR)))
      ·
       refine ⟨by omega, fun hg0 hik t ht => ?_⟩
       rw [takeD tyapi_Target.dflt hjl] at ht
       rcases List.mem_append.1 ht with h | h
       · exact hjn hg0 hik t h
       · rw [List.mem_singleton] at h; subst h
         rw [← hgi] at hg0
         unfold Md.nT
         rw [← hgk]
         first | (left; simp_all; done) | (right; omega) | (exfalso; simp_all; done) | (exfalso; omega)
      · exact ⟨rfl, True.intro⟩
    ·
     refine zbt <| za6 <| za7 <| za1 <| zal <| zav <| zak <| oM rfl rfl <| oP (P_add rfl rfl (by omega)) rfl <| oA rfl rfl <| za9 <| zbg (i + 1) (by first | omega | (simp only []; omega)) ?_ (by repeat (first | exact Kp.base | exact Kp.self | refine Kp.cons rfl ?_ | refine Kp.forget rfl ?_)) ?_ (t1_ (t1_ (eD eR)))
     ·
      refine ⟨by omega, fun q hq hg0 hqk => ?_⟩
      rcases Nat.lt_or_ge q i with h | h
      · exact hno q h hg0 hqk
      · obtain rfl : q = i := by omega
        obtain rfl : j = (Md.tbl (m.at q)).length := by omega
        rw [List.take_length] at hjn
        exact hjn hg0 hqk
     · exact ⟨rfl, True.intro⟩
  ·
   refine zbt <| za6 <| za7 <| za1 <| zav <| sR <| oA rfl rfl <| nT <| zai <| zam (res1 Tryz.results83 rfl) <| CSpec.close () ?_ ?_ (t0_ (t0_ eR))
   ·
    obtain rfl : i = m.dv.length := by omega
    exact bv (Md.rneeds_true hO hk hno).symm
   · trivial
end Go.Proofs
set_option linter.unusedSimpArgs false
set_option maxRecDepth 20000
namespace Go.Proofs
open Go.VG
theorem ztq {l : List api_Target} (h : chkGo l 0 = 0) (hl : l.length ≤ 64) {a : Int} (ha : 0 ≤ a) : ∀ (N x : Nat), l.length - x < N → x ≤ l.length →
    zcl l a N x = some (match zfs (l.drop x) x a with | some (i, o) => .inr ((i : Int), o, true) | none => .inl ()) := by
  intro N
  induction N with
  | zero => intro x h; omega
  | succ N ih =>
    intro x h1 h2
    simp only [zcl, zc8]
    by_cases hx : x < l.length
    · rw [if_pos (by omega), dropD tgt0 hx]
      have g1 := zgh l 0 h x hx
      have g2 := zft h x (by omega)
      have g3 := ih (x + 1) (by omega) hx
      simp only [zfs]
      have e1 : inI64 ((l.getD x tgt0).Start + (l.getD x tgt0).Length) = true := in64 (by omega)
      show grd (inI64 ((l.getD x tgt0).Start + (l.getD x tgt0).Length)) _ = _
      rw [e1]
      by_cases c : a < (l.getD x tgt0).Start + (l.getD x tgt0).Length
      · rw [if_pos c]
        have e2 : inI64 (a - (l.getD x tgt0).Start) = true := in64 (by omega)
        refine (if_pos c).trans ?_
        show grd (inI64 (a - (l.getD x tgt0).Start)) _ = _
        rw [e2]; rfl
      · rw [if_neg c]
        exact (if_neg c).trans g3
    · rw [if_neg (by omega), List.drop_eq_nil_of_le (by omega)]; rfl
theorem zor {l : List api_Target} {a : Int} : zdz l a = some (zez (tfind l a)) := by
  unfold zdz tfind
  rw [zkk, Option.bind_some]
  by_cases h : chk l ≠ 0 ∨ a < 0
  · rw [if_pos h, if_pos h]; rfl
  · rw [if_neg h, if_neg h]
    obtain ⟨h1, h2⟩ := zb0 (Classical.not_not.1 fun y => h (.inl y))
    have hF := zec
    generalize FUEL = N at hF ⊢
    rw [ztq h2 h1 (by omega) N 0 (by omega) (by omega), List.drop_zero]
    cases zfs l 0 a with
    | none => rfl
    | some p => rfl
theorem hd_at {c : RH} {m : Md} {k : Nat} (hW : RefWF c m) : c.l.getD k tyDv.dflt = (c.hd k, m.at k) := Prod.ext rfl (hW.at k)
namespace Md
def oI (o : Option Nat) : Int := match o with | some k => (k : Int) | none => -1
def wayI (m : Md) (f : Nat) (k : Int) (t : api_Task) : Int := if k < 0 then -1 else oI (m.way f k.toNat t)
section
variable {m : Md} {n : ByteArray} {t : api_Task} {f k : Nat}
theorem wayI_find : m.wayI f (m.findI n) t = oI (m.wayN f n t) := by
  unfold wayI wayN findI
  cases h : m.find n with
  | none => rfl
  | some k => rw [if_neg (by simp)]; rfl
theorem wayI_nat : m.wayI f (k : Int) t = oI (m.way f k t) := by unfold wayI; rw [if_neg (by omega)]; rfl
theorem wayI_neg {j : Int} (h : j < 0) : m.wayI f j t = -1 := if_pos h
theorem oI_nonneg {o : Option Nat} : (0 ≤ oI o) ↔ o.isSome = true := by cases o <;> simp [oI]
theorem oI_none {o : Option Nat} (h : ¬ 0 ≤ oI o) : o = none := by cases o with
  | none => rfl
  | some k => exact absurd (by simp [oI]) h
end
end Md
end Go.Proofs
set_option linter.unusedSimpArgs false
set_option maxRecDepth 20000
namespace Go.Proofs
open Go.VG
namespace Md
def okK (m : Md) (rk : Nat → Nat) (r : Nat) (k : Int) : Prop := ∀ q : Nat, k = (q : Int) → q < m.dv.length ∧ (m.at q).gone = false ∧ rk q < r
section
variable {m : Md} {rk : Nat → Nat} {r : Nat} {k : Int} {n : ByteArray}
theorem okK_lt (h : m.okK rk r k) : k ≤ (m.dv.length : Int) - 1 ∨ k < 0 := by
  by_cases h0 : k < 0
  · exact .inr h0
  · have := (h k.toNat (by omega)).1
    left; omega
theorem okK_find (h : ∀ j, m.find n = some j → rk j < r) : m.okK rk r (m.findI n) := fun q hq => by
  rcases findI_cases (m := m) (n := n) with ⟨_, h2⟩ | ⟨k, h1, h2, h3, h4, _⟩
  · rw [h2] at hq; omega
  · rw [h2] at hq
    obtain rfl : k = q := by omega
    exact ⟨h3, h4, h k h1⟩
end
end Md
theorem zlw {W : World} {b : Nat} {c : RH} {m : Md} {rk : Nat → Nat} {r : Nat} {k : Int} {t : api_Task} (hrk : m.Rank rk) (ih : ∀ r2, r2 + 1 = r → ∀ (k : Int) (t : api_Task), m.okK rk r2 k → CSpec Tryz.prog W 40 [ptr b 0, .int .i64 k, .agg #[.int .i64 t.Kind, .int .i64 t.At, .int .u64 (t.Value.toNat : Int)]] [blk b 72 (zbp c m), RefR c m] (fun _ : Unit => .int .i64 (m.wayI r2 k t)) (fun _ => True) (fun _ F => blk b 72 (zbp c m) :: RefR c m :: F)) (hk : m.okK rk r k) :
    CSpec Tryz.prog W 40 [ptr b 0, .int .i64 k, .agg #[.int .i64 t.Kind, .int .i64 t.At, .int .u64 (t.Value.toNat : Int)]] [blk b 72 (zbp c m), RefR c m] (fun _ : Unit => .int .i64 (m.wayI r k t)) (fun _ => True) (fun _ F => blk b 72 (zbp c m) :: RefR c m :: F) := by
 refine CSpec.of_body Tryz.func40 rfl Tryz.ntmps40 rfl fun F => ?_
 show CJ _ _ _ _ _ _ (_ :: _ :: F)
 refine zbl (zcs foc1) fun hW => ?_
 have hO := hW.ok
 have hln := hW.big.len
 have hll := hW.len
 have hat := hW.at
 have hkl := Md.okK_lt hk
 refine sR <| oO <| O_box rfl rfl rfl fun b1 => oA rfl rfl <| nT <| zaf <| sR <| oM rfl rfl <| oP (P_lss rfl rfl) rfl <| oM rfl rfl ?_
 first | (refine zba 16 rfl (fun hg1B hg1 => ?_) (fun hg1B hg1 => ?_)) | (refine zbb 16 rfl (fun hg1B hg1 => ?_) (fun hg1B hg1 => ?_)) | (refine zbi 16 rfl (fun hg1B => ?_) (fun hg1B => ?_))
 ·
  refine RJ_gn (GY_no rfl rfl rfl hg1B) rfl rfl <| RJ_gn (GY_no rfl rfl rfl hg1B) rfl rfl <| RJ_gn (GY_no rfl rfl rfl hg1B) rfl rfl <| RJ_gn (GY_no rfl rfl rfl hg1B) rfl rfl <| RJ_gn (GY_no rfl rfl rfl hg1B) rfl rfl <| RJ_gn (GY_no rfl rfl rfl hg1B) rfl rfl <| RJ_gn (GY_no rfl rfl rfl hg1B) rfl rfl <| RJ_gn (GY_no rfl rfl rfl hg1B) rfl rfl <| oP (zas rfl hg1B rfl) rfl <| nT <| za4 rfl rfl <| sR <| oA rfl rfl <| nT <| zai <| zad <| zam (res1 Tryz.results40 rfl) <| CSpec.close () ?_ ?_ (t1_ (t1_ (eD eR)))
  ·
   refine iv ?_
   by_cases h0 : k < 0
   · exact (Md.wayI_neg h0).symm
   · obtain ⟨q, rfl⟩ : ∃ q : Nat, k = (q : Int) := ⟨k.toNat, by omega⟩
     have hqa := hat q
     rw [Md.wayI_nat, Md.way_base (by simp only [Int.toNat_natCast] at *; rw [← hqa]; first | assumption | (exfalso; omega))]; rfl
  · trivial
 ·
  refine gP (zab rfl rfl rfl hg1B) (zag rfl) rfl <| gP (zab rfl rfl rfl hg1B) (zae rfl) rfl <| gP (zab rfl rfl rfl hg1B) (zaa rfl ⟨_, _, _, Tryz.runUnderlying72, rfl, rfl, Tryz.sizeOf70, rfl⟩) rfl <| gV (zab rfl rfl rfl hg1B) (zah rfl foc1 rfl Tryz.isAgg70) rfl <| gP (zab rfl rfl rfl hg1B) (zag rfl) rfl <| gV (zab rfl rfl rfl hg1B) (zan rfl rfl (Int.toNat_of_nonneg (by omega)).symm (by omega) foc2 rdDv Tryz.runUnderlying70 Tryz.sizeOf91) rfl <| gP (zab rfl rfl rfl hg1B) (za2 rfl ⟨_, _, _, Tryz.runUnderlying91, rfl, rfl, Tryz.sizeOf4, rfl⟩) rfl <| gV (zab rfl rfl rfl hg1B) (za3 rfl rfl (by omega) foc2 rdDv rfl rfl Tryz.isAgg4) rfl <| oP (zay rfl hg1B rfl) rfl <| nT ?_
  first | (refine zao rfl (fun hg2 => ?_) (fun hg2 => ?_)) | (refine zap rfl (fun hg2 => ?_) (fun hg2 => ?_)) | (refine zar rfl (fun hg2 => ?_) (fun hg2 => ?_))
  ·
   refine sR <| oA rfl rfl <| nT <| zai <| zad <| zam (res1 Tryz.results40 rfl) <| CSpec.close () ?_ ?_ (t1_ (t1_ (eD eR)))
   ·
    refine iv ?_
    by_cases h0 : k < 0
    · exact (Md.wayI_neg h0).symm
    · obtain ⟨q, rfl⟩ : ∃ q : Nat, k = (q : Int) := ⟨k.toNat, by omega⟩
      have hqa := hat q
      rw [Md.wayI_nat, Md.way_base (by simp only [Int.toNat_natCast] at *; rw [← hqa]; first | assumption | (exfalso; omega))]; rfl
   · trivial
  ·
   refine kT <| zaf ?_
   obtain ⟨q, rfl⟩ : ∃ q : Nat, k = (q : Int) := ⟨k.toNat, by omega⟩
   obtain ⟨hq, hqg, hqr⟩ := hk q rfl
   have hqa := hat q
   have hqB : (m.at q).isB = false := by simp only [Int.toNat_natCast] at *; rw [← hqa]; assumption
   obtain ⟨r2, rfl⟩ : ∃ r2, r = r2 + 1 := ⟨r - 1, by omega⟩
   have hch := zb0 (hO.chk q).1
   have hul := zd6 (m.at q).live
   have hqD : m.isD q := ⟨hq, hqg, hqB⟩
   refine zak <| oM rfl rfl <| oP (zae rfl) rfl <| oP (zaa rfl ⟨_, _, _, Tryz.runUnderlying72, rfl, rfl, Tryz.sizeOf70, rfl⟩) rfl <| oV (zah rfl foc1 rfl Tryz.isAgg70) rfl <| oM rfl rfl ?_
   first | (refine RJ_op rfl (OJ_V (zan rfl rfl rfl (by omega) foc2 rdDv Tryz.runUnderlying70 Tryz.sizeOf91) rfl ?_)) | (refine RJ_op rfl (OJ_V (zan rfl rfl (Int.toNat_of_nonneg (by omega)).symm (by omega) foc2 rdDv Tryz.runUnderlying70 Tryz.sizeOf91) rfl ?_))
   refine oV (zcd rfl rfl (by omega) foc2 rdDv rfl rfl Tryz.isAgg91 Tryz.sizeOf91) rfl <| oO <| zb1 Tryz.zeroValue91 rfl rfl fun b2 => oO <| zbn rfl rfl foc0 Tryz.sizeOf91 rfl rfl rfl <| nT <| zaf <| sR <| oP (zaa rfl ⟨_, _, _, Tryz.runUnderlying91, rfl, rfl, Tryz.sizeOf4, rfl⟩) rfl <| oV (zah rfl foc0 rfl Tryz.isAgg4) rfl <| nT ?_
   first | (refine zao rfl (fun hg3 => ?_) (fun hg3 => ?_)) | (refine zap rfl (fun hg3 => ?_) (fun hg3 => ?_)) | (refine zar rfl (fun hg3 => ?_) (fun hg3 => ?_))
   ·
    refine zaf ?_
    have hsq : (m.at q).susp = true := by rw [← hqa]; assumption
    refine zak <| oM rfl rfl <| oA rfl rfl <| nT <| zai <| zad <| zam (res1 Tryz.results40 rfl) <| CSpec.close () ?_ ?_ (t2_ (t2_ (eD (eD eR))))
    · rw [Md.wayI_nat, Md.way_susp hqB hsq]; rfl
    · trivial
   ·
    refine kT <| zaf <| zaf ?_
    have hsf : (m.at q).susp = false := by rw [← hqa]; simp_all
    refine zak <| oP (zaa rfl ⟨_, _, _, Tryz.runUnderlying33, rfl, rfl, Tryz.sizeOf3, rfl⟩) rfl <| oV (zah rfl foc1 rfl Tryz.isAgg3) rfl <| oP (P_eql rfl rfl) rfl <| nT ?_
    first | (refine zao rfl (fun hg4 => ?_) (fun hg4 => ?_)) | (refine zap rfl (fun hg4 => ?_) (fun hg4 => ?_)) | (refine zar rfl (fun hg4 => ?_) (fun hg4 => ?_))
    ·
     refine zaf ?_
     have hk3 : t.Kind = 3 := by assumption
     refine zak <| oP (zaa rfl ⟨_, _, _, Tryz.runUnderlying91, rfl, rfl, Tryz.sizeOf30, rfl⟩) rfl <| oV (zah rfl foc0 rfl Tryz.isAgg30) rfl <| oO <| zaq (zih (rrLv (by omega)) (zuk (by first | assumption | omega))) rfl Tryz.call86 (Dels.cons del3 Dels.nil) rfl fun _ hc4 => oA rfl rfl <| nT <| zaf <| sR <| oA rfl rfl <| nT <| zat <| zbs (X := Nat) [6, 9, 10, 42, 43, 44, 45, 46, 47, 48, 49, 50, 51, 52, 53, 54, 55, 56, 57, 58, 59] (fun i  => ([(9, .int .i64 (i : Nat))] : Slots)) (fun i R => R) (fun i  => i ≤ (tuses (m.at q).live).length ∧ ∀ j, j < i → m.wayN r2 ((tuses (m.at q).live).getD j ByteArray.empty) t = none) (fun i  => (tuses (m.at q).live).length - i) (0) ?_ ?_ (t0_ (t0_ (t0_ (t0_ (t0_ eR))))) ?_
     · exact ⟨Nat.zero_le _, fun j h => by omega⟩
     · exact ⟨rfl, True.intro⟩
     ·
      intro i hpf
      obtain ⟨hi, hno⟩ := hpf
      show CJ _ _ _ _ _ (([(9, .int .i64 (i : Nat))] : Slots) ++ forget _ _) (_)
      refine zaf <| sR <| oM rfl rfl <| oM rfl rfl <| oV (V_len rfl foc1 (Reads.sl _ _ _) Tryz.runUnderlying59) rfl <| oP (P_lss rfl rfl) rfl <| nT ?_
      first | (refine zao rfl (fun hg5 => ?_) (fun hg5 => ?_)) | (refine zap rfl (fun hg5 => ?_) (fun hg5 => ?_)) | (refine zar rfl (fun hg5 => ?_) (fun hg5 => ?_))
      ·
       refine kT <| zaf <| zat <| zaf <| za0 256 (by kernel_rfl) rfl <| aN 0 1 rfl rfl (zag rfl) rfl <| aN 1 3 rfl rfl (zag rfl) rfl <| aN 2 7 rfl rfl (zag rfl) rfl <| aN 3 15 rfl rfl (zag rfl) rfl ?_
       first | (refine zbo 4 31 rfl (by kernel_rfl) rfl (by kernel_rfl) (by kernel_rfl) (zac rfl) (t0_ (t0_ (t0_ (t0_ (t0_ eR))))) (zan rfl rfl rfl (by omega) foc1 (Reads.sl _ _ _) Tryz.runUnderlying59 Tryz.sizeOf9) rfl (fun _ _ _ _ h => h) ?_) | (refine zbo 4 31 rfl (by kernel_rfl) rfl (by kernel_rfl) (by kernel_rfl) (zac rfl) (t0_ (t0_ (t0_ (t0_ (t0_ eR))))) (zan rfl rfl (Int.toNat_of_nonneg (by omega)).symm (by omega) foc1 (Reads.sl _ _ _) Tryz.runUnderlying59 Tryz.sizeOf9) rfl (fun _ _ _ _ h => h) ?_)
       refine aV 5 63 rfl rfl (zac rfl) (t0_ (t0_ (t0_ (t0_ (t0_ eR))))) (za3 rfl rfl (by omega) foc1 (Reads.sl _ _ _) rfl rfl Tryz.isAgg9) rfl <| aV 7 191 rfl rfl (zac rfl) (t0_ (t0_ (t0_ (t0_ (t0_ eR))))) (zbh rfl foc3 Tryz.isAgg33 Tryz.sizeOf33 rfl rfl) rfl <| AJ_op 6 255 rfl (by kernel_rfl) rfl (zac rfl) <| zaq (ze3) rfl Tryz.call39 (Dels.cons del4 (Dels.cons del0 Dels.nil)) rfl fun _ hc5 => ⟨fun _ => (t1_ (t1_ (t1_ (t1_ (t0_ eR))))), ?_⟩
       refine AJ_op 8 511 rfl (by kernel_rfl) rfl (zac rfl) <| zaq ((ih r2 rfl _ t (Md.okK_find (zfa hrk hqD hqr (zma (by omega)))))) rfl Tryz.call40 (Dels.cons del0 (Dels.cons del0 Dels.nil)) rfl fun _ hc6 => ⟨fun h => absurd h (by decide), ?_⟩
       refine aN 9 1023 rfl rfl (zbc rfl) rfl <| aD <| sR <| oM rfl rfl <| oP (P_geq rfl rfl) rfl <| nT ?_
       first | (refine zao rfl (fun hg6 => ?_) (fun hg6 => ?_)) | (refine zap rfl (fun hg6 => ?_) (fun hg6 => ?_)) | (refine zar rfl (fun hg6 => ?_) (fun hg6 => ?_))
       ·
        refine zaf ?_
        have hyi : i < (tuses (m.at q).live).length := by omega
        refine zak <| oM rfl rfl <| oA rfl rfl <| nT <| zai <| zaj <| zad <| zbd <| zaj <| zad <| zad <| zam (res1 Tryz.results40 rfl) <| CSpec.close () ?_ ?_ (t0_ (t0_ (eD (eD (eD eR)))))
        ·
         refine iv ?_
         rw [Md.wayI_nat, Md.wayI_find, Md.way_flush hqB hsf hk3, zqy hyi hno (Md.oI_nonneg.1 (by rw [← Md.wayI_find]; assumption))]
        · trivial
       ·
        refine zbk <| zal <| zav <| zak <| oM rfl rfl <| oP (P_add rfl rfl (by omega)) rfl <| oA rfl rfl <| za9 <| zbg (i + 1) (by first | omega | (simp only []; omega)) ?_ (by repeat (first | exact Kp.base | exact Kp.self | refine Kp.cons rfl ?_ | refine Kp.forget rfl ?_)) ?_ (t1_ (t1_ (t1_ (t1_ (t0_ eR)))))
        ·
         refine ⟨by omega, fun j hj => ?_⟩
         rcases Nat.lt_or_ge j i with h | h
         · exact hno j h
         · obtain rfl : j = i := by omega
           refine Md.oI_none ?_
           rw [← Md.wayI_find]
           assumption
        · exact ⟨rfl, True.intro⟩
      ·
       refine zbt <| za6 <| za7 <| za1 <| zav <| sR <| oA rfl rfl <| nT <| zai <| zad <| zam (res1 Tryz.results40 rfl) <| CSpec.close () ?_ ?_ (t4_ (t0_ (eD (eD (eD eR)))))
       ·
        obtain rfl : i = (tuses (m.at q).live).length := by omega
        rw [Md.wayI_nat, Md.way_flush hqB hsf hk3, zqz hno]; rfl
       · trivial
    ·
     refine kT <| zaf ?_
     have hk3 : t.Kind ≠ 3 := by assumption
     refine zak <| oP (zaa rfl ⟨_, _, _, Tryz.runUnderlying91, rfl, rfl, Tryz.sizeOf30, rfl⟩) rfl <| oV (zah rfl foc0 rfl Tryz.isAgg30) rfl <| oP (zaa rfl ⟨_, _, _, Tryz.runUnderlying33, rfl, rfl, Tryz.sizeOf3, rfl⟩) rfl <| oV (zah rfl foc1 rfl Tryz.isAgg3) rfl <| oO <| zaq (zfy (rrLv (by omega)) zor) rfl Tryz.call87 (Dels.cons del3 Dels.nil) rfl fun _ hc7 => oM rfl rfl <| oP (zaw rfl rfl) rfl <| oP (zaw rfl rfl) rfl <| oP (zaw rfl rfl) rfl <| oA rfl rfl <| oA rfl rfl <| oA rfl rfl <| nT <| zaf <| sR <| oM rfl rfl <| oP (P_not rfl) rfl <| oM rfl rfl ?_
     first | (refine zba 71 rfl (fun hg7B hg7 => ?_) (fun hg7B hg7 => ?_)) | (refine zbb 71 rfl (fun hg7B hg7 => ?_) (fun hg7B hg7 => ?_)) | (refine zbi 71 rfl (fun hg7B => ?_) (fun hg7B => ?_))
     ·
      refine RJ_gn (GY_no rfl rfl rfl hg7B) rfl rfl <| RJ_gn (GY_no rfl rfl rfl hg7B) rfl rfl <| RJ_gn (GY_no rfl rfl rfl hg7B) rfl rfl <| RJ_gn (GY_no rfl rfl rfl hg7B) rfl rfl <| RJ_gn (GY_no rfl rfl rfl hg7B) rfl rfl <| RJ_gn (GY_no rfl rfl rfl hg7B) rfl rfl <| RJ_gn (GY_no rfl rfl rfl hg7B) rfl rfl <| oP (zas rfl hg7B rfl) rfl <| nT <| za4 rfl rfl <| sR <| oA rfl rfl <| nT <| zai <| zad <| zam (res1 Tryz.results40 rfl) <| CSpec.close () ?_ ?_ (t3_ (t0_ (eD (eD eR))))
      · rw [Md.wayI_nat, Md.way_out hqB hsf hk3 (Md.tfind_no (by simpa using hg7B))]; rfl
      · trivial
     ·
      obtain ⟨i, o, hf, hi, ho1, ho2⟩ := zkp (hg7B) (hO.chk q).1
      refine gP (zab rfl rfl rfl hg7B) (zaa rfl ⟨_, _, _, Tryz.runUnderlying91, rfl, rfl, Tryz.sizeOf30, rfl⟩) rfl <| gV (zab rfl rfl rfl hg7B) (zah rfl foc1 rfl Tryz.isAgg30) rfl <| gP (zab rfl rfl rfl hg7B) (zag rfl) rfl <| gV (zab rfl rfl rfl hg7B) (zan rfl rfl (by rw [hf]; rfl) (by exact hi) foc0 (rrLv (by omega)) Tryz.runUnderlying30 Tryz.sizeOf37) rfl <| gP (zab rfl rfl rfl hg7B) (za2 rfl ⟨_, _, _, Tryz.runUnderlying37, rfl, rfl, Tryz.sizeOf9, rfl⟩) rfl <| gV (zab rfl rfl rfl hg7B) (za3 rfl rfl (by omega) foc0 (rrLv (by omega)) rfl rfl Tryz.isAgg9) rfl <| gP (zab rfl rfl rfl hg7B) (zcx rfl rfl Tryz.underlying9) rfl <| oP (zay rfl hg7B rfl) rfl <| nT ?_
      first | (refine zao rfl (fun hg8 => ?_) (fun hg8 => ?_)) | (refine zap rfl (fun hg8 => ?_) (fun hg8 => ?_)) | (refine zar rfl (fun hg8 => ?_) (fun hg8 => ?_))
      ·
       refine sR <| oA rfl rfl <| nT <| zai <| zad <| zam (res1 Tryz.results40 rfl) <| CSpec.close () ?_ ?_ (t3_ (t0_ (eD (eD eR))))
       · rw [Md.wayI_nat, Md.way_in hqB hsf hk3 hf, if_pos (by assumption)]; rfl
       · trivial
      ·
       refine kT <| zaf ?_
       rw [hf]
       have hfb := zdi (hO.chk q).1 (zb9 tgt0 hi)
       refine zak <| oP (zaa rfl ⟨_, _, _, Tryz.runUnderlying91, rfl, rfl, Tryz.sizeOf30, rfl⟩) rfl <| oV (zah rfl foc1 rfl Tryz.isAgg30) rfl <| oM rfl rfl <| oV (zan rfl rfl rfl (by exact hi) foc0 (rrLv (by omega)) Tryz.runUnderlying30 Tryz.sizeOf37) rfl <| oP (za2 rfl ⟨_, _, _, Tryz.runUnderlying37, rfl, rfl, Tryz.sizeOf3, rfl⟩) rfl <| oV (za3 rfl rfl (by omega) foc0 (rrLv (by omega)) rfl rfl Tryz.isAgg3) rfl <| oM rfl rfl <| oP (P_add rfl rfl (by show -9223372036854775808 ≤ ((m.at q).live.getD i tgt0).Offset + o ∧ ((m.at q).live.getD i tgt0).Offset + o ≤ 9223372036854775807; omega)) rfl <| oP (zaa rfl ⟨_, _, _, Tryz.runUnderlying33, rfl, rfl, Tryz.sizeOf3, rfl⟩) rfl <| oO <| zbj rfl rfl foc2 rfl rfl Tryz.sizeOf3 <| nT <| zaf <| za0 1024 (by kernel_rfl) rfl <| aN 0 1 rfl rfl (zag rfl) rfl <| aN 1 3 rfl rfl (zag rfl) rfl <| aN 2 7 rfl rfl (zaa rfl ⟨_, _, _, Tryz.runUnderlying91, rfl, rfl, Tryz.sizeOf30, rfl⟩) rfl <| aV 3 15 rfl rfl (zac rfl) (t0_ (t0_ (t0_ (t0_ eR)))) (zah rfl foc1 rfl Tryz.isAgg30) rfl <| aN 4 31 rfl rfl (zag rfl) rfl <| aV 5 63 rfl rfl (zac rfl) (t0_ (t0_ (t0_ (t0_ eR)))) (zan rfl rfl rfl (by exact hi) foc0 (rrLv (by omega)) Tryz.runUnderlying30 Tryz.sizeOf37) rfl <| aN 6 127 rfl rfl (za2 rfl ⟨_, _, _, Tryz.runUnderlying37, rfl, rfl, Tryz.sizeOf9, rfl⟩) rfl ?_
       refine aV 7 255 rfl rfl (zac rfl) (t0_ (t0_ (t0_ (t0_ eR)))) (za3 rfl rfl (by omega) foc0 (rrLv (by omega)) rfl rfl Tryz.isAgg9) rfl <| aV 9 767 rfl rfl (zac rfl) (t0_ (t0_ (t0_ (t0_ eR)))) (zbh rfl foc2 Tryz.isAgg33 Tryz.sizeOf33 rfl rfl) rfl <| AJ_op 8 1023 rfl (by kernel_rfl) rfl (zac rfl) <| zaq (ze3) rfl Tryz.call39 (Dels.cons del3 (Dels.cons del0 Dels.nil)) rfl fun _ hc8 => ⟨fun _ => (t1_ (t1_ (t1_ (t0_ eR)))), ?_⟩
       refine AJ_op 10 2047 rfl (by kernel_rfl) rfl (zac rfl) <| zaq ((ih r2 rfl _ { t with At := ((m.at q).live.getD i tgt0).Offset + o } (Md.okK_find (zfa hrk hqD hqr ⟨_, List.mem_append.2 (.inl (zb9 tgt0 hi)), rfl⟩)))) rfl Tryz.call40 (Dels.cons del0 (Dels.cons del0 Dels.nil)) rfl fun _ hc9 => ⟨fun h => absurd h (by decide), ?_⟩
       refine aN 11 4095 rfl rfl (zbc rfl) rfl <| aD <| zai <| zam (res1 Tryz.results40 rfl) <| CSpec.close () ?_ ?_ (t0_ (t0_ (eD (eD eR))))
       ·
        refine iv ?_
        rw [Md.wayI_nat, Md.wayI_find, Md.way_in hqB hsf hk3 hf, if_neg (by assumption)]
       · trivial
end Go.Proofs
set_option linter.unusedSimpArgs false
set_option maxRecDepth 20000
namespace Go.Proofs
open Go.VG
theorem zos {α : Type} {t : Ty α} {x d : α} : ∀ {xs : List α} {k : Nat}, k < xs.length → t.enc x = t.enc (xs.getD k d) → flat t (xs.set k x) = flat t xs
  | a :: xs, 0, _, h => by
    show t.enc x ++ flat t xs = t.enc a ++ flat t xs
    rw [h]; rfl
  | a :: xs, k + 1, hk, h => by
    show t.enc a ++ flat t (xs.set k x) = t.enc a ++ flat t xs
    rw [zos (by simpa using hk) (by simpa using h)]
theorem zws {α : Type} {t : Ty α} {v : Value} {xs : List α} {x d : α} {k : Nat} (hk : k < xs.length) (h : t.enc x = t.enc (xs.getD k d)) : sl t v xs = sl t v (xs.set k x) := by
  unfold sl; rw [zos hk h, List.length_set]
theorem ztr {W : World} {b : Nat} {c : RH} {m : Md} {rk : Nat → Nat} (hrk : m.Rank rk) : ∀ (r : Nat) (k : Int) (t : api_Task), m.okK rk r k → CSpec Tryz.prog W 40 [ptr b 0, .int .i64 k, .agg #[.int .i64 t.Kind, .int .i64 t.At, .int .u64 (t.Value.toNat : Int)]] [blk b 72 (zbp c m), RefR c m] (fun _ : Unit => .int .i64 (m.wayI r k t)) (fun _ => True) (fun _ F => blk b 72 (zbp c m) :: RefR c m :: F)
  | 0, _, _, hn => zlw hrk (fun r2 h => by omega) hn
  | r + 1, _, _, hn => zlw hrk (fun r2 h => by obtain rfl : r2 = r := (by omega); exact ztr hrk r2) hn
theorem zh2 {W : World} {b : Nat} {c : RH} {m : Md} {k : Int} {t : api_Task} (hO : MdOk m) (hk : ∀ q : Nat, k = (q : Int) → q < m.dv.length ∧ (m.at q).gone = false) : CSpec Tryz.prog W 40 [ptr b 0, .int .i64 k, .agg #[.int .i64 t.Kind, .int .i64 t.At, .int .u64 (t.Value.toNat : Int)]] [blk b 72 (zbp c m), RefR c m] (fun _ : Unit => .int .i64 (m.wayI (m.dv.length + 1) k t)) (fun _ => True) (fun _ F => blk b 72 (zbp c m) :: RefR c m :: F) := by
  obtain ⟨rk, hrk, hrb⟩ := Md.rank_bd hO.acy
  exact ztr hrk _ _ _ fun q hq => ⟨(hk q hq).1, (hk q hq).2, by have := hrb q; omega⟩
namespace Md
def carryI (m : Md) (r : Nat) (k : Int) (t : api_Task) : (UInt64 × Int) × Md := if k < 0 then ((0, 1), m) else m.carry r k.toNat t
section
variable {m : Md} {n : ByteArray} {t : api_Task} {r k : Nat}
theorem carryI_nat : m.carryI r (k : Int) t = m.carry r k t := by unfold carryI; rw [if_neg (by omega)]; rfl
theorem carryI_neg {j : Int} (h : j < 0) : m.carryI r j t = ((0, 1), m) := if_pos h
theorem carryI_find : m.carryI r (m.findI n) t = m.carryN r n t := by
  unfold carryI carryN findI
  cases h : m.find n with
  | none => rfl
  | some k => rw [if_neg (by simp)]; rfl
theorem carry_fl (h3 : t.Kind = 3) : m.carry r k t = ((0, 0), m) := by cases r with
  | zero => rfl
  | succ r => unfold carry; rw [if_pos h3]
theorem carry_range (h3 : t.Kind ≠ 3) (h : t.At < 0 ∨ m.size k ≤ t.At) : m.carry (r + 1) k t = ((0, 1), m) := by unfold carry; rw [if_neg h3, if_pos h]
theorem sizeI_nat : m.sizeI (k : Int) = m.size k := by unfold sizeI; rw [if_neg (by omega)]; rfl
theorem size_base (hb : (m.at k).isB = true) : m.size k = ((m.at k).base.length : Int) := if_pos hb
theorem size_tab (hb : (m.at k).isB = false) (hc : Go.Proofs.chk (m.at k).live = 0) : m.size k = tsum (m.at k).live := by unfold Md.size tsize; rw [if_neg (by simp [hb]), if_pos hc]
theorem ok_base (hO : MdOk m) (hB : MdBig m) (hk : k < m.dv.length) (hb : (m.at k).isB = true) (hw : m.wr < 100000000) {l : List UInt64} (hl : l.length = (m.at k).base.length) : MdOk { m.set k { m.at k with base := l } with wr := m.wr + 1 } ∧ MdBig { m.set k { m.at k with base := l } with wr := m.wr + 1 } := by
  have hlike : Md.Like m { m.set k { m.at k with base := l } with wr := m.wr + 1 } := ⟨by show (m.dv.set k _).length = _; simp, fun i => (Md.Like.set (m := m) (k := k) (d' := { m.at k with base := l }) ⟨rfl, rfl, rfl, rfl, rfl, rfl, rfl, rfl⟩).at_ i⟩
  have hat : ∀ i, ({ m.set k { m.at k with base := l } with wr := m.wr + 1 } : Md).at i = if i = k then { m.at k with base := l } else m.at i := fun i => Md.at_set (m := m) hk
  refine ⟨hlike.ok hO (fun i hi => ?_) (fun i hi w hw' => ?_), hB.wr1 hw⟩
  · rw [hat]
    obtain ⟨_, _, g3, _, _, _, g4⟩ := hO.bas i hi
    split
    · rename_i e; subst e; exact ⟨g3, by show l.length ≤ _; rw [hl]; exact g4⟩
    · exact ⟨g3, g4⟩
  · rw [hat] at hw'
    refine hO.org i hi w ?_
    split at hw'
    · rename_i e; subst e; exact hw'
    · exact hw'
end
end Md
theorem zvb {l : List api_Target} (h : chk l = 0) {a : Int} (ha : 0 ≤ a) (hs : a < tsum l) : ∃ (i : Nat) (o : Int), tfind l a = some (i, o) ∧ i < l.length ∧ 0 ≤ o ∧ o ≤ 1073741824 := by
  rcases zhv h ha with ⟨h1, _⟩ | ⟨r, h1, _, _, _, h5⟩
  · omega
  · have h6 := Md.tfind_ok (l := l) (a := a) (by rw [h5]; rfl) h
    exact h6
theorem zjv {W : World} {b : Nat} {c : RH} {m : Md} {rk : Nat → Nat} {r : Nat} {k : Int} {t : api_Task} (hrk : m.Rank rk) (hw : m.wr < 100000000) (ih : ∀ r2, r2 + 1 = r → ∀ (k : Int) (t : api_Task), m.okK rk r2 k → t.Kind ≠ 3 ∨ 0 ≤ k → CSpec Tryz.prog W 41 [ptr b 0, .int .i64 k, .agg #[.int .i64 t.Kind, .int .i64 t.At, .int .u64 (t.Value.toNat : Int)]] [blk b 72 (zbp c m), RefR c m] (fun _ : RH => .tuple #[.int .u64 ((m.carryI r2 k t).1.1.toNat : Int), .int .i64 (m.carryI r2 k t).1.2]) (fun c2 => zbp c2 (m.carryI r2 k t).2 = zbp c m) (fun c2 F => blk b 72 (zbp c m) :: RefR c2 (m.carryI r2 k t).2 :: F)) (hk : m.okK rk r k) (hkk : t.Kind ≠ 3 ∨ 0 ≤ k) :
    CSpec Tryz.prog W 41 [ptr b 0, .int .i64 k, .agg #[.int .i64 t.Kind, .int .i64 t.At, .int .u64 (t.Value.toNat : Int)]] [blk b 72 (zbp c m), RefR c m] ((fun _ : RH => .tuple #[.int .u64 ((m.carryI r k t).1.1.toNat : Int), .int .i64 (m.carryI r k t).1.2])) ((fun c2 => zbp c2 (m.carryI r k t).2 = zbp c m)) (fun c2 F => blk b 72 (zbp c m) :: RefR c2 (m.carryI r k t).2 :: F) := by
 refine CSpec.of_body Tryz.func41 rfl Tryz.ntmps41 rfl fun F => ?_
 show CJ _ _ _ _ _ _ (_ :: _ :: F)
 refine zbl (zcs foc1) fun hW => ?_
 have hO := hW.ok
 have hln := hW.big.len
 have hll := hW.len
 have hat := hW.at
 have hkl := Md.okK_lt hk
 refine sR <| oO <| O_box rfl rfl rfl fun b1 => oA rfl rfl <| oA rfl rfl <| nT <| zaf <| sR <| oP (zaa rfl ⟨_, _, _, Tryz.runUnderlying33, rfl, rfl, Tryz.sizeOf3, rfl⟩) rfl <| oV (zah rfl foc0 rfl Tryz.isAgg3) rfl <| oP (P_eql rfl rfl) rfl <| nT ?_
 first | (refine zao rfl (fun hg1 => ?_) (fun hg1 => ?_)) | (refine zap rfl (fun hg1 => ?_) (fun hg1 => ?_)) | (refine zar rfl (fun hg1 => ?_) (fun hg1 => ?_))
 ·
  refine sR <| oA rfl rfl <| oA rfl rfl <| nT <| zai <| zad <| zam (res2 Tryz.results41 rfl rfl) ?_
  have e1 : (m.carryI r k t) = ((0, 0), m) := by
    have hk0 : 0 ≤ k := hkk.resolve_left (fun h => h (by assumption))
    obtain ⟨q, rfl⟩ : ∃ q : Nat, k = (q : Int) := ⟨k.toNat, by omega⟩
    rw [Md.carryI_nat, Md.carry_fl (by assumption)]
  rw [e1]
  refine CSpec.close c ?_ ?_ (t1_ (t1_ (eD eR)))
  · rfl
  · rfl
 ·
  refine kT <| zaf <| zaf <| za0 0 (by kernel_rfl) rfl <| aN 0 1 rfl rfl (zag rfl) rfl <| aN 1 3 rfl rfl (P_lss rfl rfl) rfl <| aN 2 7 rfl rfl (zag rfl) rfl ?_
  first | (refine zc0 18 rfl (fun hg2B hg2 => ?_) (fun hg2B hg2 => ?_)) | (refine zc1 18 rfl (fun hg2B hg2 => ?_) (fun hg2B hg2 => ?_)) | (refine zdf 18 rfl (fun hg2B => ?_) (fun hg2B => ?_))
  ·
   refine aS 3 15 rfl rfl (GY_no rfl rfl rfl hg2B) rfl <| aS 4 31 rfl rfl (GY_no rfl rfl rfl hg2B) rfl <| aS 5 63 rfl rfl (GY_no rfl rfl rfl hg2B) rfl <| aN 6 127 rfl rfl (zas rfl hg2B rfl) rfl <| aN 7 255 rfl rfl (zag rfl) rfl <| aS 8 511 rfl rfl (GY_no rfl rfl rfl rfl) rfl <| aS 9 1023 rfl rfl (GY_no rfl rfl rfl rfl) rfl <| aS 10 2047 rfl rfl (GY_no rfl rfl rfl rfl) rfl <| aS 11 4095 rfl rfl (GY_no rfl rfl rfl rfl) rfl <| aS 12 8191 rfl rfl (GY_no rfl rfl rfl rfl) rfl <| aS 13 16383 rfl rfl (GY_no rfl rfl rfl rfl) rfl <| aN 14 32767 rfl rfl (zas rfl rfl rfl) rfl <| aD <| za4 rfl rfl <| sR <| oA rfl rfl <| oA rfl rfl <| nT <| zai <| zad <| zam (res2 Tryz.results41 rfl rfl) ?_
   have e1 : (m.carryI r k t) = ((0, 1), m) := by
     by_cases h0 : k < 0
     · exact Md.carryI_neg h0
     · obtain ⟨q, rfl⟩ : ∃ q : Nat, k = (q : Int) := ⟨k.toNat, by omega⟩
       obtain ⟨r2, rfl⟩ : ∃ r2, r = r2 + 1 := ⟨r - 1, by have := (hk q rfl).2.2; omega⟩
       have hs9 := Md.sizeI_nat (m := m) (k := q)
       rw [Md.carryI_nat, Md.carry_range (by assumption) (by omega)]
   rw [e1]
   refine CSpec.close c ?_ ?_ (t1_ (t1_ (eD eR)))
   · rfl
   · rfl
  ·
   refine aP 3 15 rfl rfl (zab rfl rfl rfl hg2B) (zaa rfl ⟨_, _, _, Tryz.runUnderlying33, rfl, rfl, Tryz.sizeOf3, rfl⟩) rfl <| aV 4 31 rfl rfl (zab rfl rfl rfl hg2B) (t0_ (t0_ (t0_ eR))) (zah rfl foc0 rfl Tryz.isAgg3) rfl <| aP 5 63 rfl rfl (zab rfl rfl rfl hg2B) (P_lss rfl rfl) rfl <| aN 6 127 rfl rfl (zay rfl hg2B rfl) rfl <| aN 7 255 rfl rfl (zag rfl) rfl ?_
   first | (refine zc0 23 rfl (fun hg3B hg3 => ?_) (fun hg3B hg3 => ?_)) | (refine zc1 23 rfl (fun hg3B hg3 => ?_) (fun hg3B hg3 => ?_)) | (refine zdf 23 rfl (fun hg3B => ?_) (fun hg3B => ?_))
   ·
    refine aS 8 511 rfl rfl (GY_no rfl rfl rfl hg3B) rfl <| aS 9 1023 rfl rfl (GY_no rfl rfl rfl hg3B) rfl <| aS 10 2047 rfl rfl (GY_no rfl rfl rfl hg3B) rfl <| aS 11 4095 rfl rfl (GY_no rfl rfl rfl hg3B) rfl <| aS 12 8191 rfl rfl (GY_no rfl rfl rfl hg3B) rfl <| aS 13 16383 rfl rfl (GY_no rfl rfl rfl hg3B) rfl <| aN 14 32767 rfl rfl (zas rfl hg3B rfl) rfl <| aD <| za4 rfl rfl <| sR <| oA rfl rfl <| oA rfl rfl <| nT <| zai <| zad <| zam (res2 Tryz.results41 rfl rfl) ?_
    have e1 : (m.carryI r k t) = ((0, 1), m) := by
      by_cases h0 : k < 0
      · exact Md.carryI_neg h0
      · obtain ⟨q, rfl⟩ : ∃ q : Nat, k = (q : Int) := ⟨k.toNat, by omega⟩
        obtain ⟨r2, rfl⟩ : ∃ r2, r = r2 + 1 := ⟨r - 1, by have := (hk q rfl).2.2; omega⟩
        have hs9 := Md.sizeI_nat (m := m) (k := q)
        rw [Md.carryI_nat, Md.carry_range (by assumption) (by omega)]
    rw [e1]
    refine CSpec.close c ?_ ?_ (t1_ (t1_ (eD eR)))
    · rfl
    · rfl
   ·
    refine aP 8 511 rfl rfl (zab rfl rfl rfl hg3B) (zaa rfl ⟨_, _, _, Tryz.runUnderlying33, rfl, rfl, Tryz.sizeOf3, rfl⟩) rfl <| aV 9 1023 rfl rfl (zab rfl rfl rfl hg3B) (t0_ (t0_ (t0_ eR))) (zah rfl foc0 rfl Tryz.isAgg3) rfl <| aP 10 2047 rfl rfl (zab rfl rfl rfl hg3B) (zag rfl) rfl <| aP 11 4095 rfl rfl (zab rfl rfl rfl hg3B) (zag rfl) rfl <| AJ_op 12 8191 rfl (by kernel_rfl) rfl (zab rfl rfl rfl hg3B) <| zaq (zn5 (by omega)) rfl Tryz.call88 (Dels.cons del1 (Dels.cons del1 Dels.nil)) rfl fun _ hc2 => ⟨fun _ => (t2_ (t0_ (t0_ eR))), ?_⟩
    refine aP 13 16383 rfl rfl (zab rfl rfl rfl hg3B) (P_geq rfl rfl) rfl <| aN 14 32767 rfl rfl (zay rfl hg3B rfl) rfl <| aD ?_
    first | (refine zao rfl (fun hg4 => ?_) (fun hg4 => ?_)) | (refine zap rfl (fun hg4 => ?_) (fun hg4 => ?_)) | (refine zar rfl (fun hg4 => ?_) (fun hg4 => ?_))
    ·
     refine sR <| oA rfl rfl <| oA rfl rfl <| nT <| zai <| zad <| zam (res2 Tryz.results41 rfl rfl) ?_
     have e1 : (m.carryI r k t) = ((0, 1), m) := by
       by_cases h0 : k < 0
       · exact Md.carryI_neg h0
       · obtain ⟨q, rfl⟩ : ∃ q : Nat, k = (q : Int) := ⟨k.toNat, by omega⟩
         obtain ⟨r2, rfl⟩ : ∃ r2, r = r2 + 1 := ⟨r - 1, by have := (hk q rfl).2.2; omega⟩
         have hs9 := Md.sizeI_nat (m := m) (k := q)
         rw [Md.carryI_nat, Md.carry_range (by assumption) (by omega)]
     rw [e1]
     refine CSpec.close c ?_ ?_ (t0_ (t0_ (eD eR)))
     · rfl
     · rfl
    ·
     refine kT <| zaf ?_
     obtain ⟨q, rfl⟩ : ∃ q : Nat, k = (q : Int) := ⟨k.toNat, by omega⟩
     obtain ⟨hq, hqg, hqr⟩ := hk q rfl
     have hqa := hat q
     obtain ⟨r2, rfl⟩ : ∃ r2, r = r2 + 1 := ⟨r - 1, by omega⟩
     have hch := zb0 (hO.chk q).1
     have hk3 : t.Kind ≠ 3 := by assumption
     rw [Md.sizeI_nat] at *
     refine zak <| oM rfl rfl <| oP (zae rfl) rfl <| oP (zaa rfl ⟨_, _, _, Tryz.runUnderlying72, rfl, rfl, Tryz.sizeOf70, rfl⟩) rfl <| oV (zah rfl foc0 rfl Tryz.isAgg70) rfl <| oM rfl rfl ?_
     first | (refine RJ_op rfl (OJ_V (zan rfl rfl rfl (by omega) foc1 rdDv Tryz.runUnderlying70 Tryz.sizeOf91) rfl ?_)) | (refine RJ_op rfl (OJ_V (zan rfl rfl (Int.toNat_of_nonneg (by omega)).symm (by omega) foc1 rdDv Tryz.runUnderlying70 Tryz.sizeOf91) rfl ?_))
     refine oA rfl rfl <| nT <| zaf <| sR <| oM rfl rfl <| oP (zf2 rfl) rfl <| oP (za2 rfl ⟨_, _, _, Tryz.runUnderlying91, rfl, rfl, Tryz.sizeOf4, rfl⟩) rfl <| oV (za3 rfl rfl (by omega) foc1 rdDv rfl rfl Tryz.isAgg4) rfl <| nT ?_
     first | (refine zao rfl (fun hg5 => ?_) (fun hg5 => ?_)) | (refine zap rfl (fun hg5 => ?_) (fun hg5 => ?_)) | (refine zar rfl (fun hg5 => ?_) (fun hg5 => ?_))
     ·
      refine zaf <| sR <| oP (zaa rfl ⟨_, _, _, Tryz.runUnderlying33, rfl, rfl, Tryz.sizeOf3, rfl⟩) rfl <| oV (zah rfl foc2 rfl Tryz.isAgg3) rfl <| oP (P_eql rfl rfl) rfl <| nT ?_
      first | (refine zao rfl (fun hg6 => ?_) (fun hg6 => ?_)) | (refine zap rfl (fun hg6 => ?_) (fun hg6 => ?_)) | (refine zar rfl (fun hg6 => ?_) (fun hg6 => ?_))
      ·
       refine zaf ?_
       have hqB : (m.at q).isB = true := by rw [← hqa]; assumption
       have hsz := Md.size_base hqB
       refine zbf (Ent.trans (t1_ eR) (zdo hq)) <| za0 512 (by kernel_rfl) rfl <| aN 0 1 rfl rfl (zag rfl) rfl <| aN 1 3 rfl rfl (zf2 rfl) rfl <| aN 2 7 rfl rfl (za2 rfl ⟨_, _, _, Tryz.runUnderlying91, rfl, rfl, Tryz.sizeOf67, rfl⟩) rfl <| aV 3 15 rfl rfl (zac rfl) (t0_ (t0_ (t0_ (t0_ (t0_ (t0_ (t0_ (t0_ (t0_ eR))))))))) (za3 rfl rfl (by omega) foc4 (Reads.sl _ _ _) rfl rfl Tryz.isAgg67) rfl <| aN 4 31 rfl rfl (zaa rfl ⟨_, _, _, Tryz.runUnderlying33, rfl, rfl, Tryz.sizeOf3, rfl⟩) rfl <| aV 5 63 rfl rfl (zac rfl) (t0_ (t0_ (t0_ (t0_ (t0_ (t0_ (t0_ (t0_ (t0_ eR))))))))) (zah rfl foc8 rfl Tryz.isAgg3) rfl <| aN 6 127 rfl rfl (zaa rfl ⟨_, _, _, Tryz.runUnderlying33, rfl, rfl, Tryz.sizeOf31, rfl⟩) rfl <| aV 7 255 rfl rfl (zac rfl) (t0_ (t0_ (t0_ (t0_ (t0_ (t0_ (t0_ (t0_ (t0_ eR))))))))) (zah rfl foc8 rfl Tryz.isAgg31) rfl <| aV 8 511 rfl rfl (zac rfl) (t0_ (t0_ (t0_ (t0_ (t0_ (t0_ (t0_ (t0_ (t0_ eR))))))))) (zan rfl rfl (Int.toNat_of_nonneg (by omega)).symm (by omega) foc0 (Reads.sl _ _ _) Tryz.runUnderlying67 Tryz.sizeOf31) rfl ?_
       refine AJ_op 9 1023 rfl (by kernel_rfl) rfl (zac rfl) <| zcg (x' := t.Value) rfl rfl rfl (by omega) foc0 rfl rfl rfl Tryz.sizeOf31 <| ⟨fun h => absurd h (by decide), ?_⟩
       refine aD <| sR <| oA rfl rfl <| oA rfl rfl <| nT <| zai <| zad <| zad <| zam (res2 Tryz.results41 rfl rfl) ?_
       have e1 : (m.carryI (r2 + 1) (q : Int) t) = ((0, 0), { m.set q { m.at q with base := (m.at q).base.set t.At.toNat t.Value } with wr := m.wr + 1 }) := by rw [Md.carryI_nat, Md.carry_baseW hqB (by assumption), if_pos (by omega)]
       rw [e1]
       have hok2 := Md.ok_base (l := (m.at q).base.set t.At.toNat t.Value) hO hW.big hq hqB hw (by simp)
       refine CSpec.close (c.put q (c.hd q) { m.at q with base := (m.at q).base.set t.At.toNat t.Value }) ?_ ?_ (Ent.trans (Ent.trans (Ent.takeC del0 (show sl tyU _ _ = sl tyU (c.hd q).ba.v ((m.at q).base.set t.At.toNat t.Value) from rfl) (t0_ (t0_ (t0_ (Ent.takeC del0 (zws (x := (c.hd q, { m.at q with base := (m.at q).base.set t.At.toNat t.Value })) (d := tyDv.dflt) (by omega) (by rw [hd_at hW])) (t0_ (t0_ eR))))))) (zer (h := c.hd q) (d := { m.at q with base := (m.at q).base.set t.At.toNat t.Value }) (m' := { m.set q { m.at q with base := (m.at q).base.set t.At.toNat t.Value } with wr := m.wr + 1 }) hW hq rfl hok2.1 hok2.2 rfl)) (t1_ (t0_ (eD eR))))
       · rfl
       · rfl
      ·
       refine kT <| zaf ?_
       have hqB : (m.at q).isB = true := by rw [← hqa]; assumption
       have hsz := Md.size_base hqB
       refine za0 0 (by kernel_rfl) rfl <| aN 0 1 rfl rfl (zag rfl) rfl <| aN 1 3 rfl rfl (zf2 rfl) rfl <| aN 2 7 rfl rfl (za2 rfl ⟨_, _, _, Tryz.runUnderlying91, rfl, rfl, Tryz.sizeOf67, rfl⟩) rfl <| aV 3 15 rfl rfl (zac rfl) (t0_ (t0_ (t0_ eR))) (za3 rfl rfl (by omega) foc1 rdDv rfl rfl Tryz.isAgg67) rfl <| aN 4 31 rfl rfl (zaa rfl ⟨_, _, _, Tryz.runUnderlying33, rfl, rfl, Tryz.sizeOf3, rfl⟩) rfl <| aV 5 63 rfl rfl (zac rfl) (t0_ (t0_ (t0_ eR))) (zah rfl foc2 rfl Tryz.isAgg3) rfl <| aV 6 127 rfl rfl (zac rfl) (t0_ (t0_ (t0_ eR))) (zan rfl rfl (Int.toNat_of_nonneg (by omega)).symm (by omega) foc1 (rrBa (by omega)) Tryz.runUnderlying67 Tryz.sizeOf31) rfl <| aV 7 255 rfl rfl (zac rfl) (t0_ (t0_ (t0_ eR))) (za3 rfl rfl (by omega) foc1 (rrBa (by omega)) rfl rfl Tryz.isAgg31) rfl <| aN 8 511 rfl rfl (zbc rfl) rfl <| aN 9 1023 rfl rfl (zbc rfl) rfl <| aD <| zai <| zad <| zam (res2 Tryz.results41 rfl rfl) ?_
       have e1 : (m.carryI (r2 + 1) (q : Int) t) = (((m.at q).base.getD t.At.toNat 0, 0), m) := by rw [Md.carryI_nat, Md.carry_baseR hqB hk3 (by assumption), if_pos (by omega), if_pos (by omega)]
       rw [e1]
       refine CSpec.close c ?_ ?_ (t0_ (t0_ (eD eR)))
       · rfl
       · rfl
     ·
      refine kT <| zaf ?_
      have hqB : (m.at q).isB = false := by rw [← hqa]; simp_all
      have hqD : m.isD q := ⟨hq, hqg, hqB⟩
      have hsz := Md.size_tab hqB (hO.chk q).1
      obtain ⟨i, o, hf, hi, ho1, ho2⟩ := zvb (hO.chk q).1 (a := t.At) (by omega) (by omega)
      have hcd := Md.carry_dev (r := r2) (hO.chk q).1 hqB hk3
      rw [hf] at hcd
      refine za0 64 (by kernel_rfl) rfl <| aN 0 1 rfl rfl (zag rfl) rfl <| aN 1 3 rfl rfl (zf2 rfl) rfl <| aN 2 7 rfl rfl (za2 rfl ⟨_, _, _, Tryz.runUnderlying91, rfl, rfl, Tryz.sizeOf30, rfl⟩) rfl <| aV 3 15 rfl rfl (zac rfl) (t0_ (t0_ (t0_ eR))) (za3 rfl rfl (by omega) foc1 rdDv rfl rfl Tryz.isAgg30) rfl <| aN 4 31 rfl rfl (zaa rfl ⟨_, _, _, Tryz.runUnderlying33, rfl, rfl, Tryz.sizeOf3, rfl⟩) rfl <| aV 5 63 rfl rfl (zac rfl) (t0_ (t0_ (t0_ eR))) (zah rfl foc2 rfl Tryz.isAgg3) rfl <| AJ_op 6 127 rfl (by kernel_rfl) rfl (zac rfl) <| zaq (zfy (rrLv (by omega)) zor) rfl Tryz.call87 (Dels.cons del1 Dels.nil) rfl fun _ hc3 => ⟨fun h => absurd h (by decide), ?_⟩
      refine aN 7 255 rfl rfl (zag rfl) rfl <| aN 8 511 rfl rfl (zaw rfl rfl) rfl <| aN 9 1023 rfl rfl (zaw rfl rfl) rfl <| aN 10 2047 rfl rfl (zaw rfl rfl) rfl <| aN 11 4095 rfl rfl (zbc rfl) rfl <| aN 12 8191 rfl rfl (zbc rfl) rfl <| aN 13 16383 rfl rfl (zbc rfl) rfl <| aD <| zaf ?_
      rw [hf]
      refine zak <| oM rfl rfl <| oP (zf2 rfl) rfl <| oP (za2 rfl ⟨_, _, _, Tryz.runUnderlying91, rfl, rfl, Tryz.sizeOf30, rfl⟩) rfl <| oV (za3 rfl rfl (by omega) foc0 rdDv rfl rfl Tryz.isAgg30) rfl <| oM rfl rfl <| oV (zan rfl rfl rfl (by exact hi) foc0 (rrLv (by omega)) Tryz.runUnderlying30 Tryz.sizeOf37) rfl <| oV (zcd rfl rfl (by omega) foc0 (rrLv (by omega)) rfl rfl Tryz.isAgg37 Tryz.sizeOf37) rfl <| oO <| zb1 Tryz.zeroValue37 rfl rfl fun b4 => oO <| zbn rfl rfl foc0 Tryz.sizeOf37 rfl rfl rfl <| nT <| zaf <| zat <| sR <| oP (zaa rfl ⟨_, _, _, Tryz.runUnderlying37, rfl, rfl, Tryz.sizeOf4, rfl⟩) rfl <| oV (zah rfl foc0 rfl Tryz.isAgg4) rfl <| oA rfl rfl <| nT ?_
      first | (refine zao rfl (fun hg7 => ?_) (fun hg7 => ?_)) | (refine zap rfl (fun hg7 => ?_) (fun hg7 => ?_)) | (refine zar rfl (fun hg7 => ?_) (fun hg7 => ?_))
      ·
       refine sR <| oA rfl rfl <| oA rfl rfl <| nT <| zai <| zaj <| zad <| zam (res2 Tryz.results41 rfl rfl) ?_
       have e1 : (m.carryI (r2 + 1) (q : Int) t) = ((0, 7), m) := by
         rw [Md.carryI_nat, hcd]
         show (if _ then _ else _) = _
         exact if_pos (by assumption)
       rw [e1]
       refine CSpec.close c ?_ ?_ (t2_ (t1_ (eD (eD eR))))
       · rfl
       · rfl
      ·
       refine sR <| oP (zaa rfl ⟨_, _, _, Tryz.runUnderlying37, rfl, rfl, Tryz.sizeOf9, rfl⟩) rfl <| oV (zah rfl foc0 rfl Tryz.isAgg9) rfl <| oP (zcx rfl rfl Tryz.underlying9) rfl <| oM rfl rfl ?_
       first | (refine zba 86 rfl (fun hg8B hg8 => ?_) (fun hg8B hg8 => ?_)) | (refine zbb 86 rfl (fun hg8B hg8 => ?_) (fun hg8B hg8 => ?_)) | (refine zbi 86 rfl (fun hg8B => ?_) (fun hg8B => ?_))
       ·
        refine gP (zab rfl rfl rfl hg8B) (zaa rfl ⟨_, _, _, Tryz.runUnderlying33, rfl, rfl, Tryz.sizeOf3, rfl⟩) rfl <| gV (zab rfl rfl rfl hg8B) (zah rfl foc3 rfl Tryz.isAgg3) rfl <| gP (zab rfl rfl rfl hg8B) (P_eql rfl rfl) rfl <| oP (zas rfl hg8B rfl) rfl <| oA rfl rfl <| nT ?_
        first | (refine zao rfl (fun hg9 => ?_) (fun hg9 => ?_)) | (refine zap rfl (fun hg9 => ?_) (fun hg9 => ?_)) | (refine zar rfl (fun hg9 => ?_) (fun hg9 => ?_))
        ·
         refine sR <| oA rfl rfl <| oA rfl rfl <| nT <| zai <| zaj <| zad <| zam (res2 Tryz.results41 rfl rfl) ?_
         have e1 : (m.carryI (r2 + 1) (q : Int) t) = ((0, 22), m) := by
           rw [Md.carryI_nat, hcd]
           show (if _ then _ else _) = _
           rw [if_neg (by simp_all)]
           refine (if_pos (by simp_all)).trans ?_
           rw [if_pos (by simp_all)]
         rw [e1]
         refine CSpec.close c ?_ ?_ (t2_ (t1_ (eD (eD eR))))
         · rfl
         · rfl
        ·
         refine sR <| oP (zaa rfl ⟨_, _, _, Tryz.runUnderlying37, rfl, rfl, Tryz.sizeOf9, rfl⟩) rfl <| oV (zah rfl foc0 rfl Tryz.isAgg9) rfl <| oP (zcx rfl rfl Tryz.underlying9) rfl <| oA rfl rfl <| nT ?_
         first | (refine zao rfl (fun hg10 => ?_) (fun hg10 => ?_)) | (refine zap rfl (fun hg10 => ?_) (fun hg10 => ?_)) | (refine zar rfl (fun hg10 => ?_) (fun hg10 => ?_))
         ·
          refine sR <| oA rfl rfl <| oA rfl rfl <| nT <| zai <| zaj <| zad <| zam (res2 Tryz.results41 rfl rfl) ?_
          have e1 : (m.carryI (r2 + 1) (q : Int) t) = ((0, 0), m) := by
            rw [Md.carryI_nat, hcd]
            show (if _ then _ else _) = _
            rw [if_neg (by simp_all)]
            refine (if_pos (by simp_all)).trans ?_
            rw [if_neg (by simp_all)]
          rw [e1]
          refine CSpec.close c ?_ ?_ (t2_ (t1_ (eD (eD eR))))
          · rfl
          · rfl
         ·
          refine zbk <| zal <| zav <| zaf ?_
          have hfb := zdi (hO.chk q).1 (zb9 tgt0 hi)
          refine zak <| oP (zaa rfl ⟨_, _, _, Tryz.runUnderlying37, rfl, rfl, Tryz.sizeOf3, rfl⟩) rfl <| oV (zah rfl foc0 rfl Tryz.isAgg3) rfl <| oM rfl rfl <| oP (P_add rfl rfl (by show -9223372036854775808 ≤ ((m.at q).live.getD i tgt0).Offset + o ∧ ((m.at q).live.getD i tgt0).Offset + o ≤ 9223372036854775807; omega)) rfl <| oP (zaa rfl ⟨_, _, _, Tryz.runUnderlying33, rfl, rfl, Tryz.sizeOf3, rfl⟩) rfl <| oO <| zbj rfl rfl foc3 rfl rfl Tryz.sizeOf3 <| nT <| zaf <| za0 64 (by kernel_rfl) rfl <| aN 0 1 rfl rfl (zag rfl) rfl <| aN 1 3 rfl rfl (zag rfl) rfl <| aN 2 7 rfl rfl (zaa rfl ⟨_, _, _, Tryz.runUnderlying37, rfl, rfl, Tryz.sizeOf9, rfl⟩) rfl <| aV 3 15 rfl rfl (zac rfl) (t0_ (t0_ (t0_ (t0_ eR)))) (zah rfl foc0 rfl Tryz.isAgg9) rfl <| aV 5 47 rfl rfl (zac rfl) (t0_ (t0_ (t0_ (t0_ eR)))) (zbh rfl foc3 Tryz.isAgg33 Tryz.sizeOf33 rfl rfl) rfl <| AJ_op 4 63 rfl (by kernel_rfl) rfl (zac rfl) <| zaq (ze3) rfl Tryz.call39 (Dels.cons del2 (Dels.cons del1 Dels.nil)) rfl fun _ hc5 => ⟨fun _ => (t2_ (t1_ (t0_ (t0_ eR)))), ?_⟩
          refine AJ_op 6 127 rfl (by kernel_rfl) rfl (zac rfl) <| zaq ((ih r2 rfl _ { t with At := ((m.at q).live.getD i tgt0).Offset + o } (Md.okK_find (zfa hrk hqD hqr ⟨_, List.mem_append.2 (.inl (zb9 tgt0 hi)), rfl⟩)) (.inl hk3))) rfl Tryz.call41 (Dels.cons del0 (Dels.cons del0 Dels.nil)) rfl fun c9 h9 => ⟨fun h => absurd h (by decide), ?_⟩
          refine aN 7 255 rfl rfl (zaw rfl rfl) rfl <| aN 8 511 rfl rfl (zaw rfl rfl) rfl <| aN 9 1023 rfl rfl (zbc rfl) rfl <| aN 10 2047 rfl rfl (zbc rfl) rfl <| aD <| zai <| zam (res2 Tryz.results41 rfl rfl) ?_
          have e1 : (m.carryI (r2 + 1) (q : Int) t) = m.carryI r2 (m.findI ((m.at q).live.getD i tgt0).On) { t with At := ((m.at q).live.getD i tgt0).Offset + o } := by
            rw [Md.carryI_nat, Md.carryI_find, hcd]
            show (if _ then _ else _) = _
            rw [if_neg (by simp_all)]
            exact if_neg (by simp_all)
          rw [e1]
          refine CSpec.close c9 ?_ ?_ (t0_ (t0_ (eD (eD eR))))
          · rfl
          · exact h9
       ·
        refine RJ_gn (GY_no rfl rfl rfl hg8B) rfl rfl <| RJ_gn (GY_no rfl rfl rfl hg8B) rfl rfl <| RJ_gn (GY_no rfl rfl rfl hg8B) rfl rfl <| oP (zay rfl hg8B rfl) rfl <| oA rfl rfl <| nT <| za5 rfl rfl <| sR <| oP (zaa rfl ⟨_, _, _, Tryz.runUnderlying37, rfl, rfl, Tryz.sizeOf9, rfl⟩) rfl <| oV (zah rfl foc0 rfl Tryz.isAgg9) rfl <| oP (zcx rfl rfl Tryz.underlying9) rfl <| oA rfl rfl <| nT ?_
        first | (refine zao rfl (fun hg11 => ?_) (fun hg11 => ?_)) | (refine zap rfl (fun hg11 => ?_) (fun hg11 => ?_)) | (refine zar rfl (fun hg11 => ?_) (fun hg11 => ?_))
        ·
         refine sR <| oA rfl rfl <| oA rfl rfl <| nT <| zai <| zaj <| zad <| zam (res2 Tryz.results41 rfl rfl) ?_
         have e1 : (m.carryI (r2 + 1) (q : Int) t) = ((0, 0), m) := by
           rw [Md.carryI_nat, hcd]
           show (if _ then _ else _) = _
           rw [if_neg (by simp_all)]
           refine (if_pos (by simp_all)).trans ?_
           rw [if_neg (by simp_all)]
         rw [e1]
         refine CSpec.close c ?_ ?_ (t2_ (t1_ (eD (eD eR))))
         · rfl
         · rfl
        ·
         refine zbk <| zal <| zav <| zaf ?_
         have hfb := zdi (hO.chk q).1 (zb9 tgt0 hi)
         refine zak <| oP (zaa rfl ⟨_, _, _, Tryz.runUnderlying37, rfl, rfl, Tryz.sizeOf3, rfl⟩) rfl <| oV (zah rfl foc0 rfl Tryz.isAgg3) rfl <| oM rfl rfl <| oP (P_add rfl rfl (by show -9223372036854775808 ≤ ((m.at q).live.getD i tgt0).Offset + o ∧ ((m.at q).live.getD i tgt0).Offset + o ≤ 9223372036854775807; omega)) rfl <| oP (zaa rfl ⟨_, _, _, Tryz.runUnderlying33, rfl, rfl, Tryz.sizeOf3, rfl⟩) rfl <| oO <| zbj rfl rfl foc3 rfl rfl Tryz.sizeOf3 <| nT <| zaf <| za0 64 (by kernel_rfl) rfl <| aN 0 1 rfl rfl (zag rfl) rfl <| aN 1 3 rfl rfl (zag rfl) rfl <| aN 2 7 rfl rfl (zaa rfl ⟨_, _, _, Tryz.runUnderlying37, rfl, rfl, Tryz.sizeOf9, rfl⟩) rfl <| aV 3 15 rfl rfl (zac rfl) (t0_ (t0_ (t0_ (t0_ eR)))) (zah rfl foc0 rfl Tryz.isAgg9) rfl <| aV 5 47 rfl rfl (zac rfl) (t0_ (t0_ (t0_ (t0_ eR)))) (zbh rfl foc3 Tryz.isAgg33 Tryz.sizeOf33 rfl rfl) rfl <| AJ_op 4 63 rfl (by kernel_rfl) rfl (zac rfl) <| zaq (ze3) rfl Tryz.call39 (Dels.cons del2 (Dels.cons del1 Dels.nil)) rfl fun _ hc7 => ⟨fun _ => (t2_ (t1_ (t0_ (t0_ eR)))), ?_⟩
         refine AJ_op 6 127 rfl (by kernel_rfl) rfl (zac rfl) <| zaq ((ih r2 rfl _ { t with At := ((m.at q).live.getD i tgt0).Offset + o } (Md.okK_find (zfa hrk hqD hqr ⟨_, List.mem_append.2 (.inl (zb9 tgt0 hi)), rfl⟩)) (.inl hk3))) rfl Tryz.call41 (Dels.cons del0 (Dels.cons del0 Dels.nil)) rfl fun c9 h9 => ⟨fun h => absurd h (by decide), ?_⟩
         refine aN 7 255 rfl rfl (zaw rfl rfl) rfl <| aN 8 511 rfl rfl (zaw rfl rfl) rfl <| aN 9 1023 rfl rfl (zbc rfl) rfl <| aN 10 2047 rfl rfl (zbc rfl) rfl <| aD <| zai <| zam (res2 Tryz.results41 rfl rfl) ?_
         have e1 : (m.carryI (r2 + 1) (q : Int) t) = m.carryI r2 (m.findI ((m.at q).live.getD i tgt0).On) { t with At := ((m.at q).live.getD i tgt0).Offset + o } := by
           rw [Md.carryI_nat, Md.carryI_find, hcd]
           show (if _ then _ else _) = _
           rw [if_neg (by simp_all)]
           exact if_neg (by simp_all)
         rw [e1]
         refine CSpec.close c9 ?_ ?_ (t0_ (t0_ (eD (eD eR))))
         · rfl
         · exact h9
end Go.Proofs
set_option linter.unusedSimpArgs false
set_option maxRecDepth 20000
namespace Go.Proofs
open Go.VG
theorem zpz {W : World} {b : Nat} {c : RH} {m : Md} {rk : Nat → Nat} (hrk : m.Rank rk) (hw : m.wr < 100000000) : ∀ (r : Nat) (k : Int) (t : api_Task), m.okK rk r k → t.Kind ≠ 3 ∨ 0 ≤ k → CSpec Tryz.prog W 41 [ptr b 0, .int .i64 k, .agg #[.int .i64 t.Kind, .int .i64 t.At, .int .u64 (t.Value.toNat : Int)]] [blk b 72 (zbp c m), RefR c m] (fun _ : RH => .tuple #[.int .u64 ((m.carryI r k t).1.1.toNat : Int), .int .i64 (m.carryI r k t).1.2]) (fun c2 => zbp c2 (m.carryI r k t).2 = zbp c m) (fun c2 F => blk b 72 (zbp c m) :: RefR c2 (m.carryI r k t).2 :: F)
  | 0, _, _, hn, hk => zjv hrk hw (fun r2 h => by omega) hn hk
  | r + 1, _, _, hn, hk => zjv hrk hw (fun r2 h => by obtain rfl : r2 = r := (by omega); exact zpz hrk hw r2) hn hk
theorem zg9 {W : World} {b : Nat} {c : RH} {m : Md} {k : Nat} {t : api_Task} (hO : MdOk m) (hw : m.wr < 100000000) (hk : k < m.dv.length ∧ (m.at k).gone = false) : CSpec Tryz.prog W 41 [ptr b 0, .int .i64 (k : Int), .agg #[.int .i64 t.Kind, .int .i64 t.At, .int .u64 (t.Value.toNat : Int)]] [blk b 72 (zbp c m), RefR c m] (fun _ : RH => .tuple #[.int .u64 ((m.carryk k t).1.1.toNat : Int), .int .i64 (m.carryk k t).1.2]) (fun c2 => zbp c2 (m.carryk k t).2 = zbp c m) (fun c2 F => blk b 72 (zbp c m) :: RefR c2 (m.carryk k t).2 :: F) := by
  obtain ⟨rk, hrk, hrb⟩ := Md.rank_bd hO.acy
  have h := zpz (W := W) (b := b) (c := c) (t := t) hrk hw (m.dv.length + 1) (k : Int) (fun q hq => by
    obtain rfl : k = q := by omega
    exact ⟨hk.1, hk.2, by have := hrb k; omega⟩) (.inr (by omega))
  rw [Md.carryI_nat] at h
  exact h
theorem zjw {W : World} {b k f dp : Nat} {c : RH} {m : Md} {n : ByteArray} (hfd : f + dp = m.dv.length + 1) (ih : ∀ f2, f2 + 1 = f → ∀ n : ByteArray, CSpec Tryz.prog W 76 [ptr b 0, .string n, .int .i64 (k : Int), .int .i64 (((dp + 1 : Nat) : Int) : Int)] [blk b 72 (zbp c m), RefR c m] (fun _ : Unit => .bool (m.reach k f2 n)) (fun _ => True) (fun _ F => blk b 72 (zbp c m) :: RefR c m :: F)) :
    CSpec Tryz.prog W 76 [ptr b 0, .string n, .int .i64 (k : Int), .int .i64 (dp : Int)] [blk b 72 (zbp c m), RefR c m] (fun _ : Unit => .bool (m.reach k f n)) (fun _ => True) (fun _ F => blk b 72 (zbp c m) :: RefR c m :: F) := by
 refine CSpec.of_body Tryz.func76 rfl Tryz.ntmps76 rfl fun F => ?_
 show CJ _ _ _ _ _ _ (_ :: _ :: F)
 refine zbl (zcs foc1) fun hW => ?_
 have hO := hW.ok
 have hln := hW.big.len
 have hll := hW.len
 have hat := hW.at
 refine sR <| oA rfl rfl <| nT <| sR <| oM rfl rfl <| oM rfl rfl <| oO <| zaq (ze3) rfl Tryz.call39 (Dels.cons del0 (Dels.cons del0 Dels.nil)) rfl fun _ hc1 => oA rfl rfl <| nT <| zaf <| zaf ?_
 have hfc := Md.findI_cases (m := m) (n := n)
 refine zak <| oM rfl rfl <| oP (P_lss rfl rfl) rfl <| oM rfl rfl ?_
 first | (refine zba 17 rfl (fun hg1B hg1 => ?_) (fun hg1B hg1 => ?_)) | (refine zbb 17 rfl (fun hg1B hg1 => ?_) (fun hg1B hg1 => ?_)) | (refine zbi 17 rfl (fun hg1B => ?_) (fun hg1B => ?_))
 ·
  refine RJ_gn (GY_no rfl rfl rfl hg1B) rfl rfl <| RJ_gn (GY_no rfl rfl rfl hg1B) rfl rfl <| RJ_gn (GY_no rfl rfl rfl hg1B) rfl rfl <| RJ_gn (GY_no rfl rfl rfl hg1B) rfl rfl <| RJ_gn (GY_no rfl rfl rfl hg1B) rfl rfl <| RJ_gn (GY_no rfl rfl rfl hg1B) rfl rfl <| RJ_gn (GY_no rfl rfl rfl hg1B) rfl rfl <| oP (zas rfl hg1B rfl) rfl <| nT <| za4 rfl rfl <| sR <| oA rfl rfl <| nT <| zai <| zad <| zam (res1 Tryz.results76 rfl) <| CSpec.close () ?_ ?_ (t0_ (t0_ eR))
  ·
   refine bv <| Eq.symm ?_
   obtain ⟨hfn, hfi⟩ | ⟨i, hfn, hfi, hil, hig, hin⟩ := hfc
   · exact Md.reach_none hfn
   · obtain rfl : f = 0 := by omega
     rfl
  · trivial
 ·
  refine gP (zab rfl rfl rfl hg1B) (zag rfl) rfl <| gP (zab rfl rfl rfl hg1B) (zag rfl) rfl <| gP (zab rfl rfl rfl hg1B) (zae rfl) rfl <| gP (zab rfl rfl rfl hg1B) (zaa rfl ⟨_, _, _, Tryz.runUnderlying72, rfl, rfl, Tryz.sizeOf70, rfl⟩) rfl <| gV (zab rfl rfl rfl hg1B) (zah rfl foc0 rfl Tryz.isAgg70) rfl <| gV (zab rfl rfl rfl hg1B) (V_len rfl foc1 rdDv Tryz.runUnderlying70) rfl <| gP (zab rfl rfl rfl hg1B) (P_gtr rfl rfl) rfl <| oP (zay rfl hg1B rfl) rfl <| nT ?_
  first | (refine zao rfl (fun hg2 => ?_) (fun hg2 => ?_)) | (refine zap rfl (fun hg2 => ?_) (fun hg2 => ?_)) | (refine zar rfl (fun hg2 => ?_) (fun hg2 => ?_))
  ·
   refine sR <| oA rfl rfl <| nT <| zai <| zad <| zam (res1 Tryz.results76 rfl) <| CSpec.close () ?_ ?_ (t0_ (t0_ eR))
   ·
    refine bv <| Eq.symm ?_
    obtain ⟨hfn, hfi⟩ | ⟨i, hfn, hfi, hil, hig, hin⟩ := hfc
    · exact Md.reach_none hfn
    · obtain rfl : f = 0 := by omega
      rfl
   · trivial
  ·
   refine kT <| zaf <| zaf ?_
   obtain ⟨hfn, hfi⟩ | ⟨i, hfn, hfi, hil, hig, hin⟩ := hfc
   · exfalso; omega
   rw [hfi]
   obtain ⟨f2, rfl⟩ : ∃ f2, f = f2 + 1 := ⟨f - 1, by omega⟩
   refine zak <| oM rfl rfl <| oM rfl rfl <| oP (P_eql rfl rfl) rfl <| nT ?_
   first | (refine zao rfl (fun hg3 => ?_) (fun hg3 => ?_)) | (refine zap rfl (fun hg3 => ?_) (fun hg3 => ?_)) | (refine zar rfl (fun hg3 => ?_) (fun hg3 => ?_))
   ·
    refine sR <| oA rfl rfl <| nT <| zai <| zad <| zam (res1 Tryz.results76 rfl) <| CSpec.close () ?_ ?_ (t0_ (t0_ eR))
    ·
     refine bv <| Eq.symm ?_
     rw [Md.reach_step hfn, decide_eq_true (show i = k by omega), Bool.true_or]
    · trivial
   ·
    refine kT <| zaf ?_
    have hlv := (zb0 (hO.chk i).1).1
    have hnw := (zb0 (hO.chk i).2).1
    have htl : (Md.tbl (m.at i)).length = (m.at i).live.length + (m.at i).new.length := List.length_append
    refine za0 131072 (by kernel_rfl) rfl <| aN 0 1 rfl rfl (zag rfl) rfl <| aN 1 3 rfl rfl (zae rfl) rfl <| aN 2 7 rfl rfl (zaa rfl ⟨_, _, _, Tryz.runUnderlying72, rfl, rfl, Tryz.sizeOf70, rfl⟩) rfl <| aV 3 15 rfl rfl (zac rfl) (t0_ (t0_ eR)) (zah rfl foc0 rfl Tryz.isAgg70) rfl <| aN 4 31 rfl rfl (zag rfl) rfl ?_
    first | (refine zbo 5 63 rfl (by kernel_rfl) rfl (by kernel_rfl) (by kernel_rfl) (zac rfl) (t0_ (t0_ eR)) (zan rfl rfl rfl (by omega) foc1 rdDv Tryz.runUnderlying70 Tryz.sizeOf91) rfl (fun _ _ _ _ h => h) ?_) | (refine zbo 5 63 rfl (by kernel_rfl) rfl (by kernel_rfl) (by kernel_rfl) (zac rfl) (t0_ (t0_ eR)) (zan rfl rfl (Int.toNat_of_nonneg (by omega)).symm (by omega) foc1 rdDv Tryz.runUnderlying70 Tryz.sizeOf91) rfl (fun _ _ _ _ h => h) ?_)
    refine aN 6 127 rfl rfl (za2 rfl ⟨_, _, _, Tryz.runUnderlying91, rfl, rfl, Tryz.sizeOf30, rfl⟩) rfl <| aV 7 255 rfl rfl (zac rfl) (t0_ (t0_ eR)) (za3 rfl rfl (by omega) foc1 rdDv rfl rfl Tryz.isAgg30) rfl <| aN 9 767 rfl rfl (zag rfl) rfl <| aN 10 1791 rfl rfl (zae rfl) rfl <| aN 11 3839 rfl rfl (zaa rfl ⟨_, _, _, Tryz.runUnderlying72, rfl, rfl, Tryz.sizeOf70, rfl⟩) rfl <| aV 12 7935 rfl rfl (zac rfl) (t0_ (t0_ eR)) (zah rfl foc0 rfl Tryz.isAgg70) rfl <| aN 13 16127 rfl rfl (zag rfl) rfl ?_
    first | (refine zbo 14 32511 rfl (by kernel_rfl) rfl (by kernel_rfl) (by kernel_rfl) (zac rfl) (t0_ (t0_ eR)) (zan rfl rfl rfl (by omega) foc1 rdDv Tryz.runUnderlying70 Tryz.sizeOf91) rfl (fun _ _ _ _ h => h) ?_) | (refine zbo 14 32511 rfl (by kernel_rfl) rfl (by kernel_rfl) (by kernel_rfl) (zac rfl) (t0_ (t0_ eR)) (zan rfl rfl (Int.toNat_of_nonneg (by omega)).symm (by omega) foc1 rdDv Tryz.runUnderlying70 Tryz.sizeOf91) rfl (fun _ _ _ _ h => h) ?_)
    refine aN 15 65279 rfl rfl (za2 rfl ⟨_, _, _, Tryz.runUnderlying91, rfl, rfl, Tryz.sizeOf30, rfl⟩) rfl <| aV 16 130815 rfl rfl (zac rfl) (t0_ (t0_ eR)) (za3 rfl rfl (by omega) foc1 rdDv rfl rfl Tryz.isAgg30) rfl <| zh7 (fun h hh => zb2 (t := tyapi_Target) h hh) <| AJ_op 8 131071 rfl (by kernel_rfl) rfl (zac rfl) <| zbv (t := tyapi_Target) (bytes := 48) rfl rfl del0 foc1 (rrLv (by omega)) Tryz.underlying30 zdw (by simp only [List.length_append, List.length_cons, List.length_nil, maxLen] at *; omega) (by simp only [List.length_append, List.length_cons, List.length_nil, maxLen] at *; omega) rfl fun p4 c5 => ⟨fun _ => (t1_ (t1_ (eD eR))), ?_⟩
    refine AJ_op 17 262143 rfl (by kernel_rfl) rfl (zac rfl) <| zbv (t := tyapi_Target) (bytes := 48) rfl rfl del0 foc1 (rrNw (by omega)) Tryz.underlying30 zdw (by simp only [List.length_append, List.length_cons, List.length_nil, maxLen] at *; omega) (by simp only [List.length_append, List.length_cons, List.length_nil, maxLen] at *; omega) rfl fun p6 c7 => ⟨fun h => absurd h (by decide), ?_⟩
    refine aN 18 524287 rfl rfl (zbc rfl) rfl <| aD <| zaf <| sR <| oA rfl rfl <| nT <| zat <| zbf (Ent.takeC del0 (show sl tyapi_Target _ (([] ++ (m.at i).live) ++ (m.at i).new) = sl tyapi_Target _ (Md.tbl (m.at i)) from rfl) (t0_ (t0_ eR))) <| zbs (X := Nat) [8, 11, 47, 48, 49, 50, 51, 52, 53, 54, 55, 56, 57, 58, 59, 60, 61, 62, 63, 64, 65, 66, 67, 68, 69, 70] (fun j  => ([(11, .int .i64 (j : Nat))] : Slots)) (fun j R => R) (fun j  => j ≤ (Md.tbl (m.at i)).length ∧ ∀ t ∈ (Md.tbl (m.at i)).take j, t.On = noN ∨ m.reach k f2 t.On = false) (fun j  => (Md.tbl (m.at i)).length - j) (0) ?_ ?_ (t0_ (t0_ (t0_ eR))) ?_
    · exact ⟨Nat.zero_le _, fun t ht => by simp at ht⟩
    · exact ⟨rfl, True.intro⟩
    ·
     intro j hpf
     obtain ⟨hj, hjn⟩ := hpf
     show CJ _ _ _ _ _ (([(11, .int .i64 (j : Nat))] : Slots) ++ forget _ _) (_)
     refine zaf <| sR <| oM rfl rfl <| oM rfl rfl <| oV (V_len rfl foc0 (Reads.sl _ _ _) Tryz.runUnderlying30) rfl <| oP (P_lss rfl rfl) rfl <| nT ?_
     first | (refine zao rfl (fun hg4 => ?_) (fun hg4 => ?_)) | (refine zap rfl (fun hg4 => ?_) (fun hg4 => ?_)) | (refine zar rfl (fun hg4 => ?_) (fun hg4 => ?_))
     ·
      refine kT <| zaf <| zat <| zaf ?_
      have hjl : j < (Md.tbl (m.at i)).length := by omega
      refine zak <| oM rfl rfl <| oM rfl rfl ?_
      first | (refine RJ_op rfl (OJ_V (zan rfl rfl rfl (by omega) foc0 (Reads.sl _ _ _) Tryz.runUnderlying30 Tryz.sizeOf37) rfl ?_)) | (refine RJ_op rfl (OJ_V (zan rfl rfl (Int.toNat_of_nonneg (by omega)).symm (by omega) foc0 (Reads.sl _ _ _) Tryz.runUnderlying30 Tryz.sizeOf37) rfl ?_))
      refine oP (za2 rfl ⟨_, _, _, Tryz.runUnderlying37, rfl, rfl, Tryz.sizeOf9, rfl⟩) rfl <| oV (za3 rfl rfl (by omega) foc0 (Reads.sl _ _ _) rfl rfl Tryz.isAgg9) rfl <| oP (ze8 rfl rfl Tryz.underlying9) rfl <| oM rfl rfl ?_
      first | (refine zba 59 rfl (fun hg5B hg5 => ?_) (fun hg5B hg5 => ?_)) | (refine zbb 59 rfl (fun hg5B hg5 => ?_) (fun hg5B hg5 => ?_)) | (refine zbi 59 rfl (fun hg5B => ?_) (fun hg5B => ?_))
      ·
       refine gP (zab rfl rfl rfl hg5B) (zag rfl) rfl <| gP (zab rfl rfl rfl hg5B) (zag rfl) rfl <| gP (zab rfl rfl rfl hg5B) (zag rfl) rfl ?_
       first | (refine RJ_gy (zab rfl rfl rfl hg5B) (OJ_V (zan rfl rfl rfl (by omega) foc0 (Reads.sl _ _ _) Tryz.runUnderlying30 Tryz.sizeOf37) rfl ?_)) | (refine RJ_gy (zab rfl rfl rfl hg5B) (OJ_V (zan rfl rfl (Int.toNat_of_nonneg (by omega)).symm (by omega) foc0 (Reads.sl _ _ _) Tryz.runUnderlying30 Tryz.sizeOf37) rfl ?_))
       refine gP (zab rfl rfl rfl hg5B) (za2 rfl ⟨_, _, _, Tryz.runUnderlying37, rfl, rfl, Tryz.sizeOf9, rfl⟩) rfl <| gV (zab rfl rfl rfl hg5B) (za3 rfl rfl (by omega) foc0 (Reads.sl _ _ _) rfl rfl Tryz.isAgg9) rfl <| gP (zab rfl rfl rfl hg5B) (zag rfl) rfl <| gP (zab rfl rfl rfl hg5B) (zag rfl) rfl <| gP (zab rfl rfl rfl hg5B) (P_add rfl rfl (by omega)) rfl <| RJ_gy (zab rfl rfl rfl hg5B) <| zaq ((ih f2 rfl ((Md.tbl (m.at i)).getD j tyapi_Target.dflt).On)) rfl Tryz.call76 (Dels.cons del1 (Dels.cons del1 Dels.nil)) rfl fun _ hc8 => oP (zas rfl hg5B rfl) rfl <| nT ?_
       first | (refine zao rfl (fun hg6 => ?_) (fun hg6 => ?_)) | (refine zap rfl (fun hg6 => ?_) (fun hg6 => ?_)) | (refine zar rfl (fun hg6 => ?_) (fun hg6 => ?_))
       ·
        refine sR <| oA rfl rfl <| nT <| zai <| zaj <| zad <| zbd <| zaj <| zad <| zam (res1 Tryz.results76 rfl) <| CSpec.close () ?_ ?_ (t0_ (t0_ (eD eR)))
        ·
         refine bv <| Eq.symm ?_
         rw [Md.reach_step hfn, Bool.or_eq_true]
         exact .inr (List.any_eq_true.2 ⟨_, zb9 tyapi_Target.dflt hjl, by simp_all⟩)
        · trivial
       ·
        refine zbk <| zal <| zav <| zak <| oM rfl rfl <| oP (P_add rfl rfl (by omega)) rfl <| oA rfl rfl <| za9 <| zbg (j + 1) (by first | omega | (simp only []; omega)) ?_ (by repeat (first | exact Kp.base | exact Kp.self | refine Kp.cons rfl ?_ | refine Kp.forget rfl ?_)) ?_ (t2_ (t0_ (t0_ eR)))
        ·
         refine ⟨by omega, fun t ht => ?_⟩
         rw [takeD tyapi_Target.dflt hjl] at ht
         rcases List.mem_append.1 ht with h | h
         · exact hjn t h
         · rw [List.mem_singleton] at h; subst h
           first | (left; simp_all; done) | (right; simp_all; done)
        · exact ⟨rfl, True.intro⟩
      ·
       refine RJ_gn (GY_no rfl rfl rfl hg5B) rfl rfl <| RJ_gn (GY_no rfl rfl rfl hg5B) rfl rfl <| RJ_gn (GY_no rfl rfl rfl hg5B) rfl rfl <| RJ_gn (GY_no rfl rfl rfl hg5B) rfl rfl <| RJ_gn (GY_no rfl rfl rfl hg5B) rfl rfl <| RJ_gn (GY_no rfl rfl rfl hg5B) rfl rfl <| RJ_gn (GY_no rfl rfl rfl hg5B) rfl rfl <| RJ_gn (GY_no rfl rfl rfl hg5B) rfl rfl <| RJ_gn (GY_no rfl rfl rfl hg5B) rfl rfl <| RJ_gn (GY_no rfl rfl rfl hg5B) rfl rfl <| oP (zay rfl hg5B rfl) rfl <| nT <| za5 rfl rfl <| zbk <| zal <| zav <| zak <| oM rfl rfl <| oP (P_add rfl rfl (by omega)) rfl <| oA rfl rfl <| za9 <| zbg (j + 1) (by first | omega | (simp only []; omega)) ?_ (by repeat (first | exact Kp.base | exact Kp.self | refine Kp.cons rfl ?_ | refine Kp.forget rfl ?_)) ?_ (t0_ (t0_ (t0_ eR)))
       ·
        refine ⟨by omega, fun t ht => ?_⟩
        rw [takeD tyapi_Target.dflt hjl] at ht
        rcases List.mem_append.1 ht with h | h
        · exact hjn t h
        · rw [List.mem_singleton] at h; subst h
          first | (left; simp_all; done) | (right; simp_all; done)
       · exact ⟨rfl, True.intro⟩
     ·
      refine zbt <| za6 <| za7 <| za1 <| zav <| sR <| oA rfl rfl <| nT <| zai <| zam (res1 Tryz.results76 rfl) <| CSpec.close () ?_ ?_ (t1_ (t1_ (eD eR)))
      ·
       refine bv <| Eq.symm ?_
       obtain rfl : j = (Md.tbl (m.at i)).length := by omega
       rw [List.take_length] at hjn
       rw [Md.reach_step hfn, decide_eq_false (show ¬ i = k by omega), Bool.false_or, List.any_eq_false]
       intro t ht
       rcases hjn t ht with h | h <;> simp [h]
      · trivial
end Go.Proofs
set_option linter.unusedSimpArgs false
set_option maxRecDepth 20000
namespace Go.Proofs
open Go.VG
theorem zo1 (v0 : Int) : ∀ w, (Instr.build 33 (#[(0, .int .i64 v0)] : Array (Nat × Value))).run Tryz.prog w = .ok (.agg #[.int .i64 v0, .int .i64 0, .int .u64 0]) w := fun w => by kernel_rfl
theorem zp0 {W : World} {b k : Nat} {c : RH} {m : Md} : ∀ (f dp : Nat) (n : ByteArray), f + dp = m.dv.length + 1 → CSpec Tryz.prog W 76 [ptr b 0, .string n, .int .i64 (k : Int), .int .i64 (dp : Int)] [blk b 72 (zbp c m), RefR c m] (fun _ : Unit => .bool (m.reach k f n)) (fun _ => True) (fun _ F => blk b 72 (zbp c m) :: RefR c m :: F)
  | 0, _, _, h => zjw h (fun f2 e => by omega)
  | f + 1, dp, _, h => zjw h (fun f2 e n2 => by obtain rfl : f2 = f := by omega
                                                exact zp0 f2 (dp + 1) n2 (by omega))
theorem kq {m : Md} {k : Nat} (h : m.isD k) : ∀ q : Nat, (k : Int) = (q : Int) → q < m.dv.length ∧ (m.at q).gone = false := fun q hq => by
  obtain rfl : k = q := by omega
  exact ⟨h.1, h.2.1⟩
section
variable {m : Md} {xs : List api_Target} {i k : Nat}
abbrev ldP1 (m : Md) (t : api_Target) : Bool := decide (t.On ≠ noN) && (m.find t.On).isNone
abbrev ldP2 (m : Md) (k : Nat) (t : api_Target) : Bool := decide (t.On ≠ noN) && m.reach k (m.dv.length + 1) t.On
theorem zjq {p : api_Target → Bool} (hi : i < xs.length) (h : (xs.take i).any p = false) (h2 : p (xs.getD i tyapi_Target.dflt) = false) : (xs.take (i + 1)).any p = false := by
  rw [takeD tyapi_Target.dflt hi, List.any_append, h, List.any_cons, h2]; rfl
theorem zq5 {p : api_Target → Bool} (hi : i < xs.length) (h2 : p (xs.getD i tyapi_Target.dflt) = true) : xs.any p = true := List.any_eq_true.2 ⟨_, zb9 tyapi_Target.dflt hi, h2⟩
theorem ld_ok {n : ByteArray} (hd : m.dev n = some k) (hc : chk xs = 0) (h1 : xs.any (ldP1 m) = false) (h2 : xs.any (ldP2 m k) = false) : m.ldE n xs = if m.fits xs then 0 else 1 := by
  unfold Md.ldE; rw [hd]
  show (if chk xs ≠ 0 then _ else if _ then _ else if _ then _ else _) = _
  rw [if_neg (by simp [hc]), if_neg (by rw [h1]; decide), if_neg (by rw [h2]; decide)]
theorem ld_chk {n : ByteArray} (hd : m.dev n = some k) (hc : chk xs ≠ 0) : m.ldE n xs = chk xs := by
  unfold Md.ldE; rw [hd]
  show (if chk xs ≠ 0 then _ else _) = _
  rw [if_pos hc]
theorem zwt {n : ByteArray} (hd : m.dev n = some k) (hc : chk xs = 0) (h1 : xs.any (ldP1 m) = true) : m.ldE n xs = 12 := by
  unfold Md.ldE; rw [hd]
  show (if chk xs ≠ 0 then _ else if _ then _ else _) = _
  rw [if_neg (by simp [hc]), if_pos h1]
theorem ld_cyc {n : ByteArray} (hd : m.dev n = some k) (hc : chk xs = 0) (h1 : xs.any (ldP1 m) = false) (h2 : xs.any (ldP2 m k) = true) : m.ldE n xs = 21 := by
  unfold Md.ldE; rw [hd]
  show (if chk xs ≠ 0 then _ else if _ then _ else if _ then _ else _) = _
  rw [if_neg (by simp [hc]), if_neg (by rw [h1]; decide), if_pos h2]
theorem zlb {n : ByteArray} (h : m.ldE n xs ≠ 0) : m.ldS n xs = m := by
  unfold Md.ldS
  cases hd : m.dev n with
  | none => rfl
  | some k => exact if_neg h
theorem zwu {n : ByteArray} (hd : m.dev n = some k) (h : m.ldE n xs = 0) : m.ldS n xs = m.set k { m.at k with new := xs, hn := true } := by
  unfold Md.ldS; rw [hd]; exact if_pos h
end
theorem zwv {W : World} {b : Nat} {A : HP} {v : Value} {xs : List api_Target} {c : RH} {m : Md} {n : ByteArray} (hA : Reads A tyapi_Target v xs) :
    CSpec Tryz.prog W 29 [ptr b 0, .string n, v] [A, blk b 72 (zbp c m), RefR c m] (fun _ : RH => .int .i64 (m.ldE n xs)) (fun _ => True) (fun c2 F => A :: blk b 72 (zbp c2 (m.ldS n xs)) :: RefR c2 (m.ldS n xs) :: F) := by
 refine CSpec.of_body Tryz.func29 rfl Tryz.ntmps29 rfl fun F => ?_
 show CJ _ _ _ _ _ _ (_ :: _ :: _ :: F)
 refine zbl (zcs foc2) fun hW => ?_
 have hO := hW.ok
 have hln := hW.big.len
 have hll := hW.len
 have hat := hW.at
 refine sR <| oA rfl rfl <| nT <| sR <| oM rfl rfl <| oM rfl rfl <| oO <| zaq (zku) rfl Tryz.call65 (Dels.cons del1 (Dels.cons del1 Dels.nil)) rfl fun _ hc1 => oA rfl rfl <| nT <| zaf <| sR <| oM rfl rfl <| oP (P_lss rfl rfl) rfl <| nT ?_
 first | (refine zao rfl (fun hg1 => ?_) (fun hg1 => ?_)) | (refine zap rfl (fun hg1 => ?_) (fun hg1 => ?_)) | (refine zar rfl (fun hg1 => ?_) (fun hg1 => ?_))
 ·
  refine sR <| oA rfl rfl <| nT <| zai <| zad <| zam (res1 Tryz.results29 rfl) ?_
  have e1 : m.ldE n xs = 12 ∧ m.ldS n xs = m := by
    rcases Md.devI_cases (m := m) (n := n) with ⟨h1, _⟩ | ⟨k, _, h2, _⟩
    · unfold Md.ldE Md.ldS; rw [h1]; exact ⟨rfl, rfl⟩
    · exfalso; omega
  rw [e1.2]
  refine CSpec.close c ?_ ?_ (t2_ (t0_ (t0_ eR)))
  · rw [e1.1]
  · trivial
 ·
  refine kT <| zaf <| zaf ?_
  obtain ⟨hdn, hdi⟩ | ⟨k, hdn, hdi, hk, hfk⟩ := Md.devI_cases (m := m) (n := n)
  · exfalso; omega
  rw [hdi]
  have hkl := hk.1
  refine zak <| oM rfl rfl <| oO <| zaq (zed hA zkk) rfl Tryz.call75 (Dels.cons del2 Dels.nil) rfl fun _ hc2 => oA rfl rfl <| nT <| sR <| oM rfl rfl <| oP (P_neq rfl rfl) rfl <| nT ?_
  first | (refine zao rfl (fun hg2 => ?_) (fun hg2 => ?_)) | (refine zap rfl (fun hg2 => ?_) (fun hg2 => ?_)) | (refine zar rfl (fun hg2 => ?_) (fun hg2 => ?_))
  ·
   refine sR <| oM rfl rfl <| oA rfl rfl <| nT <| zai <| zad <| zam (res1 Tryz.results29 rfl) ?_
   have e1 := ld_chk (m := m) hdn (show chk xs ≠ 0 by assumption)
   have e2 := zlb (m := m) (n := n) (xs := xs) (by rw [e1]; assumption)
   rw [e2]
   refine CSpec.close c ?_ ?_ (t0_ (t0_ (t0_ eR)))
   · rw [e1]
   · trivial
  ·
   refine kT <| zaf <| zaf ?_
   have hcx : chk xs = 0 := by simp_all
   have hx64 := (zb0 hcx).1
   refine zak <| oA rfl rfl <| nT <| zat <| zbs (X := Nat) [6, 9, 21, 22, 23, 24, 25, 26, 27, 28, 29, 30, 31, 32, 33, 34, 35, 36, 37, 38, 39, 40, 41, 42] (fun i  => ([(9, .int .i64 (i : Nat))] : Slots)) (fun i R => R) (fun i  => i ≤ xs.length ∧ (xs.take i).any (ldP1 m) = false) (fun i  => xs.length - i) (0) ?_ ?_ (t0_ (t0_ (t0_ eR))) ?_
   · exact ⟨Nat.zero_le _, rfl⟩
   · exact ⟨rfl, True.intro⟩
   ·
    intro i hpf
    obtain ⟨hi, hany⟩ := hpf
    show CJ _ _ _ _ _ (([(9, .int .i64 (i : Nat))] : Slots) ++ forget _ _) (_)
    refine zaf <| sR <| oM rfl rfl <| oM rfl rfl <| oV (V_len rfl foc0 hA Tryz.runUnderlying30) rfl <| oP (P_lss rfl rfl) rfl <| nT ?_
    first | (refine zao rfl (fun hg3 => ?_) (fun hg3 => ?_)) | (refine zap rfl (fun hg3 => ?_) (fun hg3 => ?_)) | (refine zar rfl (fun hg3 => ?_) (fun hg3 => ?_))
    ·
     refine kT <| zaf <| zat <| zaf ?_
     have hlt : i < xs.length := by omega
     have hfc := Md.findI_cases (m := m) (n := (xs.getD i tyapi_Target.dflt).On)
     refine zak <| oM rfl rfl <| oM rfl rfl ?_
     first | (refine RJ_op rfl (OJ_V (zan rfl rfl rfl (by first | omega | (simp only [List.length_set]; omega)) foc0 hA Tryz.runUnderlying30 Tryz.sizeOf37) rfl ?_)) | (refine RJ_op rfl (OJ_V (zan rfl rfl (Int.toNat_of_nonneg (by first | omega | (simp only [List.length_set]; omega))).symm (by first | omega | (simp only [List.length_set]; omega)) foc0 hA Tryz.runUnderlying30 Tryz.sizeOf37) rfl ?_))
     refine oP (za2 rfl ⟨_, _, _, Tryz.runUnderlying37, rfl, rfl, Tryz.sizeOf9, rfl⟩) rfl <| oV (za3 rfl rfl (by first | omega | (simp only [List.length_set]; omega)) foc0 hA rfl rfl Tryz.isAgg9) rfl <| oP (ze8 rfl rfl Tryz.underlying9) rfl <| oM rfl rfl ?_
     first | (refine zba 33 rfl (fun hg4B hg4 => ?_) (fun hg4B hg4 => ?_)) | (refine zbb 33 rfl (fun hg4B hg4 => ?_) (fun hg4B hg4 => ?_)) | (refine zbi 33 rfl (fun hg4B => ?_) (fun hg4B => ?_))
     ·
      refine gP (zab rfl rfl rfl hg4B) (zag rfl) rfl <| gP (zab rfl rfl rfl hg4B) (zag rfl) rfl <| gP (zab rfl rfl rfl hg4B) (zag rfl) rfl ?_
      first | (refine RJ_gy (zab rfl rfl rfl hg4B) (OJ_V (zan rfl rfl rfl (by first | omega | (simp only [List.length_set]; omega)) foc0 hA Tryz.runUnderlying30 Tryz.sizeOf37) rfl ?_)) | (refine RJ_gy (zab rfl rfl rfl hg4B) (OJ_V (zan rfl rfl (Int.toNat_of_nonneg (by first | omega | (simp only [List.length_set]; omega))).symm (by first | omega | (simp only [List.length_set]; omega)) foc0 hA Tryz.runUnderlying30 Tryz.sizeOf37) rfl ?_))
      refine gP (zab rfl rfl rfl hg4B) (za2 rfl ⟨_, _, _, Tryz.runUnderlying37, rfl, rfl, Tryz.sizeOf9, rfl⟩) rfl <| gV (zab rfl rfl rfl hg4B) (za3 rfl rfl (by first | omega | (simp only [List.length_set]; omega)) foc0 hA rfl rfl Tryz.isAgg9) rfl <| RJ_gy (zab rfl rfl rfl hg4B) <| zaq (ze3) rfl Tryz.call39 (Dels.cons del1 (Dels.cons del1 Dels.nil)) rfl fun _ hc3 => gP (zab rfl rfl rfl hg4B) (P_lss rfl rfl) rfl <| oP (zas rfl hg4B rfl) rfl <| nT ?_
      first | (refine zao rfl (fun hg5 => ?_) (fun hg5 => ?_)) | (refine zap rfl (fun hg5 => ?_) (fun hg5 => ?_)) | (refine zar rfl (fun hg5 => ?_) (fun hg5 => ?_))
      ·
       refine sR <| oA rfl rfl <| nT <| zai <| zaj <| zad <| zbd <| zaj <| zad <| zam (res1 Tryz.results29 rfl) ?_
       have e1 := zwt hdn hcx (zq5 hlt (by obtain ⟨h8, h9⟩ | ⟨q, h8, h9, _⟩ := hfc <;> simp_all <;> omega))
       have e2 := zlb (m := m) (n := n) (xs := xs) (by rw [e1]; decide)
       rw [e2]
       refine CSpec.close c ?_ ?_ (t2_ (t0_ (t0_ eR)))
       · rw [e1]
       · trivial
      ·
       refine zbk <| zal <| zav <| zak <| oM rfl rfl <| oP (P_add rfl rfl (by first | omega | (simp only [List.length_set]; omega))) rfl <| oA rfl rfl <| za9 <| zbg (i + 1) (by first | omega | (simp only []; omega)) ?_ (by repeat (first | exact Kp.base | exact Kp.self | refine Kp.cons rfl ?_ | refine Kp.forget rfl ?_)) ?_ (t2_ (t0_ (t0_ eR)))
       · exact ⟨by omega, zjq hlt hany (by obtain ⟨h8, h9⟩ | ⟨q, h8, h9, _⟩ := hfc <;> simp_all)⟩
       · exact ⟨rfl, True.intro⟩
     ·
      refine RJ_gn (GY_no rfl rfl rfl hg4B) rfl rfl <| RJ_gn (GY_no rfl rfl rfl hg4B) rfl rfl <| RJ_gn (GY_no rfl rfl rfl hg4B) rfl rfl <| RJ_gn (GY_no rfl rfl rfl hg4B) rfl rfl <| RJ_gn (GY_no rfl rfl rfl hg4B) rfl rfl <| RJ_gn (GY_no rfl rfl rfl hg4B) rfl rfl <| RJ_gn (GY_no rfl rfl rfl hg4B) rfl rfl <| RJ_gn (GY_no rfl rfl rfl hg4B) rfl rfl <| oP (zay rfl hg4B rfl) rfl <| nT <| za5 rfl rfl <| zbk <| zal <| zav <| zak <| oM rfl rfl <| oP (P_add rfl rfl (by first | omega | (simp only [List.length_set]; omega))) rfl <| oA rfl rfl <| za9 <| zbg (i + 1) (by first | omega | (simp only []; omega)) ?_ (by repeat (first | exact Kp.base | exact Kp.self | refine Kp.cons rfl ?_ | refine Kp.forget rfl ?_)) ?_ (t0_ (t0_ (t0_ eR)))
      · exact ⟨by omega, zjq hlt hany (by obtain ⟨h8, h9⟩ | ⟨q, h8, h9, _⟩ := hfc <;> simp_all)⟩
      · exact ⟨rfl, True.intro⟩
    ·
     refine zbt <| za6 <| za7 <| za1 <| zav <| zaf <| zaf ?_
     obtain rfl : i = xs.length := by omega
     rw [List.take_length] at hany
     have h1x := hany
     clear hany hi
     refine zak <| oA rfl rfl <| nT <| zat <| zbs (X := Nat) [6, 10, 43, 44, 45, 46, 47, 48, 49, 50, 51, 52, 53, 54, 55, 56, 57, 58, 59, 60, 61, 62, 63, 64] (fun i  => ([(10, .int .i64 (i : Nat))] : Slots)) (fun i R => R) (fun i  => i ≤ xs.length ∧ (xs.take i).any (ldP2 m k) = false) (fun i  => xs.length - i) (0) ?_ ?_ (t0_ (t0_ (t0_ eR))) ?_
     · exact ⟨Nat.zero_le _, rfl⟩
     · exact ⟨rfl, True.intro⟩
     ·
      intro i hpf
      obtain ⟨hi, hany⟩ := hpf
      show CJ _ _ _ _ _ (([(10, .int .i64 (i : Nat))] : Slots) ++ forget _ _) (_)
      refine zaf <| sR <| oM rfl rfl <| oM rfl rfl <| oV (V_len rfl foc0 hA Tryz.runUnderlying30) rfl <| oP (P_lss rfl rfl) rfl <| nT ?_
      first | (refine zao rfl (fun hg6 => ?_) (fun hg6 => ?_)) | (refine zap rfl (fun hg6 => ?_) (fun hg6 => ?_)) | (refine zar rfl (fun hg6 => ?_) (fun hg6 => ?_))
      ·
       refine kT <| zaf <| zat <| zaf ?_
       have hlt : i < xs.length := by omega
       refine zak <| oM rfl rfl <| oM rfl rfl ?_
       first | (refine RJ_op rfl (OJ_V (zan rfl rfl rfl (by first | omega | (simp only [List.length_set]; omega)) foc0 hA Tryz.runUnderlying30 Tryz.sizeOf37) rfl ?_)) | (refine RJ_op rfl (OJ_V (zan rfl rfl (Int.toNat_of_nonneg (by first | omega | (simp only [List.length_set]; omega))).symm (by first | omega | (simp only [List.length_set]; omega)) foc0 hA Tryz.runUnderlying30 Tryz.sizeOf37) rfl ?_))
       refine oP (za2 rfl ⟨_, _, _, Tryz.runUnderlying37, rfl, rfl, Tryz.sizeOf9, rfl⟩) rfl <| oV (za3 rfl rfl (by first | omega | (simp only [List.length_set]; omega)) foc0 hA rfl rfl Tryz.isAgg9) rfl <| oP (ze8 rfl rfl Tryz.underlying9) rfl <| oM rfl rfl ?_
       first | (refine zba 55 rfl (fun hg7B hg7 => ?_) (fun hg7B hg7 => ?_)) | (refine zbb 55 rfl (fun hg7B hg7 => ?_) (fun hg7B hg7 => ?_)) | (refine zbi 55 rfl (fun hg7B => ?_) (fun hg7B => ?_))
       ·
        refine gP (zab rfl rfl rfl hg7B) (zag rfl) rfl <| gP (zab rfl rfl rfl hg7B) (zag rfl) rfl <| gP (zab rfl rfl rfl hg7B) (zag rfl) rfl ?_
        first | (refine RJ_gy (zab rfl rfl rfl hg7B) (OJ_V (zan rfl rfl rfl (by first | omega | (simp only [List.length_set]; omega)) foc0 hA Tryz.runUnderlying30 Tryz.sizeOf37) rfl ?_)) | (refine RJ_gy (zab rfl rfl rfl hg7B) (OJ_V (zan rfl rfl (Int.toNat_of_nonneg (by first | omega | (simp only [List.length_set]; omega))).symm (by first | omega | (simp only [List.length_set]; omega)) foc0 hA Tryz.runUnderlying30 Tryz.sizeOf37) rfl ?_))
        refine gP (zab rfl rfl rfl hg7B) (za2 rfl ⟨_, _, _, Tryz.runUnderlying37, rfl, rfl, Tryz.sizeOf9, rfl⟩) rfl <| gV (zab rfl rfl rfl hg7B) (za3 rfl rfl (by first | omega | (simp only [List.length_set]; omega)) foc0 hA rfl rfl Tryz.isAgg9) rfl <| gP (zab rfl rfl rfl hg7B) (zag rfl) rfl <| RJ_gy (zab rfl rfl rfl hg7B) <| zaq ((zp0 (m.dv.length + 1) 0 _ (by omega))) rfl Tryz.call76 (Dels.cons del1 (Dels.cons del1 Dels.nil)) rfl fun _ hc4 => oP (zas rfl hg7B rfl) rfl <| nT ?_
        first | (refine zao rfl (fun hg8 => ?_) (fun hg8 => ?_)) | (refine zap rfl (fun hg8 => ?_) (fun hg8 => ?_)) | (refine zar rfl (fun hg8 => ?_) (fun hg8 => ?_))
        ·
         refine sR <| oA rfl rfl <| nT <| zai <| zaj <| zad <| zbd <| zaj <| zad <| zam (res1 Tryz.results29 rfl) ?_
         have e1 := ld_cyc hdn hcx h1x (zq5 hlt (by simp_all))
         have e2 := zlb (m := m) (n := n) (xs := xs) (by rw [e1]; decide)
         rw [e2]
         refine CSpec.close c ?_ ?_ (t2_ (t0_ (t0_ eR)))
         · rw [e1]
         · trivial
        ·
         refine zbk <| zal <| zav <| zak <| oM rfl rfl <| oP (P_add rfl rfl (by first | omega | (simp only [List.length_set]; omega))) rfl <| oA rfl rfl <| za9 <| zbg (i + 1) (by first | omega | (simp only []; omega)) ?_ (by repeat (first | exact Kp.base | exact Kp.self | refine Kp.cons rfl ?_ | refine Kp.forget rfl ?_)) ?_ (t2_ (t0_ (t0_ eR)))
         · exact ⟨by omega, zjq hlt hany (by simp_all)⟩
         · exact ⟨rfl, True.intro⟩
       ·
        refine RJ_gn (GY_no rfl rfl rfl hg7B) rfl rfl <| RJ_gn (GY_no rfl rfl rfl hg7B) rfl rfl <| RJ_gn (GY_no rfl rfl rfl hg7B) rfl rfl <| RJ_gn (GY_no rfl rfl rfl hg7B) rfl rfl <| RJ_gn (GY_no rfl rfl rfl hg7B) rfl rfl <| RJ_gn (GY_no rfl rfl rfl hg7B) rfl rfl <| RJ_gn (GY_no rfl rfl rfl hg7B) rfl rfl <| RJ_gn (GY_no rfl rfl rfl hg7B) rfl rfl <| oP (zay rfl hg7B rfl) rfl <| nT <| za5 rfl rfl <| zbk <| zal <| zav <| zak <| oM rfl rfl <| oP (P_add rfl rfl (by first | omega | (simp only [List.length_set]; omega))) rfl <| oA rfl rfl <| za9 <| zbg (i + 1) (by first | omega | (simp only []; omega)) ?_ (by repeat (first | exact Kp.base | exact Kp.self | refine Kp.cons rfl ?_ | refine Kp.forget rfl ?_)) ?_ (t0_ (t0_ (t0_ eR)))
        · exact ⟨by omega, zjq hlt hany (by simp_all)⟩
        · exact ⟨rfl, True.intro⟩
      ·
       refine zbt <| za6 <| za7 <| za1 <| zav <| zaf <| zaf ?_
       obtain rfl : i = xs.length := by omega
       rw [List.take_length] at hany
       have h2x := hany
       refine zak <| oM rfl rfl <| oM rfl rfl <| oO <| zaq (zwr hA hcx) rfl Tryz.call77 (Dels.cons del0 (Dels.cons del0 (Dels.cons del0 Dels.nil))) rfl fun _ hc5 => oP (P_not rfl) rfl <| nT ?_
       first | (refine zao rfl (fun hg9 => ?_) (fun hg9 => ?_)) | (refine zap rfl (fun hg9 => ?_) (fun hg9 => ?_)) | (refine zar rfl (fun hg9 => ?_) (fun hg9 => ?_))
       ·
        refine sR <| oA rfl rfl <| nT <| zai <| zad <| zam (res1 Tryz.results29 rfl) ?_
        have e1 := show m.ldE n xs = 1 by rw [ld_ok hdn hcx h1x h2x, if_neg (by simp_all)]
        have e2 := zlb (m := m) (n := n) (xs := xs) (by rw [e1]; decide)
        rw [e2]
        refine CSpec.close c ?_ ?_ (t0_ (t0_ (t0_ eR)))
        · rw [e1]
        · trivial
       ·
        refine kT <| zaf <| zbf (Ent.trans (t2_ eR) (zdo hkl)) <| za0 180224 (by kernel_rfl) rfl <| aN 0 1 rfl rfl (zag rfl) rfl <| aN 1 3 rfl rfl (zae rfl) rfl <| aN 2 7 rfl rfl (zaa rfl ⟨_, _, _, Tryz.runUnderlying72, rfl, rfl, Tryz.sizeOf70, rfl⟩) rfl <| aV 3 15 rfl rfl (zac rfl) (t0_ (t0_ (t0_ (t0_ (t0_ (t0_ (t0_ (t0_ (t0_ eR))))))))) (zah rfl foc8 rfl Tryz.isAgg70) rfl <| aN 4 31 rfl rfl (zag rfl) rfl <| aN 5 63 rfl rfl (zag rfl) rfl <| aN 6 127 rfl rfl (zae rfl) rfl <| aN 7 255 rfl rfl (zaa rfl ⟨_, _, _, Tryz.runUnderlying72, rfl, rfl, Tryz.sizeOf70, rfl⟩) rfl <| aV 8 511 rfl rfl (zac rfl) (t0_ (t0_ (t0_ (t0_ (t0_ (t0_ (t0_ (t0_ (t0_ eR))))))))) (zah rfl foc8 rfl Tryz.isAgg70) rfl <| aN 9 1023 rfl rfl (zag rfl) rfl <| aN 10 2047 rfl rfl (zag rfl) rfl <| zh7 (fun h hh => zb2 (t := tyapi_Target) h hh) <| AJ_op 11 4095 rfl (by kernel_rfl) rfl (zac rfl) <| zbv (t := tyapi_Target) (bytes := 48) rfl rfl del0 foc7 hA Tryz.underlying30 zdw (by simp only [List.length_append, List.length_cons, List.length_nil, maxLen] at *; omega) (by simp only [List.length_append, List.length_cons, List.length_nil, maxLen] at *; omega) rfl fun p8 c9 => ?_
        refine ⟨fun _ => (t1_ (t1_ (t1_ (t1_ (t1_ (t1_ (t1_ (t1_ (t1_ (eD eR)))))))))), ?_⟩
        first | (refine zbo 12 8191 rfl (by kernel_rfl) rfl (by kernel_rfl) (by kernel_rfl) (zac rfl) (t1_ (t1_ (t1_ (t1_ (t1_ (t1_ (t1_ (t1_ (t1_ (eD eR)))))))))) (zan rfl rfl rfl (by first | omega | (simp only [List.length_set]; omega)) foc4 (Reads.sl _ _ _) Tryz.runUnderlying70 Tryz.sizeOf91) rfl (fun _ _ _ _ h => h) ?_) | (refine zbo 12 8191 rfl (by kernel_rfl) rfl (by kernel_rfl) (by kernel_rfl) (zac rfl) (t1_ (t1_ (t1_ (t1_ (t1_ (t1_ (t1_ (t1_ (t1_ (eD eR)))))))))) (zan rfl rfl (Int.toNat_of_nonneg (by first | omega | (simp only [List.length_set]; omega))).symm (by first | omega | (simp only [List.length_set]; omega)) foc4 (Reads.sl _ _ _) Tryz.runUnderlying70 Tryz.sizeOf91) rfl (fun _ _ _ _ h => h) ?_)
        refine aN 13 16383 rfl rfl (za2 rfl ⟨_, _, _, Tryz.runUnderlying91, rfl, rfl, Tryz.sizeOf30, rfl⟩) rfl <| AJ_op 14 32767 rfl (by kernel_rfl) rfl (zac rfl) <| zcg (x' := ({ (c.l.getD k tyDv.dflt).1 with nw := ⟨p8, ([] ++ xs).length, c9⟩ }, { (c.l.getD k tyDv.dflt).2 with new := xs })) rfl rfl rfl (by first | omega | (simp only [List.length_set]; omega)) foc5 rfl rfl rfl Tryz.sizeOf30 <| ⟨fun h => absurd h (by decide), ?_⟩
        refine AJ_op 15 65535 rfl (by kernel_rfl) rfl (zac rfl) <| OJ_V (zan rfl rfl rfl (by simp only [List.length_set]; omega) foc5 (Reads.sl _ _ _) Tryz.runUnderlying70 Tryz.sizeOf91) rfl <| ⟨fun h => absurd h (by decide), ?_⟩
        refine aN 16 131071 rfl rfl (za2 rfl ⟨_, _, _, Tryz.runUnderlying91, rfl, rfl, Tryz.sizeOf4, rfl⟩) rfl <| AJ_op 17 262143 rfl (by kernel_rfl) rfl (zac rfl) <| zcg (x' := (((c.l.set k ({ (c.l.getD k tyDv.dflt).1 with nw := ⟨p8, ([] ++ xs).length, c9⟩ }, { (c.l.getD k tyDv.dflt).2 with new := xs })).getD k tyDv.dflt).1, { ((c.l.set k ({ (c.l.getD k tyDv.dflt).1 with nw := ⟨p8, ([] ++ xs).length, c9⟩ }, { (c.l.getD k tyDv.dflt).2 with new := xs })).getD k tyDv.dflt).2 with hn := true })) rfl rfl rfl (by first | omega | (simp only [List.length_set]; omega)) foc5 rfl rfl rfl Tryz.sizeOf4 <| ⟨fun h => absurd h (by decide), ?_⟩
        refine aD <| sR <| oA rfl rfl <| nT <| zai <| zam (res1 Tryz.results29 rfl) ?_
        have e0 : m.ldE n xs = 0 := by rw [ld_ok hdn hcx h1x h2x, if_pos (by simp_all)]
        rw [zwu hdn e0]
        refine CSpec.close (c.put k { c.hd k with nw := ⟨p8, ([] ++ xs).length, c9⟩ } { m.at k with new := xs, hn := true }) ?_ ?_ (Ent.trans (Ent.trans (t1_ (t1_ (Ent.takeC del0 (show sl tyapi_Target (Sl3.v ⟨p8, ([] ++ xs).length, c9⟩) ([] ++ xs) = sl tyapi_Target (Sl3.v ⟨p8, ([] ++ xs).length, c9⟩) xs from rfl) (t1_ (Ent.takeC del1 (congrArg (sl tyDv _) (by simp only [stq (show k < c.l.length by omega), hd_at hW, List.set_set])) (t1_ (t1_ eR))))))) (zer (h := { c.hd k with nw := ⟨p8, ([] ++ xs).length, c9⟩ }) (d := { m.at k with new := xs, hn := true }) (m' := (m.set k { m.at k with new := xs, hn := true })) hW hkl rfl (Md.ok_load hO hk hcx (fun t ht hne => by
          have := List.any_eq_false.1 h1x t ht
          exact Option.isSome_iff_ne_none.2 (by simpa [ldP1, hne] using this)) (fun t ht hne => by
          have := List.any_eq_false.1 h2x t ht
          simpa [ldP2, hne] using this)) (hW.big.set hkl rfl (hW.big.wl _) hW.big.tks hW.big.told hW.big.wr) rfl)) (t2_ (t2_ (t0_ (eD eR)))))
        · rw [e0]
        · trivial
theorem zrs {W : World} {b : Nat} {c : RH} {m : Md} {n : ByteArray} :
    CSpec Tryz.prog W 33 [ptr b 0, .string n] [blk b 72 (zbp c m), RefR c m] (fun _ : RH => .int .i64 (m.suE n)) (fun _ => True) (fun c2 F => blk b 72 (zbp c2 (m.suS n)) :: RefR c2 (m.suS n) :: F) := by
 refine CSpec.of_body Tryz.func33 rfl Tryz.ntmps33 rfl fun F => ?_
 show CJ _ _ _ _ _ _ (_ :: _ :: F)
 refine zbl (zcs foc1) fun hW => ?_
 have hO := hW.ok
 have hln := hW.big.len
 have hll := hW.len
 have hat := hW.at
 refine sR <| oA rfl rfl <| nT <| sR <| oM rfl rfl <| oM rfl rfl <| oO <| zaq (zku) rfl Tryz.call65 (Dels.cons del0 (Dels.cons del0 Dels.nil)) rfl fun _ hc1 => oA rfl rfl <| nT <| zaf <| sR <| oM rfl rfl <| oP (P_lss rfl rfl) rfl <| nT ?_
 first | (refine zao rfl (fun hg1 => ?_) (fun hg1 => ?_)) | (refine zap rfl (fun hg1 => ?_) (fun hg1 => ?_)) | (refine zar rfl (fun hg1 => ?_) (fun hg1 => ?_))
 ·
  refine sR <| oA rfl rfl <| nT <| zai <| zad <| zam (res1 Tryz.results33 rfl) ?_
  have e1 : m.suE n = 12 ∧ m.suS n = m := by
    rcases Md.devI_cases (m := m) (n := n) with ⟨h1, _⟩ | ⟨k, _, h2, _⟩
    · unfold Md.suE Md.suS; rw [h1]; exact ⟨rfl, rfl⟩
    · exfalso; omega
  rw [e1.2]
  refine CSpec.close c ?_ ?_ (t0_ (t0_ eR))
  · rw [e1.1]
  · trivial
 ·
  refine kT <| zaf <| zaf ?_
  obtain ⟨hdn, hdi⟩ | ⟨k, hdn, hdi, hk, hfk⟩ := Md.devI_cases (m := m) (n := n)
  · exfalso; omega
  rw [hdi]
  have hkl := hk.1
  refine zak <| oM rfl rfl <| oP (zae rfl) rfl <| oP (zaa rfl ⟨_, _, _, Tryz.runUnderlying72, rfl, rfl, Tryz.sizeOf70, rfl⟩) rfl <| oV (zah rfl foc0 rfl Tryz.isAgg70) rfl <| oM rfl rfl ?_
  first | (refine RJ_op rfl (OJ_V (zan rfl rfl rfl (by first | omega | (simp only [List.length_set]; omega)) foc1 rdDv Tryz.runUnderlying70 Tryz.sizeOf91) rfl ?_)) | (refine RJ_op rfl (OJ_V (zan rfl rfl (Int.toNat_of_nonneg (by first | omega | (simp only [List.length_set]; omega))).symm (by first | omega | (simp only [List.length_set]; omega)) foc1 rdDv Tryz.runUnderlying70 Tryz.sizeOf91) rfl ?_))
  refine oP (za2 rfl ⟨_, _, _, Tryz.runUnderlying91, rfl, rfl, Tryz.sizeOf4, rfl⟩) rfl <| oV (za3 rfl rfl (by first | omega | (simp only [List.length_set]; omega)) foc1 rdDv rfl rfl Tryz.isAgg4) rfl <| oM rfl rfl ?_
  first | (refine zba 19 rfl (fun hg2B hg2 => ?_) (fun hg2B hg2 => ?_)) | (refine zbb 19 rfl (fun hg2B hg2 => ?_) (fun hg2B hg2 => ?_)) | (refine zbi 19 rfl (fun hg2B => ?_) (fun hg2B => ?_))
  ·
   refine RJ_gn (GY_no rfl rfl rfl hg2B) rfl rfl <| RJ_gn (GY_no rfl rfl rfl hg2B) rfl rfl <| RJ_gn (GY_no rfl rfl rfl hg2B) rfl rfl <| RJ_gn (GY_no rfl rfl rfl hg2B) rfl rfl <| RJ_gn (GY_no rfl rfl rfl hg2B) rfl rfl <| oP (zas rfl hg2B rfl) rfl <| nT <| za4 rfl rfl <| sR <| oA rfl rfl <| nT <| zai <| zad <| zam (res1 Tryz.results33 rfl) ?_
   have e0 : m.suE n = 20 := by
     unfold Md.suE; rw [hdn]
     refine if_pos ?_
     first | exact .inl (by rw [← hat]; assumption) | exact .inr (Md.oI_nonneg.1 (by have h9 := Md.wayI_nat (m := m) (f := m.dv.length + 1) (k := k) (t := ⟨3, 0, 0⟩); rw [h9] at *; assumption))
   have e1 : m.suS n = m := by unfold Md.suS; rw [hdn]; exact if_neg (by rw [e0]; decide)
   rw [e1]
   refine CSpec.close c ?_ ?_ (t0_ (t0_ eR))
   · rw [e0]
   · trivial
  ·
   refine gP (zab rfl rfl rfl hg2B) (zag rfl) rfl <| gP (zab rfl rfl rfl hg2B) (zag rfl) rfl <| gP (zab rfl rfl rfl hg2B) (zbm rfl (zo1 _)) rfl <| RJ_gy (zab rfl rfl rfl hg2B) <| zaq ((zh2 (k := (k : Int)) (t := ⟨3, 0, 0⟩) hO (kq hk))) rfl Tryz.call40 (Dels.cons del0 (Dels.cons del0 Dels.nil)) rfl fun _ hc2 => gP (zab rfl rfl rfl hg2B) (P_geq rfl rfl) rfl <| oP (zay rfl hg2B rfl) rfl <| nT ?_
   first | (refine zao rfl (fun hg3 => ?_) (fun hg3 => ?_)) | (refine zap rfl (fun hg3 => ?_) (fun hg3 => ?_)) | (refine zar rfl (fun hg3 => ?_) (fun hg3 => ?_))
   ·
    refine sR <| oA rfl rfl <| nT <| zai <| zad <| zam (res1 Tryz.results33 rfl) ?_
    have e0 : m.suE n = 20 := by
      unfold Md.suE; rw [hdn]
      refine if_pos ?_
      first | exact .inl (by rw [← hat]; assumption) | exact .inr (Md.oI_nonneg.1 (by have h9 := Md.wayI_nat (m := m) (f := m.dv.length + 1) (k := k) (t := ⟨3, 0, 0⟩); rw [h9] at *; assumption))
    have e1 : m.suS n = m := by unfold Md.suS; rw [hdn]; exact if_neg (by rw [e0]; decide)
    rw [e1]
    refine CSpec.close c ?_ ?_ (t0_ (t0_ eR))
    · rw [e0]
    · trivial
   ·
    refine kT <| zaf <| zbf (Ent.trans (t1_ eR) (zdo hkl)) <| zak <| oM rfl rfl <| oP (zae rfl) rfl <| oP (zaa rfl ⟨_, _, _, Tryz.runUnderlying72, rfl, rfl, Tryz.sizeOf70, rfl⟩) rfl <| oV (zah rfl foc7 rfl Tryz.isAgg70) rfl <| oM rfl rfl ?_
    first | (refine RJ_op rfl (OJ_V (zan rfl rfl rfl (by first | omega | (simp only [List.length_set]; omega)) foc4 (Reads.sl _ _ _) Tryz.runUnderlying70 Tryz.sizeOf91) rfl ?_)) | (refine RJ_op rfl (OJ_V (zan rfl rfl (Int.toNat_of_nonneg (by first | omega | (simp only [List.length_set]; omega))).symm (by first | omega | (simp only [List.length_set]; omega)) foc4 (Reads.sl _ _ _) Tryz.runUnderlying70 Tryz.sizeOf91) rfl ?_))
    refine oP (za2 rfl ⟨_, _, _, Tryz.runUnderlying91, rfl, rfl, Tryz.sizeOf4, rfl⟩) rfl <| oO <| zcg (x' := ((c.l.getD k tyDv.dflt).1, { (c.l.getD k tyDv.dflt).2 with susp := true })) rfl rfl rfl (by first | omega | (simp only [List.length_set]; omega)) foc4 rfl rfl rfl Tryz.sizeOf4 <| nT <| sR <| oA rfl rfl <| nT <| zai <| zam (res1 Tryz.results33 rfl) ?_
    have e0 : m.suE n = 0 := by
      unfold Md.suE; rw [hdn]
      refine if_neg ?_
      rintro (h | h)
      · rw [← hat] at h; simp_all
      · have h8 := Md.oI_nonneg.2 h
        have h9 := Md.wayI_nat (m := m) (f := m.dv.length + 1) (k := k) (t := ⟨3, 0, 0⟩)
        unfold Md.wayk at *
        omega
    have e1 : m.suS n = m.set k { m.at k with susp := true } := by unfold Md.suS; rw [hdn]; exact if_pos e0
    rw [e1]
    refine CSpec.close (c.put k (c.hd k) { m.at k with susp := true }) ?_ ?_ (Ent.trans (Ent.trans (t0_ (t0_ (t0_ (t0_ (Ent.takeC del0 (congrArg (sl tyDv _) (by simp only [stq (show k < c.l.length by omega), hd_at hW, List.set_set])) (t0_ (t0_ eR))))))) (zer (h := c.hd k) (d := { m.at k with susp := true }) (m' := (m.set k { m.at k with susp := true })) hW hkl rfl (Md.ok_susp hO hk) (hW.big.set hkl rfl (hW.big.wl _) hW.big.tks hW.big.told hW.big.wr) rfl)) (t1_ (t0_ eR)))
    · rw [e0]
    · trivial
end Go.Proofs
