/- MapperDevices, part 9 of the proof: CLaw8. -/
import Derived.WalkKit
import Derived.Orders
import Derived.RangeFuncLeaves
import Derived.RangeFuncCalls
import Derived.TacticsIn
import Derived.Handy
import Derived.OrdersHeld
import Derived.OrdersIn
import Derived.Below
import Derived.OpenShut
import Derived.Deep.Slices
import Derived.Scope
import Derived.RangeFuncRecord
import Derived.ChangeKeysEq
import Derived.Laws.BytesArg
import Derived.KernelRfl
import Derived.Maps.RangeRun
import Derived.LaidEql
import Derived.ProofKit
import Derived.ShutString
import Derived.ChangeOld
import Derived.Test.YtbmipeiphoghcaaGreatChecked
import Derived.Test.YtbmipeiphoghcaaGreatRows
import Derived.Test.YtbmipeiphoghcaaGreatZMapperDevices8
set_option linter.unusedSimpArgs false
set_option maxRecDepth 20000
namespace Go.Proofs
open Go.VG
theorem zn6 (v0 : ByteArray) : ∀ w, (Instr.build 35 (#[(1, .string v0)] : Array (Nat × Value))).run Tryz.prog w = .ok (.agg #[.int .i64 0, .string v0, .string ByteArray.empty, .slice none 0 0, .int .i64 0, .int .i64 0, .int .u64 0]) w := fun w => by kernel_rfl
theorem zkv (v0 : Int) (v1 : ByteArray) (v2 : Int) : ∀ w, (Instr.build 37 (#[(1, .int .i64 v0), (2, .string v1), (3, .int .i64 v2)] : Array (Nat × Value))).run Tryz.prog w = .ok (.agg #[.int .i64 0, .int .i64 v0, .string v1, .int .i64 v2, .bool false]) w := fun w => by kernel_rfl
theorem zmj (v0 : Int) (v1 : Int) : ∀ w, (Instr.build 37 (#[(0, .int .i64 v0), (1, .int .i64 v1)] : Array (Nat × Value))).run Tryz.prog w = .ok (.agg #[.int .i64 v0, .int .i64 v1, .string ByteArray.empty, .int .i64 0, .bool false]) w := fun w => by kernel_rfl
theorem zkw (v0 : Int) (v1 : Int) (v2 : Bool) : ∀ w, (Instr.build 37 (#[(0, .int .i64 v0), (1, .int .i64 v1), (4, .bool v2)] : Array (Nat × Value))).run Tryz.prog w = .ok (.agg #[.int .i64 v0, .int .i64 v1, .string ByteArray.empty, .int .i64 0, .bool v2]) w := fun w => by kernel_rfl
theorem zj0 (v0 : Int) (v1 : Int) (v2 : ByteArray) (v3 : Int) (v4 : Bool) (v5 : Int) (v6 : Int) (v7 : ByteArray) (v8 : Int) (v9 : Bool) (v10 : Int) (v11 : Int) (v12 : ByteArray) (v13 : Int) (v14 : Bool) : zby Tryz.prog 30 3 [(0, .agg #[.int .i64 v0, .int .i64 v1, .string v2, .int .i64 v3, .bool v4]), (1, .agg #[.int .i64 v5, .int .i64 v6, .string v7, .int .i64 v8, .bool v9]), (2, .agg #[.int .i64 v10, .int .i64 v11, .string v12, .int .i64 v13, .bool v14])] 37 [.int .i64 v0, .int .i64 v1, .string v2, .int .i64 v3, .bool v4, .int .i64 v5, .int .i64 v6, .string v7, .int .i64 v8, .bool v9, .int .i64 v10, .int .i64 v11, .string v12, .int .i64 v13, .bool v14] := fun w => by kernel_rfl
theorem zkx (v0 : Int) (v1 : ByteArray) (v2 : (Option Addr)) (v3 : Nat) (v4 : Nat) : ∀ w, (Instr.build 35 (#[(0, .int .i64 v0), (1, .string v1), (3, .slice v2 v3 v4)] : Array (Nat × Value))).run Tryz.prog w = .ok (.agg #[.int .i64 v0, .string v1, .string ByteArray.empty, .slice v2 v3 v4, .int .i64 0, .int .i64 0, .int .u64 0]) w := fun w => by kernel_rfl
theorem zfe (v0 : Int) (v1 : ByteArray) : ∀ w, (Instr.build 35 (#[(0, .int .i64 v0), (1, .string v1)] : Array (Nat × Value))).run Tryz.prog w = .ok (.agg #[.int .i64 v0, .string v1, .string ByteArray.empty, .slice none 0 0, .int .i64 0, .int .i64 0, .int .u64 0]) w := fun w => by kernel_rfl
theorem zmk (v0 : Int) (v1 : Int) : ∀ w, (Instr.build 33 (#[(0, .int .i64 v0), (1, .int .i64 v1)] : Array (Nat × Value))).run Tryz.prog w = .ok (.agg #[.int .i64 v0, .int .i64 v1, .int .u64 0]) w := fun w => by kernel_rfl
theorem zky (v0 : Int) (v1 : Int) (v2 : Int) : ∀ w, (Instr.build 33 (#[(0, .int .i64 v0), (1, .int .i64 v1), (2, .int .u64 v2)] : Array (Nat × Value))).run Tryz.prog w = .ok (.agg #[.int .i64 v0, .int .i64 v1, .int .u64 v2]) w := fun w => by kernel_rfl
theorem Mv1_cl : Mv1.cl = 1 := by kernel_rfl
theorem Mv3_cl : Mv3.cl = 2 := by kernel_rfl
theorem Mv5_cl : Mv5.cl = 3 := by kernel_rfl
section
variable {u v x u1 v1 : UInt64} {w w1 c d : Nat} {s : Bool} {a : Int} {b p b2 : Nat} {W : World} {R : List HP} {cc : MH} {tw : Int}
theorem c_stA0 : CSpec Tryz.prog W 8 [ptr b 0, ptr b2 0, .agg #[.int .i64 0, .string nA, .string ByteArray.empty, .slice none 0 0, .int .i64 0, .int .i64 0, .int .u64 0]] [MapP b Mb2, RefP b2 Mb2] (fun _ : Unit => .bool true) (fun _ => True) (fun _ F => MapP b Mv1 :: RefP b2 Mv1 :: F) := zw4 (tv := s3z) (by decide)
theorem c_stA3 {q : Nat} : CSpec Tryz.prog W 8 [ptr b 0, ptr b2 0, .agg #[.int .i64 3, .string nA, .string ByteArray.empty, .slice (some ⟨q, 0, none⟩) 3 3, .int .i64 0, .int .i64 0, .int .u64 0]] [sl tyapi_Target (.slice (some ⟨q, 0, none⟩) 3 3) TB3, MapP b Mv1, RefP b2 Mv1] (fun _ : Unit => .bool true) (fun _ => True) (fun _ F => sl tyapi_Target (.slice (some ⟨q, 0, none⟩) 3 3) TB3 :: MapP b Mv3 :: RefP b2 Mv3 :: F) := zw5 (tv := ⟨some ⟨q, 0, none⟩, 3, 3⟩) (by rw [Mv1_cl]; decide) (Reads.sl _ _ _) (by decide)
theorem c_stA5 : CSpec Tryz.prog W 8 [ptr b 0, ptr b2 0, .agg #[.int .i64 5, .string nA, .string ByteArray.empty, .slice none 0 0, .int .i64 0, .int .i64 0, .int .u64 0]] [MapB b p 2 Mv3, RefP b2 Mv3] (fun _ : Unit => .bool true) (fun _ => True) (fun _ F => MapB b p 2 Mv5 :: RefP b2 Mv5 :: F) := zrb (tv := s3z) (by rw [Mv3_cl]; decide)
theorem c_stA6 : CSpec Tryz.prog W 8 [ptr b 0, ptr b2 0, .agg #[.int .i64 6, .string nA, .string ByteArray.empty, .slice none 0 0, .int .i64 0, .int .i64 0, .int .u64 0]] [MapB b p 2 Mv5, RefP b2 Mv5] (fun _ : Unit => .bool true) (fun _ => True) (fun _ F => MapB b p 2 (St 0 0 0 false 4) :: RefP b2 (St 0 0 0 false 4) :: F) := by
  have h := zrc (W := W) (b := b) (b2 := b2) (p := p) (m := Mv5) (nm := nA) (to := ByteArray.empty) (tv := s3z) (tk := 0) (ta := 0) (tw := 0) (by rw [Mv5_cl]; decide)
  rw [show (Mv5.rsS nA).tick = St 0 0 0 false 4 from Mv6_eq] at h; exact h
theorem c_stL5 (hc : c < 4000) : CSpec Tryz.prog W 8 [ptr b 0, ptr b2 0, .agg #[.int .i64 5, .string nA, .string ByteArray.empty, .slice none 0 0, .int .i64 0, .int .i64 0, .int .u64 0]] [MapB b p 2 (St u v w false c), RefP b2 (St u v w false c)] (fun _ : Unit => .bool true) (fun _ => True) (fun _ F => MapB b p 2 (St u v w true (c + 1)) :: RefP b2 (St u v w true (c + 1)) :: F) := by
  have h := zrb (W := W) (b := b) (b2 := b2) (p := p) (m := St u v w false c) (nm := nA) (to := ByteArray.empty) (tv := s3z) (tk := 0) (ta := 0) (tw := 0) hc
  rw [St_su] at h; exact h
theorem c_stL6 (hc : c < 4000) : CSpec Tryz.prog W 8 [ptr b 0, ptr b2 0, .agg #[.int .i64 6, .string nA, .string ByteArray.empty, .slice none 0 0, .int .i64 0, .int .i64 0, .int .u64 0]] [MapB b p 2 (St u v w true c), RefP b2 (St u v w true c)] (fun _ : Unit => .bool true) (fun _ => True) (fun _ F => MapB b p 2 (St u v w false (c + 1)) :: RefP b2 (St u v w false (c + 1)) :: F) := by
  have h := zrc (W := W) (b := b) (b2 := b2) (p := p) (m := St u v w true c) (nm := nA) (to := ByteArray.empty) (tv := s3z) (tk := 0) (ta := 0) (tw := 0) hc
  rw [St_rs] at h; exact h
theorem c_dvA : CSpec Tryz.prog W 9 [ptr b 0, .string nA] [blk b 84 (zax cc Mv3), MapR cc Mv3] (fun _ : Unit => .tuple #[.iface 87 (.agg #[ptr b 0, ptr (cc.bs 2) 0]), .int .i64 0]) (fun _ => True) (fun _ F => blk b 84 (zax cc Mv3) :: MapR cc Mv3 :: F) := by
  have h := zp2 (W := W) (b := b) (c := cc) (m := Mv3) (n := nA)
  rw [zvi zq8] at h; exact h
theorem c_dvZ : CSpec Tryz.prog W 9 [ptr b 0, .string (ByteArray.mk #[122, 122])] [blk b 84 (zax cc Mv3), MapR cc Mv3] (fun _ : Unit => .tuple #[.nilIface, .int .i64 12]) (fun _ => True) (fun _ F => blk b 84 (zax cc Mv3) :: MapR cc Mv3 :: F) := by
  have h := zp2 (W := W) (b := b) (c := cc) (m := Mv3) (n := ByteArray.mk #[122, 122])
  rw [zw3 zvh] at h; exact h
theorem c_xSz3 : ICall Tryz.prog W (.iface 87 (.agg #[ptr b 0, ptr p 0])) "Size" [] [MapB b p 2 Mv3] (fun _ : Unit => .int .i64 0) (fun _ => True) (fun _ F => MapB b p 2 Mv3 :: F) := by
  have h := c_xSz (W := W) (b := b) (p := p) (m := Mv3) (Md.dev_is zq8).1
  rw [zvg] at h; exact h
theorem c_xSz6 : ICall Tryz.prog W (.iface 87 (.agg #[ptr b 0, ptr p 0])) "Size" [] [MapB b p 2 (St u v w s c)] (fun _ : Unit => .int .i64 4) (fun _ => True) (fun _ F => MapB b p 2 (St u v w s c) :: F) := by
  have h := c_xSz (W := W) (b := b) (p := p) (m := St u v w s c) znl
  rw [zq9] at h; exact h
theorem c_anB (hc : c < 4000) : CSpec Tryz.prog W 13 [ptr b 0] [MapB b p 2 (St u v w s c)] (fun x : Sl3 => x.v) (fun _ => True) (fun x F => sl zau x.v [] :: MapP b (St u v w s c).anS.tick :: F) :=
  CSpec.conseq (zng (m := St u v w s c) hc) (fun _ => zw1) (fun _ _ => Ent.refl)
theorem zld (he : St u1 v1 w1 s c = St u v w s c) (h : c ≤ d) (hd : d ≤ 4000) : Ent (MapB b p 2 (St u1 v1 w1 s c) :: R) (MapB b p 2 (St u v w s d) :: R) := by
  rw [he]; exact zw2 h hd
theorem zty (h : a < 0 ∨ 4 ≤ a) : St (hwU u x s a 0) (hwU v x s a 1) (hwN w s a) s c = St u v w s c := by
  have e0 : a ≠ 0 := by omega
  have e1 : a ≠ 1 := by omega
  unfold hwU hwN
  cases s <;> simp [e0, e1]
theorem zdc (h : a < 0 ∨ 4 ≤ a) : hrE s a = 1 := if_pos h
theorem zdd (h : a < 0 ∨ 4 ≤ a) : hwE s a = 1 := if_pos h
theorem zdt (h : ¬ (a < 0 ∨ 4 ≤ a)) : hrE true a = 20 := if_neg h
theorem zdu (h : ¬ (a < 0 ∨ 4 ≤ a)) : hwE true a = 20 := if_neg h
end
set_option maxHeartbeats 1000000 in
theorem znm {W : World} {A : HP} {v : Sl3} {L : List Int} (hA : Reads A tyI v.v L) (hL : L.length ≤ 9223372036854775807) :
    CSpec Tryz.prog W 3 [v.v] [A] (fun _ : Unit => .bool true) (fun _ => True) (fun _ F => A :: F) := by
 refine CSpec.of_body Tryz.func3 rfl Tryz.ntmps3 rfl fun F => ?_
 show CJ _ _ _ _ _ _ (_ :: F)
 refine sR <| oA rfl rfl <| nT <| sR <| oM rfl rfl <| oO <| zaq ((c_sNew hA hL)) rfl Tryz.call6 (Dels.cons del0 Dels.nil) rfl fun sw ⟨L2, hL2, hA2⟩ => oA rfl rfl <| nT <| sR <| oO <| zaq (zq6) rfl Tryz.call7 Dels.nil rfl fun bg hc5 => oM rfl rfl <| oP (zaw rfl rfl) rfl <| oP (zaw rfl rfl) rfl <| oA rfl rfl <| oA rfl rfl <| nT <| zaf <| sR <| oM rfl rfl <| oP (zd7 rfl rfl Tryz.underlying25) rfl <| oM rfl rfl <| gP (zab rfl rfl rfl rfl) (zag rfl) rfl <| gP (zab rfl rfl rfl rfl) (zag rfl) rfl <| gP (zab rfl rfl rfl rfl) (zbm rfl (zn6 _)) rfl <| RJ_gy (zab rfl rfl rfl rfl) <| zaq (c_stA0) rfl Tryz.call8 (Dels.cons del0 (Dels.cons del0 Dels.nil)) rfl fun _ hc6 => gP (zab rfl rfl rfl rfl) (P_not rfl) rfl <| oP (zay rfl rfl rfl) rfl <| oM rfl rfl <| gP (zab rfl rfl rfl rfl) (zag rfl) rfl <| gP (zab rfl rfl rfl rfl) (zag rfl) rfl <| gP (zab rfl rfl rfl rfl) (zbm rfl (zkv _ _ _)) rfl <| gP (zab rfl rfl rfl rfl) (zbm rfl (zmj _ _)) rfl <| gP (zab rfl rfl rfl rfl) (zbm rfl (zkw _ _ _)) rfl <| RJ_gy (zab rfl rfl rfl rfl) <| zbe rfl (zj0 _ _ _ _ _ _ _ _ _ _ _ _ _ _ _) rfl fun b7 => zei (Ent.trans (t0_ eR) (zdk (t := tyapi_Target) (m := 3) TB3 rfl rfl rfl (by decide))) <| gP (zab rfl rfl rfl rfl) (zbm rfl (zkx _ _ _ _ _)) rfl ?_
 refine RJ_gy (zab rfl rfl rfl rfl) <| zaq (c_stA3) rfl Tryz.call8 (Dels.cons del0 (Dels.cons del0 (Dels.cons del0 Dels.nil))) rfl fun _ hc8 => gP (zab rfl rfl rfl rfl) (P_not rfl) rfl <| oP (zay rfl rfl rfl) rfl <| nT <| za5 rfl rfl <| kT <| zaf <| zbl (zwz foc1) fun hbd => zet (Ent.transX (t1_ eR) zrw) fun mc => zak <| oM rfl rfl <| oO <| zaq ((c_dvA (cc := mc))) rfl Tryz.call9 (Dels.cons del0 (Dels.cons del0 Dels.nil)) rfl fun _ hc9 => oM rfl rfl <| oP (zaw rfl rfl) rfl <| oP (zaw rfl rfl) rfl <| oA rfl rfl <| oA rfl rfl <| nT <| sR <| oM rfl rfl <| oO <| zaq (c_dvZ) rfl Tryz.call9 (Dels.cons del0 (Dels.cons del0 Dels.nil)) rfl fun _ hc10 => oM rfl rfl <| oP (zaw rfl rfl) rfl <| oP (zaw rfl rfl) rfl <| oA rfl rfl <| oA rfl rfl <| nT <| zaf <| zaf <| zbf (Ent.trans (t0_ (t0_ eR)) (zhx (k := 2) hbd rfl)) <| zak <| oM rfl rfl <| oP (P_neq rfl rfl) rfl <| oM rfl rfl ?_
 first | (refine zba 61 rfl (fun hg1B hg1 => ?_) (fun hg1B hg1 => ?_)) | (refine zbb 61 rfl (fun hg1B hg1 => ?_) (fun hg1B hg1 => ?_)) | (refine zbi 61 rfl (fun hg1B => ?_) (fun hg1B => ?_))
 ·
  refine RJ_gn (GY_no rfl rfl rfl hg1B) rfl rfl <| RJ_gn (GY_no rfl rfl rfl hg1B) rfl rfl <| oP (zas rfl hg1B rfl) rfl <| oM rfl rfl <| RJ_gn (GY_no rfl rfl rfl rfl) rfl rfl <| RJ_gn (GY_no rfl rfl rfl rfl) rfl rfl <| oP (zas rfl rfl rfl) rfl <| oM rfl rfl <| RJ_gn (GY_no rfl rfl rfl rfl) rfl rfl <| RJ_gn (GY_no rfl rfl rfl rfl) rfl rfl <| RJ_gn (GY_no rfl rfl rfl rfl) rfl rfl <| oP (zas rfl rfl rfl) rfl <| oM rfl rfl <| RJ_gn (GY_no rfl rfl rfl rfl) rfl rfl <| RJ_gn (GY_no rfl rfl rfl rfl) rfl rfl <| RJ_gn (GY_no rfl rfl rfl rfl) rfl rfl <| RJ_gn (GY_no rfl rfl rfl rfl) rfl rfl <| RJ_gn (GY_no rfl rfl rfl rfl) rfl rfl <| oP (zas rfl rfl rfl) rfl <| oM rfl rfl <| RJ_gn (GY_no rfl rfl rfl rfl) rfl rfl <| RJ_gn (GY_no rfl rfl rfl rfl) rfl rfl <| RJ_gn (GY_no rfl rfl rfl rfl) rfl rfl <| RJ_gn (GY_no rfl rfl rfl rfl) rfl rfl <| RJ_gn (GY_no rfl rfl rfl rfl) rfl rfl <| oP (zas rfl rfl rfl) rfl <| oM rfl rfl <| RJ_gn (GY_no rfl rfl rfl rfl) rfl rfl <| RJ_gn (GY_no rfl rfl rfl rfl) rfl rfl <| RJ_gn (GY_no rfl rfl rfl rfl) rfl rfl <| oP (zas rfl rfl rfl) rfl <| nT <| za4 rfl rfl <| sR <| oA rfl rfl <| nT <| zai <| zad ?_
  exfalso; first | omega | (simp_all; done) | (have q1 := zdc (s := d1) (a := sr.1) (by omega); have q2 := zdd (s := d1) (a := sr.1) (by omega); simp_all; done) | (have q1 := zdt (a := sr.1) (by omega); have q2 := zdu (a := sr.1) (by omega); simp_all)
 ·
  refine gP (zab rfl rfl rfl hg1B) (zag rfl) rfl <| gP (zab rfl rfl rfl hg1B) (zpa rfl rfl Tryz.underlying39) rfl <| oP (zay rfl hg1B rfl) rfl <| oM rfl rfl <| gP (zab rfl rfl rfl rfl) (zag rfl) rfl <| gP (zab rfl rfl rfl rfl) (P_neq rfl rfl) rfl <| oP (zay rfl rfl rfl) rfl <| oM rfl rfl ?_
  first | (refine zba 69 rfl (fun hg2B hg2 => ?_) (fun hg2B hg2 => ?_)) | (refine zbb 69 rfl (fun hg2B hg2 => ?_) (fun hg2B hg2 => ?_)) | (refine zbi 69 rfl (fun hg2B => ?_) (fun hg2B => ?_))
  ·
   refine RJ_gn (GY_no rfl rfl rfl hg2B) rfl rfl <| RJ_gn (GY_no rfl rfl rfl hg2B) rfl rfl <| RJ_gn (GY_no rfl rfl rfl hg2B) rfl rfl <| oP (zas rfl hg2B rfl) rfl <| oM rfl rfl <| RJ_gn (GY_no rfl rfl rfl rfl) rfl rfl <| RJ_gn (GY_no rfl rfl rfl rfl) rfl rfl <| RJ_gn (GY_no rfl rfl rfl rfl) rfl rfl <| RJ_gn (GY_no rfl rfl rfl rfl) rfl rfl <| RJ_gn (GY_no rfl rfl rfl rfl) rfl rfl <| oP (zas rfl rfl rfl) rfl <| oM rfl rfl <| RJ_gn (GY_no rfl rfl rfl rfl) rfl rfl <| RJ_gn (GY_no rfl rfl rfl rfl) rfl rfl <| RJ_gn (GY_no rfl rfl rfl rfl) rfl rfl <| RJ_gn (GY_no rfl rfl rfl rfl) rfl rfl <| RJ_gn (GY_no rfl rfl rfl rfl) rfl rfl <| oP (zas rfl rfl rfl) rfl <| oM rfl rfl <| RJ_gn (GY_no rfl rfl rfl rfl) rfl rfl <| RJ_gn (GY_no rfl rfl rfl rfl) rfl rfl <| RJ_gn (GY_no rfl rfl rfl rfl) rfl rfl <| oP (zas rfl rfl rfl) rfl <| nT <| za4 rfl rfl <| sR <| oA rfl rfl <| nT <| zai <| zad ?_
   exfalso; first | omega | (simp_all; done) | (have q1 := zdc (s := d1) (a := sr.1) (by omega); have q2 := zdd (s := d1) (a := sr.1) (by omega); simp_all; done) | (have q1 := zdt (a := sr.1) (by omega); have q2 := zdu (a := sr.1) (by omega); simp_all)
  ·
   refine gP (zab rfl rfl rfl hg2B) (zag rfl) rfl <| RJ_gy (zab rfl rfl rfl hg2B) <| zeg rfl c_xSz3 rfl (Dels.cons del0 Dels.nil) rfl fun _ hc11 => gP (zab rfl rfl rfl hg2B) (P_neq rfl rfl) rfl <| oP (zay rfl hg2B rfl) rfl <| oM rfl rfl ?_
   first | (refine zba 74 rfl (fun hg3B hg3 => ?_) (fun hg3B hg3 => ?_)) | (refine zbb 74 rfl (fun hg3B hg3 => ?_) (fun hg3B hg3 => ?_)) | (refine zbi 74 rfl (fun hg3B => ?_) (fun hg3B => ?_))
   ·
    refine RJ_gn (GY_no rfl rfl rfl hg3B) rfl rfl <| RJ_gn (GY_no rfl rfl rfl hg3B) rfl rfl <| RJ_gn (GY_no rfl rfl rfl hg3B) rfl rfl <| RJ_gn (GY_no rfl rfl rfl hg3B) rfl rfl <| RJ_gn (GY_no rfl rfl rfl hg3B) rfl rfl <| oP (zas rfl hg3B rfl) rfl <| oM rfl rfl <| RJ_gn (GY_no rfl rfl rfl rfl) rfl rfl <| RJ_gn (GY_no rfl rfl rfl rfl) rfl rfl <| RJ_gn (GY_no rfl rfl rfl rfl) rfl rfl <| RJ_gn (GY_no rfl rfl rfl rfl) rfl rfl <| RJ_gn (GY_no rfl rfl rfl rfl) rfl rfl <| oP (zas rfl rfl rfl) rfl <| oM rfl rfl <| RJ_gn (GY_no rfl rfl rfl rfl) rfl rfl <| RJ_gn (GY_no rfl rfl rfl rfl) rfl rfl <| RJ_gn (GY_no rfl rfl rfl rfl) rfl rfl <| oP (zas rfl rfl rfl) rfl <| nT <| za4 rfl rfl <| sR <| oA rfl rfl <| nT <| zai <| zad ?_
    exfalso; first | omega | (simp_all; done) | (have q1 := zdc (s := d1) (a := sr.1) (by omega); have q2 := zdd (s := d1) (a := sr.1) (by omega); simp_all; done) | (have q1 := zdt (a := sr.1) (by omega); have q2 := zdu (a := sr.1) (by omega); simp_all)
   ·
    refine gP (zab rfl rfl rfl hg3B) (zag rfl) rfl <| gP (zab rfl rfl rfl hg3B) (zag rfl) rfl <| gP (zab rfl rfl rfl hg3B) (zbm rfl (zfe _ _)) rfl <| RJ_gy (zab rfl rfl rfl hg3B) <| zaq (c_stA5) rfl Tryz.call8 (Dels.cons del0 (Dels.cons del1 Dels.nil)) rfl fun _ hc12 => gP (zab rfl rfl rfl hg3B) (P_not rfl) rfl <| oP (zay rfl hg3B rfl) rfl <| oM rfl rfl <| gP (zab rfl rfl rfl rfl) (zag rfl) rfl <| gP (zab rfl rfl rfl rfl) (zag rfl) rfl <| gP (zab rfl rfl rfl rfl) (zbm rfl (zfe _ _)) rfl <| RJ_gy (zab rfl rfl rfl rfl) <| zaq (c_stA6) rfl Tryz.call8 (Dels.cons del0 (Dels.cons del0 Dels.nil)) rfl fun _ hc13 => gP (zab rfl rfl rfl rfl) (P_not rfl) rfl <| oP (zay rfl rfl rfl) rfl <| oM rfl rfl <| gP (zab rfl rfl rfl rfl) (zag rfl) rfl <| RJ_gy (zab rfl rfl rfl rfl) <| zeg rfl c_xSz6 rfl (Dels.cons del0 Dels.nil) rfl fun _ hc14 => gP (zab rfl rfl rfl rfl) (P_neq rfl rfl) rfl <| oP (zay rfl rfl rfl) rfl <| nT ?_
    first | (refine zao rfl (fun hg4 => ?_) (fun hg4 => ?_)) | (refine zap rfl (fun hg4 => ?_) (fun hg4 => ?_)) | (refine zar rfl (fun hg4 => ?_) (fun hg4 => ?_))
    ·
     refine sR <| oA rfl rfl <| nT <| zai <| zad ?_
     exfalso; first | omega | (simp_all; done) | (have q1 := zdc (s := d1) (a := sr.1) (by omega); have q2 := zdd (s := d1) (a := sr.1) (by omega); simp_all; done) | (have q1 := zdt (a := sr.1) (by omega); have q2 := zdu (a := sr.1) (by omega); simp_all)
    ·
     refine kT <| sR <| oA rfl rfl <| nT <| zaf <| sR <| oM rfl rfl <| oO <| zaq ((c_sN hA2 hL2 (by omega) (n := 20) (by omega))) rfl Tryz.call10 (Dels.cons del3 (Dels.cons del3 Dels.nil)) rfl fun s15 hs16 => oA rfl rfl <| nT <| zat <| zbs (X := Int × Int × UInt64 × UInt64 × Nat × Nat × Bool) [2, 10, 11, 12, 13, 14, 15, 16, 17, 18, 19, 20, 21, 22, 95, 96, 97, 98, 99, 100, 101, 102, 103, 104, 105, 106, 107, 108, 109, 110, 111, 112, 113, 114, 115, 116, 117, 118, 119, 120, 121, 122, 123, 124, 125, 126, 127, 128, 129, 130, 131, 132, 133, 134, 135, 136, 137, 138, 139, 140, 141, 142, 143, 144, 145, 146, 147, 148, 149, 150, 151, 152, 153, 154, 155, 156, 157, 158, 159, 160, 161, 162, 163, 164, 165, 166, 167, 168, 169, 170, 171, 172, 173, 174, 175, 176, 177, 178, 179, 180, 181, 182, 183, 184, 185, 186, 187, 188, 189, 190, 191, 192, 193, 194, 195, 196] (fun ⟨i, a, u, v, w, c, dn⟩  => ([(11, .int .i64 i), (10, .bool dn)] : Slots)) (fun ⟨i, a, u, v, w, c, dn⟩ R => blk sw.1 63 [sw.2, .int .i64 a] :: MapB bg.1 (mc.bs 2) 2 (St u v w dn c) :: RefP bg.2 (St u v w dn c) :: R) (fun ⟨i, a, u, v, w, c, dn⟩  => 0 ≤ i ∧ i ≤ 20 ∧ (c : Int) ≤ 164 - 8 * i ∧ 0 ≤ 0 ∧ 0 ≤ a ∧ a ≤ 1000) (fun ⟨i, a, u, v, w, c, dn⟩  => i.toNat) ⟨s15.1, s15.2, 0, 0, 0, 4, false⟩ ?_ ?_ (t0_ (t1_ (t1_ (t0_ (t0_ eR))))) ?_
     · exact ⟨by omega, by omega, by omega, Nat.le_refl 0, hs16.1⟩
     · exact ⟨rfl, rfl, True.intro⟩
     ·
      rintro ⟨i, a, u, v, w, c, dn⟩ ⟨hi0, hi1, hcl, _, ha⟩
      show CJ _ _ _ _ _ (([(11, .int .i64 i), (10, .bool dn)] : Slots) ++ forget _ _) (blk sw.1 63 [sw.2, .int .i64 a] :: MapB bg.1 (mc.bs 2) 2 (St u v w dn c) :: RefP bg.2 (St u v w dn c) :: _)
      refine zaf <| sR <| oM rfl rfl <| oP (P_gtr rfl rfl) rfl <| nT ?_
      first | (refine zao rfl (fun hg5 => ?_) (fun hg5 => ?_)) | (refine zap rfl (fun hg5 => ?_) (fun hg5 => ?_)) | (refine zar rfl (fun hg5 => ?_) (fun hg5 => ?_))
      ·
       refine kT <| zaf <| zat <| sR <| oM rfl rfl <| oO <| zaq ((zvj hA2 hL2 ha (lo := -1) (hi := 5) (by omega))) rfl Tryz.call11 (Dels.cons del0 (Dels.cons del2 Dels.nil)) rfl fun sr hsr => oM rfl rfl <| oO <| zaq ((c_sN hA2 hL2 hsr.1 (n := 100) (by omega))) rfl Tryz.call10 (Dels.cons del0 (Dels.cons del0 Dels.nil)) rfl fun s19 hs20 => oP (zvn rfl Tryz.runUnderlying3 Tryz.runUnderlying31) rfl <| oA rfl rfl <| oA rfl rfl <| nT <| zgp (X := Bool × Nat × Int) [2, 10, 14, 104, 105, 106, 107, 108, 109, 110, 111, 112, 113, 114, 115] (fun ⟨d1, c1, a1⟩  => ([(10, .bool d1)] : Slots)) (fun ⟨d1, c1, a1⟩ R => blk sw.1 63 [sw.2, .int .i64 a1] :: MapB bg.1 (mc.bs 2) 2 (St u v w d1 c1) :: RefP bg.2 (St u v w d1 c1) :: R) (fun ⟨d1, c1, a1⟩  => c1 ≤ c + 1 ∧ 0 ≤ a1 ∧ a1 ≤ 1000) (Dels.cons del0 (Dels.cons del1 (Dels.cons del1 Dels.nil))) ?_ ?_
       ·
        refine sR <| oM rfl rfl <| oO <| zaq ((c_sN hA2 hL2 hs20.1 (n := 5) (by omega))) rfl Tryz.call10 (Dels.cons del0 (Dels.cons del0 Dels.nil)) rfl fun s22 hs23 => oP (P_eql rfl rfl) rfl <| nT ?_
        first | (refine zao rfl (fun hg6 => ?_) (fun hg6 => ?_)) | (refine zap rfl (fun hg6 => ?_) (fun hg6 => ?_)) | (refine zar rfl (fun hg6 => ?_) (fun hg6 => ?_))
        ·
         refine sR <| oA rfl rfl <| nT <| zaf <| sR <| oM rfl rfl <| nT ?_
         first | (refine zao rfl (fun hg7 => ?_) (fun hg7 => ?_)) | (refine zap rfl (fun hg7 => ?_) (fun hg7 => ?_)) | (refine zar rfl (fun hg7 => ?_) (fun hg7 => ?_))
         ·
          subst hg7
          exact zak <| oA rfl rfl <| nT <| zaf <| sR <| oM rfl rfl <| oM rfl rfl <| oM rfl rfl <| oP (zbm rfl (zfe _ _)) rfl <| oO <| zaq ((c_stL6 (by omega))) rfl Tryz.call8 (Dels.cons del2 (Dels.cons del2 Dels.nil)) rfl fun _ hc25 => oP (P_not rfl) rfl <| nT <| za5 rfl rfl <| kT <| zak <| oM rfl rfl <| oP (P_not rfl) rfl <| oA rfl rfl <| za9 <| cR ⟨false, (c + 1), s22.2⟩ ⟨by omega, hs23.1⟩ ⟨rfl, True.intro⟩ (t2_ (t0_ (t0_ (t0_ (t0_ eR)))))
         ·
          subst hg7
          exact kT <| zaf <| sR <| oM rfl rfl <| oM rfl rfl <| oM rfl rfl <| oP (zbm rfl (zfe _ _)) rfl <| oO <| zaq ((c_stL5 (by omega))) rfl Tryz.call8 (Dels.cons del2 (Dels.cons del2 Dels.nil)) rfl fun _ hc26 => oP (P_not rfl) rfl <| nT <| za5 rfl rfl <| kT <| zak <| oM rfl rfl <| oP (P_not rfl) rfl <| oA rfl rfl <| za9 <| cR ⟨true, (c + 1), s22.2⟩ ⟨by omega, hs23.1⟩ ⟨rfl, True.intro⟩ (t2_ (t0_ (t0_ (t0_ (t0_ eR)))))
        ·
         exact zbk <| cR ⟨dn, c, s22.2⟩ ⟨by omega, hs23.1⟩ ⟨rfl, True.intro⟩ (t0_ (t1_ (t1_ (t0_ (t0_ eR)))))
       ·
        rintro ⟨d1, c1, a1⟩ ⟨hc1, ha1⟩
        show CJ _ _ _ _ _ (([(10, .bool d1)] : Slots) ++ forget _ _) (blk sw.1 63 [sw.2, .int .i64 a1] :: MapB bg.1 (mc.bs 2) 2 (St u v w d1 c1) :: RefP bg.2 (St u v w d1 c1) :: _)
        refine sR <| oM rfl rfl <| oP (P_lss rfl rfl) rfl <| oM rfl rfl ?_
        first | (refine zba 118 rfl (fun hg8B hg8 => ?_) (fun hg8B hg8 => ?_)) | (refine zbb 118 rfl (fun hg8B hg8 => ?_) (fun hg8B hg8 => ?_)) | (refine zbi 118 rfl (fun hg8B => ?_) (fun hg8B => ?_))
        ·
         refine RJ_gn (GY_no rfl rfl rfl hg8B) rfl rfl <| RJ_gn (GY_no rfl rfl rfl hg8B) rfl rfl <| oP (zas rfl hg8B rfl) rfl <| oA rfl rfl <| nT <| sR <| oM rfl rfl <| oM rfl rfl <| oO <| zeg rfl (c_xRd (by omega) (by omega)) rfl (Dels.cons del1 Dels.nil) rfl fun _ hc27 => oM rfl rfl <| oP (zaw rfl rfl) rfl <| oP (zaw rfl rfl) rfl <| oA rfl rfl <| oA rfl rfl <| nT <| sR <| oM rfl rfl <| oM rfl rfl <| oM rfl rfl <| oO <| zeg rfl (c_xWr (by omega) (by omega)) rfl (Dels.cons del0 Dels.nil) rfl fun _ hc28 => oA rfl rfl <| nT <| zat <| sR <| oM rfl rfl <| oA rfl rfl <| nT <| za4 rfl rfl <| sR <| oM rfl rfl <| oP (P_neq rfl rfl) rfl <| oM rfl rfl ?_
         first | (refine zba 180 rfl (fun hg9B hg9 => ?_) (fun hg9B hg9 => ?_)) | (refine zbb 180 rfl (fun hg9B hg9 => ?_) (fun hg9B hg9 => ?_)) | (refine zbi 180 rfl (fun hg9B => ?_) (fun hg9B => ?_))
         ·
          refine RJ_gn (GY_no rfl rfl rfl hg9B) rfl rfl <| RJ_gn (GY_no rfl rfl rfl hg9B) rfl rfl <| oP (zas rfl hg9B rfl) rfl <| nT <| za4 rfl rfl <| sR <| oA rfl rfl <| nT <| zai <| zaj <| zaj <| zad <| zbd <| zaj <| zad ?_
          exfalso; first | omega | (simp_all; done) | (have q1 := zdc (s := d1) (a := sr.1) (by omega); have q2 := zdd (s := d1) (a := sr.1) (by omega); simp_all; done) | (have q1 := zdt (a := sr.1) (by omega); have q2 := zdu (a := sr.1) (by omega); simp_all)
         ·
          refine gP (zab rfl rfl rfl hg9B) (zag rfl) rfl <| gP (zab rfl rfl rfl hg9B) (P_neq rfl rfl) rfl <| oP (zay rfl hg9B rfl) rfl <| nT ?_
          first | (refine zao rfl (fun hg10 => ?_) (fun hg10 => ?_)) | (refine zap rfl (fun hg10 => ?_) (fun hg10 => ?_)) | (refine zar rfl (fun hg10 => ?_) (fun hg10 => ?_))
          ·
           refine sR <| oA rfl rfl <| nT <| zai <| zaj <| zaj <| zad <| zbd <| zaj <| zad ?_
           exfalso; first | omega | (simp_all; done) | (have q1 := zdc (s := d1) (a := sr.1) (by omega); have q2 := zdd (s := d1) (a := sr.1) (by omega); simp_all; done) | (have q1 := zdt (a := sr.1) (by omega); have q2 := zdu (a := sr.1) (by omega); simp_all)
          ·
           refine zbk <| zal <| zal <| zav <| zak <| oM rfl rfl <| oP (P_sub rfl rfl (by omega)) rfl <| oA rfl rfl <| za9 <| zbg ⟨i - 1, a1, u, v, w, (c + 8), d1⟩ (by show (i - 1).toNat < i.toNat; omega) ?_ (by repeat (first | exact Kp.base | exact Kp.self | refine Kp.cons rfl ?_ | refine Kp.forget rfl ?_)) ?_ (Ent.trans (Ent.trans (t0_ eR) (zld (zty (by omega)) (by omega) (by omega))) (Ent.trans (Ent.trans (t2_ eR) (zlc (by omega) (by omega))) (t2_ (t1_ (t0_ (t0_ (t0_ eR)))))))
           · exact ⟨by omega, by omega, by omega, by omega, ha1⟩
           · exact ⟨rfl, rfl, True.intro⟩
        ·
         refine gP (zab rfl rfl rfl hg8B) (zag rfl) rfl <| gP (zab rfl rfl rfl hg8B) (P_geq rfl rfl) rfl <| oP (zay rfl hg8B rfl) rfl <| oA rfl rfl <| nT <| sR <| oM rfl rfl <| oM rfl rfl <| oO <| zeg rfl (c_xRd (by omega) (by omega)) rfl (Dels.cons del1 Dels.nil) rfl fun _ hc29 => oM rfl rfl <| oP (zaw rfl rfl) rfl <| oP (zaw rfl rfl) rfl <| oA rfl rfl <| oA rfl rfl <| nT <| sR <| oM rfl rfl <| oM rfl rfl <| oM rfl rfl <| oO <| zeg rfl (c_xWr (by omega) (by omega)) rfl (Dels.cons del0 Dels.nil) rfl fun _ hc30 => oA rfl rfl <| nT <| zat <| sR <| oM rfl rfl <| oA rfl rfl <| nT ?_
         first | (refine zao rfl (fun hg11 => ?_) (fun hg11 => ?_)) | (refine zap rfl (fun hg11 => ?_) (fun hg11 => ?_)) | (refine zar rfl (fun hg11 => ?_) (fun hg11 => ?_))
         ·
          refine sR <| oM rfl rfl <| oP (P_neq rfl rfl) rfl <| oM rfl rfl ?_
          first | (refine zba 180 rfl (fun hg12B hg12 => ?_) (fun hg12B hg12 => ?_)) | (refine zbb 180 rfl (fun hg12B hg12 => ?_) (fun hg12B hg12 => ?_)) | (refine zbi 180 rfl (fun hg12B => ?_) (fun hg12B => ?_))
          ·
           refine RJ_gn (GY_no rfl rfl rfl hg12B) rfl rfl <| RJ_gn (GY_no rfl rfl rfl hg12B) rfl rfl <| oP (zas rfl hg12B rfl) rfl <| nT <| za4 rfl rfl <| sR <| oA rfl rfl <| nT <| zai <| zaj <| zaj <| zad <| zbd <| zaj <| zad ?_
           exfalso; first | omega | (simp_all; done) | (have q1 := zdc (s := d1) (a := sr.1) (by omega); have q2 := zdd (s := d1) (a := sr.1) (by omega); simp_all; done) | (have q1 := zdt (a := sr.1) (by omega); have q2 := zdu (a := sr.1) (by omega); simp_all)
          ·
           refine gP (zab rfl rfl rfl hg12B) (zag rfl) rfl <| gP (zab rfl rfl rfl hg12B) (P_neq rfl rfl) rfl <| oP (zay rfl hg12B rfl) rfl <| nT ?_
           first | (refine zao rfl (fun hg13 => ?_) (fun hg13 => ?_)) | (refine zap rfl (fun hg13 => ?_) (fun hg13 => ?_)) | (refine zar rfl (fun hg13 => ?_) (fun hg13 => ?_))
           ·
            refine sR <| oA rfl rfl <| nT <| zai <| zaj <| zaj <| zad <| zbd <| zaj <| zad ?_
            exfalso; first | omega | (simp_all; done) | (have q1 := zdc (s := d1) (a := sr.1) (by omega); have q2 := zdd (s := d1) (a := sr.1) (by omega); simp_all; done) | (have q1 := zdt (a := sr.1) (by omega); have q2 := zdu (a := sr.1) (by omega); simp_all)
           ·
            refine zbk <| zal <| zal <| zav <| zak <| oM rfl rfl <| oP (P_sub rfl rfl (by omega)) rfl <| oA rfl rfl <| za9 <| zbg ⟨i - 1, a1, u, v, w, (c + 8), d1⟩ (by show (i - 1).toNat < i.toNat; omega) ?_ (by repeat (first | exact Kp.base | exact Kp.self | refine Kp.cons rfl ?_ | refine Kp.forget rfl ?_)) ?_ (Ent.trans (Ent.trans (t0_ eR) (zld (zty (by omega)) (by omega) (by omega))) (Ent.trans (Ent.trans (t2_ eR) (zlc (by omega) (by omega))) (t2_ (t1_ (t0_ (t0_ (t0_ eR)))))))
            · exact ⟨by omega, by omega, by omega, by omega, ha1⟩
            · exact ⟨rfl, rfl, True.intro⟩
         ·
          refine sR <| oM rfl rfl <| oA rfl rfl <| nT ?_
          first | (refine zao rfl (fun hg14 => ?_) (fun hg14 => ?_)) | (refine zap rfl (fun hg14 => ?_) (fun hg14 => ?_)) | (refine zar rfl (fun hg14 => ?_) (fun hg14 => ?_))
          ·
           subst hg14
           refine sR <| oM rfl rfl <| oP (P_neq rfl rfl) rfl <| oM rfl rfl ?_
           first | (refine zba 188 rfl (fun hg15B hg15 => ?_) (fun hg15B hg15 => ?_)) | (refine zbb 188 rfl (fun hg15B hg15 => ?_) (fun hg15B hg15 => ?_)) | (refine zbi 188 rfl (fun hg15B => ?_) (fun hg15B => ?_))
           ·
            refine RJ_gn (GY_no rfl rfl rfl hg15B) rfl rfl <| RJ_gn (GY_no rfl rfl rfl hg15B) rfl rfl <| oP (zas rfl hg15B rfl) rfl <| oM rfl rfl <| RJ_gn (GY_no rfl rfl rfl rfl) rfl rfl <| RJ_gn (GY_no rfl rfl rfl rfl) rfl rfl <| RJ_gn (GY_no rfl rfl rfl rfl) rfl rfl <| oP (zas rfl rfl rfl) rfl <| nT <| za4 rfl rfl <| sR <| oA rfl rfl <| nT <| zai <| zaj <| zaj <| zad <| zbd <| zaj <| zad ?_
            exfalso; first | omega | (simp_all; done) | (have q1 := zdc (s := d1) (a := sr.1) (by omega); have q2 := zdd (s := d1) (a := sr.1) (by omega); simp_all; done) | (have q1 := zdt (a := sr.1) (by omega); have q2 := zdu (a := sr.1) (by omega); simp_all)
           ·
            refine gP (zab rfl rfl rfl hg15B) (zag rfl) rfl <| gP (zab rfl rfl rfl hg15B) (P_neq rfl rfl) rfl <| oP (zay rfl hg15B rfl) rfl <| oM rfl rfl ?_
            first | (refine zba 192 rfl (fun hg16B hg16 => ?_) (fun hg16B hg16 => ?_)) | (refine zbb 192 rfl (fun hg16B hg16 => ?_) (fun hg16B hg16 => ?_)) | (refine zbi 192 rfl (fun hg16B => ?_) (fun hg16B => ?_))
            ·
             refine RJ_gn (GY_no rfl rfl rfl hg16B) rfl rfl <| RJ_gn (GY_no rfl rfl rfl hg16B) rfl rfl <| RJ_gn (GY_no rfl rfl rfl hg16B) rfl rfl <| oP (zas rfl hg16B rfl) rfl <| nT <| za4 rfl rfl <| sR <| oA rfl rfl <| nT <| zai <| zaj <| zaj <| zad <| zbd <| zaj <| zad ?_
             exfalso; first | omega | (simp_all; done) | (have q1 := zdc (s := d1) (a := sr.1) (by omega); have q2 := zdd (s := d1) (a := sr.1) (by omega); simp_all; done) | (have q1 := zdt (a := sr.1) (by omega); have q2 := zdu (a := sr.1) (by omega); simp_all)
            ·
             refine gP (zab rfl rfl rfl hg16B) (zag rfl) rfl <| RJ_gy (zab rfl rfl rfl hg16B) <| zeg rfl (c_xFl (by omega)) rfl (Dels.cons del0 Dels.nil) rfl fun _ hc31 => gP (zab rfl rfl rfl hg16B) (P_neq rfl rfl) rfl <| oP (zay rfl hg16B rfl) rfl <| nT ?_
             first | (refine zao rfl (fun hg17 => ?_) (fun hg17 => ?_)) | (refine zap rfl (fun hg17 => ?_) (fun hg17 => ?_)) | (refine zar rfl (fun hg17 => ?_) (fun hg17 => ?_))
             ·
              refine sR <| oA rfl rfl <| nT <| zai <| zaj <| zaj <| zad <| zbd <| zaj <| zad ?_
              exfalso; first | omega | (simp_all; done) | (have q1 := zdc (s := d1) (a := sr.1) (by omega); have q2 := zdd (s := d1) (a := sr.1) (by omega); simp_all; done) | (have q1 := zdt (a := sr.1) (by omega); have q2 := zdu (a := sr.1) (by omega); simp_all)
             ·
              refine zbk <| zal <| zal <| zav <| zak <| oM rfl rfl <| oP (P_sub rfl rfl (by omega)) rfl <| oA rfl rfl <| za9 <| zbg ⟨i - 1, a1, u, v, w, (c + 8), true⟩ (by show (i - 1).toNat < i.toNat; omega) ?_ (by repeat (first | exact Kp.base | exact Kp.self | refine Kp.cons rfl ?_ | refine Kp.forget rfl ?_)) ?_ (Ent.trans (Ent.trans (t0_ eR) (zld (rfl) (by omega) (by omega))) (Ent.trans (Ent.trans (t2_ eR) (zlc (by omega) (by omega))) (t2_ (t1_ (t0_ (t0_ (t0_ eR)))))))
              · exact ⟨by omega, by omega, by omega, by omega, ha1⟩
              · exact ⟨rfl, rfl, True.intro⟩
          ·
           subst hg14
           refine sR <| oM rfl rfl <| oM rfl rfl <| oP (zbm rfl (zmk _ _)) rfl <| oO <| zaq ((c_yRd (by omega) (by omega))) rfl Tryz.call12 (Dels.cons del2 Dels.nil) rfl fun _ hc32 => oM rfl rfl <| oP (zaw rfl rfl) rfl <| oP (zaw rfl rfl) rfl <| oO <| zb1 Tryz.zeroValue51 rfl rfl fun b33 => oO <| zbn rfl rfl foc0 Tryz.sizeOf51 rfl rfl rfl <| oA rfl rfl <| nT <| sR <| oM rfl rfl <| oM rfl rfl <| oM rfl rfl <| oP (zbm rfl (zky _ _ _)) rfl <| oO <| zaq ((c_yWr (by omega) (by omega))) rfl Tryz.call12 (Dels.cons del1 Dels.nil) rfl fun _ hc34 => oM rfl rfl <| oP (zaw rfl rfl) rfl <| oP (zaw rfl rfl) rfl <| oO <| zb1 Tryz.zeroValue51 rfl rfl fun b35 => oO <| zbn rfl rfl foc0 Tryz.sizeOf51 rfl rfl rfl <| oA rfl rfl <| nT <| sR <| oM rfl rfl <| oP (P_neq rfl rfl) rfl <| oM rfl rfl ?_
           first | (refine zba 149 rfl (fun hg18B hg18 => ?_) (fun hg18B hg18 => ?_)) | (refine zbb 149 rfl (fun hg18B hg18 => ?_) (fun hg18B hg18 => ?_)) | (refine zbi 149 rfl (fun hg18B => ?_) (fun hg18B => ?_))
           ·
            refine RJ_gn (GY_no rfl rfl rfl hg18B) rfl rfl <| RJ_gn (GY_no rfl rfl rfl hg18B) rfl rfl <| oP (zas rfl hg18B rfl) rfl <| oM rfl rfl <| RJ_gn (GY_no rfl rfl rfl rfl) rfl rfl <| RJ_gn (GY_no rfl rfl rfl rfl) rfl rfl <| RJ_gn (GY_no rfl rfl rfl rfl) rfl rfl <| RJ_gn (GY_no rfl rfl rfl rfl) rfl rfl <| oP (zas rfl rfl rfl) rfl <| oM rfl rfl <| RJ_gn (GY_no rfl rfl rfl rfl) rfl rfl <| RJ_gn (GY_no rfl rfl rfl rfl) rfl rfl <| RJ_gn (GY_no rfl rfl rfl rfl) rfl rfl <| RJ_gn (GY_no rfl rfl rfl rfl) rfl rfl <| oP (zas rfl rfl rfl) rfl <| oM rfl rfl <| RJ_gn (GY_no rfl rfl rfl rfl) rfl rfl <| RJ_gn (GY_no rfl rfl rfl rfl) rfl rfl <| RJ_gn (GY_no rfl rfl rfl rfl) rfl rfl <| RJ_gn (GY_no rfl rfl rfl rfl) rfl rfl <| oP (zas rfl rfl rfl) rfl <| oM rfl rfl <| RJ_gn (GY_no rfl rfl rfl rfl) rfl rfl <| RJ_gn (GY_no rfl rfl rfl rfl) rfl rfl <| RJ_gn (GY_no rfl rfl rfl rfl) rfl rfl <| oP (zas rfl rfl rfl) rfl <| nT <| za4 rfl rfl <| sR <| oA rfl rfl <| nT <| zai <| zaj <| zaj <| zad <| zbd <| zaj <| zad ?_
            exfalso; first | omega | (simp_all; done) | (have q1 := zdc (s := d1) (a := sr.1) (by omega); have q2 := zdd (s := d1) (a := sr.1) (by omega); simp_all; done) | (have q1 := zdt (a := sr.1) (by omega); have q2 := zdu (a := sr.1) (by omega); simp_all)
           ·
            refine gP (zab rfl rfl rfl hg18B) (zag rfl) rfl <| gP (zab rfl rfl rfl hg18B) (P_neq rfl rfl) rfl <| oP (zay rfl hg18B rfl) rfl <| oM rfl rfl ?_
            first | (refine zba 153 rfl (fun hg19B hg19 => ?_) (fun hg19B hg19 => ?_)) | (refine zbb 153 rfl (fun hg19B hg19 => ?_) (fun hg19B hg19 => ?_)) | (refine zbi 153 rfl (fun hg19B => ?_) (fun hg19B => ?_))
            ·
             refine RJ_gn (GY_no rfl rfl rfl hg19B) rfl rfl <| RJ_gn (GY_no rfl rfl rfl hg19B) rfl rfl <| RJ_gn (GY_no rfl rfl rfl hg19B) rfl rfl <| RJ_gn (GY_no rfl rfl rfl hg19B) rfl rfl <| oP (zas rfl hg19B rfl) rfl <| oM rfl rfl <| RJ_gn (GY_no rfl rfl rfl rfl) rfl rfl <| RJ_gn (GY_no rfl rfl rfl rfl) rfl rfl <| RJ_gn (GY_no rfl rfl rfl rfl) rfl rfl <| RJ_gn (GY_no rfl rfl rfl rfl) rfl rfl <| oP (zas rfl rfl rfl) rfl <| oM rfl rfl <| RJ_gn (GY_no rfl rfl rfl rfl) rfl rfl <| RJ_gn (GY_no rfl rfl rfl rfl) rfl rfl <| RJ_gn (GY_no rfl rfl rfl rfl) rfl rfl <| RJ_gn (GY_no rfl rfl rfl rfl) rfl rfl <| oP (zas rfl rfl rfl) rfl <| oM rfl rfl <| RJ_gn (GY_no rfl rfl rfl rfl) rfl rfl <| RJ_gn (GY_no rfl rfl rfl rfl) rfl rfl <| RJ_gn (GY_no rfl rfl rfl rfl) rfl rfl <| oP (zas rfl rfl rfl) rfl <| nT <| za4 rfl rfl <| sR <| oA rfl rfl <| nT <| zai <| zaj <| zaj <| zad <| zbd <| zaj <| zad ?_
             exfalso; first | omega | (simp_all; done) | (have q1 := zdc (s := d1) (a := sr.1) (by omega); have q2 := zdd (s := d1) (a := sr.1) (by omega); simp_all; done) | (have q1 := zdt (a := sr.1) (by omega); have q2 := zdu (a := sr.1) (by omega); simp_all)
            ·
             refine gP (zab rfl rfl rfl hg19B) (zaa rfl ⟨_, _, _, Tryz.runUnderlying51, rfl, rfl, Tryz.sizeOf40, rfl⟩) rfl <| gV (zab rfl rfl rfl hg19B) (zah rfl foc2 rfl Tryz.isAgg40) rfl <| gP (zab rfl rfl rfl hg19B) (zag rfl) rfl <| gP (zab rfl rfl rfl hg19B) (P_neq rfl rfl) rfl <| oP (zay rfl hg19B rfl) rfl <| oM rfl rfl ?_
             first | (refine zba 159 rfl (fun hg20B hg20 => ?_) (fun hg20B hg20 => ?_)) | (refine zbb 159 rfl (fun hg20B hg20 => ?_) (fun hg20B hg20 => ?_)) | (refine zbi 159 rfl (fun hg20B => ?_) (fun hg20B => ?_))
             ·
              refine RJ_gn (GY_no rfl rfl rfl hg20B) rfl rfl <| RJ_gn (GY_no rfl rfl rfl hg20B) rfl rfl <| RJ_gn (GY_no rfl rfl rfl hg20B) rfl rfl <| RJ_gn (GY_no rfl rfl rfl hg20B) rfl rfl <| oP (zas rfl hg20B rfl) rfl <| oM rfl rfl <| RJ_gn (GY_no rfl rfl rfl rfl) rfl rfl <| RJ_gn (GY_no rfl rfl rfl rfl) rfl rfl <| RJ_gn (GY_no rfl rfl rfl rfl) rfl rfl <| RJ_gn (GY_no rfl rfl rfl rfl) rfl rfl <| oP (zas rfl rfl rfl) rfl <| oM rfl rfl <| RJ_gn (GY_no rfl rfl rfl rfl) rfl rfl <| RJ_gn (GY_no rfl rfl rfl rfl) rfl rfl <| RJ_gn (GY_no rfl rfl rfl rfl) rfl rfl <| oP (zas rfl rfl rfl) rfl <| nT <| za4 rfl rfl <| sR <| oA rfl rfl <| nT <| zai <| zaj <| zaj <| zad <| zbd <| zaj <| zad ?_
              exfalso; first | omega | (simp_all; done) | (have q1 := zdc (s := d1) (a := sr.1) (by omega); have q2 := zdd (s := d1) (a := sr.1) (by omega); simp_all; done) | (have q1 := zdt (a := sr.1) (by omega); have q2 := zdu (a := sr.1) (by omega); simp_all)
             ·
              refine gP (zab rfl rfl rfl hg20B) (zaa rfl ⟨_, _, _, Tryz.runUnderlying51, rfl, rfl, Tryz.sizeOf31, rfl⟩) rfl <| gV (zab rfl rfl rfl hg20B) (zah rfl foc2 rfl Tryz.isAgg31) rfl <| gP (zab rfl rfl rfl hg20B) (zag rfl) rfl <| gP (zab rfl rfl rfl hg20B) (P_neq rfl rfl) rfl <| oP (zay rfl hg20B rfl) rfl <| oM rfl rfl ?_
              first | (refine zba 165 rfl (fun hg21B hg21 => ?_) (fun hg21B hg21 => ?_)) | (refine zbb 165 rfl (fun hg21B hg21 => ?_) (fun hg21B hg21 => ?_)) | (refine zbi 165 rfl (fun hg21B => ?_) (fun hg21B => ?_))
              ·
               refine RJ_gn (GY_no rfl rfl rfl hg21B) rfl rfl <| RJ_gn (GY_no rfl rfl rfl hg21B) rfl rfl <| RJ_gn (GY_no rfl rfl rfl hg21B) rfl rfl <| RJ_gn (GY_no rfl rfl rfl hg21B) rfl rfl <| oP (zas rfl hg21B rfl) rfl <| oM rfl rfl <| RJ_gn (GY_no rfl rfl rfl rfl) rfl rfl <| RJ_gn (GY_no rfl rfl rfl rfl) rfl rfl <| RJ_gn (GY_no rfl rfl rfl rfl) rfl rfl <| oP (zas rfl rfl rfl) rfl <| nT <| za4 rfl rfl <| sR <| oA rfl rfl <| nT <| zai <| zaj <| zaj <| zad <| zbd <| zaj <| zad ?_
               exfalso; first | omega | (simp_all; done) | (have q1 := zdc (s := d1) (a := sr.1) (by omega); have q2 := zdd (s := d1) (a := sr.1) (by omega); simp_all; done) | (have q1 := zdt (a := sr.1) (by omega); have q2 := zdu (a := sr.1) (by omega); simp_all)
              ·
               refine gP (zab rfl rfl rfl hg21B) (zaa rfl ⟨_, _, _, Tryz.runUnderlying51, rfl, rfl, Tryz.sizeOf40, rfl⟩) rfl <| gV (zab rfl rfl rfl hg21B) (zah rfl foc0 rfl Tryz.isAgg40) rfl <| gP (zab rfl rfl rfl hg21B) (zag rfl) rfl <| gP (zab rfl rfl rfl hg21B) (P_neq rfl rfl) rfl <| oP (zay rfl hg21B rfl) rfl <| oM rfl rfl ?_
               first | (refine zba 171 rfl (fun hg22B hg22 => ?_) (fun hg22B hg22 => ?_)) | (refine zbb 171 rfl (fun hg22B hg22 => ?_) (fun hg22B hg22 => ?_)) | (refine zbi 171 rfl (fun hg22B => ?_) (fun hg22B => ?_))
               ·
                refine RJ_gn (GY_no rfl rfl rfl hg22B) rfl rfl <| RJ_gn (GY_no rfl rfl rfl hg22B) rfl rfl <| RJ_gn (GY_no rfl rfl rfl hg22B) rfl rfl <| oP (zas rfl hg22B rfl) rfl <| nT <| za4 rfl rfl <| sR <| oA rfl rfl <| nT <| zai <| zaj <| zaj <| zad <| zbd <| zaj <| zad ?_
                exfalso; first | omega | (simp_all; done) | (have q1 := zdc (s := d1) (a := sr.1) (by omega); have q2 := zdd (s := d1) (a := sr.1) (by omega); simp_all; done) | (have q1 := zdt (a := sr.1) (by omega); have q2 := zdu (a := sr.1) (by omega); simp_all)
               ·
                refine gP (zab rfl rfl rfl hg22B) (zag rfl) rfl <| RJ_gy (zab rfl rfl rfl hg22B) <| zeg rfl (c_xFl (by omega)) rfl (Dels.cons del3 Dels.nil) rfl fun _ hc36 => gP (zab rfl rfl rfl hg22B) (P_neq rfl rfl) rfl <| oP (zay rfl hg22B rfl) rfl <| nT ?_
                first | (refine zao rfl (fun hg23 => ?_) (fun hg23 => ?_)) | (refine zap rfl (fun hg23 => ?_) (fun hg23 => ?_)) | (refine zar rfl (fun hg23 => ?_) (fun hg23 => ?_))
                ·
                 refine sR <| oA rfl rfl <| nT <| zai <| zaj <| zaj <| zad <| zbd <| zaj <| zad ?_
                 exfalso; first | omega | (simp_all; done) | (have q1 := zdc (s := d1) (a := sr.1) (by omega); have q2 := zdd (s := d1) (a := sr.1) (by omega); simp_all; done) | (have q1 := zdt (a := sr.1) (by omega); have q2 := zdu (a := sr.1) (by omega); simp_all)
                ·
                 refine zbk <| zal <| zal <| zav <| zak <| oM rfl rfl <| oP (P_sub rfl rfl (by omega)) rfl <| oA rfl rfl <| za9 <| zbg ⟨i - 1, a1, (hwU u (zd2 s19.1) false sr.1 0), (hwU v (zd2 s19.1) false sr.1 1), (hwN w false sr.1), (c + 8), false⟩ (by show (i - 1).toNat < i.toNat; omega) ?_ (by repeat (first | exact Kp.base | exact Kp.self | refine Kp.cons rfl ?_ | refine Kp.forget rfl ?_)) ?_ (Ent.trans (Ent.trans (t0_ eR) (zld (rfl) (by omega) (by omega))) (Ent.trans (Ent.trans (t2_ eR) (zlc (by omega) (by omega))) (t4_ (t1_ (t0_ (t2_ (t2_ (eD (eD eR)))))))))
                 · exact ⟨by omega, by omega, by omega, by omega, ha1⟩
                 · exact ⟨rfl, rfl, True.intro⟩
      ·
       refine zbt <| za6 <| za7 <| za1 <| zav <| sR <| oM rfl rfl <| oO <| zaq ((c_anB (by omega))) rfl Tryz.call13 (Dels.cons del1 Dels.nil) rfl fun _ hc38 => oV (V_len rfl foc0 (Reads.sl _ _ _) Tryz.runUnderlying54) rfl <| oP (P_eql rfl rfl) rfl <| oM rfl rfl ?_
       first | (refine zba 201 rfl (fun hg24B hg24 => ?_) (fun hg24B hg24 => ?_)) | (refine zbb 201 rfl (fun hg24B hg24 => ?_) (fun hg24B hg24 => ?_)) | (refine zbi 201 rfl (fun hg24B => ?_) (fun hg24B => ?_))
       ·
        refine RJ_gy (zab rfl rfl rfl hg24B) <| zaq ((zig zrz)) rfl Tryz.call14 Dels.nil rfl fun _ hc39 => oP (zas rfl hg24B rfl) rfl <| oA rfl rfl <| nT <| zai <| zam (res1 Tryz.results3 rfl) <| CSpec.close () ?_ ?_ (t4_ (eD (eD (eD (eD (eD eR))))))
        · first | rfl | (exfalso; simp_all)
        · trivial
       ·
        refine RJ_gn (GY_no rfl rfl rfl hg24B) rfl rfl <| oP (zay rfl hg24B rfl) rfl <| oA rfl rfl <| nT <| zai <| zam (res1 Tryz.results3 rfl) <| CSpec.close () ?_ ?_ (t4_ (eD (eD (eD (eD (eD eR))))))
        · first | rfl | (exfalso; simp_all)
        · trivial
end Go.Proofs
