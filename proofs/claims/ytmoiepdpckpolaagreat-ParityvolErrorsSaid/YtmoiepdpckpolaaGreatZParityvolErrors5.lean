/- ParityvolErrors, part 5 of the proof: PQv4, PSpansA, LPv4, PQv5, CTrack, LPv5, LTrk, LTAll, LOwnC. -/
import Derived.WalkKit
import Derived.Orders
import Derived.RangeFuncLeaves
import Derived.RangeFuncCalls
import Derived.TacticsIn
import Derived.Handy
import Derived.OrdersHeld
import Derived.OrdersIn
import Derived.Below
import Derived.OpenShut
import Derived.Deep.Slices
import Derived.Scope
import Derived.KernelRfl
import Derived.RangeFuncRecord
import Derived.ChangeKeysEq
import Derived.ProofKit
import Derived.ShutString
import Derived.ChangeOld
import Derived.Test.YtmoiepdpckpolaaGreatChecked
import Derived.Test.YtmoiepdpckpolaaGreatRows
import Derived.Test.YtmoiepdpckpolaaGreatZParityvolErrors4
namespace Go.Proofs
open Go.VG
def Q0 (C : PC) (V : Nat → Nat → UInt64) (q : UInt64) (e : PE) (s : ArrS) (d : Nat) : Prop := Lg C V q e q e (· = q) (· = q) (fun d o => q ≠ 0 ∧ exE C e d o) True 0 False s d
def Hf (C : PC) (V : Nat → Nat → UInt64) (q : UInt64) (e : PE) (q' : UInt64) (e' : PE) (s : ArrS) (d : Nat) : Prop := Lg C V q e q' e' (fun c => c = q ∨ c = q') (fun _ => True) (fun _ _ => False) False 0 True s d
def Fu (C : PC) (V : Nat → Nat → UInt64) (q : UInt64) (e : PE) (s : ArrS) (d : Nat) : Prop := Lg C V 0 e q e (· = q) (fun _ => True) (exE C e) False 0 True s d
structure JV (C : PC) (V : Nat → Nat → UInt64) (q : UInt64) (e : PE) : Prop where
  even : ∀ o, o < C.O → xr (fun d => V d o) C.L = 0
  ev : q ≠ 0 → EV C V e
  sm : q.toNat ≤ 1000000000
structure Nx (C : PC) (V : Nat → Nat → UInt64) (q : UInt64) (V' : Nat → Nat → UInt64) (q' : UInt64) (e' : PE) : Prop where
  q : q' = q + 1
  ev : EV C V' e'
  old : ∀ d o, ¬ exE C e' d o → V' d o = V d o
  even : ∀ o, o < C.O → xr (fun d => V' d o) C.L = 0
section
variable {C : PC} {V V' : Nat → Nat → UInt64} {st fl : Option Nat} {qo q q' : UInt64} {e e' : PE} {hp hn hp' hn' : UInt64 → Prop} {x x' : Nat → Nat → Prop} {nwP nwP' bc bc' : Prop} {bn bn' k i d f o a : Nat} {mz : Nat → Bool} {F : Prop} {K K' : Nat} {s t : ArrS} {v w : UInt64} {p : Bool}
theorem seq_add (h : q.toNat ≤ 1000000000) : (q + 1).toNat = q.toNat + 1 := by
  rw [UInt64.toNat_add]
  have : (1 : UInt64).toNat = 1 := rfl
  rw [this, Nat.mod_eq_of_lt (by omega)]
theorem seq_ne (h : q.toNat ≤ 1000000000) : q + 1 ≠ 0 := fun z => by
  have := seq_add h
  rw [z] at this
  have e0 : (0 : UInt64).toNat = 0 := rfl
  omega
theorem Nx.ne (h : Nx C V q V' q' e') (hs : q.toNat ≤ 1000000000) : q' ≠ 0 := by rw [h.q]; exact seq_ne hs
theorem Nx.jv (h : Nx C V q V' q' e') (hs : q.toNat ≤ 999999999) : JV C V' q' e' := ⟨h.even, fun _ => h.ev, by rw [h.q, seq_add (by omega)]; omega⟩
theorem Q0.start (h : Q0 C V q e s d) : Lg C V q e q' e' (· = q) (· = q) (fun d o => q ≠ 0 ∧ exE C e d o) True 0 False s d :=
  ⟨h.hd, h.hn, h.bd, h.dt, h.nw, fun i hi => absurd hi (by omega), fun z => z.elim⟩
theorem Fu.done (he : PEn C mz F K s) (hd : d < C.L) (hq : q ≠ 0) (h : Lg C V 0 e q e (· = q) (· = q) (exE C e) False 0 True s d) (hn : ∀ o, exE C e d o → now s d (16 + o) = V d o) : Q0 C V q e s d := by
  have hsz : C.sz = 16 + C.O := rfl
  refine ⟨h.hd, h.hn, fun _ => h.nc trivial, fun o ho hx => h.dt o ho (fun z => hx ⟨hq, z⟩), fun _ o ho => ?_, fun i hi => absurd hi (by omega), fun z => z.elim⟩
  by_cases z : exE C e d o
  · exact hn o z
  · exact h.dt o ho z _ (he.now_cand hd (by omega))
def Pe (C : PC) (st : Option Nat) (V : Nat → Nat → UInt64) (q : UInt64) (e : PE) (V' : Nat → Nat → UInt64) (q' : UInt64) (e' : PE) (s : ArrS) : Prop := (Ls C st fun d => Hf C V q e q' e' s d) ∨ Ls C st fun d => Fu C V' q' e' s d
def Qs (C : PC) (st : Option Nat) (V : Nat → Nat → UInt64) (q : UInt64) (e : PE) (s : ArrS) : Prop := Ls C st fun d => Q0 C V q e s d
theorem Qs.row (h : Qs C st V q e s) (hj : JV C V q e) (ho : o < C.O) : Row C st s V o := ⟨fun d hd hs => (h d hd hs).nw trivial o ho, hj.even o ho⟩
end
end Go.Proofs
namespace Go.Proofs
open Go.VG
theorem spans_l1 {s : ArrS} (h8 : s.drv.length ≤ 1000) (hz : ∀ i, i < s.drv.length → 1 ≤ s.size i ∧ s.size i ≤ 65536) : ∀ (N i : Nat) (acc : List Dvc), s.drv.length - i < N → i ≤ s.drv.length →
    acc = (List.range i).map (fun i => Dvc.span ((i : Nat) : Int) 0 ((s.size i : Nat) : Int)) → volumegroupmake_Spans_l1 s N acc i = some (.inl (spansA s))
  | 0, _, _, h, _, _ => absurd h (by omega)
  | N + 1, i, acc, h, hi, ha => by
    show volumegroupmake_Spans_l1_b _ _ _ _ = _
    unfold volumegroupmake_Spans_l1_b
    subst ha
    by_cases hlt : i < s.drv.length
    · have h1 := hz i hlt
      rw [if_pos (by omega), sizeI_of hlt, span_mk (by omega) (by omega) (by rw [sizeI_of hlt]; omega) (by rw [sizeI_of hlt]; omega)]
      simp only [Option.bind_some, Option.elim]
      rw [if_neg (by simp), grd_t (inLen_of (by simp; omega)), grd_t (inN64_of (by omega))]
      refine spans_l1 h8 hz N (i + 1) _ (by omega) (by omega) ?_
      simp [List.range_succ]
    · rw [if_neg (by omega)]
      have : i = s.drv.length := by omega
      rw [this]; rfl
theorem spans_eq {s : ArrS} (h8 : s.drv.length ≤ 1000) (hz : ∀ i, i < s.drv.length → 1 ≤ s.size i ∧ s.size i ≤ 65536) : volumegroupmake_Spans s = some (spansA s) := by
  unfold volumegroupmake_Spans
  have hF := fuel_big
  generalize FUEL = N at hF ⊢
  rw [spans_l1 h8 hz N 0 _ (by omega) (by omega) (by simp)]; rfl
end Go.Proofs
set_option linter.unusedSimpArgs false
set_option linter.unusedVariables false
set_option maxRecDepth 20000
set_option maxHeartbeats 4000000
namespace Go.Proofs
open Go.VG
theorem bld_121_0_1_2_3_4 (v0 : Int) (v1 : Int) (v2 : Int) (v3 : Int) (v4 : Int) : ∀ w, (Instr.build 121 (#[(0, .int .u64 v0), (1, .int .i64 v1), (2, .int .i64 v2), (3, .int .u64 v3), (4, .int .u64 v4)] : Array (Nat × Value))).run Tryz.prog w = .ok (.agg #[.int .u64 v0, .int .i64 v1, .int .i64 v2, .int .u64 v3, .int .u64 v4]) w := fun w => by kernel_rfl
theorem bld_123_0 (v0 : Int) (v1 : Int) (v2 : Int) : ∀ w, (Instr.build 123 (#[(0, .agg #[.int .i64 v0, .int .i64 v1, .int .i64 v2])] : Array (Nat × Value))).run Tryz.prog w = .ok (.agg #[.int .i64 v0, .int .i64 v1, .int .i64 v2, .slice none 0 0, .int .u64 0, .int .i64 (0 : Int), .int .i64 (0 : Int), .int .u64 0, .int .u64 0, .bool false, .int .i64 (0 : Int)]) w := fun w => by kernel_rfl
theorem bld_126_0_1 (v0 : TypeId) (v1 : Value) (v2 : Bool) : ∀ w, (Instr.build 126 (#[(0, .iface v0 v1), (1, .bool v2)] : Array (Nat × Value))).run Tryz.prog w = .ok (.agg #[.iface v0 v1, .bool v2, .bool false]) w := fun w => by kernel_rfl
theorem bs_119_1_0 (v0 : TypeId) (v1 : Value) (v2 : Bool) (v3 : Bool) : BuildsSlice Tryz.prog 119 1 [(0, .agg #[.iface v0 v1, .bool v2, .bool v3])] 126 [.iface v0 v1, .bool v2, .bool v3] := fun w => by kernel_rfl
def parityvol_Volume_replay_1 (x_0 : Dvc) (p1_v : VolS) (s : ArrS) : Option (Int × VolS) :=
  Option.bind (Dvc.rd x_0 s (0 : Int)) fun r2 =>
  if ((r2.2 ≠ (0 : Int)) ∨ ((r2.1.toNat : Int) ≤ (p1_v.last_seq.toNat : Int))) then
    some (r2.2, p1_v)
  else
    Option.bind (parityvol_slot r2.1) fun r18 =>
    Option.bind (block_ReadAll x_0 r18 (3 : Int) s) fun r20 =>
    if (r20.2 = (0 : Int)) then
      grd (decide (0 < r20.1.length)) <|
      grd (decide (0 < r20.1.length)) <|
      grd (decide (1 < r20.1.length)) <|
      grd (decide (2 < r20.1.length)) <|
      some ((r20.2, { p1_v with last_seq := r2.1, last_offset := (IntKind.i64.wrap (((shr_u64 (r20.1.getD 0 0) 3)).toNat : Int)), last_leg := (IntKind.i64.wrap ((((r20.1.getD 0 0) &&& (7 : UInt64))).toNat : Int)), last_word := (r20.1.getD 1 0), last_parity := (r20.1.getD 2 0) }))
    else
      some (r20.2, p1_v)
theorem L_parityvol_Volume_replay_1 {W : World} {vx_0 : IfH} {bp1 : Nat} {bp1_v : Nat} {bs : Nat} {x_0 : Dvc} {p1_v : VolS} {s : ArrS} {r : Int × VolS} (h : parityvol_Volume_replay_1 x_0 p1_v s = some r) :
    CSpec Tryz.prog W 104 [IfH.v vx_0, ptr bp1 0] [DevP bs x_0 vx_0, blk bp1 65 [ptr bp1_v 0], VolP bs bp1_v p1_v, Arr bs s] (fun x : Unit => .int .i64 r.1) (fun _ => True) (fun x F => DevP bs x_0 vx_0 :: blk bp1 65 [ptr bp1_v 0] :: VolP bs bp1_v r.2 :: Arr bs s :: F) := by
 refine CSpec.of_body Tryz.func104 rfl Tryz.ntmps104 rfl fun F => ?_
 show CJ _ _ _ _ _ _ (_ :: _ :: _ :: _ :: F)
 unfold parityvol_Volume_replay_1 at h
 refine sR <| oA rfl rfl <| nT <| sR <| oM rfl rfl <| RJ_pure (fun h hh => DevP_dep h (stars_perm (del0 (A := DevP bs x_0 vx_0)).out h hh)) fun hdp1 => ?_
 obtain ⟨r2, hr3, h⟩ := bind_e h
 refine oO <| O_callI rfl (dev_Read hr3 hdp1) rfl (Dels.cons del0 (Dels.cons del2 Dels.nil)) rfl fun _ _ => oM rfl rfl <| oP (P_extract rfl rfl) rfl <| oP (P_extract rfl rfl) rfl <| oA rfl rfl <| oA rfl rfl <| nT <| CJ_seq <| sR <| oM rfl rfl <| oP (P_neq (a := r2.2) (b := (0 : Int)) rfl rfl) rfl <| oM rfl rfl <| RJ_mbF rfl rfl rfl (fun hG4 => have hP5 : ¬ (r2.2 ≠ (0 : Int)) := nP (bT_dec) hG4; VJ_P (P_move rfl)) <| RJ_mbF rfl rfl rfl (fun hG6 => have hP7 : ¬ (r2.2 ≠ (0 : Int)) := nP (bT_dec) hG6; V_load rfl foc2 rfl Tryz.isAgg65) <| RJ_mbF rfl rfl rfl (fun hG8 => have hP9 : ¬ (r2.2 ≠ (0 : Int)) := nP (bT_dec) hG8; VJ_P (P_nilCheck (mbx hG8 rfl))) <| RJ_mbF rfl rfl rfl (fun hG10 => have hP11 : ¬ (r2.2 ≠ (0 : Int)) := nP (bT_dec) hG10; VJ_P (P_fieldAddr (mbx hG10 rfl) ⟨_, _, _, Tryz.runUnderlying123, rfl, rfl, Tryz.sizeOf121, rfl⟩)) <| RJ_mbF rfl rfl rfl (fun hG12 => have hP13 : ¬ (r2.2 ≠ (0 : Int)) := nP (bT_dec) hG12; VJ_P (P_fieldAddr (mbx hG12 rfl) ⟨_, _, _, Tryz.runUnderlying121, rfl, rfl, Tryz.sizeOf44, rfl⟩)) <| RJ_mbF rfl rfl rfl (fun hG14 => have hP15 : ¬ (r2.2 ≠ (0 : Int)) := nP (bT_dec) hG14; VJ_entX (Ent.transX (t3_ eR) (VolP_open (l := p1_v))) (fun _ => V_load (mbx hG14 rfl) foc0 rfl Tryz.isAgg44)) <| RJ_mbF rfl rfl rfl (fun hG16 => have hP17 : ¬ (r2.2 ≠ (0 : Int)) := nP (bT_dec) hG16; VJ_P (P_leq (a := (r2.1.toNat : Int)) (b := (p1_v.last_seq.toNat : Int)) (mbx hG16 rfl) (mbx hG16 rfl))) <| oP (P_pickOr rfl rfl (fun hh => mbx (not_f hh) rfl)) rfl <| nT ?_
 refine CJ_condP rfl (bT_or bT_dec bT_dec) (fun hg1 => ?_) (fun hg1 => ?_)
 ·
  replace h := ite_t hg1 h
  refine sR <| oM rfl rfl <| oA rfl rfl <| nT <| CJ_ret <| QJ_then_ret ?_
  cases h
  exact fE (res1 Tryz.results104 rfl) () (t0_ (t1_ (t1_ eR)))
 ·
  replace h := ite_f hg1 h
  refine kT <| sR <| oM rfl rfl <| oM rfl rfl ?_
  obtain ⟨r18, hr19, h⟩ := bind_e h
  refine oO <| O_call (L_parityvol_slot hr19) rfl Tryz.call85 Dels.nil rfl fun _ _ => ?_
  obtain ⟨r20, hr21, h⟩ := bind_e h
  refine oO <| O_call (L_block_ReadAll hr21) rfl Tryz.call105 (Dels.cons del0 (Dels.cons del0 Dels.nil)) rfl fun X22 _ => oM rfl rfl <| oP (P_extract (v := X22.v) rfl rfl) rfl <| oP (P_extract rfl rfl) rfl <| oA rfl rfl <| oA rfl rfl <| nT <| CJ_seq <| sR <| oM rfl rfl <| oP (P_eql (a := r20.2) (b := (0 : Int)) rfl rfl) rfl <| nT <| CJ_condP rfl bT_dec (fun hg2 => ?_) (fun hg2 => ?_)
  ·
   replace h := ite_t hg2 h
   refine CJ_entX (Ent.transX (t4_ eR) (VolP_open (l := p1_v))) fun oc24 => CJ_pure (fun h hh => Rs_len (stars_perm (del2 (A := Rs (DevP bs) (p1_v.legs.map prtS.dev) oc24.2)).out h hh)) fun hdl26 => lC del1 fun hlen27 => ?_
   rw [mk_prt_len (by have := hdl26; simpa using this)] at hlen27
   refine AJ_startH 2097152 (by kernel_rfl) rfl <| aV 0 1 rfl rfl (GY_none rfl) eR (V_load rfl foc6 rfl Tryz.isAgg65) rfl <| aN 1 3 rfl rfl (P_move rfl) rfl <| aN 2 7 rfl rfl (P_move rfl) rfl ?_
   obtain ⟨hg3, h⟩ := grd_de h
   refine aV 3 15 rfl rfl (GY_none rfl) eR (V_index (i := 0) rfl rfl rfl hg3 foc5 (Reads.sl _ _ _) Tryz.runUnderlying43 Tryz.sizeOf44) rfl <| aV 4 31 rfl rfl (GY_none rfl) eR (V_loadE rfl rfl hg3 foc5 (Reads.sl _ _ _) rfl rfl Tryz.isAgg44) rfl <| aN 5 63 rfl rfl (P_shr_u64 (a := (r20.1.getD 0 0)) (m := 3) rfl rfl rfl) rfl <| aN 6 127 rfl rfl (P_conv rfl Tryz.runUnderlying44 Tryz.runUnderlying3) rfl <| aN 7 255 rfl rfl (P_move rfl) rfl ?_
   obtain ⟨hg4, h⟩ := grd_de h
   refine aV 8 511 rfl rfl (GY_none rfl) eR (V_index (i := 0) rfl rfl rfl hg4 foc5 (Reads.sl _ _ _) Tryz.runUnderlying43 Tryz.sizeOf44) rfl <| aV 9 1023 rfl rfl (GY_none rfl) eR (V_loadE rfl rfl hg4 foc5 (Reads.sl _ _ _) rfl rfl Tryz.isAgg44) rfl <| aN 10 2047 rfl rfl (P_and_u64 (a := (r20.1.getD 0 0)) (b := (7 : UInt64)) rfl rfl) rfl <| aN 11 4095 rfl rfl (P_conv rfl Tryz.runUnderlying44 Tryz.runUnderlying3) rfl <| aN 12 8191 rfl rfl (P_move rfl) rfl ?_
   obtain ⟨hg5, h⟩ := grd_de h
   refine aV 13 16383 rfl rfl (GY_none rfl) eR (V_index (i := 1) rfl rfl rfl hg5 foc5 (Reads.sl _ _ _) Tryz.runUnderlying43 Tryz.sizeOf44) rfl <| aV 14 32767 rfl rfl (GY_none rfl) eR (V_loadE rfl rfl hg5 foc5 (Reads.sl _ _ _) rfl rfl Tryz.isAgg44) rfl <| aN 15 65535 rfl rfl (P_move rfl) rfl ?_
   obtain ⟨hg6, h⟩ := grd_de h
   refine aV 16 131071 rfl rfl (GY_none rfl) eR (V_index (i := 2) rfl rfl rfl hg6 foc5 (Reads.sl _ _ _) Tryz.runUnderlying43 Tryz.sizeOf44) rfl <| aV 17 262143 rfl rfl (GY_none rfl) eR (V_loadE rfl rfl hg6 foc5 (Reads.sl _ _ _) rfl rfl Tryz.isAgg44) rfl <| aN 18 524287 rfl rfl (P_build rfl (bld_121_0_1_2_3_4 _ _ _ _ _)) rfl <| aN 19 1048575 rfl rfl (P_nilCheck rfl) rfl <| aN 20 2097151 rfl rfl (P_fieldAddr rfl ⟨_, _, _, Tryz.runUnderlying123, rfl, rfl, Tryz.sizeOf121, rfl⟩) rfl <| AJ_op 21 4194303 rfl (by kernel_rfl) rfl (GY_none rfl) <| O_storeN rfl rfl foc0 Tryz.sizeOf121 rfl rfl rfl <| ⟨fun h => absurd h (by decide), ?_⟩
   refine AJ_done (by kernel_rfl) <| QJ_ent (Ent.trans eR (VolP_mk (v0 := p1_v.layout_n) (v1 := p1_v.layout_chunk) (v2 := p1_v.layout_rows) (v3 := p1_v.legs) (v4 := r2.1) (v5 := (IntKind.i64.wrap (((shr_u64 (r20.1.getD 0 0) 3)).toNat : Int))) (v6 := (IntKind.i64.wrap ((((r20.1.getD 0 0) &&& (7 : UInt64))).toNat : Int))) (v7 := (r20.1.getD 1 0)) (v8 := (r20.1.getD 2 0)) (v9 := p1_v.pending) (v10 := p1_v.filled) (h0 := oc24.1) (h1 := oc24.2))) <| QJ_then <| sR <| oM rfl rfl <| oA rfl rfl <| nT <| CJ_ret ?_
   cases h
   exact fE (res1 Tryz.results104 rfl) () (t1_ (t3_ (t0_ (t0_ (eD eR)))))
  ·
   replace h := ite_f hg2 h
   refine kT <| sR <| oM rfl rfl <| oA rfl rfl <| nT <| CJ_ret ?_
   cases h
   exact fE (res1 Tryz.results104 rfl) () (t0_ (t2_ (t2_ (t0_ (eD eR)))))
def parityvol_Volume_on__parityvol_Volume_replay_1 (v : VolS) (i : Int) (s : ArrS) : Option (Int × VolS) :=
  grd (decide (0 ≤ i ∧ i < (v.legs.length : Int))) <|
  Option.bind (parityvol_Volume_replay_1 ((v.legs.getD ((i).toNat) prt_x0).dev) v s) fun r9 =>
  Option.bind (parityvol_Volume_on_1 r9.1 r9.2 i s) fun r11 =>
  some (r11.1, r11.2)
theorem L_parityvol_Volume_on__parityvol_Volume_replay_1 {W : World} {bv : Nat} {bf_c0 : Nat} {bs : Nat} {v : VolS} {i : Int} {s : ArrS} {r : Int × VolS} (h : parityvol_Volume_on__parityvol_Volume_replay_1 v i s = some r) :
    CSpec Tryz.prog W 78 [ptr bv 0, .int .i64 i, .func (.func 104) #[] #[ptr bf_c0 0]] [VolP bs bv v, blk bf_c0 65 [ptr bv 0], Arr bs s] (fun x : Unit => .int .i64 r.1) (fun _ => True) (fun x F => VolP bs bv r.2 :: blk bf_c0 65 [ptr bv 0] :: Arr bs s :: F) := by
  refine CSpec.of_bodyM Tryz.func78 rfl Tryz.ntmps78 rfl (fun F => ?_)
  show CJ _ _ _ _ _ _ (_ :: _ :: _ :: F)
  unfold parityvol_Volume_on__parityvol_Volume_replay_1 at h
  refine CJ_seq ?_
  refine CJ_region ?_
  refine RJ_op rfl (O_box rfl rfl rfl (fun b1 => ?_))
  refine RJ_op rfl (O_box rfl rfl rfl (fun b2 => ?_))
  refine RJ_op rfl (O_alloc Tryz.zeroValue40 rfl rfl (fun b3 => ?_))
  refine RJ_nil ?_
  refine QJ_then ?_
  refine CJ_seq ?_
  refine CJ_region ?_
  refine RJ_op rfl (OJ_P (P_makeFunc rfl rfl) rfl ?_)
  refine RJ_defer rfl rfl ?_
  refine RJ_nil ?_
  refine QJ_then ?_
  refine CJ_seq ?_
  refine CJ_entX (Ent.transX (Ent.take del3 Ent.refl) (VolP_open (l := v))) (fun oc4 => ?_)
  refine CJ_pure (fun h hh => Rs_len (stars_perm (del2 (A := Rs (DevP bs) (v.legs.map prtS.dev) oc4.2)).out h hh)) (fun hdl6 => ?_)
  refine CJ_pure (len_of (Reads.sl _ _ _) del1) (fun hlen7 => ?_)
  rw [mk_prt_len (by have := hdl6; simpa using this)] at hlen7
  refine AJ_startH 1536 (by kernel_rfl) rfl ?_
  refine AJ_takeP 0 1 rfl (by kernel_rfl) rfl (GY_none rfl) (P_move rfl) rfl (fun _ _ _ _ h => h) ?_
  refine AJ_takeV 1 3 rfl (by kernel_rfl) rfl (by kernel_rfl) (by kernel_rfl) (GY_none rfl) Ent.refl (V_load rfl foc5 rfl Tryz.isAgg65) rfl (fun _ _ _ _ h => h) ?_
  refine AJ_takeP 2 7 rfl (by kernel_rfl) rfl (GY_none rfl) (P_nilCheck rfl) rfl (fun _ _ _ _ h => h) ?_
  refine AJ_takeP 3 15 rfl (by kernel_rfl) rfl (GY_none rfl) (P_fieldAddr rfl ⟨_, _, _, Tryz.runUnderlying123, rfl, rfl, Tryz.sizeOf119, rfl⟩) rfl (fun _ _ _ _ h => h) ?_
  refine AJ_takeV 4 31 rfl (by kernel_rfl) rfl (by kernel_rfl) (by kernel_rfl) (GY_none rfl) Ent.refl (V_load rfl foc0 rfl Tryz.isAgg119) rfl (fun _ _ _ _ h => h) ?_
  refine AJ_takeV 5 63 rfl (by kernel_rfl) rfl (by kernel_rfl) (by kernel_rfl) (GY_none rfl) Ent.refl (V_load rfl foc4 rfl Tryz.isAgg3) rfl (fun _ _ _ _ h => h) ?_
  obtain ⟨hg1, h⟩ := grd_de h
  refine AJ_takeV 6 127 rfl (by kernel_rfl) rfl (by kernel_rfl) (by kernel_rfl) (GY_none rfl) Ent.refl (V_index (i := (i).toNat) rfl rfl (Int.toNat_of_nonneg (hg1.1)).symm (show (i).toNat < (mk_prt v.legs oc4.2).length by rw [mk_prt_len (by have := hdl6; simpa using this)]; exact (by omega)) foc1 (Reads.sl _ _ _) Tryz.runUnderlying119 Tryz.sizeOf126) rfl (fun _ _ _ _ h => h) ?_
  refine AJ_takeP 7 255 rfl (by kernel_rfl) rfl (GY_none rfl) (P_fieldE rfl ⟨_, _, _, Tryz.runUnderlying126, rfl, rfl, Tryz.sizeOf79, rfl⟩) rfl (fun _ _ _ _ h => h) ?_
  refine AJ_ent (Ent.trans (Ent.take del2 Ent.refl) (mk_prt_rs (i := (i).toNat) (by omega))) ?_
  refine AJ_takeV 8 511 rfl (by kernel_rfl) rfl (by kernel_rfl) (by kernel_rfl) (GY_none rfl) (Ent.take del2 (Ent.take del2 (Ent.take del1 (Ent.take del1 (Ent.take del1 (Ent.take del1 (Ent.take del1 (Ent.take del1 (Ent.drop Ent.refl))))))))) (VJ_eq (V_loadE rfl rfl (show (i).toNat < (mk_prt v.legs oc4.2).length by rw [mk_prt_len (by have := hdl6; simpa using this)]; exact (by omega)) foc1 (Reads.sl _ _ _) rfl rfl Tryz.isAgg79) (show (IfH.v ((oc4.2.getD ((i).toNat) tyDev.dflt)) : Value) = IfH.v ((mk_prt v.legs oc4.2).getD ((i).toNat) prt_h0).dev from by rw [mk_prt_at (by have := hdl6; simpa using this)])) rfl (fun _ _ _ _ h => h) ?_
  refine AJ_ent (Ent.trans (Ent.take del2 (Ent.take del2 (Ent.take del1 Ent.refl))) (VolP_mk (v0 := v.layout_n) (v1 := v.layout_chunk) (v2 := v.layout_rows) (v3 := v.legs) (v4 := v.last_seq) (v5 := v.last_offset) (v6 := v.last_leg) (v7 := v.last_word) (v8 := v.last_parity) (v9 := v.pending) (v10 := v.filled) (h0 := oc4.1) (h1 := oc4.2))) ?_
  obtain ⟨r9, hr10, h⟩ := bind_e h
  refine AJ_op 9 1023 rfl (by kernel_rfl) rfl (GY_none rfl) (O_callV rfl rfl (L_parityvol_Volume_replay_1 hr10) Tryz.call104 (Dels.cons del1 (Dels.cons del4 (Dels.cons del0 (Dels.cons del3 Dels.nil)))) rfl (fun _ _ => ?_))
  refine ⟨fun h => absurd h (by decide), ?_⟩
  refine AJ_op 10 2047 rfl (by kernel_rfl) rfl (GY_none rfl) (O_store rfl rfl foc4 rfl rfl Tryz.sizeOf40 ?_)
  refine ⟨fun h => absurd h (by decide), ?_⟩
  refine AJ_done (by kernel_rfl) ?_
  refine QJ_ent (Ent.take del1 (Ent.take del1 (Ent.take del1 (Ent.take del1 (Ent.take del1 (Ent.take del1 (Ent.drop Ent.refl))))))) ?_
  refine QJ_then ?_
  refine CJ_ret ?_
  obtain ⟨r11, hr12, h⟩ := bind_e h
  have hE := Option.some.inj h
  subst hE
  refine QJ_endD1 (.inl rfl) Tryz.call114 (Ent.take del3 (Ent.take del4 (Ent.take del1 (Ent.take del2 (Ent.take del1 Ent.refl))))) (LD_parityvol_Volume_on_1 hr12) (resA1 Tryz.results78 (RV_cell rfl foc0 rfl Tryz.isAgg40)) ?_
  refine CSpec.close () ?_ ?_ (Ent.take del2 (Ent.take del4 (Ent.take del3 (Ent.drop (Ent.drop (Ent.drop Ent.refl))))))
  · rfl
  · trivial
def parityvol_Volume_replay_l1_b (v : VolS) (s : ArrS) (rec : VolS → Nat → Option ((VolS) ⊕ (Int × VolS × ArrS))) (x11 : VolS) (x12 : Nat) : Option ((VolS) ⊕ (Int × VolS × ArrS)) :=
  if (((x12 : Nat) : Int) < ((v.legs.length : Nat) : Int)) then
    grd (decide (x12 < x11.legs.length)) <|
    if (x11.legs.getD x12 prt_x0).stale = true then
      rec x11 (x12 + 1)
    else
      Option.bind (parityvol_Volume_on__parityvol_Volume_replay_1 x11 (((x12 : Nat) : Int)) s) fun r17 =>
      if (r17.1 ≠ (0 : Int)) then
        some (.inr (r17.1, r17.2, s))
      else
        rec r17.2 (x12 + 1)
  else
    some (.inl x11)
def parityvol_Volume_replay_l1 (v : VolS) (s : ArrS) : Nat → VolS → Nat → Option ((VolS) ⊕ (Int × VolS × ArrS))
  | 0, _, _ => none
  | n + 1, x11, x12 => parityvol_Volume_replay_l1_b v s (parityvol_Volume_replay_l1 v s n) x11 x12
def parityvol_Volume_replay (v : VolS) (s : ArrS) : Option (Int × VolS × ArrS) :=
  seqO (parityvol_Volume_replay_l1 v s FUEL v 0) fun a10 =>
  if (a10.last_seq = (0 : UInt64)) then
    some (((0 : Int), a10, s))
  else
    if (a10.last_offset < (0 : Int)) then
      some (((0 : Int), a10, s))
    else
      grd (inI64 (a10.layout_rows * a10.layout_chunk)) <|
      if ((a10.layout_rows * a10.layout_chunk) ≤ a10.last_offset) then
        some (((0 : Int), a10, s))
      else
        if (a10.layout_n ≤ a10.last_leg) then
          some (((0 : Int), a10, s))
        else
          Option.bind (parityvol_Volume_commit a10 s) fun r20 =>
          some (r20.1, r20.2.1, r20.2.2)
theorem L_parityvol_Volume_replay {W : World} {bv : Nat} {bs : Nat} {v : VolS} {s : ArrS} {r : Int × VolS × ArrS} (h : parityvol_Volume_replay v s = some r) :
    CSpec Tryz.prog W 72 [ptr bv 0] [VolP bs bv v, Arr bs s] (fun x : Unit => .int .i64 r.1) (fun _ => True) (fun x F => VolP bs bv r.2.1 :: Arr bs r.2.2 :: F) := by
 refine CSpec.of_body Tryz.func72 rfl Tryz.ntmps72 rfl fun F => ?_
 show CJ _ _ _ _ _ _ (_ :: _ :: F)
 unfold parityvol_Volume_replay at h
 refine sR <| oO <| O_box rfl rfl rfl fun b1 => oA rfl rfl <| nT <| CJ_seq <| CJ_seq <| CJ_entX (Ent.transX (t1_ eR) (VolP_open (l := v))) fun oc2 => CJ_pure (fun h hh => Rs_len (stars_perm (del2 (A := Rs (DevP bs) (v.legs.map prtS.dev) oc2.2)).out h hh)) fun hdl4 => lC del1 fun hlen5 => ?_
 rw [mk_prt_len (by have := hdl4; simpa using this)] at hlen5
 refine CJ_region <| oV (V_load rfl foc3 rfl Tryz.isAgg65) rfl <| oP (P_nilCheck rfl) rfl <| oP (P_fieldAddr rfl ⟨_, _, _, Tryz.runUnderlying123, rfl, rfl, Tryz.sizeOf119, rfl⟩) rfl <| oV (V_load rfl foc0 rfl Tryz.isAgg119) rfl <| oV (VJ_eq (V_len rfl foc1 (Reads.sl _ _ _) Tryz.runUnderlying119) (congrArg (fun z : Nat => Value.int .i64 (z : Int)) (mk_prt_len (by have := hdl4; simpa using this)).symm)) rfl <| oM rfl rfl <| RJ_nil <| QJ_ent (Ent.trans eR (VolP_mk (v0 := v.layout_n) (v1 := v.layout_chunk) (v2 := v.layout_rows) (v3 := v.legs) (v4 := v.last_seq) (v5 := v.last_offset) (v6 := v.last_leg) (v7 := v.last_word) (v8 := v.last_parity) (v9 := v.pending) (v10 := v.filled) (h0 := oc2.1) (h1 := oc2.2))) <| QJ_then ?_
 obtain ⟨y8, hl6, hK7⟩ := seq_e h
 refine CJ_cutT (X := VolS) [2, 3, 4, 10, 11, 12, 13, 14, 15, 16, 17, 18, 19, 20, 21, 22, 23, 24, 25, 26, 27, 28] (fun a10 => ([] : Slots)) (fun a10 R => VolP bs bv a10 :: R) (fun a10 => y8 = .inl a10) (Dels.cons del0 Dels.nil) ?_ ?_
 ·
  refine CJ_block <| CJ_loopR (X := Nat × VolS × Nat) [2, 3, 4, 10, 11, 12, 13, 14, 15, 16, 17, 18, 19, 20, 21, 22, 23, 24, 25, 26, 27, 28] (fun ⟨n, x11, x12⟩ => ([(10, .int .i64 (((x12 : Nat) : Int)))] : Slots)) (fun ⟨n, x11, x12⟩ R => VolP bs bv x11 :: R) (fun ⟨n, x11, x12⟩ => parityvol_Volume_replay_l1 v s n x11 x12 = some y8) (fun ⟨n, x11, x12⟩ => n) ⟨FUEL, v, 0⟩ ?_ ?_ eR ?_
  · exact hl6
  · exact ⟨rfl, True.intro⟩
  ·
   rintro ⟨n, x11, x12⟩ h
   cases n with
   | zero => exact none_e h
   | succ n => ?_
   replace h : parityvol_Volume_replay_l1_b v s (parityvol_Volume_replay_l1 v s n) x11 x12 = some y8 := h
   unfold parityvol_Volume_replay_l1_b at h
   show CJ _ _ _ _ _ (([(10, .int .i64 (((x12 : Nat) : Int)))] : Slots) ++ forget _ _) (VolP bs bv x11 :: _)
   refine sR <| oP (P_lss (a := ((x12 : Nat) : Int)) (b := ((v.legs.length : Nat) : Int)) rfl rfl) rfl <| nT <| CJ_seq <| CJ_condP rfl bT_dec (fun hg1 => ?_) (fun hg1 => ?_)
   ·
    replace h := ite_t hg1 h
    refine kT <| CJ_seq <| CJ_block <| sR <| oM rfl rfl <| oA rfl rfl <| nT <| CJ_seq <| CJ_seq <| CJ_entX (Ent.transX (t0_ eR) (VolP_open (l := x11))) fun oc13 => CJ_pure (fun h hh => Rs_len (stars_perm (del2 (A := Rs (DevP bs) (x11.legs.map prtS.dev) oc13.2)).out h hh)) fun hdl15 => lC del1 fun hlen16 => ?_
    rw [mk_prt_len (by have := hdl15; simpa using this)] at hlen16
    refine CJ_region <| oV (V_load rfl foc3 rfl Tryz.isAgg65) rfl <| oP (P_nilCheck rfl) rfl <| oP (P_fieldAddr rfl ⟨_, _, _, Tryz.runUnderlying123, rfl, rfl, Tryz.sizeOf119, rfl⟩) rfl <| oV (V_load rfl foc0 rfl Tryz.isAgg119) rfl <| oM rfl rfl ?_
    obtain ⟨hg2, h⟩ := grd_de h
    refine oV (V_index (i := x12) rfl rfl rfl (show x12 < (mk_prt x11.legs oc13.2).length by rw [mk_prt_len (by have := hdl15; simpa using this)]; exact hg2) foc1 (Reads.sl _ _ _) Tryz.runUnderlying119 Tryz.sizeOf126) rfl <| oP (P_fieldE rfl ⟨_, _, _, Tryz.runUnderlying126, rfl, rfl, Tryz.sizeOf4, rfl⟩) rfl <| oV (VJ_eq (V_loadE rfl rfl (show x12 < (mk_prt x11.legs oc13.2).length by rw [mk_prt_len (by have := hdl15; simpa using this)]; exact hg2) foc1 (Reads.sl _ _ _) rfl rfl Tryz.isAgg4) (show (.bool ((x11.legs.getD x12 prt_x0).stale) : Value) = .bool ((mk_prt x11.legs oc13.2).getD x12 prt_h0).stale from by rw [mk_prt_at (by have := hdl15; simpa using this)])) rfl <| RJ_nil <| QJ_ent (Ent.trans eR (VolP_mk (v0 := x11.layout_n) (v1 := x11.layout_chunk) (v2 := x11.layout_rows) (v3 := x11.legs) (v4 := x11.last_seq) (v5 := x11.last_offset) (v6 := x11.last_leg) (v7 := x11.last_word) (v8 := x11.last_parity) (v9 := x11.pending) (v10 := x11.filled) (h0 := oc13.1) (h1 := oc13.2))) <| QJ_then <| CJ_condP rfl Iff.rfl (fun hg3 => ?_) (fun hg3 => ?_)
    ·
     replace h := ite_t hg3 h
     exact CJ_exit <| QJ_then_exit <| QJ_block_here <| QJ_then <| CJ_region <| oP (PJ_eq (P_add (a := ((x12 : Nat) : Int)) (b := (1 : Int)) rfl rfl (by omega)) rfl) rfl <| oM rfl rfl <| RJ_nil <| nR ⟨n, x11, (x12 + 1)⟩ h ⟨rfl, True.intro⟩ eR
    ·
     replace h := ite_f hg3 h
     refine kT <| sR <| oV (V_load rfl foc1 rfl Tryz.isAgg65) rfl <| oM rfl rfl <| oP (P_makeFunc rfl rfl) rfl ?_
     obtain ⟨r17, hr18, h⟩ := bind_e h
     refine oO <| O_call (L_parityvol_Volume_on__parityvol_Volume_replay_1 hr18) rfl Tryz.call78 (Dels.cons del0 (Dels.cons del0 (Dels.cons del0 Dels.nil))) rfl fun _ _ => oA rfl rfl <| nT <| sR <| oM rfl rfl <| oP (P_neq (a := r17.1) (b := (0 : Int)) rfl rfl) rfl <| nT <| CJ_condP rfl bT_dec (fun hg4 => ?_) (fun hg4 => ?_)
     ·
      replace h := ite_t hg4 h
      refine sR <| oM rfl rfl <| oA rfl rfl <| nT <| CJ_ret <| QJ_block_ret <| QJ_then_ret <| QJ_round_ret <| QJ_block_ret <| QJ_then_ret ?_
      have hE := Option.some.inj h
      replace hE := seq_inr hK7 hE.symm
      subst hE
      exact fE (res1 Tryz.results72 rfl) () (t0_ (t1_ (eD eR)))
     ·
      replace h := ite_f hg4 h
      exact CJ_skip <| QJ_block_normal <| QJ_then <| CJ_region <| oP (PJ_eq (P_add (a := ((x12 : Nat) : Int)) (b := (1 : Int)) rfl rfl (by omega)) rfl) rfl <| oM rfl rfl <| RJ_nil <| nR ⟨n, r17.2, (x12 + 1)⟩ h ⟨rfl, True.intro⟩ eR
   ·
    replace h := ite_f hg1 h
    exact CJ_exit <| QJ_then_exit <| QJ_round_exit <| QJ_block_here <| cR x11 (Option.some.inj h).symm True.intro eR
 ·
  rintro a10 hy19
  replace h := seq_inl hK7 hy19
  show CJ _ _ _ _ _ (([] : Slots) ++ forget _ _) (VolP bs bv a10 :: _)
  refine CJ_seq <| sR <| oV (V_load rfl foc1 rfl Tryz.isAgg65) rfl <| oP (P_nilCheck rfl) rfl <| oP (P_fieldAddr rfl ⟨_, _, _, Tryz.runUnderlying123, rfl, rfl, Tryz.sizeOf121, rfl⟩) rfl <| oP (P_fieldAddr rfl ⟨_, _, _, Tryz.runUnderlying121, rfl, rfl, Tryz.sizeOf44, rfl⟩) rfl <| oV (VJ_entX (Ent.transX (t0_ eR) (VolP_open (l := a10))) (fun _ => V_load rfl foc0 rfl Tryz.isAgg44)) rfl <| oP (P_eq_u64 (a := a10.last_seq) (b := (0 : UInt64)) rfl rfl) rfl <| nT <| CJ_condP rfl bT_dec (fun hg5 => ?_) (fun hg5 => ?_)
  ·
   replace h := ite_t hg5 h
   refine sR <| oA rfl rfl <| nT <| CJ_ret <| QJ_then_ret ?_
   cases h
   exact fE (res1 Tryz.results72 rfl) () (t0_ (t1_ (eD eR)))
  ·
   replace h := ite_f hg5 h
   refine kT <| CJ_seq <| CJ_seq <| AJ_startH 0 (by kernel_rfl) rfl <| aV 0 1 rfl rfl (GY_none rfl) eR (V_load rfl foc1 rfl Tryz.isAgg65) rfl <| aN 1 3 rfl rfl (P_nilCheck rfl) rfl <| aN 2 7 rfl rfl (P_fieldAddr rfl ⟨_, _, _, Tryz.runUnderlying123, rfl, rfl, Tryz.sizeOf121, rfl⟩) rfl <| aN 3 15 rfl rfl (P_fieldAddr rfl ⟨_, _, _, Tryz.runUnderlying121, rfl, rfl, Tryz.sizeOf3, rfl⟩) rfl <| aV 4 31 rfl rfl (GY_none rfl) eR (VJ_entX (Ent.transX (t0_ eR) (VolP_open (l := a10))) (fun _ => V_load rfl foc0 rfl Tryz.isAgg3)) rfl <| aN 5 63 rfl rfl (P_lss (a := a10.last_offset) (b := (0 : Int)) rfl rfl) rfl <| aN 6 127 rfl rfl (P_move rfl) rfl <| AJ_splitP 41 rfl bT_dec (fun hg6B hg6 => ?_) (fun hg6B hg6 => ?_)
   ·
    replace h := ite_t hg6 h
    refine aS 7 255 rfl rfl (GY_no rfl rfl rfl hg6B) rfl <| aS 8 511 rfl rfl (GY_no rfl rfl rfl hg6B) rfl <| aS 9 1023 rfl rfl (GY_no rfl rfl rfl hg6B) rfl <| aS 10 2047 rfl rfl (GY_no rfl rfl rfl hg6B) rfl <| aS 11 4095 rfl rfl (GY_no rfl rfl rfl hg6B) rfl <| aS 12 8191 rfl rfl (GY_no rfl rfl rfl hg6B) rfl <| aS 13 16383 rfl rfl (GY_no rfl rfl rfl hg6B) rfl <| aS 14 32767 rfl rfl (GY_no rfl rfl rfl hg6B) rfl <| aS 15 65535 rfl rfl (GY_no rfl rfl rfl hg6B) rfl <| aS 16 131071 rfl rfl (GY_no rfl rfl rfl hg6B) rfl <| aS 17 262143 rfl rfl (GY_no rfl rfl rfl hg6B) rfl <| aS 18 524287 rfl rfl (GY_no rfl rfl rfl hg6B) rfl <| aS 19 1048575 rfl rfl (GY_no rfl rfl rfl hg6B) rfl <| aS 20 2097151 rfl rfl (GY_no rfl rfl rfl hg6B) rfl <| aS 21 4194303 rfl rfl (GY_no rfl rfl rfl hg6B) rfl <| aS 22 8388607 rfl rfl (GY_no rfl rfl rfl hg6B) rfl <| aS 23 16777215 rfl rfl (GY_no rfl rfl rfl hg6B) rfl <| aN 24 33554431 rfl rfl (P_pickT rfl hg6B rfl) rfl <| aN 25 67108863 rfl rfl (P_move rfl) rfl <| aS 26 134217727 rfl rfl (GY_no rfl rfl rfl rfl) rfl <| aS 27 268435455 rfl rfl (GY_no rfl rfl rfl rfl) rfl <| aS 28 536870911 rfl rfl (GY_no rfl rfl rfl rfl) rfl <| aS 29 1073741823 rfl rfl (GY_no rfl rfl rfl rfl) rfl <| aS 30 2147483647 rfl rfl (GY_no rfl rfl rfl rfl) rfl <| aS 31 4294967295 rfl rfl (GY_no rfl rfl rfl rfl) rfl <| aS 32 8589934591 rfl rfl (GY_no rfl rfl rfl rfl) rfl <| aS 33 17179869183 rfl rfl (GY_no rfl rfl rfl rfl) rfl <| aS 34 34359738367 rfl rfl (GY_no rfl rfl rfl rfl) rfl ?_
    refine aS 35 68719476735 rfl rfl (GY_no rfl rfl rfl rfl) rfl <| aS 36 137438953471 rfl rfl (GY_no rfl rfl rfl rfl) rfl <| aN 37 274877906943 rfl rfl (P_pickT rfl rfl rfl) rfl <| aD <| CJ_condT rfl rfl <| sR <| oA rfl rfl <| nT <| CJ_ret <| QJ_then_ret ?_
    cases h
    exact fE (res1 Tryz.results72 rfl) () (t0_ (t1_ (eD eR)))
   ·
    replace h := ite_f hg6 h
    refine aV 7 255 rfl rfl (GY_yes rfl rfl rfl hg6B) eR (V_load rfl foc1 rfl Tryz.isAgg65) rfl <| aP 8 511 rfl rfl (GY_yes rfl rfl rfl hg6B) (P_nilCheck rfl) rfl <| aP 9 1023 rfl rfl (GY_yes rfl rfl rfl hg6B) (P_fieldAddr rfl ⟨_, _, _, Tryz.runUnderlying123, rfl, rfl, Tryz.sizeOf121, rfl⟩) rfl <| aP 10 2047 rfl rfl (GY_yes rfl rfl rfl hg6B) (P_fieldAddr rfl ⟨_, _, _, Tryz.runUnderlying121, rfl, rfl, Tryz.sizeOf3, rfl⟩) rfl <| aV 11 4095 rfl rfl (GY_yes rfl rfl rfl hg6B) eR (VJ_entX (Ent.transX (t0_ eR) (VolP_open (l := a10))) (fun _ => V_load rfl foc0 rfl Tryz.isAgg3)) rfl <| aV 12 8191 rfl rfl (GY_yes rfl rfl rfl hg6B) eR (V_load rfl foc1 rfl Tryz.isAgg65) rfl <| aP 13 16383 rfl rfl (GY_yes rfl rfl rfl hg6B) (P_nilCheck rfl) rfl <| aP 14 32767 rfl rfl (GY_yes rfl rfl rfl hg6B) (P_fieldAddr rfl ⟨_, _, _, Tryz.runUnderlying123, rfl, rfl, Tryz.sizeOf112, rfl⟩) rfl <| aP 15 65535 rfl rfl (GY_yes rfl rfl rfl hg6B) (P_fieldAddr rfl ⟨_, _, _, Tryz.runUnderlying112, rfl, rfl, Tryz.sizeOf3, rfl⟩) rfl <| aV 16 131071 rfl rfl (GY_yes rfl rfl rfl hg6B) eR (VJ_entX (Ent.transX (t0_ eR) (VolP_open (l := a10))) (fun _ => V_load rfl foc0 rfl Tryz.isAgg3)) rfl <| aV 17 262143 rfl rfl (GY_yes rfl rfl rfl hg6B) eR (V_load rfl foc1 rfl Tryz.isAgg65) rfl <| aP 18 524287 rfl rfl (GY_yes rfl rfl rfl hg6B) (P_nilCheck rfl) rfl ?_
    refine aP 19 1048575 rfl rfl (GY_yes rfl rfl rfl hg6B) (P_fieldAddr rfl ⟨_, _, _, Tryz.runUnderlying123, rfl, rfl, Tryz.sizeOf112, rfl⟩) rfl <| aP 20 2097151 rfl rfl (GY_yes rfl rfl rfl hg6B) (P_fieldAddr rfl ⟨_, _, _, Tryz.runUnderlying112, rfl, rfl, Tryz.sizeOf3, rfl⟩) rfl <| aV 21 4194303 rfl rfl (GY_yes rfl rfl rfl hg6B) eR (VJ_entX (Ent.transX (t0_ eR) (VolP_open (l := a10))) (fun _ => V_load rfl foc0 rfl Tryz.isAgg3)) rfl ?_
    obtain ⟨hg7, h⟩ := grd_Ie h
    refine aP 22 8388607 rfl rfl (GY_yes rfl rfl rfl hg6B) (P_mul (a := a10.layout_rows) (b := a10.layout_chunk) rfl rfl hg7) rfl <| aP 23 16777215 rfl rfl (GY_yes rfl rfl rfl hg6B) (P_geq (a := a10.last_offset) (b := (a10.layout_rows * a10.layout_chunk)) rfl rfl) rfl <| aN 24 33554431 rfl rfl (P_pickF rfl hg6B rfl) rfl <| aN 25 67108863 rfl rfl (P_move rfl) rfl <| AJ_splitP 60 rfl bT_dec (fun hg8B hg8 => ?_) (fun hg8B hg8 => ?_)
    ·
     replace h := ite_t hg8 h
     refine aS 26 134217727 rfl rfl (GY_no rfl rfl rfl hg8B) rfl <| aS 27 268435455 rfl rfl (GY_no rfl rfl rfl hg8B) rfl <| aS 28 536870911 rfl rfl (GY_no rfl rfl rfl hg8B) rfl <| aS 29 1073741823 rfl rfl (GY_no rfl rfl rfl hg8B) rfl <| aS 30 2147483647 rfl rfl (GY_no rfl rfl rfl hg8B) rfl <| aS 31 4294967295 rfl rfl (GY_no rfl rfl rfl hg8B) rfl <| aS 32 8589934591 rfl rfl (GY_no rfl rfl rfl hg8B) rfl <| aS 33 17179869183 rfl rfl (GY_no rfl rfl rfl hg8B) rfl <| aS 34 34359738367 rfl rfl (GY_no rfl rfl rfl hg8B) rfl <| aS 35 68719476735 rfl rfl (GY_no rfl rfl rfl hg8B) rfl <| aS 36 137438953471 rfl rfl (GY_no rfl rfl rfl hg8B) rfl <| aN 37 274877906943 rfl rfl (P_pickT rfl hg8B rfl) rfl <| aD <| CJ_condT rfl rfl <| sR <| oA rfl rfl <| nT <| CJ_ret <| QJ_then_ret ?_
     cases h
     exact fE (res1 Tryz.results72 rfl) () (t0_ (t1_ (eD eR)))
    ·
     replace h := ite_f hg8 h
     refine aV 26 134217727 rfl rfl (GY_yes rfl rfl rfl hg8B) eR (V_load rfl foc1 rfl Tryz.isAgg65) rfl <| aP 27 268435455 rfl rfl (GY_yes rfl rfl rfl hg8B) (P_nilCheck rfl) rfl <| aP 28 536870911 rfl rfl (GY_yes rfl rfl rfl hg8B) (P_fieldAddr rfl ⟨_, _, _, Tryz.runUnderlying123, rfl, rfl, Tryz.sizeOf121, rfl⟩) rfl <| aP 29 1073741823 rfl rfl (GY_yes rfl rfl rfl hg8B) (P_fieldAddr rfl ⟨_, _, _, Tryz.runUnderlying121, rfl, rfl, Tryz.sizeOf3, rfl⟩) rfl <| aV 30 2147483647 rfl rfl (GY_yes rfl rfl rfl hg8B) eR (VJ_entX (Ent.transX (t0_ eR) (VolP_open (l := a10))) (fun _ => V_load rfl foc0 rfl Tryz.isAgg3)) rfl <| aV 31 4294967295 rfl rfl (GY_yes rfl rfl rfl hg8B) eR (V_load rfl foc1 rfl Tryz.isAgg65) rfl <| aP 32 8589934591 rfl rfl (GY_yes rfl rfl rfl hg8B) (P_nilCheck rfl) rfl <| aP 33 17179869183 rfl rfl (GY_yes rfl rfl rfl hg8B) (P_fieldAddr rfl ⟨_, _, _, Tryz.runUnderlying123, rfl, rfl, Tryz.sizeOf112, rfl⟩) rfl <| aP 34 34359738367 rfl rfl (GY_yes rfl rfl rfl hg8B) (P_fieldAddr rfl ⟨_, _, _, Tryz.runUnderlying112, rfl, rfl, Tryz.sizeOf3, rfl⟩) rfl <| aV 35 68719476735 rfl rfl (GY_yes rfl rfl rfl hg8B) eR (VJ_entX (Ent.transX (t0_ eR) (VolP_open (l := a10))) (fun _ => V_load rfl foc0 rfl Tryz.isAgg3)) rfl <| aP 36 137438953471 rfl rfl (GY_yes rfl rfl rfl hg8B) (P_geq (a := a10.last_leg) (b := a10.layout_n) rfl rfl) rfl <| aN 37 274877906943 rfl rfl (P_pickF rfl hg8B rfl) rfl <| aD ?_
     refine CJ_condP rfl bT_dec (fun hg9 => ?_) (fun hg9 => ?_)
     ·
      replace h := ite_t hg9 h
      refine sR <| oA rfl rfl <| nT <| CJ_ret <| QJ_then_ret ?_
      cases h
      exact fE (res1 Tryz.results72 rfl) () (t0_ (t1_ (eD eR)))
     ·
      replace h := ite_f hg9 h
      refine kT <| sR <| oV (V_load rfl foc1 rfl Tryz.isAgg65) rfl ?_
      obtain ⟨r20, hr21, h⟩ := bind_e h
      refine oO <| O_call (L_parityvol_Volume_commit hr21) rfl Tryz.call106 (Dels.cons del0 (Dels.cons del1 Dels.nil)) rfl fun _ _ => oA rfl rfl <| nT <| CJ_ret ?_
      cases h
      exact fE (res1 Tryz.results72 rfl) () (t0_ (t0_ (eD eR)))
def parityvol_Open_1 (k : Int) (p1 : List Dvc) (s : ArrS) : Option (Bool) :=
  some (((decide (k < (0 : Int))) || (decide (((p1.length : Nat) : Int) ≤ k))))
theorem L_parityvol_Open_1 {W : World} {bp1 : Nat} {Ap1 : HP} {vp1 : Value} {hsp1 : List IfH} {bs : Nat} {k : Int} {p1 : List Dvc} {s : ArrS} {r : Bool} (rp1 : Reads Ap1 tyDev vp1 hsp1) (h : parityvol_Open_1 k p1 s = some r) :
    CSpec Tryz.prog W 68 [.int .i64 k, ptr bp1 0] [blk bp1 62 [vp1], Ap1, Rs (DevP bs) p1 hsp1, Arr bs s] (fun x : Unit => .bool r) (fun _ => True) (fun x F => blk bp1 62 [vp1] :: Ap1 :: Rs (DevP bs) p1 hsp1 :: Arr bs s :: F) := by
 refine CSpec.of_body Tryz.func68 rfl Tryz.ntmps68 rfl fun F => ?_
 show CJ _ _ _ _ _ _ (_ :: _ :: _ :: _ :: F)
 unfold parityvol_Open_1 at h
 refine CJ_pure (len_of rp1 del1) fun hlen1 => CJ_pure (fun h hh => Rs_len (stars_perm (del2 (A := Rs (DevP bs) p1 hsp1)).out h hh)) fun hdl2 => sR <| oA rfl rfl <| nT <| sR <| oM rfl rfl <| oP (P_lss (a := k) (b := (0 : Int)) rfl rfl) rfl <| oM rfl rfl <| RJ_mbF rfl rfl rfl (fun hG3 => have hP4 : ¬ (k < (0 : Int)) := nP (bT_dec) hG3; VJ_P (P_move rfl)) <| RJ_mbF rfl rfl rfl (fun hG5 => have hP6 : ¬ (k < (0 : Int)) := nP (bT_dec) hG5; V_load rfl foc0 rfl Tryz.isAgg62) <| RJ_mbF rfl rfl rfl (fun hG7 => have hP8 : ¬ (k < (0 : Int)) := nP (bT_dec) hG7; VJ_eq (V_len (mbx hG7 rfl) foc1 rp1 Tryz.runUnderlying62) (congrArg (fun z : Nat => Value.int .i64 (z : Int)) (hdl2).symm)) <| RJ_mbF rfl rfl rfl (fun hG9 => have hP10 : ¬ (k < (0 : Int)) := nP (bT_dec) hG9; VJ_P (P_geq (a := k) (b := ((p1.length : Nat) : Int)) (mbx hG9 rfl) (mbx hG9 rfl))) <| oP (P_pickOr rfl rfl (fun hh => mbx (not_f hh) rfl)) rfl <| oA rfl rfl <| nT <| CJ_ret ?_
 cases h
 exact fE (res1 Tryz.results68 rfl) () eR
def slices_IndexFunc_int__parityvol_Open_1_l1_b (p0 : List Int) (p1_c0 : List Dvc) (s : ArrS) (rec : Nat → Option ((Unit) ⊕ Int)) (x8 : Nat) : Option ((Unit) ⊕ Int) :=
  if (((x8 : Nat) : Int) < ((p0.length : Nat) : Int)) then
    Option.bind (parityvol_Open_1 (p0.getD x8 0) p1_c0 s) fun r9 =>
    if r9 = true then
      some (.inr (((x8 : Nat) : Int)))
    else
      rec (x8 + 1)
  else
    some (.inl ())
def slices_IndexFunc_int__parityvol_Open_1_l1 (p0 : List Int) (p1_c0 : List Dvc) (s : ArrS) : Nat → Nat → Option ((Unit) ⊕ Int)
  | 0, _ => none
  | n + 1, x8 => slices_IndexFunc_int__parityvol_Open_1_l1_b p0 p1_c0 s (slices_IndexFunc_int__parityvol_Open_1_l1 p0 p1_c0 s n) x8
def slices_IndexFunc_int__parityvol_Open_1 (p0 : List Int) (p1_c0 : List Dvc) (s : ArrS) : Option (Int) :=
  seqO (slices_IndexFunc_int__parityvol_Open_1_l1 p0 p1_c0 s FUEL 0) fun a7 =>
  some (-1 : Int)
theorem L_slices_IndexFunc_int__parityvol_Open_1 {W : World} {Ap0 : HP} {vp0 : Value} {bp1_c0 : Nat} {Ap1_c0 : HP} {vp1_c0 : Value} {hsp1_c0 : List IfH} {bs : Nat} {p0 : List Int} {p1_c0 : List Dvc} {s : ArrS} {r : Int} (rp0 : Reads Ap0 tyI vp0 p0) (rp1_c0 : Reads Ap1_c0 tyDev vp1_c0 hsp1_c0) (h : slices_IndexFunc_int__parityvol_Open_1 p0 p1_c0 s = some r) :
    CSpec Tryz.prog W 102 [vp0, .func (.func 68) #[] #[ptr bp1_c0 0]] [Ap0, blk bp1_c0 62 [vp1_c0], Ap1_c0, Rs (DevP bs) p1_c0 hsp1_c0, Arr bs s] (fun x : Unit => .int .i64 r) (fun _ => True) (fun x F => Ap0 :: blk bp1_c0 62 [vp1_c0] :: Ap1_c0 :: Rs (DevP bs) p1_c0 hsp1_c0 :: Arr bs s :: F) := by
 refine CSpec.of_body Tryz.func102 rfl Tryz.ntmps102 rfl fun F => ?_
 show CJ _ _ _ _ _ _ (_ :: _ :: _ :: _ :: _ :: F)
 unfold slices_IndexFunc_int__parityvol_Open_1 at h
 refine CJ_pure (len_of rp0 del0) fun hlen1 => CJ_pure (len_of rp1_c0 del2) fun hlen2 => CJ_pure (fun h hh => Rs_len (stars_perm (del3 (A := Rs (DevP bs) p1_c0 hsp1_c0)).out h hh)) fun hdl3 => sR <| oA rfl rfl <| nT <| CJ_seq <| sR <| oM rfl rfl <| oV (V_len rfl foc0 rp0 Tryz.runUnderlying35) rfl <| oM rfl rfl <| nT ?_
 obtain ⟨y6, hl4, hK5⟩ := seq_e h
 refine CJ_cutT (X := Unit) [4, 5, 8, 9, 10, 11, 12, 13, 14, 15, 16, 17, 18] (fun _ => ([] : Slots)) (fun _ R => R) (fun _ => y6 = .inl ()) Dels.nil ?_ ?_
 ·
  refine CJ_block <| CJ_loopR (X := Nat × Nat) [4, 5, 8, 9, 10, 11, 12, 13, 14, 15, 16, 17, 18] (fun ⟨n, x8⟩ => ([(8, .int .i64 (((x8 : Nat) : Int)))] : Slots)) (fun ⟨n, x8⟩ R => R) (fun ⟨n, x8⟩ => slices_IndexFunc_int__parityvol_Open_1_l1 p0 p1_c0 s n x8 = some y6) (fun ⟨n, x8⟩ => n) ⟨FUEL, 0⟩ ?_ ?_ eR ?_
  · exact hl4
  · exact ⟨rfl, True.intro⟩
  ·
   rintro ⟨n, x8⟩ h
   cases n with
   | zero => exact none_e h
   | succ n => ?_
   replace h : slices_IndexFunc_int__parityvol_Open_1_l1_b p0 p1_c0 s (slices_IndexFunc_int__parityvol_Open_1_l1 p0 p1_c0 s n) x8 = some y6 := h
   unfold slices_IndexFunc_int__parityvol_Open_1_l1_b at h
   show CJ _ _ _ _ _ (([(8, .int .i64 (((x8 : Nat) : Int)))] : Slots) ++ forget _ _) (_)
   refine sR <| oP (P_lss (a := ((x8 : Nat) : Int)) (b := ((p0.length : Nat) : Int)) rfl rfl) rfl <| nT <| CJ_seq <| CJ_condP rfl bT_dec (fun hg1 => ?_) (fun hg1 => ?_)
   ·
    replace h := ite_t hg1 h
    refine kT <| CJ_seq <| CJ_block <| sR <| oM rfl rfl <| oA rfl rfl <| nT <| sR <| oM rfl rfl <| oM rfl rfl <| oM rfl rfl <| oV (V_index (i := x8) rfl rfl rfl (by omega) foc0 rp0 Tryz.runUnderlying35 Tryz.sizeOf3) rfl <| oV (V_loadE rfl rfl (by omega) foc0 rp0 rfl rfl Tryz.isAgg3) rfl ?_
    obtain ⟨r9, hr10, h⟩ := bind_e h
    refine oO <| O_callV rfl rfl (L_parityvol_Open_1 rp1_c0 hr10) Tryz.call68 (Dels.cons del1 (Dels.cons del1 (Dels.cons del1 (Dels.cons del1 Dels.nil)))) rfl fun _ _ => nT <| CJ_condP rfl Iff.rfl (fun hg2 => ?_) (fun hg2 => ?_)
    ·
     replace h := ite_t hg2 h
     refine sR <| oM rfl rfl <| oA rfl rfl <| nT <| CJ_ret <| QJ_block_ret <| QJ_then_ret <| QJ_round_ret <| QJ_block_ret <| QJ_then_ret ?_
     have hE := Option.some.inj h
     replace hE := seq_inr hK5 hE.symm
     subst hE
     exact fE (res1 Tryz.results102 rfl) () (t4_ eR)
    ·
     replace h := ite_f hg2 h
     exact CJ_skip <| QJ_block_normal <| QJ_then <| CJ_region <| oP (PJ_eq (P_add (a := ((x8 : Nat) : Int)) (b := (1 : Int)) rfl rfl (by omega)) rfl) rfl <| oM rfl rfl <| RJ_nil <| nR ⟨n, (x8 + 1)⟩ h ⟨rfl, True.intro⟩ (t4_ eR)
   ·
    replace h := ite_f hg1 h
    exact CJ_exit <| QJ_then_exit <| QJ_round_exit <| QJ_block_here <| cR () (Option.some.inj h).symm True.intro eR
 ·
  rintro _ hy11
  replace h := seq_inl hK5 hy11
  show CJ _ _ _ _ _ (([] : Slots) ++ forget _ _) (_)
  refine sR <| oA rfl rfl <| nT <| CJ_ret ?_
  cases h
  exact fE (res1 Tryz.results102 rfl) () eR
def slices_ContainsFunc_int__parityvol_Open_1 (p0 : List Int) (p1_c0 : List Dvc) (s : ArrS) : Option (Bool) :=
  Option.bind (slices_IndexFunc_int__parityvol_Open_1 p0 p1_c0 s) fun r4 =>
  some ((decide ((0 : Int) ≤ r4)))
theorem L_slices_ContainsFunc_int__parityvol_Open_1 {W : World} {Ap0 : HP} {vp0 : Value} {bp1_c0 : Nat} {Ap1_c0 : HP} {vp1_c0 : Value} {hsp1_c0 : List IfH} {bs : Nat} {p0 : List Int} {p1_c0 : List Dvc} {s : ArrS} {r : Bool} (rp0 : Reads Ap0 tyI vp0 p0) (rp1_c0 : Reads Ap1_c0 tyDev vp1_c0 hsp1_c0) (h : slices_ContainsFunc_int__parityvol_Open_1 p0 p1_c0 s = some r) :
    CSpec Tryz.prog W 67 [vp0, .func (.func 68) #[] #[ptr bp1_c0 0]] [Ap0, blk bp1_c0 62 [vp1_c0], Ap1_c0, Rs (DevP bs) p1_c0 hsp1_c0, Arr bs s] (fun x : Unit => .bool r) (fun _ => True) (fun x F => Ap0 :: blk bp1_c0 62 [vp1_c0] :: Ap1_c0 :: Rs (DevP bs) p1_c0 hsp1_c0 :: Arr bs s :: F) := by
 refine CSpec.of_body Tryz.func67 rfl Tryz.ntmps67 rfl fun F => ?_
 show CJ _ _ _ _ _ _ (_ :: _ :: _ :: _ :: _ :: F)
 unfold slices_ContainsFunc_int__parityvol_Open_1 at h
 refine CJ_pure (len_of rp0 del0) fun hlen1 => CJ_pure (len_of rp1_c0 del2) fun hlen2 => CJ_pure (fun h hh => Rs_len (stars_perm (del3 (A := Rs (DevP bs) p1_c0 hsp1_c0)).out h hh)) fun hdl3 => sR <| oA rfl rfl <| nT <| sR <| oM rfl rfl <| oM rfl rfl ?_
 obtain ⟨r4, hr5, h⟩ := bind_e h
 refine oO <| O_call (L_slices_IndexFunc_int__parityvol_Open_1 rp0 rp1_c0 hr5) rfl Tryz.call102 (Dels.cons del0 (Dels.cons del0 (Dels.cons del0 (Dels.cons del0 (Dels.cons del0 Dels.nil))))) rfl fun _ _ => oP (P_geq (a := r4) (b := (0 : Int)) rfl rfl) rfl <| oA rfl rfl <| nT <| CJ_ret ?_
 cases h
 exact fE (res1 Tryz.results67 rfl) () eR
def slices_Max_int_l2_b (p0 : List Int) (rec : Int → Nat → Option (Int)) (x12 : Int) (x13 : Nat) : Option (Int) :=
  if (((x13 : Nat) : Int) < ((p0.length : Nat) : Int)) then
    rec ((max x12 (p0.getD x13 0))) (x13 + 1)
  else
    some x12
def slices_Max_int_l2 (p0 : List Int) : Nat → Int → Nat → Option (Int)
  | 0, _, _ => none
  | n + 1, x12, x13 => slices_Max_int_l2_b p0 (slices_Max_int_l2 p0 n) x12 x13
def slices_Max_int (p0 : List Int) : Option (Int) :=
  Option.bind ((
    if (((p0.length : Nat) : Int) < (1 : Int)) then
      none
    else
      some () : Option (Unit))) fun a5 =>
  grd (decide (0 < p0.length)) <|
  Option.bind (slices_Max_int_l2 p0 FUEL (p0.getD 0 0) 1) fun a11 =>
  some a11
theorem L_slices_Max_int {W : World} {Ap0 : HP} {vp0 : Value} {p0 : List Int} {r : Int} (rp0 : Reads Ap0 tyI vp0 p0) (h : slices_Max_int p0 = some r) :
    CSpec Tryz.prog W 69 [vp0] [Ap0] (fun x : Unit => .int .i64 r) (fun _ => True) (fun x F => Ap0 :: F) := by
 refine CSpec.of_body Tryz.func69 rfl Tryz.ntmps69 rfl fun F => ?_
 show CJ _ _ _ _ _ _ (_ :: F)
 unfold slices_Max_int at h
 refine CJ_pure (len_of rp0 del0) fun hlen1 => sR <| oA rfl rfl <| nT <| CJ_seq <| sR <| oM rfl rfl <| oV (V_len rfl foc0 rp0 Tryz.runUnderlying35) rfl <| oP (P_lss (a := ((p0.length : Nat) : Int)) (b := (1 : Int)) rfl rfl) rfl <| nT ?_
 obtain ⟨y4, hl2, hK3⟩ := bind_c h
 refine CJ_cutT (X := Unit) [8] (fun _ => ([] : Slots)) (fun _ R => R) (fun _ => True) Dels.nil ?_ ?_
 ·
  have h := hl2
  refine CJ_condP rfl bT_dec (fun hg1 => ?_) (fun hg1 => ?_)
  ·
   replace h := ite_t hg1 h
   exact CJ_region <| oP (P_makeIface rfl Tryz.runUnderlying9 (by intro ms h; cases h)) rfl <| none_e h
  ·
   replace h := ite_f hg1 h
   exact CJ_skip <| cR () trivial True.intro eR
 ·
  rintro _ hy6
  have h := hK3
  show CJ _ _ _ _ _ (([] : Slots) ++ forget _ _) (_)
  refine sR <| oM rfl rfl ?_
  obtain ⟨hg2, h⟩ := grd_de h
  refine oV (V_index (i := 0) rfl rfl rfl hg2 foc0 rp0 Tryz.runUnderlying35 Tryz.sizeOf3) rfl <| oV (V_loadE rfl rfl hg2 foc0 rp0 rfl rfl Tryz.isAgg3) rfl <| oA rfl rfl <| nT <| CJ_seq <| sR <| oA rfl rfl <| nT ?_
  obtain ⟨y9, hl7, hK8⟩ := bind_c h
  refine CJ_cutT (X := Int) [3, 4, 12, 13, 14, 15, 16, 17, 18, 19, 20, 21, 22, 23] (fun a11 => ([(3, .int .i64 a11)] : Slots)) (fun a11 R => R) (fun a11 => y9 = a11) Dels.nil ?_ ?_
  ·
   refine CJ_block <| CJ_loopR (X := Nat × Int × Nat) [3, 4, 12, 13, 14, 15, 16, 17, 18, 19, 20, 21, 22, 23] (fun ⟨n, x12, x13⟩ => ([(3, .int .i64 x12), (4, .int .i64 (((x13 : Nat) : Int)))] : Slots)) (fun ⟨n, x12, x13⟩ R => R) (fun ⟨n, x12, x13⟩ => slices_Max_int_l2 p0 n x12 x13 = some y9) (fun ⟨n, x12, x13⟩ => n) ⟨FUEL, (p0.getD 0 0), 1⟩ ?_ ?_ eR ?_
   · exact hl7
   · exact ⟨rfl, rfl, True.intro⟩
   ·
    rintro ⟨n, x12, x13⟩ h
    cases n with
    | zero => exact none_e h
    | succ n => ?_
    replace h : slices_Max_int_l2_b p0 (slices_Max_int_l2 p0 n) x12 x13 = some y9 := h
    unfold slices_Max_int_l2_b at h
    show CJ _ _ _ _ _ (([(3, .int .i64 x12), (4, .int .i64 (((x13 : Nat) : Int)))] : Slots) ++ forget _ _) (_)
    refine CJ_seq <| sR <| oM rfl rfl <| oM rfl rfl <| oV (V_len rfl foc0 rp0 Tryz.runUnderlying35) rfl <| oP (P_lss (a := ((x13 : Nat) : Int)) (b := ((p0.length : Nat) : Int)) rfl rfl) rfl <| nT <| CJ_condP rfl bT_dec (fun hg3 => ?_) (fun hg3 => ?_)
    ·
     replace h := ite_t hg3 h
     exact kT <| CJ_seq <| CJ_block <| CJ_region <| oM rfl rfl <| oM rfl rfl <| oM rfl rfl <| oV (V_index (i := x13) rfl rfl rfl (by omega) foc0 rp0 Tryz.runUnderlying35 Tryz.sizeOf3) rfl <| oV (V_loadE rfl rfl (by omega) foc0 rp0 rfl rfl Tryz.isAgg3) rfl <| oP (P_max (a := x12) (b := (p0.getD x13 0)) rfl rfl) rfl <| oA rfl rfl <| RJ_nil <| QJ_block_normal <| QJ_then <| CJ_region <| oM rfl rfl <| oP (PJ_eq (P_add (a := ((x13 : Nat) : Int)) (b := (1 : Int)) rfl rfl (by omega)) rfl) rfl <| oA rfl rfl <| RJ_nil <| nR ⟨n, (max x12 (p0.getD x13 0)), (x13 + 1)⟩ h ⟨rfl, rfl, True.intro⟩ eR
    ·
     replace h := ite_f hg3 h
     exact CJ_exit <| QJ_then_exit <| QJ_round_exit <| QJ_block_here <| cR x12 (Option.some.inj h).symm ⟨rfl, True.intro⟩ eR
  ·
   rintro a11 hy14
   replace h := bindK_at hK8 hy14
   show CJ _ _ _ _ _ (([(3, .int .i64 a11)] : Slots) ++ forget _ _) (_)
   refine sR <| oM rfl rfl <| oA rfl rfl <| nT <| CJ_ret ?_
   cases h
   exact fE (res1 Tryz.results69 rfl) () eR
def slices_Min_int_l2_b (p0 : List Int) (rec : Int → Nat → Option (Int)) (x12 : Int) (x13 : Nat) : Option (Int) :=
  if (((x13 : Nat) : Int) < ((p0.length : Nat) : Int)) then
    rec ((min x12 (p0.getD x13 0))) (x13 + 1)
  else
    some x12
def slices_Min_int_l2 (p0 : List Int) : Nat → Int → Nat → Option (Int)
  | 0, _, _ => none
  | n + 1, x12, x13 => slices_Min_int_l2_b p0 (slices_Min_int_l2 p0 n) x12 x13
def slices_Min_int (p0 : List Int) : Option (Int) :=
  Option.bind ((
    if (((p0.length : Nat) : Int) < (1 : Int)) then
      none
    else
      some () : Option (Unit))) fun a5 =>
  grd (decide (0 < p0.length)) <|
  Option.bind (slices_Min_int_l2 p0 FUEL (p0.getD 0 0) 1) fun a11 =>
  some a11
theorem L_slices_Min_int {W : World} {Ap0 : HP} {vp0 : Value} {p0 : List Int} {r : Int} (rp0 : Reads Ap0 tyI vp0 p0) (h : slices_Min_int p0 = some r) :
    CSpec Tryz.prog W 70 [vp0] [Ap0] (fun x : Unit => .int .i64 r) (fun _ => True) (fun x F => Ap0 :: F) := by
 refine CSpec.of_body Tryz.func70 rfl Tryz.ntmps70 rfl fun F => ?_
 show CJ _ _ _ _ _ _ (_ :: F)
 unfold slices_Min_int at h
 refine CJ_pure (len_of rp0 del0) fun hlen1 => sR <| oA rfl rfl <| nT <| CJ_seq <| sR <| oM rfl rfl <| oV (V_len rfl foc0 rp0 Tryz.runUnderlying35) rfl <| oP (P_lss (a := ((p0.length : Nat) : Int)) (b := (1 : Int)) rfl rfl) rfl <| nT ?_
 obtain ⟨y4, hl2, hK3⟩ := bind_c h
 refine CJ_cutT (X := Unit) [8] (fun _ => ([] : Slots)) (fun _ R => R) (fun _ => True) Dels.nil ?_ ?_
 ·
  have h := hl2
  refine CJ_condP rfl bT_dec (fun hg1 => ?_) (fun hg1 => ?_)
  ·
   replace h := ite_t hg1 h
   exact CJ_region <| oP (P_makeIface rfl Tryz.runUnderlying9 (by intro ms h; cases h)) rfl <| none_e h
  ·
   replace h := ite_f hg1 h
   exact CJ_skip <| cR () trivial True.intro eR
 ·
  rintro _ hy6
  have h := hK3
  show CJ _ _ _ _ _ (([] : Slots) ++ forget _ _) (_)
  refine sR <| oM rfl rfl ?_
  obtain ⟨hg2, h⟩ := grd_de h
  refine oV (V_index (i := 0) rfl rfl rfl hg2 foc0 rp0 Tryz.runUnderlying35 Tryz.sizeOf3) rfl <| oV (V_loadE rfl rfl hg2 foc0 rp0 rfl rfl Tryz.isAgg3) rfl <| oA rfl rfl <| nT <| CJ_seq <| sR <| oA rfl rfl <| nT ?_
  obtain ⟨y9, hl7, hK8⟩ := bind_c h
  refine CJ_cutT (X := Int) [3, 4, 12, 13, 14, 15, 16, 17, 18, 19, 20, 21, 22, 23] (fun a11 => ([(3, .int .i64 a11)] : Slots)) (fun a11 R => R) (fun a11 => y9 = a11) Dels.nil ?_ ?_
  ·
   refine CJ_block <| CJ_loopR (X := Nat × Int × Nat) [3, 4, 12, 13, 14, 15, 16, 17, 18, 19, 20, 21, 22, 23] (fun ⟨n, x12, x13⟩ => ([(3, .int .i64 x12), (4, .int .i64 (((x13 : Nat) : Int)))] : Slots)) (fun ⟨n, x12, x13⟩ R => R) (fun ⟨n, x12, x13⟩ => slices_Min_int_l2 p0 n x12 x13 = some y9) (fun ⟨n, x12, x13⟩ => n) ⟨FUEL, (p0.getD 0 0), 1⟩ ?_ ?_ eR ?_
   · exact hl7
   · exact ⟨rfl, rfl, True.intro⟩
   ·
    rintro ⟨n, x12, x13⟩ h
    cases n with
    | zero => exact none_e h
    | succ n => ?_
    replace h : slices_Min_int_l2_b p0 (slices_Min_int_l2 p0 n) x12 x13 = some y9 := h
    unfold slices_Min_int_l2_b at h
    show CJ _ _ _ _ _ (([(3, .int .i64 x12), (4, .int .i64 (((x13 : Nat) : Int)))] : Slots) ++ forget _ _) (_)
    refine CJ_seq <| sR <| oM rfl rfl <| oM rfl rfl <| oV (V_len rfl foc0 rp0 Tryz.runUnderlying35) rfl <| oP (P_lss (a := ((x13 : Nat) : Int)) (b := ((p0.length : Nat) : Int)) rfl rfl) rfl <| nT <| CJ_condP rfl bT_dec (fun hg3 => ?_) (fun hg3 => ?_)
    ·
     replace h := ite_t hg3 h
     exact kT <| CJ_seq <| CJ_block <| CJ_region <| oM rfl rfl <| oM rfl rfl <| oM rfl rfl <| oV (V_index (i := x13) rfl rfl rfl (by omega) foc0 rp0 Tryz.runUnderlying35 Tryz.sizeOf3) rfl <| oV (V_loadE rfl rfl (by omega) foc0 rp0 rfl rfl Tryz.isAgg3) rfl <| oP (P_min (a := x12) (b := (p0.getD x13 0)) rfl rfl) rfl <| oA rfl rfl <| RJ_nil <| QJ_block_normal <| QJ_then <| CJ_region <| oM rfl rfl <| oP (PJ_eq (P_add (a := ((x13 : Nat) : Int)) (b := (1 : Int)) rfl rfl (by omega)) rfl) rfl <| oA rfl rfl <| RJ_nil <| nR ⟨n, (min x12 (p0.getD x13 0)), (x13 + 1)⟩ h ⟨rfl, rfl, True.intro⟩ eR
    ·
     replace h := ite_f hg3 h
     exact CJ_exit <| QJ_then_exit <| QJ_round_exit <| QJ_block_here <| cR x12 (Option.some.inj h).symm ⟨rfl, True.intro⟩ eR
  ·
   rintro a11 hy14
   replace h := bindK_at hK8 hy14
   show CJ _ _ _ _ _ (([(3, .int .i64 a11)] : Slots) ++ forget _ _) (_)
   refine sR <| oM rfl rfl <| oA rfl rfl <| nT <| CJ_ret ?_
   cases h
   exact fE (res1 Tryz.results70 rfl) () eR
def slices_Index_int_l1_b (p0 : List Int) (p1 : Int) (rec : Nat → Option ((Unit) ⊕ Int)) (x6 : Nat) : Option ((Unit) ⊕ Int) :=
  if (((x6 : Nat) : Int) < ((p0.length : Nat) : Int)) then
    if (p1 = (p0.getD x6 0)) then
      some (.inr (((x6 : Nat) : Int)))
    else
      rec (x6 + 1)
  else
    some (.inl ())
def slices_Index_int_l1 (p0 : List Int) (p1 : Int) : Nat → Nat → Option ((Unit) ⊕ Int)
  | 0, _ => none
  | n + 1, x6 => slices_Index_int_l1_b p0 p1 (slices_Index_int_l1 p0 p1 n) x6
def slices_Index_int (p0 : List Int) (p1 : Int) : Option (Int) :=
  seqO (slices_Index_int_l1 p0 p1 FUEL 0) fun a5 =>
  some (-1 : Int)
theorem L_slices_Index_int {W : World} {Ap0 : HP} {vp0 : Value} {p0 : List Int} {p1 : Int} {r : Int} (rp0 : Reads Ap0 tyI vp0 p0) (h : slices_Index_int p0 p1 = some r) :
    CSpec Tryz.prog W 103 [vp0, .int .i64 p1] [Ap0] (fun x : Unit => .int .i64 r) (fun _ => True) (fun x F => Ap0 :: F) := by
 refine CSpec.of_body Tryz.func103 rfl Tryz.ntmps103 rfl fun F => ?_
 show CJ _ _ _ _ _ _ (_ :: F)
 unfold slices_Index_int at h
 refine CJ_pure (len_of rp0 del0) fun hlen1 => sR <| oA rfl rfl <| nT <| CJ_seq <| sR <| oM rfl rfl <| oV (V_len rfl foc0 rp0 Tryz.runUnderlying35) rfl <| oM rfl rfl <| nT ?_
 obtain ⟨y4, hl2, hK3⟩ := seq_e h
 refine CJ_cutT (X := Unit) [4, 5, 8, 9, 10, 11, 12, 13, 14, 15, 16, 17, 18] (fun _ => ([] : Slots)) (fun _ R => R) (fun _ => y4 = .inl ()) Dels.nil ?_ ?_
 ·
  refine CJ_block <| CJ_loopR (X := Nat × Nat) [4, 5, 8, 9, 10, 11, 12, 13, 14, 15, 16, 17, 18] (fun ⟨n, x6⟩ => ([(8, .int .i64 (((x6 : Nat) : Int)))] : Slots)) (fun ⟨n, x6⟩ R => R) (fun ⟨n, x6⟩ => slices_Index_int_l1 p0 p1 n x6 = some y4) (fun ⟨n, x6⟩ => n) ⟨FUEL, 0⟩ ?_ ?_ eR ?_
  · exact hl2
  · exact ⟨rfl, True.intro⟩
  ·
   rintro ⟨n, x6⟩ h
   cases n with
   | zero => exact none_e h
   | succ n => ?_
   replace h : slices_Index_int_l1_b p0 p1 (slices_Index_int_l1 p0 p1 n) x6 = some y4 := h
   unfold slices_Index_int_l1_b at h
   show CJ _ _ _ _ _ (([(8, .int .i64 (((x6 : Nat) : Int)))] : Slots) ++ forget _ _) (_)
   refine sR <| oP (P_lss (a := ((x6 : Nat) : Int)) (b := ((p0.length : Nat) : Int)) rfl rfl) rfl <| nT <| CJ_seq <| CJ_condP rfl bT_dec (fun hg1 => ?_) (fun hg1 => ?_)
   ·
    replace h := ite_t hg1 h
    refine kT <| CJ_seq <| CJ_block <| sR <| oM rfl rfl <| oA rfl rfl <| nT <| sR <| oM rfl rfl <| oM rfl rfl <| oM rfl rfl <| oV (V_index (i := x6) rfl rfl rfl (by omega) foc0 rp0 Tryz.runUnderlying35 Tryz.sizeOf3) rfl <| oV (V_loadE rfl rfl (by omega) foc0 rp0 rfl rfl Tryz.isAgg3) rfl <| oP (P_eql (a := p1) (b := (p0.getD x6 0)) rfl rfl) rfl <| nT <| CJ_condP rfl bT_dec (fun hg2 => ?_) (fun hg2 => ?_)
    ·
     replace h := ite_t hg2 h
     refine sR <| oM rfl rfl <| oA rfl rfl <| nT <| CJ_ret <| QJ_block_ret <| QJ_then_ret <| QJ_round_ret <| QJ_block_ret <| QJ_then_ret ?_
     have hE := Option.some.inj h
     replace hE := seq_inr hK3 hE.symm
     subst hE
     exact fE (res1 Tryz.results103 rfl) () eR
    ·
     replace h := ite_f hg2 h
     exact CJ_skip <| QJ_block_normal <| QJ_then <| CJ_region <| oP (PJ_eq (P_add (a := ((x6 : Nat) : Int)) (b := (1 : Int)) rfl rfl (by omega)) rfl) rfl <| oM rfl rfl <| RJ_nil <| nR ⟨n, (x6 + 1)⟩ h ⟨rfl, True.intro⟩ eR
   ·
    replace h := ite_f hg1 h
    exact CJ_exit <| QJ_then_exit <| QJ_round_exit <| QJ_block_here <| cR () (Option.some.inj h).symm True.intro eR
 ·
  rintro _ hy7
  replace h := seq_inl hK3 hy7
  show CJ _ _ _ _ _ (([] : Slots) ++ forget _ _) (_)
  refine sR <| oA rfl rfl <| nT <| CJ_ret ?_
  cases h
  exact fE (res1 Tryz.results103 rfl) () eR
def slices_Contains_int (p0 : List Int) (p1 : Int) : Option (Bool) :=
  Option.bind (slices_Index_int p0 p1) fun r2 =>
  some ((decide ((0 : Int) ≤ r2)))
theorem L_slices_Contains_int {W : World} {Ap0 : HP} {vp0 : Value} {p0 : List Int} {p1 : Int} {r : Bool} (rp0 : Reads Ap0 tyI vp0 p0) (h : slices_Contains_int p0 p1 = some r) :
    CSpec Tryz.prog W 71 [vp0, .int .i64 p1] [Ap0] (fun x : Unit => .bool r) (fun _ => True) (fun x F => Ap0 :: F) := by
 refine CSpec.of_body Tryz.func71 rfl Tryz.ntmps71 rfl fun F => ?_
 show CJ _ _ _ _ _ _ (_ :: F)
 unfold slices_Contains_int at h
 refine CJ_pure (len_of rp0 del0) fun hlen1 => sR <| oA rfl rfl <| nT <| sR <| oM rfl rfl <| oM rfl rfl ?_
 obtain ⟨r2, hr3, h⟩ := bind_e h
 refine oO <| O_call (L_slices_Index_int rp0 hr3) rfl Tryz.call103 (Dels.cons del0 Dels.nil) rfl fun _ _ => oP (P_geq (a := r2) (b := (0 : Int)) rfl rfl) rfl <| oA rfl rfl <| nT <| CJ_ret ?_
 cases h
 exact fE (res1 Tryz.results71 rfl) () eR
def parityvol_Open_l1_b (legs : List Dvc) (stale : List Int) (rec : VolS → Nat → Option (VolS)) (x24 : VolS) (x25 : Nat) : Option (VolS) :=
  if (((x25 : Nat) : Int) < ((legs.length : Nat) : Int)) then
    Option.bind (slices_Contains_int stale (((x25 : Nat) : Int))) fun r31 =>
    grd (inLen (x24.legs.length + 1)) <|
    rec ({ x24 with legs := (x24.legs ++ [(⟨(legs.getD x25 dv0), r31, false⟩ : prtS)]) }) (x25 + 1)
  else
    some x24
def parityvol_Open_l1 (legs : List Dvc) (stale : List Int) : Nat → VolS → Nat → Option (VolS)
  | 0, _, _ => none
  | n + 1, x24, x25 => parityvol_Open_l1_b legs stale (parityvol_Open_l1 legs stale n) x24 x25
def parityvol_Open_l2_b (legs : List Dvc) (stale : List Int) (rec : VolS → Nat → Option (VolS)) (x49 : VolS) (x50 : Nat) : Option (VolS) :=
  if (((x50 : Nat) : Int) < ((legs.length : Nat) : Int)) then
    Option.bind (slices_Contains_int stale (((x50 : Nat) : Int))) fun r56 =>
    grd (inLen (x49.legs.length + 1)) <|
    rec ({ x49 with legs := (x49.legs ++ [(⟨(legs.getD x50 dv0), r56, false⟩ : prtS)]) }) (x50 + 1)
  else
    some x49
def parityvol_Open_l2 (legs : List Dvc) (stale : List Int) : Nat → VolS → Nat → Option (VolS)
  | 0, _, _ => none
  | n + 1, x49, x50 => parityvol_Open_l2_b legs stale (parityvol_Open_l2 legs stale n) x49 x50
def parityvol_Open (legs : List Dvc) (stale : List Int) (chunk : Int) (s : ArrS) : Option ((Option VolS) × Int × ArrS) :=
  Option.bind (parityvol_newLayout legs chunk s) fun r7 =>
  if (r7.2 ≠ (0 : Int)) then
    some (none, r7.2, s)
  else
    Option.bind (slices_ContainsFunc_int__parityvol_Open_1 stale legs s) fun r10 =>
    if r10 = true then
      some ((none, (1 : Int), s))
    else
      if ((0 : Int) < ((stale.length : Nat) : Int)) then
        Option.bind (slices_Max_int stale) fun r12 =>
        Option.bind (slices_Min_int stale) fun r14 =>
        if (r12 ≠ r14) then
          some ((none, (19 : Int), s))
        else
          Option.bind (parityvol_Open_l1 legs stale FUEL ((⟨r7.1.n, r7.1.chunk, r7.1.rows, ([] : List prtS), (0 : UInt64), (0 : Int), (0 : Int), (0 : UInt64), (0 : UInt64), false, (0 : Int)⟩ : VolS)) 0) fun a23 =>
          Option.bind (parityvol_Volume_replay a23 s) fun r39 =>
          if (r39.1 ≠ (0 : Int)) then
            some (none, r39.1, r39.2.2)
          else
            some (((some r39.2.1), (0 : Int), r39.2.2))
      else
        Option.bind (parityvol_Open_l2 legs stale FUEL ((⟨r7.1.n, r7.1.chunk, r7.1.rows, ([] : List prtS), (0 : UInt64), (0 : Int), (0 : Int), (0 : UInt64), (0 : UInt64), false, (0 : Int)⟩ : VolS)) 0) fun a48 =>
        Option.bind (parityvol_Volume_replay a48 s) fun r64 =>
        if (r64.1 ≠ (0 : Int)) then
          some (none, r64.1, r64.2.2)
        else
          some (((some r64.2.1), (0 : Int), r64.2.2))
theorem L_parityvol_Open {W : World} {Alegs : HP} {vlegs : Value} {hslegs : List IfH} {Astale : HP} {vstale : Value} {bs : Nat} {legs : List Dvc} {stale : List Int} {chunk : Int} {s : ArrS} {r : (Option VolS) × Int × ArrS} (rlegs : Reads Alegs tyDev vlegs hslegs) (rstale : Reads Astale tyI vstale stale) (h : parityvol_Open legs stale chunk s = some r) :
    CSpec Tryz.prog W 26 [vlegs, vstale, .int .i64 chunk] [Alegs, Rs (DevP bs) legs hslegs, Astale, Arr bs s] (fun x : Nat => .tuple #[oval r.1 x, .int .i64 r.2.1]) (fun _ => True) (fun x F => Alegs :: Rs (DevP bs) legs hslegs :: Astale :: Arr bs r.2.2 :: optP (VolP bs x) r.1 :: F) := by
 refine CSpec.of_body Tryz.func26 rfl Tryz.ntmps26 rfl fun F => ?_
 show CJ _ _ _ _ _ _ (_ :: _ :: _ :: _ :: F)
 unfold parityvol_Open at h
 refine CJ_pure (len_of rlegs del0) fun hlen1 => CJ_pure (fun h hh => Rs_len (stars_perm (del1 (A := Rs (DevP bs) legs hslegs)).out h hh)) fun hdl2 => CJ_pure (len_of rstale del2) fun hlen3 => sR <| RJ_pure (reads_sl3 rlegs del0) fun hsv5 => ?_
 obtain ⟨sv4, hsv5⟩ := hsv5
 subst hsv5
 refine oO <| O_box rfl rfl rfl fun b6 => oA rfl rfl <| oA rfl rfl <| nT <| sR <| oV (V_load rfl foc0 rfl Tryz.isAgg62) rfl <| oM rfl rfl ?_
 obtain ⟨r7, hr8, h⟩ := bind_e h
 refine oO <| O_call (L_parityvol_newLayout rlegs hr8) rfl Tryz.call65 (Dels.cons del1 (Dels.cons del1 (Dels.cons del2 Dels.nil))) rfl fun _ _ => oM rfl rfl <| oP (P_extract rfl rfl) rfl <| oP (P_extract rfl rfl) rfl <| oO <| O_alloc Tryz.zeroValue112 rfl rfl fun b9 => oO <| O_storeN rfl rfl foc0 Tryz.sizeOf112 rfl rfl rfl <| oA rfl rfl <| nT <| CJ_seq <| sR <| oM rfl rfl <| oP (P_neq (a := r7.2) (b := (0 : Int)) rfl rfl) rfl <| nT <| CJ_condP rfl bT_dec (fun hg1 => ?_) (fun hg1 => ?_)
 ·
  replace h := ite_t hg1 h
  refine sR <| oM rfl rfl <| oA rfl rfl <| oA rfl rfl <| nT <| CJ_ret <| QJ_then_ret ?_
  cases h
  exact fE (res2 Tryz.results26 rfl rfl) 0 (t1_ (t1_ (t3_ (t1_ (Ent.trans (fun h hh => optP_none h hh) <| t0_ (eD (eD eR)))))))
 ·
  replace h := ite_f hg1 h
  refine kT <| CJ_seq <| sR <| oM rfl rfl <| oP (P_makeFunc rfl rfl) rfl ?_
  obtain ⟨r10, hr11, h⟩ := bind_e h
  refine oO <| O_call (L_slices_ContainsFunc_int__parityvol_Open_1 rstale rlegs hr11) rfl Tryz.call67 (Dels.cons del5 (Dels.cons del4 (Dels.cons del1 (Dels.cons del1 (Dels.cons del1 Dels.nil))))) rfl fun _ _ => nT <| CJ_condP rfl Iff.rfl (fun hg2 => ?_) (fun hg2 => ?_)
  ·
   replace h := ite_t hg2 h
   refine sR <| oA rfl rfl <| oA rfl rfl <| nT <| CJ_ret <| QJ_then_ret ?_
   cases h
   exact fE (res2 Tryz.results26 rfl rfl) 0 (t2_ (t2_ (t0_ (t1_ (Ent.trans (fun h hh => optP_none h hh) <| t0_ (eD (eD eR)))))))
  ·
   replace h := ite_f hg2 h
   refine kT <| CJ_seq <| sR <| oM rfl rfl <| oV (V_len rfl foc0 rstale Tryz.runUnderlying35) rfl <| oP (P_gtr (a := ((stale.length : Nat) : Int)) (b := (0 : Int)) rfl rfl) rfl <| oM rfl rfl <| RJ_splitP 29 rfl bT_dec (fun hg3B hg3 => ?_) (fun hg3B hg3 => ?_)
   ·
    replace h := ite_t hg3 h
    refine gP (GY_yes rfl rfl rfl hg3B) (P_move rfl) rfl ?_
    obtain ⟨r12, hr13, h⟩ := bind_e h
    refine RJ_gy (GY_yes rfl rfl rfl hg3B) <| O_call (L_slices_Max_int rstale hr13) rfl Tryz.call69 (Dels.cons del0 Dels.nil) rfl fun _ _ => gP (GY_yes rfl rfl rfl hg3B) (P_move rfl) rfl ?_
    obtain ⟨r14, hr15, h⟩ := bind_e h
    refine RJ_gy (GY_yes rfl rfl rfl hg3B) <| O_call (L_slices_Min_int rstale hr15) rfl Tryz.call70 (Dels.cons del0 Dels.nil) rfl fun _ _ => gP (GY_yes rfl rfl rfl hg3B) (P_neq (a := r12) (b := r14) rfl rfl) rfl <| oP (P_pickT rfl hg3B rfl) rfl <| nT <| CJ_condP rfl bT_dec (fun hg4 => ?_) (fun hg4 => ?_)
    ·
     replace h := ite_t hg4 h
     refine sR <| oA rfl rfl <| oA rfl rfl <| nT <| CJ_ret <| QJ_then_ret ?_
     cases h
     exact fE (res2 Tryz.results26 rfl rfl) 0 (t2_ (t2_ (t0_ (t1_ (Ent.trans (fun h hh => optP_none h hh) <| t0_ (eD (eD eR)))))))
    ·
     replace h := ite_f hg4 h
     refine kT <| sR <| oV (V_loadN rfl foc5 Tryz.isAgg112 Tryz.sizeOf112 rfl rfl) rfl <| oP (P_build rfl (bld_123_0 _ _ _)) rfl <| oO <| O_box rfl rfl rfl fun b16 => oA rfl rfl <| RJ_nil <| QJ_ent (t0_ (t0_ (t0_ (t0_ (t0_ (t0_ (eD eR))))))) <| QJ_then <| CJ_seq <| sR <| oV (V_load rfl foc2 rfl Tryz.isAgg62) rfl <| oV (VJ_eq (V_len rfl foc3 rlegs Tryz.runUnderlying62) (congrArg (fun z : Nat => Value.int .i64 (z : Int)) (hdl2).symm)) rfl <| oM rfl rfl <| nT <| CJ_ent (fun h hh => sl_nil (t := typrtH) h (rs_nil (RP := DevP bs) h hh)) <| CJ_ent (Ent.trans (t2_ eR) (VolP_mk (v0 := r7.1.n) (v1 := r7.1.chunk) (v2 := r7.1.rows) (v3 := ([] : List prtS)) (v4 := (0 : UInt64)) (v5 := (0 : Int)) (v6 := (0 : Int)) (v7 := (0 : UInt64)) (v8 := (0 : UInt64)) (v9 := false) (v10 := (0 : Int)) (h0 := ⟨none, 0, 0⟩) (h1 := ([] : List IfH)))) ?_
     obtain ⟨y21, hl19, hK20⟩ := bind_c h
     refine CJ_cutT (X := VolS) [11, 12, 41, 42, 43, 44, 45, 46, 47, 48, 49, 50, 51, 52, 53, 54, 55, 56, 57, 58, 59, 60] (fun a23 => ([] : Slots)) (fun a23 R => VolP bs b16 a23 :: R) (fun a23 => y21 = a23) (Dels.cons del0 (Dels.cons del1 Dels.nil)) ?_ ?_
     ·
      refine CJ_block <| CJ_loopR (X := Nat × VolS × Nat) [11, 12, 41, 42, 43, 44, 45, 46, 47, 48, 49, 50, 51, 52, 53, 54, 55, 56, 57, 58, 59, 60] (fun ⟨n, x24, x25⟩ => ([(41, .int .i64 (((x25 : Nat) : Int)))] : Slots)) (fun ⟨n, x24, x25⟩ R => VolP bs b16 x24 :: R) (fun ⟨n, x24, x25⟩ => parityvol_Open_l1 legs stale n x24 x25 = some y21) (fun ⟨n, x24, x25⟩ => n) ⟨FUEL, (⟨r7.1.n, r7.1.chunk, r7.1.rows, ([] : List prtS), (0 : UInt64), (0 : Int), (0 : Int), (0 : UInt64), (0 : UInt64), false, (0 : Int)⟩ : VolS), 0⟩ ?_ ?_ (t0_ (t0_ (t1_ (t1_ (t1_ (eD eR)))))) ?_
      · exact hl19
      · exact ⟨rfl, True.intro⟩
      ·
       rintro ⟨n, x24, x25⟩ h
       cases n with
       | zero => exact none_e h
       | succ n => ?_
       replace h : parityvol_Open_l1_b legs stale (parityvol_Open_l1 legs stale n) x24 x25 = some y21 := h
       unfold parityvol_Open_l1_b at h
       show CJ _ _ _ _ _ (([(41, .int .i64 (((x25 : Nat) : Int)))] : Slots) ++ forget _ _) (VolP bs b16 x24 :: _)
       refine sR <| oP (P_lss (a := ((x25 : Nat) : Int)) (b := ((legs.length : Nat) : Int)) rfl rfl) rfl <| nT <| CJ_seq <| CJ_condP rfl bT_dec (fun hg5 => ?_) (fun hg5 => ?_)
       ·
        replace h := ite_t hg5 h
        refine kT <| CJ_seq <| CJ_block <| sR <| oM rfl rfl <| oV (V_index (i := x25) rfl rfl rfl (by have hz : x25 < legs.length := (by omega); have hy := hdl2; omega) foc2 rlegs Tryz.runUnderlying62 Tryz.sizeOf79) rfl <| RJ_ent (Ent.trans (t3_ eR) (Rs_at (fun _ _ => Dup_DevP) (dx := dv0) (dh := tyDev.dflt) (i := x25) (by omega))) <| oV (V_loadE rfl rfl (by have hz : x25 < legs.length := (by omega); have hy := hdl2; omega) foc4 rlegs rfl rfl Tryz.isAgg79) rfl <| oA rfl rfl <| oA rfl rfl <| nT <| CJ_entX (Ent.transX (t2_ eR) (VolP_open (l := x24))) fun oc27 => CJ_pure (fun h hh => Rs_len (stars_perm (del2 (A := Rs (DevP bs) (x24.legs.map prtS.dev) oc27.2)).out h hh)) fun hdl29 => lC del1 fun hlen30 => ?_
        rw [mk_prt_len (by have := hdl29; simpa using this)] at hlen30
        refine AJ_startH 18432 (by kernel_rfl) rfl <| aN 0 1 rfl rfl (P_move rfl) rfl <| aN 1 3 rfl rfl (P_move rfl) rfl <| aN 2 7 rfl rfl (P_nilCheck rfl) rfl <| aN 3 15 rfl rfl (P_fieldAddr rfl ⟨_, _, _, Tryz.runUnderlying123, rfl, rfl, Tryz.sizeOf119, rfl⟩) rfl <| aV 4 31 rfl rfl (GY_none rfl) eR (V_load rfl foc0 rfl Tryz.isAgg119) rfl <| aN 5 63 rfl rfl (P_move rfl) rfl <| aN 6 127 rfl rfl (P_move rfl) rfl <| aN 7 255 rfl rfl (P_move rfl) rfl ?_
        obtain ⟨r31, hr32, h⟩ := bind_e h
        refine AJ_op 8 511 rfl (by kernel_rfl) rfl (GY_none rfl) <| O_call (L_slices_Contains_int rstale hr32) rfl Tryz.call71 (Dels.cons del5 Dels.nil) rfl fun _ _ => ⟨fun _ => (t1_ (t1_ (t1_ (t1_ (t1_ eR))))), ?_⟩
        refine aN 9 1023 rfl rfl (P_build rfl (bld_126_0_1 _ _ _)) rfl <| AJ_op 10 2047 rfl (by kernel_rfl) rfl (GY_none rfl) <| O_buildSlice rfl (bs_119_1_0 _ _ _ _) rfl fun b33 => ⟨fun _ => (t2_ (t2_ (t2_ (t2_ (t2_ (t1_ (t1_ (t1_ (eD eR))))))))), ?_⟩
        obtain ⟨hg6, h⟩ := grd_Le h
        refine AJ_op 11 4095 rfl (by kernel_rfl) rfl (GY_none rfl) <| O_append (t := typrtH) (bytes := 24) rfl rfl del3 foc0 (Reads.lit (t := typrtH) (ys := [(⟨((hslegs.getD x25 tyDev.dflt) : IfH), r31, false⟩ : prtH)]) rfl rfl (by decide) (by decide) rfl) Tryz.underlying119 ok_typrtH (apl (m := 1) (b := 24) (show (mk_prt x24.legs oc27.2).length + 1 ≤ 1000000000 by rw [mk_prt_len (by have := hdl29; simpa using this)]; exact hg6) (by decide)).1 (apl (m := 1) (b := 24) (show (mk_prt x24.legs oc27.2).length + 1 ≤ 1000000000 by rw [mk_prt_len (by have := hdl29; simpa using this)]; exact hg6) (by decide)).2 rfl fun p35 c36 => ⟨fun h => absurd h (by decide), ?_⟩
        refine AJ_ent (Ent.takeC (A' := sl typrtH (.slice p35 (mk_prt x24.legs oc27.2 ++ [(⟨((hslegs.getD x25 tyDev.dflt) : IfH), r31, false⟩ : prtH)]).length c36) (mk_prt (x24.legs ++ [(⟨(legs.getD x25 dv0), r31, false⟩ : prtS)]) (oc27.2 ++ [((hslegs.getD x25 tyDev.dflt) : IfH)]))) del0 (congrArg (sl typrtH _) (mk_prt_snoc (by have := hdl29; simpa using this) (⟨(legs.getD x25 dv0), r31, false⟩ : prtS) ((hslegs.getD x25 tyDev.dflt) : IfH))) eR) <| AJ_ent (Ent.trans (t4_ (t4_ eR)) (Rs_push (x := (legs.getD x25 dv0)) (g := ((hslegs.getD x25 tyDev.dflt) : IfH)) (fun _ _ => Dup_DevP))) <| AJ_ent (Ent.takeC (A' := Rs (DevP bs) (((x24.legs ++ [(⟨(legs.getD x25 dv0), r31, false⟩ : prtS)])).map prtS.dev) (oc27.2 ++ [((hslegs.getD x25 tyDev.dflt) : IfH)])) del0 (congrArg (fun z => Rs (DevP bs) z (oc27.2 ++ [((hslegs.getD x25 tyDev.dflt) : IfH)])) (by simp)) eR) <| AJ_pure (fun h hh => Rs_len (stars_perm (del0 (A := Rs (DevP bs) ((((x24.legs ++ [(⟨(legs.getD x25 dv0), r31, false⟩ : prtS)])).map prtS.dev)) ((oc27.2 ++ [((hslegs.getD x25 tyDev.dflt) : IfH)])))).out h hh)) fun hdl37 => aN 12 8191 rfl rfl (P_nilCheck rfl) rfl <| aN 13 16383 rfl rfl (P_fieldAddr rfl ⟨_, _, _, Tryz.runUnderlying123, rfl, rfl, Tryz.sizeOf119, rfl⟩) rfl <| AJ_op 14 32767 rfl (by kernel_rfl) rfl (GY_none rfl) <| O_store rfl rfl foc5 rfl rfl Tryz.sizeOf119 <| ⟨fun h => absurd h (by decide), ?_⟩
        exact AJ_done (by kernel_rfl) <| QJ_ent (Ent.trans (t5_ (t2_ eR)) (VolP_mk (v0 := x24.layout_n) (v1 := x24.layout_chunk) (v2 := x24.layout_rows) (v3 := (x24.legs ++ [(⟨(legs.getD x25 dv0), r31, false⟩ : prtS)])) (v4 := x24.last_seq) (v5 := x24.last_offset) (v6 := x24.last_leg) (v7 := x24.last_word) (v8 := x24.last_parity) (v9 := x24.pending) (v10 := x24.filled) (h0 := ⟨p35, (mk_prt x24.legs oc27.2 ++ [(⟨((hslegs.getD x25 tyDev.dflt) : IfH), r31, false⟩ : prtH)]).length, c36⟩) (h1 := (oc27.2 ++ [((hslegs.getD x25 tyDev.dflt) : IfH)])))) <| QJ_block_normal <| QJ_ent (t0_ (t2_ (t2_ (t2_ (t2_ (eD (eD eR))))))) <| QJ_then <| CJ_region <| oP (PJ_eq (P_add (a := ((x25 : Nat) : Int)) (b := (1 : Int)) rfl rfl (by omega)) rfl) rfl <| oM rfl rfl <| RJ_nil <| nR ⟨n, { x24 with legs := (x24.legs ++ [(⟨(legs.getD x25 dv0), r31, false⟩ : prtS)]) }, (x25 + 1)⟩ h ⟨rfl, True.intro⟩ (t0_ (t0_ (t1_ eR)))
       ·
        replace h := ite_f hg5 h
        exact CJ_exit <| QJ_then_exit <| QJ_round_exit <| QJ_block_here <| cR x24 (Option.some.inj h).symm True.intro eR
     ·
      rintro a23 hy38
      replace h := bindK_at hK20 hy38
      show CJ _ _ _ _ _ (([] : Slots) ++ forget _ _) (VolP bs b16 a23 :: _)
      refine CJ_seq <| sR <| oM rfl rfl ?_
      obtain ⟨r39, hr40, h⟩ := bind_e h
      refine oO <| O_call (L_parityvol_Volume_replay hr40) rfl Tryz.call72 (Dels.cons del0 (Dels.cons del3 Dels.nil)) rfl fun _ _ => oA rfl rfl <| nT <| sR <| oM rfl rfl <| oP (P_neq (a := r39.1) (b := (0 : Int)) rfl rfl) rfl <| nT <| CJ_condP rfl bT_dec (fun hg7 => ?_) (fun hg7 => ?_)
      ·
       replace h := ite_t hg7 h
       refine sR <| oM rfl rfl <| oA rfl rfl <| oA rfl rfl <| nT <| CJ_ret <| QJ_then_ret ?_
       cases h
       exact fE (res2 Tryz.results26 rfl rfl) 0 (t3_ (t3_ (t2_ (t1_ (Ent.trans (fun h hh => optP_none h hh) <| t0_ (eD eR))))))
      ·
       replace h := ite_f hg7 h
       refine kT <| sR <| oM rfl rfl <| oA rfl rfl <| oA rfl rfl <| nT <| CJ_ret ?_
       cases h
       exact fE (res2 Tryz.results26 rfl rfl) b16 (t3_ (t3_ (t2_ (t1_ eR))))
   ·
    replace h := ite_f hg3 h
    refine RJ_gn (GY_no rfl rfl rfl hg3B) rfl rfl <| RJ_gn (GY_no rfl rfl rfl hg3B) rfl rfl <| RJ_gn (GY_no rfl rfl rfl hg3B) rfl rfl <| RJ_gn (GY_no rfl rfl rfl hg3B) rfl rfl <| RJ_gn (GY_no rfl rfl rfl hg3B) rfl rfl <| oP (P_pickF rfl hg3B rfl) rfl <| nT <| CJ_condF rfl rfl <| kT <| sR <| oV (V_loadN rfl foc5 Tryz.isAgg112 Tryz.sizeOf112 rfl rfl) rfl <| oP (P_build rfl (bld_123_0 _ _ _)) rfl <| oO <| O_box rfl rfl rfl fun b41 => oA rfl rfl <| RJ_nil <| QJ_ent (t0_ (t0_ (t0_ (t0_ (t0_ (t0_ (eD eR))))))) <| QJ_then <| CJ_seq <| sR <| oV (V_load rfl foc2 rfl Tryz.isAgg62) rfl <| oV (VJ_eq (V_len rfl foc3 rlegs Tryz.runUnderlying62) (congrArg (fun z : Nat => Value.int .i64 (z : Int)) (hdl2).symm)) rfl <| oM rfl rfl <| nT <| CJ_ent (fun h hh => sl_nil (t := typrtH) h (rs_nil (RP := DevP bs) h hh)) <| CJ_ent (Ent.trans (t2_ eR) (VolP_mk (v0 := r7.1.n) (v1 := r7.1.chunk) (v2 := r7.1.rows) (v3 := ([] : List prtS)) (v4 := (0 : UInt64)) (v5 := (0 : Int)) (v6 := (0 : Int)) (v7 := (0 : UInt64)) (v8 := (0 : UInt64)) (v9 := false) (v10 := (0 : Int)) (h0 := ⟨none, 0, 0⟩) (h1 := ([] : List IfH)))) ?_
    obtain ⟨y46, hl44, hK45⟩ := bind_c h
    refine CJ_cutT (X := VolS) [11, 12, 41, 42, 43, 44, 45, 46, 47, 48, 49, 50, 51, 52, 53, 54, 55, 56, 57, 58, 59, 60] (fun a48 => ([] : Slots)) (fun a48 R => VolP bs b41 a48 :: R) (fun a48 => y46 = a48) (Dels.cons del0 (Dels.cons del1 Dels.nil)) ?_ ?_
    ·
     refine CJ_block <| CJ_loopR (X := Nat × VolS × Nat) [11, 12, 41, 42, 43, 44, 45, 46, 47, 48, 49, 50, 51, 52, 53, 54, 55, 56, 57, 58, 59, 60] (fun ⟨n, x49, x50⟩ => ([(41, .int .i64 (((x50 : Nat) : Int)))] : Slots)) (fun ⟨n, x49, x50⟩ R => VolP bs b41 x49 :: R) (fun ⟨n, x49, x50⟩ => parityvol_Open_l2 legs stale n x49 x50 = some y46) (fun ⟨n, x49, x50⟩ => n) ⟨FUEL, (⟨r7.1.n, r7.1.chunk, r7.1.rows, ([] : List prtS), (0 : UInt64), (0 : Int), (0 : Int), (0 : UInt64), (0 : UInt64), false, (0 : Int)⟩ : VolS), 0⟩ ?_ ?_ (t0_ (t0_ (t1_ (t1_ (t1_ (eD eR)))))) ?_
     · exact hl44
     · exact ⟨rfl, True.intro⟩
     ·
      rintro ⟨n, x49, x50⟩ h
      cases n with
      | zero => exact none_e h
      | succ n => ?_
      replace h : parityvol_Open_l2_b legs stale (parityvol_Open_l2 legs stale n) x49 x50 = some y46 := h
      unfold parityvol_Open_l2_b at h
      show CJ _ _ _ _ _ (([(41, .int .i64 (((x50 : Nat) : Int)))] : Slots) ++ forget _ _) (VolP bs b41 x49 :: _)
      refine sR <| oP (P_lss (a := ((x50 : Nat) : Int)) (b := ((legs.length : Nat) : Int)) rfl rfl) rfl <| nT <| CJ_seq <| CJ_condP rfl bT_dec (fun hg8 => ?_) (fun hg8 => ?_)
      ·
       replace h := ite_t hg8 h
       refine kT <| CJ_seq <| CJ_block <| sR <| oM rfl rfl <| oV (V_index (i := x50) rfl rfl rfl (by have hz : x50 < legs.length := (by omega); have hy := hdl2; omega) foc2 rlegs Tryz.runUnderlying62 Tryz.sizeOf79) rfl <| RJ_ent (Ent.trans (t3_ eR) (Rs_at (fun _ _ => Dup_DevP) (dx := dv0) (dh := tyDev.dflt) (i := x50) (by omega))) <| oV (V_loadE rfl rfl (by have hz : x50 < legs.length := (by omega); have hy := hdl2; omega) foc4 rlegs rfl rfl Tryz.isAgg79) rfl <| oA rfl rfl <| oA rfl rfl <| nT <| CJ_entX (Ent.transX (t2_ eR) (VolP_open (l := x49))) fun oc52 => CJ_pure (fun h hh => Rs_len (stars_perm (del2 (A := Rs (DevP bs) (x49.legs.map prtS.dev) oc52.2)).out h hh)) fun hdl54 => lC del1 fun hlen55 => ?_
       rw [mk_prt_len (by have := hdl54; simpa using this)] at hlen55
       refine AJ_startH 18432 (by kernel_rfl) rfl <| aN 0 1 rfl rfl (P_move rfl) rfl <| aN 1 3 rfl rfl (P_move rfl) rfl <| aN 2 7 rfl rfl (P_nilCheck rfl) rfl <| aN 3 15 rfl rfl (P_fieldAddr rfl ⟨_, _, _, Tryz.runUnderlying123, rfl, rfl, Tryz.sizeOf119, rfl⟩) rfl <| aV 4 31 rfl rfl (GY_none rfl) eR (V_load rfl foc0 rfl Tryz.isAgg119) rfl <| aN 5 63 rfl rfl (P_move rfl) rfl <| aN 6 127 rfl rfl (P_move rfl) rfl <| aN 7 255 rfl rfl (P_move rfl) rfl ?_
       obtain ⟨r56, hr57, h⟩ := bind_e h
       refine AJ_op 8 511 rfl (by kernel_rfl) rfl (GY_none rfl) <| O_call (L_slices_Contains_int rstale hr57) rfl Tryz.call71 (Dels.cons del5 Dels.nil) rfl fun _ _ => ⟨fun _ => (t1_ (t1_ (t1_ (t1_ (t1_ eR))))), ?_⟩
       refine aN 9 1023 rfl rfl (P_build rfl (bld_126_0_1 _ _ _)) rfl <| AJ_op 10 2047 rfl (by kernel_rfl) rfl (GY_none rfl) <| O_buildSlice rfl (bs_119_1_0 _ _ _ _) rfl fun b58 => ⟨fun _ => (t2_ (t2_ (t2_ (t2_ (t2_ (t1_ (t1_ (t1_ (eD eR))))))))), ?_⟩
       obtain ⟨hg9, h⟩ := grd_Le h
       refine AJ_op 11 4095 rfl (by kernel_rfl) rfl (GY_none rfl) <| O_append (t := typrtH) (bytes := 24) rfl rfl del3 foc0 (Reads.lit (t := typrtH) (ys := [(⟨((hslegs.getD x50 tyDev.dflt) : IfH), r56, false⟩ : prtH)]) rfl rfl (by decide) (by decide) rfl) Tryz.underlying119 ok_typrtH (apl (m := 1) (b := 24) (show (mk_prt x49.legs oc52.2).length + 1 ≤ 1000000000 by rw [mk_prt_len (by have := hdl54; simpa using this)]; exact hg9) (by decide)).1 (apl (m := 1) (b := 24) (show (mk_prt x49.legs oc52.2).length + 1 ≤ 1000000000 by rw [mk_prt_len (by have := hdl54; simpa using this)]; exact hg9) (by decide)).2 rfl fun p60 c61 => ⟨fun h => absurd h (by decide), ?_⟩
       refine AJ_ent (Ent.takeC (A' := sl typrtH (.slice p60 (mk_prt x49.legs oc52.2 ++ [(⟨((hslegs.getD x50 tyDev.dflt) : IfH), r56, false⟩ : prtH)]).length c61) (mk_prt (x49.legs ++ [(⟨(legs.getD x50 dv0), r56, false⟩ : prtS)]) (oc52.2 ++ [((hslegs.getD x50 tyDev.dflt) : IfH)]))) del0 (congrArg (sl typrtH _) (mk_prt_snoc (by have := hdl54; simpa using this) (⟨(legs.getD x50 dv0), r56, false⟩ : prtS) ((hslegs.getD x50 tyDev.dflt) : IfH))) eR) <| AJ_ent (Ent.trans (t4_ (t4_ eR)) (Rs_push (x := (legs.getD x50 dv0)) (g := ((hslegs.getD x50 tyDev.dflt) : IfH)) (fun _ _ => Dup_DevP))) <| AJ_ent (Ent.takeC (A' := Rs (DevP bs) (((x49.legs ++ [(⟨(legs.getD x50 dv0), r56, false⟩ : prtS)])).map prtS.dev) (oc52.2 ++ [((hslegs.getD x50 tyDev.dflt) : IfH)])) del0 (congrArg (fun z => Rs (DevP bs) z (oc52.2 ++ [((hslegs.getD x50 tyDev.dflt) : IfH)])) (by simp)) eR) <| AJ_pure (fun h hh => Rs_len (stars_perm (del0 (A := Rs (DevP bs) ((((x49.legs ++ [(⟨(legs.getD x50 dv0), r56, false⟩ : prtS)])).map prtS.dev)) ((oc52.2 ++ [((hslegs.getD x50 tyDev.dflt) : IfH)])))).out h hh)) fun hdl62 => aN 12 8191 rfl rfl (P_nilCheck rfl) rfl <| aN 13 16383 rfl rfl (P_fieldAddr rfl ⟨_, _, _, Tryz.runUnderlying123, rfl, rfl, Tryz.sizeOf119, rfl⟩) rfl <| AJ_op 14 32767 rfl (by kernel_rfl) rfl (GY_none rfl) <| O_store rfl rfl foc5 rfl rfl Tryz.sizeOf119 <| ⟨fun h => absurd h (by decide), ?_⟩
       exact AJ_done (by kernel_rfl) <| QJ_ent (Ent.trans (t5_ (t2_ eR)) (VolP_mk (v0 := x49.layout_n) (v1 := x49.layout_chunk) (v2 := x49.layout_rows) (v3 := (x49.legs ++ [(⟨(legs.getD x50 dv0), r56, false⟩ : prtS)])) (v4 := x49.last_seq) (v5 := x49.last_offset) (v6 := x49.last_leg) (v7 := x49.last_word) (v8 := x49.last_parity) (v9 := x49.pending) (v10 := x49.filled) (h0 := ⟨p60, (mk_prt x49.legs oc52.2 ++ [(⟨((hslegs.getD x50 tyDev.dflt) : IfH), r56, false⟩ : prtH)]).length, c61⟩) (h1 := (oc52.2 ++ [((hslegs.getD x50 tyDev.dflt) : IfH)])))) <| QJ_block_normal <| QJ_ent (t0_ (t2_ (t2_ (t2_ (t2_ (eD (eD eR))))))) <| QJ_then <| CJ_region <| oP (PJ_eq (P_add (a := ((x50 : Nat) : Int)) (b := (1 : Int)) rfl rfl (by omega)) rfl) rfl <| oM rfl rfl <| RJ_nil <| nR ⟨n, { x49 with legs := (x49.legs ++ [(⟨(legs.getD x50 dv0), r56, false⟩ : prtS)]) }, (x50 + 1)⟩ h ⟨rfl, True.intro⟩ (t0_ (t0_ (t1_ eR)))
      ·
       replace h := ite_f hg8 h
       exact CJ_exit <| QJ_then_exit <| QJ_round_exit <| QJ_block_here <| cR x49 (Option.some.inj h).symm True.intro eR
    ·
     rintro a48 hy63
     replace h := bindK_at hK45 hy63
     show CJ _ _ _ _ _ (([] : Slots) ++ forget _ _) (VolP bs b41 a48 :: _)
     refine CJ_seq <| sR <| oM rfl rfl ?_
     obtain ⟨r64, hr65, h⟩ := bind_e h
     refine oO <| O_call (L_parityvol_Volume_replay hr65) rfl Tryz.call72 (Dels.cons del0 (Dels.cons del3 Dels.nil)) rfl fun _ _ => oA rfl rfl <| nT <| sR <| oM rfl rfl <| oP (P_neq (a := r64.1) (b := (0 : Int)) rfl rfl) rfl <| nT <| CJ_condP rfl bT_dec (fun hg10 => ?_) (fun hg10 => ?_)
     ·
      replace h := ite_t hg10 h
      refine sR <| oM rfl rfl <| oA rfl rfl <| oA rfl rfl <| nT <| CJ_ret <| QJ_then_ret ?_
      cases h
      exact fE (res2 Tryz.results26 rfl rfl) 0 (t3_ (t3_ (t2_ (t1_ (Ent.trans (fun h hh => optP_none h hh) <| t0_ (eD eR))))))
     ·
      replace h := ite_f hg10 h
      refine kT <| sR <| oM rfl rfl <| oA rfl rfl <| oA rfl rfl <| nT <| CJ_ret ?_
      cases h
      exact fE (res2 Tryz.results26 rfl rfl) b41 (t3_ (t3_ (t2_ (t1_ eR))))
end Go.Proofs
namespace Go.Proofs
open Go.VG
section
variable {C : PC} {V V' : Nat → Nat → UInt64} {st fl : Option Nat} {qo q q' : UInt64} {e e' : PE} {k i d f o a : Nat} {mz : Nat → Bool} {F : Prop} {K K' : Nat} {s t u : ArrS} {v w : UInt64} {p : Bool}
theorem Ls.some (hst : Option Nat) : ∃ d, d < C.L ∧ hst ≠ some d := by
  have hL := C.hL
  by_cases h : hst = Option.some 0
  · exact ⟨1, by omega, by rw [h]; simp⟩
  · exact ⟨0, by omega, h⟩
theorem toNat_inj {a b : UInt64} (h : a.toNat = b.toNat) : a = b := UInt64.toNat_inj.1 h
end
end Go.Proofs
set_option linter.unusedSimpArgs false
set_option maxRecDepth 20000
namespace Go.Proofs
open Go.VG
theorem CTrack_bs_43_1_0 (v0 : Int) : BuildsSlice Tryz.prog 43 1 [(0, .int .u64 v0)] 44 [.int .u64 v0] := fun w => by kernel_rfl
theorem CTrack_bld_56_ : ∀ w, (Instr.build 56 (#[] : Array (Nat × Value))).run Tryz.prog w = .ok (.agg #[.slice none 0 0]) w := fun w => by kernel_rfl
theorem CTrack_bld_151_0_1_2 (v0 : (Option Addr)) (v1 : Nat) (v2 : Nat) (v3 : Bool) (v4 : Int) : ∀ w, (Instr.build 151 (#[(0, .slice v0 v1 v2), (1, .bool v3), (2, .int .u64 v4)] : Array (Nat × Value))).run Tryz.prog w = .ok (.agg #[.slice v0 v1 v2, .bool v3, .int .u64 v4]) w := fun w => by kernel_rfl
theorem CTrack_bs_54_1_0 (v0 : (Option Addr)) (v1 : Nat) (v2 : Nat) (v3 : Bool) (v4 : Int) : BuildsSlice Tryz.prog 54 1 [(0, .agg #[.slice v0 v1 v2, .bool v3, .int .u64 v4])] 151 [.slice v0 v1 v2, .bool v3, .int .u64 v4] := fun w => by kernel_rfl
structure SecH where
  some : Sl3
  known : Bool
  value : UInt64
structure Sec where
  some : List UInt64
  known : Bool
  value : UInt64
abbrev sH0 : SecH := ⟨⟨none, 0, 0⟩, false, 0⟩
abbrev s0 : Sec := ⟨[], false, 0⟩
abbrev tySec : Ty SecH := { T := 151, sz := 3, enc := fun x => [x.some.v, .bool x.known, .int .u64 (x.value.toNat : Int)], dflt := sH0, len := fun _ => rfl, one := fun _ => rfl, pos := by decide }
theorem ok_tySec : ElemOk Tryz.prog tySec 40 := ⟨Tryz.t151, .agg #[.slice none 0 0, .bool false, .int .u64 0], by kernel_rfl, rfl, rfl, rfl, rfl⟩
abbrev SL := List (SecH × Sec)
def ownS (p : SecH × Sec) : HP := sl tyU p.1.some.v p.2.some
abbrev SL.hs (l : SL) : List SecH := l.map Prod.fst
structure SOk (l : SL) (t : List Sec) : Prop where
  ds : l.map Prod.snd = t
  ag : ∀ p ∈ l, p.1.known = p.2.known ∧ p.1.value = p.2.value
  cnt : t.length ≤ 65536
theorem SOk.len {l : SL} {t : List Sec} (h : SOk l t) : (SL.hs l).length = t.length := by rw [← h.ds]; simp
theorem SOk.at {l : SL} {t : List Sec} (h : SOk l t) {i : Nat} (hi : i < t.length) : ((SL.hs l).getD i sH0).known = (t.getD i s0).known ∧ ((SL.hs l).getD i sH0).value = (t.getD i s0).value := by
  have hi' : i < l.length := by rw [← h.ds] at hi; simpa using hi
  rw [← h.ds]
  show ((l.map Prod.fst).getD i (Prod.fst (sH0, s0))).known = ((l.map Prod.snd).getD i (Prod.snd (sH0, s0))).known ∧ ((l.map Prod.fst).getD i (Prod.fst (sH0, s0))).value = ((l.map Prod.snd).getD i (Prod.snd (sH0, s0))).value
  rw [getD_map, getD_map]
  have : l.getD i (sH0, s0) = l[i] := by simp [List.getD, hi']
  rw [this]
  exact h.ag _ (List.getElem_mem hi')
theorem SOk.set {l : SL} {t : List Sec} (h : SOk l t) (i : Nat) (x : SecH × Sec) (hx : x.1.known = x.2.known ∧ x.1.value = x.2.value) : SOk (l.set i x) (t.set i x.2) where
  ds := by rw [List.map_set, h.ds]
  ag := fun p hp => by
    rcases List.mem_or_eq_of_mem_set hp with hp | rfl
    · exact h.ag p hp
    · exact hx
  cnt := by simpa using h.cnt
def Trk (b : Nat) (t : List Sec) : HP := ex fun c : Sl3 × SL => star [pur (SOk c.2 t), blk b 56 [c.1.v], sl tySec c.1.v (SL.hs c.2), VG.Own ownS c.2]
theorem Trk_open {b : Nat} {t : List Sec} {R : List HP} : EntX (Trk b t :: R) fun c : Sl3 × SL => pur (SOk c.2 t) :: blk b 56 [c.1.v] :: sl tySec c.1.v (SL.hs c.2) :: VG.Own ownS c.2 :: R :=
  fun _ hh => let ⟨c, hc⟩ := stars_ex.1 hh; ⟨c, stars_star.1 hc⟩
theorem Trk_close {b : Nat} {t : List Sec} {sv : Sl3} {l : SL} (h : SOk l t) {R : List HP} : Ent (blk b 56 [sv.v] :: sl tySec sv.v (SL.hs l) :: VG.Own ownS l :: R) (Trk b t :: R) :=
  fun _ hh => stars_ex.2 ⟨(sv, l), stars_star.2 (stars_pur.2 ⟨h, hh⟩)⟩
theorem OwnS_open {l : SL} {t : List Sec} (h : SOk l t) (i : Nat) (hi : i < t.length) {R : List HP} : Ent (VG.Own ownS l :: R) (sl tyU ((SL.hs l).getD i sH0).some.v (t.getD i s0).some :: ORest ownS l i :: R) := by
  have hi' : i < l.length := by rw [← h.ds] at hi; simpa using hi
  have := Own_open ownS (R := R) i (sH0, s0) hi'
  rw [← h.ds]
  show Ent _ (sl tyU ((l.map Prod.fst).getD i (Prod.fst (sH0, s0))).some.v ((l.map Prod.snd).getD i (Prod.snd (sH0, s0))).some :: _)
  rw [getD_map, getD_map]; exact this
def upto {α : Type} (g : α → α) (n : Nat) (D : List α) : List α := (D.take n).map g ++ D.drop n
theorem upto_zero {α : Type} (g : α → α) (D : List α) : upto g 0 D = D := by simp [upto]
theorem upto_all {α : Type} (g : α → α) (D : List α) : upto g D.length D = D.map g := by simp [upto]
theorem upto_len {α : Type} (g : α → α) (n : Nat) (D : List α) : (upto g n D).length = D.length := by simp [upto]; omega
theorem upto_at {α : Type} {g : α → α} {n : Nat} {D : List α} {d : α} (hn : n < D.length) : (upto g n D).getD n d = D.getD n d := by
  have : ((D.take n).map g).length = n := by simp; omega
  simp only [upto, List.getD]
  rw [List.getElem?_append_right (by omega), this]; simp
theorem upto_step {α : Type} {g : α → α} {n : Nat} {D : List α} {d : α} (hn : n < D.length) : (upto g n D).set n (g (D.getD n d)) = upto g (n + 1) D := by
  have h1 : ((D.take n).map g).length = n := by simp; omega
  simp only [upto]
  rw [List.set_append, if_neg (by omega), h1, Nat.sub_self, List.drop_eq_getElem_cons hn, List.set_cons_zero, List.take_succ_eq_append_getElem hn, List.map_append, List.append_assoc, show D.getD n d = D[n] by simp [List.getD, hn]]
  rfl
def failX (x : Sec) : Sec := { x with known := false }
def flushX (x : Sec) : Sec := if x.known = true then { x with some := [x.value] } else x
def wroteT (t : List Sec) (d : Int) (v : UInt64) (ok : Bool) : List Sec := if 0 ≤ d ∧ d < t.length then t.set d.toNat ⟨(t.getD d.toNat s0).some ++ [v], ok, v⟩ else t
def flushedT (t : List Sec) : List Sec := t.map flushX
def failedT (t : List Sec) : List Sec := t.map failX
theorem set3 {l : List SecH} {i : Nat} {A B C : SecH} : ((l.set i A).set i B).set i C = l.set i C := by simp [List.set_set]
theorem getD_set1 {l : List SecH} {i : Nat} (hi : i < l.length) {A : SecH} : (l.set i A).getD i sH0 = A := by simp [List.getD, hi]
theorem wroteT_ok {t : List Sec} {i : Nat} {v : UInt64} {ok : Bool} (hi : i < t.length) : wroteT t i v ok = t.set i ⟨(t.getD i s0).some ++ [v], ok, v⟩ := if_pos ⟨Int.natCast_nonneg _, by omega⟩
theorem wroteT_no {t : List Sec} {d : Int} {v : UInt64} {ok : Bool} (h : ¬ (0 ≤ d ∧ d < t.length)) : wroteT t d v ok = t := if_neg h
theorem upto_skip {α : Type} {g : α → α} {n : Nat} {D : List α} {d : α} (hn : n < D.length) (h : g (D.getD n d) = D.getD n d) : upto g n D = upto g (n + 1) D := by
  rw [← upto_step (d := d) hn, h, ← upto_at (g := g) (n := n) (D := D) (d := d) hn]
  have hl := upto_len g n D
  apply List.ext_getElem?
  intro j
  simp only [List.getElem?_set]
  split
  · rename_i h1; subst h1
    have : n < (upto g n D).length := by omega
    rw [if_pos this, List.getElem?_eq_getElem this]; simp [List.getD, this]
  · rfl
theorem flushX_t {x : Sec} (h : x.known = true) : flushX x = { x with some := [x.value] } := if_pos h
theorem flushX_f {x : Sec} (h : x.known = false) : flushX x = x := if_neg (by simp [h])
def mkSec (x : UInt64) : Sec := ⟨[x], true, x⟩
def trkT (xs : List UInt64) : List Sec := xs.map mkSec
theorem SL.snoc (l : SL) (x : SecH × Sec) : SL.hs (l ++ [x]) = SL.hs l ++ [x.1] := by simp [SL.hs]
theorem SOk.push {l : SL} {t : List Sec} (h : SOk l t) (x : SecH × Sec) (hx : x.1.known = x.2.known ∧ x.1.value = x.2.value) (hc : t.length + 1 ≤ 65536) : SOk (l ++ [x]) (t ++ [x.2]) where
  ds := by rw [List.map_append, h.ds]; rfl
  ag := fun p hp => by
    rcases List.mem_append.1 hp with hp | hp
    · exact h.ag p hp
    · simp at hp; subst hp; exact hx
  cnt := by simpa using hc
theorem takeU (xs : List UInt64) (k : Nat) (h : k < xs.length) : trkT (xs.take (k + 1)) = trkT (xs.take k) ++ [mkSec (xs.getD k 0)] := by
  rw [List.take_succ_eq_append_getElem h, trkT, trkT, List.map_append]; simp [List.getD, h]
theorem c_Wrote {W : World} {b : Nat} {t : List Sec} {d : Int} {v : UInt64} {o : Bool} (hs1 : ∀ i, (t.getD i s0).some.length ≤ 100000) :
    CSpec Tryz.prog W 96 [ptr b 0, .int .i64 d, .int .u64 (v.toNat : Int), .bool o] [Trk b t] (fun _ : Unit => .tuple #[]) (fun _ => True) (fun _ F => Trk b (wroteT t d v o) :: F) := by
 refine CSpec.of_body Tryz.func96 rfl Tryz.ntmps96 rfl fun F => ?_
 show CJ _ _ _ _ _ _ (_ :: F)
 refine CJ_entX (Ent.transX (t0_ eR) Trk_open) fun ⟨sv, l⟩ => CJ_pur fun hX => ?_
 have hl : SOk l t := hX
 have hn := hl.len
 have hcn := hl.cnt
 show CJ _ _ _ _ _ _ (blk b 56 [Sl3.v sv] :: sl tySec (Sl3.v sv) (SL.hs l) :: VG.Own ownS l :: _)
 refine CJ_seq <| sR <| oM rfl rfl <| oP (P_lss rfl rfl) rfl <| oM rfl rfl ?_
 first | (refine RJ_splitD 11 rfl (fun hg1B hg1 => ?_) (fun hg1B hg1 => ?_)) | (refine RJ_splitN 11 rfl (fun hg1B hg1 => ?_) (fun hg1B hg1 => ?_)) | (refine RJ_split 11 rfl (fun hg1B => ?_) (fun hg1B => ?_))
 ·
  refine RJ_gn (GY_no rfl rfl rfl hg1B) rfl rfl <| RJ_gn (GY_no rfl rfl rfl hg1B) rfl rfl <| RJ_gn (GY_no rfl rfl rfl hg1B) rfl rfl <| RJ_gn (GY_no rfl rfl rfl hg1B) rfl rfl <| RJ_gn (GY_no rfl rfl rfl hg1B) rfl rfl <| RJ_gn (GY_no rfl rfl rfl hg1B) rfl rfl <| RJ_gn (GY_no rfl rfl rfl hg1B) rfl rfl <| oP (P_pickT rfl hg1B rfl) rfl <| nT <| CJ_condT rfl rfl <| CJ_ret <| QJ_then_ret <| QJ_end (res0 Tryz.results96) ?_
  rw [wroteT_no (by omega)]
  refine CSpec.close () ?_ ?_ (Ent.trans (Ent.trans (t0_ (t0_ (t0_ eR))) (Trk_close hl)) (t0_ eR))
  · rfl
  · trivial
 ·
  refine gP (GY_yes rfl rfl rfl hg1B) (P_move rfl) rfl <| gP (GY_yes rfl rfl rfl hg1B) (P_move rfl) rfl <| gP (GY_yes rfl rfl rfl hg1B) (P_nilCheck rfl) rfl <| gP (GY_yes rfl rfl rfl hg1B) (P_fieldAddr rfl ⟨_, _, _, Tryz.runUnderlying56, rfl, rfl, Tryz.sizeOf54, rfl⟩) rfl <| gV (GY_yes rfl rfl rfl hg1B) (V_load rfl foc0 rfl Tryz.isAgg54) rfl <| gV (GY_yes rfl rfl rfl hg1B) (V_len rfl foc1 (Reads.sl _ _ _) Tryz.runUnderlying54) rfl <| gP (GY_yes rfl rfl rfl hg1B) (P_geq rfl rfl) rfl <| oP (P_pickF rfl hg1B rfl) rfl <| nT ?_
  first | (refine CJ_condD rfl (fun hg2 => ?_) (fun hg2 => ?_)) | (refine CJ_condN rfl (fun hg2 => ?_) (fun hg2 => ?_)) | (refine CJ_cond rfl (fun hg2 => ?_) (fun hg2 => ?_))
  ·
   refine CJ_ret <| QJ_then_ret <| QJ_end (res0 Tryz.results96) ?_
   rw [wroteT_no (by omega)]
   refine CSpec.close () ?_ ?_ (Ent.trans (Ent.trans (t0_ (t0_ (t0_ eR))) (Trk_close hl)) (t0_ eR))
   · rfl
   · trivial
  ·
   obtain ⟨i, rfl⟩ := Int.eq_ofNat_of_zero_le (show 0 ≤ d by omega)
   have hi : i < t.length := by omega
   have hil : i < (SL.hs l).length := by omega
   have hsi := hs1 i
   refine kT <| CJ_seq <| CJ_ent (Ent.trans (t2_ eR) (OwnS_open hl i (by omega))) <| CJ_region <| oM rfl rfl <| oP (P_nilCheck rfl) rfl <| oP (P_fieldAddr rfl ⟨_, _, _, Tryz.runUnderlying56, rfl, rfl, Tryz.sizeOf54, rfl⟩) rfl <| oV (V_load rfl foc2 rfl Tryz.isAgg54) rfl <| oM rfl rfl ?_
   first | (refine RJ_op rfl (OJ_V (V_index rfl rfl rfl (by first | omega | (simp only [List.length_set]; omega)) foc3 (Reads.sl _ _ _) Tryz.runUnderlying54 Tryz.sizeOf151) rfl ?_)) | (refine RJ_op rfl (OJ_V (V_index rfl rfl (Int.toNat_of_nonneg (by first | omega | (simp only [List.length_set]; omega))).symm (by first | omega | (simp only [List.length_set]; omega)) foc3 (Reads.sl _ _ _) Tryz.runUnderlying54 Tryz.sizeOf151) rfl ?_))
   refine oA rfl rfl <| nT <| sR <| oM rfl rfl <| oM rfl rfl <| oP (P_nilCheckE rfl) rfl <| oP (P_fieldE rfl ⟨_, _, _, Tryz.runUnderlying151, rfl, rfl, Tryz.sizeOf43, rfl⟩) rfl <| oV (V_loadE rfl rfl (by first | omega | (simp only [List.length_set]; omega)) foc3 (Reads.sl _ _ _) rfl rfl Tryz.isAgg43) rfl <| RJ_ent (fun h hh => sl_nil (t := tyU) h hh) <| oO <| O_append (t := tyU) (bytes := 8) rfl rfl del0 foc0 (Reads.sl _ _ _) Tryz.underlying43 ok_tyU (by simp only [List.length_append, List.length_cons, List.length_nil, maxLen] at *; omega) (by simp only [List.length_append, List.length_cons, List.length_nil, maxLen] at *; omega) rfl fun p3 c4 => oM rfl rfl <| oO <| O_buildSlice rfl (CTrack_bs_43_1_0 _) rfl fun b5 => oO <| O_append (t := tyU) (bytes := 8) rfl rfl del1 foc0 (Reads.lit (t := tyU) (ys := [v]) rfl rfl (by decide) (by decide) rfl) Tryz.underlying43 ok_tyU (by simp only [List.length_append, List.length_cons, List.length_nil, maxLen] at *; omega) (by simp only [List.length_append, List.length_cons, List.length_nil, maxLen] at *; omega) rfl fun p6 c7 => oP (P_nilCheckE rfl) rfl <| oP (P_fieldE rfl ⟨_, _, _, Tryz.runUnderlying151, rfl, rfl, Tryz.sizeOf43, rfl⟩) rfl <| oO <| O_storeE (x' := ⟨⟨p6, _, c7⟩, ((SL.hs l).getD i sH0).known, ((SL.hs l).getD i sH0).value⟩) rfl rfl rfl (by first | omega | (simp only [List.length_set]; omega)) foc5 rfl rfl rfl Tryz.sizeOf43 <| nT <| CJ_region <| oM rfl rfl <| oM rfl rfl <| oM rfl rfl <| oM rfl rfl <| oP (P_nilCheckE rfl) rfl ?_
   refine oP (P_fieldE rfl ⟨_, _, _, Tryz.runUnderlying151, rfl, rfl, Tryz.sizeOf4, rfl⟩) rfl <| oO <| O_storeE (x' := ⟨⟨p6, _, c7⟩, o, ((SL.hs l).getD i sH0).value⟩) rfl rfl rfl (by first | omega | (simp only [List.length_set]; omega)) foc5 rfl rfl (by rw [show List.getD _ _ tySec.dflt = _ from getD_set1 hil]; rfl) Tryz.sizeOf4 <| oP (P_nilCheckE rfl) rfl <| oP (P_fieldE rfl ⟨_, _, _, Tryz.runUnderlying151, rfl, rfl, Tryz.sizeOf44, rfl⟩) rfl <| oO <| O_storeE (x' := ⟨⟨p6, _, c7⟩, o, v⟩) rfl rfl rfl (by first | omega | (simp only [List.length_set]; omega)) foc5 rfl rfl (by rw [show List.getD _ _ tySec.dflt = _ from getD_set1 (by simpa using hil)]; rfl) Tryz.sizeOf44 <| RJ_nil <| QJ_endN (res0 Tryz.results96) ?_
   rw [wroteT_ok (by omega)]
   refine CSpec.close () ?_ ?_ (Ent.trans (Ent.trans (Ent.takeC del0 (show _ = ownS ((⟨⟨p6, _, c7⟩, o, v⟩ : SecH), (⟨(t.getD i s0).some ++ [v], o, v⟩ : Sec)) from rfl) (t2_ eR)) (Own_close ownS ((⟨⟨p6, _, c7⟩, o, v⟩ : SecH), (⟨(t.getD i s0).some ++ [v], o, v⟩ : Sec)) (by have := hl.len; simp at this; omega))) (Ent.trans (Ent.trans (t3_ (Ent.takeC del3 (congrArg (sl tySec _) (by rw [set3]; simp only [SL.hs, List.map_set])) (t0_ eR))) (Trk_close (hl.set i ((⟨⟨p6, _, c7⟩, o, v⟩ : SecH), (⟨(t.getD i s0).some ++ [v], o, v⟩ : Sec)) ⟨rfl, rfl⟩))) (t0_ (eD (eD eR)))))
   · rfl
   · trivial
theorem c_Flushed {W : World} {b : Nat} {t : List Sec} :
    CSpec Tryz.prog W 51 [ptr b 0] [Trk b t] (fun _ : Unit => .tuple #[]) (fun _ => True) (fun _ F => Trk b (flushedT t) :: F) := by
 refine CSpec.of_body Tryz.func51 rfl Tryz.ntmps51 rfl fun F => ?_
 show CJ _ _ _ _ _ _ (_ :: F)
 refine CJ_entX (Ent.transX (t0_ eR) Trk_open) fun ⟨sv, l⟩ => CJ_pur fun hX => ?_
 have hl : SOk l t := hX
 have hn := hl.len
 have hcn := hl.cnt
 show CJ _ _ _ _ _ _ (blk b 56 [Sl3.v sv] :: sl tySec (Sl3.v sv) (SL.hs l) :: VG.Own ownS l :: _)
 refine sR <| oA rfl rfl <| nT <| CJ_block <| CJ_loopR (X := Nat × SL) [2, 3, 4, 5, 6, 7, 8, 9, 10, 11, 12, 13, 14, 15, 16, 17, 18, 19, 20, 21, 22, 23, 24, 25, 26, 27, 28, 29, 30] (fun ⟨i, l1⟩  => ([(2, .int .i64 (i : Nat))] : Slots)) (fun ⟨i, l1⟩ R => sl tySec (Sl3.v sv) (SL.hs l1) :: VG.Own ownS l1 :: R) (fun ⟨i, l1⟩  => i ≤ t.length ∧ SOk l1 (upto flushX i t)) (fun ⟨i, l1⟩  => t.length - i) ⟨0, l⟩ ?_ ?_ (t1_ (t1_ (t0_ eR))) ?_
 ·
  refine ⟨Nat.zero_le _, ?_⟩
  rw [upto_zero]; exact hl
 · exact ⟨rfl, True.intro⟩
 ·
  rintro ⟨i, l1⟩ ⟨hi, h1⟩
  show CJ _ _ _ _ _ (([(2, .int .i64 (i : Nat))] : Slots) ++ forget _ _) (sl tySec (Sl3.v sv) (SL.hs l1) :: VG.Own ownS l1 :: _)
  have hn1 := h1.len
  have hul := upto_len flushX i t
  refine CJ_seq <| sR <| oM rfl rfl <| oM rfl rfl <| oP (P_nilCheck rfl) rfl <| oP (P_fieldAddr rfl ⟨_, _, _, Tryz.runUnderlying56, rfl, rfl, Tryz.sizeOf54, rfl⟩) rfl <| oV (V_load rfl foc2 rfl Tryz.isAgg54) rfl <| oV (V_len rfl foc0 (Reads.sl _ _ _) Tryz.runUnderlying54) rfl <| oP (P_lss rfl rfl) rfl <| nT ?_
  first | (refine CJ_condD rfl (fun hg1 => ?_) (fun hg1 => ?_)) | (refine CJ_condN rfl (fun hg1 => ?_) (fun hg1 => ?_)) | (refine CJ_cond rfl (fun hg1 => ?_) (fun hg1 => ?_))
  ·
   refine kT <| CJ_seq <| CJ_block <| sR <| oM rfl rfl <| oP (P_nilCheck rfl) rfl <| oP (P_fieldAddr rfl ⟨_, _, _, Tryz.runUnderlying56, rfl, rfl, Tryz.sizeOf54, rfl⟩) rfl <| oV (V_load rfl foc2 rfl Tryz.isAgg54) rfl <| oM rfl rfl ?_
   first | (refine RJ_op rfl (OJ_V (V_index rfl rfl rfl (by omega) foc0 (Reads.sl _ _ _) Tryz.runUnderlying54 Tryz.sizeOf151) rfl ?_)) | (refine RJ_op rfl (OJ_V (V_index rfl rfl (Int.toNat_of_nonneg (by omega)).symm (by omega) foc0 (Reads.sl _ _ _) Tryz.runUnderlying54 Tryz.sizeOf151) rfl ?_))
   refine oA rfl rfl <| nT <| sR <| oM rfl rfl <| oP (P_nilCheckE rfl) rfl <| oP (P_fieldE rfl ⟨_, _, _, Tryz.runUnderlying151, rfl, rfl, Tryz.sizeOf4, rfl⟩) rfl <| oV (V_loadE rfl rfl (by omega) foc0 (Reads.sl _ _ _) rfl rfl Tryz.isAgg4) rfl <| nT ?_
   first | (refine CJ_condD rfl (fun hg2 => ?_) (fun hg2 => ?_)) | (refine CJ_condN rfl (fun hg2 => ?_) (fun hg2 => ?_)) | (refine CJ_cond rfl (fun hg2 => ?_) (fun hg2 => ?_))
   ·
    have hkn : ((upto flushX i t).getD i s0).known = true := by rw [← (h1.at (by omega)).1]; assumption
    refine CJ_ent (Ent.trans (t1_ eR) (OwnS_open h1 i (by omega))) <| CJ_region <| oM rfl rfl <| oM rfl rfl <| oP (P_nilCheckE rfl) rfl <| oP (P_fieldE rfl ⟨_, _, _, Tryz.runUnderlying151, rfl, rfl, Tryz.sizeOf44, rfl⟩) rfl <| oV (V_loadE rfl rfl (by omega) foc2 (Reads.sl _ _ _) rfl rfl Tryz.isAgg44) rfl <| oO <| O_buildSlice rfl (CTrack_bs_43_1_0 _) rfl fun b1 => RJ_ent (Ent.trans (t0_ eR) (sl_of_lit (t := tyU) (m := 1) [((SL.hs l1).getD i sH0).value] rfl rfl rfl (by decide))) <| oP (P_nilCheckE rfl) rfl <| oP (P_fieldE rfl ⟨_, _, _, Tryz.runUnderlying151, rfl, rfl, Tryz.sizeOf43, rfl⟩) rfl <| oO <| O_storeE (x' := { (SL.hs l1).getD i sH0 with some := ⟨some ⟨b1, 0, none⟩, 1, 1⟩ }) rfl rfl rfl (by omega) foc3 rfl rfl rfl Tryz.sizeOf43 <| RJ_nil <| QJ_block_normal <| QJ_then <| CJ_region <| oM rfl rfl <| oP (P_add rfl rfl (by omega)) rfl <| oA rfl rfl <| RJ_nil ?_
    refine QJ_nextR ⟨i + 1, l1.set i ({ (SL.hs l1).getD i sH0 with some := ⟨some ⟨b1, 0, none⟩, 1, 1⟩ }, flushX ((upto flushX i t).getD i s0))⟩ (by first | omega | (simp only []; omega)) ?_ (by repeat (first | exact Kp.base | exact Kp.self | refine Kp.cons rfl ?_ | refine Kp.forget rfl ?_)) ?_ (Ent.trans (Ent.trans (Ent.takeC del0 (show _ = sl tyU _ _ by rw [flushX_t hkn]; exact congrArg (fun z => sl tyU _ [z]) (h1.at (by omega)).2) (t1_ eR)) (Own_close ownS ({ (SL.hs l1).getD i sH0 with some := ⟨some ⟨b1, 0, none⟩, 1, 1⟩ }, flushX ((upto flushX i t).getD i s0)) (by have := h1.len; simp at this; omega))) (Ent.takeC del2 (congrArg (sl tySec _) (by simp only [SL.hs, List.map_set])) (t0_ (t1_ (eD eR)))))
    ·
     refine ⟨by omega, ?_⟩
     rw [← upto_step (d := s0) (by omega), ← upto_at (g := flushX) (n := i) (D := t) (d := s0) (by omega)]
     refine h1.set i ({ (SL.hs l1).getD i sH0 with some := ⟨some ⟨b1, 0, none⟩, 1, 1⟩ }, flushX ((upto flushX i t).getD i s0)) ?_
     rw [flushX_t hkn]; exact h1.at (by omega)
    · exact ⟨rfl, True.intro⟩
   ·
    refine CJ_skip <| QJ_block_normal <| QJ_then <| CJ_region <| oM rfl rfl <| oP (P_add rfl rfl (by omega)) rfl <| oA rfl rfl <| RJ_nil <| QJ_nextR ⟨i + 1, l1⟩ (by first | omega | (simp only []; omega)) ?_ (by repeat (first | exact Kp.base | exact Kp.self | refine Kp.cons rfl ?_ | refine Kp.forget rfl ?_)) ?_ (t0_ (t0_ (t0_ eR)))
    ·
     refine ⟨by omega, ?_⟩
     rw [← upto_skip (d := s0) (by omega) (flushX_f (by rw [← upto_at (g := flushX) (n := i) (by omega), ← (h1.at (by omega)).1]; assumption))]; exact h1
    · exact ⟨rfl, True.intro⟩
  ·
   refine CJ_exit <| QJ_then_exit <| QJ_round_exit <| QJ_block_here <| QJ_endN (res0 Tryz.results51) ?_
   obtain rfl : i = t.length := by omega
   rw [upto_all] at h1
   refine CSpec.close () ?_ ?_ (Ent.trans (Ent.trans (t2_ (t0_ (t0_ eR))) (Trk_close h1)) (t0_ eR))
   · rfl
   · trivial
theorem c_Tracked {W : World} {A : HP} {v : Value} {xs : List UInt64} (hA : Reads A tyU v xs) (hl : xs.length ≤ 65536) :
    CSpec Tryz.prog W 47 [v] [A] (fun b : Nat => ptr b 0) (fun _ => True) (fun b F => Trk b (trkT xs) :: A :: F) := by
 refine CSpec.of_body Tryz.func47 rfl Tryz.ntmps47 rfl fun F => ?_
 show CJ _ _ _ _ _ _ (_ :: F)
 refine sR <| oA rfl rfl <| nT <| sR <| oP (P_build rfl (CTrack_bld_56_)) rfl <| oO <| O_box rfl rfl rfl fun b1 => oA rfl rfl <| nT <| CJ_seq <| sR <| oA rfl rfl <| nT <| CJ_block <| CJ_ent (fun h hh => sl_nil (t := tySec) h hh) <| CJ_ent (Own_nil ownS) <| CJ_loopR (X := Nat × Sl3 × SL) [4, 7, 8, 9, 10, 11, 12, 13, 14, 15, 16, 17, 18, 19, 20, 21, 22, 23, 24, 25, 26, 27, 28, 29, 30, 31] (fun ⟨k, sv, l⟩  => ([(4, .int .i64 (k : Nat))] : Slots)) (fun ⟨k, sv, l⟩ R => blk b1 56 [sv.v] :: sl tySec sv.v (SL.hs l) :: VG.Own ownS l :: R) (fun ⟨k, sv, l⟩  => k ≤ xs.length ∧ SOk l (trkT (xs.take k))) (fun ⟨k, sv, l⟩  => xs.length - k) ⟨0, ⟨none, 0, 0⟩, []⟩ ?_ ?_ (t2_ (t1_ (t0_ (t0_ eR)))) ?_
 · exact ⟨Nat.zero_le _, rfl, (fun p hp => by cases hp), Nat.zero_le _⟩
 · exact ⟨rfl, True.intro⟩
 ·
  rintro ⟨k, sv, l⟩ ⟨hk, hs⟩
  show CJ _ _ _ _ _ (([(4, .int .i64 (k : Nat))] : Slots) ++ forget _ _) (blk b1 56 [sv.v] :: sl tySec sv.v (SL.hs l) :: VG.Own ownS l :: _)
  have hlen : (SL.hs l).length = k := by rw [hs.len]; simp [trkT]; omega
  refine CJ_seq <| sR <| oM rfl rfl <| oM rfl rfl <| oV (V_len rfl foc3 hA Tryz.runUnderlying43) rfl <| oP (P_lss rfl rfl) rfl <| nT ?_
  first | (refine CJ_condD rfl (fun hg1 => ?_) (fun hg1 => ?_)) | (refine CJ_condN rfl (fun hg1 => ?_) (fun hg1 => ?_)) | (refine CJ_cond rfl (fun hg1 => ?_) (fun hg1 => ?_))
  ·
   refine kT <| CJ_seq <| CJ_block <| AJ_startH 589824 (by kernel_rfl) rfl <| aN 0 1 rfl rfl (P_move rfl) rfl <| aN 1 3 rfl rfl (P_move rfl) rfl <| aN 2 7 rfl rfl (P_nilCheck rfl) rfl <| aN 3 15 rfl rfl (P_fieldAddr rfl ⟨_, _, _, Tryz.runUnderlying56, rfl, rfl, Tryz.sizeOf54, rfl⟩) rfl <| aV 4 31 rfl rfl (GY_none rfl) (t0_ (t0_ (t0_ (t0_ eR)))) (V_load rfl foc0 rfl Tryz.isAgg54) rfl <| aN 5 63 rfl rfl (P_move rfl) rfl <| aN 6 127 rfl rfl (P_move rfl) rfl ?_
   first | (refine AJ_takeV 7 255 rfl (by kernel_rfl) rfl (by kernel_rfl) (by kernel_rfl) (GY_none rfl) (t0_ (t0_ (t0_ (t0_ eR)))) (V_index rfl rfl rfl (by omega) foc3 hA Tryz.runUnderlying43 Tryz.sizeOf44) rfl (fun _ _ _ _ h => h) ?_) | (refine AJ_takeV 7 255 rfl (by kernel_rfl) rfl (by kernel_rfl) (by kernel_rfl) (GY_none rfl) (t0_ (t0_ (t0_ (t0_ eR)))) (V_index rfl rfl (Int.toNat_of_nonneg (by omega)).symm (by omega) foc3 hA Tryz.runUnderlying43 Tryz.sizeOf44) rfl (fun _ _ _ _ h => h) ?_)
   refine aV 8 511 rfl rfl (GY_none rfl) (t0_ (t0_ (t0_ (t0_ eR)))) (V_loadE rfl rfl (by omega) foc3 hA rfl rfl Tryz.isAgg44) rfl <| aN 10 1535 rfl rfl (P_move rfl) rfl <| aN 11 3583 rfl rfl (P_move rfl) rfl ?_
   first | (refine AJ_takeV 12 7679 rfl (by kernel_rfl) rfl (by kernel_rfl) (by kernel_rfl) (GY_none rfl) (t0_ (t0_ (t0_ (t0_ eR)))) (V_index rfl rfl rfl (by omega) foc3 hA Tryz.runUnderlying43 Tryz.sizeOf44) rfl (fun _ _ _ _ h => h) ?_) | (refine AJ_takeV 12 7679 rfl (by kernel_rfl) rfl (by kernel_rfl) (by kernel_rfl) (GY_none rfl) (t0_ (t0_ (t0_ (t0_ eR)))) (V_index rfl rfl (Int.toNat_of_nonneg (by omega)).symm (by omega) foc3 hA Tryz.runUnderlying43 Tryz.sizeOf44) rfl (fun _ _ _ _ h => h) ?_)
   refine aV 13 15871 rfl rfl (GY_none rfl) (t0_ (t0_ (t0_ (t0_ eR)))) (V_loadE rfl rfl (by omega) foc3 hA rfl rfl Tryz.isAgg44) rfl <| AJ_op 9 16383 rfl (by kernel_rfl) rfl (GY_none rfl) <| O_buildSlice rfl (CTrack_bs_43_1_0 _) rfl fun b2 => ⟨fun _ => (t1_ (t1_ (t1_ (t1_ (eD eR))))), ?_⟩
   refine aN 14 32767 rfl rfl (P_build rfl (CTrack_bld_151_0_1_2 _ _ _ _ _)) rfl <| AJ_op 15 65535 rfl (by kernel_rfl) rfl (GY_none rfl) <| O_buildSlice rfl (CTrack_bs_54_1_0 _ _ _ _ _) rfl fun b3 => ⟨fun _ => (t2_ (t2_ (t2_ (t2_ (eD (eD eR)))))), ?_⟩
   refine AJ_op 16 131071 rfl (by kernel_rfl) rfl (GY_none rfl) <| O_append (t := tySec) (bytes := 40) rfl rfl del3 foc0 (Reads.lit (t := tySec) (ys := [⟨⟨some ⟨b2, 0, none⟩, 1, 1⟩, true, xs.getD k 0⟩]) rfl rfl (by decide) (by decide) rfl) Tryz.underlying54 ok_tySec (by simp only [List.length_append, List.length_cons, List.length_nil, maxLen] at *; omega) (by simp only [List.length_append, List.length_cons, List.length_nil, maxLen] at *; omega) rfl fun p4 c5 => ⟨fun h => absurd h (by decide), ?_⟩
   refine aN 17 262143 rfl rfl (P_nilCheck rfl) rfl <| aN 18 524287 rfl rfl (P_fieldAddr rfl ⟨_, _, _, Tryz.runUnderlying56, rfl, rfl, Tryz.sizeOf54, rfl⟩) rfl <| AJ_op 19 1048575 rfl (by kernel_rfl) rfl (GY_none rfl) <| O_store rfl rfl foc3 rfl rfl Tryz.sizeOf54 <| ⟨fun h => absurd h (by decide), ?_⟩
   refine AJ_done (by kernel_rfl) <| QJ_block_normal <| QJ_then <| CJ_region <| oM rfl rfl <| oP (P_add rfl rfl (by omega)) rfl <| oA rfl rfl <| RJ_nil <| QJ_nextR ⟨k + 1, ⟨p4, _, c5⟩, l ++ [((⟨⟨some ⟨b2, 0, none⟩, 1, 1⟩, true, xs.getD k 0⟩ : SecH), mkSec (xs.getD k 0))]⟩ (by first | omega | (simp only []; omega)) ?_ (by repeat (first | exact Kp.base | exact Kp.self | refine Kp.cons rfl ?_ | refine Kp.forget rfl ?_)) ?_ (Ent.trans (Ent.trans (t2_ eR) (sl_of_lit (t := tyU) (m := 1) [xs.getD k 0] rfl rfl rfl (by decide))) (Ent.trans (Ent.trans (t0_ (t3_ eR)) (Own_push ownS ((⟨⟨some ⟨b2, 0, none⟩, 1, 1⟩, true, xs.getD k 0⟩ : SecH), mkSec (xs.getD k 0)))) (t3_ (Ent.takeC del1 (congrArg (sl tySec _) (SL.snoc l ((⟨⟨some ⟨b2, 0, none⟩, 1, 1⟩, true, xs.getD k 0⟩ : SecH), mkSec (xs.getD k 0))).symm) (t0_ (t1_ (eD eR)))))))
   ·
    refine ⟨by omega, ?_⟩
    rw [takeU xs k (by omega)]
    exact hs.push ((⟨⟨some ⟨b2, 0, none⟩, 1, 1⟩, true, xs.getD k 0⟩ : SecH), mkSec (xs.getD k 0)) ⟨rfl, rfl⟩ (by simp [trkT]; omega)
   · exact ⟨rfl, True.intro⟩
  ·
   refine CJ_exit <| QJ_then_exit <| QJ_round_exit <| QJ_block_here <| QJ_then <| sR <| oM rfl rfl <| oA rfl rfl <| nT <| CJ_ret <| QJ_end (res1 Tryz.results47 rfl) ?_
   obtain rfl : k = xs.length := by omega
   rw [List.take_length] at hs
   refine CSpec.close b1 ?_ ?_ (Ent.trans (Ent.trans (t0_ (t0_ (t0_ eR))) (Trk_close hs)) (t0_ (t0_ eR)))
   · rfl
   · trivial
end Go.Proofs
set_option linter.unusedSimpArgs false
set_option linter.unusedVariables false
set_option maxRecDepth 20000
set_option maxHeartbeats 4000000
namespace Go.Proofs
open Go.VG
theorem bs_139_3_0_1_2 (v0 : Fn) (v1 : (Array Value)) (v2 : (Array Value)) (v3 : Fn) (v4 : (Array Value)) (v5 : (Array Value)) (v6 : Fn) (v7 : (Array Value)) (v8 : (Array Value)) : BuildsSlice Tryz.prog 139 3 [(0, .func v0 v1 v2), (1, .func v3 v4 v5), (2, .func v6 v7 v8)] 77 [.func v0 v1 v2, .func v3 v4 v5, .func v6 v7 v8] := fun w => by kernel_rfl
def parityvol_Volume_Fill_1 (x_0 : Dvc) (p1 : Int) (p2 : UInt64) (p3 : Int) (s : ArrS) : Option (Int × Int × ArrS) :=
  grd (inI64 (((16 : Int) + p1))) <|
  Option.bind (Dvc.wr x_0 s (((16 : Int) + p1)) p2) fun r2 =>
  some (r2.1, r2.1, r2.2)
theorem L_parityvol_Volume_Fill_1 {W : World} {vx_0 : IfH} {bp1 : Nat} {bp2 : Nat} {bp3 : Nat} {bs : Nat} {x_0 : Dvc} {p1 : Int} {p2 : UInt64} {p3 : Int} {s : ArrS} {r : Int × Int × ArrS} (h : parityvol_Volume_Fill_1 x_0 p1 p2 p3 s = some r) :
    CSpec Tryz.prog W 79 [IfH.v vx_0, ptr bp1 0, ptr bp2 0, ptr bp3 0] [DevP bs x_0 vx_0, blk bp1 3 [.int .i64 p1], blk bp2 44 [.int .u64 (p2.toNat : Int)], blk bp3 40 [.int .i64 p3], Arr bs s] (fun x : Unit => .int .i64 r.1) (fun _ => True) (fun x F => DevP bs x_0 vx_0 :: blk bp1 3 [.int .i64 p1] :: blk bp2 44 [.int .u64 (p2.toNat : Int)] :: blk bp3 40 [.int .i64 r.2.1] :: Arr bs r.2.2 :: F) := by
 refine CSpec.of_body Tryz.func79 rfl Tryz.ntmps79 rfl fun F => ?_
 show CJ _ _ _ _ _ _ (_ :: _ :: _ :: _ :: _ :: F)
 unfold parityvol_Volume_Fill_1 at h
 refine sR <| oA rfl rfl <| nT <| sR <| oM rfl rfl <| oV (V_load rfl foc1 rfl Tryz.isAgg3) rfl ?_
 obtain ⟨hg1, h⟩ := grd_Ie h
 refine oP (P_add (a := (16 : Int)) (b := p1) rfl rfl hg1) rfl <| oV (V_load rfl foc2 rfl Tryz.isAgg44) rfl <| RJ_pure (fun h hh => DevP_dep h (stars_perm (del0 (A := DevP bs x_0 vx_0)).out h hh)) fun hdp1 => ?_
 obtain ⟨r2, hr3, h⟩ := bind_e h
 refine oO <| O_callI rfl (dev_Write hr3 hdp1) rfl (Dels.cons del0 (Dels.cons del3 Dels.nil)) rfl fun _ _ => oO <| O_store rfl rfl foc4 rfl rfl Tryz.sizeOf40 <| nT <| sR <| oV (V_load rfl foc4 rfl Tryz.isAgg40) rfl <| oA rfl rfl <| nT <| CJ_ret ?_
 cases h
 exact fE (res1 Tryz.results79 rfl) () (t0_ (t1_ (t1_ (t1_ eR))))
def parityvol_Volume_on__parityvol_Volume_Fill_1 (v : VolS) (i : Int) (f_c0 : Int) (f_c1 : UInt64) (f_c2 : Int) (s : ArrS) : Option (Int × VolS × Int × ArrS) :=
  grd (decide (0 ≤ i ∧ i < (v.legs.length : Int))) <|
  Option.bind (parityvol_Volume_Fill_1 ((v.legs.getD ((i).toNat) prt_x0).dev) f_c0 f_c1 f_c2 s) fun r9 =>
  Option.bind (parityvol_Volume_on_1 r9.1 v i r9.2.2) fun r11 =>
  some (r11.1, r11.2, r9.2.1, r9.2.2)
theorem L_parityvol_Volume_on__parityvol_Volume_Fill_1 {W : World} {bv : Nat} {bf_c0 : Nat} {bf_c1 : Nat} {bf_c2 : Nat} {bs : Nat} {v : VolS} {i : Int} {f_c0 : Int} {f_c1 : UInt64} {f_c2 : Int} {s : ArrS} {r : Int × VolS × Int × ArrS} (h : parityvol_Volume_on__parityvol_Volume_Fill_1 v i f_c0 f_c1 f_c2 s = some r) :
    CSpec Tryz.prog W 78 [ptr bv 0, .int .i64 i, .func (.func 79) #[] #[ptr bf_c0 0, ptr bf_c1 0, ptr bf_c2 0]] [VolP bs bv v, blk bf_c0 3 [.int .i64 f_c0], blk bf_c1 44 [.int .u64 (f_c1.toNat : Int)], blk bf_c2 40 [.int .i64 f_c2], Arr bs s] (fun x : Unit => .int .i64 r.1) (fun _ => True) (fun x F => VolP bs bv r.2.1 :: blk bf_c0 3 [.int .i64 f_c0] :: blk bf_c1 44 [.int .u64 (f_c1.toNat : Int)] :: blk bf_c2 40 [.int .i64 r.2.2.1] :: Arr bs r.2.2.2 :: F) := by
  refine CSpec.of_bodyM Tryz.func78 rfl Tryz.ntmps78 rfl (fun F => ?_)
  show CJ _ _ _ _ _ _ (_ :: _ :: _ :: _ :: _ :: F)
  unfold parityvol_Volume_on__parityvol_Volume_Fill_1 at h
  refine CJ_seq ?_
  refine CJ_region ?_
  refine RJ_op rfl (O_box rfl rfl rfl (fun b1 => ?_))
  refine RJ_op rfl (O_box rfl rfl rfl (fun b2 => ?_))
  refine RJ_op rfl (O_alloc Tryz.zeroValue40 rfl rfl (fun b3 => ?_))
  refine RJ_nil ?_
  refine QJ_then ?_
  refine CJ_seq ?_
  refine CJ_region ?_
  refine RJ_op rfl (OJ_P (P_makeFunc rfl rfl) rfl ?_)
  refine RJ_defer rfl rfl ?_
  refine RJ_nil ?_
  refine QJ_then ?_
  refine CJ_seq ?_
  refine CJ_entX (Ent.transX (Ent.take del3 Ent.refl) (VolP_open (l := v))) (fun oc4 => ?_)
  refine CJ_pure (fun h hh => Rs_len (stars_perm (del2 (A := Rs (DevP bs) (v.legs.map prtS.dev) oc4.2)).out h hh)) (fun hdl6 => ?_)
  refine CJ_pure (len_of (Reads.sl _ _ _) del1) (fun hlen7 => ?_)
  rw [mk_prt_len (by have := hdl6; simpa using this)] at hlen7
  refine AJ_startH 1536 (by kernel_rfl) rfl ?_
  refine AJ_takeP 0 1 rfl (by kernel_rfl) rfl (GY_none rfl) (P_move rfl) rfl (fun _ _ _ _ h => h) ?_
  refine AJ_takeV 1 3 rfl (by kernel_rfl) rfl (by kernel_rfl) (by kernel_rfl) (GY_none rfl) Ent.refl (V_load rfl foc5 rfl Tryz.isAgg65) rfl (fun _ _ _ _ h => h) ?_
  refine AJ_takeP 2 7 rfl (by kernel_rfl) rfl (GY_none rfl) (P_nilCheck rfl) rfl (fun _ _ _ _ h => h) ?_
  refine AJ_takeP 3 15 rfl (by kernel_rfl) rfl (GY_none rfl) (P_fieldAddr rfl ⟨_, _, _, Tryz.runUnderlying123, rfl, rfl, Tryz.sizeOf119, rfl⟩) rfl (fun _ _ _ _ h => h) ?_
  refine AJ_takeV 4 31 rfl (by kernel_rfl) rfl (by kernel_rfl) (by kernel_rfl) (GY_none rfl) Ent.refl (V_load rfl foc0 rfl Tryz.isAgg119) rfl (fun _ _ _ _ h => h) ?_
  refine AJ_takeV 5 63 rfl (by kernel_rfl) rfl (by kernel_rfl) (by kernel_rfl) (GY_none rfl) Ent.refl (V_load rfl foc4 rfl Tryz.isAgg3) rfl (fun _ _ _ _ h => h) ?_
  obtain ⟨hg1, h⟩ := grd_de h
  refine AJ_takeV 6 127 rfl (by kernel_rfl) rfl (by kernel_rfl) (by kernel_rfl) (GY_none rfl) Ent.refl (V_index (i := (i).toNat) rfl rfl (Int.toNat_of_nonneg (hg1.1)).symm (show (i).toNat < (mk_prt v.legs oc4.2).length by rw [mk_prt_len (by have := hdl6; simpa using this)]; exact (by omega)) foc1 (Reads.sl _ _ _) Tryz.runUnderlying119 Tryz.sizeOf126) rfl (fun _ _ _ _ h => h) ?_
  refine AJ_takeP 7 255 rfl (by kernel_rfl) rfl (GY_none rfl) (P_fieldE rfl ⟨_, _, _, Tryz.runUnderlying126, rfl, rfl, Tryz.sizeOf79, rfl⟩) rfl (fun _ _ _ _ h => h) ?_
  refine AJ_ent (Ent.trans (Ent.take del2 Ent.refl) (mk_prt_rs (i := (i).toNat) (by omega))) ?_
  refine AJ_takeV 8 511 rfl (by kernel_rfl) rfl (by kernel_rfl) (by kernel_rfl) (GY_none rfl) (Ent.take del2 (Ent.take del2 (Ent.take del1 (Ent.take del1 (Ent.take del1 (Ent.take del1 (Ent.take del1 (Ent.take del1 (Ent.take del1 (Ent.take del1 (Ent.drop Ent.refl))))))))))) (VJ_eq (V_loadE rfl rfl (show (i).toNat < (mk_prt v.legs oc4.2).length by rw [mk_prt_len (by have := hdl6; simpa using this)]; exact (by omega)) foc1 (Reads.sl _ _ _) rfl rfl Tryz.isAgg79) (show (IfH.v ((oc4.2.getD ((i).toNat) tyDev.dflt)) : Value) = IfH.v ((mk_prt v.legs oc4.2).getD ((i).toNat) prt_h0).dev from by rw [mk_prt_at (by have := hdl6; simpa using this)])) rfl (fun _ _ _ _ h => h) ?_
  obtain ⟨r9, hr10, h⟩ := bind_e h
  refine AJ_op 9 1023 rfl (by kernel_rfl) rfl (GY_none rfl) (O_callV rfl rfl (L_parityvol_Volume_Fill_1 hr10) Tryz.call79 (Dels.cons del0 (Dels.cons del6 (Dels.cons del6 (Dels.cons del6 (Dels.cons del6 Dels.nil))))) rfl (fun _ _ => ?_))
  refine ⟨fun h => absurd h (by decide), ?_⟩
  refine AJ_op 10 2047 rfl (by kernel_rfl) rfl (GY_none rfl) (O_store rfl rfl foc8 rfl rfl Tryz.sizeOf40 ?_)
  refine ⟨fun h => absurd h (by decide), ?_⟩
  refine AJ_done (by kernel_rfl) ?_
  refine QJ_ent (Ent.trans (Ent.take del6 (Ent.take del6 (Ent.take del5 Ent.refl))) (VolP_mk (v0 := v.layout_n) (v1 := v.layout_chunk) (v2 := v.layout_rows) (v3 := v.legs) (v4 := v.last_seq) (v5 := v.last_offset) (v6 := v.last_leg) (v7 := v.last_word) (v8 := v.last_parity) (v9 := v.pending) (v10 := v.filled) (h0 := oc4.1) (h1 := oc4.2))) ?_
  refine QJ_ent (Ent.take del0 (Ent.take del1 (Ent.take del1 (Ent.take del1 (Ent.take del1 (Ent.take del1 (Ent.take del1 (Ent.take del1 (Ent.drop Ent.refl))))))))) ?_
  refine QJ_then ?_
  refine CJ_ret ?_
  obtain ⟨r11, hr12, h⟩ := bind_e h
  have hE := Option.some.inj h
  subst hE
  refine QJ_endD1 (.inl rfl) Tryz.call114 (Ent.take del5 (Ent.take del6 (Ent.take del0 (Ent.take del4 (Ent.take del3 Ent.refl))))) (LD_parityvol_Volume_on_1 hr12) (resA1 Tryz.results78 (RV_cell rfl foc0 rfl Tryz.isAgg40)) ?_
  refine CSpec.close () ?_ ?_ (Ent.take del2 (Ent.take del4 (Ent.take del4 (Ent.take del4 (Ent.take del3 (Ent.drop (Ent.drop (Ent.drop Ent.refl))))))))
  · rfl
  · trivial
def parityvol_Volume_Fill_l2_b (r3 : Int) (x12 : VolS) (rec : ArrS → VolS → Nat → Option ((ArrS × VolS) ⊕ ((VolS × ArrS) ⊕ (Int × Int × VolS × ArrS)))) (x20 : ArrS) (x21 : VolS) (x22 : Nat) : Option ((ArrS × VolS) ⊕ ((VolS × ArrS) ⊕ (Int × Int × VolS × ArrS))) :=
  if (((x22 : Nat) : Int) < x12.layout_chunk) then
    grd (inI64 (x12.filled * x21.layout_chunk)) <|
    grd (inI64 (((x12.filled * x21.layout_chunk) + ((x22 : Nat) : Int)))) <|
    Option.bind (parityvol_Volume_others x21 r3 (((x12.filled * x21.layout_chunk) + ((x22 : Nat) : Int))) true x20) fun r24 =>
    if (r24.2.1 = (0 : Int)) then
      Option.bind (parityvol_Volume_on__parityvol_Volume_Fill_1 r24.2.2 r3 (((x12.filled * x21.layout_chunk) + ((x22 : Nat) : Int))) r24.1 (0 : Int) x20) fun r28 =>
      if ((r28.1 = (0 : Int)) ∧ (r28.2.2.1 ≠ (0 : Int))) then
        some (.inr (.inr (((0 : Int), (0 : Int), r28.2.1, r28.2.2.2))))
      else
        if (r28.1 ≠ (0 : Int)) then
          some (.inr (.inr (((0 : Int), r28.1, r28.2.1, r28.2.2.2))))
        else
          grd (inN64 (x22 + 1)) <|
          rec r28.2.2.2 r28.2.1 (x22 + 1)
    else
      if (r24.2.1 ≠ (0 : Int)) then
        some (.inr (.inr (((0 : Int), r24.2.1, r24.2.2, x20))))
      else
        grd (inN64 (x22 + 1)) <|
        rec x20 r24.2.2 (x22 + 1)
  else
    some (.inl (x20, x21))
def parityvol_Volume_Fill_l2 (r3 : Int) (x12 : VolS) : Nat → ArrS → VolS → Nat → Option ((ArrS × VolS) ⊕ ((VolS × ArrS) ⊕ (Int × Int × VolS × ArrS)))
  | 0, _, _, _ => none
  | n + 1, x20, x21, x22 => parityvol_Volume_Fill_l2_b r3 x12 (parityvol_Volume_Fill_l2 r3 x12 n) x20 x21 x22
def parityvol_Volume_Fill_l1_b (n_1 : Int) (r1 : Int × VolS × ArrS) (r3 : Int) (rec : ArrS → VolS → Nat → Option ((VolS × ArrS) ⊕ (Int × Int × VolS × ArrS))) (x11 : ArrS) (x12 : VolS) (x13 : Nat) : Option ((VolS × ArrS) ⊕ (Int × Int × VolS × ArrS)) :=
  if (((x13 : Nat) : Int) < (min n_1 (r1.2.1.layout_rows - r1.2.1.filled))) then
    seqO (parityvol_Volume_Fill_l2 r3 x12 FUEL x11 x12 0) fun a19 =>
    grd (inI64 ((a19.2.filled + (1 : Int)))) <|
    grd (inN64 (x13 + 1)) <|
    rec a19.1 ({ a19.2 with filled := (a19.2.filled + (1 : Int)) }) (x13 + 1)
  else
    some (.inl (x12, x11))
def parityvol_Volume_Fill_l1 (n_1 : Int) (r1 : Int × VolS × ArrS) (r3 : Int) : Nat → ArrS → VolS → Nat → Option ((VolS × ArrS) ⊕ (Int × Int × VolS × ArrS))
  | 0, _, _, _ => none
  | n + 1, x11, x12, x13 => parityvol_Volume_Fill_l1_b n_1 r1 r3 (parityvol_Volume_Fill_l1 n_1 r1 r3 n) x11 x12 x13
def parityvol_Volume_Fill (v : VolS) (n_1 : Int) (s : ArrS) : Option (Int × Int × VolS × ArrS) :=
  if (n_1 < (0 : Int)) then
    some (((0 : Int), (1 : Int), v, s))
  else
    Option.bind (parityvol_Volume_ready v s) fun r1 =>
    if (r1.1 ≠ (0 : Int)) then
      some (((0 : Int), r1.1, r1.2.1, r1.2.2))
    else
      Option.bind (parityvol_Volume_staleLeg r1.2.1 r1.2.2) fun r3 =>
      if (r3 < (0 : Int)) then
        some (((0 : Int), (20 : Int), r1.2.1, r1.2.2))
      else
        grd (inI64 (r1.2.1.layout_rows - r1.2.1.filled)) <|
        seqO (parityvol_Volume_Fill_l1 n_1 r1 r3 FUEL r1.2.2 r1.2.1 0) fun a10 =>
        some ((a10.1.filled, (0 : Int), a10.1, a10.2))
theorem L_parityvol_Volume_Fill {W : World} {bv : Nat} {bs : Nat} {v : VolS} {n_1 : Int} {s : ArrS} {r : Int × Int × VolS × ArrS} (h : parityvol_Volume_Fill v n_1 s = some r) :
    CSpec Tryz.prog W 29 [ptr bv 0, .int .i64 n_1] [VolP bs bv v, Arr bs s] (fun x : Unit => .tuple #[.int .i64 r.1, .int .i64 r.2.1]) (fun _ => True) (fun x F => VolP bs bv r.2.2.1 :: Arr bs r.2.2.2 :: F) := by
 refine CSpec.of_body Tryz.func29 rfl Tryz.ntmps29 rfl fun F => ?_
 show CJ _ _ _ _ _ _ (_ :: _ :: F)
 unfold parityvol_Volume_Fill at h
 refine sR <| oA rfl rfl <| oA rfl rfl <| nT <| CJ_seq <| sR <| oM rfl rfl <| oP (P_lss (a := n_1) (b := (0 : Int)) rfl rfl) rfl <| nT <| CJ_condP rfl bT_dec (fun hg1 => ?_) (fun hg1 => ?_)
 ·
  replace h := ite_t hg1 h
  refine sR <| oA rfl rfl <| oA rfl rfl <| nT <| CJ_ret <| QJ_then_ret ?_
  cases h
  exact fE (res2 Tryz.results29 rfl rfl) () eR
 ·
  replace h := ite_f hg1 h
  refine kT <| CJ_seq <| sR <| oM rfl rfl ?_
  obtain ⟨r1, hr2, h⟩ := bind_e h
  refine oO <| O_call (L_parityvol_Volume_ready hr2) rfl Tryz.call73 (Dels.cons del0 (Dels.cons del0 Dels.nil)) rfl fun _ _ => oA rfl rfl <| nT <| sR <| oM rfl rfl <| oP (P_neq (a := r1.1) (b := (0 : Int)) rfl rfl) rfl <| nT <| CJ_condP rfl bT_dec (fun hg2 => ?_) (fun hg2 => ?_)
  ·
   replace h := ite_t hg2 h
   refine sR <| oM rfl rfl <| oA rfl rfl <| oA rfl rfl <| nT <| CJ_ret <| QJ_then_ret ?_
   cases h
   exact fE (res2 Tryz.results29 rfl rfl) () eR
  ·
   replace h := ite_f hg2 h
   refine kT <| sR <| oM rfl rfl ?_
   obtain ⟨r3, hr4, h⟩ := bind_e h
   refine oO <| O_call (L_parityvol_Volume_staleLeg hr4) rfl Tryz.call76 (Dels.cons del0 (Dels.cons del0 Dels.nil)) rfl fun _ _ => oA rfl rfl <| nT <| CJ_seq <| sR <| oM rfl rfl <| oP (P_lss (a := r3) (b := (0 : Int)) rfl rfl) rfl <| nT <| CJ_condP rfl bT_dec (fun hg3 => ?_) (fun hg3 => ?_)
   ·
    replace h := ite_t hg3 h
    refine sR <| oA rfl rfl <| oA rfl rfl <| nT <| CJ_ret <| QJ_then_ret ?_
    cases h
    exact fE (res2 Tryz.results29 rfl rfl) () eR
   ·
    replace h := ite_f hg3 h
    refine kT <| CJ_seq <| CJ_seq <| AJ_startH 0 (by kernel_rfl) rfl <| aN 0 1 rfl rfl (P_move rfl) rfl <| aN 1 3 rfl rfl (P_move rfl) rfl <| aN 2 7 rfl rfl (P_nilCheck rfl) rfl <| aN 3 15 rfl rfl (P_fieldAddr rfl ⟨_, _, _, Tryz.runUnderlying123, rfl, rfl, Tryz.sizeOf112, rfl⟩) rfl <| aN 4 31 rfl rfl (P_fieldAddr rfl ⟨_, _, _, Tryz.runUnderlying112, rfl, rfl, Tryz.sizeOf3, rfl⟩) rfl <| aV 5 63 rfl rfl (GY_none rfl) eR (VJ_entX (Ent.transX (t0_ eR) (VolP_open (l := r1.2.1))) (fun _ => V_load rfl foc0 rfl Tryz.isAgg3)) rfl <| aN 6 127 rfl rfl (P_move rfl) rfl <| aN 7 255 rfl rfl (P_nilCheck rfl) rfl <| aN 8 511 rfl rfl (P_fieldAddr rfl ⟨_, _, _, Tryz.runUnderlying123, rfl, rfl, Tryz.sizeOf3, rfl⟩) rfl <| aV 9 1023 rfl rfl (GY_none rfl) eR (VJ_entX (Ent.transX (t0_ eR) (VolP_open (l := r1.2.1))) (fun _ => V_load rfl foc0 rfl Tryz.isAgg3)) rfl ?_
    obtain ⟨hg4, h⟩ := grd_Ie h
    refine aN 10 2047 rfl rfl (P_sub (a := r1.2.1.layout_rows) (b := r1.2.1.filled) rfl rfl hg4) rfl <| aN 11 4095 rfl rfl (P_min (a := n_1) (b := (r1.2.1.layout_rows - r1.2.1.filled)) rfl rfl) rfl <| aN 12 8191 rfl rfl (P_move rfl) rfl <| aD ?_
    obtain ⟨y7, hl5, hK6⟩ := seq_e h
    refine CJ_cutT (X := VolS × ArrS) [4, 5, 8, 9, 10, 11, 12, 13, 37, 38, 39, 40, 41, 42, 43, 44, 45, 46, 47, 48, 49, 50, 51, 52, 53, 54, 55, 56, 57, 58, 59, 60, 61, 62, 63, 64, 65, 66, 67, 68, 69, 70, 71, 72, 73, 74, 75, 76, 77, 78, 79, 80, 81, 82, 83, 84, 85, 86, 87, 88, 89, 90] (fun a10 => ([] : Slots)) (fun a10 R => VolP bs bv a10.1 :: Arr bs a10.2 :: R) (fun a10 => y7 = .inl a10) (Dels.cons del0 (Dels.cons del0 Dels.nil)) ?_ ?_
    ·
     refine CJ_block <| CJ_loopR (X := Nat × ArrS × VolS × Nat) [4, 5, 8, 9, 10, 11, 12, 13, 37, 38, 39, 40, 41, 42, 43, 44, 45, 46, 47, 48, 49, 50, 51, 52, 53, 54, 55, 56, 57, 58, 59, 60, 61, 62, 63, 64, 65, 66, 67, 68, 69, 70, 71, 72, 73, 74, 75, 76, 77, 78, 79, 80, 81, 82, 83, 84, 85, 86, 87, 88, 89, 90] (fun ⟨n, x11, x12, x13⟩ => ([(37, .int .i64 (((x13 : Nat) : Int)))] : Slots)) (fun ⟨n, x11, x12, x13⟩ R => Arr bs x11 :: VolP bs bv x12 :: R) (fun ⟨n, x11, x12, x13⟩ => parityvol_Volume_Fill_l1 n_1 r1 r3 n x11 x12 x13 = some y7) (fun ⟨n, x11, x12, x13⟩ => n) ⟨FUEL, r1.2.2, r1.2.1, 0⟩ ?_ ?_ (t1_ eR) ?_
     · exact hl5
     · exact ⟨rfl, True.intro⟩
     ·
      rintro ⟨n, x11, x12, x13⟩ h
      cases n with
      | zero => exact none_e h
      | succ n => ?_
      replace h : parityvol_Volume_Fill_l1_b n_1 r1 r3 (parityvol_Volume_Fill_l1 n_1 r1 r3 n) x11 x12 x13 = some y7 := h
      unfold parityvol_Volume_Fill_l1_b at h
      show CJ _ _ _ _ _ (([(37, .int .i64 (((x13 : Nat) : Int)))] : Slots) ++ forget _ _) (Arr bs x11 :: VolP bs bv x12 :: _)
      refine sR <| oP (P_lss (a := ((x13 : Nat) : Int)) (b := (min n_1 (r1.2.1.layout_rows - r1.2.1.filled))) rfl rfl) rfl <| nT <| CJ_seq <| CJ_condP rfl bT_dec (fun hg5 => ?_) (fun hg5 => ?_)
      ·
       replace h := ite_t hg5 h
       refine kT <| CJ_seq <| CJ_block <| sR <| oM rfl rfl <| oP (P_nilCheck rfl) rfl <| oP (P_fieldAddr rfl ⟨_, _, _, Tryz.runUnderlying123, rfl, rfl, Tryz.sizeOf3, rfl⟩) rfl <| oV (VJ_entX (Ent.transX (t1_ eR) (VolP_open (l := x12))) (fun _ => V_load rfl foc0 rfl Tryz.isAgg3)) rfl <| oA rfl rfl <| nT <| CJ_seq <| sR <| oM rfl rfl <| oP (P_nilCheck rfl) rfl <| oP (P_fieldAddr rfl ⟨_, _, _, Tryz.runUnderlying123, rfl, rfl, Tryz.sizeOf112, rfl⟩) rfl <| oP (P_fieldAddr rfl ⟨_, _, _, Tryz.runUnderlying112, rfl, rfl, Tryz.sizeOf3, rfl⟩) rfl <| oV (VJ_entX (Ent.transX (t1_ eR) (VolP_open (l := x12))) (fun _ => V_load rfl foc0 rfl Tryz.isAgg3)) rfl <| oM rfl rfl <| nT ?_
       obtain ⟨y16, hl14, hK15⟩ := seq_e h
       refine CJ_cutT (X := ArrS × VolS) [4, 5, 9, 10, 11, 12, 13, 48, 49, 50, 51, 52, 53, 54, 55, 56, 57, 58, 59, 60, 61, 62, 63, 64, 65, 66, 67, 68, 69, 70, 71, 72, 73, 74, 75, 76, 77, 78, 79, 80, 81, 82] (fun a19 => ([] : Slots)) (fun a19 R => Arr bs a19.1 :: VolP bs bv a19.2 :: R) (fun a19 => y16 = .inl a19) (Dels.cons del0 (Dels.cons del0 Dels.nil)) ?_ ?_
       ·
        refine CJ_block <| CJ_loopR (X := Nat × ArrS × VolS × Nat) [4, 5, 9, 10, 11, 12, 13, 48, 49, 50, 51, 52, 53, 54, 55, 56, 57, 58, 59, 60, 61, 62, 63, 64, 65, 66, 67, 68, 69, 70, 71, 72, 73, 74, 75, 76, 77, 78, 79, 80, 81, 82] (fun ⟨n, x20, x21, x22⟩ => ([(48, .int .i64 (((x22 : Nat) : Int)))] : Slots)) (fun ⟨n, x20, x21, x22⟩ R => Arr bs x20 :: VolP bs bv x21 :: R) (fun ⟨n, x20, x21, x22⟩ => parityvol_Volume_Fill_l2 r3 x12 n x20 x21 x22 = some y16) (fun ⟨n, x20, x21, x22⟩ => n) ⟨FUEL, x11, x12, 0⟩ ?_ ?_ eR ?_
        · exact hl14
        · exact ⟨rfl, True.intro⟩
        ·
         rintro ⟨n, x20, x21, x22⟩ h
         cases n with
         | zero => exact none_e h
         | succ n => ?_
         replace h : parityvol_Volume_Fill_l2_b r3 x12 (parityvol_Volume_Fill_l2 r3 x12 n) x20 x21 x22 = some y16 := h
         unfold parityvol_Volume_Fill_l2_b at h
         show CJ _ _ _ _ _ (([(48, .int .i64 (((x22 : Nat) : Int)))] : Slots) ++ forget _ _) (Arr bs x20 :: VolP bs bv x21 :: _)
         refine sR <| oP (P_lss (a := ((x22 : Nat) : Int)) (b := x12.layout_chunk) rfl rfl) rfl <| nT <| CJ_seq <| CJ_condP rfl bT_dec (fun hg6 => ?_) (fun hg6 => ?_)
         ·
          replace h := ite_t hg6 h
          refine kT <| CJ_seq <| CJ_block <| sR <| oM rfl rfl <| oA rfl rfl <| nT <| sR <| oM rfl rfl <| oM rfl rfl <| oP (P_nilCheck rfl) rfl <| oP (P_fieldAddr rfl ⟨_, _, _, Tryz.runUnderlying123, rfl, rfl, Tryz.sizeOf112, rfl⟩) rfl <| oP (P_fieldAddr rfl ⟨_, _, _, Tryz.runUnderlying112, rfl, rfl, Tryz.sizeOf3, rfl⟩) rfl <| oV (VJ_entX (Ent.transX (t1_ eR) (VolP_open (l := x21))) (fun _ => V_load rfl foc0 rfl Tryz.isAgg3)) rfl ?_
          obtain ⟨hg7, h⟩ := grd_Ie h
          refine oP (P_mul (a := x12.filled) (b := x21.layout_chunk) rfl rfl hg7) rfl <| oM rfl rfl ?_
          obtain ⟨hg8, h⟩ := grd_Ie h
          refine oP (P_add (a := (x12.filled * x21.layout_chunk)) (b := ((x22 : Nat) : Int)) rfl rfl hg8) rfl <| oO <| O_alloc Tryz.zeroValue3 rfl rfl fun b23 => oO <| O_store rfl rfl foc0 rfl rfl Tryz.sizeOf3 <| nT <| sR <| oM rfl rfl <| oM rfl rfl <| oV (V_load rfl foc0 rfl Tryz.isAgg3) rfl ?_
          obtain ⟨r24, hr25, h⟩ := bind_e h
          refine oO <| O_call (L_parityvol_Volume_others hr25) rfl Tryz.call77 (Dels.cons del2 (Dels.cons del1 Dels.nil)) rfl fun _ _ => oM rfl rfl <| oP (P_extract rfl rfl) rfl <| oP (P_extract rfl rfl) rfl <| oO <| O_alloc Tryz.zeroValue44 rfl rfl fun b26 => oO <| O_store rfl rfl foc0 rfl rfl Tryz.sizeOf44 <| oA rfl rfl <| nT <| CJ_seq <| sR <| oM rfl rfl <| oP (P_eql (a := r24.2.1) (b := (0 : Int)) rfl rfl) rfl <| nT <| CJ_condP rfl bT_dec (fun hg9 => ?_) (fun hg9 => ?_)
          ·
           replace h := ite_t hg9 h
           refine sR <| oO <| O_alloc Tryz.zeroValue40 rfl rfl fun b27 => oO <| O_store rfl rfl foc0 rfl rfl Tryz.sizeOf40 <| nT <| sR <| oM rfl rfl <| oM rfl rfl <| oP (P_makeFunc rfl rfl) rfl ?_
           obtain ⟨r28, hr29, h⟩ := bind_e h
           refine oO <| O_call (L_parityvol_Volume_on__parityvol_Volume_Fill_1 hr29) rfl Tryz.call78 (Dels.cons del2 (Dels.cons del3 (Dels.cons del1 (Dels.cons del0 (Dels.cons del0 Dels.nil))))) rfl fun _ _ => oA rfl rfl <| nT <| sR <| oM rfl rfl <| oP (P_eql (a := r28.1) (b := (0 : Int)) rfl rfl) rfl <| oM rfl rfl <| RJ_mbT rfl rfl rfl (fun hG30 => have hP31 : (r28.1 = (0 : Int)) := (bT_dec).1 hG30; V_load rfl foc3 rfl Tryz.isAgg40) <| RJ_mbT rfl rfl rfl (fun hG32 => have hP33 : (r28.1 = (0 : Int)) := (bT_dec).1 hG32; VJ_P (P_neq (a := r28.2.2.1) (b := (0 : Int)) (mbx hG32 rfl) rfl)) <| oP (P_pickAnd rfl (fun hh => mbx hh rfl) rfl) rfl <| nT <| CJ_condP rfl (bT_and bT_dec bT_dec) (fun hg10 => ?_) (fun hg10 => ?_)
           ·
            replace h := ite_t hg10 h
            refine sR <| oA rfl rfl <| oA rfl rfl <| nT <| CJ_ret <| QJ_then_ret <| QJ_block_ret <| QJ_then_ret <| QJ_round_ret <| QJ_block_ret <| QJ_then_ret <| QJ_block_ret <| QJ_then_ret <| QJ_round_ret <| QJ_block_ret <| QJ_then_ret ?_
            have hE := Option.some.inj h
            replace hE := seq_inr hK15 hE.symm
            replace hE := seq_inr hK6 hE.symm
            subst hE
            exact fE (res2 Tryz.results29 rfl rfl) () (t0_ (t3_ (eD (eD (eD eR)))))
           ·
            replace h := ite_f hg10 h
            refine kT <| sR <| oM rfl rfl <| oP (P_neq (a := r28.1) (b := (0 : Int)) rfl rfl) rfl <| nT <| CJ_condP rfl bT_dec (fun hg11 => ?_) (fun hg11 => ?_)
            ·
             replace h := ite_t hg11 h
             refine sR <| oM rfl rfl <| oA rfl rfl <| oA rfl rfl <| nT <| CJ_ret <| QJ_block_ret <| QJ_then_ret <| QJ_round_ret <| QJ_block_ret <| QJ_then_ret <| QJ_block_ret <| QJ_then_ret <| QJ_round_ret <| QJ_block_ret <| QJ_then_ret ?_
             have hE := Option.some.inj h
             replace hE := seq_inr hK15 hE.symm
             replace hE := seq_inr hK6 hE.symm
             subst hE
             exact fE (res2 Tryz.results29 rfl rfl) () (t0_ (t3_ (eD (eD (eD eR)))))
            ·
             replace h := ite_f hg11 h
             refine CJ_skip <| QJ_block_normal <| QJ_then <| CJ_region ?_
             obtain ⟨hg12, h⟩ := grd_Ne h
             exact oP (PJ_eq (P_add (a := ((x22 : Nat) : Int)) (b := (1 : Int)) rfl rfl (nat_in hg12)) rfl) rfl <| oM rfl rfl <| RJ_nil <| nR ⟨n, r28.2.2.2, r28.2.1, (x22 + 1)⟩ h ⟨rfl, True.intro⟩ (t4_ (t0_ (eD (eD (eD eR)))))
          ·
           replace h := ite_f hg9 h
           refine kT <| sR <| oM rfl rfl <| oP (P_neq (a := r24.2.1) (b := (0 : Int)) rfl rfl) rfl <| nT <| CJ_condP rfl bT_dec (fun hg13 => ?_) (fun hg13 => ?_)
           ·
            replace h := ite_t hg13 h
            refine sR <| oM rfl rfl <| oA rfl rfl <| oA rfl rfl <| nT <| CJ_ret <| QJ_block_ret <| QJ_then_ret <| QJ_round_ret <| QJ_block_ret <| QJ_then_ret <| QJ_block_ret <| QJ_then_ret <| QJ_round_ret <| QJ_block_ret <| QJ_then_ret ?_
            have hE := Option.some.inj h
            replace hE := seq_inr hK15 hE.symm
            replace hE := seq_inr hK6 hE.symm
            subst hE
            exact fE (res2 Tryz.results29 rfl rfl) () (t1_ (t1_ (eD (eD eR))))
           ·
            replace h := ite_f hg13 h
            refine CJ_skip <| QJ_block_normal <| QJ_then <| CJ_region ?_
            obtain ⟨hg14, h⟩ := grd_Ne h
            exact oP (PJ_eq (P_add (a := ((x22 : Nat) : Int)) (b := (1 : Int)) rfl rfl (nat_in hg14)) rfl) rfl <| oM rfl rfl <| RJ_nil <| nR ⟨n, x20, r24.2.2, (x22 + 1)⟩ h ⟨rfl, True.intro⟩ (t2_ (t1_ (eD (eD eR))))
         ·
          replace h := ite_f hg6 h
          exact CJ_exit <| QJ_then_exit <| QJ_round_exit <| QJ_block_here <| cR (x20, x21) (Option.some.inj h).symm True.intro eR
       ·
        rintro a19 hy34
        replace h := seq_inl hK15 hy34
        show CJ _ _ _ _ _ (([] : Slots) ++ forget _ _) (Arr bs a19.1 :: VolP bs bv a19.2 :: _)
        refine CJ_entX (Ent.transX (t1_ eR) (VolP_open (l := a19.2))) fun oc35 => CJ_pure (fun h hh => Rs_len (stars_perm (del2 (A := Rs (DevP bs) (a19.2.legs.map prtS.dev) oc35.2)).out h hh)) fun hdl37 => lC del1 fun hlen38 => ?_
        rw [mk_prt_len (by have := hdl37; simpa using this)] at hlen38
        refine CJ_region <| oM rfl rfl <| oP (P_nilCheck rfl) rfl <| oP (P_fieldAddr rfl ⟨_, _, _, Tryz.runUnderlying123, rfl, rfl, Tryz.sizeOf3, rfl⟩) rfl <| oV (V_load rfl foc0 rfl Tryz.isAgg3) rfl ?_
        obtain ⟨hg15, h⟩ := grd_Ie h
        refine oP (P_add (a := a19.2.filled) (b := (1 : Int)) rfl rfl hg15) rfl <| oP (P_nilCheck rfl) rfl <| oP (P_fieldAddr rfl ⟨_, _, _, Tryz.runUnderlying123, rfl, rfl, Tryz.sizeOf3, rfl⟩) rfl <| oO <| O_store rfl rfl foc0 rfl rfl Tryz.sizeOf3 <| RJ_nil <| QJ_ent (Ent.trans eR (VolP_mk (v0 := a19.2.layout_n) (v1 := a19.2.layout_chunk) (v2 := a19.2.layout_rows) (v3 := a19.2.legs) (v4 := a19.2.last_seq) (v5 := a19.2.last_offset) (v6 := a19.2.last_leg) (v7 := a19.2.last_word) (v8 := a19.2.last_parity) (v9 := a19.2.pending) (v10 := (a19.2.filled + (1 : Int))) (h0 := oc35.1) (h1 := oc35.2))) <| QJ_block_normal <| QJ_then <| CJ_region ?_
        obtain ⟨hg16, h⟩ := grd_Ne h
        exact oP (PJ_eq (P_add (a := ((x13 : Nat) : Int)) (b := (1 : Int)) rfl rfl (nat_in hg16)) rfl) rfl <| oM rfl rfl <| RJ_nil <| nR ⟨n, a19.1, { a19.2 with filled := (a19.2.filled + (1 : Int)) }, (x13 + 1)⟩ h ⟨rfl, True.intro⟩ (t1_ eR)
      ·
       replace h := ite_f hg5 h
       exact CJ_exit <| QJ_then_exit <| QJ_round_exit <| QJ_block_here <| cR (x12, x11) (Option.some.inj h).symm True.intro (t1_ eR)
    ·
     rintro a10 hy39
     replace h := seq_inl hK6 hy39
     show CJ _ _ _ _ _ (([] : Slots) ++ forget _ _) (VolP bs bv a10.1 :: Arr bs a10.2 :: _)
     refine sR <| oM rfl rfl <| oP (P_nilCheck rfl) rfl <| oP (P_fieldAddr rfl ⟨_, _, _, Tryz.runUnderlying123, rfl, rfl, Tryz.sizeOf3, rfl⟩) rfl <| oV (VJ_entX (Ent.transX (t0_ eR) (VolP_open (l := a10.1))) (fun _ => V_load rfl foc0 rfl Tryz.isAgg3)) rfl <| oA rfl rfl <| oA rfl rfl <| nT <| CJ_ret ?_
     cases h
     exact fE (res2 Tryz.results29 rfl rfl) () eR
def parityvol_Volume_Accept_1 (p0 : Dvc) (p1_v : VolS) (p2 : List UInt64) (s : ArrS) : Option (Int × ArrS) :=
  Option.bind (parityvol_slot p1_v.last_seq) fun r2 =>
  Option.bind (block_WriteAll p0 r2 p2 s) fun r4 =>
  some (r4.1, r4.2)
theorem L_parityvol_Volume_Accept_1 {W : World} {bp0 : Nat} {vp0 : IfH} {bp1 : Nat} {bp1_v : Nat} {bp2 : Nat} {Ap2 : HP} {vp2 : Value} {bs : Nat} {p0 : Dvc} {p1_v : VolS} {p2 : List UInt64} {s : ArrS} {r : Int × ArrS} (rp2 : Reads Ap2 tyU vp2 p2) (h : parityvol_Volume_Accept_1 p0 p1_v p2 s = some r) :
    CSpec Tryz.prog W 84 [ptr bp0 0, ptr bp1 0, ptr bp2 0] [blk bp0 79 [IfH.v vp0], DevP bs p0 vp0, blk bp1 65 [ptr bp1_v 0], VolP bs bp1_v p1_v, blk bp2 43 [vp2], Ap2, Arr bs s] (fun x : Unit => .int .i64 r.1) (fun _ => True) (fun x F => blk bp0 79 [IfH.v vp0] :: DevP bs p0 vp0 :: blk bp1 65 [ptr bp1_v 0] :: VolP bs bp1_v p1_v :: blk bp2 43 [vp2] :: Ap2 :: Arr bs r.2 :: F) := by
 refine CSpec.of_body Tryz.func84 rfl Tryz.ntmps84 rfl fun F => ?_
 show CJ _ _ _ _ _ _ (_ :: _ :: _ :: _ :: _ :: _ :: _ :: F)
 unfold parityvol_Volume_Accept_1 at h
 refine CJ_pure (len_of rp2 del5) fun hlen1 => sR <| oA rfl rfl <| nT <| CJ_seq <| AJ_startH 256 (by kernel_rfl) rfl <| aV 0 1 rfl rfl (GY_none rfl) eR (V_load rfl foc0 rfl Tryz.isAgg79) rfl <| aV 1 3 rfl rfl (GY_none rfl) eR (V_load rfl foc2 rfl Tryz.isAgg65) rfl <| aN 2 7 rfl rfl (P_nilCheck rfl) rfl <| aN 3 15 rfl rfl (P_fieldAddr rfl ⟨_, _, _, Tryz.runUnderlying123, rfl, rfl, Tryz.sizeOf121, rfl⟩) rfl <| aN 4 31 rfl rfl (P_fieldAddr rfl ⟨_, _, _, Tryz.runUnderlying121, rfl, rfl, Tryz.sizeOf44, rfl⟩) rfl <| aV 5 63 rfl rfl (GY_none rfl) eR (VJ_entX (Ent.transX (t3_ eR) (VolP_open (l := p1_v))) (fun _ => V_load rfl foc0 rfl Tryz.isAgg44)) rfl <| aV 7 191 rfl rfl (GY_none rfl) eR (V_load rfl foc4 rfl Tryz.isAgg43) rfl ?_
 obtain ⟨r2, hr3, h⟩ := bind_e h
 refine AJ_op 6 255 rfl (by kernel_rfl) rfl (GY_none rfl) <| O_call (L_parityvol_slot hr3) rfl Tryz.call85 Dels.nil rfl fun _ _ => ⟨fun _ => eR, ?_⟩
 obtain ⟨r4, hr5, h⟩ := bind_e h
 refine AJ_op 8 511 rfl (by kernel_rfl) rfl (GY_none rfl) <| O_call (L_block_WriteAll rp2 hr5) rfl Tryz.call66 (Dels.cons del1 (Dels.cons del4 (Dels.cons del4 Dels.nil))) rfl fun _ _ => ⟨fun h => absurd h (by decide), ?_⟩
 refine aN 9 1023 rfl rfl (P_assign rfl) rfl <| aD <| CJ_ret ?_
 cases h
 exact fE (res1 Tryz.results84 rfl) () (t3_ (t0_ (t2_ (t2_ (t2_ eR)))))
def parityvol_Volume_Accept_2 (p0 : Dvc) (p1_v : VolS) (s : ArrS) : Option (Int × ArrS) :=
  Option.bind (Dvc.wr p0 s (0 : Int) p1_v.last_seq) fun r3 =>
  some (r3.1, r3.2)
theorem L_parityvol_Volume_Accept_2 {W : World} {bp0 : Nat} {vp0 : IfH} {bp1 : Nat} {bp1_v : Nat} {bs : Nat} {p0 : Dvc} {p1_v : VolS} {s : ArrS} {r : Int × ArrS} (h : parityvol_Volume_Accept_2 p0 p1_v s = some r) :
    CSpec Tryz.prog W 86 [ptr bp0 0, ptr bp1 0] [blk bp0 79 [IfH.v vp0], DevP bs p0 vp0, blk bp1 65 [ptr bp1_v 0], VolP bs bp1_v p1_v, Arr bs s] (fun x : Unit => .int .i64 r.1) (fun _ => True) (fun x F => blk bp0 79 [IfH.v vp0] :: DevP bs p0 vp0 :: blk bp1 65 [ptr bp1_v 0] :: VolP bs bp1_v p1_v :: Arr bs r.2 :: F) := by
 refine CSpec.of_body Tryz.func86 rfl Tryz.ntmps86 rfl fun F => ?_
 show CJ _ _ _ _ _ _ (_ :: _ :: _ :: _ :: _ :: F)
 unfold parityvol_Volume_Accept_2 at h
 refine sR <| oA rfl rfl <| nT <| CJ_seq <| AJ_startH 512 (by kernel_rfl) rfl <| aV 0 1 rfl rfl (GY_none rfl) eR (V_load rfl foc0 rfl Tryz.isAgg79) rfl <| aV 1 3 rfl rfl (GY_none rfl) eR (V_load rfl foc2 rfl Tryz.isAgg65) rfl <| aN 2 7 rfl rfl (P_nilCheck rfl) rfl <| aN 3 15 rfl rfl (P_fieldAddr rfl ⟨_, _, _, Tryz.runUnderlying123, rfl, rfl, Tryz.sizeOf121, rfl⟩) rfl <| aN 4 31 rfl rfl (P_fieldAddr rfl ⟨_, _, _, Tryz.runUnderlying121, rfl, rfl, Tryz.sizeOf44, rfl⟩) rfl <| aV 5 63 rfl rfl (GY_none rfl) eR (VJ_entX (Ent.transX (t3_ eR) (VolP_open (l := p1_v))) (fun _ => V_load rfl foc0 rfl Tryz.isAgg44)) rfl <| aN 6 127 rfl rfl (P_makeFunc rfl rfl) rfl <| AJ_pure (fun h hh => DevP_nil h (stars_perm (del1 (A := DevP bs p0 vp0)).out h hh)) fun hnil1 => aN 7 255 rfl rfl (P_nilCheckM hnil1 rfl) rfl <| aN 8 511 rfl rfl (P_move rfl) rfl <| AJ_pure (fun h hh => DevP_dep h (stars_perm (del1 (A := DevP bs p0 vp0)).out h hh)) fun hdp2 => ?_
 obtain ⟨r3, hr4, h⟩ := bind_e h
 refine AJ_op 9 1023 rfl (by kernel_rfl) rfl (GY_none rfl) <| O_callI rfl (dev_Write hr4 hdp2) rfl (Dels.cons del1 (Dels.cons del3 Dels.nil)) rfl fun _ _ => ⟨fun h => absurd h (by decide), ?_⟩
 refine aN 10 2047 rfl rfl (P_assign rfl) rfl <| aD <| CJ_ret ?_
 cases h
 exact fE (res1 Tryz.results86 rfl) () (t2_ (t0_ (t1_ (t1_ eR))))
def parityvol_run_3 (steps_0_c0 : Dvc) (steps_0_c1_v : VolS) (steps_0_c2 : List UInt64) (steps_2 : Dvc) (s : ArrS) : Option (Int × ArrS) :=
  Option.bind (parityvol_Volume_Accept_1 steps_0_c0 steps_0_c1_v steps_0_c2 s) fun r2 =>
  if (r2.1 ≠ (0 : Int)) then
    some (r2.1, r2.2)
  else
    Option.bind (parityvol_Volume_Accept_2 steps_0_c0 steps_0_c1_v r2.2) fun r4 =>
    if (r4.1 ≠ (0 : Int)) then
      some (r4.1, r4.2)
    else
      Option.bind (Dvc.fl steps_2 r4.2) fun r7 =>
      if (r7.1 ≠ (0 : Int)) then
        some (r7.1, r7.2)
      else
        some (((0 : Int), r7.2))
theorem L_parityvol_run_3 {W : World} {bsteps : Nat} {bsteps_0_c0 : Nat} {vsteps_0_c0 : IfH} {bsteps_0_c1 : Nat} {bsteps_0_c1_v : Nat} {bsteps_0_c2 : Nat} {Asteps_0_c2 : HP} {vsteps_0_c2 : Value} {vsteps_2 : IfH} {bs : Nat} {steps_0_c0 : Dvc} {steps_0_c1_v : VolS} {steps_0_c2 : List UInt64} {steps_2 : Dvc} {s : ArrS} {r : Int × ArrS} (rsteps_0_c2 : Reads Asteps_0_c2 tyU vsteps_0_c2 steps_0_c2) (h : parityvol_run_3 steps_0_c0 steps_0_c1_v steps_0_c2 steps_2 s = some r) :
    CSpec Tryz.prog W 87 [.slice (some ⟨bsteps, 0, none⟩) 3 3] [blk bsteps 77 [.func (.func 84) #[] #[ptr bsteps_0_c0 0, ptr bsteps_0_c1 0, ptr bsteps_0_c2 0], .func (.func 86) #[] #[ptr bsteps_0_c0 0, ptr bsteps_0_c1 0], .func (.method "Flush") #[IfH.v vsteps_2] #[]], blk bsteps_0_c0 79 [IfH.v vsteps_0_c0], DevP bs steps_0_c0 vsteps_0_c0, blk bsteps_0_c1 65 [ptr bsteps_0_c1_v 0], VolP bs bsteps_0_c1_v steps_0_c1_v, blk bsteps_0_c2 43 [vsteps_0_c2], Asteps_0_c2, DevP bs steps_2 vsteps_2, Arr bs s] (fun x : Unit => .int .i64 r.1) (fun _ => True) (fun x F => blk bsteps 77 [.func (.func 84) #[] #[ptr bsteps_0_c0 0, ptr bsteps_0_c1 0, ptr bsteps_0_c2 0], .func (.func 86) #[] #[ptr bsteps_0_c0 0, ptr bsteps_0_c1 0], .func (.method "Flush") #[IfH.v vsteps_2] #[]] :: blk bsteps_0_c0 79 [IfH.v vsteps_0_c0] :: DevP bs steps_0_c0 vsteps_0_c0 :: blk bsteps_0_c1 65 [ptr bsteps_0_c1_v 0] :: VolP bs bsteps_0_c1_v steps_0_c1_v :: blk bsteps_0_c2 43 [vsteps_0_c2] :: Asteps_0_c2 :: DevP bs steps_2 vsteps_2 :: Arr bs r.2 :: F) := by
 refine CSpec.of_body Tryz.func87 rfl Tryz.ntmps87 rfl fun F => ?_
 show CJ _ _ _ _ _ _ (_ :: _ :: _ :: _ :: _ :: _ :: _ :: _ :: _ :: F)
 unfold parityvol_run_3 at h
 refine CJ_pure (len_of rsteps_0_c2 del6) fun hlen1 => sR <| oA rfl rfl <| nT <| CJ_seq <| sR <| oM rfl rfl <| oP (P_lenNil rfl Tryz.runUnderlying139) rfl <| oM rfl rfl <| nT <| CJ_block <| CJ_unroll <| sR <| oP (PJ_eq (P_lss (a := (0 : Int)) (b := (3 : Int)) rfl rfl) (by rfl)) rfl <| nT <| CJ_seq <| CJ_condT rfl rfl <| kT <| CJ_seq <| CJ_block <| sR <| oP (P_indexLit (i := 0) rfl rfl rfl Tryz.runUnderlying139 Tryz.sizeOf77) rfl <| oV (V_load rfl foc0 rfl Tryz.isAgg77) rfl <| oA rfl rfl <| nT <| sR <| oM rfl rfl ?_
 obtain ⟨r2, hr3, h⟩ := bind_e h
 refine oO <| O_callV rfl rfl (L_parityvol_Volume_Accept_1 rsteps_0_c2 hr3) Tryz.call84 (Dels.cons del1 (Dels.cons del1 (Dels.cons del1 (Dels.cons del1 (Dels.cons del1 (Dels.cons del1 (Dels.cons del2 Dels.nil))))))) rfl fun _ _ => oA rfl rfl <| nT <| sR <| oM rfl rfl <| oP (P_neq (a := r2.1) (b := (0 : Int)) rfl rfl) rfl <| nT <| CJ_condP rfl bT_dec (fun hg1 => ?_) (fun hg1 => ?_)
 ·
  replace h := ite_t hg1 h
  refine sR <| oM rfl rfl <| oA rfl rfl <| nT <| CJ_ret <| QJ_block_ret <| QJ_then_ret <| QJ_then_ret <| QJ_block_ret <| QJ_then_ret ?_
  cases h
  exact fE (res1 Tryz.results87 rfl) () (t7_ (t0_ (t0_ (t0_ (t0_ (t0_ (t0_ (t1_ eR))))))))
 ·
  replace h := ite_f hg1 h
  refine CJ_skip <| QJ_block_normal <| QJ_then <| CJ_region <| oP (PJ_eq (P_add (a := (0 : Int)) (b := (1 : Int)) rfl rfl (by decide)) (by rfl)) rfl <| oM rfl rfl <| RJ_nil <| QJ_again <| sR <| oP (PJ_eq (P_lss (a := (1 : Int)) (b := (3 : Int)) rfl rfl) (by rfl)) rfl <| nT <| CJ_seq <| CJ_condT rfl rfl <| kT <| CJ_seq <| CJ_block <| sR <| oP (P_indexLit (i := 1) rfl rfl rfl Tryz.runUnderlying139 Tryz.sizeOf77) rfl <| oV (V_load rfl foc7 rfl Tryz.isAgg77) rfl <| oA rfl rfl <| nT <| sR <| oM rfl rfl ?_
  obtain ⟨r4, hr5, h⟩ := bind_e h
  refine oO <| O_callV rfl rfl (L_parityvol_Volume_Accept_2 hr5) Tryz.call86 (Dels.cons del0 (Dels.cons del0 (Dels.cons del0 (Dels.cons del0 (Dels.cons del2 Dels.nil))))) rfl fun _ _ => oA rfl rfl <| nT <| sR <| oM rfl rfl <| oP (P_neq (a := r4.1) (b := (0 : Int)) rfl rfl) rfl <| nT <| CJ_condP rfl bT_dec (fun hg2 => ?_) (fun hg2 => ?_)
  ·
   replace h := ite_t hg2 h
   refine sR <| oM rfl rfl <| oA rfl rfl <| nT <| CJ_ret <| QJ_block_ret <| QJ_then_ret <| QJ_then_ret <| QJ_block_ret <| QJ_then_ret ?_
   cases h
   exact fE (res1 Tryz.results87 rfl) () (t7_ (t0_ (t0_ (t0_ (t0_ (t1_ (t1_ (t1_ eR))))))))
  ·
   replace h := ite_f hg2 h
   refine CJ_skip <| QJ_block_normal <| QJ_then <| CJ_region <| oP (PJ_eq (P_add (a := (1 : Int)) (b := (1 : Int)) rfl rfl (by decide)) (by rfl)) rfl <| oM rfl rfl <| RJ_nil <| QJ_again <| sR <| oP (PJ_eq (P_lss (a := (2 : Int)) (b := (3 : Int)) rfl rfl) (by rfl)) rfl <| nT <| CJ_seq <| CJ_condT rfl rfl <| kT <| CJ_seq <| CJ_block <| sR <| oP (P_indexLit (i := 2) rfl rfl rfl Tryz.runUnderlying139 Tryz.sizeOf77) rfl <| oV (V_load rfl foc7 rfl Tryz.isAgg77) rfl <| oA rfl rfl <| nT <| sR <| oM rfl rfl <| RJ_pure (fun h hh => DevP_dep h (stars_perm (del8 (A := DevP bs steps_2 vsteps_2)).out h hh)) fun hdp6 => ?_
   obtain ⟨r7, hr8, h⟩ := bind_e h
   refine oO <| O_callM rfl (dev_Flush hr8 hdp6) rfl (Dels.cons del8 (Dels.cons del4 Dels.nil)) rfl fun _ _ => oA rfl rfl <| nT <| sR <| oM rfl rfl <| oP (P_neq (a := r7.1) (b := (0 : Int)) rfl rfl) rfl <| nT <| CJ_condP rfl bT_dec (fun hg3 => ?_) (fun hg3 => ?_)
   ·
    replace h := ite_t hg3 h
    refine sR <| oM rfl rfl <| oA rfl rfl <| nT <| CJ_ret <| QJ_block_ret <| QJ_then_ret <| QJ_then_ret <| QJ_block_ret <| QJ_then_ret ?_
    cases h
    exact fE (res1 Tryz.results87 rfl) () (t8_ (t2_ (t2_ (t2_ (t2_ (t2_ (t2_ eR)))))))
   ·
    replace h := ite_f hg3 h
    refine CJ_skip <| QJ_block_normal <| QJ_then <| CJ_region <| oP (PJ_eq (P_add (a := (2 : Int)) (b := (1 : Int)) rfl rfl (by decide)) (by rfl)) rfl <| oM rfl rfl <| RJ_nil <| QJ_again <| sR <| oP (PJ_eq (P_lss (a := (3 : Int)) (b := (3 : Int)) rfl rfl) (by rfl)) rfl <| nT <| CJ_seq <| CJ_condF rfl rfl <| CJ_exit <| QJ_then_exit <| QJ_then_exit <| QJ_block_here <| QJ_then <| sR <| oA rfl rfl <| nT <| CJ_ret ?_
    cases h
    exact fE (res1 Tryz.results87 rfl) () (t8_ (t2_ (t2_ (t2_ (t2_ (t2_ (t2_ eR)))))))
def parityvol_Volume_Accept (v : VolS) (s : ArrS) : Option (Int × VolS × ArrS) :=
  Option.bind (parityvol_Volume_ready v s) fun r2 =>
  if (r2.1 ≠ (0 : Int)) then
    some (r2.1, r2.2.1, r2.2.2)
  else
    Option.bind (parityvol_Volume_staleLeg r2.2.1 r2.2.2) fun r4 =>
    if (r4 < (0 : Int)) then
      some (((20 : Int), r2.2.1, r2.2.2))
    else
      Option.bind (parityvol_Volume_Filled r2.2.1 r2.2.2) fun r6 =>
      if (¬ r6 = true) then
        some (((20 : Int), r2.2.1, r2.2.2))
      else
        Option.bind (parityvol_Volume_flush r2.2.1 r2.2.2) fun r8 =>
        if (r8.1 ≠ (0 : Int)) then
          some (r8.1, r8.2.1, r8.2.2)
        else
          grd (decide (0 ≤ r4 ∧ r4 < (r8.2.1.legs.length : Int))) <|
          Option.bind (parityvol_run_3 ((r8.2.1.legs.getD ((r4).toNat) prt_x0).dev) r8.2.1 ([((shl_u64 (to_u64 r8.2.1.last_offset) 3) ||| (to_u64 r8.2.1.last_leg)), r8.2.1.last_word, r8.2.1.last_parity]) ((r8.2.1.legs.getD ((r4).toNat) prt_x0).dev) r8.2.2) fun r1098 =>
          if (r1098.1 = (0 : Int)) then
            grd (decide (0 ≤ r4 ∧ r4 < (r8.2.1.legs.length : Int))) <|
            some (((0 : Int), { r8.2.1 with legs := (r8.2.1.legs.set ((r4).toNat) { r8.2.1.legs.getD ((r4).toNat) prt_x0 with stale := false }) }, r1098.2))
          else
            if (r1098.1 = (5 : Int)) then
              some (r1098.1, r8.2.1, r1098.2)
            else
              some (((20 : Int), { r8.2.1 with filled := (0 : Int) }, r1098.2))
theorem L_parityvol_Volume_Accept {W : World} {bv : Nat} {bs : Nat} {v : VolS} {s : ArrS} {r : Int × VolS × ArrS} (h : parityvol_Volume_Accept v s = some r) :
    CSpec Tryz.prog W 35 [ptr bv 0] [VolP bs bv v, Arr bs s] (fun x : Unit => .int .i64 r.1) (fun _ => True) (fun x F => VolP bs bv r.2.1 :: Arr bs r.2.2 :: F) := by
 refine CSpec.of_body Tryz.func35 rfl Tryz.ntmps35 rfl fun F => ?_
 show CJ _ _ _ _ _ _ (_ :: _ :: F)
 unfold parityvol_Volume_Accept at h
 refine sR <| oO <| O_box rfl rfl rfl fun b1 => oA rfl rfl <| nT <| CJ_seq <| sR <| oV (V_load rfl foc0 rfl Tryz.isAgg65) rfl ?_
 obtain ⟨r2, hr3, h⟩ := bind_e h
 refine oO <| O_call (L_parityvol_Volume_ready hr3) rfl Tryz.call73 (Dels.cons del1 (Dels.cons del1 Dels.nil)) rfl fun _ _ => oA rfl rfl <| nT <| sR <| oM rfl rfl <| oP (P_neq (a := r2.1) (b := (0 : Int)) rfl rfl) rfl <| nT <| CJ_condP rfl bT_dec (fun hg1 => ?_) (fun hg1 => ?_)
 ·
  replace h := ite_t hg1 h
  refine sR <| oM rfl rfl <| oA rfl rfl <| nT <| CJ_ret <| QJ_then_ret ?_
  cases h
  exact fE (res1 Tryz.results35 rfl) () (t0_ (t0_ (eD eR)))
 ·
  replace h := ite_f hg1 h
  refine kT <| sR <| oV (V_load rfl foc2 rfl Tryz.isAgg65) rfl ?_
  obtain ⟨r4, hr5, h⟩ := bind_e h
  refine oO <| O_call (L_parityvol_Volume_staleLeg hr5) rfl Tryz.call76 (Dels.cons del0 (Dels.cons del0 Dels.nil)) rfl fun _ _ => oA rfl rfl <| nT <| CJ_seq <| sR <| oM rfl rfl <| oP (P_lss (a := r4) (b := (0 : Int)) rfl rfl) rfl <| oM rfl rfl <| RJ_splitP 19 rfl bT_dec (fun hg2B hg2 => ?_) (fun hg2B hg2 => ?_)
  ·
   replace h := ite_t hg2 h
   refine RJ_gn (GY_no rfl rfl rfl hg2B) rfl rfl <| RJ_gn (GY_no rfl rfl rfl hg2B) rfl rfl <| RJ_gn (GY_no rfl rfl rfl hg2B) rfl rfl <| oP (P_pickT rfl hg2B rfl) rfl <| nT <| CJ_condT rfl rfl <| sR <| oA rfl rfl <| nT <| CJ_ret <| QJ_then_ret ?_
   cases h
   exact fE (res1 Tryz.results35 rfl) () (t0_ (t0_ (eD eR)))
  ·
   replace h := ite_f hg2 h
   refine gV (GY_yes rfl rfl rfl hg2B) (V_load rfl foc2 rfl Tryz.isAgg65) rfl ?_
   obtain ⟨r6, hr7, h⟩ := bind_e h
   refine RJ_gy (GY_yes rfl rfl rfl hg2B) <| O_call (L_parityvol_Volume_Filled hr7) rfl Tryz.call36 (Dels.cons del0 (Dels.cons del0 Dels.nil)) rfl fun _ _ => gP (GY_yes rfl rfl rfl hg2B) (P_not rfl) rfl <| oP (P_pickF rfl hg2B rfl) rfl <| nT <| CJ_condP rfl (bT_not Iff.rfl) (fun hg3 => ?_) (fun hg3 => ?_)
   ·
    replace h := ite_t hg3 h
    refine sR <| oA rfl rfl <| nT <| CJ_ret <| QJ_then_ret ?_
    cases h
    exact fE (res1 Tryz.results35 rfl) () (t0_ (t0_ (eD eR)))
   ·
    replace h := ite_f hg3 h
    refine kT <| CJ_seq <| sR <| oV (V_load rfl foc2 rfl Tryz.isAgg65) rfl ?_
    obtain ⟨r8, hr9, h⟩ := bind_e h
    refine oO <| O_call (L_parityvol_Volume_flush hr9) rfl Tryz.call83 (Dels.cons del0 (Dels.cons del0 Dels.nil)) rfl fun _ _ => oA rfl rfl <| nT <| sR <| oM rfl rfl <| oP (P_neq (a := r8.1) (b := (0 : Int)) rfl rfl) rfl <| nT <| CJ_condP rfl bT_dec (fun hg4 => ?_) (fun hg4 => ?_)
    ·
     replace h := ite_t hg4 h
     refine sR <| oM rfl rfl <| oA rfl rfl <| nT <| CJ_ret <| QJ_then_ret ?_
     cases h
     exact fE (res1 Tryz.results35 rfl) () (t0_ (t0_ (eD eR)))
    ·
     replace h := ite_f hg4 h
     refine kT <| CJ_seq <| AJ_startH 83886080 (by kernel_rfl) rfl <| aV 0 1 rfl rfl (GY_none rfl) eR (V_load rfl foc2 rfl Tryz.isAgg65) rfl <| aN 1 3 rfl rfl (P_nilCheck rfl) rfl <| aN 2 7 rfl rfl (P_fieldAddr rfl ⟨_, _, _, Tryz.runUnderlying123, rfl, rfl, Tryz.sizeOf121, rfl⟩) rfl <| aN 3 15 rfl rfl (P_fieldAddr rfl ⟨_, _, _, Tryz.runUnderlying121, rfl, rfl, Tryz.sizeOf3, rfl⟩) rfl <| aV 4 31 rfl rfl (GY_none rfl) eR (VJ_entX (Ent.transX (t0_ eR) (VolP_open (l := r8.2.1))) (fun _ => V_load rfl foc0 rfl Tryz.isAgg3)) rfl <| aN 5 63 rfl rfl (P_conv_u64 (a := r8.2.1.last_offset) rfl Tryz.runUnderlying3 Tryz.runUnderlying44) rfl <| aN 6 127 rfl rfl (P_shl_u64 (a := (to_u64 r8.2.1.last_offset)) (m := 3) rfl rfl rfl) rfl <| aV 7 255 rfl rfl (GY_none rfl) eR (V_load rfl foc2 rfl Tryz.isAgg65) rfl <| aN 8 511 rfl rfl (P_nilCheck rfl) rfl <| aN 9 1023 rfl rfl (P_fieldAddr rfl ⟨_, _, _, Tryz.runUnderlying123, rfl, rfl, Tryz.sizeOf121, rfl⟩) rfl <| aN 10 2047 rfl rfl (P_fieldAddr rfl ⟨_, _, _, Tryz.runUnderlying121, rfl, rfl, Tryz.sizeOf3, rfl⟩) rfl <| aV 11 4095 rfl rfl (GY_none rfl) eR (VJ_entX (Ent.transX (t0_ eR) (VolP_open (l := r8.2.1))) (fun _ => V_load rfl foc0 rfl Tryz.isAgg3)) rfl <| aN 12 8191 rfl rfl (P_conv_u64 (a := r8.2.1.last_leg) rfl Tryz.runUnderlying3 Tryz.runUnderlying44) rfl <| aN 13 16383 rfl rfl (P_or_u64 (a := (shl_u64 (to_u64 r8.2.1.last_offset) 3)) (b := (to_u64 r8.2.1.last_leg)) rfl rfl) rfl ?_
     refine aV 14 32767 rfl rfl (GY_none rfl) eR (V_load rfl foc2 rfl Tryz.isAgg65) rfl <| aN 15 65535 rfl rfl (P_nilCheck rfl) rfl <| aN 16 131071 rfl rfl (P_fieldAddr rfl ⟨_, _, _, Tryz.runUnderlying123, rfl, rfl, Tryz.sizeOf121, rfl⟩) rfl <| aN 17 262143 rfl rfl (P_fieldAddr rfl ⟨_, _, _, Tryz.runUnderlying121, rfl, rfl, Tryz.sizeOf44, rfl⟩) rfl <| aV 18 524287 rfl rfl (GY_none rfl) eR (VJ_entX (Ent.transX (t0_ eR) (VolP_open (l := r8.2.1))) (fun _ => V_load rfl foc0 rfl Tryz.isAgg44)) rfl <| aV 19 1048575 rfl rfl (GY_none rfl) eR (V_load rfl foc2 rfl Tryz.isAgg65) rfl <| aN 20 2097151 rfl rfl (P_nilCheck rfl) rfl <| aN 21 4194303 rfl rfl (P_fieldAddr rfl ⟨_, _, _, Tryz.runUnderlying123, rfl, rfl, Tryz.sizeOf121, rfl⟩) rfl <| aN 22 8388607 rfl rfl (P_fieldAddr rfl ⟨_, _, _, Tryz.runUnderlying121, rfl, rfl, Tryz.sizeOf44, rfl⟩) rfl <| aV 23 16777215 rfl rfl (GY_none rfl) eR (VJ_entX (Ent.transX (t0_ eR) (VolP_open (l := r8.2.1))) (fun _ => V_load rfl foc0 rfl Tryz.isAgg44)) rfl <| AJ_two 24 25 33554431 50331647 rfl rfl (by kernel_rfl) rfl rfl (GY_none rfl) (GY_none rfl) ?_ ?_
     ·
      refine O_buildSlice rfl (bs_43_3_0_1_2 _ _ _) rfl fun b970 => ⟨fun h => absurd h (by decide), ?_⟩
      refine AJ_ent (Ent.trans (t0_ eR) (sl_of_lit (t := tyU) (m := 3) [((shl_u64 (to_u64 r8.2.1.last_offset) 3) ||| (to_u64 r8.2.1.last_leg)), r8.2.1.last_word, r8.2.1.last_parity] rfl rfl rfl (by decide))) <| AJ_op 25 67108863 rfl (by kernel_rfl) rfl (GY_none rfl) <| O_alloc Tryz.zeroValue43 rfl rfl fun b1010 => ⟨fun _ => (t2_ (t2_ (t2_ (eD (eD eR))))), ?_⟩
      refine AJ_op 26 134217727 rfl (by kernel_rfl) rfl (GY_none rfl) <| O_store rfl rfl foc0 rfl rfl Tryz.sizeOf43 <| ⟨fun h => absurd h (by decide), ?_⟩
      refine aD <| CJ_seq <| CJ_entX (Ent.transX (t2_ eR) (VolP_open (l := r8.2.1))) fun oc1090 => CJ_pure (fun h hh => Rs_len (stars_perm (del2 (A := Rs (DevP bs) (r8.2.1.legs.map prtS.dev) oc1090.2)).out h hh)) fun hdl1092 => lC del1 fun hlen1093 => ?_
      rw [mk_prt_len (by have := hdl1092; simpa using this)] at hlen1093
      refine CJ_region <| oV (V_load rfl foc6 rfl Tryz.isAgg65) rfl <| oP (P_nilCheck rfl) rfl <| oP (P_fieldAddr rfl ⟨_, _, _, Tryz.runUnderlying123, rfl, rfl, Tryz.sizeOf119, rfl⟩) rfl <| oV (V_load rfl foc0 rfl Tryz.isAgg119) rfl <| oM rfl rfl ?_
      obtain ⟨hg5, h⟩ := grd_de h
      refine oV (V_index (i := (r4).toNat) rfl rfl (Int.toNat_of_nonneg (hg5.1)).symm (show (r4).toNat < (mk_prt r8.2.1.legs oc1090.2).length by rw [mk_prt_len (by have := hdl1092; simpa using this)]; exact (by omega)) foc1 (Reads.sl _ _ _) Tryz.runUnderlying119 Tryz.sizeOf126) rfl <| oP (P_fieldE rfl ⟨_, _, _, Tryz.runUnderlying126, rfl, rfl, Tryz.sizeOf79, rfl⟩) rfl <| RJ_ent (Ent.trans (t2_ eR) (mk_prt_rs (i := (r4).toNat) (by omega))) <| oV (VJ_eq (V_loadE rfl rfl (show (r4).toNat < (mk_prt r8.2.1.legs oc1090.2).length by rw [mk_prt_len (by have := hdl1092; simpa using this)]; exact (by omega)) foc3 (Reads.sl _ _ _) rfl rfl Tryz.isAgg79) (show (IfH.v ((oc1090.2.getD ((r4).toNat) tyDev.dflt)) : Value) = IfH.v ((mk_prt r8.2.1.legs oc1090.2).getD ((r4).toNat) prt_h0).dev from by rw [mk_prt_at (by have := hdl1092; simpa using this)])) rfl <| oO <| O_alloc Tryz.zeroValue79 rfl rfl fun b1095 => oO <| O_store rfl rfl foc0 rfl rfl Tryz.sizeOf79 <| RJ_nil <| QJ_ent (Ent.trans (t3_ (t3_ (t2_ eR))) (VolP_mk (v0 := r8.2.1.layout_n) (v1 := r8.2.1.layout_chunk) (v2 := r8.2.1.layout_rows) (v3 := r8.2.1.legs) (v4 := r8.2.1.last_seq) (v5 := r8.2.1.last_offset) (v6 := r8.2.1.last_leg) (v7 := r8.2.1.last_word) (v8 := r8.2.1.last_parity) (v9 := r8.2.1.pending) (v10 := r8.2.1.filled) (h0 := oc1090.1) (h1 := oc1090.2))) <| QJ_then <| sR <| oP (P_makeFunc rfl rfl) rfl <| oP (P_makeFunc rfl rfl) rfl <| oV (V_load rfl foc1 rfl Tryz.isAgg79) rfl ?_
      refine oP (P_nilCheckI rfl) rfl <| oP (P_makeFunc rfl rfl) rfl <| oO <| O_buildSlice rfl (bs_139_3_0_1_2 _ _ _ _ _ _ _ _ _) rfl fun b1096 => oA rfl rfl <| nT <| CJ_seq <| sR <| oM rfl rfl <| RJ_ent (Ent.trans (t3_ eR) (fun h hh => stars_dup Dup_DevP hh)) ?_
      obtain ⟨r1098, hr1099, h⟩ := bind_e h
      refine oO <| O_call (L_parityvol_run_3 (Reads.sl _ _ _) hr1099) rfl Tryz.call87 (Dels.cons del2 (Dels.cons del3 (Dels.cons del1 (Dels.cons del5 (Dels.cons del1 (Dels.cons del1 (Dels.cons del1 (Dels.cons del0 (Dels.cons del0 Dels.nil))))))))) rfl fun _ _ => oA rfl rfl <| RJ_nil <| QJ_ent (t3_ (t3_ (t6_ (eD (eD (eD (eD (eD (eD eR))))))))) <| QJ_then <| sR <| oM rfl rfl <| nT <| CJ_block <| sR <| oP (P_eql (a := r1098.1) (b := (0 : Int)) rfl rfl) rfl <| oA rfl rfl <| nT <| CJ_condP rfl bT_dec (fun hg6 => ?_) (fun hg6 => ?_)
      ·
       replace h := ite_t hg6 h
       refine CJ_seq <| CJ_entX (Ent.transX (t1_ eR) (VolP_open (l := r8.2.1))) fun oc1100 => CJ_pure (fun h hh => Rs_len (stars_perm (del2 (A := Rs (DevP bs) (r8.2.1.legs.map prtS.dev) oc1100.2)).out h hh)) fun hdl1102 => lC del1 fun hlen1103 => ?_
       rw [mk_prt_len (by have := hdl1102; simpa using this)] at hlen1103
       refine CJ_region <| oV (V_load rfl foc3 rfl Tryz.isAgg65) rfl <| oP (P_nilCheck rfl) rfl <| oP (P_fieldAddr rfl ⟨_, _, _, Tryz.runUnderlying123, rfl, rfl, Tryz.sizeOf119, rfl⟩) rfl <| oV (V_load rfl foc0 rfl Tryz.isAgg119) rfl <| oM rfl rfl ?_
       obtain ⟨hg7, h⟩ := grd_de h
       refine oV (V_index (i := (r4).toNat) rfl rfl (Int.toNat_of_nonneg (hg7.1)).symm (show (r4).toNat < (mk_prt r8.2.1.legs oc1100.2).length by rw [mk_prt_len (by have := hdl1102; simpa using this)]; exact (by omega)) foc1 (Reads.sl _ _ _) Tryz.runUnderlying119 Tryz.sizeOf126) rfl <| oP (P_fieldE rfl ⟨_, _, _, Tryz.runUnderlying126, rfl, rfl, Tryz.sizeOf4, rfl⟩) rfl <| oO <| O_storeE (x' := { (mk_prt r8.2.1.legs oc1100.2).getD ((r4).toNat) prt_h0 with stale := false }) rfl rfl rfl (show (r4).toNat < (mk_prt r8.2.1.legs oc1100.2).length by rw [mk_prt_len (by have := hdl1102; simpa using this)]; exact (by omega)) foc1 rfl rfl rfl Tryz.sizeOf4 <| RJ_ent (Ent.takeC (A' := sl typrtH (Sl3.v oc1100.1) (mk_prt (r8.2.1.legs.set ((r4).toNat) { r8.2.1.legs.getD ((r4).toNat) prt_x0 with stale := false }) oc1100.2)) del1 (congrArg (sl typrtH (Sl3.v oc1100.1)) (mk_prt_set_stale (by have := hdl1102; simpa using this) (by omega) false)) (Ent.takeC (A' := Rs (DevP bs) (((r8.2.1.legs.set ((r4).toNat) { r8.2.1.legs.getD ((r4).toNat) prt_x0 with stale := false })).map prtS.dev) oc1100.2) del1 (congrArg (fun z => Rs (DevP bs) z oc1100.2) (mk_prt_dev_stale (l := r8.2.1.legs) (i := ((r4).toNat)) false).symm) eR)) <| RJ_pure (fun h hh => Rs_len (stars_perm (del1 (A := Rs (DevP bs) ((((r8.2.1.legs.set ((r4).toNat) { r8.2.1.legs.getD ((r4).toNat) prt_x0 with stale := false })).map prtS.dev)) oc1100.2)).out h hh)) fun hdl1104 => RJ_nil ?_
       refine QJ_ent (Ent.trans (t2_ eR) (VolP_mk (v0 := r8.2.1.layout_n) (v1 := r8.2.1.layout_chunk) (v2 := r8.2.1.layout_rows) (v3 := (r8.2.1.legs.set ((r4).toNat) { r8.2.1.legs.getD ((r4).toNat) prt_x0 with stale := false })) (v4 := r8.2.1.last_seq) (v5 := r8.2.1.last_offset) (v6 := r8.2.1.last_leg) (v7 := r8.2.1.last_word) (v8 := r8.2.1.last_parity) (v9 := r8.2.1.pending) (v10 := r8.2.1.filled) (h0 := oc1100.1) (h1 := oc1100.2))) <| QJ_then <| sR <| oA rfl rfl <| nT <| CJ_ret <| QJ_block_ret <| QJ_then_ret ?_
       cases h
       exact fE (res1 Tryz.results35 rfl) () (t0_ (t1_ (eD eR)))
      ·
       replace h := ite_f hg6 h
       refine sR <| oP (P_eql (a := r1098.1) (b := (5 : Int)) rfl rfl) rfl <| oA rfl rfl <| nT <| CJ_condP rfl bT_dec (fun hg8 => ?_) (fun hg8 => ?_)
       ·
        replace h := ite_t hg8 h
        refine sR <| oM rfl rfl <| oA rfl rfl <| nT <| CJ_ret <| QJ_block_ret <| QJ_then_ret ?_
        cases h
        exact fE (res1 Tryz.results35 rfl) () (t1_ (t1_ (eD eR)))
       ·
        replace h := ite_f hg8 h
        refine CJ_skip <| QJ_block_normal <| QJ_then <| CJ_seq <| CJ_entX (Ent.transX (t1_ eR) (VolP_open (l := r8.2.1))) fun oc1105 => CJ_pure (fun h hh => Rs_len (stars_perm (del2 (A := Rs (DevP bs) (r8.2.1.legs.map prtS.dev) oc1105.2)).out h hh)) fun hdl1107 => lC del1 fun hlen1108 => ?_
        rw [mk_prt_len (by have := hdl1107; simpa using this)] at hlen1108
        refine CJ_region <| oV (V_load rfl foc3 rfl Tryz.isAgg65) rfl <| oP (P_nilCheck rfl) rfl <| oP (P_fieldAddr rfl ⟨_, _, _, Tryz.runUnderlying123, rfl, rfl, Tryz.sizeOf3, rfl⟩) rfl <| oO <| O_store rfl rfl foc0 rfl rfl Tryz.sizeOf3 <| RJ_nil <| QJ_ent (Ent.trans eR (VolP_mk (v0 := r8.2.1.layout_n) (v1 := r8.2.1.layout_chunk) (v2 := r8.2.1.layout_rows) (v3 := r8.2.1.legs) (v4 := r8.2.1.last_seq) (v5 := r8.2.1.last_offset) (v6 := r8.2.1.last_leg) (v7 := r8.2.1.last_word) (v8 := r8.2.1.last_parity) (v9 := r8.2.1.pending) (v10 := (0 : Int)) (h0 := oc1105.1) (h1 := oc1105.2))) <| QJ_then <| sR <| oA rfl rfl <| nT <| CJ_ret ?_
        cases h
        exact fE (res1 Tryz.results35 rfl) () (t0_ (t1_ (eD eR)))
     ·
      refine O_alloc Tryz.zeroValue43 rfl rfl fun b1010 => ⟨fun _ => (t1_ (t1_ (t1_ (eD eR)))), ?_⟩
      refine AJ_op 24 67108863 rfl (by kernel_rfl) rfl (GY_none rfl) <| O_buildSlice rfl (bs_43_3_0_1_2 _ _ _) rfl fun b970 => ⟨fun h => absurd h (by decide), ?_⟩
      refine AJ_ent (Ent.trans (t0_ eR) (sl_of_lit (t := tyU) (m := 3) [((shl_u64 (to_u64 r8.2.1.last_offset) 3) ||| (to_u64 r8.2.1.last_leg)), r8.2.1.last_word, r8.2.1.last_parity] rfl rfl rfl (by decide))) <| AJ_op 26 134217727 rfl (by kernel_rfl) rfl (GY_none rfl) <| O_store rfl rfl foc1 rfl rfl Tryz.sizeOf43 <| ⟨fun h => absurd h (by decide), ?_⟩
      refine aD <| CJ_seq <| CJ_entX (Ent.transX (t2_ eR) (VolP_open (l := r8.2.1))) fun oc1090 => CJ_pure (fun h hh => Rs_len (stars_perm (del2 (A := Rs (DevP bs) (r8.2.1.legs.map prtS.dev) oc1090.2)).out h hh)) fun hdl1092 => lC del1 fun hlen1093 => ?_
      rw [mk_prt_len (by have := hdl1092; simpa using this)] at hlen1093
      refine CJ_region <| oV (V_load rfl foc6 rfl Tryz.isAgg65) rfl <| oP (P_nilCheck rfl) rfl <| oP (P_fieldAddr rfl ⟨_, _, _, Tryz.runUnderlying123, rfl, rfl, Tryz.sizeOf119, rfl⟩) rfl <| oV (V_load rfl foc0 rfl Tryz.isAgg119) rfl <| oM rfl rfl ?_
      obtain ⟨hg5, h⟩ := grd_de h
      refine oV (V_index (i := (r4).toNat) rfl rfl (Int.toNat_of_nonneg (hg5.1)).symm (show (r4).toNat < (mk_prt r8.2.1.legs oc1090.2).length by rw [mk_prt_len (by have := hdl1092; simpa using this)]; exact (by omega)) foc1 (Reads.sl _ _ _) Tryz.runUnderlying119 Tryz.sizeOf126) rfl <| oP (P_fieldE rfl ⟨_, _, _, Tryz.runUnderlying126, rfl, rfl, Tryz.sizeOf79, rfl⟩) rfl <| RJ_ent (Ent.trans (t2_ eR) (mk_prt_rs (i := (r4).toNat) (by omega))) <| oV (VJ_eq (V_loadE rfl rfl (show (r4).toNat < (mk_prt r8.2.1.legs oc1090.2).length by rw [mk_prt_len (by have := hdl1092; simpa using this)]; exact (by omega)) foc3 (Reads.sl _ _ _) rfl rfl Tryz.isAgg79) (show (IfH.v ((oc1090.2.getD ((r4).toNat) tyDev.dflt)) : Value) = IfH.v ((mk_prt r8.2.1.legs oc1090.2).getD ((r4).toNat) prt_h0).dev from by rw [mk_prt_at (by have := hdl1092; simpa using this)])) rfl <| oO <| O_alloc Tryz.zeroValue79 rfl rfl fun b1095 => oO <| O_store rfl rfl foc0 rfl rfl Tryz.sizeOf79 <| RJ_nil <| QJ_ent (Ent.trans (t3_ (t3_ (t2_ eR))) (VolP_mk (v0 := r8.2.1.layout_n) (v1 := r8.2.1.layout_chunk) (v2 := r8.2.1.layout_rows) (v3 := r8.2.1.legs) (v4 := r8.2.1.last_seq) (v5 := r8.2.1.last_offset) (v6 := r8.2.1.last_leg) (v7 := r8.2.1.last_word) (v8 := r8.2.1.last_parity) (v9 := r8.2.1.pending) (v10 := r8.2.1.filled) (h0 := oc1090.1) (h1 := oc1090.2))) <| QJ_then <| sR <| oP (P_makeFunc rfl rfl) rfl <| oP (P_makeFunc rfl rfl) rfl <| oV (V_load rfl foc1 rfl Tryz.isAgg79) rfl ?_
      refine oP (P_nilCheckI rfl) rfl <| oP (P_makeFunc rfl rfl) rfl <| oO <| O_buildSlice rfl (bs_139_3_0_1_2 _ _ _ _ _ _ _ _ _) rfl fun b1096 => oA rfl rfl <| nT <| CJ_seq <| sR <| oM rfl rfl <| RJ_ent (Ent.trans (t3_ eR) (fun h hh => stars_dup Dup_DevP hh)) ?_
      obtain ⟨r1098, hr1099, h⟩ := bind_e h
      refine oO <| O_call (L_parityvol_run_3 (Reads.sl _ _ _) hr1099) rfl Tryz.call87 (Dels.cons del2 (Dels.cons del3 (Dels.cons del1 (Dels.cons del5 (Dels.cons del1 (Dels.cons del2 (Dels.cons del1 (Dels.cons del0 (Dels.cons del0 Dels.nil))))))))) rfl fun _ _ => oA rfl rfl <| RJ_nil <| QJ_ent (t3_ (t3_ (t6_ (eD (eD (eD (eD (eD (eD eR))))))))) <| QJ_then <| sR <| oM rfl rfl <| nT <| CJ_block <| sR <| oP (P_eql (a := r1098.1) (b := (0 : Int)) rfl rfl) rfl <| oA rfl rfl <| nT <| CJ_condP rfl bT_dec (fun hg6 => ?_) (fun hg6 => ?_)
      ·
       replace h := ite_t hg6 h
       refine CJ_seq <| CJ_entX (Ent.transX (t1_ eR) (VolP_open (l := r8.2.1))) fun oc1100 => CJ_pure (fun h hh => Rs_len (stars_perm (del2 (A := Rs (DevP bs) (r8.2.1.legs.map prtS.dev) oc1100.2)).out h hh)) fun hdl1102 => lC del1 fun hlen1103 => ?_
       rw [mk_prt_len (by have := hdl1102; simpa using this)] at hlen1103
       refine CJ_region <| oV (V_load rfl foc3 rfl Tryz.isAgg65) rfl <| oP (P_nilCheck rfl) rfl <| oP (P_fieldAddr rfl ⟨_, _, _, Tryz.runUnderlying123, rfl, rfl, Tryz.sizeOf119, rfl⟩) rfl <| oV (V_load rfl foc0 rfl Tryz.isAgg119) rfl <| oM rfl rfl ?_
       obtain ⟨hg7, h⟩ := grd_de h
       refine oV (V_index (i := (r4).toNat) rfl rfl (Int.toNat_of_nonneg (hg7.1)).symm (show (r4).toNat < (mk_prt r8.2.1.legs oc1100.2).length by rw [mk_prt_len (by have := hdl1102; simpa using this)]; exact (by omega)) foc1 (Reads.sl _ _ _) Tryz.runUnderlying119 Tryz.sizeOf126) rfl <| oP (P_fieldE rfl ⟨_, _, _, Tryz.runUnderlying126, rfl, rfl, Tryz.sizeOf4, rfl⟩) rfl <| oO <| O_storeE (x' := { (mk_prt r8.2.1.legs oc1100.2).getD ((r4).toNat) prt_h0 with stale := false }) rfl rfl rfl (show (r4).toNat < (mk_prt r8.2.1.legs oc1100.2).length by rw [mk_prt_len (by have := hdl1102; simpa using this)]; exact (by omega)) foc1 rfl rfl rfl Tryz.sizeOf4 <| RJ_ent (Ent.takeC (A' := sl typrtH (Sl3.v oc1100.1) (mk_prt (r8.2.1.legs.set ((r4).toNat) { r8.2.1.legs.getD ((r4).toNat) prt_x0 with stale := false }) oc1100.2)) del1 (congrArg (sl typrtH (Sl3.v oc1100.1)) (mk_prt_set_stale (by have := hdl1102; simpa using this) (by omega) false)) (Ent.takeC (A' := Rs (DevP bs) (((r8.2.1.legs.set ((r4).toNat) { r8.2.1.legs.getD ((r4).toNat) prt_x0 with stale := false })).map prtS.dev) oc1100.2) del1 (congrArg (fun z => Rs (DevP bs) z oc1100.2) (mk_prt_dev_stale (l := r8.2.1.legs) (i := ((r4).toNat)) false).symm) eR)) <| RJ_pure (fun h hh => Rs_len (stars_perm (del1 (A := Rs (DevP bs) ((((r8.2.1.legs.set ((r4).toNat) { r8.2.1.legs.getD ((r4).toNat) prt_x0 with stale := false })).map prtS.dev)) oc1100.2)).out h hh)) fun hdl1104 => RJ_nil ?_
       refine QJ_ent (Ent.trans (t2_ eR) (VolP_mk (v0 := r8.2.1.layout_n) (v1 := r8.2.1.layout_chunk) (v2 := r8.2.1.layout_rows) (v3 := (r8.2.1.legs.set ((r4).toNat) { r8.2.1.legs.getD ((r4).toNat) prt_x0 with stale := false })) (v4 := r8.2.1.last_seq) (v5 := r8.2.1.last_offset) (v6 := r8.2.1.last_leg) (v7 := r8.2.1.last_word) (v8 := r8.2.1.last_parity) (v9 := r8.2.1.pending) (v10 := r8.2.1.filled) (h0 := oc1100.1) (h1 := oc1100.2))) <| QJ_then <| sR <| oA rfl rfl <| nT <| CJ_ret <| QJ_block_ret <| QJ_then_ret ?_
       cases h
       exact fE (res1 Tryz.results35 rfl) () (t0_ (t1_ (eD eR)))
      ·
       replace h := ite_f hg6 h
       refine sR <| oP (P_eql (a := r1098.1) (b := (5 : Int)) rfl rfl) rfl <| oA rfl rfl <| nT <| CJ_condP rfl bT_dec (fun hg8 => ?_) (fun hg8 => ?_)
       ·
        replace h := ite_t hg8 h
        refine sR <| oM rfl rfl <| oA rfl rfl <| nT <| CJ_ret <| QJ_block_ret <| QJ_then_ret ?_
        cases h
        exact fE (res1 Tryz.results35 rfl) () (t1_ (t1_ (eD eR)))
       ·
        replace h := ite_f hg8 h
        refine CJ_skip <| QJ_block_normal <| QJ_then <| CJ_seq <| CJ_entX (Ent.transX (t1_ eR) (VolP_open (l := r8.2.1))) fun oc1105 => CJ_pure (fun h hh => Rs_len (stars_perm (del2 (A := Rs (DevP bs) (r8.2.1.legs.map prtS.dev) oc1105.2)).out h hh)) fun hdl1107 => lC del1 fun hlen1108 => ?_
        rw [mk_prt_len (by have := hdl1107; simpa using this)] at hlen1108
        refine CJ_region <| oV (V_load rfl foc3 rfl Tryz.isAgg65) rfl <| oP (P_nilCheck rfl) rfl <| oP (P_fieldAddr rfl ⟨_, _, _, Tryz.runUnderlying123, rfl, rfl, Tryz.sizeOf3, rfl⟩) rfl <| oO <| O_store rfl rfl foc0 rfl rfl Tryz.sizeOf3 <| RJ_nil <| QJ_ent (Ent.trans eR (VolP_mk (v0 := r8.2.1.layout_n) (v1 := r8.2.1.layout_chunk) (v2 := r8.2.1.layout_rows) (v3 := r8.2.1.legs) (v4 := r8.2.1.last_seq) (v5 := r8.2.1.last_offset) (v6 := r8.2.1.last_leg) (v7 := r8.2.1.last_word) (v8 := r8.2.1.last_parity) (v9 := r8.2.1.pending) (v10 := (0 : Int)) (h0 := oc1105.1) (h1 := oc1105.2))) <| QJ_then <| sR <| oA rfl rfl <| nT <| CJ_ret ?_
        cases h
        exact fE (res1 Tryz.results35 rfl) () (t0_ (t1_ (eD eR)))
def parityvol_Volume_correct_l1_b (v : VolS) (offset : Int) (s : ArrS) (rec : VolS → Nat → (List UInt64) → Option (((List UInt64) × VolS) ⊕ (Bool × Int × VolS × ArrS))) (x13 : VolS) (x14 : Nat) (x15 : List UInt64) : Option (((List UInt64) × VolS) ⊕ (Bool × Int × VolS × ArrS)) :=
  if (((x14 : Nat) : Int) < ((v.legs.length : Nat) : Int)) then
    Option.bind (parityvol_Volume_word x13 (((x14 : Nat) : Int)) offset s) fun r18 =>
    if (r18.2.2.1 ≠ (0 : Int)) then
      some (.inr (false, r18.2.2.1, r18.2.2.2, s))
    else
      grd (inLen (x15.length + 1)) <|
      rec r18.2.2.2 (x14 + 1) (x15 ++ [r18.1])
  else
    some (.inl (x15, x13))
def parityvol_Volume_correct_l1 (v : VolS) (offset : Int) (s : ArrS) : Nat → VolS → Nat → (List UInt64) → Option (((List UInt64) × VolS) ⊕ (Bool × Int × VolS × ArrS))
  | 0, _, _, _ => none
  | n + 1, x13, x14, x15 => parityvol_Volume_correct_l1_b v offset s (parityvol_Volume_correct_l1 v offset s n) x13 x14 x15
def parityvol_Volume_correct (v : VolS) (offset : Int) (s : ArrS) : Option (Bool × Int × VolS × ArrS) :=
  seqO (parityvol_Volume_correct_l1 v offset s FUEL v 0 ([])) fun a12 =>
  Option.bind (parity_Xor a12.1) fun r26 =>
  if (r26 = (0 : UInt64)) then
    some ((false, (0 : Int), a12.2, s))
  else
    Option.bind (parityvol_layout_parityOf (⟨a12.2.layout_n, a12.2.layout_chunk, a12.2.layout_rows⟩ : parityvol_layout) offset) fun r32 =>
    Option.bind (parity_Rebuild a12.1 r32.1) fun r34 =>
    grd (decide (0 ≤ r32.2 ∧ r32.2 < (a12.1.length : Int))) <|
    Option.bind (parityvol_Volume_put a12.2 ((⟨(0 : UInt64), offset, r32.2, (a12.1.getD ((r32.2).toNat) 0), r34.1⟩ : parityvol_entry)) s) fun r36 =>
    some (true, r36.1, r36.2.1, r36.2.2)
theorem L_parityvol_Volume_correct {W : World} {bv : Nat} {bs : Nat} {v : VolS} {offset : Int} {s : ArrS} {r : Bool × Int × VolS × ArrS} (h : parityvol_Volume_correct v offset s = some r) :
    CSpec Tryz.prog W 80 [ptr bv 0, .int .i64 offset] [VolP bs bv v, Arr bs s] (fun x : Unit => .tuple #[.bool r.1, .int .i64 r.2.1]) (fun _ => True) (fun x F => VolP bs bv r.2.2.1 :: Arr bs r.2.2.2 :: F) := by
 refine CSpec.of_body Tryz.func80 rfl Tryz.ntmps80 rfl fun F => ?_
 show CJ _ _ _ _ _ _ (_ :: _ :: F)
 unfold parityvol_Volume_correct at h
 refine sR <| oA rfl rfl <| oA rfl rfl <| nT <| sR <| oA rfl rfl <| nT <| CJ_seq <| CJ_seq <| CJ_entX (Ent.transX (t0_ eR) (VolP_open (l := v))) fun oc1 => CJ_pure (fun h hh => Rs_len (stars_perm (del2 (A := Rs (DevP bs) (v.legs.map prtS.dev) oc1.2)).out h hh)) fun hdl3 => lC del1 fun hlen4 => ?_
 rw [mk_prt_len (by have := hdl3; simpa using this)] at hlen4
 refine CJ_region <| oM rfl rfl <| oP (P_nilCheck rfl) rfl <| oP (P_fieldAddr rfl ⟨_, _, _, Tryz.runUnderlying123, rfl, rfl, Tryz.sizeOf119, rfl⟩) rfl <| oV (V_load rfl foc0 rfl Tryz.isAgg119) rfl <| oV (VJ_eq (V_len rfl foc1 (Reads.sl _ _ _) Tryz.runUnderlying119) (congrArg (fun z : Nat => Value.int .i64 (z : Int)) (mk_prt_len (by have := hdl3; simpa using this)).symm)) rfl <| oM rfl rfl <| RJ_nil <| QJ_ent (Ent.trans eR (VolP_mk (v0 := v.layout_n) (v1 := v.layout_chunk) (v2 := v.layout_rows) (v3 := v.legs) (v4 := v.last_seq) (v5 := v.last_offset) (v6 := v.last_leg) (v7 := v.last_word) (v8 := v.last_parity) (v9 := v.pending) (v10 := v.filled) (h0 := oc1.1) (h1 := oc1.2))) <| QJ_then <| CJ_ent (fun h hh => sl_nil (t := tyU) h hh) ?_
 obtain ⟨y8, hl6, hK7⟩ := seq_e h
 refine CJ_cutT (X := ((List UInt64) × VolS) × Sl3) [4, 5, 6, 7, 8, 9, 10, 20, 21, 22, 23, 24, 25, 26, 27, 28, 29, 30, 31, 32, 33, 34, 35, 36, 37, 38] (fun ⟨a12, hd10⟩ => ([(6, hd10.v)] : Slots)) (fun ⟨a12, hd10⟩ R => sl tyU hd10.v a12.1 :: VolP bs bv a12.2 :: R) (fun ⟨a12, hd10⟩ => y8 = .inl a12) (Dels.cons del0 (Dels.cons del0 Dels.nil)) ?_ ?_
 ·
  refine CJ_block <| CJ_loopR (X := Nat × VolS × Nat × (List UInt64) × Sl3) [4, 5, 6, 7, 8, 9, 10, 20, 21, 22, 23, 24, 25, 26, 27, 28, 29, 30, 31, 32, 33, 34, 35, 36, 37, 38] (fun ⟨n, x13, x14, x15, hd16⟩ => ([(6, hd16.v), (20, .int .i64 (((x14 : Nat) : Int)))] : Slots)) (fun ⟨n, x13, x14, x15, hd16⟩ R => VolP bs bv x13 :: sl tyU hd16.v x15 :: R) (fun ⟨n, x13, x14, x15, hd16⟩ => parityvol_Volume_correct_l1 v offset s n x13 x14 x15 = some y8) (fun ⟨n, x13, x14, x15, hd16⟩ => n) ⟨FUEL, v, 0, [], ⟨none, 0, 0⟩⟩ ?_ ?_ (t1_ eR) ?_
  · exact hl6
  · exact ⟨rfl, rfl, True.intro⟩
  ·
   rintro ⟨n, x13, x14, x15, hd16⟩ h
   cases n with
   | zero => exact none_e h
   | succ n => ?_
   replace h : parityvol_Volume_correct_l1_b v offset s (parityvol_Volume_correct_l1 v offset s n) x13 x14 x15 = some y8 := h
   unfold parityvol_Volume_correct_l1_b at h
   show CJ _ _ _ _ _ (([(6, hd16.v), (20, .int .i64 (((x14 : Nat) : Int)))] : Slots) ++ forget _ _) (VolP bs bv x13 :: sl tyU hd16.v x15 :: _)
   refine lC del1 fun hlen17 => sR <| oP (P_lss (a := ((x14 : Nat) : Int)) (b := ((v.legs.length : Nat) : Int)) rfl rfl) rfl <| nT <| CJ_seq <| CJ_condP rfl bT_dec (fun hg1 => ?_) (fun hg1 => ?_)
   ·
    replace h := ite_t hg1 h
    refine kT <| CJ_seq <| CJ_block <| sR <| oM rfl rfl <| oA rfl rfl <| nT <| sR <| oM rfl rfl <| oM rfl rfl <| oM rfl rfl ?_
    obtain ⟨r18, hr19, h⟩ := bind_e h
    refine oO <| O_call (L_parityvol_Volume_word hr19) rfl Tryz.call75 (Dels.cons del0 (Dels.cons del1 Dels.nil)) rfl fun _ _ => oM rfl rfl <| oP (P_extract rfl rfl) rfl <| oP (P_extract rfl rfl) rfl <| oP (P_extract rfl rfl) rfl <| oA rfl rfl <| oA rfl rfl <| oA rfl rfl <| nT <| CJ_seq <| sR <| oM rfl rfl <| oP (P_neq (a := r18.2.2.1) (b := (0 : Int)) rfl rfl) rfl <| nT <| CJ_condP rfl bT_dec (fun hg2 => ?_) (fun hg2 => ?_)
    ·
     replace h := ite_t hg2 h
     refine sR <| oM rfl rfl <| oA rfl rfl <| oA rfl rfl <| nT <| CJ_ret <| QJ_then_ret <| QJ_block_ret <| QJ_then_ret <| QJ_round_ret <| QJ_block_ret <| QJ_then_ret ?_
     have hE := Option.some.inj h
     replace hE := seq_inr hK7 hE.symm
     subst hE
     exact fE (res2 Tryz.results80 rfl rfl) () (t0_ (t0_ (eD eR)))
    ·
     replace h := ite_f hg2 h
     refine kT <| CJ_region <| oM rfl rfl <| oM rfl rfl <| oO <| O_buildSlice rfl (bs_43_1_0 _) rfl fun b20 => ?_
     obtain ⟨hg3, h⟩ := grd_Le h
     exact oO <| O_append (t := tyU) (bytes := 8) rfl rfl del3 foc0 (Reads.lit (t := tyU) (ys := [r18.1]) rfl rfl (by decide) (by decide) rfl) Tryz.underlying43 ok_tyU (apl (m := 1) (b := 8) hg3 (by decide)).1 (apl (m := 1) (b := 8) hg3 (by decide)).2 rfl fun p22 c23 => oA rfl rfl <| RJ_nil <| QJ_block_normal <| QJ_then <| CJ_region <| oP (PJ_eq (P_add (a := ((x14 : Nat) : Int)) (b := (1 : Int)) rfl rfl (by omega)) rfl) rfl <| oM rfl rfl <| RJ_nil <| nR ⟨n, r18.2.2.2, (x14 + 1), (x15 ++ [r18.1]), ⟨p22, (x15 ++ [r18.1]).length, c23⟩⟩ h ⟨rfl, rfl, True.intro⟩ (t2_ (t0_ (t1_ (eD eR))))
   ·
    replace h := ite_f hg1 h
    exact CJ_exit <| QJ_then_exit <| QJ_round_exit <| QJ_block_here <| cR ⟨(x15, x13), hd16⟩ (Option.some.inj h).symm ⟨rfl, True.intro⟩ (t1_ eR)
 ·
  rintro ⟨a12, hd10⟩ hy24
  replace h := seq_inl hK7 hy24
  show CJ _ _ _ _ _ (([(6, hd10.v)] : Slots) ++ forget _ _) (sl tyU hd10.v a12.1 :: VolP bs bv a12.2 :: _)
  refine lC del0 fun hlen25 => CJ_seq <| sR <| oM rfl rfl ?_
  obtain ⟨r26, hr27, h⟩ := bind_e h
  refine oO <| O_call (L_parity_Xor (Reads.sl _ _ _) hr27) rfl Tryz.call113 (Dels.cons del0 Dels.nil) rfl fun _ _ => oP (P_eq_u64 (a := r26) (b := (0 : UInt64)) rfl rfl) rfl <| nT <| CJ_condP rfl bT_dec (fun hg4 => ?_) (fun hg4 => ?_)
  ·
   replace h := ite_t hg4 h
   refine sR <| oA rfl rfl <| oA rfl rfl <| nT <| CJ_ret <| QJ_then_ret ?_
   cases h
   exact fE (res2 Tryz.results80 rfl rfl) () (t1_ (t1_ (eD eR)))
  ·
   replace h := ite_f hg4 h
   refine kT <| CJ_seq <| CJ_entX (Ent.transX (t1_ eR) (VolP_open (l := a12.2))) fun oc28 => CJ_pure (fun h hh => Rs_len (stars_perm (del2 (A := Rs (DevP bs) (a12.2.legs.map prtS.dev) oc28.2)).out h hh)) fun hdl30 => lC del1 fun hlen31 => ?_
   rw [mk_prt_len (by have := hdl30; simpa using this)] at hlen31
   refine CJ_region <| oM rfl rfl <| oP (P_nilCheck rfl) rfl <| oP (P_fieldAddr rfl ⟨_, _, _, Tryz.runUnderlying123, rfl, rfl, Tryz.sizeOf112, rfl⟩) rfl <| oV (V_loadN rfl foc0 Tryz.isAgg112 Tryz.sizeOf112 rfl rfl) rfl <| oM rfl rfl ?_
   obtain ⟨r32, hr33, h⟩ := bind_e h
   refine oO <| O_call (L_parityvol_layout_parityOf hr33) rfl Tryz.call115 Dels.nil rfl fun _ _ => oM rfl rfl <| oP (P_extract rfl rfl) rfl <| oP (P_extract rfl rfl) rfl <| oA rfl rfl <| oA rfl rfl <| RJ_nil <| QJ_ent (Ent.trans eR (VolP_mk (v0 := a12.2.layout_n) (v1 := a12.2.layout_chunk) (v2 := a12.2.layout_rows) (v3 := a12.2.legs) (v4 := a12.2.last_seq) (v5 := a12.2.last_offset) (v6 := a12.2.last_leg) (v7 := a12.2.last_word) (v8 := a12.2.last_parity) (v9 := a12.2.pending) (v10 := a12.2.filled) (h0 := oc28.1) (h1 := oc28.2))) <| QJ_then <| sR <| oM rfl rfl <| oM rfl rfl ?_
   obtain ⟨r34, hr35, h⟩ := bind_e h
   refine oO <| O_call (L_parity_Rebuild (Reads.sl _ _ _) hr35) rfl Tryz.call116 (Dels.cons del1 Dels.nil) rfl fun _ _ => oM rfl rfl <| oP (P_extract rfl rfl) rfl <| oP (P_extract rfl rfl) rfl <| oA rfl rfl <| oA rfl rfl <| nT <| sR <| oM rfl rfl <| oM rfl rfl <| oM rfl rfl <| oM rfl rfl <| oM rfl rfl ?_
   obtain ⟨hg5, h⟩ := grd_de h
   refine oV (V_index (i := (r32.2).toNat) rfl rfl (Int.toNat_of_nonneg (hg5.1)).symm (by omega) foc0 (Reads.sl _ _ _) Tryz.runUnderlying43 Tryz.sizeOf44) rfl <| oV (V_loadE rfl rfl (by omega) foc0 (Reads.sl _ _ _) rfl rfl Tryz.isAgg44) rfl <| oM rfl rfl <| oP (P_build rfl (bld_121_1_2_3_4 _ _ _ _)) rfl ?_
   obtain ⟨r36, hr37, h⟩ := bind_e h
   refine oO <| O_call (L_parityvol_Volume_put hr37) rfl Tryz.call81 (Dels.cons del1 (Dels.cons del1 Dels.nil)) rfl fun _ _ => oA rfl rfl <| oA rfl rfl <| nT <| CJ_ret ?_
   cases h
   exact fE (res2 Tryz.results80 rfl rfl) () (t0_ (t0_ (eD eR)))
def parityvol_Volume_Scrub_l2_b (x22 : VolS) (x23 : Int) (rec : ArrS → VolS → Bool → Nat → Option ((Bool × ArrS × VolS) ⊕ (((List Int) × VolS × ArrS) ⊕ ((List Int) × Int × VolS × ArrS)))) (x44 : ArrS) (x45 : VolS) (x46 : Bool) (x47 : Nat) : Option ((Bool × ArrS × VolS) ⊕ (((List Int) × VolS × ArrS) ⊕ ((List Int) × Int × VolS × ArrS))) :=
  if (((x47 : Nat) : Int) < x22.layout_chunk) then
    grd (inI64 (x23 * x45.layout_chunk)) <|
    grd (inI64 (((x23 * x45.layout_chunk) + ((x47 : Nat) : Int)))) <|
    Option.bind (parityvol_Volume_correct x45 (((x23 * x45.layout_chunk) + ((x47 : Nat) : Int))) x44) fun r48 =>
    if (r48.2.1 ≠ (0 : Int)) then
      some (.inr (.inr ([], r48.2.1, r48.2.2.1, r48.2.2.2)))
    else
      grd (inN64 (x47 + 1)) <|
      rec r48.2.2.2 r48.2.2.1 (x46 || r48.1) (x47 + 1)
  else
    some (.inl (x46, x44, x45))
def parityvol_Volume_Scrub_l2 (x22 : VolS) (x23 : Int) : Nat → ArrS → VolS → Bool → Nat → Option ((Bool × ArrS × VolS) ⊕ (((List Int) × VolS × ArrS) ⊕ ((List Int) × Int × VolS × ArrS)))
  | 0, _, _, _, _ => none
  | n + 1, x44, x45, x46, x47 => parityvol_Volume_Scrub_l2_b x22 x23 (parityvol_Volume_Scrub_l2 x22 x23 n) x44 x45 x46 x47
def parityvol_Volume_Scrub_l1_b (row : Int) (n_2 : Int) (rec : ArrS → VolS → Int → (List Int) → Option (((List Int) × VolS × ArrS) ⊕ ((List Int) × Int × VolS × ArrS))) (x21 : ArrS) (x22 : VolS) (x23 : Int) (x24 : List Int) : Option (((List Int) × VolS × ArrS) ⊕ ((List Int) × Int × VolS × ArrS)) :=
  if ((x23 < x22.layout_rows) ∧ ((IntKind.i64.wrap (x23 - row)) < n_2)) then
    seqO (parityvol_Volume_Scrub_l2 x22 x23 FUEL x21 x22 false 0) fun a43 =>
    if a43.1 = true then
      grd (inLen (x24.length + 1)) <|
      grd (inI64 ((x23 + (1 : Int)))) <|
      rec a43.2.1 a43.2.2 ((x23 + (1 : Int))) (x24 ++ [x23])
    else
      grd (inI64 ((x23 + (1 : Int)))) <|
      rec a43.2.1 a43.2.2 ((x23 + (1 : Int))) x24
  else
    some (.inl (x24, x22, x21))
def parityvol_Volume_Scrub_l1 (row : Int) (n_2 : Int) : Nat → ArrS → VolS → Int → (List Int) → Option (((List Int) × VolS × ArrS) ⊕ ((List Int) × Int × VolS × ArrS))
  | 0, _, _, _, _ => none
  | n + 1, x21, x22, x23, x24 => parityvol_Volume_Scrub_l1_b row n_2 (parityvol_Volume_Scrub_l1 row n_2 n) x21 x22 x23 x24
def parityvol_Volume_Scrub (v : VolS) (row : Int) (n_2 : Int) (s : ArrS) : Option ((List Int) × Int × VolS × ArrS) :=
  if ((row < (0 : Int)) ∨ (n_2 < (0 : Int))) then
    some (([], (1 : Int), v, s))
  else
    Option.bind (parityvol_Volume_ready v s) fun r6 =>
    if (r6.1 ≠ (0 : Int)) then
      some ([], r6.1, r6.2.1, r6.2.2)
    else
      Option.bind (parityvol_Volume_staleLeg r6.2.1 r6.2.2) fun r9 =>
      if ((0 : Int) ≤ r9) then
        some (([], (20 : Int), r6.2.1, r6.2.2))
      else
        seqO (parityvol_Volume_Scrub_l1 row n_2 FUEL r6.2.2 r6.2.1 row ([])) fun a20 =>
        some ((a20.1, (0 : Int), a20.2.1, a20.2.2))
theorem L_parityvol_Volume_Scrub {W : World} {bv : Nat} {bs : Nat} {v : VolS} {row : Int} {n_2 : Int} {s : ArrS} {r : (List Int) × Int × VolS × ArrS} (h : parityvol_Volume_Scrub v row n_2 s = some r) :
    CSpec Tryz.prog W 30 [ptr bv 0, .int .i64 row, .int .i64 n_2] [VolP bs bv v, Arr bs s] (fun x : Sl3 => .tuple #[x.v, .int .i64 r.2.1]) (fun _ => True) (fun x F => VolP bs bv r.2.2.1 :: Arr bs r.2.2.2 :: sl tyI x.v r.1 :: F) := by
 refine CSpec.of_body Tryz.func30 rfl Tryz.ntmps30 rfl fun F => ?_
 show CJ _ _ _ _ _ _ (_ :: _ :: F)
 unfold parityvol_Volume_Scrub at h
 refine sR <| oA rfl rfl <| oA rfl rfl <| nT <| CJ_seq <| sR <| oM rfl rfl <| oP (P_lss (a := row) (b := (0 : Int)) rfl rfl) rfl <| oM rfl rfl <| RJ_mbF rfl rfl rfl (fun hG1 => have hP2 : ¬ (row < (0 : Int)) := nP (bT_dec) hG1; VJ_P (P_move rfl)) <| RJ_mbF rfl rfl rfl (fun hG3 => have hP4 : ¬ (row < (0 : Int)) := nP (bT_dec) hG3; VJ_P (P_lss (a := n_2) (b := (0 : Int)) (mbx hG3 rfl) rfl)) <| oP (P_pickOr rfl rfl (fun hh => mbx (not_f hh) rfl)) rfl <| nT <| CJ_condP rfl (bT_or bT_dec bT_dec) (fun hg1 => ?_) (fun hg1 => ?_)
 ·
  replace h := ite_t hg1 h
  refine sR <| oA rfl rfl <| oA rfl rfl <| nT <| CJ_ret <| QJ_then_ret <| QJ_ent (fun h hh => sl_nil (t := tyI) h hh) ?_
  cases h
  exact fE (res2 Tryz.results30 rfl rfl) ⟨none, 0, 0⟩ (t1_ (t1_ eR))
 ·
  replace h := ite_f hg1 h
  refine kT <| CJ_seq <| sR <| oM rfl rfl ?_
  obtain ⟨r6, hr7, h⟩ := bind_e h
  refine oO <| O_call (L_parityvol_Volume_ready hr7) rfl Tryz.call73 (Dels.cons del0 (Dels.cons del0 Dels.nil)) rfl fun _ _ => oA rfl rfl <| nT <| sR <| oM rfl rfl <| oP (P_neq (a := r6.1) (b := (0 : Int)) rfl rfl) rfl <| nT <| CJ_condP rfl bT_dec (fun hg2 => ?_) (fun hg2 => ?_)
  ·
   replace h := ite_t hg2 h
   refine sR <| oM rfl rfl <| oA rfl rfl <| oA rfl rfl <| nT <| CJ_ret <| QJ_then_ret <| QJ_ent (fun h hh => sl_nil (t := tyI) h hh) ?_
   cases h
   exact fE (res2 Tryz.results30 rfl rfl) ⟨none, 0, 0⟩ (t1_ (t1_ eR))
  ·
   replace h := ite_f hg2 h
   refine kT <| CJ_seq <| sR <| oM rfl rfl ?_
   obtain ⟨r9, hr10, h⟩ := bind_e h
   refine oO <| O_call (L_parityvol_Volume_staleLeg hr10) rfl Tryz.call76 (Dels.cons del0 (Dels.cons del0 Dels.nil)) rfl fun _ _ => oP (P_geq (a := r9) (b := (0 : Int)) rfl rfl) rfl <| nT <| CJ_condP rfl bT_dec (fun hg3 => ?_) (fun hg3 => ?_)
   ·
    replace h := ite_t hg3 h
    refine sR <| oA rfl rfl <| oA rfl rfl <| nT <| CJ_ret <| QJ_then_ret <| QJ_ent (fun h hh => sl_nil (t := tyI) h hh) ?_
    cases h
    exact fE (res2 Tryz.results30 rfl rfl) ⟨none, 0, 0⟩ (t1_ (t1_ eR))
   ·
    replace h := ite_f hg3 h
    refine kT <| sR <| oA rfl rfl <| nT <| CJ_seq <| sR <| oM rfl rfl <| oA rfl rfl <| nT <| CJ_ent (fun h hh => sl_nil (t := tyI) h hh) ?_
    obtain ⟨y15, hl13, hK14⟩ := seq_e h
    refine CJ_cutT (X := ((List Int) × VolS × ArrS) × Sl3) [6, 7, 9, 10, 11, 12, 13, 14, 30, 31, 32, 33, 34, 35, 36, 37, 38, 39, 40, 41, 42, 43, 44, 45, 46, 47, 48, 49, 50, 51, 52, 53, 54, 55, 56, 57, 58, 59, 60, 61, 62, 63, 64, 65, 66, 67, 68, 69, 70, 71, 72, 73, 74, 75, 76, 77, 78, 79, 80] (fun ⟨a20, hd17⟩ => ([(9, hd17.v)] : Slots)) (fun ⟨a20, hd17⟩ R => sl tyI hd17.v a20.1 :: VolP bs bv a20.2.1 :: Arr bs a20.2.2 :: R) (fun ⟨a20, hd17⟩ => y15 = .inl a20) (Dels.cons del0 (Dels.cons del0 (Dels.cons del0 Dels.nil))) ?_ ?_
    ·
     refine CJ_block <| CJ_loopR (X := Nat × ArrS × VolS × Int × (List Int) × Sl3) [6, 7, 9, 10, 11, 12, 13, 14, 30, 31, 32, 33, 34, 35, 36, 37, 38, 39, 40, 41, 42, 43, 44, 45, 46, 47, 48, 49, 50, 51, 52, 53, 54, 55, 56, 57, 58, 59, 60, 61, 62, 63, 64, 65, 66, 67, 68, 69, 70, 71, 72, 73, 74, 75, 76, 77, 78, 79, 80] (fun ⟨n, x21, x22, x23, x24, hd25⟩ => ([(9, hd25.v), (10, .int .i64 x23)] : Slots)) (fun ⟨n, x21, x22, x23, x24, hd25⟩ R => Arr bs x21 :: VolP bs bv x22 :: sl tyI hd25.v x24 :: R) (fun ⟨n, x21, x22, x23, x24, hd25⟩ => parityvol_Volume_Scrub_l1 row n_2 n x21 x22 x23 x24 = some y15) (fun ⟨n, x21, x22, x23, x24, hd25⟩ => n) ⟨FUEL, r6.2.2, r6.2.1, row, [], ⟨none, 0, 0⟩⟩ ?_ ?_ (t2_ (t1_ eR)) ?_
     · exact hl13
     · exact ⟨rfl, rfl, True.intro⟩
     ·
      rintro ⟨n, x21, x22, x23, x24, hd25⟩ h
      cases n with
      | zero => exact none_e h
      | succ n => ?_
      replace h : parityvol_Volume_Scrub_l1_b row n_2 (parityvol_Volume_Scrub_l1 row n_2 n) x21 x22 x23 x24 = some y15 := h
      unfold parityvol_Volume_Scrub_l1_b at h
      show CJ _ _ _ _ _ (([(9, hd25.v), (10, .int .i64 x23)] : Slots) ++ forget _ _) (Arr bs x21 :: VolP bs bv x22 :: sl tyI hd25.v x24 :: _)
      refine lC del2 fun hlen26 => CJ_seq <| sR <| oM rfl rfl <| oM rfl rfl <| oP (P_nilCheck rfl) rfl <| oP (P_fieldAddr rfl ⟨_, _, _, Tryz.runUnderlying123, rfl, rfl, Tryz.sizeOf112, rfl⟩) rfl <| oP (P_fieldAddr rfl ⟨_, _, _, Tryz.runUnderlying112, rfl, rfl, Tryz.sizeOf3, rfl⟩) rfl <| oV (VJ_entX (Ent.transX (t1_ eR) (VolP_open (l := x22))) (fun _ => V_load rfl foc0 rfl Tryz.isAgg3)) rfl <| oP (P_lss (a := x23) (b := x22.layout_rows) rfl rfl) rfl <| oM rfl rfl <| RJ_mbT rfl rfl rfl (fun hG27 => have hP28 : (x23 < x22.layout_rows) := (bT_dec).1 hG27; VJ_P (P_move rfl)) <| RJ_mbT rfl rfl rfl (fun hG29 => have hP30 : (x23 < x22.layout_rows) := (bT_dec).1 hG29; VJ_P (P_move rfl)) <| RJ_mbT rfl rfl rfl (fun hG31 => have hP32 : (x23 < x22.layout_rows) := (bT_dec).1 hG31; VJ_P (P_subW (a := x23) (b := row) (mbx hG31 rfl) (mbx hG31 rfl))) <| RJ_mbT rfl rfl rfl (fun hG33 => have hP34 : (x23 < x22.layout_rows) := (bT_dec).1 hG33; VJ_P (P_move rfl)) <| RJ_mbT rfl rfl rfl (fun hG35 => have hP36 : (x23 < x22.layout_rows) := (bT_dec).1 hG35; VJ_P (P_lss (a := (IntKind.i64.wrap (x23 - row))) (b := n_2) (mbx hG35 rfl) (mbx hG35 rfl))) <| oP (P_pickAnd rfl (fun hh => mbx hh rfl) rfl) rfl <| nT <| CJ_condP rfl (bT_and bT_dec bT_dec) (fun hg4 => ?_) (fun hg4 => ?_)
      ·
       replace h := ite_t hg4 h
       refine kT <| CJ_seq <| CJ_block <| sR <| oA rfl rfl <| nT <| CJ_seq <| sR <| oM rfl rfl <| oP (P_nilCheck rfl) rfl <| oP (P_fieldAddr rfl ⟨_, _, _, Tryz.runUnderlying123, rfl, rfl, Tryz.sizeOf112, rfl⟩) rfl <| oP (P_fieldAddr rfl ⟨_, _, _, Tryz.runUnderlying112, rfl, rfl, Tryz.sizeOf3, rfl⟩) rfl <| oV (VJ_entX (Ent.transX (t1_ eR) (VolP_open (l := x22))) (fun _ => V_load rfl foc0 rfl Tryz.isAgg3)) rfl <| oM rfl rfl <| nT ?_
       obtain ⟨y39, hl37, hK38⟩ := seq_e h
       refine CJ_cutT (X := Bool × ArrS × VolS) [6, 7, 11, 12, 13, 14, 51, 52, 53, 54, 55, 56, 57, 58, 59, 60, 61, 62, 63, 64, 65, 66, 67, 68, 69, 70, 71, 72, 73, 74, 75] (fun a43 => ([(11, .bool a43.1)] : Slots)) (fun a43 R => Arr bs a43.2.1 :: VolP bs bv a43.2.2 :: R) (fun a43 => y39 = .inl a43) (Dels.cons del0 (Dels.cons del0 Dels.nil)) ?_ ?_
       ·
        refine CJ_block <| CJ_loopR (X := Nat × ArrS × VolS × Bool × Nat) [6, 7, 11, 12, 13, 14, 51, 52, 53, 54, 55, 56, 57, 58, 59, 60, 61, 62, 63, 64, 65, 66, 67, 68, 69, 70, 71, 72, 73, 74, 75] (fun ⟨n, x44, x45, x46, x47⟩ => ([(11, .bool x46), (51, .int .i64 (((x47 : Nat) : Int)))] : Slots)) (fun ⟨n, x44, x45, x46, x47⟩ R => Arr bs x44 :: VolP bs bv x45 :: R) (fun ⟨n, x44, x45, x46, x47⟩ => parityvol_Volume_Scrub_l2 x22 x23 n x44 x45 x46 x47 = some y39) (fun ⟨n, x44, x45, x46, x47⟩ => n) ⟨FUEL, x21, x22, false, 0⟩ ?_ ?_ eR ?_
        · exact hl37
        · exact ⟨rfl, rfl, True.intro⟩
        ·
         rintro ⟨n, x44, x45, x46, x47⟩ h
         cases n with
         | zero => exact none_e h
         | succ n => ?_
         replace h : parityvol_Volume_Scrub_l2_b x22 x23 (parityvol_Volume_Scrub_l2 x22 x23 n) x44 x45 x46 x47 = some y39 := h
         unfold parityvol_Volume_Scrub_l2_b at h
         show CJ _ _ _ _ _ (([(11, .bool x46), (51, .int .i64 (((x47 : Nat) : Int)))] : Slots) ++ forget _ _) (Arr bs x44 :: VolP bs bv x45 :: _)
         refine sR <| oP (P_lss (a := ((x47 : Nat) : Int)) (b := x22.layout_chunk) rfl rfl) rfl <| nT <| CJ_seq <| CJ_condP rfl bT_dec (fun hg5 => ?_) (fun hg5 => ?_)
         ·
          replace h := ite_t hg5 h
          refine kT <| CJ_seq <| CJ_block <| sR <| oM rfl rfl <| oA rfl rfl <| nT <| sR <| oM rfl rfl <| oM rfl rfl <| oM rfl rfl <| oP (P_nilCheck rfl) rfl <| oP (P_fieldAddr rfl ⟨_, _, _, Tryz.runUnderlying123, rfl, rfl, Tryz.sizeOf112, rfl⟩) rfl <| oP (P_fieldAddr rfl ⟨_, _, _, Tryz.runUnderlying112, rfl, rfl, Tryz.sizeOf3, rfl⟩) rfl <| oV (VJ_entX (Ent.transX (t1_ eR) (VolP_open (l := x45))) (fun _ => V_load rfl foc0 rfl Tryz.isAgg3)) rfl ?_
          obtain ⟨hg6, h⟩ := grd_Ie h
          refine oP (P_mul (a := x23) (b := x45.layout_chunk) rfl rfl hg6) rfl <| oM rfl rfl ?_
          obtain ⟨hg7, h⟩ := grd_Ie h
          refine oP (P_add (a := (x23 * x45.layout_chunk)) (b := ((x47 : Nat) : Int)) rfl rfl hg7) rfl ?_
          obtain ⟨r48, hr49, h⟩ := bind_e h
          refine oO <| O_call (L_parityvol_Volume_correct hr49) rfl Tryz.call80 (Dels.cons del1 (Dels.cons del0 Dels.nil)) rfl fun _ _ => oM rfl rfl <| oP (P_extract rfl rfl) rfl <| oP (P_extract rfl rfl) rfl <| oA rfl rfl <| oA rfl rfl <| nT <| CJ_seq <| sR <| oM rfl rfl <| oP (P_neq (a := r48.2.1) (b := (0 : Int)) rfl rfl) rfl <| nT <| CJ_condP rfl bT_dec (fun hg8 => ?_) (fun hg8 => ?_)
          ·
           replace h := ite_t hg8 h
           refine sR <| oM rfl rfl <| oA rfl rfl <| oA rfl rfl <| nT <| CJ_ret <| QJ_then_ret <| QJ_block_ret <| QJ_then_ret <| QJ_round_ret <| QJ_block_ret <| QJ_then_ret <| QJ_block_ret <| QJ_then_ret <| QJ_round_ret <| QJ_block_ret <| QJ_then_ret <| QJ_ent (fun h hh => sl_nil (t := tyI) h hh) ?_
           have hE := Option.some.inj h
           replace hE := seq_inr hK38 hE.symm
           replace hE := seq_inr hK14 hE.symm
           subst hE
           exact fE (res2 Tryz.results30 rfl rfl) ⟨none, 0, 0⟩ (t1_ (t1_ (t0_ (eD eR))))
          ·
           replace h := ite_f hg8 h
           refine kT <| CJ_region <| oM rfl rfl <| oM rfl rfl <| RJ_mbF rfl rfl rfl (fun hG51 => have hP52 : ¬ x46 = true := nP (Iff.rfl) hG51; VJ_P (P_move rfl)) <| oP (P_pickOr rfl rfl (fun hh => mbx (not_f hh) rfl)) rfl <| oA rfl rfl <| RJ_nil <| QJ_block_normal <| QJ_then <| CJ_region ?_
           obtain ⟨hg9, h⟩ := grd_Ne h
           exact oP (PJ_eq (P_add (a := ((x47 : Nat) : Int)) (b := (1 : Int)) rfl rfl (nat_in hg9)) rfl) rfl <| oM rfl rfl <| RJ_nil <| nR ⟨n, r48.2.2.2, r48.2.2.1, (x46 || r48.1), (x47 + 1)⟩ h ⟨rfl, rfl, True.intro⟩ (t1_ eR)
         ·
          replace h := ite_f hg5 h
          exact CJ_exit <| QJ_then_exit <| QJ_round_exit <| QJ_block_here <| cR (x46, x44, x45) (Option.some.inj h).symm ⟨rfl, True.intro⟩ eR
       ·
        rintro a43 hy53
        replace h := seq_inl hK38 hy53
        show CJ _ _ _ _ _ (([(11, .bool a43.1)] : Slots) ++ forget _ _) (Arr bs a43.2.1 :: VolP bs bv a43.2.2 :: _)
        refine sR <| oM rfl rfl <| nT <| CJ_condP rfl Iff.rfl (fun hg10 => ?_) (fun hg10 => ?_)
        ·
         replace h := ite_t hg10 h
         refine CJ_region <| oM rfl rfl <| oM rfl rfl <| oO <| O_buildSlice rfl (bs_35_1_0 _) rfl fun b54 => ?_
         obtain ⟨hg11, h⟩ := grd_Le h
         refine oO <| O_append (t := tyI) (bytes := 8) rfl rfl del3 foc0 (Reads.lit (t := tyI) (ys := [x23]) rfl rfl (by decide) (by decide) rfl) Tryz.underlying35 ok_tyI (apl (m := 1) (b := 8) hg11 (by decide)).1 (apl (m := 1) (b := 8) hg11 (by decide)).2 rfl fun p56 c57 => oA rfl rfl <| RJ_nil <| QJ_block_normal <| QJ_then <| CJ_region <| oM rfl rfl ?_
         obtain ⟨hg12, h⟩ := grd_Ie h
         exact oP (P_add (a := x23) (b := (1 : Int)) rfl rfl hg12) rfl <| oA rfl rfl <| RJ_nil <| nR ⟨n, a43.2.1, a43.2.2, (x23 + (1 : Int)), (x24 ++ [x23]), ⟨p56, (x24 ++ [x23]).length, c57⟩⟩ h ⟨rfl, rfl, True.intro⟩ (t2_ (t2_ (t0_ (eD eR))))
        ·
         replace h := ite_f hg10 h
         refine CJ_skip <| QJ_block_normal <| QJ_then <| CJ_region <| oM rfl rfl ?_
         obtain ⟨hg13, h⟩ := grd_Ie h
         exact oP (P_add (a := x23) (b := (1 : Int)) rfl rfl hg13) rfl <| oA rfl rfl <| RJ_nil <| nR ⟨n, a43.2.1, a43.2.2, (x23 + (1 : Int)), x24, hd25⟩ h ⟨rfl, rfl, True.intro⟩ eR
      ·
       replace h := ite_f hg4 h
       exact CJ_exit <| QJ_then_exit <| QJ_round_exit <| QJ_block_here <| cR ⟨(x24, x22, x21), hd25⟩ (Option.some.inj h).symm ⟨rfl, True.intro⟩ (t2_ (t1_ eR))
    ·
     rintro ⟨a20, hd17⟩ hy58
     replace h := seq_inl hK14 hy58
     show CJ _ _ _ _ _ (([(9, hd17.v)] : Slots) ++ forget _ _) (sl tyI hd17.v a20.1 :: VolP bs bv a20.2.1 :: Arr bs a20.2.2 :: _)
     refine lC del0 fun hlen59 => sR <| oM rfl rfl <| oA rfl rfl <| oA rfl rfl <| nT <| CJ_ret ?_
     cases h
     exact fE (res2 Tryz.results30 rfl rfl) hd17 (t1_ (t1_ eR))
end Go.Proofs
set_option linter.unusedSimpArgs false
set_option linter.unusedVariables false
set_option maxRecDepth 20000
set_option maxHeartbeats 4000000
namespace Go.Proofs
open Go.VG
def smallT (t : List Sec) : Bool := t.all fun x => Nat.ble x.some.length 100000
theorem smallT_at {t : List Sec} (h : smallT t = true) (i : Nat) : (t.getD i s0).some.length ≤ 100000 := by
  unfold smallT at h
  rw [List.all_eq_true] at h
  rcases Nat.lt_or_ge i t.length with h1 | h1
  · have := h t[i] (List.getElem_mem h1)
    have e : t.getD i s0 = t[i] := by simp [List.getD, h1]
    rw [e]; exact Nat.le_of_ble_eq_true this
  · have e : t.getD i s0 = s0 := by simp [List.getD, List.getElem?_eq_none h1]
    rw [e]; exact Nat.zero_le _
end Go.Proofs
set_option linter.unusedSimpArgs false
set_option linter.unusedVariables false
set_option maxRecDepth 20000
set_option maxHeartbeats 4000000
namespace Go.Proofs
open Go.VG
end Go.Proofs
set_option linter.unusedSimpArgs false
set_option linter.unusedVariables false
set_option maxRecDepth 20000
set_option maxHeartbeats 4000000
namespace Go.Proofs
open Go.VG
structure OwnS where
  Open_1 : Int
  X : Option VolS
  T : List Sec
  Stale : List Int
  Lost : List Int
def OwnP (a b : Nat) (l : OwnS) : HP := ex fun h : Nat × Nat × Nat × Nat × Sl3 × Sl3 => star [blk b 37 [ptr a 0, .func (.func 97) #[] #[ptr h.1 0, ptr h.2.1 0], oifc 65 l.X h.2.2.1, ptr h.2.2.2.1 0, (Sl3.v h.2.2.2.2.1), (Sl3.v h.2.2.2.2.2)], blk h.1 30 [ptr a 0], blk h.2.1 3 [.int .i64 l.Open_1], optP (VolP a h.2.2.1) l.X, Trk h.2.2.2.1 l.T, sl tyI (Sl3.v h.2.2.2.2.1) l.Stale, sl tyI (Sl3.v h.2.2.2.2.2) l.Lost]
theorem OwnP_open {a b : Nat} {l : OwnS} {R : List HP} : EntX (OwnP a b l :: R) fun h : Nat × Nat × Nat × Nat × Sl3 × Sl3 => blk b 37 [ptr a 0, .func (.func 97) #[] #[ptr h.1 0, ptr h.2.1 0], oifc 65 l.X h.2.2.1, ptr h.2.2.2.1 0, (Sl3.v h.2.2.2.2.1), (Sl3.v h.2.2.2.2.2)] :: blk h.1 30 [ptr a 0] :: blk h.2.1 3 [.int .i64 l.Open_1] :: optP (VolP a h.2.2.1) l.X :: Trk h.2.2.2.1 l.T :: sl tyI (Sl3.v h.2.2.2.2.1) l.Stale :: sl tyI (Sl3.v h.2.2.2.2.2) l.Lost :: R :=
  fun _ hh => let ⟨c, hc⟩ := stars_ex.1 hh; ⟨c, stars_star.1 hc⟩
theorem OwnP_mk {a b : Nat} {v0 : Int} {v1 : Option VolS} {v2 : List Sec} {v3 : List Int} {v4 : List Int} {h0 : Nat} {h1 : Nat} {h2 : Nat} {h3 : Nat} {h4 : Sl3} {h5 : Sl3} {R : List HP} : Ent (blk b 37 [ptr a 0, .func (.func 97) #[] #[ptr h0 0, ptr h1 0], oifc 65 v1 h2, ptr h3 0, (Sl3.v h4), (Sl3.v h5)] :: blk h0 30 [ptr a 0] :: blk h1 3 [.int .i64 v0] :: optP (VolP a h2) v1 :: Trk h3 v2 :: sl tyI (Sl3.v h4) v3 :: sl tyI (Sl3.v h5) v4 :: R) (OwnP a b ⟨v0, v1, v2, v3, v4⟩ :: R) :=
  fun _ hh => stars_ex.2 ⟨(h0, h1, h2, h3, h4, h5), stars_star.2 hh⟩
end Go.Proofs
