/- RingAreas, part 6 of the proof: PRing5, LRingAreas. -/
import Derived.WalkKit
import Derived.Orders
import Derived.RangeFuncLeaves
import Derived.RangeFuncCalls
import Derived.TacticsIn
import Derived.Handy
import Derived.OrdersHeld
import Derived.OrdersIn
import Derived.Below
import Derived.OpenShut
import Derived.Deep.Slices
import Derived.Scope
import Derived.KernelRfl
import Derived.RangeFuncRecord
import Derived.ChangeKeysEq
import Derived.Laws.BytesArg
import Derived.ProofKit
import Derived.ShutString
import Derived.ChangeOld
import Derived.Test.YtkgnkalogghdgaaChecked
import Derived.Test.YtkgnkalogghdgaaRows
import Derived.Test.YtkgnkalogghdgaaZRingAreas5
namespace Go.Proofs
open Go.VG
theorem pend_of_cand {s : ArrS} {d b : Nat} {v : UInt64} (h : cand s d b = [v]) : pend s d b = [] := by
  unfold cand at h
  injection h
section
variable {K n : Nat} {s : ArrS}
theorem Lv.log0 (h : Lv [n] K 0 n s) : s.log = [] := Coh.log_nil h.ok fun e b he hb' => by
  have he0 : e = 0 := by simp at he; omega
  subst he0
  exact pend_of_cand (h.cl b hb')
theorem Lv.imC0 (h : Lv [n] K 0 n s) : imC s (0 : Int) = 0 := imC_of (s := s) (d := 0) (by have := h.ok.sz.cnt; simp at this; omega)
theorem Lv.imL0 (h : Lv [n] K 0 n s) : imL s (0 : Int) = nowL s 0 := imL_of (s := s) (d := 0) (by have := h.ok.sz.cnt; simp at this; omega)
theorem Lv.len0 (h : Lv [n] K 0 n s) : (nowL s 0).length = n := h.ok.sz.size 0 (by simp)
theorem Lv.im_eq (h : Lv [n] K 0 n s) {l : List UInt64} (hl : l.length = n) (hn : ∀ b, b < n → now s 0 b = listA l b) : imL s (0 : Int) = l := by
  rw [h.imL0]
  refine list_ext0 (by rw [h.len0, hl]) fun i hi => ?_
  rw [h.len0] at hi
  exact hn i hi
end
theorem listA_set {l : List UInt64} {k : Nat} {v : UInt64} (hk : k < l.length) : listA (l.set k v) = upd (listA l) k v := by
  funext b
  unfold upd
  show (l.set k v).getD b 0 = if b = k then v else l.getD b 0
  rw [List.getD_eq_getElem?_getD, List.getElem?_set, List.getD_eq_getElem?_getD]
  by_cases h : b = k
  · subst h; rw [if_pos rfl, if_pos rfl, if_pos hk]; rfl
  · rw [if_neg (fun x => h x.symm), if_neg h]
theorem rprep_l2 {w : List UInt64} {x : List UInt64} {e0 : Int} {oS oN n : Nat} {q0 : Int} {c0 : UInt16} (hn : 4 ≤ n ∧ n ≤ 1000) (hx : x.length ≤ 100000) (hS : oS ≤ 100000) (hN : oN ≤ 100000) : ∀ (N i : Nat) (X : List UInt64), x.length - i < N → i ≤ x.length → X.length = n →
    listA X = putN (listA w) (rgR n) ((oS + oN) % rgR n) x i →
    ∃ X', volumegroupref12_Prepared_l2 (x, e0) (q0, (oS : Int), (oN : Int), c0) ((rgR n : Nat) : Int) N X i = some X' ∧ X'.length = n ∧ listA X' = putN (listA w) (rgR n) ((oS + oN) % rgR n) x x.length
  | 0, _, _, h, _, _, _ => absurd h (by omega)
  | N + 1, i, X, h, hi, hl, hX => by
    obtain ⟨r1, r2, r3⟩ := rg_le hn.1 hn.2
    have e : volumegroupref12_Prepared_l2 (x, e0) (q0, (oS : Int), (oN : Int), c0) ((rgR n : Nat) : Int) (N + 1) X i = volumegroupref12_Prepared_l2_b (x, e0) (q0, (oS : Int), (oN : Int), c0) ((rgR n : Nat) : Int) (volumegroupref12_Prepared_l2 (x, e0) (q0, (oS : Int), (oN : Int), c0) ((rgR n : Nat) : Int) N) X i := rfl
    rw [e]
    unfold volumegroupref12_Prepared_l2_b
    simp only [lt]
    by_cases hlt : i < x.length
    · have e1 : ((oS : Int) + (oN : Int)) = ((oS + oN : Nat) : Int) := by omega
      have hst := Nat.mod_lt (oS + oN) (show 0 < rgR n by omega)
      rw [if_pos (by omega), e1, tmodN]
      generalize hst' : (oS + oN) % rgR n = st at hst hX ⊢
      have e2 : (((st : Nat) : Int) + ((i : Nat) : Int)) = ((st + i : Nat) : Int) := by omega
      have hm := Nat.mod_lt (st + i) (show 0 < rgR n by omega)
      rw [e2, tmodN, grd_pos (inI64_of (by omega)), grd_pos (decide_eq_true (by omega)), grd_pos (inI64_of (by omega)), grd_pos (decide_eq_true (by omega)), grd_pos (inN64_of (by omega)),
        show ((2 : Int) + (((st + i) % rgR n : Nat) : Int)).toNat = plc (rgR n) st i by unfold plc; omega]
      have hp : plc (rgR n) st i < X.length := by unfold plc; omega
      have := rprep_l2 (w := w) (x := x) (e0 := e0) (oS := oS) (oN := oN) (q0 := q0) (c0 := c0) hn hx hS hN N (i + 1) (X.set (plc (rgR n) st i) (x.getD i 0)) (by omega) (by omega) (by rw [List.length_set, hl]) (by rw [listA_set hp, hX, hst']; rfl)
      rw [hst'] at this
      exact this
    · rw [if_neg (by omega)]
      exact ⟨X, rfl, hl, by rw [hX, show i = x.length by omega]⟩
theorem prep_agree {w : List UInt64} (h4 : 4 ≤ w.length) (hb : w.length ≤ 1000) (q : Int) (x : ByteArray) : ∃ out e t, volumegroupref12_Prepared w q x = some (out, e) ∧ ring_Prepare (Dk 0 w.length) q x (mkS [w]) = some (e, t) ∧ Lv [w.length] 10000 0 w.length t ∧ t.fuse = 0 ∧
    (e = 0 → out.length = w.length ∧ now t 0 = listA out) ∧ (e ≠ 0 → now t 0 = listA w) := by
  have hL := lv_mkS h4 hb
  have hL' : Lv [w.length] 10000 0 w.length (mkS [w]) := ⟨hL.ok.mono (by omega), hL.dn, hL.hd, hL.hn, hL.h4, hL.hb, hL.ms, hL.cl, by omega⟩
  have hnow : now (mkS [w]) 0 = listA w := now_mkS
  obtain ⟨r1, r2, r3⟩ := rg_le h4 hb
  unfold volumegroupref12_Prepared
  rw [if_neg (by omega)]
  by_cases hq : q < 1 ∨ 1048575 < q
  · rw [if_pos hq]
    exact ⟨_, _, _, rfl, prep_range hL hq, hL', rfl, fun h => absurd h (by decide), fun _ => hnow⟩
  rw [if_neg hq, rtext_eq]
  by_cases hx : 8192 < x.size
  · rw [if_pos hx]; simp only [Option.bind_some]
    rw [if_pos (by simp)]
    exact ⟨_, _, _, rfl, prep_limit hL hq hx, hL', rfl, fun h => absurd h (by decide), fun _ => hnow⟩
  rw [if_neg hx]; simp only [Option.bind_some]
  rw [if_neg (by simp)]
  have hw0 : w.getD 0 0 = now (mkS [w]) 0 0 := by rw [hnow]
  have hwh : volumegroupref12_Whole w (w.getD 0 0) = some (wholeR (now (mkS [w]) 0) (rgR w.length) (now (mkS [w]) 0 0)) := by rw [rwhole_eq (by omega) hb, hnow]
  by_cases hbad : now (mkS [w]) 0 0 ≠ 0 ∧ (wholeR (now (mkS [w]) 0) (rgR w.length) (now (mkS [w]) 0 0)).2 = false
  · rw [if_pos (by rw [hw0]; exact hbad.1), hwh]; simp only [Option.bind_some]
    rw [if_pos (by simp [hbad.2])]
    exact ⟨[], 11, _, rfl, prep_sum hL hq hx hbad.1 hbad.2, hL', rfl, fun h => absurd h (by decide), fun _ => hnow⟩
  have hok : now (mkS [w]) 0 0 ≠ 0 → (wholeR (now (mkS [w]) 0) (rgR w.length) (now (mkS [w]) 0 0)).2 = true := fun h0 => by
    cases hc : (wholeR (now (mkS [w]) 0) (rgR w.length) (now (mkS [w]) 0 0)).2 with
    | true => rfl
    | false => exact absurd ⟨h0, hc⟩ hbad
  have hold : ∃ (a : Int) (c : UInt16), (if ((w.getD 0 0) ≠ (0 : UInt64)) then
            Option.bind (volumegroupref12_Whole w (w.getD 0 0)) fun r22 =>
            if (¬ r22.2 = true) then
              some (.inr (([], (11 : Int))))
            else
              Option.bind (volumegroupref12_Split (w.getD 0 0)) fun r25 =>
              some (.inl (r25.Seq, r25.Start, r25.Length, r25.Sum))
          else
            some (.inl ((0 : Int), (0 : Int), (0 : Int), (0 : UInt16))) : Option ((Int × Int × Int × UInt16) ⊕ ((List UInt64) × Int))) = some (.inl (a, ((oldS (now (mkS [w]) 0 0) : Nat) : Int), ((oldN (now (mkS [w]) 0 0) : Nat) : Int), c)) := by
    by_cases h0 : now (mkS [w]) 0 0 = 0
    · refine ⟨0, 0, ?_⟩
      rw [if_neg (by rw [hw0]; exact fun x => x h0)]
      unfold oldS oldN
      rw [if_pos h0, if_pos h0]; rfl
    · refine ⟨((dQ (now (mkS [w]) 0 0)).toNat : Int), to_u16 (((shr_u64 (now (mkS [w]) 0 0) 48).toNat : Int)), ?_⟩
      rw [if_pos (by rw [hw0]; exact h0), hwh]; simp only [Option.bind_some]
      rw [if_neg (by simp [hok h0]), rsplit_eq, hw0]
      unfold oldS oldN
      rw [if_neg h0, if_neg h0]; rfl
  obtain ⟨a0, c0, hold⟩ := hold
  rw [hold]
  simp only [seqO, Option.bind_some, Sum.elim_inl]
  rw [rring_eq (by omega) (by omega)]; simp only [Option.bind_some]
  have hfS : (dS (now (mkS [w]) 0 0)).toNat < 2 ^ 16 := fieldU_lt _ _ _
  have hfN : (dN (now (mkS [w]) 0 0)).toNat < 2 ^ 12 := fieldU_lt _ _ _
  have hoS : oldS (now (mkS [w]) 0 0) < 2 ^ 16 := by unfold oldS; split <;> omega
  have hoN : oldN (now (mkS [w]) 0 0) < 2 ^ 12 := by unfold oldN; split <;> omega
  have hE := encT_lt (s := x) (by omega)
  obtain ⟨p, rfl⟩ : ∃ p : Nat, q = (p : Int) := ⟨q.toNat, by omega⟩
  rw [grd_pos (inI64_of (by omega))]
  rcases prep_out hL (by omega) (q := p) (x := x) (by omega) (by omega) hok with ⟨h1, h2⟩ | ⟨h1, ⟨t, h2, h3⟩ | ⟨h2, _⟩⟩
  · rw [if_pos (by omega)]
    exact ⟨_, _, _, rfl, h2, hL', rfl, fun h => absurd h (by decide), fun _ => hnow⟩
  · rw [if_neg (by omega), grd_pos (inLen_of (by omega)), grd_pos (inI64_of (by omega)), grd_pos (decide_eq_true (by omega))]
    have hF := fuel_big
    generalize FUEL = N at hF ⊢
    obtain ⟨X, x1, x2, x3⟩ := rprep_l2 (w := w) (x := encT x) (e0 := 0) (oS := oldS (now (mkS [w]) 0 0)) (oN := oldN (now (mkS [w]) 0 0)) (q0 := a0) (c0 := c0) (n := w.length) ⟨h4, hb⟩ (by omega) (by omega) (by omega) N 0 ([] ++ w) (by omega) (by omega) rfl rfl
    rw [x1]; simp only [Option.bind_some, lt]
    rw [rsum_eq12 _ (by omega)]; simp only [Option.bind_some]
    rw [grd_pos (decide_eq_true (by omega))]
    have e1 : (((oldS (now (mkS [w]) 0 0) : Nat) : Int) + ((oldN (now (mkS [w]) 0 0) : Nat) : Int)) = ((oldS (now (mkS [w]) 0 0) + oldN (now (mkS [w]) 0 0) : Nat) : Int) := by omega
    refine ⟨_, 0, t, rfl, h2, ?_, ?_, fun _ => ⟨by rw [List.length_set, x2], ?_⟩, fun h => absurd rfl h⟩
    · have hl := h3.lv hL (by omega)
      exact ⟨hl.ok.mono (by omega), hl.dn, hl.hd, hl.hn, hl.h4, hl.hb, hl.ms, hl.cl, by omega⟩
    · rw [h3.fuse]; show 0 - _ = 0; omega
    · rw [h3.nowD, e1, tmodN, listA_set (by omega), x3, hnow]; rfl
  · exact absurd rfl h2
end Go.Proofs
set_option linter.unusedSimpArgs false
set_option linter.unusedVariables false
set_option maxRecDepth 20000
set_option maxHeartbeats 4000000
namespace Go.Proofs
open Go.VG
theorem bld_117_0 (v0 : (Option Addr)) (v1 : Nat) (v2 : Nat) : ∀ w, (Instr.build 117 (#[(0, .slice v0 v1 v2)] : Array (Nat × Value))).run Try.prog w = .ok (.agg #[.slice v0 v1 v2, .int .i64 (0 : Int)]) w := fun w => by kernel_rfl
theorem bs_43_5_0_1_2_3_4 (v0 : ByteArray) (v1 : ByteArray) (v2 : ByteArray) (v3 : ByteArray) (v4 : ByteArray) : BuildsSlice Try.prog 43 5 [(0, .string v0), (1, .string v1), (2, .string v2), (3, .string v3), (4, .string v4)] 9 [.string v0, .string v1, .string v2, .string v3, .string v4] := fun w => by kernel_rfl
theorem bs_43_4_0_1_2_3 (v0 : ByteArray) (v1 : ByteArray) (v2 : ByteArray) (v3 : ByteArray) : BuildsSlice Try.prog 43 4 [(0, .string v0), (1, .string v1), (2, .string v2), (3, .string v3)] 9 [.string v0, .string v1, .string v2, .string v3] := fun w => by kernel_rfl
def volumegroupmake_New (l : List Int) : Option ((List Int) × Nat) :=
  if ((1000 : Int) < ((l.length : Nat) : Int)) then
    some ((((l.take 1000).drop 0), 0))
  else
    some (l, 0)
theorem L_volumegroupmake_New {W : World} {Al : HP} {vl : Value} {l : List Int} {r : (List Int) × Nat} (rl : Reads Al tyI vl l) (h : volumegroupmake_New l = some r) :
    CSpec Try.prog W 19 [vl] [Al] (fun x : Nat × Value => ptr x.1 0) (fun _ => True) (fun x F => Al :: blk x.1 117 [x.2, .int .i64 (((r.2 : Nat) : Int))] :: pur (Reads Al tyI x.2 r.1) :: F) := by
 refine CSpec.of_body Try.func19 rfl Try.ntmps19 rfl fun F => ?_
 show CJ _ _ _ _ _ _ (_ :: F)
 unfold volumegroupmake_New at h
 refine CJ_pure (len_of rl del0) fun hlen1 => sR <| oA rfl rfl <| nT <| CJ_seq <| sR <| oM rfl rfl <| oV (V_len rfl foc0 rl Try.runUnderlying38) rfl <| oP (P_gtr (a := ((l.length : Nat) : Int)) (b := (1000 : Int)) rfl rfl) rfl <| nT <| CJ_condP rfl bT_dec (fun hg1 => ?_) (fun hg1 => ?_)
 ·
  replace h := ite_t hg1 h
  refine CJ_region <| oM rfl rfl <| oV (V_slice (l := 0) (h := 1000) rfl foc0 rl rfl ⟨_, rfl⟩ (by omega) (by omega) Try.underlying38 Try.sizeOf3) rfl <| oA rfl rfl <| nT <| sR <| oM rfl rfl <| RJ_pure (reads_sl3 rl del0) fun hsv3 => ?_
  obtain ⟨sv2, hsv3⟩ := hsv3
  subst hsv3
  refine oP (P_build rfl (bld_117_0 _ _ _)) rfl <| oO <| O_box rfl rfl rfl fun b4 => oA rfl rfl <| nT <| CJ_ret ?_
  cases h
  exact fE (res1 Try.results19 rfl) ⟨b4, sliceV tyI.sz (Sl3.v sv2) 0 1000⟩ (t1_ (t0_ (Ent.trans (fun h hh => stars_pur.2 ⟨(Reads.sliceV (l := 0) (h := 1000) rl (by omega) (by omega)), hh⟩) <| t0_ eR)))
 ·
  replace h := ite_f hg1 h
  refine kT <| sR <| oM rfl rfl <| RJ_pure (reads_sl3 rl del0) fun hsv6 => ?_
  obtain ⟨sv5, hsv6⟩ := hsv6
  subst hsv6
  refine oP (P_build rfl (bld_117_0 _ _ _)) rfl <| oO <| O_box rfl rfl rfl fun b7 => oA rfl rfl <| nT <| CJ_ret ?_
  cases h
  exact fE (res1 Try.results19 rfl) ⟨b7, (Sl3.v sv5)⟩ (t1_ (t0_ (Ent.trans (fun h hh => stars_pur.2 ⟨rl, hh⟩) <| t0_ eR)))
def volumegroupmake_Src_Raw (s_0_L : List Int) (s_0_At : Int) : Option (Int × Int) :=
  if (((s_0_L.length : Nat) : Int) ≤ s_0_At) then
    some (((0 : Int), s_0_At))
  else
    grd (inI64 ((s_0_At + (1 : Int)))) <|
    grd (inI64 (((s_0_At + (1 : Int)) - (1 : Int)))) <|
    grd (decide (0 ≤ ((s_0_At + (1 : Int)) - (1 : Int)) ∧ ((s_0_At + (1 : Int)) - (1 : Int)) < (s_0_L.length : Int))) <|
    some (((s_0_L.getD ((((s_0_At + (1 : Int)) - (1 : Int))).toNat) 0), (s_0_At + (1 : Int))))
theorem L_volumegroupmake_Src_Raw {W : World} {bs_0 : Nat} {As_0_L : HP} {vs_0_L : Value} {s_0_L : List Int} {s_0_At : Int} {r : Int × Int} (rs_0_L : Reads As_0_L tyI vs_0_L s_0_L) (h : volumegroupmake_Src_Raw s_0_L s_0_At = some r) :
    CSpec Try.prog W 63 [ptr bs_0 0] [blk bs_0 117 [vs_0_L, .int .i64 s_0_At], As_0_L] (fun x : Unit => .int .i64 r.1) (fun _ => True) (fun x F => blk bs_0 117 [vs_0_L, .int .i64 r.2] :: As_0_L :: F) := by
 refine CSpec.of_body Try.func63 rfl Try.ntmps63 rfl fun F => ?_
 show CJ _ _ _ _ _ _ (_ :: _ :: F)
 unfold volumegroupmake_Src_Raw at h
 refine CJ_pure (len_of rs_0_L del1) fun hlen1 => sR <| oA rfl rfl <| nT <| CJ_seq <| CJ_seq <| AJ_startH 0 (by kernel_rfl) rfl <| aN 0 1 rfl rfl (P_move rfl) rfl <| aN 1 3 rfl rfl (P_nilCheck rfl) rfl <| aN 2 7 rfl rfl (P_fieldAddr rfl ⟨_, _, _, Try.runUnderlying117, rfl, rfl, Try.sizeOf3, rfl⟩) rfl <| aV 3 15 rfl rfl (GY_none rfl) eR (V_load rfl foc0 rfl Try.isAgg3) rfl <| aN 4 31 rfl rfl (P_move rfl) rfl <| aN 5 63 rfl rfl (P_nilCheck rfl) rfl <| aN 6 127 rfl rfl (P_fieldAddr rfl ⟨_, _, _, Try.runUnderlying117, rfl, rfl, Try.sizeOf38, rfl⟩) rfl <| aV 7 255 rfl rfl (GY_none rfl) eR (V_load rfl foc0 rfl Try.isAgg38) rfl <| aV 8 511 rfl rfl (GY_none rfl) eR (V_len rfl foc1 rs_0_L Try.runUnderlying38) rfl <| aN 9 1023 rfl rfl (P_geq (a := s_0_At) (b := ((s_0_L.length : Nat) : Int)) rfl rfl) rfl <| aD <| CJ_condP rfl bT_dec (fun hg1 => ?_) (fun hg1 => ?_)
 ·
  replace h := ite_t hg1 h
  refine sR <| oA rfl rfl <| nT <| CJ_ret <| QJ_then_ret ?_
  cases h
  exact fE (res1 Try.results63 rfl) () eR
 ·
  replace h := ite_f hg1 h
  refine kT <| sR <| oM rfl rfl <| oP (P_nilCheck rfl) rfl <| oP (P_fieldAddr rfl ⟨_, _, _, Try.runUnderlying117, rfl, rfl, Try.sizeOf3, rfl⟩) rfl <| oV (V_load rfl foc0 rfl Try.isAgg3) rfl ?_
  obtain ⟨hg2, h⟩ := grd_Ie h
  refine oP (P_add (a := s_0_At) (b := (1 : Int)) rfl rfl hg2) rfl <| oP (P_nilCheck rfl) rfl <| oP (P_fieldAddr rfl ⟨_, _, _, Try.runUnderlying117, rfl, rfl, Try.sizeOf3, rfl⟩) rfl <| oO <| O_store rfl rfl foc0 rfl rfl Try.sizeOf3 <| nT <| CJ_seq <| AJ_startH 0 (by kernel_rfl) rfl <| aN 0 1 rfl rfl (P_move rfl) rfl <| aN 1 3 rfl rfl (P_nilCheck rfl) rfl <| aN 2 7 rfl rfl (P_fieldAddr rfl ⟨_, _, _, Try.runUnderlying117, rfl, rfl, Try.sizeOf38, rfl⟩) rfl <| aV 3 15 rfl rfl (GY_none rfl) eR (V_load rfl foc0 rfl Try.isAgg38) rfl <| aN 4 31 rfl rfl (P_move rfl) rfl <| aN 5 63 rfl rfl (P_nilCheck rfl) rfl <| aN 6 127 rfl rfl (P_fieldAddr rfl ⟨_, _, _, Try.runUnderlying117, rfl, rfl, Try.sizeOf3, rfl⟩) rfl <| aV 7 255 rfl rfl (GY_none rfl) eR (V_load rfl foc0 rfl Try.isAgg3) rfl ?_
  obtain ⟨hg3, h⟩ := grd_Ie h
  refine aN 8 511 rfl rfl (P_sub (a := (s_0_At + (1 : Int))) (b := (1 : Int)) rfl rfl hg3) rfl ?_
  obtain ⟨hg4, h⟩ := grd_de h
  refine aV 9 1023 rfl rfl (GY_none rfl) eR (V_index (i := (((s_0_At + (1 : Int)) - (1 : Int))).toNat) rfl rfl (Int.toNat_of_nonneg (hg4.1)).symm (by omega) foc1 rs_0_L Try.runUnderlying38 Try.sizeOf3) rfl <| aV 10 2047 rfl rfl (GY_none rfl) eR (V_loadE rfl rfl (by omega) foc1 rs_0_L rfl rfl Try.isAgg3) rfl <| aN 11 4095 rfl rfl (P_assign rfl) rfl <| aD <| CJ_ret ?_
  cases h
  exact fE (res1 Try.results63 rfl) () eR
def volumegroupmake_Src_N (s_0_L : List Int) (s_0_At : Int) (n_1 : Int) : Option (Int × Int) :=
  if (n_1 < (1 : Int)) then
    some (((0 : Int), s_0_At))
  else
    Option.bind (volumegroupmake_Src_Raw s_0_L s_0_At) fun r2 =>
    if ((r2.1.tmod n_1) < (0 : Int)) then
      grd (inI64 (((r2.1.tmod n_1) + n_1))) <|
      some ((((r2.1.tmod n_1) + n_1), r2.2))
    else
      some (((r2.1.tmod n_1), r2.2))
theorem L_volumegroupmake_Src_N {W : World} {bs_0 : Nat} {As_0_L : HP} {vs_0_L : Value} {s_0_L : List Int} {s_0_At : Int} {n_1 : Int} {r : Int × Int} (rs_0_L : Reads As_0_L tyI vs_0_L s_0_L) (h : volumegroupmake_Src_N s_0_L s_0_At n_1 = some r) :
    CSpec Try.prog W 28 [ptr bs_0 0, .int .i64 n_1] [blk bs_0 117 [vs_0_L, .int .i64 s_0_At], As_0_L] (fun x : Unit => .int .i64 r.1) (fun _ => True) (fun x F => blk bs_0 117 [vs_0_L, .int .i64 r.2] :: As_0_L :: F) := by
 refine CSpec.of_body Try.func28 rfl Try.ntmps28 rfl fun F => ?_
 show CJ _ _ _ _ _ _ (_ :: _ :: F)
 unfold volumegroupmake_Src_N at h
 refine CJ_pure (len_of rs_0_L del1) fun hlen1 => sR <| oA rfl rfl <| nT <| CJ_seq <| sR <| oM rfl rfl <| oP (P_lss (a := n_1) (b := (1 : Int)) rfl rfl) rfl <| nT <| CJ_condP rfl bT_dec (fun hg1 => ?_) (fun hg1 => ?_)
 ·
  replace h := ite_t hg1 h
  refine sR <| oA rfl rfl <| nT <| CJ_ret <| QJ_then_ret ?_
  cases h
  exact fE (res1 Try.results28 rfl) () eR
 ·
  replace h := ite_f hg1 h
  refine kT <| sR <| oM rfl rfl ?_
  obtain ⟨r2, hr3, h⟩ := bind_e h
  refine oO <| O_call (L_volumegroupmake_Src_Raw rs_0_L hr3) rfl Try.call63 (Dels.cons del0 (Dels.cons del0 Dels.nil)) rfl fun _ _ => oM rfl rfl <| oP (P_remT (a := r2.1) (b := n_1) rfl rfl (by omega)) rfl <| oA rfl rfl <| nT <| CJ_seq <| sR <| oM rfl rfl <| oP (P_lss (a := (r2.1.tmod n_1)) (b := (0 : Int)) rfl rfl) rfl <| nT <| CJ_condP rfl bT_dec (fun hg2 => ?_) (fun hg2 => ?_)
  ·
   replace h := ite_t hg2 h
   refine CJ_region <| oM rfl rfl <| oM rfl rfl ?_
   obtain ⟨hg3, h⟩ := grd_Ie h
   refine oP (P_add (a := (r2.1.tmod n_1)) (b := n_1) rfl rfl hg3) rfl <| oA rfl rfl <| nT <| sR <| oM rfl rfl <| oA rfl rfl <| nT <| CJ_ret ?_
   cases h
   exact fE (res1 Try.results28 rfl) () eR
  ·
   replace h := ite_f hg2 h
   refine kT <| sR <| oM rfl rfl <| oA rfl rfl <| nT <| CJ_ret ?_
   cases h
   exact fE (res1 Try.results28 rfl) () eR
def volumegroupmake_Src_Range (s_0_L : List Int) (s_0_At : Int) (low : Int) (high : Int) : Option (Int × Int) :=
  grd (inI64 (high - low)) <|
  grd (inI64 (((high - low) + (1 : Int)))) <|
  Option.bind (volumegroupmake_Src_N s_0_L s_0_At (((high - low) + (1 : Int)))) fun r2 =>
  grd (inI64 (low + r2.1)) <|
  some (((low + r2.1), r2.2))
theorem L_volumegroupmake_Src_Range {W : World} {bs_0 : Nat} {As_0_L : HP} {vs_0_L : Value} {s_0_L : List Int} {s_0_At : Int} {low : Int} {high : Int} {r : Int × Int} (rs_0_L : Reads As_0_L tyI vs_0_L s_0_L) (h : volumegroupmake_Src_Range s_0_L s_0_At low high = some r) :
    CSpec Try.prog W 20 [ptr bs_0 0, .int .i64 low, .int .i64 high] [blk bs_0 117 [vs_0_L, .int .i64 s_0_At], As_0_L] (fun x : Unit => .int .i64 r.1) (fun _ => True) (fun x F => blk bs_0 117 [vs_0_L, .int .i64 r.2] :: As_0_L :: F) := by
 refine CSpec.of_body Try.func20 rfl Try.ntmps20 rfl fun F => ?_
 show CJ _ _ _ _ _ _ (_ :: _ :: F)
 unfold volumegroupmake_Src_Range at h
 refine CJ_pure (len_of rs_0_L del1) fun hlen1 => sR <| oA rfl rfl <| nT <| sR <| oM rfl rfl <| oM rfl rfl <| oM rfl rfl <| oM rfl rfl ?_
 obtain ⟨hg1, h⟩ := grd_Ie h
 refine oP (P_sub (a := high) (b := low) rfl rfl hg1) rfl ?_
 obtain ⟨hg2, h⟩ := grd_Ie h
 refine oP (P_add (a := (high - low)) (b := (1 : Int)) rfl rfl hg2) rfl ?_
 obtain ⟨r2, hr3, h⟩ := bind_e h
 refine oO <| O_call (L_volumegroupmake_Src_N rs_0_L hr3) rfl Try.call28 (Dels.cons del0 (Dels.cons del0 Dels.nil)) rfl fun _ _ => ?_
 obtain ⟨hg3, h⟩ := grd_Ie h
 refine oP (P_add (a := low) (b := r2.1) rfl rfl hg3) rfl <| oA rfl rfl <| nT <| CJ_ret ?_
 cases h
 exact fE (res1 Try.results20 rfl) () eR
def volumegroupmake_Src_Word (s_0_L : List Int) (s_0_At : Int) (l : List ByteArray) : Option (ByteArray × Int) :=
  Option.bind (volumegroupmake_Src_N s_0_L s_0_At (((l.length : Nat) : Int))) fun r3 =>
  grd (decide (0 ≤ r3.1 ∧ r3.1 < (l.length : Int))) <|
  some (((l.getD ((r3.1).toNat) ByteArray.empty), r3.2))
theorem L_volumegroupmake_Src_Word {W : World} {bs_0 : Nat} {As_0_L : HP} {vs_0_L : Value} {Al : HP} {vl : Value} {s_0_L : List Int} {s_0_At : Int} {l : List ByteArray} {r : ByteArray × Int} (rs_0_L : Reads As_0_L tyI vs_0_L s_0_L) (rl : Reads Al tyS vl l) (h : volumegroupmake_Src_Word s_0_L s_0_At l = some r) :
    CSpec Try.prog W 22 [ptr bs_0 0, vl] [blk bs_0 117 [vs_0_L, .int .i64 s_0_At], As_0_L, Al] (fun x : Unit => .string r.1) (fun _ => True) (fun x F => blk bs_0 117 [vs_0_L, .int .i64 r.2] :: As_0_L :: Al :: F) := by
 refine CSpec.of_body Try.func22 rfl Try.ntmps22 rfl fun F => ?_
 show CJ _ _ _ _ _ _ (_ :: _ :: _ :: F)
 unfold volumegroupmake_Src_Word at h
 refine CJ_pure (len_of rs_0_L del1) fun hlen1 => CJ_pure (len_of rl del2) fun hlen2 => sR <| oA rfl rfl <| nT <| sR <| oM rfl rfl <| oM rfl rfl <| oM rfl rfl <| oV (V_len rfl foc2 rl Try.runUnderlying43) rfl ?_
 obtain ⟨r3, hr4, h⟩ := bind_e h
 refine oO <| O_call (L_volumegroupmake_Src_N rs_0_L hr4) rfl Try.call28 (Dels.cons del0 (Dels.cons del0 Dels.nil)) rfl fun _ _ => ?_
 obtain ⟨hg1, h⟩ := grd_de h
 refine oV (V_index (i := (r3.1).toNat) rfl rfl (Int.toNat_of_nonneg (hg1.1)).symm (by omega) foc2 rl Try.runUnderlying43 Try.sizeOf9) rfl <| oV (V_loadE rfl rfl (by omega) foc2 rl rfl rfl Try.isAgg9) rfl <| oA rfl rfl <| nT <| CJ_ret ?_
 cases h
 exact fE (res1 Try.results22 rfl) () eR
def volumegrouplaw12_built_l1_b (s_0_L : List Int) (rec : Int → (List UInt64) → Int → Option ((List UInt64) × Int)) (x13 : Int) (x14 : List UInt64) (x16 : Int) : Option ((List UInt64) × Int) :=
  if ((0 : Int) < x16) then
    Option.bind (volumegroupmake_Src_N s_0_L x13 (1048575 : Int)) fun r18 =>
    grd (inI64 (((1 : Int) + r18.1))) <|
    Option.bind (volumegroupmake_Src_Word s_0_L r18.2 ([(ByteArray.mk #[]), (ByteArray.mk #[97]), (ByteArray.mk #[101, 105, 103, 104, 116, 32, 98, 121]), (ByteArray.mk #[115, 111, 109, 101, 32, 108, 111, 110, 103, 101, 114, 32, 116, 101, 120, 116, 32, 111, 102, 32, 116, 104, 101, 32, 103, 114, 111, 117, 112]), (ByteArray.mk #[118, 103, 32, 123, 32, 115, 101, 113, 32, 61, 32, 49, 32, 125])])) fun r20 =>
    Option.bind (volumegroupref12_Prepared x14 (((1 : Int) + r18.1)) r20.1) fun r22 =>
    if (r22.2 = (0 : Int)) then
      Option.bind (volumegroupmake_Src_N s_0_L r20.2 (4 : Int)) fun r26 =>
      if ((0 : Int) < r26.1) then
        grd (decide (1 < r22.1.length)) <|
        grd (decide (0 < r22.1.length)) <|
        grd (inI64 ((x16 - (1 : Int)))) <|
        rec r26.2 ((r22.1.set 0 (r22.1.getD 1 0))) ((x16 - (1 : Int)))
      else
        grd (inI64 ((x16 - (1 : Int)))) <|
        rec r26.2 r22.1 ((x16 - (1 : Int)))
    else
      grd (inI64 ((x16 - (1 : Int)))) <|
      rec r20.2 x14 ((x16 - (1 : Int)))
  else
    some (x14, x13)
def volumegrouplaw12_built_l1 (s_0_L : List Int) : Nat → Int → (List UInt64) → Int → Option ((List UInt64) × Int)
  | 0, _, _, _ => none
  | n + 1, x13, x14, x16 => volumegrouplaw12_built_l1_b s_0_L (volumegrouplaw12_built_l1 s_0_L n) x13 x14 x16
def volumegrouplaw12_built (s_0_L : List Int) (s_0_At : Int) (size : Int) : Option ((List UInt64) × Int) :=
  grd (decide (0 ≤ size ∧ size ≤ 1000000000)) <|
  Option.bind (volumegroupmake_Src_N s_0_L s_0_At (5 : Int)) fun r4 =>
  Option.bind (volumegrouplaw12_built_l1 s_0_L FUEL r4.2 ((List.replicate ((size).toNat) (0 : UInt64))) r4.1) fun a12 =>
  Option.bind (volumegroupmake_Src_N s_0_L a12.2 (6 : Int)) fun r30 =>
  if (r30.1 = (0 : Int)) then
    Option.bind (volumegroupmake_Src_N s_0_L r30.2 size) fun r32 =>
    grd (decide (0 ≤ r32.1 ∧ r32.1 < (a12.1.length : Int))) <|
    Option.bind (volumegroupmake_Src_N s_0_L r32.2 (64 : Int)) fun r34 =>
    grd (decide (0 ≤ r34.1)) <|
    grd (decide (0 ≤ r32.1 ∧ r32.1 < (a12.1.length : Int))) <|
    some (((a12.1.set ((r32.1).toNat) (((a12.1.getD ((r32.1).toNat) 0) ^^^ (shl_u64 (1 : UInt64) ((r34.1).toNat))))), r34.2))
  else
    if (r30.1 = (1 : Int)) then
      Option.bind (volumegroupmake_Src_N s_0_L r30.2 (2 : Int)) fun r36 =>
      Option.bind (volumegroupmake_Src_Raw s_0_L r36.2) fun r38 =>
      grd (decide (0 ≤ r36.1 ∧ r36.1 < (a12.1.length : Int))) <|
      some (((a12.1.set ((r36.1).toNat) (((to_u64 r38.1) * (11400714819323198485 : UInt64)))), r38.2))
    else
      some (a12.1, r30.2)
theorem L_volumegrouplaw12_built {W : World} {bs_0 : Nat} {As_0_L : HP} {vs_0_L : Value} {s_0_L : List Int} {s_0_At : Int} {size : Int} {r : (List UInt64) × Int} (rs_0_L : Reads As_0_L tyI vs_0_L s_0_L) (h : volumegrouplaw12_built s_0_L s_0_At size = some r) :
    CSpec Try.prog W 26 [ptr bs_0 0, .int .i64 size] [blk bs_0 117 [vs_0_L, .int .i64 s_0_At], As_0_L] (fun x : Sl3 => x.v) (fun _ => True) (fun x F => blk bs_0 117 [vs_0_L, .int .i64 r.2] :: As_0_L :: sl tyU x.v r.1 :: F) := by
 refine CSpec.of_body Try.func26 rfl Try.ntmps26 rfl fun F => ?_
 show CJ _ _ _ _ _ _ (_ :: _ :: F)
 unfold volumegrouplaw12_built at h
 refine CJ_pure (len_of rs_0_L del1) fun hlen1 => sR <| oA rfl rfl <| nT <| sR <| oM rfl rfl ?_
 obtain ⟨hg1, h⟩ := grd_de h
 refine oO <| O_make (t := tyU) (m := (size).toNat) (x0 := 0) (z := _) (bytes := _) rfl rfl (Int.toNat_of_nonneg (hg1.1)).symm (Int.toNat_of_nonneg (hg1.1)).symm Try.underlying29 ⟨Try.t39, by kernel_rfl, rfl, rfl, rfl⟩ rfl (by omega) (by decide) rfl fun b2 => oA rfl rfl <| nT <| sR <| oO <| O_buildSlice rfl (bs_43_5_0_1_2_3_4 _ _ _ _ _) rfl fun b3 => RJ_ent (Ent.trans (t0_ eR) (sl_of_lit (t := tyS) (m := 5) [(ByteArray.mk #[]), (ByteArray.mk #[97]), (ByteArray.mk #[101, 105, 103, 104, 116, 32, 98, 121]), (ByteArray.mk #[115, 111, 109, 101, 32, 108, 111, 110, 103, 101, 114, 32, 116, 101, 120, 116, 32, 111, 102, 32, 116, 104, 101, 32, 103, 114, 111, 117, 112]), (ByteArray.mk #[118, 103, 32, 123, 32, 115, 101, 113, 32, 61, 32, 49, 32, 125])] rfl rfl rfl (by decide))) <| oA rfl rfl <| nT <| CJ_seq <| sR <| oM rfl rfl ?_
 obtain ⟨r4, hr5, h⟩ := bind_e h
 refine oO <| O_call (L_volumegroupmake_Src_N rs_0_L hr5) rfl Try.call28 (Dels.cons del2 (Dels.cons del2 Dels.nil)) rfl fun _ _ => oA rfl rfl <| nT ?_
 obtain ⟨y8, hl6, hK7⟩ := bind_c h
 refine CJ_cutT (X := ((List UInt64) × Int) × Sl3) [5, 7, 8, 9, 15, 16, 17, 18, 19, 20, 21, 22, 23, 24, 25, 26, 27, 28, 29, 30, 31, 32, 33, 34, 35, 36, 37, 38, 39, 40] (fun ⟨a12, hd10⟩ => ([(5, hd10.v)] : Slots)) (fun ⟨a12, hd10⟩ R => sl tyU hd10.v a12.1 :: blk bs_0 117 [vs_0_L, .int .i64 a12.2] :: R) (fun ⟨a12, hd10⟩ => y8 = a12) (Dels.cons del3 (Dels.cons del0 Dels.nil)) ?_ ?_
 ·
  refine CJ_block <| CJ_loopR (X := Nat × Int × (List UInt64) × Int × Sl3) [5, 7, 8, 9, 15, 16, 17, 18, 19, 20, 21, 22, 23, 24, 25, 26, 27, 28, 29, 30, 31, 32, 33, 34, 35, 36, 37, 38, 39, 40] (fun ⟨n, x13, x14, x16, hd15⟩ => ([(5, hd15.v), (7, .int .i64 x16)] : Slots)) (fun ⟨n, x13, x14, x16, hd15⟩ R => blk bs_0 117 [vs_0_L, .int .i64 x13] :: sl tyU hd15.v x14 :: R) (fun ⟨n, x13, x14, x16, hd15⟩ => volumegrouplaw12_built_l1 s_0_L n x13 x14 x16 = some y8) (fun ⟨n, x13, x14, x16, hd15⟩ => n) ⟨FUEL, r4.2, (List.replicate ((size).toNat) (0 : UInt64)), r4.1, ⟨some ⟨b2, 0, none⟩, (size).toNat, (size).toNat⟩⟩ ?_ ?_ (t0_ (t2_ eR)) ?_
  · exact hl6
  · exact ⟨rfl, rfl, True.intro⟩
  ·
   rintro ⟨n, x13, x14, x16, hd15⟩ h
   cases n with
   | zero => exact none_e h
   | succ n => ?_
   replace h : volumegrouplaw12_built_l1_b s_0_L (volumegrouplaw12_built_l1 s_0_L n) x13 x14 x16 = some y8 := h
   unfold volumegrouplaw12_built_l1_b at h
   show CJ _ _ _ _ _ (([(5, hd15.v), (7, .int .i64 x16)] : Slots) ++ forget _ _) (blk bs_0 117 [vs_0_L, .int .i64 x13] :: sl tyU hd15.v x14 :: _)
   refine lC del1 fun hlen17 => CJ_seq <| sR <| oM rfl rfl <| oP (P_gtr (a := x16) (b := (0 : Int)) rfl rfl) rfl <| nT <| CJ_condP rfl bT_dec (fun hg2 => ?_) (fun hg2 => ?_)
   ·
    replace h := ite_t hg2 h
    refine kT <| CJ_seq <| CJ_block <| sR <| oM rfl rfl <| oM rfl rfl ?_
    obtain ⟨r18, hr19, h⟩ := bind_e h
    refine oO <| O_call (L_volumegroupmake_Src_N rs_0_L hr19) rfl Try.call28 (Dels.cons del0 (Dels.cons del1 Dels.nil)) rfl fun _ _ => ?_
    obtain ⟨hg3, h⟩ := grd_Ie h
    refine oP (P_add (a := (1 : Int)) (b := r18.1) rfl rfl hg3) rfl <| oM rfl rfl <| oM rfl rfl ?_
    obtain ⟨r20, hr21, h⟩ := bind_e h
    refine oO <| O_call (L_volumegroupmake_Src_Word rs_0_L (Reads.sl _ _ _) hr21) rfl Try.call22 (Dels.cons del0 (Dels.cons del0 (Dels.cons del1 Dels.nil))) rfl fun _ _ => ?_
    obtain ⟨r22, hr23, h⟩ := bind_e h
    refine oO <| O_call (L_volumegroupref12_Prepared (Reads.sl _ _ _) hr23) rfl Try.call35 (Dels.cons del3 Dels.nil) rfl fun X24 _ => oM rfl rfl <| oP (P_extract (v := X24.v) rfl rfl) rfl <| oP (P_extract rfl rfl) rfl <| oA rfl rfl <| oA rfl rfl <| nT <| sR <| oM rfl rfl <| oP (P_eql (a := r22.2) (b := (0 : Int)) rfl rfl) rfl <| nT <| CJ_condP rfl bT_dec (fun hg4 => ?_) (fun hg4 => ?_)
    ·
     replace h := ite_t hg4 h
     refine sR <| oM rfl rfl <| oA rfl rfl <| nT <| sR <| oM rfl rfl ?_
     obtain ⟨r26, hr27, h⟩ := bind_e h
     refine oO <| O_call (L_volumegroupmake_Src_N rs_0_L hr27) rfl Try.call28 (Dels.cons del2 (Dels.cons del2 Dels.nil)) rfl fun _ _ => oP (P_gtr (a := r26.1) (b := (0 : Int)) rfl rfl) rfl <| nT <| CJ_condP rfl bT_dec (fun hg5 => ?_) (fun hg5 => ?_)
     ·
      replace h := ite_t hg5 h
      refine CJ_region <| oM rfl rfl <| oM rfl rfl ?_
      obtain ⟨hg6, h⟩ := grd_de h
      refine oV (V_index (i := 1) rfl rfl rfl hg6 foc3 (Reads.sl _ _ _) Try.runUnderlying29 Try.sizeOf39) rfl <| oV (V_loadE rfl rfl hg6 foc3 (Reads.sl _ _ _) rfl rfl Try.isAgg39) rfl ?_
      obtain ⟨hg7, h⟩ := grd_de h
      refine oV (V_index (i := 0) rfl rfl rfl hg7 foc3 (Reads.sl _ _ _) Try.runUnderlying29 Try.sizeOf39) rfl <| oO <| O_storeE (x' := (r22.1.getD 1 0)) rfl rfl rfl hg7 foc3 rfl rfl rfl Try.sizeOf39 <| RJ_nil <| QJ_block_normal <| QJ_then <| CJ_region <| oM rfl rfl ?_
      obtain ⟨hg8, h⟩ := grd_Ie h
      exact oP (P_sub (a := x16) (b := (1 : Int)) rfl rfl hg8) rfl <| oA rfl rfl <| RJ_nil <| nR ⟨n, r26.2, (r22.1.set 0 (r22.1.getD 1 0)), (x16 - (1 : Int)), X24⟩ h ⟨rfl, rfl, True.intro⟩ (t0_ (t2_ (t0_ (t1_ (eD eR)))))
     ·
      replace h := ite_f hg5 h
      refine CJ_skip <| QJ_block_normal <| QJ_then <| CJ_region <| oM rfl rfl ?_
      obtain ⟨hg9, h⟩ := grd_Ie h
      exact oP (P_sub (a := x16) (b := (1 : Int)) rfl rfl hg9) rfl <| oA rfl rfl <| RJ_nil <| nR ⟨n, r26.2, r22.1, (x16 - (1 : Int)), X24⟩ h ⟨rfl, rfl, True.intro⟩ (t0_ (t2_ (t0_ (t1_ (eD eR)))))
    ·
     replace h := ite_f hg4 h
     refine CJ_skip <| QJ_block_normal <| QJ_then <| CJ_region <| oM rfl rfl ?_
     obtain ⟨hg10, h⟩ := grd_Ie h
     exact oP (P_sub (a := x16) (b := (1 : Int)) rfl rfl hg10) rfl <| oA rfl rfl <| RJ_nil <| nR ⟨n, r20.2, x14, (x16 - (1 : Int)), hd15⟩ h ⟨rfl, rfl, True.intro⟩ (t2_ (t0_ (t1_ (t1_ (eD eR)))))
   ·
    replace h := ite_f hg2 h
    exact CJ_exit <| QJ_then_exit <| QJ_round_exit <| QJ_block_here <| cR ⟨(x14, x13), hd15⟩ (Option.some.inj h).symm ⟨rfl, True.intro⟩ (t1_ eR)
 ·
  rintro ⟨a12, hd10⟩ hy28
  replace h := bindK_at hK7 hy28
  show CJ _ _ _ _ _ (([(5, hd10.v)] : Slots) ++ forget _ _) (sl tyU hd10.v a12.1 :: blk bs_0 117 [vs_0_L, .int .i64 a12.2] :: _)
  refine lC del0 fun hlen29 => CJ_seq <| sR <| oM rfl rfl ?_
  obtain ⟨r30, hr31, h⟩ := bind_e h
  refine oO <| O_call (L_volumegroupmake_Src_N rs_0_L hr31) rfl Try.call28 (Dels.cons del1 (Dels.cons del1 Dels.nil)) rfl fun _ _ => nT <| CJ_block <| sR <| oP (P_eql (a := r30.1) (b := (0 : Int)) rfl rfl) rfl <| oA rfl rfl <| nT <| CJ_condP rfl bT_dec (fun hg11 => ?_) (fun hg11 => ?_)
  ·
   replace h := ite_t hg11 h
   refine AJ_start [As_0_L, sl tyU hd10.v a12.1, sl tyS (.slice (some ⟨b3, 0, none⟩) 5 5) ([(ByteArray.mk #[]), (ByteArray.mk #[97]), (ByteArray.mk #[101, 105, 103, 104, 116, 32, 98, 121]), (ByteArray.mk #[115, 111, 109, 101, 32, 108, 111, 110, 103, 101, 114, 32, 116, 101, 120, 116, 32, 111, 102, 32, 116, 104, 101, 32, 103, 114, 111, 117, 112]), (ByteArray.mk #[118, 103, 32, 123, 32, 115, 101, 113, 32, 61, 32, 49, 32, 125])])] 2048 (by kernel_rfl) rfl <| aN 0 1 rfl rfl (P_move rfl) rfl <| aN 1 3 rfl rfl (P_move rfl) rfl <| aN 2 7 rfl rfl (P_move rfl) rfl <| aN 6 71 rfl rfl (P_move rfl) rfl ?_
   obtain ⟨r32, hr33, h⟩ := bind_e h
   refine AJ_op 3 79 rfl (by kernel_rfl) rfl (GY_none rfl) <| O_call (L_volumegroupmake_Src_N rs_0_L hr33) rfl Try.call28 (Dels.cons del0 (Dels.cons del0 Dels.nil)) rfl fun _ _ => ⟨fun _ => (t1_ (t1_ (t1_ Ent.done))), ?_⟩
   obtain ⟨hg12, h⟩ := grd_de h
   refine aV 4 95 rfl rfl (GY_none rfl) (t1_ (t1_ (t1_ Ent.done))) (V_index (i := (r32.1).toNat) rfl rfl (Int.toNat_of_nonneg (hg12.1)).symm (by omega) foc1 (Reads.sl _ _ _) Try.runUnderlying29 Try.sizeOf39) rfl <| aV 5 127 rfl rfl (GY_none rfl) (t1_ (t1_ (t1_ Ent.done))) (V_loadE rfl rfl (by omega) foc1 (Reads.sl _ _ _) rfl rfl Try.isAgg39) rfl ?_
   obtain ⟨r34, hr35, h⟩ := bind_e h
   refine AJ_op 7 255 rfl (by kernel_rfl) rfl (GY_none rfl) <| O_call (L_volumegroupmake_Src_N rs_0_L hr35) rfl Try.call28 (Dels.cons del0 (Dels.cons del0 Dels.nil)) rfl fun _ _ => ⟨fun _ => (t1_ (t1_ (t1_ Ent.done))), ?_⟩
   obtain ⟨hg13, h⟩ := grd_de h
   refine aN 8 511 rfl rfl (P_shl_u64 (a := (1 : UInt64)) (m := (r34.1).toNat) rfl rfl (Int.toNat_of_nonneg hg13).symm) rfl <| aN 9 1023 rfl rfl (P_xor_u64 (a := (a12.1.getD ((r32.1).toNat) 0)) (b := (shl_u64 (1 : UInt64) ((r34.1).toNat))) rfl rfl) rfl ?_
   obtain ⟨hg14, h⟩ := grd_de h
   refine aV 10 2047 rfl rfl (GY_none rfl) (t1_ (t1_ (t1_ Ent.done))) (V_index (i := (r32.1).toNat) rfl rfl (Int.toNat_of_nonneg (hg14.1)).symm (by omega) foc1 (Reads.sl _ _ _) Try.runUnderlying29 Try.sizeOf39) rfl <| AJ_op 11 4095 rfl (by kernel_rfl) rfl (GY_none rfl) <| O_storeE (x' := ((a12.1.getD ((r32.1).toNat) 0) ^^^ (shl_u64 (1 : UInt64) ((r34.1).toNat)))) rfl rfl rfl (by omega) foc2 rfl rfl rfl Try.sizeOf39 <| ⟨fun h => absurd h (by decide), ?_⟩
   refine AJ_done (by kernel_rfl) <| QJ_block_normal <| QJ_then <| sR <| oM rfl rfl <| oA rfl rfl <| nT <| CJ_ret ?_
   cases h
   exact fE (res1 Try.results26 rfl) hd10 (t0_ (t0_ (t0_ (eD eR))))
  ·
   replace h := ite_f hg11 h
   refine sR <| oP (P_eql (a := r30.1) (b := (1 : Int)) rfl rfl) rfl <| oA rfl rfl <| nT <| CJ_condP rfl bT_dec (fun hg15 => ?_) (fun hg15 => ?_)
   ·
    replace h := ite_t hg15 h
    refine CJ_region <| oM rfl rfl <| oM rfl rfl ?_
    obtain ⟨r36, hr37, h⟩ := bind_e h
    refine oO <| O_call (L_volumegroupmake_Src_N rs_0_L hr37) rfl Try.call28 (Dels.cons del0 (Dels.cons del0 Dels.nil)) rfl fun _ _ => oM rfl rfl ?_
    obtain ⟨r38, hr39, h⟩ := bind_e h
    refine oO <| O_call (L_volumegroupmake_Src_Raw rs_0_L hr39) rfl Try.call63 (Dels.cons del0 (Dels.cons del0 Dels.nil)) rfl fun _ _ => oP (P_conv_u64 (a := r38.1) rfl Try.runUnderlying3 Try.runUnderlying39) rfl <| oP (P_mul_u64 (a := (to_u64 r38.1)) (b := (11400714819323198485 : UInt64)) rfl rfl) rfl ?_
    obtain ⟨hg16, h⟩ := grd_de h
    refine oV (V_index (i := (r36.1).toNat) rfl rfl (Int.toNat_of_nonneg (hg16.1)).symm (by omega) foc2 (Reads.sl _ _ _) Try.runUnderlying29 Try.sizeOf39) rfl <| oO <| O_storeE (x' := ((to_u64 r38.1) * (11400714819323198485 : UInt64))) rfl rfl rfl (by omega) foc2 rfl rfl rfl Try.sizeOf39 <| RJ_nil <| QJ_block_normal <| QJ_then <| sR <| oM rfl rfl <| oA rfl rfl <| nT <| CJ_ret ?_
    cases h
    exact fE (res1 Try.results26 rfl) hd10 (t0_ (t0_ (t0_ (eD eR))))
   ·
    replace h := ite_f hg15 h
    refine CJ_skip <| QJ_block_normal <| QJ_then <| sR <| oM rfl rfl <| oA rfl rfl <| nT <| CJ_ret ?_
    cases h
    exact fE (res1 Try.results26 rfl) hd10 (t0_ (t0_ (t0_ (eD eR))))
def volumegrouplaw12_agrees (words : List UInt64) (seq : Int) (text : ByteArray) : Option (Bool) :=
  Option.bind (volumegrouplaw12_area words) fun r2 =>
  Option.elim r2.2 (
    some false) fun o8 =>
  Option.elim r2.1 (
    none) fun o10 =>
  Option.bind (ring_Read o8 o10) fun r11 =>
  Option.bind (volumegroupref12_Read words) fun r14 =>
  Option.bind (ring_Seqs o8 o10) fun r17 =>
  if (((r11.2 ≠ r14.2) ∨ (r11.1 ≠ r14.1)) ∨ ((((words.length : Nat) : Int) < (4 : Int)) ∧ (((r17.2.2 ≠ (3 : Int)) ∨ (r17.1 ≠ (0 : Int))) ∨ (r17.2.1 ≠ (0 : Int))))) then
    some false
  else
    if ((4 : Int) ≤ ((words.length : Nat) : Int)) then
      if (r17.2.2 ≠ (0 : Int)) then
        some false
      else
        Option.bind (volumegroupref12_Split (words.getD 0 0)) fun r69 =>
        if (r17.1 ≠ r69.Seq) then
          some false
        else
          Option.bind (volumegroupref12_Split (words.getD 1 0)) fun r71 =>
          if (r17.2.1 ≠ r71.Seq) then
            some false
          else
            Option.bind (volumegroupref12_Prepared words seq text) fun r73 =>
            Option.bind (ring_Prepare o8 seq text o10) fun r77 =>
            if (r77.1 ≠ r73.2) then
              some false
            else
              if ((imC r77.2 (0 : Int)) ≠ (0 : Int)) then
                some false
              else
                if (((r77.2.log.length : Nat) : Int) ≠ (0 : Int)) then
                  some false
                else
                  if (r73.2 = (0 : Int)) then
                    Option.bind (volumegroupref02_Same ((imL r77.2 (0 : Int))) r73.1) fun r82 =>
                    if (¬ r82 = true) then
                      some false
                    else
                      if (r73.2 ≠ (0 : Int)) then
                        Option.bind (volumegroupref02_Same ((imL r77.2 (0 : Int))) words) fun r84 =>
                        if (¬ r84 = true) then
                          some false
                        else
                          if (((words.length : Nat) : Int) < (4 : Int)) then
                            Option.bind (ring_Switch o8 r77.2) fun r86 =>
                            if (r86.1 = (3 : Int)) then
                              Option.bind (ring_Format o8 r86.2) fun r88 =>
                              if (r88.1 = (3 : Int)) then
                                Option.bind (ring_Clear o8 r88.2) fun r90 =>
                                some ((decide (r90.1 = (3 : Int))))
                              else
                                some false
                            else
                              some false
                          else
                            grd (decide (1 < ((imL r77.2 (0 : Int))).length)) <|
                            Option.bind (volumegroupref12_Whole ((imL r77.2 (0 : Int))) ((((imL r77.2 (0 : Int))).getD 1 0))) fun r92 =>
                            Option.bind (ring_Switch o8 r77.2) fun r94 =>
                            if ((imC r94.2 (0 : Int)) ≠ (0 : Int)) then
                              some false
                            else
                              if (((r94.2.log.length : Nat) : Int) ≠ (0 : Int)) then
                                some false
                              else
                                grd (decide (1 < ((imL r77.2 (0 : Int))).length)) <|
                                if ((((imL r77.2 (0 : Int))).getD 1 0) = (0 : UInt64)) then
                                  if (r94.1 = (12 : Int)) then
                                    Option.bind (volumegroupref02_Same ((imL r94.2 (0 : Int))) ((imL r77.2 (0 : Int)))) fun r99 =>
                                    some r99
                                  else
                                    some false
                                else
                                  if (¬ r92.2 = true) then
                                    if (r94.1 = (11 : Int)) then
                                      Option.bind (volumegroupref02_Same ((imL r94.2 (0 : Int))) ((imL r77.2 (0 : Int)))) fun r101 =>
                                      some r101
                                    else
                                      some false
                                  else
                                    grd (decide (1 < ((imL r77.2 (0 : Int))).length)) <|
                                    grd (decide (0 < ((imL r77.2 (0 : Int))).length)) <|
                                    if (r94.1 = (0 : Int)) then
                                      Option.bind (volumegroupref02_Same ((imL r94.2 (0 : Int))) ((((imL r77.2 (0 : Int))).set 0 ((((imL r77.2 (0 : Int))).getD 1 0))))) fun r103 =>
                                      some r103
                                    else
                                      some false
                      else
                        if (((words.length : Nat) : Int) < (4 : Int)) then
                          Option.bind (ring_Switch o8 r77.2) fun r105 =>
                          if (r105.1 = (3 : Int)) then
                            Option.bind (ring_Format o8 r105.2) fun r107 =>
                            if (r107.1 = (3 : Int)) then
                              Option.bind (ring_Clear o8 r107.2) fun r109 =>
                              some ((decide (r109.1 = (3 : Int))))
                            else
                              some false
                          else
                            some false
                        else
                          grd (decide (1 < ((imL r77.2 (0 : Int))).length)) <|
                          Option.bind (volumegroupref12_Whole ((imL r77.2 (0 : Int))) ((((imL r77.2 (0 : Int))).getD 1 0))) fun r111 =>
                          Option.bind (ring_Switch o8 r77.2) fun r113 =>
                          if ((imC r113.2 (0 : Int)) ≠ (0 : Int)) then
                            some false
                          else
                            if (((r113.2.log.length : Nat) : Int) ≠ (0 : Int)) then
                              some false
                            else
                              grd (decide (1 < ((imL r77.2 (0 : Int))).length)) <|
                              if ((((imL r77.2 (0 : Int))).getD 1 0) = (0 : UInt64)) then
                                if (r113.1 = (12 : Int)) then
                                  Option.bind (volumegroupref02_Same ((imL r113.2 (0 : Int))) ((imL r77.2 (0 : Int)))) fun r118 =>
                                  some r118
                                else
                                  some false
                              else
                                if (¬ r111.2 = true) then
                                  if (r113.1 = (11 : Int)) then
                                    Option.bind (volumegroupref02_Same ((imL r113.2 (0 : Int))) ((imL r77.2 (0 : Int)))) fun r120 =>
                                    some r120
                                  else
                                    some false
                                else
                                  grd (decide (1 < ((imL r77.2 (0 : Int))).length)) <|
                                  grd (decide (0 < ((imL r77.2 (0 : Int))).length)) <|
                                  if (r113.1 = (0 : Int)) then
                                    Option.bind (volumegroupref02_Same ((imL r113.2 (0 : Int))) ((((imL r77.2 (0 : Int))).set 0 ((((imL r77.2 (0 : Int))).getD 1 0))))) fun r122 =>
                                    some r122
                                  else
                                    some false
                  else
                    if (r73.2 ≠ (0 : Int)) then
                      Option.bind (volumegroupref02_Same ((imL r77.2 (0 : Int))) words) fun r124 =>
                      if (¬ r124 = true) then
                        some false
                      else
                        if (((words.length : Nat) : Int) < (4 : Int)) then
                          Option.bind (ring_Switch o8 r77.2) fun r126 =>
                          if (r126.1 = (3 : Int)) then
                            Option.bind (ring_Format o8 r126.2) fun r128 =>
                            if (r128.1 = (3 : Int)) then
                              Option.bind (ring_Clear o8 r128.2) fun r130 =>
                              some ((decide (r130.1 = (3 : Int))))
                            else
                              some false
                          else
                            some false
                        else
                          grd (decide (1 < ((imL r77.2 (0 : Int))).length)) <|
                          Option.bind (volumegroupref12_Whole ((imL r77.2 (0 : Int))) ((((imL r77.2 (0 : Int))).getD 1 0))) fun r132 =>
                          Option.bind (ring_Switch o8 r77.2) fun r134 =>
                          if ((imC r134.2 (0 : Int)) ≠ (0 : Int)) then
                            some false
                          else
                            if (((r134.2.log.length : Nat) : Int) ≠ (0 : Int)) then
                              some false
                            else
                              grd (decide (1 < ((imL r77.2 (0 : Int))).length)) <|
                              if ((((imL r77.2 (0 : Int))).getD 1 0) = (0 : UInt64)) then
                                if (r134.1 = (12 : Int)) then
                                  Option.bind (volumegroupref02_Same ((imL r134.2 (0 : Int))) ((imL r77.2 (0 : Int)))) fun r139 =>
                                  some r139
                                else
                                  some false
                              else
                                if (¬ r132.2 = true) then
                                  if (r134.1 = (11 : Int)) then
                                    Option.bind (volumegroupref02_Same ((imL r134.2 (0 : Int))) ((imL r77.2 (0 : Int)))) fun r141 =>
                                    some r141
                                  else
                                    some false
                                else
                                  grd (decide (1 < ((imL r77.2 (0 : Int))).length)) <|
                                  grd (decide (0 < ((imL r77.2 (0 : Int))).length)) <|
                                  if (r134.1 = (0 : Int)) then
                                    Option.bind (volumegroupref02_Same ((imL r134.2 (0 : Int))) ((((imL r77.2 (0 : Int))).set 0 ((((imL r77.2 (0 : Int))).getD 1 0))))) fun r143 =>
                                    some r143
                                  else
                                    some false
                    else
                      if (((words.length : Nat) : Int) < (4 : Int)) then
                        Option.bind (ring_Switch o8 r77.2) fun r145 =>
                        if (r145.1 = (3 : Int)) then
                          Option.bind (ring_Format o8 r145.2) fun r147 =>
                          if (r147.1 = (3 : Int)) then
                            Option.bind (ring_Clear o8 r147.2) fun r149 =>
                            some ((decide (r149.1 = (3 : Int))))
                          else
                            some false
                        else
                          some false
                      else
                        grd (decide (1 < ((imL r77.2 (0 : Int))).length)) <|
                        Option.bind (volumegroupref12_Whole ((imL r77.2 (0 : Int))) ((((imL r77.2 (0 : Int))).getD 1 0))) fun r151 =>
                        Option.bind (ring_Switch o8 r77.2) fun r153 =>
                        if ((imC r153.2 (0 : Int)) ≠ (0 : Int)) then
                          some false
                        else
                          if (((r153.2.log.length : Nat) : Int) ≠ (0 : Int)) then
                            some false
                          else
                            grd (decide (1 < ((imL r77.2 (0 : Int))).length)) <|
                            if ((((imL r77.2 (0 : Int))).getD 1 0) = (0 : UInt64)) then
                              if (r153.1 = (12 : Int)) then
                                Option.bind (volumegroupref02_Same ((imL r153.2 (0 : Int))) ((imL r77.2 (0 : Int)))) fun r158 =>
                                some r158
                              else
                                some false
                            else
                              if (¬ r151.2 = true) then
                                if (r153.1 = (11 : Int)) then
                                  Option.bind (volumegroupref02_Same ((imL r153.2 (0 : Int))) ((imL r77.2 (0 : Int)))) fun r160 =>
                                  some r160
                                else
                                  some false
                              else
                                grd (decide (1 < ((imL r77.2 (0 : Int))).length)) <|
                                grd (decide (0 < ((imL r77.2 (0 : Int))).length)) <|
                                if (r153.1 = (0 : Int)) then
                                  Option.bind (volumegroupref02_Same ((imL r153.2 (0 : Int))) ((((imL r77.2 (0 : Int))).set 0 ((((imL r77.2 (0 : Int))).getD 1 0))))) fun r162 =>
                                  some r162
                                else
                                  some false
    else
      Option.bind (volumegroupref12_Prepared words seq text) fun r164 =>
      Option.bind (ring_Prepare o8 seq text o10) fun r168 =>
      if (r168.1 ≠ r164.2) then
        some false
      else
        if ((imC r168.2 (0 : Int)) ≠ (0 : Int)) then
          some false
        else
          if (((r168.2.log.length : Nat) : Int) ≠ (0 : Int)) then
            some false
          else
            if (r164.2 = (0 : Int)) then
              Option.bind (volumegroupref02_Same ((imL r168.2 (0 : Int))) r164.1) fun r173 =>
              if (¬ r173 = true) then
                some false
              else
                if (r164.2 ≠ (0 : Int)) then
                  Option.bind (volumegroupref02_Same ((imL r168.2 (0 : Int))) words) fun r175 =>
                  if (¬ r175 = true) then
                    some false
                  else
                    if (((words.length : Nat) : Int) < (4 : Int)) then
                      Option.bind (ring_Switch o8 r168.2) fun r177 =>
                      if (r177.1 = (3 : Int)) then
                        Option.bind (ring_Format o8 r177.2) fun r179 =>
                        if (r179.1 = (3 : Int)) then
                          Option.bind (ring_Clear o8 r179.2) fun r181 =>
                          some ((decide (r181.1 = (3 : Int))))
                        else
                          some false
                      else
                        some false
                    else
                      grd (decide (1 < ((imL r168.2 (0 : Int))).length)) <|
                      Option.bind (volumegroupref12_Whole ((imL r168.2 (0 : Int))) ((((imL r168.2 (0 : Int))).getD 1 0))) fun r183 =>
                      Option.bind (ring_Switch o8 r168.2) fun r185 =>
                      if ((imC r185.2 (0 : Int)) ≠ (0 : Int)) then
                        some false
                      else
                        if (((r185.2.log.length : Nat) : Int) ≠ (0 : Int)) then
                          some false
                        else
                          grd (decide (1 < ((imL r168.2 (0 : Int))).length)) <|
                          if ((((imL r168.2 (0 : Int))).getD 1 0) = (0 : UInt64)) then
                            if (r185.1 = (12 : Int)) then
                              Option.bind (volumegroupref02_Same ((imL r185.2 (0 : Int))) ((imL r168.2 (0 : Int)))) fun r190 =>
                              some r190
                            else
                              some false
                          else
                            if (¬ r183.2 = true) then
                              if (r185.1 = (11 : Int)) then
                                Option.bind (volumegroupref02_Same ((imL r185.2 (0 : Int))) ((imL r168.2 (0 : Int)))) fun r192 =>
                                some r192
                              else
                                some false
                            else
                              grd (decide (1 < ((imL r168.2 (0 : Int))).length)) <|
                              grd (decide (0 < ((imL r168.2 (0 : Int))).length)) <|
                              if (r185.1 = (0 : Int)) then
                                Option.bind (volumegroupref02_Same ((imL r185.2 (0 : Int))) ((((imL r168.2 (0 : Int))).set 0 ((((imL r168.2 (0 : Int))).getD 1 0))))) fun r194 =>
                                some r194
                              else
                                some false
                else
                  if (((words.length : Nat) : Int) < (4 : Int)) then
                    Option.bind (ring_Switch o8 r168.2) fun r196 =>
                    if (r196.1 = (3 : Int)) then
                      Option.bind (ring_Format o8 r196.2) fun r198 =>
                      if (r198.1 = (3 : Int)) then
                        Option.bind (ring_Clear o8 r198.2) fun r200 =>
                        some ((decide (r200.1 = (3 : Int))))
                      else
                        some false
                    else
                      some false
                  else
                    grd (decide (1 < ((imL r168.2 (0 : Int))).length)) <|
                    Option.bind (volumegroupref12_Whole ((imL r168.2 (0 : Int))) ((((imL r168.2 (0 : Int))).getD 1 0))) fun r202 =>
                    Option.bind (ring_Switch o8 r168.2) fun r204 =>
                    if ((imC r204.2 (0 : Int)) ≠ (0 : Int)) then
                      some false
                    else
                      if (((r204.2.log.length : Nat) : Int) ≠ (0 : Int)) then
                        some false
                      else
                        grd (decide (1 < ((imL r168.2 (0 : Int))).length)) <|
                        if ((((imL r168.2 (0 : Int))).getD 1 0) = (0 : UInt64)) then
                          if (r204.1 = (12 : Int)) then
                            Option.bind (volumegroupref02_Same ((imL r204.2 (0 : Int))) ((imL r168.2 (0 : Int)))) fun r209 =>
                            some r209
                          else
                            some false
                        else
                          if (¬ r202.2 = true) then
                            if (r204.1 = (11 : Int)) then
                              Option.bind (volumegroupref02_Same ((imL r204.2 (0 : Int))) ((imL r168.2 (0 : Int)))) fun r211 =>
                              some r211
                            else
                              some false
                          else
                            grd (decide (1 < ((imL r168.2 (0 : Int))).length)) <|
                            grd (decide (0 < ((imL r168.2 (0 : Int))).length)) <|
                            if (r204.1 = (0 : Int)) then
                              Option.bind (volumegroupref02_Same ((imL r204.2 (0 : Int))) ((((imL r168.2 (0 : Int))).set 0 ((((imL r168.2 (0 : Int))).getD 1 0))))) fun r213 =>
                              some r213
                            else
                              some false
            else
              if (r164.2 ≠ (0 : Int)) then
                Option.bind (volumegroupref02_Same ((imL r168.2 (0 : Int))) words) fun r215 =>
                if (¬ r215 = true) then
                  some false
                else
                  if (((words.length : Nat) : Int) < (4 : Int)) then
                    Option.bind (ring_Switch o8 r168.2) fun r217 =>
                    if (r217.1 = (3 : Int)) then
                      Option.bind (ring_Format o8 r217.2) fun r219 =>
                      if (r219.1 = (3 : Int)) then
                        Option.bind (ring_Clear o8 r219.2) fun r221 =>
                        some ((decide (r221.1 = (3 : Int))))
                      else
                        some false
                    else
                      some false
                  else
                    grd (decide (1 < ((imL r168.2 (0 : Int))).length)) <|
                    Option.bind (volumegroupref12_Whole ((imL r168.2 (0 : Int))) ((((imL r168.2 (0 : Int))).getD 1 0))) fun r223 =>
                    Option.bind (ring_Switch o8 r168.2) fun r225 =>
                    if ((imC r225.2 (0 : Int)) ≠ (0 : Int)) then
                      some false
                    else
                      if (((r225.2.log.length : Nat) : Int) ≠ (0 : Int)) then
                        some false
                      else
                        grd (decide (1 < ((imL r168.2 (0 : Int))).length)) <|
                        if ((((imL r168.2 (0 : Int))).getD 1 0) = (0 : UInt64)) then
                          if (r225.1 = (12 : Int)) then
                            Option.bind (volumegroupref02_Same ((imL r225.2 (0 : Int))) ((imL r168.2 (0 : Int)))) fun r230 =>
                            some r230
                          else
                            some false
                        else
                          if (¬ r223.2 = true) then
                            if (r225.1 = (11 : Int)) then
                              Option.bind (volumegroupref02_Same ((imL r225.2 (0 : Int))) ((imL r168.2 (0 : Int)))) fun r232 =>
                              some r232
                            else
                              some false
                          else
                            grd (decide (1 < ((imL r168.2 (0 : Int))).length)) <|
                            grd (decide (0 < ((imL r168.2 (0 : Int))).length)) <|
                            if (r225.1 = (0 : Int)) then
                              Option.bind (volumegroupref02_Same ((imL r225.2 (0 : Int))) ((((imL r168.2 (0 : Int))).set 0 ((((imL r168.2 (0 : Int))).getD 1 0))))) fun r234 =>
                              some r234
                            else
                              some false
              else
                if (((words.length : Nat) : Int) < (4 : Int)) then
                  Option.bind (ring_Switch o8 r168.2) fun r236 =>
                  if (r236.1 = (3 : Int)) then
                    Option.bind (ring_Format o8 r236.2) fun r238 =>
                    if (r238.1 = (3 : Int)) then
                      Option.bind (ring_Clear o8 r238.2) fun r240 =>
                      some ((decide (r240.1 = (3 : Int))))
                    else
                      some false
                  else
                    some false
                else
                  grd (decide (1 < ((imL r168.2 (0 : Int))).length)) <|
                  Option.bind (volumegroupref12_Whole ((imL r168.2 (0 : Int))) ((((imL r168.2 (0 : Int))).getD 1 0))) fun r242 =>
                  Option.bind (ring_Switch o8 r168.2) fun r244 =>
                  if ((imC r244.2 (0 : Int)) ≠ (0 : Int)) then
                    some false
                  else
                    if (((r244.2.log.length : Nat) : Int) ≠ (0 : Int)) then
                      some false
                    else
                      grd (decide (1 < ((imL r168.2 (0 : Int))).length)) <|
                      if ((((imL r168.2 (0 : Int))).getD 1 0) = (0 : UInt64)) then
                        if (r244.1 = (12 : Int)) then
                          Option.bind (volumegroupref02_Same ((imL r244.2 (0 : Int))) ((imL r168.2 (0 : Int)))) fun r249 =>
                          some r249
                        else
                          some false
                      else
                        if (¬ r242.2 = true) then
                          if (r244.1 = (11 : Int)) then
                            Option.bind (volumegroupref02_Same ((imL r244.2 (0 : Int))) ((imL r168.2 (0 : Int)))) fun r251 =>
                            some r251
                          else
                            some false
                        else
                          grd (decide (1 < ((imL r168.2 (0 : Int))).length)) <|
                          grd (decide (0 < ((imL r168.2 (0 : Int))).length)) <|
                          if (r244.1 = (0 : Int)) then
                            Option.bind (volumegroupref02_Same ((imL r244.2 (0 : Int))) ((((imL r168.2 (0 : Int))).set 0 ((((imL r168.2 (0 : Int))).getD 1 0))))) fun r253 =>
                            some r253
                          else
                            some false
theorem L_volumegrouplaw12_agrees {W : World} {Awords : HP} {vwords : Value} {words : List UInt64} {seq : Int} {text : ByteArray} {r : Bool} (rwords : Reads Awords tyU vwords words) (h : volumegrouplaw12_agrees words seq text = some r) :
    CSpec Try.prog W 27 [vwords, .int .i64 seq, .string text] [Awords] (fun x : Unit => .bool r) (fun _ => True) (fun x F => Awords :: F) := by
 refine CSpec.of_body Try.func27 rfl Try.ntmps27 rfl fun F => ?_
 show CJ _ _ _ _ _ _ (_ :: F)
 unfold volumegrouplaw12_agrees at h
 refine CJ_pure (len_of rwords del0) fun hlen1 => sR <| oA rfl rfl <| nT <| sR <| oM rfl rfl ?_
 obtain ⟨r2, hr3, h⟩ := bind_e h
 refine oO <| O_call (L_volumegrouplaw12_area rwords hr3) rfl Try.call15 (Dels.cons del0 Dels.nil) rfl fun X4 _ => oM rfl rfl <| oP (P_extract rfl rfl) rfl <| oP (P_extract rfl rfl) rfl <| oA rfl rfl <| oA rfl rfl <| nT <| CJ_seq <| sR <| oM rfl rfl ?_
 rcases opt_e h with ⟨ht7, h⟩ | ⟨o8, ht7, h⟩
 ·
  rw [ht7]
  refine RJ_ent (t0_ (t0_ (eD eR))) <| oP (P_eqlIN rfl Try.underlying26) rfl <| nT <| CJ_condT rfl rfl <| sR <| oA rfl rfl <| nT <| CJ_ret <| QJ_then_ret ?_
  cases h
  exact fE (res1 Try.results27 rfl) () (t0_ (eD eR))
 ·
  rw [ht7]
  refine RJ_ent (Ent.takeC (A' := DevP X4.1 o8 X4.2) del2 rfl eR) <| oP (P_eqlIfN rfl rfl Try.underlying26) rfl <| nT <| CJ_condF rfl rfl <| kT <| sR <| oM rfl rfl ?_
  rcases opt_e h with ⟨ht9, h⟩ | ⟨o10, ht9, h⟩
  ·
   rw [ht9]
   exact RJ_ent (t0_ (t0_ (eD eR))) <| none_e h
  ·
   rw [ht9]
   refine RJ_ent (Ent.takeC (A' := Arr X4.1 o10) del2 rfl eR) ?_
   obtain ⟨r11, hr12, h⟩ := bind_e h
   refine oO <| O_call (L_ring_Read hr12) rfl Try.call18 (Dels.cons del1 (Dels.cons del0 Dels.nil)) rfl fun _ _ => oM rfl rfl <| oP (P_extract rfl rfl) rfl <| oP (P_extract rfl rfl) rfl <| oO <| O_alloc Try.zeroValue34 rfl rfl fun b13 => oO <| O_storeN rfl rfl foc0 Try.sizeOf34 rfl rfl rfl <| oA rfl rfl <| nT <| sR <| oM rfl rfl ?_
   obtain ⟨r14, hr15, h⟩ := bind_e h
   refine oO <| O_call (L_volumegroupref12_Read rwords hr15) rfl Try.call38 (Dels.cons del3 Dels.nil) rfl fun _ _ => oM rfl rfl <| oP (P_extract rfl rfl) rfl <| oP (P_extract rfl rfl) rfl <| oO <| O_alloc Try.zeroValue34 rfl rfl fun b16 => oO <| O_storeN rfl rfl foc0 Try.sizeOf34 rfl rfl rfl <| oA rfl rfl <| nT <| sR <| oM rfl rfl ?_
   obtain ⟨r17, hr18, h⟩ := bind_e h
   refine oO <| O_call (L_ring_Seqs hr18) rfl Try.call25 (Dels.cons del3 (Dels.cons del3 Dels.nil)) rfl fun _ _ => oM rfl rfl <| oP (P_extract rfl rfl) rfl <| oP (P_extract rfl rfl) rfl <| oP (P_extract rfl rfl) rfl <| oA rfl rfl <| oA rfl rfl <| oA rfl rfl <| nT <| CJ_seq <| sR <| oM rfl rfl <| oM rfl rfl <| oP (P_neq (a := r11.2) (b := r14.2) rfl rfl) rfl <| oM rfl rfl <| RJ_mbF rfl rfl rfl (fun hG19 => have hP20 : ¬ (r11.2 ≠ r14.2) := nP (bT_dec) hG19; V_loadN rfl foc4 Try.isAgg34 Try.sizeOf34 rfl rfl) <| RJ_mbF rfl rfl rfl (fun hG21 => have hP22 : ¬ (r11.2 ≠ r14.2) := nP (bT_dec) hG21; V_loadN rfl foc2 Try.isAgg34 Try.sizeOf34 rfl rfl) <| RJ_mbF rfl rfl rfl (fun hG23 => have hP24 : ¬ (r11.2 ≠ r14.2) := nP (bT_dec) hG23; VJ_P (P_neqS (enc := (tyapi_Copy).enc) (r11.1) (r14.1) (mbx hG23 rfl) (mbx hG23 rfl) eqs_34 (by kernel_rfl))) <| oP (P_pickOr rfl rfl (fun hh => mbx (not_f hh) rfl)) rfl <| oM rfl rfl <| RJ_mbF rfl rfl rfl (fun hG25 => have hP26 : ¬ ((r11.2 ≠ r14.2) ∨ (r11.1 ≠ r14.1)) := nP ((bT_or bT_dec bT_dec)) hG25; VJ_P (P_move rfl)) <| RJ_mbF rfl rfl rfl (fun hG27 => have hP28 : ¬ ((r11.2 ≠ r14.2) ∨ (r11.1 ≠ r14.1)) := nP ((bT_or bT_dec bT_dec)) hG27; V_len (mbx hG27 rfl) foc3 rwords Try.runUnderlying29) <| RJ_mbF rfl rfl rfl (fun hG29 => have hP30 : ¬ ((r11.2 ≠ r14.2) ∨ (r11.1 ≠ r14.1)) := nP ((bT_or bT_dec bT_dec)) hG29; VJ_P (P_lss (a := ((words.length : Nat) : Int)) (b := (4 : Int)) (mbx hG29 rfl) rfl)) ?_
   refine RJ_mbF rfl rfl rfl (fun hG31 => have hP32 : ¬ ((r11.2 ≠ r14.2) ∨ (r11.1 ≠ r14.1)) := nP ((bT_or bT_dec bT_dec)) hG31; VJ_P (P_move (mbx hG31 rfl))) <| RJ_mbGT rfl rfl rfl (fun hG33 => have hP34 : ¬ ((r11.2 ≠ r14.2) ∨ (r11.1 ≠ r14.1)) := nP ((bT_or bT_dec bT_dec)) (and_l hG33); have hP35 : (((words.length : Nat) : Int) < (4 : Int)) := (bT_dec).1 (and_r hG33); VJ_P (P_move rfl)) <| RJ_mbGT rfl rfl rfl (fun hG36 => have hP37 : ¬ ((r11.2 ≠ r14.2) ∨ (r11.1 ≠ r14.1)) := nP ((bT_or bT_dec bT_dec)) (and_l hG36); have hP38 : (((words.length : Nat) : Int) < (4 : Int)) := (bT_dec).1 (and_r hG36); VJ_P (P_neq (a := r17.2.2) (b := (3 : Int)) (mbx hG36 rfl) rfl)) <| RJ_mbGT rfl rfl rfl (fun hG39 => have hP40 : ¬ ((r11.2 ≠ r14.2) ∨ (r11.1 ≠ r14.1)) := nP ((bT_or bT_dec bT_dec)) (and_l hG39); have hP41 : (((words.length : Nat) : Int) < (4 : Int)) := (bT_dec).1 (and_r hG39); VJ_P (P_move (mbx hG39 rfl))) <| RJ_mbGF rfl rfl rfl (fun hG42 => have hP43 : ¬ ((r11.2 ≠ r14.2) ∨ (r11.1 ≠ r14.1)) := nP ((bT_or bT_dec bT_dec)) (and_l (and_l hG42)); have hP44 : (((words.length : Nat) : Int) < (4 : Int)) := (bT_dec).1 (and_r (and_l hG42)); have hP45 : ¬ (r17.2.2 ≠ (3 : Int)) := nP (bT_dec) (and_r hG42); VJ_P (P_move rfl)) ?_
   refine RJ_mbGF rfl rfl rfl (fun hG46 => have hP47 : ¬ ((r11.2 ≠ r14.2) ∨ (r11.1 ≠ r14.1)) := nP ((bT_or bT_dec bT_dec)) (and_l (and_l hG46)); have hP48 : (((words.length : Nat) : Int) < (4 : Int)) := (bT_dec).1 (and_r (and_l hG46)); have hP49 : ¬ (r17.2.2 ≠ (3 : Int)) := nP (bT_dec) (and_r hG46); VJ_P (P_neq (a := r17.1) (b := (0 : Int)) (mbx hG46 rfl) rfl)) <| RJ_mbGT rfl rfl rfl (fun hG50 => have hP51 : ¬ ((r11.2 ≠ r14.2) ∨ (r11.1 ≠ r14.1)) := nP ((bT_or bT_dec bT_dec)) (and_l hG50); have hP52 : (((words.length : Nat) : Int) < (4 : Int)) := (bT_dec).1 (and_r hG50); VJ_P (P_pickOr (mbx hG50 rfl) rfl (fun hh => mbx (and_i hG50 (not_f hh)) rfl))) <| RJ_mbGT rfl rfl rfl (fun hG53 => have hP54 : ¬ ((r11.2 ≠ r14.2) ∨ (r11.1 ≠ r14.1)) := nP ((bT_or bT_dec bT_dec)) (and_l hG53); have hP55 : (((words.length : Nat) : Int) < (4 : Int)) := (bT_dec).1 (and_r hG53); VJ_P (P_move (mbx hG53 rfl))) <| RJ_mbGF rfl rfl rfl (fun hG56 => have hP57 : ¬ ((r11.2 ≠ r14.2) ∨ (r11.1 ≠ r14.1)) := nP ((bT_or bT_dec bT_dec)) (and_l (and_l hG56)); have hP58 : (((words.length : Nat) : Int) < (4 : Int)) := (bT_dec).1 (and_r (and_l hG56)); have hP59 : ¬ ((r17.2.2 ≠ (3 : Int)) ∨ (r17.1 ≠ (0 : Int))) := nP ((bT_or bT_dec bT_dec)) (and_r hG56); VJ_P (P_move rfl)) ?_
   refine RJ_mbGF rfl rfl rfl (fun hG60 => have hP61 : ¬ ((r11.2 ≠ r14.2) ∨ (r11.1 ≠ r14.1)) := nP ((bT_or bT_dec bT_dec)) (and_l (and_l hG60)); have hP62 : (((words.length : Nat) : Int) < (4 : Int)) := (bT_dec).1 (and_r (and_l hG60)); have hP63 : ¬ ((r17.2.2 ≠ (3 : Int)) ∨ (r17.1 ≠ (0 : Int))) := nP ((bT_or bT_dec bT_dec)) (and_r hG60); VJ_P (P_neq (a := r17.2.1) (b := (0 : Int)) (mbx hG60 rfl) rfl)) <| RJ_mbGT rfl rfl rfl (fun hG64 => have hP65 : ¬ ((r11.2 ≠ r14.2) ∨ (r11.1 ≠ r14.1)) := nP ((bT_or bT_dec bT_dec)) (and_l hG64); have hP66 : (((words.length : Nat) : Int) < (4 : Int)) := (bT_dec).1 (and_r hG64); VJ_P (P_pickOr (mbx hG64 rfl) rfl (fun hh => mbx (and_i hG64 (not_f hh)) rfl))) <| RJ_mbF rfl rfl rfl (fun hG67 => have hP68 : ¬ ((r11.2 ≠ r14.2) ∨ (r11.1 ≠ r14.1)) := nP ((bT_or bT_dec bT_dec)) hG67; VJ_P (P_pickAnd (mbx hG67 rfl) (fun hh => mbx (and_i hG67 hh) rfl) rfl)) <| oP (P_pickOr rfl rfl (fun hh => mbx (not_f hh) rfl)) rfl <| oM rfl rfl <| RJ_splitP 72 rfl (bT_or (bT_or bT_dec bT_dec) (bT_and bT_dec (bT_or (bT_or bT_dec bT_dec) bT_dec))) (fun hg1B hg1 => ?_) (fun hg1B hg1 => ?_)
   ·
    replace h := ite_t hg1 h
    refine RJ_gn (GY_no rfl rfl rfl hg1B) rfl rfl <| RJ_gn (GY_no rfl rfl rfl hg1B) rfl rfl <| RJ_gn (GY_no rfl rfl rfl hg1B) rfl rfl <| RJ_gn (GY_no rfl rfl rfl hg1B) rfl rfl <| RJ_gn (GY_undef rfl rfl rfl) rfl rfl <| RJ_gn (GY_undef rfl rfl rfl) rfl rfl <| RJ_gn (GY_undef rfl rfl rfl) rfl rfl <| RJ_gn (GY_undef rfl rfl rfl) rfl rfl <| RJ_gn (GY_undef rfl rfl rfl) rfl rfl <| RJ_gn (GY_undef rfl rfl rfl) rfl rfl <| RJ_gn (GY_undef rfl rfl rfl) rfl rfl <| RJ_gn (GY_undef rfl rfl rfl) rfl rfl <| RJ_gn (GY_undef rfl rfl rfl) rfl rfl <| RJ_gn (GY_undef rfl rfl rfl) rfl rfl <| RJ_gn (GY_undef rfl rfl rfl) rfl rfl <| RJ_gn (GY_undef rfl rfl rfl) rfl rfl <| RJ_gn (GY_undef rfl rfl rfl) rfl rfl <| RJ_gn (GY_undef rfl rfl rfl) rfl rfl <| RJ_gn (GY_undef rfl rfl rfl) rfl rfl <| RJ_gn (GY_undef rfl rfl rfl) rfl rfl <| RJ_gn (GY_undef rfl rfl rfl) rfl rfl <| RJ_gn (GY_undef rfl rfl rfl) rfl rfl <| RJ_gn (GY_undef rfl rfl rfl) rfl rfl <| RJ_gn (GY_undef rfl rfl rfl) rfl rfl <| RJ_gn (GY_no rfl rfl rfl hg1B) rfl rfl <| oP (P_pickT rfl hg1B rfl) rfl <| nT <| CJ_condT rfl rfl <| sR <| oA rfl rfl <| nT <| CJ_ret <| QJ_then_ret ?_
    cases h
    exact fE (res1 Try.results27 rfl) () (t3_ (eD (eD (eD (eD eR)))))
   ·
    replace h := ite_f hg1 h
    refine gP (GY_yes rfl rfl rfl hg1B) (P_move rfl) rfl <| gV (GY_yes rfl rfl rfl hg1B) (V_len rfl foc3 rwords Try.runUnderlying29) rfl <| gP (GY_yes rfl rfl rfl hg1B) (P_geq (a := ((words.length : Nat) : Int)) (b := (4 : Int)) rfl rfl) rfl <| gP (GY_yes rfl rfl rfl hg1B) (P_move rfl) rfl <| RJ_splitP 76 rfl bT_dec (fun hg2B hg2 => ?_) (fun hg2B hg2 => ?_)
    ·
     replace h := ite_t hg2 h
     refine gP (GY_yes rfl rfl rfl hg2B) (P_move rfl) rfl <| gP (GY_yes rfl rfl rfl hg2B) (P_neq (a := r17.2.2) (b := (0 : Int)) rfl rfl) rfl <| gP (GY_yes rfl rfl rfl hg2B) (P_move rfl) rfl <| RJ_splitP 79 rfl bT_dec (fun hg3B hg3 => ?_) (fun hg3B hg3 => ?_)
     ·
      replace h := ite_t hg3 h
      refine RJ_gn (GY_no rfl rfl rfl hg3B) rfl rfl <| RJ_gn (GY_no rfl rfl rfl hg3B) rfl rfl <| RJ_gn (GY_no rfl rfl rfl hg3B) rfl rfl <| RJ_gn (GY_no rfl rfl rfl hg3B) rfl rfl <| RJ_gn (GY_no rfl rfl rfl hg3B) rfl rfl <| RJ_gn (GY_no rfl rfl rfl hg3B) rfl rfl <| RJ_gn (GY_no rfl rfl rfl hg3B) rfl rfl <| gP (GY_yes rfl rfl rfl hg2B) (P_pickT rfl hg3B rfl) rfl <| gP (GY_yes rfl rfl rfl hg2B) (P_move rfl) rfl <| RJ_gn (GY_no rfl rfl rfl rfl) rfl rfl <| RJ_gn (GY_no rfl rfl rfl rfl) rfl rfl <| RJ_gn (GY_no rfl rfl rfl rfl) rfl rfl <| RJ_gn (GY_no rfl rfl rfl rfl) rfl rfl <| RJ_gn (GY_no rfl rfl rfl rfl) rfl rfl <| RJ_gn (GY_no rfl rfl rfl rfl) rfl rfl <| RJ_gn (GY_no rfl rfl rfl rfl) rfl rfl <| gP (GY_yes rfl rfl rfl hg2B) (P_pickT rfl rfl rfl) rfl <| gP (GY_yes rfl rfl rfl hg1B) (P_pickT rfl hg2B rfl) rfl <| oP (P_pickF rfl hg1B rfl) rfl <| nT <| CJ_condT rfl rfl <| sR <| oA rfl rfl <| nT <| CJ_ret <| QJ_then_ret ?_
      cases h
      exact fE (res1 Try.results27 rfl) () (t3_ (eD (eD (eD (eD eR)))))
     ·
      replace h := ite_f hg3 h
      refine gP (GY_yes rfl rfl rfl hg3B) (P_move rfl) rfl <| gP (GY_yes rfl rfl rfl hg3B) (P_move rfl) rfl <| gV (GY_yes rfl rfl rfl hg3B) (V_index (i := 0) rfl rfl rfl (by omega) foc3 rwords Try.runUnderlying29 Try.sizeOf39) rfl <| gV (GY_yes rfl rfl rfl hg3B) (V_loadE rfl rfl (by omega) foc3 rwords rfl rfl Try.isAgg39) rfl ?_
      obtain ⟨r69, hr70, h⟩ := bind_e h
      refine RJ_gy (GY_yes rfl rfl rfl hg3B) <| O_call (L_volumegroupref12_Split hr70) rfl Try.call40 Dels.nil rfl fun _ _ => gP (GY_yes rfl rfl rfl hg3B) (P_field rfl (fld_73_0 _ _ _ _)) rfl <| gP (GY_yes rfl rfl rfl hg3B) (P_neq (a := r17.1) (b := r69.Seq) rfl rfl) rfl <| gP (GY_yes rfl rfl rfl hg2B) (P_pickF rfl hg3B rfl) rfl <| gP (GY_yes rfl rfl rfl hg2B) (P_move rfl) rfl <| RJ_splitP 88 rfl bT_dec (fun hg4B hg4 => ?_) (fun hg4B hg4 => ?_)
      ·
       replace h := ite_t hg4 h
       refine RJ_gn (GY_no rfl rfl rfl hg4B) rfl rfl <| RJ_gn (GY_no rfl rfl rfl hg4B) rfl rfl <| RJ_gn (GY_no rfl rfl rfl hg4B) rfl rfl <| RJ_gn (GY_no rfl rfl rfl hg4B) rfl rfl <| RJ_gn (GY_no rfl rfl rfl hg4B) rfl rfl <| RJ_gn (GY_no rfl rfl rfl hg4B) rfl rfl <| RJ_gn (GY_no rfl rfl rfl hg4B) rfl rfl <| gP (GY_yes rfl rfl rfl hg2B) (P_pickT rfl hg4B rfl) rfl <| gP (GY_yes rfl rfl rfl hg1B) (P_pickT rfl hg2B rfl) rfl <| oP (P_pickF rfl hg1B rfl) rfl <| nT <| CJ_condT rfl rfl <| sR <| oA rfl rfl <| nT <| CJ_ret <| QJ_then_ret ?_
       cases h
       exact fE (res1 Try.results27 rfl) () (t3_ (eD (eD (eD (eD eR)))))
      ·
       replace h := ite_f hg4 h
       refine gP (GY_yes rfl rfl rfl hg4B) (P_move rfl) rfl <| gP (GY_yes rfl rfl rfl hg4B) (P_move rfl) rfl <| gV (GY_yes rfl rfl rfl hg4B) (V_index (i := 1) rfl rfl rfl (by omega) foc3 rwords Try.runUnderlying29 Try.sizeOf39) rfl <| gV (GY_yes rfl rfl rfl hg4B) (V_loadE rfl rfl (by omega) foc3 rwords rfl rfl Try.isAgg39) rfl ?_
       obtain ⟨r71, hr72, h⟩ := bind_e h
       refine RJ_gy (GY_yes rfl rfl rfl hg4B) <| O_call (L_volumegroupref12_Split hr72) rfl Try.call40 Dels.nil rfl fun _ _ => gP (GY_yes rfl rfl rfl hg4B) (P_field rfl (fld_73_0 _ _ _ _)) rfl <| gP (GY_yes rfl rfl rfl hg4B) (P_neq (a := r17.2.1) (b := r71.Seq) rfl rfl) rfl <| gP (GY_yes rfl rfl rfl hg2B) (P_pickF rfl hg4B rfl) rfl <| gP (GY_yes rfl rfl rfl hg1B) (P_pickT rfl hg2B rfl) rfl <| oP (P_pickF rfl hg1B rfl) rfl <| nT <| CJ_condP rfl bT_dec (fun hg5 => ?_) (fun hg5 => ?_)
       ·
        replace h := ite_t hg5 h
        refine sR <| oA rfl rfl <| nT <| CJ_ret <| QJ_then_ret ?_
        cases h
        exact fE (res1 Try.results27 rfl) () (t3_ (eD (eD (eD (eD eR)))))
       ·
        replace h := ite_f hg5 h
        refine kT <| sR <| oM rfl rfl <| oM rfl rfl <| oM rfl rfl ?_
        obtain ⟨r73, hr74, h⟩ := bind_e h
        refine oO <| O_call (L_volumegroupref12_Prepared rwords hr74) rfl Try.call35 (Dels.cons del3 Dels.nil) rfl fun X75 _ => oM rfl rfl <| oP (P_extract (v := X75.v) rfl rfl) rfl <| oP (P_extract rfl rfl) rfl <| oA rfl rfl <| oA rfl rfl <| nT <| CJ_seq <| sR <| oM rfl rfl <| oM rfl rfl <| oM rfl rfl ?_
        obtain ⟨r77, hr78, h⟩ := bind_e h
        refine oO <| O_call (L_ring_Prepare hr78) rfl Try.call16 (Dels.cons del2 (Dels.cons del2 Dels.nil)) rfl fun _ _ => oM rfl rfl <| oP (P_neq (a := r77.1) (b := r73.2) rfl rfl) rfl <| nT <| CJ_condP rfl bT_dec (fun hg6 => ?_) (fun hg6 => ?_)
        ·
         replace h := ite_t hg6 h
         refine sR <| oA rfl rfl <| nT <| CJ_ret <| QJ_then_ret ?_
         cases h
         exact fE (res1 Try.results27 rfl) () (t2_ (eD (eD (eD (eD (eD eR))))))
        ·
         replace h := ite_f hg6 h
         refine kT <| sR <| oM rfl rfl <| oO <| O_call (c_ImageD) rfl Try.call30 (Dels.cons del1 Dels.nil) rfl fun X79 _ => RJ_pure (len_of (Reads.sl _ _ _) del0) fun hlen81 => oM rfl rfl <| oP (P_extract (v := (Sl3.v X79)) rfl rfl) rfl <| oP (P_extract rfl rfl) rfl <| oA rfl rfl <| oA rfl rfl <| RJ_nil <| QJ_ent (t0_ (t0_ (t0_ (t0_ (t0_ (eD (eD eR))))))) <| QJ_then <| CJ_seq <| sR <| oM rfl rfl <| oP (P_neq (a := (imC r77.2 (0 : Int))) (b := (0 : Int)) rfl rfl) rfl <| oM rfl rfl <| RJ_splitP 119 rfl bT_dec (fun hg7B hg7 => ?_) (fun hg7B hg7 => ?_)
         ·
          replace h := ite_t hg7 h
          refine RJ_gn (GY_no rfl rfl rfl hg7B) rfl rfl <| RJ_gn (GY_no rfl rfl rfl hg7B) rfl rfl <| RJ_gn (GY_no rfl rfl rfl hg7B) rfl rfl <| oP (P_pickT rfl hg7B rfl) rfl <| oM rfl rfl <| RJ_gn (GY_no rfl rfl rfl rfl) rfl rfl <| RJ_gn (GY_no rfl rfl rfl rfl) rfl rfl <| RJ_gn (GY_no rfl rfl rfl rfl) rfl rfl <| RJ_gn (GY_undef rfl rfl rfl) rfl rfl <| RJ_gn (GY_undef rfl rfl rfl) rfl rfl <| RJ_gn (GY_undef rfl rfl rfl) rfl rfl <| RJ_gn (GY_undef rfl rfl rfl) rfl rfl <| RJ_gn (GY_no rfl rfl rfl rfl) rfl rfl <| oP (P_pickT rfl rfl rfl) rfl <| oM rfl rfl <| RJ_gn (GY_no rfl rfl rfl rfl) rfl rfl <| RJ_gn (GY_no rfl rfl rfl rfl) rfl rfl <| RJ_gn (GY_no rfl rfl rfl rfl) rfl rfl <| RJ_gn (GY_undef rfl rfl rfl) rfl rfl <| RJ_gn (GY_undef rfl rfl rfl) rfl rfl <| RJ_gn (GY_undef rfl rfl rfl) rfl rfl <| RJ_gn (GY_undef rfl rfl rfl) rfl rfl <| RJ_gn (GY_no rfl rfl rfl rfl) rfl rfl <| oP (P_pickT rfl rfl rfl) rfl <| nT <| CJ_condT rfl rfl <| sR <| oA rfl rfl <| nT <| CJ_ret <| QJ_then_ret ?_
          cases h
          exact fE (res1 Try.results27 rfl) () (t3_ (eD (eD (eD (eD eR)))))
         ·
          replace h := ite_f hg7 h
          refine gP (GY_yes rfl rfl rfl hg7B) (P_move rfl) rfl <| RJ_gy (GY_yes rfl rfl rfl hg7B) <| O_call (c_Unflushed) rfl Try.call32 (Dels.cons del1 Dels.nil) rfl fun _ _ => gP (GY_yes rfl rfl rfl hg7B) (P_neq (a := ((r77.2.log.length : Nat) : Int)) (b := (0 : Int)) rfl rfl) rfl <| oP (P_pickF rfl hg7B rfl) rfl <| oM rfl rfl <| RJ_splitP 124 rfl bT_dec (fun hg8B hg8 => ?_) (fun hg8B hg8 => ?_)
          ·
           replace h := ite_t hg8 h
           refine RJ_gn (GY_no rfl rfl rfl hg8B) rfl rfl <| RJ_gn (GY_no rfl rfl rfl hg8B) rfl rfl <| RJ_gn (GY_no rfl rfl rfl hg8B) rfl rfl <| RJ_gn (GY_undef rfl rfl rfl) rfl rfl <| RJ_gn (GY_undef rfl rfl rfl) rfl rfl <| RJ_gn (GY_undef rfl rfl rfl) rfl rfl <| RJ_gn (GY_undef rfl rfl rfl) rfl rfl <| RJ_gn (GY_no rfl rfl rfl hg8B) rfl rfl <| oP (P_pickT rfl hg8B rfl) rfl <| oM rfl rfl <| RJ_gn (GY_no rfl rfl rfl rfl) rfl rfl <| RJ_gn (GY_no rfl rfl rfl rfl) rfl rfl <| RJ_gn (GY_no rfl rfl rfl rfl) rfl rfl <| RJ_gn (GY_undef rfl rfl rfl) rfl rfl <| RJ_gn (GY_undef rfl rfl rfl) rfl rfl <| RJ_gn (GY_undef rfl rfl rfl) rfl rfl <| RJ_gn (GY_undef rfl rfl rfl) rfl rfl <| RJ_gn (GY_no rfl rfl rfl rfl) rfl rfl <| oP (P_pickT rfl rfl rfl) rfl <| nT <| CJ_condT rfl rfl <| sR <| oA rfl rfl <| nT <| CJ_ret <| QJ_then_ret ?_
           cases h
           exact fE (res1 Try.results27 rfl) () (t3_ (eD (eD (eD (eD eR)))))
          ·
           replace h := ite_f hg8 h
           refine gP (GY_yes rfl rfl rfl hg8B) (P_move rfl) rfl <| gP (GY_yes rfl rfl rfl hg8B) (P_eql (a := r73.2) (b := (0 : Int)) rfl rfl) rfl <| gP (GY_yes rfl rfl rfl hg8B) (P_move rfl) rfl <| RJ_splitP 127 rfl bT_dec (fun hg9B hg9 => ?_) (fun hg9B hg9 => ?_)
           ·
            replace h := ite_t hg9 h
            refine gP (GY_yes rfl rfl rfl hg9B) (P_move rfl) rfl <| gP (GY_yes rfl rfl rfl hg9B) (P_move rfl) rfl ?_
            obtain ⟨r82, hr83, h⟩ := bind_e h
            refine RJ_gy (GY_yes rfl rfl rfl hg9B) <| O_call (L_volumegroupref02_Same (Reads.sl _ _ _) (Reads.sl _ _ _) hr83) rfl Try.call31 (Dels.cons del1 (Dels.cons del3 Dels.nil)) rfl fun _ _ => gP (GY_yes rfl rfl rfl hg9B) (P_not rfl) rfl <| gP (GY_yes rfl rfl rfl hg8B) (P_pickT rfl hg9B rfl) rfl <| oP (P_pickF rfl hg8B rfl) rfl <| oM rfl rfl <| RJ_splitP 134 rfl (bT_not Iff.rfl) (fun hg10B hg10 => ?_) (fun hg10B hg10 => ?_)
            ·
             replace h := ite_t hg10 h
             refine RJ_gn (GY_no rfl rfl rfl hg10B) rfl rfl <| RJ_gn (GY_no rfl rfl rfl hg10B) rfl rfl <| RJ_gn (GY_no rfl rfl rfl hg10B) rfl rfl <| RJ_gn (GY_undef rfl rfl rfl) rfl rfl <| RJ_gn (GY_undef rfl rfl rfl) rfl rfl <| RJ_gn (GY_undef rfl rfl rfl) rfl rfl <| RJ_gn (GY_undef rfl rfl rfl) rfl rfl <| RJ_gn (GY_no rfl rfl rfl hg10B) rfl rfl <| oP (P_pickT rfl hg10B rfl) rfl <| nT <| CJ_condT rfl rfl <| sR <| oA rfl rfl <| nT <| CJ_ret <| QJ_then_ret ?_
             cases h
             exact fE (res1 Try.results27 rfl) () (t4_ (eD (eD (eD (eD eR)))))
            ·
             replace h := ite_f hg10 h
             refine gP (GY_yes rfl rfl rfl hg10B) (P_move rfl) rfl <| gP (GY_yes rfl rfl rfl hg10B) (P_neq (a := r73.2) (b := (0 : Int)) rfl rfl) rfl <| gP (GY_yes rfl rfl rfl hg10B) (P_move rfl) rfl <| RJ_splitP 137 rfl bT_dec (fun hg11B hg11 => ?_) (fun hg11B hg11 => ?_)
             ·
              replace h := ite_t hg11 h
              refine gP (GY_yes rfl rfl rfl hg11B) (P_move rfl) rfl <| gP (GY_yes rfl rfl rfl hg11B) (P_move rfl) rfl ?_
              obtain ⟨r84, hr85, h⟩ := bind_e h
              refine RJ_gy (GY_yes rfl rfl rfl hg11B) <| O_call (L_volumegroupref02_Same (Reads.sl _ _ _) rwords hr85) rfl Try.call31 (Dels.cons del0 (Dels.cons del3 Dels.nil)) rfl fun _ _ => gP (GY_yes rfl rfl rfl hg11B) (P_not rfl) rfl <| gP (GY_yes rfl rfl rfl hg10B) (P_pickT rfl hg11B rfl) rfl <| oP (P_pickF rfl hg10B rfl) rfl <| nT <| CJ_condP rfl (bT_not Iff.rfl) (fun hg12 => ?_) (fun hg12 => ?_)
              ·
               replace h := ite_t hg12 h
               refine sR <| oA rfl rfl <| nT <| CJ_ret <| QJ_then_ret ?_
               cases h
               exact fE (res1 Try.results27 rfl) () (t1_ (eD (eD (eD (eD eR)))))
              ·
               replace h := ite_f hg12 h
               refine kT <| CJ_seq <| sR <| oM rfl rfl <| oV (V_len rfl foc1 rwords Try.runUnderlying29) rfl <| oP (P_lss (a := ((words.length : Nat) : Int)) (b := (4 : Int)) rfl rfl) rfl <| nT <| CJ_condP rfl bT_dec (fun hg13 => ?_) (fun hg13 => ?_)
               ·
                replace h := ite_t hg13 h
                refine sR <| oM rfl rfl ?_
                obtain ⟨r86, hr87, h⟩ := bind_e h
                refine oO <| O_call (L_ring_Switch hr87) rfl Try.call17 (Dels.cons del4 (Dels.cons del3 Dels.nil)) rfl fun _ _ => oP (P_eql (a := r86.1) (b := (3 : Int)) rfl rfl) rfl <| oM rfl rfl <| RJ_splitP 150 rfl bT_dec (fun hg14B hg14 => ?_) (fun hg14B hg14 => ?_)
                ·
                 replace h := ite_t hg14 h
                 refine gP (GY_yes rfl rfl rfl hg14B) (P_move rfl) rfl ?_
                 obtain ⟨r88, hr89, h⟩ := bind_e h
                 refine RJ_gy (GY_yes rfl rfl rfl hg14B) <| O_call (L_ring_Format hr89) rfl Try.call33 (Dels.cons del0 (Dels.cons del0 Dels.nil)) rfl fun _ _ => gP (GY_yes rfl rfl rfl hg14B) (P_eql (a := r88.1) (b := (3 : Int)) rfl rfl) rfl <| oP (P_pickT rfl hg14B rfl) rfl <| oM rfl rfl <| RJ_splitP 155 rfl bT_dec (fun hg15B hg15 => ?_) (fun hg15B hg15 => ?_)
                 ·
                  replace h := ite_t hg15 h
                  refine gP (GY_yes rfl rfl rfl hg15B) (P_move rfl) rfl ?_
                  obtain ⟨r90, hr91, h⟩ := bind_e h
                  refine RJ_gy (GY_yes rfl rfl rfl hg15B) <| O_call (L_ring_Clear hr91) rfl Try.call29 (Dels.cons del0 (Dels.cons del0 Dels.nil)) rfl fun _ _ => gP (GY_yes rfl rfl rfl hg15B) (P_eql (a := r90.1) (b := (3 : Int)) rfl rfl) rfl <| oP (P_pickT rfl hg15B rfl) rfl <| oA rfl rfl <| nT <| CJ_ret <| QJ_then_ret ?_
                  cases h
                  exact fE (res1 Try.results27 rfl) () (t3_ (eD (eD (eD (eD eR)))))
                 ·
                  replace h := ite_f hg15 h
                  refine RJ_gn (GY_no rfl rfl rfl hg15B) rfl rfl <| RJ_gn (GY_no rfl rfl rfl hg15B) rfl rfl <| RJ_gn (GY_no rfl rfl rfl hg15B) rfl rfl <| oP (P_pickF rfl hg15B rfl) rfl <| oA rfl rfl <| nT <| CJ_ret <| QJ_then_ret ?_
                  cases h
                  exact fE (res1 Try.results27 rfl) () (t3_ (eD (eD (eD (eD eR)))))
                ·
                 replace h := ite_f hg14 h
                 refine RJ_gn (GY_no rfl rfl rfl hg14B) rfl rfl <| RJ_gn (GY_no rfl rfl rfl hg14B) rfl rfl <| RJ_gn (GY_no rfl rfl rfl hg14B) rfl rfl <| oP (P_pickF rfl hg14B rfl) rfl <| oM rfl rfl <| RJ_gn (GY_no rfl rfl rfl rfl) rfl rfl <| RJ_gn (GY_no rfl rfl rfl rfl) rfl rfl <| RJ_gn (GY_no rfl rfl rfl rfl) rfl rfl <| oP (P_pickF rfl rfl rfl) rfl <| oA rfl rfl <| nT <| CJ_ret <| QJ_then_ret ?_
                 cases h
                 exact fE (res1 Try.results27 rfl) () (t3_ (eD (eD (eD (eD eR)))))
               ·
                replace h := ite_f hg13 h
                refine kT <| sR <| oM rfl rfl <| oM rfl rfl ?_
                obtain ⟨hg16, h⟩ := grd_de h
                refine oV (V_index (i := 1) rfl rfl rfl hg16 foc0 (Reads.sl _ _ _) Try.runUnderlying29 Try.sizeOf39) rfl <| oV (V_loadE rfl rfl hg16 foc0 (Reads.sl _ _ _) rfl rfl Try.isAgg39) rfl ?_
                obtain ⟨r92, hr93, h⟩ := bind_e h
                refine oO <| O_call (L_volumegroupref12_Whole (Reads.sl _ _ _) hr93) rfl Try.call64 (Dels.cons del0 Dels.nil) rfl fun _ _ => oM rfl rfl <| oP (P_extract rfl rfl) rfl <| oP (P_extract rfl rfl) rfl <| oA rfl rfl <| oA rfl rfl <| nT <| sR <| oM rfl rfl ?_
                obtain ⟨r94, hr95, h⟩ := bind_e h
                refine oO <| O_call (L_ring_Switch hr95) rfl Try.call17 (Dels.cons del4 (Dels.cons del3 Dels.nil)) rfl fun _ _ => oA rfl rfl <| nT <| sR <| oM rfl rfl <| oO <| O_call (c_ImageD) rfl Try.call30 (Dels.cons del1 Dels.nil) rfl fun X96 _ => RJ_pure (len_of (Reads.sl _ _ _) del0) fun hlen98 => oM rfl rfl <| oP (P_extract (v := (Sl3.v X96)) rfl rfl) rfl <| oP (P_extract rfl rfl) rfl <| oA rfl rfl <| oA rfl rfl <| nT <| CJ_seq <| sR <| oM rfl rfl <| oP (P_neq (a := (imC r94.2 (0 : Int))) (b := (0 : Int)) rfl rfl) rfl <| oM rfl rfl <| RJ_splitP 177 rfl bT_dec (fun hg17B hg17 => ?_) (fun hg17B hg17 => ?_)
                ·
                 replace h := ite_t hg17 h
                 refine RJ_gn (GY_no rfl rfl rfl hg17B) rfl rfl <| RJ_gn (GY_no rfl rfl rfl hg17B) rfl rfl <| RJ_gn (GY_no rfl rfl rfl hg17B) rfl rfl <| oP (P_pickT rfl hg17B rfl) rfl <| nT <| CJ_condT rfl rfl <| sR <| oA rfl rfl <| nT <| CJ_ret <| QJ_then_ret ?_
                 cases h
                 exact fE (res1 Try.results27 rfl) () (t4_ (eD (eD (eD (eD (eD eR))))))
                ·
                 replace h := ite_f hg17 h
                 refine gP (GY_yes rfl rfl rfl hg17B) (P_move rfl) rfl <| RJ_gy (GY_yes rfl rfl rfl hg17B) <| O_call (c_Unflushed) rfl Try.call32 (Dels.cons del1 Dels.nil) rfl fun _ _ => gP (GY_yes rfl rfl rfl hg17B) (P_neq (a := ((r94.2.log.length : Nat) : Int)) (b := (0 : Int)) rfl rfl) rfl <| oP (P_pickF rfl hg17B rfl) rfl <| nT <| CJ_condP rfl bT_dec (fun hg18 => ?_) (fun hg18 => ?_)
                 ·
                  replace h := ite_t hg18 h
                  refine sR <| oA rfl rfl <| nT <| CJ_ret <| QJ_then_ret ?_
                  cases h
                  exact fE (res1 Try.results27 rfl) () (t4_ (eD (eD (eD (eD (eD eR))))))
                 ·
                  replace h := ite_f hg18 h
                  refine kT <| CJ_seq <| CJ_block <| sR <| oM rfl rfl ?_
                  obtain ⟨hg19, h⟩ := grd_de h
                  refine oV (V_index (i := 1) rfl rfl rfl hg19 foc3 (Reads.sl _ _ _) Try.runUnderlying29 Try.sizeOf39) rfl <| oV (V_loadE rfl rfl hg19 foc3 (Reads.sl _ _ _) rfl rfl Try.isAgg39) rfl <| oP (P_eq_u64 (a := (((imL r77.2 (0 : Int))).getD 1 0)) (b := (0 : UInt64)) rfl rfl) rfl <| oA rfl rfl <| nT <| CJ_condP rfl bT_dec (fun hg20 => ?_) (fun hg20 => ?_)
                  ·
                   replace h := ite_t hg20 h
                   refine sR <| oM rfl rfl <| oP (P_eql (a := r94.1) (b := (12 : Int)) rfl rfl) rfl <| oM rfl rfl <| RJ_splitP 189 rfl bT_dec (fun hg21B hg21 => ?_) (fun hg21B hg21 => ?_)
                   ·
                    replace h := ite_t hg21 h
                    refine gP (GY_yes rfl rfl rfl hg21B) (P_move rfl) rfl <| gP (GY_yes rfl rfl rfl hg21B) (P_move rfl) rfl ?_
                    obtain ⟨r99, hr100, h⟩ := bind_e h
                    refine RJ_gy (GY_yes rfl rfl rfl hg21B) <| O_call (L_volumegroupref02_Same (Reads.sl _ _ _) (Reads.sl _ _ _) hr100) rfl Try.call31 (Dels.cons del1 (Dels.cons del2 Dels.nil)) rfl fun _ _ => oP (P_pickT rfl hg21B rfl) rfl <| oA rfl rfl <| nT <| CJ_ret <| QJ_block_ret <| QJ_then_ret ?_
                    cases h
                    exact fE (res1 Try.results27 rfl) () (t4_ (eD (eD (eD (eD (eD eR))))))
                   ·
                    replace h := ite_f hg21 h
                    refine RJ_gn (GY_no rfl rfl rfl hg21B) rfl rfl <| RJ_gn (GY_no rfl rfl rfl hg21B) rfl rfl <| RJ_gn (GY_no rfl rfl rfl hg21B) rfl rfl <| oP (P_pickF rfl hg21B rfl) rfl <| oA rfl rfl <| nT <| CJ_ret <| QJ_block_ret <| QJ_then_ret ?_
                    cases h
                    exact fE (res1 Try.results27 rfl) () (t4_ (eD (eD (eD (eD (eD eR))))))
                  ·
                   replace h := ite_f hg20 h
                   refine sR <| oM rfl rfl <| oP (P_not rfl) rfl <| oA rfl rfl <| nT <| CJ_condP rfl (bT_not Iff.rfl) (fun hg22 => ?_) (fun hg22 => ?_)
                   ·
                    replace h := ite_t hg22 h
                    refine sR <| oM rfl rfl <| oP (P_eql (a := r94.1) (b := (11 : Int)) rfl rfl) rfl <| oM rfl rfl <| RJ_splitP 199 rfl bT_dec (fun hg23B hg23 => ?_) (fun hg23B hg23 => ?_)
                    ·
                     replace h := ite_t hg23 h
                     refine gP (GY_yes rfl rfl rfl hg23B) (P_move rfl) rfl <| gP (GY_yes rfl rfl rfl hg23B) (P_move rfl) rfl ?_
                     obtain ⟨r101, hr102, h⟩ := bind_e h
                     refine RJ_gy (GY_yes rfl rfl rfl hg23B) <| O_call (L_volumegroupref02_Same (Reads.sl _ _ _) (Reads.sl _ _ _) hr102) rfl Try.call31 (Dels.cons del1 (Dels.cons del2 Dels.nil)) rfl fun _ _ => oP (P_pickT rfl hg23B rfl) rfl <| oA rfl rfl <| nT <| CJ_ret <| QJ_block_ret <| QJ_then_ret ?_
                     cases h
                     exact fE (res1 Try.results27 rfl) () (t4_ (eD (eD (eD (eD (eD eR))))))
                    ·
                     replace h := ite_f hg23 h
                     refine RJ_gn (GY_no rfl rfl rfl hg23B) rfl rfl <| RJ_gn (GY_no rfl rfl rfl hg23B) rfl rfl <| RJ_gn (GY_no rfl rfl rfl hg23B) rfl rfl <| oP (P_pickF rfl hg23B rfl) rfl <| oA rfl rfl <| nT <| CJ_ret <| QJ_block_ret <| QJ_then_ret ?_
                     cases h
                     exact fE (res1 Try.results27 rfl) () (t4_ (eD (eD (eD (eD (eD eR))))))
                   ·
                    replace h := ite_f hg22 h
                    refine CJ_skip <| QJ_block_normal <| QJ_then <| sR <| oM rfl rfl <| oM rfl rfl ?_
                    obtain ⟨hg24, h⟩ := grd_de h
                    refine oV (V_index (i := 1) rfl rfl rfl hg24 foc3 (Reads.sl _ _ _) Try.runUnderlying29 Try.sizeOf39) rfl <| oV (V_loadE rfl rfl hg24 foc3 (Reads.sl _ _ _) rfl rfl Try.isAgg39) rfl ?_
                    obtain ⟨hg25, h⟩ := grd_de h
                    refine oV (V_index (i := 0) rfl rfl rfl hg25 foc3 (Reads.sl _ _ _) Try.runUnderlying29 Try.sizeOf39) rfl <| oO <| O_storeE (x' := (((imL r77.2 (0 : Int))).getD 1 0)) rfl rfl rfl hg25 foc3 rfl rfl rfl Try.sizeOf39 <| nT <| sR <| oM rfl rfl <| oP (P_eql (a := r94.1) (b := (0 : Int)) rfl rfl) rfl <| oM rfl rfl <| RJ_splitP 211 rfl bT_dec (fun hg26B hg26 => ?_) (fun hg26B hg26 => ?_)
                    ·
                     replace h := ite_t hg26 h
                     refine gP (GY_yes rfl rfl rfl hg26B) (P_move rfl) rfl <| gP (GY_yes rfl rfl rfl hg26B) (P_move rfl) rfl ?_
                     obtain ⟨r103, hr104, h⟩ := bind_e h
                     refine RJ_gy (GY_yes rfl rfl rfl hg26B) <| O_call (L_volumegroupref02_Same (Reads.sl _ _ _) (Reads.sl _ _ _) hr104) rfl Try.call31 (Dels.cons del1 (Dels.cons del2 Dels.nil)) rfl fun _ _ => oP (P_pickT rfl hg26B rfl) rfl <| oA rfl rfl <| nT <| CJ_ret ?_
                     cases h
                     exact fE (res1 Try.results27 rfl) () (t4_ (eD (eD (eD (eD (eD eR))))))
                    ·
                     replace h := ite_f hg26 h
                     refine RJ_gn (GY_no rfl rfl rfl hg26B) rfl rfl <| RJ_gn (GY_no rfl rfl rfl hg26B) rfl rfl <| RJ_gn (GY_no rfl rfl rfl hg26B) rfl rfl <| oP (P_pickF rfl hg26B rfl) rfl <| oA rfl rfl <| nT <| CJ_ret ?_
                     cases h
                     exact fE (res1 Try.results27 rfl) () (t4_ (eD (eD (eD (eD (eD eR))))))
             ·
              replace h := ite_f hg11 h
              refine RJ_gn (GY_no rfl rfl rfl hg11B) rfl rfl <| RJ_gn (GY_no rfl rfl rfl hg11B) rfl rfl <| RJ_gn (GY_no rfl rfl rfl hg11B) rfl rfl <| RJ_gn (GY_no rfl rfl rfl hg11B) rfl rfl <| gP (GY_yes rfl rfl rfl hg10B) (P_pickF rfl hg11B rfl) rfl <| oP (P_pickF rfl hg10B rfl) rfl <| nT <| CJ_condF rfl rfl <| kT <| CJ_seq <| sR <| oM rfl rfl <| oV (V_len rfl foc4 rwords Try.runUnderlying29) rfl <| oP (P_lss (a := ((words.length : Nat) : Int)) (b := (4 : Int)) rfl rfl) rfl <| nT <| CJ_condP rfl bT_dec (fun hg27 => ?_) (fun hg27 => ?_)
              ·
               replace h := ite_t hg27 h
               refine sR <| oM rfl rfl ?_
               obtain ⟨r105, hr106, h⟩ := bind_e h
               refine oO <| O_call (L_ring_Switch hr106) rfl Try.call17 (Dels.cons del3 (Dels.cons del2 Dels.nil)) rfl fun _ _ => oP (P_eql (a := r105.1) (b := (3 : Int)) rfl rfl) rfl <| oM rfl rfl <| RJ_splitP 150 rfl bT_dec (fun hg28B hg28 => ?_) (fun hg28B hg28 => ?_)
               ·
                replace h := ite_t hg28 h
                refine gP (GY_yes rfl rfl rfl hg28B) (P_move rfl) rfl ?_
                obtain ⟨r107, hr108, h⟩ := bind_e h
                refine RJ_gy (GY_yes rfl rfl rfl hg28B) <| O_call (L_ring_Format hr108) rfl Try.call33 (Dels.cons del0 (Dels.cons del0 Dels.nil)) rfl fun _ _ => gP (GY_yes rfl rfl rfl hg28B) (P_eql (a := r107.1) (b := (3 : Int)) rfl rfl) rfl <| oP (P_pickT rfl hg28B rfl) rfl <| oM rfl rfl <| RJ_splitP 155 rfl bT_dec (fun hg29B hg29 => ?_) (fun hg29B hg29 => ?_)
                ·
                 replace h := ite_t hg29 h
                 refine gP (GY_yes rfl rfl rfl hg29B) (P_move rfl) rfl ?_
                 obtain ⟨r109, hr110, h⟩ := bind_e h
                 refine RJ_gy (GY_yes rfl rfl rfl hg29B) <| O_call (L_ring_Clear hr110) rfl Try.call29 (Dels.cons del0 (Dels.cons del0 Dels.nil)) rfl fun _ _ => gP (GY_yes rfl rfl rfl hg29B) (P_eql (a := r109.1) (b := (3 : Int)) rfl rfl) rfl <| oP (P_pickT rfl hg29B rfl) rfl <| oA rfl rfl <| nT <| CJ_ret <| QJ_then_ret ?_
                 cases h
                 exact fE (res1 Try.results27 rfl) () (t4_ (eD (eD (eD (eD eR)))))
                ·
                 replace h := ite_f hg29 h
                 refine RJ_gn (GY_no rfl rfl rfl hg29B) rfl rfl <| RJ_gn (GY_no rfl rfl rfl hg29B) rfl rfl <| RJ_gn (GY_no rfl rfl rfl hg29B) rfl rfl <| oP (P_pickF rfl hg29B rfl) rfl <| oA rfl rfl <| nT <| CJ_ret <| QJ_then_ret ?_
                 cases h
                 exact fE (res1 Try.results27 rfl) () (t4_ (eD (eD (eD (eD eR)))))
               ·
                replace h := ite_f hg28 h
                refine RJ_gn (GY_no rfl rfl rfl hg28B) rfl rfl <| RJ_gn (GY_no rfl rfl rfl hg28B) rfl rfl <| RJ_gn (GY_no rfl rfl rfl hg28B) rfl rfl <| oP (P_pickF rfl hg28B rfl) rfl <| oM rfl rfl <| RJ_gn (GY_no rfl rfl rfl rfl) rfl rfl <| RJ_gn (GY_no rfl rfl rfl rfl) rfl rfl <| RJ_gn (GY_no rfl rfl rfl rfl) rfl rfl <| oP (P_pickF rfl rfl rfl) rfl <| oA rfl rfl <| nT <| CJ_ret <| QJ_then_ret ?_
                cases h
                exact fE (res1 Try.results27 rfl) () (t4_ (eD (eD (eD (eD eR)))))
              ·
               replace h := ite_f hg27 h
               refine kT <| sR <| oM rfl rfl <| oM rfl rfl ?_
               obtain ⟨hg30, h⟩ := grd_de h
               refine oV (V_index (i := 1) rfl rfl rfl hg30 foc0 (Reads.sl _ _ _) Try.runUnderlying29 Try.sizeOf39) rfl <| oV (V_loadE rfl rfl hg30 foc0 (Reads.sl _ _ _) rfl rfl Try.isAgg39) rfl ?_
               obtain ⟨r111, hr112, h⟩ := bind_e h
               refine oO <| O_call (L_volumegroupref12_Whole (Reads.sl _ _ _) hr112) rfl Try.call64 (Dels.cons del0 Dels.nil) rfl fun _ _ => oM rfl rfl <| oP (P_extract rfl rfl) rfl <| oP (P_extract rfl rfl) rfl <| oA rfl rfl <| oA rfl rfl <| nT <| sR <| oM rfl rfl ?_
               obtain ⟨r113, hr114, h⟩ := bind_e h
               refine oO <| O_call (L_ring_Switch hr114) rfl Try.call17 (Dels.cons del3 (Dels.cons del2 Dels.nil)) rfl fun _ _ => oA rfl rfl <| nT <| sR <| oM rfl rfl <| oO <| O_call (c_ImageD) rfl Try.call30 (Dels.cons del1 Dels.nil) rfl fun X115 _ => RJ_pure (len_of (Reads.sl _ _ _) del0) fun hlen117 => oM rfl rfl <| oP (P_extract (v := (Sl3.v X115)) rfl rfl) rfl <| oP (P_extract rfl rfl) rfl <| oA rfl rfl <| oA rfl rfl <| nT <| CJ_seq <| sR <| oM rfl rfl <| oP (P_neq (a := (imC r113.2 (0 : Int))) (b := (0 : Int)) rfl rfl) rfl <| oM rfl rfl <| RJ_splitP 177 rfl bT_dec (fun hg31B hg31 => ?_) (fun hg31B hg31 => ?_)
               ·
                replace h := ite_t hg31 h
                refine RJ_gn (GY_no rfl rfl rfl hg31B) rfl rfl <| RJ_gn (GY_no rfl rfl rfl hg31B) rfl rfl <| RJ_gn (GY_no rfl rfl rfl hg31B) rfl rfl <| oP (P_pickT rfl hg31B rfl) rfl <| nT <| CJ_condT rfl rfl <| sR <| oA rfl rfl <| nT <| CJ_ret <| QJ_then_ret ?_
                cases h
                exact fE (res1 Try.results27 rfl) () (t5_ (eD (eD (eD (eD (eD eR))))))
               ·
                replace h := ite_f hg31 h
                refine gP (GY_yes rfl rfl rfl hg31B) (P_move rfl) rfl <| RJ_gy (GY_yes rfl rfl rfl hg31B) <| O_call (c_Unflushed) rfl Try.call32 (Dels.cons del1 Dels.nil) rfl fun _ _ => gP (GY_yes rfl rfl rfl hg31B) (P_neq (a := ((r113.2.log.length : Nat) : Int)) (b := (0 : Int)) rfl rfl) rfl <| oP (P_pickF rfl hg31B rfl) rfl <| nT <| CJ_condP rfl bT_dec (fun hg32 => ?_) (fun hg32 => ?_)
                ·
                 replace h := ite_t hg32 h
                 refine sR <| oA rfl rfl <| nT <| CJ_ret <| QJ_then_ret ?_
                 cases h
                 exact fE (res1 Try.results27 rfl) () (t5_ (eD (eD (eD (eD (eD eR))))))
                ·
                 replace h := ite_f hg32 h
                 refine kT <| CJ_seq <| CJ_block <| sR <| oM rfl rfl ?_
                 obtain ⟨hg33, h⟩ := grd_de h
                 refine oV (V_index (i := 1) rfl rfl rfl hg33 foc3 (Reads.sl _ _ _) Try.runUnderlying29 Try.sizeOf39) rfl <| oV (V_loadE rfl rfl hg33 foc3 (Reads.sl _ _ _) rfl rfl Try.isAgg39) rfl <| oP (P_eq_u64 (a := (((imL r77.2 (0 : Int))).getD 1 0)) (b := (0 : UInt64)) rfl rfl) rfl <| oA rfl rfl <| nT <| CJ_condP rfl bT_dec (fun hg34 => ?_) (fun hg34 => ?_)
                 ·
                  replace h := ite_t hg34 h
                  refine sR <| oM rfl rfl <| oP (P_eql (a := r113.1) (b := (12 : Int)) rfl rfl) rfl <| oM rfl rfl <| RJ_splitP 189 rfl bT_dec (fun hg35B hg35 => ?_) (fun hg35B hg35 => ?_)
                  ·
                   replace h := ite_t hg35 h
                   refine gP (GY_yes rfl rfl rfl hg35B) (P_move rfl) rfl <| gP (GY_yes rfl rfl rfl hg35B) (P_move rfl) rfl ?_
                   obtain ⟨r118, hr119, h⟩ := bind_e h
                   refine RJ_gy (GY_yes rfl rfl rfl hg35B) <| O_call (L_volumegroupref02_Same (Reads.sl _ _ _) (Reads.sl _ _ _) hr119) rfl Try.call31 (Dels.cons del1 (Dels.cons del2 Dels.nil)) rfl fun _ _ => oP (P_pickT rfl hg35B rfl) rfl <| oA rfl rfl <| nT <| CJ_ret <| QJ_block_ret <| QJ_then_ret ?_
                   cases h
                   exact fE (res1 Try.results27 rfl) () (t5_ (eD (eD (eD (eD (eD eR))))))
                  ·
                   replace h := ite_f hg35 h
                   refine RJ_gn (GY_no rfl rfl rfl hg35B) rfl rfl <| RJ_gn (GY_no rfl rfl rfl hg35B) rfl rfl <| RJ_gn (GY_no rfl rfl rfl hg35B) rfl rfl <| oP (P_pickF rfl hg35B rfl) rfl <| oA rfl rfl <| nT <| CJ_ret <| QJ_block_ret <| QJ_then_ret ?_
                   cases h
                   exact fE (res1 Try.results27 rfl) () (t5_ (eD (eD (eD (eD (eD eR))))))
                 ·
                  replace h := ite_f hg34 h
                  refine sR <| oM rfl rfl <| oP (P_not rfl) rfl <| oA rfl rfl <| nT <| CJ_condP rfl (bT_not Iff.rfl) (fun hg36 => ?_) (fun hg36 => ?_)
                  ·
                   replace h := ite_t hg36 h
                   refine sR <| oM rfl rfl <| oP (P_eql (a := r113.1) (b := (11 : Int)) rfl rfl) rfl <| oM rfl rfl <| RJ_splitP 199 rfl bT_dec (fun hg37B hg37 => ?_) (fun hg37B hg37 => ?_)
                   ·
                    replace h := ite_t hg37 h
                    refine gP (GY_yes rfl rfl rfl hg37B) (P_move rfl) rfl <| gP (GY_yes rfl rfl rfl hg37B) (P_move rfl) rfl ?_
                    obtain ⟨r120, hr121, h⟩ := bind_e h
                    refine RJ_gy (GY_yes rfl rfl rfl hg37B) <| O_call (L_volumegroupref02_Same (Reads.sl _ _ _) (Reads.sl _ _ _) hr121) rfl Try.call31 (Dels.cons del1 (Dels.cons del2 Dels.nil)) rfl fun _ _ => oP (P_pickT rfl hg37B rfl) rfl <| oA rfl rfl <| nT <| CJ_ret <| QJ_block_ret <| QJ_then_ret ?_
                    cases h
                    exact fE (res1 Try.results27 rfl) () (t5_ (eD (eD (eD (eD (eD eR))))))
                   ·
                    replace h := ite_f hg37 h
                    refine RJ_gn (GY_no rfl rfl rfl hg37B) rfl rfl <| RJ_gn (GY_no rfl rfl rfl hg37B) rfl rfl <| RJ_gn (GY_no rfl rfl rfl hg37B) rfl rfl <| oP (P_pickF rfl hg37B rfl) rfl <| oA rfl rfl <| nT <| CJ_ret <| QJ_block_ret <| QJ_then_ret ?_
                    cases h
                    exact fE (res1 Try.results27 rfl) () (t5_ (eD (eD (eD (eD (eD eR))))))
                  ·
                   replace h := ite_f hg36 h
                   refine CJ_skip <| QJ_block_normal <| QJ_then <| sR <| oM rfl rfl <| oM rfl rfl ?_
                   obtain ⟨hg38, h⟩ := grd_de h
                   refine oV (V_index (i := 1) rfl rfl rfl hg38 foc3 (Reads.sl _ _ _) Try.runUnderlying29 Try.sizeOf39) rfl <| oV (V_loadE rfl rfl hg38 foc3 (Reads.sl _ _ _) rfl rfl Try.isAgg39) rfl ?_
                   obtain ⟨hg39, h⟩ := grd_de h
                   refine oV (V_index (i := 0) rfl rfl rfl hg39 foc3 (Reads.sl _ _ _) Try.runUnderlying29 Try.sizeOf39) rfl <| oO <| O_storeE (x' := (((imL r77.2 (0 : Int))).getD 1 0)) rfl rfl rfl hg39 foc3 rfl rfl rfl Try.sizeOf39 <| nT <| sR <| oM rfl rfl <| oP (P_eql (a := r113.1) (b := (0 : Int)) rfl rfl) rfl <| oM rfl rfl <| RJ_splitP 211 rfl bT_dec (fun hg40B hg40 => ?_) (fun hg40B hg40 => ?_)
                   ·
                    replace h := ite_t hg40 h
                    refine gP (GY_yes rfl rfl rfl hg40B) (P_move rfl) rfl <| gP (GY_yes rfl rfl rfl hg40B) (P_move rfl) rfl ?_
                    obtain ⟨r122, hr123, h⟩ := bind_e h
                    refine RJ_gy (GY_yes rfl rfl rfl hg40B) <| O_call (L_volumegroupref02_Same (Reads.sl _ _ _) (Reads.sl _ _ _) hr123) rfl Try.call31 (Dels.cons del1 (Dels.cons del2 Dels.nil)) rfl fun _ _ => oP (P_pickT rfl hg40B rfl) rfl <| oA rfl rfl <| nT <| CJ_ret ?_
                    cases h
                    exact fE (res1 Try.results27 rfl) () (t5_ (eD (eD (eD (eD (eD eR))))))
                   ·
                    replace h := ite_f hg40 h
                    refine RJ_gn (GY_no rfl rfl rfl hg40B) rfl rfl <| RJ_gn (GY_no rfl rfl rfl hg40B) rfl rfl <| RJ_gn (GY_no rfl rfl rfl hg40B) rfl rfl <| oP (P_pickF rfl hg40B rfl) rfl <| oA rfl rfl <| nT <| CJ_ret ?_
                    cases h
                    exact fE (res1 Try.results27 rfl) () (t5_ (eD (eD (eD (eD (eD eR))))))
           ·
            replace h := ite_f hg9 h
            refine RJ_gn (GY_no rfl rfl rfl hg9B) rfl rfl <| RJ_gn (GY_no rfl rfl rfl hg9B) rfl rfl <| RJ_gn (GY_no rfl rfl rfl hg9B) rfl rfl <| RJ_gn (GY_no rfl rfl rfl hg9B) rfl rfl <| gP (GY_yes rfl rfl rfl hg8B) (P_pickF rfl hg9B rfl) rfl <| oP (P_pickF rfl hg8B rfl) rfl <| oM rfl rfl <| gP (GY_yes rfl rfl rfl rfl) (P_move rfl) rfl <| gP (GY_yes rfl rfl rfl rfl) (P_neq (a := r73.2) (b := (0 : Int)) rfl rfl) rfl <| gP (GY_yes rfl rfl rfl rfl) (P_move rfl) rfl <| RJ_splitP 137 rfl bT_dec (fun hg41B hg41 => ?_) (fun hg41B hg41 => ?_)
            ·
             replace h := ite_t hg41 h
             refine gP (GY_yes rfl rfl rfl hg41B) (P_move rfl) rfl <| gP (GY_yes rfl rfl rfl hg41B) (P_move rfl) rfl ?_
             obtain ⟨r124, hr125, h⟩ := bind_e h
             refine RJ_gy (GY_yes rfl rfl rfl hg41B) <| O_call (L_volumegroupref02_Same (Reads.sl _ _ _) rwords hr125) rfl Try.call31 (Dels.cons del1 (Dels.cons del2 Dels.nil)) rfl fun _ _ => gP (GY_yes rfl rfl rfl hg41B) (P_not rfl) rfl <| gP (GY_yes rfl rfl rfl rfl) (P_pickT rfl hg41B rfl) rfl <| oP (P_pickF rfl rfl rfl) rfl <| nT <| CJ_condP rfl (bT_not Iff.rfl) (fun hg42 => ?_) (fun hg42 => ?_)
             ·
              replace h := ite_t hg42 h
              refine sR <| oA rfl rfl <| nT <| CJ_ret <| QJ_then_ret ?_
              cases h
              exact fE (res1 Try.results27 rfl) () (t1_ (eD (eD (eD (eD eR)))))
             ·
              replace h := ite_f hg42 h
              refine kT <| CJ_seq <| sR <| oM rfl rfl <| oV (V_len rfl foc1 rwords Try.runUnderlying29) rfl <| oP (P_lss (a := ((words.length : Nat) : Int)) (b := (4 : Int)) rfl rfl) rfl <| nT <| CJ_condP rfl bT_dec (fun hg43 => ?_) (fun hg43 => ?_)
              ·
               replace h := ite_t hg43 h
               refine sR <| oM rfl rfl ?_
               obtain ⟨r126, hr127, h⟩ := bind_e h
               refine oO <| O_call (L_ring_Switch hr127) rfl Try.call17 (Dels.cons del3 (Dels.cons del2 Dels.nil)) rfl fun _ _ => oP (P_eql (a := r126.1) (b := (3 : Int)) rfl rfl) rfl <| oM rfl rfl <| RJ_splitP 150 rfl bT_dec (fun hg44B hg44 => ?_) (fun hg44B hg44 => ?_)
               ·
                replace h := ite_t hg44 h
                refine gP (GY_yes rfl rfl rfl hg44B) (P_move rfl) rfl ?_
                obtain ⟨r128, hr129, h⟩ := bind_e h
                refine RJ_gy (GY_yes rfl rfl rfl hg44B) <| O_call (L_ring_Format hr129) rfl Try.call33 (Dels.cons del0 (Dels.cons del0 Dels.nil)) rfl fun _ _ => gP (GY_yes rfl rfl rfl hg44B) (P_eql (a := r128.1) (b := (3 : Int)) rfl rfl) rfl <| oP (P_pickT rfl hg44B rfl) rfl <| oM rfl rfl <| RJ_splitP 155 rfl bT_dec (fun hg45B hg45 => ?_) (fun hg45B hg45 => ?_)
                ·
                 replace h := ite_t hg45 h
                 refine gP (GY_yes rfl rfl rfl hg45B) (P_move rfl) rfl ?_
                 obtain ⟨r130, hr131, h⟩ := bind_e h
                 refine RJ_gy (GY_yes rfl rfl rfl hg45B) <| O_call (L_ring_Clear hr131) rfl Try.call29 (Dels.cons del0 (Dels.cons del0 Dels.nil)) rfl fun _ _ => gP (GY_yes rfl rfl rfl hg45B) (P_eql (a := r130.1) (b := (3 : Int)) rfl rfl) rfl <| oP (P_pickT rfl hg45B rfl) rfl <| oA rfl rfl <| nT <| CJ_ret <| QJ_then_ret ?_
                 cases h
                 exact fE (res1 Try.results27 rfl) () (t3_ (eD (eD (eD (eD eR)))))
                ·
                 replace h := ite_f hg45 h
                 refine RJ_gn (GY_no rfl rfl rfl hg45B) rfl rfl <| RJ_gn (GY_no rfl rfl rfl hg45B) rfl rfl <| RJ_gn (GY_no rfl rfl rfl hg45B) rfl rfl <| oP (P_pickF rfl hg45B rfl) rfl <| oA rfl rfl <| nT <| CJ_ret <| QJ_then_ret ?_
                 cases h
                 exact fE (res1 Try.results27 rfl) () (t3_ (eD (eD (eD (eD eR)))))
               ·
                replace h := ite_f hg44 h
                refine RJ_gn (GY_no rfl rfl rfl hg44B) rfl rfl <| RJ_gn (GY_no rfl rfl rfl hg44B) rfl rfl <| RJ_gn (GY_no rfl rfl rfl hg44B) rfl rfl <| oP (P_pickF rfl hg44B rfl) rfl <| oM rfl rfl <| RJ_gn (GY_no rfl rfl rfl rfl) rfl rfl <| RJ_gn (GY_no rfl rfl rfl rfl) rfl rfl <| RJ_gn (GY_no rfl rfl rfl rfl) rfl rfl <| oP (P_pickF rfl rfl rfl) rfl <| oA rfl rfl <| nT <| CJ_ret <| QJ_then_ret ?_
                cases h
                exact fE (res1 Try.results27 rfl) () (t3_ (eD (eD (eD (eD eR)))))
              ·
               replace h := ite_f hg43 h
               refine kT <| sR <| oM rfl rfl <| oM rfl rfl ?_
               obtain ⟨hg46, h⟩ := grd_de h
               refine oV (V_index (i := 1) rfl rfl rfl hg46 foc0 (Reads.sl _ _ _) Try.runUnderlying29 Try.sizeOf39) rfl <| oV (V_loadE rfl rfl hg46 foc0 (Reads.sl _ _ _) rfl rfl Try.isAgg39) rfl ?_
               obtain ⟨r132, hr133, h⟩ := bind_e h
               refine oO <| O_call (L_volumegroupref12_Whole (Reads.sl _ _ _) hr133) rfl Try.call64 (Dels.cons del0 Dels.nil) rfl fun _ _ => oM rfl rfl <| oP (P_extract rfl rfl) rfl <| oP (P_extract rfl rfl) rfl <| oA rfl rfl <| oA rfl rfl <| nT <| sR <| oM rfl rfl ?_
               obtain ⟨r134, hr135, h⟩ := bind_e h
               refine oO <| O_call (L_ring_Switch hr135) rfl Try.call17 (Dels.cons del3 (Dels.cons del2 Dels.nil)) rfl fun _ _ => oA rfl rfl <| nT <| sR <| oM rfl rfl <| oO <| O_call (c_ImageD) rfl Try.call30 (Dels.cons del1 Dels.nil) rfl fun X136 _ => RJ_pure (len_of (Reads.sl _ _ _) del0) fun hlen138 => oM rfl rfl <| oP (P_extract (v := (Sl3.v X136)) rfl rfl) rfl <| oP (P_extract rfl rfl) rfl <| oA rfl rfl <| oA rfl rfl <| nT <| CJ_seq <| sR <| oM rfl rfl <| oP (P_neq (a := (imC r134.2 (0 : Int))) (b := (0 : Int)) rfl rfl) rfl <| oM rfl rfl <| RJ_splitP 177 rfl bT_dec (fun hg47B hg47 => ?_) (fun hg47B hg47 => ?_)
               ·
                replace h := ite_t hg47 h
                refine RJ_gn (GY_no rfl rfl rfl hg47B) rfl rfl <| RJ_gn (GY_no rfl rfl rfl hg47B) rfl rfl <| RJ_gn (GY_no rfl rfl rfl hg47B) rfl rfl <| oP (P_pickT rfl hg47B rfl) rfl <| nT <| CJ_condT rfl rfl <| sR <| oA rfl rfl <| nT <| CJ_ret <| QJ_then_ret ?_
                cases h
                exact fE (res1 Try.results27 rfl) () (t4_ (eD (eD (eD (eD (eD eR))))))
               ·
                replace h := ite_f hg47 h
                refine gP (GY_yes rfl rfl rfl hg47B) (P_move rfl) rfl <| RJ_gy (GY_yes rfl rfl rfl hg47B) <| O_call (c_Unflushed) rfl Try.call32 (Dels.cons del1 Dels.nil) rfl fun _ _ => gP (GY_yes rfl rfl rfl hg47B) (P_neq (a := ((r134.2.log.length : Nat) : Int)) (b := (0 : Int)) rfl rfl) rfl <| oP (P_pickF rfl hg47B rfl) rfl <| nT <| CJ_condP rfl bT_dec (fun hg48 => ?_) (fun hg48 => ?_)
                ·
                 replace h := ite_t hg48 h
                 refine sR <| oA rfl rfl <| nT <| CJ_ret <| QJ_then_ret ?_
                 cases h
                 exact fE (res1 Try.results27 rfl) () (t4_ (eD (eD (eD (eD (eD eR))))))
                ·
                 replace h := ite_f hg48 h
                 refine kT <| CJ_seq <| CJ_block <| sR <| oM rfl rfl ?_
                 obtain ⟨hg49, h⟩ := grd_de h
                 refine oV (V_index (i := 1) rfl rfl rfl hg49 foc3 (Reads.sl _ _ _) Try.runUnderlying29 Try.sizeOf39) rfl <| oV (V_loadE rfl rfl hg49 foc3 (Reads.sl _ _ _) rfl rfl Try.isAgg39) rfl <| oP (P_eq_u64 (a := (((imL r77.2 (0 : Int))).getD 1 0)) (b := (0 : UInt64)) rfl rfl) rfl <| oA rfl rfl <| nT <| CJ_condP rfl bT_dec (fun hg50 => ?_) (fun hg50 => ?_)
                 ·
                  replace h := ite_t hg50 h
                  refine sR <| oM rfl rfl <| oP (P_eql (a := r134.1) (b := (12 : Int)) rfl rfl) rfl <| oM rfl rfl <| RJ_splitP 189 rfl bT_dec (fun hg51B hg51 => ?_) (fun hg51B hg51 => ?_)
                  ·
                   replace h := ite_t hg51 h
                   refine gP (GY_yes rfl rfl rfl hg51B) (P_move rfl) rfl <| gP (GY_yes rfl rfl rfl hg51B) (P_move rfl) rfl ?_
                   obtain ⟨r139, hr140, h⟩ := bind_e h
                   refine RJ_gy (GY_yes rfl rfl rfl hg51B) <| O_call (L_volumegroupref02_Same (Reads.sl _ _ _) (Reads.sl _ _ _) hr140) rfl Try.call31 (Dels.cons del1 (Dels.cons del2 Dels.nil)) rfl fun _ _ => oP (P_pickT rfl hg51B rfl) rfl <| oA rfl rfl <| nT <| CJ_ret <| QJ_block_ret <| QJ_then_ret ?_
                   cases h
                   exact fE (res1 Try.results27 rfl) () (t4_ (eD (eD (eD (eD (eD eR))))))
                  ·
                   replace h := ite_f hg51 h
                   refine RJ_gn (GY_no rfl rfl rfl hg51B) rfl rfl <| RJ_gn (GY_no rfl rfl rfl hg51B) rfl rfl <| RJ_gn (GY_no rfl rfl rfl hg51B) rfl rfl <| oP (P_pickF rfl hg51B rfl) rfl <| oA rfl rfl <| nT <| CJ_ret <| QJ_block_ret <| QJ_then_ret ?_
                   cases h
                   exact fE (res1 Try.results27 rfl) () (t4_ (eD (eD (eD (eD (eD eR))))))
                 ·
                  replace h := ite_f hg50 h
                  refine sR <| oM rfl rfl <| oP (P_not rfl) rfl <| oA rfl rfl <| nT <| CJ_condP rfl (bT_not Iff.rfl) (fun hg52 => ?_) (fun hg52 => ?_)
                  ·
                   replace h := ite_t hg52 h
                   refine sR <| oM rfl rfl <| oP (P_eql (a := r134.1) (b := (11 : Int)) rfl rfl) rfl <| oM rfl rfl <| RJ_splitP 199 rfl bT_dec (fun hg53B hg53 => ?_) (fun hg53B hg53 => ?_)
                   ·
                    replace h := ite_t hg53 h
                    refine gP (GY_yes rfl rfl rfl hg53B) (P_move rfl) rfl <| gP (GY_yes rfl rfl rfl hg53B) (P_move rfl) rfl ?_
                    obtain ⟨r141, hr142, h⟩ := bind_e h
                    refine RJ_gy (GY_yes rfl rfl rfl hg53B) <| O_call (L_volumegroupref02_Same (Reads.sl _ _ _) (Reads.sl _ _ _) hr142) rfl Try.call31 (Dels.cons del1 (Dels.cons del2 Dels.nil)) rfl fun _ _ => oP (P_pickT rfl hg53B rfl) rfl <| oA rfl rfl <| nT <| CJ_ret <| QJ_block_ret <| QJ_then_ret ?_
                    cases h
                    exact fE (res1 Try.results27 rfl) () (t4_ (eD (eD (eD (eD (eD eR))))))
                   ·
                    replace h := ite_f hg53 h
                    refine RJ_gn (GY_no rfl rfl rfl hg53B) rfl rfl <| RJ_gn (GY_no rfl rfl rfl hg53B) rfl rfl <| RJ_gn (GY_no rfl rfl rfl hg53B) rfl rfl <| oP (P_pickF rfl hg53B rfl) rfl <| oA rfl rfl <| nT <| CJ_ret <| QJ_block_ret <| QJ_then_ret ?_
                    cases h
                    exact fE (res1 Try.results27 rfl) () (t4_ (eD (eD (eD (eD (eD eR))))))
                  ·
                   replace h := ite_f hg52 h
                   refine CJ_skip <| QJ_block_normal <| QJ_then <| sR <| oM rfl rfl <| oM rfl rfl ?_
                   obtain ⟨hg54, h⟩ := grd_de h
                   refine oV (V_index (i := 1) rfl rfl rfl hg54 foc3 (Reads.sl _ _ _) Try.runUnderlying29 Try.sizeOf39) rfl <| oV (V_loadE rfl rfl hg54 foc3 (Reads.sl _ _ _) rfl rfl Try.isAgg39) rfl ?_
                   obtain ⟨hg55, h⟩ := grd_de h
                   refine oV (V_index (i := 0) rfl rfl rfl hg55 foc3 (Reads.sl _ _ _) Try.runUnderlying29 Try.sizeOf39) rfl <| oO <| O_storeE (x' := (((imL r77.2 (0 : Int))).getD 1 0)) rfl rfl rfl hg55 foc3 rfl rfl rfl Try.sizeOf39 <| nT <| sR <| oM rfl rfl <| oP (P_eql (a := r134.1) (b := (0 : Int)) rfl rfl) rfl <| oM rfl rfl <| RJ_splitP 211 rfl bT_dec (fun hg56B hg56 => ?_) (fun hg56B hg56 => ?_)
                   ·
                    replace h := ite_t hg56 h
                    refine gP (GY_yes rfl rfl rfl hg56B) (P_move rfl) rfl <| gP (GY_yes rfl rfl rfl hg56B) (P_move rfl) rfl ?_
                    obtain ⟨r143, hr144, h⟩ := bind_e h
                    refine RJ_gy (GY_yes rfl rfl rfl hg56B) <| O_call (L_volumegroupref02_Same (Reads.sl _ _ _) (Reads.sl _ _ _) hr144) rfl Try.call31 (Dels.cons del1 (Dels.cons del2 Dels.nil)) rfl fun _ _ => oP (P_pickT rfl hg56B rfl) rfl <| oA rfl rfl <| nT <| CJ_ret ?_
                    cases h
                    exact fE (res1 Try.results27 rfl) () (t4_ (eD (eD (eD (eD (eD eR))))))
                   ·
                    replace h := ite_f hg56 h
                    refine RJ_gn (GY_no rfl rfl rfl hg56B) rfl rfl <| RJ_gn (GY_no rfl rfl rfl hg56B) rfl rfl <| RJ_gn (GY_no rfl rfl rfl hg56B) rfl rfl <| oP (P_pickF rfl hg56B rfl) rfl <| oA rfl rfl <| nT <| CJ_ret ?_
                    cases h
                    exact fE (res1 Try.results27 rfl) () (t4_ (eD (eD (eD (eD (eD eR))))))
            ·
             replace h := ite_f hg41 h
             refine RJ_gn (GY_no rfl rfl rfl hg41B) rfl rfl <| RJ_gn (GY_no rfl rfl rfl hg41B) rfl rfl <| RJ_gn (GY_no rfl rfl rfl hg41B) rfl rfl <| RJ_gn (GY_no rfl rfl rfl hg41B) rfl rfl <| gP (GY_yes rfl rfl rfl rfl) (P_pickF rfl hg41B rfl) rfl <| oP (P_pickF rfl rfl rfl) rfl <| nT <| CJ_condF rfl rfl <| kT <| CJ_seq <| sR <| oM rfl rfl <| oV (V_len rfl foc3 rwords Try.runUnderlying29) rfl <| oP (P_lss (a := ((words.length : Nat) : Int)) (b := (4 : Int)) rfl rfl) rfl <| nT <| CJ_condP rfl bT_dec (fun hg57 => ?_) (fun hg57 => ?_)
             ·
              replace h := ite_t hg57 h
              refine sR <| oM rfl rfl ?_
              obtain ⟨r145, hr146, h⟩ := bind_e h
              refine oO <| O_call (L_ring_Switch hr146) rfl Try.call17 (Dels.cons del2 (Dels.cons del0 Dels.nil)) rfl fun _ _ => oP (P_eql (a := r145.1) (b := (3 : Int)) rfl rfl) rfl <| oM rfl rfl <| RJ_splitP 150 rfl bT_dec (fun hg58B hg58 => ?_) (fun hg58B hg58 => ?_)
              ·
               replace h := ite_t hg58 h
               refine gP (GY_yes rfl rfl rfl hg58B) (P_move rfl) rfl ?_
               obtain ⟨r147, hr148, h⟩ := bind_e h
               refine RJ_gy (GY_yes rfl rfl rfl hg58B) <| O_call (L_ring_Format hr148) rfl Try.call33 (Dels.cons del0 (Dels.cons del0 Dels.nil)) rfl fun _ _ => gP (GY_yes rfl rfl rfl hg58B) (P_eql (a := r147.1) (b := (3 : Int)) rfl rfl) rfl <| oP (P_pickT rfl hg58B rfl) rfl <| oM rfl rfl <| RJ_splitP 155 rfl bT_dec (fun hg59B hg59 => ?_) (fun hg59B hg59 => ?_)
               ·
                replace h := ite_t hg59 h
                refine gP (GY_yes rfl rfl rfl hg59B) (P_move rfl) rfl ?_
                obtain ⟨r149, hr150, h⟩ := bind_e h
                refine RJ_gy (GY_yes rfl rfl rfl hg59B) <| O_call (L_ring_Clear hr150) rfl Try.call29 (Dels.cons del0 (Dels.cons del0 Dels.nil)) rfl fun _ _ => gP (GY_yes rfl rfl rfl hg59B) (P_eql (a := r149.1) (b := (3 : Int)) rfl rfl) rfl <| oP (P_pickT rfl hg59B rfl) rfl <| oA rfl rfl <| nT <| CJ_ret <| QJ_then_ret ?_
                cases h
                exact fE (res1 Try.results27 rfl) () (t3_ (eD (eD (eD (eD eR)))))
               ·
                replace h := ite_f hg59 h
                refine RJ_gn (GY_no rfl rfl rfl hg59B) rfl rfl <| RJ_gn (GY_no rfl rfl rfl hg59B) rfl rfl <| RJ_gn (GY_no rfl rfl rfl hg59B) rfl rfl <| oP (P_pickF rfl hg59B rfl) rfl <| oA rfl rfl <| nT <| CJ_ret <| QJ_then_ret ?_
                cases h
                exact fE (res1 Try.results27 rfl) () (t3_ (eD (eD (eD (eD eR)))))
              ·
               replace h := ite_f hg58 h
               refine RJ_gn (GY_no rfl rfl rfl hg58B) rfl rfl <| RJ_gn (GY_no rfl rfl rfl hg58B) rfl rfl <| RJ_gn (GY_no rfl rfl rfl hg58B) rfl rfl <| oP (P_pickF rfl hg58B rfl) rfl <| oM rfl rfl <| RJ_gn (GY_no rfl rfl rfl rfl) rfl rfl <| RJ_gn (GY_no rfl rfl rfl rfl) rfl rfl <| RJ_gn (GY_no rfl rfl rfl rfl) rfl rfl <| oP (P_pickF rfl rfl rfl) rfl <| oA rfl rfl <| nT <| CJ_ret <| QJ_then_ret ?_
               cases h
               exact fE (res1 Try.results27 rfl) () (t3_ (eD (eD (eD (eD eR)))))
             ·
              replace h := ite_f hg57 h
              refine kT <| sR <| oM rfl rfl <| oM rfl rfl ?_
              obtain ⟨hg60, h⟩ := grd_de h
              refine oV (V_index (i := 1) rfl rfl rfl hg60 foc1 (Reads.sl _ _ _) Try.runUnderlying29 Try.sizeOf39) rfl <| oV (V_loadE rfl rfl hg60 foc1 (Reads.sl _ _ _) rfl rfl Try.isAgg39) rfl ?_
              obtain ⟨r151, hr152, h⟩ := bind_e h
              refine oO <| O_call (L_volumegroupref12_Whole (Reads.sl _ _ _) hr152) rfl Try.call64 (Dels.cons del1 Dels.nil) rfl fun _ _ => oM rfl rfl <| oP (P_extract rfl rfl) rfl <| oP (P_extract rfl rfl) rfl <| oA rfl rfl <| oA rfl rfl <| nT <| sR <| oM rfl rfl ?_
              obtain ⟨r153, hr154, h⟩ := bind_e h
              refine oO <| O_call (L_ring_Switch hr154) rfl Try.call17 (Dels.cons del2 (Dels.cons del1 Dels.nil)) rfl fun _ _ => oA rfl rfl <| nT <| sR <| oM rfl rfl <| oO <| O_call (c_ImageD) rfl Try.call30 (Dels.cons del1 Dels.nil) rfl fun X155 _ => RJ_pure (len_of (Reads.sl _ _ _) del0) fun hlen157 => oM rfl rfl <| oP (P_extract (v := (Sl3.v X155)) rfl rfl) rfl <| oP (P_extract rfl rfl) rfl <| oA rfl rfl <| oA rfl rfl <| nT <| CJ_seq <| sR <| oM rfl rfl <| oP (P_neq (a := (imC r153.2 (0 : Int))) (b := (0 : Int)) rfl rfl) rfl <| oM rfl rfl <| RJ_splitP 177 rfl bT_dec (fun hg61B hg61 => ?_) (fun hg61B hg61 => ?_)
              ·
               replace h := ite_t hg61 h
               refine RJ_gn (GY_no rfl rfl rfl hg61B) rfl rfl <| RJ_gn (GY_no rfl rfl rfl hg61B) rfl rfl <| RJ_gn (GY_no rfl rfl rfl hg61B) rfl rfl <| oP (P_pickT rfl hg61B rfl) rfl <| nT <| CJ_condT rfl rfl <| sR <| oA rfl rfl <| nT <| CJ_ret <| QJ_then_ret ?_
               cases h
               exact fE (res1 Try.results27 rfl) () (t4_ (eD (eD (eD (eD (eD eR))))))
              ·
               replace h := ite_f hg61 h
               refine gP (GY_yes rfl rfl rfl hg61B) (P_move rfl) rfl <| RJ_gy (GY_yes rfl rfl rfl hg61B) <| O_call (c_Unflushed) rfl Try.call32 (Dels.cons del1 Dels.nil) rfl fun _ _ => gP (GY_yes rfl rfl rfl hg61B) (P_neq (a := ((r153.2.log.length : Nat) : Int)) (b := (0 : Int)) rfl rfl) rfl <| oP (P_pickF rfl hg61B rfl) rfl <| nT <| CJ_condP rfl bT_dec (fun hg62 => ?_) (fun hg62 => ?_)
               ·
                replace h := ite_t hg62 h
                refine sR <| oA rfl rfl <| nT <| CJ_ret <| QJ_then_ret ?_
                cases h
                exact fE (res1 Try.results27 rfl) () (t4_ (eD (eD (eD (eD (eD eR))))))
               ·
                replace h := ite_f hg62 h
                refine kT <| CJ_seq <| CJ_block <| sR <| oM rfl rfl ?_
                obtain ⟨hg63, h⟩ := grd_de h
                refine oV (V_index (i := 1) rfl rfl rfl hg63 foc3 (Reads.sl _ _ _) Try.runUnderlying29 Try.sizeOf39) rfl <| oV (V_loadE rfl rfl hg63 foc3 (Reads.sl _ _ _) rfl rfl Try.isAgg39) rfl <| oP (P_eq_u64 (a := (((imL r77.2 (0 : Int))).getD 1 0)) (b := (0 : UInt64)) rfl rfl) rfl <| oA rfl rfl <| nT <| CJ_condP rfl bT_dec (fun hg64 => ?_) (fun hg64 => ?_)
                ·
                 replace h := ite_t hg64 h
                 refine sR <| oM rfl rfl <| oP (P_eql (a := r153.1) (b := (12 : Int)) rfl rfl) rfl <| oM rfl rfl <| RJ_splitP 189 rfl bT_dec (fun hg65B hg65 => ?_) (fun hg65B hg65 => ?_)
                 ·
                  replace h := ite_t hg65 h
                  refine gP (GY_yes rfl rfl rfl hg65B) (P_move rfl) rfl <| gP (GY_yes rfl rfl rfl hg65B) (P_move rfl) rfl ?_
                  obtain ⟨r158, hr159, h⟩ := bind_e h
                  refine RJ_gy (GY_yes rfl rfl rfl hg65B) <| O_call (L_volumegroupref02_Same (Reads.sl _ _ _) (Reads.sl _ _ _) hr159) rfl Try.call31 (Dels.cons del1 (Dels.cons del2 Dels.nil)) rfl fun _ _ => oP (P_pickT rfl hg65B rfl) rfl <| oA rfl rfl <| nT <| CJ_ret <| QJ_block_ret <| QJ_then_ret ?_
                  cases h
                  exact fE (res1 Try.results27 rfl) () (t4_ (eD (eD (eD (eD (eD eR))))))
                 ·
                  replace h := ite_f hg65 h
                  refine RJ_gn (GY_no rfl rfl rfl hg65B) rfl rfl <| RJ_gn (GY_no rfl rfl rfl hg65B) rfl rfl <| RJ_gn (GY_no rfl rfl rfl hg65B) rfl rfl <| oP (P_pickF rfl hg65B rfl) rfl <| oA rfl rfl <| nT <| CJ_ret <| QJ_block_ret <| QJ_then_ret ?_
                  cases h
                  exact fE (res1 Try.results27 rfl) () (t4_ (eD (eD (eD (eD (eD eR))))))
                ·
                 replace h := ite_f hg64 h
                 refine sR <| oM rfl rfl <| oP (P_not rfl) rfl <| oA rfl rfl <| nT <| CJ_condP rfl (bT_not Iff.rfl) (fun hg66 => ?_) (fun hg66 => ?_)
                 ·
                  replace h := ite_t hg66 h
                  refine sR <| oM rfl rfl <| oP (P_eql (a := r153.1) (b := (11 : Int)) rfl rfl) rfl <| oM rfl rfl <| RJ_splitP 199 rfl bT_dec (fun hg67B hg67 => ?_) (fun hg67B hg67 => ?_)
                  ·
                   replace h := ite_t hg67 h
                   refine gP (GY_yes rfl rfl rfl hg67B) (P_move rfl) rfl <| gP (GY_yes rfl rfl rfl hg67B) (P_move rfl) rfl ?_
                   obtain ⟨r160, hr161, h⟩ := bind_e h
                   refine RJ_gy (GY_yes rfl rfl rfl hg67B) <| O_call (L_volumegroupref02_Same (Reads.sl _ _ _) (Reads.sl _ _ _) hr161) rfl Try.call31 (Dels.cons del1 (Dels.cons del2 Dels.nil)) rfl fun _ _ => oP (P_pickT rfl hg67B rfl) rfl <| oA rfl rfl <| nT <| CJ_ret <| QJ_block_ret <| QJ_then_ret ?_
                   cases h
                   exact fE (res1 Try.results27 rfl) () (t4_ (eD (eD (eD (eD (eD eR))))))
                  ·
                   replace h := ite_f hg67 h
                   refine RJ_gn (GY_no rfl rfl rfl hg67B) rfl rfl <| RJ_gn (GY_no rfl rfl rfl hg67B) rfl rfl <| RJ_gn (GY_no rfl rfl rfl hg67B) rfl rfl <| oP (P_pickF rfl hg67B rfl) rfl <| oA rfl rfl <| nT <| CJ_ret <| QJ_block_ret <| QJ_then_ret ?_
                   cases h
                   exact fE (res1 Try.results27 rfl) () (t4_ (eD (eD (eD (eD (eD eR))))))
                 ·
                  replace h := ite_f hg66 h
                  refine CJ_skip <| QJ_block_normal <| QJ_then <| sR <| oM rfl rfl <| oM rfl rfl ?_
                  obtain ⟨hg68, h⟩ := grd_de h
                  refine oV (V_index (i := 1) rfl rfl rfl hg68 foc3 (Reads.sl _ _ _) Try.runUnderlying29 Try.sizeOf39) rfl <| oV (V_loadE rfl rfl hg68 foc3 (Reads.sl _ _ _) rfl rfl Try.isAgg39) rfl ?_
                  obtain ⟨hg69, h⟩ := grd_de h
                  refine oV (V_index (i := 0) rfl rfl rfl hg69 foc3 (Reads.sl _ _ _) Try.runUnderlying29 Try.sizeOf39) rfl <| oO <| O_storeE (x' := (((imL r77.2 (0 : Int))).getD 1 0)) rfl rfl rfl hg69 foc3 rfl rfl rfl Try.sizeOf39 <| nT <| sR <| oM rfl rfl <| oP (P_eql (a := r153.1) (b := (0 : Int)) rfl rfl) rfl <| oM rfl rfl <| RJ_splitP 211 rfl bT_dec (fun hg70B hg70 => ?_) (fun hg70B hg70 => ?_)
                  ·
                   replace h := ite_t hg70 h
                   refine gP (GY_yes rfl rfl rfl hg70B) (P_move rfl) rfl <| gP (GY_yes rfl rfl rfl hg70B) (P_move rfl) rfl ?_
                   obtain ⟨r162, hr163, h⟩ := bind_e h
                   refine RJ_gy (GY_yes rfl rfl rfl hg70B) <| O_call (L_volumegroupref02_Same (Reads.sl _ _ _) (Reads.sl _ _ _) hr163) rfl Try.call31 (Dels.cons del1 (Dels.cons del2 Dels.nil)) rfl fun _ _ => oP (P_pickT rfl hg70B rfl) rfl <| oA rfl rfl <| nT <| CJ_ret ?_
                   cases h
                   exact fE (res1 Try.results27 rfl) () (t4_ (eD (eD (eD (eD (eD eR))))))
                  ·
                   replace h := ite_f hg70 h
                   refine RJ_gn (GY_no rfl rfl rfl hg70B) rfl rfl <| RJ_gn (GY_no rfl rfl rfl hg70B) rfl rfl <| RJ_gn (GY_no rfl rfl rfl hg70B) rfl rfl <| oP (P_pickF rfl hg70B rfl) rfl <| oA rfl rfl <| nT <| CJ_ret ?_
                   cases h
                   exact fE (res1 Try.results27 rfl) () (t4_ (eD (eD (eD (eD (eD eR))))))
    ·
     replace h := ite_f hg2 h
     refine RJ_gn (GY_no rfl rfl rfl hg2B) rfl rfl <| RJ_gn (GY_no rfl rfl rfl hg2B) rfl rfl <| RJ_gn (GY_no rfl rfl rfl hg2B) rfl rfl <| RJ_gn (GY_undef rfl rfl rfl) rfl rfl <| RJ_gn (GY_undef rfl rfl rfl) rfl rfl <| RJ_gn (GY_undef rfl rfl rfl) rfl rfl <| RJ_gn (GY_undef rfl rfl rfl) rfl rfl <| RJ_gn (GY_undef rfl rfl rfl) rfl rfl <| RJ_gn (GY_undef rfl rfl rfl) rfl rfl <| RJ_gn (GY_undef rfl rfl rfl) rfl rfl <| RJ_gn (GY_no rfl rfl rfl hg2B) rfl rfl <| RJ_gn (GY_no rfl rfl rfl hg2B) rfl rfl <| RJ_gn (GY_undef rfl rfl rfl) rfl rfl <| RJ_gn (GY_undef rfl rfl rfl) rfl rfl <| RJ_gn (GY_undef rfl rfl rfl) rfl rfl <| RJ_gn (GY_undef rfl rfl rfl) rfl rfl <| RJ_gn (GY_undef rfl rfl rfl) rfl rfl <| RJ_gn (GY_undef rfl rfl rfl) rfl rfl <| RJ_gn (GY_undef rfl rfl rfl) rfl rfl <| RJ_gn (GY_no rfl rfl rfl hg2B) rfl rfl <| gP (GY_yes rfl rfl rfl hg1B) (P_pickF rfl hg2B rfl) rfl <| oP (P_pickF rfl hg1B rfl) rfl <| nT <| CJ_condF rfl rfl <| kT <| sR <| oM rfl rfl <| oM rfl rfl <| oM rfl rfl ?_
     obtain ⟨r164, hr165, h⟩ := bind_e h
     refine oO <| O_call (L_volumegroupref12_Prepared rwords hr165) rfl Try.call35 (Dels.cons del3 Dels.nil) rfl fun X166 _ => oM rfl rfl <| oP (P_extract (v := X166.v) rfl rfl) rfl <| oP (P_extract rfl rfl) rfl <| oA rfl rfl <| oA rfl rfl <| nT <| CJ_seq <| sR <| oM rfl rfl <| oM rfl rfl <| oM rfl rfl ?_
     obtain ⟨r168, hr169, h⟩ := bind_e h
     refine oO <| O_call (L_ring_Prepare hr169) rfl Try.call16 (Dels.cons del2 (Dels.cons del2 Dels.nil)) rfl fun _ _ => oM rfl rfl <| oP (P_neq (a := r168.1) (b := r164.2) rfl rfl) rfl <| nT <| CJ_condP rfl bT_dec (fun hg71 => ?_) (fun hg71 => ?_)
     ·
      replace h := ite_t hg71 h
      refine sR <| oA rfl rfl <| nT <| CJ_ret <| QJ_then_ret ?_
      cases h
      exact fE (res1 Try.results27 rfl) () (t2_ (eD (eD (eD (eD (eD eR))))))
     ·
      replace h := ite_f hg71 h
      refine kT <| sR <| oM rfl rfl <| oO <| O_call (c_ImageD) rfl Try.call30 (Dels.cons del1 Dels.nil) rfl fun X170 _ => RJ_pure (len_of (Reads.sl _ _ _) del0) fun hlen172 => oM rfl rfl <| oP (P_extract (v := (Sl3.v X170)) rfl rfl) rfl <| oP (P_extract rfl rfl) rfl <| oA rfl rfl <| oA rfl rfl <| RJ_nil <| QJ_ent (t0_ (t0_ (t0_ (t0_ (t0_ (eD (eD eR))))))) <| QJ_then <| CJ_seq <| sR <| oM rfl rfl <| oP (P_neq (a := (imC r168.2 (0 : Int))) (b := (0 : Int)) rfl rfl) rfl <| oM rfl rfl <| RJ_splitP 119 rfl bT_dec (fun hg72B hg72 => ?_) (fun hg72B hg72 => ?_)
      ·
       replace h := ite_t hg72 h
       refine RJ_gn (GY_no rfl rfl rfl hg72B) rfl rfl <| RJ_gn (GY_no rfl rfl rfl hg72B) rfl rfl <| RJ_gn (GY_no rfl rfl rfl hg72B) rfl rfl <| oP (P_pickT rfl hg72B rfl) rfl <| oM rfl rfl <| RJ_gn (GY_no rfl rfl rfl rfl) rfl rfl <| RJ_gn (GY_no rfl rfl rfl rfl) rfl rfl <| RJ_gn (GY_no rfl rfl rfl rfl) rfl rfl <| RJ_gn (GY_undef rfl rfl rfl) rfl rfl <| RJ_gn (GY_undef rfl rfl rfl) rfl rfl <| RJ_gn (GY_undef rfl rfl rfl) rfl rfl <| RJ_gn (GY_undef rfl rfl rfl) rfl rfl <| RJ_gn (GY_no rfl rfl rfl rfl) rfl rfl <| oP (P_pickT rfl rfl rfl) rfl <| oM rfl rfl <| RJ_gn (GY_no rfl rfl rfl rfl) rfl rfl <| RJ_gn (GY_no rfl rfl rfl rfl) rfl rfl <| RJ_gn (GY_no rfl rfl rfl rfl) rfl rfl <| RJ_gn (GY_undef rfl rfl rfl) rfl rfl <| RJ_gn (GY_undef rfl rfl rfl) rfl rfl <| RJ_gn (GY_undef rfl rfl rfl) rfl rfl <| RJ_gn (GY_undef rfl rfl rfl) rfl rfl <| RJ_gn (GY_no rfl rfl rfl rfl) rfl rfl <| oP (P_pickT rfl rfl rfl) rfl <| nT <| CJ_condT rfl rfl <| sR <| oA rfl rfl <| nT <| CJ_ret <| QJ_then_ret ?_
       cases h
       exact fE (res1 Try.results27 rfl) () (t3_ (eD (eD (eD (eD eR)))))
      ·
       replace h := ite_f hg72 h
       refine gP (GY_yes rfl rfl rfl hg72B) (P_move rfl) rfl <| RJ_gy (GY_yes rfl rfl rfl hg72B) <| O_call (c_Unflushed) rfl Try.call32 (Dels.cons del1 Dels.nil) rfl fun _ _ => gP (GY_yes rfl rfl rfl hg72B) (P_neq (a := ((r168.2.log.length : Nat) : Int)) (b := (0 : Int)) rfl rfl) rfl <| oP (P_pickF rfl hg72B rfl) rfl <| oM rfl rfl <| RJ_splitP 124 rfl bT_dec (fun hg73B hg73 => ?_) (fun hg73B hg73 => ?_)
       ·
        replace h := ite_t hg73 h
        refine RJ_gn (GY_no rfl rfl rfl hg73B) rfl rfl <| RJ_gn (GY_no rfl rfl rfl hg73B) rfl rfl <| RJ_gn (GY_no rfl rfl rfl hg73B) rfl rfl <| RJ_gn (GY_undef rfl rfl rfl) rfl rfl <| RJ_gn (GY_undef rfl rfl rfl) rfl rfl <| RJ_gn (GY_undef rfl rfl rfl) rfl rfl <| RJ_gn (GY_undef rfl rfl rfl) rfl rfl <| RJ_gn (GY_no rfl rfl rfl hg73B) rfl rfl <| oP (P_pickT rfl hg73B rfl) rfl <| oM rfl rfl <| RJ_gn (GY_no rfl rfl rfl rfl) rfl rfl <| RJ_gn (GY_no rfl rfl rfl rfl) rfl rfl <| RJ_gn (GY_no rfl rfl rfl rfl) rfl rfl <| RJ_gn (GY_undef rfl rfl rfl) rfl rfl <| RJ_gn (GY_undef rfl rfl rfl) rfl rfl <| RJ_gn (GY_undef rfl rfl rfl) rfl rfl <| RJ_gn (GY_undef rfl rfl rfl) rfl rfl <| RJ_gn (GY_no rfl rfl rfl rfl) rfl rfl <| oP (P_pickT rfl rfl rfl) rfl <| nT <| CJ_condT rfl rfl <| sR <| oA rfl rfl <| nT <| CJ_ret <| QJ_then_ret ?_
        cases h
        exact fE (res1 Try.results27 rfl) () (t3_ (eD (eD (eD (eD eR)))))
       ·
        replace h := ite_f hg73 h
        refine gP (GY_yes rfl rfl rfl hg73B) (P_move rfl) rfl <| gP (GY_yes rfl rfl rfl hg73B) (P_eql (a := r164.2) (b := (0 : Int)) rfl rfl) rfl <| gP (GY_yes rfl rfl rfl hg73B) (P_move rfl) rfl <| RJ_splitP 127 rfl bT_dec (fun hg74B hg74 => ?_) (fun hg74B hg74 => ?_)
        ·
         replace h := ite_t hg74 h
         refine gP (GY_yes rfl rfl rfl hg74B) (P_move rfl) rfl <| gP (GY_yes rfl rfl rfl hg74B) (P_move rfl) rfl ?_
         obtain ⟨r173, hr174, h⟩ := bind_e h
         refine RJ_gy (GY_yes rfl rfl rfl hg74B) <| O_call (L_volumegroupref02_Same (Reads.sl _ _ _) (Reads.sl _ _ _) hr174) rfl Try.call31 (Dels.cons del1 (Dels.cons del3 Dels.nil)) rfl fun _ _ => gP (GY_yes rfl rfl rfl hg74B) (P_not rfl) rfl <| gP (GY_yes rfl rfl rfl hg73B) (P_pickT rfl hg74B rfl) rfl <| oP (P_pickF rfl hg73B rfl) rfl <| oM rfl rfl <| RJ_splitP 134 rfl (bT_not Iff.rfl) (fun hg75B hg75 => ?_) (fun hg75B hg75 => ?_)
         ·
          replace h := ite_t hg75 h
          refine RJ_gn (GY_no rfl rfl rfl hg75B) rfl rfl <| RJ_gn (GY_no rfl rfl rfl hg75B) rfl rfl <| RJ_gn (GY_no rfl rfl rfl hg75B) rfl rfl <| RJ_gn (GY_undef rfl rfl rfl) rfl rfl <| RJ_gn (GY_undef rfl rfl rfl) rfl rfl <| RJ_gn (GY_undef rfl rfl rfl) rfl rfl <| RJ_gn (GY_undef rfl rfl rfl) rfl rfl <| RJ_gn (GY_no rfl rfl rfl hg75B) rfl rfl <| oP (P_pickT rfl hg75B rfl) rfl <| nT <| CJ_condT rfl rfl <| sR <| oA rfl rfl <| nT <| CJ_ret <| QJ_then_ret ?_
          cases h
          exact fE (res1 Try.results27 rfl) () (t4_ (eD (eD (eD (eD eR)))))
         ·
          replace h := ite_f hg75 h
          refine gP (GY_yes rfl rfl rfl hg75B) (P_move rfl) rfl <| gP (GY_yes rfl rfl rfl hg75B) (P_neq (a := r164.2) (b := (0 : Int)) rfl rfl) rfl <| gP (GY_yes rfl rfl rfl hg75B) (P_move rfl) rfl <| RJ_splitP 137 rfl bT_dec (fun hg76B hg76 => ?_) (fun hg76B hg76 => ?_)
          ·
           replace h := ite_t hg76 h
           refine gP (GY_yes rfl rfl rfl hg76B) (P_move rfl) rfl <| gP (GY_yes rfl rfl rfl hg76B) (P_move rfl) rfl ?_
           obtain ⟨r175, hr176, h⟩ := bind_e h
           refine RJ_gy (GY_yes rfl rfl rfl hg76B) <| O_call (L_volumegroupref02_Same (Reads.sl _ _ _) rwords hr176) rfl Try.call31 (Dels.cons del0 (Dels.cons del3 Dels.nil)) rfl fun _ _ => gP (GY_yes rfl rfl rfl hg76B) (P_not rfl) rfl <| gP (GY_yes rfl rfl rfl hg75B) (P_pickT rfl hg76B rfl) rfl <| oP (P_pickF rfl hg75B rfl) rfl <| nT <| CJ_condP rfl (bT_not Iff.rfl) (fun hg77 => ?_) (fun hg77 => ?_)
           ·
            replace h := ite_t hg77 h
            refine sR <| oA rfl rfl <| nT <| CJ_ret <| QJ_then_ret ?_
            cases h
            exact fE (res1 Try.results27 rfl) () (t1_ (eD (eD (eD (eD eR)))))
           ·
            replace h := ite_f hg77 h
            refine kT <| CJ_seq <| sR <| oM rfl rfl <| oV (V_len rfl foc1 rwords Try.runUnderlying29) rfl <| oP (P_lss (a := ((words.length : Nat) : Int)) (b := (4 : Int)) rfl rfl) rfl <| nT <| CJ_condP rfl bT_dec (fun hg78 => ?_) (fun hg78 => ?_)
            ·
             replace h := ite_t hg78 h
             refine sR <| oM rfl rfl ?_
             obtain ⟨r177, hr178, h⟩ := bind_e h
             refine oO <| O_call (L_ring_Switch hr178) rfl Try.call17 (Dels.cons del4 (Dels.cons del3 Dels.nil)) rfl fun _ _ => oP (P_eql (a := r177.1) (b := (3 : Int)) rfl rfl) rfl <| oM rfl rfl <| RJ_splitP 150 rfl bT_dec (fun hg79B hg79 => ?_) (fun hg79B hg79 => ?_)
             ·
              replace h := ite_t hg79 h
              refine gP (GY_yes rfl rfl rfl hg79B) (P_move rfl) rfl ?_
              obtain ⟨r179, hr180, h⟩ := bind_e h
              refine RJ_gy (GY_yes rfl rfl rfl hg79B) <| O_call (L_ring_Format hr180) rfl Try.call33 (Dels.cons del0 (Dels.cons del0 Dels.nil)) rfl fun _ _ => gP (GY_yes rfl rfl rfl hg79B) (P_eql (a := r179.1) (b := (3 : Int)) rfl rfl) rfl <| oP (P_pickT rfl hg79B rfl) rfl <| oM rfl rfl <| RJ_splitP 155 rfl bT_dec (fun hg80B hg80 => ?_) (fun hg80B hg80 => ?_)
              ·
               replace h := ite_t hg80 h
               refine gP (GY_yes rfl rfl rfl hg80B) (P_move rfl) rfl ?_
               obtain ⟨r181, hr182, h⟩ := bind_e h
               refine RJ_gy (GY_yes rfl rfl rfl hg80B) <| O_call (L_ring_Clear hr182) rfl Try.call29 (Dels.cons del0 (Dels.cons del0 Dels.nil)) rfl fun _ _ => gP (GY_yes rfl rfl rfl hg80B) (P_eql (a := r181.1) (b := (3 : Int)) rfl rfl) rfl <| oP (P_pickT rfl hg80B rfl) rfl <| oA rfl rfl <| nT <| CJ_ret <| QJ_then_ret ?_
               cases h
               exact fE (res1 Try.results27 rfl) () (t3_ (eD (eD (eD (eD eR)))))
              ·
               replace h := ite_f hg80 h
               refine RJ_gn (GY_no rfl rfl rfl hg80B) rfl rfl <| RJ_gn (GY_no rfl rfl rfl hg80B) rfl rfl <| RJ_gn (GY_no rfl rfl rfl hg80B) rfl rfl <| oP (P_pickF rfl hg80B rfl) rfl <| oA rfl rfl <| nT <| CJ_ret <| QJ_then_ret ?_
               cases h
               exact fE (res1 Try.results27 rfl) () (t3_ (eD (eD (eD (eD eR)))))
             ·
              replace h := ite_f hg79 h
              refine RJ_gn (GY_no rfl rfl rfl hg79B) rfl rfl <| RJ_gn (GY_no rfl rfl rfl hg79B) rfl rfl <| RJ_gn (GY_no rfl rfl rfl hg79B) rfl rfl <| oP (P_pickF rfl hg79B rfl) rfl <| oM rfl rfl <| RJ_gn (GY_no rfl rfl rfl rfl) rfl rfl <| RJ_gn (GY_no rfl rfl rfl rfl) rfl rfl <| RJ_gn (GY_no rfl rfl rfl rfl) rfl rfl <| oP (P_pickF rfl rfl rfl) rfl <| oA rfl rfl <| nT <| CJ_ret <| QJ_then_ret ?_
              cases h
              exact fE (res1 Try.results27 rfl) () (t3_ (eD (eD (eD (eD eR)))))
            ·
             replace h := ite_f hg78 h
             refine kT <| sR <| oM rfl rfl <| oM rfl rfl ?_
             obtain ⟨hg81, h⟩ := grd_de h
             refine oV (V_index (i := 1) rfl rfl rfl hg81 foc0 (Reads.sl _ _ _) Try.runUnderlying29 Try.sizeOf39) rfl <| oV (V_loadE rfl rfl hg81 foc0 (Reads.sl _ _ _) rfl rfl Try.isAgg39) rfl ?_
             obtain ⟨r183, hr184, h⟩ := bind_e h
             refine oO <| O_call (L_volumegroupref12_Whole (Reads.sl _ _ _) hr184) rfl Try.call64 (Dels.cons del0 Dels.nil) rfl fun _ _ => oM rfl rfl <| oP (P_extract rfl rfl) rfl <| oP (P_extract rfl rfl) rfl <| oA rfl rfl <| oA rfl rfl <| nT <| sR <| oM rfl rfl ?_
             obtain ⟨r185, hr186, h⟩ := bind_e h
             refine oO <| O_call (L_ring_Switch hr186) rfl Try.call17 (Dels.cons del4 (Dels.cons del3 Dels.nil)) rfl fun _ _ => oA rfl rfl <| nT <| sR <| oM rfl rfl <| oO <| O_call (c_ImageD) rfl Try.call30 (Dels.cons del1 Dels.nil) rfl fun X187 _ => RJ_pure (len_of (Reads.sl _ _ _) del0) fun hlen189 => oM rfl rfl <| oP (P_extract (v := (Sl3.v X187)) rfl rfl) rfl <| oP (P_extract rfl rfl) rfl <| oA rfl rfl <| oA rfl rfl <| nT <| CJ_seq <| sR <| oM rfl rfl <| oP (P_neq (a := (imC r185.2 (0 : Int))) (b := (0 : Int)) rfl rfl) rfl <| oM rfl rfl <| RJ_splitP 177 rfl bT_dec (fun hg82B hg82 => ?_) (fun hg82B hg82 => ?_)
             ·
              replace h := ite_t hg82 h
              refine RJ_gn (GY_no rfl rfl rfl hg82B) rfl rfl <| RJ_gn (GY_no rfl rfl rfl hg82B) rfl rfl <| RJ_gn (GY_no rfl rfl rfl hg82B) rfl rfl <| oP (P_pickT rfl hg82B rfl) rfl <| nT <| CJ_condT rfl rfl <| sR <| oA rfl rfl <| nT <| CJ_ret <| QJ_then_ret ?_
              cases h
              exact fE (res1 Try.results27 rfl) () (t4_ (eD (eD (eD (eD (eD eR))))))
             ·
              replace h := ite_f hg82 h
              refine gP (GY_yes rfl rfl rfl hg82B) (P_move rfl) rfl <| RJ_gy (GY_yes rfl rfl rfl hg82B) <| O_call (c_Unflushed) rfl Try.call32 (Dels.cons del1 Dels.nil) rfl fun _ _ => gP (GY_yes rfl rfl rfl hg82B) (P_neq (a := ((r185.2.log.length : Nat) : Int)) (b := (0 : Int)) rfl rfl) rfl <| oP (P_pickF rfl hg82B rfl) rfl <| nT <| CJ_condP rfl bT_dec (fun hg83 => ?_) (fun hg83 => ?_)
              ·
               replace h := ite_t hg83 h
               refine sR <| oA rfl rfl <| nT <| CJ_ret <| QJ_then_ret ?_
               cases h
               exact fE (res1 Try.results27 rfl) () (t4_ (eD (eD (eD (eD (eD eR))))))
              ·
               replace h := ite_f hg83 h
               refine kT <| CJ_seq <| CJ_block <| sR <| oM rfl rfl ?_
               obtain ⟨hg84, h⟩ := grd_de h
               refine oV (V_index (i := 1) rfl rfl rfl hg84 foc3 (Reads.sl _ _ _) Try.runUnderlying29 Try.sizeOf39) rfl <| oV (V_loadE rfl rfl hg84 foc3 (Reads.sl _ _ _) rfl rfl Try.isAgg39) rfl <| oP (P_eq_u64 (a := (((imL r168.2 (0 : Int))).getD 1 0)) (b := (0 : UInt64)) rfl rfl) rfl <| oA rfl rfl <| nT <| CJ_condP rfl bT_dec (fun hg85 => ?_) (fun hg85 => ?_)
               ·
                replace h := ite_t hg85 h
                refine sR <| oM rfl rfl <| oP (P_eql (a := r185.1) (b := (12 : Int)) rfl rfl) rfl <| oM rfl rfl <| RJ_splitP 189 rfl bT_dec (fun hg86B hg86 => ?_) (fun hg86B hg86 => ?_)
                ·
                 replace h := ite_t hg86 h
                 refine gP (GY_yes rfl rfl rfl hg86B) (P_move rfl) rfl <| gP (GY_yes rfl rfl rfl hg86B) (P_move rfl) rfl ?_
                 obtain ⟨r190, hr191, h⟩ := bind_e h
                 refine RJ_gy (GY_yes rfl rfl rfl hg86B) <| O_call (L_volumegroupref02_Same (Reads.sl _ _ _) (Reads.sl _ _ _) hr191) rfl Try.call31 (Dels.cons del1 (Dels.cons del2 Dels.nil)) rfl fun _ _ => oP (P_pickT rfl hg86B rfl) rfl <| oA rfl rfl <| nT <| CJ_ret <| QJ_block_ret <| QJ_then_ret ?_
                 cases h
                 exact fE (res1 Try.results27 rfl) () (t4_ (eD (eD (eD (eD (eD eR))))))
                ·
                 replace h := ite_f hg86 h
                 refine RJ_gn (GY_no rfl rfl rfl hg86B) rfl rfl <| RJ_gn (GY_no rfl rfl rfl hg86B) rfl rfl <| RJ_gn (GY_no rfl rfl rfl hg86B) rfl rfl <| oP (P_pickF rfl hg86B rfl) rfl <| oA rfl rfl <| nT <| CJ_ret <| QJ_block_ret <| QJ_then_ret ?_
                 cases h
                 exact fE (res1 Try.results27 rfl) () (t4_ (eD (eD (eD (eD (eD eR))))))
               ·
                replace h := ite_f hg85 h
                refine sR <| oM rfl rfl <| oP (P_not rfl) rfl <| oA rfl rfl <| nT <| CJ_condP rfl (bT_not Iff.rfl) (fun hg87 => ?_) (fun hg87 => ?_)
                ·
                 replace h := ite_t hg87 h
                 refine sR <| oM rfl rfl <| oP (P_eql (a := r185.1) (b := (11 : Int)) rfl rfl) rfl <| oM rfl rfl <| RJ_splitP 199 rfl bT_dec (fun hg88B hg88 => ?_) (fun hg88B hg88 => ?_)
                 ·
                  replace h := ite_t hg88 h
                  refine gP (GY_yes rfl rfl rfl hg88B) (P_move rfl) rfl <| gP (GY_yes rfl rfl rfl hg88B) (P_move rfl) rfl ?_
                  obtain ⟨r192, hr193, h⟩ := bind_e h
                  refine RJ_gy (GY_yes rfl rfl rfl hg88B) <| O_call (L_volumegroupref02_Same (Reads.sl _ _ _) (Reads.sl _ _ _) hr193) rfl Try.call31 (Dels.cons del1 (Dels.cons del2 Dels.nil)) rfl fun _ _ => oP (P_pickT rfl hg88B rfl) rfl <| oA rfl rfl <| nT <| CJ_ret <| QJ_block_ret <| QJ_then_ret ?_
                  cases h
                  exact fE (res1 Try.results27 rfl) () (t4_ (eD (eD (eD (eD (eD eR))))))
                 ·
                  replace h := ite_f hg88 h
                  refine RJ_gn (GY_no rfl rfl rfl hg88B) rfl rfl <| RJ_gn (GY_no rfl rfl rfl hg88B) rfl rfl <| RJ_gn (GY_no rfl rfl rfl hg88B) rfl rfl <| oP (P_pickF rfl hg88B rfl) rfl <| oA rfl rfl <| nT <| CJ_ret <| QJ_block_ret <| QJ_then_ret ?_
                  cases h
                  exact fE (res1 Try.results27 rfl) () (t4_ (eD (eD (eD (eD (eD eR))))))
                ·
                 replace h := ite_f hg87 h
                 refine CJ_skip <| QJ_block_normal <| QJ_then <| sR <| oM rfl rfl <| oM rfl rfl ?_
                 obtain ⟨hg89, h⟩ := grd_de h
                 refine oV (V_index (i := 1) rfl rfl rfl hg89 foc3 (Reads.sl _ _ _) Try.runUnderlying29 Try.sizeOf39) rfl <| oV (V_loadE rfl rfl hg89 foc3 (Reads.sl _ _ _) rfl rfl Try.isAgg39) rfl ?_
                 obtain ⟨hg90, h⟩ := grd_de h
                 refine oV (V_index (i := 0) rfl rfl rfl hg90 foc3 (Reads.sl _ _ _) Try.runUnderlying29 Try.sizeOf39) rfl <| oO <| O_storeE (x' := (((imL r168.2 (0 : Int))).getD 1 0)) rfl rfl rfl hg90 foc3 rfl rfl rfl Try.sizeOf39 <| nT <| sR <| oM rfl rfl <| oP (P_eql (a := r185.1) (b := (0 : Int)) rfl rfl) rfl <| oM rfl rfl <| RJ_splitP 211 rfl bT_dec (fun hg91B hg91 => ?_) (fun hg91B hg91 => ?_)
                 ·
                  replace h := ite_t hg91 h
                  refine gP (GY_yes rfl rfl rfl hg91B) (P_move rfl) rfl <| gP (GY_yes rfl rfl rfl hg91B) (P_move rfl) rfl ?_
                  obtain ⟨r194, hr195, h⟩ := bind_e h
                  refine RJ_gy (GY_yes rfl rfl rfl hg91B) <| O_call (L_volumegroupref02_Same (Reads.sl _ _ _) (Reads.sl _ _ _) hr195) rfl Try.call31 (Dels.cons del1 (Dels.cons del2 Dels.nil)) rfl fun _ _ => oP (P_pickT rfl hg91B rfl) rfl <| oA rfl rfl <| nT <| CJ_ret ?_
                  cases h
                  exact fE (res1 Try.results27 rfl) () (t4_ (eD (eD (eD (eD (eD eR))))))
                 ·
                  replace h := ite_f hg91 h
                  refine RJ_gn (GY_no rfl rfl rfl hg91B) rfl rfl <| RJ_gn (GY_no rfl rfl rfl hg91B) rfl rfl <| RJ_gn (GY_no rfl rfl rfl hg91B) rfl rfl <| oP (P_pickF rfl hg91B rfl) rfl <| oA rfl rfl <| nT <| CJ_ret ?_
                  cases h
                  exact fE (res1 Try.results27 rfl) () (t4_ (eD (eD (eD (eD (eD eR))))))
          ·
           replace h := ite_f hg76 h
           refine RJ_gn (GY_no rfl rfl rfl hg76B) rfl rfl <| RJ_gn (GY_no rfl rfl rfl hg76B) rfl rfl <| RJ_gn (GY_no rfl rfl rfl hg76B) rfl rfl <| RJ_gn (GY_no rfl rfl rfl hg76B) rfl rfl <| gP (GY_yes rfl rfl rfl hg75B) (P_pickF rfl hg76B rfl) rfl <| oP (P_pickF rfl hg75B rfl) rfl <| nT <| CJ_condF rfl rfl <| kT <| CJ_seq <| sR <| oM rfl rfl <| oV (V_len rfl foc4 rwords Try.runUnderlying29) rfl <| oP (P_lss (a := ((words.length : Nat) : Int)) (b := (4 : Int)) rfl rfl) rfl <| nT <| CJ_condP rfl bT_dec (fun hg92 => ?_) (fun hg92 => ?_)
           ·
            replace h := ite_t hg92 h
            refine sR <| oM rfl rfl ?_
            obtain ⟨r196, hr197, h⟩ := bind_e h
            refine oO <| O_call (L_ring_Switch hr197) rfl Try.call17 (Dels.cons del3 (Dels.cons del2 Dels.nil)) rfl fun _ _ => oP (P_eql (a := r196.1) (b := (3 : Int)) rfl rfl) rfl <| oM rfl rfl <| RJ_splitP 150 rfl bT_dec (fun hg93B hg93 => ?_) (fun hg93B hg93 => ?_)
            ·
             replace h := ite_t hg93 h
             refine gP (GY_yes rfl rfl rfl hg93B) (P_move rfl) rfl ?_
             obtain ⟨r198, hr199, h⟩ := bind_e h
             refine RJ_gy (GY_yes rfl rfl rfl hg93B) <| O_call (L_ring_Format hr199) rfl Try.call33 (Dels.cons del0 (Dels.cons del0 Dels.nil)) rfl fun _ _ => gP (GY_yes rfl rfl rfl hg93B) (P_eql (a := r198.1) (b := (3 : Int)) rfl rfl) rfl <| oP (P_pickT rfl hg93B rfl) rfl <| oM rfl rfl <| RJ_splitP 155 rfl bT_dec (fun hg94B hg94 => ?_) (fun hg94B hg94 => ?_)
             ·
              replace h := ite_t hg94 h
              refine gP (GY_yes rfl rfl rfl hg94B) (P_move rfl) rfl ?_
              obtain ⟨r200, hr201, h⟩ := bind_e h
              refine RJ_gy (GY_yes rfl rfl rfl hg94B) <| O_call (L_ring_Clear hr201) rfl Try.call29 (Dels.cons del0 (Dels.cons del0 Dels.nil)) rfl fun _ _ => gP (GY_yes rfl rfl rfl hg94B) (P_eql (a := r200.1) (b := (3 : Int)) rfl rfl) rfl <| oP (P_pickT rfl hg94B rfl) rfl <| oA rfl rfl <| nT <| CJ_ret <| QJ_then_ret ?_
              cases h
              exact fE (res1 Try.results27 rfl) () (t4_ (eD (eD (eD (eD eR)))))
             ·
              replace h := ite_f hg94 h
              refine RJ_gn (GY_no rfl rfl rfl hg94B) rfl rfl <| RJ_gn (GY_no rfl rfl rfl hg94B) rfl rfl <| RJ_gn (GY_no rfl rfl rfl hg94B) rfl rfl <| oP (P_pickF rfl hg94B rfl) rfl <| oA rfl rfl <| nT <| CJ_ret <| QJ_then_ret ?_
              cases h
              exact fE (res1 Try.results27 rfl) () (t4_ (eD (eD (eD (eD eR)))))
            ·
             replace h := ite_f hg93 h
             refine RJ_gn (GY_no rfl rfl rfl hg93B) rfl rfl <| RJ_gn (GY_no rfl rfl rfl hg93B) rfl rfl <| RJ_gn (GY_no rfl rfl rfl hg93B) rfl rfl <| oP (P_pickF rfl hg93B rfl) rfl <| oM rfl rfl <| RJ_gn (GY_no rfl rfl rfl rfl) rfl rfl <| RJ_gn (GY_no rfl rfl rfl rfl) rfl rfl <| RJ_gn (GY_no rfl rfl rfl rfl) rfl rfl <| oP (P_pickF rfl rfl rfl) rfl <| oA rfl rfl <| nT <| CJ_ret <| QJ_then_ret ?_
             cases h
             exact fE (res1 Try.results27 rfl) () (t4_ (eD (eD (eD (eD eR)))))
           ·
            replace h := ite_f hg92 h
            refine kT <| sR <| oM rfl rfl <| oM rfl rfl ?_
            obtain ⟨hg95, h⟩ := grd_de h
            refine oV (V_index (i := 1) rfl rfl rfl hg95 foc0 (Reads.sl _ _ _) Try.runUnderlying29 Try.sizeOf39) rfl <| oV (V_loadE rfl rfl hg95 foc0 (Reads.sl _ _ _) rfl rfl Try.isAgg39) rfl ?_
            obtain ⟨r202, hr203, h⟩ := bind_e h
            refine oO <| O_call (L_volumegroupref12_Whole (Reads.sl _ _ _) hr203) rfl Try.call64 (Dels.cons del0 Dels.nil) rfl fun _ _ => oM rfl rfl <| oP (P_extract rfl rfl) rfl <| oP (P_extract rfl rfl) rfl <| oA rfl rfl <| oA rfl rfl <| nT <| sR <| oM rfl rfl ?_
            obtain ⟨r204, hr205, h⟩ := bind_e h
            refine oO <| O_call (L_ring_Switch hr205) rfl Try.call17 (Dels.cons del3 (Dels.cons del2 Dels.nil)) rfl fun _ _ => oA rfl rfl <| nT <| sR <| oM rfl rfl <| oO <| O_call (c_ImageD) rfl Try.call30 (Dels.cons del1 Dels.nil) rfl fun X206 _ => RJ_pure (len_of (Reads.sl _ _ _) del0) fun hlen208 => oM rfl rfl <| oP (P_extract (v := (Sl3.v X206)) rfl rfl) rfl <| oP (P_extract rfl rfl) rfl <| oA rfl rfl <| oA rfl rfl <| nT <| CJ_seq <| sR <| oM rfl rfl <| oP (P_neq (a := (imC r204.2 (0 : Int))) (b := (0 : Int)) rfl rfl) rfl <| oM rfl rfl <| RJ_splitP 177 rfl bT_dec (fun hg96B hg96 => ?_) (fun hg96B hg96 => ?_)
            ·
             replace h := ite_t hg96 h
             refine RJ_gn (GY_no rfl rfl rfl hg96B) rfl rfl <| RJ_gn (GY_no rfl rfl rfl hg96B) rfl rfl <| RJ_gn (GY_no rfl rfl rfl hg96B) rfl rfl <| oP (P_pickT rfl hg96B rfl) rfl <| nT <| CJ_condT rfl rfl <| sR <| oA rfl rfl <| nT <| CJ_ret <| QJ_then_ret ?_
             cases h
             exact fE (res1 Try.results27 rfl) () (t5_ (eD (eD (eD (eD (eD eR))))))
            ·
             replace h := ite_f hg96 h
             refine gP (GY_yes rfl rfl rfl hg96B) (P_move rfl) rfl <| RJ_gy (GY_yes rfl rfl rfl hg96B) <| O_call (c_Unflushed) rfl Try.call32 (Dels.cons del1 Dels.nil) rfl fun _ _ => gP (GY_yes rfl rfl rfl hg96B) (P_neq (a := ((r204.2.log.length : Nat) : Int)) (b := (0 : Int)) rfl rfl) rfl <| oP (P_pickF rfl hg96B rfl) rfl <| nT <| CJ_condP rfl bT_dec (fun hg97 => ?_) (fun hg97 => ?_)
             ·
              replace h := ite_t hg97 h
              refine sR <| oA rfl rfl <| nT <| CJ_ret <| QJ_then_ret ?_
              cases h
              exact fE (res1 Try.results27 rfl) () (t5_ (eD (eD (eD (eD (eD eR))))))
             ·
              replace h := ite_f hg97 h
              refine kT <| CJ_seq <| CJ_block <| sR <| oM rfl rfl ?_
              obtain ⟨hg98, h⟩ := grd_de h
              refine oV (V_index (i := 1) rfl rfl rfl hg98 foc3 (Reads.sl _ _ _) Try.runUnderlying29 Try.sizeOf39) rfl <| oV (V_loadE rfl rfl hg98 foc3 (Reads.sl _ _ _) rfl rfl Try.isAgg39) rfl <| oP (P_eq_u64 (a := (((imL r168.2 (0 : Int))).getD 1 0)) (b := (0 : UInt64)) rfl rfl) rfl <| oA rfl rfl <| nT <| CJ_condP rfl bT_dec (fun hg99 => ?_) (fun hg99 => ?_)
              ·
               replace h := ite_t hg99 h
               refine sR <| oM rfl rfl <| oP (P_eql (a := r204.1) (b := (12 : Int)) rfl rfl) rfl <| oM rfl rfl <| RJ_splitP 189 rfl bT_dec (fun hg100B hg100 => ?_) (fun hg100B hg100 => ?_)
               ·
                replace h := ite_t hg100 h
                refine gP (GY_yes rfl rfl rfl hg100B) (P_move rfl) rfl <| gP (GY_yes rfl rfl rfl hg100B) (P_move rfl) rfl ?_
                obtain ⟨r209, hr210, h⟩ := bind_e h
                refine RJ_gy (GY_yes rfl rfl rfl hg100B) <| O_call (L_volumegroupref02_Same (Reads.sl _ _ _) (Reads.sl _ _ _) hr210) rfl Try.call31 (Dels.cons del1 (Dels.cons del2 Dels.nil)) rfl fun _ _ => oP (P_pickT rfl hg100B rfl) rfl <| oA rfl rfl <| nT <| CJ_ret <| QJ_block_ret <| QJ_then_ret ?_
                cases h
                exact fE (res1 Try.results27 rfl) () (t5_ (eD (eD (eD (eD (eD eR))))))
               ·
                replace h := ite_f hg100 h
                refine RJ_gn (GY_no rfl rfl rfl hg100B) rfl rfl <| RJ_gn (GY_no rfl rfl rfl hg100B) rfl rfl <| RJ_gn (GY_no rfl rfl rfl hg100B) rfl rfl <| oP (P_pickF rfl hg100B rfl) rfl <| oA rfl rfl <| nT <| CJ_ret <| QJ_block_ret <| QJ_then_ret ?_
                cases h
                exact fE (res1 Try.results27 rfl) () (t5_ (eD (eD (eD (eD (eD eR))))))
              ·
               replace h := ite_f hg99 h
               refine sR <| oM rfl rfl <| oP (P_not rfl) rfl <| oA rfl rfl <| nT <| CJ_condP rfl (bT_not Iff.rfl) (fun hg101 => ?_) (fun hg101 => ?_)
               ·
                replace h := ite_t hg101 h
                refine sR <| oM rfl rfl <| oP (P_eql (a := r204.1) (b := (11 : Int)) rfl rfl) rfl <| oM rfl rfl <| RJ_splitP 199 rfl bT_dec (fun hg102B hg102 => ?_) (fun hg102B hg102 => ?_)
                ·
                 replace h := ite_t hg102 h
                 refine gP (GY_yes rfl rfl rfl hg102B) (P_move rfl) rfl <| gP (GY_yes rfl rfl rfl hg102B) (P_move rfl) rfl ?_
                 obtain ⟨r211, hr212, h⟩ := bind_e h
                 refine RJ_gy (GY_yes rfl rfl rfl hg102B) <| O_call (L_volumegroupref02_Same (Reads.sl _ _ _) (Reads.sl _ _ _) hr212) rfl Try.call31 (Dels.cons del1 (Dels.cons del2 Dels.nil)) rfl fun _ _ => oP (P_pickT rfl hg102B rfl) rfl <| oA rfl rfl <| nT <| CJ_ret <| QJ_block_ret <| QJ_then_ret ?_
                 cases h
                 exact fE (res1 Try.results27 rfl) () (t5_ (eD (eD (eD (eD (eD eR))))))
                ·
                 replace h := ite_f hg102 h
                 refine RJ_gn (GY_no rfl rfl rfl hg102B) rfl rfl <| RJ_gn (GY_no rfl rfl rfl hg102B) rfl rfl <| RJ_gn (GY_no rfl rfl rfl hg102B) rfl rfl <| oP (P_pickF rfl hg102B rfl) rfl <| oA rfl rfl <| nT <| CJ_ret <| QJ_block_ret <| QJ_then_ret ?_
                 cases h
                 exact fE (res1 Try.results27 rfl) () (t5_ (eD (eD (eD (eD (eD eR))))))
               ·
                replace h := ite_f hg101 h
                refine CJ_skip <| QJ_block_normal <| QJ_then <| sR <| oM rfl rfl <| oM rfl rfl ?_
                obtain ⟨hg103, h⟩ := grd_de h
                refine oV (V_index (i := 1) rfl rfl rfl hg103 foc3 (Reads.sl _ _ _) Try.runUnderlying29 Try.sizeOf39) rfl <| oV (V_loadE rfl rfl hg103 foc3 (Reads.sl _ _ _) rfl rfl Try.isAgg39) rfl ?_
                obtain ⟨hg104, h⟩ := grd_de h
                refine oV (V_index (i := 0) rfl rfl rfl hg104 foc3 (Reads.sl _ _ _) Try.runUnderlying29 Try.sizeOf39) rfl <| oO <| O_storeE (x' := (((imL r168.2 (0 : Int))).getD 1 0)) rfl rfl rfl hg104 foc3 rfl rfl rfl Try.sizeOf39 <| nT <| sR <| oM rfl rfl <| oP (P_eql (a := r204.1) (b := (0 : Int)) rfl rfl) rfl <| oM rfl rfl <| RJ_splitP 211 rfl bT_dec (fun hg105B hg105 => ?_) (fun hg105B hg105 => ?_)
                ·
                 replace h := ite_t hg105 h
                 refine gP (GY_yes rfl rfl rfl hg105B) (P_move rfl) rfl <| gP (GY_yes rfl rfl rfl hg105B) (P_move rfl) rfl ?_
                 obtain ⟨r213, hr214, h⟩ := bind_e h
                 refine RJ_gy (GY_yes rfl rfl rfl hg105B) <| O_call (L_volumegroupref02_Same (Reads.sl _ _ _) (Reads.sl _ _ _) hr214) rfl Try.call31 (Dels.cons del1 (Dels.cons del2 Dels.nil)) rfl fun _ _ => oP (P_pickT rfl hg105B rfl) rfl <| oA rfl rfl <| nT <| CJ_ret ?_
                 cases h
                 exact fE (res1 Try.results27 rfl) () (t5_ (eD (eD (eD (eD (eD eR))))))
                ·
                 replace h := ite_f hg105 h
                 refine RJ_gn (GY_no rfl rfl rfl hg105B) rfl rfl <| RJ_gn (GY_no rfl rfl rfl hg105B) rfl rfl <| RJ_gn (GY_no rfl rfl rfl hg105B) rfl rfl <| oP (P_pickF rfl hg105B rfl) rfl <| oA rfl rfl <| nT <| CJ_ret ?_
                 cases h
                 exact fE (res1 Try.results27 rfl) () (t5_ (eD (eD (eD (eD (eD eR))))))
        ·
         replace h := ite_f hg74 h
         refine RJ_gn (GY_no rfl rfl rfl hg74B) rfl rfl <| RJ_gn (GY_no rfl rfl rfl hg74B) rfl rfl <| RJ_gn (GY_no rfl rfl rfl hg74B) rfl rfl <| RJ_gn (GY_no rfl rfl rfl hg74B) rfl rfl <| gP (GY_yes rfl rfl rfl hg73B) (P_pickF rfl hg74B rfl) rfl <| oP (P_pickF rfl hg73B rfl) rfl <| oM rfl rfl <| gP (GY_yes rfl rfl rfl rfl) (P_move rfl) rfl <| gP (GY_yes rfl rfl rfl rfl) (P_neq (a := r164.2) (b := (0 : Int)) rfl rfl) rfl <| gP (GY_yes rfl rfl rfl rfl) (P_move rfl) rfl <| RJ_splitP 137 rfl bT_dec (fun hg106B hg106 => ?_) (fun hg106B hg106 => ?_)
         ·
          replace h := ite_t hg106 h
          refine gP (GY_yes rfl rfl rfl hg106B) (P_move rfl) rfl <| gP (GY_yes rfl rfl rfl hg106B) (P_move rfl) rfl ?_
          obtain ⟨r215, hr216, h⟩ := bind_e h
          refine RJ_gy (GY_yes rfl rfl rfl hg106B) <| O_call (L_volumegroupref02_Same (Reads.sl _ _ _) rwords hr216) rfl Try.call31 (Dels.cons del1 (Dels.cons del2 Dels.nil)) rfl fun _ _ => gP (GY_yes rfl rfl rfl hg106B) (P_not rfl) rfl <| gP (GY_yes rfl rfl rfl rfl) (P_pickT rfl hg106B rfl) rfl <| oP (P_pickF rfl rfl rfl) rfl <| nT <| CJ_condP rfl (bT_not Iff.rfl) (fun hg107 => ?_) (fun hg107 => ?_)
          ·
           replace h := ite_t hg107 h
           refine sR <| oA rfl rfl <| nT <| CJ_ret <| QJ_then_ret ?_
           cases h
           exact fE (res1 Try.results27 rfl) () (t1_ (eD (eD (eD (eD eR)))))
          ·
           replace h := ite_f hg107 h
           refine kT <| CJ_seq <| sR <| oM rfl rfl <| oV (V_len rfl foc1 rwords Try.runUnderlying29) rfl <| oP (P_lss (a := ((words.length : Nat) : Int)) (b := (4 : Int)) rfl rfl) rfl <| nT <| CJ_condP rfl bT_dec (fun hg108 => ?_) (fun hg108 => ?_)
           ·
            replace h := ite_t hg108 h
            refine sR <| oM rfl rfl ?_
            obtain ⟨r217, hr218, h⟩ := bind_e h
            refine oO <| O_call (L_ring_Switch hr218) rfl Try.call17 (Dels.cons del3 (Dels.cons del2 Dels.nil)) rfl fun _ _ => oP (P_eql (a := r217.1) (b := (3 : Int)) rfl rfl) rfl <| oM rfl rfl <| RJ_splitP 150 rfl bT_dec (fun hg109B hg109 => ?_) (fun hg109B hg109 => ?_)
            ·
             replace h := ite_t hg109 h
             refine gP (GY_yes rfl rfl rfl hg109B) (P_move rfl) rfl ?_
             obtain ⟨r219, hr220, h⟩ := bind_e h
             refine RJ_gy (GY_yes rfl rfl rfl hg109B) <| O_call (L_ring_Format hr220) rfl Try.call33 (Dels.cons del0 (Dels.cons del0 Dels.nil)) rfl fun _ _ => gP (GY_yes rfl rfl rfl hg109B) (P_eql (a := r219.1) (b := (3 : Int)) rfl rfl) rfl <| oP (P_pickT rfl hg109B rfl) rfl <| oM rfl rfl <| RJ_splitP 155 rfl bT_dec (fun hg110B hg110 => ?_) (fun hg110B hg110 => ?_)
             ·
              replace h := ite_t hg110 h
              refine gP (GY_yes rfl rfl rfl hg110B) (P_move rfl) rfl ?_
              obtain ⟨r221, hr222, h⟩ := bind_e h
              refine RJ_gy (GY_yes rfl rfl rfl hg110B) <| O_call (L_ring_Clear hr222) rfl Try.call29 (Dels.cons del0 (Dels.cons del0 Dels.nil)) rfl fun _ _ => gP (GY_yes rfl rfl rfl hg110B) (P_eql (a := r221.1) (b := (3 : Int)) rfl rfl) rfl <| oP (P_pickT rfl hg110B rfl) rfl <| oA rfl rfl <| nT <| CJ_ret <| QJ_then_ret ?_
              cases h
              exact fE (res1 Try.results27 rfl) () (t3_ (eD (eD (eD (eD eR)))))
             ·
              replace h := ite_f hg110 h
              refine RJ_gn (GY_no rfl rfl rfl hg110B) rfl rfl <| RJ_gn (GY_no rfl rfl rfl hg110B) rfl rfl <| RJ_gn (GY_no rfl rfl rfl hg110B) rfl rfl <| oP (P_pickF rfl hg110B rfl) rfl <| oA rfl rfl <| nT <| CJ_ret <| QJ_then_ret ?_
              cases h
              exact fE (res1 Try.results27 rfl) () (t3_ (eD (eD (eD (eD eR)))))
            ·
             replace h := ite_f hg109 h
             refine RJ_gn (GY_no rfl rfl rfl hg109B) rfl rfl <| RJ_gn (GY_no rfl rfl rfl hg109B) rfl rfl <| RJ_gn (GY_no rfl rfl rfl hg109B) rfl rfl <| oP (P_pickF rfl hg109B rfl) rfl <| oM rfl rfl <| RJ_gn (GY_no rfl rfl rfl rfl) rfl rfl <| RJ_gn (GY_no rfl rfl rfl rfl) rfl rfl <| RJ_gn (GY_no rfl rfl rfl rfl) rfl rfl <| oP (P_pickF rfl rfl rfl) rfl <| oA rfl rfl <| nT <| CJ_ret <| QJ_then_ret ?_
             cases h
             exact fE (res1 Try.results27 rfl) () (t3_ (eD (eD (eD (eD eR)))))
           ·
            replace h := ite_f hg108 h
            refine kT <| sR <| oM rfl rfl <| oM rfl rfl ?_
            obtain ⟨hg111, h⟩ := grd_de h
            refine oV (V_index (i := 1) rfl rfl rfl hg111 foc0 (Reads.sl _ _ _) Try.runUnderlying29 Try.sizeOf39) rfl <| oV (V_loadE rfl rfl hg111 foc0 (Reads.sl _ _ _) rfl rfl Try.isAgg39) rfl ?_
            obtain ⟨r223, hr224, h⟩ := bind_e h
            refine oO <| O_call (L_volumegroupref12_Whole (Reads.sl _ _ _) hr224) rfl Try.call64 (Dels.cons del0 Dels.nil) rfl fun _ _ => oM rfl rfl <| oP (P_extract rfl rfl) rfl <| oP (P_extract rfl rfl) rfl <| oA rfl rfl <| oA rfl rfl <| nT <| sR <| oM rfl rfl ?_
            obtain ⟨r225, hr226, h⟩ := bind_e h
            refine oO <| O_call (L_ring_Switch hr226) rfl Try.call17 (Dels.cons del3 (Dels.cons del2 Dels.nil)) rfl fun _ _ => oA rfl rfl <| nT <| sR <| oM rfl rfl <| oO <| O_call (c_ImageD) rfl Try.call30 (Dels.cons del1 Dels.nil) rfl fun X227 _ => RJ_pure (len_of (Reads.sl _ _ _) del0) fun hlen229 => oM rfl rfl <| oP (P_extract (v := (Sl3.v X227)) rfl rfl) rfl <| oP (P_extract rfl rfl) rfl <| oA rfl rfl <| oA rfl rfl <| nT <| CJ_seq <| sR <| oM rfl rfl <| oP (P_neq (a := (imC r225.2 (0 : Int))) (b := (0 : Int)) rfl rfl) rfl <| oM rfl rfl <| RJ_splitP 177 rfl bT_dec (fun hg112B hg112 => ?_) (fun hg112B hg112 => ?_)
            ·
             replace h := ite_t hg112 h
             refine RJ_gn (GY_no rfl rfl rfl hg112B) rfl rfl <| RJ_gn (GY_no rfl rfl rfl hg112B) rfl rfl <| RJ_gn (GY_no rfl rfl rfl hg112B) rfl rfl <| oP (P_pickT rfl hg112B rfl) rfl <| nT <| CJ_condT rfl rfl <| sR <| oA rfl rfl <| nT <| CJ_ret <| QJ_then_ret ?_
             cases h
             exact fE (res1 Try.results27 rfl) () (t4_ (eD (eD (eD (eD (eD eR))))))
            ·
             replace h := ite_f hg112 h
             refine gP (GY_yes rfl rfl rfl hg112B) (P_move rfl) rfl <| RJ_gy (GY_yes rfl rfl rfl hg112B) <| O_call (c_Unflushed) rfl Try.call32 (Dels.cons del1 Dels.nil) rfl fun _ _ => gP (GY_yes rfl rfl rfl hg112B) (P_neq (a := ((r225.2.log.length : Nat) : Int)) (b := (0 : Int)) rfl rfl) rfl <| oP (P_pickF rfl hg112B rfl) rfl <| nT <| CJ_condP rfl bT_dec (fun hg113 => ?_) (fun hg113 => ?_)
             ·
              replace h := ite_t hg113 h
              refine sR <| oA rfl rfl <| nT <| CJ_ret <| QJ_then_ret ?_
              cases h
              exact fE (res1 Try.results27 rfl) () (t4_ (eD (eD (eD (eD (eD eR))))))
             ·
              replace h := ite_f hg113 h
              refine kT <| CJ_seq <| CJ_block <| sR <| oM rfl rfl ?_
              obtain ⟨hg114, h⟩ := grd_de h
              refine oV (V_index (i := 1) rfl rfl rfl hg114 foc3 (Reads.sl _ _ _) Try.runUnderlying29 Try.sizeOf39) rfl <| oV (V_loadE rfl rfl hg114 foc3 (Reads.sl _ _ _) rfl rfl Try.isAgg39) rfl <| oP (P_eq_u64 (a := (((imL r168.2 (0 : Int))).getD 1 0)) (b := (0 : UInt64)) rfl rfl) rfl <| oA rfl rfl <| nT <| CJ_condP rfl bT_dec (fun hg115 => ?_) (fun hg115 => ?_)
              ·
               replace h := ite_t hg115 h
               refine sR <| oM rfl rfl <| oP (P_eql (a := r225.1) (b := (12 : Int)) rfl rfl) rfl <| oM rfl rfl <| RJ_splitP 189 rfl bT_dec (fun hg116B hg116 => ?_) (fun hg116B hg116 => ?_)
               ·
                replace h := ite_t hg116 h
                refine gP (GY_yes rfl rfl rfl hg116B) (P_move rfl) rfl <| gP (GY_yes rfl rfl rfl hg116B) (P_move rfl) rfl ?_
                obtain ⟨r230, hr231, h⟩ := bind_e h
                refine RJ_gy (GY_yes rfl rfl rfl hg116B) <| O_call (L_volumegroupref02_Same (Reads.sl _ _ _) (Reads.sl _ _ _) hr231) rfl Try.call31 (Dels.cons del1 (Dels.cons del2 Dels.nil)) rfl fun _ _ => oP (P_pickT rfl hg116B rfl) rfl <| oA rfl rfl <| nT <| CJ_ret <| QJ_block_ret <| QJ_then_ret ?_
                cases h
                exact fE (res1 Try.results27 rfl) () (t4_ (eD (eD (eD (eD (eD eR))))))
               ·
                replace h := ite_f hg116 h
                refine RJ_gn (GY_no rfl rfl rfl hg116B) rfl rfl <| RJ_gn (GY_no rfl rfl rfl hg116B) rfl rfl <| RJ_gn (GY_no rfl rfl rfl hg116B) rfl rfl <| oP (P_pickF rfl hg116B rfl) rfl <| oA rfl rfl <| nT <| CJ_ret <| QJ_block_ret <| QJ_then_ret ?_
                cases h
                exact fE (res1 Try.results27 rfl) () (t4_ (eD (eD (eD (eD (eD eR))))))
              ·
               replace h := ite_f hg115 h
               refine sR <| oM rfl rfl <| oP (P_not rfl) rfl <| oA rfl rfl <| nT <| CJ_condP rfl (bT_not Iff.rfl) (fun hg117 => ?_) (fun hg117 => ?_)
               ·
                replace h := ite_t hg117 h
                refine sR <| oM rfl rfl <| oP (P_eql (a := r225.1) (b := (11 : Int)) rfl rfl) rfl <| oM rfl rfl <| RJ_splitP 199 rfl bT_dec (fun hg118B hg118 => ?_) (fun hg118B hg118 => ?_)
                ·
                 replace h := ite_t hg118 h
                 refine gP (GY_yes rfl rfl rfl hg118B) (P_move rfl) rfl <| gP (GY_yes rfl rfl rfl hg118B) (P_move rfl) rfl ?_
                 obtain ⟨r232, hr233, h⟩ := bind_e h
                 refine RJ_gy (GY_yes rfl rfl rfl hg118B) <| O_call (L_volumegroupref02_Same (Reads.sl _ _ _) (Reads.sl _ _ _) hr233) rfl Try.call31 (Dels.cons del1 (Dels.cons del2 Dels.nil)) rfl fun _ _ => oP (P_pickT rfl hg118B rfl) rfl <| oA rfl rfl <| nT <| CJ_ret <| QJ_block_ret <| QJ_then_ret ?_
                 cases h
                 exact fE (res1 Try.results27 rfl) () (t4_ (eD (eD (eD (eD (eD eR))))))
                ·
                 replace h := ite_f hg118 h
                 refine RJ_gn (GY_no rfl rfl rfl hg118B) rfl rfl <| RJ_gn (GY_no rfl rfl rfl hg118B) rfl rfl <| RJ_gn (GY_no rfl rfl rfl hg118B) rfl rfl <| oP (P_pickF rfl hg118B rfl) rfl <| oA rfl rfl <| nT <| CJ_ret <| QJ_block_ret <| QJ_then_ret ?_
                 cases h
                 exact fE (res1 Try.results27 rfl) () (t4_ (eD (eD (eD (eD (eD eR))))))
               ·
                replace h := ite_f hg117 h
                refine CJ_skip <| QJ_block_normal <| QJ_then <| sR <| oM rfl rfl <| oM rfl rfl ?_
                obtain ⟨hg119, h⟩ := grd_de h
                refine oV (V_index (i := 1) rfl rfl rfl hg119 foc3 (Reads.sl _ _ _) Try.runUnderlying29 Try.sizeOf39) rfl <| oV (V_loadE rfl rfl hg119 foc3 (Reads.sl _ _ _) rfl rfl Try.isAgg39) rfl ?_
                obtain ⟨hg120, h⟩ := grd_de h
                refine oV (V_index (i := 0) rfl rfl rfl hg120 foc3 (Reads.sl _ _ _) Try.runUnderlying29 Try.sizeOf39) rfl <| oO <| O_storeE (x' := (((imL r168.2 (0 : Int))).getD 1 0)) rfl rfl rfl hg120 foc3 rfl rfl rfl Try.sizeOf39 <| nT <| sR <| oM rfl rfl <| oP (P_eql (a := r225.1) (b := (0 : Int)) rfl rfl) rfl <| oM rfl rfl <| RJ_splitP 211 rfl bT_dec (fun hg121B hg121 => ?_) (fun hg121B hg121 => ?_)
                ·
                 replace h := ite_t hg121 h
                 refine gP (GY_yes rfl rfl rfl hg121B) (P_move rfl) rfl <| gP (GY_yes rfl rfl rfl hg121B) (P_move rfl) rfl ?_
                 obtain ⟨r234, hr235, h⟩ := bind_e h
                 refine RJ_gy (GY_yes rfl rfl rfl hg121B) <| O_call (L_volumegroupref02_Same (Reads.sl _ _ _) (Reads.sl _ _ _) hr235) rfl Try.call31 (Dels.cons del1 (Dels.cons del2 Dels.nil)) rfl fun _ _ => oP (P_pickT rfl hg121B rfl) rfl <| oA rfl rfl <| nT <| CJ_ret ?_
                 cases h
                 exact fE (res1 Try.results27 rfl) () (t4_ (eD (eD (eD (eD (eD eR))))))
                ·
                 replace h := ite_f hg121 h
                 refine RJ_gn (GY_no rfl rfl rfl hg121B) rfl rfl <| RJ_gn (GY_no rfl rfl rfl hg121B) rfl rfl <| RJ_gn (GY_no rfl rfl rfl hg121B) rfl rfl <| oP (P_pickF rfl hg121B rfl) rfl <| oA rfl rfl <| nT <| CJ_ret ?_
                 cases h
                 exact fE (res1 Try.results27 rfl) () (t4_ (eD (eD (eD (eD (eD eR))))))
         ·
          replace h := ite_f hg106 h
          refine RJ_gn (GY_no rfl rfl rfl hg106B) rfl rfl <| RJ_gn (GY_no rfl rfl rfl hg106B) rfl rfl <| RJ_gn (GY_no rfl rfl rfl hg106B) rfl rfl <| RJ_gn (GY_no rfl rfl rfl hg106B) rfl rfl <| gP (GY_yes rfl rfl rfl rfl) (P_pickF rfl hg106B rfl) rfl <| oP (P_pickF rfl rfl rfl) rfl <| nT <| CJ_condF rfl rfl <| kT <| CJ_seq <| sR <| oM rfl rfl <| oV (V_len rfl foc3 rwords Try.runUnderlying29) rfl <| oP (P_lss (a := ((words.length : Nat) : Int)) (b := (4 : Int)) rfl rfl) rfl <| nT <| CJ_condP rfl bT_dec (fun hg122 => ?_) (fun hg122 => ?_)
          ·
           replace h := ite_t hg122 h
           refine sR <| oM rfl rfl ?_
           obtain ⟨r236, hr237, h⟩ := bind_e h
           refine oO <| O_call (L_ring_Switch hr237) rfl Try.call17 (Dels.cons del2 (Dels.cons del0 Dels.nil)) rfl fun _ _ => oP (P_eql (a := r236.1) (b := (3 : Int)) rfl rfl) rfl <| oM rfl rfl <| RJ_splitP 150 rfl bT_dec (fun hg123B hg123 => ?_) (fun hg123B hg123 => ?_)
           ·
            replace h := ite_t hg123 h
            refine gP (GY_yes rfl rfl rfl hg123B) (P_move rfl) rfl ?_
            obtain ⟨r238, hr239, h⟩ := bind_e h
            refine RJ_gy (GY_yes rfl rfl rfl hg123B) <| O_call (L_ring_Format hr239) rfl Try.call33 (Dels.cons del0 (Dels.cons del0 Dels.nil)) rfl fun _ _ => gP (GY_yes rfl rfl rfl hg123B) (P_eql (a := r238.1) (b := (3 : Int)) rfl rfl) rfl <| oP (P_pickT rfl hg123B rfl) rfl <| oM rfl rfl <| RJ_splitP 155 rfl bT_dec (fun hg124B hg124 => ?_) (fun hg124B hg124 => ?_)
            ·
             replace h := ite_t hg124 h
             refine gP (GY_yes rfl rfl rfl hg124B) (P_move rfl) rfl ?_
             obtain ⟨r240, hr241, h⟩ := bind_e h
             refine RJ_gy (GY_yes rfl rfl rfl hg124B) <| O_call (L_ring_Clear hr241) rfl Try.call29 (Dels.cons del0 (Dels.cons del0 Dels.nil)) rfl fun _ _ => gP (GY_yes rfl rfl rfl hg124B) (P_eql (a := r240.1) (b := (3 : Int)) rfl rfl) rfl <| oP (P_pickT rfl hg124B rfl) rfl <| oA rfl rfl <| nT <| CJ_ret <| QJ_then_ret ?_
             cases h
             exact fE (res1 Try.results27 rfl) () (t3_ (eD (eD (eD (eD eR)))))
            ·
             replace h := ite_f hg124 h
             refine RJ_gn (GY_no rfl rfl rfl hg124B) rfl rfl <| RJ_gn (GY_no rfl rfl rfl hg124B) rfl rfl <| RJ_gn (GY_no rfl rfl rfl hg124B) rfl rfl <| oP (P_pickF rfl hg124B rfl) rfl <| oA rfl rfl <| nT <| CJ_ret <| QJ_then_ret ?_
             cases h
             exact fE (res1 Try.results27 rfl) () (t3_ (eD (eD (eD (eD eR)))))
           ·
            replace h := ite_f hg123 h
            refine RJ_gn (GY_no rfl rfl rfl hg123B) rfl rfl <| RJ_gn (GY_no rfl rfl rfl hg123B) rfl rfl <| RJ_gn (GY_no rfl rfl rfl hg123B) rfl rfl <| oP (P_pickF rfl hg123B rfl) rfl <| oM rfl rfl <| RJ_gn (GY_no rfl rfl rfl rfl) rfl rfl <| RJ_gn (GY_no rfl rfl rfl rfl) rfl rfl <| RJ_gn (GY_no rfl rfl rfl rfl) rfl rfl <| oP (P_pickF rfl rfl rfl) rfl <| oA rfl rfl <| nT <| CJ_ret <| QJ_then_ret ?_
            cases h
            exact fE (res1 Try.results27 rfl) () (t3_ (eD (eD (eD (eD eR)))))
          ·
           replace h := ite_f hg122 h
           refine kT <| sR <| oM rfl rfl <| oM rfl rfl ?_
           obtain ⟨hg125, h⟩ := grd_de h
           refine oV (V_index (i := 1) rfl rfl rfl hg125 foc1 (Reads.sl _ _ _) Try.runUnderlying29 Try.sizeOf39) rfl <| oV (V_loadE rfl rfl hg125 foc1 (Reads.sl _ _ _) rfl rfl Try.isAgg39) rfl ?_
           obtain ⟨r242, hr243, h⟩ := bind_e h
           refine oO <| O_call (L_volumegroupref12_Whole (Reads.sl _ _ _) hr243) rfl Try.call64 (Dels.cons del1 Dels.nil) rfl fun _ _ => oM rfl rfl <| oP (P_extract rfl rfl) rfl <| oP (P_extract rfl rfl) rfl <| oA rfl rfl <| oA rfl rfl <| nT <| sR <| oM rfl rfl ?_
           obtain ⟨r244, hr245, h⟩ := bind_e h
           refine oO <| O_call (L_ring_Switch hr245) rfl Try.call17 (Dels.cons del2 (Dels.cons del1 Dels.nil)) rfl fun _ _ => oA rfl rfl <| nT <| sR <| oM rfl rfl <| oO <| O_call (c_ImageD) rfl Try.call30 (Dels.cons del1 Dels.nil) rfl fun X246 _ => RJ_pure (len_of (Reads.sl _ _ _) del0) fun hlen248 => oM rfl rfl <| oP (P_extract (v := (Sl3.v X246)) rfl rfl) rfl <| oP (P_extract rfl rfl) rfl <| oA rfl rfl <| oA rfl rfl <| nT <| CJ_seq <| sR <| oM rfl rfl <| oP (P_neq (a := (imC r244.2 (0 : Int))) (b := (0 : Int)) rfl rfl) rfl <| oM rfl rfl <| RJ_splitP 177 rfl bT_dec (fun hg126B hg126 => ?_) (fun hg126B hg126 => ?_)
           ·
            replace h := ite_t hg126 h
            refine RJ_gn (GY_no rfl rfl rfl hg126B) rfl rfl <| RJ_gn (GY_no rfl rfl rfl hg126B) rfl rfl <| RJ_gn (GY_no rfl rfl rfl hg126B) rfl rfl <| oP (P_pickT rfl hg126B rfl) rfl <| nT <| CJ_condT rfl rfl <| sR <| oA rfl rfl <| nT <| CJ_ret <| QJ_then_ret ?_
            cases h
            exact fE (res1 Try.results27 rfl) () (t4_ (eD (eD (eD (eD (eD eR))))))
           ·
            replace h := ite_f hg126 h
            refine gP (GY_yes rfl rfl rfl hg126B) (P_move rfl) rfl <| RJ_gy (GY_yes rfl rfl rfl hg126B) <| O_call (c_Unflushed) rfl Try.call32 (Dels.cons del1 Dels.nil) rfl fun _ _ => gP (GY_yes rfl rfl rfl hg126B) (P_neq (a := ((r244.2.log.length : Nat) : Int)) (b := (0 : Int)) rfl rfl) rfl <| oP (P_pickF rfl hg126B rfl) rfl <| nT <| CJ_condP rfl bT_dec (fun hg127 => ?_) (fun hg127 => ?_)
            ·
             replace h := ite_t hg127 h
             refine sR <| oA rfl rfl <| nT <| CJ_ret <| QJ_then_ret ?_
             cases h
             exact fE (res1 Try.results27 rfl) () (t4_ (eD (eD (eD (eD (eD eR))))))
            ·
             replace h := ite_f hg127 h
             refine kT <| CJ_seq <| CJ_block <| sR <| oM rfl rfl ?_
             obtain ⟨hg128, h⟩ := grd_de h
             refine oV (V_index (i := 1) rfl rfl rfl hg128 foc3 (Reads.sl _ _ _) Try.runUnderlying29 Try.sizeOf39) rfl <| oV (V_loadE rfl rfl hg128 foc3 (Reads.sl _ _ _) rfl rfl Try.isAgg39) rfl <| oP (P_eq_u64 (a := (((imL r168.2 (0 : Int))).getD 1 0)) (b := (0 : UInt64)) rfl rfl) rfl <| oA rfl rfl <| nT <| CJ_condP rfl bT_dec (fun hg129 => ?_) (fun hg129 => ?_)
             ·
              replace h := ite_t hg129 h
              refine sR <| oM rfl rfl <| oP (P_eql (a := r244.1) (b := (12 : Int)) rfl rfl) rfl <| oM rfl rfl <| RJ_splitP 189 rfl bT_dec (fun hg130B hg130 => ?_) (fun hg130B hg130 => ?_)
              ·
               replace h := ite_t hg130 h
               refine gP (GY_yes rfl rfl rfl hg130B) (P_move rfl) rfl <| gP (GY_yes rfl rfl rfl hg130B) (P_move rfl) rfl ?_
               obtain ⟨r249, hr250, h⟩ := bind_e h
               refine RJ_gy (GY_yes rfl rfl rfl hg130B) <| O_call (L_volumegroupref02_Same (Reads.sl _ _ _) (Reads.sl _ _ _) hr250) rfl Try.call31 (Dels.cons del1 (Dels.cons del2 Dels.nil)) rfl fun _ _ => oP (P_pickT rfl hg130B rfl) rfl <| oA rfl rfl <| nT <| CJ_ret <| QJ_block_ret <| QJ_then_ret ?_
               cases h
               exact fE (res1 Try.results27 rfl) () (t4_ (eD (eD (eD (eD (eD eR))))))
              ·
               replace h := ite_f hg130 h
               refine RJ_gn (GY_no rfl rfl rfl hg130B) rfl rfl <| RJ_gn (GY_no rfl rfl rfl hg130B) rfl rfl <| RJ_gn (GY_no rfl rfl rfl hg130B) rfl rfl <| oP (P_pickF rfl hg130B rfl) rfl <| oA rfl rfl <| nT <| CJ_ret <| QJ_block_ret <| QJ_then_ret ?_
               cases h
               exact fE (res1 Try.results27 rfl) () (t4_ (eD (eD (eD (eD (eD eR))))))
             ·
              replace h := ite_f hg129 h
              refine sR <| oM rfl rfl <| oP (P_not rfl) rfl <| oA rfl rfl <| nT <| CJ_condP rfl (bT_not Iff.rfl) (fun hg131 => ?_) (fun hg131 => ?_)
              ·
               replace h := ite_t hg131 h
               refine sR <| oM rfl rfl <| oP (P_eql (a := r244.1) (b := (11 : Int)) rfl rfl) rfl <| oM rfl rfl <| RJ_splitP 199 rfl bT_dec (fun hg132B hg132 => ?_) (fun hg132B hg132 => ?_)
               ·
                replace h := ite_t hg132 h
                refine gP (GY_yes rfl rfl rfl hg132B) (P_move rfl) rfl <| gP (GY_yes rfl rfl rfl hg132B) (P_move rfl) rfl ?_
                obtain ⟨r251, hr252, h⟩ := bind_e h
                refine RJ_gy (GY_yes rfl rfl rfl hg132B) <| O_call (L_volumegroupref02_Same (Reads.sl _ _ _) (Reads.sl _ _ _) hr252) rfl Try.call31 (Dels.cons del1 (Dels.cons del2 Dels.nil)) rfl fun _ _ => oP (P_pickT rfl hg132B rfl) rfl <| oA rfl rfl <| nT <| CJ_ret <| QJ_block_ret <| QJ_then_ret ?_
                cases h
                exact fE (res1 Try.results27 rfl) () (t4_ (eD (eD (eD (eD (eD eR))))))
               ·
                replace h := ite_f hg132 h
                refine RJ_gn (GY_no rfl rfl rfl hg132B) rfl rfl <| RJ_gn (GY_no rfl rfl rfl hg132B) rfl rfl <| RJ_gn (GY_no rfl rfl rfl hg132B) rfl rfl <| oP (P_pickF rfl hg132B rfl) rfl <| oA rfl rfl <| nT <| CJ_ret <| QJ_block_ret <| QJ_then_ret ?_
                cases h
                exact fE (res1 Try.results27 rfl) () (t4_ (eD (eD (eD (eD (eD eR))))))
              ·
               replace h := ite_f hg131 h
               refine CJ_skip <| QJ_block_normal <| QJ_then <| sR <| oM rfl rfl <| oM rfl rfl ?_
               obtain ⟨hg133, h⟩ := grd_de h
               refine oV (V_index (i := 1) rfl rfl rfl hg133 foc3 (Reads.sl _ _ _) Try.runUnderlying29 Try.sizeOf39) rfl <| oV (V_loadE rfl rfl hg133 foc3 (Reads.sl _ _ _) rfl rfl Try.isAgg39) rfl ?_
               obtain ⟨hg134, h⟩ := grd_de h
               refine oV (V_index (i := 0) rfl rfl rfl hg134 foc3 (Reads.sl _ _ _) Try.runUnderlying29 Try.sizeOf39) rfl <| oO <| O_storeE (x' := (((imL r168.2 (0 : Int))).getD 1 0)) rfl rfl rfl hg134 foc3 rfl rfl rfl Try.sizeOf39 <| nT <| sR <| oM rfl rfl <| oP (P_eql (a := r244.1) (b := (0 : Int)) rfl rfl) rfl <| oM rfl rfl <| RJ_splitP 211 rfl bT_dec (fun hg135B hg135 => ?_) (fun hg135B hg135 => ?_)
               ·
                replace h := ite_t hg135 h
                refine gP (GY_yes rfl rfl rfl hg135B) (P_move rfl) rfl <| gP (GY_yes rfl rfl rfl hg135B) (P_move rfl) rfl ?_
                obtain ⟨r253, hr254, h⟩ := bind_e h
                refine RJ_gy (GY_yes rfl rfl rfl hg135B) <| O_call (L_volumegroupref02_Same (Reads.sl _ _ _) (Reads.sl _ _ _) hr254) rfl Try.call31 (Dels.cons del1 (Dels.cons del2 Dels.nil)) rfl fun _ _ => oP (P_pickT rfl hg135B rfl) rfl <| oA rfl rfl <| nT <| CJ_ret ?_
                cases h
                exact fE (res1 Try.results27 rfl) () (t4_ (eD (eD (eD (eD (eD eR))))))
               ·
                replace h := ite_f hg135 h
                refine RJ_gn (GY_no rfl rfl rfl hg135B) rfl rfl <| RJ_gn (GY_no rfl rfl rfl hg135B) rfl rfl <| RJ_gn (GY_no rfl rfl rfl hg135B) rfl rfl <| oP (P_pickF rfl hg135B rfl) rfl <| oA rfl rfl <| nT <| CJ_ret ?_
                cases h
                exact fE (res1 Try.results27 rfl) () (t4_ (eD (eD (eD (eD (eD eR))))))
def volumegrouplaw12_RingAreas (l : List Int) (words : List UInt64) (seq : Int) (text : ByteArray) : Option (Bool) :=
  if ((((40 : Int) < ((words.length : Nat) : Int)) ∨ (((words.length : Nat) : Int) = (0 : Int))) ∨ ((200 : Int) < ((text.size : Nat) : Int))) then
    Option.bind (volumegrouplaw12_awake) fun r15 =>
    some r15
  else
    Option.bind (volumegroupmake_New l) fun r17 =>
    Option.bind (volumegroupmake_Src_Range r17.1 (((r17.2 : Nat) : Int)) (4 : Int) (20 : Int)) fun r22 =>
    Option.bind (volumegrouplaw12_built r17.1 r22.2 r22.1) fun r24 =>
    Option.bind (volumegrouplaw12_agrees words seq text) fun r28 =>
    if r28 = true then
      Option.bind (volumegrouplaw12_agrees r24.1 seq text) fun r30 =>
      if r30 = true then
        Option.bind (volumegroupmake_Src_N r17.1 r24.2 (1048575 : Int)) fun r32 =>
        grd (inI64 (((1 : Int) + r32.1))) <|
        Option.bind (volumegroupmake_Src_Word r17.1 r32.2 ([(ByteArray.mk #[]), (ByteArray.mk #[97, 98, 99]), (ByteArray.mk #[97, 32, 116, 101, 120, 116, 32, 111, 102, 32, 115, 111, 109, 101, 32, 119, 111, 114, 100, 115]), (ByteArray.mk #[48, 49, 50, 51, 52, 53, 54, 55, 56, 57, 48, 49, 50, 51, 52, 53, 54, 55, 56, 57, 48, 49, 50, 51, 52, 53, 54, 55, 56, 57, 48, 49, 50, 51, 52, 53, 54, 55, 56, 57])])) fun r35 =>
        Option.bind (volumegrouplaw12_agrees r24.1 (((1 : Int) + r32.1)) r35.1) fun r37 =>
        if r37 = true then
          Option.bind (volumegrouplaw12_awake) fun r39 =>
          some r39
        else
          some false
      else
        some false
    else
      some false
theorem L_volumegrouplaw12_RingAreas {W : World} {Al : HP} {vl : Value} {Awords : HP} {vwords : Value} {l : List Int} {words : List UInt64} {seq : Int} {text : ByteArray} {r : Bool} (rl : Reads Al tyI vl l) (rwords : Reads Awords tyU vwords words) (h : volumegrouplaw12_RingAreas l words seq text = some r) :
    CSpec Try.prog W 6 [vl, vwords, .int .i64 seq, .string text] [Al, Awords] (fun x : Unit => .bool r) (fun _ => True) (fun x F => Al :: Awords :: F) := by
 refine CSpec.of_body Try.func6 rfl Try.ntmps6 rfl fun F => ?_
 show CJ _ _ _ _ _ _ (_ :: _ :: F)
 unfold volumegrouplaw12_RingAreas at h
 refine CJ_pure (len_of rl del0) fun hlen1 => CJ_pure (len_of rwords del1) fun hlen2 => sR <| oA rfl rfl <| nT <| CJ_seq <| sR <| oM rfl rfl <| oV (V_len rfl foc1 rwords Try.runUnderlying29) rfl <| oP (P_gtr (a := ((words.length : Nat) : Int)) (b := (40 : Int)) rfl rfl) rfl <| oM rfl rfl <| RJ_mbF rfl rfl rfl (fun hG3 => have hP4 : ¬ ((40 : Int) < ((words.length : Nat) : Int)) := nP (bT_dec) hG3; VJ_P (P_move rfl)) <| RJ_mbF rfl rfl rfl (fun hG5 => have hP6 : ¬ ((40 : Int) < ((words.length : Nat) : Int)) := nP (bT_dec) hG5; V_len (mbx hG5 rfl) foc1 rwords Try.runUnderlying29) <| RJ_mbF rfl rfl rfl (fun hG7 => have hP8 : ¬ ((40 : Int) < ((words.length : Nat) : Int)) := nP (bT_dec) hG7; VJ_P (P_eql (a := ((words.length : Nat) : Int)) (b := (0 : Int)) (mbx hG7 rfl) rfl)) <| oP (P_pickOr rfl rfl (fun hh => mbx (not_f hh) rfl)) rfl <| oM rfl rfl <| RJ_mbF rfl rfl rfl (fun hG9 => have hP10 : ¬ (((40 : Int) < ((words.length : Nat) : Int)) ∨ (((words.length : Nat) : Int) = (0 : Int))) := nP ((bT_or bT_dec bT_dec)) hG9; VJ_P (P_move rfl)) <| RJ_mbF rfl rfl rfl (fun hG11 => have hP12 : ¬ (((40 : Int) < ((words.length : Nat) : Int)) ∨ (((words.length : Nat) : Int) = (0 : Int))) := nP ((bT_or bT_dec bT_dec)) hG11; VJ_P (P_lenS (mbx hG11 rfl) Try.runUnderlying9)) ?_
 refine RJ_mbF rfl rfl rfl (fun hG13 => have hP14 : ¬ (((40 : Int) < ((words.length : Nat) : Int)) ∨ (((words.length : Nat) : Int) = (0 : Int))) := nP ((bT_or bT_dec bT_dec)) hG13; VJ_P (P_gtr (a := ((text.size : Nat) : Int)) (b := (200 : Int)) (mbx hG13 rfl) rfl)) <| oP (P_pickOr rfl rfl (fun hh => mbx (not_f hh) rfl)) rfl <| nT <| CJ_condP rfl (bT_or (bT_or bT_dec bT_dec) bT_dec) (fun hg1 => ?_) (fun hg1 => ?_)
 ·
  replace h := ite_t hg1 h
  refine sR ?_
  obtain ⟨r15, hr16, h⟩ := bind_e h
  refine oO <| O_call (L_volumegrouplaw12_awake hr16) rfl Try.call14 Dels.nil rfl fun _ _ => oA rfl rfl <| nT <| CJ_ret <| QJ_then_ret ?_
  cases h
  exact fE (res1 Try.results6 rfl) () eR
 ·
  replace h := ite_f hg1 h
  refine kT <| sR <| oM rfl rfl ?_
  obtain ⟨r17, hr18, h⟩ := bind_e h
  refine oO <| O_call (L_volumegroupmake_New rl hr18) rfl Try.call19 (Dels.cons del0 Dels.nil) rfl fun X19 _ => RJ_ent (t2_ eR) <| RJ_pur fun hpur_q21 => oA rfl rfl <| nT <| sR <| oM rfl rfl <| oM rfl rfl ?_
  obtain ⟨r22, hr23, h⟩ := bind_e h
  refine oO <| O_call (L_volumegroupmake_Src_Range hpur_q21 hr23) rfl Try.call20 (Dels.cons del1 (Dels.cons del0 Dels.nil)) rfl fun _ _ => ?_
  obtain ⟨r24, hr25, h⟩ := bind_e h
  refine oO <| O_call (L_volumegrouplaw12_built hpur_q21 hr25) rfl Try.call26 (Dels.cons del0 (Dels.cons del0 Dels.nil)) rfl fun X26 _ => oA rfl rfl <| nT <| sR <| oM rfl rfl <| oM rfl rfl <| oM rfl rfl ?_
  obtain ⟨r28, hr29, h⟩ := bind_e h
  refine oO <| O_call (L_volumegrouplaw12_agrees rwords hr29) rfl Try.call27 (Dels.cons del3 Dels.nil) rfl fun _ _ => oM rfl rfl <| RJ_splitP 35 rfl Iff.rfl (fun hg2B hg2 => ?_) (fun hg2B hg2 => ?_)
  ·
   replace h := ite_t hg2 h
   refine gP (GY_yes rfl rfl rfl hg2B) (P_move rfl) rfl <| gP (GY_yes rfl rfl rfl hg2B) (P_move rfl) rfl <| gP (GY_yes rfl rfl rfl hg2B) (P_move rfl) rfl ?_
   obtain ⟨r30, hr31, h⟩ := bind_e h
   refine RJ_gy (GY_yes rfl rfl rfl hg2B) <| O_call (L_volumegrouplaw12_agrees (Reads.sl _ _ _) hr31) rfl Try.call27 (Dels.cons del3 Dels.nil) rfl fun _ _ => oP (P_pickT rfl hg2B rfl) rfl <| oM rfl rfl <| RJ_splitP 41 rfl Iff.rfl (fun hg3B hg3 => ?_) (fun hg3B hg3 => ?_)
   ·
    replace h := ite_t hg3 h
    refine gP (GY_yes rfl rfl rfl hg3B) (P_move rfl) rfl <| gP (GY_yes rfl rfl rfl hg3B) (P_move rfl) rfl ?_
    obtain ⟨r32, hr33, h⟩ := bind_e h
    refine RJ_gy (GY_yes rfl rfl rfl hg3B) <| O_call (L_volumegroupmake_Src_N hpur_q21 hr33) rfl Try.call28 (Dels.cons del2 (Dels.cons del2 Dels.nil)) rfl fun _ _ => ?_
    obtain ⟨hg4, h⟩ := grd_Ie h
    refine gP (GY_yes rfl rfl rfl hg3B) (P_add (a := (1 : Int)) (b := r32.1) rfl rfl hg4) rfl <| gP (GY_yes rfl rfl rfl hg3B) (P_move rfl) rfl <| RJ_gy (GY_yes rfl rfl rfl hg3B) <| O_buildSlice rfl (bs_43_4_0_1_2_3 _ _ _ _) rfl fun b34 => RJ_ent (Ent.trans (t0_ eR) (sl_of_lit (t := tyS) (m := 4) [(ByteArray.mk #[]), (ByteArray.mk #[97, 98, 99]), (ByteArray.mk #[97, 32, 116, 101, 120, 116, 32, 111, 102, 32, 115, 111, 109, 101, 32, 119, 111, 114, 100, 115]), (ByteArray.mk #[48, 49, 50, 51, 52, 53, 54, 55, 56, 57, 48, 49, 50, 51, 52, 53, 54, 55, 56, 57, 48, 49, 50, 51, 52, 53, 54, 55, 56, 57, 48, 49, 50, 51, 52, 53, 54, 55, 56, 57])] rfl rfl rfl (by decide))) ?_
    obtain ⟨r35, hr36, h⟩ := bind_e h
    refine RJ_gy (GY_yes rfl rfl rfl hg3B) <| O_call (L_volumegroupmake_Src_Word hpur_q21 (Reads.sl _ _ _) hr36) rfl Try.call22 (Dels.cons del1 (Dels.cons del1 (Dels.cons del0 Dels.nil))) rfl fun _ _ => ?_
    obtain ⟨r37, hr38, h⟩ := bind_e h
    refine RJ_gy (GY_yes rfl rfl rfl hg3B) <| O_call (L_volumegrouplaw12_agrees (Reads.sl _ _ _) hr38) rfl Try.call27 (Dels.cons del3 Dels.nil) rfl fun _ _ => oP (P_pickT rfl hg3B rfl) rfl <| oM rfl rfl <| RJ_splitP 51 rfl Iff.rfl (fun hg5B hg5 => ?_) (fun hg5B hg5 => ?_)
    ·
     replace h := ite_t hg5 h
     obtain ⟨r39, hr40, h⟩ := bind_e h
     refine RJ_gy (GY_yes rfl rfl rfl hg5B) <| O_call (L_volumegrouplaw12_awake hr40) rfl Try.call14 Dels.nil rfl fun _ _ => oP (P_pickT rfl hg5B rfl) rfl <| oA rfl rfl <| nT <| CJ_ret ?_
     cases h
     exact fE (res1 Try.results6 rfl) () (t2_ (t3_ (eD (eD (eD eR)))))
    ·
     replace h := ite_f hg5 h
     refine RJ_gn (GY_no rfl rfl rfl hg5B) rfl rfl <| oP (P_pickF rfl hg5B rfl) rfl <| oA rfl rfl <| nT <| CJ_ret ?_
     cases h
     exact fE (res1 Try.results6 rfl) () (t2_ (t3_ (eD (eD (eD eR)))))
   ·
    replace h := ite_f hg3 h
    refine RJ_gn (GY_no rfl rfl rfl hg3B) rfl rfl <| RJ_gn (GY_no rfl rfl rfl hg3B) rfl rfl <| RJ_gn (GY_no rfl rfl rfl hg3B) rfl rfl <| RJ_gn (GY_no rfl rfl rfl hg3B) rfl rfl <| RJ_gn (GY_no rfl rfl rfl hg3B) rfl rfl <| RJ_gn (GY_no rfl rfl rfl hg3B) rfl rfl <| RJ_gn (GY_no rfl rfl rfl hg3B) rfl rfl <| RJ_gn (GY_no rfl rfl rfl hg3B) rfl rfl <| oP (P_pickF rfl hg3B rfl) rfl <| oM rfl rfl <| RJ_gn (GY_no rfl rfl rfl rfl) rfl rfl <| oP (P_pickF rfl rfl rfl) rfl <| oA rfl rfl <| nT <| CJ_ret ?_
    cases h
    exact fE (res1 Try.results6 rfl) () (t3_ (t1_ (eD (eD eR))))
  ·
   replace h := ite_f hg2 h
   refine RJ_gn (GY_no rfl rfl rfl hg2B) rfl rfl <| RJ_gn (GY_no rfl rfl rfl hg2B) rfl rfl <| RJ_gn (GY_no rfl rfl rfl hg2B) rfl rfl <| RJ_gn (GY_no rfl rfl rfl hg2B) rfl rfl <| oP (P_pickF rfl hg2B rfl) rfl <| oM rfl rfl <| RJ_gn (GY_no rfl rfl rfl rfl) rfl rfl <| RJ_gn (GY_no rfl rfl rfl rfl) rfl rfl <| RJ_gn (GY_no rfl rfl rfl rfl) rfl rfl <| RJ_gn (GY_no rfl rfl rfl rfl) rfl rfl <| RJ_gn (GY_no rfl rfl rfl rfl) rfl rfl <| RJ_gn (GY_no rfl rfl rfl rfl) rfl rfl <| RJ_gn (GY_no rfl rfl rfl rfl) rfl rfl <| RJ_gn (GY_no rfl rfl rfl rfl) rfl rfl <| oP (P_pickF rfl rfl rfl) rfl <| oM rfl rfl <| RJ_gn (GY_no rfl rfl rfl rfl) rfl rfl <| oP (P_pickF rfl rfl rfl) rfl <| oA rfl rfl <| nT <| CJ_ret ?_
   cases h
   exact fE (res1 Try.results6 rfl) () (t2_ (t0_ (eD (eD eR))))
end Go.Proofs
