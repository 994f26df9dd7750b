/- RingClears, part 6 of the proof: PRing5, LRingClears, PRingClears. -/
import Derived.WalkKit
import Derived.Orders
import Derived.RangeFuncLeaves
import Derived.RangeFuncCalls
import Derived.TacticsIn
import Derived.Handy
import Derived.OrdersHeld
import Derived.OrdersIn
import Derived.Below
import Derived.OpenShut
import Derived.Deep.Slices
import Derived.Scope
import Derived.KernelRfl
import Derived.RangeFuncRecord
import Derived.ChangeKeysEq
import Derived.Laws.BytesArg
import Derived.ProofKit
import Derived.ShutString
import Derived.ChangeOld
import Derived.Test.YtkgnkalogghdgaaChecked
import Derived.Test.YtkgnkalogghdgaaRows
import Derived.Test.YtkgnkalogghdgaaZRingClears5
namespace Go.Proofs
open Go.VG
theorem pend_of_cand {s : ArrS} {d b : Nat} {v : UInt64} (h : cand s d b = [v]) : pend s d b = [] := by
  unfold cand at h
  injection h
section
variable {K n : Nat} {s : ArrS}
theorem Lv.log0 (h : Lv [n] K 0 n s) : s.log = [] := Coh.log_nil h.ok fun e b he hb' => by
  have he0 : e = 0 := by simp at he; omega
  subst he0
  exact pend_of_cand (h.cl b hb')
theorem Lv.imC0 (h : Lv [n] K 0 n s) : imC s (0 : Int) = 0 := imC_of (s := s) (d := 0) (by have := h.ok.sz.cnt; simp at this; omega)
theorem Lv.imL0 (h : Lv [n] K 0 n s) : imL s (0 : Int) = nowL s 0 := imL_of (s := s) (d := 0) (by have := h.ok.sz.cnt; simp at this; omega)
theorem Lv.len0 (h : Lv [n] K 0 n s) : (nowL s 0).length = n := h.ok.sz.size 0 (by simp)
theorem Lv.im_eq (h : Lv [n] K 0 n s) {l : List UInt64} (hl : l.length = n) (hn : ∀ b, b < n → now s 0 b = listA l b) : imL s (0 : Int) = l := by
  rw [h.imL0]
  refine list_ext0 (by rw [h.len0, hl]) fun i hi => ?_
  rw [h.len0] at hi
  exact hn i hi
end
theorem listA_set {l : List UInt64} {k : Nat} {v : UInt64} (hk : k < l.length) : listA (l.set k v) = upd (listA l) k v := by
  funext b
  unfold upd
  show (l.set k v).getD b 0 = if b = k then v else l.getD b 0
  rw [List.getD_eq_getElem?_getD, List.getElem?_set, List.getD_eq_getElem?_getD]
  by_cases h : b = k
  · subst h; rw [if_pos rfl, if_pos rfl, if_pos hk]; rfl
  · rw [if_neg (fun x => h x.symm), if_neg h]
theorem rprep_l2 {w : List UInt64} {x : List UInt64} {e0 : Int} {oS oN n : Nat} {q0 : Int} {c0 : UInt16} (hn : 4 ≤ n ∧ n ≤ 1000) (hx : x.length ≤ 100000) (hS : oS ≤ 100000) (hN : oN ≤ 100000) : ∀ (N i : Nat) (X : List UInt64), x.length - i < N → i ≤ x.length → X.length = n →
    listA X = putN (listA w) (rgR n) ((oS + oN) % rgR n) x i →
    ∃ X', volumegroupref12_Prepared_l2 (x, e0) (q0, (oS : Int), (oN : Int), c0) ((rgR n : Nat) : Int) N X i = some X' ∧ X'.length = n ∧ listA X' = putN (listA w) (rgR n) ((oS + oN) % rgR n) x x.length
  | 0, _, _, h, _, _, _ => absurd h (by omega)
  | N + 1, i, X, h, hi, hl, hX => by
    obtain ⟨r1, r2, r3⟩ := rg_le hn.1 hn.2
    have e : volumegroupref12_Prepared_l2 (x, e0) (q0, (oS : Int), (oN : Int), c0) ((rgR n : Nat) : Int) (N + 1) X i = volumegroupref12_Prepared_l2_b (x, e0) (q0, (oS : Int), (oN : Int), c0) ((rgR n : Nat) : Int) (volumegroupref12_Prepared_l2 (x, e0) (q0, (oS : Int), (oN : Int), c0) ((rgR n : Nat) : Int) N) X i := rfl
    rw [e]
    unfold volumegroupref12_Prepared_l2_b
    simp only [lt]
    by_cases hlt : i < x.length
    · have e1 : ((oS : Int) + (oN : Int)) = ((oS + oN : Nat) : Int) := by omega
      have hst := Nat.mod_lt (oS + oN) (show 0 < rgR n by omega)
      rw [if_pos (by omega), e1, tmodN]
      generalize hst' : (oS + oN) % rgR n = st at hst hX ⊢
      have e2 : (((st : Nat) : Int) + ((i : Nat) : Int)) = ((st + i : Nat) : Int) := by omega
      have hm := Nat.mod_lt (st + i) (show 0 < rgR n by omega)
      rw [e2, tmodN, grd_pos (inI64_of (by omega)), grd_pos (decide_eq_true (by omega)), grd_pos (inI64_of (by omega)), grd_pos (decide_eq_true (by omega)), grd_pos (inN64_of (by omega)),
        show ((2 : Int) + (((st + i) % rgR n : Nat) : Int)).toNat = plc (rgR n) st i by unfold plc; omega]
      have hp : plc (rgR n) st i < X.length := by unfold plc; omega
      have := rprep_l2 (w := w) (x := x) (e0 := e0) (oS := oS) (oN := oN) (q0 := q0) (c0 := c0) hn hx hS hN N (i + 1) (X.set (plc (rgR n) st i) (x.getD i 0)) (by omega) (by omega) (by rw [List.length_set, hl]) (by rw [listA_set hp, hX, hst']; rfl)
      rw [hst'] at this
      exact this
    · rw [if_neg (by omega)]
      exact ⟨X, rfl, hl, by rw [hX, show i = x.length by omega]⟩
theorem prep_agree {w : List UInt64} (h4 : 4 ≤ w.length) (hb : w.length ≤ 1000) (q : Int) (x : ByteArray) : ∃ out e t, volumegroupref12_Prepared w q x = some (out, e) ∧ ring_Prepare (Dk 0 w.length) q x (mkS [w]) = some (e, t) ∧ Lv [w.length] 10000 0 w.length t ∧ t.fuse = 0 ∧
    (e = 0 → out.length = w.length ∧ now t 0 = listA out) ∧ (e ≠ 0 → now t 0 = listA w) := by
  have hL := lv_mkS h4 hb
  have hL' : Lv [w.length] 10000 0 w.length (mkS [w]) := ⟨hL.ok.mono (by omega), hL.dn, hL.hd, hL.hn, hL.h4, hL.hb, hL.ms, hL.cl, by omega⟩
  have hnow : now (mkS [w]) 0 = listA w := now_mkS
  obtain ⟨r1, r2, r3⟩ := rg_le h4 hb
  unfold volumegroupref12_Prepared
  rw [if_neg (by omega)]
  by_cases hq : q < 1 ∨ 1048575 < q
  · rw [if_pos hq]
    exact ⟨_, _, _, rfl, prep_range hL hq, hL', rfl, fun h => absurd h (by decide), fun _ => hnow⟩
  rw [if_neg hq, rtext_eq]
  by_cases hx : 8192 < x.size
  · rw [if_pos hx]; simp only [Option.bind_some]
    rw [if_pos (by simp)]
    exact ⟨_, _, _, rfl, prep_limit hL hq hx, hL', rfl, fun h => absurd h (by decide), fun _ => hnow⟩
  rw [if_neg hx]; simp only [Option.bind_some]
  rw [if_neg (by simp)]
  have hw0 : w.getD 0 0 = now (mkS [w]) 0 0 := by rw [hnow]
  have hwh : volumegroupref12_Whole w (w.getD 0 0) = some (wholeR (now (mkS [w]) 0) (rgR w.length) (now (mkS [w]) 0 0)) := by rw [rwhole_eq (by omega) hb, hnow]
  by_cases hbad : now (mkS [w]) 0 0 ≠ 0 ∧ (wholeR (now (mkS [w]) 0) (rgR w.length) (now (mkS [w]) 0 0)).2 = false
  · rw [if_pos (by rw [hw0]; exact hbad.1), hwh]; simp only [Option.bind_some]
    rw [if_pos (by simp [hbad.2])]
    exact ⟨[], 11, _, rfl, prep_sum hL hq hx hbad.1 hbad.2, hL', rfl, fun h => absurd h (by decide), fun _ => hnow⟩
  have hok : now (mkS [w]) 0 0 ≠ 0 → (wholeR (now (mkS [w]) 0) (rgR w.length) (now (mkS [w]) 0 0)).2 = true := fun h0 => by
    cases hc : (wholeR (now (mkS [w]) 0) (rgR w.length) (now (mkS [w]) 0 0)).2 with
    | true => rfl
    | false => exact absurd ⟨h0, hc⟩ hbad
  have hold : ∃ (a : Int) (c : UInt16), (if ((w.getD 0 0) ≠ (0 : UInt64)) then
            Option.bind (volumegroupref12_Whole w (w.getD 0 0)) fun r22 =>
            if (¬ r22.2 = true) then
              some (.inr (([], (11 : Int))))
            else
              Option.bind (volumegroupref12_Split (w.getD 0 0)) fun r25 =>
              some (.inl (r25.Seq, r25.Start, r25.Length, r25.Sum))
          else
            some (.inl ((0 : Int), (0 : Int), (0 : Int), (0 : UInt16))) : Option ((Int × Int × Int × UInt16) ⊕ ((List UInt64) × Int))) = some (.inl (a, ((oldS (now (mkS [w]) 0 0) : Nat) : Int), ((oldN (now (mkS [w]) 0 0) : Nat) : Int), c)) := by
    by_cases h0 : now (mkS [w]) 0 0 = 0
    · refine ⟨0, 0, ?_⟩
      rw [if_neg (by rw [hw0]; exact fun x => x h0)]
      unfold oldS oldN
      rw [if_pos h0, if_pos h0]; rfl
    · refine ⟨((dQ (now (mkS [w]) 0 0)).toNat : Int), to_u16 (((shr_u64 (now (mkS [w]) 0 0) 48).toNat : Int)), ?_⟩
      rw [if_pos (by rw [hw0]; exact h0), hwh]; simp only [Option.bind_some]
      rw [if_neg (by simp [hok h0]), rsplit_eq, hw0]
      unfold oldS oldN
      rw [if_neg h0, if_neg h0]; rfl
  obtain ⟨a0, c0, hold⟩ := hold
  rw [hold]
  simp only [seqO, Option.bind_some, Sum.elim_inl]
  rw [rring_eq (by omega) (by omega)]; simp only [Option.bind_some]
  have hfS : (dS (now (mkS [w]) 0 0)).toNat < 2 ^ 16 := fieldU_lt _ _ _
  have hfN : (dN (now (mkS [w]) 0 0)).toNat < 2 ^ 12 := fieldU_lt _ _ _
  have hoS : oldS (now (mkS [w]) 0 0) < 2 ^ 16 := by unfold oldS; split <;> omega
  have hoN : oldN (now (mkS [w]) 0 0) < 2 ^ 12 := by unfold oldN; split <;> omega
  have hE := encT_lt (s := x) (by omega)
  obtain ⟨p, rfl⟩ : ∃ p : Nat, q = (p : Int) := ⟨q.toNat, by omega⟩
  rw [grd_pos (inI64_of (by omega))]
  rcases prep_out hL (by omega) (q := p) (x := x) (by omega) (by omega) hok with ⟨h1, h2⟩ | ⟨h1, ⟨t, h2, h3⟩ | ⟨h2, _⟩⟩
  · rw [if_pos (by omega)]
    exact ⟨_, _, _, rfl, h2, hL', rfl, fun h => absurd h (by decide), fun _ => hnow⟩
  · rw [if_neg (by omega), grd_pos (inLen_of (by omega)), grd_pos (inI64_of (by omega)), grd_pos (decide_eq_true (by omega))]
    have hF := fuel_big
    generalize FUEL = N at hF ⊢
    obtain ⟨X, x1, x2, x3⟩ := rprep_l2 (w := w) (x := encT x) (e0 := 0) (oS := oldS (now (mkS [w]) 0 0)) (oN := oldN (now (mkS [w]) 0 0)) (q0 := a0) (c0 := c0) (n := w.length) ⟨h4, hb⟩ (by omega) (by omega) (by omega) N 0 ([] ++ w) (by omega) (by omega) rfl rfl
    rw [x1]; simp only [Option.bind_some, lt]
    rw [rsum_eq12 _ (by omega)]; simp only [Option.bind_some]
    rw [grd_pos (decide_eq_true (by omega))]
    have e1 : (((oldS (now (mkS [w]) 0 0) : Nat) : Int) + ((oldN (now (mkS [w]) 0 0) : Nat) : Int)) = ((oldS (now (mkS [w]) 0 0) + oldN (now (mkS [w]) 0 0) : Nat) : Int) := by omega
    refine ⟨_, 0, t, rfl, h2, ?_, ?_, fun _ => ⟨by rw [List.length_set, x2], ?_⟩, fun h => absurd rfl h⟩
    · have hl := h3.lv hL (by omega)
      exact ⟨hl.ok.mono (by omega), hl.dn, hl.hd, hl.hn, hl.h4, hl.hb, hl.ms, hl.cl, by omega⟩
    · rw [h3.fuse]; show 0 - _ = 0; omega
    · rw [h3.nowD, e1, tmodN, listA_set (by omega), x3, hnow]; rfl
  · exact absurd rfl h2
end Go.Proofs
set_option linter.unusedSimpArgs false
set_option linter.unusedVariables false
set_option maxRecDepth 20000
set_option maxHeartbeats 4000000
namespace Go.Proofs
open Go.VG
theorem bld_117_0 (v0 : (Option Addr)) (v1 : Nat) (v2 : Nat) : ∀ w, (Instr.build 117 (#[(0, .slice v0 v1 v2)] : Array (Nat × Value))).run Try.prog w = .ok (.agg #[.slice v0 v1 v2, .int .i64 (0 : Int)]) w := fun w => by kernel_rfl
theorem bs_43_5_0_1_2_3_4 (v0 : ByteArray) (v1 : ByteArray) (v2 : ByteArray) (v3 : ByteArray) (v4 : ByteArray) : BuildsSlice Try.prog 43 5 [(0, .string v0), (1, .string v1), (2, .string v2), (3, .string v3), (4, .string v4)] 9 [.string v0, .string v1, .string v2, .string v3, .string v4] := fun w => by kernel_rfl
def volumegroupmake_New (l : List Int) : Option ((List Int) × Nat) :=
  if ((1000 : Int) < ((l.length : Nat) : Int)) then
    some ((((l.take 1000).drop 0), 0))
  else
    some (l, 0)
theorem L_volumegroupmake_New {W : World} {Al : HP} {vl : Value} {l : List Int} {r : (List Int) × Nat} (rl : Reads Al tyI vl l) (h : volumegroupmake_New l = some r) :
    CSpec Try.prog W 19 [vl] [Al] (fun x : Nat × Value => ptr x.1 0) (fun _ => True) (fun x F => Al :: blk x.1 117 [x.2, .int .i64 (((r.2 : Nat) : Int))] :: pur (Reads Al tyI x.2 r.1) :: F) := by
 refine CSpec.of_body Try.func19 rfl Try.ntmps19 rfl fun F => ?_
 show CJ _ _ _ _ _ _ (_ :: F)
 unfold volumegroupmake_New at h
 refine CJ_pure (len_of rl del0) fun hlen1 => sR <| oA rfl rfl <| nT <| CJ_seq <| sR <| oM rfl rfl <| oV (V_len rfl foc0 rl Try.runUnderlying38) rfl <| oP (P_gtr (a := ((l.length : Nat) : Int)) (b := (1000 : Int)) rfl rfl) rfl <| nT <| CJ_condP rfl bT_dec (fun hg1 => ?_) (fun hg1 => ?_)
 ·
  replace h := ite_t hg1 h
  refine CJ_region <| oM rfl rfl <| oV (V_slice (l := 0) (h := 1000) rfl foc0 rl rfl ⟨_, rfl⟩ (by omega) (by omega) Try.underlying38 Try.sizeOf3) rfl <| oA rfl rfl <| nT <| sR <| oM rfl rfl <| RJ_pure (reads_sl3 rl del0) fun hsv3 => ?_
  obtain ⟨sv2, hsv3⟩ := hsv3
  subst hsv3
  refine oP (P_build rfl (bld_117_0 _ _ _)) rfl <| oO <| O_box rfl rfl rfl fun b4 => oA rfl rfl <| nT <| CJ_ret ?_
  cases h
  exact fE (res1 Try.results19 rfl) ⟨b4, sliceV tyI.sz (Sl3.v sv2) 0 1000⟩ (t1_ (t0_ (Ent.trans (fun h hh => stars_pur.2 ⟨(Reads.sliceV (l := 0) (h := 1000) rl (by omega) (by omega)), hh⟩) <| t0_ eR)))
 ·
  replace h := ite_f hg1 h
  refine kT <| sR <| oM rfl rfl <| RJ_pure (reads_sl3 rl del0) fun hsv6 => ?_
  obtain ⟨sv5, hsv6⟩ := hsv6
  subst hsv6
  refine oP (P_build rfl (bld_117_0 _ _ _)) rfl <| oO <| O_box rfl rfl rfl fun b7 => oA rfl rfl <| nT <| CJ_ret ?_
  cases h
  exact fE (res1 Try.results19 rfl) ⟨b7, (Sl3.v sv5)⟩ (t1_ (t0_ (Ent.trans (fun h hh => stars_pur.2 ⟨rl, hh⟩) <| t0_ eR)))
def volumegroupmake_Src_Raw (s_0_L : List Int) (s_0_At : Int) : Option (Int × Int) :=
  if (((s_0_L.length : Nat) : Int) ≤ s_0_At) then
    some (((0 : Int), s_0_At))
  else
    grd (inI64 ((s_0_At + (1 : Int)))) <|
    grd (inI64 (((s_0_At + (1 : Int)) - (1 : Int)))) <|
    grd (decide (0 ≤ ((s_0_At + (1 : Int)) - (1 : Int)) ∧ ((s_0_At + (1 : Int)) - (1 : Int)) < (s_0_L.length : Int))) <|
    some (((s_0_L.getD ((((s_0_At + (1 : Int)) - (1 : Int))).toNat) 0), (s_0_At + (1 : Int))))
theorem L_volumegroupmake_Src_Raw {W : World} {bs_0 : Nat} {As_0_L : HP} {vs_0_L : Value} {s_0_L : List Int} {s_0_At : Int} {r : Int × Int} (rs_0_L : Reads As_0_L tyI vs_0_L s_0_L) (h : volumegroupmake_Src_Raw s_0_L s_0_At = some r) :
    CSpec Try.prog W 63 [ptr bs_0 0] [blk bs_0 117 [vs_0_L, .int .i64 s_0_At], As_0_L] (fun x : Unit => .int .i64 r.1) (fun _ => True) (fun x F => blk bs_0 117 [vs_0_L, .int .i64 r.2] :: As_0_L :: F) := by
 refine CSpec.of_body Try.func63 rfl Try.ntmps63 rfl fun F => ?_
 show CJ _ _ _ _ _ _ (_ :: _ :: F)
 unfold volumegroupmake_Src_Raw at h
 refine CJ_pure (len_of rs_0_L del1) fun hlen1 => sR <| oA rfl rfl <| nT <| CJ_seq <| CJ_seq <| AJ_startH 0 (by kernel_rfl) rfl <| aN 0 1 rfl rfl (P_move rfl) rfl <| aN 1 3 rfl rfl (P_nilCheck rfl) rfl <| aN 2 7 rfl rfl (P_fieldAddr rfl ⟨_, _, _, Try.runUnderlying117, rfl, rfl, Try.sizeOf3, rfl⟩) rfl <| aV 3 15 rfl rfl (GY_none rfl) eR (V_load rfl foc0 rfl Try.isAgg3) rfl <| aN 4 31 rfl rfl (P_move rfl) rfl <| aN 5 63 rfl rfl (P_nilCheck rfl) rfl <| aN 6 127 rfl rfl (P_fieldAddr rfl ⟨_, _, _, Try.runUnderlying117, rfl, rfl, Try.sizeOf38, rfl⟩) rfl <| aV 7 255 rfl rfl (GY_none rfl) eR (V_load rfl foc0 rfl Try.isAgg38) rfl <| aV 8 511 rfl rfl (GY_none rfl) eR (V_len rfl foc1 rs_0_L Try.runUnderlying38) rfl <| aN 9 1023 rfl rfl (P_geq (a := s_0_At) (b := ((s_0_L.length : Nat) : Int)) rfl rfl) rfl <| aD <| CJ_condP rfl bT_dec (fun hg1 => ?_) (fun hg1 => ?_)
 ·
  replace h := ite_t hg1 h
  refine sR <| oA rfl rfl <| nT <| CJ_ret <| QJ_then_ret ?_
  cases h
  exact fE (res1 Try.results63 rfl) () eR
 ·
  replace h := ite_f hg1 h
  refine kT <| sR <| oM rfl rfl <| oP (P_nilCheck rfl) rfl <| oP (P_fieldAddr rfl ⟨_, _, _, Try.runUnderlying117, rfl, rfl, Try.sizeOf3, rfl⟩) rfl <| oV (V_load rfl foc0 rfl Try.isAgg3) rfl ?_
  obtain ⟨hg2, h⟩ := grd_Ie h
  refine oP (P_add (a := s_0_At) (b := (1 : Int)) rfl rfl hg2) rfl <| oP (P_nilCheck rfl) rfl <| oP (P_fieldAddr rfl ⟨_, _, _, Try.runUnderlying117, rfl, rfl, Try.sizeOf3, rfl⟩) rfl <| oO <| O_store rfl rfl foc0 rfl rfl Try.sizeOf3 <| nT <| CJ_seq <| AJ_startH 0 (by kernel_rfl) rfl <| aN 0 1 rfl rfl (P_move rfl) rfl <| aN 1 3 rfl rfl (P_nilCheck rfl) rfl <| aN 2 7 rfl rfl (P_fieldAddr rfl ⟨_, _, _, Try.runUnderlying117, rfl, rfl, Try.sizeOf38, rfl⟩) rfl <| aV 3 15 rfl rfl (GY_none rfl) eR (V_load rfl foc0 rfl Try.isAgg38) rfl <| aN 4 31 rfl rfl (P_move rfl) rfl <| aN 5 63 rfl rfl (P_nilCheck rfl) rfl <| aN 6 127 rfl rfl (P_fieldAddr rfl ⟨_, _, _, Try.runUnderlying117, rfl, rfl, Try.sizeOf3, rfl⟩) rfl <| aV 7 255 rfl rfl (GY_none rfl) eR (V_load rfl foc0 rfl Try.isAgg3) rfl ?_
  obtain ⟨hg3, h⟩ := grd_Ie h
  refine aN 8 511 rfl rfl (P_sub (a := (s_0_At + (1 : Int))) (b := (1 : Int)) rfl rfl hg3) rfl ?_
  obtain ⟨hg4, h⟩ := grd_de h
  refine aV 9 1023 rfl rfl (GY_none rfl) eR (V_index (i := (((s_0_At + (1 : Int)) - (1 : Int))).toNat) rfl rfl (Int.toNat_of_nonneg (hg4.1)).symm (by omega) foc1 rs_0_L Try.runUnderlying38 Try.sizeOf3) rfl <| aV 10 2047 rfl rfl (GY_none rfl) eR (V_loadE rfl rfl (by omega) foc1 rs_0_L rfl rfl Try.isAgg3) rfl <| aN 11 4095 rfl rfl (P_assign rfl) rfl <| aD <| CJ_ret ?_
  cases h
  exact fE (res1 Try.results63 rfl) () eR
def volumegroupmake_Src_N (s_0_L : List Int) (s_0_At : Int) (n_1 : Int) : Option (Int × Int) :=
  if (n_1 < (1 : Int)) then
    some (((0 : Int), s_0_At))
  else
    Option.bind (volumegroupmake_Src_Raw s_0_L s_0_At) fun r2 =>
    if ((r2.1.tmod n_1) < (0 : Int)) then
      grd (inI64 (((r2.1.tmod n_1) + n_1))) <|
      some ((((r2.1.tmod n_1) + n_1), r2.2))
    else
      some (((r2.1.tmod n_1), r2.2))
theorem L_volumegroupmake_Src_N {W : World} {bs_0 : Nat} {As_0_L : HP} {vs_0_L : Value} {s_0_L : List Int} {s_0_At : Int} {n_1 : Int} {r : Int × Int} (rs_0_L : Reads As_0_L tyI vs_0_L s_0_L) (h : volumegroupmake_Src_N s_0_L s_0_At n_1 = some r) :
    CSpec Try.prog W 28 [ptr bs_0 0, .int .i64 n_1] [blk bs_0 117 [vs_0_L, .int .i64 s_0_At], As_0_L] (fun x : Unit => .int .i64 r.1) (fun _ => True) (fun x F => blk bs_0 117 [vs_0_L, .int .i64 r.2] :: As_0_L :: F) := by
 refine CSpec.of_body Try.func28 rfl Try.ntmps28 rfl fun F => ?_
 show CJ _ _ _ _ _ _ (_ :: _ :: F)
 unfold volumegroupmake_Src_N at h
 refine CJ_pure (len_of rs_0_L del1) fun hlen1 => sR <| oA rfl rfl <| nT <| CJ_seq <| sR <| oM rfl rfl <| oP (P_lss (a := n_1) (b := (1 : Int)) rfl rfl) rfl <| nT <| CJ_condP rfl bT_dec (fun hg1 => ?_) (fun hg1 => ?_)
 ·
  replace h := ite_t hg1 h
  refine sR <| oA rfl rfl <| nT <| CJ_ret <| QJ_then_ret ?_
  cases h
  exact fE (res1 Try.results28 rfl) () eR
 ·
  replace h := ite_f hg1 h
  refine kT <| sR <| oM rfl rfl ?_
  obtain ⟨r2, hr3, h⟩ := bind_e h
  refine oO <| O_call (L_volumegroupmake_Src_Raw rs_0_L hr3) rfl Try.call63 (Dels.cons del0 (Dels.cons del0 Dels.nil)) rfl fun _ _ => oM rfl rfl <| oP (P_remT (a := r2.1) (b := n_1) rfl rfl (by omega)) rfl <| oA rfl rfl <| nT <| CJ_seq <| sR <| oM rfl rfl <| oP (P_lss (a := (r2.1.tmod n_1)) (b := (0 : Int)) rfl rfl) rfl <| nT <| CJ_condP rfl bT_dec (fun hg2 => ?_) (fun hg2 => ?_)
  ·
   replace h := ite_t hg2 h
   refine CJ_region <| oM rfl rfl <| oM rfl rfl ?_
   obtain ⟨hg3, h⟩ := grd_Ie h
   refine oP (P_add (a := (r2.1.tmod n_1)) (b := n_1) rfl rfl hg3) rfl <| oA rfl rfl <| nT <| sR <| oM rfl rfl <| oA rfl rfl <| nT <| CJ_ret ?_
   cases h
   exact fE (res1 Try.results28 rfl) () eR
  ·
   replace h := ite_f hg2 h
   refine kT <| sR <| oM rfl rfl <| oA rfl rfl <| nT <| CJ_ret ?_
   cases h
   exact fE (res1 Try.results28 rfl) () eR
def volumegroupmake_Src_Range (s_0_L : List Int) (s_0_At : Int) (low : Int) (high : Int) : Option (Int × Int) :=
  grd (inI64 (high - low)) <|
  grd (inI64 (((high - low) + (1 : Int)))) <|
  Option.bind (volumegroupmake_Src_N s_0_L s_0_At (((high - low) + (1 : Int)))) fun r2 =>
  grd (inI64 (low + r2.1)) <|
  some (((low + r2.1), r2.2))
theorem L_volumegroupmake_Src_Range {W : World} {bs_0 : Nat} {As_0_L : HP} {vs_0_L : Value} {s_0_L : List Int} {s_0_At : Int} {low : Int} {high : Int} {r : Int × Int} (rs_0_L : Reads As_0_L tyI vs_0_L s_0_L) (h : volumegroupmake_Src_Range s_0_L s_0_At low high = some r) :
    CSpec Try.prog W 20 [ptr bs_0 0, .int .i64 low, .int .i64 high] [blk bs_0 117 [vs_0_L, .int .i64 s_0_At], As_0_L] (fun x : Unit => .int .i64 r.1) (fun _ => True) (fun x F => blk bs_0 117 [vs_0_L, .int .i64 r.2] :: As_0_L :: F) := by
 refine CSpec.of_body Try.func20 rfl Try.ntmps20 rfl fun F => ?_
 show CJ _ _ _ _ _ _ (_ :: _ :: F)
 unfold volumegroupmake_Src_Range at h
 refine CJ_pure (len_of rs_0_L del1) fun hlen1 => sR <| oA rfl rfl <| nT <| sR <| oM rfl rfl <| oM rfl rfl <| oM rfl rfl <| oM rfl rfl ?_
 obtain ⟨hg1, h⟩ := grd_Ie h
 refine oP (P_sub (a := high) (b := low) rfl rfl hg1) rfl ?_
 obtain ⟨hg2, h⟩ := grd_Ie h
 refine oP (P_add (a := (high - low)) (b := (1 : Int)) rfl rfl hg2) rfl ?_
 obtain ⟨r2, hr3, h⟩ := bind_e h
 refine oO <| O_call (L_volumegroupmake_Src_N rs_0_L hr3) rfl Try.call28 (Dels.cons del0 (Dels.cons del0 Dels.nil)) rfl fun _ _ => ?_
 obtain ⟨hg3, h⟩ := grd_Ie h
 refine oP (P_add (a := low) (b := r2.1) rfl rfl hg3) rfl <| oA rfl rfl <| nT <| CJ_ret ?_
 cases h
 exact fE (res1 Try.results20 rfl) () eR
def volumegroupmake_Src_Word (s_0_L : List Int) (s_0_At : Int) (l : List ByteArray) : Option (ByteArray × Int) :=
  Option.bind (volumegroupmake_Src_N s_0_L s_0_At (((l.length : Nat) : Int))) fun r3 =>
  grd (decide (0 ≤ r3.1 ∧ r3.1 < (l.length : Int))) <|
  some (((l.getD ((r3.1).toNat) ByteArray.empty), r3.2))
theorem L_volumegroupmake_Src_Word {W : World} {bs_0 : Nat} {As_0_L : HP} {vs_0_L : Value} {Al : HP} {vl : Value} {s_0_L : List Int} {s_0_At : Int} {l : List ByteArray} {r : ByteArray × Int} (rs_0_L : Reads As_0_L tyI vs_0_L s_0_L) (rl : Reads Al tyS vl l) (h : volumegroupmake_Src_Word s_0_L s_0_At l = some r) :
    CSpec Try.prog W 22 [ptr bs_0 0, vl] [blk bs_0 117 [vs_0_L, .int .i64 s_0_At], As_0_L, Al] (fun x : Unit => .string r.1) (fun _ => True) (fun x F => blk bs_0 117 [vs_0_L, .int .i64 r.2] :: As_0_L :: Al :: F) := by
 refine CSpec.of_body Try.func22 rfl Try.ntmps22 rfl fun F => ?_
 show CJ _ _ _ _ _ _ (_ :: _ :: _ :: F)
 unfold volumegroupmake_Src_Word at h
 refine CJ_pure (len_of rs_0_L del1) fun hlen1 => CJ_pure (len_of rl del2) fun hlen2 => sR <| oA rfl rfl <| nT <| sR <| oM rfl rfl <| oM rfl rfl <| oM rfl rfl <| oV (V_len rfl foc2 rl Try.runUnderlying43) rfl ?_
 obtain ⟨r3, hr4, h⟩ := bind_e h
 refine oO <| O_call (L_volumegroupmake_Src_N rs_0_L hr4) rfl Try.call28 (Dels.cons del0 (Dels.cons del0 Dels.nil)) rfl fun _ _ => ?_
 obtain ⟨hg1, h⟩ := grd_de h
 refine oV (V_index (i := (r3.1).toNat) rfl rfl (Int.toNat_of_nonneg (hg1.1)).symm (by omega) foc2 rl Try.runUnderlying43 Try.sizeOf9) rfl <| oV (V_loadE rfl rfl (by omega) foc2 rl rfl rfl Try.isAgg9) rfl <| oA rfl rfl <| nT <| CJ_ret ?_
 cases h
 exact fE (res1 Try.results22 rfl) () eR
def volumegrouplaw12_built_l1_b (s_0_L : List Int) (rec : Int → (List UInt64) → Int → Option ((List UInt64) × Int)) (x13 : Int) (x14 : List UInt64) (x16 : Int) : Option ((List UInt64) × Int) :=
  if ((0 : Int) < x16) then
    Option.bind (volumegroupmake_Src_N s_0_L x13 (1048575 : Int)) fun r18 =>
    grd (inI64 (((1 : Int) + r18.1))) <|
    Option.bind (volumegroupmake_Src_Word s_0_L r18.2 ([(ByteArray.mk #[]), (ByteArray.mk #[97]), (ByteArray.mk #[101, 105, 103, 104, 116, 32, 98, 121]), (ByteArray.mk #[115, 111, 109, 101, 32, 108, 111, 110, 103, 101, 114, 32, 116, 101, 120, 116, 32, 111, 102, 32, 116, 104, 101, 32, 103, 114, 111, 117, 112]), (ByteArray.mk #[118, 103, 32, 123, 32, 115, 101, 113, 32, 61, 32, 49, 32, 125])])) fun r20 =>
    Option.bind (volumegroupref12_Prepared x14 (((1 : Int) + r18.1)) r20.1) fun r22 =>
    if (r22.2 = (0 : Int)) then
      Option.bind (volumegroupmake_Src_N s_0_L r20.2 (4 : Int)) fun r26 =>
      if ((0 : Int) < r26.1) then
        grd (decide (1 < r22.1.length)) <|
        grd (decide (0 < r22.1.length)) <|
        grd (inI64 ((x16 - (1 : Int)))) <|
        rec r26.2 ((r22.1.set 0 (r22.1.getD 1 0))) ((x16 - (1 : Int)))
      else
        grd (inI64 ((x16 - (1 : Int)))) <|
        rec r26.2 r22.1 ((x16 - (1 : Int)))
    else
      grd (inI64 ((x16 - (1 : Int)))) <|
      rec r20.2 x14 ((x16 - (1 : Int)))
  else
    some (x14, x13)
def volumegrouplaw12_built_l1 (s_0_L : List Int) : Nat → Int → (List UInt64) → Int → Option ((List UInt64) × Int)
  | 0, _, _, _ => none
  | n + 1, x13, x14, x16 => volumegrouplaw12_built_l1_b s_0_L (volumegrouplaw12_built_l1 s_0_L n) x13 x14 x16
def volumegrouplaw12_built (s_0_L : List Int) (s_0_At : Int) (size : Int) : Option ((List UInt64) × Int) :=
  grd (decide (0 ≤ size ∧ size ≤ 1000000000)) <|
  Option.bind (volumegroupmake_Src_N s_0_L s_0_At (5 : Int)) fun r4 =>
  Option.bind (volumegrouplaw12_built_l1 s_0_L FUEL r4.2 ((List.replicate ((size).toNat) (0 : UInt64))) r4.1) fun a12 =>
  Option.bind (volumegroupmake_Src_N s_0_L a12.2 (6 : Int)) fun r30 =>
  if (r30.1 = (0 : Int)) then
    Option.bind (volumegroupmake_Src_N s_0_L r30.2 size) fun r32 =>
    grd (decide (0 ≤ r32.1 ∧ r32.1 < (a12.1.length : Int))) <|
    Option.bind (volumegroupmake_Src_N s_0_L r32.2 (64 : Int)) fun r34 =>
    grd (decide (0 ≤ r34.1)) <|
    grd (decide (0 ≤ r32.1 ∧ r32.1 < (a12.1.length : Int))) <|
    some (((a12.1.set ((r32.1).toNat) (((a12.1.getD ((r32.1).toNat) 0) ^^^ (shl_u64 (1 : UInt64) ((r34.1).toNat))))), r34.2))
  else
    if (r30.1 = (1 : Int)) then
      Option.bind (volumegroupmake_Src_N s_0_L r30.2 (2 : Int)) fun r36 =>
      Option.bind (volumegroupmake_Src_Raw s_0_L r36.2) fun r38 =>
      grd (decide (0 ≤ r36.1 ∧ r36.1 < (a12.1.length : Int))) <|
      some (((a12.1.set ((r36.1).toNat) (((to_u64 r38.1) * (11400714819323198485 : UInt64)))), r38.2))
    else
      some (a12.1, r30.2)
theorem L_volumegrouplaw12_built {W : World} {bs_0 : Nat} {As_0_L : HP} {vs_0_L : Value} {s_0_L : List Int} {s_0_At : Int} {size : Int} {r : (List UInt64) × Int} (rs_0_L : Reads As_0_L tyI vs_0_L s_0_L) (h : volumegrouplaw12_built s_0_L s_0_At size = some r) :
    CSpec Try.prog W 26 [ptr bs_0 0, .int .i64 size] [blk bs_0 117 [vs_0_L, .int .i64 s_0_At], As_0_L] (fun x : Sl3 => x.v) (fun _ => True) (fun x F => blk bs_0 117 [vs_0_L, .int .i64 r.2] :: As_0_L :: sl tyU x.v r.1 :: F) := by
 refine CSpec.of_body Try.func26 rfl Try.ntmps26 rfl fun F => ?_
 show CJ _ _ _ _ _ _ (_ :: _ :: F)
 unfold volumegrouplaw12_built at h
 refine CJ_pure (len_of rs_0_L del1) fun hlen1 => sR <| oA rfl rfl <| nT <| sR <| oM rfl rfl ?_
 obtain ⟨hg1, h⟩ := grd_de h
 refine oO <| O_make (t := tyU) (m := (size).toNat) (x0 := 0) (z := _) (bytes := _) rfl rfl (Int.toNat_of_nonneg (hg1.1)).symm (Int.toNat_of_nonneg (hg1.1)).symm Try.underlying29 ⟨Try.t39, by kernel_rfl, rfl, rfl, rfl⟩ rfl (by omega) (by decide) rfl fun b2 => oA rfl rfl <| nT <| sR <| oO <| O_buildSlice rfl (bs_43_5_0_1_2_3_4 _ _ _ _ _) rfl fun b3 => RJ_ent (Ent.trans (t0_ eR) (sl_of_lit (t := tyS) (m := 5) [(ByteArray.mk #[]), (ByteArray.mk #[97]), (ByteArray.mk #[101, 105, 103, 104, 116, 32, 98, 121]), (ByteArray.mk #[115, 111, 109, 101, 32, 108, 111, 110, 103, 101, 114, 32, 116, 101, 120, 116, 32, 111, 102, 32, 116, 104, 101, 32, 103, 114, 111, 117, 112]), (ByteArray.mk #[118, 103, 32, 123, 32, 115, 101, 113, 32, 61, 32, 49, 32, 125])] rfl rfl rfl (by decide))) <| oA rfl rfl <| nT <| CJ_seq <| sR <| oM rfl rfl ?_
 obtain ⟨r4, hr5, h⟩ := bind_e h
 refine oO <| O_call (L_volumegroupmake_Src_N rs_0_L hr5) rfl Try.call28 (Dels.cons del2 (Dels.cons del2 Dels.nil)) rfl fun _ _ => oA rfl rfl <| nT ?_
 obtain ⟨y8, hl6, hK7⟩ := bind_c h
 refine CJ_cutT (X := ((List UInt64) × Int) × Sl3) [5, 7, 8, 9, 15, 16, 17, 18, 19, 20, 21, 22, 23, 24, 25, 26, 27, 28, 29, 30, 31, 32, 33, 34, 35, 36, 37, 38, 39, 40] (fun ⟨a12, hd10⟩ => ([(5, hd10.v)] : Slots)) (fun ⟨a12, hd10⟩ R => sl tyU hd10.v a12.1 :: blk bs_0 117 [vs_0_L, .int .i64 a12.2] :: R) (fun ⟨a12, hd10⟩ => y8 = a12) (Dels.cons del3 (Dels.cons del0 Dels.nil)) ?_ ?_
 ·
  refine CJ_block <| CJ_loopR (X := Nat × Int × (List UInt64) × Int × Sl3) [5, 7, 8, 9, 15, 16, 17, 18, 19, 20, 21, 22, 23, 24, 25, 26, 27, 28, 29, 30, 31, 32, 33, 34, 35, 36, 37, 38, 39, 40] (fun ⟨n, x13, x14, x16, hd15⟩ => ([(5, hd15.v), (7, .int .i64 x16)] : Slots)) (fun ⟨n, x13, x14, x16, hd15⟩ R => blk bs_0 117 [vs_0_L, .int .i64 x13] :: sl tyU hd15.v x14 :: R) (fun ⟨n, x13, x14, x16, hd15⟩ => volumegrouplaw12_built_l1 s_0_L n x13 x14 x16 = some y8) (fun ⟨n, x13, x14, x16, hd15⟩ => n) ⟨FUEL, r4.2, (List.replicate ((size).toNat) (0 : UInt64)), r4.1, ⟨some ⟨b2, 0, none⟩, (size).toNat, (size).toNat⟩⟩ ?_ ?_ (t0_ (t2_ eR)) ?_
  · exact hl6
  · exact ⟨rfl, rfl, True.intro⟩
  ·
   rintro ⟨n, x13, x14, x16, hd15⟩ h
   cases n with
   | zero => exact none_e h
   | succ n => ?_
   replace h : volumegrouplaw12_built_l1_b s_0_L (volumegrouplaw12_built_l1 s_0_L n) x13 x14 x16 = some y8 := h
   unfold volumegrouplaw12_built_l1_b at h
   show CJ _ _ _ _ _ (([(5, hd15.v), (7, .int .i64 x16)] : Slots) ++ forget _ _) (blk bs_0 117 [vs_0_L, .int .i64 x13] :: sl tyU hd15.v x14 :: _)
   refine lC del1 fun hlen17 => CJ_seq <| sR <| oM rfl rfl <| oP (P_gtr (a := x16) (b := (0 : Int)) rfl rfl) rfl <| nT <| CJ_condP rfl bT_dec (fun hg2 => ?_) (fun hg2 => ?_)
   ·
    replace h := ite_t hg2 h
    refine kT <| CJ_seq <| CJ_block <| sR <| oM rfl rfl <| oM rfl rfl ?_
    obtain ⟨r18, hr19, h⟩ := bind_e h
    refine oO <| O_call (L_volumegroupmake_Src_N rs_0_L hr19) rfl Try.call28 (Dels.cons del0 (Dels.cons del1 Dels.nil)) rfl fun _ _ => ?_
    obtain ⟨hg3, h⟩ := grd_Ie h
    refine oP (P_add (a := (1 : Int)) (b := r18.1) rfl rfl hg3) rfl <| oM rfl rfl <| oM rfl rfl ?_
    obtain ⟨r20, hr21, h⟩ := bind_e h
    refine oO <| O_call (L_volumegroupmake_Src_Word rs_0_L (Reads.sl _ _ _) hr21) rfl Try.call22 (Dels.cons del0 (Dels.cons del0 (Dels.cons del1 Dels.nil))) rfl fun _ _ => ?_
    obtain ⟨r22, hr23, h⟩ := bind_e h
    refine oO <| O_call (L_volumegroupref12_Prepared (Reads.sl _ _ _) hr23) rfl Try.call35 (Dels.cons del3 Dels.nil) rfl fun X24 _ => oM rfl rfl <| oP (P_extract (v := X24.v) rfl rfl) rfl <| oP (P_extract rfl rfl) rfl <| oA rfl rfl <| oA rfl rfl <| nT <| sR <| oM rfl rfl <| oP (P_eql (a := r22.2) (b := (0 : Int)) rfl rfl) rfl <| nT <| CJ_condP rfl bT_dec (fun hg4 => ?_) (fun hg4 => ?_)
    ·
     replace h := ite_t hg4 h
     refine sR <| oM rfl rfl <| oA rfl rfl <| nT <| sR <| oM rfl rfl ?_
     obtain ⟨r26, hr27, h⟩ := bind_e h
     refine oO <| O_call (L_volumegroupmake_Src_N rs_0_L hr27) rfl Try.call28 (Dels.cons del2 (Dels.cons del2 Dels.nil)) rfl fun _ _ => oP (P_gtr (a := r26.1) (b := (0 : Int)) rfl rfl) rfl <| nT <| CJ_condP rfl bT_dec (fun hg5 => ?_) (fun hg5 => ?_)
     ·
      replace h := ite_t hg5 h
      refine CJ_region <| oM rfl rfl <| oM rfl rfl ?_
      obtain ⟨hg6, h⟩ := grd_de h
      refine oV (V_index (i := 1) rfl rfl rfl hg6 foc3 (Reads.sl _ _ _) Try.runUnderlying29 Try.sizeOf39) rfl <| oV (V_loadE rfl rfl hg6 foc3 (Reads.sl _ _ _) rfl rfl Try.isAgg39) rfl ?_
      obtain ⟨hg7, h⟩ := grd_de h
      refine oV (V_index (i := 0) rfl rfl rfl hg7 foc3 (Reads.sl _ _ _) Try.runUnderlying29 Try.sizeOf39) rfl <| oO <| O_storeE (x' := (r22.1.getD 1 0)) rfl rfl rfl hg7 foc3 rfl rfl rfl Try.sizeOf39 <| RJ_nil <| QJ_block_normal <| QJ_then <| CJ_region <| oM rfl rfl ?_
      obtain ⟨hg8, h⟩ := grd_Ie h
      exact oP (P_sub (a := x16) (b := (1 : Int)) rfl rfl hg8) rfl <| oA rfl rfl <| RJ_nil <| nR ⟨n, r26.2, (r22.1.set 0 (r22.1.getD 1 0)), (x16 - (1 : Int)), X24⟩ h ⟨rfl, rfl, True.intro⟩ (t0_ (t2_ (t0_ (t1_ (eD eR)))))
     ·
      replace h := ite_f hg5 h
      refine CJ_skip <| QJ_block_normal <| QJ_then <| CJ_region <| oM rfl rfl ?_
      obtain ⟨hg9, h⟩ := grd_Ie h
      exact oP (P_sub (a := x16) (b := (1 : Int)) rfl rfl hg9) rfl <| oA rfl rfl <| RJ_nil <| nR ⟨n, r26.2, r22.1, (x16 - (1 : Int)), X24⟩ h ⟨rfl, rfl, True.intro⟩ (t0_ (t2_ (t0_ (t1_ (eD eR)))))
    ·
     replace h := ite_f hg4 h
     refine CJ_skip <| QJ_block_normal <| QJ_then <| CJ_region <| oM rfl rfl ?_
     obtain ⟨hg10, h⟩ := grd_Ie h
     exact oP (P_sub (a := x16) (b := (1 : Int)) rfl rfl hg10) rfl <| oA rfl rfl <| RJ_nil <| nR ⟨n, r20.2, x14, (x16 - (1 : Int)), hd15⟩ h ⟨rfl, rfl, True.intro⟩ (t2_ (t0_ (t1_ (t1_ (eD eR)))))
   ·
    replace h := ite_f hg2 h
    exact CJ_exit <| QJ_then_exit <| QJ_round_exit <| QJ_block_here <| cR ⟨(x14, x13), hd15⟩ (Option.some.inj h).symm ⟨rfl, True.intro⟩ (t1_ eR)
 ·
  rintro ⟨a12, hd10⟩ hy28
  replace h := bindK_at hK7 hy28
  show CJ _ _ _ _ _ (([(5, hd10.v)] : Slots) ++ forget _ _) (sl tyU hd10.v a12.1 :: blk bs_0 117 [vs_0_L, .int .i64 a12.2] :: _)
  refine lC del0 fun hlen29 => CJ_seq <| sR <| oM rfl rfl ?_
  obtain ⟨r30, hr31, h⟩ := bind_e h
  refine oO <| O_call (L_volumegroupmake_Src_N rs_0_L hr31) rfl Try.call28 (Dels.cons del1 (Dels.cons del1 Dels.nil)) rfl fun _ _ => nT <| CJ_block <| sR <| oP (P_eql (a := r30.1) (b := (0 : Int)) rfl rfl) rfl <| oA rfl rfl <| nT <| CJ_condP rfl bT_dec (fun hg11 => ?_) (fun hg11 => ?_)
  ·
   replace h := ite_t hg11 h
   refine AJ_start [As_0_L, sl tyU hd10.v a12.1, sl tyS (.slice (some ⟨b3, 0, none⟩) 5 5) ([(ByteArray.mk #[]), (ByteArray.mk #[97]), (ByteArray.mk #[101, 105, 103, 104, 116, 32, 98, 121]), (ByteArray.mk #[115, 111, 109, 101, 32, 108, 111, 110, 103, 101, 114, 32, 116, 101, 120, 116, 32, 111, 102, 32, 116, 104, 101, 32, 103, 114, 111, 117, 112]), (ByteArray.mk #[118, 103, 32, 123, 32, 115, 101, 113, 32, 61, 32, 49, 32, 125])])] 2048 (by kernel_rfl) rfl <| aN 0 1 rfl rfl (P_move rfl) rfl <| aN 1 3 rfl rfl (P_move rfl) rfl <| aN 2 7 rfl rfl (P_move rfl) rfl <| aN 6 71 rfl rfl (P_move rfl) rfl ?_
   obtain ⟨r32, hr33, h⟩ := bind_e h
   refine AJ_op 3 79 rfl (by kernel_rfl) rfl (GY_none rfl) <| O_call (L_volumegroupmake_Src_N rs_0_L hr33) rfl Try.call28 (Dels.cons del0 (Dels.cons del0 Dels.nil)) rfl fun _ _ => ⟨fun _ => (t1_ (t1_ (t1_ Ent.done))), ?_⟩
   obtain ⟨hg12, h⟩ := grd_de h
   refine aV 4 95 rfl rfl (GY_none rfl) (t1_ (t1_ (t1_ Ent.done))) (V_index (i := (r32.1).toNat) rfl rfl (Int.toNat_of_nonneg (hg12.1)).symm (by omega) foc1 (Reads.sl _ _ _) Try.runUnderlying29 Try.sizeOf39) rfl <| aV 5 127 rfl rfl (GY_none rfl) (t1_ (t1_ (t1_ Ent.done))) (V_loadE rfl rfl (by omega) foc1 (Reads.sl _ _ _) rfl rfl Try.isAgg39) rfl ?_
   obtain ⟨r34, hr35, h⟩ := bind_e h
   refine AJ_op 7 255 rfl (by kernel_rfl) rfl (GY_none rfl) <| O_call (L_volumegroupmake_Src_N rs_0_L hr35) rfl Try.call28 (Dels.cons del0 (Dels.cons del0 Dels.nil)) rfl fun _ _ => ⟨fun _ => (t1_ (t1_ (t1_ Ent.done))), ?_⟩
   obtain ⟨hg13, h⟩ := grd_de h
   refine aN 8 511 rfl rfl (P_shl_u64 (a := (1 : UInt64)) (m := (r34.1).toNat) rfl rfl (Int.toNat_of_nonneg hg13).symm) rfl <| aN 9 1023 rfl rfl (P_xor_u64 (a := (a12.1.getD ((r32.1).toNat) 0)) (b := (shl_u64 (1 : UInt64) ((r34.1).toNat))) rfl rfl) rfl ?_
   obtain ⟨hg14, h⟩ := grd_de h
   refine aV 10 2047 rfl rfl (GY_none rfl) (t1_ (t1_ (t1_ Ent.done))) (V_index (i := (r32.1).toNat) rfl rfl (Int.toNat_of_nonneg (hg14.1)).symm (by omega) foc1 (Reads.sl _ _ _) Try.runUnderlying29 Try.sizeOf39) rfl <| AJ_op 11 4095 rfl (by kernel_rfl) rfl (GY_none rfl) <| O_storeE (x' := ((a12.1.getD ((r32.1).toNat) 0) ^^^ (shl_u64 (1 : UInt64) ((r34.1).toNat)))) rfl rfl rfl (by omega) foc2 rfl rfl rfl Try.sizeOf39 <| ⟨fun h => absurd h (by decide), ?_⟩
   refine AJ_done (by kernel_rfl) <| QJ_block_normal <| QJ_then <| sR <| oM rfl rfl <| oA rfl rfl <| nT <| CJ_ret ?_
   cases h
   exact fE (res1 Try.results26 rfl) hd10 (t0_ (t0_ (t0_ (eD eR))))
  ·
   replace h := ite_f hg11 h
   refine sR <| oP (P_eql (a := r30.1) (b := (1 : Int)) rfl rfl) rfl <| oA rfl rfl <| nT <| CJ_condP rfl bT_dec (fun hg15 => ?_) (fun hg15 => ?_)
   ·
    replace h := ite_t hg15 h
    refine CJ_region <| oM rfl rfl <| oM rfl rfl ?_
    obtain ⟨r36, hr37, h⟩ := bind_e h
    refine oO <| O_call (L_volumegroupmake_Src_N rs_0_L hr37) rfl Try.call28 (Dels.cons del0 (Dels.cons del0 Dels.nil)) rfl fun _ _ => oM rfl rfl ?_
    obtain ⟨r38, hr39, h⟩ := bind_e h
    refine oO <| O_call (L_volumegroupmake_Src_Raw rs_0_L hr39) rfl Try.call63 (Dels.cons del0 (Dels.cons del0 Dels.nil)) rfl fun _ _ => oP (P_conv_u64 (a := r38.1) rfl Try.runUnderlying3 Try.runUnderlying39) rfl <| oP (P_mul_u64 (a := (to_u64 r38.1)) (b := (11400714819323198485 : UInt64)) rfl rfl) rfl ?_
    obtain ⟨hg16, h⟩ := grd_de h
    refine oV (V_index (i := (r36.1).toNat) rfl rfl (Int.toNat_of_nonneg (hg16.1)).symm (by omega) foc2 (Reads.sl _ _ _) Try.runUnderlying29 Try.sizeOf39) rfl <| oO <| O_storeE (x' := ((to_u64 r38.1) * (11400714819323198485 : UInt64))) rfl rfl rfl (by omega) foc2 rfl rfl rfl Try.sizeOf39 <| RJ_nil <| QJ_block_normal <| QJ_then <| sR <| oM rfl rfl <| oA rfl rfl <| nT <| CJ_ret ?_
    cases h
    exact fE (res1 Try.results26 rfl) hd10 (t0_ (t0_ (t0_ (eD eR))))
   ·
    replace h := ite_f hg15 h
    refine CJ_skip <| QJ_block_normal <| QJ_then <| sR <| oM rfl rfl <| oA rfl rfl <| nT <| CJ_ret ?_
    cases h
    exact fE (res1 Try.results26 rfl) hd10 (t0_ (t0_ (t0_ (eD eR))))
def volumegrouplaw12_RingClears (l : List Int) : Option (Bool) :=
  Option.bind (volumegroupmake_New l) fun r2 =>
  Option.bind (volumegroupmake_Src_Range r2.1 (((r2.2 : Nat) : Int)) (4 : Int) (16 : Int)) fun r7 =>
  Option.bind (volumegrouplaw12_built r2.1 r7.2 r7.1) fun r9 =>
  Option.bind (volumegrouplaw12_area r9.1) fun r13 =>
  Option.elim r13.2 (
    some false) fun o19 =>
  Option.elim r13.1 (
    none) fun o21 =>
  Option.bind (ring_Clear o19 o21) fun r22 =>
  if (r22.1 ≠ (0 : Int)) then
    some false
  else
    grd (decide (0 < r9.1.length)) <|
    Option.bind (ring_Read o19 r22.2) fun r27 =>
    if (((imC r22.2 (0 : Int)) ≠ (0 : Int)) ∨ (r27.2 ≠ (12 : Int))) then
      some false
    else
      Option.bind (volumegroupref02_Same ((imL r22.2 (0 : Int))) ((r9.1.set 0 (0 : UInt64)))) fun r34 =>
      if (¬ r34 = true) then
        some false
      else
        if (((r22.2.log.length : Nat) : Int) ≠ (0 : Int)) then
          some false
        else
          Option.bind (ring_Format o19 r22.2) fun r36 =>
          if (r36.1 ≠ (0 : Int)) then
            some false
          else
            Option.bind (ring_Seqs o19 r36.2) fun r38 =>
            if (((r38.2.2 = (0 : Int)) ∧ (r38.1 = (0 : Int))) ∧ (r38.2.1 = (0 : Int))) then
              if (((r36.2.log.length : Nat) : Int) = (0 : Int)) then
                Option.bind (volumegrouplaw12_awake) fun r48 =>
                some r48
              else
                some false
            else
              some false
theorem L_volumegrouplaw12_RingClears {W : World} {Al : HP} {vl : Value} {l : List Int} {r : Bool} (rl : Reads Al tyI vl l) (h : volumegrouplaw12_RingClears l = some r) :
    CSpec Try.prog W 7 [vl] [Al] (fun x : Unit => .bool r) (fun _ => True) (fun x F => Al :: F) := by
 refine CSpec.of_body Try.func7 rfl Try.ntmps7 rfl fun F => ?_
 show CJ _ _ _ _ _ _ (_ :: F)
 unfold volumegrouplaw12_RingClears at h
 refine CJ_pure (len_of rl del0) fun hlen1 => sR <| oA rfl rfl <| nT <| sR <| oM rfl rfl ?_
 obtain ⟨r2, hr3, h⟩ := bind_e h
 refine oO <| O_call (L_volumegroupmake_New rl hr3) rfl Try.call19 (Dels.cons del0 Dels.nil) rfl fun X4 _ => RJ_ent (t2_ eR) <| RJ_pur fun hpur_q6 => oA rfl rfl <| nT <| sR <| oM rfl rfl <| oM rfl rfl ?_
 obtain ⟨r7, hr8, h⟩ := bind_e h
 refine oO <| O_call (L_volumegroupmake_Src_Range hpur_q6 hr8) rfl Try.call20 (Dels.cons del1 (Dels.cons del0 Dels.nil)) rfl fun _ _ => ?_
 obtain ⟨r9, hr10, h⟩ := bind_e h
 refine oO <| O_call (L_volumegrouplaw12_built hpur_q6 hr10) rfl Try.call26 (Dels.cons del0 (Dels.cons del0 Dels.nil)) rfl fun X11 _ => oA rfl rfl <| nT <| sR <| oM rfl rfl ?_
 obtain ⟨r13, hr14, h⟩ := bind_e h
 refine oO <| O_call (L_volumegrouplaw12_area (Reads.sl _ _ _) hr14) rfl Try.call15 (Dels.cons del2 Dels.nil) rfl fun X15 _ => oM rfl rfl <| oP (P_extract rfl rfl) rfl <| oP (P_extract rfl rfl) rfl <| oA rfl rfl <| oA rfl rfl <| nT <| CJ_seq <| sR <| oM rfl rfl ?_
 rcases opt_e h with ⟨ht18, h⟩ | ⟨o19, ht18, h⟩
 ·
  rw [ht18]
  refine RJ_ent (t0_ (t0_ (t1_ (t1_ (eD eR))))) <| oP (P_eqlIN rfl Try.underlying26) rfl <| oM rfl rfl <| RJ_gn (GY_no rfl rfl rfl rfl) rfl rfl <| RJ_gn (GY_no rfl rfl rfl rfl) rfl rfl <| RJ_gn (GY_no rfl rfl rfl rfl) rfl rfl <| oP (P_pickT rfl rfl rfl) rfl <| nT <| CJ_condT rfl rfl <| sR <| oA rfl rfl <| nT <| CJ_ret <| QJ_then_ret ?_
  cases h
  exact fE (res1 Try.results7 rfl) () (t3_ (eD (eD (eD eR))))
 ·
  rw [ht18]
  refine RJ_ent (Ent.takeC (A' := DevP X15.1 o19 X15.2) del2 rfl eR) <| oP (P_eqlIfN rfl rfl Try.underlying26) rfl <| oM rfl rfl <| gP (GY_yes rfl rfl rfl rfl) (P_move rfl) rfl ?_
  rcases opt_e h with ⟨ht20, h⟩ | ⟨o21, ht20, h⟩
  ·
   rw [ht20]
   exact RJ_ent (t0_ (t0_ (t1_ (t1_ (eD eR))))) <| none_e h
  ·
   rw [ht20]
   refine RJ_ent (Ent.takeC (A' := Arr X15.1 o21) del2 rfl eR) ?_
   obtain ⟨r22, hr23, h⟩ := bind_e h
   refine RJ_gy (GY_yes rfl rfl rfl rfl) <| O_call (L_ring_Clear hr23) rfl Try.call29 (Dels.cons del1 (Dels.cons del0 Dels.nil)) rfl fun _ _ => gP (GY_yes rfl rfl rfl rfl) (P_neq (a := r22.1) (b := (0 : Int)) rfl rfl) rfl <| oP (P_pickF rfl rfl rfl) rfl <| nT <| CJ_condP rfl bT_dec (fun hg1 => ?_) (fun hg1 => ?_)
   ·
    replace h := ite_t hg1 h
    refine sR <| oA rfl rfl <| nT <| CJ_ret <| QJ_then_ret ?_
    cases h
    exact fE (res1 Try.results7 rfl) () (t4_ (eD (eD (eD (eD eR)))))
   ·
    replace h := ite_f hg1 h
    refine kT <| sR <| oM rfl rfl <| oO <| O_call (c_ImageD) rfl Try.call30 (Dels.cons del1 Dels.nil) rfl fun X24 _ => RJ_pure (len_of (Reads.sl _ _ _) del0) fun hlen26 => oM rfl rfl <| oP (P_extract (v := (Sl3.v X24)) rfl rfl) rfl <| oP (P_extract rfl rfl) rfl <| oA rfl rfl <| oA rfl rfl <| nT <| sR <| oM rfl rfl ?_
    obtain ⟨hg2, h⟩ := grd_de h
    refine oV (V_index (i := 0) rfl rfl rfl hg2 foc3 (Reads.sl _ _ _) Try.runUnderlying29 Try.sizeOf39) rfl <| oO <| O_storeE (x' := (0 : UInt64)) rfl rfl rfl hg2 foc3 rfl rfl rfl Try.sizeOf39 <| nT <| sR <| oM rfl rfl ?_
    obtain ⟨r27, hr28, h⟩ := bind_e h
    refine oO <| O_call (L_ring_Read hr28) rfl Try.call18 (Dels.cons del2 (Dels.cons del1 Dels.nil)) rfl fun _ _ => oM rfl rfl <| oP (P_extract rfl rfl) rfl <| oP (P_extract rfl rfl) rfl <| oO <| O_alloc Try.zeroValue34 rfl rfl fun b29 => oO <| O_storeN rfl rfl foc0 Try.sizeOf34 rfl rfl rfl <| oA rfl rfl <| RJ_nil <| QJ_ent (t1_ (t1_ (t1_ (t1_ (t2_ (eD (eD eR))))))) <| QJ_then <| CJ_seq <| sR <| oM rfl rfl <| oP (P_neq (a := (imC r22.2 (0 : Int))) (b := (0 : Int)) rfl rfl) rfl <| oM rfl rfl <| RJ_mbF rfl rfl rfl (fun hG30 => have hP31 : ¬ ((imC r22.2 (0 : Int)) ≠ (0 : Int)) := nP (bT_dec) hG30; VJ_P (P_move rfl)) <| RJ_mbF rfl rfl rfl (fun hG32 => have hP33 : ¬ ((imC r22.2 (0 : Int)) ≠ (0 : Int)) := nP (bT_dec) hG32; VJ_P (P_neq (a := r27.2) (b := (12 : Int)) (mbx hG32 rfl) rfl)) <| oP (P_pickOr rfl rfl (fun hh => mbx (not_f hh) rfl)) rfl <| oM rfl rfl <| RJ_splitP 50 rfl (bT_or bT_dec bT_dec) (fun hg3B hg3 => ?_) (fun hg3B hg3 => ?_)
    ·
     replace h := ite_t hg3 h
     refine RJ_gn (GY_no rfl rfl rfl hg3B) rfl rfl <| RJ_gn (GY_no rfl rfl rfl hg3B) rfl rfl <| RJ_gn (GY_no rfl rfl rfl hg3B) rfl rfl <| RJ_gn (GY_no rfl rfl rfl hg3B) rfl rfl <| oP (P_pickT rfl hg3B rfl) rfl <| oM rfl rfl <| RJ_gn (GY_no rfl rfl rfl rfl) rfl rfl <| RJ_gn (GY_no rfl rfl rfl rfl) rfl rfl <| RJ_gn (GY_no rfl rfl rfl rfl) rfl rfl <| oP (P_pickT rfl rfl rfl) rfl <| oM rfl rfl <| RJ_gn (GY_no rfl rfl rfl rfl) rfl rfl <| RJ_gn (GY_no rfl rfl rfl rfl) rfl rfl <| RJ_gn (GY_no rfl rfl rfl rfl) rfl rfl <| oP (P_pickT rfl rfl rfl) rfl <| nT <| CJ_condT rfl rfl <| sR <| oA rfl rfl <| nT <| CJ_ret <| QJ_then_ret ?_
     cases h
     exact fE (res1 Try.results7 rfl) () (t4_ (eD (eD (eD (eD eR)))))
    ·
     replace h := ite_f hg3 h
     refine gP (GY_yes rfl rfl rfl hg3B) (P_move rfl) rfl <| gP (GY_yes rfl rfl rfl hg3B) (P_move rfl) rfl ?_
     obtain ⟨r34, hr35, h⟩ := bind_e h
     refine RJ_gy (GY_yes rfl rfl rfl hg3B) <| O_call (L_volumegroupref02_Same (Reads.sl _ _ _) (Reads.sl _ _ _) hr35) rfl Try.call31 (Dels.cons del2 (Dels.cons del2 Dels.nil)) rfl fun _ _ => gP (GY_yes rfl rfl rfl hg3B) (P_not rfl) rfl <| oP (P_pickF rfl hg3B rfl) rfl <| oM rfl rfl <| RJ_splitP 56 rfl (bT_not Iff.rfl) (fun hg4B hg4 => ?_) (fun hg4B hg4 => ?_)
     ·
      replace h := ite_t hg4 h
      refine RJ_gn (GY_no rfl rfl rfl hg4B) rfl rfl <| RJ_gn (GY_no rfl rfl rfl hg4B) rfl rfl <| RJ_gn (GY_no rfl rfl rfl hg4B) rfl rfl <| oP (P_pickT rfl hg4B rfl) rfl <| oM rfl rfl <| RJ_gn (GY_no rfl rfl rfl rfl) rfl rfl <| RJ_gn (GY_no rfl rfl rfl rfl) rfl rfl <| RJ_gn (GY_no rfl rfl rfl rfl) rfl rfl <| oP (P_pickT rfl rfl rfl) rfl <| nT <| CJ_condT rfl rfl <| sR <| oA rfl rfl <| nT <| CJ_ret <| QJ_then_ret ?_
      cases h
      exact fE (res1 Try.results7 rfl) () (t4_ (eD (eD (eD (eD eR)))))
     ·
      replace h := ite_f hg4 h
      refine gP (GY_yes rfl rfl rfl hg4B) (P_move rfl) rfl <| RJ_gy (GY_yes rfl rfl rfl hg4B) <| O_call (c_Unflushed) rfl Try.call32 (Dels.cons del3 Dels.nil) rfl fun _ _ => gP (GY_yes rfl rfl rfl hg4B) (P_neq (a := ((r22.2.log.length : Nat) : Int)) (b := (0 : Int)) rfl rfl) rfl <| oP (P_pickF rfl hg4B rfl) rfl <| oM rfl rfl <| RJ_splitP 61 rfl bT_dec (fun hg5B hg5 => ?_) (fun hg5B hg5 => ?_)
      ·
       replace h := ite_t hg5 h
       refine RJ_gn (GY_no rfl rfl rfl hg5B) rfl rfl <| RJ_gn (GY_no rfl rfl rfl hg5B) rfl rfl <| RJ_gn (GY_no rfl rfl rfl hg5B) rfl rfl <| oP (P_pickT rfl hg5B rfl) rfl <| nT <| CJ_condT rfl rfl <| sR <| oA rfl rfl <| nT <| CJ_ret <| QJ_then_ret ?_
       cases h
       exact fE (res1 Try.results7 rfl) () (t4_ (eD (eD (eD (eD eR)))))
      ·
       replace h := ite_f hg5 h
       refine gP (GY_yes rfl rfl rfl hg5B) (P_move rfl) rfl ?_
       obtain ⟨r36, hr37, h⟩ := bind_e h
       refine RJ_gy (GY_yes rfl rfl rfl hg5B) <| O_call (L_ring_Format hr37) rfl Try.call33 (Dels.cons del3 (Dels.cons del0 Dels.nil)) rfl fun _ _ => gP (GY_yes rfl rfl rfl hg5B) (P_neq (a := r36.1) (b := (0 : Int)) rfl rfl) rfl <| oP (P_pickF rfl hg5B rfl) rfl <| nT <| CJ_condP rfl bT_dec (fun hg6 => ?_) (fun hg6 => ?_)
       ·
        replace h := ite_t hg6 h
        refine sR <| oA rfl rfl <| nT <| CJ_ret <| QJ_then_ret ?_
        cases h
        exact fE (res1 Try.results7 rfl) () (t4_ (eD (eD (eD (eD eR)))))
       ·
        replace h := ite_f hg6 h
        refine kT <| sR <| oM rfl rfl ?_
        obtain ⟨r38, hr39, h⟩ := bind_e h
        refine oO <| O_call (L_ring_Seqs hr39) rfl Try.call25 (Dels.cons del0 (Dels.cons del0 Dels.nil)) rfl fun _ _ => oM rfl rfl <| oP (P_extract rfl rfl) rfl <| oP (P_extract rfl rfl) rfl <| oP (P_extract rfl rfl) rfl <| oA rfl rfl <| oA rfl rfl <| oA rfl rfl <| nT <| sR <| oM rfl rfl <| oP (P_eql (a := r38.2.2) (b := (0 : Int)) rfl rfl) rfl <| oM rfl rfl <| RJ_mbT rfl rfl rfl (fun hG40 => have hP41 : (r38.2.2 = (0 : Int)) := (bT_dec).1 hG40; VJ_P (P_move rfl)) <| RJ_mbT rfl rfl rfl (fun hG42 => have hP43 : (r38.2.2 = (0 : Int)) := (bT_dec).1 hG42; VJ_P (P_eql (a := r38.1) (b := (0 : Int)) (mbx hG42 rfl) rfl)) <| oP (P_pickAnd rfl (fun hh => mbx hh rfl) rfl) rfl <| oM rfl rfl <| RJ_mbT rfl rfl rfl (fun hG44 => have hP45 : ((r38.2.2 = (0 : Int)) ∧ (r38.1 = (0 : Int))) := ((bT_and bT_dec bT_dec)).1 hG44; VJ_P (P_move rfl)) <| RJ_mbT rfl rfl rfl (fun hG46 => have hP47 : ((r38.2.2 = (0 : Int)) ∧ (r38.1 = (0 : Int))) := ((bT_and bT_dec bT_dec)).1 hG46; VJ_P (P_eql (a := r38.2.1) (b := (0 : Int)) (mbx hG46 rfl) rfl)) <| oP (P_pickAnd rfl (fun hh => mbx hh rfl) rfl) rfl <| oM rfl rfl <| RJ_splitP 82 rfl (bT_and (bT_and bT_dec bT_dec) bT_dec) (fun hg7B hg7 => ?_) (fun hg7B hg7 => ?_)
        ·
         replace h := ite_t hg7 h
         refine gP (GY_yes rfl rfl rfl hg7B) (P_move rfl) rfl <| RJ_gy (GY_yes rfl rfl rfl hg7B) <| O_call (c_Unflushed) rfl Try.call32 (Dels.cons del1 Dels.nil) rfl fun _ _ => gP (GY_yes rfl rfl rfl hg7B) (P_eql (a := ((r36.2.log.length : Nat) : Int)) (b := (0 : Int)) rfl rfl) rfl <| oP (P_pickT rfl hg7B rfl) rfl <| oM rfl rfl <| RJ_splitP 87 rfl bT_dec (fun hg8B hg8 => ?_) (fun hg8B hg8 => ?_)
         ·
          replace h := ite_t hg8 h
          obtain ⟨r48, hr49, h⟩ := bind_e h
          refine RJ_gy (GY_yes rfl rfl rfl hg8B) <| O_call (L_volumegrouplaw12_awake hr49) rfl Try.call14 Dels.nil rfl fun _ _ => oP (P_pickT rfl hg8B rfl) rfl <| oA rfl rfl <| nT <| CJ_ret ?_
          cases h
          exact fE (res1 Try.results7 rfl) () (t4_ (eD (eD (eD (eD eR)))))
         ·
          replace h := ite_f hg8 h
          refine RJ_gn (GY_no rfl rfl rfl hg8B) rfl rfl <| oP (P_pickF rfl hg8B rfl) rfl <| oA rfl rfl <| nT <| CJ_ret ?_
          cases h
          exact fE (res1 Try.results7 rfl) () (t4_ (eD (eD (eD (eD eR)))))
        ·
         replace h := ite_f hg7 h
         refine RJ_gn (GY_no rfl rfl rfl hg7B) rfl rfl <| RJ_gn (GY_no rfl rfl rfl hg7B) rfl rfl <| RJ_gn (GY_no rfl rfl rfl hg7B) rfl rfl <| oP (P_pickF rfl hg7B rfl) rfl <| oM rfl rfl <| RJ_gn (GY_no rfl rfl rfl rfl) rfl rfl <| oP (P_pickF rfl rfl rfl) rfl <| oA rfl rfl <| nT <| CJ_ret ?_
         cases h
         exact fE (res1 Try.results7 rfl) () (t4_ (eD (eD (eD (eD eR)))))
end Go.Proofs
namespace Go.Proofs
open Go.VG
theorem new_ok (l : List Int) : ∃ L, volumegroupmake_New l = some (L, 0) ∧ L.length ≤ 1000 := by
  unfold volumegroupmake_New
  by_cases h : (1000 : Int) < ((l.length : Nat) : Int)
  · rw [if_pos h]; exact ⟨_, rfl, by simp; omega⟩
  · rw [if_neg h]; exact ⟨_, rfl, by omega⟩
theorem raw_ok {L : List Int} {a : Int} (hL : L.length ≤ 1000) (h : 0 ≤ a ∧ a ≤ 1000) : ∃ v b, volumegroupmake_Src_Raw L a = some (v, b) ∧ 0 ≤ b ∧ b ≤ 1000 := by
  unfold volumegroupmake_Src_Raw
  by_cases h1 : ((L.length : Nat) : Int) ≤ a
  · rw [if_pos h1]; exact ⟨_, _, rfl, h.1, h.2⟩
  · rw [if_neg h1, grd_t (inI64_of (by omega)), grd_t (inI64_of (by omega)), grd_t (decide_eq_true (by omega))]
    exact ⟨_, _, rfl, by omega, by omega⟩
theorem srcN_ok {L : List Int} {a n : Int} (hL : L.length ≤ 1000) (h : 0 ≤ a ∧ a ≤ 1000) (hn : n ≤ 1000000000) : ∃ v b, volumegroupmake_Src_N L a n = some (v, b) ∧ (0 ≤ b ∧ b ≤ 1000) ∧ 0 ≤ v ∧ (1 ≤ n → v < n) ∧ (n < 1 → v = 0) := by
  unfold volumegroupmake_Src_N
  by_cases h1 : n < 1
  · rw [if_pos h1]; exact ⟨_, _, rfl, h, Int.le_refl _, fun x => by omega, fun _ => rfl⟩
  · rw [if_neg h1]
    obtain ⟨v, b, h2, h3⟩ := raw_ok hL h
    rw [h2]; simp only [Option.bind_some]
    have h4 := Int.natAbs_tmod v n
    have h5 := Nat.mod_lt v.natAbs (show 0 < n.natAbs by omega)
    by_cases h6 : v.tmod n < 0
    · rw [if_pos h6, grd_t (inI64_of (by omega))]
      exact ⟨_, _, rfl, h3, by omega, fun _ => by omega, fun x => by omega⟩
    · rw [if_neg h6]
      exact ⟨_, _, rfl, h3, by omega, fun _ => by omega, fun x => by omega⟩
theorem srcRange_ok {L : List Int} {a lo hi : Int} (hL : L.length ≤ 1000) (h : 0 ≤ a ∧ a ≤ 1000) (h1 : -1000000 ≤ lo ∧ lo ≤ hi ∧ hi ≤ 1000000) : ∃ v b, volumegroupmake_Src_Range L a lo hi = some (v, b) ∧ (0 ≤ b ∧ b ≤ 1000) ∧ lo ≤ v ∧ v ≤ hi := by
  unfold volumegroupmake_Src_Range
  obtain ⟨v, b, h2, h3, h4, h5, -⟩ := srcN_ok (n := hi - lo + 1) hL h (by omega)
  have := h5 (by omega)
  rw [grd_t (inI64_of (by omega)), grd_t (inI64_of (by omega)), h2]; simp only [Option.bind_some]
  rw [grd_t (inI64_of (by omega))]
  exact ⟨_, _, rfl, h3, by omega, by omega⟩
theorem srcWord_ok {L : List Int} {a : Int} {l : List ByteArray} (hL : L.length ≤ 1000) (h : 0 ≤ a ∧ a ≤ 1000) (hl : 1 ≤ l.length ∧ l.length ≤ 1000) : ∃ (v : Nat) (b : Int), volumegroupmake_Src_Word L a l = some (l.getD v ByteArray.empty, b) ∧ (0 ≤ b ∧ b ≤ 1000) ∧ v < l.length := by
  unfold volumegroupmake_Src_Word
  obtain ⟨v, b, h2, h3, h4, h5, -⟩ := srcN_ok (n := ((l.length : Nat) : Int)) hL h (by omega)
  have := h5 (by omega)
  rw [h2]; simp only [Option.bind_some]
  rw [grd_pos (decide_eq_true (by omega))]
  exact ⟨v.toNat, b, rfl, h3, by omega⟩
theorem built_l1 {L : List Int} {n : Nat} (hL : L.length ≤ 1000) (hn : 4 ≤ n ∧ n ≤ 1000) : ∀ (N : Nat) (p : Int) (X : List UInt64) (c : Int), c.toNat < N → c ≤ 100 → (0 ≤ p ∧ p ≤ 1000) → X.length = n →
    ∃ X' p', volumegrouplaw12_built_l1 L N p X c = some (X', p') ∧ X'.length = n ∧ 0 ≤ p' ∧ p' ≤ 1000
  | 0, _, _, _, h, _, _, _ => absurd h (by omega)
  | N + 1, p, X, c, h, hc, hp, hX => by
    have e : volumegrouplaw12_built_l1 L (N + 1) p X c = volumegrouplaw12_built_l1_b L (volumegrouplaw12_built_l1 L N) p X c := rfl
    rw [e]
    unfold volumegrouplaw12_built_l1_b
    by_cases h0 : 0 < c
    · rw [if_pos h0]
      obtain ⟨v, b, h1, hb, hv0, hv1, -⟩ := srcN_ok (L := L) (a := p) (n := 1048575) hL hp (by omega)
      have hv2 := hv1 (by omega)
      rw [h1]; simp only [Option.bind_some]
      rw [grd_pos (inI64_of (by omega))]
      obtain ⟨k, b2, h2, hb2, _⟩ := srcWord_ok (L := L) (a := b) (l := [(ByteArray.mk #[]), (ByteArray.mk #[97]), (ByteArray.mk #[101, 105, 103, 104, 116, 32, 98, 121]), (ByteArray.mk #[115, 111, 109, 101, 32, 108, 111, 110, 103, 101, 114, 32, 116, 101, 120, 116, 32, 111, 102, 32, 116, 104, 101, 32, 103, 114, 111, 117, 112]), (ByteArray.mk #[118, 103, 32, 123, 32, 115, 101, 113, 32, 61, 32, 49, 32, 125])]) hL hb (by simp)
      rw [h2]; simp only [Option.bind_some]
      generalize List.getD [_, _, _, _, _] k ByteArray.empty = x
      subst hX
      obtain ⟨out, e, t, p1, _, _, _, p5, _⟩ := prep_agree (w := X) hn.1 hn.2 (1 + v) x
      rw [p1]; simp only [Option.bind_some]
      by_cases he : e = 0
      · rw [if_pos he]
        have ho := (p5 he).1
        obtain ⟨v3, b3, h3, hb3, _⟩ := srcN_ok (L := L) (a := b2) (n := 4) hL hb2 (by omega)
        rw [h3]; simp only [Option.bind_some]
        by_cases h4 : 0 < v3
        · rw [if_pos h4, grd_pos (decide_eq_true (by omega)), grd_pos (decide_eq_true (by omega)), grd_pos (inI64_of (by omega))]
          exact built_l1 hL hn N b3 _ (c - 1) (by omega) (by omega) hb3 (by rw [List.length_set, ho])
        · rw [if_neg h4, grd_pos (inI64_of (by omega))]
          exact built_l1 hL hn N b3 _ (c - 1) (by omega) (by omega) hb3 ho
      · rw [if_neg he, grd_pos (inI64_of (by omega))]
        exact built_l1 hL hn N b2 _ (c - 1) (by omega) (by omega) hb2 rfl
    · rw [if_neg h0]
      exact ⟨X, p, rfl, hX, hp.1, hp.2⟩
theorem built_ok {L : List Int} {n : Nat} {p : Int} (hL : L.length ≤ 1000) (hn : 4 ≤ n ∧ n ≤ 1000) (hp : 0 ≤ p ∧ p ≤ 1000) : ∃ X p', volumegrouplaw12_built L p (n : Int) = some (X, p') ∧ X.length = n ∧ 0 ≤ p' ∧ p' ≤ 1000 := by
  unfold volumegrouplaw12_built
  rw [grd_pos (decide_eq_true (by omega)), show ((n : Nat) : Int).toNat = n by omega]
  obtain ⟨v1, b1, h1, hb1, hv1, hw1, -⟩ := srcN_ok (L := L) (a := p) (n := 5) hL hp (by omega)
  have := hw1 (by omega)
  rw [h1]; simp only [Option.bind_some]
  have hF := fuel_big
  generalize FUEL = N at hF ⊢
  obtain ⟨X, b2, h2, hX, hb2⟩ := built_l1 (L := L) hL hn N b1 (List.replicate n 0) v1 (by omega) (by omega) hb1 (by simp)
  rw [h2]; simp only [Option.bind_some]
  obtain ⟨v3, b3, h3, hb3, hv3, hw3, -⟩ := srcN_ok (L := L) (a := b2) (n := 6) hL hb2 (by omega)
  rw [h3]; simp only [Option.bind_some]
  by_cases e0 : v3 = 0
  · rw [if_pos e0]
    obtain ⟨v4, b4, h4, hb4, hv4, hw4, -⟩ := srcN_ok (L := L) (a := b3) (n := (n : Int)) hL hb3 (by omega)
    have := hw4 (by omega)
    rw [h4]; simp only [Option.bind_some]
    rw [grd_pos (decide_eq_true (by omega))]
    obtain ⟨v5, b5, h5, hb5, hv5, _⟩ := srcN_ok (L := L) (a := b4) (n := 64) hL hb4 (by omega)
    rw [h5]; simp only [Option.bind_some]
    rw [grd_pos (decide_eq_true hv5), grd_pos (decide_eq_true (by omega))]
    exact ⟨_, b5, rfl, by rw [List.length_set, hX], hb5.1, hb5.2⟩
  · rw [if_neg e0]
    by_cases e1 : v3 = 1
    · rw [if_pos e1]
      obtain ⟨v4, b4, h4, hb4, hv4, hw4, -⟩ := srcN_ok (L := L) (a := b3) (n := 2) hL hb3 (by omega)
      have := hw4 (by omega)
      rw [h4]; simp only [Option.bind_some]
      obtain ⟨v5, b5, h5, hb5⟩ := raw_ok (L := L) (a := b4) hL hb4
      rw [h5]; simp only [Option.bind_some]
      rw [grd_pos (decide_eq_true (by omega))]
      exact ⟨_, b5, rfl, by rw [List.length_set, hX], hb5.1, hb5.2⟩
    · rw [if_neg e1]
      exact ⟨X, b3, rfl, hX, hb3.1, hb3.2⟩
theorem format_out {ns : List Nat} {K d n : Nat} {s : ArrS} (h : Lv ns K d n s) (hf : s.fuse = 0) (hK : K ≤ 800000) : ∃ u, ring_Format (Dk d n) s = some (0, u) ∧ Lv ns (K + 2) d n u ∧ now u d 0 = 0 ∧ now u d 1 = 0 := by
  have h4 := h.h4; have hb := h.hb
  unfold ring_Format
  rw [open_eq h.h4 h.hb]; simp only [Option.bind_some]
  rw [if_neg (by simp)]; simp only [Option.elim]
  rcases Dk.wr (v := 0) h.ok (by omega) h.dn h.hd h.hn (by omega) h.ms (k := 1) (by omega) with ⟨_, t, w1, W1⟩ | ⟨w1, _⟩
  rotate_left
  · omega
  have w1' : (Dk d n).wr s (1 : Int) 0 = some (0, t) := w1
  rw [w1']; simp only [Option.bind_some]
  rw [if_neg (by simp)]
  unfold ring_area_put
  have hmt : miss t d = false := by rw [W1.miss]; exact h.ms
  rcases Dk.wr (v := 0) W1.ok (by omega) W1.dn h.hd h.hn (by omega) hmt (k := 0) (by omega) with ⟨_, u, w2, W2⟩ | ⟨w2, _⟩
  rotate_left
  · have := W1.fuse; omega
  have w2' : (Dk d n).wr t (0 : Int) 0 = some (0, u) := w2
  rw [w2']; simp only [Option.bind_some]
  rw [if_neg (by simp)]
  obtain ⟨v, w3, W3⟩ := Dk.fl (n := n) W2.ok (by omega) W2.dn h.hd (by rw [W2.miss]; exact hmt)
  rw [w3]; simp only [Option.bind_some]
  refine ⟨v, rfl, ⟨W3.ok, W3.dn, h.hd, h.hn, h.h4, h.hb, by rw [W3.miss, W2.miss]; exact hmt, fun b hb => ?_, by omega⟩, ?_, ?_⟩
  · rw [W3.cand d b h.hd (by rw [h.hn]; exact hb), if_pos rfl, W3.now]
  · rw [W3.now, W2.now, if_pos ⟨rfl, rfl⟩]
  · rw [W3.now, W2.now, if_neg (by simp), W1.now, if_pos ⟨rfl, rfl⟩]
theorem PRingClears (l : List Int) : volumegrouplaw12_RingClears l = some true := by
  unfold volumegrouplaw12_RingClears
  obtain ⟨L, h1, hL⟩ := new_ok l
  rw [h1]; simp only [Option.bind_some]
  obtain ⟨v, b, h2, hb, hv1, hv2⟩ := srcRange_ok (L := L) (a := ((0 : Nat) : Int)) (lo := 4) (hi := 16) hL (by omega) (by omega)
  rw [h2]; simp only [Option.bind_some]
  obtain ⟨n, rfl⟩ : ∃ n : Nat, v = (n : Int) := ⟨v.toNat, by omega⟩
  obtain ⟨w, b2, h3, hw, _⟩ := built_ok (L := L) (n := n) (p := b) hL (by omega) hb
  rw [h3]; simp only [Option.bind_some]
  subst hw
  rw [area_eq (by omega)]; simp only [Option.bind_some, Option.elim]
  have hLv := lv_mkS (w := w) (by omega) (by omega)
  have hf0 : (mkS [w]).fuse = 0 := rfl
  rcases clear_out hLv with ⟨_, t, c1, c2⟩ | ⟨c1, _⟩
  rotate_left
  · omega
  rw [c1]; simp only [Option.bind_some]
  have hT : Lv [w.length] (0 + 1) 0 w.length t := c2.lv hLv (by omega)
  have hnow : now t 0 = listA (w.set 0 0) := by rw [c2.nowD, now_mkS, listA_set (by omega)]
  have hrd : readR (now t 0) (rgR w.length) = (⟨false, 0, ByteArray.empty⟩, 12) := by
    unfold readR
    rw [if_pos]
    rw [hnow, listA_set (by omega)]; rfl
  rw [if_neg (by simp), grd_pos (decide_eq_true (by omega)), read_eq hT, hrd]; simp only [Option.bind_some]
  rw [hT.imC0, if_neg (by simp), hT.im_eq (l := w.set 0 0) (by simp) (fun b _ => by rw [hnow]), same02_eq (by rw [List.length_set]; omega)]
  simp only [Option.bind_some]
  rw [if_neg (by simp), hT.log0, if_neg (by simp)]
  have hft : t.fuse = 0 := by rw [c2.fuse, hf0]
  obtain ⟨u, f1, f2, f3, f4⟩ := format_out hT hft (by omega)
  rw [f1]; simp only [Option.bind_some]
  rw [if_neg (by simp), seqs_eq f2, f3, f4]; simp only [Option.bind_some]
  have hz : ((dQ 0).toNat : Int) = 0 := by decide
  rw [hz, if_pos (by simp), f2.log0, if_pos (by simp), awake12]; rfl
end Go.Proofs
