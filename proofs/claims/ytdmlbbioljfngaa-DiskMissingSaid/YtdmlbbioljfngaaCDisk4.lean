/- YtdmlbbioljfngaaCDisk4: contracts of functions of the program, walked rule by rule; printed by vg.py. -/
import Derived.Test.YtdmlbbioljfngaaCDisk3
set_option linter.unusedSimpArgs false
set_option maxRecDepth 20000
namespace Go.Proofs
open Go.VG
theorem CDisk4_bs_23_1_0 (v0 : Int) : BuildsSlice Try.prog 23 1 [(0, .int .i64 v0)] 3 [.int .i64 v0] := fun w => by kernel_rfl

theorem tm {m : Int} (hm : 0 < m) (x : Int) : -m < x.tmod m ∧ x.tmod m < m ∧ 0 ≤ (x.tmod m + m).tmod m ∧ (x.tmod m + m).tmod m < m := by
  have h1 : x.tmod m < m := Int.tmod_lt_of_pos x hm
  have h2 : -m < x.tmod m := by
    have := Int.tmod_lt_of_pos (-x) hm
    rw [Int.neg_tmod] at this; omega
  exact ⟨h2, h1, Int.tmod_nonneg _ (by omega), Int.tmod_lt_of_pos _ hm⟩
/-- The log laid over a row. -/
def ap (log : List Rec) (du : List UInt64) : List UInt64 := log.foldl (fun du r => du.set r.a r.v) du
theorem ap_len : ∀ (log : List Rec) (du : List UInt64), (ap log du).length = du.length
  | [], _ => rfl
  | r :: log, du => by
    show (ap log _).length = _
    rw [ap_len log]; simp
theorem ap_snoc (log : List Rec) (du : List UInt64) (r : Rec) : ap (log ++ [r]) du = (ap log du).set r.a r.v := by simp [ap, List.foldl_append]
theorem ap_off : ∀ (log : List Rec) (du : List UInt64) (j : Nat), (∀ r ∈ log, r.a ≠ j) → (ap log du)[j]? = du[j]?
  | [], _, _, _ => rfl
  | r :: log, du, j, h => by
    show (ap log (du.set r.a r.v))[j]? = _
    rw [ap_off log _ j (fun r hr => h r (by simp [hr])), List.getElem?_set, if_neg (h r (by simp))]
theorem flDur_at (now : List UInt64) : ∀ (log : List Rec) (du : List UInt64) (j : Nat), du.length = now.length → (∀ r ∈ log, r.d = 0) → (flDur now 0 log du)[j]? = if ∃ r ∈ log, r.a = j then now[j]? else du[j]?
  | [], du, j, _, _ => by simp [flDur]
  | r :: log, du, j, hl, hd => by
    have h0 : r.d = 0 := hd r (by simp)
    have e : flDur now 0 (r :: log) du = flDur now 0 log (du.set r.a (now.getD r.a 0)) := by
      show flDur now 0 log (if r.d = 0 then _ else _) = _
      rw [if_pos h0]
    rw [e, flDur_at now log _ j (by simpa using hl) (fun r hr => hd r (by simp [hr]))]
    by_cases h1 : ∃ q ∈ log, q.a = j
    · rw [if_pos h1, if_pos]
      obtain ⟨q, hq, hj⟩ := h1
      exact ⟨q, by simp [hq], hj⟩
    · rw [if_neg h1]
      by_cases h2 : r.a = j
      · rw [if_pos ⟨r, by simp, h2⟩, List.getElem?_set, if_pos h2]
        subst h2
        by_cases h3 : r.a < du.length
        · rw [if_pos h3, List.getElem?_eq_getElem (by omega)]
          have : r.a < now.length := by omega
          simp [List.getD, this]
        · rw [if_neg h3, List.getElem?_eq_none (by omega)]
      · rw [if_neg, List.getElem?_set, if_neg h2]
        rintro ⟨q, hq, hj⟩
        rcases List.mem_cons.1 hq with rfl | hq
        · exact h2 hj
        · exact h1 ⟨q, hq, hj⟩
theorem flDur_all {now du : List UInt64} {log : List Rec} (hd : ∀ r ∈ log, r.d = 0) (h : ap log du = now) : flDur now 0 log du = now := by
  have hl : du.length = now.length := by rw [← h, ap_len]
  apply List.ext_getElem?
  intro j
  rw [flDur_at now log du j hl hd]
  split
  · rfl
  · rename_i h1
    rw [← h, ap_off log du j (fun r hr e => h1 ⟨r, hr, e⟩)]
theorem rsGo_none : ∀ (log : List Rec) (n : Nat) (ds : List Drive), rsGo [] n log ds = ds
  | [], _, _ => rfl
  | r :: log, n, ds => by simp only [rsGo]; rw [rsGo_none log]; simp
theorem rsGo_all (ks : List Bool) (nw : List UInt64) (m : Bool) : ∀ (log : List Rec) (n : Nat) (du : List UInt64), (∀ r ∈ log, r.d = 0) → (∀ j, j < n + log.length → ks.getD j false = true) → rsGo ks n log [⟨nw, du, m⟩] = [⟨nw, ap log du, m⟩]
  | [], _, _, _, _ => rfl
  | r :: log, n, du, hd, hk => by
    simp only [rsGo]
    rw [if_pos (hk n (by simp)), show putD [⟨nw, du, m⟩] r = [⟨nw, du.set r.a r.v, m⟩] by simp [putD, hd r (by simp)]]
    exact rsGo_all ks nw m log (n + 1) _ (fun r hr => hd r (by simp [hr])) (fun j hj => hk j (by simp only [List.length_cons]; omega))
theorem keepL_ff {j : Nat} (hj : j < 192) : (keepL 18446744073709551615).getD j false = true := by
  have h : ∀ j : Fin 192, (keepL 18446744073709551615).getD j.1 false = true := by decide +kernel
  exact h ⟨j, hj⟩
structure KS (i : Nat) (s : ArrS) (fl nw : List UInt64) : Prop where
  drv : s.drv = [⟨nw, fl, false⟩]
  l1 : nw.length = 6
  l2 : fl.length = 6
  dn : s.down = false
  fu : s.fuse = 0
  wr : s.writes ≤ i
  lg : ∀ r ∈ s.log, r.d = 0
  apl : ap s.log fl = nw
  ll : s.log.length ≤ i
theorem KS.write {i : Nat} {s : ArrS} {fl nw : List UInt64} (h : KS i s fl nw) {a : Nat} (ha : a < 6) (v : UInt64) : wrR s 0 a = 0 ∧ KS (i + 1) (wrS s 0 a v) fl (nw.set a v) := by
  have e : wrC s ((0 : Nat) : Int) (a : Int) = 0 := wrC_zero h.dn (by rw [h.drv]; exact Nat.zero_lt_one) (by rw [h.drv]; exact h.l1.symm ▸ ha) (by rw [h.drv]; rfl)
  have hf : s.fuse ≠ 1 := by rw [h.fu]; decide
  have hs : wrS s ((0 : Nat) : Int) (a : Int) v = _ := wrS_ok e hf
  refine ⟨wrR_ok e hf, ?_⟩
  show KS (i + 1) (wrS s ((0 : Nat) : Int) (a : Int) v) _ _
  rw [hs]
  exact { drv := by show setNow s 0 a v = _; simp [setNow, h.drv], l1 := by simpa using h.l1, l2 := h.l2, dn := h.dn, fu := by show s.fuse - 1 = 0; rw [h.fu], wr := by have := h.wr; show s.writes + 1 ≤ _; omega,
          lg := fun r hr => by
            rcases List.mem_append.1 hr with hr | hr
            · exact h.lg r hr
            · simp at hr; subst hr; rfl
          apl := by show ap (s.log ++ _) fl = _; rw [ap_snoc, h.apl], ll := by have := h.ll; simp; omega }
theorem KS.flush {i : Nat} {s : ArrS} {fl nw : List UInt64} (h : KS i s fl nw) : flC s 0 = 0 ∧ KS (i + 1) (flS s 0) nw nw := by
  have hw : wrC s ((0 : Nat) : Int) ((0 : Nat) : Int) = 0 := wrC_zero h.dn (by rw [h.drv]; exact Nat.zero_lt_one) (by rw [h.drv]; exact h.l1.symm ▸ (by decide : 0 < 6)) (by rw [h.drv]; rfl)
  simp only [wrC, fz_cons] at hw
  have e : flC s ((0 : Nat) : Int) = 0 := by simp only [flC, fz_cons]; exact ⟨hw.1, hw.2.1, hw.2.2.2.1, rfl⟩
  have hs : flS s ((0 : Nat) : Int) = _ := flS_ok e
  refine ⟨e, ?_⟩
  show KS (i + 1) (flS s ((0 : Nat) : Int)) _ _
  rw [hs]
  have ho : others 0 s.log = [] := by
    rw [List.filter_eq_nil_iff]; intro r hr; simp [h.lg r hr]
  have hd : flDur nw 0 s.log fl = nw := flDur_all h.lg h.apl
  exact { drv := by simp [h.drv, hd], l1 := h.l1, l2 := h.l1, dn := h.dn, fu := h.fu, wr := by have := h.wr; show s.writes ≤ _; omega, lg := by dsimp only; rw [ho]; exact fun r hr => (by cases hr),
          apl := by dsimp only; rw [ho]; rfl, ll := by dsimp only; rw [ho]; simp }
theorem KS.all {i : Nat} {s : ArrS} {fl nw : List UInt64} (h : KS i s fl nw) (hi : i ≤ 24) : imC (rsS s (keepL 18446744073709551615)) 0 = 0 ∧ imL (rsS s (keepL 18446744073709551615)) 0 = nw := by
  have hll := h.ll
  have e : (rsS s (keepL 18446744073709551615)).drv = [⟨nw, nw, false⟩] := by
    simp only [rsS]
    rw [h.drv, rsGo_all _ _ _ _ _ _ h.lg (fun j hj => keepL_ff (by omega)), h.apl]; rfl
  have hR : inR (rsS s (keepL 18446744073709551615)) 0 := ⟨Int.le_refl 0, by rw [e]; exact (by decide : (0 : Int) < 1)⟩
  exact ⟨if_pos hR, by rw [imL, if_pos hR, e]; rfl⟩
theorem KS.non {i : Nat} {s : ArrS} {fl nw : List UInt64} (h : KS i s fl nw) : imC (rsS s []) 0 = 0 ∧ imL (rsS s []) 0 = fl := by
  have e : (rsS s []).drv = [⟨fl, fl, false⟩] := by
    simp only [rsS]
    rw [h.drv, rsGo_none]; rfl
  have hR : inR (rsS s []) 0 := ⟨Int.le_refl 0, by rw [e]; exact (by decide : (0 : Int) < 1)⟩
  exact ⟨if_pos hR, by rw [imL, if_pos hR, e]; rfl⟩
theorem ks_start : KS 0 (newS [6]) (List.replicate 6 0) (List.replicate 6 0) :=
  { drv := rfl, l1 := rfl, l2 := rfl, dn := rfl, fu := rfl, wr := Nat.le_refl _, lg := fun r hr => (by cases hr), apl := rfl, ll := Nat.le_refl _ }

theorem c_DiskKeeps {W : World} {A : HP} {v : Value} {ls : List StepV} {t : Bool} (hA : Reads A tyStep v ls) :
    CSpec Try.prog W 8 [v, .bool t] [A] (fun _ : Unit => .bool true) (fun _ => True) (fun _ F => A :: F) := by
  refine CSpec.of_body Try.func8 rfl Try.ntmps8 rfl (fun F => ?_)
  show CJ _ _ _ _ _ _ (_ :: F)
  refine CJ_seq ?_
  refine CJ_region ?_
  refine RJ_op rfl (OJ_P (P_assign rfl) rfl ?_)
  refine RJ_nil ?_
  refine QJ_then ?_
  refine CJ_seq ?_
  refine CJ_seq ?_
  refine CJ_region ?_
  refine RJ_op rfl (OJ_P (P_move rfl) rfl ?_)
  refine RJ_op rfl (O_call (c_Few hA) rfl Try.call20 (Dels.cons del0 Dels.nil) rfl (fun _ hc1 => ?_))
  refine RJ_op rfl (OJ_P (P_not rfl) rfl ?_)
  refine RJ_nil ?_
  refine QJ_then ?_
  first | (refine CJ_condD rfl (fun hg1 => ?_) (fun hg1 => ?_)) | (refine CJ_condN rfl (fun hg1 => ?_) (fun hg1 => ?_)) | (refine CJ_cond rfl (fun hg1 => ?_) (fun hg1 => ?_))
  ·
    refine CJ_seq ?_
    refine CJ_region ?_
    refine RJ_op rfl (O_call (c_awake04) rfl Try.call21 Dels.nil rfl (fun _ hc2 => ?_))
    refine RJ_op rfl (OJ_P (P_assign rfl) rfl ?_)
    refine RJ_nil ?_
    refine QJ_then ?_
    refine CJ_ret ?_
    refine QJ_then_ret ?_
    refine QJ_end (res1 Try.results8 rfl) ?_
    refine CSpec.close () ?_ ?_ (Ent.take del0 Ent.refl)
    · rfl
    · trivial
  ·
    refine CJ_skip ?_
    refine QJ_then ?_
    refine CJ_seq ?_
    refine CJ_region ?_
    refine RJ_op rfl (O_buildSlice rfl (CDisk4_bs_23_1_0 _) rfl (fun b3 => ?_))
    refine RJ_ent (Ent.trans (Ent.take del0 Ent.refl) (sl_of_lit (t := tyI) (m := 1) [6] rfl rfl rfl (by decide))) ?_
    refine RJ_op rfl (O_call (c_New (Reads.sl _ _ _) (by first | assumption | exact newOk_of (by decide) (by decide))) rfl Try.call22 (Dels.cons del0 Dels.nil) rfl (fun bA4 hc6 => ?_))
    refine RJ_op rfl (OJ_P (P_move rfl) rfl ?_)
    refine RJ_op rfl (OJ_P (P_extract rfl rfl) rfl ?_)
    refine RJ_op rfl (OJ_P (P_extract rfl rfl) rfl ?_)
    refine RJ_op rfl (OJ_P (P_assign rfl) rfl ?_)
    refine RJ_op rfl (OJ_P (P_assign rfl) rfl ?_)
    refine RJ_nil ?_
    refine QJ_then ?_
    refine CJ_seq ?_
    refine CJ_seq ?_
    refine CJ_region ?_
    refine RJ_op rfl (OJ_P (P_move rfl) rfl ?_)
    refine RJ_op rfl (OJ_P (P_neq rfl rfl) rfl ?_)
    refine RJ_op rfl (OJ_P (P_move rfl) rfl ?_)
    first | (refine RJ_know 24 false rfl (decide_eq_false (by decide)) (fun hg2B => ?_)) | (refine RJ_know 24 false rfl (by decide) (fun hg2B => ?_))
    refine RJ_gy (GY_yes rfl rfl rfl hg2B) (OJ_P (P_move rfl) rfl ?_)
    refine RJ_gy (GY_yes rfl rfl rfl hg2B) (OJ_P (P_eqlPN rfl rfl Try.underlying38) rfl ?_)
    refine RJ_op rfl (OJ_P (P_pickF rfl hg2B rfl) rfl ?_)
    refine RJ_nil ?_
    refine QJ_then ?_
    refine CJ_condF rfl rfl ?_
    refine CJ_skip ?_
    refine QJ_then ?_
    refine CJ_seq ?_
    refine CJ_region ?_
    refine RJ_op rfl (O_make (t := tyU) (m := 6) (x0 := 0) (z := _) (bytes := _) rfl rfl rfl rfl Try.underlying43 ⟨Try.t44, by kernel_rfl, rfl, rfl, rfl⟩ rfl (by omega) (by decide) rfl (fun b7 => ?_))
    refine RJ_op rfl (OJ_P (P_assign rfl) rfl ?_)
    refine RJ_nil ?_
    refine QJ_then ?_
    refine CJ_seq ?_
    refine CJ_region ?_
    refine RJ_op rfl (O_make (t := tyU) (m := 6) (x0 := 0) (z := _) (bytes := _) rfl rfl rfl rfl Try.underlying43 ⟨Try.t44, by kernel_rfl, rfl, rfl, rfl⟩ rfl (by omega) (by decide) rfl (fun b8 => ?_))
    refine RJ_op rfl (OJ_P (P_assign rfl) rfl ?_)
    refine RJ_nil ?_
    refine QJ_then ?_
    refine CJ_seq ?_
    refine CJ_seq ?_
    refine CJ_region ?_
    refine RJ_op rfl (OJ_P (P_assign rfl) rfl ?_)
    refine RJ_nil ?_
    refine QJ_then ?_
    refine CJ_block ?_
    refine CJ_loopR (X := Nat × ArrS × List UInt64 × List UInt64) [4, 9, 10, 30, 31, 32, 33, 34, 35, 36, 37, 38, 39, 40, 41, 42, 43, 44, 45, 46, 47, 48, 49, 50, 51, 52, 53, 54, 55, 56, 57, 58, 59, 60, 61, 62, 63, 64, 65, 66, 67, 68, 69, 70, 71, 72] (fun ⟨i, s, fl, nw⟩  => ([(9, .int .i64 (i : Nat))] : Slots)) (fun ⟨i, s, fl, nw⟩ R => Arr bA4 s :: sl tyU (.slice (some ⟨b7, 0, none⟩) 6 6) fl :: sl tyU (.slice (some ⟨b8, 0, none⟩) 6 6) nw :: R) (fun ⟨i, s, fl, nw⟩  => i ≤ ls.length ∧ KS i s fl nw) (fun ⟨i, s, fl, nw⟩  => ls.length - i) ⟨0, _, List.replicate 6 0, List.replicate 6 0⟩ ?_ ?_ (Ent.take del2 (Ent.take del1 (Ent.take del0 (Ent.take del0 (Ent.take del0 Ent.refl))))) ?_
    · exact ⟨Nat.zero_le _, ks_start⟩
    · exact ⟨rfl, True.intro⟩
    ·
      rintro ⟨i, s, fl, nw⟩ ⟨hi, hks⟩
      show CJ _ _ _ _ _ (([(9, .int .i64 (i : Nat))] : Slots) ++ forget _ _) (Arr bA4 s :: sl tyU (.slice (some ⟨b7, 0, none⟩) 6 6) fl :: sl tyU (.slice (some ⟨b8, 0, none⟩) 6 6) nw :: _)
      have hwb : s.writes ≤ 1000000000 := by have := hks.wr; omega
      have ht := tm (m := 6) (by decide) (ls.getD i tyStep.dflt).f1
      have hl1 := hks.l1
      have hl2 := hks.l2
      refine CJ_seq ?_
      refine CJ_seq ?_
      refine CJ_region ?_
      refine RJ_op rfl (OJ_P (P_move rfl) rfl ?_)
      refine RJ_op rfl (OJ_P (P_move rfl) rfl ?_)
      refine RJ_op rfl (OJ_V (V_len rfl foc4 hA Try.runUnderlying36) rfl ?_)
      refine RJ_op rfl (OJ_P (P_lss rfl rfl) rfl ?_)
      refine RJ_nil ?_
      refine QJ_then ?_
      first | (refine CJ_condD rfl (fun hg3 => ?_) (fun hg3 => ?_)) | (refine CJ_condN rfl (fun hg3 => ?_) (fun hg3 => ?_)) | (refine CJ_cond rfl (fun hg3 => ?_) (fun hg3 => ?_))
      ·
        refine CJ_skip ?_
        refine QJ_then ?_
        refine CJ_seq ?_
        refine CJ_block ?_
        refine CJ_seq ?_
        refine CJ_region ?_
        refine RJ_op rfl (OJ_P (P_move rfl) rfl ?_)
        refine RJ_op rfl (OJ_P (P_move rfl) rfl ?_)
        first | (refine RJ_op rfl (OJ_V (V_index rfl rfl rfl (by omega) foc4 hA Try.runUnderlying36 Try.sizeOf46) rfl ?_)) | (refine RJ_op rfl (OJ_V (V_index rfl rfl (Int.toNat_of_nonneg (by omega)).symm (by omega) foc4 hA Try.runUnderlying36 Try.sizeOf46) rfl ?_))
        refine RJ_op rfl (OJ_P (P_fieldE rfl ⟨_, _, _, Try.runUnderlying46, rfl, rfl, Try.sizeOf3, rfl⟩) rfl ?_)
        refine RJ_op rfl (OJ_V (V_loadE rfl rfl (by omega) foc4 hA rfl rfl Try.isAgg3) rfl ?_)
        refine RJ_op rfl (OJ_P (P_remT rfl rfl (by omega)) rfl ?_)
        refine RJ_op rfl (OJ_P (P_add rfl rfl (by omega)) rfl ?_)
        refine RJ_op rfl (OJ_P (P_remT rfl rfl (by omega)) rfl ?_)
        refine RJ_op rfl (OJ_P (P_assign rfl) rfl ?_)
        refine RJ_nil ?_
        refine QJ_then ?_
        refine CJ_seq ?_
        obtain ⟨a, ha, ha6⟩ : ∃ a : Nat, (a : Int) = ((ls.getD i tyStep.dflt).f1.tmod 6 + 6).tmod 6 ∧ a < 6 := ⟨(((ls.getD i tyStep.dflt).f1.tmod 6 + 6).tmod 6).toNat, by omega, by omega⟩
        rw [← ha]
        refine CJ_region ?_
        refine RJ_op rfl (OJ_P (P_move rfl) rfl ?_)
        refine RJ_op rfl (OJ_P (P_move rfl) rfl ?_)
        first | (refine RJ_op rfl (OJ_V (V_index rfl rfl rfl (by omega) foc4 hA Try.runUnderlying36 Try.sizeOf46) rfl ?_)) | (refine RJ_op rfl (OJ_V (V_index rfl rfl (Int.toNat_of_nonneg (by omega)).symm (by omega) foc4 hA Try.runUnderlying36 Try.sizeOf46) rfl ?_))
        refine RJ_op rfl (OJ_P (P_fieldE rfl ⟨_, _, _, Try.runUnderlying46, rfl, rfl, Try.sizeOf3, rfl⟩) rfl ?_)
        refine RJ_op rfl (OJ_V (V_loadE rfl rfl (by omega) foc4 hA rfl rfl Try.isAgg3) rfl ?_)
        refine RJ_op rfl (OJ_P (P_eql rfl rfl) rfl ?_)
        refine RJ_nil ?_
        refine QJ_then ?_
        first | (refine CJ_condD rfl (fun hg4 => ?_) (fun hg4 => ?_)) | (refine CJ_condN rfl (fun hg4 => ?_) (fun hg4 => ?_)) | (refine CJ_cond rfl (fun hg4 => ?_) (fun hg4 => ?_))
        ·
          refine CJ_seq ?_
          refine CJ_seq ?_
          refine CJ_region ?_
          refine RJ_op rfl (OJ_P (P_move rfl) rfl ?_)
          refine RJ_op rfl (O_call (c_FlushD (by first | assumption | decide)) rfl Try.call26 (Dels.cons del0 Dels.nil) rfl (fun _ hc9 => ?_))
          refine RJ_op rfl (OJ_P (P_neq rfl rfl) rfl ?_)
          refine RJ_nil ?_
          refine QJ_then ?_
          first | (refine CJ_condF rfl (decide_eq_false (by exact fun h => h hks.flush.1)) ?_) | (refine CJ_condF rfl (by exact fun h => h hks.flush.1) ?_)
          refine CJ_skip ?_
          refine QJ_then ?_
          refine CJ_region ?_
          refine RJ_op rfl (OJ_P (P_move rfl) rfl ?_)
          refine RJ_op rfl (OJ_P (P_move rfl) rfl ?_)
          refine RJ_op rfl (O_copy (t := tyU) (bytes := 8) rfl rfl del1 foc1 (Reads.sl _ _ _) Try.underlying43 ok_tyU rfl ?_)
          refine RJ_nil ?_
          refine QJ_block_normal ?_
          refine QJ_then ?_
          refine CJ_region ?_
          refine RJ_op rfl (OJ_P (P_move rfl) rfl ?_)
          refine RJ_op rfl (OJ_P (P_add rfl rfl (by omega)) rfl ?_)
          refine RJ_op rfl (OJ_P (P_assign rfl) rfl ?_)
          refine RJ_nil ?_
          refine QJ_nextR ⟨i + 1, _, nw, nw⟩ (by first | omega | (simp only []; omega)) ?_ (by repeat (first | exact Kp.base | exact Kp.self | refine Kp.cons rfl ?_ | refine Kp.forget rfl ?_)) ?_ (Ent.take del1 (Ent.takeC del0 (congrArg (sl tyU _) (copied_eq (by omega))) (Ent.take del0 (Ent.take del0 (Ent.take del0 Ent.refl)))))
          · exact ⟨by omega, hks.flush.2⟩
          · exact ⟨rfl, True.intro⟩
        ·
          refine CJ_seq ?_
          refine CJ_region ?_
          refine RJ_op rfl (OJ_P (P_move rfl) rfl ?_)
          refine RJ_op rfl (OJ_P (P_move rfl) rfl ?_)
          refine RJ_op rfl (OJ_P (P_move rfl) rfl ?_)
          refine RJ_op rfl (OJ_P (P_move rfl) rfl ?_)
          first | (refine RJ_op rfl (OJ_V (V_index rfl rfl rfl (by omega) foc4 hA Try.runUnderlying36 Try.sizeOf46) rfl ?_)) | (refine RJ_op rfl (OJ_V (V_index rfl rfl (Int.toNat_of_nonneg (by omega)).symm (by omega) foc4 hA Try.runUnderlying36 Try.sizeOf46) rfl ?_))
          refine RJ_op rfl (OJ_P (P_fieldE rfl ⟨_, _, _, Try.runUnderlying46, rfl, rfl, Try.sizeOf44, rfl⟩) rfl ?_)
          refine RJ_op rfl (OJ_V (V_loadE rfl rfl (by omega) foc4 hA rfl rfl Try.isAgg44) rfl ?_)
          refine RJ_op rfl (O_call (c_Write (by first | assumption | decide)) rfl Try.call25 (Dels.cons del0 Dels.nil) rfl (fun _ hc10 => ?_))
          refine RJ_op rfl (OJ_P (P_neq rfl rfl) rfl ?_)
          refine RJ_nil ?_
          refine QJ_then ?_
          first | (refine CJ_condF rfl (decide_eq_false (by exact fun h => h (hks.write ha6 0).1)) ?_) | (refine CJ_condF rfl (by exact fun h => h (hks.write ha6 0).1) ?_)
          refine CJ_region ?_
          refine RJ_op rfl (OJ_P (P_move rfl) rfl ?_)
          refine RJ_op rfl (OJ_P (P_move rfl) rfl ?_)
          refine RJ_op rfl (OJ_P (P_move rfl) rfl ?_)
          refine RJ_op rfl (OJ_P (P_move rfl) rfl ?_)
          first | (refine RJ_op rfl (OJ_V (V_index rfl rfl rfl (by omega) foc4 hA Try.runUnderlying36 Try.sizeOf46) rfl ?_)) | (refine RJ_op rfl (OJ_V (V_index rfl rfl (Int.toNat_of_nonneg (by omega)).symm (by omega) foc4 hA Try.runUnderlying36 Try.sizeOf46) rfl ?_))
          refine RJ_op rfl (OJ_P (P_fieldE rfl ⟨_, _, _, Try.runUnderlying46, rfl, rfl, Try.sizeOf44, rfl⟩) rfl ?_)
          refine RJ_op rfl (OJ_V (V_loadE rfl rfl (by omega) foc4 hA rfl rfl Try.isAgg44) rfl ?_)
          refine RJ_op rfl (OJ_V (V_index rfl rfl rfl (by omega) foc2 (Reads.sl _ _ _) Try.runUnderlying43 Try.sizeOf44) rfl ?_)
          refine RJ_op rfl (O_storeE (x' := (ls.getD i tyStep.dflt).f2) rfl rfl rfl (by omega) foc2 rfl rfl rfl Try.sizeOf44 ?_)
          refine RJ_nil ?_
          refine QJ_block_normal ?_
          refine QJ_then ?_
          refine CJ_region ?_
          refine RJ_op rfl (OJ_P (P_move rfl) rfl ?_)
          refine RJ_op rfl (OJ_P (P_add rfl rfl (by omega)) rfl ?_)
          refine RJ_op rfl (OJ_P (P_assign rfl) rfl ?_)
          refine RJ_nil ?_
          refine QJ_nextR ⟨i + 1, _, fl, _⟩ (by first | omega | (simp only []; omega)) ?_ (by repeat (first | exact Kp.base | exact Kp.self | refine Kp.cons rfl ?_ | refine Kp.forget rfl ?_)) ?_ (Ent.take del0 (Ent.take del0 (Ent.take del0 (Ent.take del0 (Ent.take del0 Ent.refl)))))
          · exact ⟨by omega, (hks.write ha6 _).2⟩
          · exact ⟨rfl, True.intro⟩
      ·
        refine CJ_exit ?_
        refine QJ_then_exit ?_
        refine QJ_round_exit ?_
        refine QJ_block_here ?_
        refine QJ_then ?_
        refine CJ_seq ?_
        refine CJ_seq ?_
        obtain rfl : i = ls.length := by omega
        refine CJ_region ?_
        refine RJ_op rfl (OJ_P (P_move rfl) rfl ?_)
        refine RJ_nil ?_
        refine QJ_then ?_
        first | (refine CJ_condD rfl (fun hg7 => ?_) (fun hg7 => ?_)) | (refine CJ_condN rfl (fun hg7 => ?_) (fun hg7 => ?_)) | (refine CJ_cond rfl (fun hg7 => ?_) (fun hg7 => ?_))
        ·
          refine CJ_seq ?_
          refine CJ_region ?_
          refine RJ_op rfl (OJ_P (P_move rfl) rfl ?_)
          refine RJ_op rfl (O_call (c_Keep (u := 18446744073709551615)) rfl Try.call32 Dels.nil rfl (fun _ hc12 => ?_))
          refine RJ_op rfl (O_call (c_Restart (Reads.sl _ _ _) (by first | assumption | decide)) rfl Try.call31 (Dels.cons del1 (Dels.cons del0 Dels.nil)) rfl (fun _ hc13 => ?_))
          refine RJ_nil ?_
          refine QJ_then ?_
          refine CJ_region ?_
          refine RJ_op rfl (OJ_P (P_move rfl) rfl ?_)
          refine RJ_op rfl (OJ_P (P_assign rfl) rfl ?_)
          refine RJ_nil ?_
          refine QJ_then ?_
          refine CJ_seq ?_
          refine CJ_region ?_
          refine RJ_op rfl (OJ_P (P_move rfl) rfl ?_)
          refine RJ_op rfl (O_call (c_ImageD) rfl Try.call37 (Dels.cons del0 Dels.nil) rfl (fun _ hc15 => ?_))
          refine RJ_op rfl (OJ_P (P_move rfl) rfl ?_)
          refine RJ_op rfl (OJ_P (P_extract rfl rfl) rfl ?_)
          refine RJ_op rfl (OJ_P (P_extract rfl rfl) rfl ?_)
          refine RJ_op rfl (OJ_P (P_assign rfl) rfl ?_)
          refine RJ_op rfl (OJ_P (P_assign rfl) rfl ?_)
          refine RJ_nil ?_
          refine QJ_then ?_
          refine CJ_seq ?_
          first | rw [(hks.all (by omega)).2] | rw [hks.non.2]
          refine CJ_region ?_
          refine RJ_op rfl (OJ_P (P_move rfl) rfl ?_)
          refine RJ_op rfl (OJ_P (P_eql rfl rfl) rfl ?_)
          refine RJ_op rfl (OJ_P (P_move rfl) rfl ?_)
          first | (refine RJ_know 87 true rfl (decide_eq_true (by first | exact (hks.all (by omega)).1 | exact hks.non.1)) (fun hg8B => ?_)) | (refine RJ_know 87 true rfl (by first | exact (hks.all (by omega)).1 | exact hks.non.1) (fun hg8B => ?_))
          refine RJ_gy (GY_yes rfl rfl rfl hg8B) (OJ_P (P_move rfl) rfl ?_)
          refine RJ_gy (GY_yes rfl rfl rfl hg8B) (OJ_P (P_move rfl) rfl ?_)
          refine RJ_gy (GY_yes rfl rfl rfl hg8B) (O_call (c_Same (Reads.sl _ _ _) (Reads.sl _ _ _) (by first | assumption | omega) (by first | assumption | omega)) rfl Try.call38 (Dels.cons del0 (Dels.cons del3 Dels.nil)) rfl (fun _ hc16 => ?_))
          refine RJ_op rfl (OJ_P (P_pickT rfl hg8B rfl) rfl ?_)
          refine RJ_op rfl (OJ_P (P_move rfl) rfl ?_)
          first | (refine RJ_know 92 true rfl (decide_eq_true (by rfl)) (fun hg9B => ?_)) | (refine RJ_know 92 true rfl (by rfl) (fun hg9B => ?_))
          refine RJ_gy (GY_yes rfl rfl rfl hg9B) (OJ_P (P_move rfl) rfl ?_)
          refine RJ_gy (GY_yes rfl rfl rfl hg9B) (O_call (c_Unflushed) rfl Try.call39 (Dels.cons del2 Dels.nil) rfl (fun _ hc17 => ?_))
          refine RJ_gy (GY_yes rfl rfl rfl hg9B) (OJ_P (P_eql rfl rfl) rfl ?_)
          refine RJ_op rfl (OJ_P (P_pickT rfl hg9B rfl) rfl ?_)
          refine RJ_op rfl (OJ_P (P_move rfl) rfl ?_)
          first | (refine RJ_know 97 true rfl (decide_eq_true (by exact rfl)) (fun hg10B => ?_)) | (refine RJ_know 97 true rfl (by exact rfl) (fun hg10B => ?_))
          refine RJ_gy (GY_yes rfl rfl rfl hg10B) (O_call (c_awake04) rfl Try.call21 Dels.nil rfl (fun _ hc18 => ?_))
          refine RJ_op rfl (OJ_P (P_pickT rfl hg10B rfl) rfl ?_)
          refine RJ_op rfl (OJ_P (P_assign rfl) rfl ?_)
          refine RJ_nil ?_
          refine QJ_then ?_
          refine CJ_ret ?_
          refine QJ_end (res1 Try.results8 rfl) ?_
          refine CSpec.close () ?_ ?_ (Ent.take del6 (Ent.drop (Ent.drop (Ent.drop (Ent.drop (Ent.drop (Ent.drop Ent.refl)))))))
          · rfl
          · trivial
        ·
          refine CJ_region ?_
          refine RJ_op rfl (OJ_P (P_move rfl) rfl ?_)
          refine RJ_ent (fun h hh => sl_nil (t := tyB) h hh) ?_
          refine RJ_op rfl (O_call (c_Restart (Reads.sl _ _ _) (by first | assumption | decide)) rfl Try.call31 (Dels.cons del1 (Dels.cons del0 Dels.nil)) rfl (fun _ hc20 => ?_))
          refine RJ_nil ?_
          refine QJ_then ?_
          refine CJ_seq ?_
          refine CJ_region ?_
          refine RJ_op rfl (OJ_P (P_move rfl) rfl ?_)
          refine RJ_op rfl (O_call (c_ImageD) rfl Try.call37 (Dels.cons del0 Dels.nil) rfl (fun _ hc22 => ?_))
          refine RJ_op rfl (OJ_P (P_move rfl) rfl ?_)
          refine RJ_op rfl (OJ_P (P_extract rfl rfl) rfl ?_)
          refine RJ_op rfl (OJ_P (P_extract rfl rfl) rfl ?_)
          refine RJ_op rfl (OJ_P (P_assign rfl) rfl ?_)
          refine RJ_op rfl (OJ_P (P_assign rfl) rfl ?_)
          refine RJ_nil ?_
          refine QJ_then ?_
          refine CJ_seq ?_
          first | rw [(hks.all (by omega)).2] | rw [hks.non.2]
          refine CJ_region ?_
          refine RJ_op rfl (OJ_P (P_move rfl) rfl ?_)
          refine RJ_op rfl (OJ_P (P_eql rfl rfl) rfl ?_)
          refine RJ_op rfl (OJ_P (P_move rfl) rfl ?_)
          first | (refine RJ_know 87 true rfl (decide_eq_true (by first | exact (hks.all (by omega)).1 | exact hks.non.1)) (fun hg11B => ?_)) | (refine RJ_know 87 true rfl (by first | exact (hks.all (by omega)).1 | exact hks.non.1) (fun hg11B => ?_))
          refine RJ_gy (GY_yes rfl rfl rfl hg11B) (OJ_P (P_move rfl) rfl ?_)
          refine RJ_gy (GY_yes rfl rfl rfl hg11B) (OJ_P (P_move rfl) rfl ?_)
          refine RJ_gy (GY_yes rfl rfl rfl hg11B) (O_call (c_Same (Reads.sl _ _ _) (Reads.sl _ _ _) (by first | assumption | omega) (by first | assumption | omega)) rfl Try.call38 (Dels.cons del0 (Dels.cons del2 Dels.nil)) rfl (fun _ hc23 => ?_))
          refine RJ_op rfl (OJ_P (P_pickT rfl hg11B rfl) rfl ?_)
          refine RJ_op rfl (OJ_P (P_move rfl) rfl ?_)
          first | (refine RJ_know 92 true rfl (decide_eq_true (by rfl)) (fun hg12B => ?_)) | (refine RJ_know 92 true rfl (by rfl) (fun hg12B => ?_))
          refine RJ_gy (GY_yes rfl rfl rfl hg12B) (OJ_P (P_move rfl) rfl ?_)
          refine RJ_gy (GY_yes rfl rfl rfl hg12B) (O_call (c_Unflushed) rfl Try.call39 (Dels.cons del2 Dels.nil) rfl (fun _ hc24 => ?_))
          refine RJ_gy (GY_yes rfl rfl rfl hg12B) (OJ_P (P_eql rfl rfl) rfl ?_)
          refine RJ_op rfl (OJ_P (P_pickT rfl hg12B rfl) rfl ?_)
          refine RJ_op rfl (OJ_P (P_move rfl) rfl ?_)
          first | (refine RJ_know 97 true rfl (decide_eq_true (by exact rfl)) (fun hg13B => ?_)) | (refine RJ_know 97 true rfl (by exact rfl) (fun hg13B => ?_))
          refine RJ_gy (GY_yes rfl rfl rfl hg13B) (O_call (c_awake04) rfl Try.call21 Dels.nil rfl (fun _ hc25 => ?_))
          refine RJ_op rfl (OJ_P (P_pickT rfl hg13B rfl) rfl ?_)
          refine RJ_op rfl (OJ_P (P_assign rfl) rfl ?_)
          refine RJ_nil ?_
          refine QJ_then ?_
          refine CJ_ret ?_
          refine QJ_end (res1 Try.results8 rfl) ?_
          refine CSpec.close () ?_ ?_ (Ent.take del6 (Ent.drop (Ent.drop (Ent.drop (Ent.drop (Ent.drop (Ent.drop Ent.refl)))))))
          · rfl
          · trivial

end Go.Proofs
