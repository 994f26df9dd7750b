/- YtdmlbbioljfngaaCDisk5: contracts of functions of the program, walked rule by rule; printed by vg.py. -/
import Derived.Test.YtdmlbbioljfngaaCDisk4
set_option linter.unusedSimpArgs false
set_option maxRecDepth 20000
namespace Go.Proofs
open Go.VG
theorem CDisk5_bs_23_2_0_1 (v0 : Int) (v1 : Int) : BuildsSlice Try.prog 23 2 [(0, .int .i64 v0), (1, .int .i64 v1)] 3 [.int .i64 v0, .int .i64 v1] := fun w => by kernel_rfl

structure MS (i : Nat) (s : ArrS) (nw fl : List UInt64) : Prop where
  drv : s.drv = [⟨nw, fl, false⟩, ⟨[0, 0, 0], [0, 0, 0], false⟩]
  l1 : nw.length = 4
  l2 : fl.length = 4
  dn : s.down = false
  fu : s.fuse = 0
  wr : s.writes ≤ i
  lg : ∀ r ∈ s.log, r.d = 0
theorem MS.write {i : Nat} {s : ArrS} {fl nw : List UInt64} (h : MS i s nw fl) {a : Nat} (ha : a < 4) (v : UInt64) : MS (i + 1) (wrS s 0 a v) (nw.set a v) fl := by
  have e : wrC s ((0 : Nat) : Int) (a : Int) = 0 := wrC_zero h.dn (by rw [h.drv]; exact (by decide : 0 < 2)) (by rw [h.drv]; exact h.l1.symm ▸ ha) (by rw [h.drv]; rfl)
  have hf : s.fuse ≠ 1 := by rw [h.fu]; decide
  have hs : wrS s ((0 : Nat) : Int) (a : Int) v = _ := wrS_ok e hf
  show MS (i + 1) (wrS s ((0 : Nat) : Int) (a : Int) v) _ _
  rw [hs]
  exact { drv := by show setNow s 0 a v = _; simp [setNow, h.drv], l1 := by simpa using h.l1, l2 := h.l2, dn := h.dn, fu := by show s.fuse - 1 = 0; rw [h.fu], wr := by have := h.wr; show s.writes + 1 ≤ _; omega,
          lg := fun r hr => by
            rcases List.mem_append.1 hr with hr | hr
            · exact h.lg r hr
            · simp at hr; subst hr; rfl }
theorem fl0 {s : ArrS} {i : Nat} (h1 : s.down = false) (h2 : i < s.drv.length) (h3 : 0 < (s.drv.getD i d0).now.length) (h4 : (s.drv.getD i d0).miss = false) : flC s i = 0 := by
  have hw : wrC s (i : Int) ((0 : Nat) : Int) = 0 := wrC_zero h1 h2 h3 h4
  simp only [wrC, fz_cons] at hw
  simp only [flC, fz_cons]; exact ⟨hw.1, hw.2.1, hw.2.2.2.1, rfl⟩
theorem MS.flush {i : Nat} {s : ArrS} {fl nw : List UInt64} (h : MS i s nw fl) : MS (i + 1) (flS s 0) nw (flDur nw 0 s.log fl) := by
  have e : flC s ((0 : Nat) : Int) = 0 := fl0 h.dn (by rw [h.drv]; exact (by decide : 0 < 2)) (by rw [h.drv]; exact h.l1.symm ▸ (by decide : 0 < 4)) (by rw [h.drv]; rfl)
  have hs : flS s ((0 : Nat) : Int) = _ := flS_ok e
  show MS (i + 1) (flS s ((0 : Nat) : Int)) _ _
  rw [hs]
  exact { drv := by simp [h.drv], l1 := h.l1, l2 := (flDur_len _ _ _ _).trans h.l2, dn := h.dn, fu := h.fu, wr := by have := h.wr; show s.writes ≤ _; omega, lg := fun r hr => h.lg r (List.mem_filter.1 hr).1 }
/-- With the disk missing. -/
structure MM (s0 s : ArrS) (nw : List UInt64) (t : Bool) : Prop where
  drv : ∃ fl x y, fl.length = 4 ∧ x.length = 3 ∧ s.drv = [⟨nw, fl, t⟩, ⟨x, y, false⟩]
  l1 : nw.length = 4
  dn : s.down = false
  fu : s.fuse = 0
  wr : s.writes ≤ 25
  lg : s.log = s0.log
theorem MM.c {s0 s : ArrS} {nw : List UInt64} {t : Bool} (h : MM s0 s nw t) : 2 = s.drv.length ∧ (s.drv.getD 0 d0).now = nw ∧ (s.drv.getD 0 d0).miss = t ∧ (s.drv.getD 1 d0).now.length = 3 ∧ (s.drv.getD 1 d0).miss = false := by
  obtain ⟨fl, x, y, h1, h2, h3⟩ := h.drv
  rw [h3]; exact ⟨rfl, rfl, rfl, h2, rfl⟩
theorem MS.sm {i : Nat} {s : ArrS} {fl nw : List UInt64} (h : MS i s nw fl) (hi : i ≤ 24) : smR s 0 = 0 ∧ MM s (smS s 0 true) nw true := by
  have hR : inR s ((0 : Nat) : Int) := ⟨Int.le_refl 0, by rw [h.drv]; exact (by decide : (0 : Int) < 2)⟩
  have hs : smS s ((0 : Nat) : Int) true = _ := smS_ok hR
  refine ⟨if_pos hR, ?_⟩
  show MM s (smS s ((0 : Nat) : Int) true) nw true
  rw [hs]
  exact { drv := ⟨fl, [0, 0, 0], [0, 0, 0], h.l2, rfl, by simp [h.drv]⟩, l1 := h.l1, dn := h.dn, fu := h.fu, wr := by have := h.wr; show s.writes ≤ 25; omega, lg := rfl }
theorem MM.w5 {s0 s : ArrS} {nw : List UInt64} (h : MM s0 s nw true) {v : UInt64} : wrR s 0 0 = 6 ∧ wrS s 0 0 v = s := by
  have e : wrC s ((0 : Nat) : Int) ((0 : Nat) : Int) = 6 := wrC_miss h.dn (by rw [← h.c.1]; decide) (by rw [h.c.2.1, h.l1]; decide) h.c.2.2.1
  exact ⟨by rw [wrR, show wrC s 0 0 = 6 from e]; rfl, wrS_bad (by rw [show wrC s 0 0 = 6 from e]; decide)⟩
theorem MM.f6 {s0 s : ArrS} {nw : List UInt64} (h : MM s0 s nw true) : flC s 0 = 6 ∧ flS s 0 = s := by
  have hw : wrC s ((0 : Nat) : Int) ((0 : Nat) : Int) = 6 := wrC_miss h.dn (by rw [← h.c.1]; decide) (by rw [h.c.2.1, h.l1]; decide) h.c.2.2.1
  have hR : inR s 0 := ⟨Int.le_refl 0, by rw [← h.c.1]; decide⟩
  have e1 : cPow s = 0 := by simp [cPow, h.dn]
  have e2 : cLoc s 0 = 0 := if_pos hR
  have e4 : cPre s 0 = 6 := by
    have : missI s 0 = true := h.c.2.2.1
    simp [cPre, this]
  have e : flC s 0 = 6 := by simp [flC, fz, e1, e2, e4]
  exact ⟨e, flS_bad (by rw [e]; decide)⟩
theorem MM.w1 {s0 s : ArrS} {nw : List UInt64} (h : MM s0 s nw true) (h0 : ∀ r ∈ s0.log, r.d = 0) {k : Nat} (hk : k < 3) {v : UInt64} : wrR s 1 k = 0 ∧ flC (wrS s 1 k v) 1 = 0 ∧ (wrS s 1 k v).writes ≤ 26 ∧ ∃ s', flS (wrS s 1 k v) 1 = s' ∧ s'.writes ≤ 26 ∧ s'.down = false ∧ s'.fuse = 0 ∧ s'.log = s0.log ∧ ∃ fl x y, fl.length = 4 ∧ x.length = 3 ∧ s'.drv = [⟨nw, fl, true⟩, ⟨x, y, false⟩] := by
  have e : wrC s ((1 : Nat) : Int) (k : Int) = 0 := wrC_zero h.dn (by rw [← h.c.1]; decide) (by rw [h.c.2.2.2.1]; exact hk) h.c.2.2.2.2
  have hf : s.fuse ≠ 1 := by rw [h.fu]; decide
  have hs : wrS s ((1 : Nat) : Int) (k : Int) v = _ := wrS_ok e hf
  obtain ⟨fl, x, y, h1, h2, h3⟩ := h.drv
  have hwr := h.wr
  refine ⟨wrR_ok e hf, ?_⟩
  show flC (wrS s ((1 : Nat) : Int) (k : Int) v) ((1 : Nat) : Int) = 0 ∧ (wrS s ((1 : Nat) : Int) (k : Int) v).writes ≤ 26 ∧ ∃ s', flS (wrS s ((1 : Nat) : Int) (k : Int) v) ((1 : Nat) : Int) = s' ∧ _
  rw [hs]
  have hd : setNow s 1 k v = [⟨nw, fl, true⟩, ⟨x.set k v, y, false⟩] := by simp [setNow, h3]
  have c : flC { s with drv := setNow s 1 k v, bad := delM s.bad (((1 : Nat) : Int), (k : Int)), log := s.log ++ [⟨1, k, v⟩], fuse := s.fuse - 1, writes := s.writes + 1 } ((1 : Nat) : Int) = 0 :=
    fl0 h.dn (by dsimp only; rw [hd]; exact (by decide : 1 < 2)) (by dsimp only; rw [hd]; show 0 < (x.set k v).length; simp; omega) (by dsimp only; rw [hd]; rfl)
  refine ⟨c, by dsimp only; omega, _, flS_ok c, by dsimp only; omega, h.dn, by dsimp only; rw [h.fu], ?_, fl, x.set k v, _, h1, by simpa using h2, by dsimp only; rw [hd]; rfl⟩
  dsimp only
  rw [h.lg, others, List.filter_append, List.filter_eq_self.2 (fun r hr => by simp [h0 r hr])]; simp
theorem MM.last {s0 s : ArrS} {nw : List UInt64} (hd : s.down = false) (hl : s.log = s0.log) (h0 : ∀ r ∈ s0.log, r.d = 0) (hn : nw.length = 4) (h : ∃ fl x y, fl.length = 4 ∧ x.length = 3 ∧ s.drv = [⟨nw, fl, true⟩, ⟨x, y, false⟩]) {m : Nat} (hm : m < 4) :
    rdC s 0 m = 6 ∧ imC s 0 = 0 ∧ imL s 0 = nw ∧ smR s 0 = 0 ∧ flC (smS s 0 false) 0 = 0 ∧ (flS (smS s 0 false) 0).log = [] ∧ (smS s 0 false).writes = s.writes := by
  obtain ⟨fl, x, y, h1, h2, h3⟩ := h
  have hw : wrC s ((0 : Nat) : Int) (m : Int) = 6 := wrC_miss hd (by rw [h3]; exact (by decide : 0 < 2)) (by rw [h3]; exact hn.symm ▸ hm) (by rw [h3]; rfl)
  have hR : inR s ((0 : Nat) : Int) := ⟨Int.le_refl 0, by rw [h3]; exact (by decide : (0 : Int) < 2)⟩
  have e1 : cPow s = 0 := by simp [cPow, hd]
  have e2 : cLoc s 0 = 0 := if_pos hR
  have e3 : cPla s 0 m = 0 := by
    refine if_pos ⟨by omega, ?_⟩
    rw [sizeI, if_pos (show inR s 0 from hR)]
    show (m : Int) < ((s.drv.getD 0 d0).now.length : Int)
    rw [h3]; show (m : Int) < (nw.length : Int); omega
  have e4 : cPre s 0 = 6 := by
    have : missI s 0 = true := by show (s.drv.getD 0 d0).miss = true; rw [h3]; rfl
    simp [cPre, this]
  have hs : smS s ((0 : Nat) : Int) false = _ := smS_ok hR
  refine ⟨by simp [rdC, fz, e1, e2, e3, e4], if_pos hR, ?_, if_pos hR, ?_⟩
  · rw [imL, if_pos (show inR s 0 from hR)]; show (s.drv.getD 0 d0).now = nw; rw [h3]; rfl
  · show flC (smS s ((0 : Nat) : Int) false) ((0 : Nat) : Int) = 0 ∧ (flS (smS s ((0 : Nat) : Int) false) ((0 : Nat) : Int)).log = [] ∧ (smS s ((0 : Nat) : Int) false).writes = s.writes
    rw [hs]
    have c : flC { s with drv := s.drv.set 0 { s.drv.getD 0 d0 with miss := false } } ((0 : Nat) : Int) = 0 :=
      fl0 hd (by dsimp only; rw [h3]; exact (by decide : 0 < 2)) (by dsimp only; rw [h3]; show 0 < nw.length; omega) (by dsimp only; rw [h3]; rfl)
    refine ⟨c, ?_, rfl⟩
    rw [flS_ok c]
    show others 0 s.log = []
    rw [hl, List.filter_eq_nil_iff]; intro r hr; simp [h0 r hr]
theorem ms_start : MS 0 (newS [4, 3]) (List.replicate 4 0) (List.replicate 4 0) :=
  { drv := rfl, l1 := rfl, l2 := rfl, dn := rfl, fu := rfl, wr := Nat.le_refl _, lg := fun r hr => by cases hr }

theorem c_DiskMissing {W : World} {A : HP} {v : Value} {ls : List StepV} {q : Int} (hA : Reads A tyStep v ls) (hq : 0 ≤ q ∧ q ≤ 255) :
    CSpec Try.prog W 9 [v, .int .u8 q] [A] (fun _ : Unit => .bool true) (fun _ => True) (fun _ F => A :: F) := by
  obtain ⟨k, hk, hk3⟩ : ∃ k : Nat, (k : Int) = q % 3 ∧ k < 3 := ⟨(q % 3).toNat, by omega, by omega⟩
  obtain ⟨m, hm, hm4⟩ : ∃ m : Nat, (m : Int) = q % 4 ∧ m < 4 := ⟨(q % 4).toNat, by omega, by omega⟩
  refine CSpec.of_body Try.func9 rfl Try.ntmps9 rfl (fun F => ?_)
  show CJ _ _ _ _ _ _ (_ :: F)
  refine CJ_seq ?_
  refine CJ_region ?_
  refine RJ_op rfl (OJ_P (P_assign rfl) rfl ?_)
  refine RJ_nil ?_
  refine QJ_then ?_
  refine CJ_seq ?_
  refine CJ_seq ?_
  refine CJ_region ?_
  refine RJ_op rfl (OJ_P (P_move rfl) rfl ?_)
  refine RJ_op rfl (O_call (c_Few hA) rfl Try.call20 (Dels.cons del0 Dels.nil) rfl (fun _ hc1 => ?_))
  refine RJ_op rfl (OJ_P (P_not rfl) rfl ?_)
  refine RJ_nil ?_
  refine QJ_then ?_
  first | (refine CJ_condD rfl (fun hg1 => ?_) (fun hg1 => ?_)) | (refine CJ_condN rfl (fun hg1 => ?_) (fun hg1 => ?_)) | (refine CJ_cond rfl (fun hg1 => ?_) (fun hg1 => ?_))
  ·
    refine CJ_seq ?_
    refine CJ_region ?_
    refine RJ_op rfl (O_call (c_awake04) rfl Try.call21 Dels.nil rfl (fun _ hc2 => ?_))
    refine RJ_op rfl (OJ_P (P_assign rfl) rfl ?_)
    refine RJ_nil ?_
    refine QJ_then ?_
    refine CJ_ret ?_
    refine QJ_then_ret ?_
    refine QJ_end (res1 Try.results9 rfl) ?_
    refine CSpec.close () ?_ ?_ (Ent.take del0 Ent.refl)
    · rfl
    · trivial
  ·
    refine CJ_skip ?_
    refine QJ_then ?_
    refine CJ_seq ?_
    refine CJ_region ?_
    refine RJ_op rfl (O_buildSlice rfl (CDisk5_bs_23_2_0_1 _ _) rfl (fun b3 => ?_))
    refine RJ_ent (Ent.trans (Ent.take del0 Ent.refl) (sl_of_lit (t := tyI) (m := 2) [4, 3] rfl rfl rfl (by decide))) ?_
    refine RJ_op rfl (O_call (c_New (Reads.sl _ _ _) (by first | assumption | exact newOk_of (by decide) (by decide))) rfl Try.call22 (Dels.cons del0 Dels.nil) rfl (fun bA4 hc6 => ?_))
    refine RJ_op rfl (OJ_P (P_move rfl) rfl ?_)
    refine RJ_op rfl (OJ_P (P_extract rfl rfl) rfl ?_)
    refine RJ_op rfl (OJ_P (P_extract rfl rfl) rfl ?_)
    refine RJ_op rfl (OJ_P (P_assign rfl) rfl ?_)
    refine RJ_op rfl (OJ_P (P_assign rfl) rfl ?_)
    refine RJ_nil ?_
    refine QJ_then ?_
    refine CJ_seq ?_
    refine CJ_seq ?_
    refine CJ_region ?_
    refine RJ_op rfl (OJ_P (P_move rfl) rfl ?_)
    refine RJ_op rfl (OJ_P (P_neq rfl rfl) rfl ?_)
    refine RJ_op rfl (OJ_P (P_move rfl) rfl ?_)
    first | (refine RJ_know 26 false rfl (decide_eq_false (by decide)) (fun hg2B => ?_)) | (refine RJ_know 26 false rfl (by decide) (fun hg2B => ?_))
    refine RJ_gy (GY_yes rfl rfl rfl hg2B) (OJ_P (P_move rfl) rfl ?_)
    refine RJ_gy (GY_yes rfl rfl rfl hg2B) (OJ_P (P_eqlPN rfl rfl Try.underlying38) rfl ?_)
    refine RJ_op rfl (OJ_P (P_pickF rfl hg2B rfl) rfl ?_)
    refine RJ_nil ?_
    refine QJ_then ?_
    refine CJ_condF rfl rfl ?_
    refine CJ_skip ?_
    refine QJ_then ?_
    refine CJ_seq ?_
    refine CJ_seq ?_
    refine CJ_region ?_
    refine RJ_op rfl (OJ_P (P_assign rfl) rfl ?_)
    refine RJ_nil ?_
    refine QJ_then ?_
    refine CJ_block ?_
    refine CJ_loopR (X := Nat × ArrS × List UInt64 × List UInt64) [7, 30, 31, 32, 33, 34, 35, 36, 37, 38, 39, 40, 41, 42, 43, 44, 45, 46, 47, 48, 49, 50, 51, 52, 53, 54, 55, 56, 57, 58] (fun ⟨i, s, nw, fl⟩  => ([(7, .int .i64 (i : Nat))] : Slots)) (fun ⟨i, s, nw, fl⟩ R => Arr bA4 s :: R) (fun ⟨i, s, nw, fl⟩  => i ≤ ls.length ∧ MS i s nw fl) (fun ⟨i, s, nw, fl⟩  => ls.length - i) ⟨0, _, List.replicate 4 0, List.replicate 4 0⟩ ?_ ?_ (Ent.take del0 (Ent.take del0 (Ent.take del0 Ent.refl))) ?_
    · exact ⟨Nat.zero_le _, ms_start⟩
    · exact ⟨rfl, True.intro⟩
    ·
      rintro ⟨i, s, nw, fl⟩ ⟨hi, hms⟩
      show CJ _ _ _ _ _ (([(7, .int .i64 (i : Nat))] : Slots) ++ forget _ _) (Arr bA4 s :: _)
      have hwb : s.writes ≤ 1000000000 := by have := hms.wr; omega
      have ht := tm (m := 4) (by decide) (ls.getD i tyStep.dflt).f1
      have hl1 := hms.l1
      obtain ⟨a, ha, ha4⟩ : ∃ a : Nat, (a : Int) = ((ls.getD i tyStep.dflt).f1.tmod 4 + 4).tmod 4 ∧ a < 4 := ⟨(((ls.getD i tyStep.dflt).f1.tmod 4 + 4).tmod 4).toNat, by omega, by omega⟩
      refine CJ_seq ?_
      refine CJ_seq ?_
      refine CJ_region ?_
      refine RJ_op rfl (OJ_P (P_move rfl) rfl ?_)
      refine RJ_op rfl (OJ_P (P_move rfl) rfl ?_)
      refine RJ_op rfl (OJ_V (V_len rfl foc2 hA Try.runUnderlying36) rfl ?_)
      refine RJ_op rfl (OJ_P (P_lss rfl rfl) rfl ?_)
      refine RJ_nil ?_
      refine QJ_then ?_
      first | (refine CJ_condD rfl (fun hg3 => ?_) (fun hg3 => ?_)) | (refine CJ_condN rfl (fun hg3 => ?_) (fun hg3 => ?_)) | (refine CJ_cond rfl (fun hg3 => ?_) (fun hg3 => ?_))
      ·
        refine CJ_skip ?_
        refine QJ_then ?_
        refine CJ_seq ?_
        refine CJ_block ?_
        refine CJ_seq ?_
        refine CJ_region ?_
        refine RJ_op rfl (OJ_P (P_move rfl) rfl ?_)
        refine RJ_op rfl (OJ_P (P_move rfl) rfl ?_)
        first | (refine RJ_op rfl (OJ_V (V_index rfl rfl rfl (by omega) foc2 hA Try.runUnderlying36 Try.sizeOf46) rfl ?_)) | (refine RJ_op rfl (OJ_V (V_index rfl rfl (Int.toNat_of_nonneg (by omega)).symm (by omega) foc2 hA Try.runUnderlying36 Try.sizeOf46) rfl ?_))
        refine RJ_op rfl (OJ_P (P_fieldE rfl ⟨_, _, _, Try.runUnderlying46, rfl, rfl, Try.sizeOf3, rfl⟩) rfl ?_)
        refine RJ_op rfl (OJ_V (V_loadE rfl rfl (by omega) foc2 hA rfl rfl Try.isAgg3) rfl ?_)
        refine RJ_op rfl (OJ_P (P_eql rfl rfl) rfl ?_)
        refine RJ_nil ?_
        refine QJ_then ?_
        first | (refine CJ_condD rfl (fun hg4 => ?_) (fun hg4 => ?_)) | (refine CJ_condN rfl (fun hg4 => ?_) (fun hg4 => ?_)) | (refine CJ_cond rfl (fun hg4 => ?_) (fun hg4 => ?_))
        ·
          refine CJ_region ?_
          refine RJ_op rfl (OJ_P (P_move rfl) rfl ?_)
          refine RJ_op rfl (O_call (c_FlushD (by first | assumption | decide)) rfl Try.call26 (Dels.cons del0 Dels.nil) rfl (fun _ hc7 => ?_))
          refine RJ_nil ?_
          refine QJ_block_normal ?_
          refine QJ_then ?_
          refine CJ_region ?_
          refine RJ_op rfl (OJ_P (P_move rfl) rfl ?_)
          refine RJ_op rfl (OJ_P (P_add rfl rfl (by omega)) rfl ?_)
          refine RJ_op rfl (OJ_P (P_assign rfl) rfl ?_)
          refine RJ_nil ?_
          refine QJ_nextR ⟨i + 1, _, nw, flDur nw 0 s.log fl⟩ (by first | omega | (simp only []; omega)) ?_ (by repeat (first | exact Kp.base | exact Kp.self | refine Kp.cons rfl ?_ | refine Kp.forget rfl ?_)) ?_ (Ent.take del0 (Ent.take del0 (Ent.take del0 Ent.refl)))
          · exact ⟨by omega, hms.flush⟩
          · exact ⟨rfl, True.intro⟩
        ·
          refine AJ_startH 16384 (by kernel_rfl) rfl ?_
          refine AJ_takeP 0 1 rfl (by kernel_rfl) rfl (GY_none rfl) (P_move rfl) rfl (fun _ _ _ _ h => h) ?_
          refine AJ_takeP 1 3 rfl (by kernel_rfl) rfl (GY_none rfl) (P_move rfl) rfl (fun _ _ _ _ h => h) ?_
          refine AJ_takeP 2 7 rfl (by kernel_rfl) rfl (GY_none rfl) (P_move rfl) rfl (fun _ _ _ _ h => h) ?_
          first | (refine AJ_takeV 3 15 rfl (by kernel_rfl) rfl (by kernel_rfl) (by kernel_rfl) (GY_none rfl) (Ent.take del0 (Ent.take del0 (Ent.take del0 Ent.refl))) (V_index rfl rfl rfl (by omega) foc2 hA Try.runUnderlying36 Try.sizeOf46) rfl (fun _ _ _ _ h => h) ?_) | (refine AJ_takeV 3 15 rfl (by kernel_rfl) rfl (by kernel_rfl) (by kernel_rfl) (GY_none rfl) (Ent.take del0 (Ent.take del0 (Ent.take del0 Ent.refl))) (V_index rfl rfl (Int.toNat_of_nonneg (by omega)).symm (by omega) foc2 hA Try.runUnderlying36 Try.sizeOf46) rfl (fun _ _ _ _ h => h) ?_)
          refine AJ_takeP 4 31 rfl (by kernel_rfl) rfl (GY_none rfl) (P_fieldE rfl ⟨_, _, _, Try.runUnderlying46, rfl, rfl, Try.sizeOf3, rfl⟩) rfl (fun _ _ _ _ h => h) ?_
          refine AJ_takeV 5 63 rfl (by kernel_rfl) rfl (by kernel_rfl) (by kernel_rfl) (GY_none rfl) (Ent.take del0 (Ent.take del0 (Ent.take del0 Ent.refl))) (V_loadE rfl rfl (by omega) foc2 hA rfl rfl Try.isAgg3) rfl (fun _ _ _ _ h => h) ?_
          refine AJ_takeP 6 127 rfl (by kernel_rfl) rfl (GY_none rfl) (P_remT rfl rfl (by omega)) rfl (fun _ _ _ _ h => h) ?_
          refine AJ_takeP 7 255 rfl (by kernel_rfl) rfl (GY_none rfl) (P_add rfl rfl (by omega)) rfl (fun _ _ _ _ h => h) ?_
          refine AJ_takeP 8 511 rfl (by kernel_rfl) rfl (GY_none rfl) (P_remT rfl rfl (by omega)) rfl (fun _ _ _ _ h => h) ?_
          refine AJ_takeP 9 1023 rfl (by kernel_rfl) rfl (GY_none rfl) (P_move rfl) rfl (fun _ _ _ _ h => h) ?_
          refine AJ_takeP 10 2047 rfl (by kernel_rfl) rfl (GY_none rfl) (P_move rfl) rfl (fun _ _ _ _ h => h) ?_
          first | (refine AJ_takeV 11 4095 rfl (by kernel_rfl) rfl (by kernel_rfl) (by kernel_rfl) (GY_none rfl) (Ent.take del0 (Ent.take del0 (Ent.take del0 Ent.refl))) (V_index rfl rfl rfl (by omega) foc2 hA Try.runUnderlying36 Try.sizeOf46) rfl (fun _ _ _ _ h => h) ?_) | (refine AJ_takeV 11 4095 rfl (by kernel_rfl) rfl (by kernel_rfl) (by kernel_rfl) (GY_none rfl) (Ent.take del0 (Ent.take del0 (Ent.take del0 Ent.refl))) (V_index rfl rfl (Int.toNat_of_nonneg (by omega)).symm (by omega) foc2 hA Try.runUnderlying36 Try.sizeOf46) rfl (fun _ _ _ _ h => h) ?_)
          refine AJ_takeP 12 8191 rfl (by kernel_rfl) rfl (GY_none rfl) (P_fieldE rfl ⟨_, _, _, Try.runUnderlying46, rfl, rfl, Try.sizeOf44, rfl⟩) rfl (fun _ _ _ _ h => h) ?_
          refine AJ_takeV 13 16383 rfl (by kernel_rfl) rfl (by kernel_rfl) (by kernel_rfl) (GY_none rfl) (Ent.take del0 (Ent.take del0 (Ent.take del0 Ent.refl))) (V_loadE rfl rfl (by omega) foc2 hA rfl rfl Try.isAgg44) rfl (fun _ _ _ _ h => h) ?_
          refine AJ_op 14 32767 rfl (by kernel_rfl) rfl (GY_none rfl) (O_call (c_Write (by first | assumption | decide)) rfl Try.call25 (Dels.cons del0 Dels.nil) rfl (fun _ hc8 => ?_))
          refine ⟨fun h => absurd h (by decide), ?_⟩
          refine AJ_done (by kernel_rfl) ?_
          refine QJ_block_normal ?_
          refine QJ_then ?_
          refine CJ_region ?_
          refine RJ_op rfl (OJ_P (P_move rfl) rfl ?_)
          refine RJ_op rfl (OJ_P (P_add rfl rfl (by omega)) rfl ?_)
          refine RJ_op rfl (OJ_P (P_assign rfl) rfl ?_)
          refine RJ_nil ?_
          refine QJ_nextR ⟨i + 1, _, nw.set a (ls.getD i tyStep.dflt).f2, fl⟩ (by first | omega | (simp only []; omega)) ?_ (by repeat (first | exact Kp.base | exact Kp.self | refine Kp.cons rfl ?_ | refine Kp.forget rfl ?_)) ?_ (Ent.take del0 (Ent.take del0 (Ent.take del0 Ent.refl)))
          ·
            refine ⟨by omega, ?_⟩
            rw [← ha]; exact hms.write ha4 _
          · exact ⟨rfl, True.intro⟩
      ·
        refine CJ_exit ?_
        refine QJ_then_exit ?_
        refine QJ_round_exit ?_
        refine QJ_block_here ?_
        refine QJ_then ?_
        refine CJ_seq ?_
        refine CJ_region ?_
        refine RJ_op rfl (OJ_P (P_move rfl) rfl ?_)
        refine RJ_op rfl (O_call (c_ImageD) rfl Try.call37 (Dels.cons del0 Dels.nil) rfl (fun _ hc10 => ?_))
        refine RJ_op rfl (OJ_P (P_move rfl) rfl ?_)
        refine RJ_op rfl (OJ_P (P_extract rfl rfl) rfl ?_)
        refine RJ_op rfl (OJ_P (P_extract rfl rfl) rfl ?_)
        refine RJ_op rfl (OJ_P (P_assign rfl) rfl ?_)
        refine RJ_op rfl (OJ_P (P_assign rfl) rfl ?_)
        refine RJ_nil ?_
        refine QJ_then ?_
        refine CJ_seq ?_
        refine CJ_region ?_
        refine RJ_op rfl (OJ_P (P_move rfl) rfl ?_)
        refine RJ_op rfl (O_call (c_Unflushed) rfl Try.call39 (Dels.cons del1 Dels.nil) rfl (fun _ hc11 => ?_))
        refine RJ_op rfl (OJ_P (P_assign rfl) rfl ?_)
        refine RJ_nil ?_
        refine QJ_then ?_
        refine CJ_seq ?_
        refine CJ_seq ?_
        have himL : imL s 0 = nw := by
          rw [imL, if_pos ⟨Int.le_refl 0, by rw [hms.drv]; exact (by decide : (0 : Int) < 2)⟩, hms.drv]; rfl
        rw [himL]
        have hsm := hms.sm (by omega)
        obtain ⟨c1, c2, c3, s3, c4, c5, c6, c7, c8, c9⟩ := hsm.2.w1 hms.lg hk3 (v := 9)
        have hwb1 : (smS s 0 true).writes ≤ 1000000000 := Nat.le_trans hsm.2.wr (by decide)
        have hwb2 : (wrS (smS s 0 true) 1 k 9).writes ≤ 1000000000 := Nat.le_trans c3 (by decide)
        have h2 := MM.last c6 c8 hms.lg hms.l1 c9 hm4
        have hwb4 : (smS s3 0 false).writes ≤ 1000000000 := by rw [h2.2.2.2.2.2.2]; omega
        refine CJ_region ?_
        refine RJ_op rfl (OJ_P (P_move rfl) rfl ?_)
        refine RJ_op rfl (O_call (c_SetMissing) rfl Try.call35 (Dels.cons del0 Dels.nil) rfl (fun _ hc12 => ?_))
        refine RJ_op rfl (OJ_P (P_neq rfl rfl) rfl ?_)
        refine RJ_op rfl (OJ_P (P_move rfl) rfl ?_)
        first | (refine RJ_know 69 false rfl (decide_eq_false (by exact fun h => h hsm.1)) (fun hg5B => ?_)) | (refine RJ_know 69 false rfl (by exact fun h => h hsm.1) (fun hg5B => ?_))
        refine RJ_gy (GY_yes rfl rfl rfl hg5B) (OJ_P (P_move rfl) rfl ?_)
        refine RJ_gy (GY_yes rfl rfl rfl hg5B) (O_call (c_Write (v := 5) (by first | assumption | decide)) rfl Try.call25 (Dels.cons del0 Dels.nil) rfl (fun _ hc13 => ?_))
        rw [(MM.w5 hsm.2 (v := 5)).2]
        refine RJ_gy (GY_yes rfl rfl rfl hg5B) (OJ_P (P_neq rfl rfl) rfl ?_)
        refine RJ_op rfl (OJ_P (P_pickF rfl hg5B rfl) rfl ?_)
        refine RJ_op rfl (OJ_P (P_move rfl) rfl ?_)
        first | (refine RJ_know 74 false rfl (decide_eq_false (by exact fun h => h (MM.w5 hsm.2 (v := 5)).1)) (fun hg6B => ?_)) | (refine RJ_know 74 false rfl (by exact fun h => h (MM.w5 hsm.2 (v := 5)).1) (fun hg6B => ?_))
        refine RJ_gy (GY_yes rfl rfl rfl hg6B) (OJ_P (P_move rfl) rfl ?_)
        refine RJ_gy (GY_yes rfl rfl rfl hg6B) (O_call (c_FlushD (by first | assumption | decide)) rfl Try.call26 (Dels.cons del0 Dels.nil) rfl (fun _ hc14 => ?_))
        rw [(MM.f6 hsm.2).2]
        refine RJ_gy (GY_yes rfl rfl rfl hg6B) (OJ_P (P_neq rfl rfl) rfl ?_)
        refine RJ_op rfl (OJ_P (P_pickF rfl hg6B rfl) rfl ?_)
        refine RJ_op rfl (OJ_P (P_move rfl) rfl ?_)
        first | (refine RJ_know 79 false rfl (decide_eq_false (by exact fun h => h (MM.f6 hsm.2).1)) (fun hg7B => ?_)) | (refine RJ_know 79 false rfl (by exact fun h => h (MM.f6 hsm.2).1) (fun hg7B => ?_))
        refine RJ_gy (GY_yes rfl rfl rfl hg7B) (OJ_P (P_move rfl) rfl ?_)
        refine RJ_gy (GY_yes rfl rfl rfl hg7B) (OJ_P (P_move rfl) rfl ?_)
        refine RJ_gy (GY_yes rfl rfl rfl hg7B) (OJ_P (P_rem rfl rfl (by omega)) rfl ?_)
        refine RJ_gy (GY_yes rfl rfl rfl hg7B) (OJ_P (P_convSame rfl Try.runUnderlying5 Try.runUnderlying3 (by first | rfl | exact wrap64_in (by omega) (by omega))) rfl ?_)
        rw [← hk]
        refine RJ_gy (GY_yes rfl rfl rfl hg7B) (O_call (c_Write (v := 9) (by first | assumption | decide)) rfl Try.call25 (Dels.cons del0 Dels.nil) rfl (fun _ hc15 => ?_))
        refine RJ_gy (GY_yes rfl rfl rfl hg7B) (OJ_P (P_neq rfl rfl) rfl ?_)
        refine RJ_op rfl (OJ_P (P_pickF rfl hg7B rfl) rfl ?_)
        refine RJ_op rfl (OJ_P (P_move rfl) rfl ?_)
        first | (refine RJ_know 87 false rfl (decide_eq_false (by exact fun h => h c1)) (fun hg8B => ?_)) | (refine RJ_know 87 false rfl (by exact fun h => h c1) (fun hg8B => ?_))
        refine RJ_gy (GY_yes rfl rfl rfl hg8B) (OJ_P (P_move rfl) rfl ?_)
        refine RJ_gy (GY_yes rfl rfl rfl hg8B) (O_call (c_FlushD (by first | assumption | decide)) rfl Try.call26 (Dels.cons del0 Dels.nil) rfl (fun _ hc16 => ?_))
        rw [c4]
        refine RJ_gy (GY_yes rfl rfl rfl hg8B) (OJ_P (P_neq rfl rfl) rfl ?_)
        refine RJ_op rfl (OJ_P (P_pickF rfl hg8B rfl) rfl ?_)
        refine RJ_nil ?_
        refine QJ_then ?_
        first | (refine CJ_condF rfl (decide_eq_false (by exact fun h => h c2)) ?_) | (refine CJ_condF rfl (by exact fun h => h c2) ?_)
        refine CJ_skip ?_
        refine QJ_then ?_
        refine CJ_seq ?_
        refine CJ_region ?_
        refine RJ_op rfl (OJ_P (P_move rfl) rfl ?_)
        refine RJ_op rfl (OJ_P (P_move rfl) rfl ?_)
        refine RJ_op rfl (OJ_P (P_rem rfl rfl (by omega)) rfl ?_)
        refine RJ_op rfl (OJ_P (P_convSame rfl Try.runUnderlying5 Try.runUnderlying3 (by first | rfl | exact wrap64_in (by omega) (by omega))) rfl ?_)
        rw [← hm]
        refine RJ_op rfl (O_call (c_Read) rfl Try.call33 (Dels.cons del0 Dels.nil) rfl (fun _ hc17 => ?_))
        refine RJ_op rfl (OJ_P (P_move rfl) rfl ?_)
        refine RJ_op rfl (OJ_P (P_extract rfl rfl) rfl ?_)
        refine RJ_op rfl (OJ_P (P_extract rfl rfl) rfl ?_)
        refine RJ_op rfl (OJ_P (P_assign rfl) rfl ?_)
        refine RJ_op rfl (OJ_P (P_assign rfl) rfl ?_)
        refine RJ_nil ?_
        refine QJ_then ?_
        refine CJ_seq ?_
        refine CJ_region ?_
        refine RJ_op rfl (OJ_P (P_move rfl) rfl ?_)
        refine RJ_op rfl (O_call (c_ImageD) rfl Try.call37 (Dels.cons del0 Dels.nil) rfl (fun _ hc19 => ?_))
        refine RJ_op rfl (OJ_P (P_move rfl) rfl ?_)
        refine RJ_op rfl (OJ_P (P_extract rfl rfl) rfl ?_)
        refine RJ_op rfl (OJ_P (P_extract rfl rfl) rfl ?_)
        refine RJ_op rfl (OJ_P (P_assign rfl) rfl ?_)
        refine RJ_op rfl (OJ_P (P_assign rfl) rfl ?_)
        refine RJ_nil ?_
        refine QJ_then ?_
        refine CJ_seq ?_
        rw [h2.2.2.1]
        refine CJ_region ?_
        refine RJ_op rfl (OJ_P (P_move rfl) rfl ?_)
        refine RJ_op rfl (OJ_P (P_eql rfl rfl) rfl ?_)
        refine RJ_op rfl (OJ_P (P_move rfl) rfl ?_)
        first | (refine RJ_know 107 true rfl (decide_eq_true (by exact h2.1)) (fun hg10B => ?_)) | (refine RJ_know 107 true rfl (by exact h2.1) (fun hg10B => ?_))
        refine RJ_gy (GY_yes rfl rfl rfl hg10B) (OJ_P (P_move rfl) rfl ?_)
        refine RJ_gy (GY_yes rfl rfl rfl hg10B) (OJ_P (P_eql rfl rfl) rfl ?_)
        refine RJ_op rfl (OJ_P (P_pickT rfl hg10B rfl) rfl ?_)
        refine RJ_op rfl (OJ_P (P_move rfl) rfl ?_)
        first | (refine RJ_know 111 true rfl (decide_eq_true (by exact h2.2.1)) (fun hg11B => ?_)) | (refine RJ_know 111 true rfl (by exact h2.2.1) (fun hg11B => ?_))
        refine RJ_gy (GY_yes rfl rfl rfl hg11B) (OJ_P (P_move rfl) rfl ?_)
        refine RJ_gy (GY_yes rfl rfl rfl hg11B) (OJ_P (P_move rfl) rfl ?_)
        refine RJ_gy (GY_yes rfl rfl rfl hg11B) (O_call (c_Same (Reads.sl _ _ _) (Reads.sl _ _ _) (by first | assumption | omega) (by first | assumption | omega)) rfl Try.call38 (Dels.cons del2 (Dels.cons del0 Dels.nil)) rfl (fun _ hc20 => ?_))
        refine RJ_op rfl (OJ_P (P_pickT rfl hg11B rfl) rfl ?_)
        refine RJ_op rfl (OJ_P (P_move rfl) rfl ?_)
        first | (refine RJ_know 116 true rfl (decide_eq_true (by rfl)) (fun hg12B => ?_)) | (refine RJ_know 116 true rfl (by rfl) (fun hg12B => ?_))
        refine RJ_gy (GY_yes rfl rfl rfl hg12B) (OJ_P (P_move rfl) rfl ?_)
        refine RJ_gy (GY_yes rfl rfl rfl hg12B) (O_call (c_Unflushed) rfl Try.call39 (Dels.cons del2 Dels.nil) rfl (fun _ hc21 => ?_))
        refine RJ_gy (GY_yes rfl rfl rfl hg12B) (OJ_P (P_move rfl) rfl ?_)
        refine RJ_gy (GY_yes rfl rfl rfl hg12B) (OJ_P (P_eql rfl rfl) rfl ?_)
        refine RJ_op rfl (OJ_P (P_pickT rfl hg12B rfl) rfl ?_)
        refine RJ_op rfl (OJ_P (P_move rfl) rfl ?_)
        first | (refine RJ_know 122 true rfl (decide_eq_true (by rw [c8])) (fun hg13B => ?_)) | (refine RJ_know 122 true rfl (by rw [c8]) (fun hg13B => ?_))
        refine RJ_gy (GY_yes rfl rfl rfl hg13B) (OJ_P (P_move rfl) rfl ?_)
        refine RJ_gy (GY_yes rfl rfl rfl hg13B) (O_call (c_SetMissing) rfl Try.call35 (Dels.cons del0 Dels.nil) rfl (fun _ hc22 => ?_))
        refine RJ_gy (GY_yes rfl rfl rfl hg13B) (OJ_P (P_eql rfl rfl) rfl ?_)
        refine RJ_op rfl (OJ_P (P_pickT rfl hg13B rfl) rfl ?_)
        refine RJ_op rfl (OJ_P (P_move rfl) rfl ?_)
        first | (refine RJ_know 127 true rfl (decide_eq_true (by exact h2.2.2.2.1)) (fun hg14B => ?_)) | (refine RJ_know 127 true rfl (by exact h2.2.2.2.1) (fun hg14B => ?_))
        refine RJ_gy (GY_yes rfl rfl rfl hg14B) (OJ_P (P_move rfl) rfl ?_)
        refine RJ_gy (GY_yes rfl rfl rfl hg14B) (O_call (c_FlushD (by first | assumption | decide)) rfl Try.call26 (Dels.cons del0 Dels.nil) rfl (fun _ hc23 => ?_))
        refine RJ_gy (GY_yes rfl rfl rfl hg14B) (OJ_P (P_eql rfl rfl) rfl ?_)
        refine RJ_op rfl (OJ_P (P_pickT rfl hg14B rfl) rfl ?_)
        refine RJ_op rfl (OJ_P (P_move rfl) rfl ?_)
        first | (refine RJ_know 132 true rfl (decide_eq_true (by exact h2.2.2.2.2.1)) (fun hg15B => ?_)) | (refine RJ_know 132 true rfl (by exact h2.2.2.2.2.1) (fun hg15B => ?_))
        refine RJ_gy (GY_yes rfl rfl rfl hg15B) (OJ_P (P_move rfl) rfl ?_)
        refine RJ_gy (GY_yes rfl rfl rfl hg15B) (O_call (c_Unflushed) rfl Try.call39 (Dels.cons del0 Dels.nil) rfl (fun _ hc24 => ?_))
        refine RJ_gy (GY_yes rfl rfl rfl hg15B) (OJ_P (P_eql rfl rfl) rfl ?_)
        refine RJ_op rfl (OJ_P (P_pickT rfl hg15B rfl) rfl ?_)
        refine RJ_op rfl (OJ_P (P_move rfl) rfl ?_)
        first | (refine RJ_know 137 true rfl (decide_eq_true (by rw [h2.2.2.2.2.2.1]; rfl)) (fun hg16B => ?_)) | (refine RJ_know 137 true rfl (by rw [h2.2.2.2.2.2.1]; rfl) (fun hg16B => ?_))
        refine RJ_gy (GY_yes rfl rfl rfl hg16B) (O_call (c_awake04) rfl Try.call21 Dels.nil rfl (fun _ hc25 => ?_))
        refine RJ_op rfl (OJ_P (P_pickT rfl hg16B rfl) rfl ?_)
        refine RJ_op rfl (OJ_P (P_assign rfl) rfl ?_)
        refine RJ_nil ?_
        refine QJ_then ?_
        refine CJ_ret ?_
        refine QJ_end (res1 Try.results9 rfl) ?_
        refine CSpec.close () ?_ ?_ (Ent.take del4 (Ent.drop (Ent.drop (Ent.drop (Ent.drop Ent.refl)))))
        · rfl
        · trivial

end Go.Proofs
