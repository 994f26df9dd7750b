/- YtdmlbbioljfngaaCDisk2: contracts of functions of the program, walked rule by rule; printed by vg.py. -/
import Derived.Test.YtdmlbbioljfngaaCDisk1
set_option linter.unusedSimpArgs false
set_option maxRecDepth 20000
namespace Go.Proofs
open Go.VG
theorem bs_52_1_0 (v0 : Bool) : BuildsSlice Try.prog 52 1 [(0, .bool v0)] 4 [.bool v0] := fun w => by kernel_rfl
theorem bs_23_1_0 (v0 : Int) : BuildsSlice Try.prog 23 1 [(0, .int .i64 v0)] 3 [.int .i64 v0] := fun w => by kernel_rfl
theorem bs_23_2_0_1 (v0 : Int) (v1 : Int) : BuildsSlice Try.prog 23 2 [(0, .int .i64 v0), (1, .int .i64 v1)] 3 [.int .i64 v0, .int .i64 v1] := fun w => by kernel_rfl

/-- What survives: bit i mod 64. -/
def keepB (u : UInt64) (i : Nat) : Bool := decide ((((shrU u (i % 64)) &&& 1).toNat : Int) = 1)
def keepL (u : UInt64) : List Bool := (List.range 192).map (keepB u)
theorem keepL_step (u : UInt64) (k : Nat) : (List.range k).map (keepB u) ++ [keepB u k] = (List.range (k + 1)).map (keepB u) := by
  rw [List.range_succ, List.map_append]; rfl

theorem dec0 {p : Prop} [Decidable p] (h : p) : (if p then (0 : Int) else 1) = 0 := if_pos h
theorem wrC_zero {s : ArrS} {i k : Nat} (h1 : s.down = false) (h2 : i < s.drv.length) (h3 : k < (s.drv.getD i d0).now.length) (h4 : (s.drv.getD i d0).miss = false) : wrC s i k = 0 := by
  have hR : inR s i := ⟨by omega, by omega⟩
  have e1 : cPow s = 0 := by simp [cPow, h1]
  have e2 : cLoc s i = 0 := if_pos hR
  have e3 : cPla s i k = 0 := by
    refine if_pos ⟨by omega, ?_⟩
    rw [sizeI, if_pos hR]
    show (k : Int) < ((s.drv.getD i d0).now.length : Int)
    omega
  have e4 : cPre s i = 0 := by
    have : missI s i = false := h4
    simp [cPre, this]
  simp [wrC, fz, e1, e2, e3, e4]
theorem rdC_zero {s : ArrS} {i k : Nat} (h1 : s.down = false) (h2 : i < s.drv.length) (h3 : k < (s.drv.getD i d0).now.length) (h4 : (s.drv.getD i d0).miss = false) (h5 : isBad s i k = false) : rdC s i k = 0 := by
  have h := wrC_zero h1 h2 h3 h4
  simp only [wrC, fz_cons] at h
  obtain ⟨e1, e2, e3, e4, _⟩ := h
  have e5 : cWho s i k = 0 := by simp [cWho, h5]
  simp [rdC, fz, e1, e2, e3, e4, e5]
theorem wrC_range {s : ArrS} {i : Nat} {a : Int} (h1 : s.down = false) (h2 : i < s.drv.length) (h3 : ((s.drv.getD i d0).now.length : Int) ≤ a) : wrC s i a = 1 := by
  have hR : inR s i := ⟨by omega, by omega⟩
  have e1 : cPow s = 0 := by simp [cPow, h1]
  have e2 : cLoc s i = 0 := if_pos hR
  have e3 : cPla s i a = 1 := by
    refine if_neg ?_
    rw [sizeI, if_pos hR]
    show ¬ (0 ≤ a ∧ a < ((s.drv.getD i d0).now.length : Int))
    omega
  simp [wrC, fz, e1, e2, e3]
theorem wrC_miss {s : ArrS} {i k : Nat} (h1 : s.down = false) (h2 : i < s.drv.length) (h3 : k < (s.drv.getD i d0).now.length) (h4 : (s.drv.getD i d0).miss = true) : wrC s i k = 6 := by
  have hR : inR s i := ⟨by omega, by omega⟩
  have e1 : cPow s = 0 := by simp [cPow, h1]
  have e2 : cLoc s i = 0 := if_pos hR
  have e3 : cPla s i k = 0 := by
    refine if_pos ⟨by omega, ?_⟩
    rw [sizeI, if_pos hR]
    show (k : Int) < ((s.drv.getD i d0).now.length : Int)
    omega
  have e4 : cPre s i = 6 := by
    have : missI s i = true := h4
    simp [cPre, this]
  simp [wrC, fz, e1, e2, e3, e4]
structure FS (k i : Nat) (t : Bool) (s : ArrS) : Prop where
  len : s.drv.length = 2
  sz : ∀ j, j < 2 → (s.drv.getD j d0).now.length = 4
  m0 : (s.drv.getD 0 d0).miss = false
  m1 : (s.drv.getD 1 d0).miss = t
  dn : s.down = false
  bad : s.bad = []
  wr : s.writes + 1 = i
  fu : s.fuse + i = k + 1
  dz : (s.drv.getD 0 d0).dur.length = 4
  du : ∀ j, (s.drv.getD 0 d0).dur.getD j 0 ≠ 77
  lg : ∀ r ∈ s.log, r.v ≠ 77
theorem FS.w1 {k i : Nat} {t : Bool} {s : ArrS} (h : FS k i t s) (ht : t = true) {v : UInt64} : wrR s 1 0 = 6 ∧ wrS s 1 0 v = s := by
  have e : wrC s 1 0 = 6 := wrC_miss (i := 1) (k := 0) h.dn (by rw [h.len]; decide) (by rw [h.sz 1 (by decide)]; decide) (h.m1.trans ht)
  exact ⟨by rw [wrR, e]; rfl, wrS_bad (by rw [e]; decide)⟩
theorem FS.w2 {k i : Nat} {t : Bool} {s : ArrS} (h : FS k i t s) {v : UInt64} : wrR s 0 9 = 1 ∧ wrS s 0 9 v = s := by
  have e : wrC s 0 9 = 1 := wrC_range (i := 0) (a := 9) h.dn (by rw [h.len]; decide) (by rw [h.sz 0 (by decide)]; decide)
  exact ⟨by rw [wrR, e]; rfl, wrS_bad (by rw [e]; decide)⟩
theorem FS.c0 {k i : Nat} {t : Bool} {s : ArrS} (h : FS k i t s) (a : Nat) (ha : a < 4) : wrC s 0 a = 0 :=
  wrC_zero (i := 0) (k := a) h.dn (by rw [h.len]; decide) (by rw [h.sz 0 (by decide)]; exact ha) h.m0
theorem FS.w3 {k i : Nat} {t : Bool} {s : ArrS} (h : FS k i t s) (hi : i < k) (hk : k ≤ 20) {a : Int} (ha : a = ((i % 4 : Nat) : Int)) : wrR s 0 a = 0 ∧ FS k (i + 1) t (wrS s 0 a (uOf i)) := by
  subst ha
  have h4 : i % 4 < 4 := Nat.mod_lt _ (by decide)
  have e : wrC s ((0 : Nat) : Int) ((i % 4 : Nat) : Int) = 0 := h.c0 (i % 4) h4
  have hf : s.fuse ≠ 1 := by have := h.fu; omega
  have h2 : 0 < s.drv.length := by rw [h.len]; decide
  have hs : wrS s ((0 : Nat) : Int) ((i % 4 : Nat) : Int) (uOf i) = _ := wrS_ok (v := uOf i) e hf
  refine ⟨wrR_ok e hf, ?_⟩
  show FS k (i + 1) t (wrS s ((0 : Nat) : Int) ((i % 4 : Nat) : Int) (uOf i))
  rw [hs]
  have hz := fun j => setNow_size (k := i % 4) (j := j) (v := uOf i) h2
  have hmiss : ∀ j, ((setNow s 0 (i % 4) (uOf i)).getD j d0).miss = (s.drv.getD j d0).miss := fun j => by
    rw [setNow_at h2]; split
    · rename_i hj; rw [hj]
    · rfl
  exact { len := setNow_len.trans h.len, sz := fun j hj => (hz j).1.trans (h.sz j hj), m0 := (hmiss 0).trans h.m0, m1 := (hmiss 1).trans h.m1, dn := h.dn, bad := by simp [h.bad, delM, findE], wr := by have := h.wr; show s.writes + 1 + 1 = _; omega,
          fu := by have := h.fu; show s.fuse - 1 + _ = _; omega, dz := by have := (hz 0).2; dsimp only; rw [this]; exact h.dz, du := fun j => by have := (hz 0).2; dsimp only; rw [this]; exact h.du j,
          lg := fun r hr => by
            rcases List.mem_append.1 hr with hr | hr
            · exact h.lg r hr
            · simp at hr; subst hr
              intro e
              have h1 := uOf_toNat i
              have e2 : uOf i = 77 := e
              rw [e2] at h1
              have : ((77 : UInt64).toNat : Int) = 77 := rfl
              omega }
theorem putD_ne {ds : List Drive} {r : Rec} (h1 : ∀ j, (ds.getD 0 d0).dur.getD j 0 ≠ 77) (h2 : r.v ≠ 77) : ∀ j, ((putD ds r).getD 0 d0).dur.getD j 0 ≠ 77 := by
  intro j
  unfold putD
  by_cases hr : r.d < ds.length
  · rw [set_at hr]; split
    · rename_i h; rw [← h]
      show (List.set _ _ _).getD j 0 ≠ 77
      simp only [List.getD, List.getElem?_set]
      split
      · split
        · simpa using h2
        · simp
      · exact h1 j
    · exact h1 j
  · rw [List.set_eq_of_length_le (by omega)]; exact h1 j
theorem rsGo_ne (ks : List Bool) : ∀ (log : List Rec) (n : Nat) (ds : List Drive), (∀ j, (ds.getD 0 d0).dur.getD j 0 ≠ 77) → (∀ r ∈ log, r.v ≠ 77) → ∀ j, ((rsGo ks n log ds).getD 0 d0).dur.getD j 0 ≠ 77
  | [], _, _, h, _ => h
  | r :: log, n, ds, h, hl => by
    simp only [rsGo]
    refine rsGo_ne ks log (n + 1) _ ?_ (fun r hr => hl r (by simp [hr]))
    split
    · exact putD_ne h (hl r (by simp))
    · exact h
/-- Behind the last write. -/
structure FE (k : Nat) (s : ArrS) : Prop where
  fs : s.drv.length = 2
  sz : (s.drv.getD 0 d0).dur.length = 4
  m0 : (s.drv.getD 0 d0).miss = false
  dn : s.down = true
  bad : s.bad = []
  wr : s.writes ≤ 20
  du : ∀ j, (s.drv.getD 0 d0).dur.getD j 0 ≠ 77
  lg : ∀ r ∈ s.log, r.v ≠ 77
theorem FS.last {k : Nat} {t : Bool} {s : ArrS} (h : FS k k t s) (hk : k ≤ 20) {v : UInt64} : wrR s 0 0 = 5 ∧ FE k (wrS s 0 0 v) := by
  have e : wrC s ((0 : Nat) : Int) ((0 : Nat) : Int) = 0 := h.c0 0 (by decide)
  have hf : s.fuse = 1 := by have := h.fu; omega
  refine ⟨wrR_fuse e hf, ?_⟩
  have hs : wrS s ((0 : Nat) : Int) ((0 : Nat) : Int) v = _ := wrS_fuse e hf
  show FE k (wrS s ((0 : Nat) : Int) ((0 : Nat) : Int) v)
  rw [hs]
  exact { fs := h.len, sz := h.dz, m0 := h.m0, dn := rfl, bad := h.bad, wr := by have := h.wr; show s.writes ≤ 20; omega, du := h.du, lg := h.lg }
theorem FE.fl {k : Nat} {s : ArrS} (h : FE k s) (d : Int) : flC s d = 5 ∧ flS s d = s := by
  have e1 : cPow s = 5 := by simp [cPow, h.dn]
  have e : flC s d = 5 := by simp [flC, fz, e1]
  exact ⟨e, flS_bad (by rw [e]; decide)⟩
theorem FE.rd {k : Nat} {s : ArrS} (h : FE k s) : rdC s 0 0 = 5 := by
  have e1 : cPow s = 5 := by simp [cPow, h.dn]
  simp [rdC, fz, e1]
theorem FE.rs {k : Nat} {s : ArrS} (h : FE k s) (ks : List Bool) : (rsS s ks).writes ≤ 1000000000 ∧ rdC (rsS s ks) 0 0 = 0 ∧ rdV (rsS s ks) 0 0 ≠ 77 ∧ wrR (rsS s ks) 0 0 = 0 := by
  have hk := rsGo_keep ks s.log 0 s.drv 0
  have hl : (rsS s ks).drv.length = 2 := by simp [rsS, hk.1, h.fs]
  have hn : ((rsS s ks).drv.getD 0 d0).now.length = 4 := by rw [rs_at]; show ((rsGo ks 0 s.log s.drv).getD 0 d0).dur.length = 4; rw [hk.2.2.1]; exact h.sz
  have hm : ((rsS s ks).drv.getD 0 d0).miss = false := by rw [rs_at]; exact hk.2.2.2.trans h.m0
  have c1 : rdC (rsS s ks) ((0 : Nat) : Int) ((0 : Nat) : Int) = 0 := rdC_zero rfl (by rw [hl]; decide) (by rw [hn]; decide) hm (by simp [isBad, rsS, h.bad, lookM])
  have c2 : wrC (rsS s ks) ((0 : Nat) : Int) ((0 : Nat) : Int) = 0 := wrC_zero rfl (by rw [hl]; decide) (by rw [hn]; decide) hm
  refine ⟨Nat.le_trans h.wr (by decide), c1, ?_, wrR_ok c2 (by simp [rsS])⟩
  have : rdV (rsS s ks) 0 0 = nowAt (rsS s ks) 0 0 := if_pos c1
  rw [this]
  show ((rsS s ks).drv.getD 0 d0).now.getD 0 0 ≠ 77
  rw [rs_at]
  exact rsGo_ne ks s.log 0 s.drv h.du h.lg 0
theorem ne77 {v : UInt64} (h : v ≠ 77) : ¬ ((v.toNat : Int) = 77) := fun e => h (by
  apply UInt64.toNat_inj.1
  show v.toNat = 77
  omega)
theorem fs_start {k : Nat} {t : Bool} : FS k 1 t { smS (newS [4, 4]) 1 t with fuse := ((k : Int)).toNat } where
  len := by cases t <;> (dsimp only; decide +kernel)
  sz := fun j hj => by
    have : j = 0 ∨ j = 1 := by omega
    rcases this with rfl | rfl <;> cases t <;> (dsimp only; decide +kernel)
  m0 := by cases t <;> (dsimp only; decide +kernel)
  m1 := by cases t <;> (dsimp only; decide +kernel)
  dn := by cases t <;> (dsimp only; decide +kernel)
  bad := by cases t <;> rfl
  wr := by cases t <;> (dsimp only; decide +kernel)
  fu := by simp
  dz := by cases t <;> (dsimp only; decide +kernel)
  du := fun j => by
    have : ∀ t, ((smS (newS [4, 4]) 1 t).drv.getD 0 d0).dur = List.replicate 4 0 := by intro t; cases t <;> rfl
    dsimp only; rw [this]
    simp only [List.getD, List.getElem?_replicate]
    split <;> simp
  lg := fun r hr => by
    have : (smS (newS [4, 4]) 1 t).log = [] := by cases t <;> rfl
    have hr' : r ∈ (smS (newS [4, 4]) 1 t).log := hr
    rw [this] at hr'; cases hr'

theorem c_Keep {W : World} {u : UInt64} :
    CSpec Try.prog W 32 [.int .u64 (u.toNat : Int)] [] (fun x : Sl3 => x.v) (fun _ => True) (fun x F => sl tyB x.v (keepL u) :: F) := by
  refine CSpec.of_body Try.func32 rfl Try.ntmps32 rfl (fun F => ?_)
  show CJ _ _ _ _ _ _ (F)
  refine CJ_seq ?_
  refine CJ_region ?_
  refine RJ_op rfl (OJ_P (P_assign rfl) rfl ?_)
  refine RJ_nil ?_
  refine QJ_then ?_
  refine CJ_seq ?_
  refine CJ_region ?_
  refine RJ_op rfl (OJ_P (P_assign rfl) rfl ?_)
  refine RJ_nil ?_
  refine QJ_then ?_
  refine CJ_seq ?_
  refine CJ_seq ?_
  refine CJ_region ?_
  refine RJ_op rfl (OJ_P (P_assign rfl) rfl ?_)
  refine RJ_nil ?_
  refine QJ_then ?_
  refine CJ_block ?_
  refine CJ_ent (fun h hh => sl_nil (t := tyB) h hh) ?_
  refine CJ_loopR (X := Nat × Sl3) [3, 4, 5, 6, 7, 8, 9, 10, 11, 12, 13, 14, 15, 16, 17] (fun ⟨k, rv⟩  => ([(4, .int .i64 (k : Nat)), (3, rv.v)] : Slots)) (fun ⟨k, rv⟩ R => sl tyB rv.v ((List.range k).map (keepB u)) :: R) (fun ⟨k, rv⟩  => k ≤ 192) (fun ⟨k, rv⟩  => 192 - k) ⟨0, ⟨none, 0, 0⟩⟩ ?_ ?_ (Ent.take del0 Ent.refl) ?_
  · omega
  · exact ⟨rfl, rfl, True.intro⟩
  ·
    rintro ⟨k, rv⟩ hk
    show CJ _ _ _ _ _ (([(4, .int .i64 (k : Nat)), (3, rv.v)] : Slots) ++ forget _ _) (sl tyB rv.v ((List.range k).map (keepB u)) :: _)
    have hlen : ((List.range k).map (keepB u)).length = k := by simp
    refine CJ_seq ?_
    refine CJ_seq ?_
    refine CJ_region ?_
    refine RJ_op rfl (OJ_P (P_move rfl) rfl ?_)
    refine RJ_op rfl (OJ_P (P_lss rfl rfl) rfl ?_)
    refine RJ_nil ?_
    refine QJ_then ?_
    first | (refine CJ_condD rfl (fun hg1 => ?_) (fun hg1 => ?_)) | (refine CJ_condN rfl (fun hg1 => ?_) (fun hg1 => ?_)) | (refine CJ_cond rfl (fun hg1 => ?_) (fun hg1 => ?_))
    ·
      refine CJ_skip ?_
      refine QJ_then ?_
      refine CJ_seq ?_
      refine CJ_block ?_
      refine CJ_region ?_
      refine RJ_op rfl (OJ_P (P_move rfl) rfl ?_)
      refine RJ_op rfl (OJ_P (P_move rfl) rfl ?_)
      refine RJ_op rfl (OJ_P (P_move rfl) rfl ?_)
      refine RJ_op rfl (OJ_P (P_rem rfl rfl (by omega)) rfl ?_)
      refine RJ_op rfl (OJ_P (P_shrU (a := u) (m := k % 64) rfl rfl (by omega) (by omega)) rfl ?_)
      refine RJ_op rfl (OJ_P (P_andU (a := shrU u (k % 64)) (b := 1) rfl rfl) rfl ?_)
      refine RJ_op rfl (OJ_P (P_eql rfl rfl) rfl ?_)
      refine RJ_op rfl (O_buildSlice rfl (bs_52_1_0 _) rfl (fun b1 => ?_))
      refine RJ_op rfl (O_append (t := tyB) (bytes := 1) rfl rfl del1 foc0 (Reads.lit (t := tyB) (ys := [keepB u k]) rfl rfl (by decide) (by decide) rfl) Try.underlying52 ok_tyB (by simp only [List.length_append, List.length_cons, List.length_nil, maxLen] at *; omega) (by simp only [List.length_append, List.length_cons, List.length_nil, maxLen] at *; omega) rfl (fun p2 c3 => ?_))
      refine RJ_op rfl (OJ_P (P_assign rfl) rfl ?_)
      refine RJ_nil ?_
      refine QJ_block_normal ?_
      refine QJ_then ?_
      refine CJ_region ?_
      refine RJ_op rfl (OJ_P (P_move rfl) rfl ?_)
      refine RJ_op rfl (OJ_P (P_add rfl rfl (by omega)) rfl ?_)
      refine RJ_op rfl (OJ_P (P_assign rfl) rfl ?_)
      refine RJ_nil ?_
      refine QJ_nextR ⟨k + 1, ⟨p2, _, c3⟩⟩ (by first | omega | (simp only []; omega)) ?_ (by repeat (first | exact Kp.base | exact Kp.self | refine Kp.cons rfl ?_ | refine Kp.forget rfl ?_)) ?_ (Ent.takeC del0 (congrArg (sl tyB _) (keepL_step u k)) (Ent.drop Ent.refl))
      · omega
      · exact ⟨rfl, rfl, True.intro⟩
    ·
      refine CJ_exit ?_
      refine QJ_then_exit ?_
      refine QJ_round_exit ?_
      refine QJ_block_here ?_
      refine QJ_then ?_
      refine CJ_seq ?_
      refine CJ_region ?_
      refine RJ_op rfl (OJ_P (P_move rfl) rfl ?_)
      refine RJ_op rfl (OJ_P (P_assign rfl) rfl ?_)
      refine RJ_nil ?_
      refine QJ_then ?_
      refine CJ_ret ?_
      refine QJ_end (res1 Try.results32 rfl) ?_
      obtain rfl : k = 192 := by omega
      refine CSpec.close rv ?_ ?_ (Ent.take del0 Ent.refl)
      · rfl
      · trivial

theorem c_awake04 {W : World}  :
    CSpec Try.prog W 21 [] [] (fun _ : Unit => .bool true) (fun _ => True) (fun _ F => F) := by
  refine CSpec.of_body Try.func21 rfl Try.ntmps21 rfl (fun F => ?_)
  show CJ _ _ _ _ _ _ (F)
  refine CJ_seq ?_
  refine CJ_region ?_
  refine RJ_op rfl (OJ_P (P_assign rfl) rfl ?_)
  refine RJ_nil ?_
  refine QJ_then ?_
  refine CJ_seq ?_
  refine CJ_region ?_
  refine RJ_op rfl (O_buildSlice rfl (bs_23_1_0 _) rfl (fun b1 => ?_))
  refine RJ_ent (Ent.trans (Ent.take del0 Ent.refl) (sl_of_lit (t := tyI) (m := 1) [2] rfl rfl rfl (by decide))) ?_
  refine RJ_op rfl (O_call (c_New (Reads.sl _ _ _) (by first | assumption | exact newOk_of (by decide) (by decide))) rfl Try.call22 (Dels.cons del0 Dels.nil) rfl (fun bA2 hc4 => ?_))
  refine RJ_op rfl (OJ_P (P_move rfl) rfl ?_)
  refine RJ_op rfl (OJ_P (P_extract rfl rfl) rfl ?_)
  refine RJ_op rfl (OJ_P (P_extract rfl rfl) rfl ?_)
  refine RJ_op rfl (OJ_P (P_assign rfl) rfl ?_)
  refine RJ_op rfl (OJ_P (P_assign rfl) rfl ?_)
  refine RJ_nil ?_
  refine QJ_then ?_
  refine CJ_seq ?_
  refine CJ_seq ?_
  refine CJ_region ?_
  refine RJ_op rfl (OJ_P (P_move rfl) rfl ?_)
  refine RJ_op rfl (OJ_P (P_neq rfl rfl) rfl ?_)
  refine RJ_op rfl (OJ_P (P_move rfl) rfl ?_)
  first | (refine RJ_know 12 false rfl (decide_eq_false (by decide)) (fun hg1B => ?_)) | (refine RJ_know 12 false rfl (by decide) (fun hg1B => ?_))
  refine RJ_gy (GY_yes rfl rfl rfl hg1B) (OJ_P (P_move rfl) rfl ?_)
  refine RJ_gy (GY_yes rfl rfl rfl hg1B) (OJ_P (P_eqlPN rfl rfl Try.underlying38) rfl ?_)
  refine RJ_op rfl (OJ_P (P_pickF rfl hg1B rfl) rfl ?_)
  refine RJ_op rfl (OJ_P (P_move rfl) rfl ?_)
  refine RJ_gy (GY_yes rfl rfl rfl rfl) (OJ_P (P_move rfl) rfl ?_)
  refine RJ_gy (GY_yes rfl rfl rfl rfl) (O_call (c_Write (v := 5) (by first | assumption | decide)) rfl Try.call25 (Dels.cons del0 Dels.nil) rfl (fun _ hc5 => ?_))
  refine RJ_gy (GY_yes rfl rfl rfl rfl) (OJ_P (P_neq rfl rfl) rfl ?_)
  refine RJ_op rfl (OJ_P (P_pickF rfl rfl rfl) rfl ?_)
  refine RJ_op rfl (OJ_P (P_move rfl) rfl ?_)
  first | (refine RJ_know 21 false rfl (decide_eq_false (by decide +kernel)) (fun hg2B => ?_)) | (refine RJ_know 21 false rfl (by decide +kernel) (fun hg2B => ?_))
  refine RJ_gy (GY_yes rfl rfl rfl hg2B) (OJ_P (P_move rfl) rfl ?_)
  refine RJ_gy (GY_yes rfl rfl rfl hg2B) (O_call (c_FlushD (by first | assumption | decide)) rfl Try.call26 (Dels.cons del0 Dels.nil) rfl (fun _ hc6 => ?_))
  refine RJ_gy (GY_yes rfl rfl rfl hg2B) (OJ_P (P_neq rfl rfl) rfl ?_)
  refine RJ_op rfl (OJ_P (P_pickF rfl hg2B rfl) rfl ?_)
  refine RJ_op rfl (OJ_P (P_move rfl) rfl ?_)
  first | (refine RJ_know 26 false rfl (decide_eq_false (by decide +kernel)) (fun hg3B => ?_)) | (refine RJ_know 26 false rfl (by decide +kernel) (fun hg3B => ?_))
  refine RJ_gy (GY_yes rfl rfl rfl hg3B) (OJ_P (P_move rfl) rfl ?_)
  refine RJ_gy (GY_yes rfl rfl rfl hg3B) (O_call (c_Write (v := 6) (by first | assumption | decide)) rfl Try.call25 (Dels.cons del0 Dels.nil) rfl (fun _ hc7 => ?_))
  refine RJ_gy (GY_yes rfl rfl rfl hg3B) (OJ_P (P_neq rfl rfl) rfl ?_)
  refine RJ_op rfl (OJ_P (P_pickF rfl hg3B rfl) rfl ?_)
  refine RJ_nil ?_
  refine QJ_then ?_
  first | (refine CJ_condF rfl (decide_eq_false (by decide +kernel)) ?_) | (refine CJ_condF rfl (by decide +kernel) ?_)
  refine CJ_skip ?_
  refine QJ_then ?_
  refine CJ_seq ?_
  refine CJ_region ?_
  refine RJ_op rfl (OJ_P (P_move rfl) rfl ?_)
  refine RJ_op rfl (O_buildSlice rfl (bs_52_1_0 _) rfl (fun b8 => ?_))
  refine RJ_ent (Ent.trans (Ent.take del0 Ent.refl) (sl_of_lit (t := tyB) (m := 1) [false] rfl rfl rfl (by decide))) ?_
  refine RJ_op rfl (O_call (c_Restart (Reads.sl _ _ _) (by first | assumption | decide)) rfl Try.call31 (Dels.cons del1 (Dels.cons del0 Dels.nil)) rfl (fun _ hc9 => ?_))
  refine RJ_nil ?_
  refine QJ_then ?_
  refine CJ_seq ?_
  refine CJ_region ?_
  refine RJ_op rfl (OJ_P (P_move rfl) rfl ?_)
  refine RJ_op rfl (O_call (c_Read) rfl Try.call33 (Dels.cons del0 Dels.nil) rfl (fun _ hc10 => ?_))
  refine RJ_op rfl (OJ_P (P_move rfl) rfl ?_)
  refine RJ_op rfl (OJ_P (P_extract rfl rfl) rfl ?_)
  refine RJ_op rfl (OJ_P (P_extract rfl rfl) rfl ?_)
  refine RJ_op rfl (OJ_P (P_assign rfl) rfl ?_)
  refine RJ_op rfl (OJ_P (P_assign rfl) rfl ?_)
  refine RJ_nil ?_
  refine QJ_then ?_
  refine CJ_seq ?_
  refine CJ_region ?_
  refine RJ_op rfl (OJ_P (P_move rfl) rfl ?_)
  refine RJ_op rfl (OJ_P (P_eql rfl rfl) rfl ?_)
  refine RJ_op rfl (OJ_P (P_move rfl) rfl ?_)
  first | (refine RJ_know 41 true rfl (decide_eq_true (by decide +kernel)) (fun hg5B => ?_)) | (refine RJ_know 41 true rfl (by decide +kernel) (fun hg5B => ?_))
  refine RJ_gy (GY_yes rfl rfl rfl hg5B) (OJ_P (P_move rfl) rfl ?_)
  refine RJ_gy (GY_yes rfl rfl rfl hg5B) (OJ_P (P_eql rfl rfl) rfl ?_)
  refine RJ_op rfl (OJ_P (P_pickT rfl hg5B rfl) rfl ?_)
  refine RJ_op rfl (OJ_P (P_assign rfl) rfl ?_)
  refine RJ_nil ?_
  refine QJ_then ?_
  refine CJ_ret ?_
  refine QJ_end (res1 Try.results21 rfl) ?_
  refine CSpec.close () ?_ ?_ (Ent.drop (Ent.drop (Ent.drop Ent.refl)))
  · rfl
  · trivial

theorem c_DiskFuses {W : World} {n : Int} {t : Bool} (hn : 0 ≤ n ∧ n ≤ 255) :
    CSpec Try.prog W 7 [.int .u8 n, .bool t] [] (fun _ : Unit => .bool true) (fun _ => True) (fun _ F => F) := by
  obtain ⟨k, hk, hk1, hk2⟩ : ∃ k : Nat, (k : Int) = 1 + n % 20 ∧ 1 ≤ k ∧ k ≤ 20 := ⟨(1 + n % 20).toNat, by omega, by omega, by omega⟩
  refine CSpec.of_body Try.func7 rfl Try.ntmps7 rfl (fun F => ?_)
  show CJ _ _ _ _ _ _ (F)
  refine CJ_seq ?_
  refine CJ_region ?_
  refine RJ_op rfl (OJ_P (P_assign rfl) rfl ?_)
  refine RJ_nil ?_
  refine QJ_then ?_
  refine CJ_seq ?_
  refine CJ_region ?_
  refine RJ_op rfl (OJ_P (P_move rfl) rfl ?_)
  refine RJ_op rfl (OJ_P (P_rem rfl rfl (by omega)) rfl ?_)
  refine RJ_op rfl (OJ_P (P_convSame rfl Try.runUnderlying5 Try.runUnderlying3 (by first | rfl | exact wrap64_in (by omega) (by omega))) rfl ?_)
  refine RJ_op rfl (OJ_P (P_add rfl rfl (by omega)) rfl ?_)
  refine RJ_op rfl (OJ_P (P_assign rfl) rfl ?_)
  refine RJ_nil ?_
  refine QJ_then ?_
  refine CJ_seq ?_
  refine CJ_region ?_
  refine RJ_op rfl (O_buildSlice rfl (bs_23_2_0_1 _ _) rfl (fun b1 => ?_))
  refine RJ_ent (Ent.trans (Ent.take del0 Ent.refl) (sl_of_lit (t := tyI) (m := 2) [4, 4] rfl rfl rfl (by decide))) ?_
  refine RJ_op rfl (O_call (c_New (Reads.sl _ _ _) (by first | assumption | exact newOk_of (by decide) (by decide))) rfl Try.call22 (Dels.cons del0 Dels.nil) rfl (fun bA2 hc4 => ?_))
  refine RJ_op rfl (OJ_P (P_move rfl) rfl ?_)
  refine RJ_op rfl (OJ_P (P_extract rfl rfl) rfl ?_)
  refine RJ_op rfl (OJ_P (P_extract rfl rfl) rfl ?_)
  refine RJ_op rfl (OJ_P (P_assign rfl) rfl ?_)
  refine RJ_op rfl (OJ_P (P_assign rfl) rfl ?_)
  refine RJ_nil ?_
  refine QJ_then ?_
  refine CJ_seq ?_
  refine CJ_seq ?_
  refine CJ_region ?_
  refine RJ_op rfl (OJ_P (P_move rfl) rfl ?_)
  refine RJ_op rfl (OJ_P (P_neq rfl rfl) rfl ?_)
  refine RJ_op rfl (OJ_P (P_move rfl) rfl ?_)
  first | (refine RJ_know 24 false rfl (decide_eq_false (by decide)) (fun hg1B => ?_)) | (refine RJ_know 24 false rfl (by decide) (fun hg1B => ?_))
  refine RJ_gy (GY_yes rfl rfl rfl hg1B) (OJ_P (P_move rfl) rfl ?_)
  refine RJ_gy (GY_yes rfl rfl rfl hg1B) (OJ_P (P_eqlPN rfl rfl Try.underlying38) rfl ?_)
  refine RJ_op rfl (OJ_P (P_pickF rfl hg1B rfl) rfl ?_)
  refine RJ_op rfl (OJ_P (P_move rfl) rfl ?_)
  refine RJ_gy (GY_yes rfl rfl rfl rfl) (OJ_P (P_move rfl) rfl ?_)
  refine RJ_gy (GY_yes rfl rfl rfl rfl) (OJ_P (P_move rfl) rfl ?_)
  refine RJ_gy (GY_yes rfl rfl rfl rfl) (O_call (c_SetMissing) rfl Try.call35 (Dels.cons del0 Dels.nil) rfl (fun _ hc5 => ?_))
  refine RJ_gy (GY_yes rfl rfl rfl rfl) (OJ_P (P_neq rfl rfl) rfl ?_)
  refine RJ_op rfl (OJ_P (P_pickF rfl rfl rfl) rfl ?_)
  refine RJ_nil ?_
  refine QJ_then ?_
  first | (refine CJ_condF rfl (decide_eq_false (by cases t <;> decide +kernel)) ?_) | (refine CJ_condF rfl (by cases t <;> decide +kernel) ?_)
  refine CJ_skip ?_
  refine QJ_then ?_
  refine CJ_seq ?_
  refine CJ_region ?_
  rw [← hk]
  refine RJ_op rfl (OJ_P (P_move rfl) rfl ?_)
  refine RJ_op rfl (OJ_P (P_move rfl) rfl ?_)
  refine RJ_op rfl (O_call (c_FuseD (by omega)) rfl Try.call28 (Dels.cons del0 Dels.nil) rfl (fun _ hc6 => ?_))
  refine RJ_nil ?_
  refine QJ_then ?_
  refine CJ_seq ?_
  refine CJ_seq ?_
  refine CJ_region ?_
  refine RJ_op rfl (OJ_P (P_assign rfl) rfl ?_)
  refine RJ_nil ?_
  refine QJ_then ?_
  refine CJ_block ?_
  refine CJ_loopR (X := Nat × ArrS) [4, 8, 37, 38, 39, 40, 41, 42, 43, 44, 45, 46, 47, 48, 49, 50, 51, 52, 53, 54, 55, 56, 57, 58, 59, 60, 61] (fun ⟨i, s⟩  => ([(8, .int .i64 (i : Nat))] : Slots)) (fun ⟨i, s⟩ R => Arr bA2 s :: R) (fun ⟨i, s⟩  => i ≤ k ∧ FS k i t s) (fun ⟨i, s⟩  => k - i) ⟨1, _⟩ ?_ ?_ (Ent.take del0 (Ent.take del0 Ent.refl)) ?_
  · exact ⟨hk1, fs_start⟩
  · exact ⟨rfl, True.intro⟩
  ·
    rintro ⟨i, s⟩ ⟨hi, hfs⟩
    show CJ _ _ _ _ _ (([(8, .int .i64 (i : Nat))] : Slots) ++ forget _ _) (Arr bA2 s :: _)
    have hwb : s.writes ≤ 1000000000 := by have := hfs.wr; omega
    refine CJ_seq ?_
    refine CJ_seq ?_
    refine CJ_region ?_
    refine RJ_op rfl (OJ_P (P_move rfl) rfl ?_)
    refine RJ_op rfl (OJ_P (P_move rfl) rfl ?_)
    refine RJ_op rfl (OJ_P (P_lss rfl rfl) rfl ?_)
    refine RJ_nil ?_
    refine QJ_then ?_
    first | (refine CJ_condD rfl (fun hg3 => ?_) (fun hg3 => ?_)) | (refine CJ_condN rfl (fun hg3 => ?_) (fun hg3 => ?_)) | (refine CJ_cond rfl (fun hg3 => ?_) (fun hg3 => ?_))
    ·
      refine CJ_skip ?_
      refine QJ_then ?_
      refine CJ_seq ?_
      refine CJ_block ?_
      refine CJ_seq ?_
      have hw3 := hfs.w3 (a := (i : Int) % 4) (by omega) hk2 (by omega)
      refine CJ_region ?_
      refine RJ_op rfl (OJ_P (P_move rfl) rfl ?_)
      refine RJ_op rfl (OJ_P (P_move rfl) rfl ?_)
      first | (refine RJ_splitD 43 rfl (fun hg4B hg4 => ?_) (fun hg4B hg4 => ?_)) | (refine RJ_splitN 43 rfl (fun hg4B hg4 => ?_) (fun hg4B hg4 => ?_)) | (refine RJ_split 43 rfl (fun hg4B => ?_) (fun hg4B => ?_))
      ·
        refine RJ_gy (GY_yes rfl rfl rfl hg4B) (OJ_P (P_move rfl) rfl ?_)
        refine RJ_gy (GY_yes rfl rfl rfl hg4B) (O_call (c_Write (v := 9) (by first | assumption | decide)) rfl Try.call25 (Dels.cons del0 Dels.nil) rfl (fun _ hc7 => ?_))
        try rw [(hfs.w1 ‹_›).2]
        refine RJ_gy (GY_yes rfl rfl rfl hg4B) (OJ_P (P_neq rfl rfl) rfl ?_)
        refine RJ_op rfl (OJ_P (P_pickT rfl hg4B rfl) rfl ?_)
        refine RJ_op rfl (OJ_P (P_move rfl) rfl ?_)
        first | (refine RJ_know 48 false rfl (decide_eq_false (by exact fun h => h (FS.w1 (v := 9) hfs ‹_›).1)) (fun hg5B => ?_)) | (refine RJ_know 48 false rfl (by exact fun h => h (FS.w1 (v := 9) hfs ‹_›).1) (fun hg5B => ?_))
        refine RJ_gy (GY_yes rfl rfl rfl hg5B) (OJ_P (P_move rfl) rfl ?_)
        refine RJ_gy (GY_yes rfl rfl rfl hg5B) (O_call (c_Write (v := 9) (by first | assumption | decide)) rfl Try.call25 (Dels.cons del0 Dels.nil) rfl (fun _ hc8 => ?_))
        try rw [hfs.w2.2]
        refine RJ_gy (GY_yes rfl rfl rfl hg5B) (OJ_P (P_neq rfl rfl) rfl ?_)
        refine RJ_op rfl (OJ_P (P_pickF rfl hg5B rfl) rfl ?_)
        refine RJ_op rfl (OJ_P (P_move rfl) rfl ?_)
        first | (refine RJ_know 53 false rfl (decide_eq_false (by exact fun h => h (FS.w2 (v := 9) hfs).1)) (fun hg6B => ?_)) | (refine RJ_know 53 false rfl (by exact fun h => h (FS.w2 (v := 9) hfs).1) (fun hg6B => ?_))
        refine RJ_gy (GY_yes rfl rfl rfl hg6B) (OJ_P (P_move rfl) rfl ?_)
        refine RJ_gy (GY_yes rfl rfl rfl hg6B) (OJ_P (P_move rfl) rfl ?_)
        refine RJ_gy (GY_yes rfl rfl rfl hg6B) (OJ_P (P_rem rfl rfl (by omega)) rfl ?_)
        refine RJ_gy (GY_yes rfl rfl rfl hg6B) (OJ_P (P_move rfl) rfl ?_)
        refine RJ_gy (GY_yes rfl rfl rfl hg6B) (OJ_P (P_convU rfl Try.runUnderlying3 Try.runUnderlying44) rfl ?_)
        refine RJ_gy (GY_yes rfl rfl rfl hg6B) (O_call (c_Write (by first | assumption | decide)) rfl Try.call25 (Dels.cons del0 Dels.nil) rfl (fun _ hc9 => ?_))
        refine RJ_gy (GY_yes rfl rfl rfl hg6B) (OJ_P (P_neq rfl rfl) rfl ?_)
        refine RJ_op rfl (OJ_P (P_pickF rfl hg6B rfl) rfl ?_)
        refine RJ_nil ?_
        refine QJ_then ?_
        first | (refine CJ_condF rfl (decide_eq_false (by exact fun h => h hw3.1)) ?_) | (refine CJ_condF rfl (by exact fun h => h hw3.1) ?_)
        refine CJ_skip ?_
        refine QJ_block_normal ?_
        refine QJ_then ?_
        refine CJ_region ?_
        refine RJ_op rfl (OJ_P (P_move rfl) rfl ?_)
        refine RJ_op rfl (OJ_P (P_add rfl rfl (by omega)) rfl ?_)
        refine RJ_op rfl (OJ_P (P_assign rfl) rfl ?_)
        refine RJ_nil ?_
        refine QJ_nextR ⟨i + 1, _⟩ (by first | omega | (simp only []; omega)) ?_ (by repeat (first | exact Kp.base | exact Kp.self | refine Kp.cons rfl ?_ | refine Kp.forget rfl ?_)) ?_ (Ent.take del0 (Ent.take del0 Ent.refl))
        · exact ⟨by omega, hw3.2⟩
        · exact ⟨rfl, True.intro⟩
      ·
        refine RJ_gn (GY_no rfl rfl rfl hg4B) rfl rfl ?_
        refine RJ_gn (GY_no rfl rfl rfl hg4B) rfl rfl ?_
        try rw [(hfs.w1 ‹_›).2]
        refine RJ_gn (GY_no rfl rfl rfl hg4B) rfl rfl ?_
        refine RJ_op rfl (OJ_P (P_pickF rfl hg4B rfl) rfl ?_)
        refine RJ_op rfl (OJ_P (P_move rfl) rfl ?_)
        refine RJ_gy (GY_yes rfl rfl rfl rfl) (OJ_P (P_move rfl) rfl ?_)
        refine RJ_gy (GY_yes rfl rfl rfl rfl) (O_call (c_Write (v := 9) (by first | assumption | decide)) rfl Try.call25 (Dels.cons del0 Dels.nil) rfl (fun _ hc10 => ?_))
        try rw [hfs.w2.2]
        refine RJ_gy (GY_yes rfl rfl rfl rfl) (OJ_P (P_neq rfl rfl) rfl ?_)
        refine RJ_op rfl (OJ_P (P_pickF rfl rfl rfl) rfl ?_)
        refine RJ_op rfl (OJ_P (P_move rfl) rfl ?_)
        first | (refine RJ_know 53 false rfl (decide_eq_false (by exact fun h => h (FS.w2 (v := 9) hfs).1)) (fun hg8B => ?_)) | (refine RJ_know 53 false rfl (by exact fun h => h (FS.w2 (v := 9) hfs).1) (fun hg8B => ?_))
        refine RJ_gy (GY_yes rfl rfl rfl hg8B) (OJ_P (P_move rfl) rfl ?_)
        refine RJ_gy (GY_yes rfl rfl rfl hg8B) (OJ_P (P_move rfl) rfl ?_)
        refine RJ_gy (GY_yes rfl rfl rfl hg8B) (OJ_P (P_rem rfl rfl (by omega)) rfl ?_)
        refine RJ_gy (GY_yes rfl rfl rfl hg8B) (OJ_P (P_move rfl) rfl ?_)
        refine RJ_gy (GY_yes rfl rfl rfl hg8B) (OJ_P (P_convU rfl Try.runUnderlying3 Try.runUnderlying44) rfl ?_)
        refine RJ_gy (GY_yes rfl rfl rfl hg8B) (O_call (c_Write (by first | assumption | decide)) rfl Try.call25 (Dels.cons del0 Dels.nil) rfl (fun _ hc11 => ?_))
        refine RJ_gy (GY_yes rfl rfl rfl hg8B) (OJ_P (P_neq rfl rfl) rfl ?_)
        refine RJ_op rfl (OJ_P (P_pickF rfl hg8B rfl) rfl ?_)
        refine RJ_nil ?_
        refine QJ_then ?_
        first | (refine CJ_condF rfl (decide_eq_false (by exact fun h => h hw3.1)) ?_) | (refine CJ_condF rfl (by exact fun h => h hw3.1) ?_)
        refine CJ_skip ?_
        refine QJ_block_normal ?_
        refine QJ_then ?_
        refine CJ_region ?_
        refine RJ_op rfl (OJ_P (P_move rfl) rfl ?_)
        refine RJ_op rfl (OJ_P (P_add rfl rfl (by omega)) rfl ?_)
        refine RJ_op rfl (OJ_P (P_assign rfl) rfl ?_)
        refine RJ_nil ?_
        refine QJ_nextR ⟨i + 1, _⟩ (by first | omega | (simp only []; omega)) ?_ (by repeat (first | exact Kp.base | exact Kp.self | refine Kp.cons rfl ?_ | refine Kp.forget rfl ?_)) ?_ (Ent.take del0 (Ent.take del0 Ent.refl))
        · exact ⟨by omega, hw3.2⟩
        · exact ⟨rfl, True.intro⟩
    ·
      refine CJ_exit ?_
      refine QJ_then_exit ?_
      refine QJ_round_exit ?_
      refine QJ_block_here ?_
      refine QJ_then ?_
      refine CJ_seq ?_
      refine CJ_seq ?_
      obtain rfl : i = k := by omega
      have hlast := hfs.last hk2 (v := 77)
      have hwb2 : (wrS s 0 0 77).writes ≤ 1000000000 := Nat.le_trans hlast.2.wr (by decide)
      refine CJ_region ?_
      refine RJ_op rfl (OJ_P (P_move rfl) rfl ?_)
      refine RJ_op rfl (O_call (c_Down) rfl Try.call29 (Dels.cons del0 Dels.nil) rfl (fun _ hc12 => ?_))
      refine RJ_op rfl (OJ_P (P_move rfl) rfl ?_)
      first | (refine RJ_know 64 false rfl (decide_eq_false (by exact hfs.dn)) (fun hg10B => ?_)) | (refine RJ_know 64 false rfl (by exact hfs.dn) (fun hg10B => ?_))
      refine RJ_gy (GY_yes rfl rfl rfl hg10B) (OJ_P (P_move rfl) rfl ?_)
      refine RJ_gy (GY_yes rfl rfl rfl hg10B) (O_call (c_Writes) rfl Try.call36 (Dels.cons del0 Dels.nil) rfl (fun _ hc13 => ?_))
      refine RJ_gy (GY_yes rfl rfl rfl hg10B) (OJ_P (P_move rfl) rfl ?_)
      refine RJ_gy (GY_yes rfl rfl rfl hg10B) (OJ_P (P_sub rfl rfl (by omega)) rfl ?_)
      refine RJ_gy (GY_yes rfl rfl rfl hg10B) (OJ_P (P_neq rfl rfl) rfl ?_)
      refine RJ_op rfl (OJ_P (P_pickF rfl hg10B rfl) rfl ?_)
      refine RJ_op rfl (OJ_P (P_move rfl) rfl ?_)
      first | (refine RJ_know 71 false rfl (decide_eq_false (by have := hfs.wr; omega)) (fun hg11B => ?_)) | (refine RJ_know 71 false rfl (by have := hfs.wr; omega) (fun hg11B => ?_))
      refine RJ_gy (GY_yes rfl rfl rfl hg11B) (OJ_P (P_move rfl) rfl ?_)
      refine RJ_gy (GY_yes rfl rfl rfl hg11B) (O_call (c_Write (v := 77) (by first | assumption | decide)) rfl Try.call25 (Dels.cons del0 Dels.nil) rfl (fun _ hc14 => ?_))
      refine RJ_gy (GY_yes rfl rfl rfl hg11B) (OJ_P (P_neq rfl rfl) rfl ?_)
      refine RJ_op rfl (OJ_P (P_pickF rfl hg11B rfl) rfl ?_)
      refine RJ_op rfl (OJ_P (P_move rfl) rfl ?_)
      first | (refine RJ_know 76 false rfl (decide_eq_false (by exact fun h => h hlast.1)) (fun hg12B => ?_)) | (refine RJ_know 76 false rfl (by exact fun h => h hlast.1) (fun hg12B => ?_))
      refine RJ_gy (GY_yes rfl rfl rfl hg12B) (OJ_P (P_move rfl) rfl ?_)
      refine RJ_gy (GY_yes rfl rfl rfl hg12B) (O_call (c_Down) rfl Try.call29 (Dels.cons del0 Dels.nil) rfl (fun _ hc15 => ?_))
      refine RJ_gy (GY_yes rfl rfl rfl hg12B) (OJ_P (P_not rfl) rfl ?_)
      refine RJ_op rfl (OJ_P (P_pickF rfl hg12B rfl) rfl ?_)
      refine RJ_op rfl (OJ_P (P_move rfl) rfl ?_)
      first | (refine RJ_know 81 false rfl (decide_eq_false (by rw [hlast.2.dn]; rfl)) (fun hg13B => ?_)) | (refine RJ_know 81 false rfl (by rw [hlast.2.dn]; rfl) (fun hg13B => ?_))
      refine RJ_gy (GY_yes rfl rfl rfl hg13B) (OJ_P (P_move rfl) rfl ?_)
      refine RJ_gy (GY_yes rfl rfl rfl hg13B) (O_call (c_FlushD (by first | assumption | decide)) rfl Try.call26 (Dels.cons del0 Dels.nil) rfl (fun _ hc16 => ?_))
      rw [(hlast.2.fl 0).2]
      refine RJ_gy (GY_yes rfl rfl rfl hg13B) (OJ_P (P_neq rfl rfl) rfl ?_)
      refine RJ_op rfl (OJ_P (P_pickF rfl hg13B rfl) rfl ?_)
      refine RJ_op rfl (OJ_P (P_move rfl) rfl ?_)
      first | (refine RJ_know 86 false rfl (decide_eq_false (by exact fun h => h (hlast.2.fl 0).1)) (fun hg14B => ?_)) | (refine RJ_know 86 false rfl (by exact fun h => h (hlast.2.fl 0).1) (fun hg14B => ?_))
      refine RJ_gy (GY_yes rfl rfl rfl hg14B) (OJ_P (P_move rfl) rfl ?_)
      refine RJ_gy (GY_yes rfl rfl rfl hg14B) (O_call (c_FlushD (by first | assumption | decide)) rfl Try.call26 (Dels.cons del0 Dels.nil) rfl (fun _ hc17 => ?_))
      rw [(hlast.2.fl 5).2]
      refine RJ_gy (GY_yes rfl rfl rfl hg14B) (OJ_P (P_neq rfl rfl) rfl ?_)
      refine RJ_op rfl (OJ_P (P_pickF rfl hg14B rfl) rfl ?_)
      refine RJ_nil ?_
      refine QJ_then ?_
      first | (refine CJ_condF rfl (decide_eq_false (by exact fun h => h (hlast.2.fl 5).1)) ?_) | (refine CJ_condF rfl (by exact fun h => h (hlast.2.fl 5).1) ?_)
      refine CJ_skip ?_
      refine QJ_then ?_
      refine CJ_seq ?_
      refine CJ_region ?_
      refine RJ_op rfl (OJ_P (P_move rfl) rfl ?_)
      refine RJ_op rfl (O_call (c_Read) rfl Try.call33 (Dels.cons del0 Dels.nil) rfl (fun _ hc18 => ?_))
      refine RJ_op rfl (OJ_P (P_move rfl) rfl ?_)
      refine RJ_op rfl (OJ_P (P_extract rfl rfl) rfl ?_)
      refine RJ_op rfl (OJ_P (P_extract rfl rfl) rfl ?_)
      refine RJ_op rfl (OJ_P (P_assign rfl) rfl ?_)
      refine RJ_op rfl (OJ_P (P_assign rfl) rfl ?_)
      refine RJ_nil ?_
      refine QJ_then ?_
      refine CJ_seq ?_
      have hrs := hlast.2.rs (keepL 18446744073709551615)
      have hrw := hrs.1
      refine CJ_region ?_
      refine RJ_op rfl (OJ_P (P_move rfl) rfl ?_)
      refine RJ_op rfl (O_call (c_Keep (u := 18446744073709551615)) rfl Try.call32 Dels.nil rfl (fun _ hc20 => ?_))
      refine RJ_op rfl (O_call (c_Restart (Reads.sl _ _ _) (by first | assumption | decide)) rfl Try.call31 (Dels.cons del1 (Dels.cons del0 Dels.nil)) rfl (fun _ hc21 => ?_))
      refine RJ_nil ?_
      refine QJ_then ?_
      refine CJ_seq ?_
      refine CJ_region ?_
      refine RJ_op rfl (OJ_P (P_move rfl) rfl ?_)
      refine RJ_op rfl (O_call (c_Read) rfl Try.call33 (Dels.cons del0 Dels.nil) rfl (fun _ hc22 => ?_))
      refine RJ_op rfl (OJ_P (P_move rfl) rfl ?_)
      refine RJ_op rfl (OJ_P (P_extract rfl rfl) rfl ?_)
      refine RJ_op rfl (OJ_P (P_extract rfl rfl) rfl ?_)
      refine RJ_op rfl (OJ_P (P_assign rfl) rfl ?_)
      refine RJ_op rfl (OJ_P (P_assign rfl) rfl ?_)
      refine RJ_nil ?_
      refine QJ_then ?_
      refine CJ_seq ?_
      refine CJ_region ?_
      refine RJ_op rfl (OJ_P (P_move rfl) rfl ?_)
      refine RJ_op rfl (OJ_P (P_eql rfl rfl) rfl ?_)
      refine RJ_op rfl (OJ_P (P_move rfl) rfl ?_)
      first | (refine RJ_know 106 true rfl (decide_eq_true (by exact hlast.2.rd)) (fun hg16B => ?_)) | (refine RJ_know 106 true rfl (by exact hlast.2.rd) (fun hg16B => ?_))
      refine RJ_gy (GY_yes rfl rfl rfl hg16B) (OJ_P (P_move rfl) rfl ?_)
      refine RJ_gy (GY_yes rfl rfl rfl hg16B) (OJ_P (P_eql rfl rfl) rfl ?_)
      refine RJ_op rfl (OJ_P (P_pickT rfl hg16B rfl) rfl ?_)
      refine RJ_op rfl (OJ_P (P_move rfl) rfl ?_)
      first | (refine RJ_know 110 true rfl (decide_eq_true (by exact hrs.2.1)) (fun hg17B => ?_)) | (refine RJ_know 110 true rfl (by exact hrs.2.1) (fun hg17B => ?_))
      refine RJ_gy (GY_yes rfl rfl rfl hg17B) (OJ_P (P_move rfl) rfl ?_)
      refine RJ_gy (GY_yes rfl rfl rfl hg17B) (OJ_P (P_neq rfl rfl) rfl ?_)
      refine RJ_op rfl (OJ_P (P_pickT rfl hg17B rfl) rfl ?_)
      refine RJ_op rfl (OJ_P (P_move rfl) rfl ?_)
      first | (refine RJ_know 114 true rfl (decide_eq_true (by exact ne77 hrs.2.2.1)) (fun hg18B => ?_)) | (refine RJ_know 114 true rfl (by exact ne77 hrs.2.2.1) (fun hg18B => ?_))
      refine RJ_gy (GY_yes rfl rfl rfl hg18B) (OJ_P (P_move rfl) rfl ?_)
      refine RJ_gy (GY_yes rfl rfl rfl hg18B) (O_call (c_Write (v := 78) (by first | assumption | decide)) rfl Try.call25 (Dels.cons del0 Dels.nil) rfl (fun _ hc23 => ?_))
      refine RJ_gy (GY_yes rfl rfl rfl hg18B) (OJ_P (P_eql rfl rfl) rfl ?_)
      refine RJ_op rfl (OJ_P (P_pickT rfl hg18B rfl) rfl ?_)
      refine RJ_op rfl (OJ_P (P_move rfl) rfl ?_)
      first | (refine RJ_know 119 true rfl (decide_eq_true (by exact hrs.2.2.2)) (fun hg19B => ?_)) | (refine RJ_know 119 true rfl (by exact hrs.2.2.2) (fun hg19B => ?_))
      refine RJ_gy (GY_yes rfl rfl rfl hg19B) (O_call (c_awake04) rfl Try.call21 Dels.nil rfl (fun _ hc24 => ?_))
      refine RJ_op rfl (OJ_P (P_pickT rfl hg19B rfl) rfl ?_)
      refine RJ_op rfl (OJ_P (P_assign rfl) rfl ?_)
      refine RJ_nil ?_
      refine QJ_then ?_
      refine CJ_ret ?_
      refine QJ_end (res1 Try.results7 rfl) ?_
      refine CSpec.close () ?_ ?_ (Ent.drop (Ent.drop (Ent.drop Ent.refl)))
      · rfl
      · trivial

end Go.Proofs
