/- YtomomnpnkfgnnaaCDisk1: contracts of functions of the program, walked rule by rule; printed by vg.py. -/
import Derived.Test.YtomomnpnkfgnnaaCDisk0
set_option linter.unusedSimpArgs false
set_option maxRecDepth 20000
namespace Go.Proofs
open Go.VG
theorem bld_60_0_1 (v0 : Int) (v1 : Int) : ∀ w, (Instr.build 60 (#[(0, .int .i64 v0), (1, .int .i64 v1)] : Array (Nat × Value))).run Try.prog w = .ok (.agg #[.int .i64 v0, .int .i64 v1]) w := fun w => by kernel_rfl
theorem bs_87_5_0_1_2_3_4 (v0 : Fn) (v1 : (Array Value)) (v2 : (Array Value)) (v3 : Fn) (v4 : (Array Value)) (v5 : (Array Value)) (v6 : Fn) (v7 : (Array Value)) (v8 : (Array Value)) (v9 : Fn) (v10 : (Array Value)) (v11 : (Array Value)) (v12 : Fn) (v13 : (Array Value)) (v14 : (Array Value)) : BuildsSlice Try.prog 87 5 [(0, .func v0 v1 v2), (1, .func v3 v4 v5), (2, .func v6 v7 v8), (3, .func v9 v10 v11), (4, .func v12 v13 v14)] 62 [.func v0 v1 v2, .func v3 v4 v5, .func v6 v7 v8, .func v9 v10 v11, .func v12 v13 v14] := fun w => by kernel_rfl
theorem bs_87_4_0_1_2_3 (v0 : Fn) (v1 : (Array Value)) (v2 : (Array Value)) (v3 : Fn) (v4 : (Array Value)) (v5 : (Array Value)) (v6 : Fn) (v7 : (Array Value)) (v8 : (Array Value)) (v9 : Fn) (v10 : (Array Value)) (v11 : (Array Value)) : BuildsSlice Try.prog 87 4 [(0, .func v0 v1 v2), (1, .func v3 v4 v5), (2, .func v6 v7 v8), (3, .func v9 v10 v11)] 62 [.func v0 v1 v2, .func v3 v4 v5, .func v6 v7 v8, .func v9 v10 v11] := fun w => by kernel_rfl
theorem bld_64_0_1 (v0 : Int) (v1 : Int) (v2 : Int) : ∀ w, (Instr.build 64 (#[(0, .agg #[.int .i64 v0, .int .i64 v1]), (1, .int .u64 v2)] : Array (Nat × Value))).run Try.prog w = .ok (.agg #[.int .i64 v0, .int .i64 v1, .int .u64 v2]) w := fun w => by kernel_rfl
theorem bs_53_1_0 (v0 : Int) (v1 : Int) (v2 : Int) : BuildsSlice Try.prog 53 1 [(0, .agg #[.int .i64 v0, .int .i64 v1, .int .u64 v2])] 64 [.int .i64 v0, .int .i64 v1, .int .u64 v2] := fun w => by kernel_rfl
theorem bs_87_2_0_1 (v0 : Fn) (v1 : (Array Value)) (v2 : (Array Value)) (v3 : Fn) (v4 : (Array Value)) (v5 : (Array Value)) : BuildsSlice Try.prog 87 2 [(0, .func v0 v1 v2), (1, .func v3 v4 v5)] 62 [.func v0 v1 v2, .func v3 v4 v5] := fun w => by kernel_rfl
theorem bld_55_1 (v0 : (Option Nat)) : ∀ w, (Instr.build 55 (#[(1, .map v0)] : Array (Nat × Value))).run Try.prog w = .ok (.agg #[.slice none 0 0, .map v0, .slice none 0 0, .int .i64 0, .bool false, .int .i64 0]) w := fun w => by kernel_rfl
theorem bld_58_0_1 (v0 : (Option Addr)) (v1 : Nat) (v2 : Nat) (v3 : (Option Addr)) (v4 : Nat) (v5 : Nat) : ∀ w, (Instr.build 58 (#[(0, .slice v0 v1 v2), (1, .slice v3 v4 v5)] : Array (Nat × Value))).run Try.prog w = .ok (.agg #[.slice v0 v1 v2, .slice v3 v4 v5, .bool false]) w := fun w => by kernel_rfl
theorem bs_52_1_0 (v0 : (Option Addr)) (v1 : Nat) (v2 : Nat) (v3 : (Option Addr)) (v4 : Nat) (v5 : Nat) (v6 : Bool) : BuildsSlice Try.prog 52 1 [(0, .agg #[.slice v0 v1 v2, .slice v3 v4 v5, .bool v6])] 58 [.slice v0 v1 v2, .slice v3 v4 v5, .bool v6] := fun w => by kernel_rfl
theorem bld_60_0 (v0 : Int) : ∀ w, (Instr.build 60 (#[(0, .int .i64 v0)] : Array (Nat × Value))).run Try.prog w = .ok (.agg #[.int .i64 v0, .int .i64 0]) w := fun w => by kernel_rfl
theorem bs_87_3_0_1_2 (v0 : Fn) (v1 : (Array Value)) (v2 : (Array Value)) (v3 : Fn) (v4 : (Array Value)) (v5 : (Array Value)) (v6 : Fn) (v7 : (Array Value)) (v8 : (Array Value)) : BuildsSlice Try.prog 87 3 [(0, .func v0 v1 v2), (1, .func v3 v4 v5), (2, .func v6 v7 v8)] 62 [.func v0 v1 v2, .func v3 v4 v5, .func v6 v7 v8] := fun w => by kernel_rfl

theorem inR_of {s : ArrS} {d : Int} (h : cLoc s d = 0) : inR s d := by
  unfold cLoc at h; split at h
  · assumption
  · omega
/-- The checks in a row. -/
def wrC (s : ArrS) (d a : Int) : Int := fz [cPow s, cLoc s d, cPla s d a, cPre s d]
def rdC (s : ArrS) (d a : Int) : Int := fz [cPow s, cLoc s d, cPla s d a, cPre s d, cWho s d a]
def flC (s : ArrS) (d : Int) : Int := fz [cPow s, cLoc s d, cPre s d]
def sbC (s : ArrS) (d a : Int) : Int := fz [cLoc s d, cPla s d a]
theorem fz_cons {c : Int} {r : List Int} : fz (c :: r) = 0 ↔ c = 0 ∧ fz r = 0 := by
  show (if c = 0 then fz r else c) = 0 ↔ _
  split
  · rename_i h; simp [h]
  · rename_i h; simp [h]
theorem pow_of {s : ArrS} (h : cPow s = 0) : s.down = false := by unfold cPow at h; cases hd : s.down <;> simp_all
theorem pla_of {s : ArrS} {d a : Int} (h : cPla s d a = 0) : 0 ≤ a ∧ a < sizeI s d := by
  unfold cPla at h; split at h
  · assumption
  · omega
theorem pre_of {s : ArrS} {d : Int} (h : cPre s d = 0) : missI s d = false := by unfold cPre at h; cases hd : missI s d <;> simp_all
theorem who_of {s : ArrS} {d a : Int} (h : cWho s d a = 0) : isBad s d a = false := by unfold cWho at h; cases hd : isBad s d a <;> simp_all
theorem locpla {s : ArrS} {d a : Int} (h1 : cLoc s d = 0) (h2 : cPla s d a = 0) : ∃ i k : Nat, d = i ∧ a = k ∧ i < s.drv.length ∧ k < (s.drv.getD i d0).now.length := by
  obtain ⟨h3, h4⟩ := inR_of h1
  obtain ⟨h5, h6⟩ := pla_of h2
  obtain ⟨i, rfl⟩ := Int.eq_ofNat_of_zero_le h3
  obtain ⟨k, rfl⟩ := Int.eq_ofNat_of_zero_le h5
  refine ⟨i, k, rfl, rfl, by omega, ?_⟩
  rw [sizeI, if_pos ⟨h3, h4⟩] at h6
  have : (k : Int) < ((s.drv.getD i d0).now.length : Int) := h6
  omega
theorem wr_ok {s : ArrS} {d a : Int} (h : wrC s d a = 0) : s.down = false ∧ ∃ i k : Nat, d = i ∧ a = k ∧ i < s.drv.length ∧ k < (s.drv.getD i d0).now.length := by
  simp only [wrC, fz_cons] at h
  exact ⟨pow_of h.1, locpla h.2.1 h.2.2.1⟩
theorem rd_ok {s : ArrS} {d a : Int} (h : rdC s d a = 0) : s.down = false ∧ ∃ i k : Nat, d = i ∧ a = k ∧ i < s.drv.length ∧ k < (s.drv.getD i d0).now.length := by
  simp only [rdC, fz_cons] at h
  exact ⟨pow_of h.1, locpla h.2.1 h.2.2.1⟩
section
variable {W : World} {S : HP} {v : Value} {b : Nat} {s : ArrS} {d a : Int}
theorem c_chk5 (hA : Reads S tyFn v [(16, ptr b 0), (17, ptr b 0), (18, ptr b 0), (19, ptr b 0), (20, ptr b 0)]) :
    CSpec Try.prog W 15 [.agg #[.int .i64 d, .int .i64 a], v] [S, Arr b s] (fun _ : Unit => .int .i64 (rdC s d a)) (fun _ => True) (fun _ F => S :: Arr b s :: F) :=
  c_check _ [cPow s, cLoc s d, cPla s d a, cPre s d, cWho s d a] hA rfl (by simp) (fun k hk hz => by
    match k, hk with
    | 0, _ => exact ⟨Try.call16, c_powered⟩
    | 1, _ => exact ⟨Try.call17, c_located⟩
    | 2, _ => exact ⟨Try.call18, c_placed⟩
    | 3, _ => exact ⟨Try.call19, c_present (inR_of (hz 1 (by decide)))⟩
    | 4, _ => exact ⟨Try.call20, c_whole⟩
    | n + 5, h => exact absurd h (by simp))
theorem c_chk4 (hA : Reads S tyFn v [(16, ptr b 0), (17, ptr b 0), (18, ptr b 0), (19, ptr b 0)]) :
    CSpec Try.prog W 15 [.agg #[.int .i64 d, .int .i64 a], v] [S, Arr b s] (fun _ : Unit => .int .i64 (wrC s d a)) (fun _ => True) (fun _ F => S :: Arr b s :: F) :=
  c_check _ [cPow s, cLoc s d, cPla s d a, cPre s d] hA rfl (by simp) (fun k hk hz => by
    match k, hk with
    | 0, _ => exact ⟨Try.call16, c_powered⟩
    | 1, _ => exact ⟨Try.call17, c_located⟩
    | 2, _ => exact ⟨Try.call18, c_placed⟩
    | 3, _ => exact ⟨Try.call19, c_present (inR_of (hz 1 (by decide)))⟩
    | n + 4, h => exact absurd h (by simp))
theorem c_chk3 (hA : Reads S tyFn v [(16, ptr b 0), (17, ptr b 0), (19, ptr b 0)]) :
    CSpec Try.prog W 15 [.agg #[.int .i64 d, .int .i64 a], v] [S, Arr b s] (fun _ : Unit => .int .i64 (flC s d)) (fun _ => True) (fun _ F => S :: Arr b s :: F) :=
  c_check _ [cPow s, cLoc s d, cPre s d] hA rfl (by simp) (fun k hk hz => by
    match k, hk with
    | 0, _ => exact ⟨Try.call16, c_powered⟩
    | 1, _ => exact ⟨Try.call17, c_located⟩
    | 2, _ => exact ⟨Try.call19, c_present (inR_of (hz 1 (by decide)))⟩
    | n + 3, h => exact absurd h (by simp))
theorem c_chk2 (hA : Reads S tyFn v [(17, ptr b 0), (18, ptr b 0)]) :
    CSpec Try.prog W 15 [.agg #[.int .i64 d, .int .i64 a], v] [S, Arr b s] (fun _ : Unit => .int .i64 (sbC s d a)) (fun _ => True) (fun _ F => S :: Arr b s :: F) :=
  c_check _ [cLoc s d, cPla s d a] hA rfl (by simp) (fun k hk hz => by
    match k, hk with
    | 0, _ => exact ⟨Try.call17, c_located⟩
    | 1, _ => exact ⟨Try.call18, c_placed⟩
    | n + 2, h => exact absurd h (by simp))
end
/-- What a read finds. -/
def nowAt (s : ArrS) (d a : Int) : UInt64 := (s.drv.getD d.toNat d0).now.getD a.toNat 0
def rdV (s : ArrS) (d a : Int) : UInt64 := if rdC s d a = 0 then nowAt s d a else 0
/-- What a write leaves. -/
def setNow (s : ArrS) (i k : Nat) (v : UInt64) : List Drive := s.drv.set i { s.drv.getD i d0 with now := (s.drv.getD i d0).now.set k v }
def wrS (s : ArrS) (d a : Int) (v : UInt64) : ArrS :=
  if wrC s d a ≠ 0 then s
  else if s.fuse = 1 then { s with fuse := 0, down := true }
  else { s with drv := setNow s d.toNat a.toNat v, bad := delM s.bad (d, a), log := s.log ++ [⟨d.toNat, a.toNat, v⟩], fuse := s.fuse - 1, writes := s.writes + 1 }
def wrR (s : ArrS) (d a : Int) : Int := if wrC s d a ≠ 0 then wrC s d a else if s.fuse = 1 then 5 else 0
theorem hs_set {l : DL} {i : Nat} {y : Drive} : DL.hs (l.set i ((DL.hs l).getD i dH0, y)) = DL.hs l := by
  apply List.ext_getElem?
  intro j
  simp only [DL.hs, List.getElem?_map, List.getElem?_set, List.getD]
  by_cases h : i = j
  · subst h
    by_cases h2 : i < l.length
    · simp [h2]
    · simp [h2]
  · simp [h]
theorem Arr_close1 {b r : Nat} {s s' : ArrS} {dv lv : Sl3} {l : DL} (i : Nat) (y : Drive) (hl : l.map Prod.snd = s.drv) (hm : ∀ p ∈ l, p.1.miss = p.2.miss) (hi : i < s.drv.length) (h : s'.drv = s.drv.set i y) (hy : y.miss = (s.drv.getD i d0).miss) (hw : ArrWF s') {R : List HP} :
    Ent (blk b 55 [dv.v, .map (some r), lv.v, .int .i64 (s'.fuse : Int), .bool s'.down, .int .i64 (s'.writes : Int)] :: sl tyDrv dv.v (DL.hs l) :: sl tyU ((DL.hs l).getD i dH0).now.v y.now :: sl tyU ((DL.hs l).getD i dH0).dur.v y.dur :: DRest l i :: sl tyRec lv.v s'.log :: mpc mBad r s'.bad :: R) (Arr b s' :: R) := by
  have hi' : i < l.length := by rw [← hl] at hi; simpa using hi
  refine Ent.trans (Ent.take del2 (Ent.take del2 (Ent.take del2 Ent.refl))) (Ent.trans (DOwn_close ((DL.hs l).getD i dH0, y) hi') ?_)
  refine Ent.trans (Ent.take del1 (Ent.takeC del1 (congrArg (sl tyDrv dv.v) hs_set.symm) (Ent.take del0 (Ent.take del0 (Ent.take del0 Ent.refl))))) (Arr_close ?_ ?_ hw)
  · rw [h, ← hl, List.map_set]
  · intro p hp
    rcases List.mem_or_eq_of_mem_set hp with hp | rfl
    · exact hm p hp
    · rw [miss_at hl hm hi]; exact hy.symm
theorem setNow_len {s : ArrS} {i k : Nat} {v : UInt64} : (setNow s i k v).length = s.drv.length := by simp [setNow]
theorem setNow_at {s : ArrS} {i k j : Nat} {v : UInt64} (hi : i < s.drv.length) : (setNow s i k v).getD j d0 = if j = i then { s.drv.getD i d0 with now := (s.drv.getD i d0).now.set k v } else s.drv.getD j d0 := by
  simp only [setNow, List.getD, List.getElem?_set]
  by_cases h : i = j
  · subst h; simp [hi]
  · have : ¬ j = i := fun e => h e.symm
    simp [h, this]
theorem setNow_size {s : ArrS} {i k j : Nat} {v : UInt64} (hi : i < s.drv.length) : ((setNow s i k v).getD j d0).now.length = (s.drv.getD j d0).now.length ∧ ((setNow s i k v).getD j d0).dur = (s.drv.getD j d0).dur := by
  rw [setNow_at hi]; split
  · rename_i h; subst h; simp
  · exact ⟨rfl, rfl⟩
theorem wf_wr {s : ArrS} {i k : Nat} {v : UInt64} (hw : ArrWF s) (hi : i < s.drv.length) (hk : k < (s.drv.getD i d0).now.length) (m : List ((Int × Int) × Unit)) (f : Nat) (hf : f ≤ s.fuse) :
    ArrWF { s with drv := setNow s i k v, bad := m, log := s.log ++ [⟨i, k, v⟩], fuse := f, writes := s.writes + 1 } where
  cnt := by rw [setNow_len]; exact hw.cnt
  same := fun j hj => by
    rw [setNow_len] at hj
    have := setNow_size (k := k) (j := j) (v := v) hi
    rw [this.1, this.2]; exact hw.same j hj
  log := fun j hj => by
    simp only [List.length_append, List.length_cons, List.length_nil] at hj
    have e : ∀ x, ArrS.size { s with drv := setNow s i k v, bad := m, log := s.log ++ [⟨i, k, v⟩], fuse := f, writes := s.writes + 1 } x = s.size x := fun x => (setNow_size (k := k) (j := x) (v := v) hi).1
    simp only [e, setNow_len]
    rcases Nat.lt_or_ge j s.log.length with h | h
    · rw [show (s.log ++ [(⟨i, k, v⟩ : Rec)]).getD j r0 = s.log.getD j r0 by simp [List.getD, List.getElem?_append_left h]]
      exact hw.log j h
    · obtain rfl : j = s.log.length := by omega
      rw [show (s.log ++ [(⟨i, k, v⟩ : Rec)]).getD s.log.length r0 = ⟨i, k, v⟩ by simp [List.getD]]
      exact ⟨hi, hk⟩
  len := by have := hw.len; simp only [List.length_append, List.length_cons, List.length_nil]; omega
  fuse := by have := hw.fuse; show f ≤ _; omega
theorem arrC {b T : Nat} {x0 x1 x2 x4 : Value} {f f' w w' : Int} (h1 : f = f') (h2 : w = w') : blk b T [x0, x1, x2, .int .i64 f, x4, .int .i64 w] = blk b T [x0, x1, x2, .int .i64 f', x4, .int .i64 w'] := by rw [h1, h2]
theorem DOwn_push {l : DL} (x : DrvH × Drive) {R : List HP} : Ent (sl tyU x.1.now.v x.2.now :: sl tyU x.1.dur.v x.2.dur :: DOwn l :: R) (DOwn (l ++ [x]) :: R) := by
  intro h hh
  have h1 : stars (own1 x :: DOwn l :: R) h := stars_star.2 hh
  have h3 : stars ((own1 x :: l.map own1) ++ R) h := by
    obtain ⟨g1, g2, d, e, ha, hb⟩ := h1
    exact ⟨g1, g2, d, e, ha, stars_star.1 hb⟩
  refine stars_star.2 (stars_perm (List.Perm.append_right R ?_) _ h3)
  rw [List.map_append]
  exact (List.perm_append_singleton _ _).symm
theorem DOwn_nil {R : List HP} : Ent R (DOwn [] :: R) := fun _ hh => stars_star.2 hh
/-- A new array. -/
def okSz (z : Int) : Bool := decide (1 ≤ z ∧ z ≤ 65536)
def mkD (z : Int) : Drive := ⟨List.replicate z.toNat 0, List.replicate z.toNat 0, false⟩
def newS (zs : List Int) : ArrS := ⟨zs.map mkD, [], [], 0, false, 0⟩
theorem newS_wf {zs : List Int} (h8 : zs.length ≤ 8) (h : ∀ k, k < zs.length → 1 ≤ zs.getD k 0 ∧ zs.getD k 0 ≤ 65536) : ArrWF (newS zs) where
  cnt := by simp [newS]; exact h8
  same := fun i hi => by
    have hi' : i < zs.length := by simpa [newS] using hi
    have := h i hi'
    have e : (newS zs).drv.getD i d0 = mkD (zs.getD i 0) := by simp [newS, List.getD, hi']
    rw [e]; generalize zs.getD i 0 = z at this; simp [mkD]; omega
  log := fun i hi => by simp [newS] at hi
  len := by simp [newS]
  fuse := by simp [newS]
theorem Arr_new {b r : Nat} {dv : Sl3} {l : DL} {zs : List Int} (hl : l.map Prod.snd = zs.map mkD) (hm : ∀ p ∈ l, p.1.miss = p.2.miss) (hw : ArrWF (newS zs)) {R : List HP} :
    Ent (blk b 55 [dv.v, .map (some r), .slice none 0 0, .int .i64 0, .bool false, .int .i64 0] :: sl tyDrv dv.v (DL.hs l) :: DOwn l :: mpc mBad r [] :: R) (Arr b (newS zs) :: R) :=
  Ent.trans (fun h hh => sl_nil (t := tyRec) h hh) (Ent.trans (Ent.take del1 (Ent.take del1 (Ent.take del1 (Ent.take del0 (Ent.take del0 Ent.refl))))) (Arr_close (s := newS zs) (lv := ⟨none, 0, 0⟩) hl hm hw))
theorem tupRd0 {s : ArrS} {d a : Int} (h : rdC s d a ≠ 0) : Value.tuple #[.int .u64 0, .int .i64 (rdC s d a)] = .tuple #[.int .u64 ((rdV s d a).toNat : Int), .int .i64 (rdC s d a)] := by
  rw [rdV, if_neg h]; rfl
theorem tupRd {s : ArrS} {i k : Nat} (h : rdC s i k = 0) : Value.tuple #[.int .u64 (((s.drv.getD i d0).now.getD k 0).toNat : Int), .int .i64 0] = .tuple #[.int .u64 ((rdV s i k).toNat : Int), .int .i64 (rdC s i k)] := by
  rw [rdV, if_pos h, h]; rfl
theorem wrS_bad {s : ArrS} {d a : Int} {v : UInt64} (h : wrC s d a ≠ 0) : wrS s d a v = s := if_pos h
theorem wrR_bad {s : ArrS} {d a : Int} (h : wrC s d a ≠ 0) : wrR s d a = wrC s d a := if_pos h
theorem wrS_fuse {s : ArrS} {d a : Int} {v : UInt64} (h : wrC s d a = 0) (hf : s.fuse = 1) : wrS s d a v = { s with fuse := 0, down := true } := by rw [wrS, if_neg (by simp [h]), if_pos hf]
theorem wrR_fuse {s : ArrS} {d a : Int} (h : wrC s d a = 0) (hf : s.fuse = 1) : wrR s d a = 5 := by rw [wrR, if_neg (by simp [h]), if_pos hf]
theorem wrS_ok {s : ArrS} {i k : Nat} {v : UInt64} (h : wrC s i k = 0) (hf : s.fuse ≠ 1) : wrS s i k v = { s with drv := setNow s i k v, bad := delM s.bad (i, k), log := s.log ++ [⟨i, k, v⟩], fuse := s.fuse - 1, writes := s.writes + 1 } := by rw [wrS, if_neg (by simp [h]), if_neg hf]; rfl
theorem wrR_ok {s : ArrS} {d a : Int} (h : wrC s d a = 0) (hf : s.fuse ≠ 1) : wrR s d a = 0 := by rw [wrR, if_neg (by simp [h]), if_neg hf]
theorem wf_fuse {s : ArrS} (hw : ArrWF s) (f : Nat) (hf : f ≤ 9223372036854775807) (dn : Bool) : ArrWF { s with fuse := f, down := dn } :=
  { cnt := hw.cnt, same := hw.same, log := hw.log, len := hw.len, fuse := hf }
def missR (s : ArrS) (d : Int) : Bool := if inR s d then missI s d else false
def smR (s : ArrS) (d : Int) : Int := if inR s d then 0 else 1
def smS (s : ArrS) (d : Int) (t : Bool) : ArrS := if inR s d then { s with drv := s.drv.set d.toNat { s.drv.getD d.toNat d0 with miss := t } } else s
theorem smS_bad {s : ArrS} {d : Int} {t : Bool} (h : ¬ inR s d) : smS s d t = s := if_neg h
theorem smS_ok {s : ArrS} {i : Nat} {t : Bool} (h : inR s i) : smS s i t = { s with drv := s.drv.set i { s.drv.getD i d0 with miss := t } } := if_pos h
theorem set_at {α : Type} {l : List α} {i j : Nat} {x y : α} (hi : i < l.length) : (l.set i x).getD j y = if j = i then x else l.getD j y := by
  simp only [List.getD, List.getElem?_set]
  by_cases h : i = j
  · subst h; simp [hi]
  · have : ¬ j = i := fun e => h e.symm
    simp [h, this]
theorem wf_drv {s : ArrS} (hw : ArrWF s) {i : Nat} (y : Drive) (hi : i < s.drv.length) (h1 : y.now.length = (s.drv.getD i d0).now.length) (h2 : y.dur.length = (s.drv.getD i d0).dur.length) : ArrWF { s with drv := s.drv.set i y } where
  cnt := by simpa using hw.cnt
  same := fun j hj => by
    simp only [List.length_set] at hj
    rw [set_at hi]; split
    · rename_i h; subst h; rw [h1, h2]; exact hw.same j hj
    · exact hw.same j hj
  log := fun j hj => by
    have := hw.log j hj
    refine ⟨by simpa using this.1, ?_⟩
    show _ < ((s.drv.set i y).getD _ d0).now.length
    rw [set_at hi]; split
    · rename_i h; rw [h1, ← h]; exact this.2
    · exact this.2
  len := hw.len
  fuse := hw.fuse
theorem wf_bad {s : ArrS} (hw : ArrWF s) (m : List ((Int × Int) × Unit)) : ArrWF { s with bad := m } := { cnt := hw.cnt, same := hw.same, log := hw.log, len := hw.len, fuse := hw.fuse }
theorem map_set_at {α β : Type} {f : α → β} {l : List α} {i : Nat} {x : α} {d : α} (h : f x = f (l.getD i d)) : (l.set i x).map f = l.map f := by
  apply List.ext_getElem?
  intro j
  simp only [List.getElem?_map, List.getElem?_set]
  by_cases h2 : i = j
  · subst h2
    by_cases h3 : i < l.length
    · simp [h3, h, List.getD]
    · simp [h3]
  · simp [h2]
theorem Arr_closeM {b r : Nat} {s : ArrS} {dv lv : Sl3} {l : DL} (i : Nat) (t : Bool) (hl : l.map Prod.snd = s.drv) (hm : ∀ p ∈ l, p.1.miss = p.2.miss) (hi : i < s.drv.length) (hw : ArrWF s) {R : List HP} :
    Ent (blk b 55 [dv.v, .map (some r), lv.v, .int .i64 (s.fuse : Int), .bool s.down, .int .i64 (s.writes : Int)] :: sl tyDrv dv.v ((DL.hs l).set i { (DL.hs l).getD i dH0 with miss := t }) :: DOwn l :: sl tyRec lv.v s.log :: mpc mBad r s.bad :: R) (Arr b { s with drv := s.drv.set i { s.drv.getD i d0 with miss := t } } :: R) := by
  have hi' : i < l.length := by rw [← hl] at hi; simpa using hi
  let x : DrvH × Drive := ({ (DL.hs l).getD i dH0 with miss := t }, { s.drv.getD i d0 with miss := t })
  have e1 : DL.hs (l.set i x) = (DL.hs l).set i x.1 := by simp only [DL.hs, List.map_set]
  have e2 : DOwn (l.set i x) = DOwn l := by
    unfold DOwn
    rw [map_set_at (d := (dH0, d0))]
    show own1 x = own1 (l.getD i (dH0, d0))
    simp only [x, ← hl, getD_mapf, getD_maps, own1]
  refine Ent.trans (Ent.take del0 (Ent.takeC del0 (congrArg (sl tyDrv dv.v) e1.symm) (Ent.takeC del0 e2.symm Ent.refl))) (Arr_close (s := { s with drv := s.drv.set i { s.drv.getD i d0 with miss := t } }) (l := l.set i x) ?_ ?_ (wf_drv hw _ hi rfl rfl))
  · rw [List.map_set, hl]
  · intro p hp
    rcases List.mem_or_eq_of_mem_set hp with hp | rfl
    · exact hm p hp
    · rfl
def sbS (s : ArrS) (d a : Int) (t : Bool) : ArrS := if sbC s d a ≠ 0 then s else { s with bad := if t then setM s.bad (d, a) () else delM s.bad (d, a) }
theorem sbS_bad {s : ArrS} {d a : Int} {t : Bool} (h : sbC s d a ≠ 0) : sbS s d a t = s := if_pos h
theorem sbS_t {s : ArrS} {d a : Int} (h : sbC s d a = 0) : sbS s d a true = { s with bad := setM s.bad (d, a) () } := by rw [sbS, if_neg (by simp [h])]; rfl
theorem sbS_f {s : ArrS} {d a : Int} (h : sbC s d a = 0) : sbS s d a false = { s with bad := delM s.bad (d, a) } := by rw [sbS, if_neg (by simp [h])]; rfl
def NewOk (zs : List Int) : Prop := zs.length ≤ 8 ∧ ∀ k, k < zs.length → 1 ≤ zs.getD k 0 ∧ zs.getD k 0 ≤ 65536
theorem newOk_of {zs : List Int} (h : zs.length ≤ 8) (h1 : ∀ z ∈ zs, 1 ≤ z ∧ z ≤ 65536) : NewOk zs := by
  refine ⟨h, fun k hk => ?_⟩
  have : zs.getD k 0 = zs[k] := by simp [List.getD, hk]
  rw [this]; exact h1 _ (List.getElem_mem hk)
theorem take_snocI1 (xs : List Int) (k : Nat) (h : k < xs.length) : xs.take (k + 1) = xs.take k ++ [xs.getD k 0] := by
  rw [List.take_succ_eq_append_getElem h]; simp [List.getD, h]
theorem hs_snoc (l : DL) (x : DrvH × Drive) : DL.hs (l ++ [x]) = DL.hs l ++ [x.1] := by simp [DL.hs]
theorem tup2p {v : Value} {k : IntKind} {a b : Int} (h : a = b) : Value.tuple #[v, .int k a] = .tuple #[v, .int k b] := by rw [h]
def flDur (now : List UInt64) (i : Nat) (log : List Rec) (du : List UInt64) : List UInt64 := log.foldl (fun du r => if r.d = i then du.set r.a (now.getD r.a 0) else du) du
theorem flDur_len (now : List UInt64) (i : Nat) : ∀ (log : List Rec) (du : List UInt64), (flDur now i log du).length = du.length
  | [], _ => rfl
  | r :: log, du => by
    show (flDur now i log _).length = _
    rw [flDur_len now i log]; dsimp only; split <;> simp
theorem takeR (log : List Rec) (k : Nat) (h : k < log.length) : log.take (k + 1) = log.take k ++ [log.getD k r0] := by
  rw [List.take_succ_eq_append_getElem h]; simp [List.getD, h]
theorem fl_t {now : List UInt64} {i k : Nat} {log : List Rec} {du : List UInt64} (hk : k < log.length) (h : (log.getD k r0).d = i) : (flDur now i (log.take k) du).set (log.getD k r0).a (now.getD (log.getD k r0).a 0) = flDur now i (log.take (k + 1)) du := by
  rw [takeR log k hk, flDur, flDur, List.foldl_append]
  show _ = if _ then _ else _
  rw [if_pos h]
theorem fl_f {now : List UInt64} {i k : Nat} {log : List Rec} {du : List UInt64} (hk : k < log.length) (h : (log.getD k r0).d ≠ i) : flDur now i (log.take k) du = flDur now i (log.take (k + 1)) du := by
  rw [takeR log k hk, flDur, flDur, List.foldl_append]
  show _ = if _ then _ else _
  rw [if_neg h]
abbrev others (i : Nat) (log : List Rec) : List Rec := log.filter (fun r => decide (r.d ≠ i))
theorem ot_t {i k : Nat} {log : List Rec} (hk : k < log.length) (h : (log.getD k r0).d = i) : others i (log.take k) = others i (log.take (k + 1)) := by
  rw [takeR log k hk]; generalize log.getD k r0 = x at h ⊢; simp [others, List.filter_append, h]
theorem ot_f {i k : Nat} {log : List Rec} (hk : k < log.length) (h : (log.getD k r0).d ≠ i) : others i (log.take k) ++ [log.getD k r0] = others i (log.take (k + 1)) := by
  rw [takeR log k hk]; generalize log.getD k r0 = x at h ⊢; simp [others, List.filter_append, h]
def flS (s : ArrS) (d : Int) : ArrS := if flC s d ≠ 0 then s else { s with drv := s.drv.set d.toNat { s.drv.getD d.toNat d0 with dur := flDur (s.drv.getD d.toNat d0).now d.toNat s.log (s.drv.getD d.toNat d0).dur }, log := others d.toNat s.log }
theorem flS_bad {s : ArrS} {d : Int} (h : flC s d ≠ 0) : flS s d = s := if_pos h
theorem flS_ok {s : ArrS} {i : Nat} (h : flC s i = 0) : flS s i = { s with drv := s.drv.set i { s.drv.getD i d0 with dur := flDur (s.drv.getD i d0).now i s.log (s.drv.getD i d0).dur }, log := others i s.log } := by rw [flS, if_neg (by simp [h])]; rfl
theorem fl_ok {s : ArrS} {d : Int} (h : flC s d = 0) : ∃ i : Nat, d = i ∧ i < s.drv.length := by
  simp only [flC, fz_cons] at h
  obtain ⟨h3, h4⟩ := inR_of h.2.1
  obtain ⟨i, rfl⟩ := Int.eq_ofNat_of_zero_le h3
  exact ⟨i, rfl, by omega⟩
theorem wf_log {s : ArrS} (hw : ArrWF s) (q : Rec → Bool) : ArrWF { s with log := s.log.filter q } where
  cnt := hw.cnt
  same := hw.same
  log := fun j hj => by
    have hm : (s.log.filter q).getD j r0 ∈ s.log := by
      have h1 : (s.log.filter q).getD j r0 = (s.log.filter q)[j] := by rw [List.getD, List.getElem?_eq_getElem hj]; rfl
      rw [h1]; exact (List.mem_filter.1 (List.getElem_mem hj)).1
    obtain ⟨n, hn, he⟩ := List.getElem_of_mem hm
    have := hw.log n hn
    have h2 : s.log.getD n r0 = s.log[n] := by rw [List.getD, List.getElem?_eq_getElem hn]; rfl
    rw [h2, he] at this
    exact this
  len := Nat.le_trans (List.length_filter_le _ _) hw.len
  fuse := hw.fuse
structure LOk (l0 l1 : DL) (ds : List Drive) : Prop where
  hs : DL.hs l1 = DL.hs l0
  ds : l1.map Prod.snd = ds
  miss : ∀ p ∈ l1, p.1.miss = p.2.miss
theorem LOk.len {l0 l1 : DL} {ds : List Drive} (h : LOk l0 l1 ds) : l1.length = ds.length := by rw [← h.ds]; simp
theorem DOwn_openL {l0 l1 : DL} {ds : List Drive} (h : LOk l0 l1 ds) (i : Nat) (hi : i < ds.length) {R : List HP} :
    Ent (DOwn l1 :: R) (sl tyU ((DL.hs l0).getD i dH0).now.v (ds.getD i d0).now :: sl tyU ((DL.hs l0).getD i dH0).dur.v (ds.getD i d0).dur :: DRest l1 i :: R) := by
  rw [← h.hs]
  exact DOwn_open (s := ⟨ds, [], [], 0, false, 0⟩) i h.ds hi
theorem DOwn_closeL {l0 l1 : DL} {ds : List Drive} (h : LOk l0 l1 ds) (i : Nat) (y : Drive) (hi : i < ds.length) {R : List HP} :
    Ent (sl tyU ((DL.hs l0).getD i dH0).now.v y.now :: sl tyU ((DL.hs l0).getD i dH0).dur.v y.dur :: DRest l1 i :: R) (DOwn (l1.set i ((DL.hs l0).getD i dH0, y)) :: R) :=
  DOwn_close ((DL.hs l0).getD i dH0, y) (by rw [h.len]; exact hi)
theorem LOk.set {l0 l1 : DL} {ds : List Drive} (h : LOk l0 l1 ds) (i : Nat) (y : Drive) (hi : i < ds.length) (hy : y.miss = (ds.getD i d0).miss) : LOk l0 (l1.set i ((DL.hs l0).getD i dH0, y)) (ds.set i y) where
  hs := by rw [← h.hs]; exact hs_set
  ds := by rw [List.map_set, h.ds]
  miss := fun p hp => by
    rcases List.mem_or_eq_of_mem_set hp with hp | rfl
    · exact h.miss p hp
    · rw [← h.hs]
      have := miss_at (s := ⟨ds, [], [], 0, false, 0⟩) h.ds h.miss hi
      exact this.trans hy.symm
theorem Arr_closeL {b r : Nat} {s' : ArrS} {dv lv : Sl3} {l0 l1 : DL} (h : LOk l0 l1 s'.drv) (hw : ArrWF s') {R : List HP} :
    Ent (blk b 55 [dv.v, .map (some r), lv.v, .int .i64 (s'.fuse : Int), .bool s'.down, .int .i64 (s'.writes : Int)] :: sl tyDrv dv.v (DL.hs l0) :: DOwn l1 :: sl tyRec lv.v s'.log :: mpc mBad r s'.bad :: R) (Arr b s' :: R) :=
  Ent.trans (Ent.take del0 (Ent.takeC del0 (congrArg (sl tyDrv dv.v) h.hs.symm) Ent.refl)) (Arr_close h.ds h.miss hw)
def putD (ds : List Drive) (r : Rec) : List Drive := ds.set r.d { ds.getD r.d d0 with dur := (ds.getD r.d d0).dur.set r.a r.v }
def rsGo (ks : List Bool) : Nat → List Rec → List Drive → List Drive
  | _, [], ds => ds
  | n, r :: log, ds => rsGo ks (n + 1) log (if ks.getD n false = true then putD ds r else ds)
theorem rsGo_snoc (ks : List Bool) : ∀ (log : List Rec) (n : Nat) (ds : List Drive) (r : Rec), rsGo ks n (log ++ [r]) ds = if ks.getD (n + log.length) false = true then putD (rsGo ks n log ds) r else rsGo ks n log ds
  | [], n, ds, r => by simp [rsGo]
  | x :: log, n, ds, r => by
    simp only [List.cons_append, rsGo, List.length_cons]
    rw [rsGo_snoc ks log (n + 1)]
    rw [show n + 1 + log.length = n + (log.length + 1) by omega]
theorem rsGo_take {ks : List Bool} {log : List Rec} {k : Nat} {ds : List Drive} (hk : k < log.length) : rsGo ks 0 (log.take (k + 1)) ds = if ks.getD k false = true then putD (rsGo ks 0 (log.take k) ds) (log.getD k r0) else rsGo ks 0 (log.take k) ds := by
  rw [takeR log k hk, rsGo_snoc]
  simp only [List.length_take, Nat.zero_add, Nat.min_eq_left (Nat.le_of_lt hk)]
theorem getD_beyond {α : Type} {l : List α} {i : Nat} {x : α} (h : l.length ≤ i) : l.getD i x = x := by simp [List.getD, h]
theorem putD_keep (ds : List Drive) (r : Rec) (j : Nat) : (putD ds r).length = ds.length ∧ ((putD ds r).getD j d0).now = (ds.getD j d0).now ∧ ((putD ds r).getD j d0).dur.length = (ds.getD j d0).dur.length ∧ ((putD ds r).getD j d0).miss = (ds.getD j d0).miss := by
  refine ⟨by simp [putD], ?_⟩
  unfold putD
  by_cases hr : r.d < ds.length
  · rw [set_at hr]; split
    · rename_i h; subst h; simp
    · exact ⟨rfl, rfl, rfl⟩
  · rw [List.set_eq_of_length_le (by omega)]; exact ⟨rfl, rfl, rfl⟩
theorem rsGo_keep (ks : List Bool) : ∀ (log : List Rec) (n : Nat) (ds : List Drive) (j : Nat), (rsGo ks n log ds).length = ds.length ∧ ((rsGo ks n log ds).getD j d0).now = (ds.getD j d0).now ∧ ((rsGo ks n log ds).getD j d0).dur.length = (ds.getD j d0).dur.length ∧ ((rsGo ks n log ds).getD j d0).miss = (ds.getD j d0).miss
  | [], _, _, _ => ⟨rfl, rfl, rfl, rfl⟩
  | r :: log, n, ds, j => by
    have h := rsGo_keep ks log (n + 1) (if ks.getD n false = true then putD ds r else ds) j
    simp only [rsGo]
    by_cases hk : ks.getD n false = true
    · rw [if_pos hk] at h ⊢
      have := putD_keep ds r j
      exact ⟨h.1.trans this.1, h.2.1.trans this.2.1, h.2.2.1.trans this.2.2.1, h.2.2.2.trans this.2.2.2⟩
    · rw [if_neg hk] at h ⊢; exact h
def settleD (d : Drive) : Drive := { d with now := d.dur }
def stl (n : Nat) (D : List Drive) : List Drive := (D.take n).map settleD ++ D.drop n
theorem stl_zero (D : List Drive) : stl 0 D = D := by simp [stl]
theorem stl_all (D : List Drive) : stl D.length D = D.map settleD := by simp [stl]
theorem stl_len (n : Nat) (D : List Drive) : (stl n D).length = D.length := by simp [stl]; omega
theorem stl_at {n : Nat} {D : List Drive} (hn : n < D.length) : (stl n D).getD n d0 = D.getD n d0 := by
  have : ((D.take n).map settleD).length = n := by simp; omega
  simp only [stl, List.getD]
  rw [List.getElem?_append_right (by omega), this]; simp
theorem stl_step {n : Nat} {D : List Drive} (hn : n < D.length) : (stl n D).set n (settleD (D.getD n d0)) = stl (n + 1) D := by
  have h1 : ((D.take n).map settleD).length = n := by simp; omega
  simp only [stl]
  rw [List.set_append, if_neg (by omega), h1, Nat.sub_self, List.drop_eq_getElem_cons hn, List.set_cons_zero, List.take_succ_eq_append_getElem hn, List.map_append, List.append_assoc, show D.getD n d0 = D[n] by simp [List.getD, hn]]
  rfl
theorem copied_eq {α : Type} {xs ys : List α} (h : ys.length = xs.length) : copied xs ys = ys := by
  rw [copied, h, Nat.min_self, List.drop_length, List.append_nil, ← h, List.take_length]
def rsS (s : ArrS) (ks : List Bool) : ArrS := { s with drv := (rsGo ks 0 s.log s.drv).map settleD, log := [], down := false, fuse := 0 }
theorem rs_at (s : ArrS) (ks : List Bool) (i : Nat) : (rsS s ks).drv.getD i d0 = settleD ((rsGo ks 0 s.log s.drv).getD i d0) := by
  simp only [rsS, List.getD, List.getElem?_map]; cases (rsGo ks 0 s.log s.drv)[i]? <;> rfl
theorem wf_rs {s : ArrS} (hw : ArrWF s) (ks : List Bool) : ArrWF (rsS s ks) where
  cnt := by have := (rsGo_keep ks s.log 0 s.drv 0).1; simp [rsS, this]; exact hw.cnt
  same := fun i hi => by
    have h := rsGo_keep ks s.log 0 s.drv i
    have hi' : i < s.drv.length := by simpa [rsS, h.1] using hi
    have := hw.same i hi'
    rw [rs_at]
    refine ⟨rfl, ?_⟩
    show ((rsGo ks 0 s.log s.drv).getD i d0).dur.length ≤ _
    rw [h.2.2.1, ← this.1]; exact this.2
  log := fun i hi => by simp [rsS] at hi
  len := by simp [rsS]
  fuse := by simp [rsS]

theorem c_Read {W : World} {b : Nat} {s : ArrS} {d a : Int} :
    CSpec Try.prog W 11 [ptr b 0, .int .i64 d, .int .i64 a] [Arr b s] (fun _ : Unit => .tuple #[.int .u64 ((rdV s d a).toNat : Int), .int .i64 (rdC s d a)]) (fun _ => True) (fun _ F => Arr b s :: F) := by
  refine CSpec.of_body Try.func11 rfl Try.ntmps11 rfl (fun F => ?_)
  show CJ _ _ _ _ _ _ (_ :: F)
  refine CJ_seq ?_
  refine CJ_region ?_
  refine RJ_op rfl (OJ_P (P_assign rfl) rfl ?_)
  refine RJ_op rfl (OJ_P (P_assign rfl) rfl ?_)
  refine RJ_nil ?_
  refine QJ_then ?_
  refine CJ_seq ?_
  refine CJ_seq ?_
  refine CJ_region ?_
  refine RJ_op rfl (OJ_P (P_move rfl) rfl ?_)
  refine RJ_op rfl (OJ_P (P_move rfl) rfl ?_)
  refine RJ_op rfl (OJ_P (P_build rfl (bld_60_0_1 _ _)) rfl ?_)
  refine RJ_op rfl (OJ_P (P_move rfl) rfl ?_)
  refine RJ_op rfl (OJ_P (P_makeFunc rfl rfl) rfl ?_)
  refine RJ_op rfl (OJ_P (P_move rfl) rfl ?_)
  refine RJ_op rfl (OJ_P (P_makeFunc rfl rfl) rfl ?_)
  refine RJ_op rfl (OJ_P (P_move rfl) rfl ?_)
  refine RJ_op rfl (OJ_P (P_makeFunc rfl rfl) rfl ?_)
  refine RJ_op rfl (OJ_P (P_move rfl) rfl ?_)
  refine RJ_op rfl (OJ_P (P_makeFunc rfl rfl) rfl ?_)
  refine RJ_op rfl (OJ_P (P_move rfl) rfl ?_)
  refine RJ_op rfl (OJ_P (P_makeFunc rfl rfl) rfl ?_)
  refine RJ_op rfl (O_buildSlice rfl (bs_87_5_0_1_2_3_4 _ _ _ _ _ _ _ _ _ _ _ _ _ _ _) rfl (fun b1 => ?_))
  refine RJ_ent (Ent.trans (Ent.take del0 Ent.refl) (sl_of_lit (t := tyFn) (m := 5) [(16, ptr b 0), (17, ptr b 0), (18, ptr b 0), (19, ptr b 0), (20, ptr b 0)] rfl rfl rfl (by decide))) ?_
  refine RJ_op rfl (O_call (c_chk5 (Reads.sl _ _ _)) rfl Try.call15 (Dels.cons del0 (Dels.cons del0 Dels.nil)) rfl (fun _ hc2 => ?_))
  refine RJ_op rfl (OJ_P (P_assign rfl) rfl ?_)
  refine RJ_nil ?_
  refine QJ_then ?_
  refine CJ_seq ?_
  refine CJ_region ?_
  refine RJ_op rfl (OJ_P (P_move rfl) rfl ?_)
  refine RJ_op rfl (OJ_P (P_neq rfl rfl) rfl ?_)
  refine RJ_nil ?_
  refine QJ_then ?_
  first | (refine CJ_condD rfl (fun hg1 => ?_) (fun hg1 => ?_)) | (refine CJ_condN rfl (fun hg1 => ?_) (fun hg1 => ?_)) | (refine CJ_cond rfl (fun hg1 => ?_) (fun hg1 => ?_))
  ·
    refine CJ_seq ?_
    refine CJ_region ?_
    refine RJ_op rfl (OJ_P (P_move rfl) rfl ?_)
    refine RJ_op rfl (OJ_P (P_assign rfl) rfl ?_)
    refine RJ_op rfl (OJ_P (P_assign rfl) rfl ?_)
    refine RJ_nil ?_
    refine QJ_then ?_
    refine CJ_ret ?_
    refine QJ_then_ret ?_
    refine QJ_end (res2 Try.results11 rfl rfl) ?_
    refine CSpec.close () ?_ ?_ (Ent.take del1 (Ent.drop Ent.refl))
    · exact tupRd0 hg1
    · trivial
  ·
    obtain ⟨g1, i, k, rfl, rfl, g2, g3⟩ := rd_ok (Decidable.not_not.1 hg1)
    replace hg1 := Decidable.not_not.1 hg1
    refine CJ_skip ?_
    refine QJ_then ?_
    refine CJ_seq ?_
    refine CJ_entX (Ent.transX (Ent.take del1 Ent.refl) Arr_open) (fun ⟨dv, lv, mr, l⟩ => ?_)
    refine CJ_pur (fun hX => ?_)
    obtain ⟨hl, hm, hw⟩ : l.map Prod.snd = (s).drv ∧ (∀ p ∈ l, p.1.miss = p.2.miss) ∧ ArrWF (s) := hX
    show CJ _ _ _ _ _ _ (blk b 55 [Sl3.v dv, .map (some mr), Sl3.v lv, _, _, _] :: sl tyDrv (Sl3.v dv) (DL.hs l) :: DOwn l :: sl tyRec (Sl3.v lv) _ :: mpc mBad mr _ :: _)
    have hn := hs_len hl
    have hwF := hw.fuse
    have hwL := hw.len
    have hwC := hw.cnt
    refine CJ_ent (Ent.trans (Ent.take del2 Ent.refl) (DOwn_open i hl (by omega))) ?_
    refine CJ_region ?_
    refine RJ_op rfl (OJ_P (P_move rfl) rfl ?_)
    refine RJ_op rfl (OJ_P (P_nilCheck rfl) rfl ?_)
    refine RJ_op rfl (OJ_P (P_fieldAddr rfl ⟨_, _, _, Try.runUnderlying55, rfl, rfl, Try.sizeOf52, rfl⟩) rfl ?_)
    refine RJ_op rfl (OJ_V (V_load rfl foc3 rfl Try.isAgg52) rfl ?_)
    refine RJ_op rfl (OJ_P (P_move rfl) rfl ?_)
    first | (refine RJ_op rfl (OJ_V (V_index rfl rfl rfl (by omega) foc4 (Reads.sl _ _ _) Try.runUnderlying52 Try.sizeOf58) rfl ?_)) | (refine RJ_op rfl (OJ_V (V_index rfl rfl (Int.toNat_of_nonneg (by omega)).symm (by omega) foc4 (Reads.sl _ _ _) Try.runUnderlying52 Try.sizeOf58) rfl ?_))
    refine RJ_op rfl (OJ_P (P_fieldE rfl ⟨_, _, _, Try.runUnderlying58, rfl, rfl, Try.sizeOf56, rfl⟩) rfl ?_)
    refine RJ_op rfl (OJ_V (V_loadE rfl rfl (by omega) foc4 (Reads.sl _ _ _) rfl rfl Try.isAgg56) rfl ?_)
    refine RJ_op rfl (OJ_P (P_move rfl) rfl ?_)
    first | (refine RJ_op rfl (OJ_V (V_index rfl rfl rfl (by omega) foc0 (Reads.sl _ _ _) Try.runUnderlying56 Try.sizeOf26) rfl ?_)) | (refine RJ_op rfl (OJ_V (V_index rfl rfl (Int.toNat_of_nonneg (by omega)).symm (by omega) foc0 (Reads.sl _ _ _) Try.runUnderlying56 Try.sizeOf26) rfl ?_))
    refine RJ_op rfl (OJ_V (V_loadE rfl rfl (by omega) foc0 (Reads.sl _ _ _) rfl rfl Try.isAgg26) rfl ?_)
    refine RJ_op rfl (OJ_P (P_assign rfl) rfl ?_)
    refine RJ_op rfl (OJ_P (P_assign rfl) rfl ?_)
    refine RJ_nil ?_
    refine QJ_then ?_
    refine CJ_ret ?_
    refine QJ_end (res2 Try.results11 rfl rfl) ?_
    refine CSpec.close () ?_ ?_ (Ent.trans (Ent.trans (Ent.take del0 (Ent.take del0 (Ent.take del0 Ent.refl))) (DOwn_back hl (by omega))) (Ent.trans (Ent.trans (Ent.take del1 (Ent.take del1 (Ent.take del0 (Ent.take del0 (Ent.take del0 Ent.refl))))) (Arr_close hl hm hw)) (Ent.take del0 (Ent.drop Ent.refl))))
    · exact tupRd hg1
    · trivial

theorem c_Write {W : World} {b : Nat} {s : ArrS} {d a : Int} {v : UInt64} (hW : s.writes ≤ 1000000000) :
    CSpec Try.prog W 8 [ptr b 0, .int .i64 d, .int .i64 a, .int .u64 (v.toNat : Int)] [Arr b s] (fun _ : Unit => .int .i64 (wrR s d a)) (fun _ => True) (fun _ F => Arr b (wrS s d a v) :: F) := by
  refine CSpec.of_body Try.func8 rfl Try.ntmps8 rfl (fun F => ?_)
  show CJ _ _ _ _ _ _ (_ :: F)
  refine CJ_seq ?_
  refine CJ_region ?_
  refine RJ_op rfl (OJ_P (P_assign rfl) rfl ?_)
  refine RJ_nil ?_
  refine QJ_then ?_
  refine CJ_seq ?_
  refine CJ_region ?_
  refine RJ_op rfl (OJ_P (P_move rfl) rfl ?_)
  refine RJ_op rfl (OJ_P (P_move rfl) rfl ?_)
  refine RJ_op rfl (OJ_P (P_build rfl (bld_60_0_1 _ _)) rfl ?_)
  refine RJ_op rfl (O_alloc Try.zeroValue60 rfl rfl (fun b1 => ?_))
  refine RJ_op rfl (O_storeN rfl rfl foc0 Try.sizeOf60 rfl rfl rfl ?_)
  refine RJ_nil ?_
  refine QJ_then ?_
  refine CJ_seq ?_
  refine CJ_seq ?_
  refine CJ_region ?_
  refine RJ_op rfl (OJ_V (V_loadN rfl foc0 Try.isAgg60 Try.sizeOf60 rfl rfl) rfl ?_)
  refine RJ_op rfl (OJ_P (P_move rfl) rfl ?_)
  refine RJ_op rfl (OJ_P (P_makeFunc rfl rfl) rfl ?_)
  refine RJ_op rfl (OJ_P (P_move rfl) rfl ?_)
  refine RJ_op rfl (OJ_P (P_makeFunc rfl rfl) rfl ?_)
  refine RJ_op rfl (OJ_P (P_move rfl) rfl ?_)
  refine RJ_op rfl (OJ_P (P_makeFunc rfl rfl) rfl ?_)
  refine RJ_op rfl (OJ_P (P_move rfl) rfl ?_)
  refine RJ_op rfl (OJ_P (P_makeFunc rfl rfl) rfl ?_)
  refine RJ_op rfl (O_buildSlice rfl (bs_87_4_0_1_2_3 _ _ _ _ _ _ _ _ _ _ _ _) rfl (fun b2 => ?_))
  refine RJ_ent (Ent.trans (Ent.take del0 Ent.refl) (sl_of_lit (t := tyFn) (m := 4) [(16, ptr b 0), (17, ptr b 0), (18, ptr b 0), (19, ptr b 0)] rfl rfl rfl (by decide))) ?_
  refine RJ_op rfl (O_call (c_chk4 (Reads.sl _ _ _)) rfl Try.call15 (Dels.cons del0 (Dels.cons del1 Dels.nil)) rfl (fun _ hc3 => ?_))
  refine RJ_op rfl (OJ_P (P_assign rfl) rfl ?_)
  refine RJ_nil ?_
  refine QJ_then ?_
  refine CJ_seq ?_
  refine CJ_region ?_
  refine RJ_op rfl (OJ_P (P_move rfl) rfl ?_)
  refine RJ_op rfl (OJ_P (P_neq rfl rfl) rfl ?_)
  refine RJ_nil ?_
  refine QJ_then ?_
  first | (refine CJ_condD rfl (fun hg1 => ?_) (fun hg1 => ?_)) | (refine CJ_condN rfl (fun hg1 => ?_) (fun hg1 => ?_)) | (refine CJ_cond rfl (fun hg1 => ?_) (fun hg1 => ?_))
  ·
    refine CJ_seq ?_
    refine CJ_region ?_
    refine RJ_op rfl (OJ_P (P_move rfl) rfl ?_)
    refine RJ_op rfl (OJ_P (P_assign rfl) rfl ?_)
    refine RJ_nil ?_
    refine QJ_then ?_
    refine CJ_ret ?_
    refine QJ_then_ret ?_
    refine QJ_end (res1 Try.results8 rfl) ?_
    refine CSpec.close () ?_ ?_ (Ent.takeC del1 (congrArg (Arr b) (wrS_bad hg1).symm) (Ent.drop (Ent.drop Ent.refl)))
    · exact iv (wrR_bad hg1).symm
    · trivial
  ·
    have hC := Decidable.not_not.1 hg1
    obtain ⟨g1, i, k, rfl, rfl, g2, g3⟩ := wr_ok hC
    refine CJ_skip ?_
    refine QJ_then ?_
    refine CJ_seq ?_
    refine CJ_seq ?_
    refine CJ_entX (Ent.transX (Ent.take del1 Ent.refl) Arr_open) (fun ⟨dv, lv, mr, l⟩ => ?_)
    refine CJ_pur (fun hX => ?_)
    obtain ⟨hl, hm, hw⟩ : l.map Prod.snd = (s).drv ∧ (∀ p ∈ l, p.1.miss = p.2.miss) ∧ ArrWF (s) := hX
    show CJ _ _ _ _ _ _ (blk b 55 [Sl3.v dv, .map (some mr), Sl3.v lv, _, _, _] :: sl tyDrv (Sl3.v dv) (DL.hs l) :: DOwn l :: sl tyRec (Sl3.v lv) _ :: mpc mBad mr _ :: _)
    have hn := hs_len hl
    have hwF := hw.fuse
    have hwL := hw.len
    have hwC := hw.cnt
    refine CJ_region ?_
    refine RJ_op rfl (OJ_P (P_move rfl) rfl ?_)
    refine RJ_op rfl (OJ_P (P_nilCheck rfl) rfl ?_)
    refine RJ_op rfl (OJ_P (P_fieldAddr rfl ⟨_, _, _, Try.runUnderlying55, rfl, rfl, Try.sizeOf3, rfl⟩) rfl ?_)
    refine RJ_op rfl (OJ_V (V_load rfl foc0 rfl Try.isAgg3) rfl ?_)
    refine RJ_op rfl (OJ_P (P_gtr rfl rfl) rfl ?_)
    refine RJ_nil ?_
    refine QJ_then ?_
    first | (refine CJ_condD rfl (fun hg2 => ?_) (fun hg2 => ?_)) | (refine CJ_condN rfl (fun hg2 => ?_) (fun hg2 => ?_)) | (refine CJ_cond rfl (fun hg2 => ?_) (fun hg2 => ?_))
    ·
      refine CJ_seq ?_
      refine CJ_region ?_
      refine RJ_op rfl (OJ_P (P_move rfl) rfl ?_)
      refine RJ_op rfl (OJ_P (P_nilCheck rfl) rfl ?_)
      refine RJ_op rfl (OJ_P (P_fieldAddr rfl ⟨_, _, _, Try.runUnderlying55, rfl, rfl, Try.sizeOf3, rfl⟩) rfl ?_)
      refine RJ_op rfl (OJ_V (V_load rfl foc0 rfl Try.isAgg3) rfl ?_)
      refine RJ_op rfl (OJ_P (P_sub rfl rfl (by omega)) rfl ?_)
      refine RJ_op rfl (OJ_P (P_nilCheck rfl) rfl ?_)
      refine RJ_op rfl (OJ_P (P_fieldAddr rfl ⟨_, _, _, Try.runUnderlying55, rfl, rfl, Try.sizeOf3, rfl⟩) rfl ?_)
      refine RJ_op rfl (O_store rfl rfl foc0 rfl rfl Try.sizeOf3 ?_)
      refine RJ_nil ?_
      refine QJ_then ?_
      refine CJ_seq ?_
      refine CJ_region ?_
      refine RJ_op rfl (OJ_P (P_move rfl) rfl ?_)
      refine RJ_op rfl (OJ_P (P_nilCheck rfl) rfl ?_)
      refine RJ_op rfl (OJ_P (P_fieldAddr rfl ⟨_, _, _, Try.runUnderlying55, rfl, rfl, Try.sizeOf3, rfl⟩) rfl ?_)
      refine RJ_op rfl (OJ_V (V_load rfl foc0 rfl Try.isAgg3) rfl ?_)
      refine RJ_op rfl (OJ_P (P_eql rfl rfl) rfl ?_)
      refine RJ_nil ?_
      refine QJ_then ?_
      first | (refine CJ_condD rfl (fun hg3 => ?_) (fun hg3 => ?_)) | (refine CJ_condN rfl (fun hg3 => ?_) (fun hg3 => ?_)) | (refine CJ_cond rfl (fun hg3 => ?_) (fun hg3 => ?_))
      ·
        refine CJ_seq ?_
        have hF1 : s.fuse = 1 := by omega
        refine CJ_region ?_
        refine RJ_op rfl (OJ_P (P_move rfl) rfl ?_)
        refine RJ_op rfl (OJ_P (P_nilCheck rfl) rfl ?_)
        refine RJ_op rfl (OJ_P (P_fieldAddr rfl ⟨_, _, _, Try.runUnderlying55, rfl, rfl, Try.sizeOf4, rfl⟩) rfl ?_)
        refine RJ_op rfl (O_store rfl rfl foc0 rfl rfl Try.sizeOf4 ?_)
        refine RJ_nil ?_
        refine QJ_then ?_
        refine CJ_seq ?_
        refine CJ_region ?_
        refine RJ_op rfl (OJ_P (P_assign rfl) rfl ?_)
        refine RJ_nil ?_
        refine QJ_then ?_
        refine CJ_ret ?_
        refine QJ_then_ret ?_
        refine QJ_end (res1 Try.results8 rfl) ?_
        rw [wrR_fuse hC hF1, wrS_fuse hC hF1]
        refine CSpec.close () ?_ ?_ (Ent.trans (Ent.trans (Ent.takeC del0 (arrC (by omega) rfl) (Ent.take del0 (Ent.take del0 (Ent.take del0 (Ent.take del0 Ent.refl))))) (Arr_close (s := { s with fuse := 0, down := true }) hl hm (wf_fuse hw 0 (by omega) true))) (Ent.take del0 (Ent.drop (Ent.drop Ent.refl))))
        · rfl
        · trivial
      ·
        refine CJ_skip ?_
        refine QJ_then ?_
        refine CJ_seq ?_
        have hF1 : s.fuse ≠ 1 := by omega
        refine CJ_ent (Ent.trans (Ent.take del2 Ent.refl) (DOwn_open i hl (by omega))) ?_
        refine CJ_region ?_
        refine RJ_op rfl (OJ_P (P_move rfl) rfl ?_)
        refine RJ_op rfl (OJ_P (P_nilCheck rfl) rfl ?_)
        refine RJ_op rfl (OJ_P (P_fieldAddr rfl ⟨_, _, _, Try.runUnderlying55, rfl, rfl, Try.sizeOf52, rfl⟩) rfl ?_)
        refine RJ_op rfl (OJ_V (V_load rfl foc3 rfl Try.isAgg52) rfl ?_)
        refine RJ_op rfl (OJ_P (P_move rfl) rfl ?_)
        first | (refine RJ_op rfl (OJ_V (V_index rfl rfl rfl (by omega) foc4 (Reads.sl _ _ _) Try.runUnderlying52 Try.sizeOf58) rfl ?_)) | (refine RJ_op rfl (OJ_V (V_index rfl rfl (Int.toNat_of_nonneg (by omega)).symm (by omega) foc4 (Reads.sl _ _ _) Try.runUnderlying52 Try.sizeOf58) rfl ?_))
        refine RJ_op rfl (OJ_P (P_fieldE rfl ⟨_, _, _, Try.runUnderlying58, rfl, rfl, Try.sizeOf56, rfl⟩) rfl ?_)
        refine RJ_op rfl (OJ_V (V_loadE rfl rfl (by omega) foc4 (Reads.sl _ _ _) rfl rfl Try.isAgg56) rfl ?_)
        refine RJ_op rfl (OJ_P (P_move rfl) rfl ?_)
        refine RJ_op rfl (OJ_P (P_move rfl) rfl ?_)
        first | (refine RJ_op rfl (OJ_V (V_index rfl rfl rfl (by omega) foc0 (Reads.sl _ _ _) Try.runUnderlying56 Try.sizeOf26) rfl ?_)) | (refine RJ_op rfl (OJ_V (V_index rfl rfl (Int.toNat_of_nonneg (by omega)).symm (by omega) foc0 (Reads.sl _ _ _) Try.runUnderlying56 Try.sizeOf26) rfl ?_))
        refine RJ_op rfl (O_storeE (x' := _) rfl rfl rfl (by omega) foc0 rfl rfl rfl Try.sizeOf26 ?_)
        refine RJ_nil ?_
        refine QJ_then ?_
        refine CJ_seq ?_
        refine AJ_startH 32 (by kernel_rfl) rfl ?_
        refine AJ_takeP 0 1 rfl (by kernel_rfl) rfl (GY_none rfl) (P_move rfl) rfl (fun _ _ _ _ h => h) ?_
        refine AJ_takeP 1 3 rfl (by kernel_rfl) rfl (GY_none rfl) (P_nilCheck rfl) rfl (fun _ _ _ _ h => h) ?_
        refine AJ_takeP 2 7 rfl (by kernel_rfl) rfl (GY_none rfl) (P_fieldAddr rfl ⟨_, _, _, Try.runUnderlying55, rfl, rfl, Try.sizeOf51, rfl⟩) rfl (fun _ _ _ _ h => h) ?_
        refine AJ_takeV 3 15 rfl (by kernel_rfl) rfl (by kernel_rfl) (by kernel_rfl) (GY_none rfl) (Ent.take del0 (Ent.take del0 (Ent.take del0 (Ent.take del0 (Ent.take del0 (Ent.take del0 (Ent.take del0 (Ent.take del0 (Ent.take del0 Ent.refl))))))))) (V_load rfl foc3 rfl Try.isAgg51) rfl (fun _ _ _ _ h => h) ?_
        refine AJ_takeV 4 31 rfl (by kernel_rfl) rfl (by kernel_rfl) (by kernel_rfl) (GY_none rfl) (Ent.take del0 (Ent.take del0 (Ent.take del0 (Ent.take del0 (Ent.take del0 (Ent.take del0 (Ent.take del0 (Ent.take del0 (Ent.take del0 Ent.refl))))))))) (V_loadN rfl foc8 Try.isAgg60 Try.sizeOf60 rfl rfl) rfl (fun _ _ _ _ h => h) ?_
        refine AJ_op 5 63 rfl (by kernel_rfl) rfl (GY_none rfl) (O_delete (M := mBad) (k := ((i : Int), (k : Int))) rfl rfl foc6 ok_mBad ?_)
        refine ⟨fun h => absurd h (by decide), ?_⟩
        refine AJ_done (by kernel_rfl) ?_
        refine QJ_then ?_
        refine CJ_seq ?_
        refine AJ_startH 4608 (by kernel_rfl) rfl ?_
        refine AJ_takeP 0 1 rfl (by kernel_rfl) rfl (GY_none rfl) (P_move rfl) rfl (fun _ _ _ _ h => h) ?_
        refine AJ_takeP 1 3 rfl (by kernel_rfl) rfl (GY_none rfl) (P_move rfl) rfl (fun _ _ _ _ h => h) ?_
        refine AJ_takeP 2 7 rfl (by kernel_rfl) rfl (GY_none rfl) (P_nilCheck rfl) rfl (fun _ _ _ _ h => h) ?_
        refine AJ_takeP 3 15 rfl (by kernel_rfl) rfl (GY_none rfl) (P_fieldAddr rfl ⟨_, _, _, Try.runUnderlying55, rfl, rfl, Try.sizeOf53, rfl⟩) rfl (fun _ _ _ _ h => h) ?_
        refine AJ_takeV 4 31 rfl (by kernel_rfl) rfl (by kernel_rfl) (by kernel_rfl) (GY_none rfl) (Ent.take del0 (Ent.take del0 (Ent.take del0 (Ent.take del0 (Ent.take del0 (Ent.take del0 (Ent.take del0 (Ent.take del0 (Ent.take del0 Ent.refl))))))))) (V_load rfl foc3 rfl Try.isAgg53) rfl (fun _ _ _ _ h => h) ?_
        refine AJ_takeV 5 63 rfl (by kernel_rfl) rfl (by kernel_rfl) (by kernel_rfl) (GY_none rfl) (Ent.take del0 (Ent.take del0 (Ent.take del0 (Ent.take del0 (Ent.take del0 (Ent.take del0 (Ent.take del0 (Ent.take del0 (Ent.take del0 Ent.refl))))))))) (V_loadN rfl foc8 Try.isAgg60 Try.sizeOf60 rfl rfl) rfl (fun _ _ _ _ h => h) ?_
        refine AJ_takeP 6 127 rfl (by kernel_rfl) rfl (GY_none rfl) (P_move rfl) rfl (fun _ _ _ _ h => h) ?_
        refine AJ_takeP 7 255 rfl (by kernel_rfl) rfl (GY_none rfl) (P_build rfl (bld_64_0_1 _ _ _)) rfl (fun _ _ _ _ h => h) ?_
        refine AJ_op 8 511 rfl (by kernel_rfl) rfl (GY_none rfl) (O_buildSlice rfl (bs_53_1_0 _ _ _) rfl (fun b4 => ?_))
        refine ⟨fun _ => (Ent.take del1 (Ent.take del1 (Ent.take del1 (Ent.take del1 (Ent.take del1 (Ent.take del1 (Ent.take del1 (Ent.take del1 (Ent.take del1 (Ent.drop Ent.refl)))))))))), ?_⟩
        refine AJ_op 9 1023 rfl (by kernel_rfl) rfl (GY_none rfl) (O_append (t := tyRec) (bytes := 24) rfl rfl del6 foc0 (Reads.lit (t := tyRec) (ys := [⟨i, k, v⟩]) rfl rfl (by decide) (by decide) rfl) Try.underlying53 ok_tyRec (by simp only [List.length_append, List.length_cons, List.length_nil, maxLen] at *; omega) (by simp only [List.length_append, List.length_cons, List.length_nil, maxLen] at *; omega) rfl (fun p5 c6 => ?_))
        refine ⟨fun h => absurd h (by decide), ?_⟩
        refine AJ_takeP 10 2047 rfl (by kernel_rfl) rfl (GY_none rfl) (P_nilCheck rfl) rfl (fun _ _ _ _ h => h) ?_
        refine AJ_takeP 11 4095 rfl (by kernel_rfl) rfl (GY_none rfl) (P_fieldAddr rfl ⟨_, _, _, Try.runUnderlying55, rfl, rfl, Try.sizeOf53, rfl⟩) rfl (fun _ _ _ _ h => h) ?_
        refine AJ_op 12 8191 rfl (by kernel_rfl) rfl (GY_none rfl) (O_store rfl rfl foc5 rfl rfl Try.sizeOf53 ?_)
        refine ⟨fun h => absurd h (by decide), ?_⟩
        refine AJ_done (by kernel_rfl) ?_
        refine QJ_then ?_
        refine CJ_seq ?_
        refine CJ_region ?_
        refine RJ_op rfl (OJ_P (P_move rfl) rfl ?_)
        refine RJ_op rfl (OJ_P (P_nilCheck rfl) rfl ?_)
        refine RJ_op rfl (OJ_P (P_fieldAddr rfl ⟨_, _, _, Try.runUnderlying55, rfl, rfl, Try.sizeOf3, rfl⟩) rfl ?_)
        refine RJ_op rfl (OJ_V (V_load rfl foc5 rfl Try.isAgg3) rfl ?_)
        refine RJ_op rfl (OJ_P (P_add rfl rfl (by omega)) rfl ?_)
        refine RJ_op rfl (OJ_P (P_nilCheck rfl) rfl ?_)
        refine RJ_op rfl (OJ_P (P_fieldAddr rfl ⟨_, _, _, Try.runUnderlying55, rfl, rfl, Try.sizeOf3, rfl⟩) rfl ?_)
        refine RJ_op rfl (O_store rfl rfl foc5 rfl rfl Try.sizeOf3 ?_)
        refine RJ_nil ?_
        refine QJ_then ?_
        refine CJ_seq ?_
        refine CJ_region ?_
        refine RJ_op rfl (OJ_P (P_assign rfl) rfl ?_)
        refine RJ_nil ?_
        refine QJ_then ?_
        refine CJ_ret ?_
        refine QJ_end (res1 Try.results8 rfl) ?_
        rw [wrR_ok hC hF1, wrS_ok hC hF1]
        refine CSpec.close () ?_ ?_ (Ent.trans (Ent.trans (Ent.takeC del5 (arrC (by dsimp only; omega) (by dsimp only; omega)) (Ent.take del5 (Ent.take del2 (Ent.take del2 (Ent.take del2 (Ent.take del0 (Ent.take del1 Ent.refl))))))) (Arr_close1 (s' := { s with drv := setNow s i k v, bad := delM s.bad (i, k), log := s.log ++ [⟨i, k, v⟩], fuse := s.fuse - 1, writes := s.writes + 1 }) (lv := ⟨p5, _, c6⟩) i _ hl hm (by omega) rfl rfl (wf_wr hw (by omega) g3 _ _ (by omega)))) (Ent.take del0 (Ent.drop (Ent.drop (Ent.drop Ent.refl)))))
        · rfl
        · trivial
    ·
      refine CJ_skip ?_
      refine QJ_then ?_
      refine CJ_seq ?_
      have hF1 : s.fuse ≠ 1 := by omega
      refine CJ_ent (Ent.trans (Ent.take del2 Ent.refl) (DOwn_open i hl (by omega))) ?_
      refine CJ_region ?_
      refine RJ_op rfl (OJ_P (P_move rfl) rfl ?_)
      refine RJ_op rfl (OJ_P (P_nilCheck rfl) rfl ?_)
      refine RJ_op rfl (OJ_P (P_fieldAddr rfl ⟨_, _, _, Try.runUnderlying55, rfl, rfl, Try.sizeOf52, rfl⟩) rfl ?_)
      refine RJ_op rfl (OJ_V (V_load rfl foc3 rfl Try.isAgg52) rfl ?_)
      refine RJ_op rfl (OJ_P (P_move rfl) rfl ?_)
      first | (refine RJ_op rfl (OJ_V (V_index rfl rfl rfl (by omega) foc4 (Reads.sl _ _ _) Try.runUnderlying52 Try.sizeOf58) rfl ?_)) | (refine RJ_op rfl (OJ_V (V_index rfl rfl (Int.toNat_of_nonneg (by omega)).symm (by omega) foc4 (Reads.sl _ _ _) Try.runUnderlying52 Try.sizeOf58) rfl ?_))
      refine RJ_op rfl (OJ_P (P_fieldE rfl ⟨_, _, _, Try.runUnderlying58, rfl, rfl, Try.sizeOf56, rfl⟩) rfl ?_)
      refine RJ_op rfl (OJ_V (V_loadE rfl rfl (by omega) foc4 (Reads.sl _ _ _) rfl rfl Try.isAgg56) rfl ?_)
      refine RJ_op rfl (OJ_P (P_move rfl) rfl ?_)
      refine RJ_op rfl (OJ_P (P_move rfl) rfl ?_)
      first | (refine RJ_op rfl (OJ_V (V_index rfl rfl rfl (by omega) foc0 (Reads.sl _ _ _) Try.runUnderlying56 Try.sizeOf26) rfl ?_)) | (refine RJ_op rfl (OJ_V (V_index rfl rfl (Int.toNat_of_nonneg (by omega)).symm (by omega) foc0 (Reads.sl _ _ _) Try.runUnderlying56 Try.sizeOf26) rfl ?_))
      refine RJ_op rfl (O_storeE (x' := _) rfl rfl rfl (by omega) foc0 rfl rfl rfl Try.sizeOf26 ?_)
      refine RJ_nil ?_
      refine QJ_then ?_
      refine CJ_seq ?_
      refine AJ_startH 32 (by kernel_rfl) rfl ?_
      refine AJ_takeP 0 1 rfl (by kernel_rfl) rfl (GY_none rfl) (P_move rfl) rfl (fun _ _ _ _ h => h) ?_
      refine AJ_takeP 1 3 rfl (by kernel_rfl) rfl (GY_none rfl) (P_nilCheck rfl) rfl (fun _ _ _ _ h => h) ?_
      refine AJ_takeP 2 7 rfl (by kernel_rfl) rfl (GY_none rfl) (P_fieldAddr rfl ⟨_, _, _, Try.runUnderlying55, rfl, rfl, Try.sizeOf51, rfl⟩) rfl (fun _ _ _ _ h => h) ?_
      refine AJ_takeV 3 15 rfl (by kernel_rfl) rfl (by kernel_rfl) (by kernel_rfl) (GY_none rfl) (Ent.take del0 (Ent.take del0 (Ent.take del0 (Ent.take del0 (Ent.take del0 (Ent.take del0 (Ent.take del0 (Ent.take del0 (Ent.take del0 Ent.refl))))))))) (V_load rfl foc3 rfl Try.isAgg51) rfl (fun _ _ _ _ h => h) ?_
      refine AJ_takeV 4 31 rfl (by kernel_rfl) rfl (by kernel_rfl) (by kernel_rfl) (GY_none rfl) (Ent.take del0 (Ent.take del0 (Ent.take del0 (Ent.take del0 (Ent.take del0 (Ent.take del0 (Ent.take del0 (Ent.take del0 (Ent.take del0 Ent.refl))))))))) (V_loadN rfl foc8 Try.isAgg60 Try.sizeOf60 rfl rfl) rfl (fun _ _ _ _ h => h) ?_
      refine AJ_op 5 63 rfl (by kernel_rfl) rfl (GY_none rfl) (O_delete (M := mBad) (k := ((i : Int), (k : Int))) rfl rfl foc6 ok_mBad ?_)
      refine ⟨fun h => absurd h (by decide), ?_⟩
      refine AJ_done (by kernel_rfl) ?_
      refine QJ_then ?_
      refine CJ_seq ?_
      refine AJ_startH 4608 (by kernel_rfl) rfl ?_
      refine AJ_takeP 0 1 rfl (by kernel_rfl) rfl (GY_none rfl) (P_move rfl) rfl (fun _ _ _ _ h => h) ?_
      refine AJ_takeP 1 3 rfl (by kernel_rfl) rfl (GY_none rfl) (P_move rfl) rfl (fun _ _ _ _ h => h) ?_
      refine AJ_takeP 2 7 rfl (by kernel_rfl) rfl (GY_none rfl) (P_nilCheck rfl) rfl (fun _ _ _ _ h => h) ?_
      refine AJ_takeP 3 15 rfl (by kernel_rfl) rfl (GY_none rfl) (P_fieldAddr rfl ⟨_, _, _, Try.runUnderlying55, rfl, rfl, Try.sizeOf53, rfl⟩) rfl (fun _ _ _ _ h => h) ?_
      refine AJ_takeV 4 31 rfl (by kernel_rfl) rfl (by kernel_rfl) (by kernel_rfl) (GY_none rfl) (Ent.take del0 (Ent.take del0 (Ent.take del0 (Ent.take del0 (Ent.take del0 (Ent.take del0 (Ent.take del0 (Ent.take del0 (Ent.take del0 Ent.refl))))))))) (V_load rfl foc3 rfl Try.isAgg53) rfl (fun _ _ _ _ h => h) ?_
      refine AJ_takeV 5 63 rfl (by kernel_rfl) rfl (by kernel_rfl) (by kernel_rfl) (GY_none rfl) (Ent.take del0 (Ent.take del0 (Ent.take del0 (Ent.take del0 (Ent.take del0 (Ent.take del0 (Ent.take del0 (Ent.take del0 (Ent.take del0 Ent.refl))))))))) (V_loadN rfl foc8 Try.isAgg60 Try.sizeOf60 rfl rfl) rfl (fun _ _ _ _ h => h) ?_
      refine AJ_takeP 6 127 rfl (by kernel_rfl) rfl (GY_none rfl) (P_move rfl) rfl (fun _ _ _ _ h => h) ?_
      refine AJ_takeP 7 255 rfl (by kernel_rfl) rfl (GY_none rfl) (P_build rfl (bld_64_0_1 _ _ _)) rfl (fun _ _ _ _ h => h) ?_
      refine AJ_op 8 511 rfl (by kernel_rfl) rfl (GY_none rfl) (O_buildSlice rfl (bs_53_1_0 _ _ _) rfl (fun b7 => ?_))
      refine ⟨fun _ => (Ent.take del1 (Ent.take del1 (Ent.take del1 (Ent.take del1 (Ent.take del1 (Ent.take del1 (Ent.take del1 (Ent.take del1 (Ent.take del1 (Ent.drop Ent.refl)))))))))), ?_⟩
      refine AJ_op 9 1023 rfl (by kernel_rfl) rfl (GY_none rfl) (O_append (t := tyRec) (bytes := 24) rfl rfl del6 foc0 (Reads.lit (t := tyRec) (ys := [⟨i, k, v⟩]) rfl rfl (by decide) (by decide) rfl) Try.underlying53 ok_tyRec (by simp only [List.length_append, List.length_cons, List.length_nil, maxLen] at *; omega) (by simp only [List.length_append, List.length_cons, List.length_nil, maxLen] at *; omega) rfl (fun p8 c9 => ?_))
      refine ⟨fun h => absurd h (by decide), ?_⟩
      refine AJ_takeP 10 2047 rfl (by kernel_rfl) rfl (GY_none rfl) (P_nilCheck rfl) rfl (fun _ _ _ _ h => h) ?_
      refine AJ_takeP 11 4095 rfl (by kernel_rfl) rfl (GY_none rfl) (P_fieldAddr rfl ⟨_, _, _, Try.runUnderlying55, rfl, rfl, Try.sizeOf53, rfl⟩) rfl (fun _ _ _ _ h => h) ?_
      refine AJ_op 12 8191 rfl (by kernel_rfl) rfl (GY_none rfl) (O_store rfl rfl foc5 rfl rfl Try.sizeOf53 ?_)
      refine ⟨fun h => absurd h (by decide), ?_⟩
      refine AJ_done (by kernel_rfl) ?_
      refine QJ_then ?_
      refine CJ_seq ?_
      refine CJ_region ?_
      refine RJ_op rfl (OJ_P (P_move rfl) rfl ?_)
      refine RJ_op rfl (OJ_P (P_nilCheck rfl) rfl ?_)
      refine RJ_op rfl (OJ_P (P_fieldAddr rfl ⟨_, _, _, Try.runUnderlying55, rfl, rfl, Try.sizeOf3, rfl⟩) rfl ?_)
      refine RJ_op rfl (OJ_V (V_load rfl foc5 rfl Try.isAgg3) rfl ?_)
      refine RJ_op rfl (OJ_P (P_add rfl rfl (by omega)) rfl ?_)
      refine RJ_op rfl (OJ_P (P_nilCheck rfl) rfl ?_)
      refine RJ_op rfl (OJ_P (P_fieldAddr rfl ⟨_, _, _, Try.runUnderlying55, rfl, rfl, Try.sizeOf3, rfl⟩) rfl ?_)
      refine RJ_op rfl (O_store rfl rfl foc5 rfl rfl Try.sizeOf3 ?_)
      refine RJ_nil ?_
      refine QJ_then ?_
      refine CJ_seq ?_
      refine CJ_region ?_
      refine RJ_op rfl (OJ_P (P_assign rfl) rfl ?_)
      refine RJ_nil ?_
      refine QJ_then ?_
      refine CJ_ret ?_
      refine QJ_end (res1 Try.results8 rfl) ?_
      rw [wrR_ok hC hF1, wrS_ok hC hF1]
      refine CSpec.close () ?_ ?_ (Ent.trans (Ent.trans (Ent.takeC del5 (arrC (by dsimp only; omega) (by dsimp only; omega)) (Ent.take del5 (Ent.take del2 (Ent.take del2 (Ent.take del2 (Ent.take del0 (Ent.take del1 Ent.refl))))))) (Arr_close1 (s' := { s with drv := setNow s i k v, bad := delM s.bad (i, k), log := s.log ++ [⟨i, k, v⟩], fuse := s.fuse - 1, writes := s.writes + 1 }) (lv := ⟨p8, _, c9⟩) i _ hl hm (by omega) rfl rfl (wf_wr hw (by omega) g3 _ _ (by omega)))) (Ent.take del0 (Ent.drop (Ent.drop (Ent.drop Ent.refl)))))
      · rfl
      · trivial

theorem c_Down {W : World} {b : Nat} {s : ArrS} :
    CSpec Try.prog W 40 [ptr b 0] [Arr b s] (fun _ : Unit => .bool s.down) (fun _ => True) (fun _ F => Arr b s :: F) := by
  refine CSpec.of_body Try.func40 rfl Try.ntmps40 rfl (fun F => ?_)
  show CJ _ _ _ _ _ _ (_ :: F)
  refine CJ_entX (Ent.transX (Ent.take del0 Ent.refl) Arr_open) (fun ⟨dv, lv, mr, l⟩ => ?_)
  refine CJ_pur (fun hX => ?_)
  obtain ⟨hl, hm, hw⟩ : l.map Prod.snd = (s).drv ∧ (∀ p ∈ l, p.1.miss = p.2.miss) ∧ ArrWF (s) := hX
  show CJ _ _ _ _ _ _ (blk b 55 [Sl3.v dv, .map (some mr), Sl3.v lv, _, _, _] :: sl tyDrv (Sl3.v dv) (DL.hs l) :: DOwn l :: sl tyRec (Sl3.v lv) _ :: mpc mBad mr _ :: _)
  have hn := hs_len hl
  have hwF := hw.fuse
  have hwL := hw.len
  have hwC := hw.cnt
  refine CJ_seq ?_
  refine CJ_region ?_
  refine RJ_op rfl (OJ_P (P_assign rfl) rfl ?_)
  refine RJ_nil ?_
  refine QJ_then ?_
  refine CJ_seq ?_
  refine CJ_region ?_
  refine RJ_op rfl (OJ_P (P_move rfl) rfl ?_)
  refine RJ_op rfl (OJ_P (P_nilCheck rfl) rfl ?_)
  refine RJ_op rfl (OJ_P (P_fieldAddr rfl ⟨_, _, _, Try.runUnderlying55, rfl, rfl, Try.sizeOf4, rfl⟩) rfl ?_)
  refine RJ_op rfl (OJ_V (V_load rfl foc0 rfl Try.isAgg4) rfl ?_)
  refine RJ_op rfl (OJ_P (P_assign rfl) rfl ?_)
  refine RJ_nil ?_
  refine QJ_then ?_
  refine CJ_ret ?_
  refine QJ_end (res1 Try.results40 rfl) ?_
  refine CSpec.close () ?_ ?_ (Ent.trans (Ent.trans (Ent.take del0 (Ent.take del0 (Ent.take del0 (Ent.take del0 (Ent.take del0 Ent.refl))))) (Arr_close hl hm hw)) (Ent.take del0 Ent.refl))
  · rfl
  · trivial

theorem c_Writes {W : World} {b : Nat} {s : ArrS} :
    CSpec Try.prog W 41 [ptr b 0] [Arr b s] (fun _ : Unit => .int .i64 (s.writes : Int)) (fun _ => True) (fun _ F => Arr b s :: F) := by
  refine CSpec.of_body Try.func41 rfl Try.ntmps41 rfl (fun F => ?_)
  show CJ _ _ _ _ _ _ (_ :: F)
  refine CJ_entX (Ent.transX (Ent.take del0 Ent.refl) Arr_open) (fun ⟨dv, lv, mr, l⟩ => ?_)
  refine CJ_pur (fun hX => ?_)
  obtain ⟨hl, hm, hw⟩ : l.map Prod.snd = (s).drv ∧ (∀ p ∈ l, p.1.miss = p.2.miss) ∧ ArrWF (s) := hX
  show CJ _ _ _ _ _ _ (blk b 55 [Sl3.v dv, .map (some mr), Sl3.v lv, _, _, _] :: sl tyDrv (Sl3.v dv) (DL.hs l) :: DOwn l :: sl tyRec (Sl3.v lv) _ :: mpc mBad mr _ :: _)
  have hn := hs_len hl
  have hwF := hw.fuse
  have hwL := hw.len
  have hwC := hw.cnt
  refine CJ_seq ?_
  refine CJ_region ?_
  refine RJ_op rfl (OJ_P (P_assign rfl) rfl ?_)
  refine RJ_nil ?_
  refine QJ_then ?_
  refine CJ_seq ?_
  refine CJ_region ?_
  refine RJ_op rfl (OJ_P (P_move rfl) rfl ?_)
  refine RJ_op rfl (OJ_P (P_nilCheck rfl) rfl ?_)
  refine RJ_op rfl (OJ_P (P_fieldAddr rfl ⟨_, _, _, Try.runUnderlying55, rfl, rfl, Try.sizeOf3, rfl⟩) rfl ?_)
  refine RJ_op rfl (OJ_V (V_load rfl foc0 rfl Try.isAgg3) rfl ?_)
  refine RJ_op rfl (OJ_P (P_assign rfl) rfl ?_)
  refine RJ_nil ?_
  refine QJ_then ?_
  refine CJ_ret ?_
  refine QJ_end (res1 Try.results41 rfl) ?_
  refine CSpec.close () ?_ ?_ (Ent.trans (Ent.trans (Ent.take del0 (Ent.take del0 (Ent.take del0 (Ent.take del0 (Ent.take del0 Ent.refl))))) (Arr_close hl hm hw)) (Ent.take del0 Ent.refl))
  · rfl
  · trivial

theorem c_Unflushed {W : World} {b : Nat} {s : ArrS} :
    CSpec Try.prog W 42 [ptr b 0] [Arr b s] (fun _ : Unit => .int .i64 (s.log.length : Int)) (fun _ => True) (fun _ F => Arr b s :: F) := by
  refine CSpec.of_body Try.func42 rfl Try.ntmps42 rfl (fun F => ?_)
  show CJ _ _ _ _ _ _ (_ :: F)
  refine CJ_entX (Ent.transX (Ent.take del0 Ent.refl) Arr_open) (fun ⟨dv, lv, mr, l⟩ => ?_)
  refine CJ_pur (fun hX => ?_)
  obtain ⟨hl, hm, hw⟩ : l.map Prod.snd = (s).drv ∧ (∀ p ∈ l, p.1.miss = p.2.miss) ∧ ArrWF (s) := hX
  show CJ _ _ _ _ _ _ (blk b 55 [Sl3.v dv, .map (some mr), Sl3.v lv, _, _, _] :: sl tyDrv (Sl3.v dv) (DL.hs l) :: DOwn l :: sl tyRec (Sl3.v lv) _ :: mpc mBad mr _ :: _)
  have hn := hs_len hl
  have hwF := hw.fuse
  have hwL := hw.len
  have hwC := hw.cnt
  refine CJ_seq ?_
  refine CJ_region ?_
  refine RJ_op rfl (OJ_P (P_assign rfl) rfl ?_)
  refine RJ_nil ?_
  refine QJ_then ?_
  refine CJ_seq ?_
  refine CJ_region ?_
  refine RJ_op rfl (OJ_P (P_move rfl) rfl ?_)
  refine RJ_op rfl (OJ_P (P_nilCheck rfl) rfl ?_)
  refine RJ_op rfl (OJ_P (P_fieldAddr rfl ⟨_, _, _, Try.runUnderlying55, rfl, rfl, Try.sizeOf53, rfl⟩) rfl ?_)
  refine RJ_op rfl (OJ_V (V_load rfl foc0 rfl Try.isAgg53) rfl ?_)
  refine RJ_op rfl (OJ_V (V_len rfl foc3 (Reads.sl _ _ _) Try.runUnderlying53) rfl ?_)
  refine RJ_op rfl (OJ_P (P_assign rfl) rfl ?_)
  refine RJ_nil ?_
  refine QJ_then ?_
  refine CJ_ret ?_
  refine QJ_end (res1 Try.results42 rfl) ?_
  refine CSpec.close () ?_ ?_ (Ent.trans (Ent.trans (Ent.take del0 (Ent.take del0 (Ent.take del0 (Ent.take del0 (Ent.take del0 Ent.refl))))) (Arr_close hl hm hw)) (Ent.take del0 Ent.refl))
  · rfl
  · trivial

theorem c_CountD {W : World} {b : Nat} {s : ArrS} :
    CSpec Try.prog W 39 [ptr b 0] [Arr b s] (fun _ : Unit => .int .i64 (s.drv.length : Int)) (fun _ => True) (fun _ F => Arr b s :: F) := by
  refine CSpec.of_body Try.func39 rfl Try.ntmps39 rfl (fun F => ?_)
  show CJ _ _ _ _ _ _ (_ :: F)
  refine CJ_entX (Ent.transX (Ent.take del0 Ent.refl) Arr_open) (fun ⟨dv, lv, mr, l⟩ => ?_)
  refine CJ_pur (fun hX => ?_)
  obtain ⟨hl, hm, hw⟩ : l.map Prod.snd = (s).drv ∧ (∀ p ∈ l, p.1.miss = p.2.miss) ∧ ArrWF (s) := hX
  show CJ _ _ _ _ _ _ (blk b 55 [Sl3.v dv, .map (some mr), Sl3.v lv, _, _, _] :: sl tyDrv (Sl3.v dv) (DL.hs l) :: DOwn l :: sl tyRec (Sl3.v lv) _ :: mpc mBad mr _ :: _)
  have hn := hs_len hl
  have hwF := hw.fuse
  have hwL := hw.len
  have hwC := hw.cnt
  refine CJ_seq ?_
  refine CJ_region ?_
  refine RJ_op rfl (OJ_P (P_assign rfl) rfl ?_)
  refine RJ_nil ?_
  refine QJ_then ?_
  refine CJ_seq ?_
  refine CJ_region ?_
  refine RJ_op rfl (OJ_P (P_move rfl) rfl ?_)
  refine RJ_op rfl (OJ_P (P_nilCheck rfl) rfl ?_)
  refine RJ_op rfl (OJ_P (P_fieldAddr rfl ⟨_, _, _, Try.runUnderlying55, rfl, rfl, Try.sizeOf52, rfl⟩) rfl ?_)
  refine RJ_op rfl (OJ_V (V_load rfl foc0 rfl Try.isAgg52) rfl ?_)
  refine RJ_op rfl (OJ_V (V_len rfl foc1 (Reads.sl _ _ _) Try.runUnderlying52) rfl ?_)
  refine RJ_op rfl (OJ_P (P_assign rfl) rfl ?_)
  refine RJ_nil ?_
  refine QJ_then ?_
  refine CJ_ret ?_
  refine QJ_end (res1 Try.results39 rfl) ?_
  refine CSpec.close () ?_ ?_ (Ent.trans (Ent.trans (Ent.take del0 (Ent.take del0 (Ent.take del0 (Ent.take del0 (Ent.take del0 Ent.refl))))) (Arr_close hl hm hw)) (Ent.take del0 Ent.refl))
  · exact iv (by omega)
  · trivial

theorem c_FuseD {W : World} {b : Nat} {s : ArrS} {n : Int} (hN : n ≤ 9223372036854775807) :
    CSpec Try.prog W 24 [ptr b 0, .int .i64 n] [Arr b s] (fun _ : Unit => .tuple #[]) (fun _ => True) (fun _ F => Arr b { s with fuse := n.toNat } :: F) := by
  refine CSpec.of_body Try.func24 rfl Try.ntmps24 rfl (fun F => ?_)
  show CJ _ _ _ _ _ _ (_ :: F)
  refine CJ_entX (Ent.transX (Ent.take del0 Ent.refl) Arr_open) (fun ⟨dv, lv, mr, l⟩ => ?_)
  refine CJ_pur (fun hX => ?_)
  obtain ⟨hl, hm, hw⟩ : l.map Prod.snd = (s).drv ∧ (∀ p ∈ l, p.1.miss = p.2.miss) ∧ ArrWF (s) := hX
  show CJ _ _ _ _ _ _ (blk b 55 [Sl3.v dv, .map (some mr), Sl3.v lv, _, _, _] :: sl tyDrv (Sl3.v dv) (DL.hs l) :: DOwn l :: sl tyRec (Sl3.v lv) _ :: mpc mBad mr _ :: _)
  have hn := hs_len hl
  have hwF := hw.fuse
  have hwL := hw.len
  have hwC := hw.cnt
  refine CJ_region ?_
  refine RJ_op rfl (OJ_P (P_move rfl) rfl ?_)
  refine RJ_op rfl (OJ_P (P_move rfl) rfl ?_)
  refine RJ_op rfl (OJ_P (P_max rfl rfl) rfl ?_)
  refine RJ_op rfl (OJ_P (P_nilCheck rfl) rfl ?_)
  refine RJ_op rfl (OJ_P (P_fieldAddr rfl ⟨_, _, _, Try.runUnderlying55, rfl, rfl, Try.sizeOf3, rfl⟩) rfl ?_)
  refine RJ_op rfl (O_store rfl rfl foc0 rfl rfl Try.sizeOf3 ?_)
  refine RJ_nil ?_
  refine QJ_endN (res0 Try.results24) ?_
  refine CSpec.close () ?_ ?_ (Ent.trans (Ent.trans (Ent.takeC del0 (arrC (by dsimp only; omega) rfl) (Ent.take del0 (Ent.take del0 (Ent.take del0 (Ent.take del0 Ent.refl))))) (Arr_close (s := { s with fuse := n.toNat }) hl hm (wf_fuse hw n.toNat (by omega) s.down))) (Ent.take del0 Ent.refl))
  · rfl
  · trivial

theorem c_MissingD {W : World} {b : Nat} {s : ArrS} {d : Int} :
    CSpec Try.prog W 44 [ptr b 0, .int .i64 d] [Arr b s] (fun _ : Unit => .bool (missR s d)) (fun _ => True) (fun _ F => Arr b s :: F) := by
  refine CSpec.of_body Try.func44 rfl Try.ntmps44 rfl (fun F => ?_)
  show CJ _ _ _ _ _ _ (_ :: F)
  refine CJ_entX (Ent.transX (Ent.take del0 Ent.refl) Arr_open) (fun ⟨dv, lv, mr, l⟩ => ?_)
  refine CJ_pur (fun hX => ?_)
  obtain ⟨hl, hm, hw⟩ : l.map Prod.snd = (s).drv ∧ (∀ p ∈ l, p.1.miss = p.2.miss) ∧ ArrWF (s) := hX
  show CJ _ _ _ _ _ _ (blk b 55 [Sl3.v dv, .map (some mr), Sl3.v lv, _, _, _] :: sl tyDrv (Sl3.v dv) (DL.hs l) :: DOwn l :: sl tyRec (Sl3.v lv) _ :: mpc mBad mr _ :: _)
  have hn := hs_len hl
  have hwF := hw.fuse
  have hwL := hw.len
  have hwC := hw.cnt
  refine CJ_seq ?_
  refine CJ_region ?_
  refine RJ_op rfl (OJ_P (P_assign rfl) rfl ?_)
  refine RJ_nil ?_
  refine QJ_then ?_
  refine CJ_seq ?_
  refine CJ_region ?_
  refine RJ_op rfl (OJ_P (P_move rfl) rfl ?_)
  refine RJ_op rfl (OJ_P (P_geq rfl rfl) rfl ?_)
  refine RJ_op rfl (OJ_P (P_move rfl) rfl ?_)
  first | (refine RJ_splitD 7 rfl (fun hg1B hg1 => ?_) (fun hg1B hg1 => ?_)) | (refine RJ_splitN 7 rfl (fun hg1B hg1 => ?_) (fun hg1B hg1 => ?_)) | (refine RJ_split 7 rfl (fun hg1B => ?_) (fun hg1B => ?_))
  ·
    refine RJ_gy (GY_yes rfl rfl rfl hg1B) (OJ_P (P_move rfl) rfl ?_)
    refine RJ_gy (GY_yes rfl rfl rfl hg1B) (OJ_P (P_move rfl) rfl ?_)
    refine RJ_gy (GY_yes rfl rfl rfl hg1B) (OJ_P (P_nilCheck rfl) rfl ?_)
    refine RJ_gy (GY_yes rfl rfl rfl hg1B) (OJ_P (P_fieldAddr rfl ⟨_, _, _, Try.runUnderlying55, rfl, rfl, Try.sizeOf52, rfl⟩) rfl ?_)
    refine RJ_gy (GY_yes rfl rfl rfl hg1B) (OJ_V (V_load rfl foc0 rfl Try.isAgg52) rfl ?_)
    refine RJ_gy (GY_yes rfl rfl rfl hg1B) (OJ_V (V_len rfl foc1 (Reads.sl _ _ _) Try.runUnderlying52) rfl ?_)
    refine RJ_gy (GY_yes rfl rfl rfl hg1B) (OJ_P (P_lss rfl rfl) rfl ?_)
    refine RJ_op rfl (OJ_P (P_pickT rfl hg1B rfl) rfl ?_)
    refine RJ_op rfl (OJ_P (P_move rfl) rfl ?_)
    first | (refine RJ_splitD 16 rfl (fun hg2B hg2 => ?_) (fun hg2B hg2 => ?_)) | (refine RJ_splitN 16 rfl (fun hg2B hg2 => ?_) (fun hg2B hg2 => ?_)) | (refine RJ_split 16 rfl (fun hg2B => ?_) (fun hg2B => ?_))
    ·
      have hq : d < s.drv.length := by simp_all
      refine RJ_gy (GY_yes rfl rfl rfl hg2B) (OJ_P (P_move rfl) rfl ?_)
      refine RJ_gy (GY_yes rfl rfl rfl hg2B) (OJ_P (P_nilCheck rfl) rfl ?_)
      refine RJ_gy (GY_yes rfl rfl rfl hg2B) (OJ_P (P_fieldAddr rfl ⟨_, _, _, Try.runUnderlying55, rfl, rfl, Try.sizeOf52, rfl⟩) rfl ?_)
      refine RJ_gy (GY_yes rfl rfl rfl hg2B) (OJ_V (V_load rfl foc0 rfl Try.isAgg52) rfl ?_)
      refine RJ_gy (GY_yes rfl rfl rfl hg2B) (OJ_P (P_move rfl) rfl ?_)
      first | (refine RJ_gy (GY_yes rfl rfl rfl hg2B) (OJ_V (V_index rfl rfl rfl (by omega) foc1 (Reads.sl _ _ _) Try.runUnderlying52 Try.sizeOf58) rfl ?_)) | (refine RJ_gy (GY_yes rfl rfl rfl hg2B) (OJ_V (V_index rfl rfl (Int.toNat_of_nonneg (by omega)).symm (by omega) foc1 (Reads.sl _ _ _) Try.runUnderlying52 Try.sizeOf58) rfl ?_))
      refine RJ_gy (GY_yes rfl rfl rfl hg2B) (OJ_P (P_fieldE rfl ⟨_, _, _, Try.runUnderlying58, rfl, rfl, Try.sizeOf4, rfl⟩) rfl ?_)
      refine RJ_gy (GY_yes rfl rfl rfl hg2B) (OJ_V (V_loadE rfl rfl (by omega) foc1 (Reads.sl _ _ _) rfl rfl Try.isAgg4) rfl ?_)
      refine RJ_op rfl (OJ_P (P_pickT rfl hg2B rfl) rfl ?_)
      refine RJ_op rfl (OJ_P (P_assign rfl) rfl ?_)
      refine RJ_nil ?_
      refine QJ_then ?_
      refine CJ_ret ?_
      refine QJ_end (res1 Try.results44 rfl) ?_
      refine CSpec.close () ?_ ?_ (Ent.trans (Ent.trans (Ent.take del0 (Ent.take del0 (Ent.take del0 (Ent.take del0 (Ent.take del0 Ent.refl))))) (Arr_close hl hm hw)) (Ent.take del0 Ent.refl))
      · first | (have hR : inR s d := ⟨by omega, by omega⟩; exact bv (by rw [missR, if_pos hR, missI, ← miss_at hl hm (by omega)])) | exact bv (by rw [missR, if_neg (fun h : inR s d => by unfold inR at h; omega)])
      · trivial
    ·
      refine RJ_gn (GY_no rfl rfl rfl hg2B) rfl rfl ?_
      refine RJ_gn (GY_no rfl rfl rfl hg2B) rfl rfl ?_
      refine RJ_gn (GY_no rfl rfl rfl hg2B) rfl rfl ?_
      refine RJ_gn (GY_no rfl rfl rfl hg2B) rfl rfl ?_
      refine RJ_gn (GY_no rfl rfl rfl hg2B) rfl rfl ?_
      refine RJ_gn (GY_no rfl rfl rfl hg2B) rfl rfl ?_
      refine RJ_gn (GY_no rfl rfl rfl hg2B) rfl rfl ?_
      refine RJ_gn (GY_no rfl rfl rfl hg2B) rfl rfl ?_
      refine RJ_op rfl (OJ_P (P_pickF rfl hg2B rfl) rfl ?_)
      refine RJ_op rfl (OJ_P (P_assign rfl) rfl ?_)
      refine RJ_nil ?_
      refine QJ_then ?_
      refine CJ_ret ?_
      refine QJ_end (res1 Try.results44 rfl) ?_
      refine CSpec.close () ?_ ?_ (Ent.trans (Ent.trans (Ent.take del0 (Ent.take del0 (Ent.take del0 (Ent.take del0 (Ent.take del0 Ent.refl))))) (Arr_close hl hm hw)) (Ent.take del0 Ent.refl))
      · first | (have hR : inR s d := ⟨by omega, by omega⟩; exact bv (by rw [missR, if_pos hR, missI, ← miss_at hl hm (by omega)])) | exact bv (by rw [missR, if_neg (fun h : inR s d => by unfold inR at h; omega)])
      · trivial
  ·
    refine RJ_gn (GY_no rfl rfl rfl hg1B) rfl rfl ?_
    refine RJ_gn (GY_no rfl rfl rfl hg1B) rfl rfl ?_
    refine RJ_gn (GY_no rfl rfl rfl hg1B) rfl rfl ?_
    refine RJ_gn (GY_no rfl rfl rfl hg1B) rfl rfl ?_
    refine RJ_gn (GY_no rfl rfl rfl hg1B) rfl rfl ?_
    refine RJ_gn (GY_no rfl rfl rfl hg1B) rfl rfl ?_
    refine RJ_gn (GY_no rfl rfl rfl hg1B) rfl rfl ?_
    refine RJ_op rfl (OJ_P (P_pickF rfl hg1B rfl) rfl ?_)
    refine RJ_op rfl (OJ_P (P_move rfl) rfl ?_)
    refine RJ_gn (GY_no rfl rfl rfl rfl) rfl rfl ?_
    refine RJ_gn (GY_no rfl rfl rfl rfl) rfl rfl ?_
    refine RJ_gn (GY_no rfl rfl rfl rfl) rfl rfl ?_
    refine RJ_gn (GY_no rfl rfl rfl rfl) rfl rfl ?_
    refine RJ_gn (GY_no rfl rfl rfl rfl) rfl rfl ?_
    refine RJ_gn (GY_no rfl rfl rfl rfl) rfl rfl ?_
    refine RJ_gn (GY_no rfl rfl rfl rfl) rfl rfl ?_
    refine RJ_gn (GY_no rfl rfl rfl rfl) rfl rfl ?_
    refine RJ_op rfl (OJ_P (P_pickF rfl rfl rfl) rfl ?_)
    refine RJ_op rfl (OJ_P (P_assign rfl) rfl ?_)
    refine RJ_nil ?_
    refine QJ_then ?_
    refine CJ_ret ?_
    refine QJ_end (res1 Try.results44 rfl) ?_
    refine CSpec.close () ?_ ?_ (Ent.trans (Ent.trans (Ent.take del0 (Ent.take del0 (Ent.take del0 (Ent.take del0 (Ent.take del0 Ent.refl))))) (Arr_close hl hm hw)) (Ent.take del0 Ent.refl))
    · first | (have hR : inR s d := ⟨by omega, by omega⟩; exact bv (by rw [missR, if_pos hR, missI, ← miss_at hl hm (by omega)])) | exact bv (by rw [missR, if_neg (fun h : inR s d => by unfold inR at h; omega)])
    · trivial

theorem c_SetMissing {W : World} {b : Nat} {s : ArrS} {d : Int} {t : Bool} :
    CSpec Try.prog W 28 [ptr b 0, .int .i64 d, .bool t] [Arr b s] (fun _ : Unit => .int .i64 (smR s d)) (fun _ => True) (fun _ F => Arr b (smS s d t) :: F) := by
  refine CSpec.of_body Try.func28 rfl Try.ntmps28 rfl (fun F => ?_)
  show CJ _ _ _ _ _ _ (_ :: F)
  refine CJ_entX (Ent.transX (Ent.take del0 Ent.refl) Arr_open) (fun ⟨dv, lv, mr, l⟩ => ?_)
  refine CJ_pur (fun hX => ?_)
  obtain ⟨hl, hm, hw⟩ : l.map Prod.snd = (s).drv ∧ (∀ p ∈ l, p.1.miss = p.2.miss) ∧ ArrWF (s) := hX
  show CJ _ _ _ _ _ _ (blk b 55 [Sl3.v dv, .map (some mr), Sl3.v lv, _, _, _] :: sl tyDrv (Sl3.v dv) (DL.hs l) :: DOwn l :: sl tyRec (Sl3.v lv) _ :: mpc mBad mr _ :: _)
  have hn := hs_len hl
  have hwF := hw.fuse
  have hwL := hw.len
  have hwC := hw.cnt
  refine CJ_seq ?_
  refine CJ_region ?_
  refine RJ_op rfl (OJ_P (P_assign rfl) rfl ?_)
  refine RJ_nil ?_
  refine QJ_then ?_
  refine CJ_seq ?_
  refine CJ_seq ?_
  refine CJ_region ?_
  refine RJ_op rfl (OJ_P (P_move rfl) rfl ?_)
  refine RJ_op rfl (OJ_P (P_lss rfl rfl) rfl ?_)
  refine RJ_op rfl (OJ_P (P_move rfl) rfl ?_)
  first | (refine RJ_splitD 9 rfl (fun hg1B hg1 => ?_) (fun hg1B hg1 => ?_)) | (refine RJ_splitN 9 rfl (fun hg1B hg1 => ?_) (fun hg1B hg1 => ?_)) | (refine RJ_split 9 rfl (fun hg1B => ?_) (fun hg1B => ?_))
  ·
    refine RJ_gn (GY_no rfl rfl rfl hg1B) rfl rfl ?_
    refine RJ_gn (GY_no rfl rfl rfl hg1B) rfl rfl ?_
    refine RJ_gn (GY_no rfl rfl rfl hg1B) rfl rfl ?_
    refine RJ_gn (GY_no rfl rfl rfl hg1B) rfl rfl ?_
    refine RJ_gn (GY_no rfl rfl rfl hg1B) rfl rfl ?_
    refine RJ_gn (GY_no rfl rfl rfl hg1B) rfl rfl ?_
    refine RJ_gn (GY_no rfl rfl rfl hg1B) rfl rfl ?_
    refine RJ_op rfl (OJ_P (P_pickT rfl hg1B rfl) rfl ?_)
    refine RJ_nil ?_
    refine QJ_then ?_
    refine CJ_condT rfl rfl ?_
    refine CJ_seq ?_
    refine CJ_region ?_
    refine RJ_op rfl (OJ_P (P_assign rfl) rfl ?_)
    refine RJ_nil ?_
    refine QJ_then ?_
    refine CJ_ret ?_
    refine QJ_then_ret ?_
    refine QJ_end (res1 Try.results28 rfl) ?_
    have hR2 : ¬ inR s d := fun h => by unfold inR at h; omega
    rw [smS_bad hR2]
    refine CSpec.close () ?_ ?_ (Ent.trans (Ent.trans (Ent.take del0 (Ent.take del0 (Ent.take del0 (Ent.take del0 (Ent.take del0 Ent.refl))))) (Arr_close hl hm hw)) (Ent.take del0 Ent.refl))
    · exact iv (if_neg hR2).symm
    · trivial
  ·
    refine RJ_gy (GY_yes rfl rfl rfl hg1B) (OJ_P (P_move rfl) rfl ?_)
    refine RJ_gy (GY_yes rfl rfl rfl hg1B) (OJ_P (P_move rfl) rfl ?_)
    refine RJ_gy (GY_yes rfl rfl rfl hg1B) (OJ_P (P_nilCheck rfl) rfl ?_)
    refine RJ_gy (GY_yes rfl rfl rfl hg1B) (OJ_P (P_fieldAddr rfl ⟨_, _, _, Try.runUnderlying55, rfl, rfl, Try.sizeOf52, rfl⟩) rfl ?_)
    refine RJ_gy (GY_yes rfl rfl rfl hg1B) (OJ_V (V_load rfl foc0 rfl Try.isAgg52) rfl ?_)
    refine RJ_gy (GY_yes rfl rfl rfl hg1B) (OJ_V (V_len rfl foc1 (Reads.sl _ _ _) Try.runUnderlying52) rfl ?_)
    refine RJ_gy (GY_yes rfl rfl rfl hg1B) (OJ_P (P_geq rfl rfl) rfl ?_)
    refine RJ_op rfl (OJ_P (P_pickF rfl hg1B rfl) rfl ?_)
    refine RJ_nil ?_
    refine QJ_then ?_
    first | (refine CJ_condD rfl (fun hg2 => ?_) (fun hg2 => ?_)) | (refine CJ_condN rfl (fun hg2 => ?_) (fun hg2 => ?_)) | (refine CJ_cond rfl (fun hg2 => ?_) (fun hg2 => ?_))
    ·
      refine CJ_seq ?_
      refine CJ_region ?_
      refine RJ_op rfl (OJ_P (P_assign rfl) rfl ?_)
      refine RJ_nil ?_
      refine QJ_then ?_
      refine CJ_ret ?_
      refine QJ_then_ret ?_
      refine QJ_end (res1 Try.results28 rfl) ?_
      have hR2 : ¬ inR s d := fun h => by unfold inR at h; omega
      rw [smS_bad hR2]
      refine CSpec.close () ?_ ?_ (Ent.trans (Ent.trans (Ent.take del0 (Ent.take del0 (Ent.take del0 (Ent.take del0 (Ent.take del0 Ent.refl))))) (Arr_close hl hm hw)) (Ent.take del0 Ent.refl))
      · exact iv (if_neg hR2).symm
      · trivial
    ·
      refine CJ_skip ?_
      refine QJ_then ?_
      refine CJ_seq ?_
      have hR : inR s d := ⟨by omega, by omega⟩
      obtain ⟨i, rfl⟩ := Int.eq_ofNat_of_zero_le hR.1
      refine CJ_region ?_
      refine RJ_op rfl (OJ_P (P_move rfl) rfl ?_)
      refine RJ_op rfl (OJ_P (P_nilCheck rfl) rfl ?_)
      refine RJ_op rfl (OJ_P (P_fieldAddr rfl ⟨_, _, _, Try.runUnderlying55, rfl, rfl, Try.sizeOf52, rfl⟩) rfl ?_)
      refine RJ_op rfl (OJ_V (V_load rfl foc0 rfl Try.isAgg52) rfl ?_)
      refine RJ_op rfl (OJ_P (P_move rfl) rfl ?_)
      refine RJ_op rfl (OJ_P (P_move rfl) rfl ?_)
      first | (refine RJ_op rfl (OJ_V (V_index rfl rfl rfl (by omega) foc1 (Reads.sl _ _ _) Try.runUnderlying52 Try.sizeOf58) rfl ?_)) | (refine RJ_op rfl (OJ_V (V_index rfl rfl (Int.toNat_of_nonneg (by omega)).symm (by omega) foc1 (Reads.sl _ _ _) Try.runUnderlying52 Try.sizeOf58) rfl ?_))
      refine RJ_op rfl (OJ_P (P_fieldE rfl ⟨_, _, _, Try.runUnderlying58, rfl, rfl, Try.sizeOf4, rfl⟩) rfl ?_)
      refine RJ_op rfl (O_storeE (x' := { (DL.hs l).getD i dH0 with miss := t }) rfl rfl rfl (by omega) foc1 rfl rfl rfl Try.sizeOf4 ?_)
      refine RJ_nil ?_
      refine QJ_then ?_
      refine CJ_seq ?_
      refine CJ_region ?_
      refine RJ_op rfl (OJ_P (P_assign rfl) rfl ?_)
      refine RJ_nil ?_
      refine QJ_then ?_
      refine CJ_ret ?_
      refine QJ_end (res1 Try.results28 rfl) ?_
      rw [smS_ok hR]
      refine CSpec.close () ?_ ?_ (Ent.trans (Ent.trans (Ent.take del0 (Ent.take del0 (Ent.take del0 (Ent.take del0 (Ent.take del0 Ent.refl))))) (Arr_closeM i t hl hm (by omega) hw)) (Ent.take del0 Ent.refl))
      · exact iv (if_pos hR).symm
      · trivial

theorem c_SetBad {W : World} {b : Nat} {s : ArrS} {d a : Int} {t : Bool} :
    CSpec Try.prog W 30 [ptr b 0, .int .i64 d, .int .i64 a, .bool t] [Arr b s] (fun _ : Unit => .int .i64 (sbC s d a)) (fun _ => True) (fun _ F => Arr b (sbS s d a t) :: F) := by
  refine CSpec.of_body Try.func30 rfl Try.ntmps30 rfl (fun F => ?_)
  show CJ _ _ _ _ _ _ (_ :: F)
  refine CJ_seq ?_
  refine CJ_region ?_
  refine RJ_op rfl (OJ_P (P_assign rfl) rfl ?_)
  refine RJ_nil ?_
  refine QJ_then ?_
  refine CJ_seq ?_
  refine CJ_region ?_
  refine RJ_op rfl (OJ_P (P_move rfl) rfl ?_)
  refine RJ_op rfl (OJ_P (P_move rfl) rfl ?_)
  refine RJ_op rfl (OJ_P (P_build rfl (bld_60_0_1 _ _)) rfl ?_)
  refine RJ_op rfl (O_alloc Try.zeroValue60 rfl rfl (fun b1 => ?_))
  refine RJ_op rfl (O_storeN rfl rfl foc0 Try.sizeOf60 rfl rfl rfl ?_)
  refine RJ_nil ?_
  refine QJ_then ?_
  refine CJ_seq ?_
  refine CJ_seq ?_
  refine CJ_region ?_
  refine RJ_op rfl (OJ_V (V_loadN rfl foc0 Try.isAgg60 Try.sizeOf60 rfl rfl) rfl ?_)
  refine RJ_op rfl (OJ_P (P_move rfl) rfl ?_)
  refine RJ_op rfl (OJ_P (P_makeFunc rfl rfl) rfl ?_)
  refine RJ_op rfl (OJ_P (P_move rfl) rfl ?_)
  refine RJ_op rfl (OJ_P (P_makeFunc rfl rfl) rfl ?_)
  refine RJ_op rfl (O_buildSlice rfl (bs_87_2_0_1 _ _ _ _ _ _) rfl (fun b2 => ?_))
  refine RJ_ent (Ent.trans (Ent.take del0 Ent.refl) (sl_of_lit (t := tyFn) (m := 2) [(17, ptr b 0), (18, ptr b 0)] rfl rfl rfl (by decide))) ?_
  refine RJ_op rfl (O_call (c_chk2 (Reads.sl _ _ _)) rfl Try.call15 (Dels.cons del0 (Dels.cons del1 Dels.nil)) rfl (fun _ hc3 => ?_))
  refine RJ_op rfl (OJ_P (P_assign rfl) rfl ?_)
  refine RJ_nil ?_
  refine QJ_then ?_
  refine CJ_seq ?_
  refine CJ_region ?_
  refine RJ_op rfl (OJ_P (P_move rfl) rfl ?_)
  refine RJ_op rfl (OJ_P (P_neq rfl rfl) rfl ?_)
  refine RJ_nil ?_
  refine QJ_then ?_
  first | (refine CJ_condD rfl (fun hg1 => ?_) (fun hg1 => ?_)) | (refine CJ_condN rfl (fun hg1 => ?_) (fun hg1 => ?_)) | (refine CJ_cond rfl (fun hg1 => ?_) (fun hg1 => ?_))
  ·
    refine CJ_seq ?_
    refine CJ_region ?_
    refine RJ_op rfl (OJ_P (P_move rfl) rfl ?_)
    refine RJ_op rfl (OJ_P (P_assign rfl) rfl ?_)
    refine RJ_nil ?_
    refine QJ_then ?_
    refine CJ_ret ?_
    refine QJ_then_ret ?_
    refine QJ_end (res1 Try.results30 rfl) ?_
    refine CSpec.close () ?_ ?_ (Ent.takeC del1 (congrArg (Arr b) (sbS_bad hg1).symm) (Ent.drop (Ent.drop Ent.refl)))
    · rfl
    · trivial
  ·
    have hC := Decidable.not_not.1 hg1
    refine CJ_skip ?_
    refine QJ_then ?_
    refine CJ_seq ?_
    refine CJ_seq ?_
    refine CJ_entX (Ent.transX (Ent.take del1 Ent.refl) Arr_open) (fun ⟨dv, lv, mr, l⟩ => ?_)
    refine CJ_pur (fun hX => ?_)
    obtain ⟨hl, hm, hw⟩ : l.map Prod.snd = (s).drv ∧ (∀ p ∈ l, p.1.miss = p.2.miss) ∧ ArrWF (s) := hX
    show CJ _ _ _ _ _ _ (blk b 55 [Sl3.v dv, .map (some mr), Sl3.v lv, _, _, _] :: sl tyDrv (Sl3.v dv) (DL.hs l) :: DOwn l :: sl tyRec (Sl3.v lv) _ :: mpc mBad mr _ :: _)
    have hn := hs_len hl
    have hwF := hw.fuse
    have hwL := hw.len
    have hwC := hw.cnt
    refine CJ_region ?_
    refine RJ_op rfl (OJ_P (P_move rfl) rfl ?_)
    refine RJ_nil ?_
    refine QJ_then ?_
    first | (refine CJ_condD rfl (fun hg2 => ?_) (fun hg2 => ?_)) | (refine CJ_condN rfl (fun hg2 => ?_) (fun hg2 => ?_)) | (refine CJ_cond rfl (fun hg2 => ?_) (fun hg2 => ?_))
    ·
      refine AJ_startH 32 (by kernel_rfl) rfl ?_
      refine AJ_takeP 0 1 rfl (by kernel_rfl) rfl (GY_none rfl) (P_move rfl) rfl (fun _ _ _ _ h => h) ?_
      refine AJ_takeP 1 3 rfl (by kernel_rfl) rfl (GY_none rfl) (P_nilCheck rfl) rfl (fun _ _ _ _ h => h) ?_
      refine AJ_takeP 2 7 rfl (by kernel_rfl) rfl (GY_none rfl) (P_fieldAddr rfl ⟨_, _, _, Try.runUnderlying55, rfl, rfl, Try.sizeOf51, rfl⟩) rfl (fun _ _ _ _ h => h) ?_
      refine AJ_takeV 3 15 rfl (by kernel_rfl) rfl (by kernel_rfl) (by kernel_rfl) (GY_none rfl) (Ent.take del0 (Ent.take del0 (Ent.take del0 (Ent.take del0 (Ent.take del0 (Ent.take del0 (Ent.take del0 Ent.refl))))))) (V_load rfl foc0 rfl Try.isAgg51) rfl (fun _ _ _ _ h => h) ?_
      refine AJ_takeV 4 31 rfl (by kernel_rfl) rfl (by kernel_rfl) (by kernel_rfl) (GY_none rfl) (Ent.take del0 (Ent.take del0 (Ent.take del0 (Ent.take del0 (Ent.take del0 (Ent.take del0 (Ent.take del0 Ent.refl))))))) (V_loadN rfl foc6 Try.isAgg60 Try.sizeOf60 rfl rfl) rfl (fun _ _ _ _ h => h) ?_
      refine AJ_op 5 63 rfl (by kernel_rfl) rfl (GY_none rfl) (O_mapUpdate (M := mBad) (k := (d, a)) (v := ()) rfl rfl rfl foc4 ok_mBad ?_)
      refine ⟨fun h => absurd h (by decide), ?_⟩
      refine AJ_done (by kernel_rfl) ?_
      refine QJ_then ?_
      refine CJ_seq ?_
      refine CJ_region ?_
      refine RJ_op rfl (OJ_P (P_assign rfl) rfl ?_)
      refine RJ_nil ?_
      refine QJ_then ?_
      refine CJ_ret ?_
      refine QJ_end (res1 Try.results30 rfl) ?_
      rw [‹t = true›]
      rw [sbS_t hC]
      refine CSpec.close () ?_ ?_ (Ent.trans (Ent.trans (Ent.take del0 (Ent.take del0 (Ent.take del0 (Ent.take del0 (Ent.take del0 Ent.refl))))) (Arr_close (s := { s with bad := setM s.bad (d, a) () }) hl hm (wf_bad hw _))) (Ent.take del0 (Ent.drop (Ent.drop Ent.refl))))
      · exact iv hC.symm
      · trivial
    ·
      refine AJ_startH 32 (by kernel_rfl) rfl ?_
      refine AJ_takeP 0 1 rfl (by kernel_rfl) rfl (GY_none rfl) (P_move rfl) rfl (fun _ _ _ _ h => h) ?_
      refine AJ_takeP 1 3 rfl (by kernel_rfl) rfl (GY_none rfl) (P_nilCheck rfl) rfl (fun _ _ _ _ h => h) ?_
      refine AJ_takeP 2 7 rfl (by kernel_rfl) rfl (GY_none rfl) (P_fieldAddr rfl ⟨_, _, _, Try.runUnderlying55, rfl, rfl, Try.sizeOf51, rfl⟩) rfl (fun _ _ _ _ h => h) ?_
      refine AJ_takeV 3 15 rfl (by kernel_rfl) rfl (by kernel_rfl) (by kernel_rfl) (GY_none rfl) (Ent.take del0 (Ent.take del0 (Ent.take del0 (Ent.take del0 (Ent.take del0 (Ent.take del0 (Ent.take del0 Ent.refl))))))) (V_load rfl foc0 rfl Try.isAgg51) rfl (fun _ _ _ _ h => h) ?_
      refine AJ_takeV 4 31 rfl (by kernel_rfl) rfl (by kernel_rfl) (by kernel_rfl) (GY_none rfl) (Ent.take del0 (Ent.take del0 (Ent.take del0 (Ent.take del0 (Ent.take del0 (Ent.take del0 (Ent.take del0 Ent.refl))))))) (V_loadN rfl foc6 Try.isAgg60 Try.sizeOf60 rfl rfl) rfl (fun _ _ _ _ h => h) ?_
      refine AJ_op 5 63 rfl (by kernel_rfl) rfl (GY_none rfl) (O_delete (M := mBad) (k := (d, a)) rfl rfl foc4 ok_mBad ?_)
      refine ⟨fun h => absurd h (by decide), ?_⟩
      refine AJ_done (by kernel_rfl) ?_
      refine QJ_then ?_
      refine CJ_seq ?_
      refine CJ_region ?_
      refine RJ_op rfl (OJ_P (P_assign rfl) rfl ?_)
      refine RJ_nil ?_
      refine QJ_then ?_
      refine CJ_ret ?_
      refine QJ_end (res1 Try.results30 rfl) ?_
      rw [‹t = false›]
      rw [sbS_f hC]
      refine CSpec.close () ?_ ?_ (Ent.trans (Ent.trans (Ent.take del0 (Ent.take del0 (Ent.take del0 (Ent.take del0 (Ent.take del0 Ent.refl))))) (Arr_close (s := { s with bad := delM s.bad (d, a) }) hl hm (wf_bad hw _))) (Ent.take del0 (Ent.drop (Ent.drop Ent.refl))))
      · exact iv hC.symm
      · trivial

theorem c_New {W : World} {A : HP} {v : Value} {zs : List Int} (hA : Reads A tyI v zs) (hN : NewOk zs) :
    CSpec Try.prog W 7 [v] [A] (fun b : Nat => .tuple #[ptr b 0, .int .i64 0]) (fun _ => True) (fun b F => Arr b (newS zs) :: A :: F) := by
  have hN1 := hN.1
  refine CSpec.of_body Try.func7 rfl Try.ntmps7 rfl (fun F => ?_)
  show CJ _ _ _ _ _ _ (_ :: F)
  refine CJ_seq ?_
  refine CJ_region ?_
  refine RJ_op rfl (OJ_P (P_assign rfl) rfl ?_)
  refine RJ_op rfl (OJ_P (P_assign rfl) rfl ?_)
  refine RJ_nil ?_
  refine QJ_then ?_
  refine CJ_seq ?_
  refine CJ_seq ?_
  refine CJ_region ?_
  refine RJ_op rfl (OJ_P (P_move rfl) rfl ?_)
  refine RJ_op rfl (OJ_V (V_len rfl foc0 hA Try.runUnderlying22) rfl ?_)
  refine RJ_op rfl (OJ_P (P_gtr rfl rfl) rfl ?_)
  refine RJ_nil ?_
  refine QJ_then ?_
  first | (refine CJ_condD rfl (fun hg1 => ?_) (fun hg1 => ?_)) | (refine CJ_condN rfl (fun hg1 => ?_) (fun hg1 => ?_)) | (refine CJ_cond rfl (fun hg1 => ?_) (fun hg1 => ?_))
  ·
    exfalso; omega
  ·
    refine CJ_skip ?_
    refine QJ_then ?_
    refine CJ_seq ?_
    refine CJ_region ?_
    refine RJ_op rfl (O_makeMap mBad rfl (fun b1 => ?_))
    refine RJ_op rfl (OJ_P (P_build rfl (bld_55_1 _)) rfl ?_)
    refine RJ_op rfl (O_box rfl rfl rfl (fun b2 => ?_))
    refine RJ_op rfl (OJ_P (P_assign rfl) rfl ?_)
    refine RJ_nil ?_
    refine QJ_then ?_
    refine CJ_seq ?_
    refine CJ_seq ?_
    refine CJ_region ?_
    refine RJ_op rfl (OJ_P (P_move rfl) rfl ?_)
    refine RJ_op rfl (OJ_V (V_len rfl foc2 hA Try.runUnderlying22) rfl ?_)
    refine RJ_op rfl (OJ_P (P_move rfl) rfl ?_)
    refine RJ_nil ?_
    refine QJ_then ?_
    refine CJ_block ?_
    refine CJ_ent (fun h hh => sl_nil (t := tyDrv) h hh) ?_
    refine CJ_ent DOwn_nil ?_
    refine CJ_loopR (X := Nat × Sl3 × DL) [2, 3, 6, 15, 16, 17, 18, 19, 20, 21, 22, 23, 24, 25, 26, 27, 28, 29, 30, 31, 32, 33, 34, 35, 36, 37, 38, 39] (fun ⟨k, dv, l⟩  => ([(15, .int .i64 (k : Nat))] : Slots)) (fun ⟨k, dv, l⟩ R => blk b2 55 [dv.v, .map (some b1), .slice none 0 0, .int .i64 0, .bool false, .int .i64 0] :: sl tyDrv dv.v (DL.hs l) :: DOwn l :: R) (fun ⟨k, dv, l⟩  => k ≤ zs.length ∧ l.map Prod.snd = (zs.take k).map mkD ∧ (∀ p ∈ l, p.1.miss = p.2.miss)) (fun ⟨k, dv, l⟩  => zs.length - k) ⟨0, ⟨none, 0, 0⟩, []⟩ ?_ ?_ (Ent.take del2 (Ent.take del1 (Ent.take del0 (Ent.take del0 (Ent.take del0 Ent.refl))))) ?_
    · exact ⟨Nat.zero_le _, rfl, fun p hp => by cases hp⟩
    · exact ⟨rfl, True.intro⟩
    ·
      rintro ⟨k, dv, l⟩ ⟨hk, hl, hm⟩
      show CJ _ _ _ _ _ (([(15, .int .i64 (k : Nat))] : Slots) ++ forget _ _) (blk b2 55 [dv.v, .map (some b1), .slice none 0 0, .int .i64 0, .bool false, .int .i64 0] :: sl tyDrv dv.v (DL.hs l) :: DOwn l :: _)
      have hz := hN.2 k
      have hlen : l.length = k := by have := congrArg List.length hl; simp at this; omega
      have hlen2 : (DL.hs l).length = k := by simp [hlen]
      have hd0 := tyI_at zs k
      refine CJ_seq ?_
      refine CJ_region ?_
      refine RJ_op rfl (OJ_P (P_lss rfl rfl) rfl ?_)
      refine RJ_nil ?_
      refine QJ_then ?_
      refine CJ_seq ?_
      first | (refine CJ_condD rfl (fun hg2 => ?_) (fun hg2 => ?_)) | (refine CJ_condN rfl (fun hg2 => ?_) (fun hg2 => ?_)) | (refine CJ_cond rfl (fun hg2 => ?_) (fun hg2 => ?_))
      ·
        refine CJ_skip ?_
        refine QJ_then ?_
        refine CJ_seq ?_
        refine CJ_block ?_
        refine CJ_seq ?_
        refine CJ_region ?_
        first | (refine RJ_op rfl (OJ_V (V_index rfl rfl rfl (by omega) foc4 hA Try.runUnderlying22 Try.sizeOf3) rfl ?_)) | (refine RJ_op rfl (OJ_V (V_index rfl rfl (Int.toNat_of_nonneg (by omega)).symm (by omega) foc4 hA Try.runUnderlying22 Try.sizeOf3) rfl ?_))
        refine RJ_op rfl (OJ_V (V_loadE rfl rfl (by omega) foc4 hA rfl rfl Try.isAgg3) rfl ?_)
        refine RJ_op rfl (OJ_P (P_assign rfl) rfl ?_)
        refine RJ_nil ?_
        refine QJ_then ?_
        refine CJ_seq ?_
        refine CJ_seq ?_
        refine CJ_region ?_
        refine RJ_op rfl (OJ_P (P_move rfl) rfl ?_)
        refine RJ_op rfl (OJ_P (P_lss rfl rfl) rfl ?_)
        refine RJ_op rfl (OJ_P (P_move rfl) rfl ?_)
        first | (refine RJ_splitD 21 rfl (fun hg3B hg3 => ?_) (fun hg3B hg3 => ?_)) | (refine RJ_splitN 21 rfl (fun hg3B hg3 => ?_) (fun hg3B hg3 => ?_)) | (refine RJ_split 21 rfl (fun hg3B => ?_) (fun hg3B => ?_))
        ·
          exfalso; have := hz (by omega); omega
        ·
          refine RJ_gy (GY_yes rfl rfl rfl hg3B) (OJ_P (P_move rfl) rfl ?_)
          refine RJ_gy (GY_yes rfl rfl rfl hg3B) (OJ_P (P_gtr rfl rfl) rfl ?_)
          refine RJ_op rfl (OJ_P (P_pickF rfl hg3B rfl) rfl ?_)
          refine RJ_nil ?_
          refine QJ_then ?_
          first | (refine CJ_condD rfl (fun hg4 => ?_) (fun hg4 => ?_)) | (refine CJ_condN rfl (fun hg4 => ?_) (fun hg4 => ?_)) | (refine CJ_cond rfl (fun hg4 => ?_) (fun hg4 => ?_))
          ·
            exfalso; have := hz (by omega); omega
          ·
            refine CJ_skip ?_
            refine QJ_then ?_
            have hz := hz (by omega)
            obtain ⟨m, hmz⟩ : ∃ m : Nat, (m : Int) = zs.getD k tyI.dflt := ⟨(zs.getD k 0).toNat, by omega⟩
            refine AJ_startH 18432 (by kernel_rfl) rfl ?_
            refine AJ_takeP 0 1 rfl (by kernel_rfl) rfl (GY_none rfl) (P_move rfl) rfl (fun _ _ _ _ h => h) ?_
            refine AJ_takeP 1 3 rfl (by kernel_rfl) rfl (GY_none rfl) (P_move rfl) rfl (fun _ _ _ _ h => h) ?_
            refine AJ_takeP 2 7 rfl (by kernel_rfl) rfl (GY_none rfl) (P_nilCheck rfl) rfl (fun _ _ _ _ h => h) ?_
            refine AJ_takeP 3 15 rfl (by kernel_rfl) rfl (GY_none rfl) (P_fieldAddr rfl ⟨_, _, _, Try.runUnderlying55, rfl, rfl, Try.sizeOf52, rfl⟩) rfl (fun _ _ _ _ h => h) ?_
            refine AJ_takeV 4 31 rfl (by kernel_rfl) rfl (by kernel_rfl) (by kernel_rfl) (GY_none rfl) (Ent.take del0 (Ent.take del0 (Ent.take del0 (Ent.take del0 (Ent.take del0 Ent.refl))))) (V_load rfl foc0 rfl Try.isAgg52) rfl (fun _ _ _ _ h => h) ?_
            refine AJ_takeP 5 63 rfl (by kernel_rfl) rfl (GY_none rfl) (P_move rfl) rfl (fun _ _ _ _ h => h) ?_
            refine AJ_takeP 7 191 rfl (by kernel_rfl) rfl (GY_none rfl) (P_move rfl) rfl (fun _ _ _ _ h => h) ?_
            refine AJ_two 6 8 255 447 rfl rfl (by kernel_rfl) rfl rfl (GY_none rfl) (GY_none rfl) (O_make (t := tyU) (m := m) (x0 := 0) (z := _) (bytes := _) rfl rfl hmz.symm hmz.symm Try.underlying56 ⟨Try.t26, by kernel_rfl, rfl, rfl, rfl⟩ rfl (by omega) (by decide) rfl (fun b3 => ?_)) (O_make (t := tyU) (m := m) (x0 := 0) (z := _) (bytes := _) rfl rfl hmz.symm hmz.symm Try.underlying56 ⟨Try.t26, by kernel_rfl, rfl, rfl, rfl⟩ rfl (by omega) (by decide) rfl (fun b4 => ?_))
            ·
              refine ⟨fun _ => (Ent.take del1 (Ent.take del1 (Ent.take del1 (Ent.take del1 (Ent.take del1 (Ent.drop Ent.refl)))))), ?_⟩
              refine AJ_op 8 511 rfl (by kernel_rfl) rfl (GY_none rfl) (O_make (t := tyU) (m := m) (x0 := 0) (z := _) (bytes := _) rfl rfl hmz.symm hmz.symm Try.underlying56 ⟨Try.t26, by kernel_rfl, rfl, rfl, rfl⟩ rfl (by omega) (by decide) rfl (fun b5 => ?_))
              refine ⟨fun _ => (Ent.take del2 (Ent.take del2 (Ent.take del2 (Ent.take del2 (Ent.take del2 (Ent.drop (Ent.drop Ent.refl))))))), ?_⟩
              refine AJ_takeP 9 1023 rfl (by kernel_rfl) rfl (GY_none rfl) (P_build rfl (bld_58_0_1 _ _ _ _ _ _)) rfl (fun _ _ _ _ h => h) ?_
              refine AJ_op 10 2047 rfl (by kernel_rfl) rfl (GY_none rfl) (O_buildSlice rfl (bs_52_1_0 _ _ _ _ _ _ _) rfl (fun b6 => ?_))
              refine ⟨fun _ => (Ent.take del3 (Ent.take del3 (Ent.take del3 (Ent.take del3 (Ent.take del3 (Ent.drop (Ent.drop (Ent.drop Ent.refl)))))))), ?_⟩
              refine AJ_op 11 4095 rfl (by kernel_rfl) rfl (GY_none rfl) (O_append (t := tyDrv) (bytes := 56) rfl rfl del4 foc0 (Reads.lit (t := tyDrv) (ys := [⟨⟨some ⟨b3, 0, none⟩, m, m⟩, ⟨some ⟨b5, 0, none⟩, m, m⟩, false⟩]) rfl rfl (by decide) (by decide) rfl) Try.underlying52 ok_tyDrv (by simp only [List.length_append, List.length_cons, List.length_nil, maxLen] at *; omega) (by simp only [List.length_append, List.length_cons, List.length_nil, maxLen] at *; omega) rfl (fun p7 c8 => ?_))
              refine ⟨fun h => absurd h (by decide), ?_⟩
              refine AJ_takeP 12 8191 rfl (by kernel_rfl) rfl (GY_none rfl) (P_nilCheck rfl) rfl (fun _ _ _ _ h => h) ?_
              refine AJ_takeP 13 16383 rfl (by kernel_rfl) rfl (GY_none rfl) (P_fieldAddr rfl ⟨_, _, _, Try.runUnderlying55, rfl, rfl, Try.sizeOf52, rfl⟩) rfl (fun _ _ _ _ h => h) ?_
              refine AJ_op 14 32767 rfl (by kernel_rfl) rfl (GY_none rfl) (O_store rfl rfl foc4 rfl rfl Try.sizeOf52 ?_)
              refine ⟨fun h => absurd h (by decide), ?_⟩
              refine AJ_done (by kernel_rfl) ?_
              refine QJ_block_normal ?_
              refine QJ_then ?_
              refine CJ_region ?_
              refine RJ_op rfl (OJ_P (P_add rfl rfl (by omega)) rfl ?_)
              refine RJ_op rfl (OJ_P (P_move rfl) rfl ?_)
              refine RJ_nil ?_
              refine QJ_nextR ⟨k + 1, ⟨p7, _, c8⟩, l ++ [((⟨⟨some ⟨b3, 0, none⟩, m, m⟩, ⟨some ⟨b5, 0, none⟩, m, m⟩, false⟩ : DrvH), (⟨List.replicate m 0, List.replicate m 0, false⟩ : Drive))]⟩ (by first | omega | (simp only []; omega)) ?_ (by repeat (first | exact Kp.base | exact Kp.self | refine Kp.cons rfl ?_ | refine Kp.forget rfl ?_)) ?_ (Ent.trans (Ent.trans (Ent.take del3 (Ent.take del2 (Ent.take del3 Ent.refl))) (DOwn_push ((⟨⟨some ⟨b3, 0, none⟩, m, m⟩, ⟨some ⟨b5, 0, none⟩, m, m⟩, false⟩ : DrvH), (⟨List.replicate m 0, List.replicate m 0, false⟩ : Drive)))) (Ent.take del3 (Ent.takeC del1 (congrArg (sl tyDrv _) (hs_snoc l ((⟨⟨some ⟨b3, 0, none⟩, m, m⟩, ⟨some ⟨b5, 0, none⟩, m, m⟩, false⟩ : DrvH), (⟨List.replicate m 0, List.replicate m 0, false⟩ : Drive))).symm) (Ent.take del0 (Ent.take del1 (Ent.take del1 (Ent.drop Ent.refl)))))))
              ·
                refine ⟨by omega, ?_, ?_⟩
                · have e : mkD (zs.getD k 0) = ⟨List.replicate m 0, List.replicate m 0, false⟩ := by
                    rw [mkD, ← hd0, ← hmz]; rfl
                  rw [take_snocI1 zs k (by omega), List.map_append, List.map_append, hl]
                  show _ ++ [_] = _ ++ [mkD _]
                  rw [e]
                · intro p hp
                  rcases List.mem_append.1 hp with hp | hp
                  · exact hm p hp
                  · simp at hp; subst hp; rfl
              · exact ⟨rfl, True.intro⟩
            ·
              refine ⟨fun _ => (Ent.take del1 (Ent.take del1 (Ent.take del1 (Ent.take del1 (Ent.take del1 (Ent.drop Ent.refl)))))), ?_⟩
              refine AJ_op 6 511 rfl (by kernel_rfl) rfl (GY_none rfl) (O_make (t := tyU) (m := m) (x0 := 0) (z := _) (bytes := _) rfl rfl hmz.symm hmz.symm Try.underlying56 ⟨Try.t26, by kernel_rfl, rfl, rfl, rfl⟩ rfl (by omega) (by decide) rfl (fun b9 => ?_))
              refine ⟨fun _ => (Ent.take del2 (Ent.take del2 (Ent.take del2 (Ent.take del2 (Ent.take del2 (Ent.drop (Ent.drop Ent.refl))))))), ?_⟩
              refine AJ_takeP 9 1023 rfl (by kernel_rfl) rfl (GY_none rfl) (P_build rfl (bld_58_0_1 _ _ _ _ _ _)) rfl (fun _ _ _ _ h => h) ?_
              refine AJ_op 10 2047 rfl (by kernel_rfl) rfl (GY_none rfl) (O_buildSlice rfl (bs_52_1_0 _ _ _ _ _ _ _) rfl (fun b10 => ?_))
              refine ⟨fun _ => (Ent.take del3 (Ent.take del3 (Ent.take del3 (Ent.take del3 (Ent.take del3 (Ent.drop (Ent.drop (Ent.drop Ent.refl)))))))), ?_⟩
              refine AJ_op 11 4095 rfl (by kernel_rfl) rfl (GY_none rfl) (O_append (t := tyDrv) (bytes := 56) rfl rfl del4 foc0 (Reads.lit (t := tyDrv) (ys := [⟨⟨some ⟨b9, 0, none⟩, m, m⟩, ⟨some ⟨b4, 0, none⟩, m, m⟩, false⟩]) rfl rfl (by decide) (by decide) rfl) Try.underlying52 ok_tyDrv (by simp only [List.length_append, List.length_cons, List.length_nil, maxLen] at *; omega) (by simp only [List.length_append, List.length_cons, List.length_nil, maxLen] at *; omega) rfl (fun p11 c12 => ?_))
              refine ⟨fun h => absurd h (by decide), ?_⟩
              refine AJ_takeP 12 8191 rfl (by kernel_rfl) rfl (GY_none rfl) (P_nilCheck rfl) rfl (fun _ _ _ _ h => h) ?_
              refine AJ_takeP 13 16383 rfl (by kernel_rfl) rfl (GY_none rfl) (P_fieldAddr rfl ⟨_, _, _, Try.runUnderlying55, rfl, rfl, Try.sizeOf52, rfl⟩) rfl (fun _ _ _ _ h => h) ?_
              refine AJ_op 14 32767 rfl (by kernel_rfl) rfl (GY_none rfl) (O_store rfl rfl foc4 rfl rfl Try.sizeOf52 ?_)
              refine ⟨fun h => absurd h (by decide), ?_⟩
              refine AJ_done (by kernel_rfl) ?_
              refine QJ_block_normal ?_
              refine QJ_then ?_
              refine CJ_region ?_
              refine RJ_op rfl (OJ_P (P_add rfl rfl (by omega)) rfl ?_)
              refine RJ_op rfl (OJ_P (P_move rfl) rfl ?_)
              refine RJ_nil ?_
              refine QJ_nextR ⟨k + 1, ⟨p11, _, c12⟩, l ++ [((⟨⟨some ⟨b9, 0, none⟩, m, m⟩, ⟨some ⟨b4, 0, none⟩, m, m⟩, false⟩ : DrvH), (⟨List.replicate m 0, List.replicate m 0, false⟩ : Drive))]⟩ (by first | omega | (simp only []; omega)) ?_ (by repeat (first | exact Kp.base | exact Kp.self | refine Kp.cons rfl ?_ | refine Kp.forget rfl ?_)) ?_ (Ent.trans (Ent.trans (Ent.take del2 (Ent.take del2 (Ent.take del3 Ent.refl))) (DOwn_push ((⟨⟨some ⟨b9, 0, none⟩, m, m⟩, ⟨some ⟨b4, 0, none⟩, m, m⟩, false⟩ : DrvH), (⟨List.replicate m 0, List.replicate m 0, false⟩ : Drive)))) (Ent.take del3 (Ent.takeC del1 (congrArg (sl tyDrv _) (hs_snoc l ((⟨⟨some ⟨b9, 0, none⟩, m, m⟩, ⟨some ⟨b4, 0, none⟩, m, m⟩, false⟩ : DrvH), (⟨List.replicate m 0, List.replicate m 0, false⟩ : Drive))).symm) (Ent.take del0 (Ent.take del1 (Ent.take del1 (Ent.drop Ent.refl)))))))
              ·
                refine ⟨by omega, ?_, ?_⟩
                · have e : mkD (zs.getD k 0) = ⟨List.replicate m 0, List.replicate m 0, false⟩ := by
                    rw [mkD, ← hd0, ← hmz]; rfl
                  rw [take_snocI1 zs k (by omega), List.map_append, List.map_append, hl]
                  show _ ++ [_] = _ ++ [mkD _]
                  rw [e]
                · intro p hp
                  rcases List.mem_append.1 hp with hp | hp
                  · exact hm p hp
                  · simp at hp; subst hp; rfl
              · exact ⟨rfl, True.intro⟩
      ·
        refine CJ_exit ?_
        refine QJ_then_exit ?_
        refine QJ_round_exit ?_
        refine QJ_block_here ?_
        refine QJ_then ?_
        refine CJ_seq ?_
        refine CJ_region ?_
        refine RJ_op rfl (OJ_P (P_move rfl) rfl ?_)
        refine RJ_op rfl (OJ_P (P_assign rfl) rfl ?_)
        refine RJ_op rfl (OJ_P (P_assign rfl) rfl ?_)
        refine RJ_nil ?_
        refine QJ_then ?_
        refine CJ_ret ?_
        refine QJ_end (res2 Try.results7 rfl rfl) ?_
        obtain rfl : k = zs.length := by omega
        rw [List.take_length] at hl
        refine CSpec.close b2 ?_ ?_ (Ent.trans (Ent.trans (Ent.take del0 (Ent.take del0 (Ent.take del0 (Ent.take del0 Ent.refl)))) (Arr_new hl hm (newS_wf hN.1 hN.2))) (Ent.take del0 (Ent.take del0 Ent.refl)))
        · rfl
        · trivial

theorem c_NewBad {W : World} {A : HP} {v : Value} {zs : List Int} (hA : Reads A tyI v zs) (hN : ¬ NewOk zs) (h63 : zs.length ≤ 4611686018427387904) :
    CSpec Try.prog W 7 [v] [A] (fun _ : Unit => .tuple #[.pointer none, .int .i64 (if 8 < zs.length then 4 else 1)]) (fun _ => True) (fun _ F => A :: F) := by
  skip
  refine CSpec.of_body Try.func7 rfl Try.ntmps7 rfl (fun F => ?_)
  show CJ _ _ _ _ _ _ (_ :: F)
  refine CJ_seq ?_
  refine CJ_region ?_
  refine RJ_op rfl (OJ_P (P_assign rfl) rfl ?_)
  refine RJ_op rfl (OJ_P (P_assign rfl) rfl ?_)
  refine RJ_nil ?_
  refine QJ_then ?_
  refine CJ_seq ?_
  refine CJ_seq ?_
  refine CJ_region ?_
  refine RJ_op rfl (OJ_P (P_move rfl) rfl ?_)
  refine RJ_op rfl (OJ_V (V_len rfl foc0 hA Try.runUnderlying22) rfl ?_)
  refine RJ_op rfl (OJ_P (P_gtr rfl rfl) rfl ?_)
  refine RJ_nil ?_
  refine QJ_then ?_
  first | (refine CJ_condD rfl (fun hg1 => ?_) (fun hg1 => ?_)) | (refine CJ_condN rfl (fun hg1 => ?_) (fun hg1 => ?_)) | (refine CJ_cond rfl (fun hg1 => ?_) (fun hg1 => ?_))
  ·
    refine CJ_seq ?_
    refine CJ_region ?_
    refine RJ_op rfl (OJ_P (P_assign rfl) rfl ?_)
    refine RJ_op rfl (OJ_P (P_assign rfl) rfl ?_)
    refine RJ_nil ?_
    refine QJ_then ?_
    refine CJ_ret ?_
    refine QJ_then_ret ?_
    refine QJ_end (res2 Try.results7 rfl rfl) ?_
    refine CSpec.close () ?_ ?_ (Ent.take del0 Ent.refl)
    · first | exact tup2p (if_pos (by omega)).symm | exact tup2p (if_neg (by omega)).symm
    · trivial
  ·
    refine CJ_skip ?_
    refine QJ_then ?_
    refine CJ_seq ?_
    refine CJ_region ?_
    refine RJ_op rfl (O_makeMap mBad rfl (fun b1 => ?_))
    refine RJ_op rfl (OJ_P (P_build rfl (bld_55_1 _)) rfl ?_)
    refine RJ_op rfl (O_box rfl rfl rfl (fun b2 => ?_))
    refine RJ_op rfl (OJ_P (P_assign rfl) rfl ?_)
    refine RJ_nil ?_
    refine QJ_then ?_
    refine CJ_seq ?_
    refine CJ_seq ?_
    refine CJ_region ?_
    refine RJ_op rfl (OJ_P (P_move rfl) rfl ?_)
    refine RJ_op rfl (OJ_V (V_len rfl foc2 hA Try.runUnderlying22) rfl ?_)
    refine RJ_op rfl (OJ_P (P_move rfl) rfl ?_)
    refine RJ_nil ?_
    refine QJ_then ?_
    refine CJ_block ?_
    refine CJ_ent (fun h hh => sl_nil (t := tyDrv) h hh) ?_
    refine CJ_ent DOwn_nil ?_
    refine CJ_loopR (X := Nat × Sl3 × DL) [2, 3, 6, 15, 16, 17, 18, 19, 20, 21, 22, 23, 24, 25, 26, 27, 28, 29, 30, 31, 32, 33, 34, 35, 36, 37, 38, 39] (fun ⟨k, dv, l⟩  => ([(15, .int .i64 (k : Nat))] : Slots)) (fun ⟨k, dv, l⟩ R => blk b2 55 [dv.v, .map (some b1), .slice none 0 0, .int .i64 0, .bool false, .int .i64 0] :: sl tyDrv dv.v (DL.hs l) :: DOwn l :: R) (fun ⟨k, dv, l⟩  => k ≤ zs.length ∧ l.map Prod.snd = (zs.take k).map mkD ∧ (∀ p ∈ l, p.1.miss = p.2.miss) ∧ (∀ j, j < k → 1 ≤ zs.getD j 0 ∧ zs.getD j 0 ≤ 65536)) (fun ⟨k, dv, l⟩  => zs.length - k) ⟨0, ⟨none, 0, 0⟩, []⟩ ?_ ?_ (Ent.take del2 (Ent.take del1 (Ent.take del0 (Ent.take del0 (Ent.take del0 Ent.refl))))) ?_
    · exact ⟨Nat.zero_le _, rfl, (fun p hp => by cases hp), fun j hj => by omega⟩
    · exact ⟨rfl, True.intro⟩
    ·
      rintro ⟨k, dv, l⟩ ⟨hk, hl, hm, hall⟩
      show CJ _ _ _ _ _ (([(15, .int .i64 (k : Nat))] : Slots) ++ forget _ _) (blk b2 55 [dv.v, .map (some b1), .slice none 0 0, .int .i64 0, .bool false, .int .i64 0] :: sl tyDrv dv.v (DL.hs l) :: DOwn l :: _)
      have hlen : l.length = k := by have := congrArg List.length hl; simp at this; omega
      have hlen2 : (DL.hs l).length = k := by simp [hlen]
      have hd0 := tyI_at zs k
      refine CJ_seq ?_
      refine CJ_region ?_
      refine RJ_op rfl (OJ_P (P_lss rfl rfl) rfl ?_)
      refine RJ_nil ?_
      refine QJ_then ?_
      refine CJ_seq ?_
      first | (refine CJ_condD rfl (fun hg2 => ?_) (fun hg2 => ?_)) | (refine CJ_condN rfl (fun hg2 => ?_) (fun hg2 => ?_)) | (refine CJ_cond rfl (fun hg2 => ?_) (fun hg2 => ?_))
      ·
        refine CJ_skip ?_
        refine QJ_then ?_
        refine CJ_seq ?_
        refine CJ_block ?_
        refine CJ_seq ?_
        refine CJ_region ?_
        first | (refine RJ_op rfl (OJ_V (V_index rfl rfl rfl (by omega) foc4 hA Try.runUnderlying22 Try.sizeOf3) rfl ?_)) | (refine RJ_op rfl (OJ_V (V_index rfl rfl (Int.toNat_of_nonneg (by omega)).symm (by omega) foc4 hA Try.runUnderlying22 Try.sizeOf3) rfl ?_))
        refine RJ_op rfl (OJ_V (V_loadE rfl rfl (by omega) foc4 hA rfl rfl Try.isAgg3) rfl ?_)
        refine RJ_op rfl (OJ_P (P_assign rfl) rfl ?_)
        refine RJ_nil ?_
        refine QJ_then ?_
        refine CJ_seq ?_
        refine CJ_seq ?_
        refine CJ_region ?_
        refine RJ_op rfl (OJ_P (P_move rfl) rfl ?_)
        refine RJ_op rfl (OJ_P (P_lss rfl rfl) rfl ?_)
        refine RJ_op rfl (OJ_P (P_move rfl) rfl ?_)
        first | (refine RJ_splitD 21 rfl (fun hg3B hg3 => ?_) (fun hg3B hg3 => ?_)) | (refine RJ_splitN 21 rfl (fun hg3B hg3 => ?_) (fun hg3B hg3 => ?_)) | (refine RJ_split 21 rfl (fun hg3B => ?_) (fun hg3B => ?_))
        ·
          refine RJ_gn (GY_no rfl rfl rfl hg3B) rfl rfl ?_
          refine RJ_gn (GY_no rfl rfl rfl hg3B) rfl rfl ?_
          refine RJ_op rfl (OJ_P (P_pickT rfl hg3B rfl) rfl ?_)
          refine RJ_nil ?_
          refine QJ_then ?_
          refine CJ_condT rfl rfl ?_
          refine CJ_seq ?_
          refine CJ_region ?_
          refine RJ_op rfl (OJ_P (P_assign rfl) rfl ?_)
          refine RJ_op rfl (OJ_P (P_assign rfl) rfl ?_)
          refine RJ_nil ?_
          refine QJ_then ?_
          refine CJ_ret ?_
          refine QJ_then_ret ?_
          refine QJ_block_ret ?_
          refine QJ_then_ret ?_
          refine QJ_round_ret ?_
          refine QJ_block_ret ?_
          refine QJ_then_ret ?_
          refine QJ_end (res2 Try.results7 rfl rfl) ?_
          refine CSpec.close () ?_ ?_ (Ent.take del4 (Ent.drop (Ent.drop (Ent.drop (Ent.drop Ent.refl)))))
          · first | exact tup2p (if_pos (by omega)).symm | exact tup2p (if_neg (by omega)).symm
          · trivial
        ·
          refine RJ_gy (GY_yes rfl rfl rfl hg3B) (OJ_P (P_move rfl) rfl ?_)
          refine RJ_gy (GY_yes rfl rfl rfl hg3B) (OJ_P (P_gtr rfl rfl) rfl ?_)
          refine RJ_op rfl (OJ_P (P_pickF rfl hg3B rfl) rfl ?_)
          refine RJ_nil ?_
          refine QJ_then ?_
          first | (refine CJ_condD rfl (fun hg4 => ?_) (fun hg4 => ?_)) | (refine CJ_condN rfl (fun hg4 => ?_) (fun hg4 => ?_)) | (refine CJ_cond rfl (fun hg4 => ?_) (fun hg4 => ?_))
          ·
            refine CJ_seq ?_
            refine CJ_region ?_
            refine RJ_op rfl (OJ_P (P_assign rfl) rfl ?_)
            refine RJ_op rfl (OJ_P (P_assign rfl) rfl ?_)
            refine RJ_nil ?_
            refine QJ_then ?_
            refine CJ_ret ?_
            refine QJ_then_ret ?_
            refine QJ_block_ret ?_
            refine QJ_then_ret ?_
            refine QJ_round_ret ?_
            refine QJ_block_ret ?_
            refine QJ_then_ret ?_
            refine QJ_end (res2 Try.results7 rfl rfl) ?_
            refine CSpec.close () ?_ ?_ (Ent.take del4 (Ent.drop (Ent.drop (Ent.drop (Ent.drop Ent.refl)))))
            · first | exact tup2p (if_pos (by omega)).symm | exact tup2p (if_neg (by omega)).symm
            · trivial
          ·
            refine CJ_skip ?_
            refine QJ_then ?_
            have hz : 1 ≤ zs.getD k 0 ∧ zs.getD k 0 ≤ 65536 := ⟨by omega, by omega⟩
            obtain ⟨m, hmz⟩ : ∃ m : Nat, (m : Int) = zs.getD k tyI.dflt := ⟨(zs.getD k 0).toNat, by omega⟩
            refine AJ_startH 18432 (by kernel_rfl) rfl ?_
            refine AJ_takeP 0 1 rfl (by kernel_rfl) rfl (GY_none rfl) (P_move rfl) rfl (fun _ _ _ _ h => h) ?_
            refine AJ_takeP 1 3 rfl (by kernel_rfl) rfl (GY_none rfl) (P_move rfl) rfl (fun _ _ _ _ h => h) ?_
            refine AJ_takeP 2 7 rfl (by kernel_rfl) rfl (GY_none rfl) (P_nilCheck rfl) rfl (fun _ _ _ _ h => h) ?_
            refine AJ_takeP 3 15 rfl (by kernel_rfl) rfl (GY_none rfl) (P_fieldAddr rfl ⟨_, _, _, Try.runUnderlying55, rfl, rfl, Try.sizeOf52, rfl⟩) rfl (fun _ _ _ _ h => h) ?_
            refine AJ_takeV 4 31 rfl (by kernel_rfl) rfl (by kernel_rfl) (by kernel_rfl) (GY_none rfl) (Ent.take del0 (Ent.take del0 (Ent.take del0 (Ent.take del0 (Ent.take del0 Ent.refl))))) (V_load rfl foc0 rfl Try.isAgg52) rfl (fun _ _ _ _ h => h) ?_
            refine AJ_takeP 5 63 rfl (by kernel_rfl) rfl (GY_none rfl) (P_move rfl) rfl (fun _ _ _ _ h => h) ?_
            refine AJ_takeP 7 191 rfl (by kernel_rfl) rfl (GY_none rfl) (P_move rfl) rfl (fun _ _ _ _ h => h) ?_
            refine AJ_two 6 8 255 447 rfl rfl (by kernel_rfl) rfl rfl (GY_none rfl) (GY_none rfl) (O_make (t := tyU) (m := m) (x0 := 0) (z := _) (bytes := _) rfl rfl hmz.symm hmz.symm Try.underlying56 ⟨Try.t26, by kernel_rfl, rfl, rfl, rfl⟩ rfl (by omega) (by decide) rfl (fun b3 => ?_)) (O_make (t := tyU) (m := m) (x0 := 0) (z := _) (bytes := _) rfl rfl hmz.symm hmz.symm Try.underlying56 ⟨Try.t26, by kernel_rfl, rfl, rfl, rfl⟩ rfl (by omega) (by decide) rfl (fun b4 => ?_))
            ·
              refine ⟨fun _ => (Ent.take del1 (Ent.take del1 (Ent.take del1 (Ent.take del1 (Ent.take del1 (Ent.drop Ent.refl)))))), ?_⟩
              refine AJ_op 8 511 rfl (by kernel_rfl) rfl (GY_none rfl) (O_make (t := tyU) (m := m) (x0 := 0) (z := _) (bytes := _) rfl rfl hmz.symm hmz.symm Try.underlying56 ⟨Try.t26, by kernel_rfl, rfl, rfl, rfl⟩ rfl (by omega) (by decide) rfl (fun b5 => ?_))
              refine ⟨fun _ => (Ent.take del2 (Ent.take del2 (Ent.take del2 (Ent.take del2 (Ent.take del2 (Ent.drop (Ent.drop Ent.refl))))))), ?_⟩
              refine AJ_takeP 9 1023 rfl (by kernel_rfl) rfl (GY_none rfl) (P_build rfl (bld_58_0_1 _ _ _ _ _ _)) rfl (fun _ _ _ _ h => h) ?_
              refine AJ_op 10 2047 rfl (by kernel_rfl) rfl (GY_none rfl) (O_buildSlice rfl (bs_52_1_0 _ _ _ _ _ _ _) rfl (fun b6 => ?_))
              refine ⟨fun _ => (Ent.take del3 (Ent.take del3 (Ent.take del3 (Ent.take del3 (Ent.take del3 (Ent.drop (Ent.drop (Ent.drop Ent.refl)))))))), ?_⟩
              refine AJ_op 11 4095 rfl (by kernel_rfl) rfl (GY_none rfl) (O_append (t := tyDrv) (bytes := 56) rfl rfl del4 foc0 (Reads.lit (t := tyDrv) (ys := [⟨⟨some ⟨b3, 0, none⟩, m, m⟩, ⟨some ⟨b5, 0, none⟩, m, m⟩, false⟩]) rfl rfl (by decide) (by decide) rfl) Try.underlying52 ok_tyDrv (by simp only [List.length_append, List.length_cons, List.length_nil, maxLen] at *; omega) (by simp only [List.length_append, List.length_cons, List.length_nil, maxLen] at *; omega) rfl (fun p7 c8 => ?_))
              refine ⟨fun h => absurd h (by decide), ?_⟩
              refine AJ_takeP 12 8191 rfl (by kernel_rfl) rfl (GY_none rfl) (P_nilCheck rfl) rfl (fun _ _ _ _ h => h) ?_
              refine AJ_takeP 13 16383 rfl (by kernel_rfl) rfl (GY_none rfl) (P_fieldAddr rfl ⟨_, _, _, Try.runUnderlying55, rfl, rfl, Try.sizeOf52, rfl⟩) rfl (fun _ _ _ _ h => h) ?_
              refine AJ_op 14 32767 rfl (by kernel_rfl) rfl (GY_none rfl) (O_store rfl rfl foc4 rfl rfl Try.sizeOf52 ?_)
              refine ⟨fun h => absurd h (by decide), ?_⟩
              refine AJ_done (by kernel_rfl) ?_
              refine QJ_block_normal ?_
              refine QJ_then ?_
              refine CJ_region ?_
              refine RJ_op rfl (OJ_P (P_add rfl rfl (by omega)) rfl ?_)
              refine RJ_op rfl (OJ_P (P_move rfl) rfl ?_)
              refine RJ_nil ?_
              refine QJ_nextR ⟨k + 1, ⟨p7, _, c8⟩, l ++ [((⟨⟨some ⟨b3, 0, none⟩, m, m⟩, ⟨some ⟨b5, 0, none⟩, m, m⟩, false⟩ : DrvH), (⟨List.replicate m 0, List.replicate m 0, false⟩ : Drive))]⟩ (by first | omega | (simp only []; omega)) ?_ (by repeat (first | exact Kp.base | exact Kp.self | refine Kp.cons rfl ?_ | refine Kp.forget rfl ?_)) ?_ (Ent.trans (Ent.trans (Ent.take del3 (Ent.take del2 (Ent.take del3 Ent.refl))) (DOwn_push ((⟨⟨some ⟨b3, 0, none⟩, m, m⟩, ⟨some ⟨b5, 0, none⟩, m, m⟩, false⟩ : DrvH), (⟨List.replicate m 0, List.replicate m 0, false⟩ : Drive)))) (Ent.take del3 (Ent.takeC del1 (congrArg (sl tyDrv _) (hs_snoc l ((⟨⟨some ⟨b3, 0, none⟩, m, m⟩, ⟨some ⟨b5, 0, none⟩, m, m⟩, false⟩ : DrvH), (⟨List.replicate m 0, List.replicate m 0, false⟩ : Drive))).symm) (Ent.take del0 (Ent.take del1 (Ent.take del1 (Ent.drop Ent.refl)))))))
              ·
                refine ⟨by omega, ?_, ?_, fun j hj => (by
                  rcases Nat.lt_or_ge j k with h | h
                  · exact hall j h
                  · obtain rfl : j = k := by omega
                    exact hz)⟩
                · have e : mkD (zs.getD k 0) = ⟨List.replicate m 0, List.replicate m 0, false⟩ := by
                    rw [mkD, ← hd0, ← hmz]; rfl
                  rw [take_snocI1 zs k (by omega), List.map_append, List.map_append, hl]
                  show _ ++ [_] = _ ++ [mkD _]
                  rw [e]
                · intro p hp
                  rcases List.mem_append.1 hp with hp | hp
                  · exact hm p hp
                  · simp at hp; subst hp; rfl
              · exact ⟨rfl, True.intro⟩
            ·
              refine ⟨fun _ => (Ent.take del1 (Ent.take del1 (Ent.take del1 (Ent.take del1 (Ent.take del1 (Ent.drop Ent.refl)))))), ?_⟩
              refine AJ_op 6 511 rfl (by kernel_rfl) rfl (GY_none rfl) (O_make (t := tyU) (m := m) (x0 := 0) (z := _) (bytes := _) rfl rfl hmz.symm hmz.symm Try.underlying56 ⟨Try.t26, by kernel_rfl, rfl, rfl, rfl⟩ rfl (by omega) (by decide) rfl (fun b9 => ?_))
              refine ⟨fun _ => (Ent.take del2 (Ent.take del2 (Ent.take del2 (Ent.take del2 (Ent.take del2 (Ent.drop (Ent.drop Ent.refl))))))), ?_⟩
              refine AJ_takeP 9 1023 rfl (by kernel_rfl) rfl (GY_none rfl) (P_build rfl (bld_58_0_1 _ _ _ _ _ _)) rfl (fun _ _ _ _ h => h) ?_
              refine AJ_op 10 2047 rfl (by kernel_rfl) rfl (GY_none rfl) (O_buildSlice rfl (bs_52_1_0 _ _ _ _ _ _ _) rfl (fun b10 => ?_))
              refine ⟨fun _ => (Ent.take del3 (Ent.take del3 (Ent.take del3 (Ent.take del3 (Ent.take del3 (Ent.drop (Ent.drop (Ent.drop Ent.refl)))))))), ?_⟩
              refine AJ_op 11 4095 rfl (by kernel_rfl) rfl (GY_none rfl) (O_append (t := tyDrv) (bytes := 56) rfl rfl del4 foc0 (Reads.lit (t := tyDrv) (ys := [⟨⟨some ⟨b9, 0, none⟩, m, m⟩, ⟨some ⟨b4, 0, none⟩, m, m⟩, false⟩]) rfl rfl (by decide) (by decide) rfl) Try.underlying52 ok_tyDrv (by simp only [List.length_append, List.length_cons, List.length_nil, maxLen] at *; omega) (by simp only [List.length_append, List.length_cons, List.length_nil, maxLen] at *; omega) rfl (fun p11 c12 => ?_))
              refine ⟨fun h => absurd h (by decide), ?_⟩
              refine AJ_takeP 12 8191 rfl (by kernel_rfl) rfl (GY_none rfl) (P_nilCheck rfl) rfl (fun _ _ _ _ h => h) ?_
              refine AJ_takeP 13 16383 rfl (by kernel_rfl) rfl (GY_none rfl) (P_fieldAddr rfl ⟨_, _, _, Try.runUnderlying55, rfl, rfl, Try.sizeOf52, rfl⟩) rfl (fun _ _ _ _ h => h) ?_
              refine AJ_op 14 32767 rfl (by kernel_rfl) rfl (GY_none rfl) (O_store rfl rfl foc4 rfl rfl Try.sizeOf52 ?_)
              refine ⟨fun h => absurd h (by decide), ?_⟩
              refine AJ_done (by kernel_rfl) ?_
              refine QJ_block_normal ?_
              refine QJ_then ?_
              refine CJ_region ?_
              refine RJ_op rfl (OJ_P (P_add rfl rfl (by omega)) rfl ?_)
              refine RJ_op rfl (OJ_P (P_move rfl) rfl ?_)
              refine RJ_nil ?_
              refine QJ_nextR ⟨k + 1, ⟨p11, _, c12⟩, l ++ [((⟨⟨some ⟨b9, 0, none⟩, m, m⟩, ⟨some ⟨b4, 0, none⟩, m, m⟩, false⟩ : DrvH), (⟨List.replicate m 0, List.replicate m 0, false⟩ : Drive))]⟩ (by first | omega | (simp only []; omega)) ?_ (by repeat (first | exact Kp.base | exact Kp.self | refine Kp.cons rfl ?_ | refine Kp.forget rfl ?_)) ?_ (Ent.trans (Ent.trans (Ent.take del2 (Ent.take del2 (Ent.take del3 Ent.refl))) (DOwn_push ((⟨⟨some ⟨b9, 0, none⟩, m, m⟩, ⟨some ⟨b4, 0, none⟩, m, m⟩, false⟩ : DrvH), (⟨List.replicate m 0, List.replicate m 0, false⟩ : Drive)))) (Ent.take del3 (Ent.takeC del1 (congrArg (sl tyDrv _) (hs_snoc l ((⟨⟨some ⟨b9, 0, none⟩, m, m⟩, ⟨some ⟨b4, 0, none⟩, m, m⟩, false⟩ : DrvH), (⟨List.replicate m 0, List.replicate m 0, false⟩ : Drive))).symm) (Ent.take del0 (Ent.take del1 (Ent.take del1 (Ent.drop Ent.refl)))))))
              ·
                refine ⟨by omega, ?_, ?_, fun j hj => (by
                  rcases Nat.lt_or_ge j k with h | h
                  · exact hall j h
                  · obtain rfl : j = k := by omega
                    exact hz)⟩
                · have e : mkD (zs.getD k 0) = ⟨List.replicate m 0, List.replicate m 0, false⟩ := by
                    rw [mkD, ← hd0, ← hmz]; rfl
                  rw [take_snocI1 zs k (by omega), List.map_append, List.map_append, hl]
                  show _ ++ [_] = _ ++ [mkD _]
                  rw [e]
                · intro p hp
                  rcases List.mem_append.1 hp with hp | hp
                  · exact hm p hp
                  · simp at hp; subst hp; rfl
              · exact ⟨rfl, True.intro⟩
      ·
        refine CJ_exit ?_
        refine QJ_then_exit ?_
        refine QJ_round_exit ?_
        refine QJ_block_here ?_
        refine QJ_then ?_
        refine CJ_seq ?_
        refine CJ_region ?_
        refine RJ_op rfl (OJ_P (P_move rfl) rfl ?_)
        refine RJ_op rfl (OJ_P (P_assign rfl) rfl ?_)
        refine RJ_op rfl (OJ_P (P_assign rfl) rfl ?_)
        refine RJ_nil ?_
        refine QJ_then ?_
        refine CJ_ret ?_
        refine QJ_end (res2 Try.results7 rfl rfl) ?_
        obtain rfl : k = zs.length := by omega
        exact absurd ⟨by omega, hall⟩ hN
        skip

theorem c_FlushD {W : World} {b : Nat} {s : ArrS} {d : Int} (hW : s.writes ≤ 1000000000) :
    CSpec Try.prog W 9 [ptr b 0, .int .i64 d] [Arr b s] (fun _ : Unit => .int .i64 (flC s d)) (fun _ => True) (fun _ F => Arr b (flS s d) :: F) := by
  refine CSpec.of_body Try.func9 rfl Try.ntmps9 rfl (fun F => ?_)
  show CJ _ _ _ _ _ _ (_ :: F)
  refine CJ_seq ?_
  refine CJ_region ?_
  refine RJ_op rfl (OJ_P (P_assign rfl) rfl ?_)
  refine RJ_nil ?_
  refine QJ_then ?_
  refine CJ_seq ?_
  refine CJ_seq ?_
  refine CJ_region ?_
  refine RJ_op rfl (OJ_P (P_move rfl) rfl ?_)
  refine RJ_op rfl (OJ_P (P_build rfl (bld_60_0 _)) rfl ?_)
  refine RJ_op rfl (OJ_P (P_move rfl) rfl ?_)
  refine RJ_op rfl (OJ_P (P_makeFunc rfl rfl) rfl ?_)
  refine RJ_op rfl (OJ_P (P_move rfl) rfl ?_)
  refine RJ_op rfl (OJ_P (P_makeFunc rfl rfl) rfl ?_)
  refine RJ_op rfl (OJ_P (P_move rfl) rfl ?_)
  refine RJ_op rfl (OJ_P (P_makeFunc rfl rfl) rfl ?_)
  refine RJ_op rfl (O_buildSlice rfl (bs_87_3_0_1_2 _ _ _ _ _ _ _ _ _) rfl (fun b1 => ?_))
  refine RJ_ent (Ent.trans (Ent.take del0 Ent.refl) (sl_of_lit (t := tyFn) (m := 3) [(16, ptr b 0), (17, ptr b 0), (19, ptr b 0)] rfl rfl rfl (by decide))) ?_
  refine RJ_op rfl (O_call (c_chk3 (Reads.sl _ _ _)) rfl Try.call15 (Dels.cons del0 (Dels.cons del0 Dels.nil)) rfl (fun _ hc2 => ?_))
  refine RJ_op rfl (OJ_P (P_assign rfl) rfl ?_)
  refine RJ_nil ?_
  refine QJ_then ?_
  refine CJ_seq ?_
  refine CJ_region ?_
  refine RJ_op rfl (OJ_P (P_move rfl) rfl ?_)
  refine RJ_op rfl (OJ_P (P_neq rfl rfl) rfl ?_)
  refine RJ_nil ?_
  refine QJ_then ?_
  first | (refine CJ_condD rfl (fun hg1 => ?_) (fun hg1 => ?_)) | (refine CJ_condN rfl (fun hg1 => ?_) (fun hg1 => ?_)) | (refine CJ_cond rfl (fun hg1 => ?_) (fun hg1 => ?_))
  ·
    refine CJ_seq ?_
    refine CJ_region ?_
    refine RJ_op rfl (OJ_P (P_move rfl) rfl ?_)
    refine RJ_op rfl (OJ_P (P_assign rfl) rfl ?_)
    refine RJ_nil ?_
    refine QJ_then ?_
    refine CJ_ret ?_
    refine QJ_then_ret ?_
    refine QJ_end (res1 Try.results9 rfl) ?_
    refine CSpec.close () ?_ ?_ (Ent.takeC del1 (congrArg (Arr b) (flS_bad hg1).symm) (Ent.drop Ent.refl))
    · rfl
    · trivial
  ·
    have hC := Decidable.not_not.1 hg1
    obtain ⟨i, rfl, g2⟩ := fl_ok hC
    refine CJ_skip ?_
    refine QJ_then ?_
    refine CJ_seq ?_
    refine CJ_entX (Ent.transX (Ent.take del1 Ent.refl) Arr_open) (fun ⟨dv, lv, mr, l⟩ => ?_)
    refine CJ_pur (fun hX => ?_)
    obtain ⟨hl, hm, hw⟩ : l.map Prod.snd = (s).drv ∧ (∀ p ∈ l, p.1.miss = p.2.miss) ∧ ArrWF (s) := hX
    show CJ _ _ _ _ _ _ (blk b 55 [Sl3.v dv, .map (some mr), Sl3.v lv, _, _, _] :: sl tyDrv (Sl3.v dv) (DL.hs l) :: DOwn l :: sl tyRec (Sl3.v lv) _ :: mpc mBad mr _ :: _)
    have hn := hs_len hl
    have hwF := hw.fuse
    have hwL := hw.len
    have hwC := hw.cnt
    refine CJ_ent (Ent.trans (Ent.take del2 Ent.refl) (DOwn_open i hl (by omega))) ?_
    refine CJ_region ?_
    refine RJ_op rfl (OJ_P (P_move rfl) rfl ?_)
    refine RJ_op rfl (OJ_P (P_nilCheck rfl) rfl ?_)
    refine RJ_op rfl (OJ_P (P_fieldAddr rfl ⟨_, _, _, Try.runUnderlying55, rfl, rfl, Try.sizeOf52, rfl⟩) rfl ?_)
    refine RJ_op rfl (OJ_V (V_load rfl foc3 rfl Try.isAgg52) rfl ?_)
    refine RJ_op rfl (OJ_P (P_move rfl) rfl ?_)
    first | (refine RJ_op rfl (OJ_V (V_index rfl rfl rfl (by omega) foc4 (Reads.sl _ _ _) Try.runUnderlying52 Try.sizeOf58) rfl ?_)) | (refine RJ_op rfl (OJ_V (V_index rfl rfl (Int.toNat_of_nonneg (by omega)).symm (by omega) foc4 (Reads.sl _ _ _) Try.runUnderlying52 Try.sizeOf58) rfl ?_))
    refine RJ_op rfl (OJ_V (V_loadEN rfl rfl (by omega) foc4 (Reads.sl _ _ _) rfl rfl Try.isAgg58 Try.sizeOf58) rfl ?_)
    refine RJ_op rfl (O_alloc Try.zeroValue58 rfl rfl (fun b3 => ?_))
    refine RJ_op rfl (O_storeN rfl rfl foc0 Try.sizeOf58 rfl rfl rfl ?_)
    refine RJ_nil ?_
    refine QJ_then ?_
    refine CJ_seq ?_
    refine CJ_region ?_
    refine RJ_op rfl (OJ_P (P_assign rfl) rfl ?_)
    refine RJ_nil ?_
    refine QJ_then ?_
    refine CJ_seq ?_
    refine CJ_seq ?_
    refine CJ_region ?_
    refine RJ_op rfl (OJ_P (P_move rfl) rfl ?_)
    refine RJ_op rfl (OJ_P (P_nilCheck rfl) rfl ?_)
    refine RJ_op rfl (OJ_P (P_fieldAddr rfl ⟨_, _, _, Try.runUnderlying55, rfl, rfl, Try.sizeOf53, rfl⟩) rfl ?_)
    refine RJ_op rfl (OJ_V (V_load rfl foc4 rfl Try.isAgg53) rfl ?_)
    refine RJ_op rfl (OJ_V (V_len rfl foc6 (Reads.sl _ _ _) Try.runUnderlying53) rfl ?_)
    refine RJ_op rfl (OJ_P (P_move rfl) rfl ?_)
    refine RJ_nil ?_
    refine QJ_then ?_
    refine CJ_block ?_
    refine CJ_ent (fun h hh => sl_nil (t := tyRec) h hh) ?_
    refine CJ_loopR (X := Nat × Sl3) [7, 9, 35, 36, 37, 38, 39, 40, 41, 42, 43, 44, 45, 46, 47, 48, 49, 50, 51, 52, 53, 54, 55, 56, 57, 58, 59, 60, 61] (fun ⟨k, rv⟩  => ([(7, rv.v), (35, .int .i64 (k : Nat))] : Slots)) (fun ⟨k, rv⟩ R => sl tyU ((DL.hs l).getD i dH0).dur.v (flDur (s.drv.getD i d0).now i (s.log.take k) (s.drv.getD i d0).dur) :: sl tyRec rv.v (others i (s.log.take k)) :: R) (fun ⟨k, rv⟩  => k ≤ s.log.length) (fun ⟨k, rv⟩  => s.log.length - k) ⟨0, ⟨none, 0, 0⟩⟩ ?_ ?_ (Ent.take del3 (Ent.take del0 (Ent.take del0 (Ent.take del0 (Ent.take del0 (Ent.take del0 (Ent.take del0 (Ent.take del0 (Ent.take del0 (Ent.take del0 Ent.refl)))))))))) ?_
    · omega
    · exact ⟨rfl, rfl, True.intro⟩
    ·
      rintro ⟨k, rv⟩ hk
      show CJ _ _ _ _ _ (([(7, rv.v), (35, .int .i64 (k : Nat))] : Slots) ++ forget _ _) (sl tyU ((DL.hs l).getD i dH0).dur.v (flDur (s.drv.getD i d0).now i (s.log.take k) (s.drv.getD i d0).dur) :: sl tyRec rv.v (others i (s.log.take k)) :: _)
      refine CJ_seq ?_
      refine CJ_region ?_
      refine RJ_op rfl (OJ_P (P_lss rfl rfl) rfl ?_)
      refine RJ_nil ?_
      refine QJ_then ?_
      refine CJ_seq ?_
      first | (refine CJ_condD rfl (fun hg2 => ?_) (fun hg2 => ?_)) | (refine CJ_condN rfl (fun hg2 => ?_) (fun hg2 => ?_)) | (refine CJ_cond rfl (fun hg2 => ?_) (fun hg2 => ?_))
      ·
        refine CJ_skip ?_
        refine QJ_then ?_
        refine CJ_seq ?_
        refine CJ_block ?_
        refine CJ_seq ?_
        have hr : (s.log.getD k tyRec.dflt).d < s.drv.length ∧ (s.log.getD k tyRec.dflt).a < s.size (s.log.getD k tyRec.dflt).d := hw.log k (by omega)
        refine CJ_region ?_
        first | (refine RJ_op rfl (OJ_V (V_index rfl rfl rfl (by omega) foc7 (Reads.sl _ _ _) Try.runUnderlying53 Try.sizeOf64) rfl ?_)) | (refine RJ_op rfl (OJ_V (V_index rfl rfl (Int.toNat_of_nonneg (by omega)).symm (by omega) foc7 (Reads.sl _ _ _) Try.runUnderlying53 Try.sizeOf64) rfl ?_))
        refine RJ_op rfl (OJ_V (V_loadEN rfl rfl (by omega) foc7 (Reads.sl _ _ _) rfl rfl Try.isAgg64 Try.sizeOf64) rfl ?_)
        refine RJ_op rfl (O_alloc Try.zeroValue64 rfl rfl (fun b4 => ?_))
        refine RJ_op rfl (O_storeN rfl rfl foc0 Try.sizeOf64 rfl rfl rfl ?_)
        refine RJ_nil ?_
        refine QJ_then ?_
        refine CJ_seq ?_
        refine CJ_region ?_
        refine RJ_op rfl (OJ_P (P_fieldAddr rfl ⟨_, _, _, Try.runUnderlying64, rfl, rfl, Try.sizeOf60, rfl⟩) rfl ?_)
        refine RJ_op rfl (OJ_P (P_fieldAddr rfl ⟨_, _, _, Try.runUnderlying60, rfl, rfl, Try.sizeOf3, rfl⟩) rfl ?_)
        refine RJ_op rfl (OJ_V (V_load rfl foc0 rfl Try.isAgg3) rfl ?_)
        refine RJ_op rfl (OJ_P (P_move rfl) rfl ?_)
        refine RJ_op rfl (OJ_P (P_eql rfl rfl) rfl ?_)
        refine RJ_nil ?_
        refine QJ_then ?_
        first | (refine CJ_condD rfl (fun hg3 => ?_) (fun hg3 => ?_)) | (refine CJ_condN rfl (fun hg3 => ?_) (fun hg3 => ?_)) | (refine CJ_cond rfl (fun hg3 => ?_) (fun hg3 => ?_))
        ·
          have hri : (s.log.getD k tyRec.dflt).d = i := by omega
          rw [hri] at hr
          have hr2 : (s.log.getD k tyRec.dflt).a < (s.drv.getD i d0).now.length := hr.2
          have hfl := flDur_len (s.drv.getD i d0).now i (s.log.take k) (s.drv.getD i d0).dur
          have hsm := hw.same i (by omega)
          refine AJ_startH 8192 (by kernel_rfl) rfl ?_
          refine AJ_takeP 0 1 rfl (by kernel_rfl) rfl (GY_none rfl) (P_fieldAddr rfl ⟨_, _, _, Try.runUnderlying58, rfl, rfl, Try.sizeOf56, rfl⟩) rfl (fun _ _ _ _ h => h) ?_
          refine AJ_takeV 1 3 rfl (by kernel_rfl) rfl (by kernel_rfl) (by kernel_rfl) (GY_none rfl) (Ent.take del0 (Ent.take del0 (Ent.take del0 (Ent.take del0 (Ent.take del0 (Ent.take del0 (Ent.take del0 (Ent.take del0 (Ent.take del0 (Ent.take del0 (Ent.take del0 Ent.refl))))))))))) (V_load rfl foc3 rfl Try.isAgg56) rfl (fun _ _ _ _ h => h) ?_
          refine AJ_takeP 2 7 rfl (by kernel_rfl) rfl (GY_none rfl) (P_fieldAddr rfl ⟨_, _, _, Try.runUnderlying64, rfl, rfl, Try.sizeOf60, rfl⟩) rfl (fun _ _ _ _ h => h) ?_
          refine AJ_takeP 3 15 rfl (by kernel_rfl) rfl (GY_none rfl) (P_fieldAddr rfl ⟨_, _, _, Try.runUnderlying60, rfl, rfl, Try.sizeOf3, rfl⟩) rfl (fun _ _ _ _ h => h) ?_
          refine AJ_takeV 4 31 rfl (by kernel_rfl) rfl (by kernel_rfl) (by kernel_rfl) (GY_none rfl) (Ent.take del0 (Ent.take del0 (Ent.take del0 (Ent.take del0 (Ent.take del0 (Ent.take del0 (Ent.take del0 (Ent.take del0 (Ent.take del0 (Ent.take del0 (Ent.take del0 Ent.refl))))))))))) (V_load rfl foc0 rfl Try.isAgg3) rfl (fun _ _ _ _ h => h) ?_
          refine AJ_takeP 5 63 rfl (by kernel_rfl) rfl (GY_none rfl) (P_fieldAddr rfl ⟨_, _, _, Try.runUnderlying58, rfl, rfl, Try.sizeOf56, rfl⟩) rfl (fun _ _ _ _ h => h) ?_
          refine AJ_takeV 6 127 rfl (by kernel_rfl) rfl (by kernel_rfl) (by kernel_rfl) (GY_none rfl) (Ent.take del0 (Ent.take del0 (Ent.take del0 (Ent.take del0 (Ent.take del0 (Ent.take del0 (Ent.take del0 (Ent.take del0 (Ent.take del0 (Ent.take del0 (Ent.take del0 Ent.refl))))))))))) (V_load rfl foc3 rfl Try.isAgg56) rfl (fun _ _ _ _ h => h) ?_
          refine AJ_takeP 7 255 rfl (by kernel_rfl) rfl (GY_none rfl) (P_fieldAddr rfl ⟨_, _, _, Try.runUnderlying64, rfl, rfl, Try.sizeOf60, rfl⟩) rfl (fun _ _ _ _ h => h) ?_
          refine AJ_takeP 8 511 rfl (by kernel_rfl) rfl (GY_none rfl) (P_fieldAddr rfl ⟨_, _, _, Try.runUnderlying60, rfl, rfl, Try.sizeOf3, rfl⟩) rfl (fun _ _ _ _ h => h) ?_
          refine AJ_takeV 9 1023 rfl (by kernel_rfl) rfl (by kernel_rfl) (by kernel_rfl) (GY_none rfl) (Ent.take del0 (Ent.take del0 (Ent.take del0 (Ent.take del0 (Ent.take del0 (Ent.take del0 (Ent.take del0 (Ent.take del0 (Ent.take del0 (Ent.take del0 (Ent.take del0 Ent.refl))))))))))) (V_load rfl foc0 rfl Try.isAgg3) rfl (fun _ _ _ _ h => h) ?_
          first | (refine AJ_takeV 10 2047 rfl (by kernel_rfl) rfl (by kernel_rfl) (by kernel_rfl) (GY_none rfl) (Ent.take del0 (Ent.take del0 (Ent.take del0 (Ent.take del0 (Ent.take del0 (Ent.take del0 (Ent.take del0 (Ent.take del0 (Ent.take del0 (Ent.take del0 (Ent.take del0 Ent.refl))))))))))) (V_index rfl rfl rfl (by omega) foc4 (Reads.sl _ _ _) Try.runUnderlying56 Try.sizeOf26) rfl (fun _ _ _ _ h => h) ?_) | (refine AJ_takeV 10 2047 rfl (by kernel_rfl) rfl (by kernel_rfl) (by kernel_rfl) (GY_none rfl) (Ent.take del0 (Ent.take del0 (Ent.take del0 (Ent.take del0 (Ent.take del0 (Ent.take del0 (Ent.take del0 (Ent.take del0 (Ent.take del0 (Ent.take del0 (Ent.take del0 Ent.refl))))))))))) (V_index rfl rfl (Int.toNat_of_nonneg (by omega)).symm (by omega) foc4 (Reads.sl _ _ _) Try.runUnderlying56 Try.sizeOf26) rfl (fun _ _ _ _ h => h) ?_)
          refine AJ_takeV 11 4095 rfl (by kernel_rfl) rfl (by kernel_rfl) (by kernel_rfl) (GY_none rfl) (Ent.take del0 (Ent.take del0 (Ent.take del0 (Ent.take del0 (Ent.take del0 (Ent.take del0 (Ent.take del0 (Ent.take del0 (Ent.take del0 (Ent.take del0 (Ent.take del0 Ent.refl))))))))))) (V_loadE rfl rfl (by omega) foc4 (Reads.sl _ _ _) rfl rfl Try.isAgg26) rfl (fun _ _ _ _ h => h) ?_
          first | (refine AJ_takeV 12 8191 rfl (by kernel_rfl) rfl (by kernel_rfl) (by kernel_rfl) (GY_none rfl) (Ent.take del0 (Ent.take del0 (Ent.take del0 (Ent.take del0 (Ent.take del0 (Ent.take del0 (Ent.take del0 (Ent.take del0 (Ent.take del0 (Ent.take del0 (Ent.take del0 Ent.refl))))))))))) (V_index rfl rfl rfl (by omega) foc1 (Reads.sl _ _ _) Try.runUnderlying56 Try.sizeOf26) rfl (fun _ _ _ _ h => h) ?_) | (refine AJ_takeV 12 8191 rfl (by kernel_rfl) rfl (by kernel_rfl) (by kernel_rfl) (GY_none rfl) (Ent.take del0 (Ent.take del0 (Ent.take del0 (Ent.take del0 (Ent.take del0 (Ent.take del0 (Ent.take del0 (Ent.take del0 (Ent.take del0 (Ent.take del0 (Ent.take del0 Ent.refl))))))))))) (V_index rfl rfl (Int.toNat_of_nonneg (by omega)).symm (by omega) foc1 (Reads.sl _ _ _) Try.runUnderlying56 Try.sizeOf26) rfl (fun _ _ _ _ h => h) ?_)
          refine AJ_op 13 16383 rfl (by kernel_rfl) rfl (GY_none rfl) (O_storeE (x' := (s.drv.getD i d0).now.getD (s.log.getD k tyRec.dflt).a 0) rfl rfl rfl (by omega) foc1 rfl rfl rfl Try.sizeOf26 ?_)
          refine ⟨fun h => absurd h (by decide), ?_⟩
          refine AJ_done (by kernel_rfl) ?_
          refine QJ_block_normal ?_
          refine QJ_then ?_
          refine CJ_region ?_
          refine RJ_op rfl (OJ_P (P_add rfl rfl (by omega)) rfl ?_)
          refine RJ_op rfl (OJ_P (P_move rfl) rfl ?_)
          refine RJ_nil ?_
          refine QJ_nextR ⟨k + 1, rv⟩ (by first | omega | (simp only []; omega)) ?_ (by repeat (first | exact Kp.base | exact Kp.self | refine Kp.cons rfl ?_ | refine Kp.forget rfl ?_)) ?_ (Ent.takeC del1 (congrArg (sl tyU _) (fl_t (by omega) hri)) (Ent.takeC del1 (congrArg (sl tyRec _) (ot_t (by omega) hri)) (Ent.take del1 (Ent.take del1 (Ent.take del1 (Ent.take del1 (Ent.take del1 (Ent.take del1 (Ent.take del1 (Ent.take del1 (Ent.drop Ent.refl)))))))))))
          · omega
          · exact ⟨rfl, rfl, True.intro⟩
        ·
          have hri : (s.log.getD k tyRec.dflt).d ≠ i := by omega
          have hfl : (others i (s.log.take k)).length ≤ (s.log.take k).length := List.length_filter_le _ _
          have htk := List.length_take_le k s.log
          refine CJ_region ?_
          refine RJ_op rfl (OJ_P (P_move rfl) rfl ?_)
          refine RJ_op rfl (OJ_V (V_loadN rfl foc0 Try.isAgg64 Try.sizeOf64 rfl rfl) rfl ?_)
          refine RJ_op rfl (O_buildSlice rfl (bs_53_1_0 _ _ _) rfl (fun b5 => ?_))
          refine RJ_op rfl (O_append (t := tyRec) (bytes := 24) rfl rfl del3 foc0 (Reads.lit (t := tyRec) (ys := [(s.log.getD k tyRec.dflt)]) rfl rfl (by decide) (by decide) rfl) Try.underlying53 ok_tyRec (by simp only [List.length_append, List.length_cons, List.length_nil, maxLen] at *; omega) (by simp only [List.length_append, List.length_cons, List.length_nil, maxLen] at *; omega) rfl (fun p6 c7 => ?_))
          refine RJ_op rfl (OJ_P (P_assign rfl) rfl ?_)
          refine RJ_nil ?_
          refine QJ_block_normal ?_
          refine QJ_then ?_
          refine CJ_region ?_
          refine RJ_op rfl (OJ_P (P_add rfl rfl (by omega)) rfl ?_)
          refine RJ_op rfl (OJ_P (P_move rfl) rfl ?_)
          refine RJ_nil ?_
          refine QJ_nextR ⟨k + 1, ⟨p6, _, c7⟩⟩ (by first | omega | (simp only []; omega)) ?_ (by repeat (first | exact Kp.base | exact Kp.self | refine Kp.cons rfl ?_ | refine Kp.forget rfl ?_)) ?_ (Ent.takeC del3 (congrArg (sl tyU _) (fl_f (by omega) hri)) (Ent.takeC del0 (congrArg (sl tyRec _) (ot_f (by omega) hri)) (Ent.take del2 (Ent.take del2 (Ent.take del2 (Ent.take del2 (Ent.take del2 (Ent.take del2 (Ent.take del2 (Ent.take del2 (Ent.drop (Ent.drop Ent.refl))))))))))))
          · omega
          · exact ⟨rfl, rfl, True.intro⟩
      ·
        refine CJ_exit ?_
        refine QJ_then_exit ?_
        refine QJ_round_exit ?_
        refine QJ_block_here ?_
        refine QJ_then ?_
        refine CJ_seq ?_
        refine CJ_region ?_
        refine RJ_op rfl (OJ_P (P_move rfl) rfl ?_)
        refine RJ_op rfl (OJ_P (P_move rfl) rfl ?_)
        refine RJ_op rfl (OJ_P (P_nilCheck rfl) rfl ?_)
        refine RJ_op rfl (OJ_P (P_fieldAddr rfl ⟨_, _, _, Try.runUnderlying55, rfl, rfl, Try.sizeOf53, rfl⟩) rfl ?_)
        refine RJ_op rfl (O_store rfl rfl foc5 rfl rfl Try.sizeOf53 ?_)
        refine RJ_nil ?_
        refine QJ_then ?_
        refine CJ_seq ?_
        refine CJ_region ?_
        refine RJ_op rfl (OJ_P (P_assign rfl) rfl ?_)
        refine RJ_nil ?_
        refine QJ_then ?_
        refine CJ_ret ?_
        refine QJ_end (res1 Try.results9 rfl) ?_
        obtain rfl : k = s.log.length := by omega
        rw [flS_ok hC]
        refine CSpec.close () ?_ ?_ (Ent.trans (Ent.trans (Ent.take del5 (Ent.take del5 (Ent.take del3 (Ent.takeC del0 (by rw [List.take_length]) (Ent.take del2 (Ent.takeC del0 (by rw [List.take_length]) (Ent.take del2 Ent.refl))))))) (Arr_close1 (s' := { s with drv := s.drv.set i { s.drv.getD i d0 with dur := flDur (s.drv.getD i d0).now i s.log (s.drv.getD i d0).dur }, log := others i s.log }) (lv := rv) i { s.drv.getD i d0 with dur := flDur (s.drv.getD i d0).now i s.log (s.drv.getD i d0).dur } hl hm (by omega) rfl rfl (wf_drv (wf_log hw _) _ (by omega) rfl (flDur_len _ _ _ _)))) (Ent.take del0 (Ent.drop (Ent.drop (Ent.drop Ent.refl)))))
        · exact iv hC.symm
        · trivial

theorem c_Restart {W : World} {b : Nat} {s : ArrS} {K : HP} {v : Value} {ks : List Bool} (hK : Reads K tyB v ks) (hW : s.writes ≤ 1000000000) :
    CSpec Try.prog W 10 [ptr b 0, v] [Arr b s, K] (fun _ : Unit => .tuple #[]) (fun _ => True) (fun _ F => Arr b (rsS s ks) :: K :: F) := by
  refine CSpec.of_body Try.func10 rfl Try.ntmps10 rfl (fun F => ?_)
  show CJ _ _ _ _ _ _ (_ :: _ :: F)
  refine CJ_entX (Ent.transX (Ent.take del0 Ent.refl) Arr_open) (fun ⟨dv, lv, mr, l⟩ => ?_)
  refine CJ_pur (fun hX => ?_)
  obtain ⟨hl, hm, hw⟩ : l.map Prod.snd = (s).drv ∧ (∀ p ∈ l, p.1.miss = p.2.miss) ∧ ArrWF (s) := hX
  show CJ _ _ _ _ _ _ (blk b 55 [Sl3.v dv, .map (some mr), Sl3.v lv, _, _, _] :: sl tyDrv (Sl3.v dv) (DL.hs l) :: DOwn l :: sl tyRec (Sl3.v lv) _ :: mpc mBad mr _ :: _)
  have hn := hs_len hl
  have hwF := hw.fuse
  have hwL := hw.len
  have hwC := hw.cnt
  refine CJ_seq ?_
  refine CJ_seq ?_
  refine CJ_region ?_
  refine RJ_op rfl (OJ_P (P_move rfl) rfl ?_)
  refine RJ_op rfl (OJ_P (P_nilCheck rfl) rfl ?_)
  refine RJ_op rfl (OJ_P (P_fieldAddr rfl ⟨_, _, _, Try.runUnderlying55, rfl, rfl, Try.sizeOf53, rfl⟩) rfl ?_)
  refine RJ_op rfl (OJ_V (V_load rfl foc0 rfl Try.isAgg53) rfl ?_)
  refine RJ_op rfl (OJ_V (V_len rfl foc3 (Reads.sl _ _ _) Try.runUnderlying53) rfl ?_)
  refine RJ_op rfl (OJ_P (P_move rfl) rfl ?_)
  refine RJ_nil ?_
  refine QJ_then ?_
  refine CJ_block ?_
  refine CJ_loopR (X := Nat × DL) [4, 5, 13, 14, 15, 16, 17, 18, 19, 20, 21, 22, 23, 24, 25, 26, 27, 28, 29, 30, 31, 32, 33, 34, 35, 36, 37, 38, 39, 40, 41, 42, 43, 44] (fun ⟨k, l1⟩  => ([(13, .int .i64 (k : Nat))] : Slots)) (fun ⟨k, l1⟩ R => DOwn l1 :: R) (fun ⟨k, l1⟩  => k ≤ s.log.length ∧ LOk l l1 (rsGo ks 0 (s.log.take k) s.drv)) (fun ⟨k, l1⟩  => s.log.length - k) ⟨0, l⟩ ?_ ?_ (Ent.take del2 (Ent.take del0 (Ent.take del0 (Ent.take del0 (Ent.take del0 (Ent.take del0 Ent.refl)))))) ?_
  · exact ⟨Nat.zero_le _, rfl, hl, hm⟩
  · exact ⟨rfl, True.intro⟩
  ·
    rintro ⟨k, l1⟩ ⟨hk, hl1⟩
    show CJ _ _ _ _ _ (([(13, .int .i64 (k : Nat))] : Slots) ++ forget _ _) (DOwn l1 :: _)
    refine CJ_seq ?_
    refine CJ_region ?_
    refine RJ_op rfl (OJ_P (P_lss rfl rfl) rfl ?_)
    refine RJ_nil ?_
    refine QJ_then ?_
    refine CJ_seq ?_
    first | (refine CJ_condD rfl (fun hg1 => ?_) (fun hg1 => ?_)) | (refine CJ_condN rfl (fun hg1 => ?_) (fun hg1 => ?_)) | (refine CJ_cond rfl (fun hg1 => ?_) (fun hg1 => ?_))
    ·
      refine CJ_skip ?_
      refine QJ_then ?_
      refine CJ_seq ?_
      refine CJ_block ?_
      refine CJ_seq ?_
      refine CJ_region ?_
      have hr : (s.log.getD k tyRec.dflt).d < s.drv.length ∧ (s.log.getD k tyRec.dflt).a < (s.drv.getD (s.log.getD k tyRec.dflt).d d0).now.length := hw.log k (by omega)
      refine RJ_op rfl (OJ_P (P_move rfl) rfl ?_)
      first | (refine RJ_op rfl (OJ_V (V_index rfl rfl rfl (by omega) foc3 (Reads.sl _ _ _) Try.runUnderlying53 Try.sizeOf64) rfl ?_)) | (refine RJ_op rfl (OJ_V (V_index rfl rfl (Int.toNat_of_nonneg (by omega)).symm (by omega) foc3 (Reads.sl _ _ _) Try.runUnderlying53 Try.sizeOf64) rfl ?_))
      refine RJ_op rfl (OJ_V (V_loadEN rfl rfl (by omega) foc3 (Reads.sl _ _ _) rfl rfl Try.isAgg64 Try.sizeOf64) rfl ?_)
      refine RJ_op rfl (O_alloc Try.zeroValue64 rfl rfl (fun b1 => ?_))
      refine RJ_op rfl (OJ_P (P_assign rfl) rfl ?_)
      refine RJ_op rfl (O_storeN rfl rfl foc0 Try.sizeOf64 rfl rfl rfl ?_)
      refine RJ_nil ?_
      refine QJ_then ?_
      refine CJ_seq ?_
      refine CJ_region ?_
      refine RJ_op rfl (OJ_P (P_move rfl) rfl ?_)
      refine RJ_op rfl (OJ_P (P_move rfl) rfl ?_)
      refine RJ_op rfl (OJ_V (V_len rfl foc6 hK Try.runUnderlying37) rfl ?_)
      refine RJ_op rfl (OJ_P (P_lss rfl rfl) rfl ?_)
      refine RJ_op rfl (OJ_P (P_move rfl) rfl ?_)
      first | (refine RJ_splitD 22 rfl (fun hg2B hg2 => ?_) (fun hg2B hg2 => ?_)) | (refine RJ_splitN 22 rfl (fun hg2B hg2 => ?_) (fun hg2B hg2 => ?_)) | (refine RJ_split 22 rfl (fun hg2B => ?_) (fun hg2B => ?_))
      ·
        refine RJ_gy (GY_yes rfl rfl rfl hg2B) (OJ_P (P_move rfl) rfl ?_)
        refine RJ_gy (GY_yes rfl rfl rfl hg2B) (OJ_P (P_move rfl) rfl ?_)
        first | (refine RJ_gy (GY_yes rfl rfl rfl hg2B) (OJ_V (V_index rfl rfl rfl (by omega) foc6 hK Try.runUnderlying37 Try.sizeOf4) rfl ?_)) | (refine RJ_gy (GY_yes rfl rfl rfl hg2B) (OJ_V (V_index rfl rfl (Int.toNat_of_nonneg (by omega)).symm (by omega) foc6 hK Try.runUnderlying37 Try.sizeOf4) rfl ?_))
        refine RJ_gy (GY_yes rfl rfl rfl hg2B) (OJ_V (V_loadE rfl rfl (by omega) foc6 hK rfl rfl Try.isAgg4) rfl ?_)
        refine RJ_op rfl (OJ_P (P_pickT rfl hg2B rfl) rfl ?_)
        refine RJ_nil ?_
        refine QJ_then ?_
        first | (refine CJ_condD rfl (fun hg3 => ?_) (fun hg3 => ?_)) | (refine CJ_condN rfl (fun hg3 => ?_) (fun hg3 => ?_)) | (refine CJ_cond rfl (fun hg3 => ?_) (fun hg3 => ?_))
        ·
          have hkt : ks.getD k false = true := hg3
          have hkp := rsGo_keep ks (s.log.take k) 0 s.drv (s.log.getD k tyRec.dflt).d
          have hsm := hw.same (s.log.getD k tyRec.dflt).d hr.1
          have hr1 : (s.log.getD k tyRec.dflt).d < (rsGo ks 0 (s.log.take k) s.drv).length := by rw [hkp.1]; exact hr.1
          have hr2 : (s.log.getD k tyRec.dflt).a < ((rsGo ks 0 (s.log.take k) s.drv).getD (s.log.getD k tyRec.dflt).d d0).dur.length := by rw [hkp.2.2.1, ← hsm.1]; exact hr.2
          refine CJ_ent (Ent.trans (Ent.take del1 Ent.refl) (DOwn_openL hl1 (s.log.getD k tyRec.dflt).d (hr1))) ?_
          refine AJ_startH 65536 (by kernel_rfl) rfl ?_
          refine AJ_takeP 0 1 rfl (by kernel_rfl) rfl (GY_none rfl) (P_move rfl) rfl (fun _ _ _ _ h => h) ?_
          refine AJ_takeP 1 3 rfl (by kernel_rfl) rfl (GY_none rfl) (P_nilCheck rfl) rfl (fun _ _ _ _ h => h) ?_
          refine AJ_takeP 2 7 rfl (by kernel_rfl) rfl (GY_none rfl) (P_fieldAddr rfl ⟨_, _, _, Try.runUnderlying55, rfl, rfl, Try.sizeOf52, rfl⟩) rfl (fun _ _ _ _ h => h) ?_
          refine AJ_takeV 3 15 rfl (by kernel_rfl) rfl (by kernel_rfl) (by kernel_rfl) (GY_none rfl) (Ent.take del0 (Ent.take del0 (Ent.take del0 (Ent.take del0 (Ent.take del0 (Ent.take del0 (Ent.take del0 (Ent.take del0 (Ent.take del0 Ent.refl))))))))) (V_load rfl foc4 rfl Try.isAgg52) rfl (fun _ _ _ _ h => h) ?_
          refine AJ_takeP 4 31 rfl (by kernel_rfl) rfl (GY_none rfl) (P_fieldAddr rfl ⟨_, _, _, Try.runUnderlying64, rfl, rfl, Try.sizeOf60, rfl⟩) rfl (fun _ _ _ _ h => h) ?_
          refine AJ_takeP 5 63 rfl (by kernel_rfl) rfl (GY_none rfl) (P_fieldAddr rfl ⟨_, _, _, Try.runUnderlying60, rfl, rfl, Try.sizeOf3, rfl⟩) rfl (fun _ _ _ _ h => h) ?_
          refine AJ_takeV 6 127 rfl (by kernel_rfl) rfl (by kernel_rfl) (by kernel_rfl) (GY_none rfl) (Ent.take del0 (Ent.take del0 (Ent.take del0 (Ent.take del0 (Ent.take del0 (Ent.take del0 (Ent.take del0 (Ent.take del0 (Ent.take del0 Ent.refl))))))))) (V_load rfl foc3 rfl Try.isAgg3) rfl (fun _ _ _ _ h => h) ?_
          refine AJ_takeV 7 255 rfl (by kernel_rfl) rfl (by kernel_rfl) (by kernel_rfl) (GY_none rfl) (Ent.take del0 (Ent.take del0 (Ent.take del0 (Ent.take del0 (Ent.take del0 (Ent.take del0 (Ent.take del0 (Ent.take del0 (Ent.take del0 Ent.refl))))))))) (V_index rfl rfl rfl (by omega) foc5 (Reads.sl _ _ _) Try.runUnderlying52 Try.sizeOf58) rfl (fun _ _ _ _ h => h) ?_
          refine AJ_takeP 8 511 rfl (by kernel_rfl) rfl (GY_none rfl) (P_fieldE rfl ⟨_, _, _, Try.runUnderlying58, rfl, rfl, Try.sizeOf56, rfl⟩) rfl (fun _ _ _ _ h => h) ?_
          refine AJ_takeV 9 1023 rfl (by kernel_rfl) rfl (by kernel_rfl) (by kernel_rfl) (GY_none rfl) (Ent.take del0 (Ent.take del0 (Ent.take del0 (Ent.take del0 (Ent.take del0 (Ent.take del0 (Ent.take del0 (Ent.take del0 (Ent.take del0 Ent.refl))))))))) (V_loadE rfl rfl (by omega) foc5 (Reads.sl _ _ _) rfl rfl Try.isAgg56) rfl (fun _ _ _ _ h => h) ?_
          refine AJ_takeP 10 2047 rfl (by kernel_rfl) rfl (GY_none rfl) (P_fieldAddr rfl ⟨_, _, _, Try.runUnderlying64, rfl, rfl, Try.sizeOf60, rfl⟩) rfl (fun _ _ _ _ h => h) ?_
          refine AJ_takeP 11 4095 rfl (by kernel_rfl) rfl (GY_none rfl) (P_fieldAddr rfl ⟨_, _, _, Try.runUnderlying60, rfl, rfl, Try.sizeOf3, rfl⟩) rfl (fun _ _ _ _ h => h) ?_
          refine AJ_takeV 12 8191 rfl (by kernel_rfl) rfl (by kernel_rfl) (by kernel_rfl) (GY_none rfl) (Ent.take del0 (Ent.take del0 (Ent.take del0 (Ent.take del0 (Ent.take del0 (Ent.take del0 (Ent.take del0 (Ent.take del0 (Ent.take del0 Ent.refl))))))))) (V_load rfl foc3 rfl Try.isAgg3) rfl (fun _ _ _ _ h => h) ?_
          refine AJ_takeP 13 16383 rfl (by kernel_rfl) rfl (GY_none rfl) (P_fieldAddr rfl ⟨_, _, _, Try.runUnderlying64, rfl, rfl, Try.sizeOf26, rfl⟩) rfl (fun _ _ _ _ h => h) ?_
          refine AJ_takeV 14 32767 rfl (by kernel_rfl) rfl (by kernel_rfl) (by kernel_rfl) (GY_none rfl) (Ent.take del0 (Ent.take del0 (Ent.take del0 (Ent.take del0 (Ent.take del0 (Ent.take del0 (Ent.take del0 (Ent.take del0 (Ent.take del0 Ent.refl))))))))) (V_load rfl foc3 rfl Try.isAgg26) rfl (fun _ _ _ _ h => h) ?_
          refine AJ_takeV 15 65535 rfl (by kernel_rfl) rfl (by kernel_rfl) (by kernel_rfl) (GY_none rfl) (Ent.take del0 (Ent.take del0 (Ent.take del0 (Ent.take del0 (Ent.take del0 (Ent.take del0 (Ent.take del0 (Ent.take del0 (Ent.take del0 Ent.refl))))))))) (V_index rfl rfl rfl (by exact hr2) foc1 (Reads.sl _ _ _) Try.runUnderlying56 Try.sizeOf26) rfl (fun _ _ _ _ h => h) ?_
          refine AJ_op 16 131071 rfl (by kernel_rfl) rfl (GY_none rfl) (O_storeE (x' := (s.log.getD k tyRec.dflt).v) rfl rfl rfl (by omega) foc1 rfl rfl rfl Try.sizeOf26 ?_)
          refine ⟨fun h => absurd h (by decide), ?_⟩
          refine AJ_done (by kernel_rfl) ?_
          refine QJ_block_normal ?_
          refine QJ_then ?_
          refine CJ_region ?_
          refine RJ_op rfl (OJ_P (P_add rfl rfl (by omega)) rfl ?_)
          refine RJ_op rfl (OJ_P (P_move rfl) rfl ?_)
          refine RJ_nil ?_
          refine QJ_nextR ⟨k + 1, l1.set (s.log.getD k tyRec.dflt).d ((DL.hs l).getD (s.log.getD k tyRec.dflt).d dH0, { (rsGo ks 0 (s.log.take k) s.drv).getD (s.log.getD k tyRec.dflt).d d0 with dur := ((rsGo ks 0 (s.log.take k) s.drv).getD (s.log.getD k tyRec.dflt).d d0).dur.set (s.log.getD k tyRec.dflt).a (s.log.getD k tyRec.dflt).v })⟩ (by first | omega | (simp only []; omega)) ?_ (by repeat (first | exact Kp.base | exact Kp.self | refine Kp.cons rfl ?_ | refine Kp.forget rfl ?_)) ?_ (Ent.trans (Ent.trans (Ent.take del0 (Ent.take del0 (Ent.take del0 Ent.refl))) (DOwn_closeL hl1 (s.log.getD k tyRec.dflt).d ({ (rsGo ks 0 (s.log.take k) s.drv).getD (s.log.getD k tyRec.dflt).d d0 with dur := ((rsGo ks 0 (s.log.take k) s.drv).getD (s.log.getD k tyRec.dflt).d d0).dur.set (s.log.getD k tyRec.dflt).a (s.log.getD k tyRec.dflt).v }) hr1)) (Ent.take del0 (Ent.take del1 (Ent.take del1 (Ent.take del1 (Ent.take del1 (Ent.take del1 (Ent.drop Ent.refl))))))))
          ·
            refine ⟨by omega, ?_⟩
            rw [rsGo_take (by omega), if_pos hkt]; exact hl1.set _ _ hr1 rfl
          · exact ⟨rfl, True.intro⟩
        ·
          have hkf : ¬ ks.getD k false = true := by rw [show ks.getD k false = false from hg3]; decide
          refine CJ_skip ?_
          refine QJ_block_normal ?_
          refine QJ_then ?_
          refine CJ_region ?_
          refine RJ_op rfl (OJ_P (P_add rfl rfl (by omega)) rfl ?_)
          refine RJ_op rfl (OJ_P (P_move rfl) rfl ?_)
          refine RJ_nil ?_
          refine QJ_nextR ⟨k + 1, l1⟩ (by first | omega | (simp only []; omega)) ?_ (by repeat (first | exact Kp.base | exact Kp.self | refine Kp.cons rfl ?_ | refine Kp.forget rfl ?_)) ?_ (Ent.take del1 (Ent.take del1 (Ent.take del1 (Ent.take del1 (Ent.take del1 (Ent.take del1 (Ent.drop Ent.refl)))))))
          ·
            refine ⟨by omega, ?_⟩
            rw [rsGo_take (by omega), if_neg (by first | exact hkf | simp_all)]; exact hl1
          · exact ⟨rfl, True.intro⟩
      ·
        have hkf : ¬ ks.getD k false = true := by rw [getD_beyond (by omega)]; decide
        refine RJ_gn (GY_no rfl rfl rfl hg2B) rfl rfl ?_
        refine RJ_gn (GY_no rfl rfl rfl hg2B) rfl rfl ?_
        refine RJ_gn (GY_no rfl rfl rfl hg2B) rfl rfl ?_
        refine RJ_gn (GY_no rfl rfl rfl hg2B) rfl rfl ?_
        refine RJ_op rfl (OJ_P (P_pickF rfl hg2B rfl) rfl ?_)
        refine RJ_nil ?_
        refine QJ_then ?_
        refine CJ_condF rfl rfl ?_
        refine CJ_skip ?_
        refine QJ_block_normal ?_
        refine QJ_then ?_
        refine CJ_region ?_
        refine RJ_op rfl (OJ_P (P_add rfl rfl (by omega)) rfl ?_)
        refine RJ_op rfl (OJ_P (P_move rfl) rfl ?_)
        refine RJ_nil ?_
        refine QJ_nextR ⟨k + 1, l1⟩ (by first | omega | (simp only []; omega)) ?_ (by repeat (first | exact Kp.base | exact Kp.self | refine Kp.cons rfl ?_ | refine Kp.forget rfl ?_)) ?_ (Ent.take del1 (Ent.take del1 (Ent.take del1 (Ent.take del1 (Ent.take del1 (Ent.take del1 (Ent.drop Ent.refl)))))))
        ·
          refine ⟨by omega, ?_⟩
          rw [rsGo_take (by omega), if_neg (by first | exact hkf | simp_all)]; exact hl1
        · exact ⟨rfl, True.intro⟩
    ·
      refine CJ_exit ?_
      refine QJ_then_exit ?_
      refine QJ_round_exit ?_
      refine QJ_block_here ?_
      refine QJ_then ?_
      refine CJ_seq ?_
      refine CJ_seq ?_
      obtain rfl : k = s.log.length := by omega
      rw [List.take_length] at hl1
      have hkp := fun j => rsGo_keep ks s.log 0 s.drv j
      have hdl : (rsGo ks 0 s.log s.drv).length = s.drv.length := (hkp 0).1
      refine CJ_region ?_
      refine RJ_op rfl (OJ_P (P_move rfl) rfl ?_)
      refine RJ_op rfl (OJ_P (P_nilCheck rfl) rfl ?_)
      refine RJ_op rfl (OJ_P (P_fieldAddr rfl ⟨_, _, _, Try.runUnderlying55, rfl, rfl, Try.sizeOf52, rfl⟩) rfl ?_)
      refine RJ_op rfl (OJ_V (V_load rfl foc1 rfl Try.isAgg52) rfl ?_)
      refine RJ_op rfl (OJ_V (V_len rfl foc2 (Reads.sl _ _ _) Try.runUnderlying52) rfl ?_)
      refine RJ_op rfl (OJ_P (P_move rfl) rfl ?_)
      refine RJ_nil ?_
      refine QJ_then ?_
      refine CJ_block ?_
      refine CJ_loopR (X := Nat × DL) [7, 50, 51, 52, 53, 54, 55, 56, 57, 58, 59] (fun ⟨i, l2⟩  => ([(50, .int .i64 (i : Nat))] : Slots)) (fun ⟨i, l2⟩ R => DOwn l2 :: R) (fun ⟨i, l2⟩  => i ≤ s.drv.length ∧ LOk l l2 (stl i (rsGo ks 0 s.log s.drv))) (fun ⟨i, l2⟩  => s.drv.length - i) ⟨0, l1⟩ ?_ ?_ (Ent.take del0 (Ent.take del0 (Ent.take del0 (Ent.take del0 (Ent.take del0 (Ent.take del0 Ent.refl)))))) ?_
      ·
        refine ⟨Nat.zero_le _, ?_⟩
        rw [stl_zero]; exact hl1
      · exact ⟨rfl, True.intro⟩
      ·
        rintro ⟨i, l2⟩ ⟨hi, hl2⟩
        show CJ _ _ _ _ _ (([(50, .int .i64 (i : Nat))] : Slots) ++ forget _ _) (DOwn l2 :: _)
        refine CJ_seq ?_
        refine CJ_region ?_
        refine RJ_op rfl (OJ_P (P_lss rfl rfl) rfl ?_)
        refine RJ_nil ?_
        refine QJ_then ?_
        refine CJ_seq ?_
        first | (refine CJ_condD rfl (fun hg4 => ?_) (fun hg4 => ?_)) | (refine CJ_condN rfl (fun hg4 => ?_) (fun hg4 => ?_)) | (refine CJ_cond rfl (fun hg4 => ?_) (fun hg4 => ?_))
        ·
          refine CJ_skip ?_
          refine QJ_then ?_
          refine CJ_seq ?_
          refine CJ_block ?_
          refine CJ_seq ?_
          have hsl := stl_len i (rsGo ks 0 s.log s.drv)
          have hst := stl_at (n := i) (D := (rsGo ks 0 s.log s.drv)) (by omega)
          have hsm := hw.same i (by omega)
          have hcl : ((stl i (rsGo ks 0 s.log s.drv)).getD i d0).dur.length = ((stl i (rsGo ks 0 s.log s.drv)).getD i d0).now.length := by rw [hst, (hkp i).2.2.1, (hkp i).2.1]; exact hsm.1.symm
          refine CJ_ent (Ent.trans (Ent.take del0 Ent.refl) (DOwn_openL hl2 i (by omega))) ?_
          refine CJ_region ?_
          refine RJ_op rfl (OJ_V (V_index rfl rfl rfl (by omega) foc4 (Reads.sl _ _ _) Try.runUnderlying52 Try.sizeOf58) rfl ?_)
          refine RJ_op rfl (OJ_V (V_loadEN rfl rfl (by omega) foc4 (Reads.sl _ _ _) rfl rfl Try.isAgg58 Try.sizeOf58) rfl ?_)
          refine RJ_op rfl (O_alloc Try.zeroValue58 rfl rfl (fun b2 => ?_))
          refine RJ_op rfl (O_storeN rfl rfl foc0 Try.sizeOf58 rfl rfl rfl ?_)
          refine RJ_nil ?_
          refine QJ_then ?_
          refine CJ_region ?_
          refine RJ_op rfl (OJ_P (P_fieldAddr rfl ⟨_, _, _, Try.runUnderlying58, rfl, rfl, Try.sizeOf56, rfl⟩) rfl ?_)
          refine RJ_op rfl (OJ_V (V_load rfl foc0 rfl Try.isAgg56) rfl ?_)
          refine RJ_op rfl (OJ_P (P_fieldAddr rfl ⟨_, _, _, Try.runUnderlying58, rfl, rfl, Try.sizeOf56, rfl⟩) rfl ?_)
          refine RJ_op rfl (OJ_V (V_load rfl foc0 rfl Try.isAgg56) rfl ?_)
          refine RJ_op rfl (O_copy (t := tyU) (bytes := 8) rfl rfl del1 foc1 (Reads.sl _ _ _) Try.underlying56 ok_tyU rfl ?_)
          refine RJ_nil ?_
          refine QJ_block_normal ?_
          refine QJ_then ?_
          refine CJ_region ?_
          refine RJ_op rfl (OJ_P (P_add rfl rfl (by omega)) rfl ?_)
          refine RJ_op rfl (OJ_P (P_move rfl) rfl ?_)
          refine RJ_nil ?_
          refine QJ_nextR ⟨i + 1, l2.set i ((DL.hs l).getD i dH0, settleD ((rsGo ks 0 s.log s.drv).getD i d0))⟩ (by first | omega | (simp only []; omega)) ?_ (by repeat (first | exact Kp.base | exact Kp.self | refine Kp.cons rfl ?_ | refine Kp.forget rfl ?_)) ?_ (Ent.trans (Ent.trans (Ent.takeC del0 (congrArg (sl tyU _) ((copied_eq hcl).trans (by rw [hst]; rfl))) (Ent.takeC del1 (congrArg (sl tyU _) (by rw [hst]; rfl)) (Ent.take del1 Ent.refl))) (DOwn_closeL hl2 i (settleD ((rsGo ks 0 s.log s.drv).getD i d0)) (by omega))) (Ent.take del0 (Ent.take del1 (Ent.take del1 (Ent.take del1 (Ent.take del1 (Ent.take del1 (Ent.drop Ent.refl))))))))
          ·
            refine ⟨by omega, ?_⟩
            rw [← stl_step (by omega)]; exact hl2.set _ _ (by omega) (by rw [hst]; rfl)
          · exact ⟨rfl, True.intro⟩
        ·
          refine CJ_exit ?_
          refine QJ_then_exit ?_
          refine QJ_round_exit ?_
          refine QJ_block_here ?_
          refine QJ_then ?_
          obtain rfl : i = s.drv.length := by omega
          rw [← hdl, stl_all] at hl2
          refine CJ_ent (fun h hh => sl_nil (t := tyRec) h hh) ?_
          refine CJ_region ?_
          refine RJ_op rfl (OJ_P (P_move rfl) rfl ?_)
          refine RJ_op rfl (OJ_P (P_move rfl) rfl ?_)
          refine RJ_op rfl (OJ_P (P_move rfl) rfl ?_)
          refine RJ_op rfl (OJ_P (P_nilCheck rfl) rfl ?_)
          refine RJ_op rfl (OJ_P (P_fieldAddr rfl ⟨_, _, _, Try.runUnderlying55, rfl, rfl, Try.sizeOf53, rfl⟩) rfl ?_)
          refine RJ_op rfl (O_store rfl rfl foc2 rfl rfl Try.sizeOf53 ?_)
          refine RJ_op rfl (OJ_P (P_nilCheck rfl) rfl ?_)
          refine RJ_op rfl (OJ_P (P_fieldAddr rfl ⟨_, _, _, Try.runUnderlying55, rfl, rfl, Try.sizeOf4, rfl⟩) rfl ?_)
          refine RJ_op rfl (O_store rfl rfl foc2 rfl rfl Try.sizeOf4 ?_)
          refine RJ_op rfl (OJ_P (P_nilCheck rfl) rfl ?_)
          refine RJ_op rfl (OJ_P (P_fieldAddr rfl ⟨_, _, _, Try.runUnderlying55, rfl, rfl, Try.sizeOf3, rfl⟩) rfl ?_)
          refine RJ_op rfl (O_store rfl rfl foc2 rfl rfl Try.sizeOf3 ?_)
          refine RJ_nil ?_
          refine QJ_endN (res0 Try.results10) ?_
          refine CSpec.close () ?_ ?_ (Ent.trans (Ent.trans (Ent.take del2 (Ent.take del2 (Ent.take del1 (Ent.take del0 (Ent.take del1 Ent.refl))))) (Arr_closeL (s' := rsS s ks) (lv := ⟨none, 0, 0⟩) hl2 (wf_rs hw ks))) (Ent.take del0 (Ent.take del1 (Ent.drop Ent.refl))))
          · rfl
          · trivial

end Go.Proofs
