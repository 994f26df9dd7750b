/- YtdmlbbioljfngaaCStripe: contracts of functions of the program, walked rule by rule; printed by vg.py. -/
import Derived.Test.YtdmlbbioljfngaaVgT
set_option maxRecDepth 20000
namespace Go.Proofs
open Go.VG
theorem bld_76_0_1 (v0 : Int) (v1 : Int) : ∀ w, (Instr.build 76 (#[(0, .int .i64 v0), (1, .int .i64 v1)] : Array (Nat × Value))).run Try.prog w = .ok (.agg #[.int .i64 v0, .int .i64 v1]) w := fun w => by kernel_rfl
theorem bs_23_2_0_1 (v0 : Int) (v1 : Int) : BuildsSlice Try.prog 23 2 [(0, .int .i64 v0), (1, .int .i64 v1)] 3 [.int .i64 v0, .int .i64 v1] := fun w => by kernel_rfl
theorem bld_29_0_1_2_3 (v0 : Int) (v1 : Int) (v2 : Int) (v3 : Int) : ∀ w, (Instr.build 29 (#[(0, .int .i64 v0), (1, .int .i64 v1), (2, .int .i64 v2), (3, .int .i64 v3)] : Array (Nat × Value))).run Try.prog w = .ok (.agg #[.int .i64 v0, .int .i64 v1, .int .i64 v2, .int .i64 v3]) w := fun w => by kernel_rfl
theorem bs_30_2_0_1 (v0 : Int) (v1 : Int) (v2 : Int) (v3 : Int) (v4 : Int) (v5 : Int) (v6 : Int) (v7 : Int) : BuildsSlice Try.prog 30 2 [(0, .agg #[.int .i64 v0, .int .i64 v1, .int .i64 v2, .int .i64 v3]), (1, .agg #[.int .i64 v4, .int .i64 v5, .int .i64 v6, .int .i64 v7])] 29 [.int .i64 v0, .int .i64 v1, .int .i64 v2, .int .i64 v3, .int .i64 v4, .int .i64 v5, .int .i64 v6, .int .i64 v7] := fun w => by kernel_rfl

def PlV (c n p : Int) : Prop := 1 ≤ c ∧ c ≤ 65536 ∧ 1 ≤ n ∧ n ≤ 6 ∧ 0 ≤ p ∧ p ≤ 1073741824
instance (c n p : Int) : Decidable (PlV c n p) := by unfold PlV; infer_instance
def pl1 (c n p : Int) : Int := if PlV c n p then p / c % n else 0
def pl2 (c n p : Int) : Int := if PlV c n p then p / c / n * c + p % c else 0
def pl3 (c n p : Int) : Int := if PlV c n p then 0 else 1
def BkV (c n l o : Int) : Prop := PlV c n o ∧ 0 ≤ l ∧ l < n
instance (c n l o : Int) : Decidable (BkV c n l o) := by unfold BkV; infer_instance
def bk1 (c n l o : Int) : Int := if BkV c n l o then (o / c * n + l) * c + o % c else 0
def bk2 (c n l o : Int) : Int := if BkV c n l o then 0 else 1
theorem pl_facts {c n p : Int} (h : PlV c n p) : 0 ≤ p / c ∧ p / c ≤ p ∧ 0 ≤ p / c / n ∧ p / c / n ≤ p / c ∧ p / c / n * c ≤ p ∧ 0 ≤ p / c / n * c ∧ 0 ≤ p % c ∧ p % c < c := by
  obtain ⟨h1, h2, h3, h4, h5, h6⟩ := h
  have e1 : 0 ≤ p / c := Int.ediv_nonneg h5 (by omega)
  have e2 : p / c ≤ p := Int.ediv_le_self c h5
  have e3 : 0 ≤ p / c / n := Int.ediv_nonneg e1 (by omega)
  have e4 : p / c / n ≤ p / c := Int.ediv_le_self n e1
  have e5 : p / c / n * c ≤ p := Int.le_trans (Int.mul_le_mul_of_nonneg_right e4 (by omega)) (Int.ediv_mul_le p (by omega))
  exact ⟨e1, e2, e3, e4, e5, Int.mul_nonneg e3 (by omega), Int.emod_nonneg p (by omega), Int.emod_lt_of_pos p (by omega)⟩
theorem bk_facts {c n l o : Int} (h : BkV c n l o) : 0 ≤ o / c ∧ o / c ≤ o ∧ 0 ≤ o / c * n ∧ o / c * n ≤ 6 * o ∧ 0 ≤ o / c * n + l ∧ 0 ≤ (o / c * n + l) * c ∧ (o / c * n + l) * c ≤ 6 * o + 393216 ∧ 0 ≤ o % c ∧ o % c < c := by
  obtain ⟨⟨h1, h2, h3, h4, h5, h6⟩, h7, h8⟩ := h
  have e1 : 0 ≤ o / c := Int.ediv_nonneg h5 (by omega)
  have e2 : o / c ≤ o := Int.ediv_le_self c h5
  have e3 : 0 ≤ o / c * n := Int.mul_nonneg e1 (by omega)
  have e4 : o / c * n ≤ o / c * 6 := Int.mul_le_mul_of_nonneg_left h4 e1
  have e5 : 0 ≤ o / c * n + l := by omega
  have e6 : 0 ≤ (o / c * n + l) * c := Int.mul_nonneg e5 (by omega)
  have e7 : (o / c * n + l) * c ≤ (o / c * 6 + 6) * c := Int.mul_le_mul_of_nonneg_right (by omega) (by omega)
  have e8 : o / c * c ≤ o := Int.ediv_mul_le o (by omega)
  have e9 : (o / c * 6 + 6) * c = 6 * (o / c * c) + 6 * c := by rw [Int.add_mul, Int.mul_comm (o / c) 6, Int.mul_assoc]
  exact ⟨e1, e2, e3, by omega, e5, e6, by omega, Int.emod_nonneg o (by omega), Int.emod_lt_of_pos o (by omega)⟩
def badSz (n : Int) : Bool := decide (n < 0 ∨ 1073741824 < n)
def idxOf (xs : List Int) : Int := match xs.findIdx? badSz with | some i => (i : Int) | none => -1
def least (xs : List Int) : Int := xs.foldl min (xs.getD 0 0)
def SzV (c : Int) (xs : List Int) : Prop := PlV c xs.length 0 ∧ xs.any badSz = false
instance (c : Int) (xs : List Int) : Decidable (SzV c xs) := by unfold SzV; infer_instance
def sz1 (c : Int) (xs : List Int) : Int := if SzV c xs then (xs.length : Int) * (least xs / c * c) else 0
def sz2 (c : Int) (xs : List Int) : Int := if SzV c xs then 0 else 1
theorem idxOf_any (xs : List Int) : (0 ≤ idxOf xs) ↔ xs.any badSz = true := by
  unfold idxOf
  cases h : xs.findIdx? badSz with
  | none =>
    rw [List.findIdx?_eq_none_iff] at h
    simp only [List.any_eq_true]
    constructor
    · intro h; omega
    · rintro ⟨x, hx, hb⟩; rw [h x hx] at hb; cases hb
  | some i =>
    rw [List.findIdx?_eq_some_iff_getElem] at h
    obtain ⟨h1, h2, _⟩ := h
    simp only [List.any_eq_true]
    exact ⟨fun _ => ⟨_, List.getElem_mem h1, h2⟩, fun _ => by omega⟩
theorem idxOf_at {xs : List Int} {k : Nat} (hk : k < xs.length) (hb : badSz (xs.getD k 0) = true) (hn : ∀ j, j < k → badSz (xs.getD j 0) = false) : idxOf xs = k := by
  have : xs.findIdx? badSz = some k := by
    rw [List.findIdx?_eq_some_iff_getElem]
    refine ⟨hk, by simpa [List.getD, hk] using hb, fun j hj => ?_⟩
    have := hn j hj
    simpa [List.getD, Nat.lt_trans hj hk] using this
  unfold idxOf; rw [this]
theorem idxOf_none {xs : List Int} (hn : ∀ j, j < xs.length → badSz (xs.getD j 0) = false) : idxOf xs = -1 := by
  have : xs.findIdx? badSz = none := by
    rw [List.findIdx?_eq_none_iff]
    intro x hx
    obtain ⟨j, hj, rfl⟩ := List.getElem_of_mem hx
    have := hn j hj
    simpa [List.getD, hj] using this
  unfold idxOf; rw [this]
theorem take_snocI (xs : List Int) (k : Nat) (h : k < xs.length) : xs.take (k + 1) = xs.take k ++ [xs.getD k 0] := by
  rw [List.take_succ_eq_append_getElem h]; simp [List.getD, h]
theorem foldl_min_comm (xs : List Int) (a b : Int) : xs.foldl min (min a b) = min a (xs.foldl min b) := by
  induction xs generalizing a b with
  | nil => rfl
  | cons x r ih => simp only [List.foldl_cons]; rw [Int.min_assoc, ih]
theorem notAny_at {xs : List Int} {k : Nat} (hk : k < xs.length) (hb : badSz (xs.getD k 0) = true) (h : xs.any badSz = false) : False := by
  have := List.any_eq_false.1 h (xs.getD k 0) (by simp [List.getD, hk])
  exact this hb
theorem least_of {xs : List Int} (h0 : 0 < xs.length) (hb : xs.any badSz = false) : xs.foldl min 1073741824 = least xs := by
  unfold least
  cases xs with
  | nil => simp at h0
  | cons x r =>
    have := List.any_eq_false.1 hb x (by simp)
    simp only [badSz, decide_eq_true_eq] at this
    simp only [List.foldl_cons, List.getD_cons_zero]
    rw [show min 1073741824 x = x by omega, show min x x = x by omega]
theorem place_back {c n p : Int} (h : PlV c n p) : pl3 c n p = 0 ∧ bk2 c n (pl1 c n p) (pl2 c n p) = 0 ∧ bk1 c n (pl1 c n p) (pl2 c n p) = p ∧ 0 ≤ pl1 c n p ∧ pl1 c n p < n ∧ PlV c n (pl2 c n p) := by
  obtain ⟨e1, e2, e3, e4, e5, e6, e7, e8⟩ := pl_facts h
  obtain ⟨h1, h2, h3, h4, h5, h6⟩ := id h
  have a1 : pl1 c n p = p / c % n := if_pos h
  have a2 : pl2 c n p = p / c / n * c + p % c := if_pos h
  have a3 : pl3 c n p = 0 := if_pos h
  have hdm : (p / c / n * c + p % c) / c = p / c / n ∧ (p / c / n * c + p % c) % c = p % c :=
    (Int.ediv_emod_unique (by omega)).2 ⟨by rw [Int.mul_comm c]; omega, e7, e8⟩
  have b1 : 0 ≤ p / c % n := Int.emod_nonneg _ (by omega)
  have b2 : p / c % n < n := Int.emod_lt_of_pos _ (by omega)
  have hcn : p = p / c * c + p % c := by have := Int.mul_ediv_add_emod p c; rw [Int.mul_comm]; omega
  have hpn : p / c = p / c / n * n + p / c % n := by have := Int.mul_ediv_add_emod (p / c) n; rw [Int.mul_comm (p / c / n)]; omega
  have hle : p / c / n * c + p % c ≤ p := by
    have : p / c / n * c ≤ p / c * c := Int.mul_le_mul_of_nonneg_right e4 (by omega)
    omega
  have hP2 : PlV c n (pl2 c n p) := by rw [a2]; exact ⟨h1, h2, h3, h4, by omega, by omega⟩
  have hB : BkV c n (pl1 c n p) (pl2 c n p) := ⟨hP2, by rw [a1]; exact b1, by rw [a1]; exact b2⟩
  refine ⟨a3, if_pos hB, ?_, by rw [a1]; exact b1, by rw [a1]; exact b2, hP2⟩
  rw [bk1, if_pos hB, a1, a2, hdm.1, hdm.2, ← hpn]
  exact hcn.symm
theorem back_place {c n l o : Int} (h : BkV c n l o) (ho : o ≤ 65535) (hc : c ≤ 16 := by omega) : bk2 c n l o = 0 ∧ pl3 c n (bk1 c n l o) = 0 ∧ pl1 c n (bk1 c n l o) = l ∧ pl2 c n (bk1 c n l o) = o := by
  obtain ⟨e1, e2, e3, e4, e5, e6, e7, e8, e9⟩ := bk_facts h
  obtain ⟨⟨h1, h2, h3, h4, h5, h6⟩, h7, h8⟩ := id h
  have a1 : bk1 c n l o = (o / c * n + l) * c + o % c := if_pos h
  have hdm : ((o / c * n + l) * c + o % c) / c = o / c * n + l ∧ ((o / c * n + l) * c + o % c) % c = o % c :=
    (Int.ediv_emod_unique (by omega)).2 ⟨by rw [Int.mul_comm c]; omega, e8, e9⟩
  have hdn : (o / c * n + l) / n = o / c ∧ (o / c * n + l) % n = l :=
    (Int.ediv_emod_unique (by omega)).2 ⟨by rw [Int.mul_comm n]; omega, h7, h8⟩
  have hP : PlV c n (bk1 c n l o) := by rw [a1]; exact ⟨h1, h2, h3, h4, by omega, by omega⟩
  refine ⟨if_pos h, if_pos hP, ?_, ?_⟩
  · rw [pl1, if_pos hP, a1, hdm.1, hdn.2]
  · rw [pl2, if_pos hP, a1, hdm.1, hdm.2, hdn.1]
    have := Int.mul_ediv_add_emod o c
    rw [Int.mul_comm]; omega
theorem least_bd {xs : List Int} (hne : 0 < xs.length) (hb : xs.any badSz = false) : 0 ≤ least xs ∧ least xs ≤ 1073741824 := by
  have hx : ∀ x ∈ xs, 0 ≤ x ∧ x ≤ 1073741824 := by
    intro x hx
    have := List.any_eq_false.1 hb x hx
    simp only [badSz, decide_eq_true_eq] at this
    omega
  have key : ∀ (l : List Int) (a : Int), (0 ≤ a ∧ a ≤ 1073741824) → (∀ x ∈ l, 0 ≤ x ∧ x ≤ 1073741824) → 0 ≤ l.foldl min a ∧ l.foldl min a ≤ 1073741824 := by
    intro l
    induction l with
    | nil => intro a h _; exact h
    | cons x r ih =>
      intro a h hl
      have := hl x (by simp)
      exact ih (min a x) (by omega) (fun y hy => hl y (by simp [hy]))
  refine key xs _ ?_ hx
  cases xs with
  | nil => simp at hne
  | cons y r => exact hx y (by simp)

structure A4 where
  a : Int
  b : Int
  c : Int
  d : Int
abbrev tyA4 : Ty A4 := { T := 29, sz := 4, enc := fun x => [.int .i64 x.a, .int .i64 x.b, .int .i64 x.c, .int .i64 x.d], dflt := ⟨0, 0, 0, 0⟩, len := fun _ => rfl, one := fun _ => rfl, pos := by decide }

/-- How many of the sectors below i stand on leg l. -/
def nxF (c k i l : Int) : Int := i / c / k * c + (if l < i / c % k then c else if l = i / c % k then i % c else 0)
theorem nxF_zero (c k l : Int) (_hl : 0 ≤ l) : nxF c k 0 l = 0 := by
  unfold nxF
  simp only [Int.zero_ediv, Int.zero_emod, Int.zero_mul, Int.zero_add]
  split
  · omega
  · split <;> rfl
theorem divmod_succ (a b : Int) (hb : 0 < b) : (a % b + 1 < b ∧ (a + 1) / b = a / b ∧ (a + 1) % b = a % b + 1) ∨ (a % b + 1 = b ∧ (a + 1) / b = a / b + 1 ∧ (a + 1) % b = 0) := by
  have h1 := Int.emod_nonneg a (show b ≠ 0 by omega)
  have h2 := Int.emod_lt_of_pos a hb
  have h3 := Int.mul_ediv_add_emod a b
  rcases Int.lt_or_le (a % b + 1) b with h | h
  · left
    have := (Int.ediv_emod_unique (a := a + 1) (r := a % b + 1) (q := a / b) hb).2 ⟨by omega, by omega, h⟩
    exact ⟨h, this.1, this.2⟩
  · right
    have := (Int.ediv_emod_unique (a := a + 1) (r := 0) (q := a / b + 1) hb).2 ⟨by rw [Int.mul_add]; omega, by omega, hb⟩
    exact ⟨by omega, this.1, this.2⟩
theorem nxF_succ {c k i l : Int} (hc : 0 < c) (hk : 0 < k) (hl : 0 ≤ l ∧ l < k) : nxF c k (i + 1) l = nxF c k i l + (if l = i / c % k then 1 else 0) := by
  have hv := Int.emod_nonneg (i / c) (show k ≠ 0 by omega)
  have hv2 := Int.emod_lt_of_pos (i / c) hk
  have hr := Int.emod_nonneg i (show c ≠ 0 by omega)
  unfold nxF
  rcases divmod_succ i c hc with ⟨h1, h2, h3⟩ | ⟨h1, h2, h3⟩
  · rw [h2, h3]
    split <;> (try split) <;> (try split) <;> (try split) <;> omega
  · rw [h2, h3]
    rcases divmod_succ (i / c) k hk with ⟨g1, g2, g3⟩ | ⟨g1, g2, g3⟩
    · rw [g2, g3]
      generalize i / c / k * c = z
      split <;> split <;> (try split) <;> (try split) <;> omega
    · rw [g2, g3, Int.add_mul, Int.one_mul]
      generalize i / c / k * c = z
      split <;> split <;> (try split) <;> (try split) <;> omega
theorem nxF_at {c k i : Int} : nxF c k i (i / c % k) = i / c / k * c + i % c := by
  unfold nxF; rw [if_neg (by omega), if_pos rfl]
theorem nxF_apart {c k i : Int} (hc : 0 < c) (a b : Int) : nxF c k i a - nxF c k i b ≤ c := by
  have hr := Int.emod_nonneg i (show c ≠ 0 by omega)
  have hr2 := Int.emod_lt_of_pos i hc
  unfold nxF
  split <;> split <;> (try split) <;> (try split) <;> omega
theorem nxF_bd {c k i l : Int} (hc : 0 < c) (hk : 0 < k) (hi : 0 ≤ i) : 0 ≤ nxF c k i l ∧ nxF c k i l ≤ i + c := by
  have hr := Int.emod_nonneg i (show c ≠ 0 by omega)
  have hr2 := Int.emod_lt_of_pos i hc
  have e1 : 0 ≤ i / c := Int.ediv_nonneg hi (by omega)
  have e3 : 0 ≤ i / c / k := Int.ediv_nonneg e1 (by omega)
  have e4 : i / c / k ≤ i / c := Int.ediv_le_self k e1
  have e5 : i / c / k * c ≤ i := Int.le_trans (Int.mul_le_mul_of_nonneg_right e4 (by omega)) (Int.ediv_mul_le i (by omega))
  have e6 : 0 ≤ i / c / k * c := Int.mul_nonneg e3 (by omega)
  unfold nxF
  split <;> (try split) <;> omega

theorem even_step {c k i : Int} (h : PlV c k i) : pl3 c k i = 0 ∧ 0 ≤ pl1 c k i ∧ pl1 c k i < k ∧ pl1 c k i = i / c % k ∧ pl2 c k i = nxF c k i (pl1 c k i) := by
  obtain ⟨h1, h2, h3, h4, h5, h6⟩ := id h
  have a1 : pl1 c k i = i / c % k := if_pos h
  refine ⟨if_pos h, ?_, ?_, a1, ?_⟩
  · rw [a1]; exact Int.emod_nonneg _ (by omega)
  · rw [a1]; exact Int.emod_lt_of_pos _ (by omega)
  · rw [a1, nxF_at]; exact if_pos h
theorem getD_setI (xs : List Int) (i j : Nat) (v : Int) (hi : i < xs.length) : (xs.set i v).getD j 0 = if j = i then v else xs.getD j 0 := by
  simp only [List.getD, List.getElem?_set]
  by_cases h : i = j
  · subst h; simp [hi]
  · have : ¬ j = i := fun e => h e.symm
    simp [h, this]

theorem c_valid {W : World} {c n p : Int} :
    CSpec Try.prog W 44 [.agg #[.int .i64 c, .int .i64 n], .int .i64 p] [] (fun _ : Unit => .bool (decide (PlV c n p))) (fun _ => True) (fun _ F => F) := by
  refine CSpec.of_body Try.func44 rfl Try.ntmps44 rfl (fun F => ?_)
  show CJ _ _ _ _ _ _ (F)
  refine CJ_seq ?_
  refine CJ_region ?_
  refine RJ_op rfl (O_box rfl rfl rfl (fun b1 => ?_))
  refine RJ_op rfl (OJ_P (P_assign rfl) rfl ?_)
  refine RJ_nil ?_
  refine QJ_then ?_
  refine CJ_seq ?_
  refine CJ_region ?_
  refine RJ_op rfl (OJ_P (P_fieldAddr rfl ⟨_, _, _, Try.runUnderlying76, rfl, rfl, Try.sizeOf3, rfl⟩) rfl ?_)
  refine RJ_op rfl (OJ_V (V_load rfl foc0 rfl Try.isAgg3) rfl ?_)
  refine RJ_op rfl (OJ_P (P_geq rfl rfl) rfl ?_)
  refine RJ_op rfl (OJ_P (P_move rfl) rfl ?_)
  first | (refine RJ_splitD 8 rfl (fun hg1B hg1 => ?_) (fun hg1B hg1 => ?_)) | (refine RJ_splitN 8 rfl (fun hg1B hg1 => ?_) (fun hg1B hg1 => ?_)) | (refine RJ_split 8 rfl (fun hg1B => ?_) (fun hg1B => ?_))
  ·
    refine RJ_gy (GY_yes rfl rfl rfl hg1B) (OJ_P (P_fieldAddr rfl ⟨_, _, _, Try.runUnderlying76, rfl, rfl, Try.sizeOf3, rfl⟩) rfl ?_)
    refine RJ_gy (GY_yes rfl rfl rfl hg1B) (OJ_V (V_load rfl foc0 rfl Try.isAgg3) rfl ?_)
    refine RJ_gy (GY_yes rfl rfl rfl hg1B) (OJ_P (P_leq rfl rfl) rfl ?_)
    refine RJ_op rfl (OJ_P (P_pickT rfl hg1B rfl) rfl ?_)
    refine RJ_op rfl (OJ_P (P_move rfl) rfl ?_)
    first | (refine RJ_splitD 13 rfl (fun hg2B hg2 => ?_) (fun hg2B hg2 => ?_)) | (refine RJ_splitN 13 rfl (fun hg2B hg2 => ?_) (fun hg2B hg2 => ?_)) | (refine RJ_split 13 rfl (fun hg2B => ?_) (fun hg2B => ?_))
    ·
      refine RJ_gy (GY_yes rfl rfl rfl hg2B) (OJ_P (P_fieldAddr rfl ⟨_, _, _, Try.runUnderlying76, rfl, rfl, Try.sizeOf3, rfl⟩) rfl ?_)
      refine RJ_gy (GY_yes rfl rfl rfl hg2B) (OJ_V (V_load rfl foc0 rfl Try.isAgg3) rfl ?_)
      refine RJ_gy (GY_yes rfl rfl rfl hg2B) (OJ_P (P_geq rfl rfl) rfl ?_)
      refine RJ_op rfl (OJ_P (P_pickT rfl hg2B rfl) rfl ?_)
      refine RJ_op rfl (OJ_P (P_move rfl) rfl ?_)
      first | (refine RJ_splitD 18 rfl (fun hg3B hg3 => ?_) (fun hg3B hg3 => ?_)) | (refine RJ_splitN 18 rfl (fun hg3B hg3 => ?_) (fun hg3B hg3 => ?_)) | (refine RJ_split 18 rfl (fun hg3B => ?_) (fun hg3B => ?_))
      ·
        refine RJ_gy (GY_yes rfl rfl rfl hg3B) (OJ_P (P_fieldAddr rfl ⟨_, _, _, Try.runUnderlying76, rfl, rfl, Try.sizeOf3, rfl⟩) rfl ?_)
        refine RJ_gy (GY_yes rfl rfl rfl hg3B) (OJ_V (V_load rfl foc0 rfl Try.isAgg3) rfl ?_)
        refine RJ_gy (GY_yes rfl rfl rfl hg3B) (OJ_P (P_leq rfl rfl) rfl ?_)
        refine RJ_op rfl (OJ_P (P_pickT rfl hg3B rfl) rfl ?_)
        refine RJ_op rfl (OJ_P (P_move rfl) rfl ?_)
        first | (refine RJ_splitD 23 rfl (fun hg4B hg4 => ?_) (fun hg4B hg4 => ?_)) | (refine RJ_splitN 23 rfl (fun hg4B hg4 => ?_) (fun hg4B hg4 => ?_)) | (refine RJ_split 23 rfl (fun hg4B => ?_) (fun hg4B => ?_))
        ·
          refine RJ_gy (GY_yes rfl rfl rfl hg4B) (OJ_P (P_move rfl) rfl ?_)
          refine RJ_gy (GY_yes rfl rfl rfl hg4B) (OJ_P (P_geq rfl rfl) rfl ?_)
          refine RJ_op rfl (OJ_P (P_pickT rfl hg4B rfl) rfl ?_)
          refine RJ_op rfl (OJ_P (P_move rfl) rfl ?_)
          first | (refine RJ_splitD 27 rfl (fun hg5B hg5 => ?_) (fun hg5B hg5 => ?_)) | (refine RJ_splitN 27 rfl (fun hg5B hg5 => ?_) (fun hg5B hg5 => ?_)) | (refine RJ_split 27 rfl (fun hg5B => ?_) (fun hg5B => ?_))
          ·
            refine RJ_gy (GY_yes rfl rfl rfl hg5B) (OJ_P (P_move rfl) rfl ?_)
            refine RJ_gy (GY_yes rfl rfl rfl hg5B) (OJ_P (P_leq rfl rfl) rfl ?_)
            refine RJ_op rfl (OJ_P (P_pickT rfl hg5B rfl) rfl ?_)
            refine RJ_op rfl (OJ_P (P_assign rfl) rfl ?_)
            refine RJ_nil ?_
            refine QJ_then ?_
            refine CJ_ret ?_
            refine QJ_end (res1 Try.results44 rfl) ?_
            refine CSpec.close () ?_ ?_ (Ent.drop Ent.refl)
            · first | exact bv_dec ⟨fun h => ⟨by omega, by omega, by omega, by omega, by omega, h⟩, fun h => h.2.2.2.2.2⟩ | exact bv_false (fun h => by unfold PlV at h; omega)
            · trivial
          ·
            refine RJ_gn (GY_no rfl rfl rfl hg5B) rfl rfl ?_
            refine RJ_gn (GY_no rfl rfl rfl hg5B) rfl rfl ?_
            refine RJ_op rfl (OJ_P (P_pickF rfl hg5B rfl) rfl ?_)
            refine RJ_op rfl (OJ_P (P_assign rfl) rfl ?_)
            refine RJ_nil ?_
            refine QJ_then ?_
            refine CJ_ret ?_
            refine QJ_end (res1 Try.results44 rfl) ?_
            refine CSpec.close () ?_ ?_ (Ent.drop Ent.refl)
            · first | exact bv_dec ⟨fun h => ⟨by omega, by omega, by omega, by omega, by omega, h⟩, fun h => h.2.2.2.2.2⟩ | exact bv_false (fun h => by unfold PlV at h; omega)
            · trivial
        ·
          refine RJ_gn (GY_no rfl rfl rfl hg4B) rfl rfl ?_
          refine RJ_gn (GY_no rfl rfl rfl hg4B) rfl rfl ?_
          refine RJ_op rfl (OJ_P (P_pickF rfl hg4B rfl) rfl ?_)
          refine RJ_op rfl (OJ_P (P_move rfl) rfl ?_)
          refine RJ_gn (GY_no rfl rfl rfl rfl) rfl rfl ?_
          refine RJ_gn (GY_no rfl rfl rfl rfl) rfl rfl ?_
          refine RJ_op rfl (OJ_P (P_pickF rfl rfl rfl) rfl ?_)
          refine RJ_op rfl (OJ_P (P_assign rfl) rfl ?_)
          refine RJ_nil ?_
          refine QJ_then ?_
          refine CJ_ret ?_
          refine QJ_end (res1 Try.results44 rfl) ?_
          refine CSpec.close () ?_ ?_ (Ent.drop Ent.refl)
          · first | exact bv_dec ⟨fun h => ⟨by omega, by omega, by omega, by omega, by omega, h⟩, fun h => h.2.2.2.2.2⟩ | exact bv_false (fun h => by unfold PlV at h; omega)
          · trivial
      ·
        refine RJ_gn (GY_no rfl rfl rfl hg3B) rfl rfl ?_
        refine RJ_gn (GY_no rfl rfl rfl hg3B) rfl rfl ?_
        refine RJ_gn (GY_no rfl rfl rfl hg3B) rfl rfl ?_
        refine RJ_op rfl (OJ_P (P_pickF rfl hg3B rfl) rfl ?_)
        refine RJ_op rfl (OJ_P (P_move rfl) rfl ?_)
        refine RJ_gn (GY_no rfl rfl rfl rfl) rfl rfl ?_
        refine RJ_gn (GY_no rfl rfl rfl rfl) rfl rfl ?_
        refine RJ_op rfl (OJ_P (P_pickF rfl rfl rfl) rfl ?_)
        refine RJ_op rfl (OJ_P (P_move rfl) rfl ?_)
        refine RJ_gn (GY_no rfl rfl rfl rfl) rfl rfl ?_
        refine RJ_gn (GY_no rfl rfl rfl rfl) rfl rfl ?_
        refine RJ_op rfl (OJ_P (P_pickF rfl rfl rfl) rfl ?_)
        refine RJ_op rfl (OJ_P (P_assign rfl) rfl ?_)
        refine RJ_nil ?_
        refine QJ_then ?_
        refine CJ_ret ?_
        refine QJ_end (res1 Try.results44 rfl) ?_
        refine CSpec.close () ?_ ?_ (Ent.drop Ent.refl)
        · first | exact bv_dec ⟨fun h => ⟨by omega, by omega, by omega, by omega, by omega, h⟩, fun h => h.2.2.2.2.2⟩ | exact bv_false (fun h => by unfold PlV at h; omega)
        · trivial
    ·
      refine RJ_gn (GY_no rfl rfl rfl hg2B) rfl rfl ?_
      refine RJ_gn (GY_no rfl rfl rfl hg2B) rfl rfl ?_
      refine RJ_gn (GY_no rfl rfl rfl hg2B) rfl rfl ?_
      refine RJ_op rfl (OJ_P (P_pickF rfl hg2B rfl) rfl ?_)
      refine RJ_op rfl (OJ_P (P_move rfl) rfl ?_)
      refine RJ_gn (GY_no rfl rfl rfl rfl) rfl rfl ?_
      refine RJ_gn (GY_no rfl rfl rfl rfl) rfl rfl ?_
      refine RJ_gn (GY_no rfl rfl rfl rfl) rfl rfl ?_
      refine RJ_op rfl (OJ_P (P_pickF rfl rfl rfl) rfl ?_)
      refine RJ_op rfl (OJ_P (P_move rfl) rfl ?_)
      refine RJ_gn (GY_no rfl rfl rfl rfl) rfl rfl ?_
      refine RJ_gn (GY_no rfl rfl rfl rfl) rfl rfl ?_
      refine RJ_op rfl (OJ_P (P_pickF rfl rfl rfl) rfl ?_)
      refine RJ_op rfl (OJ_P (P_move rfl) rfl ?_)
      refine RJ_gn (GY_no rfl rfl rfl rfl) rfl rfl ?_
      refine RJ_gn (GY_no rfl rfl rfl rfl) rfl rfl ?_
      refine RJ_op rfl (OJ_P (P_pickF rfl rfl rfl) rfl ?_)
      refine RJ_op rfl (OJ_P (P_assign rfl) rfl ?_)
      refine RJ_nil ?_
      refine QJ_then ?_
      refine CJ_ret ?_
      refine QJ_end (res1 Try.results44 rfl) ?_
      refine CSpec.close () ?_ ?_ (Ent.drop Ent.refl)
      · first | exact bv_dec ⟨fun h => ⟨by omega, by omega, by omega, by omega, by omega, h⟩, fun h => h.2.2.2.2.2⟩ | exact bv_false (fun h => by unfold PlV at h; omega)
      · trivial
  ·
    refine RJ_gn (GY_no rfl rfl rfl hg1B) rfl rfl ?_
    refine RJ_gn (GY_no rfl rfl rfl hg1B) rfl rfl ?_
    refine RJ_gn (GY_no rfl rfl rfl hg1B) rfl rfl ?_
    refine RJ_op rfl (OJ_P (P_pickF rfl hg1B rfl) rfl ?_)
    refine RJ_op rfl (OJ_P (P_move rfl) rfl ?_)
    refine RJ_gn (GY_no rfl rfl rfl rfl) rfl rfl ?_
    refine RJ_gn (GY_no rfl rfl rfl rfl) rfl rfl ?_
    refine RJ_gn (GY_no rfl rfl rfl rfl) rfl rfl ?_
    refine RJ_op rfl (OJ_P (P_pickF rfl rfl rfl) rfl ?_)
    refine RJ_op rfl (OJ_P (P_move rfl) rfl ?_)
    refine RJ_gn (GY_no rfl rfl rfl rfl) rfl rfl ?_
    refine RJ_gn (GY_no rfl rfl rfl rfl) rfl rfl ?_
    refine RJ_gn (GY_no rfl rfl rfl rfl) rfl rfl ?_
    refine RJ_op rfl (OJ_P (P_pickF rfl rfl rfl) rfl ?_)
    refine RJ_op rfl (OJ_P (P_move rfl) rfl ?_)
    refine RJ_gn (GY_no rfl rfl rfl rfl) rfl rfl ?_
    refine RJ_gn (GY_no rfl rfl rfl rfl) rfl rfl ?_
    refine RJ_op rfl (OJ_P (P_pickF rfl rfl rfl) rfl ?_)
    refine RJ_op rfl (OJ_P (P_move rfl) rfl ?_)
    refine RJ_gn (GY_no rfl rfl rfl rfl) rfl rfl ?_
    refine RJ_gn (GY_no rfl rfl rfl rfl) rfl rfl ?_
    refine RJ_op rfl (OJ_P (P_pickF rfl rfl rfl) rfl ?_)
    refine RJ_op rfl (OJ_P (P_assign rfl) rfl ?_)
    refine RJ_nil ?_
    refine QJ_then ?_
    refine CJ_ret ?_
    refine QJ_end (res1 Try.results44 rfl) ?_
    refine CSpec.close () ?_ ?_ (Ent.drop Ent.refl)
    · first | exact bv_dec ⟨fun h => ⟨by omega, by omega, by omega, by omega, by omega, h⟩, fun h => h.2.2.2.2.2⟩ | exact bv_false (fun h => by unfold PlV at h; omega)
    · trivial

theorem c_place {W : World} {c n p : Int} (h : PlV c n p) :
    CSpec Try.prog W 45 [.agg #[.int .i64 c, .int .i64 n], .int .i64 p] [] (fun _ : Unit => .tuple #[.int .i64 (p / c % n), .int .i64 (p / c / n * c + p % c)]) (fun _ => True) (fun _ F => F) := by
  obtain ⟨e1, e2, e3, e4, e5, e6, e7, e8⟩ := pl_facts h
  obtain ⟨h1, h2, h3, h4, h5, h6⟩ := h
  refine CSpec.of_body Try.func45 rfl Try.ntmps45 rfl (fun F => ?_)
  show CJ _ _ _ _ _ _ (F)
  refine CJ_seq ?_
  refine CJ_region ?_
  refine RJ_op rfl (O_box rfl rfl rfl (fun b1 => ?_))
  refine RJ_op rfl (OJ_P (P_assign rfl) rfl ?_)
  refine RJ_op rfl (OJ_P (P_assign rfl) rfl ?_)
  refine RJ_nil ?_
  refine QJ_then ?_
  refine CJ_seq ?_
  refine CJ_region ?_
  refine RJ_op rfl (OJ_P (P_move rfl) rfl ?_)
  refine RJ_op rfl (OJ_P (P_fieldAddr rfl ⟨_, _, _, Try.runUnderlying76, rfl, rfl, Try.sizeOf3, rfl⟩) rfl ?_)
  refine RJ_op rfl (OJ_V (V_load rfl foc0 rfl Try.isAgg3) rfl ?_)
  refine RJ_op rfl (OJ_P (P_quo rfl rfl (by omega)) rfl ?_)
  refine RJ_op rfl (OJ_P (P_assign rfl) rfl ?_)
  refine RJ_nil ?_
  refine QJ_then ?_
  refine CJ_seq ?_
  refine AJ_startH 0 (by kernel_rfl) rfl ?_
  refine AJ_takeP 0 1 rfl (by kernel_rfl) rfl (GY_none rfl) (P_move rfl) rfl (fun _ _ _ _ h => h) ?_
  refine AJ_takeP 1 3 rfl (by kernel_rfl) rfl (GY_none rfl) (P_fieldAddr rfl ⟨_, _, _, Try.runUnderlying76, rfl, rfl, Try.sizeOf3, rfl⟩) rfl (fun _ _ _ _ h => h) ?_
  refine AJ_takeV 2 7 rfl (by kernel_rfl) rfl (by kernel_rfl) (by kernel_rfl) (GY_none rfl) (Ent.take del0 Ent.refl) (V_load rfl foc0 rfl Try.isAgg3) rfl (fun _ _ _ _ h => h) ?_
  refine AJ_takeP 3 15 rfl (by kernel_rfl) rfl (GY_none rfl) (P_rem rfl rfl (by omega)) rfl (fun _ _ _ _ h => h) ?_
  refine AJ_takeP 4 31 rfl (by kernel_rfl) rfl (GY_none rfl) (P_move rfl) rfl (fun _ _ _ _ h => h) ?_
  refine AJ_takeP 5 63 rfl (by kernel_rfl) rfl (GY_none rfl) (P_fieldAddr rfl ⟨_, _, _, Try.runUnderlying76, rfl, rfl, Try.sizeOf3, rfl⟩) rfl (fun _ _ _ _ h => h) ?_
  refine AJ_takeV 6 127 rfl (by kernel_rfl) rfl (by kernel_rfl) (by kernel_rfl) (GY_none rfl) (Ent.take del0 Ent.refl) (V_load rfl foc0 rfl Try.isAgg3) rfl (fun _ _ _ _ h => h) ?_
  refine AJ_takeP 7 255 rfl (by kernel_rfl) rfl (GY_none rfl) (P_quo rfl rfl (by omega)) rfl (fun _ _ _ _ h => h) ?_
  refine AJ_takeP 8 511 rfl (by kernel_rfl) rfl (GY_none rfl) (P_fieldAddr rfl ⟨_, _, _, Try.runUnderlying76, rfl, rfl, Try.sizeOf3, rfl⟩) rfl (fun _ _ _ _ h => h) ?_
  refine AJ_takeV 9 1023 rfl (by kernel_rfl) rfl (by kernel_rfl) (by kernel_rfl) (GY_none rfl) (Ent.take del0 Ent.refl) (V_load rfl foc0 rfl Try.isAgg3) rfl (fun _ _ _ _ h => h) ?_
  refine AJ_takeP 10 2047 rfl (by kernel_rfl) rfl (GY_none rfl) (P_mul rfl rfl (by omega)) rfl (fun _ _ _ _ h => h) ?_
  refine AJ_takeP 11 4095 rfl (by kernel_rfl) rfl (GY_none rfl) (P_move rfl) rfl (fun _ _ _ _ h => h) ?_
  refine AJ_takeP 12 8191 rfl (by kernel_rfl) rfl (GY_none rfl) (P_fieldAddr rfl ⟨_, _, _, Try.runUnderlying76, rfl, rfl, Try.sizeOf3, rfl⟩) rfl (fun _ _ _ _ h => h) ?_
  refine AJ_takeV 13 16383 rfl (by kernel_rfl) rfl (by kernel_rfl) (by kernel_rfl) (GY_none rfl) (Ent.take del0 Ent.refl) (V_load rfl foc0 rfl Try.isAgg3) rfl (fun _ _ _ _ h => h) ?_
  refine AJ_takeP 14 32767 rfl (by kernel_rfl) rfl (GY_none rfl) (P_rem rfl rfl (by omega)) rfl (fun _ _ _ _ h => h) ?_
  refine AJ_takeP 15 65535 rfl (by kernel_rfl) rfl (GY_none rfl) (P_add rfl rfl (by omega)) rfl (fun _ _ _ _ h => h) ?_
  refine AJ_takeP 16 131071 rfl (by kernel_rfl) rfl (GY_none rfl) (P_assign rfl) rfl (fun _ _ _ _ h => h) ?_
  refine AJ_takeP 17 262143 rfl (by kernel_rfl) rfl (GY_none rfl) (P_assign rfl) rfl (fun _ _ _ _ h => h) ?_
  refine AJ_done (by kernel_rfl) ?_
  refine QJ_then ?_
  refine CJ_ret ?_
  refine QJ_end (res2 Try.results45 rfl rfl) ?_
  refine CSpec.close () ?_ ?_ (Ent.drop Ent.refl)
  · rfl
  · trivial

theorem c_Place {W : World} {c n p : Int} :
    CSpec Try.prog W 13 [.int .i64 c, .int .i64 n, .int .i64 p] [] (fun _ : Unit => .tuple #[.int .i64 (pl1 c n p), .int .i64 (pl2 c n p), .int .i64 (pl3 c n p)]) (fun _ => True) (fun _ F => F) := by
  refine CSpec.of_body Try.func13 rfl Try.ntmps13 rfl (fun F => ?_)
  show CJ _ _ _ _ _ _ (F)
  refine CJ_seq ?_
  refine CJ_region ?_
  refine RJ_op rfl (OJ_P (P_assign rfl) rfl ?_)
  refine RJ_op rfl (OJ_P (P_assign rfl) rfl ?_)
  refine RJ_op rfl (OJ_P (P_assign rfl) rfl ?_)
  refine RJ_nil ?_
  refine QJ_then ?_
  refine CJ_seq ?_
  refine CJ_region ?_
  refine RJ_op rfl (OJ_P (P_move rfl) rfl ?_)
  refine RJ_op rfl (OJ_P (P_move rfl) rfl ?_)
  refine RJ_op rfl (OJ_P (P_build rfl (bld_76_0_1 _ _)) rfl ?_)
  refine RJ_op rfl (O_alloc Try.zeroValue76 rfl rfl (fun b1 => ?_))
  refine RJ_op rfl (O_storeN rfl rfl foc0 Try.sizeOf76 rfl rfl rfl ?_)
  refine RJ_nil ?_
  refine QJ_then ?_
  refine CJ_seq ?_
  refine CJ_seq ?_
  refine CJ_region ?_
  refine RJ_op rfl (OJ_V (V_loadN rfl foc0 Try.isAgg76 Try.sizeOf76 rfl rfl) rfl ?_)
  refine RJ_op rfl (OJ_P (P_move rfl) rfl ?_)
  refine RJ_op rfl (O_call (c_valid) rfl Try.call44 Dels.nil rfl (fun _ hc2 => ?_))
  refine RJ_op rfl (OJ_P (P_not rfl) rfl ?_)
  refine RJ_nil ?_
  refine QJ_then ?_
  first | (refine CJ_condD rfl (fun hg1 => ?_) (fun hg1 => ?_)) | (refine CJ_condN rfl (fun hg1 => ?_) (fun hg1 => ?_)) | (refine CJ_cond rfl (fun hg1 => ?_) (fun hg1 => ?_))
  ·
    refine CJ_seq ?_
    refine CJ_region ?_
    refine RJ_op rfl (OJ_P (P_assign rfl) rfl ?_)
    refine RJ_op rfl (OJ_P (P_assign rfl) rfl ?_)
    refine RJ_op rfl (OJ_P (P_assign rfl) rfl ?_)
    refine RJ_nil ?_
    refine QJ_then ?_
    refine CJ_ret ?_
    refine QJ_then_ret ?_
    refine QJ_end (res3 Try.results13 rfl rfl rfl) ?_
    refine CSpec.close () ?_ ?_ (Ent.drop Ent.refl)
    · first | exact tup3 (if_pos ‹_›).symm (if_pos ‹_›).symm (if_pos ‹_›).symm | exact tup3 (if_neg ‹_›).symm (if_neg ‹_›).symm (if_neg ‹_›).symm
    · trivial
  ·
    refine CJ_skip ?_
    refine QJ_then ?_
    refine CJ_seq ?_
    refine CJ_region ?_
    refine RJ_op rfl (OJ_V (V_loadN rfl foc0 Try.isAgg76 Try.sizeOf76 rfl rfl) rfl ?_)
    refine RJ_op rfl (OJ_P (P_move rfl) rfl ?_)
    refine RJ_op rfl (O_call (c_place (by assumption)) rfl Try.call45 Dels.nil rfl (fun _ hc3 => ?_))
    refine RJ_op rfl (OJ_P (P_move rfl) rfl ?_)
    refine RJ_op rfl (OJ_P (P_extract rfl rfl) rfl ?_)
    refine RJ_op rfl (OJ_P (P_extract rfl rfl) rfl ?_)
    refine RJ_op rfl (OJ_P (P_assign rfl) rfl ?_)
    refine RJ_op rfl (OJ_P (P_assign rfl) rfl ?_)
    refine RJ_nil ?_
    refine QJ_then ?_
    refine CJ_seq ?_
    refine CJ_region ?_
    refine RJ_op rfl (OJ_P (P_move rfl) rfl ?_)
    refine RJ_op rfl (OJ_P (P_move rfl) rfl ?_)
    refine RJ_op rfl (OJ_P (P_assign rfl) rfl ?_)
    refine RJ_op rfl (OJ_P (P_assign rfl) rfl ?_)
    refine RJ_op rfl (OJ_P (P_assign rfl) rfl ?_)
    refine RJ_nil ?_
    refine QJ_then ?_
    refine CJ_ret ?_
    refine QJ_end (res3 Try.results13 rfl rfl rfl) ?_
    refine CSpec.close () ?_ ?_ (Ent.drop Ent.refl)
    · first | exact tup3 (if_pos ‹_›).symm (if_pos ‹_›).symm (if_pos ‹_›).symm | exact tup3 (if_neg ‹_›).symm (if_neg ‹_›).symm (if_neg ‹_›).symm
    · trivial

theorem c_rPlace {W : World} {c n p : Int} :
    CSpec Try.prog W 15 [.int .i64 c, .int .i64 n, .int .i64 p] [] (fun _ : Unit => .tuple #[.int .i64 (pl1 c n p), .int .i64 (pl2 c n p), .int .i64 (pl3 c n p)]) (fun _ => True) (fun _ F => F) := by
  refine CSpec.of_body Try.func15 rfl Try.ntmps15 rfl (fun F => ?_)
  show CJ _ _ _ _ _ _ (F)
  refine CJ_seq ?_
  refine CJ_region ?_
  refine RJ_op rfl (OJ_P (P_assign rfl) rfl ?_)
  refine RJ_op rfl (OJ_P (P_assign rfl) rfl ?_)
  refine RJ_op rfl (OJ_P (P_assign rfl) rfl ?_)
  refine RJ_nil ?_
  refine QJ_then ?_
  refine CJ_seq ?_
  refine CJ_seq ?_
  refine CJ_region ?_
  refine RJ_op rfl (OJ_P (P_move rfl) rfl ?_)
  refine RJ_op rfl (OJ_P (P_lss rfl rfl) rfl ?_)
  refine RJ_op rfl (OJ_P (P_move rfl) rfl ?_)
  first | (refine RJ_splitD 12 rfl (fun hg1B hg1 => ?_) (fun hg1B hg1 => ?_)) | (refine RJ_splitN 12 rfl (fun hg1B hg1 => ?_) (fun hg1B hg1 => ?_)) | (refine RJ_split 12 rfl (fun hg1B => ?_) (fun hg1B => ?_))
  ·
    refine RJ_gn (GY_no rfl rfl rfl hg1B) rfl rfl ?_
    refine RJ_gn (GY_no rfl rfl rfl hg1B) rfl rfl ?_
    refine RJ_op rfl (OJ_P (P_pickT rfl hg1B rfl) rfl ?_)
    refine RJ_op rfl (OJ_P (P_move rfl) rfl ?_)
    refine RJ_gn (GY_no rfl rfl rfl rfl) rfl rfl ?_
    refine RJ_gn (GY_no rfl rfl rfl rfl) rfl rfl ?_
    refine RJ_op rfl (OJ_P (P_pickT rfl rfl rfl) rfl ?_)
    refine RJ_op rfl (OJ_P (P_move rfl) rfl ?_)
    refine RJ_gn (GY_no rfl rfl rfl rfl) rfl rfl ?_
    refine RJ_gn (GY_no rfl rfl rfl rfl) rfl rfl ?_
    refine RJ_op rfl (OJ_P (P_pickT rfl rfl rfl) rfl ?_)
    refine RJ_op rfl (OJ_P (P_move rfl) rfl ?_)
    refine RJ_gn (GY_no rfl rfl rfl rfl) rfl rfl ?_
    refine RJ_gn (GY_no rfl rfl rfl rfl) rfl rfl ?_
    refine RJ_op rfl (OJ_P (P_pickT rfl rfl rfl) rfl ?_)
    refine RJ_op rfl (OJ_P (P_move rfl) rfl ?_)
    refine RJ_gn (GY_no rfl rfl rfl rfl) rfl rfl ?_
    refine RJ_gn (GY_no rfl rfl rfl rfl) rfl rfl ?_
    refine RJ_op rfl (OJ_P (P_pickT rfl rfl rfl) rfl ?_)
    refine RJ_nil ?_
    refine QJ_then ?_
    refine CJ_condT rfl rfl ?_
    refine CJ_seq ?_
    refine CJ_region ?_
    refine RJ_op rfl (OJ_P (P_assign rfl) rfl ?_)
    refine RJ_op rfl (OJ_P (P_assign rfl) rfl ?_)
    refine RJ_op rfl (OJ_P (P_assign rfl) rfl ?_)
    refine RJ_nil ?_
    refine QJ_then ?_
    refine CJ_ret ?_
    refine QJ_then_ret ?_
    refine QJ_end (res3 Try.results15 rfl rfl rfl) ?_
    refine CSpec.close () ?_ ?_ Ent.refl
    ·
      have hV : ¬ PlV c n p := fun h => by unfold PlV at h; omega
      exact tup3 (if_neg hV).symm (if_neg hV).symm (if_neg hV).symm
    · trivial
  ·
    refine RJ_gy (GY_yes rfl rfl rfl hg1B) (OJ_P (P_move rfl) rfl ?_)
    refine RJ_gy (GY_yes rfl rfl rfl hg1B) (OJ_P (P_gtr rfl rfl) rfl ?_)
    refine RJ_op rfl (OJ_P (P_pickF rfl hg1B rfl) rfl ?_)
    refine RJ_op rfl (OJ_P (P_move rfl) rfl ?_)
    first | (refine RJ_splitD 16 rfl (fun hg2B hg2 => ?_) (fun hg2B hg2 => ?_)) | (refine RJ_splitN 16 rfl (fun hg2B hg2 => ?_) (fun hg2B hg2 => ?_)) | (refine RJ_split 16 rfl (fun hg2B => ?_) (fun hg2B => ?_))
    ·
      refine RJ_gn (GY_no rfl rfl rfl hg2B) rfl rfl ?_
      refine RJ_gn (GY_no rfl rfl rfl hg2B) rfl rfl ?_
      refine RJ_op rfl (OJ_P (P_pickT rfl hg2B rfl) rfl ?_)
      refine RJ_op rfl (OJ_P (P_move rfl) rfl ?_)
      refine RJ_gn (GY_no rfl rfl rfl rfl) rfl rfl ?_
      refine RJ_gn (GY_no rfl rfl rfl rfl) rfl rfl ?_
      refine RJ_op rfl (OJ_P (P_pickT rfl rfl rfl) rfl ?_)
      refine RJ_op rfl (OJ_P (P_move rfl) rfl ?_)
      refine RJ_gn (GY_no rfl rfl rfl rfl) rfl rfl ?_
      refine RJ_gn (GY_no rfl rfl rfl rfl) rfl rfl ?_
      refine RJ_op rfl (OJ_P (P_pickT rfl rfl rfl) rfl ?_)
      refine RJ_op rfl (OJ_P (P_move rfl) rfl ?_)
      refine RJ_gn (GY_no rfl rfl rfl rfl) rfl rfl ?_
      refine RJ_gn (GY_no rfl rfl rfl rfl) rfl rfl ?_
      refine RJ_op rfl (OJ_P (P_pickT rfl rfl rfl) rfl ?_)
      refine RJ_nil ?_
      refine QJ_then ?_
      refine CJ_condT rfl rfl ?_
      refine CJ_seq ?_
      refine CJ_region ?_
      refine RJ_op rfl (OJ_P (P_assign rfl) rfl ?_)
      refine RJ_op rfl (OJ_P (P_assign rfl) rfl ?_)
      refine RJ_op rfl (OJ_P (P_assign rfl) rfl ?_)
      refine RJ_nil ?_
      refine QJ_then ?_
      refine CJ_ret ?_
      refine QJ_then_ret ?_
      refine QJ_end (res3 Try.results15 rfl rfl rfl) ?_
      refine CSpec.close () ?_ ?_ Ent.refl
      ·
        have hV : ¬ PlV c n p := fun h => by unfold PlV at h; omega
        exact tup3 (if_neg hV).symm (if_neg hV).symm (if_neg hV).symm
      · trivial
    ·
      refine RJ_gy (GY_yes rfl rfl rfl hg2B) (OJ_P (P_move rfl) rfl ?_)
      refine RJ_gy (GY_yes rfl rfl rfl hg2B) (OJ_P (P_lss rfl rfl) rfl ?_)
      refine RJ_op rfl (OJ_P (P_pickF rfl hg2B rfl) rfl ?_)
      refine RJ_op rfl (OJ_P (P_move rfl) rfl ?_)
      first | (refine RJ_splitD 20 rfl (fun hg3B hg3 => ?_) (fun hg3B hg3 => ?_)) | (refine RJ_splitN 20 rfl (fun hg3B hg3 => ?_) (fun hg3B hg3 => ?_)) | (refine RJ_split 20 rfl (fun hg3B => ?_) (fun hg3B => ?_))
      ·
        refine RJ_gn (GY_no rfl rfl rfl hg3B) rfl rfl ?_
        refine RJ_gn (GY_no rfl rfl rfl hg3B) rfl rfl ?_
        refine RJ_op rfl (OJ_P (P_pickT rfl hg3B rfl) rfl ?_)
        refine RJ_op rfl (OJ_P (P_move rfl) rfl ?_)
        refine RJ_gn (GY_no rfl rfl rfl rfl) rfl rfl ?_
        refine RJ_gn (GY_no rfl rfl rfl rfl) rfl rfl ?_
        refine RJ_op rfl (OJ_P (P_pickT rfl rfl rfl) rfl ?_)
        refine RJ_op rfl (OJ_P (P_move rfl) rfl ?_)
        refine RJ_gn (GY_no rfl rfl rfl rfl) rfl rfl ?_
        refine RJ_gn (GY_no rfl rfl rfl rfl) rfl rfl ?_
        refine RJ_op rfl (OJ_P (P_pickT rfl rfl rfl) rfl ?_)
        refine RJ_nil ?_
        refine QJ_then ?_
        refine CJ_condT rfl rfl ?_
        refine CJ_seq ?_
        refine CJ_region ?_
        refine RJ_op rfl (OJ_P (P_assign rfl) rfl ?_)
        refine RJ_op rfl (OJ_P (P_assign rfl) rfl ?_)
        refine RJ_op rfl (OJ_P (P_assign rfl) rfl ?_)
        refine RJ_nil ?_
        refine QJ_then ?_
        refine CJ_ret ?_
        refine QJ_then_ret ?_
        refine QJ_end (res3 Try.results15 rfl rfl rfl) ?_
        refine CSpec.close () ?_ ?_ Ent.refl
        ·
          have hV : ¬ PlV c n p := fun h => by unfold PlV at h; omega
          exact tup3 (if_neg hV).symm (if_neg hV).symm (if_neg hV).symm
        · trivial
      ·
        refine RJ_gy (GY_yes rfl rfl rfl hg3B) (OJ_P (P_move rfl) rfl ?_)
        refine RJ_gy (GY_yes rfl rfl rfl hg3B) (OJ_P (P_gtr rfl rfl) rfl ?_)
        refine RJ_op rfl (OJ_P (P_pickF rfl hg3B rfl) rfl ?_)
        refine RJ_op rfl (OJ_P (P_move rfl) rfl ?_)
        first | (refine RJ_splitD 24 rfl (fun hg4B hg4 => ?_) (fun hg4B hg4 => ?_)) | (refine RJ_splitN 24 rfl (fun hg4B hg4 => ?_) (fun hg4B hg4 => ?_)) | (refine RJ_split 24 rfl (fun hg4B => ?_) (fun hg4B => ?_))
        ·
          refine RJ_gn (GY_no rfl rfl rfl hg4B) rfl rfl ?_
          refine RJ_gn (GY_no rfl rfl rfl hg4B) rfl rfl ?_
          refine RJ_op rfl (OJ_P (P_pickT rfl hg4B rfl) rfl ?_)
          refine RJ_op rfl (OJ_P (P_move rfl) rfl ?_)
          refine RJ_gn (GY_no rfl rfl rfl rfl) rfl rfl ?_
          refine RJ_gn (GY_no rfl rfl rfl rfl) rfl rfl ?_
          refine RJ_op rfl (OJ_P (P_pickT rfl rfl rfl) rfl ?_)
          refine RJ_nil ?_
          refine QJ_then ?_
          refine CJ_condT rfl rfl ?_
          refine CJ_seq ?_
          refine CJ_region ?_
          refine RJ_op rfl (OJ_P (P_assign rfl) rfl ?_)
          refine RJ_op rfl (OJ_P (P_assign rfl) rfl ?_)
          refine RJ_op rfl (OJ_P (P_assign rfl) rfl ?_)
          refine RJ_nil ?_
          refine QJ_then ?_
          refine CJ_ret ?_
          refine QJ_then_ret ?_
          refine QJ_end (res3 Try.results15 rfl rfl rfl) ?_
          refine CSpec.close () ?_ ?_ Ent.refl
          ·
            have hV : ¬ PlV c n p := fun h => by unfold PlV at h; omega
            exact tup3 (if_neg hV).symm (if_neg hV).symm (if_neg hV).symm
          · trivial
        ·
          refine RJ_gy (GY_yes rfl rfl rfl hg4B) (OJ_P (P_move rfl) rfl ?_)
          refine RJ_gy (GY_yes rfl rfl rfl hg4B) (OJ_P (P_lss rfl rfl) rfl ?_)
          refine RJ_op rfl (OJ_P (P_pickF rfl hg4B rfl) rfl ?_)
          refine RJ_op rfl (OJ_P (P_move rfl) rfl ?_)
          first | (refine RJ_splitD 28 rfl (fun hg5B hg5 => ?_) (fun hg5B hg5 => ?_)) | (refine RJ_splitN 28 rfl (fun hg5B hg5 => ?_) (fun hg5B hg5 => ?_)) | (refine RJ_split 28 rfl (fun hg5B => ?_) (fun hg5B => ?_))
          ·
            refine RJ_gn (GY_no rfl rfl rfl hg5B) rfl rfl ?_
            refine RJ_gn (GY_no rfl rfl rfl hg5B) rfl rfl ?_
            refine RJ_op rfl (OJ_P (P_pickT rfl hg5B rfl) rfl ?_)
            refine RJ_nil ?_
            refine QJ_then ?_
            refine CJ_condT rfl rfl ?_
            refine CJ_seq ?_
            refine CJ_region ?_
            refine RJ_op rfl (OJ_P (P_assign rfl) rfl ?_)
            refine RJ_op rfl (OJ_P (P_assign rfl) rfl ?_)
            refine RJ_op rfl (OJ_P (P_assign rfl) rfl ?_)
            refine RJ_nil ?_
            refine QJ_then ?_
            refine CJ_ret ?_
            refine QJ_then_ret ?_
            refine QJ_end (res3 Try.results15 rfl rfl rfl) ?_
            refine CSpec.close () ?_ ?_ Ent.refl
            ·
              have hV : ¬ PlV c n p := fun h => by unfold PlV at h; omega
              exact tup3 (if_neg hV).symm (if_neg hV).symm (if_neg hV).symm
            · trivial
          ·
            refine RJ_gy (GY_yes rfl rfl rfl hg5B) (OJ_P (P_move rfl) rfl ?_)
            refine RJ_gy (GY_yes rfl rfl rfl hg5B) (OJ_P (P_gtr rfl rfl) rfl ?_)
            refine RJ_op rfl (OJ_P (P_pickF rfl hg5B rfl) rfl ?_)
            refine RJ_nil ?_
            refine QJ_then ?_
            first | (refine CJ_condD rfl (fun hg6 => ?_) (fun hg6 => ?_)) | (refine CJ_condN rfl (fun hg6 => ?_) (fun hg6 => ?_)) | (refine CJ_cond rfl (fun hg6 => ?_) (fun hg6 => ?_))
            ·
              refine CJ_seq ?_
              refine CJ_region ?_
              refine RJ_op rfl (OJ_P (P_assign rfl) rfl ?_)
              refine RJ_op rfl (OJ_P (P_assign rfl) rfl ?_)
              refine RJ_op rfl (OJ_P (P_assign rfl) rfl ?_)
              refine RJ_nil ?_
              refine QJ_then ?_
              refine CJ_ret ?_
              refine QJ_then_ret ?_
              refine QJ_end (res3 Try.results15 rfl rfl rfl) ?_
              refine CSpec.close () ?_ ?_ Ent.refl
              ·
                have hV : ¬ PlV c n p := fun h => by unfold PlV at h; omega
                exact tup3 (if_neg hV).symm (if_neg hV).symm (if_neg hV).symm
              · trivial
            ·
              have hV : PlV c n p := ⟨by omega, by omega, by omega, by omega, by omega, by omega⟩
              obtain ⟨e1, e2, e3, e4, e5, e6, e7, e8⟩ := pl_facts hV
              refine CJ_skip ?_
              refine QJ_then ?_
              refine CJ_seq ?_
              refine CJ_region ?_
              refine RJ_op rfl (OJ_P (P_move rfl) rfl ?_)
              refine RJ_op rfl (OJ_P (P_move rfl) rfl ?_)
              refine RJ_op rfl (OJ_P (P_quo rfl rfl (by omega)) rfl ?_)
              refine RJ_op rfl (OJ_P (P_assign rfl) rfl ?_)
              refine RJ_nil ?_
              refine QJ_then ?_
              refine CJ_seq ?_
              refine AJ_startH 0 (by kernel_rfl) rfl ?_
              refine AJ_takeP 0 1 rfl (by kernel_rfl) rfl (GY_none rfl) (P_move rfl) rfl (fun _ _ _ _ h => h) ?_
              refine AJ_takeP 1 3 rfl (by kernel_rfl) rfl (GY_none rfl) (P_move rfl) rfl (fun _ _ _ _ h => h) ?_
              refine AJ_takeP 2 7 rfl (by kernel_rfl) rfl (GY_none rfl) (P_rem rfl rfl (by omega)) rfl (fun _ _ _ _ h => h) ?_
              refine AJ_takeP 3 15 rfl (by kernel_rfl) rfl (GY_none rfl) (P_move rfl) rfl (fun _ _ _ _ h => h) ?_
              refine AJ_takeP 4 31 rfl (by kernel_rfl) rfl (GY_none rfl) (P_move rfl) rfl (fun _ _ _ _ h => h) ?_
              refine AJ_takeP 5 63 rfl (by kernel_rfl) rfl (GY_none rfl) (P_quo rfl rfl (by omega)) rfl (fun _ _ _ _ h => h) ?_
              refine AJ_takeP 6 127 rfl (by kernel_rfl) rfl (GY_none rfl) (P_move rfl) rfl (fun _ _ _ _ h => h) ?_
              refine AJ_takeP 7 255 rfl (by kernel_rfl) rfl (GY_none rfl) (P_mul rfl rfl (by omega)) rfl (fun _ _ _ _ h => h) ?_
              refine AJ_takeP 8 511 rfl (by kernel_rfl) rfl (GY_none rfl) (P_move rfl) rfl (fun _ _ _ _ h => h) ?_
              refine AJ_takeP 9 1023 rfl (by kernel_rfl) rfl (GY_none rfl) (P_move rfl) rfl (fun _ _ _ _ h => h) ?_
              refine AJ_takeP 10 2047 rfl (by kernel_rfl) rfl (GY_none rfl) (P_rem rfl rfl (by omega)) rfl (fun _ _ _ _ h => h) ?_
              refine AJ_takeP 11 4095 rfl (by kernel_rfl) rfl (GY_none rfl) (P_add rfl rfl (by omega)) rfl (fun _ _ _ _ h => h) ?_
              refine AJ_takeP 12 8191 rfl (by kernel_rfl) rfl (GY_none rfl) (P_assign rfl) rfl (fun _ _ _ _ h => h) ?_
              refine AJ_takeP 13 16383 rfl (by kernel_rfl) rfl (GY_none rfl) (P_assign rfl) rfl (fun _ _ _ _ h => h) ?_
              refine AJ_takeP 14 32767 rfl (by kernel_rfl) rfl (GY_none rfl) (P_assign rfl) rfl (fun _ _ _ _ h => h) ?_
              refine AJ_done (by kernel_rfl) ?_
              refine QJ_then ?_
              refine CJ_ret ?_
              refine QJ_end (res3 Try.results15 rfl rfl rfl) ?_
              refine CSpec.close () ?_ ?_ Ent.refl
              · exact tup3 (if_pos hV).symm (if_pos hV).symm (if_pos hV).symm
              · trivial

theorem c_Back {W : World} {c n l p : Int} :
    CSpec Try.prog W 16 [.int .i64 c, .int .i64 n, .int .i64 l, .int .i64 p] [] (fun _ : Unit => .tuple #[.int .i64 (bk1 c n l p), .int .i64 (bk2 c n l p)]) (fun _ => True) (fun _ F => F) := by
  refine CSpec.of_body Try.func16 rfl Try.ntmps16 rfl (fun F => ?_)
  show CJ _ _ _ _ _ _ (F)
  refine CJ_seq ?_
  refine CJ_region ?_
  refine RJ_op rfl (OJ_P (P_assign rfl) rfl ?_)
  refine RJ_op rfl (OJ_P (P_assign rfl) rfl ?_)
  refine RJ_nil ?_
  refine QJ_then ?_
  refine CJ_seq ?_
  refine CJ_region ?_
  refine RJ_op rfl (OJ_P (P_move rfl) rfl ?_)
  refine RJ_op rfl (OJ_P (P_move rfl) rfl ?_)
  refine RJ_op rfl (OJ_P (P_build rfl (bld_76_0_1 _ _)) rfl ?_)
  refine RJ_op rfl (O_alloc Try.zeroValue76 rfl rfl (fun b1 => ?_))
  refine RJ_op rfl (O_storeN rfl rfl foc0 Try.sizeOf76 rfl rfl rfl ?_)
  refine RJ_nil ?_
  refine QJ_then ?_
  refine CJ_seq ?_
  refine CJ_seq ?_
  refine CJ_region ?_
  refine RJ_op rfl (OJ_V (V_loadN rfl foc0 Try.isAgg76 Try.sizeOf76 rfl rfl) rfl ?_)
  refine RJ_op rfl (OJ_P (P_move rfl) rfl ?_)
  refine RJ_op rfl (O_call (c_valid) rfl Try.call44 Dels.nil rfl (fun _ hc2 => ?_))
  refine RJ_op rfl (OJ_P (P_not rfl) rfl ?_)
  refine RJ_op rfl (OJ_P (P_move rfl) rfl ?_)
  first | (refine RJ_splitD 18 rfl (fun hg1B hg1 => ?_) (fun hg1B hg1 => ?_)) | (refine RJ_splitN 18 rfl (fun hg1B hg1 => ?_) (fun hg1B hg1 => ?_)) | (refine RJ_split 18 rfl (fun hg1B => ?_) (fun hg1B => ?_))
  ·
    refine RJ_gn (GY_no rfl rfl rfl hg1B) rfl rfl ?_
    refine RJ_gn (GY_no rfl rfl rfl hg1B) rfl rfl ?_
    refine RJ_op rfl (OJ_P (P_pickT rfl hg1B rfl) rfl ?_)
    refine RJ_op rfl (OJ_P (P_move rfl) rfl ?_)
    refine RJ_gn (GY_no rfl rfl rfl rfl) rfl rfl ?_
    refine RJ_gn (GY_no rfl rfl rfl rfl) rfl rfl ?_
    refine RJ_gn (GY_no rfl rfl rfl rfl) rfl rfl ?_
    refine RJ_op rfl (OJ_P (P_pickT rfl rfl rfl) rfl ?_)
    refine RJ_nil ?_
    refine QJ_then ?_
    refine CJ_condT rfl rfl ?_
    refine CJ_seq ?_
    refine CJ_region ?_
    refine RJ_op rfl (OJ_P (P_assign rfl) rfl ?_)
    refine RJ_op rfl (OJ_P (P_assign rfl) rfl ?_)
    refine RJ_nil ?_
    refine QJ_then ?_
    refine CJ_ret ?_
    refine QJ_then_ret ?_
    refine QJ_end (res2 Try.results16 rfl rfl) ?_
    refine CSpec.close () ?_ ?_ (Ent.drop Ent.refl)
    ·
      have hV : ¬ BkV c n l p := fun h => by first | exact absurd h.1 ‹_› | (have := h.2; omega)
      exact tup2 (if_neg hV).symm (if_neg hV).symm
    · trivial
  ·
    refine RJ_gy (GY_yes rfl rfl rfl hg1B) (OJ_P (P_move rfl) rfl ?_)
    refine RJ_gy (GY_yes rfl rfl rfl hg1B) (OJ_P (P_lss rfl rfl) rfl ?_)
    refine RJ_op rfl (OJ_P (P_pickF rfl hg1B rfl) rfl ?_)
    refine RJ_op rfl (OJ_P (P_move rfl) rfl ?_)
    first | (refine RJ_splitD 22 rfl (fun hg2B hg2 => ?_) (fun hg2B hg2 => ?_)) | (refine RJ_splitN 22 rfl (fun hg2B hg2 => ?_) (fun hg2B hg2 => ?_)) | (refine RJ_split 22 rfl (fun hg2B => ?_) (fun hg2B => ?_))
    ·
      refine RJ_gn (GY_no rfl rfl rfl hg2B) rfl rfl ?_
      refine RJ_gn (GY_no rfl rfl rfl hg2B) rfl rfl ?_
      refine RJ_gn (GY_no rfl rfl rfl hg2B) rfl rfl ?_
      refine RJ_op rfl (OJ_P (P_pickT rfl hg2B rfl) rfl ?_)
      refine RJ_nil ?_
      refine QJ_then ?_
      refine CJ_condT rfl rfl ?_
      refine CJ_seq ?_
      refine CJ_region ?_
      refine RJ_op rfl (OJ_P (P_assign rfl) rfl ?_)
      refine RJ_op rfl (OJ_P (P_assign rfl) rfl ?_)
      refine RJ_nil ?_
      refine QJ_then ?_
      refine CJ_ret ?_
      refine QJ_then_ret ?_
      refine QJ_end (res2 Try.results16 rfl rfl) ?_
      refine CSpec.close () ?_ ?_ (Ent.drop Ent.refl)
      ·
        have hV : ¬ BkV c n l p := fun h => by first | exact absurd h.1 ‹_› | (have := h.2; omega)
        exact tup2 (if_neg hV).symm (if_neg hV).symm
      · trivial
    ·
      refine RJ_gy (GY_yes rfl rfl rfl hg2B) (OJ_P (P_move rfl) rfl ?_)
      refine RJ_gy (GY_yes rfl rfl rfl hg2B) (OJ_P (P_move rfl) rfl ?_)
      refine RJ_gy (GY_yes rfl rfl rfl hg2B) (OJ_P (P_geq rfl rfl) rfl ?_)
      refine RJ_op rfl (OJ_P (P_pickF rfl hg2B rfl) rfl ?_)
      refine RJ_nil ?_
      refine QJ_then ?_
      first | (refine CJ_condD rfl (fun hg3 => ?_) (fun hg3 => ?_)) | (refine CJ_condN rfl (fun hg3 => ?_) (fun hg3 => ?_)) | (refine CJ_cond rfl (fun hg3 => ?_) (fun hg3 => ?_))
      ·
        refine CJ_seq ?_
        refine CJ_region ?_
        refine RJ_op rfl (OJ_P (P_assign rfl) rfl ?_)
        refine RJ_op rfl (OJ_P (P_assign rfl) rfl ?_)
        refine RJ_nil ?_
        refine QJ_then ?_
        refine CJ_ret ?_
        refine QJ_then_ret ?_
        refine QJ_end (res2 Try.results16 rfl rfl) ?_
        refine CSpec.close () ?_ ?_ (Ent.drop Ent.refl)
        ·
          have hV : ¬ BkV c n l p := fun h => by first | exact absurd h.1 ‹_› | (have := h.2; omega)
          exact tup2 (if_neg hV).symm (if_neg hV).symm
        · trivial
      ·
        have hV : BkV c n l p := ⟨‹_›, by omega, by omega⟩
        obtain ⟨e1, e2, e3, e4, e5, e6, e7, e8, e9⟩ := bk_facts hV
        have hV2 := hV
        obtain ⟨⟨h1, h2, h3, h4, h5, h6⟩, h7, h8⟩ := hV2
        refine CJ_skip ?_
        refine QJ_then ?_
        refine CJ_seq ?_
        refine AJ_startH 0 (by kernel_rfl) rfl ?_
        refine AJ_takeP 0 1 rfl (by kernel_rfl) rfl (GY_none rfl) (P_move rfl) rfl (fun _ _ _ _ h => h) ?_
        refine AJ_takeP 1 3 rfl (by kernel_rfl) rfl (GY_none rfl) (P_move rfl) rfl (fun _ _ _ _ h => h) ?_
        refine AJ_takeP 2 7 rfl (by kernel_rfl) rfl (GY_none rfl) (P_quo rfl rfl (by omega)) rfl (fun _ _ _ _ h => h) ?_
        refine AJ_takeP 3 15 rfl (by kernel_rfl) rfl (GY_none rfl) (P_move rfl) rfl (fun _ _ _ _ h => h) ?_
        refine AJ_takeP 4 31 rfl (by kernel_rfl) rfl (GY_none rfl) (P_mul rfl rfl (by omega)) rfl (fun _ _ _ _ h => h) ?_
        refine AJ_takeP 5 63 rfl (by kernel_rfl) rfl (GY_none rfl) (P_move rfl) rfl (fun _ _ _ _ h => h) ?_
        refine AJ_takeP 6 127 rfl (by kernel_rfl) rfl (GY_none rfl) (P_add rfl rfl (by omega)) rfl (fun _ _ _ _ h => h) ?_
        refine AJ_takeP 7 255 rfl (by kernel_rfl) rfl (GY_none rfl) (P_move rfl) rfl (fun _ _ _ _ h => h) ?_
        refine AJ_takeP 8 511 rfl (by kernel_rfl) rfl (GY_none rfl) (P_mul rfl rfl (by omega)) rfl (fun _ _ _ _ h => h) ?_
        refine AJ_takeP 9 1023 rfl (by kernel_rfl) rfl (GY_none rfl) (P_move rfl) rfl (fun _ _ _ _ h => h) ?_
        refine AJ_takeP 10 2047 rfl (by kernel_rfl) rfl (GY_none rfl) (P_move rfl) rfl (fun _ _ _ _ h => h) ?_
        refine AJ_takeP 11 4095 rfl (by kernel_rfl) rfl (GY_none rfl) (P_rem rfl rfl (by omega)) rfl (fun _ _ _ _ h => h) ?_
        refine AJ_takeP 12 8191 rfl (by kernel_rfl) rfl (GY_none rfl) (P_add rfl rfl (by omega)) rfl (fun _ _ _ _ h => h) ?_
        refine AJ_takeP 13 16383 rfl (by kernel_rfl) rfl (GY_none rfl) (P_assign rfl) rfl (fun _ _ _ _ h => h) ?_
        refine AJ_takeP 14 32767 rfl (by kernel_rfl) rfl (GY_none rfl) (P_assign rfl) rfl (fun _ _ _ _ h => h) ?_
        refine AJ_done (by kernel_rfl) ?_
        refine QJ_then ?_
        refine CJ_ret ?_
        refine QJ_end (res2 Try.results16 rfl rfl) ?_
        refine CSpec.close () ?_ ?_ (Ent.drop Ent.refl)
        · exact tup2 (if_pos hV).symm (if_pos hV).symm
        · trivial

theorem c_rBack {W : World} {c n l p : Int} :
    CSpec Try.prog W 17 [.int .i64 c, .int .i64 n, .int .i64 l, .int .i64 p] [] (fun _ : Unit => .tuple #[.int .i64 (bk1 c n l p), .int .i64 (bk2 c n l p)]) (fun _ => True) (fun _ F => F) := by
  refine CSpec.of_body Try.func17 rfl Try.ntmps17 rfl (fun F => ?_)
  show CJ _ _ _ _ _ _ (F)
  refine CJ_seq ?_
  refine CJ_region ?_
  refine RJ_op rfl (OJ_P (P_assign rfl) rfl ?_)
  refine RJ_op rfl (OJ_P (P_assign rfl) rfl ?_)
  refine RJ_nil ?_
  refine QJ_then ?_
  refine CJ_seq ?_
  refine CJ_seq ?_
  refine CJ_region ?_
  refine RJ_op rfl (OJ_P (P_move rfl) rfl ?_)
  refine RJ_op rfl (OJ_P (P_lss rfl rfl) rfl ?_)
  refine RJ_op rfl (OJ_P (P_move rfl) rfl ?_)
  first | (refine RJ_splitD 12 rfl (fun hg1B hg1 => ?_) (fun hg1B hg1 => ?_)) | (refine RJ_splitN 12 rfl (fun hg1B hg1 => ?_) (fun hg1B hg1 => ?_)) | (refine RJ_split 12 rfl (fun hg1B => ?_) (fun hg1B => ?_))
  ·
    refine RJ_gn (GY_no rfl rfl rfl hg1B) rfl rfl ?_
    refine RJ_gn (GY_no rfl rfl rfl hg1B) rfl rfl ?_
    refine RJ_op rfl (OJ_P (P_pickT rfl hg1B rfl) rfl ?_)
    refine RJ_op rfl (OJ_P (P_move rfl) rfl ?_)
    refine RJ_gn (GY_no rfl rfl rfl rfl) rfl rfl ?_
    refine RJ_gn (GY_no rfl rfl rfl rfl) rfl rfl ?_
    refine RJ_op rfl (OJ_P (P_pickT rfl rfl rfl) rfl ?_)
    refine RJ_op rfl (OJ_P (P_move rfl) rfl ?_)
    refine RJ_gn (GY_no rfl rfl rfl rfl) rfl rfl ?_
    refine RJ_gn (GY_no rfl rfl rfl rfl) rfl rfl ?_
    refine RJ_op rfl (OJ_P (P_pickT rfl rfl rfl) rfl ?_)
    refine RJ_op rfl (OJ_P (P_move rfl) rfl ?_)
    refine RJ_gn (GY_no rfl rfl rfl rfl) rfl rfl ?_
    refine RJ_gn (GY_no rfl rfl rfl rfl) rfl rfl ?_
    refine RJ_op rfl (OJ_P (P_pickT rfl rfl rfl) rfl ?_)
    refine RJ_op rfl (OJ_P (P_move rfl) rfl ?_)
    refine RJ_gn (GY_no rfl rfl rfl rfl) rfl rfl ?_
    refine RJ_gn (GY_no rfl rfl rfl rfl) rfl rfl ?_
    refine RJ_op rfl (OJ_P (P_pickT rfl rfl rfl) rfl ?_)
    refine RJ_op rfl (OJ_P (P_move rfl) rfl ?_)
    refine RJ_gn (GY_no rfl rfl rfl rfl) rfl rfl ?_
    refine RJ_gn (GY_no rfl rfl rfl rfl) rfl rfl ?_
    refine RJ_op rfl (OJ_P (P_pickT rfl rfl rfl) rfl ?_)
    refine RJ_op rfl (OJ_P (P_move rfl) rfl ?_)
    refine RJ_gn (GY_no rfl rfl rfl rfl) rfl rfl ?_
    refine RJ_gn (GY_no rfl rfl rfl rfl) rfl rfl ?_
    refine RJ_gn (GY_no rfl rfl rfl rfl) rfl rfl ?_
    refine RJ_op rfl (OJ_P (P_pickT rfl rfl rfl) rfl ?_)
    refine RJ_nil ?_
    refine QJ_then ?_
    refine CJ_condT rfl rfl ?_
    refine CJ_seq ?_
    refine CJ_region ?_
    refine RJ_op rfl (OJ_P (P_assign rfl) rfl ?_)
    refine RJ_op rfl (OJ_P (P_assign rfl) rfl ?_)
    refine RJ_nil ?_
    refine QJ_then ?_
    refine CJ_ret ?_
    refine QJ_then_ret ?_
    refine QJ_end (res2 Try.results17 rfl rfl) ?_
    refine CSpec.close () ?_ ?_ Ent.refl
    ·
      have hV : ¬ BkV c n l p := fun h => by unfold BkV PlV at h; omega
      exact tup2 (if_neg hV).symm (if_neg hV).symm
    · trivial
  ·
    refine RJ_gy (GY_yes rfl rfl rfl hg1B) (OJ_P (P_move rfl) rfl ?_)
    refine RJ_gy (GY_yes rfl rfl rfl hg1B) (OJ_P (P_gtr rfl rfl) rfl ?_)
    refine RJ_op rfl (OJ_P (P_pickF rfl hg1B rfl) rfl ?_)
    refine RJ_op rfl (OJ_P (P_move rfl) rfl ?_)
    first | (refine RJ_splitD 16 rfl (fun hg2B hg2 => ?_) (fun hg2B hg2 => ?_)) | (refine RJ_splitN 16 rfl (fun hg2B hg2 => ?_) (fun hg2B hg2 => ?_)) | (refine RJ_split 16 rfl (fun hg2B => ?_) (fun hg2B => ?_))
    ·
      refine RJ_gn (GY_no rfl rfl rfl hg2B) rfl rfl ?_
      refine RJ_gn (GY_no rfl rfl rfl hg2B) rfl rfl ?_
      refine RJ_op rfl (OJ_P (P_pickT rfl hg2B rfl) rfl ?_)
      refine RJ_op rfl (OJ_P (P_move rfl) rfl ?_)
      refine RJ_gn (GY_no rfl rfl rfl rfl) rfl rfl ?_
      refine RJ_gn (GY_no rfl rfl rfl rfl) rfl rfl ?_
      refine RJ_op rfl (OJ_P (P_pickT rfl rfl rfl) rfl ?_)
      refine RJ_op rfl (OJ_P (P_move rfl) rfl ?_)
      refine RJ_gn (GY_no rfl rfl rfl rfl) rfl rfl ?_
      refine RJ_gn (GY_no rfl rfl rfl rfl) rfl rfl ?_
      refine RJ_op rfl (OJ_P (P_pickT rfl rfl rfl) rfl ?_)
      refine RJ_op rfl (OJ_P (P_move rfl) rfl ?_)
      refine RJ_gn (GY_no rfl rfl rfl rfl) rfl rfl ?_
      refine RJ_gn (GY_no rfl rfl rfl rfl) rfl rfl ?_
      refine RJ_op rfl (OJ_P (P_pickT rfl rfl rfl) rfl ?_)
      refine RJ_op rfl (OJ_P (P_move rfl) rfl ?_)
      refine RJ_gn (GY_no rfl rfl rfl rfl) rfl rfl ?_
      refine RJ_gn (GY_no rfl rfl rfl rfl) rfl rfl ?_
      refine RJ_op rfl (OJ_P (P_pickT rfl rfl rfl) rfl ?_)
      refine RJ_op rfl (OJ_P (P_move rfl) rfl ?_)
      refine RJ_gn (GY_no rfl rfl rfl rfl) rfl rfl ?_
      refine RJ_gn (GY_no rfl rfl rfl rfl) rfl rfl ?_
      refine RJ_gn (GY_no rfl rfl rfl rfl) rfl rfl ?_
      refine RJ_op rfl (OJ_P (P_pickT rfl rfl rfl) rfl ?_)
      refine RJ_nil ?_
      refine QJ_then ?_
      refine CJ_condT rfl rfl ?_
      refine CJ_seq ?_
      refine CJ_region ?_
      refine RJ_op rfl (OJ_P (P_assign rfl) rfl ?_)
      refine RJ_op rfl (OJ_P (P_assign rfl) rfl ?_)
      refine RJ_nil ?_
      refine QJ_then ?_
      refine CJ_ret ?_
      refine QJ_then_ret ?_
      refine QJ_end (res2 Try.results17 rfl rfl) ?_
      refine CSpec.close () ?_ ?_ Ent.refl
      ·
        have hV : ¬ BkV c n l p := fun h => by unfold BkV PlV at h; omega
        exact tup2 (if_neg hV).symm (if_neg hV).symm
      · trivial
    ·
      refine RJ_gy (GY_yes rfl rfl rfl hg2B) (OJ_P (P_move rfl) rfl ?_)
      refine RJ_gy (GY_yes rfl rfl rfl hg2B) (OJ_P (P_lss rfl rfl) rfl ?_)
      refine RJ_op rfl (OJ_P (P_pickF rfl hg2B rfl) rfl ?_)
      refine RJ_op rfl (OJ_P (P_move rfl) rfl ?_)
      first | (refine RJ_splitD 20 rfl (fun hg3B hg3 => ?_) (fun hg3B hg3 => ?_)) | (refine RJ_splitN 20 rfl (fun hg3B hg3 => ?_) (fun hg3B hg3 => ?_)) | (refine RJ_split 20 rfl (fun hg3B => ?_) (fun hg3B => ?_))
      ·
        refine RJ_gn (GY_no rfl rfl rfl hg3B) rfl rfl ?_
        refine RJ_gn (GY_no rfl rfl rfl hg3B) rfl rfl ?_
        refine RJ_op rfl (OJ_P (P_pickT rfl hg3B rfl) rfl ?_)
        refine RJ_op rfl (OJ_P (P_move rfl) rfl ?_)
        refine RJ_gn (GY_no rfl rfl rfl rfl) rfl rfl ?_
        refine RJ_gn (GY_no rfl rfl rfl rfl) rfl rfl ?_
        refine RJ_op rfl (OJ_P (P_pickT rfl rfl rfl) rfl ?_)
        refine RJ_op rfl (OJ_P (P_move rfl) rfl ?_)
        refine RJ_gn (GY_no rfl rfl rfl rfl) rfl rfl ?_
        refine RJ_gn (GY_no rfl rfl rfl rfl) rfl rfl ?_
        refine RJ_op rfl (OJ_P (P_pickT rfl rfl rfl) rfl ?_)
        refine RJ_op rfl (OJ_P (P_move rfl) rfl ?_)
        refine RJ_gn (GY_no rfl rfl rfl rfl) rfl rfl ?_
        refine RJ_gn (GY_no rfl rfl rfl rfl) rfl rfl ?_
        refine RJ_op rfl (OJ_P (P_pickT rfl rfl rfl) rfl ?_)
        refine RJ_op rfl (OJ_P (P_move rfl) rfl ?_)
        refine RJ_gn (GY_no rfl rfl rfl rfl) rfl rfl ?_
        refine RJ_gn (GY_no rfl rfl rfl rfl) rfl rfl ?_
        refine RJ_gn (GY_no rfl rfl rfl rfl) rfl rfl ?_
        refine RJ_op rfl (OJ_P (P_pickT rfl rfl rfl) rfl ?_)
        refine RJ_nil ?_
        refine QJ_then ?_
        refine CJ_condT rfl rfl ?_
        refine CJ_seq ?_
        refine CJ_region ?_
        refine RJ_op rfl (OJ_P (P_assign rfl) rfl ?_)
        refine RJ_op rfl (OJ_P (P_assign rfl) rfl ?_)
        refine RJ_nil ?_
        refine QJ_then ?_
        refine CJ_ret ?_
        refine QJ_then_ret ?_
        refine QJ_end (res2 Try.results17 rfl rfl) ?_
        refine CSpec.close () ?_ ?_ Ent.refl
        ·
          have hV : ¬ BkV c n l p := fun h => by unfold BkV PlV at h; omega
          exact tup2 (if_neg hV).symm (if_neg hV).symm
        · trivial
      ·
        refine RJ_gy (GY_yes rfl rfl rfl hg3B) (OJ_P (P_move rfl) rfl ?_)
        refine RJ_gy (GY_yes rfl rfl rfl hg3B) (OJ_P (P_gtr rfl rfl) rfl ?_)
        refine RJ_op rfl (OJ_P (P_pickF rfl hg3B rfl) rfl ?_)
        refine RJ_op rfl (OJ_P (P_move rfl) rfl ?_)
        first | (refine RJ_splitD 24 rfl (fun hg4B hg4 => ?_) (fun hg4B hg4 => ?_)) | (refine RJ_splitN 24 rfl (fun hg4B hg4 => ?_) (fun hg4B hg4 => ?_)) | (refine RJ_split 24 rfl (fun hg4B => ?_) (fun hg4B => ?_))
        ·
          refine RJ_gn (GY_no rfl rfl rfl hg4B) rfl rfl ?_
          refine RJ_gn (GY_no rfl rfl rfl hg4B) rfl rfl ?_
          refine RJ_op rfl (OJ_P (P_pickT rfl hg4B rfl) rfl ?_)
          refine RJ_op rfl (OJ_P (P_move rfl) rfl ?_)
          refine RJ_gn (GY_no rfl rfl rfl rfl) rfl rfl ?_
          refine RJ_gn (GY_no rfl rfl rfl rfl) rfl rfl ?_
          refine RJ_op rfl (OJ_P (P_pickT rfl rfl rfl) rfl ?_)
          refine RJ_op rfl (OJ_P (P_move rfl) rfl ?_)
          refine RJ_gn (GY_no rfl rfl rfl rfl) rfl rfl ?_
          refine RJ_gn (GY_no rfl rfl rfl rfl) rfl rfl ?_
          refine RJ_op rfl (OJ_P (P_pickT rfl rfl rfl) rfl ?_)
          refine RJ_op rfl (OJ_P (P_move rfl) rfl ?_)
          refine RJ_gn (GY_no rfl rfl rfl rfl) rfl rfl ?_
          refine RJ_gn (GY_no rfl rfl rfl rfl) rfl rfl ?_
          refine RJ_gn (GY_no rfl rfl rfl rfl) rfl rfl ?_
          refine RJ_op rfl (OJ_P (P_pickT rfl rfl rfl) rfl ?_)
          refine RJ_nil ?_
          refine QJ_then ?_
          refine CJ_condT rfl rfl ?_
          refine CJ_seq ?_
          refine CJ_region ?_
          refine RJ_op rfl (OJ_P (P_assign rfl) rfl ?_)
          refine RJ_op rfl (OJ_P (P_assign rfl) rfl ?_)
          refine RJ_nil ?_
          refine QJ_then ?_
          refine CJ_ret ?_
          refine QJ_then_ret ?_
          refine QJ_end (res2 Try.results17 rfl rfl) ?_
          refine CSpec.close () ?_ ?_ Ent.refl
          ·
            have hV : ¬ BkV c n l p := fun h => by unfold BkV PlV at h; omega
            exact tup2 (if_neg hV).symm (if_neg hV).symm
          · trivial
        ·
          refine RJ_gy (GY_yes rfl rfl rfl hg4B) (OJ_P (P_move rfl) rfl ?_)
          refine RJ_gy (GY_yes rfl rfl rfl hg4B) (OJ_P (P_lss rfl rfl) rfl ?_)
          refine RJ_op rfl (OJ_P (P_pickF rfl hg4B rfl) rfl ?_)
          refine RJ_op rfl (OJ_P (P_move rfl) rfl ?_)
          first | (refine RJ_splitD 28 rfl (fun hg5B hg5 => ?_) (fun hg5B hg5 => ?_)) | (refine RJ_splitN 28 rfl (fun hg5B hg5 => ?_) (fun hg5B hg5 => ?_)) | (refine RJ_split 28 rfl (fun hg5B => ?_) (fun hg5B => ?_))
          ·
            refine RJ_gn (GY_no rfl rfl rfl hg5B) rfl rfl ?_
            refine RJ_gn (GY_no rfl rfl rfl hg5B) rfl rfl ?_
            refine RJ_op rfl (OJ_P (P_pickT rfl hg5B rfl) rfl ?_)
            refine RJ_op rfl (OJ_P (P_move rfl) rfl ?_)
            refine RJ_gn (GY_no rfl rfl rfl rfl) rfl rfl ?_
            refine RJ_gn (GY_no rfl rfl rfl rfl) rfl rfl ?_
            refine RJ_op rfl (OJ_P (P_pickT rfl rfl rfl) rfl ?_)
            refine RJ_op rfl (OJ_P (P_move rfl) rfl ?_)
            refine RJ_gn (GY_no rfl rfl rfl rfl) rfl rfl ?_
            refine RJ_gn (GY_no rfl rfl rfl rfl) rfl rfl ?_
            refine RJ_gn (GY_no rfl rfl rfl rfl) rfl rfl ?_
            refine RJ_op rfl (OJ_P (P_pickT rfl rfl rfl) rfl ?_)
            refine RJ_nil ?_
            refine QJ_then ?_
            refine CJ_condT rfl rfl ?_
            refine CJ_seq ?_
            refine CJ_region ?_
            refine RJ_op rfl (OJ_P (P_assign rfl) rfl ?_)
            refine RJ_op rfl (OJ_P (P_assign rfl) rfl ?_)
            refine RJ_nil ?_
            refine QJ_then ?_
            refine CJ_ret ?_
            refine QJ_then_ret ?_
            refine QJ_end (res2 Try.results17 rfl rfl) ?_
            refine CSpec.close () ?_ ?_ Ent.refl
            ·
              have hV : ¬ BkV c n l p := fun h => by unfold BkV PlV at h; omega
              exact tup2 (if_neg hV).symm (if_neg hV).symm
            · trivial
          ·
            refine RJ_gy (GY_yes rfl rfl rfl hg5B) (OJ_P (P_move rfl) rfl ?_)
            refine RJ_gy (GY_yes rfl rfl rfl hg5B) (OJ_P (P_gtr rfl rfl) rfl ?_)
            refine RJ_op rfl (OJ_P (P_pickF rfl hg5B rfl) rfl ?_)
            refine RJ_op rfl (OJ_P (P_move rfl) rfl ?_)
            first | (refine RJ_splitD 32 rfl (fun hg6B hg6 => ?_) (fun hg6B hg6 => ?_)) | (refine RJ_splitN 32 rfl (fun hg6B hg6 => ?_) (fun hg6B hg6 => ?_)) | (refine RJ_split 32 rfl (fun hg6B => ?_) (fun hg6B => ?_))
            ·
              refine RJ_gn (GY_no rfl rfl rfl hg6B) rfl rfl ?_
              refine RJ_gn (GY_no rfl rfl rfl hg6B) rfl rfl ?_
              refine RJ_op rfl (OJ_P (P_pickT rfl hg6B rfl) rfl ?_)
              refine RJ_op rfl (OJ_P (P_move rfl) rfl ?_)
              refine RJ_gn (GY_no rfl rfl rfl rfl) rfl rfl ?_
              refine RJ_gn (GY_no rfl rfl rfl rfl) rfl rfl ?_
              refine RJ_gn (GY_no rfl rfl rfl rfl) rfl rfl ?_
              refine RJ_op rfl (OJ_P (P_pickT rfl rfl rfl) rfl ?_)
              refine RJ_nil ?_
              refine QJ_then ?_
              refine CJ_condT rfl rfl ?_
              refine CJ_seq ?_
              refine CJ_region ?_
              refine RJ_op rfl (OJ_P (P_assign rfl) rfl ?_)
              refine RJ_op rfl (OJ_P (P_assign rfl) rfl ?_)
              refine RJ_nil ?_
              refine QJ_then ?_
              refine CJ_ret ?_
              refine QJ_then_ret ?_
              refine QJ_end (res2 Try.results17 rfl rfl) ?_
              refine CSpec.close () ?_ ?_ Ent.refl
              ·
                have hV : ¬ BkV c n l p := fun h => by unfold BkV PlV at h; omega
                exact tup2 (if_neg hV).symm (if_neg hV).symm
              · trivial
            ·
              refine RJ_gy (GY_yes rfl rfl rfl hg6B) (OJ_P (P_move rfl) rfl ?_)
              refine RJ_gy (GY_yes rfl rfl rfl hg6B) (OJ_P (P_lss rfl rfl) rfl ?_)
              refine RJ_op rfl (OJ_P (P_pickF rfl hg6B rfl) rfl ?_)
              refine RJ_op rfl (OJ_P (P_move rfl) rfl ?_)
              first | (refine RJ_splitD 36 rfl (fun hg7B hg7 => ?_) (fun hg7B hg7 => ?_)) | (refine RJ_splitN 36 rfl (fun hg7B hg7 => ?_) (fun hg7B hg7 => ?_)) | (refine RJ_split 36 rfl (fun hg7B => ?_) (fun hg7B => ?_))
              ·
                refine RJ_gn (GY_no rfl rfl rfl hg7B) rfl rfl ?_
                refine RJ_gn (GY_no rfl rfl rfl hg7B) rfl rfl ?_
                refine RJ_gn (GY_no rfl rfl rfl hg7B) rfl rfl ?_
                refine RJ_op rfl (OJ_P (P_pickT rfl hg7B rfl) rfl ?_)
                refine RJ_nil ?_
                refine QJ_then ?_
                refine CJ_condT rfl rfl ?_
                refine CJ_seq ?_
                refine CJ_region ?_
                refine RJ_op rfl (OJ_P (P_assign rfl) rfl ?_)
                refine RJ_op rfl (OJ_P (P_assign rfl) rfl ?_)
                refine RJ_nil ?_
                refine QJ_then ?_
                refine CJ_ret ?_
                refine QJ_then_ret ?_
                refine QJ_end (res2 Try.results17 rfl rfl) ?_
                refine CSpec.close () ?_ ?_ Ent.refl
                ·
                  have hV : ¬ BkV c n l p := fun h => by unfold BkV PlV at h; omega
                  exact tup2 (if_neg hV).symm (if_neg hV).symm
                · trivial
              ·
                refine RJ_gy (GY_yes rfl rfl rfl hg7B) (OJ_P (P_move rfl) rfl ?_)
                refine RJ_gy (GY_yes rfl rfl rfl hg7B) (OJ_P (P_move rfl) rfl ?_)
                refine RJ_gy (GY_yes rfl rfl rfl hg7B) (OJ_P (P_geq rfl rfl) rfl ?_)
                refine RJ_op rfl (OJ_P (P_pickF rfl hg7B rfl) rfl ?_)
                refine RJ_nil ?_
                refine QJ_then ?_
                first | (refine CJ_condD rfl (fun hg8 => ?_) (fun hg8 => ?_)) | (refine CJ_condN rfl (fun hg8 => ?_) (fun hg8 => ?_)) | (refine CJ_cond rfl (fun hg8 => ?_) (fun hg8 => ?_))
                ·
                  refine CJ_seq ?_
                  refine CJ_region ?_
                  refine RJ_op rfl (OJ_P (P_assign rfl) rfl ?_)
                  refine RJ_op rfl (OJ_P (P_assign rfl) rfl ?_)
                  refine RJ_nil ?_
                  refine QJ_then ?_
                  refine CJ_ret ?_
                  refine QJ_then_ret ?_
                  refine QJ_end (res2 Try.results17 rfl rfl) ?_
                  refine CSpec.close () ?_ ?_ Ent.refl
                  ·
                    have hV : ¬ BkV c n l p := fun h => by unfold BkV PlV at h; omega
                    exact tup2 (if_neg hV).symm (if_neg hV).symm
                  · trivial
                ·
                  have hV : BkV c n l p := ⟨⟨by omega, by omega, by omega, by omega, by omega, by omega⟩, by omega, by omega⟩
                  obtain ⟨e1, e2, e3, e4, e5, e6, e7, e8, e9⟩ := bk_facts hV
                  refine CJ_skip ?_
                  refine QJ_then ?_
                  refine CJ_seq ?_
                  refine AJ_startH 0 (by kernel_rfl) rfl ?_
                  refine AJ_takeP 0 1 rfl (by kernel_rfl) rfl (GY_none rfl) (P_move rfl) rfl (fun _ _ _ _ h => h) ?_
                  refine AJ_takeP 1 3 rfl (by kernel_rfl) rfl (GY_none rfl) (P_move rfl) rfl (fun _ _ _ _ h => h) ?_
                  refine AJ_takeP 2 7 rfl (by kernel_rfl) rfl (GY_none rfl) (P_quo rfl rfl (by omega)) rfl (fun _ _ _ _ h => h) ?_
                  refine AJ_takeP 3 15 rfl (by kernel_rfl) rfl (GY_none rfl) (P_move rfl) rfl (fun _ _ _ _ h => h) ?_
                  refine AJ_takeP 4 31 rfl (by kernel_rfl) rfl (GY_none rfl) (P_mul rfl rfl (by omega)) rfl (fun _ _ _ _ h => h) ?_
                  refine AJ_takeP 5 63 rfl (by kernel_rfl) rfl (GY_none rfl) (P_move rfl) rfl (fun _ _ _ _ h => h) ?_
                  refine AJ_takeP 6 127 rfl (by kernel_rfl) rfl (GY_none rfl) (P_add rfl rfl (by omega)) rfl (fun _ _ _ _ h => h) ?_
                  refine AJ_takeP 7 255 rfl (by kernel_rfl) rfl (GY_none rfl) (P_move rfl) rfl (fun _ _ _ _ h => h) ?_
                  refine AJ_takeP 8 511 rfl (by kernel_rfl) rfl (GY_none rfl) (P_mul rfl rfl (by omega)) rfl (fun _ _ _ _ h => h) ?_
                  refine AJ_takeP 9 1023 rfl (by kernel_rfl) rfl (GY_none rfl) (P_move rfl) rfl (fun _ _ _ _ h => h) ?_
                  refine AJ_takeP 10 2047 rfl (by kernel_rfl) rfl (GY_none rfl) (P_move rfl) rfl (fun _ _ _ _ h => h) ?_
                  refine AJ_takeP 11 4095 rfl (by kernel_rfl) rfl (GY_none rfl) (P_rem rfl rfl (by omega)) rfl (fun _ _ _ _ h => h) ?_
                  refine AJ_takeP 12 8191 rfl (by kernel_rfl) rfl (GY_none rfl) (P_add rfl rfl (by omega)) rfl (fun _ _ _ _ h => h) ?_
                  refine AJ_takeP 13 16383 rfl (by kernel_rfl) rfl (GY_none rfl) (P_assign rfl) rfl (fun _ _ _ _ h => h) ?_
                  refine AJ_takeP 14 32767 rfl (by kernel_rfl) rfl (GY_none rfl) (P_assign rfl) rfl (fun _ _ _ _ h => h) ?_
                  refine AJ_done (by kernel_rfl) ?_
                  refine QJ_then ?_
                  refine CJ_ret ?_
                  refine QJ_end (res2 Try.results17 rfl rfl) ?_
                  refine CSpec.close () ?_ ?_ Ent.refl
                  · exact tup2 (if_pos hV).symm (if_pos hV).symm
                  · trivial

theorem c_Size1 {W : World} {m : Int} :
    CSpec Try.prog W 47 [.int .i64 m] [] (fun _ : Unit => .bool (badSz m)) (fun _ => True) (fun _ F => F) := by
  refine CSpec.of_body Try.func47 rfl Try.ntmps47 rfl (fun F => ?_)
  show CJ _ _ _ _ _ _ (F)
  refine CJ_seq ?_
  refine CJ_region ?_
  refine RJ_op rfl (OJ_P (P_assign rfl) rfl ?_)
  refine RJ_nil ?_
  refine QJ_then ?_
  refine CJ_seq ?_
  refine CJ_region ?_
  refine RJ_op rfl (OJ_P (P_move rfl) rfl ?_)
  refine RJ_op rfl (OJ_P (P_lss rfl rfl) rfl ?_)
  refine RJ_op rfl (OJ_P (P_move rfl) rfl ?_)
  first | (refine RJ_splitD 5 rfl (fun hg1B hg1 => ?_) (fun hg1B hg1 => ?_)) | (refine RJ_splitN 5 rfl (fun hg1B hg1 => ?_) (fun hg1B hg1 => ?_)) | (refine RJ_split 5 rfl (fun hg1B => ?_) (fun hg1B => ?_))
  ·
    refine RJ_gn (GY_no rfl rfl rfl hg1B) rfl rfl ?_
    refine RJ_gn (GY_no rfl rfl rfl hg1B) rfl rfl ?_
    refine RJ_op rfl (OJ_P (P_pickT rfl hg1B rfl) rfl ?_)
    refine RJ_op rfl (OJ_P (P_assign rfl) rfl ?_)
    refine RJ_nil ?_
    refine QJ_then ?_
    refine CJ_ret ?_
    refine QJ_end (res1 Try.results47 rfl) ?_
    refine CSpec.close () ?_ ?_ Ent.refl
    · first | exact bv (decide_eq_true (by omega)).symm | exact bv (decide_eq_decide.2 (by omega))
    · trivial
  ·
    refine RJ_gy (GY_yes rfl rfl rfl hg1B) (OJ_P (P_move rfl) rfl ?_)
    refine RJ_gy (GY_yes rfl rfl rfl hg1B) (OJ_P (P_gtr rfl rfl) rfl ?_)
    refine RJ_op rfl (OJ_P (P_pickF rfl hg1B rfl) rfl ?_)
    refine RJ_op rfl (OJ_P (P_assign rfl) rfl ?_)
    refine RJ_nil ?_
    refine QJ_then ?_
    refine CJ_ret ?_
    refine QJ_end (res1 Try.results47 rfl) ?_
    refine CSpec.close () ?_ ?_ Ent.refl
    · first | exact bv (decide_eq_true (by omega)).symm | exact bv (decide_eq_decide.2 (by omega))
    · trivial

theorem c_IndexSz {W : World} {A : HP} {v : Value} {xs : List Int} (hA : Reads A tyI v xs) (hl : xs.length ≤ 4611686018427387904) :
    CSpec Try.prog W 60 [v, .func (.func 47) #[] #[]] [A] (fun _ : Unit => .int .i64 (idxOf xs)) (fun _ => True) (fun _ F => A :: F) := by
  refine CSpec.of_body Try.func60 rfl Try.ntmps60 rfl (fun F => ?_)
  show CJ _ _ _ _ _ _ (_ :: F)
  refine CJ_seq ?_
  refine CJ_region ?_
  refine RJ_op rfl (OJ_P (P_assign rfl) rfl ?_)
  refine RJ_nil ?_
  refine QJ_then ?_
  refine CJ_seq ?_
  refine CJ_seq ?_
  refine CJ_region ?_
  refine RJ_op rfl (OJ_P (P_move rfl) rfl ?_)
  refine RJ_op rfl (OJ_V (V_len rfl foc0 hA Try.runUnderlying23) rfl ?_)
  refine RJ_op rfl (OJ_P (P_move rfl) rfl ?_)
  refine RJ_nil ?_
  refine QJ_then ?_
  refine CJ_block ?_
  refine CJ_loopR (X := Nat) [4, 5, 8, 9, 10, 11, 12, 13, 14, 15, 16, 17, 18] (fun k  => ([(8, .int .i64 (k : Nat))] : Slots)) (fun k R => R) (fun k  => k ≤ xs.length ∧ ∀ j, j < k → badSz (xs.getD j 0) = false) (fun k  => xs.length - k) (0) ?_ ?_ (Ent.take del0 Ent.refl) ?_
  · exact ⟨Nat.zero_le _, fun j hj => by omega⟩
  · exact ⟨rfl, True.intro⟩
  ·
    intro k hpf
    obtain ⟨hk, hn⟩ := hpf
    show CJ _ _ _ _ _ (([(8, .int .i64 (k : Nat))] : Slots) ++ forget _ _) (_)
    refine CJ_seq ?_
    refine CJ_region ?_
    refine RJ_op rfl (OJ_P (P_lss rfl rfl) rfl ?_)
    refine RJ_nil ?_
    refine QJ_then ?_
    refine CJ_seq ?_
    first | (refine CJ_condD rfl (fun hg1 => ?_) (fun hg1 => ?_)) | (refine CJ_condN rfl (fun hg1 => ?_) (fun hg1 => ?_)) | (refine CJ_cond rfl (fun hg1 => ?_) (fun hg1 => ?_))
    ·
      refine CJ_skip ?_
      refine QJ_then ?_
      refine CJ_seq ?_
      refine CJ_block ?_
      refine CJ_seq ?_
      refine CJ_region ?_
      refine RJ_op rfl (OJ_P (P_move rfl) rfl ?_)
      refine RJ_op rfl (OJ_P (P_assign rfl) rfl ?_)
      refine RJ_nil ?_
      refine QJ_then ?_
      refine CJ_seq ?_
      refine CJ_region ?_
      refine RJ_op rfl (OJ_P (P_move rfl) rfl ?_)
      refine RJ_op rfl (OJ_P (P_move rfl) rfl ?_)
      refine RJ_op rfl (OJ_P (P_move rfl) rfl ?_)
      first | (refine RJ_op rfl (OJ_V (V_index rfl rfl rfl (by omega) foc0 hA Try.runUnderlying23 Try.sizeOf3) rfl ?_)) | (refine RJ_op rfl (OJ_V (V_index rfl rfl (Int.toNat_of_nonneg (by omega)).symm (by omega) foc0 hA Try.runUnderlying23 Try.sizeOf3) rfl ?_))
      refine RJ_op rfl (OJ_V (V_loadE rfl rfl (by omega) foc0 hA rfl rfl Try.isAgg3) rfl ?_)
      refine RJ_op rfl (O_callV rfl rfl (c_Size1) Try.call47 Dels.nil rfl (fun _ hc1 => ?_))
      refine RJ_nil ?_
      refine QJ_then ?_
      first | (refine CJ_condD rfl (fun hg2 => ?_) (fun hg2 => ?_)) | (refine CJ_condN rfl (fun hg2 => ?_) (fun hg2 => ?_)) | (refine CJ_cond rfl (fun hg2 => ?_) (fun hg2 => ?_))
      ·
        refine CJ_seq ?_
        refine CJ_region ?_
        refine RJ_op rfl (OJ_P (P_move rfl) rfl ?_)
        refine RJ_op rfl (OJ_P (P_assign rfl) rfl ?_)
        refine RJ_nil ?_
        refine QJ_then ?_
        refine CJ_ret ?_
        refine QJ_block_ret ?_
        refine QJ_then_ret ?_
        refine QJ_round_ret ?_
        refine QJ_block_ret ?_
        refine QJ_then_ret ?_
        refine QJ_end (res1 Try.results60 rfl) ?_
        refine CSpec.close () ?_ ?_ (Ent.take del0 Ent.refl)
        · exact iv (idxOf_at (by omega) (decide_eq_true hg2) hn).symm
        · trivial
      ·
        refine CJ_skip ?_
        refine QJ_block_normal ?_
        refine QJ_then ?_
        refine CJ_region ?_
        refine RJ_op rfl (OJ_P (P_add rfl rfl (by omega)) rfl ?_)
        refine RJ_op rfl (OJ_P (P_move rfl) rfl ?_)
        refine RJ_nil ?_
        refine QJ_nextR (k + 1) (by first | omega | (simp only []; omega)) ?_ (by repeat (first | exact Kp.base | exact Kp.self | refine Kp.cons rfl ?_ | refine Kp.forget rfl ?_)) ?_ (Ent.take del0 Ent.refl)
        ·
          refine ⟨by omega, fun j hj => ?_⟩
          rcases Nat.lt_or_ge j k with h | h
          · exact hn j h
          · obtain rfl : j = k := by omega
            exact decide_eq_false hg2
        · exact ⟨rfl, True.intro⟩
    ·
      refine CJ_exit ?_
      refine QJ_then_exit ?_
      refine QJ_round_exit ?_
      refine QJ_block_here ?_
      refine QJ_then ?_
      refine CJ_seq ?_
      refine CJ_region ?_
      refine RJ_op rfl (OJ_P (P_assign rfl) rfl ?_)
      refine RJ_nil ?_
      refine QJ_then ?_
      refine CJ_ret ?_
      refine QJ_end (res1 Try.results60 rfl) ?_
      refine CSpec.close () ?_ ?_ (Ent.take del0 Ent.refl)
      ·
        obtain rfl : k = xs.length := by omega
        exact iv (idxOf_none hn).symm
      · trivial

theorem c_ContainsSz {W : World} {A : HP} {v : Value} {xs : List Int} (hA : Reads A tyI v xs) (hl : xs.length ≤ 4611686018427387904) :
    CSpec Try.prog W 46 [v, .func (.func 47) #[] #[]] [A] (fun _ : Unit => .bool (xs.any badSz)) (fun _ => True) (fun _ F => A :: F) := by
  refine CSpec.of_body Try.func46 rfl Try.ntmps46 rfl (fun F => ?_)
  show CJ _ _ _ _ _ _ (_ :: F)
  refine CJ_seq ?_
  refine CJ_region ?_
  refine RJ_op rfl (OJ_P (P_assign rfl) rfl ?_)
  refine RJ_nil ?_
  refine QJ_then ?_
  refine CJ_seq ?_
  refine CJ_region ?_
  refine RJ_op rfl (OJ_P (P_move rfl) rfl ?_)
  refine RJ_op rfl (OJ_P (P_move rfl) rfl ?_)
  refine RJ_op rfl (O_call (c_IndexSz hA hl) rfl Try.call60 (Dels.cons del0 Dels.nil) rfl (fun _ hc1 => ?_))
  refine RJ_op rfl (OJ_P (P_geq rfl rfl) rfl ?_)
  refine RJ_op rfl (OJ_P (P_assign rfl) rfl ?_)
  refine RJ_nil ?_
  refine QJ_then ?_
  refine CJ_ret ?_
  refine QJ_end (res1 Try.results46 rfl) ?_
  refine CSpec.close () ?_ ?_ (Ent.take del0 Ent.refl)
  ·
    refine bv ?_
    rw [Bool.eq_iff_iff, decide_eq_true_eq]
    exact idxOf_any xs
  · trivial

theorem c_MinI {W : World} {A : HP} {v : Value} {xs : List Int} (hA : Reads A tyI v xs) (hl : xs.length ≤ 4611686018427387904) (h0 : 0 < xs.length) :
    CSpec Try.prog W 48 [v] [A] (fun _ : Unit => .int .i64 (least xs)) (fun _ => True) (fun _ F => A :: F) := by
  refine CSpec.of_body Try.func48 rfl Try.ntmps48 rfl (fun F => ?_)
  show CJ _ _ _ _ _ _ (_ :: F)
  refine CJ_seq ?_
  refine CJ_region ?_
  refine RJ_op rfl (OJ_P (P_assign rfl) rfl ?_)
  refine RJ_nil ?_
  refine QJ_then ?_
  refine CJ_seq ?_
  refine CJ_seq ?_
  refine CJ_region ?_
  refine RJ_op rfl (OJ_P (P_move rfl) rfl ?_)
  refine RJ_op rfl (OJ_V (V_len rfl foc0 hA Try.runUnderlying23) rfl ?_)
  refine RJ_op rfl (OJ_P (P_lss rfl rfl) rfl ?_)
  refine RJ_nil ?_
  refine QJ_then ?_
  first | (refine CJ_condD rfl (fun hg1 => ?_) (fun hg1 => ?_)) | (refine CJ_condN rfl (fun hg1 => ?_) (fun hg1 => ?_)) | (refine CJ_cond rfl (fun hg1 => ?_) (fun hg1 => ?_))
  ·
    exfalso; omega
  ·
    refine CJ_skip ?_
    refine QJ_then ?_
    refine CJ_seq ?_
    refine CJ_region ?_
    refine RJ_op rfl (OJ_P (P_move rfl) rfl ?_)
    first | (refine RJ_op rfl (OJ_V (V_index rfl rfl rfl (by omega) foc0 hA Try.runUnderlying23 Try.sizeOf3) rfl ?_)) | (refine RJ_op rfl (OJ_V (V_index rfl rfl (Int.toNat_of_nonneg (by omega)).symm (by omega) foc0 hA Try.runUnderlying23 Try.sizeOf3) rfl ?_))
    refine RJ_op rfl (OJ_V (V_loadE rfl rfl (by omega) foc0 hA rfl rfl Try.isAgg3) rfl ?_)
    refine RJ_op rfl (OJ_P (P_assign rfl) rfl ?_)
    refine RJ_nil ?_
    refine QJ_then ?_
    refine CJ_seq ?_
    refine CJ_seq ?_
    refine CJ_region ?_
    refine RJ_op rfl (OJ_P (P_assign rfl) rfl ?_)
    refine RJ_nil ?_
    refine QJ_then ?_
    refine CJ_block ?_
    refine CJ_loopR (X := Nat) [3, 4, 12, 13, 14, 15, 16, 17, 18, 19, 20, 21, 22, 23] (fun k  => ([(3, .int .i64 ((xs.take k).foldl min (xs.getD 0 0))), (4, .int .i64 (k : Nat))] : Slots)) (fun k R => R) (fun k  => 1 ≤ k ∧ k ≤ xs.length) (fun k  => xs.length - k) (1) ?_ ?_ (Ent.take del0 Ent.refl) ?_
    · omega
    ·
      refine ⟨?_, rfl, True.intro⟩
      refine siv ?_
      rw [take_snocI xs 0 h0, List.take_zero]; exact (Int.min_self _).symm
    ·
      intro k hpf
      obtain ⟨hk1, hk⟩ := hpf
      show CJ _ _ _ _ _ (([(3, .int .i64 ((xs.take k).foldl min (xs.getD 0 0))), (4, .int .i64 (k : Nat))] : Slots) ++ forget _ _) (_)
      refine CJ_seq ?_
      refine CJ_seq ?_
      refine CJ_region ?_
      refine RJ_op rfl (OJ_P (P_move rfl) rfl ?_)
      refine RJ_op rfl (OJ_P (P_move rfl) rfl ?_)
      refine RJ_op rfl (OJ_V (V_len rfl foc0 hA Try.runUnderlying23) rfl ?_)
      refine RJ_op rfl (OJ_P (P_lss rfl rfl) rfl ?_)
      refine RJ_nil ?_
      refine QJ_then ?_
      first | (refine CJ_condD rfl (fun hg2 => ?_) (fun hg2 => ?_)) | (refine CJ_condN rfl (fun hg2 => ?_) (fun hg2 => ?_)) | (refine CJ_cond rfl (fun hg2 => ?_) (fun hg2 => ?_))
      ·
        refine CJ_skip ?_
        refine QJ_then ?_
        refine CJ_seq ?_
        refine CJ_block ?_
        refine CJ_region ?_
        refine RJ_op rfl (OJ_P (P_move rfl) rfl ?_)
        refine RJ_op rfl (OJ_P (P_move rfl) rfl ?_)
        refine RJ_op rfl (OJ_P (P_move rfl) rfl ?_)
        first | (refine RJ_op rfl (OJ_V (V_index rfl rfl rfl (by omega) foc0 hA Try.runUnderlying23 Try.sizeOf3) rfl ?_)) | (refine RJ_op rfl (OJ_V (V_index rfl rfl (Int.toNat_of_nonneg (by omega)).symm (by omega) foc0 hA Try.runUnderlying23 Try.sizeOf3) rfl ?_))
        refine RJ_op rfl (OJ_V (V_loadE rfl rfl (by omega) foc0 hA rfl rfl Try.isAgg3) rfl ?_)
        refine RJ_op rfl (OJ_P (P_min rfl rfl) rfl ?_)
        refine RJ_op rfl (OJ_P (P_assign rfl) rfl ?_)
        refine RJ_nil ?_
        refine QJ_block_normal ?_
        refine QJ_then ?_
        refine CJ_region ?_
        refine RJ_op rfl (OJ_P (P_move rfl) rfl ?_)
        refine RJ_op rfl (OJ_P (P_add rfl rfl (by omega)) rfl ?_)
        refine RJ_op rfl (OJ_P (P_assign rfl) rfl ?_)
        refine RJ_nil ?_
        refine QJ_nextR (k + 1) (by first | omega | (simp only []; omega)) ?_ (by repeat (first | exact Kp.base | exact Kp.self | refine Kp.cons rfl ?_ | refine Kp.forget rfl ?_)) ?_ (Ent.take del0 Ent.refl)
        · omega
        ·
          refine ⟨?_, rfl, True.intro⟩
          refine siv ?_
          rw [take_snocI xs k (by omega), List.foldl_append]; rfl
      ·
        refine CJ_exit ?_
        refine QJ_then_exit ?_
        refine QJ_round_exit ?_
        refine QJ_block_here ?_
        refine QJ_then ?_
        refine CJ_seq ?_
        refine CJ_region ?_
        refine RJ_op rfl (OJ_P (P_move rfl) rfl ?_)
        refine RJ_op rfl (OJ_P (P_assign rfl) rfl ?_)
        refine RJ_nil ?_
        refine QJ_then ?_
        refine CJ_ret ?_
        refine QJ_end (res1 Try.results48 rfl) ?_
        refine CSpec.close () ?_ ?_ (Ent.take del0 Ent.refl)
        ·
          obtain rfl : k = xs.length := by omega
          refine iv ?_
          rw [List.take_length]; rfl
        · trivial

theorem c_Size {W : World} {A : HP} {v : Value} {c : Int} {xs : List Int} (hA : Reads A tyI v xs) (hl : xs.length ≤ 4611686018427387904) :
    CSpec Try.prog W 18 [.int .i64 c, v] [A] (fun _ : Unit => .tuple #[.int .i64 (sz1 c xs), .int .i64 (sz2 c xs)]) (fun _ => True) (fun _ F => A :: F) := by
  refine CSpec.of_body Try.func18 rfl Try.ntmps18 rfl (fun F => ?_)
  show CJ _ _ _ _ _ _ (_ :: F)
  refine CJ_seq ?_
  refine CJ_region ?_
  refine RJ_op rfl (OJ_P (P_assign rfl) rfl ?_)
  refine RJ_op rfl (OJ_P (P_assign rfl) rfl ?_)
  refine RJ_nil ?_
  refine QJ_then ?_
  refine CJ_seq ?_
  refine CJ_region ?_
  refine RJ_op rfl (OJ_P (P_move rfl) rfl ?_)
  refine RJ_op rfl (OJ_P (P_move rfl) rfl ?_)
  refine RJ_op rfl (OJ_V (V_len rfl foc0 hA Try.runUnderlying23) rfl ?_)
  refine RJ_op rfl (OJ_P (P_build rfl (bld_76_0_1 _ _)) rfl ?_)
  refine RJ_op rfl (O_alloc Try.zeroValue76 rfl rfl (fun b1 => ?_))
  refine RJ_op rfl (O_storeN rfl rfl foc0 Try.sizeOf76 rfl rfl rfl ?_)
  refine RJ_nil ?_
  refine QJ_then ?_
  refine CJ_seq ?_
  refine CJ_seq ?_
  refine CJ_region ?_
  refine RJ_op rfl (OJ_V (V_loadN rfl foc0 Try.isAgg76 Try.sizeOf76 rfl rfl) rfl ?_)
  refine RJ_op rfl (O_call (c_valid) rfl Try.call44 Dels.nil rfl (fun _ hc2 => ?_))
  refine RJ_op rfl (OJ_P (P_not rfl) rfl ?_)
  refine RJ_op rfl (OJ_P (P_move rfl) rfl ?_)
  first | (refine RJ_splitD 14 rfl (fun hg1B hg1 => ?_) (fun hg1B hg1 => ?_)) | (refine RJ_splitN 14 rfl (fun hg1B hg1 => ?_) (fun hg1B hg1 => ?_)) | (refine RJ_split 14 rfl (fun hg1B => ?_) (fun hg1B => ?_))
  ·
    refine RJ_gn (GY_no rfl rfl rfl hg1B) rfl rfl ?_
    refine RJ_gn (GY_no rfl rfl rfl hg1B) rfl rfl ?_
    refine RJ_op rfl (OJ_P (P_pickT rfl hg1B rfl) rfl ?_)
    refine RJ_nil ?_
    refine QJ_then ?_
    refine CJ_condT rfl rfl ?_
    refine CJ_seq ?_
    refine CJ_region ?_
    refine RJ_op rfl (OJ_P (P_assign rfl) rfl ?_)
    refine RJ_op rfl (OJ_P (P_assign rfl) rfl ?_)
    refine RJ_nil ?_
    refine QJ_then ?_
    refine CJ_ret ?_
    refine QJ_then_ret ?_
    refine QJ_end (res2 Try.results18 rfl rfl) ?_
    refine CSpec.close () ?_ ?_ (Ent.take del1 (Ent.drop Ent.refl))
    ·
      have hV : ¬ SzV c xs := fun h => by first | exact absurd h.1 ‹_› | (rw [h.2] at *; contradiction)
      exact tup2 (if_neg hV).symm (if_neg hV).symm
    · trivial
  ·
    have hP : PlV c xs.length 0 := ‹_›
    refine RJ_gy (GY_yes rfl rfl rfl hg1B) (OJ_P (P_move rfl) rfl ?_)
    refine RJ_gy (GY_yes rfl rfl rfl hg1B) (O_call (c_ContainsSz hA hl) rfl Try.call46 (Dels.cons del1 Dels.nil) rfl (fun _ hc3 => ?_))
    refine RJ_op rfl (OJ_P (P_pickF rfl hg1B rfl) rfl ?_)
    refine RJ_nil ?_
    refine QJ_then ?_
    first | (refine CJ_condD rfl (fun hg2 => ?_) (fun hg2 => ?_)) | (refine CJ_condN rfl (fun hg2 => ?_) (fun hg2 => ?_)) | (refine CJ_cond rfl (fun hg2 => ?_) (fun hg2 => ?_))
    ·
      refine CJ_seq ?_
      refine CJ_region ?_
      refine RJ_op rfl (OJ_P (P_assign rfl) rfl ?_)
      refine RJ_op rfl (OJ_P (P_assign rfl) rfl ?_)
      refine RJ_nil ?_
      refine QJ_then ?_
      refine CJ_ret ?_
      refine QJ_then_ret ?_
      refine QJ_end (res2 Try.results18 rfl rfl) ?_
      refine CSpec.close () ?_ ?_ (Ent.take del0 (Ent.drop Ent.refl))
      ·
        have hV : ¬ SzV c xs := fun h => by first | exact absurd h.1 ‹_› | (rw [h.2] at *; contradiction)
        exact tup2 (if_neg hV).symm (if_neg hV).symm
      · trivial
    ·
      have hV : SzV c xs := ⟨hP, by assumption⟩
      have hP2 := hP
      obtain ⟨h1, h2, h3, h4, h5, h6⟩ := hP2
      obtain ⟨g1, g2⟩ := least_bd (xs := xs) (by omega) hV.2
      obtain ⟨e1, e2, e3, e4, e5, e6, e7, e8⟩ := pl_facts (c := c) (n := xs.length) (p := least xs) ⟨by omega, by omega, by omega, by omega, g1, g2⟩
      have e9 : 0 ≤ least xs / c * c := Int.mul_nonneg e1 (by omega)
      have e10 : least xs / c * c ≤ least xs := Int.ediv_mul_le _ (by omega)
      have e11 : 0 ≤ (xs.length : Int) * (least xs / c * c) := Int.mul_nonneg (by omega) e9
      have e12 : (xs.length : Int) * (least xs / c * c) ≤ 6 * (least xs / c * c) := Int.mul_le_mul_of_nonneg_right (by omega) e9
      refine CJ_skip ?_
      refine QJ_then ?_
      refine CJ_seq ?_
      refine AJ_startH 0 (by kernel_rfl) rfl ?_
      refine AJ_takeP 0 1 rfl (by kernel_rfl) rfl (GY_none rfl) (P_fieldAddr rfl ⟨_, _, _, Try.runUnderlying76, rfl, rfl, Try.sizeOf3, rfl⟩) rfl (fun _ _ _ _ h => h) ?_
      refine AJ_takeV 1 3 rfl (by kernel_rfl) rfl (by kernel_rfl) (by kernel_rfl) (GY_none rfl) (Ent.take del0 (Ent.take del0 Ent.refl)) (V_load rfl foc1 rfl Try.isAgg3) rfl (fun _ _ _ _ h => h) ?_
      refine AJ_takeP 2 7 rfl (by kernel_rfl) rfl (GY_none rfl) (P_move rfl) rfl (fun _ _ _ _ h => h) ?_
      refine AJ_takeP 4 23 rfl (by kernel_rfl) rfl (GY_none rfl) (P_move rfl) rfl (fun _ _ _ _ h => h) ?_
      refine AJ_takeP 6 87 rfl (by kernel_rfl) rfl (GY_none rfl) (P_move rfl) rfl (fun _ _ _ _ h => h) ?_
      refine AJ_op 3 95 rfl (by kernel_rfl) rfl (GY_none rfl) (O_call (c_MinI hA hl (by omega)) rfl Try.call48 (Dels.cons del0 Dels.nil) rfl (fun _ hc4 => ?_))
      refine ⟨fun _ => (Ent.take del0 (Ent.take del0 Ent.refl)), ?_⟩
      refine AJ_takeP 5 127 rfl (by kernel_rfl) rfl (GY_none rfl) (P_quo rfl rfl (by omega)) rfl (fun _ _ _ _ h => h) ?_
      refine AJ_takeP 7 255 rfl (by kernel_rfl) rfl (GY_none rfl) (P_mul rfl rfl (by omega)) rfl (fun _ _ _ _ h => h) ?_
      refine AJ_takeP 8 511 rfl (by kernel_rfl) rfl (GY_none rfl) (P_mul rfl rfl (by omega)) rfl (fun _ _ _ _ h => h) ?_
      refine AJ_takeP 9 1023 rfl (by kernel_rfl) rfl (GY_none rfl) (P_assign rfl) rfl (fun _ _ _ _ h => h) ?_
      refine AJ_takeP 10 2047 rfl (by kernel_rfl) rfl (GY_none rfl) (P_assign rfl) rfl (fun _ _ _ _ h => h) ?_
      refine AJ_done (by kernel_rfl) ?_
      refine QJ_then ?_
      refine CJ_ret ?_
      refine QJ_end (res2 Try.results18 rfl rfl) ?_
      refine CSpec.close () ?_ ?_ (Ent.take del0 (Ent.drop Ent.refl))
      · exact tup2 (if_pos hV).symm (if_pos hV).symm
      · trivial

theorem c_rSize {W : World} {A : HP} {v : Value} {c : Int} {xs : List Int} (hA : Reads A tyI v xs) (hl : xs.length ≤ 4611686018427387904) :
    CSpec Try.prog W 19 [.int .i64 c, v] [A] (fun _ : Unit => .tuple #[.int .i64 (sz1 c xs), .int .i64 (sz2 c xs)]) (fun _ => True) (fun _ F => A :: F) := by
  refine CSpec.of_body Try.func19 rfl Try.ntmps19 rfl (fun F => ?_)
  show CJ _ _ _ _ _ _ (_ :: F)
  refine CJ_seq ?_
  refine CJ_region ?_
  refine RJ_op rfl (OJ_P (P_assign rfl) rfl ?_)
  refine RJ_op rfl (OJ_P (P_assign rfl) rfl ?_)
  refine RJ_nil ?_
  refine QJ_then ?_
  refine CJ_seq ?_
  refine CJ_seq ?_
  refine CJ_region ?_
  refine RJ_op rfl (OJ_P (P_move rfl) rfl ?_)
  refine RJ_op rfl (OJ_P (P_lss rfl rfl) rfl ?_)
  refine RJ_op rfl (OJ_P (P_move rfl) rfl ?_)
  first | (refine RJ_splitD 10 rfl (fun hg1B hg1 => ?_) (fun hg1B hg1 => ?_)) | (refine RJ_splitN 10 rfl (fun hg1B hg1 => ?_) (fun hg1B hg1 => ?_)) | (refine RJ_split 10 rfl (fun hg1B => ?_) (fun hg1B => ?_))
  ·
    refine RJ_gn (GY_no rfl rfl rfl hg1B) rfl rfl ?_
    refine RJ_gn (GY_no rfl rfl rfl hg1B) rfl rfl ?_
    refine RJ_op rfl (OJ_P (P_pickT rfl hg1B rfl) rfl ?_)
    refine RJ_op rfl (OJ_P (P_move rfl) rfl ?_)
    refine RJ_gn (GY_no rfl rfl rfl rfl) rfl rfl ?_
    refine RJ_gn (GY_no rfl rfl rfl rfl) rfl rfl ?_
    refine RJ_gn (GY_no rfl rfl rfl rfl) rfl rfl ?_
    refine RJ_op rfl (OJ_P (P_pickT rfl rfl rfl) rfl ?_)
    refine RJ_op rfl (OJ_P (P_move rfl) rfl ?_)
    refine RJ_gn (GY_no rfl rfl rfl rfl) rfl rfl ?_
    refine RJ_gn (GY_no rfl rfl rfl rfl) rfl rfl ?_
    refine RJ_gn (GY_no rfl rfl rfl rfl) rfl rfl ?_
    refine RJ_op rfl (OJ_P (P_pickT rfl rfl rfl) rfl ?_)
    refine RJ_nil ?_
    refine QJ_then ?_
    refine CJ_condT rfl rfl ?_
    refine CJ_seq ?_
    refine CJ_region ?_
    refine RJ_op rfl (OJ_P (P_assign rfl) rfl ?_)
    refine RJ_op rfl (OJ_P (P_assign rfl) rfl ?_)
    refine RJ_nil ?_
    refine QJ_then ?_
    refine CJ_ret ?_
    refine QJ_then_ret ?_
    refine QJ_end (res2 Try.results19 rfl rfl) ?_
    refine CSpec.close () ?_ ?_ (Ent.take del0 Ent.refl)
    ·
      have hV : ¬ SzV c xs := fun h => by
        have h1 := h.1
        have h2 := h.2
        unfold PlV at h1
        first | omega | exact notAny_at (k := k) (by omega) (decide_eq_true (by omega)) h2
      exact tup2 (if_neg hV).symm (if_neg hV).symm
    · trivial
  ·
    refine RJ_gy (GY_yes rfl rfl rfl hg1B) (OJ_P (P_move rfl) rfl ?_)
    refine RJ_gy (GY_yes rfl rfl rfl hg1B) (OJ_P (P_gtr rfl rfl) rfl ?_)
    refine RJ_op rfl (OJ_P (P_pickF rfl hg1B rfl) rfl ?_)
    refine RJ_op rfl (OJ_P (P_move rfl) rfl ?_)
    first | (refine RJ_splitD 14 rfl (fun hg2B hg2 => ?_) (fun hg2B hg2 => ?_)) | (refine RJ_splitN 14 rfl (fun hg2B hg2 => ?_) (fun hg2B hg2 => ?_)) | (refine RJ_split 14 rfl (fun hg2B => ?_) (fun hg2B => ?_))
    ·
      refine RJ_gn (GY_no rfl rfl rfl hg2B) rfl rfl ?_
      refine RJ_gn (GY_no rfl rfl rfl hg2B) rfl rfl ?_
      refine RJ_gn (GY_no rfl rfl rfl hg2B) rfl rfl ?_
      refine RJ_op rfl (OJ_P (P_pickT rfl hg2B rfl) rfl ?_)
      refine RJ_op rfl (OJ_P (P_move rfl) rfl ?_)
      refine RJ_gn (GY_no rfl rfl rfl rfl) rfl rfl ?_
      refine RJ_gn (GY_no rfl rfl rfl rfl) rfl rfl ?_
      refine RJ_gn (GY_no rfl rfl rfl rfl) rfl rfl ?_
      refine RJ_op rfl (OJ_P (P_pickT rfl rfl rfl) rfl ?_)
      refine RJ_nil ?_
      refine QJ_then ?_
      refine CJ_condT rfl rfl ?_
      refine CJ_seq ?_
      refine CJ_region ?_
      refine RJ_op rfl (OJ_P (P_assign rfl) rfl ?_)
      refine RJ_op rfl (OJ_P (P_assign rfl) rfl ?_)
      refine RJ_nil ?_
      refine QJ_then ?_
      refine CJ_ret ?_
      refine QJ_then_ret ?_
      refine QJ_end (res2 Try.results19 rfl rfl) ?_
      refine CSpec.close () ?_ ?_ (Ent.take del0 Ent.refl)
      ·
        have hV : ¬ SzV c xs := fun h => by
          have h1 := h.1
          have h2 := h.2
          unfold PlV at h1
          first | omega | exact notAny_at (k := k) (by omega) (decide_eq_true (by omega)) h2
        exact tup2 (if_neg hV).symm (if_neg hV).symm
      · trivial
    ·
      refine RJ_gy (GY_yes rfl rfl rfl hg2B) (OJ_P (P_move rfl) rfl ?_)
      refine RJ_gy (GY_yes rfl rfl rfl hg2B) (OJ_V (V_len rfl foc0 hA Try.runUnderlying23) rfl ?_)
      refine RJ_gy (GY_yes rfl rfl rfl hg2B) (OJ_P (P_lss rfl rfl) rfl ?_)
      refine RJ_op rfl (OJ_P (P_pickF rfl hg2B rfl) rfl ?_)
      refine RJ_op rfl (OJ_P (P_move rfl) rfl ?_)
      first | (refine RJ_splitD 19 rfl (fun hg3B hg3 => ?_) (fun hg3B hg3 => ?_)) | (refine RJ_splitN 19 rfl (fun hg3B hg3 => ?_) (fun hg3B hg3 => ?_)) | (refine RJ_split 19 rfl (fun hg3B => ?_) (fun hg3B => ?_))
      ·
        refine RJ_gn (GY_no rfl rfl rfl hg3B) rfl rfl ?_
        refine RJ_gn (GY_no rfl rfl rfl hg3B) rfl rfl ?_
        refine RJ_gn (GY_no rfl rfl rfl hg3B) rfl rfl ?_
        refine RJ_op rfl (OJ_P (P_pickT rfl hg3B rfl) rfl ?_)
        refine RJ_nil ?_
        refine QJ_then ?_
        refine CJ_condT rfl rfl ?_
        refine CJ_seq ?_
        refine CJ_region ?_
        refine RJ_op rfl (OJ_P (P_assign rfl) rfl ?_)
        refine RJ_op rfl (OJ_P (P_assign rfl) rfl ?_)
        refine RJ_nil ?_
        refine QJ_then ?_
        refine CJ_ret ?_
        refine QJ_then_ret ?_
        refine QJ_end (res2 Try.results19 rfl rfl) ?_
        refine CSpec.close () ?_ ?_ (Ent.take del0 Ent.refl)
        ·
          have hV : ¬ SzV c xs := fun h => by
            have h1 := h.1
            have h2 := h.2
            unfold PlV at h1
            first | omega | exact notAny_at (k := k) (by omega) (decide_eq_true (by omega)) h2
          exact tup2 (if_neg hV).symm (if_neg hV).symm
        · trivial
      ·
        refine RJ_gy (GY_yes rfl rfl rfl hg3B) (OJ_P (P_move rfl) rfl ?_)
        refine RJ_gy (GY_yes rfl rfl rfl hg3B) (OJ_V (V_len rfl foc0 hA Try.runUnderlying23) rfl ?_)
        refine RJ_gy (GY_yes rfl rfl rfl hg3B) (OJ_P (P_gtr rfl rfl) rfl ?_)
        refine RJ_op rfl (OJ_P (P_pickF rfl hg3B rfl) rfl ?_)
        refine RJ_nil ?_
        refine QJ_then ?_
        first | (refine CJ_condD rfl (fun hg4 => ?_) (fun hg4 => ?_)) | (refine CJ_condN rfl (fun hg4 => ?_) (fun hg4 => ?_)) | (refine CJ_cond rfl (fun hg4 => ?_) (fun hg4 => ?_))
        ·
          refine CJ_seq ?_
          refine CJ_region ?_
          refine RJ_op rfl (OJ_P (P_assign rfl) rfl ?_)
          refine RJ_op rfl (OJ_P (P_assign rfl) rfl ?_)
          refine RJ_nil ?_
          refine QJ_then ?_
          refine CJ_ret ?_
          refine QJ_then_ret ?_
          refine QJ_end (res2 Try.results19 rfl rfl) ?_
          refine CSpec.close () ?_ ?_ (Ent.take del0 Ent.refl)
          ·
            have hV : ¬ SzV c xs := fun h => by
              have h1 := h.1
              have h2 := h.2
              unfold PlV at h1
              first | omega | exact notAny_at (k := k) (by omega) (decide_eq_true (by omega)) h2
            exact tup2 (if_neg hV).symm (if_neg hV).symm
          · trivial
        ·
          have hP : PlV c xs.length 0 := ⟨by omega, by omega, by omega, by omega, by omega, by omega⟩
          refine CJ_skip ?_
          refine QJ_then ?_
          refine CJ_seq ?_
          refine CJ_region ?_
          refine RJ_op rfl (OJ_P (P_assign rfl) rfl ?_)
          refine RJ_nil ?_
          refine QJ_then ?_
          refine CJ_seq ?_
          refine CJ_seq ?_
          refine CJ_region ?_
          refine RJ_op rfl (OJ_P (P_assign rfl) rfl ?_)
          refine RJ_nil ?_
          refine QJ_then ?_
          refine CJ_block ?_
          refine CJ_loopR (X := Nat) [4, 5, 6, 7, 24, 25, 26, 27, 28, 29, 30, 31, 32, 33, 34, 35, 36, 37, 38, 39, 40, 41, 42, 43, 44, 45, 46, 47] (fun k  => ([(6, .int .i64 ((xs.take k).foldl min 1073741824)), (7, .int .i64 (k : Nat))] : Slots)) (fun k R => R) (fun k  => k ≤ xs.length ∧ (xs.take k).any badSz = false) (fun k  => xs.length - k) (0) ?_ ?_ (Ent.take del0 Ent.refl) ?_
          · exact ⟨Nat.zero_le _, rfl⟩
          · exact ⟨rfl, rfl, True.intro⟩
          ·
            intro k hpf
            obtain ⟨hk, hn⟩ := hpf
            show CJ _ _ _ _ _ (([(6, .int .i64 ((xs.take k).foldl min 1073741824)), (7, .int .i64 (k : Nat))] : Slots) ++ forget _ _) (_)
            have hd0 := tyI_at xs k
            refine CJ_seq ?_
            refine CJ_seq ?_
            refine CJ_region ?_
            refine RJ_op rfl (OJ_P (P_move rfl) rfl ?_)
            refine RJ_op rfl (OJ_P (P_move rfl) rfl ?_)
            refine RJ_op rfl (OJ_V (V_len rfl foc0 hA Try.runUnderlying23) rfl ?_)
            refine RJ_op rfl (OJ_P (P_lss rfl rfl) rfl ?_)
            refine RJ_nil ?_
            refine QJ_then ?_
            first | (refine CJ_condD rfl (fun hg5 => ?_) (fun hg5 => ?_)) | (refine CJ_condN rfl (fun hg5 => ?_) (fun hg5 => ?_)) | (refine CJ_cond rfl (fun hg5 => ?_) (fun hg5 => ?_))
            ·
              refine CJ_skip ?_
              refine QJ_then ?_
              refine CJ_seq ?_
              refine CJ_block ?_
              refine CJ_seq ?_
              refine CJ_seq ?_
              refine CJ_region ?_
              refine RJ_op rfl (OJ_P (P_move rfl) rfl ?_)
              refine RJ_op rfl (OJ_P (P_move rfl) rfl ?_)
              first | (refine RJ_op rfl (OJ_V (V_index rfl rfl rfl (by omega) foc0 hA Try.runUnderlying23 Try.sizeOf3) rfl ?_)) | (refine RJ_op rfl (OJ_V (V_index rfl rfl (Int.toNat_of_nonneg (by omega)).symm (by omega) foc0 hA Try.runUnderlying23 Try.sizeOf3) rfl ?_))
              refine RJ_op rfl (OJ_V (V_loadE rfl rfl (by omega) foc0 hA rfl rfl Try.isAgg3) rfl ?_)
              refine RJ_op rfl (OJ_P (P_lss rfl rfl) rfl ?_)
              refine RJ_op rfl (OJ_P (P_move rfl) rfl ?_)
              first | (refine RJ_splitD 35 rfl (fun hg6B hg6 => ?_) (fun hg6B hg6 => ?_)) | (refine RJ_splitN 35 rfl (fun hg6B hg6 => ?_) (fun hg6B hg6 => ?_)) | (refine RJ_split 35 rfl (fun hg6B => ?_) (fun hg6B => ?_))
              ·
                refine RJ_gn (GY_no rfl rfl rfl hg6B) rfl rfl ?_
                refine RJ_gn (GY_no rfl rfl rfl hg6B) rfl rfl ?_
                refine RJ_gn (GY_no rfl rfl rfl hg6B) rfl rfl ?_
                refine RJ_gn (GY_no rfl rfl rfl hg6B) rfl rfl ?_
                refine RJ_gn (GY_no rfl rfl rfl hg6B) rfl rfl ?_
                refine RJ_op rfl (OJ_P (P_pickT rfl hg6B rfl) rfl ?_)
                refine RJ_nil ?_
                refine QJ_then ?_
                refine CJ_condT rfl rfl ?_
                refine CJ_seq ?_
                refine CJ_region ?_
                refine RJ_op rfl (OJ_P (P_assign rfl) rfl ?_)
                refine RJ_op rfl (OJ_P (P_assign rfl) rfl ?_)
                refine RJ_nil ?_
                refine QJ_then ?_
                refine CJ_ret ?_
                refine QJ_then_ret ?_
                refine QJ_block_ret ?_
                refine QJ_then_ret ?_
                refine QJ_round_ret ?_
                refine QJ_block_ret ?_
                refine QJ_then_ret ?_
                refine QJ_end (res2 Try.results19 rfl rfl) ?_
                refine CSpec.close () ?_ ?_ (Ent.take del0 Ent.refl)
                ·
                  have hV : ¬ SzV c xs := fun h => by
                    have h1 := h.1
                    have h2 := h.2
                    unfold PlV at h1
                    first | omega | exact notAny_at (k := k) (by omega) (decide_eq_true (by omega)) h2
                  exact tup2 (if_neg hV).symm (if_neg hV).symm
                · trivial
              ·
                refine RJ_gy (GY_yes rfl rfl rfl hg6B) (OJ_P (P_move rfl) rfl ?_)
                refine RJ_gy (GY_yes rfl rfl rfl hg6B) (OJ_P (P_move rfl) rfl ?_)
                first | (refine RJ_gy (GY_yes rfl rfl rfl hg6B) (OJ_V (V_index rfl rfl rfl (by omega) foc0 hA Try.runUnderlying23 Try.sizeOf3) rfl ?_)) | (refine RJ_gy (GY_yes rfl rfl rfl hg6B) (OJ_V (V_index rfl rfl (Int.toNat_of_nonneg (by omega)).symm (by omega) foc0 hA Try.runUnderlying23 Try.sizeOf3) rfl ?_))
                refine RJ_gy (GY_yes rfl rfl rfl hg6B) (OJ_V (V_loadE rfl rfl (by omega) foc0 hA rfl rfl Try.isAgg3) rfl ?_)
                refine RJ_gy (GY_yes rfl rfl rfl hg6B) (OJ_P (P_gtr rfl rfl) rfl ?_)
                refine RJ_op rfl (OJ_P (P_pickF rfl hg6B rfl) rfl ?_)
                refine RJ_nil ?_
                refine QJ_then ?_
                first | (refine CJ_condD rfl (fun hg7 => ?_) (fun hg7 => ?_)) | (refine CJ_condN rfl (fun hg7 => ?_) (fun hg7 => ?_)) | (refine CJ_cond rfl (fun hg7 => ?_) (fun hg7 => ?_))
                ·
                  refine CJ_seq ?_
                  refine CJ_region ?_
                  refine RJ_op rfl (OJ_P (P_assign rfl) rfl ?_)
                  refine RJ_op rfl (OJ_P (P_assign rfl) rfl ?_)
                  refine RJ_nil ?_
                  refine QJ_then ?_
                  refine CJ_ret ?_
                  refine QJ_then_ret ?_
                  refine QJ_block_ret ?_
                  refine QJ_then_ret ?_
                  refine QJ_round_ret ?_
                  refine QJ_block_ret ?_
                  refine QJ_then_ret ?_
                  refine QJ_end (res2 Try.results19 rfl rfl) ?_
                  refine CSpec.close () ?_ ?_ (Ent.take del0 Ent.refl)
                  ·
                    have hV : ¬ SzV c xs := fun h => by
                      have h1 := h.1
                      have h2 := h.2
                      unfold PlV at h1
                      first | omega | exact notAny_at (k := k) (by omega) (decide_eq_true (by omega)) h2
                    exact tup2 (if_neg hV).symm (if_neg hV).symm
                  · trivial
                ·
                  refine CJ_skip ?_
                  refine QJ_then ?_
                  refine CJ_region ?_
                  refine RJ_op rfl (OJ_P (P_move rfl) rfl ?_)
                  refine RJ_op rfl (OJ_P (P_move rfl) rfl ?_)
                  refine RJ_op rfl (OJ_P (P_move rfl) rfl ?_)
                  first | (refine RJ_op rfl (OJ_V (V_index rfl rfl rfl (by omega) foc0 hA Try.runUnderlying23 Try.sizeOf3) rfl ?_)) | (refine RJ_op rfl (OJ_V (V_index rfl rfl (Int.toNat_of_nonneg (by omega)).symm (by omega) foc0 hA Try.runUnderlying23 Try.sizeOf3) rfl ?_))
                  refine RJ_op rfl (OJ_V (V_loadE rfl rfl (by omega) foc0 hA rfl rfl Try.isAgg3) rfl ?_)
                  refine RJ_op rfl (OJ_P (P_min rfl rfl) rfl ?_)
                  refine RJ_op rfl (OJ_P (P_assign rfl) rfl ?_)
                  refine RJ_nil ?_
                  refine QJ_block_normal ?_
                  refine QJ_then ?_
                  refine CJ_region ?_
                  refine RJ_op rfl (OJ_P (P_move rfl) rfl ?_)
                  refine RJ_op rfl (OJ_P (P_add rfl rfl (by omega)) rfl ?_)
                  refine RJ_op rfl (OJ_P (P_assign rfl) rfl ?_)
                  refine RJ_nil ?_
                  refine QJ_nextR (k + 1) (by first | omega | (simp only []; omega)) ?_ (by repeat (first | exact Kp.base | exact Kp.self | refine Kp.cons rfl ?_ | refine Kp.forget rfl ?_)) ?_ (Ent.take del0 Ent.refl)
                  ·
                    refine ⟨by omega, ?_⟩
                    rw [take_snocI xs k (by omega), List.any_append, hn]
                    simp only [List.any_cons, List.any_nil, Bool.or_false, Bool.false_or]
                    exact decide_eq_false (by omega)
                  ·
                    refine ⟨?_, rfl, True.intro⟩
                    refine siv ?_
                    rw [take_snocI xs k (by omega), List.foldl_append]; rfl
            ·
              refine CJ_exit ?_
              refine QJ_then_exit ?_
              refine QJ_round_exit ?_
              refine QJ_block_here ?_
              refine QJ_then ?_
              refine CJ_seq ?_
              refine CJ_region ?_
              obtain rfl : k = xs.length := by omega
              rw [List.take_length] at hn
              rw [List.take_length, show xs.foldl min 1073741824 = least xs from least_of (by omega) hn]
              have hV : SzV c xs := ⟨hP, hn⟩
              have hP2 := hP
              obtain ⟨h1, h2, h3, h4, h5, h6⟩ := hP2
              obtain ⟨g1, g2⟩ := least_bd (xs := xs) (by omega) hV.2
              obtain ⟨e1, e2, e3, e4, e5, e6, e7, e8⟩ := pl_facts (c := c) (n := xs.length) (p := least xs) ⟨by omega, by omega, by omega, by omega, g1, g2⟩
              have e9 : 0 ≤ least xs / c * c := Int.mul_nonneg e1 (by omega)
              have e10 : least xs / c * c ≤ least xs := Int.ediv_mul_le _ (by omega)
              have e11 : 0 ≤ (xs.length : Int) * (least xs / c * c) := Int.mul_nonneg (by omega) e9
              have e12 : (xs.length : Int) * (least xs / c * c) ≤ 6 * (least xs / c * c) := Int.mul_le_mul_of_nonneg_right (by omega) e9
              refine RJ_op rfl (OJ_P (P_move rfl) rfl ?_)
              refine RJ_op rfl (OJ_V (V_len rfl foc0 hA Try.runUnderlying23) rfl ?_)
              refine RJ_op rfl (OJ_P (P_move rfl) rfl ?_)
              refine RJ_op rfl (OJ_P (P_move rfl) rfl ?_)
              refine RJ_op rfl (OJ_P (P_quo rfl rfl (by omega)) rfl ?_)
              refine RJ_op rfl (OJ_P (P_move rfl) rfl ?_)
              refine RJ_op rfl (OJ_P (P_mul rfl rfl (by omega)) rfl ?_)
              refine RJ_op rfl (OJ_P (P_mul rfl rfl (by omega)) rfl ?_)
              refine RJ_op rfl (OJ_P (P_assign rfl) rfl ?_)
              refine RJ_op rfl (OJ_P (P_assign rfl) rfl ?_)
              refine RJ_nil ?_
              refine QJ_then ?_
              refine CJ_ret ?_
              refine QJ_end (res2 Try.results19 rfl rfl) ?_
              refine CSpec.close () ?_ ?_ (Ent.take del0 Ent.refl)
              · exact tup2 (if_pos hV).symm (if_pos hV).symm
              · trivial

theorem c_awake17 {W : World}  :
    CSpec Try.prog W 14 [] [] (fun _ : Unit => .bool true) (fun _ => True) (fun _ F => F) := by
  refine CSpec.of_body Try.func14 rfl Try.ntmps14 rfl (fun F => ?_)
  show CJ _ _ _ _ _ _ (F)
  refine CJ_seq ?_
  refine CJ_region ?_
  refine RJ_op rfl (OJ_P (P_assign rfl) rfl ?_)
  refine RJ_nil ?_
  refine QJ_then ?_
  refine CJ_seq ?_
  refine CJ_region ?_
  refine RJ_op rfl (O_call (c_Place) rfl Try.call13 Dels.nil rfl (fun _ hc1 => ?_))
  refine RJ_op rfl (OJ_P (P_move rfl) rfl ?_)
  refine RJ_op rfl (OJ_P (P_extract rfl rfl) rfl ?_)
  refine RJ_op rfl (OJ_P (P_extract rfl rfl) rfl ?_)
  refine RJ_op rfl (OJ_P (P_extract rfl rfl) rfl ?_)
  refine RJ_op rfl (OJ_P (P_assign rfl) rfl ?_)
  refine RJ_op rfl (OJ_P (P_assign rfl) rfl ?_)
  refine RJ_op rfl (OJ_P (P_assign rfl) rfl ?_)
  refine RJ_nil ?_
  refine QJ_then ?_
  refine CJ_seq ?_
  refine CJ_region ?_
  refine RJ_op rfl (O_buildSlice rfl (bs_23_2_0_1 _ _) rfl (fun b2 => ?_))
  refine RJ_ent (Ent.trans (Ent.take del0 Ent.refl) (sl_of_lit (t := tyI) (m := 2) [10, 8] rfl rfl rfl (by decide))) ?_
  refine RJ_op rfl (O_call (c_Size (Reads.sl _ _ _) (by first | assumption | decide | omega)) rfl Try.call18 (Dels.cons del0 Dels.nil) rfl (fun _ hc3 => ?_))
  refine RJ_op rfl (OJ_P (P_move rfl) rfl ?_)
  refine RJ_op rfl (OJ_P (P_extract rfl rfl) rfl ?_)
  refine RJ_op rfl (OJ_P (P_extract rfl rfl) rfl ?_)
  refine RJ_op rfl (OJ_P (P_assign rfl) rfl ?_)
  refine RJ_op rfl (OJ_P (P_assign rfl) rfl ?_)
  refine RJ_nil ?_
  refine QJ_then ?_
  refine CJ_seq ?_
  refine CJ_region ?_
  refine RJ_op rfl (OJ_P (P_move rfl) rfl ?_)
  refine RJ_op rfl (OJ_P (P_eql rfl rfl) rfl ?_)
  refine RJ_op rfl (OJ_P (P_move rfl) rfl ?_)
  first | (refine RJ_know 18 true rfl (decide_eq_true (by decide)) (fun hg1B => ?_)) | (refine RJ_know 18 true rfl (by decide) (fun hg1B => ?_))
  refine RJ_gy (GY_yes rfl rfl rfl hg1B) (OJ_P (P_move rfl) rfl ?_)
  refine RJ_gy (GY_yes rfl rfl rfl hg1B) (OJ_P (P_eql rfl rfl) rfl ?_)
  refine RJ_op rfl (OJ_P (P_pickT rfl hg1B rfl) rfl ?_)
  refine RJ_op rfl (OJ_P (P_move rfl) rfl ?_)
  first | (refine RJ_know 22 true rfl (decide_eq_true (by decide)) (fun hg2B => ?_)) | (refine RJ_know 22 true rfl (by decide) (fun hg2B => ?_))
  refine RJ_gy (GY_yes rfl rfl rfl hg2B) (OJ_P (P_move rfl) rfl ?_)
  refine RJ_gy (GY_yes rfl rfl rfl hg2B) (OJ_P (P_eql rfl rfl) rfl ?_)
  refine RJ_op rfl (OJ_P (P_pickT rfl hg2B rfl) rfl ?_)
  refine RJ_op rfl (OJ_P (P_move rfl) rfl ?_)
  first | (refine RJ_know 26 true rfl (decide_eq_true (by decide)) (fun hg3B => ?_)) | (refine RJ_know 26 true rfl (by decide) (fun hg3B => ?_))
  refine RJ_gy (GY_yes rfl rfl rfl hg3B) (OJ_P (P_move rfl) rfl ?_)
  refine RJ_gy (GY_yes rfl rfl rfl hg3B) (OJ_P (P_eql rfl rfl) rfl ?_)
  refine RJ_op rfl (OJ_P (P_pickT rfl hg3B rfl) rfl ?_)
  refine RJ_op rfl (OJ_P (P_move rfl) rfl ?_)
  first | (refine RJ_know 30 true rfl (decide_eq_true (by decide)) (fun hg4B => ?_)) | (refine RJ_know 30 true rfl (by decide) (fun hg4B => ?_))
  refine RJ_gy (GY_yes rfl rfl rfl hg4B) (OJ_P (P_move rfl) rfl ?_)
  refine RJ_gy (GY_yes rfl rfl rfl hg4B) (OJ_P (P_eql rfl rfl) rfl ?_)
  refine RJ_op rfl (OJ_P (P_pickT rfl hg4B rfl) rfl ?_)
  refine RJ_op rfl (OJ_P (P_assign rfl) rfl ?_)
  refine RJ_nil ?_
  refine QJ_then ?_
  refine CJ_ret ?_
  refine QJ_end (res1 Try.results14 rfl) ?_
  refine CSpec.close () ?_ ?_ (Ent.drop Ent.refl)
  · exact bv (by decide)
  · trivial

theorem c_StripeBack {W : World} {a b o q : Int} (ha : 0 ≤ a ∧ a ≤ 255) (hb : 0 ≤ b ∧ b ≤ 255) (ho : 0 ≤ o ∧ o ≤ 65535) (hq : 0 ≤ q ∧ q ≤ 255) :
    CSpec Try.prog W 5 [.int .u8 a, .int .u8 b, .int .u16 o, .int .u8 q] [] (fun _ : Unit => .bool true) (fun _ => True) (fun _ F => F) := by
  have hP : PlV (1 + a % 16) (1 + b % 6) o := by unfold PlV; omega
  obtain ⟨k1, k2, k3, k4, k5, k6⟩ := place_back hP
  have hB : BkV (1 + a % 16) (1 + b % 6) (q % (1 + b % 6)) o := ⟨hP, Int.emod_nonneg _ (by omega), Int.emod_lt_of_pos _ (by omega)⟩
  obtain ⟨j1, j2, j3, j4⟩ := back_place hB (by omega)
  refine CSpec.of_body Try.func5 rfl Try.ntmps5 rfl (fun F => ?_)
  show CJ _ _ _ _ _ _ (F)
  refine CJ_seq ?_
  refine CJ_region ?_
  refine RJ_op rfl (OJ_P (P_assign rfl) rfl ?_)
  refine RJ_nil ?_
  refine QJ_then ?_
  refine CJ_seq ?_
  refine CJ_region ?_
  refine RJ_op rfl (OJ_P (P_move rfl) rfl ?_)
  refine RJ_op rfl (OJ_P (P_rem rfl rfl (by omega)) rfl ?_)
  refine RJ_op rfl (OJ_P (P_convSame rfl Try.runUnderlying5 Try.runUnderlying3 (by first | rfl | exact wrap64_in (by omega) (by omega))) rfl ?_)
  refine RJ_op rfl (OJ_P (P_add rfl rfl (by omega)) rfl ?_)
  refine RJ_op rfl (OJ_P (P_move rfl) rfl ?_)
  refine RJ_op rfl (OJ_P (P_convSame rfl Try.runUnderlying5 Try.runUnderlying3 (by first | rfl | exact wrap64_in (by omega) (by omega))) rfl ?_)
  refine RJ_op rfl (OJ_P (P_rem rfl rfl (by omega)) rfl ?_)
  refine RJ_op rfl (OJ_P (P_add rfl rfl (by omega)) rfl ?_)
  refine RJ_op rfl (OJ_P (P_assign rfl) rfl ?_)
  refine RJ_op rfl (OJ_P (P_assign rfl) rfl ?_)
  refine RJ_nil ?_
  refine QJ_then ?_
  refine CJ_seq ?_
  refine CJ_region ?_
  refine RJ_op rfl (OJ_P (P_move rfl) rfl ?_)
  refine RJ_op rfl (OJ_P (P_move rfl) rfl ?_)
  refine RJ_op rfl (OJ_P (P_move rfl) rfl ?_)
  refine RJ_op rfl (OJ_P (P_convSame rfl Try.runUnderlying22 Try.runUnderlying3 (by first | rfl | exact wrap64_in (by omega) (by omega))) rfl ?_)
  refine RJ_op rfl (O_call (c_Place) rfl Try.call13 Dels.nil rfl (fun _ hc1 => ?_))
  refine RJ_op rfl (OJ_P (P_move rfl) rfl ?_)
  refine RJ_op rfl (OJ_P (P_extract rfl rfl) rfl ?_)
  refine RJ_op rfl (OJ_P (P_extract rfl rfl) rfl ?_)
  refine RJ_op rfl (OJ_P (P_extract rfl rfl) rfl ?_)
  refine RJ_op rfl (OJ_P (P_assign rfl) rfl ?_)
  refine RJ_op rfl (OJ_P (P_assign rfl) rfl ?_)
  refine RJ_op rfl (OJ_P (P_assign rfl) rfl ?_)
  refine RJ_nil ?_
  refine QJ_then ?_
  refine CJ_seq ?_
  refine CJ_region ?_
  refine RJ_op rfl (OJ_P (P_move rfl) rfl ?_)
  refine RJ_op rfl (OJ_P (P_move rfl) rfl ?_)
  refine RJ_op rfl (OJ_P (P_move rfl) rfl ?_)
  refine RJ_op rfl (OJ_P (P_move rfl) rfl ?_)
  refine RJ_op rfl (O_call (c_Back) rfl Try.call16 Dels.nil rfl (fun _ hc2 => ?_))
  refine RJ_op rfl (OJ_P (P_move rfl) rfl ?_)
  refine RJ_op rfl (OJ_P (P_extract rfl rfl) rfl ?_)
  refine RJ_op rfl (OJ_P (P_extract rfl rfl) rfl ?_)
  refine RJ_op rfl (OJ_P (P_assign rfl) rfl ?_)
  refine RJ_op rfl (OJ_P (P_assign rfl) rfl ?_)
  refine RJ_nil ?_
  refine QJ_then ?_
  refine CJ_seq ?_
  refine CJ_region ?_
  refine RJ_op rfl (OJ_P (P_move rfl) rfl ?_)
  refine RJ_op rfl (OJ_P (P_convSame rfl Try.runUnderlying5 Try.runUnderlying3 (by first | rfl | exact wrap64_in (by omega) (by omega))) rfl ?_)
  refine RJ_op rfl (OJ_P (P_move rfl) rfl ?_)
  refine RJ_op rfl (OJ_P (P_rem rfl rfl (by omega)) rfl ?_)
  refine RJ_op rfl (OJ_P (P_assign rfl) rfl ?_)
  refine RJ_nil ?_
  refine QJ_then ?_
  refine CJ_seq ?_
  refine CJ_region ?_
  refine RJ_op rfl (OJ_P (P_move rfl) rfl ?_)
  refine RJ_op rfl (OJ_P (P_move rfl) rfl ?_)
  refine RJ_op rfl (OJ_P (P_move rfl) rfl ?_)
  refine RJ_op rfl (OJ_P (P_move rfl) rfl ?_)
  refine RJ_op rfl (OJ_P (P_convSame rfl Try.runUnderlying22 Try.runUnderlying3 (by first | rfl | exact wrap64_in (by omega) (by omega))) rfl ?_)
  refine RJ_op rfl (O_call (c_Back) rfl Try.call16 Dels.nil rfl (fun _ hc3 => ?_))
  refine RJ_op rfl (OJ_P (P_move rfl) rfl ?_)
  refine RJ_op rfl (OJ_P (P_extract rfl rfl) rfl ?_)
  refine RJ_op rfl (OJ_P (P_extract rfl rfl) rfl ?_)
  refine RJ_op rfl (OJ_P (P_assign rfl) rfl ?_)
  refine RJ_op rfl (OJ_P (P_assign rfl) rfl ?_)
  refine RJ_nil ?_
  refine QJ_then ?_
  refine CJ_seq ?_
  refine CJ_region ?_
  refine RJ_op rfl (OJ_P (P_move rfl) rfl ?_)
  refine RJ_op rfl (OJ_P (P_move rfl) rfl ?_)
  refine RJ_op rfl (OJ_P (P_move rfl) rfl ?_)
  refine RJ_op rfl (O_call (c_Place) rfl Try.call13 Dels.nil rfl (fun _ hc4 => ?_))
  refine RJ_op rfl (OJ_P (P_move rfl) rfl ?_)
  refine RJ_op rfl (OJ_P (P_extract rfl rfl) rfl ?_)
  refine RJ_op rfl (OJ_P (P_extract rfl rfl) rfl ?_)
  refine RJ_op rfl (OJ_P (P_extract rfl rfl) rfl ?_)
  refine RJ_op rfl (OJ_P (P_assign rfl) rfl ?_)
  refine RJ_op rfl (OJ_P (P_assign rfl) rfl ?_)
  refine RJ_op rfl (OJ_P (P_assign rfl) rfl ?_)
  refine RJ_nil ?_
  refine QJ_then ?_
  refine CJ_seq ?_
  refine CJ_region ?_
  refine RJ_op rfl (OJ_P (P_move rfl) rfl ?_)
  refine RJ_op rfl (OJ_P (P_eql rfl rfl) rfl ?_)
  refine RJ_op rfl (OJ_P (P_move rfl) rfl ?_)
  first | (refine RJ_know 70 true rfl (decide_eq_true (by first | exact k2 | exact k3 | exact k4 | exact j1 | exact j2 | exact j3 | exact j4 | exact k1)) (fun hg1B => ?_)) | (refine RJ_know 70 true rfl (by first | exact k2 | exact k3 | exact k4 | exact j1 | exact j2 | exact j3 | exact j4 | exact k1) (fun hg1B => ?_))
  refine RJ_gy (GY_yes rfl rfl rfl hg1B) (OJ_P (P_move rfl) rfl ?_)
  refine RJ_gy (GY_yes rfl rfl rfl hg1B) (OJ_P (P_eql rfl rfl) rfl ?_)
  refine RJ_op rfl (OJ_P (P_pickT rfl hg1B rfl) rfl ?_)
  refine RJ_op rfl (OJ_P (P_move rfl) rfl ?_)
  first | (refine RJ_know 74 true rfl (decide_eq_true (by first | exact k2 | exact k3 | exact k4 | exact j1 | exact j2 | exact j3 | exact j4 | exact k1)) (fun hg2B => ?_)) | (refine RJ_know 74 true rfl (by first | exact k2 | exact k3 | exact k4 | exact j1 | exact j2 | exact j3 | exact j4 | exact k1) (fun hg2B => ?_))
  refine RJ_gy (GY_yes rfl rfl rfl hg2B) (OJ_P (P_move rfl) rfl ?_)
  refine RJ_gy (GY_yes rfl rfl rfl hg2B) (OJ_P (P_move rfl) rfl ?_)
  refine RJ_gy (GY_yes rfl rfl rfl hg2B) (OJ_P (P_convSame rfl Try.runUnderlying22 Try.runUnderlying3 (by first | rfl | exact wrap64_in (by omega) (by omega))) rfl ?_)
  refine RJ_gy (GY_yes rfl rfl rfl hg2B) (OJ_P (P_eql rfl rfl) rfl ?_)
  refine RJ_op rfl (OJ_P (P_pickT rfl hg2B rfl) rfl ?_)
  refine RJ_op rfl (OJ_P (P_move rfl) rfl ?_)
  first | (refine RJ_know 80 true rfl (decide_eq_true (by first | exact k2 | exact k3 | exact k4 | exact j1 | exact j2 | exact j3 | exact j4 | exact k1)) (fun hg3B => ?_)) | (refine RJ_know 80 true rfl (by first | exact k2 | exact k3 | exact k4 | exact j1 | exact j2 | exact j3 | exact j4 | exact k1) (fun hg3B => ?_))
  refine RJ_gy (GY_yes rfl rfl rfl hg3B) (OJ_P (P_move rfl) rfl ?_)
  refine RJ_gy (GY_yes rfl rfl rfl hg3B) (OJ_P (P_eql rfl rfl) rfl ?_)
  refine RJ_op rfl (OJ_P (P_pickT rfl hg3B rfl) rfl ?_)
  refine RJ_op rfl (OJ_P (P_move rfl) rfl ?_)
  first | (refine RJ_know 84 true rfl (decide_eq_true (by first | exact k2 | exact k3 | exact k4 | exact j1 | exact j2 | exact j3 | exact j4 | exact k1)) (fun hg4B => ?_)) | (refine RJ_know 84 true rfl (by first | exact k2 | exact k3 | exact k4 | exact j1 | exact j2 | exact j3 | exact j4 | exact k1) (fun hg4B => ?_))
  refine RJ_gy (GY_yes rfl rfl rfl hg4B) (OJ_P (P_move rfl) rfl ?_)
  refine RJ_gy (GY_yes rfl rfl rfl hg4B) (OJ_P (P_eql rfl rfl) rfl ?_)
  refine RJ_op rfl (OJ_P (P_pickT rfl hg4B rfl) rfl ?_)
  refine RJ_op rfl (OJ_P (P_move rfl) rfl ?_)
  first | (refine RJ_know 88 true rfl (decide_eq_true (by first | exact k2 | exact k3 | exact k4 | exact j1 | exact j2 | exact j3 | exact j4 | exact k1)) (fun hg5B => ?_)) | (refine RJ_know 88 true rfl (by first | exact k2 | exact k3 | exact k4 | exact j1 | exact j2 | exact j3 | exact j4 | exact k1) (fun hg5B => ?_))
  refine RJ_gy (GY_yes rfl rfl rfl hg5B) (OJ_P (P_move rfl) rfl ?_)
  refine RJ_gy (GY_yes rfl rfl rfl hg5B) (OJ_P (P_move rfl) rfl ?_)
  refine RJ_gy (GY_yes rfl rfl rfl hg5B) (OJ_P (P_eql rfl rfl) rfl ?_)
  refine RJ_op rfl (OJ_P (P_pickT rfl hg5B rfl) rfl ?_)
  refine RJ_op rfl (OJ_P (P_move rfl) rfl ?_)
  first | (refine RJ_know 93 true rfl (decide_eq_true (by first | exact k2 | exact k3 | exact k4 | exact j1 | exact j2 | exact j3 | exact j4 | exact k1)) (fun hg6B => ?_)) | (refine RJ_know 93 true rfl (by first | exact k2 | exact k3 | exact k4 | exact j1 | exact j2 | exact j3 | exact j4 | exact k1) (fun hg6B => ?_))
  refine RJ_gy (GY_yes rfl rfl rfl hg6B) (OJ_P (P_move rfl) rfl ?_)
  refine RJ_gy (GY_yes rfl rfl rfl hg6B) (OJ_P (P_move rfl) rfl ?_)
  refine RJ_gy (GY_yes rfl rfl rfl hg6B) (OJ_P (P_convSame rfl Try.runUnderlying22 Try.runUnderlying3 (by first | rfl | exact wrap64_in (by omega) (by omega))) rfl ?_)
  refine RJ_gy (GY_yes rfl rfl rfl hg6B) (OJ_P (P_eql rfl rfl) rfl ?_)
  refine RJ_op rfl (OJ_P (P_pickT rfl hg6B rfl) rfl ?_)
  refine RJ_op rfl (OJ_P (P_move rfl) rfl ?_)
  first | (refine RJ_know 99 true rfl (decide_eq_true (by first | exact k2 | exact k3 | exact k4 | exact j1 | exact j2 | exact j3 | exact j4 | exact k1)) (fun hg7B => ?_)) | (refine RJ_know 99 true rfl (by first | exact k2 | exact k3 | exact k4 | exact j1 | exact j2 | exact j3 | exact j4 | exact k1) (fun hg7B => ?_))
  refine RJ_gy (GY_yes rfl rfl rfl hg7B) (O_call (c_awake17) rfl Try.call14 Dels.nil rfl (fun _ hc5 => ?_))
  refine RJ_op rfl (OJ_P (P_pickT rfl hg7B rfl) rfl ?_)
  refine RJ_op rfl (OJ_P (P_assign rfl) rfl ?_)
  refine RJ_nil ?_
  refine QJ_then ?_
  refine CJ_ret ?_
  refine QJ_end (res1 Try.results5 rfl) ?_
  refine CSpec.close () ?_ ?_ Ent.refl
  · rfl
  · trivial

theorem c_StripePlaces {W : World} {A : HP} {v : Value} {c n p l : Int} {xs : List Int} (hA : Reads A tyI v xs) (_hl : xs.length ≤ 9223372036854775807) :
    CSpec Try.prog W 4 [.int .i64 c, .int .i64 n, .int .i64 p, .int .i64 l, v] [A] (fun _ : Unit => .bool true) (fun _ => True) (fun _ F => A :: F) := by
  have b1 := andI_bd c 7 (by omega) (by omega)
  have b2 := andI_bd n 7 (by omega) (by omega)
  refine CSpec.of_body Try.func4 rfl Try.ntmps4 rfl (fun F => ?_)
  show CJ _ _ _ _ _ _ (_ :: F)
  refine CJ_seq ?_
  refine CJ_region ?_
  refine RJ_op rfl (OJ_P (P_assign rfl) rfl ?_)
  refine RJ_nil ?_
  refine QJ_then ?_
  refine CJ_seq ?_
  refine CJ_seq ?_
  refine CJ_region ?_
  refine RJ_op rfl (OJ_P (P_move rfl) rfl ?_)
  refine RJ_op rfl (OJ_V (V_len rfl foc0 hA Try.runUnderlying23) rfl ?_)
  refine RJ_op rfl (OJ_P (P_gtr rfl rfl) rfl ?_)
  refine RJ_nil ?_
  refine QJ_then ?_
  first | (refine CJ_condD rfl (fun hg1 => ?_) (fun hg1 => ?_)) | (refine CJ_condN rfl (fun hg1 => ?_) (fun hg1 => ?_)) | (refine CJ_cond rfl (fun hg1 => ?_) (fun hg1 => ?_))
  ·
    refine CJ_seq ?_
    refine CJ_region ?_
    refine RJ_op rfl (O_call (c_awake17) rfl Try.call14 Dels.nil rfl (fun _ hc1 => ?_))
    refine RJ_op rfl (OJ_P (P_assign rfl) rfl ?_)
    refine RJ_nil ?_
    refine QJ_then ?_
    refine CJ_ret ?_
    refine QJ_then_ret ?_
    refine QJ_end (res1 Try.results4 rfl) ?_
    refine CSpec.close () ?_ ?_ (Ent.take del0 Ent.refl)
    · rfl
    · trivial
  ·
    refine CJ_skip ?_
    refine QJ_then ?_
    refine CJ_seq ?_
    refine CJ_region ?_
    refine RJ_op rfl (OJ_P (P_move rfl) rfl ?_)
    refine RJ_op rfl (OJ_P (P_move rfl) rfl ?_)
    refine RJ_op rfl (OJ_P (P_move rfl) rfl ?_)
    refine RJ_op rfl (OJ_P (P_move rfl) rfl ?_)
    refine RJ_op rfl (OJ_P (P_build rfl (bld_29_0_1_2_3 _ _ _ _)) rfl ?_)
    refine RJ_op rfl (OJ_P (P_move rfl) rfl ?_)
    refine RJ_op rfl (OJ_P (P_and rfl rfl (by first | omega | (simp only [List.length_cons, List.length_nil] at *; omega))) rfl ?_)
    refine RJ_op rfl (OJ_P (P_add rfl rfl (by first | omega | (simp only [List.length_cons, List.length_nil] at *; omega))) rfl ?_)
    refine RJ_op rfl (OJ_P (P_move rfl) rfl ?_)
    refine RJ_op rfl (OJ_P (P_and rfl rfl (by first | omega | (simp only [List.length_cons, List.length_nil] at *; omega))) rfl ?_)
    refine RJ_op rfl (OJ_P (P_add rfl rfl (by first | omega | (simp only [List.length_cons, List.length_nil] at *; omega))) rfl ?_)
    refine RJ_op rfl (OJ_P (P_move rfl) rfl ?_)
    refine RJ_op rfl (OJ_P (P_and rfl rfl (by first | omega | (simp only [List.length_cons, List.length_nil] at *; omega))) rfl ?_)
    refine RJ_op rfl (OJ_P (P_move rfl) rfl ?_)
    refine RJ_op rfl (OJ_P (P_and rfl rfl (by first | omega | (simp only [List.length_cons, List.length_nil] at *; omega))) rfl ?_)
    refine RJ_op rfl (OJ_P (P_build rfl (bld_29_0_1_2_3 _ _ _ _)) rfl ?_)
    refine RJ_op rfl (O_buildSlice rfl (bs_30_2_0_1 _ _ _ _ _ _ _ _) rfl (fun b2 => ?_))
    refine RJ_ent (Ent.trans (Ent.take del0 Ent.refl) (sl_of_lit (t := tyA4) (m := 2) [⟨c, n, p, l⟩, ⟨1 + andI c 7, 1 + andI n 7, andI p 1023, andI l 7⟩] rfl rfl rfl (by decide))) ?_
    refine RJ_op rfl (OJ_P (P_assign rfl) rfl ?_)
    refine RJ_nil ?_
    refine QJ_then ?_
    refine CJ_seq ?_
    refine CJ_seq ?_
    refine CJ_region ?_
    refine RJ_op rfl (OJ_P (P_assign rfl) rfl ?_)
    refine RJ_nil ?_
    refine QJ_then ?_
    refine CJ_block ?_
    refine CJ_loopR (X := Nat) [10, 12, 13, 14, 15, 16, 17, 18, 19, 20, 21, 22, 23, 24, 25, 26, 27, 49, 50, 51, 52, 53, 54, 55, 56, 57, 58, 59, 60, 61, 62, 63, 64, 65, 66, 67, 68, 69, 70, 71, 72, 73, 74, 75, 76, 77, 78, 79, 80, 81, 82, 83, 84, 85, 86, 87, 88, 89, 90, 91, 92, 93, 94, 95, 96, 97, 98, 99, 100, 101, 102, 103, 104, 105, 106, 107, 108, 109, 110, 111, 112, 113, 114, 115, 116, 117, 118, 119, 120, 121, 122, 123, 124, 125, 126, 127, 128, 129, 130, 131, 132, 133, 134, 135, 136, 137, 138, 139, 140, 141, 142, 143, 144, 145, 146, 147, 148, 149, 150, 151] (fun k  => ([(12, .int .i64 (k : Nat))] : Slots)) (fun k R => R) (fun k  => k ≤ 2) (fun k  => 2 - k) (0) ?_ ?_ (Ent.take del0 (Ent.take del0 Ent.refl)) ?_
    · omega
    · exact ⟨rfl, True.intro⟩
    ·
      intro k hk
      show CJ _ _ _ _ _ (([(12, .int .i64 (k : Nat))] : Slots) ++ forget _ _) (_)
      refine CJ_seq ?_
      refine CJ_seq ?_
      refine CJ_region ?_
      refine RJ_op rfl (OJ_P (P_move rfl) rfl ?_)
      refine RJ_op rfl (OJ_P (P_move rfl) rfl ?_)
      refine RJ_op rfl (OJ_V (V_len rfl foc0 (Reads.sl _ _ _) Try.runUnderlying30) rfl ?_)
      refine RJ_op rfl (OJ_P (P_lss rfl rfl) rfl ?_)
      refine RJ_nil ?_
      refine QJ_then ?_
      first | (refine CJ_condD rfl (fun hg2 => ?_) (fun hg2 => ?_)) | (refine CJ_condN rfl (fun hg2 => ?_) (fun hg2 => ?_)) | (refine CJ_cond rfl (fun hg2 => ?_) (fun hg2 => ?_))
      ·
        have hk2 : k < 2 := by simp only [List.length_cons, List.length_nil] at *; omega
        refine CJ_skip ?_
        refine QJ_then ?_
        refine CJ_seq ?_
        refine CJ_block ?_
        refine CJ_seq ?_
        refine CJ_region ?_
        refine RJ_op rfl (OJ_P (P_move rfl) rfl ?_)
        refine RJ_op rfl (OJ_P (P_move rfl) rfl ?_)
        refine RJ_op rfl (OJ_V (V_index rfl rfl rfl (by simp only [List.length_cons, List.length_nil] at *; omega) foc0 (Reads.sl _ _ _) Try.runUnderlying30 Try.sizeOf29) rfl ?_)
        refine RJ_op rfl (OJ_V (V_loadEN rfl rfl (by first | omega | (simp only [List.length_cons, List.length_nil] at *; omega)) foc0 (Reads.sl _ _ _) rfl rfl Try.isAgg29 Try.sizeOf29) rfl ?_)
        refine RJ_op rfl (O_alloc Try.zeroValue29 rfl rfl (fun b3 => ?_))
        refine RJ_op rfl (O_storeN rfl rfl foc0 Try.sizeOf29 rfl rfl rfl ?_)
        refine RJ_nil ?_
        refine QJ_then ?_
        refine CJ_seq ?_
        refine CJ_region ?_
        refine RJ_op rfl (OJ_P (P_indexArr (i := 0) rfl rfl rfl Try.runUnderlying29 Try.sizeOf3) rfl ?_)
        refine RJ_op rfl (OJ_V (V_load rfl foc0 rfl Try.isAgg3) rfl ?_)
        refine RJ_op rfl (OJ_P (P_indexArr (i := 1) rfl rfl rfl Try.runUnderlying29 Try.sizeOf3) rfl ?_)
        refine RJ_op rfl (OJ_V (V_load rfl foc0 rfl Try.isAgg3) rfl ?_)
        refine RJ_op rfl (OJ_P (P_indexArr (i := 2) rfl rfl rfl Try.runUnderlying29 Try.sizeOf3) rfl ?_)
        refine RJ_op rfl (OJ_V (V_load rfl foc0 rfl Try.isAgg3) rfl ?_)
        refine RJ_op rfl (O_call (c_Place) rfl Try.call13 Dels.nil rfl (fun _ hc4 => ?_))
        refine RJ_op rfl (OJ_P (P_move rfl) rfl ?_)
        refine RJ_op rfl (OJ_P (P_extract rfl rfl) rfl ?_)
        refine RJ_op rfl (OJ_P (P_extract rfl rfl) rfl ?_)
        refine RJ_op rfl (OJ_P (P_extract rfl rfl) rfl ?_)
        refine RJ_op rfl (OJ_P (P_assign rfl) rfl ?_)
        refine RJ_op rfl (OJ_P (P_assign rfl) rfl ?_)
        refine RJ_op rfl (OJ_P (P_assign rfl) rfl ?_)
        refine RJ_nil ?_
        refine QJ_then ?_
        refine CJ_seq ?_
        refine CJ_region ?_
        refine RJ_op rfl (OJ_P (P_indexArr (i := 0) rfl rfl rfl Try.runUnderlying29 Try.sizeOf3) rfl ?_)
        refine RJ_op rfl (OJ_V (V_load rfl foc0 rfl Try.isAgg3) rfl ?_)
        refine RJ_op rfl (OJ_P (P_indexArr (i := 1) rfl rfl rfl Try.runUnderlying29 Try.sizeOf3) rfl ?_)
        refine RJ_op rfl (OJ_V (V_load rfl foc0 rfl Try.isAgg3) rfl ?_)
        refine RJ_op rfl (OJ_P (P_indexArr (i := 2) rfl rfl rfl Try.runUnderlying29 Try.sizeOf3) rfl ?_)
        refine RJ_op rfl (OJ_V (V_load rfl foc0 rfl Try.isAgg3) rfl ?_)
        refine RJ_op rfl (O_call (c_rPlace) rfl Try.call15 Dels.nil rfl (fun _ hc5 => ?_))
        refine RJ_op rfl (OJ_P (P_move rfl) rfl ?_)
        refine RJ_op rfl (OJ_P (P_extract rfl rfl) rfl ?_)
        refine RJ_op rfl (OJ_P (P_extract rfl rfl) rfl ?_)
        refine RJ_op rfl (OJ_P (P_extract rfl rfl) rfl ?_)
        refine RJ_op rfl (OJ_P (P_assign rfl) rfl ?_)
        refine RJ_op rfl (OJ_P (P_assign rfl) rfl ?_)
        refine RJ_op rfl (OJ_P (P_assign rfl) rfl ?_)
        refine RJ_nil ?_
        refine QJ_then ?_
        refine CJ_seq ?_
        refine CJ_region ?_
        refine RJ_op rfl (OJ_P (P_indexArr (i := 0) rfl rfl rfl Try.runUnderlying29 Try.sizeOf3) rfl ?_)
        refine RJ_op rfl (OJ_V (V_load rfl foc0 rfl Try.isAgg3) rfl ?_)
        refine RJ_op rfl (OJ_P (P_indexArr (i := 1) rfl rfl rfl Try.runUnderlying29 Try.sizeOf3) rfl ?_)
        refine RJ_op rfl (OJ_V (V_load rfl foc0 rfl Try.isAgg3) rfl ?_)
        refine RJ_op rfl (OJ_P (P_indexArr (i := 3) rfl rfl rfl Try.runUnderlying29 Try.sizeOf3) rfl ?_)
        refine RJ_op rfl (OJ_V (V_load rfl foc0 rfl Try.isAgg3) rfl ?_)
        refine RJ_op rfl (OJ_P (P_indexArr (i := 2) rfl rfl rfl Try.runUnderlying29 Try.sizeOf3) rfl ?_)
        refine RJ_op rfl (OJ_V (V_load rfl foc0 rfl Try.isAgg3) rfl ?_)
        refine RJ_op rfl (O_call (c_Back) rfl Try.call16 Dels.nil rfl (fun _ hc6 => ?_))
        refine RJ_op rfl (OJ_P (P_move rfl) rfl ?_)
        refine RJ_op rfl (OJ_P (P_extract rfl rfl) rfl ?_)
        refine RJ_op rfl (OJ_P (P_extract rfl rfl) rfl ?_)
        refine RJ_op rfl (OJ_P (P_assign rfl) rfl ?_)
        refine RJ_op rfl (OJ_P (P_assign rfl) rfl ?_)
        refine RJ_nil ?_
        refine QJ_then ?_
        refine CJ_seq ?_
        refine CJ_region ?_
        refine RJ_op rfl (OJ_P (P_indexArr (i := 0) rfl rfl rfl Try.runUnderlying29 Try.sizeOf3) rfl ?_)
        refine RJ_op rfl (OJ_V (V_load rfl foc0 rfl Try.isAgg3) rfl ?_)
        refine RJ_op rfl (OJ_P (P_indexArr (i := 1) rfl rfl rfl Try.runUnderlying29 Try.sizeOf3) rfl ?_)
        refine RJ_op rfl (OJ_V (V_load rfl foc0 rfl Try.isAgg3) rfl ?_)
        refine RJ_op rfl (OJ_P (P_indexArr (i := 3) rfl rfl rfl Try.runUnderlying29 Try.sizeOf3) rfl ?_)
        refine RJ_op rfl (OJ_V (V_load rfl foc0 rfl Try.isAgg3) rfl ?_)
        refine RJ_op rfl (OJ_P (P_indexArr (i := 2) rfl rfl rfl Try.runUnderlying29 Try.sizeOf3) rfl ?_)
        refine RJ_op rfl (OJ_V (V_load rfl foc0 rfl Try.isAgg3) rfl ?_)
        refine RJ_op rfl (O_call (c_rBack) rfl Try.call17 Dels.nil rfl (fun _ hc7 => ?_))
        refine RJ_op rfl (OJ_P (P_move rfl) rfl ?_)
        refine RJ_op rfl (OJ_P (P_extract rfl rfl) rfl ?_)
        refine RJ_op rfl (OJ_P (P_extract rfl rfl) rfl ?_)
        refine RJ_op rfl (OJ_P (P_assign rfl) rfl ?_)
        refine RJ_op rfl (OJ_P (P_assign rfl) rfl ?_)
        refine RJ_nil ?_
        refine QJ_then ?_
        refine CJ_seq ?_
        refine CJ_region ?_
        refine RJ_op rfl (OJ_P (P_indexArr (i := 0) rfl rfl rfl Try.runUnderlying29 Try.sizeOf3) rfl ?_)
        refine RJ_op rfl (OJ_V (V_load rfl foc0 rfl Try.isAgg3) rfl ?_)
        refine RJ_op rfl (OJ_P (P_move rfl) rfl ?_)
        refine RJ_op rfl (O_call (c_Size hA (by first | assumption | decide | omega)) rfl Try.call18 (Dels.cons del2 Dels.nil) rfl (fun _ hc8 => ?_))
        refine RJ_op rfl (OJ_P (P_move rfl) rfl ?_)
        refine RJ_op rfl (OJ_P (P_extract rfl rfl) rfl ?_)
        refine RJ_op rfl (OJ_P (P_extract rfl rfl) rfl ?_)
        refine RJ_op rfl (OJ_P (P_assign rfl) rfl ?_)
        refine RJ_op rfl (OJ_P (P_assign rfl) rfl ?_)
        refine RJ_nil ?_
        refine QJ_then ?_
        refine CJ_seq ?_
        refine CJ_region ?_
        refine RJ_op rfl (OJ_P (P_indexArr (i := 0) rfl rfl rfl Try.runUnderlying29 Try.sizeOf3) rfl ?_)
        refine RJ_op rfl (OJ_V (V_load rfl foc1 rfl Try.isAgg3) rfl ?_)
        refine RJ_op rfl (OJ_P (P_move rfl) rfl ?_)
        refine RJ_op rfl (O_call (c_rSize hA (by first | assumption | decide | omega)) rfl Try.call19 (Dels.cons del0 Dels.nil) rfl (fun _ hc9 => ?_))
        refine RJ_op rfl (OJ_P (P_move rfl) rfl ?_)
        refine RJ_op rfl (OJ_P (P_extract rfl rfl) rfl ?_)
        refine RJ_op rfl (OJ_P (P_extract rfl rfl) rfl ?_)
        refine RJ_op rfl (OJ_P (P_assign rfl) rfl ?_)
        refine RJ_op rfl (OJ_P (P_assign rfl) rfl ?_)
        refine RJ_nil ?_
        refine QJ_then ?_
        refine CJ_seq ?_
        refine CJ_region ?_
        refine RJ_op rfl (OJ_P (P_move rfl) rfl ?_)
        refine RJ_op rfl (OJ_P (P_move rfl) rfl ?_)
        refine RJ_op rfl (OJ_P (P_neq rfl rfl) rfl ?_)
        refine RJ_op rfl (OJ_P (P_move rfl) rfl ?_)
        first | (refine RJ_know 122 false rfl (decide_eq_false (by exact fun h => h rfl)) (fun hg3B => ?_)) | (refine RJ_know 122 false rfl (by exact fun h => h rfl) (fun hg3B => ?_))
        refine RJ_gy (GY_yes rfl rfl rfl hg3B) (OJ_P (P_move rfl) rfl ?_)
        refine RJ_gy (GY_yes rfl rfl rfl hg3B) (OJ_P (P_move rfl) rfl ?_)
        refine RJ_gy (GY_yes rfl rfl rfl hg3B) (OJ_P (P_neq rfl rfl) rfl ?_)
        refine RJ_op rfl (OJ_P (P_pickF rfl hg3B rfl) rfl ?_)
        refine RJ_op rfl (OJ_P (P_move rfl) rfl ?_)
        first | (refine RJ_know 127 false rfl (decide_eq_false (by exact fun h => h rfl)) (fun hg4B => ?_)) | (refine RJ_know 127 false rfl (by exact fun h => h rfl) (fun hg4B => ?_))
        refine RJ_gy (GY_yes rfl rfl rfl hg4B) (OJ_P (P_move rfl) rfl ?_)
        refine RJ_gy (GY_yes rfl rfl rfl hg4B) (OJ_P (P_move rfl) rfl ?_)
        refine RJ_gy (GY_yes rfl rfl rfl hg4B) (OJ_P (P_neq rfl rfl) rfl ?_)
        refine RJ_op rfl (OJ_P (P_pickF rfl hg4B rfl) rfl ?_)
        refine RJ_op rfl (OJ_P (P_move rfl) rfl ?_)
        first | (refine RJ_know 132 false rfl (decide_eq_false (by exact fun h => h rfl)) (fun hg5B => ?_)) | (refine RJ_know 132 false rfl (by exact fun h => h rfl) (fun hg5B => ?_))
        refine RJ_gy (GY_yes rfl rfl rfl hg5B) (OJ_P (P_move rfl) rfl ?_)
        refine RJ_gy (GY_yes rfl rfl rfl hg5B) (OJ_P (P_move rfl) rfl ?_)
        refine RJ_gy (GY_yes rfl rfl rfl hg5B) (OJ_P (P_neq rfl rfl) rfl ?_)
        refine RJ_op rfl (OJ_P (P_pickF rfl hg5B rfl) rfl ?_)
        refine RJ_op rfl (OJ_P (P_move rfl) rfl ?_)
        first | (refine RJ_know 137 false rfl (decide_eq_false (by exact fun h => h rfl)) (fun hg6B => ?_)) | (refine RJ_know 137 false rfl (by exact fun h => h rfl) (fun hg6B => ?_))
        refine RJ_gy (GY_yes rfl rfl rfl hg6B) (OJ_P (P_move rfl) rfl ?_)
        refine RJ_gy (GY_yes rfl rfl rfl hg6B) (OJ_P (P_move rfl) rfl ?_)
        refine RJ_gy (GY_yes rfl rfl rfl hg6B) (OJ_P (P_neq rfl rfl) rfl ?_)
        refine RJ_op rfl (OJ_P (P_pickF rfl hg6B rfl) rfl ?_)
        refine RJ_op rfl (OJ_P (P_move rfl) rfl ?_)
        first | (refine RJ_know 142 false rfl (decide_eq_false (by exact fun h => h rfl)) (fun hg7B => ?_)) | (refine RJ_know 142 false rfl (by exact fun h => h rfl) (fun hg7B => ?_))
        refine RJ_gy (GY_yes rfl rfl rfl hg7B) (OJ_P (P_move rfl) rfl ?_)
        refine RJ_gy (GY_yes rfl rfl rfl hg7B) (OJ_P (P_move rfl) rfl ?_)
        refine RJ_gy (GY_yes rfl rfl rfl hg7B) (OJ_P (P_neq rfl rfl) rfl ?_)
        refine RJ_op rfl (OJ_P (P_pickF rfl hg7B rfl) rfl ?_)
        refine RJ_op rfl (OJ_P (P_move rfl) rfl ?_)
        first | (refine RJ_know 147 false rfl (decide_eq_false (by exact fun h => h rfl)) (fun hg8B => ?_)) | (refine RJ_know 147 false rfl (by exact fun h => h rfl) (fun hg8B => ?_))
        refine RJ_gy (GY_yes rfl rfl rfl hg8B) (OJ_P (P_move rfl) rfl ?_)
        refine RJ_gy (GY_yes rfl rfl rfl hg8B) (OJ_P (P_move rfl) rfl ?_)
        refine RJ_gy (GY_yes rfl rfl rfl hg8B) (OJ_P (P_neq rfl rfl) rfl ?_)
        refine RJ_op rfl (OJ_P (P_pickF rfl hg8B rfl) rfl ?_)
        refine RJ_nil ?_
        refine QJ_then ?_
        first | (refine CJ_condF rfl (decide_eq_false (by exact fun h => h rfl)) ?_) | (refine CJ_condF rfl (by exact fun h => h rfl) ?_)
        refine CJ_skip ?_
        refine QJ_block_normal ?_
        refine QJ_then ?_
        refine CJ_region ?_
        refine RJ_op rfl (OJ_P (P_move rfl) rfl ?_)
        refine RJ_op rfl (OJ_P (P_add rfl rfl (by first | omega | (simp only [List.length_cons, List.length_nil] at *; omega))) rfl ?_)
        refine RJ_op rfl (OJ_P (P_assign rfl) rfl ?_)
        refine RJ_nil ?_
        refine QJ_nextR (k + 1) (by first | omega | (simp only []; omega)) ?_ (by repeat (first | exact Kp.base | exact Kp.self | refine Kp.cons rfl ?_ | refine Kp.forget rfl ?_)) ?_ (Ent.take del2 (Ent.take del0 (Ent.drop Ent.refl)))
        · omega
        · exact ⟨rfl, True.intro⟩
      ·
        skip
        refine CJ_exit ?_
        refine QJ_then_exit ?_
        refine QJ_round_exit ?_
        refine QJ_block_here ?_
        refine QJ_then ?_
        refine CJ_seq ?_
        refine CJ_region ?_
        refine RJ_op rfl (O_call (c_awake17) rfl Try.call14 Dels.nil rfl (fun _ hc10 => ?_))
        refine RJ_op rfl (OJ_P (P_assign rfl) rfl ?_)
        refine RJ_nil ?_
        refine QJ_then ?_
        refine CJ_ret ?_
        refine QJ_end (res1 Try.results4 rfl) ?_
        refine CSpec.close () ?_ ?_ (Ent.take del1 (Ent.drop Ent.refl))
        · rfl
        · trivial

theorem c_StripeEven {W : World} {a b o : Int} (ha : 0 ≤ a ∧ a ≤ 255) (hb : 0 ≤ b ∧ b ≤ 255) (ho : 0 ≤ o ∧ o ≤ 65535) :
    CSpec Try.prog W 3 [.int .u8 a, .int .u8 b, .int .u16 o] [] (fun _ : Unit => .bool true) (fun _ => True) (fun _ F => F) := by
  obtain ⟨k, hk, hk1⟩ : ∃ k : Nat, (k : Int) = 1 + b % 6 ∧ 1 ≤ k ∧ k ≤ 6 := ⟨(1 + b % 6).toNat, by omega, by omega⟩
  refine CSpec.of_body Try.func3 rfl Try.ntmps3 rfl (fun F => ?_)
  show CJ _ _ _ _ _ _ (F)
  refine CJ_seq ?_
  refine CJ_region ?_
  refine RJ_op rfl (OJ_P (P_assign rfl) rfl ?_)
  refine RJ_nil ?_
  refine QJ_then ?_
  refine CJ_seq ?_
  refine CJ_region ?_
  refine RJ_op rfl (OJ_P (P_move rfl) rfl ?_)
  refine RJ_op rfl (OJ_P (P_rem rfl rfl (by omega)) rfl ?_)
  refine RJ_op rfl (OJ_P (P_convSame rfl Try.runUnderlying5 Try.runUnderlying3 (by first | rfl | exact wrap64_in (by omega) (by omega))) rfl ?_)
  refine RJ_op rfl (OJ_P (P_add rfl rfl (by omega)) rfl ?_)
  refine RJ_op rfl (OJ_P (P_move rfl) rfl ?_)
  refine RJ_op rfl (OJ_P (P_convSame rfl Try.runUnderlying5 Try.runUnderlying3 (by first | rfl | exact wrap64_in (by omega) (by omega))) rfl ?_)
  refine RJ_op rfl (OJ_P (P_rem rfl rfl (by omega)) rfl ?_)
  refine RJ_op rfl (OJ_P (P_add rfl rfl (by omega)) rfl ?_)
  refine RJ_op rfl (OJ_P (P_assign rfl) rfl ?_)
  refine RJ_op rfl (OJ_P (P_assign rfl) rfl ?_)
  refine RJ_nil ?_
  refine QJ_then ?_
  refine CJ_seq ?_
  refine CJ_region ?_
  refine RJ_op rfl (OJ_P (P_move rfl) rfl ?_)
  refine RJ_op rfl (O_make (t := tyI) (m := k) (x0 := 0) (z := _) (bytes := _) rfl rfl hk.symm hk.symm Try.underlying23 ⟨Try.t3, by kernel_rfl, rfl, rfl, rfl⟩ rfl (by omega) (by decide) rfl (fun b1 => ?_))
  refine RJ_op rfl (OJ_P (P_assign rfl) rfl ?_)
  refine RJ_nil ?_
  refine QJ_then ?_
  refine CJ_seq ?_
  refine CJ_seq ?_
  refine CJ_region ?_
  refine RJ_op rfl (OJ_P (P_assign rfl) rfl ?_)
  refine RJ_nil ?_
  refine QJ_then ?_
  refine CJ_block ?_
  refine CJ_loopR (X := Nat × List Int) [6, 10, 11, 12, 13, 26, 27, 28, 29, 30, 31, 32, 33, 34, 35, 36, 37, 38, 39, 40, 41, 42, 43, 44, 45, 46, 47, 48, 49, 50, 51, 52, 53, 54, 55, 56, 57, 58, 59, 60, 61, 62, 63, 64, 65] (fun ⟨i, xs⟩  => ([(10, .int .i64 (i : Nat))] : Slots)) (fun ⟨i, xs⟩ R => sl tyI (.slice (some ⟨b1, 0, none⟩) k k) xs :: R) (fun ⟨i, xs⟩  => (i : Int) ≤ o % 300 ∧ xs.length = k ∧ ∀ l : Nat, l < k → xs.getD l 0 = nxF (1 + a % 6) (1 + b % 6) i l) (fun ⟨i, xs⟩  => 300 - i) ⟨0, List.replicate k 0⟩ ?_ ?_ (Ent.take del0 Ent.refl) ?_
  ·
    refine ⟨by omega, by simp, fun l hl => ?_⟩
    rw [show ((0 : Nat) : Int) = 0 from rfl, nxF_zero _ _ _ (by omega)]
    simp [List.getD, hl]
  · exact ⟨rfl, True.intro⟩
  ·
    rintro ⟨i, xs⟩ ⟨hi, hlen, hn⟩
    show CJ _ _ _ _ _ (([(10, .int .i64 (i : Nat))] : Slots) ++ forget _ _) (sl tyI (.slice (some ⟨b1, 0, none⟩) k k) xs :: _)
    refine CJ_seq ?_
    refine CJ_seq ?_
    refine CJ_region ?_
    refine RJ_op rfl (OJ_P (P_move rfl) rfl ?_)
    refine RJ_op rfl (OJ_P (P_move rfl) rfl ?_)
    refine RJ_op rfl (OJ_P (P_convSame rfl Try.runUnderlying22 Try.runUnderlying3 (by first | rfl | exact wrap64_in (by omega) (by omega))) rfl ?_)
    refine RJ_op rfl (OJ_P (P_rem rfl rfl (by omega)) rfl ?_)
    refine RJ_op rfl (OJ_P (P_lss rfl rfl) rfl ?_)
    refine RJ_nil ?_
    refine QJ_then ?_
    first | (refine CJ_condD rfl (fun hg1 => ?_) (fun hg1 => ?_)) | (refine CJ_condN rfl (fun hg1 => ?_) (fun hg1 => ?_)) | (refine CJ_cond rfl (fun hg1 => ?_) (fun hg1 => ?_))
    ·
      refine CJ_skip ?_
      refine QJ_then ?_
      refine CJ_seq ?_
      refine CJ_block ?_
      refine CJ_seq ?_
      refine CJ_region ?_
      refine RJ_op rfl (OJ_P (P_move rfl) rfl ?_)
      refine RJ_op rfl (OJ_P (P_move rfl) rfl ?_)
      refine RJ_op rfl (OJ_P (P_move rfl) rfl ?_)
      refine RJ_op rfl (O_call (c_Place) rfl Try.call13 Dels.nil rfl (fun _ hc2 => ?_))
      refine RJ_op rfl (OJ_P (P_move rfl) rfl ?_)
      refine RJ_op rfl (OJ_P (P_extract rfl rfl) rfl ?_)
      refine RJ_op rfl (OJ_P (P_extract rfl rfl) rfl ?_)
      refine RJ_op rfl (OJ_P (P_extract rfl rfl) rfl ?_)
      refine RJ_op rfl (OJ_P (P_assign rfl) rfl ?_)
      refine RJ_op rfl (OJ_P (P_assign rfl) rfl ?_)
      refine RJ_op rfl (OJ_P (P_assign rfl) rfl ?_)
      refine RJ_nil ?_
      refine QJ_then ?_
      refine CJ_seq ?_
      refine CJ_seq ?_
      refine CJ_region ?_
      have hP : PlV (1 + a % 6) (1 + b % 6) i := by unfold PlV; omega
      obtain ⟨q1, q2, q3, q4, q5⟩ := even_step hP
      obtain ⟨lg, hlg⟩ : ∃ lg : Nat, (lg : Int) = pl1 (1 + a % 6) (1 + b % 6) i := ⟨(pl1 (1 + a % 6) (1 + b % 6) i).toNat, by omega⟩
      have q6 : pl2 (1 + a % 6) (1 + b % 6) i = xs.getD lg tyI.dflt := by rw [q5, ← hlg]; exact (hn lg (by omega)).symm
      have q7 := nxF_bd (c := 1 + a % 6) (k := 1 + b % 6) (i := i) (l := lg) (by omega) (by omega) (by omega)
      have q8 : xs.getD lg tyI.dflt = nxF (1 + a % 6) (1 + b % 6) i lg := hn lg (by omega)
      rw [← hlg]
      refine RJ_op rfl (OJ_P (P_move rfl) rfl ?_)
      refine RJ_op rfl (OJ_P (P_neq rfl rfl) rfl ?_)
      refine RJ_op rfl (OJ_P (P_move rfl) rfl ?_)
      first | (refine RJ_know 43 false rfl (decide_eq_false (by exact fun h => h q1)) (fun hg2B => ?_)) | (refine RJ_know 43 false rfl (by exact fun h => h q1) (fun hg2B => ?_))
      refine RJ_gy (GY_yes rfl rfl rfl hg2B) (OJ_P (P_move rfl) rfl ?_)
      refine RJ_gy (GY_yes rfl rfl rfl hg2B) (OJ_P (P_lss rfl rfl) rfl ?_)
      refine RJ_op rfl (OJ_P (P_pickF rfl hg2B rfl) rfl ?_)
      refine RJ_op rfl (OJ_P (P_move rfl) rfl ?_)
      first | (refine RJ_know 47 false rfl (decide_eq_false (by omega)) (fun hg3B => ?_)) | (refine RJ_know 47 false rfl (by omega) (fun hg3B => ?_))
      refine RJ_gy (GY_yes rfl rfl rfl hg3B) (OJ_P (P_move rfl) rfl ?_)
      refine RJ_gy (GY_yes rfl rfl rfl hg3B) (OJ_P (P_move rfl) rfl ?_)
      refine RJ_gy (GY_yes rfl rfl rfl hg3B) (OJ_P (P_geq rfl rfl) rfl ?_)
      refine RJ_op rfl (OJ_P (P_pickF rfl hg3B rfl) rfl ?_)
      refine RJ_op rfl (OJ_P (P_move rfl) rfl ?_)
      first | (refine RJ_know 52 false rfl (decide_eq_false (by omega)) (fun hg4B => ?_)) | (refine RJ_know 52 false rfl (by omega) (fun hg4B => ?_))
      refine RJ_gy (GY_yes rfl rfl rfl hg4B) (OJ_P (P_move rfl) rfl ?_)
      refine RJ_gy (GY_yes rfl rfl rfl hg4B) (OJ_P (P_move rfl) rfl ?_)
      refine RJ_gy (GY_yes rfl rfl rfl hg4B) (OJ_P (P_move rfl) rfl ?_)
      first | (refine RJ_gy (GY_yes rfl rfl rfl hg4B) (OJ_V (V_index rfl rfl rfl (by omega) foc0 (Reads.sl _ _ _) Try.runUnderlying23 Try.sizeOf3) rfl ?_)) | (refine RJ_gy (GY_yes rfl rfl rfl hg4B) (OJ_V (V_index rfl rfl (Int.toNat_of_nonneg (by omega)).symm (by omega) foc0 (Reads.sl _ _ _) Try.runUnderlying23 Try.sizeOf3) rfl ?_))
      refine RJ_gy (GY_yes rfl rfl rfl hg4B) (OJ_V (V_loadE rfl rfl (by omega) foc0 (Reads.sl _ _ _) rfl rfl Try.isAgg3) rfl ?_)
      refine RJ_gy (GY_yes rfl rfl rfl hg4B) (OJ_P (P_neq rfl rfl) rfl ?_)
      refine RJ_op rfl (OJ_P (P_pickF rfl hg4B rfl) rfl ?_)
      refine RJ_nil ?_
      refine QJ_then ?_
      first | (refine CJ_condF rfl (decide_eq_false (by exact fun h => h q6)) ?_) | (refine CJ_condF rfl (by exact fun h => h q6) ?_)
      refine CJ_skip ?_
      refine QJ_then ?_
      refine CJ_region ?_
      refine RJ_op rfl (OJ_P (P_move rfl) rfl ?_)
      refine RJ_op rfl (OJ_P (P_move rfl) rfl ?_)
      first | (refine RJ_op rfl (OJ_V (V_index rfl rfl rfl (by omega) foc0 (Reads.sl _ _ _) Try.runUnderlying23 Try.sizeOf3) rfl ?_)) | (refine RJ_op rfl (OJ_V (V_index rfl rfl (Int.toNat_of_nonneg (by omega)).symm (by omega) foc0 (Reads.sl _ _ _) Try.runUnderlying23 Try.sizeOf3) rfl ?_))
      refine RJ_op rfl (OJ_V (V_loadE rfl rfl (by omega) foc0 (Reads.sl _ _ _) rfl rfl Try.isAgg3) rfl ?_)
      refine RJ_op rfl (OJ_P (P_add rfl rfl (by omega)) rfl ?_)
      first | (refine RJ_op rfl (OJ_V (V_index rfl rfl rfl (by omega) foc0 (Reads.sl _ _ _) Try.runUnderlying23 Try.sizeOf3) rfl ?_)) | (refine RJ_op rfl (OJ_V (V_index rfl rfl (Int.toNat_of_nonneg (by omega)).symm (by omega) foc0 (Reads.sl _ _ _) Try.runUnderlying23 Try.sizeOf3) rfl ?_))
      refine RJ_op rfl (O_storeE (x' := _) rfl rfl rfl (by omega) foc0 rfl rfl rfl Try.sizeOf3 ?_)
      refine RJ_nil ?_
      refine QJ_block_normal ?_
      refine QJ_then ?_
      refine CJ_region ?_
      refine RJ_op rfl (OJ_P (P_move rfl) rfl ?_)
      refine RJ_op rfl (OJ_P (P_add rfl rfl (by omega)) rfl ?_)
      refine RJ_op rfl (OJ_P (P_assign rfl) rfl ?_)
      refine RJ_nil ?_
      refine QJ_nextR ⟨i + 1, xs.set lg (xs.getD lg 0 + 1)⟩ (by first | omega | (simp only []; omega)) ?_ (by repeat (first | exact Kp.base | exact Kp.self | refine Kp.cons rfl ?_ | refine Kp.forget rfl ?_)) ?_ (Ent.take del0 Ent.refl)
      ·
        refine ⟨by omega, by simpa using hlen, fun l hl => ?_⟩
        have hs := nxF_succ (c := 1 + a % 6) (k := 1 + b % 6) (i := i) (l := l) (by omega) (by omega) (by omega)
        rw [getD_setI xs lg l _ (by omega), show ((i + 1 : Nat) : Int) = (i : Int) + 1 from rfl, hs]
        by_cases hll : l = lg
        · subst hll; rw [if_pos rfl, if_pos (by omega)]; have := hn l hl; omega
        · rw [if_neg hll, if_neg (by omega)]; have := hn l hl; omega
      · exact ⟨rfl, True.intro⟩
    ·
      refine CJ_exit ?_
      refine QJ_then_exit ?_
      refine QJ_round_exit ?_
      refine QJ_block_here ?_
      refine QJ_then ?_
      refine CJ_seq ?_
      refine CJ_seq ?_
      refine CJ_region ?_
      refine RJ_op rfl (OJ_P (P_assign rfl) rfl ?_)
      refine RJ_nil ?_
      refine QJ_then ?_
      refine CJ_block ?_
      refine CJ_loopR (X := Nat) [6, 14, 15, 66, 67, 68, 69, 70, 71, 72, 73, 74, 75, 76, 77, 78, 79, 80, 81, 82, 83, 84, 85, 86] (fun y  => ([(14, .int .i64 (y : Nat))] : Slots)) (fun y R => R) (fun y  => y ≤ k) (fun y  => k - y) (0) ?_ ?_ (Ent.take del0 Ent.refl) ?_
      · omega
      · exact ⟨rfl, True.intro⟩
      ·
        intro y hy
        show CJ _ _ _ _ _ (([(14, .int .i64 (y : Nat))] : Slots) ++ forget _ _) (_)
        refine CJ_seq ?_
        refine CJ_seq ?_
        refine CJ_region ?_
        refine RJ_op rfl (OJ_P (P_move rfl) rfl ?_)
        refine RJ_op rfl (OJ_P (P_move rfl) rfl ?_)
        refine RJ_op rfl (OJ_P (P_lss rfl rfl) rfl ?_)
        refine RJ_nil ?_
        refine QJ_then ?_
        first | (refine CJ_condD rfl (fun hg6 => ?_) (fun hg6 => ?_)) | (refine CJ_condN rfl (fun hg6 => ?_) (fun hg6 => ?_)) | (refine CJ_cond rfl (fun hg6 => ?_) (fun hg6 => ?_))
        ·
          refine CJ_skip ?_
          refine QJ_then ?_
          refine CJ_seq ?_
          refine CJ_block ?_
          refine CJ_seq ?_
          refine CJ_region ?_
          refine RJ_op rfl (OJ_P (P_assign rfl) rfl ?_)
          refine RJ_nil ?_
          refine QJ_then ?_
          refine CJ_block ?_
          refine CJ_loopR (X := Nat) [6, 15, 71, 72, 73, 74, 75, 76, 77, 78, 79, 80, 81, 82, 83, 84, 85, 86] (fun z  => ([(15, .int .i64 (z : Nat))] : Slots)) (fun z R => R) (fun z  => z ≤ k) (fun z  => k - z) (0) ?_ ?_ (Ent.take del0 Ent.refl) ?_
          · omega
          · exact ⟨rfl, True.intro⟩
          ·
            intro z hz
            show CJ _ _ _ _ _ (([(15, .int .i64 (z : Nat))] : Slots) ++ forget _ _) (_)
            refine CJ_seq ?_
            refine CJ_seq ?_
            refine CJ_region ?_
            refine RJ_op rfl (OJ_P (P_move rfl) rfl ?_)
            refine RJ_op rfl (OJ_P (P_move rfl) rfl ?_)
            refine RJ_op rfl (OJ_P (P_lss rfl rfl) rfl ?_)
            refine RJ_nil ?_
            refine QJ_then ?_
            first | (refine CJ_condD rfl (fun hg7 => ?_) (fun hg7 => ?_)) | (refine CJ_condN rfl (fun hg7 => ?_) (fun hg7 => ?_)) | (refine CJ_cond rfl (fun hg7 => ?_) (fun hg7 => ?_))
            ·
              refine CJ_skip ?_
              refine QJ_then ?_
              refine CJ_seq ?_
              refine CJ_block ?_
              refine CJ_seq ?_
              refine AJ_startH 0 (by kernel_rfl) rfl ?_
              have r1 : xs.getD y tyI.dflt = nxF (1 + a % 6) (1 + b % 6) i y := hn y (by omega)
              have r2 : xs.getD z tyI.dflt = nxF (1 + a % 6) (1 + b % 6) i z := hn z (by omega)
              have r3 := nxF_bd (c := 1 + a % 6) (k := 1 + b % 6) (i := i) (l := y) (by omega) (by omega) (by omega)
              have r4 := nxF_bd (c := 1 + a % 6) (k := 1 + b % 6) (i := i) (l := z) (by omega) (by omega) (by omega)
              have r5 := nxF_apart (c := 1 + a % 6) (k := 1 + b % 6) (i := i) (by omega) y z
              refine AJ_takeP 0 1 rfl (by kernel_rfl) rfl (GY_none rfl) (P_move rfl) rfl (fun _ _ _ _ h => h) ?_
              refine AJ_takeP 1 3 rfl (by kernel_rfl) rfl (GY_none rfl) (P_move rfl) rfl (fun _ _ _ _ h => h) ?_
              first | (refine AJ_takeV 2 7 rfl (by kernel_rfl) rfl (by kernel_rfl) (by kernel_rfl) (GY_none rfl) (Ent.take del0 Ent.refl) (V_index rfl rfl rfl (by omega) foc0 (Reads.sl _ _ _) Try.runUnderlying23 Try.sizeOf3) rfl (fun _ _ _ _ h => h) ?_) | (refine AJ_takeV 2 7 rfl (by kernel_rfl) rfl (by kernel_rfl) (by kernel_rfl) (GY_none rfl) (Ent.take del0 Ent.refl) (V_index rfl rfl (Int.toNat_of_nonneg (by omega)).symm (by omega) foc0 (Reads.sl _ _ _) Try.runUnderlying23 Try.sizeOf3) rfl (fun _ _ _ _ h => h) ?_)
              refine AJ_takeV 3 15 rfl (by kernel_rfl) rfl (by kernel_rfl) (by kernel_rfl) (GY_none rfl) (Ent.take del0 Ent.refl) (V_loadE rfl rfl (by omega) foc0 (Reads.sl _ _ _) rfl rfl Try.isAgg3) rfl (fun _ _ _ _ h => h) ?_
              refine AJ_takeP 4 31 rfl (by kernel_rfl) rfl (GY_none rfl) (P_move rfl) rfl (fun _ _ _ _ h => h) ?_
              refine AJ_takeP 5 63 rfl (by kernel_rfl) rfl (GY_none rfl) (P_move rfl) rfl (fun _ _ _ _ h => h) ?_
              first | (refine AJ_takeV 6 127 rfl (by kernel_rfl) rfl (by kernel_rfl) (by kernel_rfl) (GY_none rfl) (Ent.take del0 Ent.refl) (V_index rfl rfl rfl (by omega) foc0 (Reads.sl _ _ _) Try.runUnderlying23 Try.sizeOf3) rfl (fun _ _ _ _ h => h) ?_) | (refine AJ_takeV 6 127 rfl (by kernel_rfl) rfl (by kernel_rfl) (by kernel_rfl) (GY_none rfl) (Ent.take del0 Ent.refl) (V_index rfl rfl (Int.toNat_of_nonneg (by omega)).symm (by omega) foc0 (Reads.sl _ _ _) Try.runUnderlying23 Try.sizeOf3) rfl (fun _ _ _ _ h => h) ?_)
              refine AJ_takeV 7 255 rfl (by kernel_rfl) rfl (by kernel_rfl) (by kernel_rfl) (GY_none rfl) (Ent.take del0 Ent.refl) (V_loadE rfl rfl (by omega) foc0 (Reads.sl _ _ _) rfl rfl Try.isAgg3) rfl (fun _ _ _ _ h => h) ?_
              refine AJ_takeP 8 511 rfl (by kernel_rfl) rfl (GY_none rfl) (P_sub rfl rfl (by omega)) rfl (fun _ _ _ _ h => h) ?_
              refine AJ_takeP 9 1023 rfl (by kernel_rfl) rfl (GY_none rfl) (P_move rfl) rfl (fun _ _ _ _ h => h) ?_
              refine AJ_takeP 10 2047 rfl (by kernel_rfl) rfl (GY_none rfl) (P_gtr rfl rfl) rfl (fun _ _ _ _ h => h) ?_
              refine AJ_done (by kernel_rfl) ?_
              refine QJ_then ?_
              first | (refine CJ_condF rfl (decide_eq_false (by omega)) ?_) | (refine CJ_condF rfl (by omega) ?_)
              refine CJ_skip ?_
              refine QJ_block_normal ?_
              refine QJ_then ?_
              refine CJ_region ?_
              refine RJ_op rfl (OJ_P (P_move rfl) rfl ?_)
              refine RJ_op rfl (OJ_P (P_add rfl rfl (by omega)) rfl ?_)
              refine RJ_op rfl (OJ_P (P_assign rfl) rfl ?_)
              refine RJ_nil ?_
              refine QJ_nextR (z + 1) (by first | omega | (simp only []; omega)) ?_ (by repeat (first | exact Kp.base | exact Kp.self | refine Kp.cons rfl ?_ | refine Kp.forget rfl ?_)) ?_ (Ent.take del0 Ent.refl)
              · omega
              · exact ⟨rfl, True.intro⟩
            ·
              refine CJ_exit ?_
              refine QJ_then_exit ?_
              refine QJ_round_exit ?_
              refine QJ_block_here ?_
              refine QJ_block_normal ?_
              refine QJ_then ?_
              refine CJ_region ?_
              refine RJ_op rfl (OJ_P (P_move rfl) rfl ?_)
              refine RJ_op rfl (OJ_P (P_add rfl rfl (by omega)) rfl ?_)
              refine RJ_op rfl (OJ_P (P_assign rfl) rfl ?_)
              refine RJ_nil ?_
              refine QJ_nextR (y + 1) (by first | omega | (simp only []; omega)) ?_ (by repeat (first | exact Kp.base | exact Kp.self | refine Kp.cons rfl ?_ | refine Kp.forget rfl ?_)) ?_ (Ent.take del0 Ent.refl)
              · omega
              · exact ⟨rfl, True.intro⟩
        ·
          refine CJ_exit ?_
          refine QJ_then_exit ?_
          refine QJ_round_exit ?_
          refine QJ_block_here ?_
          refine QJ_then ?_
          refine CJ_seq ?_
          refine CJ_region ?_
          refine RJ_op rfl (O_call (c_awake17) rfl Try.call14 Dels.nil rfl (fun _ hc3 => ?_))
          refine RJ_op rfl (OJ_P (P_assign rfl) rfl ?_)
          refine RJ_nil ?_
          refine QJ_then ?_
          refine CJ_ret ?_
          refine QJ_end (res1 Try.results3 rfl) ?_
          refine CSpec.close () ?_ ?_ (Ent.drop Ent.refl)
          · rfl
          · trivial

end Go.Proofs
