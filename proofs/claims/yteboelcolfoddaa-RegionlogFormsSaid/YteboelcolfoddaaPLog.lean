/- Logs of regions on a disk: what Format, Open and the questions do. -/
import Derived.Test.YteboelcolfoddaaPBits
import Derived.Test.YteboelcolfoddaaPUp
import Derived.Test.YteboelcolfoddaaPAll
import Derived.Test.YteboelcolfoddaaPFlat0
import Derived.Test.YteboelcolfoddaaLRef20
namespace Go.Proofs
open Go.VG
abbrev xL (d m : Nat) : Dvc := Dvc.span (d : Int) ((0 : Nat) : Int) (m : Int)
def headL (R : Nat) : UInt64 := (5498691735368237056 : UInt64) + to_u64 (R : Int)
def nW (R : Nat) : Nat := (R + 63) / 64
theorem wordsI {r : Int} : regionlog_Words r = some (if r < 1 ∨ 1048576 < r then 0 else 1 + (r + 63) / 64) := by unfold regionlog_Words; split <;> rfl
theorem wordsN {R : Nat} (hR : 1 ≤ R ∧ R ≤ 1048576) : regionlog_Words (R : Int) = some (((1 + nW R : Nat) : Int)) := by
  rw [wordsI, if_neg (by omega)]; exact congrArg some (by unfold nW; omega)
theorem refWordsI {r : Int} : volumegroupref20_Words r = some (if r < 1 ∨ 1048576 < r then 0 else 1 + (r + 63) / 64) := by unfold volumegroupref20_Words; split <;> rfl
section
variable {ns : List Nat} {K d m : Nat} {s : ArrS}
theorem log_rd (hd : d < ns.length) (hm : ns.getD d 0 = m) (hb : m ≤ 1000000) (h : ArrOk ns K s) (hdn : s.down = false) (hms : miss s d = false) {k : Nat} (hk : k < m) : (xL d m).rd s (k : Int) = some (now s d k, 0) := by
  obtain ⟨h1, h2⟩ := h.rdA hdn hd (a := k) (by rw [hm]; exact hk) hms
  rw [span_rd (by omega) (by omega), if_pos (by omega)]
  have e : ((0 : Nat) : Int) + (k : Int) = ((k : Nat) : Int) := by omega
  rw [e, h1, h2]
theorem log_wr (hd : d < ns.length) (hm : ns.getD d 0 = m) (hb : m ≤ 1000000) (h : ArrOk ns K s) (hK : K ≤ 1000000) {k : Nat} {v : UInt64} (hk : k < m) : (xL d m).wr s (k : Int) v = some (wrR s d k, wrS s d k v) := by
  rw [span_wr (by omega) (by omega) (by have := h.wr; omega), if_pos (by omega)]
  have e : ((0 : Nat) : Int) + (k : Int) = ((k : Nat) : Int) := by omega
  rw [e]
theorem log_fl (hd : d < ns.length) (hm : ns.getD d 0 = m) (hb : m ≤ 1000000) (h : ArrOk ns K s) (hK : K ≤ 1000000) : (xL d m).fl s = some (flC s d, flS s d) := span_fl (by have := h.wr; omega)
/-- Zeros written from sector 1 on. -/
def zs (d : Nat) (s : ArrS) : Nat → ArrS
  | 0 => s
  | i + 1 => wrS (zs d s i) d ((1 + i : Nat) : Int) 0
structure Zd (ns : List Nat) (K d : Nat) (s : ArrS) (i : Nat) (t : ArrS) : Prop where
  ok : ArrOk ns (K + i) t
  dn : t.down = false
  fuse : t.fuse = 0
  miss : ∀ e, Go.Proofs.miss t e = Go.Proofs.miss s e
  now : ∀ e b, Go.Proofs.now t e b = if e = d ∧ 1 ≤ b ∧ b < 1 + i then 0 else Go.Proofs.now s e b
  other : ∀ e b, e ≠ d → cand t e b = cand s e b
theorem zs_ok (hd : d < ns.length) (hm : ns.getD d 0 = m) (hb : m ≤ 1000000) (h : ArrOk ns K s) (hdn : s.down = false) (hms : miss s d = false) (hf : s.fuse = 0) : ∀ {i : Nat}, 1 + i ≤ m → K + i ≤ 1000000 → Zd ns K d s i (zs d s i)
  | 0, _, _ => ⟨h, hdn, hf, fun _ => rfl, fun e b => by rw [if_neg (by omega)]; rfl, fun _ _ _ => rfl⟩
  | i + 1, hi, hK => by
    have hz := zs_ok hd hm hb h hdn hms hf (i := i) (by omega) (by omega)
    rcases hz.ok.wrA (d := d) (a := 1 + i) (v := 0) (by omega) hz.dn hd (by rw [hm]; omega) (by rw [hz.miss]; exact hms) with ⟨h1, h2, h3⟩ | ⟨h1, -⟩
    · refine ⟨h3.ok, h3.dn, by show (wrS _ _ _ _).fuse = 0; rw [h3.fuse, hz.fuse], fun e => by show miss (wrS _ _ _ _) e = _; rw [h3.miss, hz.miss], fun e b => ?_, fun e b he => ?_⟩
      · show now (wrS _ _ _ _) e b = _
        rw [h3.now, hz.now]
        by_cases h4 : d = e ∧ 1 + i = b
        · rw [if_pos h4, if_pos (by omega)]
        · rw [if_neg h4]
          by_cases h5 : e = d ∧ 1 ≤ b ∧ b < 1 + i
          · rw [if_pos h5, if_pos (by omega)]
          · rw [if_neg h5, if_neg (by omega)]
      · show cand (wrS _ _ _ _) e b = _
        rw [h3.cand, if_neg (fun x => he x.1.symm), hz.other e b he]
    · rw [hz.fuse] at h1; cases h1
/-- What Format leaves. -/
structure Fresh (ns : List Nat) (K d m R : Nat) (s t : ArrS) : Prop where
  ok : ArrOk ns K t
  dn : t.down = false
  fuse : t.fuse = 0
  miss : ∀ e, Go.Proofs.miss t e = Go.Proofs.miss s e
  now : ∀ b, b < m → Go.Proofs.now t d b = if b = 0 then headL R else if b < 1 + nW R then 0 else Go.Proofs.now s d b
  cand : ∀ b, b < m → Go.Proofs.cand t d b = [Go.Proofs.now t d b]
  other : ∀ e b, e ≠ d → e < ns.length → b < ns.getD e 0 → Go.Proofs.now t e b = Go.Proofs.now s e b ∧ Go.Proofs.cand t e b = Go.Proofs.cand s e b
  last : ∃ u, Coh u ∧ u.drv.length = ns.length ∧ flC u d = 0 ∧ t = flS u d
theorem checkN (hd : d < ns.length) (hm : ns.getD d 0 = m) (hb : m ≤ 1000000) {R : Nat} (hR : 1 ≤ R ∧ R ≤ 1048576) : regionlog_check (xL d m) (R : Int) s = some (if m < 1 + nW R then 3 else 0) := by
  unfold regionlog_check
  rw [wordsN hR]; simp only [Option.bind_some]
  rw [if_neg (by omega), span_size]; simp only [Option.bind_some]
  by_cases h : m < 1 + nW R
  · rw [if_pos (by omega), if_pos h]
  · rw [if_neg (by omega), if_neg h]
theorem format_eq (hd : d < ns.length) (hm : ns.getD d 0 = m) (hb : m ≤ 1000000) (h : ArrOk ns K s) (hdn : s.down = false) (hms : miss s d = false) (hf : s.fuse = 0) {R : Nat} (hR : 1 ≤ R ∧ R ≤ 1048576) (hW : 1 + nW R ≤ m) (hK : K + m ≤ 1000000) :
    ∃ t, regionlog_Format (xL d m) (R : Int) s = some (0, t) ∧ Fresh ns (K + nW R + 1) d m R s t := by
  unfold regionlog_Format
  rw [checkN hd hm hb hR, if_neg (by omega)]; simp only [Option.bind_some]
  rw [if_neg (by decide), wordsN hR]; simp only [Option.bind_some]
  have hn16 : nW R ≤ 16384 := by unfold nW; omega
  have e1 : ((1 + nW R : Nat) : Int) - 1 = ((nW R : Nat) : Int) := by omega
  rw [e1, grd_t (inI64_of (by omega)), grd_t (decide_eq_true ⟨by omega, by omega⟩), Int.toNat_natCast]
  have hz := fun i (hi : i ≤ nW R) => zs_ok hd hm hb h hdn hms hf (i := i) (by omega) (by omega)
  have hwa := writeAll_eq (x := xL d m) (at_ := 1) (m := (m : Int)) (l := List.replicate (nW R) 0) (st := zs d s) rfl (by omega) ⟨by omega, by rw [List.length_replicate]; omega⟩ (fun i hi => by
    rw [List.length_replicate] at hi
    have e2 : (1 : Int) + (i : Int) = ((1 + i : Nat) : Int) := by omega
    have hzi := hz i (by omega)
    rw [e2, log_wr hd hm hb hzi.ok (by omega) (by omega)]
    have e3 : (List.replicate (nW R) (0 : UInt64)).getD i 0 = 0 := by simp [List.getD, hi]
    rw [e3]
    rcases hzi.ok.wrA (d := d) (a := 1 + i) (v := 0) (by omega) hzi.dn hd (by rw [hm]; omega) (by rw [hzi.miss]; exact hms) with ⟨-, h2, -⟩ | ⟨h1, -⟩
    · rw [h2]; rfl
    · rw [hzi.fuse] at h1; cases h1)
  rw [List.length_replicate] at hwa
  have hz0 : zs d s 0 = s := rfl
  rw [hz0] at hwa
  rw [hwa]; simp only [Option.bind_some]
  have hzn := hz (nW R) (Nat.le_refl _)
  rw [if_neg (by decide), log_fl hd hm hb hzn.ok (by omega)]; simp only [Option.bind_some]
  obtain ⟨f1, f2⟩ := hzn.ok.flA (d := d) hzn.dn hd (by rw [hzn.miss]; exact hms)
  rw [if_neg (by rw [f1]; decide)]
  have e0 : (0 : Int) = ((0 : Nat) : Int) := rfl
  rw [e0, log_wr hd hm hb f2.ok (by omega) (by omega)]; simp only [Option.bind_some]
  rcases f2.ok.wrA (d := d) (a := 0) (v := (5498691735368237056 : UInt64) + to_u64 (R : Int)) (by omega) f2.dn hd (by rw [hm]; omega) (by rw [f2.miss, hzn.miss]; exact hms) with ⟨-, g2, g3⟩ | ⟨g1, -⟩
  · rw [g2, if_neg (by decide), log_fl hd hm hb g3.ok (by omega)]; simp only [Option.bind_some]
    obtain ⟨k1, k2⟩ := g3.ok.flA (d := d) g3.dn hd (by rw [g3.miss, f2.miss, hzn.miss]; exact hms)
    rw [k1]
    refine ⟨_, rfl, k2.ok, k2.dn, by rw [k2.fuse, g3.fuse, f2.fuse, hzn.fuse], fun e => by rw [k2.miss, g3.miss, f2.miss, hzn.miss], fun b hbm => ?_, fun b hbm => ?_, fun e b he hel hbl => ?_, _, g3.ok.coh, g3.ok.sz.cnt, k1, rfl⟩
    · rw [k2.now, g3.now, f2.now, hzn.now]
      by_cases b0 : b = 0
      · subst b0; rw [if_pos ⟨rfl, rfl⟩, if_pos rfl]; rfl
      · rw [if_neg (fun x => b0 x.2.symm), if_neg b0]
        by_cases b1 : b < 1 + nW R
        · rw [if_pos ⟨rfl, by omega, b1⟩, if_pos b1]
        · rw [if_neg (fun x => b1 x.2.2), if_neg b1]
    · rw [k2.cand d b hd (by rw [hm]; exact hbm), if_pos rfl, k2.now]
    · refine ⟨?_, ?_⟩
      · rw [k2.now, g3.now, f2.now, hzn.now, if_neg (fun x => he x.1.symm), if_neg (fun x => he x.1)]
      · rw [k2.cand e b hel hbl, if_neg (fun x => he x.symm), g3.cand, if_neg (fun x => he x.1.symm), f2.cand e b hel hbl, if_neg (fun x => he x.symm), hzn.other e b he]
  · rw [f2.fuse, hzn.fuse] at g1; cases g1
theorem format_no (hd : d < ns.length) (hm : ns.getD d 0 = m) (hb : m ≤ 1000000) {r : Int} (hW : r < 1 ∨ 1048576 < r ∨ (m : Int) < 1 + (r + 63) / 64) : regionlog_Format (xL d m) r s = some (if r < 1 ∨ 1048576 < r then 1 else 3, s) := by
  unfold regionlog_Format regionlog_check
  rw [wordsI]; simp only [Option.bind_some]
  by_cases h : r < 1 ∨ 1048576 < r
  · simp only [if_pos h]; rfl
  · simp only [if_neg h]
    rw [if_neg (by omega), span_size]; simp only [Option.bind_some]
    rw [if_pos (by omega)]; rfl
/-- What Open reads. -/
def openL (x : Dvc) (R : Nat) (f : Nat → UInt64) : LogS := ⟨x, (R : Int), (List.range (nW R)).map fun i => f (1 + i), []⟩
theorem open_eq (hd : d < ns.length) (hm : ns.getD d 0 = m) (hb : m ≤ 1000000) (h : ArrOk ns K s) (hdn : s.down = false) (hms : miss s d = false) {R : Nat} (hR : 1 ≤ R ∧ R ≤ 1048576) (hW : 1 + nW R ≤ m) :
    regionlog_Open (xL d m) (R : Int) s = some (if now s d 0 = headL R then (some (openL (xL d m) R (now s d)), 0) else (none, 2)) := by
  unfold regionlog_Open
  rw [checkN hd hm hb hR, if_neg (by omega)]; simp only [Option.bind_some]
  rw [if_neg (by decide), wordsN hR]; simp only [Option.bind_some]
  rw [readAll_eq (x := xL d m) (at_ := 0) (m := (m : Int)) (f := now s d) rfl (by omega) ⟨by omega, by omega⟩ (fun i hi => by
    have e : (0 : Int) + (i : Int) = ((i : Nat) : Int) := by omega
    rw [e, log_rd hd hm hb h hdn hms (by omega)])]
  simp only [Option.bind_some]
  have hl : ((List.range (1 + nW R)).map (now s d)).length = 1 + nW R := by simp
  have e0 : ((List.range (1 + nW R)).map (now s d)).getD 0 0 = now s d 0 := getD_map_range (by omega)
  rw [if_neg (by decide), grd_t (decide_eq_true (by rw [hl]; omega)), e0]
  by_cases hh : now s d 0 = headL R
  · rw [if_neg (fun x => x hh), if_pos hh, grd_t (decide_eq_true ⟨by rw [hl]; omega, Nat.le_refl _⟩), List.take_length]
    have e2 : ((List.range (1 + nW R)).map (now s d)).drop 1 = (List.range (nW R)).map fun i => now s d (1 + i) := by
      apply List.ext_getElem (by simp)
      intro i h1 h2
      simp [Nat.add_comm]
    rw [e2]; rfl
  · rw [if_pos (show now s d 0 ≠ (5498691735368237056 : UInt64) + to_u64 (R : Int) from hh), if_neg hh]
theorem open_no (hd : d < ns.length) (hm : ns.getD d 0 = m) (hb : m ≤ 1000000) {r : Int} (hW : r < 1 ∨ 1048576 < r ∨ (m : Int) < 1 + (r + 63) / 64) : regionlog_Open (xL d m) r s = some (none, if r < 1 ∨ 1048576 < r then 1 else 3) := by
  unfold regionlog_Open regionlog_check
  rw [wordsI]; simp only [Option.bind_some]
  by_cases h : r < 1 ∨ 1048576 < r
  · simp only [if_pos h]; rfl
  · simp only [if_neg h]
    rw [if_neg (by omega), span_size]; simp only [Option.bind_some]
    rw [if_pos (by omega)]; rfl
end
/-- The dirty regions. -/
def dirtyL (l : List UInt64) (n : Nat) : List Int := ((List.range n).filter fun r => bitR l r).map fun r => ((r : Nat) : Int)
theorem dirtyL_succ {l : List UInt64} {n : Nat} : dirtyL l (n + 1) = dirtyL l n ++ if bitR l n then [((n : Nat) : Int)] else [] := by
  unfold dirtyL
  rw [List.range_succ, List.filter_append, List.map_append]
  congr 1
  by_cases h : bitR l n = true <;> simp [h]
theorem dirtyL_le {l : List UInt64} {n : Nat} : (dirtyL l n).length ≤ n := by
  unfold dirtyL
  rw [List.length_map]
  exact Nat.le_trans (List.length_filter_le _ _) (by simp)
theorem isDirty_eq {l : LogS} {R : Nat} {s : ArrS} {r : Int} (hl : l.regions = (R : Int)) (hn : R ≤ 64 * l.bits.length) (hR : R ≤ 1048576) : regionlog_Log_IsDirty l r s = some (decide (0 ≤ r ∧ r < (R : Int)) && bitR l.bits r.toNat) := by
  unfold regionlog_Log_IsDirty
  rw [hl]
  by_cases h : 0 ≤ r ∧ r < (R : Int)
  · obtain ⟨k, rfl⟩ := Int.eq_ofNat_of_zero_le h.1
    rw [if_neg (by omega), packBit (by omega) (by omega)]
    simp only [Option.bind_some]
    rw [decide_eq_true h, Bool.true_and, Int.toNat_natCast]
  · rw [if_pos (by omega), decide_eq_false h, Bool.false_and]
theorem dirty_l1 {l : LogS} {R : Nat} {s : ArrS} (hl : l.regions = (R : Int)) (hn : R ≤ 64 * l.bits.length) (hR : R ≤ 1048576) : ∀ (N i : Nat), R - i < N → i ≤ R → regionlog_Log_Dirty_l1 l s N (dirtyL l.bits i) i = some (dirtyL l.bits R)
  | 0, _, h, _ => absurd h (by omega)
  | N + 1, i, h, hi => by
    show regionlog_Log_Dirty_l1_b _ _ _ _ _ = _
    unfold regionlog_Log_Dirty_l1_b
    rw [hl]
    by_cases hlt : i < R
    · have hrec := dirty_l1 hl hn hR (s := s) N (i + 1) (by omega) (by omega)
      rw [dirtyL_succ] at hrec
      rw [if_pos (by omega), isDirty_eq hl hn hR]; simp only [Option.bind_some]
      rw [decide_eq_true (⟨by omega, by omega⟩ : 0 ≤ (i : Int) ∧ (i : Int) < (R : Int)), Bool.true_and, Int.toNat_natCast]
      have hle := @dirtyL_le l.bits i
      by_cases hb : bitR l.bits i = true
      · rw [if_pos hb] at hrec
        rw [if_pos hb, grd_t (inLen_of (by omega)), grd_t (inN64_of (by omega)), hrec]
      · rw [if_neg hb, List.append_nil] at hrec
        rw [if_neg hb, grd_t (inN64_of (by omega)), hrec]
    · rw [if_neg (by omega)]
      have : i = R := by omega
      rw [this]
theorem dirty_eq {l : LogS} {R : Nat} {s : ArrS} (hl : l.regions = (R : Int)) (hn : R ≤ 64 * l.bits.length) (hR : R ≤ 1048576) : regionlog_Log_Dirty l s = some (dirtyL l.bits R) := by
  unfold regionlog_Log_Dirty
  have hF := fuel_big
  have h := dirty_l1 hl hn hR (s := s) FUEL 0 (by omega) (by omega)
  have e : dirtyL l.bits 0 = [] := rfl
  rw [e] at h
  rw [h]; rfl
theorem refDirty_l1 {b : List UInt64} {R : Nat} (hn : R ≤ 64 * b.length) (hR : R ≤ 1048576) : ∀ (N i : Nat), R - i < N → i ≤ R → volumegroupref20_Dirty_l1 b (R : Int) N (dirtyL b i) i = some (dirtyL b R)
  | 0, _, h, _ => absurd h (by omega)
  | N + 1, i, h, hi => by
    show volumegroupref20_Dirty_l1_b _ _ _ _ _ = _
    unfold volumegroupref20_Dirty_l1_b
    by_cases hlt : i < R
    · have hrec := refDirty_l1 hn hR N (i + 1) (by omega) (by omega)
      rw [dirtyL_succ] at hrec
      rw [div64 (by omega), if_pos ⟨by omega, by omega⟩, grd_t (decide_eq_true ⟨by omega, by omega⟩), Int.toNat_natCast]
      simp only [lt]
      have hle := @dirtyL_le b i
      by_cases hb : bitR b i = true
      · rw [if_pos hb] at hrec
        rw [if_pos ((bit_iff (Nat.mod_lt _ (by decide))).2 hb), grd_t (inLen_of (by omega)), grd_t (inN64_of (by omega)), hrec]
      · rw [if_neg hb, List.append_nil] at hrec
        rw [if_neg (fun x => hb ((bit_iff (Nat.mod_lt _ (by decide))).1 x)), grd_t (inN64_of (by omega)), hrec]
    · rw [if_neg (by omega)]
      have : i = R := by omega
      rw [this]
theorem refDirty_eq {b : List UInt64} {R : Nat} (hn : R ≤ 64 * b.length) (hR : R ≤ 1048576) : volumegroupref20_Dirty b (R : Int) = some (dirtyL b R) := by
  unfold volumegroupref20_Dirty
  have hF := fuel_big
  have h := refDirty_l1 hn hR FUEL 0 (by omega) (by omega)
  have e : dirtyL b 0 = [] := rfl
  rw [e] at h
  rw [h]; rfl
theorem same20_l1 {a : List Int} (ha : a.length ≤ 1000000000) : ∀ (N i : Nat), a.length - i < N → i ≤ a.length → volumegroupref20_Same_l1 a a N i = some (.inl ())
  | 0, _, h, _ => absurd h (by omega)
  | N + 1, i, h, hi => by
    show volumegroupref20_Same_l1_b _ _ _ _ = _
    unfold volumegroupref20_Same_l1_b
    by_cases hlt : i < a.length
    · rw [if_pos (by omega), if_neg (by simp)]
      exact same20_l1 ha N (i + 1) (by omega) (by omega)
    · rw [if_neg (by omega)]
theorem same20 {a : List Int} (ha : a.length ≤ 1000000000) : volumegroupref20_Same a a = some true := by
  unfold volumegroupref20_Same
  have hF := fuel_big
  rw [if_neg (by simp), same20_l1 ha FUEL 0 (by omega) (by omega), seqO_inl]
theorem dirtyL_congr {a b : List UInt64} {n : Nat} (h : ∀ r, r < n → bitR a r = bitR b r) : dirtyL a n = dirtyL b n := by
  unfold dirtyL
  congr 1
  apply List.filter_congr
  intro r hr
  exact h r (List.mem_range.1 hr)
end Go.Proofs
